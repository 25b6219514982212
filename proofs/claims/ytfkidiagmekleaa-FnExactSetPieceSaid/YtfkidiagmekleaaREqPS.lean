-- Written by a program of this session (patch_print.py over the print).
import Derived.Test.YtfkidiagmekleaaQAllx0
import Derived.Test.YtfkidiagmekleaaREqP
namespace Go.Proofs.Ytfkidiagmekleaa.QAll
open Go.RowKit Go.Proofs.YtfkidiagmekleaaW.PrintWords Go.Proofs.YtfkidiagmekleaaW.PrintLast Go.Proofs.YtfkidiagmekleaaW.PrintMore
attribute [local go_sem] max2_int min2_int max_two min_two max_three min_three max_four min_four   -- for this text's walks alone
set_option linter.unusedVariables false
set_option linter.unusedSimpArgs false

/-! ### laws_eqPieceS: function 105 -/
def laws_eqPieceS.l0 : Nat → List (S25) → List (S25) → Int → Option (Bool)
  | 0, _, _, _ => none
  | k + 1, x0, x1, x5 => if x5 < (x0.length : Int) then (if 0 ≤ x5 then (if x5 < (x1.length : Int) then ((laws_eqPiece.f ((rd_T25 x0 x5).f0) ((rd_T25 x0 x5).f1) ((rd_T25 x0 x5).f2) ((rd_T25 x0 x5).f3) ((rd_T25 x0 x5).f4) ((rd_T25 x0 x5).f5) ((rd_T25 x0 x5).f6) ((rd_T25 x0 x5).f7) ((rd_T25 x0 x5).f8) ((rd_T25 x0 x5).f9) ((rd_T25 x0 x5).f10) ((rd_T25 x0 x5).f11) ((rd_T25 x0 x5).f12) ((rd_T25 x1 x5).f0) ((rd_T25 x1 x5).f1) ((rd_T25 x1 x5).f2) ((rd_T25 x1 x5).f3) ((rd_T25 x1 x5).f4) ((rd_T25 x1 x5).f5) ((rd_T25 x1 x5).f6) ((rd_T25 x1 x5).f7) ((rd_T25 x1 x5).f8) ((rd_T25 x1 x5).f9) ((rd_T25 x1 x5).f10) ((rd_T25 x1 x5).f11) ((rd_T25 x1 x5).f12)).bind fun t766 => (if t766 = true then (laws_eqPieceS.l0 k x0 x1 (wrap64 (x5 + 1))) else (some false))) else (none)) else (none)) else (some true)
def laws_eqPieceS.f (k : Nat) (l0 : List (S25)) (l1 : List (S25)) : Option (Bool) := if (l0.length : Int) = (l1.length : Int) then (laws_eqPieceS.l0 k l0 l1 0) else (some false)
theorem laws_eqPieceS.mono_l : ∀ k, (∀ y0 y1 y2, LeO (laws_eqPieceS.l0 k y0 y1 y2) (laws_eqPieceS.l0 (k + 1) y0 y1 y2))
  | 0 => fun _ _ _ r h => by simp [laws_eqPieceS.l0] at h
  | k + 1 => by
    have ih0 := laws_eqPieceS.mono_l k
    · intro y0 y1 y2
      unfold laws_eqPieceS.l0
      repeat' first
      | (with_reducible exact ih0 _ _ _)
      | (with_reducible exact LeO.refl _)
      | (with_reducible exact LeO.none _)
      | (with_reducible refine LeO.ite ?_ ?_)
      | (with_reducible refine LeO.bind ?_ (fun _ => ?_))
      | exact ih0 _ _ _
      | exact LeO.none _
      | refine LeO.ite ?_ ?_
      | refine LeO.bind ?_ (fun _ => ?_)
theorem laws_eqPieceS.mono : ∀ a0 a1 k, LeO (laws_eqPieceS.f k a0 a1) (laws_eqPieceS.f (k + 1) a0 a1) := by
  intro a0 a1 k
  have ih0 := laws_eqPieceS.mono_l k
  unfold laws_eqPieceS.f
  repeat' first
      | (with_reducible exact ih0 _ _ _)
      | (with_reducible exact LeO.refl _)
      | (with_reducible exact LeO.none _)
      | (with_reducible refine LeO.ite ?_ ?_)
      | (with_reducible refine LeO.bind ?_ (fun _ => ?_))
      | exact ih0 _ _ _
      | exact LeO.none _
      | refine LeO.ite ?_ ?_
      | refine LeO.bind ?_ (fun _ => ?_)
def laws_eqPieceS.T6 : Bool × List (List Nat × List Nat) := (true, [([], []), ([], []), ([0, 1], [0, 1]), ([2], [2]), ([], []), ([], []), ([4, 5], [4, 5]), ([6], [6]), ([3, 7], [3, 7]), ([8], [8])])
def laws_eqPieceS.B6 : List Nat := [0, 0, 3, 7, 0, 0, 48, 112, 255, 511]
theorem laws_eqPieceS.tab6 : rtab .any (opsOf Try.f105 6) = laws_eqPieceS.T6 := by kernel_rfl
theorem laws_eqPieceS.bits6 : waitsOk laws_eqPieceS.T6.2 laws_eqPieceS.B6 = true := by kernel_rfl
set_option maxHeartbeats 8000000 in
set_option maxRecDepth 100000 in
theorem laws_eqPieceS.calls (k : Nat) (A0 : Option Addr) (c0 : Nat) (l0 : List (S25)) (A1 : Option Addr) (c1 : Nat) (l1 : List (S25)) (r : Bool) (w : World) (hr0 : Kd.C k25 w A0 l0.length l0) (hc0 : l0.length ≤ c0) (hr1 : Kd.C k25 w A1 l1.length l1) (hc1 : l1.length ≤ c1) (h : laws_eqPieceS.f k l0 l1 = some r) :
    Calls Try.prog 105 #[.slice A0 l0.length c0, .slice A1 l1.length c1] w fun e w' => e = .returned (.bool r) ∧ Below w.heap.size w w' := by
  have hu25 := Try.underlying25
  have HR0 := Aside0.mk hr0
  have HC0 := Aside0.mk hc0
  clear hr0 hc0
  have HR1 := Aside0.mk hr1
  have HC1 := Aside0.mk hc1
  clear hr1 hc1
  have HB := Aside0.mk (Below.refl w.heap.size w)
  have H : (if (l0.length : Int) = (l1.length : Int) then (laws_eqPieceS.l0 k l0 l1 0) else (some false)) = some r := h
  clear h
  by_cases c3 : (l0.length : Int) = (l1.length : Int)
  · rw [if_pos c3] at H
    have c3b0 : ((l0.length : Int) == (l1.length : Int)) = true := beq_iff_eq.mpr c3
    have c3b1 : ((l0.length : Int) != (l1.length : Int)) = false := bne_eq_false_iff_eq.mpr c3
    have c3b2 : (l0.length == l1.length) = true := by first | simpa using c3 | (simp at c3 ⊢; omega)
    clear c3
    have H' := Aside0.mk H
    clear H
    go_enter Try.func105, Try.ntmps105
    go_wp2
    go_loopg [5] k (fun kq v5 w' => ∃ (x5_1 : Int), v5 = .int .i64 x5_1 ∧ Aside0 (laws_eqPieceS.l0 kq l0 l1 x5_1 = some r) ∧ Aside0 (kq ≤ k) ∧ Aside0 (Below w.heap.size w w'))
    case atStart => exact ⟨(0), (by first | rfl | (simp; done) | (simp [*]; done)), H', ⟨Nat.le_refl _⟩, ⟨by repeat (first | (with_reducible first | exact HB.out | apply below_alloc | apply pw_below_drewN | apply below_drew1) | exact HB.out)⟩⟩
    case round =>
      clear H'
      try clear c1
      try clear p2
      try clear c3
      try clear c3b0
      try clear c3b1
      try clear c3b2
      obtain ⟨x5_1, rfl, HA, HK1, HB⟩ := hrel
      cases gk with
      | zero => exact absurd HA.out (by simp [laws_eqPieceS.l0])
      | succ k1 =>
        have H := HA.out
        clear HA
        simp only [laws_eqPieceS.l0] at H
        by_cases c4 : x5_1 < (l0.length : Int)
        · rw [if_pos c4] at H
          have c4b0 : decide (x5_1 < (l0.length : Int)) = true := decide_eq_true c4
          clear c4
          by_cases c5 : 0 ≤ x5_1
          · rw [if_pos c5] at H
            have c5b0 : decide (0 ≤ x5_1) = true := decide_eq_true c5
            clear c5
            by_cases c6 : x5_1 < (l1.length : Int)
            · rw [if_pos c6] at H
              have c6b0 : decide (x5_1 < (l1.length : Int)) = true := decide_eq_true c6
              clear c6
              replace H := Option.bind_eq_some_iff.mp H
              obtain ⟨t766, A70, H⟩ := H
              replace H : (if t766 = true then (laws_eqPieceS.l0 k1 l0 l1 (wrap64 (x5_1 + 1))) else (some false)) = some r := H
              have A7 := Aside0.mk A70
              clear A70
              by_cases c8 : t766 = true
              · subst c8
                have H1 : (laws_eqPieceS.l0 k1 l0 l1 (wrap64 (x5_1 + 1))) = some r := by rw [if_pos rfl] at H; exact H
                clear H
                have H := H1
                clear H1
                have H' := Aside0.mk H
                clear H
                try go_wp2
                have n0_ := Aside0.mk (below_drew1 HB.out)
                clear HB
                have HB := n0_
                clear n0_
                have p764 : 0 ≤ (x5_1 : Int) := of_decide_eq_true (by first | (with_reducible assumption) | assumption)
                have q764 : x5_1 < (l0.length : Int) := of_decide_eq_true (by first | (with_reducible assumption) | assumption)
                obtain ⟨ad764, e764, hx764_0, hx764_1, hx764_2, hx764_3, hx764_4, hx764_5, hx764_6, hx764_7, hx764_8, hx764_9, hx764_10, hx764_11, hx764_12⟩ := at_T25 HR0.out x5_1 p764 q764
                have hw764_12 := hx764_12
                have hw764_11 := hx764_11
                have hw764_10 := hx764_10
                have hw764_9 := hx764_9
                have hw764_8 := hx764_8
                have hw764_7 := hx764_7
                have hw764_6 := hx764_6
                have hw764_5 := hx764_5
                have hw764_4 := hx764_4
                have hw764_3 := hx764_3
                have hw764_2 := hx764_2
                have hw764_1 := hx764_1
                have hw764_0 := hx764_0
                cases e764
                replace hx764_0 := (HB.out.cell (World.block_lt_of_cell? w _ hx764_0)).trans hx764_0
                replace hx764_1 := (HB.out.cell (World.block_lt_of_cell? w _ hx764_1)).trans hx764_1
                replace hx764_2 := (HB.out.cell (World.block_lt_of_cell? w _ hx764_2)).trans hx764_2
                replace hx764_3 := (HB.out.cell (World.block_lt_of_cell? w _ hx764_3)).trans hx764_3
                replace hx764_4 := (HB.out.cell (World.block_lt_of_cell? w _ hx764_4)).trans hx764_4
                replace hx764_5 := (HB.out.cell (World.block_lt_of_cell? w _ hx764_5)).trans hx764_5
                replace hx764_6 := (HB.out.cell (World.block_lt_of_cell? w _ hx764_6)).trans hx764_6
                replace hx764_7 := (HB.out.cell (World.block_lt_of_cell? w _ hx764_7)).trans hx764_7
                replace hx764_8 := (HB.out.cell (World.block_lt_of_cell? w _ hx764_8)).trans hx764_8
                replace hx764_9 := (HB.out.cell (World.block_lt_of_cell? w _ hx764_9)).trans hx764_9
                replace hx764_10 := (HB.out.cell (World.block_lt_of_cell? w _ hx764_10)).trans hx764_10
                replace hx764_11 := (HB.out.cell (World.block_lt_of_cell? w _ hx764_11)).trans hx764_11
                replace hx764_12 := (HB.out.cell (World.block_lt_of_cell? w _ hx764_12)).trans hx764_12
                replace p764 := eq_true p764
                replace q764 := eq_true q764
                have p765 : 0 ≤ (x5_1 : Int) := of_decide_eq_true (by first | (with_reducible assumption) | assumption)
                have q765 : x5_1 < (l1.length : Int) := of_decide_eq_true (by first | (with_reducible assumption) | assumption)
                obtain ⟨ad765, e765, hx765_0, hx765_1, hx765_2, hx765_3, hx765_4, hx765_5, hx765_6, hx765_7, hx765_8, hx765_9, hx765_10, hx765_11, hx765_12⟩ := at_T25 HR1.out x5_1 p765 q765
                have hw765_12 := hx765_12
                have hw765_11 := hx765_11
                have hw765_10 := hx765_10
                have hw765_9 := hx765_9
                have hw765_8 := hx765_8
                have hw765_7 := hx765_7
                have hw765_6 := hx765_6
                have hw765_5 := hx765_5
                have hw765_4 := hx765_4
                have hw765_3 := hx765_3
                have hw765_2 := hx765_2
                have hw765_1 := hx765_1
                have hw765_0 := hx765_0
                cases e765
                replace hx765_0 := (HB.out.cell (World.block_lt_of_cell? w _ hx765_0)).trans hx765_0
                replace hx765_1 := (HB.out.cell (World.block_lt_of_cell? w _ hx765_1)).trans hx765_1
                replace hx765_2 := (HB.out.cell (World.block_lt_of_cell? w _ hx765_2)).trans hx765_2
                replace hx765_3 := (HB.out.cell (World.block_lt_of_cell? w _ hx765_3)).trans hx765_3
                replace hx765_4 := (HB.out.cell (World.block_lt_of_cell? w _ hx765_4)).trans hx765_4
                replace hx765_5 := (HB.out.cell (World.block_lt_of_cell? w _ hx765_5)).trans hx765_5
                replace hx765_6 := (HB.out.cell (World.block_lt_of_cell? w _ hx765_6)).trans hx765_6
                replace hx765_7 := (HB.out.cell (World.block_lt_of_cell? w _ hx765_7)).trans hx765_7
                replace hx765_8 := (HB.out.cell (World.block_lt_of_cell? w _ hx765_8)).trans hx765_8
                replace hx765_9 := (HB.out.cell (World.block_lt_of_cell? w _ hx765_9)).trans hx765_9
                replace hx765_10 := (HB.out.cell (World.block_lt_of_cell? w _ hx765_10)).trans hx765_10
                replace hx765_11 := (HB.out.cell (World.block_lt_of_cell? w _ hx765_11)).trans hx765_11
                replace hx765_12 := (HB.out.cell (World.block_lt_of_cell? w _ hx765_12)).trans hx765_12
                replace p765 := eq_true p765
                replace q765 := eq_true q765
                refine start_ (n := 10) (S := fun w' => w'.cell? (ad764.add ((x5_1).toNat * 13)) = some (.int .i64 ((rd_T25 l0 x5_1).f0)) ∧ w'.cell? ⟨(ad764.add ((x5_1).toNat * 13)).block, (ad764.add ((x5_1).toNat * 13)).off + 1, none⟩ = some (.int .i64 ((rd_T25 l0 x5_1).f1)) ∧ w'.cell? ⟨(ad764.add ((x5_1).toNat * 13)).block, (ad764.add ((x5_1).toNat * 13)).off + 2, none⟩ = some (.int .i64 ((rd_T25 l0 x5_1).f2)) ∧ w'.cell? ⟨(ad764.add ((x5_1).toNat * 13)).block, (ad764.add ((x5_1).toNat * 13)).off + 3, none⟩ = some (.int .i64 ((rd_T25 l0 x5_1).f3)) ∧ w'.cell? ⟨(ad764.add ((x5_1).toNat * 13)).block, (ad764.add ((x5_1).toNat * 13)).off + 4, none⟩ = some (.int .i64 ((rd_T25 l0 x5_1).f4)) ∧ w'.cell? ⟨(ad764.add ((x5_1).toNat * 13)).block, (ad764.add ((x5_1).toNat * 13)).off + 5, none⟩ = some (.int .i64 ((rd_T25 l0 x5_1).f5)) ∧ w'.cell? ⟨(ad764.add ((x5_1).toNat * 13)).block, (ad764.add ((x5_1).toNat * 13)).off + 6, none⟩ = some (.int .i64 ((rd_T25 l0 x5_1).f6)) ∧ w'.cell? ⟨(ad764.add ((x5_1).toNat * 13)).block, (ad764.add ((x5_1).toNat * 13)).off + 7, none⟩ = some (.int .i64 ((rd_T25 l0 x5_1).f7)) ∧ w'.cell? ⟨(ad764.add ((x5_1).toNat * 13)).block, (ad764.add ((x5_1).toNat * 13)).off + 8, none⟩ = some (.int .i64 ((rd_T25 l0 x5_1).f8)) ∧ w'.cell? ⟨(ad764.add ((x5_1).toNat * 13)).block, (ad764.add ((x5_1).toNat * 13)).off + 9, none⟩ = some (.int .i64 ((rd_T25 l0 x5_1).f9)) ∧ w'.cell? ⟨(ad764.add ((x5_1).toNat * 13)).block, (ad764.add ((x5_1).toNat * 13)).off + 10, none⟩ = some (.int .i64 ((rd_T25 l0 x5_1).f10)) ∧ w'.cell? ⟨(ad764.add ((x5_1).toNat * 13)).block, (ad764.add ((x5_1).toNat * 13)).off + 11, none⟩ = some (.bool ((rd_T25 l0 x5_1).f11)) ∧ w'.cell? ⟨(ad764.add ((x5_1).toNat * 13)).block, (ad764.add ((x5_1).toNat * 13)).off + 12, none⟩ = some (.bool ((rd_T25 l0 x5_1).f12)) ∧ w'.cell? (ad765.add ((x5_1).toNat * 13)) = some (.int .i64 ((rd_T25 l1 x5_1).f0)) ∧ w'.cell? ⟨(ad765.add ((x5_1).toNat * 13)).block, (ad765.add ((x5_1).toNat * 13)).off + 1, none⟩ = some (.int .i64 ((rd_T25 l1 x5_1).f1)) ∧ w'.cell? ⟨(ad765.add ((x5_1).toNat * 13)).block, (ad765.add ((x5_1).toNat * 13)).off + 2, none⟩ = some (.int .i64 ((rd_T25 l1 x5_1).f2)) ∧ w'.cell? ⟨(ad765.add ((x5_1).toNat * 13)).block, (ad765.add ((x5_1).toNat * 13)).off + 3, none⟩ = some (.int .i64 ((rd_T25 l1 x5_1).f3)) ∧ w'.cell? ⟨(ad765.add ((x5_1).toNat * 13)).block, (ad765.add ((x5_1).toNat * 13)).off + 4, none⟩ = some (.int .i64 ((rd_T25 l1 x5_1).f4)) ∧ w'.cell? ⟨(ad765.add ((x5_1).toNat * 13)).block, (ad765.add ((x5_1).toNat * 13)).off + 5, none⟩ = some (.int .i64 ((rd_T25 l1 x5_1).f5)) ∧ w'.cell? ⟨(ad765.add ((x5_1).toNat * 13)).block, (ad765.add ((x5_1).toNat * 13)).off + 6, none⟩ = some (.int .i64 ((rd_T25 l1 x5_1).f6)) ∧ w'.cell? ⟨(ad765.add ((x5_1).toNat * 13)).block, (ad765.add ((x5_1).toNat * 13)).off + 7, none⟩ = some (.int .i64 ((rd_T25 l1 x5_1).f7)) ∧ w'.cell? ⟨(ad765.add ((x5_1).toNat * 13)).block, (ad765.add ((x5_1).toNat * 13)).off + 8, none⟩ = some (.int .i64 ((rd_T25 l1 x5_1).f8)) ∧ w'.cell? ⟨(ad765.add ((x5_1).toNat * 13)).block, (ad765.add ((x5_1).toNat * 13)).off + 9, none⟩ = some (.int .i64 ((rd_T25 l1 x5_1).f9)) ∧ w'.cell? ⟨(ad765.add ((x5_1).toNat * 13)).block, (ad765.add ((x5_1).toNat * 13)).off + 10, none⟩ = some (.int .i64 ((rd_T25 l1 x5_1).f10)) ∧ w'.cell? ⟨(ad765.add ((x5_1).toNat * 13)).block, (ad765.add ((x5_1).toNat * 13)).off + 11, none⟩ = some (.bool ((rd_T25 l1 x5_1).f11)) ∧ w'.cell? ⟨(ad765.add ((x5_1).toNat * 13)).block, (ad765.add ((x5_1).toNat * 13)).off + 12, none⟩ = some (.bool ((rd_T25 l1 x5_1).f12))) (ds := []) #[false, false, false, false, false, false, false, false, false, false] (by kernel_rfl) rfl rfl ⟨((HB.out.cell (World.block_lt_of_cell? w _ hw764_0)).trans hw764_0), ((HB.out.cell (World.block_lt_of_cell? w _ hw764_1)).trans hw764_1), ((HB.out.cell (World.block_lt_of_cell? w _ hw764_2)).trans hw764_2), ((HB.out.cell (World.block_lt_of_cell? w _ hw764_3)).trans hw764_3), ((HB.out.cell (World.block_lt_of_cell? w _ hw764_4)).trans hw764_4), ((HB.out.cell (World.block_lt_of_cell? w _ hw764_5)).trans hw764_5), ((HB.out.cell (World.block_lt_of_cell? w _ hw764_6)).trans hw764_6), ((HB.out.cell (World.block_lt_of_cell? w _ hw764_7)).trans hw764_7), ((HB.out.cell (World.block_lt_of_cell? w _ hw764_8)).trans hw764_8), ((HB.out.cell (World.block_lt_of_cell? w _ hw764_9)).trans hw764_9), ((HB.out.cell (World.block_lt_of_cell? w _ hw764_10)).trans hw764_10), ((HB.out.cell (World.block_lt_of_cell? w _ hw764_11)).trans hw764_11), ((HB.out.cell (World.block_lt_of_cell? w _ hw764_12)).trans hw764_12), ((HB.out.cell (World.block_lt_of_cell? w _ hw765_0)).trans hw765_0), ((HB.out.cell (World.block_lt_of_cell? w _ hw765_1)).trans hw765_1), ((HB.out.cell (World.block_lt_of_cell? w _ hw765_2)).trans hw765_2), ((HB.out.cell (World.block_lt_of_cell? w _ hw765_3)).trans hw765_3), ((HB.out.cell (World.block_lt_of_cell? w _ hw765_4)).trans hw765_4), ((HB.out.cell (World.block_lt_of_cell? w _ hw765_5)).trans hw765_5), ((HB.out.cell (World.block_lt_of_cell? w _ hw765_6)).trans hw765_6), ((HB.out.cell (World.block_lt_of_cell? w _ hw765_7)).trans hw765_7), ((HB.out.cell (World.block_lt_of_cell? w _ hw765_8)).trans hw765_8), ((HB.out.cell (World.block_lt_of_cell? w _ hw765_9)).trans hw765_9), ((HB.out.cell (World.block_lt_of_cell? w _ hw765_10)).trans hw765_10), ((HB.out.cell (World.block_lt_of_cell? w _ hw765_11)).trans hw765_11), ((HB.out.cell (World.block_lt_of_cell? w _ hw765_12)).trans hw765_12)⟩ (fun hHeld => ?_); refine with_tabW laws_eqPieceS.tab6 laws_eqPieceS.bits6 (fun HT_ HW_ => ?_)
                generalize wr.drew = w9 at HB hx764_0 hx764_1 hx764_10 hx764_11 hx764_12 hx764_2 hx764_3 hx764_4 hx764_5 hx764_6 hx764_7 hx764_8 hx764_9 hx765_0 hx765_1 hx765_10 hx765_11 hx765_12 hx765_2 hx765_3 hx765_4 hx765_5 hx765_6 hx765_7 hx765_8 hx765_9 hHeld ⊢
                refine pure_ (i := 0) (N := some 17) (v := ?_) (a' := ?_) #[true, false, false, false, false, false, false, false, false, false] rfl rfl (any_of HT_.out (by kernel_rfl)) (fun _ _ _ h => h) (Or.inl ⟨by rfl, ?_⟩) ?_ ?_
                rotate_left
                · intro w'
                  go_simp
                  with_reducible rfl
                rotate_left
                · simp only [Act.put, List.setIfInBounds_toArray, List.set_cons_zero, List.set_cons_succ, i64_w, i32_w]
                  rfl
                refine pure_ (i := 1) (N := some 18) (v := ?_) (a' := ?_) #[true, true, false, false, false, false, false, false, false, false] rfl rfl (any_of HT_.out (by kernel_rfl)) (fun _ _ _ h => h) (Or.inl ⟨by rfl, ?_⟩) ?_ ?_
                rotate_left
                · intro w'
                  go_simp
                  with_reducible rfl
                rotate_left
                · simp only [Act.put, List.setIfInBounds_toArray, List.set_cons_zero, List.set_cons_succ, i64_w, i32_w]
                  rfl
                refine pure_ (i := 2) (N := some 19) (v := ?_) (a' := ?_) #[true, true, true, false, false, false, false, false, false, false] rfl rfl (any_of HT_.out (by kernel_rfl)) (fun _ _ _ h => h) (Or.inl ⟨by rfl, ?_⟩) ?_ ?_
                rotate_left
                · intro w'
                  go_simp
                  with_reducible rfl
                rotate_left
                · simp only [Act.put, List.setIfInBounds_toArray, List.set_cons_zero, List.set_cons_succ, i64_w, i32_w]
                  rfl
                refine pure_ (i := 4) (N := some 21) (v := ?_) (a' := ?_) #[true, true, true, false, true, false, false, false, false, false] rfl rfl (any_of HT_.out (by kernel_rfl)) (fun _ _ _ h => h) (Or.inl ⟨by rfl, ?_⟩) ?_ ?_
                rotate_left
                · intro w'
                  go_simp
                  with_reducible rfl
                rotate_left
                · simp only [Act.put, List.setIfInBounds_toArray, List.set_cons_zero, List.set_cons_succ, i64_w, i32_w]
                  rfl
                refine pure_ (i := 5) (N := some 22) (v := ?_) (a' := ?_) #[true, true, true, false, true, true, false, false, false, false] rfl rfl (any_of HT_.out (by kernel_rfl)) (fun _ _ _ h => h) (Or.inl ⟨by rfl, ?_⟩) ?_ ?_
                rotate_left
                · intro w'
                  go_simp
                  with_reducible rfl
                rotate_left
                · simp only [Act.put, List.setIfInBounds_toArray, List.set_cons_zero, List.set_cons_succ, i64_w, i32_w]
                  rfl
                refine pure_ (i := 6) (N := some 23) (v := ?_) (a' := ?_) #[true, true, true, false, true, true, true, false, false, false] rfl rfl (any_of HT_.out (by kernel_rfl)) (fun _ _ _ h => h) (Or.inl ⟨by rfl, ?_⟩) ?_ ?_
                rotate_left
                · intro w'
                  go_simp
                  with_reducible rfl
                rotate_left
                · simp only [Act.put, List.setIfInBounds_toArray, List.set_cons_zero, List.set_cons_succ, i64_w, i32_w]
                  rfl
                refine take_ (i := 3) (N := some 20) (v := ?_) (a' := ?_) #[true, true, true, true, true, true, true, false, false, false] rfl rfl (take_ofW HT_.out HW_.out (by kernel_rfl)) (fun _ _ _ h => h) (Or.inl ⟨by rfl, ?_⟩) hHeld ?_ ?_
                rotate_left
                · rintro w' ⟨s0, s1, s2, s3, s4, s5, s6, s7, s8, s9, s10, s11, s12, s13, s14, s15, s16, s17, s18, s19, s20, s21, s22, s23, s24, s25⟩
                  go_simp
                  with_reducible rfl
                rotate_left
                · simp only [Act.put, List.setIfInBounds_toArray, List.set_cons_zero, List.set_cons_succ, i64_w, i32_w]
                  rfl
                refine take_ (i := 7) (N := some 24) (v := ?_) (a' := ?_) #[true, true, true, true, true, true, true, true, false, false] rfl rfl (take_ofW HT_.out HW_.out (by kernel_rfl)) (fun _ _ _ h => h) (Or.inl ⟨by rfl, ?_⟩) hHeld ?_ ?_
                rotate_left
                · rintro w' ⟨s0, s1, s2, s3, s4, s5, s6, s7, s8, s9, s10, s11, s12, s13, s14, s15, s16, s17, s18, s19, s20, s21, s22, s23, s24, s25⟩
                  go_simp
                  with_reducible rfl
                rotate_left
                · simp only [Act.put, List.setIfInBounds_toArray, List.set_cons_zero, List.set_cons_succ, i64_w, i32_w]
                  rfl
                refine one_ (i := 8) (N := some 25) #[true, true, true, true, true, true, true, true, true, false] rfl rfl (one_of HT_.out (by kernel_rfl)) (by decide) (fun K hK => ?_)
                refine goes_ Try.func132 (by kernel_rfl) rfl #[.agg #[.int .i64 ((rd_T25 l0 x5_1).f0), .int .i64 ((rd_T25 l0 x5_1).f1), .int .i64 ((rd_T25 l0 x5_1).f2), .int .i64 ((rd_T25 l0 x5_1).f3), .int .i64 ((rd_T25 l0 x5_1).f4), .int .i64 ((rd_T25 l0 x5_1).f5), .int .i64 ((rd_T25 l0 x5_1).f6), .int .i64 ((rd_T25 l0 x5_1).f7), .int .i64 ((rd_T25 l0 x5_1).f8), .int .i64 ((rd_T25 l0 x5_1).f9), .int .i64 ((rd_T25 l0 x5_1).f10), .bool ((rd_T25 l0 x5_1).f11), .bool ((rd_T25 l0 x5_1).f12)], .agg #[.int .i64 ((rd_T25 l1 x5_1).f0), .int .i64 ((rd_T25 l1 x5_1).f1), .int .i64 ((rd_T25 l1 x5_1).f2), .int .i64 ((rd_T25 l1 x5_1).f3), .int .i64 ((rd_T25 l1 x5_1).f4), .int .i64 ((rd_T25 l1 x5_1).f5), .int .i64 ((rd_T25 l1 x5_1).f6), .int .i64 ((rd_T25 l1 x5_1).f7), .int .i64 ((rd_T25 l1 x5_1).f8), .int .i64 ((rd_T25 l1 x5_1).f9), .int .i64 ((rd_T25 l1 x5_1).f10), .bool ((rd_T25 l1 x5_1).f11), .bool ((rd_T25 l1 x5_1).f12)]] (by rfl) rfl rfl (by (try simp only [List.map_toArray, List.map_cons, List.map_nil]); first | done | rfl | (simp only [List.length_drop, List.length_take]; rfl)) ?_
                with_reducible refine (laws_eqPiece.calls ((rd_T25 l0 x5_1).f0) ((rd_T25 l0 x5_1).f1) ((rd_T25 l0 x5_1).f2) ((rd_T25 l0 x5_1).f3) ((rd_T25 l0 x5_1).f4) ((rd_T25 l0 x5_1).f5) ((rd_T25 l0 x5_1).f6) ((rd_T25 l0 x5_1).f7) ((rd_T25 l0 x5_1).f8) ((rd_T25 l0 x5_1).f9) ((rd_T25 l0 x5_1).f10) ((rd_T25 l0 x5_1).f11) ((rd_T25 l0 x5_1).f12) ((rd_T25 l1 x5_1).f0) ((rd_T25 l1 x5_1).f1) ((rd_T25 l1 x5_1).f2) ((rd_T25 l1 x5_1).f3) ((rd_T25 l1 x5_1).f4) ((rd_T25 l1 x5_1).f5) ((rd_T25 l1 x5_1).f6) ((rd_T25 l1 x5_1).f7) ((rd_T25 l1 x5_1).f8) ((rd_T25 l1 x5_1).f9) ((rd_T25 l1 x5_1).f10) ((rd_T25 l1 x5_1).f11) ((rd_T25 l1 x5_1).f12) true _ A7.out).mono ?_
                rintro e w10 ⟨rfl, hb⟩
                refine ⟨_, rfl, ?_⟩
                have n0_ := Aside0.mk (below_step (by repeat (first | (with_reducible first | exact HB.out | apply below_alloc | apply pw_below_drewN | apply below_drew1) | exact HB.out)) hb)
                clear HB
                have HB := n0_
                clear n0_
                (try clear hb)
                (try clear hb2)
                (try clear hk)
                (try clear hi)
                refine hK.out _ _ ⟨((HB.out.cell (World.block_lt_of_cell? w _ hw764_0)).trans hw764_0), ((HB.out.cell (World.block_lt_of_cell? w _ hw764_1)).trans hw764_1), ((HB.out.cell (World.block_lt_of_cell? w _ hw764_2)).trans hw764_2), ((HB.out.cell (World.block_lt_of_cell? w _ hw764_3)).trans hw764_3), ((HB.out.cell (World.block_lt_of_cell? w _ hw764_4)).trans hw764_4), ((HB.out.cell (World.block_lt_of_cell? w _ hw764_5)).trans hw764_5), ((HB.out.cell (World.block_lt_of_cell? w _ hw764_6)).trans hw764_6), ((HB.out.cell (World.block_lt_of_cell? w _ hw764_7)).trans hw764_7), ((HB.out.cell (World.block_lt_of_cell? w _ hw764_8)).trans hw764_8), ((HB.out.cell (World.block_lt_of_cell? w _ hw764_9)).trans hw764_9), ((HB.out.cell (World.block_lt_of_cell? w _ hw764_10)).trans hw764_10), ((HB.out.cell (World.block_lt_of_cell? w _ hw764_11)).trans hw764_11), ((HB.out.cell (World.block_lt_of_cell? w _ hw764_12)).trans hw764_12), ((HB.out.cell (World.block_lt_of_cell? w _ hw765_0)).trans hw765_0), ((HB.out.cell (World.block_lt_of_cell? w _ hw765_1)).trans hw765_1), ((HB.out.cell (World.block_lt_of_cell? w _ hw765_2)).trans hw765_2), ((HB.out.cell (World.block_lt_of_cell? w _ hw765_3)).trans hw765_3), ((HB.out.cell (World.block_lt_of_cell? w _ hw765_4)).trans hw765_4), ((HB.out.cell (World.block_lt_of_cell? w _ hw765_5)).trans hw765_5), ((HB.out.cell (World.block_lt_of_cell? w _ hw765_6)).trans hw765_6), ((HB.out.cell (World.block_lt_of_cell? w _ hw765_7)).trans hw765_7), ((HB.out.cell (World.block_lt_of_cell? w _ hw765_8)).trans hw765_8), ((HB.out.cell (World.block_lt_of_cell? w _ hw765_9)).trans hw765_9), ((HB.out.cell (World.block_lt_of_cell? w _ hw765_10)).trans hw765_10), ((HB.out.cell (World.block_lt_of_cell? w _ hw765_11)).trans hw765_11), ((HB.out.cell (World.block_lt_of_cell? w _ hw765_12)).trans hw765_12)⟩ (fun hHeld => ?_)
                clear hK K
                refine norm_ (a' := ?_) ?_ ?_
                rotate_left
                · show Act.put _ (some 25) _ = _
                  simp only [Act.put, List.setIfInBounds_toArray, List.set_cons_zero, List.set_cons_succ, i64_w, i32_w]
                  rfl
                refine pure_ (i := 9) (N := some 26) (v := ?_) (a' := ?_) #[true, true, true, true, true, true, true, true, true, true] rfl rfl (any_of HT_.out (by kernel_rfl)) (fun _ _ _ h => h) (Or.inl ⟨by rfl, ?_⟩) ?_ ?_
                rotate_left
                · intro w'
                  go_simp
                  with_reducible rfl
                rotate_left
                · simp only [Act.put, List.setIfInBounds_toArray, List.set_cons_zero, List.set_cons_succ, i64_w, i32_w]
                  rfl
                refine done_ (done_of HT_.out (by kernel_rfl)) ?_
                try go_wp2
                go_roundg k1
                case measure => have := HK1.out; omega
                case rel => exact ⟨(wrap64 (x5_1 + 1)), (by first | rfl | (simp; done) | (simp [*]; done)), H', ⟨by have := HK1.out; omega⟩, ⟨by repeat (first | (with_reducible first | exact HB.out | apply below_alloc | apply pw_below_drewN | apply below_drew1) | exact HB.out)⟩⟩
              · replace c8 := Bool.eq_false_iff.mpr c8
                subst c8
                have H1 : (some false) = some r := by rw [if_neg (show ¬ (false = true) by decide)] at H; exact H
                clear H
                have H := H1
                clear H1
                obtain rfl := Option.some.inj H
                try go_wp2
                have n0_ := Aside0.mk (below_drew1 HB.out)
                clear HB
                have HB := n0_
                clear n0_
                have p764 : 0 ≤ (x5_1 : Int) := of_decide_eq_true (by first | (with_reducible assumption) | assumption)
                have q764 : x5_1 < (l0.length : Int) := of_decide_eq_true (by first | (with_reducible assumption) | assumption)
                obtain ⟨ad764, e764, hx764_0, hx764_1, hx764_2, hx764_3, hx764_4, hx764_5, hx764_6, hx764_7, hx764_8, hx764_9, hx764_10, hx764_11, hx764_12⟩ := at_T25 HR0.out x5_1 p764 q764
                have hw764_12 := hx764_12
                have hw764_11 := hx764_11
                have hw764_10 := hx764_10
                have hw764_9 := hx764_9
                have hw764_8 := hx764_8
                have hw764_7 := hx764_7
                have hw764_6 := hx764_6
                have hw764_5 := hx764_5
                have hw764_4 := hx764_4
                have hw764_3 := hx764_3
                have hw764_2 := hx764_2
                have hw764_1 := hx764_1
                have hw764_0 := hx764_0
                cases e764
                replace hx764_0 := (HB.out.cell (World.block_lt_of_cell? w _ hx764_0)).trans hx764_0
                replace hx764_1 := (HB.out.cell (World.block_lt_of_cell? w _ hx764_1)).trans hx764_1
                replace hx764_2 := (HB.out.cell (World.block_lt_of_cell? w _ hx764_2)).trans hx764_2
                replace hx764_3 := (HB.out.cell (World.block_lt_of_cell? w _ hx764_3)).trans hx764_3
                replace hx764_4 := (HB.out.cell (World.block_lt_of_cell? w _ hx764_4)).trans hx764_4
                replace hx764_5 := (HB.out.cell (World.block_lt_of_cell? w _ hx764_5)).trans hx764_5
                replace hx764_6 := (HB.out.cell (World.block_lt_of_cell? w _ hx764_6)).trans hx764_6
                replace hx764_7 := (HB.out.cell (World.block_lt_of_cell? w _ hx764_7)).trans hx764_7
                replace hx764_8 := (HB.out.cell (World.block_lt_of_cell? w _ hx764_8)).trans hx764_8
                replace hx764_9 := (HB.out.cell (World.block_lt_of_cell? w _ hx764_9)).trans hx764_9
                replace hx764_10 := (HB.out.cell (World.block_lt_of_cell? w _ hx764_10)).trans hx764_10
                replace hx764_11 := (HB.out.cell (World.block_lt_of_cell? w _ hx764_11)).trans hx764_11
                replace hx764_12 := (HB.out.cell (World.block_lt_of_cell? w _ hx764_12)).trans hx764_12
                replace p764 := eq_true p764
                replace q764 := eq_true q764
                have p765 : 0 ≤ (x5_1 : Int) := of_decide_eq_true (by first | (with_reducible assumption) | assumption)
                have q765 : x5_1 < (l1.length : Int) := of_decide_eq_true (by first | (with_reducible assumption) | assumption)
                obtain ⟨ad765, e765, hx765_0, hx765_1, hx765_2, hx765_3, hx765_4, hx765_5, hx765_6, hx765_7, hx765_8, hx765_9, hx765_10, hx765_11, hx765_12⟩ := at_T25 HR1.out x5_1 p765 q765
                have hw765_12 := hx765_12
                have hw765_11 := hx765_11
                have hw765_10 := hx765_10
                have hw765_9 := hx765_9
                have hw765_8 := hx765_8
                have hw765_7 := hx765_7
                have hw765_6 := hx765_6
                have hw765_5 := hx765_5
                have hw765_4 := hx765_4
                have hw765_3 := hx765_3
                have hw765_2 := hx765_2
                have hw765_1 := hx765_1
                have hw765_0 := hx765_0
                cases e765
                replace hx765_0 := (HB.out.cell (World.block_lt_of_cell? w _ hx765_0)).trans hx765_0
                replace hx765_1 := (HB.out.cell (World.block_lt_of_cell? w _ hx765_1)).trans hx765_1
                replace hx765_2 := (HB.out.cell (World.block_lt_of_cell? w _ hx765_2)).trans hx765_2
                replace hx765_3 := (HB.out.cell (World.block_lt_of_cell? w _ hx765_3)).trans hx765_3
                replace hx765_4 := (HB.out.cell (World.block_lt_of_cell? w _ hx765_4)).trans hx765_4
                replace hx765_5 := (HB.out.cell (World.block_lt_of_cell? w _ hx765_5)).trans hx765_5
                replace hx765_6 := (HB.out.cell (World.block_lt_of_cell? w _ hx765_6)).trans hx765_6
                replace hx765_7 := (HB.out.cell (World.block_lt_of_cell? w _ hx765_7)).trans hx765_7
                replace hx765_8 := (HB.out.cell (World.block_lt_of_cell? w _ hx765_8)).trans hx765_8
                replace hx765_9 := (HB.out.cell (World.block_lt_of_cell? w _ hx765_9)).trans hx765_9
                replace hx765_10 := (HB.out.cell (World.block_lt_of_cell? w _ hx765_10)).trans hx765_10
                replace hx765_11 := (HB.out.cell (World.block_lt_of_cell? w _ hx765_11)).trans hx765_11
                replace hx765_12 := (HB.out.cell (World.block_lt_of_cell? w _ hx765_12)).trans hx765_12
                replace p765 := eq_true p765
                replace q765 := eq_true q765
                refine start_ (n := 10) (S := fun w' => w'.cell? (ad764.add ((x5_1).toNat * 13)) = some (.int .i64 ((rd_T25 l0 x5_1).f0)) ∧ w'.cell? ⟨(ad764.add ((x5_1).toNat * 13)).block, (ad764.add ((x5_1).toNat * 13)).off + 1, none⟩ = some (.int .i64 ((rd_T25 l0 x5_1).f1)) ∧ w'.cell? ⟨(ad764.add ((x5_1).toNat * 13)).block, (ad764.add ((x5_1).toNat * 13)).off + 2, none⟩ = some (.int .i64 ((rd_T25 l0 x5_1).f2)) ∧ w'.cell? ⟨(ad764.add ((x5_1).toNat * 13)).block, (ad764.add ((x5_1).toNat * 13)).off + 3, none⟩ = some (.int .i64 ((rd_T25 l0 x5_1).f3)) ∧ w'.cell? ⟨(ad764.add ((x5_1).toNat * 13)).block, (ad764.add ((x5_1).toNat * 13)).off + 4, none⟩ = some (.int .i64 ((rd_T25 l0 x5_1).f4)) ∧ w'.cell? ⟨(ad764.add ((x5_1).toNat * 13)).block, (ad764.add ((x5_1).toNat * 13)).off + 5, none⟩ = some (.int .i64 ((rd_T25 l0 x5_1).f5)) ∧ w'.cell? ⟨(ad764.add ((x5_1).toNat * 13)).block, (ad764.add ((x5_1).toNat * 13)).off + 6, none⟩ = some (.int .i64 ((rd_T25 l0 x5_1).f6)) ∧ w'.cell? ⟨(ad764.add ((x5_1).toNat * 13)).block, (ad764.add ((x5_1).toNat * 13)).off + 7, none⟩ = some (.int .i64 ((rd_T25 l0 x5_1).f7)) ∧ w'.cell? ⟨(ad764.add ((x5_1).toNat * 13)).block, (ad764.add ((x5_1).toNat * 13)).off + 8, none⟩ = some (.int .i64 ((rd_T25 l0 x5_1).f8)) ∧ w'.cell? ⟨(ad764.add ((x5_1).toNat * 13)).block, (ad764.add ((x5_1).toNat * 13)).off + 9, none⟩ = some (.int .i64 ((rd_T25 l0 x5_1).f9)) ∧ w'.cell? ⟨(ad764.add ((x5_1).toNat * 13)).block, (ad764.add ((x5_1).toNat * 13)).off + 10, none⟩ = some (.int .i64 ((rd_T25 l0 x5_1).f10)) ∧ w'.cell? ⟨(ad764.add ((x5_1).toNat * 13)).block, (ad764.add ((x5_1).toNat * 13)).off + 11, none⟩ = some (.bool ((rd_T25 l0 x5_1).f11)) ∧ w'.cell? ⟨(ad764.add ((x5_1).toNat * 13)).block, (ad764.add ((x5_1).toNat * 13)).off + 12, none⟩ = some (.bool ((rd_T25 l0 x5_1).f12)) ∧ w'.cell? (ad765.add ((x5_1).toNat * 13)) = some (.int .i64 ((rd_T25 l1 x5_1).f0)) ∧ w'.cell? ⟨(ad765.add ((x5_1).toNat * 13)).block, (ad765.add ((x5_1).toNat * 13)).off + 1, none⟩ = some (.int .i64 ((rd_T25 l1 x5_1).f1)) ∧ w'.cell? ⟨(ad765.add ((x5_1).toNat * 13)).block, (ad765.add ((x5_1).toNat * 13)).off + 2, none⟩ = some (.int .i64 ((rd_T25 l1 x5_1).f2)) ∧ w'.cell? ⟨(ad765.add ((x5_1).toNat * 13)).block, (ad765.add ((x5_1).toNat * 13)).off + 3, none⟩ = some (.int .i64 ((rd_T25 l1 x5_1).f3)) ∧ w'.cell? ⟨(ad765.add ((x5_1).toNat * 13)).block, (ad765.add ((x5_1).toNat * 13)).off + 4, none⟩ = some (.int .i64 ((rd_T25 l1 x5_1).f4)) ∧ w'.cell? ⟨(ad765.add ((x5_1).toNat * 13)).block, (ad765.add ((x5_1).toNat * 13)).off + 5, none⟩ = some (.int .i64 ((rd_T25 l1 x5_1).f5)) ∧ w'.cell? ⟨(ad765.add ((x5_1).toNat * 13)).block, (ad765.add ((x5_1).toNat * 13)).off + 6, none⟩ = some (.int .i64 ((rd_T25 l1 x5_1).f6)) ∧ w'.cell? ⟨(ad765.add ((x5_1).toNat * 13)).block, (ad765.add ((x5_1).toNat * 13)).off + 7, none⟩ = some (.int .i64 ((rd_T25 l1 x5_1).f7)) ∧ w'.cell? ⟨(ad765.add ((x5_1).toNat * 13)).block, (ad765.add ((x5_1).toNat * 13)).off + 8, none⟩ = some (.int .i64 ((rd_T25 l1 x5_1).f8)) ∧ w'.cell? ⟨(ad765.add ((x5_1).toNat * 13)).block, (ad765.add ((x5_1).toNat * 13)).off + 9, none⟩ = some (.int .i64 ((rd_T25 l1 x5_1).f9)) ∧ w'.cell? ⟨(ad765.add ((x5_1).toNat * 13)).block, (ad765.add ((x5_1).toNat * 13)).off + 10, none⟩ = some (.int .i64 ((rd_T25 l1 x5_1).f10)) ∧ w'.cell? ⟨(ad765.add ((x5_1).toNat * 13)).block, (ad765.add ((x5_1).toNat * 13)).off + 11, none⟩ = some (.bool ((rd_T25 l1 x5_1).f11)) ∧ w'.cell? ⟨(ad765.add ((x5_1).toNat * 13)).block, (ad765.add ((x5_1).toNat * 13)).off + 12, none⟩ = some (.bool ((rd_T25 l1 x5_1).f12))) (ds := []) #[false, false, false, false, false, false, false, false, false, false] (by kernel_rfl) rfl rfl ⟨((HB.out.cell (World.block_lt_of_cell? w _ hw764_0)).trans hw764_0), ((HB.out.cell (World.block_lt_of_cell? w _ hw764_1)).trans hw764_1), ((HB.out.cell (World.block_lt_of_cell? w _ hw764_2)).trans hw764_2), ((HB.out.cell (World.block_lt_of_cell? w _ hw764_3)).trans hw764_3), ((HB.out.cell (World.block_lt_of_cell? w _ hw764_4)).trans hw764_4), ((HB.out.cell (World.block_lt_of_cell? w _ hw764_5)).trans hw764_5), ((HB.out.cell (World.block_lt_of_cell? w _ hw764_6)).trans hw764_6), ((HB.out.cell (World.block_lt_of_cell? w _ hw764_7)).trans hw764_7), ((HB.out.cell (World.block_lt_of_cell? w _ hw764_8)).trans hw764_8), ((HB.out.cell (World.block_lt_of_cell? w _ hw764_9)).trans hw764_9), ((HB.out.cell (World.block_lt_of_cell? w _ hw764_10)).trans hw764_10), ((HB.out.cell (World.block_lt_of_cell? w _ hw764_11)).trans hw764_11), ((HB.out.cell (World.block_lt_of_cell? w _ hw764_12)).trans hw764_12), ((HB.out.cell (World.block_lt_of_cell? w _ hw765_0)).trans hw765_0), ((HB.out.cell (World.block_lt_of_cell? w _ hw765_1)).trans hw765_1), ((HB.out.cell (World.block_lt_of_cell? w _ hw765_2)).trans hw765_2), ((HB.out.cell (World.block_lt_of_cell? w _ hw765_3)).trans hw765_3), ((HB.out.cell (World.block_lt_of_cell? w _ hw765_4)).trans hw765_4), ((HB.out.cell (World.block_lt_of_cell? w _ hw765_5)).trans hw765_5), ((HB.out.cell (World.block_lt_of_cell? w _ hw765_6)).trans hw765_6), ((HB.out.cell (World.block_lt_of_cell? w _ hw765_7)).trans hw765_7), ((HB.out.cell (World.block_lt_of_cell? w _ hw765_8)).trans hw765_8), ((HB.out.cell (World.block_lt_of_cell? w _ hw765_9)).trans hw765_9), ((HB.out.cell (World.block_lt_of_cell? w _ hw765_10)).trans hw765_10), ((HB.out.cell (World.block_lt_of_cell? w _ hw765_11)).trans hw765_11), ((HB.out.cell (World.block_lt_of_cell? w _ hw765_12)).trans hw765_12)⟩ (fun hHeld => ?_); refine with_tabW laws_eqPieceS.tab6 laws_eqPieceS.bits6 (fun HT_ HW_ => ?_)
                generalize wr.drew = w11 at HB hx764_0 hx764_1 hx764_10 hx764_11 hx764_12 hx764_2 hx764_3 hx764_4 hx764_5 hx764_6 hx764_7 hx764_8 hx764_9 hx765_0 hx765_1 hx765_10 hx765_11 hx765_12 hx765_2 hx765_3 hx765_4 hx765_5 hx765_6 hx765_7 hx765_8 hx765_9 hHeld ⊢
                refine pure_ (i := 0) (N := some 17) (v := ?_) (a' := ?_) #[true, false, false, false, false, false, false, false, false, false] rfl rfl (any_of HT_.out (by kernel_rfl)) (fun _ _ _ h => h) (Or.inl ⟨by rfl, ?_⟩) ?_ ?_
                rotate_left
                · intro w'
                  go_simp
                  with_reducible rfl
                rotate_left
                · simp only [Act.put, List.setIfInBounds_toArray, List.set_cons_zero, List.set_cons_succ, i64_w, i32_w]
                  rfl
                refine pure_ (i := 1) (N := some 18) (v := ?_) (a' := ?_) #[true, true, false, false, false, false, false, false, false, false] rfl rfl (any_of HT_.out (by kernel_rfl)) (fun _ _ _ h => h) (Or.inl ⟨by rfl, ?_⟩) ?_ ?_
                rotate_left
                · intro w'
                  go_simp
                  with_reducible rfl
                rotate_left
                · simp only [Act.put, List.setIfInBounds_toArray, List.set_cons_zero, List.set_cons_succ, i64_w, i32_w]
                  rfl
                refine pure_ (i := 2) (N := some 19) (v := ?_) (a' := ?_) #[true, true, true, false, false, false, false, false, false, false] rfl rfl (any_of HT_.out (by kernel_rfl)) (fun _ _ _ h => h) (Or.inl ⟨by rfl, ?_⟩) ?_ ?_
                rotate_left
                · intro w'
                  go_simp
                  with_reducible rfl
                rotate_left
                · simp only [Act.put, List.setIfInBounds_toArray, List.set_cons_zero, List.set_cons_succ, i64_w, i32_w]
                  rfl
                refine pure_ (i := 4) (N := some 21) (v := ?_) (a' := ?_) #[true, true, true, false, true, false, false, false, false, false] rfl rfl (any_of HT_.out (by kernel_rfl)) (fun _ _ _ h => h) (Or.inl ⟨by rfl, ?_⟩) ?_ ?_
                rotate_left
                · intro w'
                  go_simp
                  with_reducible rfl
                rotate_left
                · simp only [Act.put, List.setIfInBounds_toArray, List.set_cons_zero, List.set_cons_succ, i64_w, i32_w]
                  rfl
                refine pure_ (i := 5) (N := some 22) (v := ?_) (a' := ?_) #[true, true, true, false, true, true, false, false, false, false] rfl rfl (any_of HT_.out (by kernel_rfl)) (fun _ _ _ h => h) (Or.inl ⟨by rfl, ?_⟩) ?_ ?_
                rotate_left
                · intro w'
                  go_simp
                  with_reducible rfl
                rotate_left
                · simp only [Act.put, List.setIfInBounds_toArray, List.set_cons_zero, List.set_cons_succ, i64_w, i32_w]
                  rfl
                refine pure_ (i := 6) (N := some 23) (v := ?_) (a' := ?_) #[true, true, true, false, true, true, true, false, false, false] rfl rfl (any_of HT_.out (by kernel_rfl)) (fun _ _ _ h => h) (Or.inl ⟨by rfl, ?_⟩) ?_ ?_
                rotate_left
                · intro w'
                  go_simp
                  with_reducible rfl
                rotate_left
                · simp only [Act.put, List.setIfInBounds_toArray, List.set_cons_zero, List.set_cons_succ, i64_w, i32_w]
                  rfl
                refine take_ (i := 3) (N := some 20) (v := ?_) (a' := ?_) #[true, true, true, true, true, true, true, false, false, false] rfl rfl (take_ofW HT_.out HW_.out (by kernel_rfl)) (fun _ _ _ h => h) (Or.inl ⟨by rfl, ?_⟩) hHeld ?_ ?_
                rotate_left
                · rintro w' ⟨s0, s1, s2, s3, s4, s5, s6, s7, s8, s9, s10, s11, s12, s13, s14, s15, s16, s17, s18, s19, s20, s21, s22, s23, s24, s25⟩
                  go_simp
                  with_reducible rfl
                rotate_left
                · simp only [Act.put, List.setIfInBounds_toArray, List.set_cons_zero, List.set_cons_succ, i64_w, i32_w]
                  rfl
                refine take_ (i := 7) (N := some 24) (v := ?_) (a' := ?_) #[true, true, true, true, true, true, true, true, false, false] rfl rfl (take_ofW HT_.out HW_.out (by kernel_rfl)) (fun _ _ _ h => h) (Or.inl ⟨by rfl, ?_⟩) hHeld ?_ ?_
                rotate_left
                · rintro w' ⟨s0, s1, s2, s3, s4, s5, s6, s7, s8, s9, s10, s11, s12, s13, s14, s15, s16, s17, s18, s19, s20, s21, s22, s23, s24, s25⟩
                  go_simp
                  with_reducible rfl
                rotate_left
                · simp only [Act.put, List.setIfInBounds_toArray, List.set_cons_zero, List.set_cons_succ, i64_w, i32_w]
                  rfl
                refine one_ (i := 8) (N := some 25) #[true, true, true, true, true, true, true, true, true, false] rfl rfl (one_of HT_.out (by kernel_rfl)) (by decide) (fun K hK => ?_)
                refine goes_ Try.func132 (by kernel_rfl) rfl #[.agg #[.int .i64 ((rd_T25 l0 x5_1).f0), .int .i64 ((rd_T25 l0 x5_1).f1), .int .i64 ((rd_T25 l0 x5_1).f2), .int .i64 ((rd_T25 l0 x5_1).f3), .int .i64 ((rd_T25 l0 x5_1).f4), .int .i64 ((rd_T25 l0 x5_1).f5), .int .i64 ((rd_T25 l0 x5_1).f6), .int .i64 ((rd_T25 l0 x5_1).f7), .int .i64 ((rd_T25 l0 x5_1).f8), .int .i64 ((rd_T25 l0 x5_1).f9), .int .i64 ((rd_T25 l0 x5_1).f10), .bool ((rd_T25 l0 x5_1).f11), .bool ((rd_T25 l0 x5_1).f12)], .agg #[.int .i64 ((rd_T25 l1 x5_1).f0), .int .i64 ((rd_T25 l1 x5_1).f1), .int .i64 ((rd_T25 l1 x5_1).f2), .int .i64 ((rd_T25 l1 x5_1).f3), .int .i64 ((rd_T25 l1 x5_1).f4), .int .i64 ((rd_T25 l1 x5_1).f5), .int .i64 ((rd_T25 l1 x5_1).f6), .int .i64 ((rd_T25 l1 x5_1).f7), .int .i64 ((rd_T25 l1 x5_1).f8), .int .i64 ((rd_T25 l1 x5_1).f9), .int .i64 ((rd_T25 l1 x5_1).f10), .bool ((rd_T25 l1 x5_1).f11), .bool ((rd_T25 l1 x5_1).f12)]] (by rfl) rfl rfl (by (try simp only [List.map_toArray, List.map_cons, List.map_nil]); first | done | rfl | (simp only [List.length_drop, List.length_take]; rfl)) ?_
                with_reducible refine (laws_eqPiece.calls ((rd_T25 l0 x5_1).f0) ((rd_T25 l0 x5_1).f1) ((rd_T25 l0 x5_1).f2) ((rd_T25 l0 x5_1).f3) ((rd_T25 l0 x5_1).f4) ((rd_T25 l0 x5_1).f5) ((rd_T25 l0 x5_1).f6) ((rd_T25 l0 x5_1).f7) ((rd_T25 l0 x5_1).f8) ((rd_T25 l0 x5_1).f9) ((rd_T25 l0 x5_1).f10) ((rd_T25 l0 x5_1).f11) ((rd_T25 l0 x5_1).f12) ((rd_T25 l1 x5_1).f0) ((rd_T25 l1 x5_1).f1) ((rd_T25 l1 x5_1).f2) ((rd_T25 l1 x5_1).f3) ((rd_T25 l1 x5_1).f4) ((rd_T25 l1 x5_1).f5) ((rd_T25 l1 x5_1).f6) ((rd_T25 l1 x5_1).f7) ((rd_T25 l1 x5_1).f8) ((rd_T25 l1 x5_1).f9) ((rd_T25 l1 x5_1).f10) ((rd_T25 l1 x5_1).f11) ((rd_T25 l1 x5_1).f12) false _ A7.out).mono ?_
                rintro e w12 ⟨rfl, hb⟩
                refine ⟨_, rfl, ?_⟩
                have n0_ := Aside0.mk (below_step (by repeat (first | (with_reducible first | exact HB.out | apply below_alloc | apply pw_below_drewN | apply below_drew1) | exact HB.out)) hb)
                clear HB
                have HB := n0_
                clear n0_
                (try clear hb)
                (try clear hb2)
                (try clear hk)
                (try clear hi)
                refine hK.out _ _ ⟨((HB.out.cell (World.block_lt_of_cell? w _ hw764_0)).trans hw764_0), ((HB.out.cell (World.block_lt_of_cell? w _ hw764_1)).trans hw764_1), ((HB.out.cell (World.block_lt_of_cell? w _ hw764_2)).trans hw764_2), ((HB.out.cell (World.block_lt_of_cell? w _ hw764_3)).trans hw764_3), ((HB.out.cell (World.block_lt_of_cell? w _ hw764_4)).trans hw764_4), ((HB.out.cell (World.block_lt_of_cell? w _ hw764_5)).trans hw764_5), ((HB.out.cell (World.block_lt_of_cell? w _ hw764_6)).trans hw764_6), ((HB.out.cell (World.block_lt_of_cell? w _ hw764_7)).trans hw764_7), ((HB.out.cell (World.block_lt_of_cell? w _ hw764_8)).trans hw764_8), ((HB.out.cell (World.block_lt_of_cell? w _ hw764_9)).trans hw764_9), ((HB.out.cell (World.block_lt_of_cell? w _ hw764_10)).trans hw764_10), ((HB.out.cell (World.block_lt_of_cell? w _ hw764_11)).trans hw764_11), ((HB.out.cell (World.block_lt_of_cell? w _ hw764_12)).trans hw764_12), ((HB.out.cell (World.block_lt_of_cell? w _ hw765_0)).trans hw765_0), ((HB.out.cell (World.block_lt_of_cell? w _ hw765_1)).trans hw765_1), ((HB.out.cell (World.block_lt_of_cell? w _ hw765_2)).trans hw765_2), ((HB.out.cell (World.block_lt_of_cell? w _ hw765_3)).trans hw765_3), ((HB.out.cell (World.block_lt_of_cell? w _ hw765_4)).trans hw765_4), ((HB.out.cell (World.block_lt_of_cell? w _ hw765_5)).trans hw765_5), ((HB.out.cell (World.block_lt_of_cell? w _ hw765_6)).trans hw765_6), ((HB.out.cell (World.block_lt_of_cell? w _ hw765_7)).trans hw765_7), ((HB.out.cell (World.block_lt_of_cell? w _ hw765_8)).trans hw765_8), ((HB.out.cell (World.block_lt_of_cell? w _ hw765_9)).trans hw765_9), ((HB.out.cell (World.block_lt_of_cell? w _ hw765_10)).trans hw765_10), ((HB.out.cell (World.block_lt_of_cell? w _ hw765_11)).trans hw765_11), ((HB.out.cell (World.block_lt_of_cell? w _ hw765_12)).trans hw765_12)⟩ (fun hHeld => ?_)
                clear hK K
                refine norm_ (a' := ?_) ?_ ?_
                rotate_left
                · show Act.put _ (some 25) _ = _
                  simp only [Act.put, List.setIfInBounds_toArray, List.set_cons_zero, List.set_cons_succ, i64_w, i32_w]
                  rfl
                refine pure_ (i := 9) (N := some 26) (v := ?_) (a' := ?_) #[true, true, true, true, true, true, true, true, true, true] rfl rfl (any_of HT_.out (by kernel_rfl)) (fun _ _ _ h => h) (Or.inl ⟨by rfl, ?_⟩) ?_ ?_
                rotate_left
                · intro w'
                  go_simp
                  with_reducible rfl
                rotate_left
                · simp only [Act.put, List.setIfInBounds_toArray, List.set_cons_zero, List.set_cons_succ, i64_w, i32_w]
                  rfl
                refine done_ (done_of HT_.out (by kernel_rfl)) ?_
                try go_wp2
                go_ret
                exact ⟨by first | rfl | (simp [errW_none, errW_some] <;> rfl) | (simp [*, errW_none, errW_some] <;> rfl), by repeat (first | (with_reducible first | exact HB.out | apply below_alloc | apply pw_below_drewN | apply below_drew1) | exact HB.out)⟩
            · rw [if_neg c6] at H
              exact absurd H (by simp)
          · rw [if_neg c5] at H
            exact absurd H (by simp)
        · rw [if_neg c4] at H
          have c4b0 : decide (x5_1 < (l0.length : Int)) = false := decide_eq_false c4
          clear c4
          obtain rfl := Option.some.inj H
          go_wp2
          go_ret
          exact ⟨by first | rfl | (simp [errW_none, errW_some] <;> rfl) | (simp [*, errW_none, errW_some] <;> rfl), by repeat (first | (with_reducible first | exact HB.out | apply below_alloc | apply pw_below_drewN | apply below_drew1) | exact HB.out)⟩
  · rw [if_neg c3] at H
    have c3b0 : ((l0.length : Int) == (l1.length : Int)) = false := beq_eq_false_iff_ne.mpr c3
    have c3b1 : ((l0.length : Int) != (l1.length : Int)) = true := bne_iff_ne.mpr c3
    have c3b2 : (l0.length == l1.length) = false := by first | simpa using c3 | (simp at c3 ⊢; omega)
    obtain rfl := Option.some.inj H
    go_enter Try.func105, Try.ntmps105
    go_wp2
    go_ret
    exact ⟨by first | rfl | (simp [errW_none, errW_some] <;> rfl) | (simp [*, errW_none, errW_some] <;> rfl), by repeat (first | (with_reducible first | exact HB.out | apply below_alloc | apply pw_below_drewN | apply below_drew1) | exact HB.out)⟩



end Go.Proofs.Ytfkidiagmekleaa.QAll
