-- Written by a program of this session (patch_print.py over the print).
import Derived.Test.YtnogcdmkpbfcmaaQFnExactOnFieldx0
import Derived.Test.YtnogcdmkpbfcmaaQFnExactOnFieldx2
namespace Go.Proofs.Ytnogcdmkpbfcmaa.QFnExactOnField
open Go.RowKit Go.Proofs.YtnogcdmkpbfcmaaW.PrintWords Go.Proofs.YtnogcdmkpbfcmaaW.PrintLast Go.Proofs.YtnogcdmkpbfcmaaW.PrintMore
attribute [local go_sem] max2_int min2_int max_two min_two max_three min_three max_four min_four   -- for this text's walks alone
set_option linter.unusedVariables false
set_option linter.unusedSimpArgs false

def M3_10 (k : Nat) : Array Bool := ((List.range 10).map fun j => k.testBit j).toArray
theorem C3_3 {W : World} {g : Nat} {T : TypeId} {v0 v1 v2 : Value} (h : W.heap[g]? = some (.cells #[v0, v1, v2] T (0, 0))) : (W.cell? ⟨g, 0, none⟩ = some v0 ∧ W.cell? ⟨g, 1, none⟩ = some v1 ∧ W.cell? ⟨g, 2, none⟩ = some v2) ∧ W.frozen? ⟨g, 0, none⟩ = false ∧ W.frozen? ⟨g, 1, none⟩ = false ∧ W.frozen? ⟨g, 2, none⟩ = false := ⟨⟨(blk_cell h 0).trans rfl, (blk_cell h 1).trans rfl, (blk_cell h 2).trans rfl⟩, blk_frozen h 0, blk_frozen h 1, blk_frozen h 2⟩
theorem D3_3 {W : World} {g : Nat} {T : TypeId} {v0 v1 v2 : Value} (h : W.heap[g]? = some (.cells #[v0, v1, v2] T (0, 0))) {R : Prop} (r : R) : W.cell? ⟨g, 0, none⟩ = some v0 ∧ W.cell? ⟨g, 1, none⟩ = some v1 ∧ W.cell? ⟨g, 2, none⟩ = some v2 ∧ R := ⟨(blk_cell h 0).trans rfl, (blk_cell h 1).trans rfl, (blk_cell h 2).trans rfl, r⟩
theorem E3_3 {W : World} {g : Nat} {T : TypeId} {v0 v1 v2 o0 o1 o2 : Value} (h : W.heap[g]? = some (.cells #[o0, o1, o2] T (0, 0))) : (((W.setCell ⟨g, 0, none⟩ v0).setCell ⟨g, 1, none⟩ v1).setCell ⟨g, 2, none⟩ v2).heap[g]? = some (.cells #[v0, v1, v2] T (0, 0)) := (blk_put (cs := #[v0, v1, o2]) (blk_put (cs := #[v0, o1, o2]) (blk_put (cs := #[o0, o1, o2]) h 0 _ rfl) 1 _ rfl) 2 _ rfl)
theorem Z3_1 {p : Prop} (h : p := by exact ((by rw [hg]; exact Nat.ne_of_lt (blk_lt (g := gb178) (o := .cells #[.int .i64 a0_0, .int .i64 a0_1, .bool a0_2] 78 (0, 0)) (by (with_reducible repeat (first | refine blk_drewN ?_ _ | refine blk_drew ?_ | refine blk_alloc ?_ _)); exact BK178.out)) : gb178 ≠ gb179))) : p := h
theorem Z3_2 {p : Prop} (h : p := by exact ((by rw [hg]; exact Nat.ne_of_gt (blk_lt (g := gb178) (o := .cells #[.int .i64 a0_0, .int .i64 a0_1, .bool a0_2] 78 (0, 0)) (by (with_reducible repeat (first | refine blk_drewN ?_ _ | refine blk_drew ?_ | refine blk_alloc ?_ _)); exact BK178.out)) : gb179 ≠ gb178))) : p := h
theorem Z3_3 {p : Prop} (h : p := by exact ((by rw [hg]; exact (below_size (by repeat (first | (with_reducible first | exact HB.out | apply below_alloc | apply pw_below_drewN | apply below_drew1 | refine below_set ?_ GE178.out) | exact HB.out))) : w.heap.size ≤ gb179))) : p := h
theorem Z3_4 {p : Prop} (h : p := by exact (blk_below (g := gb178) (o := .cells #[.int .i64 a0_0, .int .i64 a0_1, .bool a0_2] 78 (0, 0)) (by (with_reducible repeat (first | refine blk_drewN ?_ _ | refine blk_drew ?_ | refine blk_alloc ?_ _)); exact BK178.out) hb)) : p := h
theorem Z3_5 {p : Prop} (h : p := by repeat (first | (with_reducible first | exact HB.out | apply below_alloc | apply pw_below_drewN | apply below_drew1 | refine below_set ?_ GE178.out | refine below_set ?_ GE179.out) | exact HB.out)) : p := h
theorem Z3_10 {p : Prop} (h : p := by repeat (first | (with_reducible first | exact HB.out | apply below_alloc | apply pw_below_drewN | apply below_drew1) | exact HB.out)) : p := h
theorem Z3_6 {p : Prop} (h : p := by exact ((by rw [hg]; exact (below_size Z3_10) : w.heap.size ≤ gb178))) : p := h
theorem Z3_7 {p : Prop} (h : p := by exact (below_step (by repeat (first | (with_reducible first | exact HB.out | apply below_alloc | apply pw_below_drewN | apply below_drew1 | refine below_set ?_ GE178.out) | exact HB.out)) hb)) : p := h
theorem Z3_8 {p : Prop} (h : p := by exact (below_step Z3_10 hb)) : p := h
theorem Z3_9 {p : Prop} (h : p := by (try simp only [List.map_toArray, List.map_cons, List.map_nil]); first | done | rfl | (simp only [List.length_drop, List.length_take]; rfl)) : p := h
theorem Z3_11 {p : Prop} (h : p := by simp only [Act.put, List.setIfInBounds_toArray, List.set_cons_zero, List.set_cons_succ, i64_w, i32_w]; rfl) : p := h
theorem Z3_12 {p : Prop} (h : p := by first | rfl | (simp [errW_none, errW_some] <;> rfl) | (simp [*, errW_none, errW_some] <;> rfl)) : p := h
theorem Z3_13 {p : Prop} (h : p := by first | (with_reducible assumption) | assumption) : p := h
/-! ### laws_eqPieceS: function 44 -/
def laws_eqPieceS.l0 : Nat → List (S42) → List (S42) → Int → Option (Bool)
  | 0, _, _, _ => none
  | k + 1, x0, x1, x5 => if x5 < (x0.length : Int) then (if 0 ≤ x5 then (if x5 < (x1.length : Int) then ((laws_eqPiece.f ((rd_T42 x0 x5).f0) ((rd_T42 x0 x5).f1) ((rd_T42 x0 x5).f2) ((rd_T42 x0 x5).f3) ((rd_T42 x0 x5).f4) ((rd_T42 x0 x5).f5) ((rd_T42 x0 x5).f6) ((rd_T42 x0 x5).f7) ((rd_T42 x0 x5).f8) ((rd_T42 x0 x5).f9) ((rd_T42 x0 x5).f10) ((rd_T42 x0 x5).f11) ((rd_T42 x0 x5).f12) ((rd_T42 x1 x5).f0) ((rd_T42 x1 x5).f1) ((rd_T42 x1 x5).f2) ((rd_T42 x1 x5).f3) ((rd_T42 x1 x5).f4) ((rd_T42 x1 x5).f5) ((rd_T42 x1 x5).f6) ((rd_T42 x1 x5).f7) ((rd_T42 x1 x5).f8) ((rd_T42 x1 x5).f9) ((rd_T42 x1 x5).f10) ((rd_T42 x1 x5).f11) ((rd_T42 x1 x5).f12)).bind fun t177 => (if t177 = true then (laws_eqPieceS.l0 k x0 x1 (wrap64 (x5 + 1))) else (some false))) else (none)) else (none)) else (some true)
def laws_eqPieceS.f (k : Nat) (l0 : List (S42)) (l1 : List (S42)) : Option (Bool) := if (l0.length : Int) = (l1.length : Int) then (laws_eqPieceS.l0 k l0 l1 0) else (some false)
theorem laws_eqPieceS.mono_l : ∀ k, (∀ y0 y1 y2, LeO (laws_eqPieceS.l0 k y0 y1 y2) (laws_eqPieceS.l0 (k + 1) y0 y1 y2))
  | 0 => fun _ _ _ r h => by simp [laws_eqPieceS.l0] at h
  | k + 1 => by
    have ih0 := laws_eqPieceS.mono_l k
    · intro y0 y1 y2
      unfold laws_eqPieceS.l0
      repeat' first
      | (with_reducible exact ih0 _ _ _)
      | (with_reducible exact LeO.refl _)
      | (with_reducible exact LeO.none _)
      | (with_reducible refine LeO.ite ?_ ?_)
      | (with_reducible refine LeO.bind ?_ (fun _ => ?_))
      | exact ih0 _ _ _
      | exact LeO.none _
      | refine LeO.ite ?_ ?_
      | refine LeO.bind ?_ (fun _ => ?_)
theorem laws_eqPieceS.mono : ∀ a0 a1 k, LeO (laws_eqPieceS.f k a0 a1) (laws_eqPieceS.f (k + 1) a0 a1) := by
  intro a0 a1 k
  have ih0 := laws_eqPieceS.mono_l k
  unfold laws_eqPieceS.f
  repeat' first
      | (with_reducible exact ih0 _ _ _)
      | (with_reducible exact LeO.refl _)
      | (with_reducible exact LeO.none _)
      | (with_reducible refine LeO.ite ?_ ?_)
      | (with_reducible refine LeO.bind ?_ (fun _ => ?_))
      | exact ih0 _ _ _
      | exact LeO.none _
      | refine LeO.ite ?_ ?_
      | refine LeO.bind ?_ (fun _ => ?_)
def laws_eqPieceS.T6 : Bool × List (List Nat × List Nat) := (true, [([], []), ([], []), ([0, 1], [0, 1]), ([2], [2]), ([], []), ([], []), ([4, 5], [4, 5]), ([6], [6]), ([3, 7], [3, 7]), ([8], [8])])
def laws_eqPieceS.B6 : List Nat := [0, 0, 3, 7, 0, 0, 48, 112, 255, 511]
theorem laws_eqPieceS.tab6 : rtab .any (opsOf Try.f44 6) = laws_eqPieceS.T6 := by kernel_rfl
theorem laws_eqPieceS.bits6 : waitsOk laws_eqPieceS.T6.2 laws_eqPieceS.B6 = true := by kernel_rfl
set_option maxHeartbeats 8000000 in
set_option maxRecDepth 100000 in
theorem laws_eqPieceS.calls (k : Nat) (A0 : Option Addr) (c0 : Nat) (l0 : List (S42)) (A1 : Option Addr) (c1 : Nat) (l1 : List (S42)) (r : Bool) (w : World) (hr0 : Kd.C k42 w A0 l0.length l0) (hc0 : l0.length ≤ c0) (hr1 : Kd.C k42 w A1 l1.length l1) (hc1 : l1.length ≤ c1) (h : laws_eqPieceS.f k l0 l1 = some r) :
    Calls Try.prog 44 #[.slice A0 l0.length c0, .slice A1 l1.length c1] w fun e w' => e = .returned (.bool r) ∧ Below w.heap.size w w' := by
  have hu42 := Try.underlying42
  have HR0 := Aside0.mk hr0
  have HC0 := Aside0.mk hc0
  clear hr0 hc0
  have HR1 := Aside0.mk hr1
  have HC1 := Aside0.mk hc1
  clear hr1 hc1
  have HB := Aside0.mk (Below.refl w.heap.size w)
  have H : (if (l0.length : Int) = (l1.length : Int) then (laws_eqPieceS.l0 k l0 l1 0) else (some false)) = some r := h
  clear h
  by_cases c3 : (l0.length : Int) = (l1.length : Int)
  rotate_left
  · rw [if_neg c3] at H
    have c3b0 : ((l0.length : Int) == (l1.length : Int)) = false := beq_eq_false_iff_ne.mpr c3
    have c3b1 : ((l0.length : Int) != (l1.length : Int)) = true := bne_iff_ne.mpr c3
    have c3b2 : (l0.length == l1.length) = false := by first | simpa using c3 | (simp at c3 ⊢; omega)
    obtain rfl := Option.some.inj H
    go_enter Try.func44, Try.ntmps44
    go_wp2
    go_ret
    exact ⟨Z3_12, Z3_10⟩
  rw [if_pos c3] at H
  have c3b0 : ((l0.length : Int) == (l1.length : Int)) = true := beq_iff_eq.mpr c3
  have c3b1 : ((l0.length : Int) != (l1.length : Int)) = false := bne_eq_false_iff_eq.mpr c3
  have c3b2 : (l0.length == l1.length) = true := by first | simpa using c3 | (simp at c3 ⊢; omega)
  clear c3
  have H' := Aside0.mk H
  clear H
  go_enter Try.func44, Try.ntmps44
  go_wp2
  go_loopg [5] k (fun kq v5 w' => ∃ (x5_1 : Int), v5 = .int .i64 x5_1 ∧ Aside0 (laws_eqPieceS.l0 kq l0 l1 x5_1 = some r) ∧ Aside0 (kq ≤ k) ∧ Aside0 (Below w.heap.size w w'))
  case atStart => exact ⟨(0), (by first | rfl | (simp; done) | (simp [*]; done)), H', ⟨Nat.le_refl _⟩, ⟨Z3_10⟩⟩
  case round =>
    clear H'
    try clear c1
    try clear p2
    try clear c3
    try clear c3b0
    try clear c3b1
    try clear c3b2
    obtain ⟨x5_1, rfl, HA, HK1, HB⟩ := hrel
    cases gk with
    | zero => exact absurd HA.out (by simp [laws_eqPieceS.l0])
    | succ k1 =>
      have H := HA.out
      clear HA
      simp only [laws_eqPieceS.l0] at H
      by_cases c4 : x5_1 < (l0.length : Int)
      rotate_left
      · rw [if_neg c4] at H
        have c4b0 : decide (x5_1 < (l0.length : Int)) = false := decide_eq_false c4
        clear c4
        obtain rfl := Option.some.inj H
        go_wp2
        go_ret
        exact ⟨Z3_12, Z3_10⟩
      rw [if_pos c4] at H
      have c4b0 : decide (x5_1 < (l0.length : Int)) = true := decide_eq_true c4
      clear c4
      by_cases c5 : 0 ≤ x5_1
      rotate_left
      · rw [if_neg c5] at H
        exact absurd H (by simp)
      rw [if_pos c5] at H
      have c5b0 : decide (0 ≤ x5_1) = true := decide_eq_true c5
      clear c5
      by_cases c6 : x5_1 < (l1.length : Int)
      rotate_left
      · rw [if_neg c6] at H
        exact absurd H (by simp)
      rw [if_pos c6] at H
      have c6b0 : decide (x5_1 < (l1.length : Int)) = true := decide_eq_true c6
      clear c6
      replace H := Option.bind_eq_some_iff.mp H
      obtain ⟨t177, A70, H⟩ := H
      replace H : (if t177 = true then (laws_eqPieceS.l0 k1 l0 l1 (wrap64 (x5_1 + 1))) else (some false)) = some r := H
      have A7 := Aside0.mk A70
      clear A70
      by_cases c8 : t177 = true
      rotate_left
      · replace c8 := Bool.eq_false_iff.mpr c8
        subst c8
        have H1 : (some false) = some r := by rw [if_neg (show ¬ (false = true) by decide)] at H; exact H
        clear H
        have H := H1
        clear H1
        obtain rfl := Option.some.inj H
        try go_wp2
        have n0_ := Aside0.mk (below_drew1 HB.out)
        clear HB
        have HB := n0_
        clear n0_
        have p175 : 0 ≤ (x5_1 : Int) := of_decide_eq_true Z3_13
        have q175 : x5_1 < (l0.length : Int) := of_decide_eq_true Z3_13
        obtain ⟨ad175, e175, hx175_0, hx175_1, hx175_2, hx175_3, hx175_4, hx175_5, hx175_6, hx175_7, hx175_8, hx175_9, hx175_10, hx175_11, hx175_12⟩ := at_T42 HR0.out x5_1 p175 q175
        have hw175_12 := hx175_12
        have hw175_11 := hx175_11
        have hw175_10 := hx175_10
        have hw175_9 := hx175_9
        have hw175_8 := hx175_8
        have hw175_7 := hx175_7
        have hw175_6 := hx175_6
        have hw175_5 := hx175_5
        have hw175_4 := hx175_4
        have hw175_3 := hx175_3
        have hw175_2 := hx175_2
        have hw175_1 := hx175_1
        have hw175_0 := hx175_0
        cases e175
        replace hx175_0 := (HB.out.cell (World.block_lt_of_cell? w _ hx175_0)).trans hx175_0
        replace hx175_1 := (HB.out.cell (World.block_lt_of_cell? w _ hx175_1)).trans hx175_1
        replace hx175_2 := (HB.out.cell (World.block_lt_of_cell? w _ hx175_2)).trans hx175_2
        replace hx175_3 := (HB.out.cell (World.block_lt_of_cell? w _ hx175_3)).trans hx175_3
        replace hx175_4 := (HB.out.cell (World.block_lt_of_cell? w _ hx175_4)).trans hx175_4
        replace hx175_5 := (HB.out.cell (World.block_lt_of_cell? w _ hx175_5)).trans hx175_5
        replace hx175_6 := (HB.out.cell (World.block_lt_of_cell? w _ hx175_6)).trans hx175_6
        replace hx175_7 := (HB.out.cell (World.block_lt_of_cell? w _ hx175_7)).trans hx175_7
        replace hx175_8 := (HB.out.cell (World.block_lt_of_cell? w _ hx175_8)).trans hx175_8
        replace hx175_9 := (HB.out.cell (World.block_lt_of_cell? w _ hx175_9)).trans hx175_9
        replace hx175_10 := (HB.out.cell (World.block_lt_of_cell? w _ hx175_10)).trans hx175_10
        replace hx175_11 := (HB.out.cell (World.block_lt_of_cell? w _ hx175_11)).trans hx175_11
        replace hx175_12 := (HB.out.cell (World.block_lt_of_cell? w _ hx175_12)).trans hx175_12
        replace p175 := eq_true p175
        replace q175 := eq_true q175
        have p176 : 0 ≤ (x5_1 : Int) := of_decide_eq_true Z3_13
        have q176 : x5_1 < (l1.length : Int) := of_decide_eq_true Z3_13
        obtain ⟨ad176, e176, hx176_0, hx176_1, hx176_2, hx176_3, hx176_4, hx176_5, hx176_6, hx176_7, hx176_8, hx176_9, hx176_10, hx176_11, hx176_12⟩ := at_T42 HR1.out x5_1 p176 q176
        have hw176_12 := hx176_12
        have hw176_11 := hx176_11
        have hw176_10 := hx176_10
        have hw176_9 := hx176_9
        have hw176_8 := hx176_8
        have hw176_7 := hx176_7
        have hw176_6 := hx176_6
        have hw176_5 := hx176_5
        have hw176_4 := hx176_4
        have hw176_3 := hx176_3
        have hw176_2 := hx176_2
        have hw176_1 := hx176_1
        have hw176_0 := hx176_0
        cases e176
        replace hx176_0 := (HB.out.cell (World.block_lt_of_cell? w _ hx176_0)).trans hx176_0
        replace hx176_1 := (HB.out.cell (World.block_lt_of_cell? w _ hx176_1)).trans hx176_1
        replace hx176_2 := (HB.out.cell (World.block_lt_of_cell? w _ hx176_2)).trans hx176_2
        replace hx176_3 := (HB.out.cell (World.block_lt_of_cell? w _ hx176_3)).trans hx176_3
        replace hx176_4 := (HB.out.cell (World.block_lt_of_cell? w _ hx176_4)).trans hx176_4
        replace hx176_5 := (HB.out.cell (World.block_lt_of_cell? w _ hx176_5)).trans hx176_5
        replace hx176_6 := (HB.out.cell (World.block_lt_of_cell? w _ hx176_6)).trans hx176_6
        replace hx176_7 := (HB.out.cell (World.block_lt_of_cell? w _ hx176_7)).trans hx176_7
        replace hx176_8 := (HB.out.cell (World.block_lt_of_cell? w _ hx176_8)).trans hx176_8
        replace hx176_9 := (HB.out.cell (World.block_lt_of_cell? w _ hx176_9)).trans hx176_9
        replace hx176_10 := (HB.out.cell (World.block_lt_of_cell? w _ hx176_10)).trans hx176_10
        replace hx176_11 := (HB.out.cell (World.block_lt_of_cell? w _ hx176_11)).trans hx176_11
        replace hx176_12 := (HB.out.cell (World.block_lt_of_cell? w _ hx176_12)).trans hx176_12
        replace p176 := eq_true p176
        replace q176 := eq_true q176
        refine start_ (n := 10) (S := fun w' => w'.cell? (ad175.add ((x5_1).toNat * 13)) = some (.int .i64 ((rd_T42 l0 x5_1).f0)) ∧ w'.cell? ⟨(ad175.add ((x5_1).toNat * 13)).block, (ad175.add ((x5_1).toNat * 13)).off + 1, none⟩ = some (.int .i64 ((rd_T42 l0 x5_1).f1)) ∧ w'.cell? ⟨(ad175.add ((x5_1).toNat * 13)).block, (ad175.add ((x5_1).toNat * 13)).off + 2, none⟩ = some (.int .i64 ((rd_T42 l0 x5_1).f2)) ∧ w'.cell? ⟨(ad175.add ((x5_1).toNat * 13)).block, (ad175.add ((x5_1).toNat * 13)).off + 3, none⟩ = some (.int .i64 ((rd_T42 l0 x5_1).f3)) ∧ w'.cell? ⟨(ad175.add ((x5_1).toNat * 13)).block, (ad175.add ((x5_1).toNat * 13)).off + 4, none⟩ = some (.int .i64 ((rd_T42 l0 x5_1).f4)) ∧ w'.cell? ⟨(ad175.add ((x5_1).toNat * 13)).block, (ad175.add ((x5_1).toNat * 13)).off + 5, none⟩ = some (.int .i64 ((rd_T42 l0 x5_1).f5)) ∧ w'.cell? ⟨(ad175.add ((x5_1).toNat * 13)).block, (ad175.add ((x5_1).toNat * 13)).off + 6, none⟩ = some (.int .i64 ((rd_T42 l0 x5_1).f6)) ∧ w'.cell? ⟨(ad175.add ((x5_1).toNat * 13)).block, (ad175.add ((x5_1).toNat * 13)).off + 7, none⟩ = some (.int .i64 ((rd_T42 l0 x5_1).f7)) ∧ w'.cell? ⟨(ad175.add ((x5_1).toNat * 13)).block, (ad175.add ((x5_1).toNat * 13)).off + 8, none⟩ = some (.int .i64 ((rd_T42 l0 x5_1).f8)) ∧ w'.cell? ⟨(ad175.add ((x5_1).toNat * 13)).block, (ad175.add ((x5_1).toNat * 13)).off + 9, none⟩ = some (.int .i64 ((rd_T42 l0 x5_1).f9)) ∧ w'.cell? ⟨(ad175.add ((x5_1).toNat * 13)).block, (ad175.add ((x5_1).toNat * 13)).off + 10, none⟩ = some (.int .i64 ((rd_T42 l0 x5_1).f10)) ∧ w'.cell? ⟨(ad175.add ((x5_1).toNat * 13)).block, (ad175.add ((x5_1).toNat * 13)).off + 11, none⟩ = some (.bool ((rd_T42 l0 x5_1).f11)) ∧ w'.cell? ⟨(ad175.add ((x5_1).toNat * 13)).block, (ad175.add ((x5_1).toNat * 13)).off + 12, none⟩ = some (.bool ((rd_T42 l0 x5_1).f12)) ∧ w'.cell? (ad176.add ((x5_1).toNat * 13)) = some (.int .i64 ((rd_T42 l1 x5_1).f0)) ∧ w'.cell? ⟨(ad176.add ((x5_1).toNat * 13)).block, (ad176.add ((x5_1).toNat * 13)).off + 1, none⟩ = some (.int .i64 ((rd_T42 l1 x5_1).f1)) ∧ w'.cell? ⟨(ad176.add ((x5_1).toNat * 13)).block, (ad176.add ((x5_1).toNat * 13)).off + 2, none⟩ = some (.int .i64 ((rd_T42 l1 x5_1).f2)) ∧ w'.cell? ⟨(ad176.add ((x5_1).toNat * 13)).block, (ad176.add ((x5_1).toNat * 13)).off + 3, none⟩ = some (.int .i64 ((rd_T42 l1 x5_1).f3)) ∧ w'.cell? ⟨(ad176.add ((x5_1).toNat * 13)).block, (ad176.add ((x5_1).toNat * 13)).off + 4, none⟩ = some (.int .i64 ((rd_T42 l1 x5_1).f4)) ∧ w'.cell? ⟨(ad176.add ((x5_1).toNat * 13)).block, (ad176.add ((x5_1).toNat * 13)).off + 5, none⟩ = some (.int .i64 ((rd_T42 l1 x5_1).f5)) ∧ w'.cell? ⟨(ad176.add ((x5_1).toNat * 13)).block, (ad176.add ((x5_1).toNat * 13)).off + 6, none⟩ = some (.int .i64 ((rd_T42 l1 x5_1).f6)) ∧ w'.cell? ⟨(ad176.add ((x5_1).toNat * 13)).block, (ad176.add ((x5_1).toNat * 13)).off + 7, none⟩ = some (.int .i64 ((rd_T42 l1 x5_1).f7)) ∧ w'.cell? ⟨(ad176.add ((x5_1).toNat * 13)).block, (ad176.add ((x5_1).toNat * 13)).off + 8, none⟩ = some (.int .i64 ((rd_T42 l1 x5_1).f8)) ∧ w'.cell? ⟨(ad176.add ((x5_1).toNat * 13)).block, (ad176.add ((x5_1).toNat * 13)).off + 9, none⟩ = some (.int .i64 ((rd_T42 l1 x5_1).f9)) ∧ w'.cell? ⟨(ad176.add ((x5_1).toNat * 13)).block, (ad176.add ((x5_1).toNat * 13)).off + 10, none⟩ = some (.int .i64 ((rd_T42 l1 x5_1).f10)) ∧ w'.cell? ⟨(ad176.add ((x5_1).toNat * 13)).block, (ad176.add ((x5_1).toNat * 13)).off + 11, none⟩ = some (.bool ((rd_T42 l1 x5_1).f11)) ∧ w'.cell? ⟨(ad176.add ((x5_1).toNat * 13)).block, (ad176.add ((x5_1).toNat * 13)).off + 12, none⟩ = some (.bool ((rd_T42 l1 x5_1).f12))) (ds := []) #[false, false, false, false, false, false, false, false, false, false] (by kernel_rfl) rfl rfl ⟨((HB.out.cell (World.block_lt_of_cell? w _ hw175_0)).trans hw175_0), ((HB.out.cell (World.block_lt_of_cell? w _ hw175_1)).trans hw175_1), ((HB.out.cell (World.block_lt_of_cell? w _ hw175_2)).trans hw175_2), ((HB.out.cell (World.block_lt_of_cell? w _ hw175_3)).trans hw175_3), ((HB.out.cell (World.block_lt_of_cell? w _ hw175_4)).trans hw175_4), ((HB.out.cell (World.block_lt_of_cell? w _ hw175_5)).trans hw175_5), ((HB.out.cell (World.block_lt_of_cell? w _ hw175_6)).trans hw175_6), ((HB.out.cell (World.block_lt_of_cell? w _ hw175_7)).trans hw175_7), ((HB.out.cell (World.block_lt_of_cell? w _ hw175_8)).trans hw175_8), ((HB.out.cell (World.block_lt_of_cell? w _ hw175_9)).trans hw175_9), ((HB.out.cell (World.block_lt_of_cell? w _ hw175_10)).trans hw175_10), ((HB.out.cell (World.block_lt_of_cell? w _ hw175_11)).trans hw175_11), ((HB.out.cell (World.block_lt_of_cell? w _ hw175_12)).trans hw175_12), ((HB.out.cell (World.block_lt_of_cell? w _ hw176_0)).trans hw176_0), ((HB.out.cell (World.block_lt_of_cell? w _ hw176_1)).trans hw176_1), ((HB.out.cell (World.block_lt_of_cell? w _ hw176_2)).trans hw176_2), ((HB.out.cell (World.block_lt_of_cell? w _ hw176_3)).trans hw176_3), ((HB.out.cell (World.block_lt_of_cell? w _ hw176_4)).trans hw176_4), ((HB.out.cell (World.block_lt_of_cell? w _ hw176_5)).trans hw176_5), ((HB.out.cell (World.block_lt_of_cell? w _ hw176_6)).trans hw176_6), ((HB.out.cell (World.block_lt_of_cell? w _ hw176_7)).trans hw176_7), ((HB.out.cell (World.block_lt_of_cell? w _ hw176_8)).trans hw176_8), ((HB.out.cell (World.block_lt_of_cell? w _ hw176_9)).trans hw176_9), ((HB.out.cell (World.block_lt_of_cell? w _ hw176_10)).trans hw176_10), ((HB.out.cell (World.block_lt_of_cell? w _ hw176_11)).trans hw176_11), ((HB.out.cell (World.block_lt_of_cell? w _ hw176_12)).trans hw176_12)⟩ (fun hHeld => ?_); refine with_tabW laws_eqPieceS.tab6 laws_eqPieceS.bits6 (fun HT_ HW_ => ?_)
        generalize wr.drew = w11 at HB hx175_0 hx175_1 hx175_10 hx175_11 hx175_12 hx175_2 hx175_3 hx175_4 hx175_5 hx175_6 hx175_7 hx175_8 hx175_9 hx176_0 hx176_1 hx176_10 hx176_11 hx176_12 hx176_2 hx176_3 hx176_4 hx176_5 hx176_6 hx176_7 hx176_8 hx176_9 hHeld ⊢
        refine pure_ (i := 0) (N := some 17) (v := _) (a' := _) (M3_10 1) rfl rfl (any_of HT_.out (by kernel_rfl)) (fun _ _ _ h => h) (Or.inl ⟨(by rfl), (by intro w'; go_simp; with_reducible rfl)⟩) Z3_11 ?_
        refine pure_ (i := 1) (N := some 18) (v := _) (a' := _) (M3_10 3) rfl rfl (any_of HT_.out (by kernel_rfl)) (fun _ _ _ h => h) (Or.inl ⟨(by rfl), (by intro w'; go_simp; with_reducible rfl)⟩) Z3_11 ?_
        refine pure_ (i := 2) (N := some 19) (v := _) (a' := _) (M3_10 7) rfl rfl (any_of HT_.out (by kernel_rfl)) (fun _ _ _ h => h) (Or.inl ⟨(by rfl), (by intro w'; go_simp; with_reducible rfl)⟩) Z3_11 ?_
        refine pure_ (i := 4) (N := some 21) (v := _) (a' := _) (M3_10 23) rfl rfl (any_of HT_.out (by kernel_rfl)) (fun _ _ _ h => h) (Or.inl ⟨(by rfl), (by intro w'; go_simp; with_reducible rfl)⟩) Z3_11 ?_
        refine pure_ (i := 5) (N := some 22) (v := _) (a' := _) (M3_10 55) rfl rfl (any_of HT_.out (by kernel_rfl)) (fun _ _ _ h => h) (Or.inl ⟨(by rfl), (by intro w'; go_simp; with_reducible rfl)⟩) Z3_11 ?_
        refine pure_ (i := 6) (N := some 23) (v := _) (a' := _) (M3_10 119) rfl rfl (any_of HT_.out (by kernel_rfl)) (fun _ _ _ h => h) (Or.inl ⟨(by rfl), (by intro w'; go_simp; with_reducible rfl)⟩) Z3_11 ?_
        refine take_ (i := 3) (N := some 20) (v := ?_) (a' := ?_) (M3_10 127) rfl rfl (take_ofW HT_.out HW_.out (by kernel_rfl)) (fun _ _ _ h => h) (Or.inl ⟨(by rfl), ?_⟩) hHeld ?_ ?_
        rotate_left
        · rintro w' ⟨s0, s1, s2, s3, s4, s5, s6, s7, s8, s9, s10, s11, s12, s13, s14, s15, s16, s17, s18, s19, s20, s21, s22, s23, s24, s25⟩
          go_simp
          with_reducible rfl
        rotate_left
        · simp only [Act.put, List.setIfInBounds_toArray, List.set_cons_zero, List.set_cons_succ, i64_w, i32_w]
          rfl
        refine take_ (i := 7) (N := some 24) (v := ?_) (a' := ?_) (M3_10 255) rfl rfl (take_ofW HT_.out HW_.out (by kernel_rfl)) (fun _ _ _ h => h) (Or.inl ⟨(by rfl), ?_⟩) hHeld ?_ ?_
        rotate_left
        · rintro w' ⟨s0, s1, s2, s3, s4, s5, s6, s7, s8, s9, s10, s11, s12, s13, s14, s15, s16, s17, s18, s19, s20, s21, s22, s23, s24, s25⟩
          go_simp
          with_reducible rfl
        rotate_left
        · simp only [Act.put, List.setIfInBounds_toArray, List.set_cons_zero, List.set_cons_succ, i64_w, i32_w]
          rfl
        refine one_ (i := 8) (N := some 25) (M3_10 511) rfl rfl (one_of HT_.out (by kernel_rfl)) (by decide) (fun K hK => ?_)
        refine goes_ Try.func84 (by kernel_rfl) rfl #[.agg #[.int .i64 ((rd_T42 l0 x5_1).f0), .int .i64 ((rd_T42 l0 x5_1).f1), .int .i64 ((rd_T42 l0 x5_1).f2), .int .i64 ((rd_T42 l0 x5_1).f3), .int .i64 ((rd_T42 l0 x5_1).f4), .int .i64 ((rd_T42 l0 x5_1).f5), .int .i64 ((rd_T42 l0 x5_1).f6), .int .i64 ((rd_T42 l0 x5_1).f7), .int .i64 ((rd_T42 l0 x5_1).f8), .int .i64 ((rd_T42 l0 x5_1).f9), .int .i64 ((rd_T42 l0 x5_1).f10), .bool ((rd_T42 l0 x5_1).f11), .bool ((rd_T42 l0 x5_1).f12)], .agg #[.int .i64 ((rd_T42 l1 x5_1).f0), .int .i64 ((rd_T42 l1 x5_1).f1), .int .i64 ((rd_T42 l1 x5_1).f2), .int .i64 ((rd_T42 l1 x5_1).f3), .int .i64 ((rd_T42 l1 x5_1).f4), .int .i64 ((rd_T42 l1 x5_1).f5), .int .i64 ((rd_T42 l1 x5_1).f6), .int .i64 ((rd_T42 l1 x5_1).f7), .int .i64 ((rd_T42 l1 x5_1).f8), .int .i64 ((rd_T42 l1 x5_1).f9), .int .i64 ((rd_T42 l1 x5_1).f10), .bool ((rd_T42 l1 x5_1).f11), .bool ((rd_T42 l1 x5_1).f12)]] (by rfl) rfl rfl Z3_9 ?_
        with_reducible refine (laws_eqPiece.calls ((rd_T42 l0 x5_1).f0) ((rd_T42 l0 x5_1).f1) ((rd_T42 l0 x5_1).f2) ((rd_T42 l0 x5_1).f3) ((rd_T42 l0 x5_1).f4) ((rd_T42 l0 x5_1).f5) ((rd_T42 l0 x5_1).f6) ((rd_T42 l0 x5_1).f7) ((rd_T42 l0 x5_1).f8) ((rd_T42 l0 x5_1).f9) ((rd_T42 l0 x5_1).f10) ((rd_T42 l0 x5_1).f11) ((rd_T42 l0 x5_1).f12) ((rd_T42 l1 x5_1).f0) ((rd_T42 l1 x5_1).f1) ((rd_T42 l1 x5_1).f2) ((rd_T42 l1 x5_1).f3) ((rd_T42 l1 x5_1).f4) ((rd_T42 l1 x5_1).f5) ((rd_T42 l1 x5_1).f6) ((rd_T42 l1 x5_1).f7) ((rd_T42 l1 x5_1).f8) ((rd_T42 l1 x5_1).f9) ((rd_T42 l1 x5_1).f10) ((rd_T42 l1 x5_1).f11) ((rd_T42 l1 x5_1).f12) false _ A7.out).mono ?_
        rintro e w12 ⟨rfl, hb⟩
        refine ⟨_, rfl, ?_⟩
        have n0_ := Aside0.mk Z3_8
        clear HB
        have HB := n0_
        clear n0_
        (try clear hb)
        (try clear hb2)
        (try clear hk)
        (try clear hi)
        refine hK.out _ _ ⟨((HB.out.cell (World.block_lt_of_cell? w _ hw175_0)).trans hw175_0), ((HB.out.cell (World.block_lt_of_cell? w _ hw175_1)).trans hw175_1), ((HB.out.cell (World.block_lt_of_cell? w _ hw175_2)).trans hw175_2), ((HB.out.cell (World.block_lt_of_cell? w _ hw175_3)).trans hw175_3), ((HB.out.cell (World.block_lt_of_cell? w _ hw175_4)).trans hw175_4), ((HB.out.cell (World.block_lt_of_cell? w _ hw175_5)).trans hw175_5), ((HB.out.cell (World.block_lt_of_cell? w _ hw175_6)).trans hw175_6), ((HB.out.cell (World.block_lt_of_cell? w _ hw175_7)).trans hw175_7), ((HB.out.cell (World.block_lt_of_cell? w _ hw175_8)).trans hw175_8), ((HB.out.cell (World.block_lt_of_cell? w _ hw175_9)).trans hw175_9), ((HB.out.cell (World.block_lt_of_cell? w _ hw175_10)).trans hw175_10), ((HB.out.cell (World.block_lt_of_cell? w _ hw175_11)).trans hw175_11), ((HB.out.cell (World.block_lt_of_cell? w _ hw175_12)).trans hw175_12), ((HB.out.cell (World.block_lt_of_cell? w _ hw176_0)).trans hw176_0), ((HB.out.cell (World.block_lt_of_cell? w _ hw176_1)).trans hw176_1), ((HB.out.cell (World.block_lt_of_cell? w _ hw176_2)).trans hw176_2), ((HB.out.cell (World.block_lt_of_cell? w _ hw176_3)).trans hw176_3), ((HB.out.cell (World.block_lt_of_cell? w _ hw176_4)).trans hw176_4), ((HB.out.cell (World.block_lt_of_cell? w _ hw176_5)).trans hw176_5), ((HB.out.cell (World.block_lt_of_cell? w _ hw176_6)).trans hw176_6), ((HB.out.cell (World.block_lt_of_cell? w _ hw176_7)).trans hw176_7), ((HB.out.cell (World.block_lt_of_cell? w _ hw176_8)).trans hw176_8), ((HB.out.cell (World.block_lt_of_cell? w _ hw176_9)).trans hw176_9), ((HB.out.cell (World.block_lt_of_cell? w _ hw176_10)).trans hw176_10), ((HB.out.cell (World.block_lt_of_cell? w _ hw176_11)).trans hw176_11), ((HB.out.cell (World.block_lt_of_cell? w _ hw176_12)).trans hw176_12)⟩ (fun hHeld => ?_)
        clear hK K
        refine norm_ (a' := ?_) ?_ ?_
        rotate_left
        · show Act.put _ (some 25) _ = _
          simp only [Act.put, List.setIfInBounds_toArray, List.set_cons_zero, List.set_cons_succ, i64_w, i32_w]
          rfl
        refine pure_ (i := 9) (N := some 26) (v := _) (a' := _) (M3_10 1023) rfl rfl (any_of HT_.out (by kernel_rfl)) (fun _ _ _ h => h) (Or.inl ⟨(by rfl), (by intro w'; go_simp; with_reducible rfl)⟩) Z3_11 ?_
        refine done_ (done_of HT_.out (by kernel_rfl)) ?_
        try go_wp2
        go_ret
        exact ⟨Z3_12, Z3_10⟩
      subst c8
      have H1 : (laws_eqPieceS.l0 k1 l0 l1 (wrap64 (x5_1 + 1))) = some r := by rw [if_pos rfl] at H; exact H
      clear H
      have H := H1
      clear H1
      have H' := Aside0.mk H
      clear H
      try go_wp2
      have n0_ := Aside0.mk (below_drew1 HB.out)
      clear HB
      have HB := n0_
      clear n0_
      have p175 : 0 ≤ (x5_1 : Int) := of_decide_eq_true Z3_13
      have q175 : x5_1 < (l0.length : Int) := of_decide_eq_true Z3_13
      obtain ⟨ad175, e175, hx175_0, hx175_1, hx175_2, hx175_3, hx175_4, hx175_5, hx175_6, hx175_7, hx175_8, hx175_9, hx175_10, hx175_11, hx175_12⟩ := at_T42 HR0.out x5_1 p175 q175
      have hw175_12 := hx175_12
      have hw175_11 := hx175_11
      have hw175_10 := hx175_10
      have hw175_9 := hx175_9
      have hw175_8 := hx175_8
      have hw175_7 := hx175_7
      have hw175_6 := hx175_6
      have hw175_5 := hx175_5
      have hw175_4 := hx175_4
      have hw175_3 := hx175_3
      have hw175_2 := hx175_2
      have hw175_1 := hx175_1
      have hw175_0 := hx175_0
      cases e175
      replace hx175_0 := (HB.out.cell (World.block_lt_of_cell? w _ hx175_0)).trans hx175_0
      replace hx175_1 := (HB.out.cell (World.block_lt_of_cell? w _ hx175_1)).trans hx175_1
      replace hx175_2 := (HB.out.cell (World.block_lt_of_cell? w _ hx175_2)).trans hx175_2
      replace hx175_3 := (HB.out.cell (World.block_lt_of_cell? w _ hx175_3)).trans hx175_3
      replace hx175_4 := (HB.out.cell (World.block_lt_of_cell? w _ hx175_4)).trans hx175_4
      replace hx175_5 := (HB.out.cell (World.block_lt_of_cell? w _ hx175_5)).trans hx175_5
      replace hx175_6 := (HB.out.cell (World.block_lt_of_cell? w _ hx175_6)).trans hx175_6
      replace hx175_7 := (HB.out.cell (World.block_lt_of_cell? w _ hx175_7)).trans hx175_7
      replace hx175_8 := (HB.out.cell (World.block_lt_of_cell? w _ hx175_8)).trans hx175_8
      replace hx175_9 := (HB.out.cell (World.block_lt_of_cell? w _ hx175_9)).trans hx175_9
      replace hx175_10 := (HB.out.cell (World.block_lt_of_cell? w _ hx175_10)).trans hx175_10
      replace hx175_11 := (HB.out.cell (World.block_lt_of_cell? w _ hx175_11)).trans hx175_11
      replace hx175_12 := (HB.out.cell (World.block_lt_of_cell? w _ hx175_12)).trans hx175_12
      replace p175 := eq_true p175
      replace q175 := eq_true q175
      have p176 : 0 ≤ (x5_1 : Int) := of_decide_eq_true Z3_13
      have q176 : x5_1 < (l1.length : Int) := of_decide_eq_true Z3_13
      obtain ⟨ad176, e176, hx176_0, hx176_1, hx176_2, hx176_3, hx176_4, hx176_5, hx176_6, hx176_7, hx176_8, hx176_9, hx176_10, hx176_11, hx176_12⟩ := at_T42 HR1.out x5_1 p176 q176
      have hw176_12 := hx176_12
      have hw176_11 := hx176_11
      have hw176_10 := hx176_10
      have hw176_9 := hx176_9
      have hw176_8 := hx176_8
      have hw176_7 := hx176_7
      have hw176_6 := hx176_6
      have hw176_5 := hx176_5
      have hw176_4 := hx176_4
      have hw176_3 := hx176_3
      have hw176_2 := hx176_2
      have hw176_1 := hx176_1
      have hw176_0 := hx176_0
      cases e176
      replace hx176_0 := (HB.out.cell (World.block_lt_of_cell? w _ hx176_0)).trans hx176_0
      replace hx176_1 := (HB.out.cell (World.block_lt_of_cell? w _ hx176_1)).trans hx176_1
      replace hx176_2 := (HB.out.cell (World.block_lt_of_cell? w _ hx176_2)).trans hx176_2
      replace hx176_3 := (HB.out.cell (World.block_lt_of_cell? w _ hx176_3)).trans hx176_3
      replace hx176_4 := (HB.out.cell (World.block_lt_of_cell? w _ hx176_4)).trans hx176_4
      replace hx176_5 := (HB.out.cell (World.block_lt_of_cell? w _ hx176_5)).trans hx176_5
      replace hx176_6 := (HB.out.cell (World.block_lt_of_cell? w _ hx176_6)).trans hx176_6
      replace hx176_7 := (HB.out.cell (World.block_lt_of_cell? w _ hx176_7)).trans hx176_7
      replace hx176_8 := (HB.out.cell (World.block_lt_of_cell? w _ hx176_8)).trans hx176_8
      replace hx176_9 := (HB.out.cell (World.block_lt_of_cell? w _ hx176_9)).trans hx176_9
      replace hx176_10 := (HB.out.cell (World.block_lt_of_cell? w _ hx176_10)).trans hx176_10
      replace hx176_11 := (HB.out.cell (World.block_lt_of_cell? w _ hx176_11)).trans hx176_11
      replace hx176_12 := (HB.out.cell (World.block_lt_of_cell? w _ hx176_12)).trans hx176_12
      replace p176 := eq_true p176
      replace q176 := eq_true q176
      refine start_ (n := 10) (S := fun w' => w'.cell? (ad175.add ((x5_1).toNat * 13)) = some (.int .i64 ((rd_T42 l0 x5_1).f0)) ∧ w'.cell? ⟨(ad175.add ((x5_1).toNat * 13)).block, (ad175.add ((x5_1).toNat * 13)).off + 1, none⟩ = some (.int .i64 ((rd_T42 l0 x5_1).f1)) ∧ w'.cell? ⟨(ad175.add ((x5_1).toNat * 13)).block, (ad175.add ((x5_1).toNat * 13)).off + 2, none⟩ = some (.int .i64 ((rd_T42 l0 x5_1).f2)) ∧ w'.cell? ⟨(ad175.add ((x5_1).toNat * 13)).block, (ad175.add ((x5_1).toNat * 13)).off + 3, none⟩ = some (.int .i64 ((rd_T42 l0 x5_1).f3)) ∧ w'.cell? ⟨(ad175.add ((x5_1).toNat * 13)).block, (ad175.add ((x5_1).toNat * 13)).off + 4, none⟩ = some (.int .i64 ((rd_T42 l0 x5_1).f4)) ∧ w'.cell? ⟨(ad175.add ((x5_1).toNat * 13)).block, (ad175.add ((x5_1).toNat * 13)).off + 5, none⟩ = some (.int .i64 ((rd_T42 l0 x5_1).f5)) ∧ w'.cell? ⟨(ad175.add ((x5_1).toNat * 13)).block, (ad175.add ((x5_1).toNat * 13)).off + 6, none⟩ = some (.int .i64 ((rd_T42 l0 x5_1).f6)) ∧ w'.cell? ⟨(ad175.add ((x5_1).toNat * 13)).block, (ad175.add ((x5_1).toNat * 13)).off + 7, none⟩ = some (.int .i64 ((rd_T42 l0 x5_1).f7)) ∧ w'.cell? ⟨(ad175.add ((x5_1).toNat * 13)).block, (ad175.add ((x5_1).toNat * 13)).off + 8, none⟩ = some (.int .i64 ((rd_T42 l0 x5_1).f8)) ∧ w'.cell? ⟨(ad175.add ((x5_1).toNat * 13)).block, (ad175.add ((x5_1).toNat * 13)).off + 9, none⟩ = some (.int .i64 ((rd_T42 l0 x5_1).f9)) ∧ w'.cell? ⟨(ad175.add ((x5_1).toNat * 13)).block, (ad175.add ((x5_1).toNat * 13)).off + 10, none⟩ = some (.int .i64 ((rd_T42 l0 x5_1).f10)) ∧ w'.cell? ⟨(ad175.add ((x5_1).toNat * 13)).block, (ad175.add ((x5_1).toNat * 13)).off + 11, none⟩ = some (.bool ((rd_T42 l0 x5_1).f11)) ∧ w'.cell? ⟨(ad175.add ((x5_1).toNat * 13)).block, (ad175.add ((x5_1).toNat * 13)).off + 12, none⟩ = some (.bool ((rd_T42 l0 x5_1).f12)) ∧ w'.cell? (ad176.add ((x5_1).toNat * 13)) = some (.int .i64 ((rd_T42 l1 x5_1).f0)) ∧ w'.cell? ⟨(ad176.add ((x5_1).toNat * 13)).block, (ad176.add ((x5_1).toNat * 13)).off + 1, none⟩ = some (.int .i64 ((rd_T42 l1 x5_1).f1)) ∧ w'.cell? ⟨(ad176.add ((x5_1).toNat * 13)).block, (ad176.add ((x5_1).toNat * 13)).off + 2, none⟩ = some (.int .i64 ((rd_T42 l1 x5_1).f2)) ∧ w'.cell? ⟨(ad176.add ((x5_1).toNat * 13)).block, (ad176.add ((x5_1).toNat * 13)).off + 3, none⟩ = some (.int .i64 ((rd_T42 l1 x5_1).f3)) ∧ w'.cell? ⟨(ad176.add ((x5_1).toNat * 13)).block, (ad176.add ((x5_1).toNat * 13)).off + 4, none⟩ = some (.int .i64 ((rd_T42 l1 x5_1).f4)) ∧ w'.cell? ⟨(ad176.add ((x5_1).toNat * 13)).block, (ad176.add ((x5_1).toNat * 13)).off + 5, none⟩ = some (.int .i64 ((rd_T42 l1 x5_1).f5)) ∧ w'.cell? ⟨(ad176.add ((x5_1).toNat * 13)).block, (ad176.add ((x5_1).toNat * 13)).off + 6, none⟩ = some (.int .i64 ((rd_T42 l1 x5_1).f6)) ∧ w'.cell? ⟨(ad176.add ((x5_1).toNat * 13)).block, (ad176.add ((x5_1).toNat * 13)).off + 7, none⟩ = some (.int .i64 ((rd_T42 l1 x5_1).f7)) ∧ w'.cell? ⟨(ad176.add ((x5_1).toNat * 13)).block, (ad176.add ((x5_1).toNat * 13)).off + 8, none⟩ = some (.int .i64 ((rd_T42 l1 x5_1).f8)) ∧ w'.cell? ⟨(ad176.add ((x5_1).toNat * 13)).block, (ad176.add ((x5_1).toNat * 13)).off + 9, none⟩ = some (.int .i64 ((rd_T42 l1 x5_1).f9)) ∧ w'.cell? ⟨(ad176.add ((x5_1).toNat * 13)).block, (ad176.add ((x5_1).toNat * 13)).off + 10, none⟩ = some (.int .i64 ((rd_T42 l1 x5_1).f10)) ∧ w'.cell? ⟨(ad176.add ((x5_1).toNat * 13)).block, (ad176.add ((x5_1).toNat * 13)).off + 11, none⟩ = some (.bool ((rd_T42 l1 x5_1).f11)) ∧ w'.cell? ⟨(ad176.add ((x5_1).toNat * 13)).block, (ad176.add ((x5_1).toNat * 13)).off + 12, none⟩ = some (.bool ((rd_T42 l1 x5_1).f12))) (ds := []) #[false, false, false, false, false, false, false, false, false, false] (by kernel_rfl) rfl rfl ⟨((HB.out.cell (World.block_lt_of_cell? w _ hw175_0)).trans hw175_0), ((HB.out.cell (World.block_lt_of_cell? w _ hw175_1)).trans hw175_1), ((HB.out.cell (World.block_lt_of_cell? w _ hw175_2)).trans hw175_2), ((HB.out.cell (World.block_lt_of_cell? w _ hw175_3)).trans hw175_3), ((HB.out.cell (World.block_lt_of_cell? w _ hw175_4)).trans hw175_4), ((HB.out.cell (World.block_lt_of_cell? w _ hw175_5)).trans hw175_5), ((HB.out.cell (World.block_lt_of_cell? w _ hw175_6)).trans hw175_6), ((HB.out.cell (World.block_lt_of_cell? w _ hw175_7)).trans hw175_7), ((HB.out.cell (World.block_lt_of_cell? w _ hw175_8)).trans hw175_8), ((HB.out.cell (World.block_lt_of_cell? w _ hw175_9)).trans hw175_9), ((HB.out.cell (World.block_lt_of_cell? w _ hw175_10)).trans hw175_10), ((HB.out.cell (World.block_lt_of_cell? w _ hw175_11)).trans hw175_11), ((HB.out.cell (World.block_lt_of_cell? w _ hw175_12)).trans hw175_12), ((HB.out.cell (World.block_lt_of_cell? w _ hw176_0)).trans hw176_0), ((HB.out.cell (World.block_lt_of_cell? w _ hw176_1)).trans hw176_1), ((HB.out.cell (World.block_lt_of_cell? w _ hw176_2)).trans hw176_2), ((HB.out.cell (World.block_lt_of_cell? w _ hw176_3)).trans hw176_3), ((HB.out.cell (World.block_lt_of_cell? w _ hw176_4)).trans hw176_4), ((HB.out.cell (World.block_lt_of_cell? w _ hw176_5)).trans hw176_5), ((HB.out.cell (World.block_lt_of_cell? w _ hw176_6)).trans hw176_6), ((HB.out.cell (World.block_lt_of_cell? w _ hw176_7)).trans hw176_7), ((HB.out.cell (World.block_lt_of_cell? w _ hw176_8)).trans hw176_8), ((HB.out.cell (World.block_lt_of_cell? w _ hw176_9)).trans hw176_9), ((HB.out.cell (World.block_lt_of_cell? w _ hw176_10)).trans hw176_10), ((HB.out.cell (World.block_lt_of_cell? w _ hw176_11)).trans hw176_11), ((HB.out.cell (World.block_lt_of_cell? w _ hw176_12)).trans hw176_12)⟩ (fun hHeld => ?_); refine with_tabW laws_eqPieceS.tab6 laws_eqPieceS.bits6 (fun HT_ HW_ => ?_)
      generalize wr.drew = w9 at HB hx175_0 hx175_1 hx175_10 hx175_11 hx175_12 hx175_2 hx175_3 hx175_4 hx175_5 hx175_6 hx175_7 hx175_8 hx175_9 hx176_0 hx176_1 hx176_10 hx176_11 hx176_12 hx176_2 hx176_3 hx176_4 hx176_5 hx176_6 hx176_7 hx176_8 hx176_9 hHeld ⊢
      refine pure_ (i := 0) (N := some 17) (v := _) (a' := _) (M3_10 1) rfl rfl (any_of HT_.out (by kernel_rfl)) (fun _ _ _ h => h) (Or.inl ⟨(by rfl), (by intro w'; go_simp; with_reducible rfl)⟩) Z3_11 ?_
      refine pure_ (i := 1) (N := some 18) (v := _) (a' := _) (M3_10 3) rfl rfl (any_of HT_.out (by kernel_rfl)) (fun _ _ _ h => h) (Or.inl ⟨(by rfl), (by intro w'; go_simp; with_reducible rfl)⟩) Z3_11 ?_
      refine pure_ (i := 2) (N := some 19) (v := _) (a' := _) (M3_10 7) rfl rfl (any_of HT_.out (by kernel_rfl)) (fun _ _ _ h => h) (Or.inl ⟨(by rfl), (by intro w'; go_simp; with_reducible rfl)⟩) Z3_11 ?_
      refine pure_ (i := 4) (N := some 21) (v := _) (a' := _) (M3_10 23) rfl rfl (any_of HT_.out (by kernel_rfl)) (fun _ _ _ h => h) (Or.inl ⟨(by rfl), (by intro w'; go_simp; with_reducible rfl)⟩) Z3_11 ?_
      refine pure_ (i := 5) (N := some 22) (v := _) (a' := _) (M3_10 55) rfl rfl (any_of HT_.out (by kernel_rfl)) (fun _ _ _ h => h) (Or.inl ⟨(by rfl), (by intro w'; go_simp; with_reducible rfl)⟩) Z3_11 ?_
      refine pure_ (i := 6) (N := some 23) (v := _) (a' := _) (M3_10 119) rfl rfl (any_of HT_.out (by kernel_rfl)) (fun _ _ _ h => h) (Or.inl ⟨(by rfl), (by intro w'; go_simp; with_reducible rfl)⟩) Z3_11 ?_
      refine take_ (i := 3) (N := some 20) (v := ?_) (a' := ?_) (M3_10 127) rfl rfl (take_ofW HT_.out HW_.out (by kernel_rfl)) (fun _ _ _ h => h) (Or.inl ⟨(by rfl), ?_⟩) hHeld ?_ ?_
      rotate_left
      · rintro w' ⟨s0, s1, s2, s3, s4, s5, s6, s7, s8, s9, s10, s11, s12, s13, s14, s15, s16, s17, s18, s19, s20, s21, s22, s23, s24, s25⟩
        go_simp
        with_reducible rfl
      rotate_left
      · simp only [Act.put, List.setIfInBounds_toArray, List.set_cons_zero, List.set_cons_succ, i64_w, i32_w]
        rfl
      refine take_ (i := 7) (N := some 24) (v := ?_) (a' := ?_) (M3_10 255) rfl rfl (take_ofW HT_.out HW_.out (by kernel_rfl)) (fun _ _ _ h => h) (Or.inl ⟨(by rfl), ?_⟩) hHeld ?_ ?_
      rotate_left
      · rintro w' ⟨s0, s1, s2, s3, s4, s5, s6, s7, s8, s9, s10, s11, s12, s13, s14, s15, s16, s17, s18, s19, s20, s21, s22, s23, s24, s25⟩
        go_simp
        with_reducible rfl
      rotate_left
      · simp only [Act.put, List.setIfInBounds_toArray, List.set_cons_zero, List.set_cons_succ, i64_w, i32_w]
        rfl
      refine one_ (i := 8) (N := some 25) (M3_10 511) rfl rfl (one_of HT_.out (by kernel_rfl)) (by decide) (fun K hK => ?_)
      refine goes_ Try.func84 (by kernel_rfl) rfl #[.agg #[.int .i64 ((rd_T42 l0 x5_1).f0), .int .i64 ((rd_T42 l0 x5_1).f1), .int .i64 ((rd_T42 l0 x5_1).f2), .int .i64 ((rd_T42 l0 x5_1).f3), .int .i64 ((rd_T42 l0 x5_1).f4), .int .i64 ((rd_T42 l0 x5_1).f5), .int .i64 ((rd_T42 l0 x5_1).f6), .int .i64 ((rd_T42 l0 x5_1).f7), .int .i64 ((rd_T42 l0 x5_1).f8), .int .i64 ((rd_T42 l0 x5_1).f9), .int .i64 ((rd_T42 l0 x5_1).f10), .bool ((rd_T42 l0 x5_1).f11), .bool ((rd_T42 l0 x5_1).f12)], .agg #[.int .i64 ((rd_T42 l1 x5_1).f0), .int .i64 ((rd_T42 l1 x5_1).f1), .int .i64 ((rd_T42 l1 x5_1).f2), .int .i64 ((rd_T42 l1 x5_1).f3), .int .i64 ((rd_T42 l1 x5_1).f4), .int .i64 ((rd_T42 l1 x5_1).f5), .int .i64 ((rd_T42 l1 x5_1).f6), .int .i64 ((rd_T42 l1 x5_1).f7), .int .i64 ((rd_T42 l1 x5_1).f8), .int .i64 ((rd_T42 l1 x5_1).f9), .int .i64 ((rd_T42 l1 x5_1).f10), .bool ((rd_T42 l1 x5_1).f11), .bool ((rd_T42 l1 x5_1).f12)]] (by rfl) rfl rfl Z3_9 ?_
      with_reducible refine (laws_eqPiece.calls ((rd_T42 l0 x5_1).f0) ((rd_T42 l0 x5_1).f1) ((rd_T42 l0 x5_1).f2) ((rd_T42 l0 x5_1).f3) ((rd_T42 l0 x5_1).f4) ((rd_T42 l0 x5_1).f5) ((rd_T42 l0 x5_1).f6) ((rd_T42 l0 x5_1).f7) ((rd_T42 l0 x5_1).f8) ((rd_T42 l0 x5_1).f9) ((rd_T42 l0 x5_1).f10) ((rd_T42 l0 x5_1).f11) ((rd_T42 l0 x5_1).f12) ((rd_T42 l1 x5_1).f0) ((rd_T42 l1 x5_1).f1) ((rd_T42 l1 x5_1).f2) ((rd_T42 l1 x5_1).f3) ((rd_T42 l1 x5_1).f4) ((rd_T42 l1 x5_1).f5) ((rd_T42 l1 x5_1).f6) ((rd_T42 l1 x5_1).f7) ((rd_T42 l1 x5_1).f8) ((rd_T42 l1 x5_1).f9) ((rd_T42 l1 x5_1).f10) ((rd_T42 l1 x5_1).f11) ((rd_T42 l1 x5_1).f12) true _ A7.out).mono ?_
      rintro e w10 ⟨rfl, hb⟩
      refine ⟨_, rfl, ?_⟩
      have n0_ := Aside0.mk Z3_8
      clear HB
      have HB := n0_
      clear n0_
      (try clear hb)
      (try clear hb2)
      (try clear hk)
      (try clear hi)
      refine hK.out _ _ ⟨((HB.out.cell (World.block_lt_of_cell? w _ hw175_0)).trans hw175_0), ((HB.out.cell (World.block_lt_of_cell? w _ hw175_1)).trans hw175_1), ((HB.out.cell (World.block_lt_of_cell? w _ hw175_2)).trans hw175_2), ((HB.out.cell (World.block_lt_of_cell? w _ hw175_3)).trans hw175_3), ((HB.out.cell (World.block_lt_of_cell? w _ hw175_4)).trans hw175_4), ((HB.out.cell (World.block_lt_of_cell? w _ hw175_5)).trans hw175_5), ((HB.out.cell (World.block_lt_of_cell? w _ hw175_6)).trans hw175_6), ((HB.out.cell (World.block_lt_of_cell? w _ hw175_7)).trans hw175_7), ((HB.out.cell (World.block_lt_of_cell? w _ hw175_8)).trans hw175_8), ((HB.out.cell (World.block_lt_of_cell? w _ hw175_9)).trans hw175_9), ((HB.out.cell (World.block_lt_of_cell? w _ hw175_10)).trans hw175_10), ((HB.out.cell (World.block_lt_of_cell? w _ hw175_11)).trans hw175_11), ((HB.out.cell (World.block_lt_of_cell? w _ hw175_12)).trans hw175_12), ((HB.out.cell (World.block_lt_of_cell? w _ hw176_0)).trans hw176_0), ((HB.out.cell (World.block_lt_of_cell? w _ hw176_1)).trans hw176_1), ((HB.out.cell (World.block_lt_of_cell? w _ hw176_2)).trans hw176_2), ((HB.out.cell (World.block_lt_of_cell? w _ hw176_3)).trans hw176_3), ((HB.out.cell (World.block_lt_of_cell? w _ hw176_4)).trans hw176_4), ((HB.out.cell (World.block_lt_of_cell? w _ hw176_5)).trans hw176_5), ((HB.out.cell (World.block_lt_of_cell? w _ hw176_6)).trans hw176_6), ((HB.out.cell (World.block_lt_of_cell? w _ hw176_7)).trans hw176_7), ((HB.out.cell (World.block_lt_of_cell? w _ hw176_8)).trans hw176_8), ((HB.out.cell (World.block_lt_of_cell? w _ hw176_9)).trans hw176_9), ((HB.out.cell (World.block_lt_of_cell? w _ hw176_10)).trans hw176_10), ((HB.out.cell (World.block_lt_of_cell? w _ hw176_11)).trans hw176_11), ((HB.out.cell (World.block_lt_of_cell? w _ hw176_12)).trans hw176_12)⟩ (fun hHeld => ?_)
      clear hK K
      refine norm_ (a' := ?_) ?_ ?_
      rotate_left
      · show Act.put _ (some 25) _ = _
        simp only [Act.put, List.setIfInBounds_toArray, List.set_cons_zero, List.set_cons_succ, i64_w, i32_w]
        rfl
      refine pure_ (i := 9) (N := some 26) (v := _) (a' := _) (M3_10 1023) rfl rfl (any_of HT_.out (by kernel_rfl)) (fun _ _ _ h => h) (Or.inl ⟨(by rfl), (by intro w'; go_simp; with_reducible rfl)⟩) Z3_11 ?_
      refine done_ (done_of HT_.out (by kernel_rfl)) ?_
      try go_wp2
      go_roundg k1
      case measure => have := HK1.out; omega
      case rel => exact ⟨(wrap64 (x5_1 + 1)), (by first | rfl | (simp; done) | (simp [*]; done)), H', ⟨(by have := HK1.out; omega)⟩, ⟨Z3_10⟩⟩

/-! ### laws_eqSide: function 85 -/
def laws_eqSide.f (a0_0 : Int) (a0_1 : Int) (a0_2 : Bool) (a1_0 : Int) (a1_1 : Int) (a1_2 : Bool) : Option (Bool) := if a0_0 = a1_0 then (if a0_1 = a1_1 then (if (a0_2 != a1_2) = true then (some false) else (some true)) else (some false)) else (some false)
set_option maxHeartbeats 8000000 in
set_option maxRecDepth 100000 in
theorem laws_eqSide.calls (a0_0 : Int) (a0_1 : Int) (a0_2 : Bool) (a1_0 : Int) (a1_1 : Int) (a1_2 : Bool) (r : Bool) (w : World) (h : laws_eqSide.f a0_0 a0_1 a0_2 a1_0 a1_1 a1_2 = some r) :
    Calls Try.prog 85 #[.agg #[.int .i64 a0_0, .int .i64 a0_1, .bool a0_2], .agg #[.int .i64 a1_0, .int .i64 a1_1, .bool a1_2]] w fun e w' => e = .returned (.bool r) ∧ Below w.heap.size w w' := by
  have hu78 := Try.underlying78
  have HB := Aside0.mk (Below.refl w.heap.size w)
  have H : (if a0_0 = a1_0 then (if a0_1 = a1_1 then (if (a0_2 != a1_2) = true then (some false) else (some true)) else (some false)) else (some false)) = some r := h
  clear h
  go_enter Try.func85, Try.ntmps85
  repeat' (first | ((with_reducible refine gate_dst (N := 2) rfl ?_); refine box_event ?hg (N := 2) ?hd (cs := #[.int .i64 a0_0, .int .i64 a0_1, .bool a0_2]) (t := 78) ?hr ?_; (case hd => rfl); (case hg => rfl); (case hr => first | (go_simp; done) | (go_simp; rfl)); intro gb178 hg w6 hbox hb; have n0_ := Aside0.mk Z3_8; have n1_ := Aside0.mk (hbox); have n2_ := Aside0.mk Z3_6; have n3_ := Aside0.mk Z3_6; clear HB; have HB := n0_; have BK178 := n1_; have GW178 := n2_; have GE178 := n3_; clear n0_ n1_ n2_ n3_; clear hb hbox hg) | ((fail_if_success (with_reducible refine gate_dst (N := 3) rfl ?_)); (first | go_values | go_skip | go_guarded | go_step | go_upon | go_back | (simp only [Int.not_lt, Int.not_le] at *; go_simp) | (go_ite <;> go_prune <;> (try go_simp)) | (split <;> (first | (rename_i hx; exact (hx _ rfl).elim) | go_prune)))))
  by_cases c3 : a0_0 = a1_0
  rotate_left
  · rw [if_neg c3] at H
    have c3b0 : (a0_0 == a1_0) = false := beq_eq_false_iff_ne.mpr c3
    have c3b1 : (a0_0 != a1_0) = true := bne_iff_ne.mpr c3
    obtain rfl := Option.some.inj H
    go_wp2_with (first | ((with_reducible refine gate_dst (N := 3) rfl ?_); refine box_event ?hg (N := 3) ?hd (cs := #[.int .i64 a1_0, .int .i64 a1_1, .bool a1_2]) (t := 78) ?hr ?_; (case hd => rfl); (case hg => rfl); (case hr => first | (go_simp; done) | (go_simp; rfl)); intro gb179 hg w7 hbox hb; have n0_ := Aside0.mk Z3_4; have n1_ := Aside0.mk Z3_7; have n2_ := Aside0.mk (hbox); have n3_ := Aside0.mk Z3_3; have n4_ := Aside0.mk Z3_3; have n5_ := Aside0.mk Z3_1; have n6_ := Aside0.mk Z3_2; clear BK178; clear HB; have BK178 := n0_; have HB := n1_; have BK179 := n2_; have GW179 := n3_; have GE179 := n4_; have NB178_179 := n5_; have NB179_178 := n6_; clear n0_ n1_ n2_ n3_ n4_ n5_ n6_; clear hb hbox hg; have hnb8 := NB178_179.out; have hnc8 := NB179_178.out; obtain ⟨⟨hcz9_0, hcz9_1, hcz9_2⟩, hfz9_0, hfz9_1, hfz9_2⟩ := C3_3 BK178.out; obtain ⟨⟨hcz10_0, hcz10_1, hcz10_2⟩, hfz10_0, hfz10_1, hfz10_2⟩ := C3_3 BK179.out))
    go_ret
    exact ⟨Z3_12, Z3_5⟩
  rw [if_pos c3] at H
  have c3b0 : (a0_0 == a1_0) = true := beq_iff_eq.mpr c3
  have c3b1 : (a0_0 != a1_0) = false := bne_eq_false_iff_eq.mpr c3
  clear c3
  by_cases c4 : a0_1 = a1_1
  rotate_left
  · rw [if_neg c4] at H
    have c4b0 : (a0_1 == a1_1) = false := beq_eq_false_iff_ne.mpr c4
    have c4b1 : (a0_1 != a1_1) = true := bne_iff_ne.mpr c4
    obtain rfl := Option.some.inj H
    go_wp2_with (first | ((with_reducible refine gate_dst (N := 3) rfl ?_); refine box_event ?hg (N := 3) ?hd (cs := #[.int .i64 a1_0, .int .i64 a1_1, .bool a1_2]) (t := 78) ?hr ?_; (case hd => rfl); (case hg => rfl); (case hr => first | (go_simp; done) | (go_simp; rfl)); intro gb179 hg w7 hbox hb; have n0_ := Aside0.mk Z3_4; have n1_ := Aside0.mk Z3_7; have n2_ := Aside0.mk (hbox); have n3_ := Aside0.mk Z3_3; have n4_ := Aside0.mk Z3_3; have n5_ := Aside0.mk Z3_1; have n6_ := Aside0.mk Z3_2; clear BK178; clear HB; have BK178 := n0_; have HB := n1_; have BK179 := n2_; have GW179 := n3_; have GE179 := n4_; have NB178_179 := n5_; have NB179_178 := n6_; clear n0_ n1_ n2_ n3_ n4_ n5_ n6_; clear hb hbox hg; have hnb8 := NB178_179.out; have hnc8 := NB179_178.out; obtain ⟨⟨hcz9_0, hcz9_1, hcz9_2⟩, hfz9_0, hfz9_1, hfz9_2⟩ := C3_3 BK178.out; obtain ⟨⟨hcz10_0, hcz10_1, hcz10_2⟩, hfz10_0, hfz10_1, hfz10_2⟩ := C3_3 BK179.out))
    go_ret
    exact ⟨Z3_12, Z3_5⟩
  rw [if_pos c4] at H
  have c4b0 : (a0_1 == a1_1) = true := beq_iff_eq.mpr c4
  have c4b1 : (a0_1 != a1_1) = false := bne_eq_false_iff_eq.mpr c4
  clear c4
  by_cases c5 : (a0_2 != a1_2) = true
  rotate_left
  · rw [if_neg c5] at H
    have c5b0 : (a0_2 != a1_2) = false := by simpa using c5
    (try (have c5b1 : decide (a0_2 = a1_2) = true := by simpa using c5))
    (try (have c5b2 : (a0_2 == a1_2) = true := by simpa using c5))
    clear c5
    obtain rfl := Option.some.inj H
    go_wp2_with (first | ((with_reducible refine gate_dst (N := 3) rfl ?_); refine box_event ?hg (N := 3) ?hd (cs := #[.int .i64 a1_0, .int .i64 a1_1, .bool a1_2]) (t := 78) ?hr ?_; (case hd => rfl); (case hg => rfl); (case hr => first | (go_simp; done) | (go_simp; rfl)); intro gb179 hg w7 hbox hb; have n0_ := Aside0.mk Z3_4; have n1_ := Aside0.mk Z3_7; have n2_ := Aside0.mk (hbox); have n3_ := Aside0.mk Z3_3; have n4_ := Aside0.mk Z3_3; have n5_ := Aside0.mk Z3_1; have n6_ := Aside0.mk Z3_2; clear BK178; clear HB; have BK178 := n0_; have HB := n1_; have BK179 := n2_; have GW179 := n3_; have GE179 := n4_; have NB178_179 := n5_; have NB179_178 := n6_; clear n0_ n1_ n2_ n3_ n4_ n5_ n6_; clear hb hbox hg; have hnb8 := NB178_179.out; have hnc8 := NB179_178.out; obtain ⟨⟨hcz9_0, hcz9_1, hcz9_2⟩, hfz9_0, hfz9_1, hfz9_2⟩ := C3_3 BK178.out; obtain ⟨⟨hcz10_0, hcz10_1, hcz10_2⟩, hfz10_0, hfz10_1, hfz10_2⟩ := C3_3 BK179.out))
    go_ret
    exact ⟨Z3_12, Z3_5⟩
  rw [if_pos c5] at H
  have c5b0 : (a0_2 != a1_2) = true := c5
  (try (have c5b1 : decide (a0_2 = a1_2) = false := by simpa using c5))
  (try (have c5b2 : (a0_2 == a1_2) = false := by simpa using c5))
  (try (have c5b3 : ¬ (a0_2 = a1_2) := by simpa using c5))
  clear c5
  obtain rfl := Option.some.inj H
  go_wp2_with (first | ((with_reducible refine gate_dst (N := 3) rfl ?_); refine box_event ?hg (N := 3) ?hd (cs := #[.int .i64 a1_0, .int .i64 a1_1, .bool a1_2]) (t := 78) ?hr ?_; (case hd => rfl); (case hg => rfl); (case hr => first | (go_simp; done) | (go_simp; rfl)); intro gb179 hg w7 hbox hb; have n0_ := Aside0.mk Z3_4; have n1_ := Aside0.mk Z3_7; have n2_ := Aside0.mk (hbox); have n3_ := Aside0.mk Z3_3; have n4_ := Aside0.mk Z3_3; have n5_ := Aside0.mk Z3_1; have n6_ := Aside0.mk Z3_2; clear BK178; clear HB; have BK178 := n0_; have HB := n1_; have BK179 := n2_; have GW179 := n3_; have GE179 := n4_; have NB178_179 := n5_; have NB179_178 := n6_; clear n0_ n1_ n2_ n3_ n4_ n5_ n6_; clear hb hbox hg; have hnb8 := NB178_179.out; have hnc8 := NB179_178.out; obtain ⟨⟨hcz9_0, hcz9_1, hcz9_2⟩, hfz9_0, hfz9_1, hfz9_2⟩ := C3_3 BK178.out; obtain ⟨⟨hcz10_0, hcz10_1, hcz10_2⟩, hfz10_0, hfz10_1, hfz10_2⟩ := C3_3 BK179.out))
  go_ret
  exact ⟨Z3_12, Z3_5⟩

end Go.Proofs.Ytnogcdmkpbfcmaa.QFnExactOnField
