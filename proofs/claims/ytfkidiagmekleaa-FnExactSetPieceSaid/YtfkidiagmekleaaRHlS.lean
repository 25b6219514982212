-- Written by a program of this session (patch_print.py over the print).
import Derived.Test.YtfkidiagmekleaaQAllx0
import Derived.Test.YtfkidiagmekleaaRHlP
namespace Go.Proofs.Ytfkidiagmekleaa.QAll
open Go.RowKit Go.Proofs.YtfkidiagmekleaaW.PrintWords Go.Proofs.YtfkidiagmekleaaW.PrintLast Go.Proofs.YtfkidiagmekleaaW.PrintMore
attribute [local go_sem] max2_int min2_int max_two min_two max_three min_three max_four min_four   -- for this text's walks alone
set_option linter.unusedVariables false
set_option linter.unusedSimpArgs false

/-! ### laws_heldSideS: function 122 -/
def laws_heldSideS.l0 : Nat → List (S71) → Int → Int → Option (Int)
  | 0, _, _, _ => none
  | k + 1, x0, x1, x5 => if x5 < (x0.length : Int) then (if 0 ≤ x5 then (if ((rd_T71 x0 x5).f0) = x1 then (if ((rd_T71 x0 x5).f1) = (wrap64 (x1 + 1)) then (if (((rd_T71 x0 x5).f2) != ((Int.tmod (wrap64 ((wrap64 (x1 + 1)) + 1)) 3) == 0)) = true then (some (-1)) else (laws_heldSideS.l0 k x0 (wrap64 ((wrap64 ((wrap64 (x1 + 1)) + 1)) + 1)) (wrap64 (x5 + 1)))) else (some (-1))) else (some (-1))) else (none)) else (some x1)
def laws_heldSideS.f (k : Nat) (l0 : List (S71)) (a1 : Int) : Option (Int) := laws_heldSideS.l0 k l0 a1 0
theorem laws_heldSideS.mono_l : ∀ k, (∀ y0 y1 y2, LeO (laws_heldSideS.l0 k y0 y1 y2) (laws_heldSideS.l0 (k + 1) y0 y1 y2))
  | 0 => fun _ _ _ r h => by simp [laws_heldSideS.l0] at h
  | k + 1 => by
    have ih0 := laws_heldSideS.mono_l k
    · intro y0 y1 y2
      unfold laws_heldSideS.l0
      repeat' first
      | (with_reducible exact ih0 _ _ _)
      | (with_reducible exact LeO.refl _)
      | (with_reducible exact LeO.none _)
      | (with_reducible refine LeO.ite ?_ ?_)
      | (with_reducible refine LeO.bind ?_ (fun _ => ?_))
      | exact ih0 _ _ _
      | exact LeO.none _
      | refine LeO.ite ?_ ?_
      | refine LeO.bind ?_ (fun _ => ?_)
theorem laws_heldSideS.mono : ∀ a0 a1 k, LeO (laws_heldSideS.f k a0 a1) (laws_heldSideS.f (k + 1) a0 a1) := by
  intro a0 a1 k
  have ih0 := laws_heldSideS.mono_l k
  unfold laws_heldSideS.f
  repeat' first
      | (with_reducible exact ih0 _ _ _)
      | (with_reducible exact LeO.refl _)
      | (with_reducible exact LeO.none _)
      | (with_reducible refine LeO.ite ?_ ?_)
      | (with_reducible refine LeO.bind ?_ (fun _ => ?_))
      | exact ih0 _ _ _
      | exact LeO.none _
      | refine LeO.ite ?_ ?_
      | refine LeO.bind ?_ (fun _ => ?_)
set_option maxHeartbeats 8000000 in
set_option maxRecDepth 100000 in
theorem laws_heldSideS.calls (k : Nat) (A0 : Option Addr) (c0 : Nat) (l0 : List (S71)) (a1 : Int) (r : Int) (w : World) (hr0 : Kd.C k71 w A0 l0.length l0) (hc0 : l0.length ≤ c0) (h : laws_heldSideS.f k l0 a1 = some r) :
    Calls Try.prog 122 #[.slice A0 l0.length c0, .int .i64 a1] w fun e w' => e = .returned (.int .i64 r) ∧ Drawn0 w w' := by
  have HR0 := Aside0.mk hr0
  have HC0 := Aside0.mk hc0
  clear hr0 hc0
  have H : (laws_heldSideS.l0 k l0 a1 0) = some r := h
  clear h
  have H' := Aside0.mk H
  clear H
  go_enter Try.func122, Try.ntmps122
  go_wp2
  go_loopg [1, 5] k (fun kq v1 v5 w' => ∃ (x1_1 : Int) (x5_1 : Int), v1 = .int .i64 x1_1 ∧ v5 = .int .i64 x5_1 ∧ Aside0 (laws_heldSideS.l0 kq l0 x1_1 x5_1 = some r) ∧ Aside0 (kq ≤ k) ∧ Drawn0 w w')
  case atStart => exact ⟨(a1), (0), (by first | rfl | (simp; done) | (simp [*]; done)), (by first | rfl | (simp; done) | (simp [*]; done)), H', ⟨Nat.le_refl _⟩, by repeat (first | exact Drawn0.refl _ | apply Drawn0.step)⟩
  case round =>
    clear H'
    try clear c1
    try clear p2
    obtain ⟨x1_1, x5_1, rfl, rfl, HA, HK1, ⟨m1, rfl⟩⟩ := hrel
    cases gk with
    | zero => exact absurd HA.out (by simp [laws_heldSideS.l0])
    | succ k1 =>
      have H := HA.out
      clear HA
      simp only [laws_heldSideS.l0] at H
      by_cases c3 : x5_1 < (l0.length : Int)
      · rw [if_pos c3] at H
        have c3b0 : decide (x5_1 < (l0.length : Int)) = true := decide_eq_true c3
        clear c3
        by_cases c4 : 0 ≤ x5_1
        · rw [if_pos c4] at H
          have c4b0 : decide (0 ≤ x5_1) = true := decide_eq_true c4
          clear c4
          by_cases c5 : ((rd_T71 l0 x5_1).f0) = x1_1
          · rw [if_pos c5] at H
            have c5b0 : (((rd_T71 l0 x5_1).f0) == x1_1) = true := beq_iff_eq.mpr c5
            have c5b1 : (((rd_T71 l0 x5_1).f0) != x1_1) = false := bne_eq_false_iff_eq.mpr c5
            clear c5
            by_cases c6 : ((rd_T71 l0 x5_1).f1) = (wrap64 (x1_1 + 1))
            · rw [if_pos c6] at H
              have c6b0 : (((rd_T71 l0 x5_1).f1) == (wrap64 (x1_1 + 1))) = true := beq_iff_eq.mpr c6
              have c6b1 : (((rd_T71 l0 x5_1).f1) != (wrap64 (x1_1 + 1))) = false := bne_eq_false_iff_eq.mpr c6
              clear c6
              by_cases c7 : (((rd_T71 l0 x5_1).f2) != ((Int.tmod (wrap64 ((wrap64 (x1_1 + 1)) + 1)) 3) == 0)) = true
              · rw [if_pos c7] at H
                have c7b0 : (((rd_T71 l0 x5_1).f2) != ((Int.tmod (wrap64 ((wrap64 (x1_1 + 1)) + 1)) 3) == 0)) = true := c7
                (try (have c7b1 : decide (((rd_T71 l0 x5_1).f2) = ((Int.tmod (wrap64 ((wrap64 (x1_1 + 1)) + 1)) 3) == 0)) = false := by simpa using c7))
                (try (have c7b2 : (((rd_T71 l0 x5_1).f2) == ((Int.tmod (wrap64 ((wrap64 (x1_1 + 1)) + 1)) 3) == 0)) = false := by simpa using c7))
                (try (have c7b3 : ¬ (((rd_T71 l0 x5_1).f2) = ((Int.tmod (wrap64 ((wrap64 (x1_1 + 1)) + 1)) 3) == 0)) := by simpa using c7))
                clear c7
                obtain rfl := Option.some.inj H
                have p1318 : 0 ≤ (x5_1 : Int) := of_decide_eq_true (by first | (with_reducible assumption) | assumption)
                have q1318 : x5_1 < (l0.length : Int) := of_decide_eq_true (by first | (with_reducible assumption) | assumption)
                obtain ⟨ad1318, e1318, hx1318_0, hx1318_1, hx1318_2⟩ := at_T71 HR0.out x5_1 p1318 q1318
                cases e1318
                replace p1318 := eq_true p1318
                replace q1318 := eq_true q1318
                go_wp2
                go_ret
                exact ⟨by first | rfl | (simp; done) | (simp [*]; done), by repeat (first | exact Drawn0.refl _ | apply Drawn0.step)⟩
              · rw [if_neg c7] at H
                have c7b0 : (((rd_T71 l0 x5_1).f2) != ((Int.tmod (wrap64 ((wrap64 (x1_1 + 1)) + 1)) 3) == 0)) = false := by simpa using c7
                (try (have c7b1 : decide (((rd_T71 l0 x5_1).f2) = ((Int.tmod (wrap64 ((wrap64 (x1_1 + 1)) + 1)) 3) == 0)) = true := by simpa using c7))
                (try (have c7b2 : (((rd_T71 l0 x5_1).f2) == ((Int.tmod (wrap64 ((wrap64 (x1_1 + 1)) + 1)) 3) == 0)) = true := by simpa using c7))
                clear c7
                have H' := Aside0.mk H
                clear H
                have p1318 : 0 ≤ (x5_1 : Int) := of_decide_eq_true (by first | (with_reducible assumption) | assumption)
                have q1318 : x5_1 < (l0.length : Int) := of_decide_eq_true (by first | (with_reducible assumption) | assumption)
                obtain ⟨ad1318, e1318, hx1318_0, hx1318_1, hx1318_2⟩ := at_T71 HR0.out x5_1 p1318 q1318
                cases e1318
                replace p1318 := eq_true p1318
                replace q1318 := eq_true q1318
                go_wp2
                go_roundg k1
                case measure => have := HK1.out; omega
                case rel => exact ⟨(wrap64 ((wrap64 ((wrap64 (x1_1 + 1)) + 1)) + 1)), (wrap64 (x5_1 + 1)), (by first | rfl | (simp; done) | (simp [*]; done)), (by first | rfl | (simp; done) | (simp [*]; done)), H', ⟨by have := HK1.out; omega⟩, by repeat (first | exact Drawn0.refl _ | apply Drawn0.step)⟩
            · rw [if_neg c6] at H
              have c6b0 : (((rd_T71 l0 x5_1).f1) == (wrap64 (x1_1 + 1))) = false := beq_eq_false_iff_ne.mpr c6
              have c6b1 : (((rd_T71 l0 x5_1).f1) != (wrap64 (x1_1 + 1))) = true := bne_iff_ne.mpr c6
              obtain rfl := Option.some.inj H
              have p1318 : 0 ≤ (x5_1 : Int) := of_decide_eq_true (by first | (with_reducible assumption) | assumption)
              have q1318 : x5_1 < (l0.length : Int) := of_decide_eq_true (by first | (with_reducible assumption) | assumption)
              obtain ⟨ad1318, e1318, hx1318_0, hx1318_1, hx1318_2⟩ := at_T71 HR0.out x5_1 p1318 q1318
              cases e1318
              replace p1318 := eq_true p1318
              replace q1318 := eq_true q1318
              go_wp2
              go_ret
              exact ⟨by first | rfl | (simp; done) | (simp [*]; done), by repeat (first | exact Drawn0.refl _ | apply Drawn0.step)⟩
          · rw [if_neg c5] at H
            have c5b0 : (((rd_T71 l0 x5_1).f0) == x1_1) = false := beq_eq_false_iff_ne.mpr c5
            have c5b1 : (((rd_T71 l0 x5_1).f0) != x1_1) = true := bne_iff_ne.mpr c5
            obtain rfl := Option.some.inj H
            have p1318 : 0 ≤ (x5_1 : Int) := of_decide_eq_true (by first | (with_reducible assumption) | assumption)
            have q1318 : x5_1 < (l0.length : Int) := of_decide_eq_true (by first | (with_reducible assumption) | assumption)
            obtain ⟨ad1318, e1318, hx1318_0, hx1318_1, hx1318_2⟩ := at_T71 HR0.out x5_1 p1318 q1318
            cases e1318
            replace p1318 := eq_true p1318
            replace q1318 := eq_true q1318
            go_wp2
            go_ret
            exact ⟨by first | rfl | (simp; done) | (simp [*]; done), by repeat (first | exact Drawn0.refl _ | apply Drawn0.step)⟩
        · rw [if_neg c4] at H
          exact absurd H (by simp)
      · rw [if_neg c3] at H
        have c3b0 : decide (x5_1 < (l0.length : Int)) = false := decide_eq_false c3
        clear c3
        obtain rfl := Option.some.inj H
        go_wp2
        go_ret
        exact ⟨by first | rfl | (simp; done) | (simp [*]; done), by repeat (first | exact Drawn0.refl _ | apply Drawn0.step)⟩

/-! ### laws_heldState: function 61 -/
def laws_heldState.f (k : Nat) (l0_0 : List (S25)) (l0_1 : List (S71)) (a0_2 : Int) (a0_3 : Int) (a1 : Int) : Option (Int) := (laws_heldPieceS.f k l0_0 a1).bind fun t1322 => (if t1322 < 0 then (some (-1)) else ((laws_heldSideS.f k l0_1 t1322).bind fun t1323 => (if t1323 < 0 then (some (-1)) else (some t1323))))
theorem laws_heldState.mono : ∀ a0 a1 a2 a3 a4 k, LeO (laws_heldState.f k a0 a1 a2 a3 a4) (laws_heldState.f (k + 1) a0 a1 a2 a3 a4) := by
  intro a0 a1 a2 a3 a4 k
  unfold laws_heldState.f
  repeat' first
      | (with_reducible exact laws_heldPieceS.mono _ _ _)
      | (with_reducible exact laws_heldSideS.mono _ _ _)
      | (with_reducible exact LeO.refl _)
      | (with_reducible exact LeO.none _)
      | (with_reducible refine LeO.ite ?_ ?_)
      | (with_reducible refine LeO.bind ?_ (fun _ => ?_))
      | exact laws_heldPieceS.mono _ _ _
      | exact laws_heldSideS.mono _ _ _
      | exact LeO.none _
      | refine LeO.ite ?_ ?_
      | refine LeO.bind ?_ (fun _ => ?_)
set_option maxHeartbeats 8000000 in
set_option maxRecDepth 100000 in
theorem laws_heldState.calls (k : Nat) (A0_0 : Option Addr) (c0_0 : Nat) (l0_0 : List (S25)) (A0_1 : Option Addr) (c0_1 : Nat) (l0_1 : List (S71)) (a0_2 : Int) (a0_3 : Int) (a1 : Int) (r : Int) (w : World) (hr0_0 : Kd.C k25 w A0_0 l0_0.length l0_0) (hc0_0 : l0_0.length ≤ c0_0) (hr0_1 : Kd.C k71 w A0_1 l0_1.length l0_1) (hc0_1 : l0_1.length ≤ c0_1) (h : laws_heldState.f k l0_0 l0_1 a0_2 a0_3 a1 = some r) :
    Calls Try.prog 61 #[.agg #[.slice A0_0 l0_0.length c0_0, .slice A0_1 l0_1.length c0_1, .int .i64 a0_2, .int .i64 a0_3], .int .i64 a1] w fun e w' => e = .returned (.int .i64 r) ∧ Below w.heap.size w w' := by
  have hu56 := Try.underlying56
  have HR0_0 := Aside0.mk hr0_0
  have HC0_0 := Aside0.mk hc0_0
  clear hr0_0 hc0_0
  have HR0_1 := Aside0.mk hr0_1
  have HC0_1 := Aside0.mk hc0_1
  clear hr0_1 hc0_1
  have HB := Aside0.mk (Below.refl w.heap.size w)
  have H : ((laws_heldPieceS.f k l0_0 a1).bind fun t1322 => (if t1322 < 0 then (some (-1)) else ((laws_heldSideS.f k l0_1 t1322).bind fun t1323 => (if t1323 < 0 then (some (-1)) else (some t1323))))) = some r := h
  clear h
  replace H := Option.bind_eq_some_iff.mp H
  obtain ⟨t1322, A30, H⟩ := H
  replace H : (if t1322 < 0 then (some (-1)) else ((laws_heldSideS.f k l0_1 t1322).bind fun t1323 => (if t1323 < 0 then (some (-1)) else (some t1323)))) = some r := H
  have A3 := Aside0.mk A30
  clear A30
  by_cases c4 : t1322 < 0
  · rw [if_pos c4] at H
    have c4b0 : decide (t1322 < 0) = true := decide_eq_true c4
    clear c4
    obtain rfl := Option.some.inj H
    go_enter Try.func61, Try.ntmps61
    go_wp2_with (first | ((with_reducible refine gate_dst (N := 2) rfl ?_); refine box_event ?hg (N := 2) ?hd (cs := #[.slice A0_0 l0_0.length c0_0, .slice A0_1 l0_1.length c0_1, .int .i64 a0_2, .int .i64 a0_3]) (t := 56) ?hr ?_; (case hd => rfl); (case hg => rfl); (case hr => first | (go_simp; done) | (go_simp; rfl)); intro gb1321 hg w5 hbox hb; have n0_ := Aside0.mk (below_step (by repeat (first | (with_reducible first | exact HB.out | apply below_alloc | apply pw_below_drewN | apply below_drew1) | exact HB.out)) hb); have n1_ := Aside0.mk (hbox); have n2_ := Aside0.mk ((by rw [hg]; exact (below_size (by repeat (first | (with_reducible first | exact HB.out | apply below_alloc | apply pw_below_drewN | apply below_drew1) | exact HB.out))) : w.heap.size ≤ gb1321)); have n3_ := Aside0.mk ((by rw [hg]; exact (below_size (by repeat (first | (with_reducible first | exact HB.out | apply below_alloc | apply pw_below_drewN | apply below_drew1) | exact HB.out))) : w.heap.size ≤ gb1321)); clear HB; have HB := n0_; have BK1321 := n1_; have GW1321 := n2_; have GE1321 := n3_; clear n0_ n1_ n2_ n3_; clear hb hbox hg; have hcz6_0 : w5.cell? ⟨gb1321, 0, none⟩ = some (.slice A0_0 l0_0.length c0_0) := (blk_cell BK1321.out 0).trans rfl; have hcz6_1 : w5.cell? ⟨gb1321, 1, none⟩ = some (.slice A0_1 l0_1.length c0_1) := (blk_cell BK1321.out 1).trans rfl; have hcz6_2 : w5.cell? ⟨gb1321, 2, none⟩ = some (.int .i64 a0_2) := (blk_cell BK1321.out 2).trans rfl; have hcz6_3 : w5.cell? ⟨gb1321, 3, none⟩ = some (.int .i64 a0_3) := (blk_cell BK1321.out 3).trans rfl; have hfz6_0 := blk_frozen BK1321.out 0; have hfz6_1 := blk_frozen BK1321.out 1; have hfz6_2 := blk_frozen BK1321.out 2; have hfz6_3 := blk_frozen BK1321.out 3) | ((with_reducible refine gate_callee (f := 121) rfl ?_); refine goesL_ (some 8) rfl rfl Try.func121 (by kernel_rfl) rfl #[.slice A0_0 l0_0.length c0_0, .int .i64 a1] rfl (by (try simp only [List.map_toArray, List.map_cons, List.map_nil]); first | done | rfl | (simp only [List.length_drop, List.length_take]; rfl)) ?_; (with_reducible refine (laws_heldPieceS.calls k _ _ l0_0 a1 t1322 _ ?side1 ?side2 A3.out).mono ?_); (case side1 => repeat (first | exact (Kd.C_below HR0_0.out HB.out) | (with_reducible refine Kd.C_alloc ?_ _) | (with_reducible refine Kd.C_drewN ?_ _) | (with_reducible refine Kd.C_drew ?_))); (case side2 => exact HC0_0.out); rintro e w' ⟨rfl, ⟨nd, rfl⟩⟩; refine ⟨_, rfl, ?_⟩))
    go_ret
    exact ⟨by first | rfl | (simp [errW_none, errW_some] <;> rfl) | (simp [*, errW_none, errW_some] <;> rfl), by repeat (first | (with_reducible first | exact HB.out | apply below_alloc | apply pw_below_drewN | apply below_drew1 | refine below_set ?_ GE1321.out) | exact HB.out)⟩
  · rw [if_neg c4] at H
    have c4b0 : decide (t1322 < 0) = false := decide_eq_false c4
    clear c4
    replace H := Option.bind_eq_some_iff.mp H
    obtain ⟨t1323, A70, H⟩ := H
    replace H : (if t1323 < 0 then (some (-1)) else (some t1323)) = some r := H
    have A7 := Aside0.mk A70
    clear A70
    by_cases c8 : t1323 < 0
    · rw [if_pos c8] at H
      have c8b0 : decide (t1323 < 0) = true := decide_eq_true c8
      clear c8
      obtain rfl := Option.some.inj H
      go_enter Try.func61, Try.ntmps61
      go_wp2_with (first | ((with_reducible refine gate_dst (N := 2) rfl ?_); refine box_event ?hg (N := 2) ?hd (cs := #[.slice A0_0 l0_0.length c0_0, .slice A0_1 l0_1.length c0_1, .int .i64 a0_2, .int .i64 a0_3]) (t := 56) ?hr ?_; (case hd => rfl); (case hg => rfl); (case hr => first | (go_simp; done) | (go_simp; rfl)); intro gb1321 hg w9 hbox hb; have n0_ := Aside0.mk (below_step (by repeat (first | (with_reducible first | exact HB.out | apply below_alloc | apply pw_below_drewN | apply below_drew1) | exact HB.out)) hb); have n1_ := Aside0.mk (hbox); have n2_ := Aside0.mk ((by rw [hg]; exact (below_size (by repeat (first | (with_reducible first | exact HB.out | apply below_alloc | apply pw_below_drewN | apply below_drew1) | exact HB.out))) : w.heap.size ≤ gb1321)); have n3_ := Aside0.mk ((by rw [hg]; exact (below_size (by repeat (first | (with_reducible first | exact HB.out | apply below_alloc | apply pw_below_drewN | apply below_drew1) | exact HB.out))) : w.heap.size ≤ gb1321)); clear HB; have HB := n0_; have BK1321 := n1_; have GW1321 := n2_; have GE1321 := n3_; clear n0_ n1_ n2_ n3_; clear hb hbox hg; have hcz10_0 : w9.cell? ⟨gb1321, 0, none⟩ = some (.slice A0_0 l0_0.length c0_0) := (blk_cell BK1321.out 0).trans rfl; have hcz10_1 : w9.cell? ⟨gb1321, 1, none⟩ = some (.slice A0_1 l0_1.length c0_1) := (blk_cell BK1321.out 1).trans rfl; have hcz10_2 : w9.cell? ⟨gb1321, 2, none⟩ = some (.int .i64 a0_2) := (blk_cell BK1321.out 2).trans rfl; have hcz10_3 : w9.cell? ⟨gb1321, 3, none⟩ = some (.int .i64 a0_3) := (blk_cell BK1321.out 3).trans rfl; have hfz10_0 := blk_frozen BK1321.out 0; have hfz10_1 := blk_frozen BK1321.out 1; have hfz10_2 := blk_frozen BK1321.out 2; have hfz10_3 := blk_frozen BK1321.out 3) | ((with_reducible refine gate_callee (f := 121) rfl ?_); refine goesL_ (some 8) rfl rfl Try.func121 (by kernel_rfl) rfl #[.slice A0_0 l0_0.length c0_0, .int .i64 a1] rfl (by (try simp only [List.map_toArray, List.map_cons, List.map_nil]); first | done | rfl | (simp only [List.length_drop, List.length_take]; rfl)) ?_; (with_reducible refine (laws_heldPieceS.calls k _ _ l0_0 a1 t1322 _ ?side1 ?side2 A3.out).mono ?_); (case side1 => repeat (first | exact (Kd.C_below HR0_0.out HB.out) | (with_reducible refine Kd.C_alloc ?_ _) | (with_reducible refine Kd.C_drewN ?_ _) | (with_reducible refine Kd.C_drew ?_))); (case side2 => exact HC0_0.out); rintro e w' ⟨rfl, ⟨nd, rfl⟩⟩; refine ⟨_, rfl, ?_⟩) | ((with_reducible refine gate_callee (f := 122) rfl ?_); refine goesL_ (some 14) rfl rfl Try.func122 (by kernel_rfl) rfl #[.slice A0_1 l0_1.length c0_1, .int .i64 t1322] rfl (by (try simp only [List.map_toArray, List.map_cons, List.map_nil]); first | done | rfl | (simp only [List.length_drop, List.length_take]; rfl)) ?_; (with_reducible refine (laws_heldSideS.calls k _ _ l0_1 t1322 t1323 _ ?side1 ?side2 A7.out).mono ?_); (case side1 => repeat (first | exact (Kd.C_below HR0_1.out (by repeat (first | (with_reducible first | exact HB.out | apply below_alloc | apply pw_below_drewN | apply below_drew1 | refine below_set ?_ GE1321.out) | exact HB.out))) | (with_reducible refine Kd.C_alloc ?_ _) | (with_reducible refine Kd.C_drewN ?_ _) | (with_reducible refine Kd.C_drew ?_))); (case side2 => exact HC0_1.out); rintro e w' ⟨rfl, ⟨nd, rfl⟩⟩; refine ⟨_, rfl, ?_⟩))
      go_ret
      exact ⟨by first | rfl | (simp [errW_none, errW_some] <;> rfl) | (simp [*, errW_none, errW_some] <;> rfl), by repeat (first | (with_reducible first | exact HB.out | apply below_alloc | apply pw_below_drewN | apply below_drew1 | refine below_set ?_ GE1321.out) | exact HB.out)⟩
    · rw [if_neg c8] at H
      have c8b0 : decide (t1323 < 0) = false := decide_eq_false c8
      clear c8
      obtain rfl := Option.some.inj H
      go_enter Try.func61, Try.ntmps61
      go_wp2_with (first | ((with_reducible refine gate_dst (N := 2) rfl ?_); refine box_event ?hg (N := 2) ?hd (cs := #[.slice A0_0 l0_0.length c0_0, .slice A0_1 l0_1.length c0_1, .int .i64 a0_2, .int .i64 a0_3]) (t := 56) ?hr ?_; (case hd => rfl); (case hg => rfl); (case hr => first | (go_simp; done) | (go_simp; rfl)); intro gb1321 hg w11 hbox hb; have n0_ := Aside0.mk (below_step (by repeat (first | (with_reducible first | exact HB.out | apply below_alloc | apply pw_below_drewN | apply below_drew1) | exact HB.out)) hb); have n1_ := Aside0.mk (hbox); have n2_ := Aside0.mk ((by rw [hg]; exact (below_size (by repeat (first | (with_reducible first | exact HB.out | apply below_alloc | apply pw_below_drewN | apply below_drew1) | exact HB.out))) : w.heap.size ≤ gb1321)); have n3_ := Aside0.mk ((by rw [hg]; exact (below_size (by repeat (first | (with_reducible first | exact HB.out | apply below_alloc | apply pw_below_drewN | apply below_drew1) | exact HB.out))) : w.heap.size ≤ gb1321)); clear HB; have HB := n0_; have BK1321 := n1_; have GW1321 := n2_; have GE1321 := n3_; clear n0_ n1_ n2_ n3_; clear hb hbox hg; have hcz12_0 : w11.cell? ⟨gb1321, 0, none⟩ = some (.slice A0_0 l0_0.length c0_0) := (blk_cell BK1321.out 0).trans rfl; have hcz12_1 : w11.cell? ⟨gb1321, 1, none⟩ = some (.slice A0_1 l0_1.length c0_1) := (blk_cell BK1321.out 1).trans rfl; have hcz12_2 : w11.cell? ⟨gb1321, 2, none⟩ = some (.int .i64 a0_2) := (blk_cell BK1321.out 2).trans rfl; have hcz12_3 : w11.cell? ⟨gb1321, 3, none⟩ = some (.int .i64 a0_3) := (blk_cell BK1321.out 3).trans rfl; have hfz12_0 := blk_frozen BK1321.out 0; have hfz12_1 := blk_frozen BK1321.out 1; have hfz12_2 := blk_frozen BK1321.out 2; have hfz12_3 := blk_frozen BK1321.out 3) | ((with_reducible refine gate_callee (f := 121) rfl ?_); refine goesL_ (some 8) rfl rfl Try.func121 (by kernel_rfl) rfl #[.slice A0_0 l0_0.length c0_0, .int .i64 a1] rfl (by (try simp only [List.map_toArray, List.map_cons, List.map_nil]); first | done | rfl | (simp only [List.length_drop, List.length_take]; rfl)) ?_; (with_reducible refine (laws_heldPieceS.calls k _ _ l0_0 a1 t1322 _ ?side1 ?side2 A3.out).mono ?_); (case side1 => repeat (first | exact (Kd.C_below HR0_0.out HB.out) | (with_reducible refine Kd.C_alloc ?_ _) | (with_reducible refine Kd.C_drewN ?_ _) | (with_reducible refine Kd.C_drew ?_))); (case side2 => exact HC0_0.out); rintro e w' ⟨rfl, ⟨nd, rfl⟩⟩; refine ⟨_, rfl, ?_⟩) | ((with_reducible refine gate_callee (f := 122) rfl ?_); refine goesL_ (some 14) rfl rfl Try.func122 (by kernel_rfl) rfl #[.slice A0_1 l0_1.length c0_1, .int .i64 t1322] rfl (by (try simp only [List.map_toArray, List.map_cons, List.map_nil]); first | done | rfl | (simp only [List.length_drop, List.length_take]; rfl)) ?_; (with_reducible refine (laws_heldSideS.calls k _ _ l0_1 t1322 t1323 _ ?side1 ?side2 A7.out).mono ?_); (case side1 => repeat (first | exact (Kd.C_below HR0_1.out (by repeat (first | (with_reducible first | exact HB.out | apply below_alloc | apply pw_below_drewN | apply below_drew1 | refine below_set ?_ GE1321.out) | exact HB.out))) | (with_reducible refine Kd.C_alloc ?_ _) | (with_reducible refine Kd.C_drewN ?_ _) | (with_reducible refine Kd.C_drew ?_))); (case side2 => exact HC0_1.out); rintro e w' ⟨rfl, ⟨nd, rfl⟩⟩; refine ⟨_, rfl, ?_⟩))
      go_ret
      exact ⟨by first | rfl | (simp [errW_none, errW_some] <;> rfl) | (simp [*, errW_none, errW_some] <;> rfl), by repeat (first | (with_reducible first | exact HB.out | apply below_alloc | apply pw_below_drewN | apply below_drew1 | refine below_set ?_ GE1321.out) | exact HB.out)⟩




end Go.Proofs.Ytfkidiagmekleaa.QAll
