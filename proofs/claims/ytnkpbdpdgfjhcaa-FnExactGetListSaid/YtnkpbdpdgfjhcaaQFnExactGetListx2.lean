-- Written by a program of this session (patch_print.py over the print).
import Derived.Test.YtnkpbdpdgfjhcaaQFnExactGetListx0
import Derived.Test.YtnkpbdpdgfjhcaaQFnExactGetListx1
namespace Go.Proofs.Ytnkpbdpdgfjhcaa.QFnExactGetList
open Go.RowKit Go.Proofs.YtnkpbdpdgfjhcaaW.PrintWords Go.Proofs.YtnkpbdpdgfjhcaaW.PrintLast Go.Proofs.YtnkpbdpdgfjhcaaW.PrintMore
attribute [local go_sem] max2_int min2_int max_two min_two max_three min_three max_four min_four   -- for this text's walks alone
set_option linter.unusedVariables false
set_option linter.unusedSimpArgs false

/-! ### spec_GetList: function 44 -/
mutual
def spec_GetList.j0 : Nat → List Int → Int → List Int → Bool → Option (List Int × Int × Bool)
  | 0, _, _, _, _ => none
  | k + 1, x0, x1, x7, x21 => if x21 = true then (some (x7, 0, false)) else (if 0 ≤ x1 then (if x1 < (x0.length : Int) then (spec_GetList.l0 k x0 x7 (wrap64 (x1 + 1)) (wrap64 (rd x0 x1))) else (none)) else (none))
def spec_GetList.l0 : Nat → List Int → List Int → Int → Int → Option (List Int × Int × Bool)
  | 0, _, _, _, _ => none
  | k + 1, x0, x7, x8, x9 => if x9 > 0 then ((spec_GetNum.f k x0 x8).bind fun bt117 => (if bt117.2.2 = true then (if x7.length < 17592186044416 then (spec_GetList.l0 k x0 (x7 ++ [bt117.1]) bt117.2.1 (wrap64 (x9 - 1))) else (none)) else (some ((([] : List Int)), 0, false)))) else (some (x7, x8, true))
end
def spec_GetList.f (k : Nat) (l0 : List Int) (a1 : Int) : Option (List Int × Int × Bool) := (some (([] : List Int) : List Int)).bind fun y113 => (if a1 < 0 then (spec_GetList.j0 k l0 a1 y113 true) else (spec_GetList.j0 k l0 a1 y113 (decide (a1 ≥ (l0.length : Int)))))
theorem spec_GetList.mono_l : ∀ k, (∀ y0 y1 y2 y3, LeO (spec_GetList.j0 k y0 y1 y2 y3) (spec_GetList.j0 (k + 1) y0 y1 y2 y3)) ∧ (∀ y0 y1 y2 y3, LeO (spec_GetList.l0 k y0 y1 y2 y3) (spec_GetList.l0 (k + 1) y0 y1 y2 y3))
  | 0 => ⟨fun _ _ _ _ r h => by simp [spec_GetList.j0] at h, fun _ _ _ _ r h => by simp [spec_GetList.l0] at h⟩
  | k + 1 => by
    obtain ⟨ih0, ih1⟩ := spec_GetList.mono_l k
    refine ⟨?_, ?_⟩
    · intro y0 y1 y2 y3
      unfold spec_GetList.j0
      repeat' first
      | (with_reducible exact ih0 _ _ _ _)
      | (with_reducible exact ih1 _ _ _ _)
      | (with_reducible exact spec_GetNum.mono _ _ _)
      | (with_reducible exact LeO.refl _)
      | (with_reducible exact LeO.none _)
      | (with_reducible refine LeO.ite ?_ ?_)
      | (with_reducible refine LeO.bind ?_ (fun _ => ?_))
      | exact ih0 _ _ _ _
      | exact ih1 _ _ _ _
      | exact spec_GetNum.mono _ _ _
      | exact LeO.none _
      | refine LeO.ite ?_ ?_
      | refine LeO.bind ?_ (fun _ => ?_)
    · intro y0 y1 y2 y3
      unfold spec_GetList.l0
      repeat' first
      | (with_reducible exact ih0 _ _ _ _)
      | (with_reducible exact ih1 _ _ _ _)
      | (with_reducible exact spec_GetNum.mono _ _ _)
      | (with_reducible exact LeO.refl _)
      | (with_reducible exact LeO.none _)
      | (with_reducible refine LeO.ite ?_ ?_)
      | (with_reducible refine LeO.bind ?_ (fun _ => ?_))
      | exact ih0 _ _ _ _
      | exact ih1 _ _ _ _
      | exact spec_GetNum.mono _ _ _
      | exact LeO.none _
      | refine LeO.ite ?_ ?_
      | refine LeO.bind ?_ (fun _ => ?_)
theorem spec_GetList.mono : ∀ a0 a1 k, LeO (spec_GetList.f k a0 a1) (spec_GetList.f (k + 1) a0 a1) := by
  intro a0 a1 k
  obtain ⟨ih0, ih1⟩ := spec_GetList.mono_l k
  unfold spec_GetList.f
  repeat' first
      | (with_reducible exact ih0 _ _ _ _)
      | (with_reducible exact ih1 _ _ _ _)
      | (with_reducible exact spec_GetNum.mono _ _ _)
      | (with_reducible exact LeO.refl _)
      | (with_reducible exact LeO.none _)
      | (with_reducible refine LeO.ite ?_ ?_)
      | (with_reducible refine LeO.bind ?_ (fun _ => ?_))
      | exact ih0 _ _ _ _
      | exact ih1 _ _ _ _
      | exact spec_GetNum.mono _ _ _
      | exact LeO.none _
      | refine LeO.ite ?_ ?_
      | refine LeO.bind ?_ (fun _ => ?_)
set_option maxHeartbeats 8000000 in
set_option maxRecDepth 100000 in
theorem spec_GetList.calls (k : Nat) (A0 : Option Addr) (c0 : Nat) (l0 : List Int) (a1 : Int) (r1 : List Int) (r2 : Int) (r3 : Bool) (w : World) (hr0 : Kd.C (Kd.int .u8) w A0 l0.length l0) (hc0 : l0.length ≤ c0) (h : spec_GetList.f k l0 a1 = some (r1, r2, r3)) :
    Calls Try.prog 44 #[.slice A0 l0.length c0, .int .i64 a1] w fun e w' => ∃ v0_ : Value, e = .returned (.tuple #[v0_, .int .i64 r2, .bool r3]) ∧ Kd.R (Kd.int .i64) 3 w' w.heap.size (fun _ => True) v0_ r1 ∧ Below w.heap.size w w' := by
  have HR0 := Aside0.mk hr0
  have HC0 := Aside0.mk hc0
  clear hr0 hc0
  have HB := Aside0.mk (Below.refl w.heap.size w)
  have H : ((some (([] : List Int) : List Int)).bind fun y113 => (if a1 < 0 then (spec_GetList.j0 k l0 a1 y113 true) else (spec_GetList.j0 k l0 a1 y113 (decide (a1 ≥ (l0.length : Int)))))) = some (r1, r2, r3) := h
  clear h
  obtain ⟨y113, hy113⟩ : ∃ y_ : List Int, y_ = (([] : List Int)) := ⟨_, rfl⟩
  replace H : (if a1 < 0 then (spec_GetList.j0 k l0 a1 y113 true) else (spec_GetList.j0 k l0 a1 y113 (decide (a1 ≥ (l0.length : Int))))) = some (r1, r2, r3) := by first | (rw [hy113]; with_reducible exact H) | (have H2_ := (Option.bind_some _ _).symm.trans H; rw [hy113]; with_reducible exact H2_) | (have H2_ := (Option.bind_some _ _).symm.trans H; with_reducible exact H2_) | with_reducible exact H | (rw [hy113]; exact H) | exact H
  have Ny113 := Aside0.mk hy113
  clear hy113
  have HC3 := Aside0.mk H
  clear H
  go_enter Try.func44, Try.ntmps44
  go_upto_region 2 with (first | ((with_reducible refine gate_dst (N := 13) rfl ?_); (try (refine gate_guard (by rfl) ?_; dsimp only)); refine Kd.R_lit (Kd.int .i64) _ 3 ?hg (N := 13) ?hd (xs := ([] : List Int)) (inner := []) (ok := fun _ => True) (okp := fun _ => True) ?hr ?hp (fun _ hk => hk) trivial (Below.refl _ _) (Nat.le_refl _) (by simp) ?_; (case hd => rfl); (case hg => rfl); (case hr => first | (go_simp; done) | (go_simp; rfl)); (case hp => exact (Reps.none _ _)); intro v114 w4 ho5 hb hg_ hnew_; clear hg_ hnew_; (first | rw [← Ny113.out] at ho5 | (simp only [Int.reduceToNat] at ho5; rw [← Ny113.out] at ho5)); have n0_ := Aside0.mk (Kd.R_lower ho5 (below_size (by repeat (first | (with_reducible first | exact HB.out | apply below_alloc | apply pw_below_drewN | apply below_drew1) | exact HB.out)))); have n1_ := Aside0.mk (below_step (by repeat (first | (with_reducible first | exact HB.out | apply below_alloc | apply pw_below_drewN | apply below_drew1) | exact HB.out)) hb); clear HB; have HO115 := n0_; have HB := n1_; clear n0_ n1_; clear hb ho5))
  (try simp only [Act.put, List.setIfInBounds_toArray, List.set_cons_zero, List.set_cons_succ])
  go_cut [21] (fun v21 wc => ∃ (kq : Nat) (x21_2 : Bool), v21 = .bool x21_2 ∧ Aside0 (spec_GetList.j0 kq l0 a1 y113 x21_2 = some (r1, r2, r3)) ∧ Aside0 (kq ≤ k) ∧ Aside0 (Kd.R (Kd.int .i64) 3 wc w.heap.size (fun _ => True) v114 y113) ∧ Aside0 (Below w.heap.size w wc))
  case first =>
    have H := HC3.out
    clear HC3
    by_cases c6 : a1 < 0
    · rw [if_pos c6] at H
      have c6b0 : decide (a1 < 0) = true := decide_eq_true c6
      clear c6
      (first | rw [c6b0] | (simp only [i64_w, i32_w]; rw [c6b0]) | skip)
      have H' := Aside0.mk H
      clear H
      go_wp2
      go_meet
      case rel => exact ⟨_, (true), (by first | rfl | (simp; done) | (simp [*]; done)), H', ⟨by first | omega | exact Nat.le_refl _⟩, ⟨by (with_reducible repeat (first | apply Kd.R_alloc | apply Kd.R_drewN | apply Kd.R_drew)); exact HO115.out⟩, ⟨by repeat (first | (with_reducible first | exact HB.out | apply below_alloc | apply pw_below_drewN | apply below_drew1) | exact HB.out)⟩⟩
    · rw [if_neg c6] at H
      have c6b0 : decide (a1 < 0) = false := decide_eq_false c6
      clear c6
      (first | rw [c6b0] | (simp only [i64_w, i32_w]; rw [c6b0]) | skip)
      have H' := Aside0.mk H
      clear H
      go_wp2
      go_meet
      case rel => exact ⟨_, (decide (a1 ≥ (l0.length : Int))), (by first | rfl | (simp; done) | (simp [*]; done)), H', ⟨by first | omega | exact Nat.le_refl _⟩, ⟨by (with_reducible repeat (first | apply Kd.R_alloc | apply Kd.R_drewN | apply Kd.R_drew)); exact HO115.out⟩, ⟨by repeat (first | (with_reducible first | exact HB.out | apply below_alloc | apply pw_below_drewN | apply below_drew1) | exact HB.out)⟩⟩
  case rest =>
    clear HC3
    try clear p2
    try clear c4
    try clear c6
    try clear c6b0
    obtain ⟨kq, x21_2, rfl, HA, HJ2, HO_7, HB⟩ := hcut
    cases kq with
    | zero => exact absurd HA.out (by simp [spec_GetList.j0])
    | succ kj2 =>
      have H := HA.out
      clear HA
      simp only [spec_GetList.j0] at H
      by_cases c7 : x21_2 = true
      · subst c7
        have H1 : (some (y113, 0, false)) = some (r1, r2, r3) := by rw [if_pos rfl] at H; exact H
        clear H
        have H := H1
        clear H1
        simp only [Option.some.injEq, Prod.mk.injEq] at H
        obtain ⟨rfl, rfl, rfl⟩ := H
        go_wp2
        go_ret3
        exact ⟨_, by first | rfl | (simp [errW_none, errW_some] <;> rfl) | (simp [*, errW_none, errW_some] <;> rfl), by (with_reducible repeat (first | apply Kd.R_alloc | apply Kd.R_drewN | apply Kd.R_drew)); exact HO_7.out, by repeat (first | (with_reducible first | exact HB.out | apply below_alloc | apply pw_below_drewN | apply below_drew1) | exact HB.out)⟩
      · replace c7 := Bool.eq_false_iff.mpr c7
        subst c7
        have H1 : (if 0 ≤ a1 then (if a1 < (l0.length : Int) then (spec_GetList.l0 kj2 l0 y113 (wrap64 (a1 + 1)) (wrap64 (rd l0 a1))) else (none)) else (none)) = some (r1, r2, r3) := by rw [if_neg (show ¬ (false = true) by decide)] at H; exact H
        clear H
        have H := H1
        clear H1
        by_cases c8 : 0 ≤ a1
        · rw [if_pos c8] at H
          have c8b0 : decide (0 ≤ a1) = true := decide_eq_true c8
          clear c8
          by_cases c9 : a1 < (l0.length : Int)
          · rw [if_pos c9] at H
            have c9b0 : decide (a1 < (l0.length : Int)) = true := decide_eq_true c9
            clear c9
            have H' := Aside0.mk H
            clear H
            have p116 : 0 ≤ (a1 : Int) := of_decide_eq_true (by first | (with_reducible assumption) | assumption)
            have q116 : a1 < (l0.length : Int) := of_decide_eq_true (by first | (with_reducible assumption) | assumption)
            obtain ⟨ad116, e116, hx116_0⟩ := Kd.at_int HR0.out a1 p116 q116
            cases e116
            replace hx116_0 := (HB.out.cell (World.block_lt_of_cell? w _ hx116_0)).trans hx116_0
            replace p116 := eq_true p116
            replace q116 := eq_true q116
            go_wp2
            go_loopg [7, 8, 9] kj2 (fun kq v7 v8 v9 w' => ∃ (x7_2 : List Int) (x8_2 : Int) (x9_2 : Int), v8 = .int .i64 x8_2 ∧ v9 = .int .i64 x9_2 ∧ Aside0 (spec_GetList.l0 kq l0 x7_2 x8_2 x9_2 = some (r1, r2, r3)) ∧ Aside0 (kq ≤ kj2) ∧ Aside0 (Kd.R (Kd.int .i64) 3 w' w.heap.size (fun _ => True) v7 x7_2) ∧ Aside0 (Below w.heap.size w w'))
            case atStart => exact ⟨(y113), (wrap64 (a1 + 1)), (wrap64 (rd l0 a1)), (by first | rfl | (simp; done) | (simp [*]; done)), (by first | rfl | (simp; done) | (simp [*]; done)), H', ⟨Nat.le_refl _⟩, ⟨by (with_reducible repeat (first | apply Kd.R_alloc | apply Kd.R_drewN | apply Kd.R_drew)); exact HO_7.out⟩, ⟨by repeat (first | (with_reducible first | exact HB.out | apply below_alloc | apply pw_below_drewN | apply below_drew1) | exact HB.out)⟩⟩
            case round =>
              clear H'
              try clear p1
              try clear q1
              try clear hx1
              try clear p2
              try clear c4
              try clear c6
              try clear c6b0
              try clear p6
              try clear c7
              try clear c8
              try clear c8b0
              try clear c9
              try clear c9b0
              try clear hx116_0
              try clear p116
              try clear p2
              try clear q116
              obtain ⟨x7_2, x8_2, x9_2, rfl, rfl, HA, HK2, HO_7, HB⟩ := hrel
              cases gk with
              | zero => exact absurd HA.out (by simp [spec_GetList.l0])
              | succ k2 =>
                have H := HA.out
                clear HA
                simp only [spec_GetList.l0] at H
                by_cases c10 : x9_2 > 0
                · rw [if_pos c10] at H
                  have c10b0 : decide (0 < x9_2) = true := decide_eq_true c10
                  clear c10
                  replace H := Option.bind_eq_some_iff.mp H
                  obtain ⟨⟨t117, t118, t119⟩, A110, H⟩ := H
                  replace H : (if t119 = true then (if x7_2.length < 17592186044416 then (spec_GetList.l0 k2 l0 (x7_2 ++ [t117]) t118 (wrap64 (x9_2 - 1))) else (none)) else (some ((([] : List Int)), 0, false))) = some (r1, r2, r3) := H
                  have A11 := Aside0.mk A110
                  clear A110
                  by_cases c12 : t119 = true
                  · subst c12
                    have H1 : (if x7_2.length < 17592186044416 then (spec_GetList.l0 k2 l0 (x7_2 ++ [t117]) t118 (wrap64 (x9_2 - 1))) else (none)) = some (r1, r2, r3) := by rw [if_pos rfl] at H; exact H
                    clear H
                    have H := H1
                    clear H1
                    by_cases c13 : x7_2.length < 17592186044416
                    · rw [if_pos c13] at H
                      have LMc13 := Aside0.mk c13
                      clear c13
                      obtain ⟨y120, hy120⟩ : ∃ y_ : List Int, y_ = (x7_2 ++ [t117]) := ⟨_, rfl⟩
                      replace H : (spec_GetList.l0 k2 l0 y120 t118 (wrap64 (x9_2 - 1))) = some (r1, r2, r3) := by first | (rw [hy120]; with_reducible exact H) | (have H2_ := (Option.bind_some _ _).symm.trans H; rw [hy120]; with_reducible exact H2_) | (have H2_ := (Option.bind_some _ _).symm.trans H; with_reducible exact H2_) | with_reducible exact H | (rw [hy120]; exact H) | exact H
                      have Ny120 := Aside0.mk hy120
                      clear hy120
                      have H' := Aside0.mk H
                      clear H
                      go_wp2_with (first | ((with_reducible refine gate_callee (f := 19) rfl ?_); refine goesL_ (some 37) rfl rfl Try.func19 (by kernel_rfl) rfl #[.slice (some ad116) l0.length c0, .int .i64 x8_2] rfl (by (try simp only [List.map_toArray, List.map_cons, List.map_nil]); first | done | rfl | (simp only [List.length_drop, List.length_take]; rfl)) ?_; (with_reducible refine (spec_GetNum.calls k2 _ _ l0 x8_2 t117 t118 true _ ?side1 ?side2 A11.out).mono ?_); (case side1 => repeat (first | exact (Kd.C_below HR0.out HB.out) | (with_reducible refine Kd.C_alloc ?_ _) | (with_reducible refine Kd.C_drewN ?_ _) | (with_reducible refine Kd.C_drew ?_))); (case side2 => exact HC0.out); rintro e w' ⟨rfl, ⟨nd, rfl⟩⟩; refine ⟨_, rfl, ?_⟩) | ((with_reducible refine gate_builtin (b := .append) (xs := #[.tmp 44, .tmp 46]) rfl ?_); (try (refine gate_guard (by rfl) ?_; dsimp only)); at_builtin; refine Kd.R_append (Kd.int .i64) (w0 := w) w.heap.size rfl (.tmp 44) (.tmp 46) 22 3 (.int .i64 0) 8 rfl Try.underlying22 info3 rfl (by decide) (by omega) u7 x7_2 t117 [.int .i64 t117] (fun _ => True) (fun _ => False) rfl rfl ?aP (fun _ hk => hk.elim) ?aF ?aO ?aB ?aS ?aL ?_; (case aP => exact rfl); (case aB => exact (by repeat (first | (with_reducible first | exact HB.out | apply below_alloc | apply pw_below_drewN | apply below_drew1) | exact HB.out))); (case aF => exact (fun _ _ => trivial)); (case aO => exact (by (with_reducible repeat (first | apply Kd.R_alloc | apply Kd.R_drewN | apply Kd.R_drew)); exact HO_7.out)); (case aS => exact (below_size (by repeat (first | (with_reducible first | exact HB.out | apply below_alloc | apply pw_below_drewN | apply below_drew1) | exact HB.out)))); (case aL => have := LMc13.out; omega); intro v121 w14 ho hb hg hat; rw [← Ny120.out] at ho; have n0_ := Aside0.mk (hb); have n1_ := Aside0.mk (ho); clear HB; clear HO_7; have HB := n0_; have HO122 := n1_; clear n0_ n1_; clear ho hb hg hat))
                      go_roundg k2
                      case measure => have := HJ2.out; have := HK2.out; omega
                      case rel => exact ⟨(y120), (t118), (wrap64 (x9_2 - 1)), (by first | rfl | (simp; done) | (simp [*]; done)), (by first | rfl | (simp; done) | (simp [*]; done)), H', ⟨by have := HJ2.out; have := HK2.out; omega⟩, ⟨by (with_reducible repeat (first | apply Kd.R_alloc | apply Kd.R_drewN | apply Kd.R_drew)); exact HO122.out⟩, ⟨by repeat (first | (with_reducible first | exact HB.out | apply below_alloc | apply pw_below_drewN | apply below_drew1) | exact HB.out)⟩⟩
                    · rw [if_neg c13] at H
                      exact absurd H (by simp)
                  · replace c12 := Bool.eq_false_iff.mpr c12
                    subst c12
                    have H1 : (some ((([] : List Int)), 0, false)) = some (r1, r2, r3) := by rw [if_neg (show ¬ (false = true) by decide)] at H; exact H
                    clear H
                    have H := H1
                    clear H1
                    obtain ⟨y123, hy123⟩ : ∃ y_ : List Int, y_ = (([] : List Int)) := ⟨_, rfl⟩
                    replace H : (some (y123, 0, false)) = some (r1, r2, r3) := by first | (rw [hy123]; with_reducible exact H) | (have H2_ := (Option.bind_some _ _).symm.trans H; rw [hy123]; with_reducible exact H2_) | (have H2_ := (Option.bind_some _ _).symm.trans H; with_reducible exact H2_) | with_reducible exact H | (rw [hy123]; exact H) | exact H
                    have Ny123 := Aside0.mk hy123
                    clear hy123
                    simp only [Option.some.injEq, Prod.mk.injEq] at H
                    obtain ⟨rfl, rfl, rfl⟩ := H
                    go_wp2_with (first | ((with_reducible refine gate_callee (f := 19) rfl ?_); refine goesL_ (some 37) rfl rfl Try.func19 (by kernel_rfl) rfl #[.slice (some ad116) l0.length c0, .int .i64 x8_2] rfl (by (try simp only [List.map_toArray, List.map_cons, List.map_nil]); first | done | rfl | (simp only [List.length_drop, List.length_take]; rfl)) ?_; (with_reducible refine (spec_GetNum.calls k2 _ _ l0 x8_2 t117 t118 false _ ?side1 ?side2 A11.out).mono ?_); (case side1 => repeat (first | exact (Kd.C_below HR0.out HB.out) | (with_reducible refine Kd.C_alloc ?_ _) | (with_reducible refine Kd.C_drewN ?_ _) | (with_reducible refine Kd.C_drew ?_))); (case side2 => exact HC0.out); rintro e w' ⟨rfl, ⟨nd, rfl⟩⟩; refine ⟨_, rfl, ?_⟩) | ((with_reducible refine gate_dst (N := 43) rfl ?_); (try (refine gate_guard (by rfl) ?_; dsimp only)); refine Kd.R_lit (Kd.int .i64) _ 3 ?hg (N := 43) ?hd (xs := ([] : List Int)) (inner := []) (ok := fun _ => True) (okp := fun _ => True) ?hr ?hp (fun _ hk => hk) trivial (Below.refl _ _) (Nat.le_refl _) (by simp) ?_; (case hd => rfl); (case hg => rfl); (case hr => first | (go_simp; done) | (go_simp; rfl)); (case hp => exact (Reps.none _ _)); intro v124 w15 ho16 hb hg_ hnew_; clear hg_ hnew_; (first | rw [← Ny123.out] at ho16 | (simp only [Int.reduceToNat] at ho16; rw [← Ny123.out] at ho16)); have n0_ := Aside0.mk (Kd.R_elder' (by (with_reducible repeat (first | apply Kd.R_alloc | apply Kd.R_drewN | apply Kd.R_drew)); exact HO_7.out) (Kd.R_base ho16) hb); have n1_ := Aside0.mk (Kd.R_lower (Kd.R_new' ho16 (Kd.R_lt (by (with_reducible repeat (first | apply Kd.R_alloc | apply Kd.R_drewN | apply Kd.R_drew)); exact HO_7.out))) (below_size (by repeat (first | (with_reducible first | exact HB.out | apply below_alloc | apply pw_below_drewN | apply below_drew1) | exact HB.out)))); have n2_ := Aside0.mk (below_step (by repeat (first | (with_reducible first | exact HB.out | apply below_alloc | apply pw_below_drewN | apply below_drew1) | exact HB.out)) hb); clear HO_7; clear HB; have HO_7 := n0_; have HO125 := n1_; have HB := n2_; clear n0_ n1_ n2_; clear hb ho16))
                    go_ret3
                    exact ⟨_, by first | rfl | (simp [errW_none, errW_some] <;> rfl) | (simp [*, errW_none, errW_some] <;> rfl), by (with_reducible repeat (first | apply Kd.R_alloc | apply Kd.R_drewN | apply Kd.R_drew)); exact Kd.R_mono HO125.out (fun _ hk => trivial), by repeat (first | (with_reducible first | exact HB.out | apply below_alloc | apply pw_below_drewN | apply below_drew1) | exact HB.out)⟩
                · rw [if_neg c10] at H
                  have c10b0 : decide (0 < x9_2) = false := decide_eq_false c10
                  clear c10
                  simp only [Option.some.injEq, Prod.mk.injEq] at H
                  obtain ⟨rfl, rfl, rfl⟩ := H
                  go_wp2
                  go_ret3
                  exact ⟨_, by first | rfl | (simp [errW_none, errW_some] <;> rfl) | (simp [*, errW_none, errW_some] <;> rfl), by (with_reducible repeat (first | apply Kd.R_alloc | apply Kd.R_drewN | apply Kd.R_drew)); exact HO_7.out, by repeat (first | (with_reducible first | exact HB.out | apply below_alloc | apply pw_below_drewN | apply below_drew1) | exact HB.out)⟩
          · rw [if_neg c9] at H
            exact absurd H (by simp)
        · rw [if_neg c8] at H
          exact absurd H (by simp)

/-! ### impl_GetNum: function 21 -/
def impl_GetNum.j0 : Nat → List Int → Int → Bool → Option (Int × Int × Bool)
  | 0, _, _, _ => none
  | k + 1, x0, x1, x16 => if x16 = true then (some (0, 0, false)) else (if 0 ≤ x1 then (if x1 < (x0.length : Int) then (if 0 ≤ (wrap64 (x1 + 1)) then (if (wrap64 (x1 + 1)) < (x0.length : Int) then (if 0 ≤ (wrap64 (x1 + 2)) then (if (wrap64 (x1 + 2)) < (x0.length : Int) then (if 0 ≤ (wrap64 (x1 + 3)) then (if (wrap64 (x1 + 3)) < (x0.length : Int) then (if (Go.bits .or .i64 (Go.bits .or .i64 (Go.bits .or .i64 (wrap64 ((wrap64 (rd x0 x1)) * 16777216)) (wrap64 ((wrap64 (rd x0 (wrap64 (x1 + 1)))) * 65536))) (wrap64 ((wrap64 (rd x0 (wrap64 (x1 + 2)))) * 256))) (wrap64 (rd x0 (wrap64 (x1 + 3))))) = 0 then (some (0, 0, false)) else (some (wrap64 ((Go.bits .or .i64 (Go.bits .or .i64 (Go.bits .or .i64 (wrap64 ((wrap64 (rd x0 x1)) * 16777216)) (wrap64 ((wrap64 (rd x0 (wrap64 (x1 + 1)))) * 65536))) (wrap64 ((wrap64 (rd x0 (wrap64 (x1 + 2)))) * 256))) (wrap64 (rd x0 (wrap64 (x1 + 3))))) - 2147483648), wrap64 (x1 + 4), true))) else (none)) else (none)) else (none)) else (none)) else (none)) else (none)) else (none)) else (none))
def impl_GetNum.f (k : Nat) (l0 : List Int) (a1 : Int) : Option (Int × Int × Bool) := if a1 < 0 then (impl_GetNum.j0 k l0 a1 true) else (impl_GetNum.j0 k l0 a1 (decide (a1 > (wrap64 ((l0.length : Int) - 4)))))
theorem impl_GetNum.mono_l : ∀ k, (∀ y0 y1 y2, LeO (impl_GetNum.j0 k y0 y1 y2) (impl_GetNum.j0 (k + 1) y0 y1 y2))
  | 0 => fun _ _ _ r h => by simp [impl_GetNum.j0] at h
  | k + 1 => by
    have ih0 := impl_GetNum.mono_l k
    · intro y0 y1 y2
      unfold impl_GetNum.j0
      repeat' first
      | (with_reducible exact ih0 _ _ _)
      | (with_reducible exact LeO.refl _)
      | (with_reducible exact LeO.none _)
      | (with_reducible refine LeO.ite ?_ ?_)
      | (with_reducible refine LeO.bind ?_ (fun _ => ?_))
      | exact ih0 _ _ _
      | exact LeO.none _
      | refine LeO.ite ?_ ?_
      | refine LeO.bind ?_ (fun _ => ?_)
theorem impl_GetNum.mono : ∀ a0 a1 k, LeO (impl_GetNum.f k a0 a1) (impl_GetNum.f (k + 1) a0 a1) := by
  intro a0 a1 k
  have ih0 := impl_GetNum.mono_l k
  unfold impl_GetNum.f
  repeat' first
      | (with_reducible exact ih0 _ _ _)
      | (with_reducible exact LeO.refl _)
      | (with_reducible exact LeO.none _)
      | (with_reducible refine LeO.ite ?_ ?_)
      | (with_reducible refine LeO.bind ?_ (fun _ => ?_))
      | exact ih0 _ _ _
      | exact LeO.none _
      | refine LeO.ite ?_ ?_
      | refine LeO.bind ?_ (fun _ => ?_)
set_option maxHeartbeats 8000000 in
set_option maxRecDepth 100000 in
theorem impl_GetNum.calls (k : Nat) (A0 : Option Addr) (c0 : Nat) (l0 : List Int) (a1 : Int) (r1 : Int) (r2 : Int) (r3 : Bool) (w : World) (hr0 : Kd.C (Kd.int .u8) w A0 l0.length l0) (hc0 : l0.length ≤ c0) (h : impl_GetNum.f k l0 a1 = some (r1, r2, r3)) :
    Calls Try.prog 21 #[.slice A0 l0.length c0, .int .i64 a1] w fun e w' => e = .returned (.tuple #[.int .i64 r1, .int .i64 r2, .bool r3]) ∧ Drawn0 w w' := by
  have HR0 := Aside0.mk hr0
  have HC0 := Aside0.mk hc0
  clear hr0 hc0
  have H : (if a1 < 0 then (impl_GetNum.j0 k l0 a1 true) else (impl_GetNum.j0 k l0 a1 (decide (a1 > (wrap64 ((l0.length : Int) - 4)))))) = some (r1, r2, r3) := h
  clear h
  have HC3 := Aside0.mk H
  clear H
  go_enter Try.func21, Try.ntmps21
  go_upto_region 1 with (fail)
  repeat (go_quiet (fail); go_upto_region 1 with (fail))
  go_cut [16] (fun v16 wc => ∃ (kq : Nat) (x16_2 : Bool), v16 = .bool x16_2 ∧ Aside0 (impl_GetNum.j0 kq l0 a1 x16_2 = some (r1, r2, r3)) ∧ Aside0 (kq ≤ k) ∧ Drawn0 w wc)
  case first =>
    have H := HC3.out
    clear HC3
    by_cases c4 : a1 < 0
    · rw [if_pos c4] at H
      have c4b0 : decide (a1 < 0) = true := decide_eq_true c4
      clear c4
      (first | rw [c4b0] | (simp only [i64_w, i32_w]; rw [c4b0]) | skip)
      have H' := Aside0.mk H
      clear H
      go_wp2
      repeat (go_quiet (fail); try go_wp2)
      go_meet
      case rel => exact ⟨_, (true), (by first | rfl | (simp; done) | (simp [*]; done)), H', ⟨by first | omega | exact Nat.le_refl _⟩, by repeat (first | exact Drawn0.refl _ | apply Drawn0.step)⟩
    · rw [if_neg c4] at H
      have c4b0 : decide (a1 < 0) = false := decide_eq_false c4
      clear c4
      (first | rw [c4b0] | (simp only [i64_w, i32_w]; rw [c4b0]) | skip)
      have H' := Aside0.mk H
      clear H
      go_wp2
      repeat (go_quiet (fail); try go_wp2)
      go_meet
      case rel => exact ⟨_, (decide (a1 > (wrap64 ((l0.length : Int) - 4)))), (by first | rfl | (simp; done) | (simp [*]; done)), H', ⟨by first | omega | exact Nat.le_refl _⟩, by repeat (first | exact Drawn0.refl _ | apply Drawn0.step)⟩
  case rest =>
    clear HC3
    try clear c2
    try clear p2
    try clear c4
    try clear c4b0
    obtain ⟨kq, x16_2, rfl, HA, HJ2, ⟨mc2, rfl⟩⟩ := hcut
    cases kq with
    | zero => exact absurd HA.out (by simp [impl_GetNum.j0])
    | succ kj2 =>
      have H := HA.out
      clear HA
      simp only [impl_GetNum.j0] at H
      by_cases c5 : x16_2 = true
      · subst c5
        have H1 : (some (0, 0, false)) = some (r1, r2, r3) := by rw [if_pos rfl] at H; exact H
        clear H
        have H := H1
        clear H1
        simp only [Option.some.injEq, Prod.mk.injEq] at H
        obtain ⟨rfl, rfl, rfl⟩ := H
        go_wp2
        repeat (go_quiet (fail); try go_wp2)
        go_ret3
        exact ⟨by first | rfl | (simp; done) | (simp [*]; done), by repeat (first | exact Drawn0.refl _ | apply Drawn0.step)⟩
      · replace c5 := Bool.eq_false_iff.mpr c5
        subst c5
        have H1 : (if 0 ≤ a1 then (if a1 < (l0.length : Int) then (if 0 ≤ (wrap64 (a1 + 1)) then (if (wrap64 (a1 + 1)) < (l0.length : Int) then (if 0 ≤ (wrap64 (a1 + 2)) then (if (wrap64 (a1 + 2)) < (l0.length : Int) then (if 0 ≤ (wrap64 (a1 + 3)) then (if (wrap64 (a1 + 3)) < (l0.length : Int) then (if (Go.bits .or .i64 (Go.bits .or .i64 (Go.bits .or .i64 (wrap64 ((wrap64 (rd l0 a1)) * 16777216)) (wrap64 ((wrap64 (rd l0 (wrap64 (a1 + 1)))) * 65536))) (wrap64 ((wrap64 (rd l0 (wrap64 (a1 + 2)))) * 256))) (wrap64 (rd l0 (wrap64 (a1 + 3))))) = 0 then (some (0, 0, false)) else (some (wrap64 ((Go.bits .or .i64 (Go.bits .or .i64 (Go.bits .or .i64 (wrap64 ((wrap64 (rd l0 a1)) * 16777216)) (wrap64 ((wrap64 (rd l0 (wrap64 (a1 + 1)))) * 65536))) (wrap64 ((wrap64 (rd l0 (wrap64 (a1 + 2)))) * 256))) (wrap64 (rd l0 (wrap64 (a1 + 3))))) - 2147483648), wrap64 (a1 + 4), true))) else (none)) else (none)) else (none)) else (none)) else (none)) else (none)) else (none)) else (none)) = some (r1, r2, r3) := by rw [if_neg (show ¬ (false = true) by decide)] at H; exact H
        clear H
        have H := H1
        clear H1
        by_cases c6 : 0 ≤ a1
        · rw [if_pos c6] at H
          have c6b0 : decide (0 ≤ a1) = true := decide_eq_true c6
          clear c6
          by_cases c7 : a1 < (l0.length : Int)
          · rw [if_pos c7] at H
            have c7b0 : decide (a1 < (l0.length : Int)) = true := decide_eq_true c7
            clear c7
            obtain ⟨ji8, hji8⟩ : ∃ j_ : Int, (wrap64 (a1 + 1)) = j_ := ⟨_, rfl⟩
            replace H : (if 0 ≤ (ji8) then (if (ji8) < (l0.length : Int) then (if 0 ≤ (wrap64 (a1 + 2)) then (if (wrap64 (a1 + 2)) < (l0.length : Int) then (if 0 ≤ (wrap64 (a1 + 3)) then (if (wrap64 (a1 + 3)) < (l0.length : Int) then (if (Go.bits .or .i64 (Go.bits .or .i64 (Go.bits .or .i64 (wrap64 ((wrap64 (rd l0 a1)) * 16777216)) (wrap64 ((wrap64 (rd l0 (ji8))) * 65536))) (wrap64 ((wrap64 (rd l0 (wrap64 (a1 + 2)))) * 256))) (wrap64 (rd l0 (wrap64 (a1 + 3))))) = 0 then (some (0, 0, false)) else (some (wrap64 ((Go.bits .or .i64 (Go.bits .or .i64 (Go.bits .or .i64 (wrap64 ((wrap64 (rd l0 a1)) * 16777216)) (wrap64 ((wrap64 (rd l0 (ji8))) * 65536))) (wrap64 ((wrap64 (rd l0 (wrap64 (a1 + 2)))) * 256))) (wrap64 (rd l0 (wrap64 (a1 + 3))))) - 2147483648), wrap64 (a1 + 4), true))) else (none)) else (none)) else (none)) else (none)) else (none)) else (none)) = some (r1, r2, r3) := by first | (rw [hji8] at H; exact H) | (simp only [hji8] at H ⊢; exact H)
            have hji8w : (IntKind.i64.wrap (a1 + 1)) = ji8 := (i64_w _).trans hji8
            by_cases c9 : 0 ≤ (ji8)
            · rw [if_pos c9] at H
              have c9b0 : decide (0 ≤ (ji8)) = true := decide_eq_true c9
              clear c9
              by_cases c10 : (ji8) < (l0.length : Int)
              · rw [if_pos c10] at H
                have c10b0 : decide ((ji8) < (l0.length : Int)) = true := decide_eq_true c10
                clear c10
                obtain ⟨ji11, hji11⟩ : ∃ j_ : Int, (wrap64 (a1 + 2)) = j_ := ⟨_, rfl⟩
                replace H : (if 0 ≤ (ji11) then (if (ji11) < (l0.length : Int) then (if 0 ≤ (wrap64 (a1 + 3)) then (if (wrap64 (a1 + 3)) < (l0.length : Int) then (if (Go.bits .or .i64 (Go.bits .or .i64 (Go.bits .or .i64 (wrap64 ((wrap64 (rd l0 a1)) * 16777216)) (wrap64 ((wrap64 (rd l0 (ji8))) * 65536))) (wrap64 ((wrap64 (rd l0 (ji11))) * 256))) (wrap64 (rd l0 (wrap64 (a1 + 3))))) = 0 then (some (0, 0, false)) else (some (wrap64 ((Go.bits .or .i64 (Go.bits .or .i64 (Go.bits .or .i64 (wrap64 ((wrap64 (rd l0 a1)) * 16777216)) (wrap64 ((wrap64 (rd l0 (ji8))) * 65536))) (wrap64 ((wrap64 (rd l0 (ji11))) * 256))) (wrap64 (rd l0 (wrap64 (a1 + 3))))) - 2147483648), wrap64 (a1 + 4), true))) else (none)) else (none)) else (none)) else (none)) = some (r1, r2, r3) := by first | (rw [hji11] at H; exact H) | (simp only [hji11] at H ⊢; exact H)
                have hji11w : (IntKind.i64.wrap (a1 + 2)) = ji11 := (i64_w _).trans hji11
                by_cases c12 : 0 ≤ (ji11)
                · rw [if_pos c12] at H
                  have c12b0 : decide (0 ≤ (ji11)) = true := decide_eq_true c12
                  clear c12
                  by_cases c13 : (ji11) < (l0.length : Int)
                  · rw [if_pos c13] at H
                    have c13b0 : decide ((ji11) < (l0.length : Int)) = true := decide_eq_true c13
                    clear c13
                    obtain ⟨ji14, hji14⟩ : ∃ j_ : Int, (wrap64 (a1 + 3)) = j_ := ⟨_, rfl⟩
                    replace H : (if 0 ≤ (ji14) then (if (ji14) < (l0.length : Int) then (if (Go.bits .or .i64 (Go.bits .or .i64 (Go.bits .or .i64 (wrap64 ((wrap64 (rd l0 a1)) * 16777216)) (wrap64 ((wrap64 (rd l0 (ji8))) * 65536))) (wrap64 ((wrap64 (rd l0 (ji11))) * 256))) (wrap64 (rd l0 (ji14)))) = 0 then (some (0, 0, false)) else (some (wrap64 ((Go.bits .or .i64 (Go.bits .or .i64 (Go.bits .or .i64 (wrap64 ((wrap64 (rd l0 a1)) * 16777216)) (wrap64 ((wrap64 (rd l0 (ji8))) * 65536))) (wrap64 ((wrap64 (rd l0 (ji11))) * 256))) (wrap64 (rd l0 (ji14)))) - 2147483648), wrap64 (a1 + 4), true))) else (none)) else (none)) = some (r1, r2, r3) := by first | (rw [hji14] at H; exact H) | (simp only [hji14] at H ⊢; exact H)
                    have hji14w : (IntKind.i64.wrap (a1 + 3)) = ji14 := (i64_w _).trans hji14
                    by_cases c15 : 0 ≤ (ji14)
                    · rw [if_pos c15] at H
                      have c15b0 : decide (0 ≤ (ji14)) = true := decide_eq_true c15
                      clear c15
                      by_cases c16 : (ji14) < (l0.length : Int)
                      · rw [if_pos c16] at H
                        have c16b0 : decide ((ji14) < (l0.length : Int)) = true := decide_eq_true c16
                        clear c16
                        by_cases c17 : (Go.bits .or .i64 (Go.bits .or .i64 (Go.bits .or .i64 (wrap64 ((wrap64 (rd l0 a1)) * 16777216)) (wrap64 ((wrap64 (rd l0 (ji8))) * 65536))) (wrap64 ((wrap64 (rd l0 (ji11))) * 256))) (wrap64 (rd l0 (ji14)))) = 0
                        · rw [if_pos c17] at H
                          have c17b0 : ((Go.bits .or .i64 (Go.bits .or .i64 (Go.bits .or .i64 (wrap64 ((wrap64 (rd l0 a1)) * 16777216)) (wrap64 ((wrap64 (rd l0 (ji8))) * 65536))) (wrap64 ((wrap64 (rd l0 (ji11))) * 256))) (wrap64 (rd l0 (ji14)))) == 0) = true := beq_iff_eq.mpr c17
                          have c17b1 : ((Go.bits .or .i64 (Go.bits .or .i64 (Go.bits .or .i64 (wrap64 ((wrap64 (rd l0 a1)) * 16777216)) (wrap64 ((wrap64 (rd l0 (ji8))) * 65536))) (wrap64 ((wrap64 (rd l0 (ji11))) * 256))) (wrap64 (rd l0 (ji14)))) != 0) = false := bne_eq_false_iff_eq.mpr c17
                          clear c17
                          simp only [Option.some.injEq, Prod.mk.injEq] at H
                          obtain ⟨rfl, rfl, rfl⟩ := H
                          have p126 : 0 ≤ (a1 : Int) := of_decide_eq_true (by first | (with_reducible assumption) | assumption)
                          have q126 : a1 < (l0.length : Int) := of_decide_eq_true (by first | (with_reducible assumption) | assumption)
                          obtain ⟨ad126, e126, hx126_0⟩ := Kd.at_int HR0.out a1 p126 q126
                          cases e126
                          replace p126 := eq_true p126
                          replace q126 := eq_true q126
                          have p127 : 0 ≤ ((ji8) : Int) := of_decide_eq_true (by first | (with_reducible assumption) | assumption)
                          have q127 : (ji8) < (l0.length : Int) := of_decide_eq_true (by first | (with_reducible assumption) | assumption)
                          obtain ⟨ad127, e127, hx127_0⟩ := Kd.at_int HR0.out (ji8) p127 q127
                          obtain rfl : ad126 = ad127 := (by injection e127)
                          replace p127 := eq_true p127
                          replace q127 := eq_true q127
                          have p128 : 0 ≤ ((ji11) : Int) := of_decide_eq_true (by first | (with_reducible assumption) | assumption)
                          have q128 : (ji11) < (l0.length : Int) := of_decide_eq_true (by first | (with_reducible assumption) | assumption)
                          obtain ⟨ad128, e128, hx128_0⟩ := Kd.at_int HR0.out (ji11) p128 q128
                          obtain rfl : ad126 = ad128 := (by injection e128)
                          replace p128 := eq_true p128
                          replace q128 := eq_true q128
                          have p129 : 0 ≤ ((ji14) : Int) := of_decide_eq_true (by first | (with_reducible assumption) | assumption)
                          have q129 : (ji14) < (l0.length : Int) := of_decide_eq_true (by first | (with_reducible assumption) | assumption)
                          obtain ⟨ad129, e129, hx129_0⟩ := Kd.at_int HR0.out (ji14) p129 q129
                          obtain rfl : ad126 = ad129 := (by injection e129)
                          replace p129 := eq_true p129
                          replace q129 := eq_true q129
                          go_wp2
                          repeat (go_quiet (fail); try go_wp2)
                          go_ret3
                          exact ⟨by first | rfl | (simp; done) | (simp only [← hji8, ← hji11, ← hji14] <;> (first | rfl | simp)) | (simp [*]; done), by repeat (first | exact Drawn0.refl _ | apply Drawn0.step)⟩
                        · rw [if_neg c17] at H
                          have c17b0 : ((Go.bits .or .i64 (Go.bits .or .i64 (Go.bits .or .i64 (wrap64 ((wrap64 (rd l0 a1)) * 16777216)) (wrap64 ((wrap64 (rd l0 (ji8))) * 65536))) (wrap64 ((wrap64 (rd l0 (ji11))) * 256))) (wrap64 (rd l0 (ji14)))) == 0) = false := beq_eq_false_iff_ne.mpr c17
                          have c17b1 : ((Go.bits .or .i64 (Go.bits .or .i64 (Go.bits .or .i64 (wrap64 ((wrap64 (rd l0 a1)) * 16777216)) (wrap64 ((wrap64 (rd l0 (ji8))) * 65536))) (wrap64 ((wrap64 (rd l0 (ji11))) * 256))) (wrap64 (rd l0 (ji14)))) != 0) = true := bne_iff_ne.mpr c17
                          simp only [Option.some.injEq, Prod.mk.injEq] at H
                          obtain ⟨rfl, rfl, rfl⟩ := H
                          have p126 : 0 ≤ (a1 : Int) := of_decide_eq_true (by first | (with_reducible assumption) | assumption)
                          have q126 : a1 < (l0.length : Int) := of_decide_eq_true (by first | (with_reducible assumption) | assumption)
                          obtain ⟨ad126, e126, hx126_0⟩ := Kd.at_int HR0.out a1 p126 q126
                          cases e126
                          replace p126 := eq_true p126
                          replace q126 := eq_true q126
                          have p127 : 0 ≤ ((ji8) : Int) := of_decide_eq_true (by first | (with_reducible assumption) | assumption)
                          have q127 : (ji8) < (l0.length : Int) := of_decide_eq_true (by first | (with_reducible assumption) | assumption)
                          obtain ⟨ad127, e127, hx127_0⟩ := Kd.at_int HR0.out (ji8) p127 q127
                          obtain rfl : ad126 = ad127 := (by injection e127)
                          replace p127 := eq_true p127
                          replace q127 := eq_true q127
                          have p128 : 0 ≤ ((ji11) : Int) := of_decide_eq_true (by first | (with_reducible assumption) | assumption)
                          have q128 : (ji11) < (l0.length : Int) := of_decide_eq_true (by first | (with_reducible assumption) | assumption)
                          obtain ⟨ad128, e128, hx128_0⟩ := Kd.at_int HR0.out (ji11) p128 q128
                          obtain rfl : ad126 = ad128 := (by injection e128)
                          replace p128 := eq_true p128
                          replace q128 := eq_true q128
                          have p129 : 0 ≤ ((ji14) : Int) := of_decide_eq_true (by first | (with_reducible assumption) | assumption)
                          have q129 : (ji14) < (l0.length : Int) := of_decide_eq_true (by first | (with_reducible assumption) | assumption)
                          obtain ⟨ad129, e129, hx129_0⟩ := Kd.at_int HR0.out (ji14) p129 q129
                          obtain rfl : ad126 = ad129 := (by injection e129)
                          replace p129 := eq_true p129
                          replace q129 := eq_true q129
                          go_wp2
                          repeat (go_quiet (fail); try go_wp2)
                          go_ret3
                          exact ⟨by first | rfl | (simp; done) | (simp only [← hji8, ← hji11, ← hji14] <;> (first | rfl | simp)) | (simp [*]; done), by repeat (first | exact Drawn0.refl _ | apply Drawn0.step)⟩
                      · rw [if_neg c16] at H
                        exact absurd H (by simp)
                    · rw [if_neg c15] at H
                      exact absurd H (by simp)
                  · rw [if_neg c13] at H
                    exact absurd H (by simp)
                · rw [if_neg c12] at H
                  exact absurd H (by simp)
              · rw [if_neg c10] at H
                exact absurd H (by simp)
            · rw [if_neg c9] at H
              exact absurd H (by simp)
          · rw [if_neg c7] at H
            exact absurd H (by simp)
        · rw [if_neg c6] at H
          exact absurd H (by simp)

/-! ### impl_GetList: function 45 -/
mutual
def impl_GetList.j0 : Nat → List Int → Int → Bool → Option (List Int × Int × Bool)
  | 0, _, _, _ => none
  | k + 1, x0, x1, x19 => if x19 = true then (some (([] : List Int), 0, false)) else (if 0 ≤ x1 then (if x1 < (x0.length : Int) then (impl_GetList.l0 k x0 (([] : List Int)) (wrap64 (x1 + 1)) (wrap64 (rd x0 x1)) 0) else (none)) else (none))
def impl_GetList.l0 : Nat → List Int → List Int → Int → Int → Int → Option (List Int × Int × Bool)
  | 0, _, _, _, _, _ => none
  | k + 1, x0, x7, x8, x27, x28 => if x28 < x27 then ((impl_GetNum.f k x0 x8).bind fun bt134 => (if bt134.2.2 = true then (if x7.length < 17592186044416 then (impl_GetList.l0 k x0 (x7 ++ [bt134.1]) bt134.2.1 x27 (wrap64 (x28 + 1))) else (none)) else (some (([] : List Int), 0, false)))) else (some (x7, x8, true))
end
def impl_GetList.f (k : Nat) (l0 : List Int) (a1 : Int) : Option (List Int × Int × Bool) := if a1 < 0 then (impl_GetList.j0 k l0 a1 true) else (impl_GetList.j0 k l0 a1 (decide (a1 ≥ (l0.length : Int))))
theorem impl_GetList.mono_l : ∀ k, (∀ y0 y1 y2, LeO (impl_GetList.j0 k y0 y1 y2) (impl_GetList.j0 (k + 1) y0 y1 y2)) ∧ (∀ y0 y1 y2 y3 y4, LeO (impl_GetList.l0 k y0 y1 y2 y3 y4) (impl_GetList.l0 (k + 1) y0 y1 y2 y3 y4))
  | 0 => ⟨fun _ _ _ r h => by simp [impl_GetList.j0] at h, fun _ _ _ _ _ r h => by simp [impl_GetList.l0] at h⟩
  | k + 1 => by
    obtain ⟨ih0, ih1⟩ := impl_GetList.mono_l k
    refine ⟨?_, ?_⟩
    · intro y0 y1 y2
      unfold impl_GetList.j0
      repeat' first
      | (with_reducible exact ih0 _ _ _)
      | (with_reducible exact ih1 _ _ _ _ _)
      | (with_reducible exact impl_GetNum.mono _ _ _)
      | (with_reducible exact LeO.refl _)
      | (with_reducible exact LeO.none _)
      | (with_reducible refine LeO.ite ?_ ?_)
      | (with_reducible refine LeO.bind ?_ (fun _ => ?_))
      | exact ih0 _ _ _
      | exact ih1 _ _ _ _ _
      | exact impl_GetNum.mono _ _ _
      | exact LeO.none _
      | refine LeO.ite ?_ ?_
      | refine LeO.bind ?_ (fun _ => ?_)
    · intro y0 y1 y2 y3 y4
      unfold impl_GetList.l0
      repeat' first
      | (with_reducible exact ih0 _ _ _)
      | (with_reducible exact ih1 _ _ _ _ _)
      | (with_reducible exact impl_GetNum.mono _ _ _)
      | (with_reducible exact LeO.refl _)
      | (with_reducible exact LeO.none _)
      | (with_reducible refine LeO.ite ?_ ?_)
      | (with_reducible refine LeO.bind ?_ (fun _ => ?_))
      | exact ih0 _ _ _
      | exact ih1 _ _ _ _ _
      | exact impl_GetNum.mono _ _ _
      | exact LeO.none _
      | refine LeO.ite ?_ ?_
      | refine LeO.bind ?_ (fun _ => ?_)
theorem impl_GetList.mono : ∀ a0 a1 k, LeO (impl_GetList.f k a0 a1) (impl_GetList.f (k + 1) a0 a1) := by
  intro a0 a1 k
  obtain ⟨ih0, ih1⟩ := impl_GetList.mono_l k
  unfold impl_GetList.f
  repeat' first
      | (with_reducible exact ih0 _ _ _)
      | (with_reducible exact ih1 _ _ _ _ _)
      | (with_reducible exact impl_GetNum.mono _ _ _)
      | (with_reducible exact LeO.refl _)
      | (with_reducible exact LeO.none _)
      | (with_reducible refine LeO.ite ?_ ?_)
      | (with_reducible refine LeO.bind ?_ (fun _ => ?_))
      | exact ih0 _ _ _
      | exact ih1 _ _ _ _ _
      | exact impl_GetNum.mono _ _ _
      | exact LeO.none _
      | refine LeO.ite ?_ ?_
      | refine LeO.bind ?_ (fun _ => ?_)
set_option maxHeartbeats 8000000 in
set_option maxRecDepth 100000 in
theorem impl_GetList.calls (k : Nat) (A0 : Option Addr) (c0 : Nat) (l0 : List Int) (a1 : Int) (r1 : List Int) (r2 : Int) (r3 : Bool) (w : World) (hr0 : Kd.C (Kd.int .u8) w A0 l0.length l0) (hc0 : l0.length ≤ c0) (h : impl_GetList.f k l0 a1 = some (r1, r2, r3)) :
    Calls Try.prog 45 #[.slice A0 l0.length c0, .int .i64 a1] w fun e w' => ∃ v0_ : Value, e = .returned (.tuple #[v0_, .int .i64 r2, .bool r3]) ∧ Kd.R (Kd.int .i64) 3 w' w.heap.size (fun _ => True) v0_ r1 ∧ Below w.heap.size w w' := by
  have HR0 := Aside0.mk hr0
  have HC0 := Aside0.mk hc0
  clear hr0 hc0
  have HB := Aside0.mk (Below.refl w.heap.size w)
  have H : (if a1 < 0 then (impl_GetList.j0 k l0 a1 true) else (impl_GetList.j0 k l0 a1 (decide (a1 ≥ (l0.length : Int))))) = some (r1, r2, r3) := h
  clear h
  have HC3 := Aside0.mk H
  clear H
  go_enter Try.func45, Try.ntmps45
  go_upto_region 1 with (fail)
  go_cut [19] (fun v19 wc => ∃ (kq : Nat) (x19_2 : Bool), v19 = .bool x19_2 ∧ Aside0 (impl_GetList.j0 kq l0 a1 x19_2 = some (r1, r2, r3)) ∧ Aside0 (kq ≤ k) ∧ Aside0 (Below w.heap.size w wc))
  case first =>
    have H := HC3.out
    clear HC3
    by_cases c4 : a1 < 0
    · rw [if_pos c4] at H
      have c4b0 : decide (a1 < 0) = true := decide_eq_true c4
      clear c4
      (first | rw [c4b0] | (simp only [i64_w, i32_w]; rw [c4b0]) | skip)
      have H' := Aside0.mk H
      clear H
      go_wp2
      go_meet
      case rel => exact ⟨_, (true), (by first | rfl | (simp; done) | (simp [*]; done)), H', ⟨by first | omega | exact Nat.le_refl _⟩, ⟨by repeat (first | (with_reducible first | exact HB.out | apply below_alloc | apply pw_below_drewN | apply below_drew1) | exact HB.out)⟩⟩
    · rw [if_neg c4] at H
      have c4b0 : decide (a1 < 0) = false := decide_eq_false c4
      clear c4
      (first | rw [c4b0] | (simp only [i64_w, i32_w]; rw [c4b0]) | skip)
      have H' := Aside0.mk H
      clear H
      go_wp2
      go_meet
      case rel => exact ⟨_, (decide (a1 ≥ (l0.length : Int))), (by first | rfl | (simp; done) | (simp [*]; done)), H', ⟨by first | omega | exact Nat.le_refl _⟩, ⟨by repeat (first | (with_reducible first | exact HB.out | apply below_alloc | apply pw_below_drewN | apply below_drew1) | exact HB.out)⟩⟩
  case rest =>
    clear HC3
    try clear p2
    try clear c4
    try clear c4b0
    obtain ⟨kq, x19_2, rfl, HA, HJ2, HB⟩ := hcut
    cases kq with
    | zero => exact absurd HA.out (by simp [impl_GetList.j0])
    | succ kj2 =>
      have H := HA.out
      clear HA
      simp only [impl_GetList.j0] at H
      by_cases c5 : x19_2 = true
      · subst c5
        have H1 : (some (([] : List Int), 0, false)) = some (r1, r2, r3) := by rw [if_pos rfl] at H; exact H
        clear H
        have H := H1
        clear H1
        simp only [Option.some.injEq, Prod.mk.injEq] at H
        obtain ⟨rfl, rfl, rfl⟩ := H
        go_wp2
        go_ret3
        exact ⟨_, by first | rfl | (simp [errW_none, errW_some] <;> rfl) | (simp [*, errW_none, errW_some] <;> rfl), by first | exact Kd.R_nil _ _ _ _ _ | exact Kd.N_nil _ _ _ _ _ | exact Kd.V_nil _ _ _ _ _ | exact Kd.Q_nil _ _ _ _ _ | exact Kd.S_nil _ _ _ _ _, by repeat (first | (with_reducible first | exact HB.out | apply below_alloc | apply pw_below_drewN | apply below_drew1) | exact HB.out)⟩
      · replace c5 := Bool.eq_false_iff.mpr c5
        subst c5
        have H1 : (if 0 ≤ a1 then (if a1 < (l0.length : Int) then (impl_GetList.l0 kj2 l0 (([] : List Int)) (wrap64 (a1 + 1)) (wrap64 (rd l0 a1)) 0) else (none)) else (none)) = some (r1, r2, r3) := by rw [if_neg (show ¬ (false = true) by decide)] at H; exact H
        clear H
        have H := H1
        clear H1
        obtain ⟨y130, hy130⟩ : ∃ y_ : List Int, y_ = (([] : List Int)) := ⟨_, rfl⟩
        replace H : (if 0 ≤ a1 then (if a1 < (l0.length : Int) then (impl_GetList.l0 kj2 l0 y130 (wrap64 (a1 + 1)) (wrap64 (rd l0 a1)) 0) else (none)) else (none)) = some (r1, r2, r3) := by first | (rw [hy130]; with_reducible exact H) | (have H2_ := (Option.bind_some _ _).symm.trans H; rw [hy130]; with_reducible exact H2_) | (have H2_ := (Option.bind_some _ _).symm.trans H; with_reducible exact H2_) | with_reducible exact H | (rw [hy130]; exact H) | exact H
        have Ny130 := Aside0.mk hy130
        clear hy130
        by_cases c6 : 0 ≤ a1
        · rw [if_pos c6] at H
          have c6b0 : decide (0 ≤ a1) = true := decide_eq_true c6
          clear c6
          by_cases c7 : a1 < (l0.length : Int)
          · rw [if_pos c7] at H
            have c7b0 : decide (a1 < (l0.length : Int)) = true := decide_eq_true c7
            clear c7
            have H' := Aside0.mk H
            clear H
            go_wp2_with (first | ((with_reducible refine gate_dst (N := 20) rfl ?_); (try (refine gate_guard (by rfl) ?_; dsimp only)); refine Kd.R_lit (Kd.int .i64) _ 3 ?hg (N := 20) ?hd (xs := ([] : List Int)) (inner := []) (ok := fun _ => True) (okp := fun _ => True) ?hr ?hp (fun _ hk => hk) trivial (Below.refl _ _) (Nat.le_refl _) (by simp) ?_; (case hd => rfl); (case hg => rfl); (case hr => first | (go_simp; done) | (go_simp; rfl)); (case hp => exact (Reps.none _ _)); intro v131 w8 ho9 hb hg_ hnew_; clear hg_ hnew_; (first | rw [← Ny130.out] at ho9 | (simp only [Int.reduceToNat] at ho9; rw [← Ny130.out] at ho9)); have n0_ := Aside0.mk (Kd.R_lower ho9 (below_size (by repeat (first | (with_reducible first | exact HB.out | apply below_alloc | apply pw_below_drewN | apply below_drew1) | exact HB.out)))); have n1_ := Aside0.mk (below_step (by repeat (first | (with_reducible first | exact HB.out | apply below_alloc | apply pw_below_drewN | apply below_drew1) | exact HB.out)) hb); clear HB; have HO132 := n0_; have HB := n1_; clear n0_ n1_; clear hb ho9; have p133 : 0 ≤ (a1 : Int) := of_decide_eq_true (by first | (with_reducible assumption) | assumption); have q133 : a1 < (l0.length : Int) := of_decide_eq_true (by first | (with_reducible assumption) | assumption); obtain ⟨ad133, e133, hx133_0⟩ := Kd.at_int HR0.out a1 p133 q133; cases e133; replace hx133_0 := (HB.out.cell (World.block_lt_of_cell? w _ hx133_0)).trans hx133_0; replace p133 := eq_true p133; replace q133 := eq_true q133))
            go_loopg [7, 8, 28] kj2 (fun kq v7 v8 v28 w' => ∃ (x7_2 : List Int) (x8_2 : Int) (x28_2 : Int), v8 = .int .i64 x8_2 ∧ v28 = .int .i64 x28_2 ∧ Aside0 (impl_GetList.l0 kq l0 x7_2 x8_2 (wrap64 (rd l0 a1)) x28_2 = some (r1, r2, r3)) ∧ Aside0 (kq ≤ kj2) ∧ Aside0 (Kd.R (Kd.int .i64) 3 w' w.heap.size (fun _ => True) v7 x7_2) ∧ Aside0 (Below w.heap.size w w'))
            case atStart => exact ⟨(y130), (wrap64 (a1 + 1)), (0), (by first | rfl | (simp; done) | (simp [*]; done)), (by first | rfl | (simp; done) | (simp [*]; done)), H', ⟨Nat.le_refl _⟩, ⟨by (with_reducible repeat (first | apply Kd.R_alloc | apply Kd.R_drewN | apply Kd.R_drew)); exact HO132.out⟩, ⟨by repeat (first | (with_reducible first | exact HB.out | apply below_alloc | apply pw_below_drewN | apply below_drew1) | exact HB.out)⟩⟩
            case round =>
              clear H'
              try clear p1
              try clear q1
              try clear hx1
              try clear p2
              try clear c4
              try clear c4b0
              try clear c5
              try clear c6
              try clear c6b0
              try clear p6
              try clear c7
              try clear c7b0
              try clear hx133_0
              try clear p133
              try clear p2
              try clear q133
              obtain ⟨x7_2, x8_2, x28_2, rfl, rfl, HA, HK2, HO_7, HB⟩ := hrel
              cases gk with
              | zero => exact absurd HA.out (by simp [impl_GetList.l0])
              | succ k2 =>
                have H := HA.out
                clear HA
                simp only [impl_GetList.l0] at H
                by_cases c10 : x28_2 < (wrap64 (rd l0 a1))
                · rw [if_pos c10] at H
                  have c10b0 : decide (x28_2 < (wrap64 (rd l0 a1))) = true := decide_eq_true c10
                  clear c10
                  replace H := Option.bind_eq_some_iff.mp H
                  obtain ⟨⟨t134, t135, t136⟩, A110, H⟩ := H
                  replace H : (if t136 = true then (if x7_2.length < 17592186044416 then (impl_GetList.l0 k2 l0 (x7_2 ++ [t134]) t135 (wrap64 (rd l0 a1)) (wrap64 (x28_2 + 1))) else (none)) else (some (([] : List Int), 0, false))) = some (r1, r2, r3) := H
                  have A11 := Aside0.mk A110
                  clear A110
                  by_cases c12 : t136 = true
                  · subst c12
                    have H1 : (if x7_2.length < 17592186044416 then (impl_GetList.l0 k2 l0 (x7_2 ++ [t134]) t135 (wrap64 (rd l0 a1)) (wrap64 (x28_2 + 1))) else (none)) = some (r1, r2, r3) := by rw [if_pos rfl] at H; exact H
                    clear H
                    have H := H1
                    clear H1
                    by_cases c13 : x7_2.length < 17592186044416
                    · rw [if_pos c13] at H
                      have LMc13 := Aside0.mk c13
                      clear c13
                      obtain ⟨y137, hy137⟩ : ∃ y_ : List Int, y_ = (x7_2 ++ [t134]) := ⟨_, rfl⟩
                      replace H : (impl_GetList.l0 k2 l0 y137 t135 (wrap64 (rd l0 a1)) (wrap64 (x28_2 + 1))) = some (r1, r2, r3) := by first | (rw [hy137]; with_reducible exact H) | (have H2_ := (Option.bind_some _ _).symm.trans H; rw [hy137]; with_reducible exact H2_) | (have H2_ := (Option.bind_some _ _).symm.trans H; with_reducible exact H2_) | with_reducible exact H | (rw [hy137]; exact H) | exact H
                      have Ny137 := Aside0.mk hy137
                      clear hy137
                      have H' := Aside0.mk H
                      clear H
                      go_wp2_with (first | ((with_reducible refine gate_callee (f := 21) rfl ?_); refine goesL_ (some 33) rfl rfl Try.func21 (by kernel_rfl) rfl #[.slice (some ad133) l0.length c0, .int .i64 x8_2] rfl (by (try simp only [List.map_toArray, List.map_cons, List.map_nil]); first | done | rfl | (simp only [List.length_drop, List.length_take]; rfl)) ?_; (with_reducible refine (impl_GetNum.calls k2 _ _ l0 x8_2 t134 t135 true _ ?side1 ?side2 A11.out).mono ?_); (case side1 => repeat (first | exact (Kd.C_below HR0.out HB.out) | (with_reducible refine Kd.C_alloc ?_ _) | (with_reducible refine Kd.C_drewN ?_ _) | (with_reducible refine Kd.C_drew ?_))); (case side2 => exact HC0.out); rintro e w' ⟨rfl, ⟨nd, rfl⟩⟩; refine ⟨_, rfl, ?_⟩) | ((with_reducible refine gate_builtin (b := .append) (xs := #[.tmp 39, .tmp 41]) rfl ?_); (try (refine gate_guard (by rfl) ?_; dsimp only)); at_builtin; refine Kd.R_append (Kd.int .i64) (w0 := w) w.heap.size rfl (.tmp 39) (.tmp 41) 22 3 (.int .i64 0) 8 rfl Try.underlying22 info3 rfl (by decide) (by omega) u7 x7_2 t134 [.int .i64 t134] (fun _ => True) (fun _ => False) rfl rfl ?aP (fun _ hk => hk.elim) ?aF ?aO ?aB ?aS ?aL ?_; (case aP => exact rfl); (case aB => exact (by repeat (first | (with_reducible first | exact HB.out | apply below_alloc | apply pw_below_drewN | apply below_drew1) | exact HB.out))); (case aF => exact (fun _ _ => trivial)); (case aO => exact (by (with_reducible repeat (first | apply Kd.R_alloc | apply Kd.R_drewN | apply Kd.R_drew)); exact HO_7.out)); (case aS => exact (below_size (by repeat (first | (with_reducible first | exact HB.out | apply below_alloc | apply pw_below_drewN | apply below_drew1) | exact HB.out)))); (case aL => have := LMc13.out; omega); intro v138 w14 ho hb hg hat; rw [← Ny137.out] at ho; have n0_ := Aside0.mk (hb); have n1_ := Aside0.mk (ho); clear HB; clear HO_7; have HB := n0_; have HO139 := n1_; clear n0_ n1_; clear ho hb hg hat))
                      go_roundg k2
                      case measure => have := HJ2.out; have := HK2.out; omega
                      case rel => exact ⟨(y137), (t135), (wrap64 (x28_2 + 1)), (by first | rfl | (simp; done) | (simp [*]; done)), (by first | rfl | (simp; done) | (simp [*]; done)), H', ⟨by have := HJ2.out; have := HK2.out; omega⟩, ⟨by (with_reducible repeat (first | apply Kd.R_alloc | apply Kd.R_drewN | apply Kd.R_drew)); exact HO139.out⟩, ⟨by repeat (first | (with_reducible first | exact HB.out | apply below_alloc | apply pw_below_drewN | apply below_drew1) | exact HB.out)⟩⟩
                    · rw [if_neg c13] at H
                      exact absurd H (by simp)
                  · replace c12 := Bool.eq_false_iff.mpr c12
                    subst c12
                    have H1 : (some (([] : List Int), 0, false)) = some (r1, r2, r3) := by rw [if_neg (show ¬ (false = true) by decide)] at H; exact H
                    clear H
                    have H := H1
                    clear H1
                    simp only [Option.some.injEq, Prod.mk.injEq] at H
                    obtain ⟨rfl, rfl, rfl⟩ := H
                    go_wp2_with (first | ((with_reducible refine gate_callee (f := 21) rfl ?_); refine goesL_ (some 33) rfl rfl Try.func21 (by kernel_rfl) rfl #[.slice (some ad133) l0.length c0, .int .i64 x8_2] rfl (by (try simp only [List.map_toArray, List.map_cons, List.map_nil]); first | done | rfl | (simp only [List.length_drop, List.length_take]; rfl)) ?_; (with_reducible refine (impl_GetNum.calls k2 _ _ l0 x8_2 t134 t135 false _ ?side1 ?side2 A11.out).mono ?_); (case side1 => repeat (first | exact (Kd.C_below HR0.out HB.out) | (with_reducible refine Kd.C_alloc ?_ _) | (with_reducible refine Kd.C_drewN ?_ _) | (with_reducible refine Kd.C_drew ?_))); (case side2 => exact HC0.out); rintro e w' ⟨rfl, ⟨nd, rfl⟩⟩; refine ⟨_, rfl, ?_⟩))
                    go_ret3
                    exact ⟨_, by first | rfl | (simp [errW_none, errW_some] <;> rfl) | (simp [*, errW_none, errW_some] <;> rfl), by first | exact Kd.R_nil _ _ _ _ _ | exact Kd.N_nil _ _ _ _ _ | exact Kd.V_nil _ _ _ _ _ | exact Kd.Q_nil _ _ _ _ _ | exact Kd.S_nil _ _ _ _ _, by repeat (first | (with_reducible first | exact HB.out | apply below_alloc | apply pw_below_drewN | apply below_drew1) | exact HB.out)⟩
                · rw [if_neg c10] at H
                  have c10b0 : decide (x28_2 < (wrap64 (rd l0 a1))) = false := decide_eq_false c10
                  clear c10
                  simp only [Option.some.injEq, Prod.mk.injEq] at H
                  obtain ⟨rfl, rfl, rfl⟩ := H
                  go_wp2
                  go_ret3
                  exact ⟨_, by first | rfl | (simp [errW_none, errW_some] <;> rfl) | (simp [*, errW_none, errW_some] <;> rfl), by (with_reducible repeat (first | apply Kd.R_alloc | apply Kd.R_drewN | apply Kd.R_drew)); exact HO_7.out, by repeat (first | (with_reducible first | exact HB.out | apply below_alloc | apply pw_below_drewN | apply below_drew1) | exact HB.out)⟩
          · rw [if_neg c7] at H
            exact absurd H (by simp)
        · rw [if_neg c6] at H
          exact absurd H (by simp)

/-! ### laws_heldIntS: function 46 -/
def laws_heldIntS.l0 : Nat → List Int → Int → Int → Option (Int)
  | 0, _, _, _ => none
  | k + 1, x0, x1, x5 => if x5 < (x0.length : Int) then (if 0 ≤ x5 then (if (rd x0 x5) = x1 then (laws_heldIntS.l0 k x0 (wrap64 (x1 + 1)) (wrap64 (x5 + 1))) else (some (-1))) else (none)) else (some x1)
def laws_heldIntS.f (k : Nat) (l0 : List Int) (a1 : Int) : Option (Int) := laws_heldIntS.l0 k l0 a1 0
theorem laws_heldIntS.mono_l : ∀ k, (∀ y0 y1 y2, LeO (laws_heldIntS.l0 k y0 y1 y2) (laws_heldIntS.l0 (k + 1) y0 y1 y2))
  | 0 => fun _ _ _ r h => by simp [laws_heldIntS.l0] at h
  | k + 1 => by
    have ih0 := laws_heldIntS.mono_l k
    · intro y0 y1 y2
      unfold laws_heldIntS.l0
      repeat' first
      | (with_reducible exact ih0 _ _ _)
      | (with_reducible exact LeO.refl _)
      | (with_reducible exact LeO.none _)
      | (with_reducible refine LeO.ite ?_ ?_)
      | (with_reducible refine LeO.bind ?_ (fun _ => ?_))
      | exact ih0 _ _ _
      | exact LeO.none _
      | refine LeO.ite ?_ ?_
      | refine LeO.bind ?_ (fun _ => ?_)
theorem laws_heldIntS.mono : ∀ a0 a1 k, LeO (laws_heldIntS.f k a0 a1) (laws_heldIntS.f (k + 1) a0 a1) := by
  intro a0 a1 k
  have ih0 := laws_heldIntS.mono_l k
  unfold laws_heldIntS.f
  repeat' first
      | (with_reducible exact ih0 _ _ _)
      | (with_reducible exact LeO.refl _)
      | (with_reducible exact LeO.none _)
      | (with_reducible refine LeO.ite ?_ ?_)
      | (with_reducible refine LeO.bind ?_ (fun _ => ?_))
      | exact ih0 _ _ _
      | exact LeO.none _
      | refine LeO.ite ?_ ?_
      | refine LeO.bind ?_ (fun _ => ?_)
set_option maxHeartbeats 8000000 in
set_option maxRecDepth 100000 in
theorem laws_heldIntS.calls (k : Nat) (A0 : Option Addr) (c0 : Nat) (l0 : List Int) (a1 : Int) (r : Int) (w : World) (hr0 : Kd.C (Kd.int .i64) w A0 l0.length l0) (hc0 : l0.length ≤ c0) (h : laws_heldIntS.f k l0 a1 = some r) :
    Calls Try.prog 46 #[.slice A0 l0.length c0, .int .i64 a1] w fun e w' => e = .returned (.int .i64 r) ∧ Drawn0 w w' := by
  have HR0 := Aside0.mk hr0
  have HC0 := Aside0.mk hc0
  clear hr0 hc0
  have H : (laws_heldIntS.l0 k l0 a1 0) = some r := h
  clear h
  have H' := Aside0.mk H
  clear H
  go_enter Try.func46, Try.ntmps46
  go_wp2
  go_loopg [1, 5] k (fun kq v1 v5 w' => ∃ (x1_1 : Int) (x5_1 : Int), v1 = .int .i64 x1_1 ∧ v5 = .int .i64 x5_1 ∧ Aside0 (laws_heldIntS.l0 kq l0 x1_1 x5_1 = some r) ∧ Aside0 (kq ≤ k) ∧ Drawn0 w w')
  case atStart => exact ⟨(a1), (0), (by first | rfl | (simp; done) | (simp [*]; done)), (by first | rfl | (simp; done) | (simp [*]; done)), H', ⟨Nat.le_refl _⟩, by repeat (first | exact Drawn0.refl _ | apply Drawn0.step)⟩
  case round =>
    clear H'
    try clear p2
    obtain ⟨x1_1, x5_1, rfl, rfl, HA, HK1, ⟨m1, rfl⟩⟩ := hrel
    cases gk with
    | zero => exact absurd HA.out (by simp [laws_heldIntS.l0])
    | succ k1 =>
      have H := HA.out
      clear HA
      simp only [laws_heldIntS.l0] at H
      by_cases c3 : x5_1 < (l0.length : Int)
      · rw [if_pos c3] at H
        have c3b0 : decide (x5_1 < (l0.length : Int)) = true := decide_eq_true c3
        clear c3
        by_cases c4 : 0 ≤ x5_1
        · rw [if_pos c4] at H
          have c4b0 : decide (0 ≤ x5_1) = true := decide_eq_true c4
          clear c4
          by_cases c5 : (rd l0 x5_1) = x1_1
          · rw [if_pos c5] at H
            have c5b0 : ((rd l0 x5_1) == x1_1) = true := beq_iff_eq.mpr c5
            have c5b1 : ((rd l0 x5_1) != x1_1) = false := bne_eq_false_iff_eq.mpr c5
            clear c5
            have H' := Aside0.mk H
            clear H
            have p140 : 0 ≤ (x5_1 : Int) := of_decide_eq_true (by first | (with_reducible assumption) | assumption)
            have q140 : x5_1 < (l0.length : Int) := of_decide_eq_true (by first | (with_reducible assumption) | assumption)
            obtain ⟨ad140, e140, hx140_0⟩ := Kd.at_int HR0.out x5_1 p140 q140
            cases e140
            replace p140 := eq_true p140
            replace q140 := eq_true q140
            go_wp2
            go_roundg k1
            case measure => have := HK1.out; omega
            case rel => exact ⟨(wrap64 (x1_1 + 1)), (wrap64 (x5_1 + 1)), (by first | rfl | (simp; done) | (simp [*]; done)), (by first | rfl | (simp; done) | (simp [*]; done)), H', ⟨by have := HK1.out; omega⟩, by repeat (first | exact Drawn0.refl _ | apply Drawn0.step)⟩
          · rw [if_neg c5] at H
            have c5b0 : ((rd l0 x5_1) == x1_1) = false := beq_eq_false_iff_ne.mpr c5
            have c5b1 : ((rd l0 x5_1) != x1_1) = true := bne_iff_ne.mpr c5
            obtain rfl := Option.some.inj H
            have p140 : 0 ≤ (x5_1 : Int) := of_decide_eq_true (by first | (with_reducible assumption) | assumption)
            have q140 : x5_1 < (l0.length : Int) := of_decide_eq_true (by first | (with_reducible assumption) | assumption)
            obtain ⟨ad140, e140, hx140_0⟩ := Kd.at_int HR0.out x5_1 p140 q140
            cases e140
            replace p140 := eq_true p140
            replace q140 := eq_true q140
            go_wp2
            go_ret
            exact ⟨by first | rfl | (simp; done) | (simp [*]; done), by repeat (first | exact Drawn0.refl _ | apply Drawn0.step)⟩
        · rw [if_neg c4] at H
          exact absurd H (by simp)
      · rw [if_neg c3] at H
        have c3b0 : decide (x5_1 < (l0.length : Int)) = false := decide_eq_false c3
        clear c3
        obtain rfl := Option.some.inj H
        go_wp2
        go_ret
        exact ⟨by first | rfl | (simp; done) | (simp [*]; done), by repeat (first | exact Drawn0.refl _ | apply Drawn0.step)⟩

end Go.Proofs.Ytnkpbdpdgfjhcaa.QFnExactGetList
