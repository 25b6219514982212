-- Written by a program of this session (patch_print.py over the print).
import Derived.Test.YtfpbbikhcnpceaaQFnListsx0
import Derived.Test.YtfpbbikhcnpceaaQFnListsx1
import Derived.Test.YtfpbbikhcnpceaaQFnListsx3
namespace Go.Proofs.Ytfpbbikhcnpceaa.QFnLists
open Go.RowKit Go.Proofs.YtfpbbikhcnpceaaW.PrintWords Go.Proofs.YtfpbbikhcnpceaaW.PrintLast Go.Proofs.YtfpbbikhcnpceaaW.PrintMore
attribute [local go_sem] max2_int min2_int max_two min_two max_three min_three max_four min_four   -- for this text's walks alone
set_option linter.unusedVariables false
set_option linter.unusedSimpArgs false

/-! ### spec_GetList: function 49 -/
mutual
def spec_GetList.j0 : Nat → List Int → Int → List Int → Bool → Option (List Int × Int × Bool)
  | 0, _, _, _, _ => none
  | k + 1, x0, x1, x7, x21 => if x21 = true then (some (x7, 0, false)) else (if 0 ≤ x1 then (if x1 < (x0.length : Int) then (spec_GetList.l0 k x0 x7 (wrap64 (x1 + 1)) (wrap64 (rd x0 x1))) else (none)) else (none))
def spec_GetList.l0 : Nat → List Int → List Int → Int → Int → Option (List Int × Int × Bool)
  | 0, _, _, _, _ => none
  | k + 1, x0, x7, x8, x9 => if x9 > 0 then ((spec_GetNum.f k x0 x8).bind fun bt294 => (if bt294.2.2 = true then (if x7.length < 17592186044416 then (spec_GetList.l0 k x0 (x7 ++ [bt294.1]) bt294.2.1 (wrap64 (x9 - 1))) else (none)) else (some ((([] : List Int)), 0, false)))) else (some (x7, x8, true))
end
def spec_GetList.f (k : Nat) (l0 : List Int) (a1 : Int) : Option (List Int × Int × Bool) := (some (([] : List Int) : List Int)).bind fun y290 => (if a1 < 0 then (spec_GetList.j0 k l0 a1 y290 true) else (spec_GetList.j0 k l0 a1 y290 (decide (a1 ≥ (l0.length : Int)))))
theorem spec_GetList.mono_l : ∀ k, (∀ y0 y1 y2 y3, LeO (spec_GetList.j0 k y0 y1 y2 y3) (spec_GetList.j0 (k + 1) y0 y1 y2 y3)) ∧ (∀ y0 y1 y2 y3, LeO (spec_GetList.l0 k y0 y1 y2 y3) (spec_GetList.l0 (k + 1) y0 y1 y2 y3))
  | 0 => ⟨fun _ _ _ _ r h => by simp [spec_GetList.j0] at h, fun _ _ _ _ r h => by simp [spec_GetList.l0] at h⟩
  | k + 1 => by
    obtain ⟨ih0, ih1⟩ := spec_GetList.mono_l k
    refine ⟨?_, ?_⟩
    · intro y0 y1 y2 y3
      unfold spec_GetList.j0
      repeat' first
      | (with_reducible exact ih0 _ _ _ _)
      | (with_reducible exact ih1 _ _ _ _)
      | (with_reducible exact spec_GetNum.mono _ _ _)
      | (with_reducible exact LeO.refl _)
      | (with_reducible exact LeO.none _)
      | (with_reducible refine LeO.ite ?_ ?_)
      | (with_reducible refine LeO.bind ?_ (fun _ => ?_))
      | exact ih0 _ _ _ _
      | exact ih1 _ _ _ _
      | exact spec_GetNum.mono _ _ _
      | exact LeO.none _
      | refine LeO.ite ?_ ?_
      | refine LeO.bind ?_ (fun _ => ?_)
    · intro y0 y1 y2 y3
      unfold spec_GetList.l0
      repeat' first
      | (with_reducible exact ih0 _ _ _ _)
      | (with_reducible exact ih1 _ _ _ _)
      | (with_reducible exact spec_GetNum.mono _ _ _)
      | (with_reducible exact LeO.refl _)
      | (with_reducible exact LeO.none _)
      | (with_reducible refine LeO.ite ?_ ?_)
      | (with_reducible refine LeO.bind ?_ (fun _ => ?_))
      | exact ih0 _ _ _ _
      | exact ih1 _ _ _ _
      | exact spec_GetNum.mono _ _ _
      | exact LeO.none _
      | refine LeO.ite ?_ ?_
      | refine LeO.bind ?_ (fun _ => ?_)
theorem spec_GetList.mono : ∀ a0 a1 k, LeO (spec_GetList.f k a0 a1) (spec_GetList.f (k + 1) a0 a1) := by
  intro a0 a1 k
  obtain ⟨ih0, ih1⟩ := spec_GetList.mono_l k
  unfold spec_GetList.f
  repeat' first
      | (with_reducible exact ih0 _ _ _ _)
      | (with_reducible exact ih1 _ _ _ _)
      | (with_reducible exact spec_GetNum.mono _ _ _)
      | (with_reducible exact LeO.refl _)
      | (with_reducible exact LeO.none _)
      | (with_reducible refine LeO.ite ?_ ?_)
      | (with_reducible refine LeO.bind ?_ (fun _ => ?_))
      | exact ih0 _ _ _ _
      | exact ih1 _ _ _ _
      | exact spec_GetNum.mono _ _ _
      | exact LeO.none _
      | refine LeO.ite ?_ ?_
      | refine LeO.bind ?_ (fun _ => ?_)
set_option maxHeartbeats 8000000 in
set_option maxRecDepth 100000 in
theorem spec_GetList.calls (k : Nat) (A0 : Option Addr) (c0 : Nat) (l0 : List Int) (a1 : Int) (r1 : List Int) (r2 : Int) (r3 : Bool) (w : World) (hr0 : Kd.C (Kd.int .u8) w A0 l0.length l0) (hc0 : l0.length ≤ c0) (h : spec_GetList.f k l0 a1 = some (r1, r2, r3)) :
    Calls Try.prog 49 #[.slice A0 l0.length c0, .int .i64 a1] w fun e w' => ∃ v0_ : Value, e = .returned (.tuple #[v0_, .int .i64 r2, .bool r3]) ∧ Kd.R (Kd.int .i64) 3 w' w.heap.size (fun _ => True) v0_ r1 ∧ Below w.heap.size w w' := by
  have HR0 := Aside0.mk hr0
  have HC0 := Aside0.mk hc0
  clear hr0 hc0
  have HB := Aside0.mk (Below.refl w.heap.size w)
  have H : ((some (([] : List Int) : List Int)).bind fun y290 => (if a1 < 0 then (spec_GetList.j0 k l0 a1 y290 true) else (spec_GetList.j0 k l0 a1 y290 (decide (a1 ≥ (l0.length : Int)))))) = some (r1, r2, r3) := h
  clear h
  obtain ⟨y290, hy290⟩ : ∃ y_ : List Int, y_ = (([] : List Int)) := ⟨_, rfl⟩
  replace H : (if a1 < 0 then (spec_GetList.j0 k l0 a1 y290 true) else (spec_GetList.j0 k l0 a1 y290 (decide (a1 ≥ (l0.length : Int))))) = some (r1, r2, r3) := by first | (rw [hy290]; with_reducible exact H) | (have H2_ := (Option.bind_some _ _).symm.trans H; rw [hy290]; with_reducible exact H2_) | (have H2_ := (Option.bind_some _ _).symm.trans H; with_reducible exact H2_) | with_reducible exact H | (rw [hy290]; exact H) | exact H
  have Ny290 := Aside0.mk hy290
  clear hy290
  have HC3 := Aside0.mk H
  clear H
  go_enter Try.func49, Try.ntmps49
  go_upto_region 2 with (first | ((with_reducible refine gate_dst (N := 13) rfl ?_); (try (refine gate_guard (by rfl) ?_; dsimp only)); refine Kd.R_lit (Kd.int .i64) _ 3 ?hg (N := 13) ?hd (xs := ([] : List Int)) (inner := []) (ok := fun _ => True) (okp := fun _ => True) ?hr ?hp (fun _ hk => hk) trivial (Below.refl _ _) (Nat.le_refl _) (by simp) ?_; (case hd => rfl); (case hg => rfl); (case hr => first | (go_simp; done) | (go_simp; rfl)); (case hp => exact (Reps.none _ _)); intro v291 w4 ho5 hb hg_ hnew_; clear hg_ hnew_; (first | rw [← Ny290.out] at ho5 | (simp only [Int.reduceToNat] at ho5; rw [← Ny290.out] at ho5)); have n0_ := Aside0.mk (Kd.R_lower ho5 (below_size (by repeat (first | (with_reducible first | exact HB.out | apply below_alloc | apply pw_below_drewN | apply below_drew1) | exact HB.out)))); have n1_ := Aside0.mk (below_step (by repeat (first | (with_reducible first | exact HB.out | apply below_alloc | apply pw_below_drewN | apply below_drew1) | exact HB.out)) hb); clear HB; have HO292 := n0_; have HB := n1_; clear n0_ n1_; clear hb ho5))
  (try simp only [Act.put, List.setIfInBounds_toArray, List.set_cons_zero, List.set_cons_succ])
  go_cut [21] (fun v21 wc => ∃ (kq : Nat) (x21_2 : Bool), v21 = .bool x21_2 ∧ Aside0 (spec_GetList.j0 kq l0 a1 y290 x21_2 = some (r1, r2, r3)) ∧ Aside0 (kq ≤ k) ∧ Aside0 (Kd.R (Kd.int .i64) 3 wc w.heap.size (fun _ => True) v291 y290) ∧ Aside0 (Below w.heap.size w wc))
  case first =>
    have H := HC3.out
    clear HC3
    by_cases c6 : a1 < 0
    · rw [if_pos c6] at H
      have c6b0 : decide (a1 < 0) = true := decide_eq_true c6
      clear c6
      (first | rw [c6b0] | (simp only [i64_w, i32_w]; rw [c6b0]) | skip)
      have H' := Aside0.mk H
      clear H
      go_wp2
      go_meet
      case rel => exact ⟨_, (true), (by first | rfl | (simp; done) | (simp [*]; done)), H', ⟨by first | omega | exact Nat.le_refl _⟩, ⟨by (with_reducible repeat (first | apply Kd.R_alloc | apply Kd.R_drewN | apply Kd.R_drew)); exact HO292.out⟩, ⟨by repeat (first | (with_reducible first | exact HB.out | apply below_alloc | apply pw_below_drewN | apply below_drew1) | exact HB.out)⟩⟩
    · rw [if_neg c6] at H
      have c6b0 : decide (a1 < 0) = false := decide_eq_false c6
      clear c6
      (first | rw [c6b0] | (simp only [i64_w, i32_w]; rw [c6b0]) | skip)
      have H' := Aside0.mk H
      clear H
      go_wp2
      go_meet
      case rel => exact ⟨_, (decide (a1 ≥ (l0.length : Int))), (by first | rfl | (simp; done) | (simp [*]; done)), H', ⟨by first | omega | exact Nat.le_refl _⟩, ⟨by (with_reducible repeat (first | apply Kd.R_alloc | apply Kd.R_drewN | apply Kd.R_drew)); exact HO292.out⟩, ⟨by repeat (first | (with_reducible first | exact HB.out | apply below_alloc | apply pw_below_drewN | apply below_drew1) | exact HB.out)⟩⟩
  case rest =>
    clear HC3
    try clear p2
    try clear c4
    try clear c6
    try clear c6b0
    obtain ⟨kq, x21_2, rfl, HA, HJ2, HO_7, HB⟩ := hcut
    cases kq with
    | zero => exact absurd HA.out (by simp [spec_GetList.j0])
    | succ kj2 =>
      have H := HA.out
      clear HA
      simp only [spec_GetList.j0] at H
      by_cases c7 : x21_2 = true
      · subst c7
        have H1 : (some (y290, 0, false)) = some (r1, r2, r3) := by rw [if_pos rfl] at H; exact H
        clear H
        have H := H1
        clear H1
        simp only [Option.some.injEq, Prod.mk.injEq] at H
        obtain ⟨rfl, rfl, rfl⟩ := H
        go_wp2
        go_ret3
        exact ⟨_, by first | rfl | (simp [errW_none, errW_some] <;> rfl) | (simp [*, errW_none, errW_some] <;> rfl), by (with_reducible repeat (first | apply Kd.R_alloc | apply Kd.R_drewN | apply Kd.R_drew)); exact HO_7.out, by repeat (first | (with_reducible first | exact HB.out | apply below_alloc | apply pw_below_drewN | apply below_drew1) | exact HB.out)⟩
      · replace c7 := Bool.eq_false_iff.mpr c7
        subst c7
        have H1 : (if 0 ≤ a1 then (if a1 < (l0.length : Int) then (spec_GetList.l0 kj2 l0 y290 (wrap64 (a1 + 1)) (wrap64 (rd l0 a1))) else (none)) else (none)) = some (r1, r2, r3) := by rw [if_neg (show ¬ (false = true) by decide)] at H; exact H
        clear H
        have H := H1
        clear H1
        by_cases c8 : 0 ≤ a1
        · rw [if_pos c8] at H
          have c8b0 : decide (0 ≤ a1) = true := decide_eq_true c8
          clear c8
          by_cases c9 : a1 < (l0.length : Int)
          · rw [if_pos c9] at H
            have c9b0 : decide (a1 < (l0.length : Int)) = true := decide_eq_true c9
            clear c9
            have H' := Aside0.mk H
            clear H
            have p293 : 0 ≤ (a1 : Int) := of_decide_eq_true (by first | (with_reducible assumption) | assumption)
            have q293 : a1 < (l0.length : Int) := of_decide_eq_true (by first | (with_reducible assumption) | assumption)
            obtain ⟨ad293, e293, hx293_0⟩ := Kd.at_int HR0.out a1 p293 q293
            cases e293
            replace hx293_0 := (HB.out.cell (World.block_lt_of_cell? w _ hx293_0)).trans hx293_0
            replace p293 := eq_true p293
            replace q293 := eq_true q293
            go_wp2
            go_loopg [7, 8, 9] kj2 (fun kq v7 v8 v9 w' => ∃ (x7_2 : List Int) (x8_2 : Int) (x9_2 : Int), v8 = .int .i64 x8_2 ∧ v9 = .int .i64 x9_2 ∧ Aside0 (spec_GetList.l0 kq l0 x7_2 x8_2 x9_2 = some (r1, r2, r3)) ∧ Aside0 (kq ≤ kj2) ∧ Aside0 (Kd.R (Kd.int .i64) 3 w' w.heap.size (fun _ => True) v7 x7_2) ∧ Aside0 (Below w.heap.size w w'))
            case atStart => exact ⟨(y290), (wrap64 (a1 + 1)), (wrap64 (rd l0 a1)), (by first | rfl | (simp; done) | (simp [*]; done)), (by first | rfl | (simp; done) | (simp [*]; done)), H', ⟨Nat.le_refl _⟩, ⟨by (with_reducible repeat (first | apply Kd.R_alloc | apply Kd.R_drewN | apply Kd.R_drew)); exact HO_7.out⟩, ⟨by repeat (first | (with_reducible first | exact HB.out | apply below_alloc | apply pw_below_drewN | apply below_drew1) | exact HB.out)⟩⟩
            case round =>
              clear H'
              try clear p2
              try clear q2
              try clear hx2
              try clear c4
              try clear c6
              try clear c6b0
              try clear p6
              try clear c7
              try clear c8
              try clear c8b0
              try clear c9
              try clear c9b0
              try clear hx293_0
              try clear p2
              try clear p293
              try clear q293
              obtain ⟨x7_2, x8_2, x9_2, rfl, rfl, HA, HK2, HO_7, HB⟩ := hrel
              cases gk with
              | zero => exact absurd HA.out (by simp [spec_GetList.l0])
              | succ k2 =>
                have H := HA.out
                clear HA
                simp only [spec_GetList.l0] at H
                by_cases c10 : x9_2 > 0
                · rw [if_pos c10] at H
                  have c10b0 : decide (0 < x9_2) = true := decide_eq_true c10
                  clear c10
                  replace H := Option.bind_eq_some_iff.mp H
                  obtain ⟨⟨t294, t295, t296⟩, A110, H⟩ := H
                  replace H : (if t296 = true then (if x7_2.length < 17592186044416 then (spec_GetList.l0 k2 l0 (x7_2 ++ [t294]) t295 (wrap64 (x9_2 - 1))) else (none)) else (some ((([] : List Int)), 0, false))) = some (r1, r2, r3) := H
                  have A11 := Aside0.mk A110
                  clear A110
                  by_cases c12 : t296 = true
                  · subst c12
                    have H1 : (if x7_2.length < 17592186044416 then (spec_GetList.l0 k2 l0 (x7_2 ++ [t294]) t295 (wrap64 (x9_2 - 1))) else (none)) = some (r1, r2, r3) := by rw [if_pos rfl] at H; exact H
                    clear H
                    have H := H1
                    clear H1
                    by_cases c13 : x7_2.length < 17592186044416
                    · rw [if_pos c13] at H
                      have LMc13 := Aside0.mk c13
                      clear c13
                      obtain ⟨y297, hy297⟩ : ∃ y_ : List Int, y_ = (x7_2 ++ [t294]) := ⟨_, rfl⟩
                      replace H : (spec_GetList.l0 k2 l0 y297 t295 (wrap64 (x9_2 - 1))) = some (r1, r2, r3) := by first | (rw [hy297]; with_reducible exact H) | (have H2_ := (Option.bind_some _ _).symm.trans H; rw [hy297]; with_reducible exact H2_) | (have H2_ := (Option.bind_some _ _).symm.trans H; with_reducible exact H2_) | with_reducible exact H | (rw [hy297]; exact H) | exact H
                      have Ny297 := Aside0.mk hy297
                      clear hy297
                      have H' := Aside0.mk H
                      clear H
                      go_wp2_with (first | ((with_reducible refine gate_callee (f := 34) rfl ?_); refine goesL_ (some 37) rfl rfl Try.func34 (by kernel_rfl) rfl #[.slice (some ad293) l0.length c0, .int .i64 x8_2] rfl (by (try simp only [List.map_toArray, List.map_cons, List.map_nil]); first | done | rfl | (simp only [List.length_drop, List.length_take]; rfl)) ?_; (with_reducible refine (spec_GetNum.calls k2 _ _ l0 x8_2 t294 t295 true _ ?side1 ?side2 A11.out).mono ?_); (case side1 => repeat (first | exact (Kd.C_below HR0.out HB.out) | (with_reducible refine Kd.C_alloc ?_ _) | (with_reducible refine Kd.C_drewN ?_ _) | (with_reducible refine Kd.C_drew ?_))); (case side2 => exact HC0.out); rintro e w' ⟨rfl, ⟨nd, rfl⟩⟩; refine ⟨_, rfl, ?_⟩) | ((with_reducible refine gate_builtin (b := .append) (xs := #[.tmp 44, .tmp 46]) rfl ?_); (try (refine gate_guard (by rfl) ?_; dsimp only)); at_builtin; refine Kd.R_append (Kd.int .i64) (w0 := w) w.heap.size rfl (.tmp 44) (.tmp 46) 39 3 (.int .i64 0) 8 rfl Try.underlying39 info3 rfl (by decide) (by omega) u7 x7_2 t294 [.int .i64 t294] (fun _ => True) (fun _ => False) rfl rfl ?aP (fun _ hk => hk.elim) ?aF ?aO ?aB ?aS ?aL ?_; (case aP => exact rfl); (case aB => exact (by repeat (first | (with_reducible first | exact HB.out | apply below_alloc | apply pw_below_drewN | apply below_drew1) | exact HB.out))); (case aF => exact (fun _ _ => trivial)); (case aO => exact (by (with_reducible repeat (first | apply Kd.R_alloc | apply Kd.R_drewN | apply Kd.R_drew)); exact HO_7.out)); (case aS => exact (below_size (by repeat (first | (with_reducible first | exact HB.out | apply below_alloc | apply pw_below_drewN | apply below_drew1) | exact HB.out)))); (case aL => have := LMc13.out; omega); intro v298 w14 ho hb hg hat; rw [← Ny297.out] at ho; have n0_ := Aside0.mk (hb); have n1_ := Aside0.mk (ho); clear HB; clear HO_7; have HB := n0_; have HO299 := n1_; clear n0_ n1_; clear ho hb hg hat))
                      go_roundg k2
                      case measure => have := HJ2.out; have := HK2.out; omega
                      case rel => exact ⟨(y297), (t295), (wrap64 (x9_2 - 1)), (by first | rfl | (simp; done) | (simp [*]; done)), (by first | rfl | (simp; done) | (simp [*]; done)), H', ⟨by have := HJ2.out; have := HK2.out; omega⟩, ⟨by (with_reducible repeat (first | apply Kd.R_alloc | apply Kd.R_drewN | apply Kd.R_drew)); exact HO299.out⟩, ⟨by repeat (first | (with_reducible first | exact HB.out | apply below_alloc | apply pw_below_drewN | apply below_drew1) | exact HB.out)⟩⟩
                    · rw [if_neg c13] at H
                      exact absurd H (by simp)
                  · replace c12 := Bool.eq_false_iff.mpr c12
                    subst c12
                    have H1 : (some ((([] : List Int)), 0, false)) = some (r1, r2, r3) := by rw [if_neg (show ¬ (false = true) by decide)] at H; exact H
                    clear H
                    have H := H1
                    clear H1
                    obtain ⟨y300, hy300⟩ : ∃ y_ : List Int, y_ = (([] : List Int)) := ⟨_, rfl⟩
                    replace H : (some (y300, 0, false)) = some (r1, r2, r3) := by first | (rw [hy300]; with_reducible exact H) | (have H2_ := (Option.bind_some _ _).symm.trans H; rw [hy300]; with_reducible exact H2_) | (have H2_ := (Option.bind_some _ _).symm.trans H; with_reducible exact H2_) | with_reducible exact H | (rw [hy300]; exact H) | exact H
                    have Ny300 := Aside0.mk hy300
                    clear hy300
                    simp only [Option.some.injEq, Prod.mk.injEq] at H
                    obtain ⟨rfl, rfl, rfl⟩ := H
                    go_wp2_with (first | ((with_reducible refine gate_callee (f := 34) rfl ?_); refine goesL_ (some 37) rfl rfl Try.func34 (by kernel_rfl) rfl #[.slice (some ad293) l0.length c0, .int .i64 x8_2] rfl (by (try simp only [List.map_toArray, List.map_cons, List.map_nil]); first | done | rfl | (simp only [List.length_drop, List.length_take]; rfl)) ?_; (with_reducible refine (spec_GetNum.calls k2 _ _ l0 x8_2 t294 t295 false _ ?side1 ?side2 A11.out).mono ?_); (case side1 => repeat (first | exact (Kd.C_below HR0.out HB.out) | (with_reducible refine Kd.C_alloc ?_ _) | (with_reducible refine Kd.C_drewN ?_ _) | (with_reducible refine Kd.C_drew ?_))); (case side2 => exact HC0.out); rintro e w' ⟨rfl, ⟨nd, rfl⟩⟩; refine ⟨_, rfl, ?_⟩) | ((with_reducible refine gate_dst (N := 43) rfl ?_); (try (refine gate_guard (by rfl) ?_; dsimp only)); refine Kd.R_lit (Kd.int .i64) _ 3 ?hg (N := 43) ?hd (xs := ([] : List Int)) (inner := []) (ok := fun _ => True) (okp := fun _ => True) ?hr ?hp (fun _ hk => hk) trivial (Below.refl _ _) (Nat.le_refl _) (by simp) ?_; (case hd => rfl); (case hg => rfl); (case hr => first | (go_simp; done) | (go_simp; rfl)); (case hp => exact (Reps.none _ _)); intro v301 w15 ho16 hb hg_ hnew_; clear hg_ hnew_; (first | rw [← Ny300.out] at ho16 | (simp only [Int.reduceToNat] at ho16; rw [← Ny300.out] at ho16)); have n0_ := Aside0.mk (Kd.R_elder' (by (with_reducible repeat (first | apply Kd.R_alloc | apply Kd.R_drewN | apply Kd.R_drew)); exact HO_7.out) (Kd.R_base ho16) hb); have n1_ := Aside0.mk (Kd.R_lower (Kd.R_new' ho16 (Kd.R_lt (by (with_reducible repeat (first | apply Kd.R_alloc | apply Kd.R_drewN | apply Kd.R_drew)); exact HO_7.out))) (below_size (by repeat (first | (with_reducible first | exact HB.out | apply below_alloc | apply pw_below_drewN | apply below_drew1) | exact HB.out)))); have n2_ := Aside0.mk (below_step (by repeat (first | (with_reducible first | exact HB.out | apply below_alloc | apply pw_below_drewN | apply below_drew1) | exact HB.out)) hb); clear HO_7; clear HB; have HO_7 := n0_; have HO302 := n1_; have HB := n2_; clear n0_ n1_ n2_; clear hb ho16))
                    go_ret3
                    exact ⟨_, by first | rfl | (simp [errW_none, errW_some] <;> rfl) | (simp [*, errW_none, errW_some] <;> rfl), by (with_reducible repeat (first | apply Kd.R_alloc | apply Kd.R_drewN | apply Kd.R_drew)); exact Kd.R_mono HO302.out (fun _ hk => trivial), by repeat (first | (with_reducible first | exact HB.out | apply below_alloc | apply pw_below_drewN | apply below_drew1) | exact HB.out)⟩
                · rw [if_neg c10] at H
                  have c10b0 : decide (0 < x9_2) = false := decide_eq_false c10
                  clear c10
                  simp only [Option.some.injEq, Prod.mk.injEq] at H
                  obtain ⟨rfl, rfl, rfl⟩ := H
                  go_wp2
                  go_ret3
                  exact ⟨_, by first | rfl | (simp [errW_none, errW_some] <;> rfl) | (simp [*, errW_none, errW_some] <;> rfl), by (with_reducible repeat (first | apply Kd.R_alloc | apply Kd.R_drewN | apply Kd.R_drew)); exact HO_7.out, by repeat (first | (with_reducible first | exact HB.out | apply below_alloc | apply pw_below_drewN | apply below_drew1) | exact HB.out)⟩
          · rw [if_neg c9] at H
            exact absurd H (by simp)
        · rw [if_neg c8] at H
          exact absurd H (by simp)

/-! ### spec_Unpacked: function 46 -/
def spec_Unpacked.f (k : Nat) (l0 : List Int) : Option (List Int × Bool) := (spec_GetList.f k l0 0).bind fun bt303 => (if bt303.2.2 = true then (if bt303.2.1 = (l0.length : Int) then (some (bt303.1, true)) else (some ((([] : List Int)), false))) else (some ((([] : List Int)), false)))
theorem spec_Unpacked.mono : ∀ a0 k, LeO (spec_Unpacked.f k a0) (spec_Unpacked.f (k + 1) a0) := by
  intro a0 k
  unfold spec_Unpacked.f
  repeat' first
      | (with_reducible exact spec_GetList.mono _ _ _)
      | (with_reducible exact LeO.refl _)
      | (with_reducible exact LeO.none _)
      | (with_reducible refine LeO.ite ?_ ?_)
      | (with_reducible refine LeO.bind ?_ (fun _ => ?_))
      | exact spec_GetList.mono _ _ _
      | exact LeO.none _
      | refine LeO.ite ?_ ?_
      | refine LeO.bind ?_ (fun _ => ?_)
set_option maxHeartbeats 8000000 in
set_option maxRecDepth 100000 in
theorem spec_Unpacked.calls (k : Nat) (A0 : Option Addr) (c0 : Nat) (l0 : List Int) (r1 : List Int) (r2 : Bool) (w : World) (hr0 : Kd.C (Kd.int .u8) w A0 l0.length l0) (hc0 : l0.length ≤ c0) (h : spec_Unpacked.f k l0 = some (r1, r2)) :
    Calls Try.prog 46 #[.slice A0 l0.length c0] w fun e w' => ∃ v0_ : Value, e = .returned (.tuple #[v0_, .bool r2]) ∧ Kd.R (Kd.int .i64) 3 w' w.heap.size (fun _ => True) v0_ r1 ∧ Below w.heap.size w w' := by
  have HR0 := Aside0.mk hr0
  have HC0 := Aside0.mk hc0
  clear hr0 hc0
  have HB := Aside0.mk (Below.refl w.heap.size w)
  have H : ((spec_GetList.f k l0 0).bind fun bt303 => (if bt303.2.2 = true then (if bt303.2.1 = (l0.length : Int) then (some (bt303.1, true)) else (some ((([] : List Int)), false))) else (some ((([] : List Int)), false)))) = some (r1, r2) := h
  clear h
  replace H := Option.bind_eq_some_iff.mp H
  obtain ⟨⟨t303, t304, t305⟩, A20, H⟩ := H
  replace H : (if t305 = true then (if t304 = (l0.length : Int) then (some (t303, true)) else (some ((([] : List Int)), false))) else (some ((([] : List Int)), false))) = some (r1, r2) := H
  have A2 := Aside0.mk A20
  clear A20
  by_cases c3 : t305 = true
  · subst c3
    have H1 : (if t304 = (l0.length : Int) then (some (t303, true)) else (some ((([] : List Int)), false))) = some (r1, r2) := by rw [if_pos rfl] at H; exact H
    clear H
    have H := H1
    clear H1
    by_cases c4 : t304 = (l0.length : Int)
    · rw [if_pos c4] at H
      have c4b0 : (t304 == (l0.length : Int)) = true := beq_iff_eq.mpr c4
      have c4b1 : (t304 != (l0.length : Int)) = false := bne_eq_false_iff_eq.mpr c4
      clear c4
      simp only [Option.some.injEq, Prod.mk.injEq] at H
      obtain ⟨rfl, rfl⟩ := H
      go_enter Try.func46, Try.ntmps46
      go_wp2_with (first | ((with_reducible refine gate_callee (f := 49) rfl ?_); refine goesL_ (some 9) rfl rfl Try.func49 (by kernel_rfl) rfl #[.slice A0 l0.length c0, .int .i64 0] rfl (by (try simp only [List.map_toArray, List.map_cons, List.map_nil]); first | done | rfl | (simp only [List.length_drop, List.length_take]; rfl)) ?_; (with_reducible refine (spec_GetList.calls k _ _ l0 0 t303 t304 true _ ?side1 ?side2 A2.out).mono ?_); (case side1 => repeat (first | exact HR0.out | (with_reducible refine Kd.C_alloc ?_ _) | (with_reducible refine Kd.C_drewN ?_ _) | (with_reducible refine Kd.C_drew ?_))); (case side2 => exact HC0.out); rintro e w5 ⟨v306, rfl, ho0, hb⟩; refine ⟨_, rfl, ?_⟩; have n0_ := Aside0.mk (Kd.R_lower ho0 (below_size (by repeat (first | (with_reducible first | exact HB.out | apply below_alloc | apply pw_below_drewN | apply below_drew1) | exact HB.out)))); have n1_ := Aside0.mk (below_step (by repeat (first | (with_reducible first | exact HB.out | apply below_alloc | apply pw_below_drewN | apply below_drew1) | exact HB.out)) hb); clear HB; have HO307 := n0_; have HB := n1_; clear n0_ n1_; (try clear hb); (try clear hb2); (try clear hk); (try clear hi); (try clear ho0)))
      go_ret2
      exact ⟨_, by first | rfl | (simp [errW_none, errW_some] <;> rfl) | (simp [*, errW_none, errW_some] <;> rfl), by (with_reducible repeat (first | apply Kd.R_alloc | apply Kd.R_drewN | apply Kd.R_drew)); exact HO307.out, by repeat (first | (with_reducible first | exact HB.out | apply below_alloc | apply pw_below_drewN | apply below_drew1) | exact HB.out)⟩
    · rw [if_neg c4] at H
      have c4b0 : (t304 == (l0.length : Int)) = false := beq_eq_false_iff_ne.mpr c4
      have c4b1 : (t304 != (l0.length : Int)) = true := bne_iff_ne.mpr c4
      obtain ⟨y308, hy308⟩ : ∃ y_ : List Int, y_ = (([] : List Int)) := ⟨_, rfl⟩
      replace H : (some (y308, false)) = some (r1, r2) := by first | (rw [hy308]; with_reducible exact H) | (have H2_ := (Option.bind_some _ _).symm.trans H; rw [hy308]; with_reducible exact H2_) | (have H2_ := (Option.bind_some _ _).symm.trans H; with_reducible exact H2_) | with_reducible exact H | (rw [hy308]; exact H) | exact H
      have Ny308 := Aside0.mk hy308
      clear hy308
      simp only [Option.some.injEq, Prod.mk.injEq] at H
      obtain ⟨rfl, rfl⟩ := H
      go_enter Try.func46, Try.ntmps46
      go_wp2_with (first | ((with_reducible refine gate_callee (f := 49) rfl ?_); refine goesL_ (some 9) rfl rfl Try.func49 (by kernel_rfl) rfl #[.slice A0 l0.length c0, .int .i64 0] rfl (by (try simp only [List.map_toArray, List.map_cons, List.map_nil]); first | done | rfl | (simp only [List.length_drop, List.length_take]; rfl)) ?_; (with_reducible refine (spec_GetList.calls k _ _ l0 0 t303 t304 true _ ?side1 ?side2 A2.out).mono ?_); (case side1 => repeat (first | exact HR0.out | (with_reducible refine Kd.C_alloc ?_ _) | (with_reducible refine Kd.C_drewN ?_ _) | (with_reducible refine Kd.C_drew ?_))); (case side2 => exact HC0.out); rintro e w6 ⟨v306, rfl, ho0, hb⟩; refine ⟨_, rfl, ?_⟩; have n0_ := Aside0.mk (Kd.R_lower ho0 (below_size (by repeat (first | (with_reducible first | exact HB.out | apply below_alloc | apply pw_below_drewN | apply below_drew1) | exact HB.out)))); have n1_ := Aside0.mk (below_step (by repeat (first | (with_reducible first | exact HB.out | apply below_alloc | apply pw_below_drewN | apply below_drew1) | exact HB.out)) hb); clear HB; have HO307 := n0_; have HB := n1_; clear n0_ n1_; (try clear hb); (try clear hb2); (try clear hk); (try clear hi); (try clear ho0)) | ((with_reducible refine gate_dst (N := 21) rfl ?_); (try (refine gate_guard (by rfl) ?_; dsimp only)); refine Kd.R_lit (Kd.int .i64) _ 3 ?hg (N := 21) ?hd (xs := ([] : List Int)) (inner := []) (ok := fun _ => True) (okp := fun _ => True) ?hr ?hp (fun _ hk => hk) trivial (Below.refl _ _) (Nat.le_refl _) (by simp) ?_; (case hd => rfl); (case hg => rfl); (case hr => first | (go_simp; done) | (go_simp; rfl)); (case hp => exact (Reps.none _ _)); intro v309 w7 ho8 hb hg_ hnew_; clear hg_ hnew_; (first | rw [← Ny308.out] at ho8 | (simp only [Int.reduceToNat] at ho8; rw [← Ny308.out] at ho8)); have n0_ := Aside0.mk (Kd.R_elder' (by (with_reducible repeat (first | apply Kd.R_alloc | apply Kd.R_drewN | apply Kd.R_drew)); exact HO307.out) (Kd.R_base ho8) hb); have n1_ := Aside0.mk (Kd.R_lower (Kd.R_new' ho8 (Kd.R_lt (by (with_reducible repeat (first | apply Kd.R_alloc | apply Kd.R_drewN | apply Kd.R_drew)); exact HO307.out))) (below_size (by repeat (first | (with_reducible first | exact HB.out | apply below_alloc | apply pw_below_drewN | apply below_drew1) | exact HB.out)))); have n2_ := Aside0.mk (below_step (by repeat (first | (with_reducible first | exact HB.out | apply below_alloc | apply pw_below_drewN | apply below_drew1) | exact HB.out)) hb); clear HO307; clear HB; have HO307 := n0_; have HO310 := n1_; have HB := n2_; clear n0_ n1_ n2_; clear hb ho8))
      go_ret2
      exact ⟨_, by first | rfl | (simp [errW_none, errW_some] <;> rfl) | (simp [*, errW_none, errW_some] <;> rfl), by (with_reducible repeat (first | apply Kd.R_alloc | apply Kd.R_drewN | apply Kd.R_drew)); exact Kd.R_mono HO310.out (fun _ hk => trivial), by repeat (first | (with_reducible first | exact HB.out | apply below_alloc | apply pw_below_drewN | apply below_drew1) | exact HB.out)⟩
  · replace c3 := Bool.eq_false_iff.mpr c3
    subst c3
    have H1 : (some ((([] : List Int)), false)) = some (r1, r2) := by rw [if_neg (show ¬ (false = true) by decide)] at H; exact H
    clear H
    have H := H1
    clear H1
    obtain ⟨y311, hy311⟩ : ∃ y_ : List Int, y_ = (([] : List Int)) := ⟨_, rfl⟩
    replace H : (some (y311, false)) = some (r1, r2) := by first | (rw [hy311]; with_reducible exact H) | (have H2_ := (Option.bind_some _ _).symm.trans H; rw [hy311]; with_reducible exact H2_) | (have H2_ := (Option.bind_some _ _).symm.trans H; with_reducible exact H2_) | with_reducible exact H | (rw [hy311]; exact H) | exact H
    have Ny311 := Aside0.mk hy311
    clear hy311
    simp only [Option.some.injEq, Prod.mk.injEq] at H
    obtain ⟨rfl, rfl⟩ := H
    go_enter Try.func46, Try.ntmps46
    go_wp2_with (first | ((with_reducible refine gate_callee (f := 49) rfl ?_); refine goesL_ (some 9) rfl rfl Try.func49 (by kernel_rfl) rfl #[.slice A0 l0.length c0, .int .i64 0] rfl (by (try simp only [List.map_toArray, List.map_cons, List.map_nil]); first | done | rfl | (simp only [List.length_drop, List.length_take]; rfl)) ?_; (with_reducible refine (spec_GetList.calls k _ _ l0 0 t303 t304 false _ ?side1 ?side2 A2.out).mono ?_); (case side1 => repeat (first | exact HR0.out | (with_reducible refine Kd.C_alloc ?_ _) | (with_reducible refine Kd.C_drewN ?_ _) | (with_reducible refine Kd.C_drew ?_))); (case side2 => exact HC0.out); rintro e w9 ⟨v306, rfl, ho0, hb⟩; refine ⟨_, rfl, ?_⟩; have n0_ := Aside0.mk (Kd.R_lower ho0 (below_size (by repeat (first | (with_reducible first | exact HB.out | apply below_alloc | apply pw_below_drewN | apply below_drew1) | exact HB.out)))); have n1_ := Aside0.mk (below_step (by repeat (first | (with_reducible first | exact HB.out | apply below_alloc | apply pw_below_drewN | apply below_drew1) | exact HB.out)) hb); clear HB; have HO307 := n0_; have HB := n1_; clear n0_ n1_; (try clear hb); (try clear hb2); (try clear hk); (try clear hi); (try clear ho0)) | ((with_reducible refine gate_dst (N := 21) rfl ?_); (try (refine gate_guard (by rfl) ?_; dsimp only)); refine Kd.R_lit (Kd.int .i64) _ 3 ?hg (N := 21) ?hd (xs := ([] : List Int)) (inner := []) (ok := fun _ => True) (okp := fun _ => True) ?hr ?hp (fun _ hk => hk) trivial (Below.refl _ _) (Nat.le_refl _) (by simp) ?_; (case hd => rfl); (case hg => rfl); (case hr => first | (go_simp; done) | (go_simp; rfl)); (case hp => exact (Reps.none _ _)); intro v312 w10 ho11 hb hg_ hnew_; clear hg_ hnew_; (first | rw [← Ny311.out] at ho11 | (simp only [Int.reduceToNat] at ho11; rw [← Ny311.out] at ho11)); have n0_ := Aside0.mk (Kd.R_elder' (by (with_reducible repeat (first | apply Kd.R_alloc | apply Kd.R_drewN | apply Kd.R_drew)); exact HO307.out) (Kd.R_base ho11) hb); have n1_ := Aside0.mk (Kd.R_lower (Kd.R_new' ho11 (Kd.R_lt (by (with_reducible repeat (first | apply Kd.R_alloc | apply Kd.R_drewN | apply Kd.R_drew)); exact HO307.out))) (below_size (by repeat (first | (with_reducible first | exact HB.out | apply below_alloc | apply pw_below_drewN | apply below_drew1) | exact HB.out)))); have n2_ := Aside0.mk (below_step (by repeat (first | (with_reducible first | exact HB.out | apply below_alloc | apply pw_below_drewN | apply below_drew1) | exact HB.out)) hb); clear HO307; clear HB; have HO307 := n0_; have HO313 := n1_; have HB := n2_; clear n0_ n1_ n2_; clear hb ho11))
    go_ret2
    exact ⟨_, by first | rfl | (simp [errW_none, errW_some] <;> rfl) | (simp [*, errW_none, errW_some] <;> rfl), by (with_reducible repeat (first | apply Kd.R_alloc | apply Kd.R_drewN | apply Kd.R_drew)); exact Kd.R_mono HO313.out (fun _ hk => trivial), by repeat (first | (with_reducible first | exact HB.out | apply below_alloc | apply pw_below_drewN | apply below_drew1) | exact HB.out)⟩

/-! ### spec_l1Bytes: function 96 -/
def spec_l1Bytes.l0 : Nat → Int → List Int → Int → List Int → Int → Int → Option (List Int × Int × Int)
  | 0, _, _, _, _, _, _ => none
  | k + 1, x1, x5, x6, x1000, x1001, x1002 => if x6 < x1 then ((spec_l1Byte.f x1000 x1001 x1002).bind fun bt317 => (if x5.length < 140737488355328 then (spec_l1Bytes.l0 k x1 (x5 ++ [(bt317.1) % 256]) (wrap64 (x6 + 1)) x1000 bt317.2.1 bt317.2.2) else (none))) else (some (x5, x1001, x1002))
def spec_l1Bytes.f (k : Nat) (s0_0 : List Int) (s0_1 : Int) (s0_2 : Int) (a1 : Int) : Option (List Int × Int × Int) := spec_l1Bytes.l0 k a1 (([] : List Int)) 0 s0_0 s0_1 s0_2
theorem spec_l1Bytes.mono_l : ∀ k, (∀ y0 y1 y2 y3 y4 y5, LeO (spec_l1Bytes.l0 k y0 y1 y2 y3 y4 y5) (spec_l1Bytes.l0 (k + 1) y0 y1 y2 y3 y4 y5))
  | 0 => fun _ _ _ _ _ _ r h => by simp [spec_l1Bytes.l0] at h
  | k + 1 => by
    have ih0 := spec_l1Bytes.mono_l k
    · intro y0 y1 y2 y3 y4 y5
      unfold spec_l1Bytes.l0
      repeat' first
      | (with_reducible exact ih0 _ _ _ _ _ _)
      | (with_reducible exact LeO.refl _)
      | (with_reducible exact LeO.none _)
      | (with_reducible refine LeO.ite ?_ ?_)
      | (with_reducible refine LeO.bind ?_ (fun _ => ?_))
      | exact ih0 _ _ _ _ _ _
      | exact LeO.none _
      | refine LeO.ite ?_ ?_
      | refine LeO.bind ?_ (fun _ => ?_)
theorem spec_l1Bytes.mono : ∀ a0 a1 a2 a3 k, LeO (spec_l1Bytes.f k a0 a1 a2 a3) (spec_l1Bytes.f (k + 1) a0 a1 a2 a3) := by
  intro a0 a1 a2 a3 k
  have ih0 := spec_l1Bytes.mono_l k
  unfold spec_l1Bytes.f
  repeat' first
      | (with_reducible exact ih0 _ _ _ _ _ _)
      | (with_reducible exact LeO.refl _)
      | (with_reducible exact LeO.none _)
      | (with_reducible refine LeO.ite ?_ ?_)
      | (with_reducible refine LeO.bind ?_ (fun _ => ?_))
      | exact ih0 _ _ _ _ _ _
      | exact LeO.none _
      | refine LeO.ite ?_ ?_
      | refine LeO.bind ?_ (fun _ => ?_)
set_option maxHeartbeats 8000000 in
set_option maxRecDepth 100000 in
theorem spec_l1Bytes.calls (k : Nat) (g : Nat) (s0_0 : List Int) (s0_1 : Int) (s0_2 : Int) (a1 : Int) (r1 : List Int) (r2 : Int) (r3 : Int) (w0 w : World) (hI : IsS125 w0 w g s0_0 s0_1 s0_2) (hB : Below w0.heap.size w0 w) (h : spec_l1Bytes.f k s0_0 s0_1 s0_2 a1 = some (r1, r2, r3)) :
    Calls Try.prog 96 #[.pointer (some ⟨g, 0, none⟩), .int .i64 a1] w fun e w' => ∃ v0_ : Value, e = .returned (v0_) ∧ Kd.R (Kd.int .u8) 5 w' w.heap.size (fun _ => True) v0_ r1 ∧ IsS125 w0 w' g s0_0 r2 r3 ∧ Below w0.heap.size w0 w' ∧ KeepBut w w' g none := by
  have HI0 := Aside0.mk hI
  have HK := Aside0.mk (KeepBut.refl w g none)
  have HL := Aside0.mk hB.size
  clear hI
  have HW0 := Aside0.mk hB.size
  have HB := Aside0.mk hB
  clear hB
  have H : (spec_l1Bytes.l0 k a1 (([] : List Int)) 0 s0_0 s0_1 s0_2) = some (r1, r2, r3) := h
  clear h
  obtain ⟨y314, hy314⟩ : ∃ y_ : List Int, y_ = (([] : List Int)) := ⟨_, rfl⟩
  replace H : (spec_l1Bytes.l0 k a1 y314 0 s0_0 s0_1 s0_2) = some (r1, r2, r3) := by first | (rw [hy314]; with_reducible exact H) | (have H2_ := (Option.bind_some _ _).symm.trans H; rw [hy314]; with_reducible exact H2_) | (have H2_ := (Option.bind_some _ _).symm.trans H; with_reducible exact H2_) | with_reducible exact H | (rw [hy314]; exact H) | exact H
  have Ny314 := Aside0.mk hy314
  clear hy314
  have H' := Aside0.mk H
  clear H
  go_enter Try.func96, Try.ntmps96
  go_wp2_with (first | ((with_reducible refine gate_dst (N := 7) rfl ?_); refine Kd.R_lit (Kd.int .u8) _ 5 ?hg (N := 7) ?hd (xs := ([] : List Int)) (inner := []) (ok := fun _ => True) (okp := fun _ => True) ?hr ?hp (fun _ hk => hk) trivial (Below.refl _ _) (Nat.le_refl _) (by simp) ?_; (case hd => rfl); (case hg => rfl); (case hr => first | (go_simp; done) | (go_simp; rfl)); (case hp => exact (Reps.none _ _)); intro v315 w3 ho4 hb hg_ hnew_; clear hg_ hnew_; (first | rw [← Ny314.out] at ho4 | (simp only [Int.reduceToNat] at ho4; rw [← Ny314.out] at ho4)); have n0_ := Aside0.mk (Kd.R_lower ho4 (keep_size (w := w) (g := g) (row := none) (by repeat (first | (with_reducible first | exact HK.out | apply KeepBut.set_ | apply keep_drewN | apply keep_drew | apply keep_alloc) | exact HK.out)))); have n1_ := Aside0.mk (IsS125.below (by repeat (first | (with_reducible first | exact HI0.out | apply IsS125.alloc | apply IsS125.drewN | apply IsS125.drew | apply IsS125.set_1 | apply IsS125.set_2) | exact HI0.out)) hb); have n2_ := Aside0.mk (KeepBut.trans (by repeat (first | (with_reducible first | exact HK.out | apply KeepBut.set_ | apply keep_drewN | apply keep_drew | apply keep_alloc) | exact HK.out)) (KeepBut.of_below hb g none) (.inl rfl)); have n3_ := Aside0.mk (below_step (by repeat (first | (with_reducible first | exact HB.out | apply below_alloc | apply pw_below_drewN | apply below_drew1 | refine below_set ?_ (IsS125.ge HI0.out)) | exact HB.out)) hb); clear HI0; clear HK; clear HB; have HO316 := n0_; have HI0 := n1_; have HK := n2_; have HB := n3_; clear n0_ n1_ n2_ n3_; clear hb ho4))
  go_loopg [5, 6] k (fun kq v5 v6 w' => ∃ (x5_1 : List Int) (x6_1 : Int) (x1001_1 : Int) (x1002_1 : Int), v6 = .int .i64 x6_1 ∧ Aside0 (spec_l1Bytes.l0 kq a1 x5_1 x6_1 s0_0 x1001_1 x1002_1 = some (r1, r2, r3)) ∧ Aside0 (kq ≤ k) ∧ Aside0 (Kd.R (Kd.int .u8) 5 w' w.heap.size (fun _ => True) v5 x5_1) ∧ Aside0 (IsS125 w0 w' g s0_0 x1001_1 x1002_1) ∧ Aside0 (KeepBut w w' g none) ∧ Aside0 (Below w0.heap.size w0 w'))
  case atStart => exact ⟨(y314), (0), (s0_1), (s0_2), (by first | rfl | (simp; done) | (simp [*]; done)), H', ⟨Nat.le_refl _⟩, ⟨by (with_reducible repeat (first | apply Kd.R_alloc | apply Kd.R_drewN | apply Kd.R_drew)); exact HO316.out⟩, ⟨by repeat (first | (with_reducible first | exact HI0.out | apply IsS125.alloc | apply IsS125.drewN | apply IsS125.drew | apply IsS125.set_1 | apply IsS125.set_2) | exact HI0.out)⟩, ⟨by repeat (first | (with_reducible first | exact HK.out | apply KeepBut.set_ | apply keep_drewN | apply keep_drew | apply keep_alloc) | exact HK.out)⟩, ⟨by repeat (first | (with_reducible first | exact HB.out | apply below_alloc | apply pw_below_drewN | apply below_drew1 | refine below_set ?_ (IsS125.ge HI0.out)) | exact HB.out)⟩⟩
  case round =>
    clear H'
    try clear p2
    obtain ⟨x5_1, x6_1, x1001_1, x1002_1, rfl, HA, HK1, HO_5, HI0, HK, HB⟩ := hrel
    cases gk with
    | zero => exact absurd HA.out (by simp [spec_l1Bytes.l0])
    | succ k1 =>
      have H := HA.out
      clear HA
      simp only [spec_l1Bytes.l0] at H
      by_cases c5 : x6_1 < a1
      · rw [if_pos c5] at H
        have c5b0 : decide (x6_1 < a1) = true := decide_eq_true c5
        clear c5
        replace H := Option.bind_eq_some_iff.mp H
        obtain ⟨⟨t317, t318, t319⟩, A60, H⟩ := H
        replace H : (if x5_1.length < 140737488355328 then (spec_l1Bytes.l0 k1 a1 (x5_1 ++ [(t317) % 256]) (wrap64 (x6_1 + 1)) s0_0 t318 t319) else (none)) = some (r1, r2, r3) := H
        have A6 := Aside0.mk A60
        clear A60
        by_cases c7 : x5_1.length < 140737488355328
        · rw [if_pos c7] at H
          have LMc7 := Aside0.mk c7
          clear c7
          obtain ⟨y320, hy320⟩ : ∃ y_ : List Int, y_ = (x5_1 ++ [(t317) % 256]) := ⟨_, rfl⟩
          replace H : (spec_l1Bytes.l0 k1 a1 y320 (wrap64 (x6_1 + 1)) s0_0 t318 t319) = some (r1, r2, r3) := by first | (rw [hy320]; with_reducible exact H) | (have H2_ := (Option.bind_some _ _).symm.trans H; rw [hy320]; with_reducible exact H2_) | (have H2_ := (Option.bind_some _ _).symm.trans H; with_reducible exact H2_) | with_reducible exact H | (rw [hy320]; exact H) | exact H
          have Ny320 := Aside0.mk hy320
          clear hy320
          have H' := Aside0.mk H
          clear H
          go_wp2_with (first | ((with_reducible refine gate_callee (f := 100) rfl ?_); refine goesL_ (some 15) rfl rfl Try.func100 (by kernel_rfl) rfl #[.pointer (some ⟨g, 0, none⟩)] rfl (by (try simp only [List.map_toArray, List.map_cons, List.map_nil]); first | done | rfl | (simp only [List.length_drop, List.length_take]; rfl)) ?_; (with_reducible refine (spec_l1Byte.calls g s0_0 x1001_1 x1002_1 t317 t318 t319 w0 _ ?side1 ?side2 A6.out).mono ?_); (case side1 => repeat (first | (with_reducible first | exact HI0.out | apply IsS125.alloc | apply IsS125.drewN | apply IsS125.drew | apply IsS125.set_1 | apply IsS125.set_2) | exact HI0.out)); (case side2 => repeat (first | (with_reducible first | exact HB.out | apply below_alloc | apply pw_below_drewN | apply below_drew1 | refine below_set ?_ (IsS125.ge HI0.out)) | exact HB.out)); rintro e w8 ⟨rfl, hi, hb, hk⟩; refine ⟨_, rfl, ?_⟩; have n0_ := Aside0.mk (Kd.R_mono (Kd.R_keep (IsS125.apart (show IsS125 w0 _ g s0_0 x1001_1 x1002_1 from by repeat (first | (with_reducible first | exact HI0.out | apply IsS125.alloc | apply IsS125.drewN | apply IsS125.drew | apply IsS125.set_1 | apply IsS125.set_2) | exact HI0.out)) (by (with_reducible repeat (first | apply Kd.R_alloc | apply Kd.R_drewN | apply Kd.R_drew)); exact HO_5.out) (by decide)) hk (fun _ h => h.2)) (fun _ h => h.1)); have n1_ := Aside0.mk (KeepBut.trans (by repeat (first | (with_reducible first | exact HK.out | apply KeepBut.set_ | apply keep_drewN | apply keep_drew | apply keep_alloc) | exact HK.out)) hk (.inl rfl)); have n2_ := Aside0.mk (hb); have n3_ := Aside0.mk (hi); clear HO_5; clear HK; clear HB; clear HI0; have HO_5 := n0_; have HK := n1_; have HB := n2_; have HI0 := n3_; clear n0_ n1_ n2_ n3_; (try clear hb); (try clear hb2); (try clear hk); (try clear hi)) | ((with_reducible refine gate_builtin (b := .append) (xs := #[.tmp 13, .tmp 17]) rfl ?_); at_builtin; refine Kd.R_append (Kd.int .u8) w.heap.size rfl (.tmp 13) (.tmp 17) 22 5 (.int .u8 0) 1 rfl Try.underlying22 info5 rfl (by decide) (by omega) u5 x5_1 ((t317) % 256) [.int .u8 ((t317) % 256)] (fun _ => True) (fun _ => False) rfl rfl ?aP (fun _ hk => hk.elim) ?aF ?aO (Below.refl _ _) ?aS ?aL ?_; (case aP => exact rfl); (case aF => exact (fun _ _ => trivial)); (case aO => exact (by (with_reducible repeat (first | apply Kd.R_alloc | apply Kd.R_drewN | apply Kd.R_drew)); exact HO_5.out)); (case aS => exact (keep_size (w := w) (g := g) (row := none) (by repeat (first | (with_reducible first | exact HK.out | apply KeepBut.set_ | apply keep_drewN | apply keep_drew | apply keep_alloc) | exact HK.out)))); (case aL => have := LMc7.out; omega); intro v321 w9 ho hb hg hat; rw [← Ny320.out] at ho; have n0_ := Aside0.mk (IsS125.grown (by repeat (first | (with_reducible first | exact HI0.out | apply IsS125.alloc | apply IsS125.drewN | apply IsS125.drew | apply IsS125.set_1 | apply IsS125.set_2) | exact HI0.out)) hg (IsS125.own_ne HI0.out HO_5.out (by decide))); have n1_ := Aside0.mk (below_weaken (by repeat (first | (with_reducible first | exact HB.out | apply below_alloc | apply pw_below_drewN | apply below_drew1 | refine below_set ?_ (IsS125.ge HI0.out)) | exact HB.out)) HL.out hb); have n2_ := Aside0.mk (KeepBut.trans (by repeat (first | (with_reducible first | exact HK.out | apply KeepBut.set_ | apply keep_drewN | apply keep_drew | apply keep_alloc) | exact HK.out)) (KeepBut.of_grown hg g) (Kd.R_base2 HO_5.out)); have n3_ := Aside0.mk (ho); clear HI0; clear HB; clear HK; clear HO_5; have HI0 := n0_; have HB := n1_; have HK := n2_; have HO322 := n3_; clear n0_ n1_ n2_ n3_; clear ho hb hg hat))
          go_roundg k1
          case measure => have := HK1.out; omega
          case rel => exact ⟨(y320), (wrap64 (x6_1 + 1)), (t318), (t319), (by first | rfl | (simp; done) | (simp [*]; done)), H', ⟨by have := HK1.out; omega⟩, ⟨by (with_reducible repeat (first | apply Kd.R_alloc | apply Kd.R_drewN | apply Kd.R_drew)); exact HO322.out⟩, ⟨by repeat (first | (with_reducible first | exact HI0.out | apply IsS125.alloc | apply IsS125.drewN | apply IsS125.drew | apply IsS125.set_1 | apply IsS125.set_2) | exact HI0.out)⟩, ⟨by repeat (first | (with_reducible first | exact HK.out | apply KeepBut.set_ | apply keep_drewN | apply keep_drew | apply keep_alloc) | exact HK.out)⟩, ⟨by repeat (first | (with_reducible first | exact HB.out | apply below_alloc | apply pw_below_drewN | apply below_drew1 | refine below_set ?_ (IsS125.ge HI0.out)) | exact HB.out)⟩⟩
        · rw [if_neg c7] at H
          exact absurd H (by simp)
      · rw [if_neg c5] at H
        have c5b0 : decide (x6_1 < a1) = false := decide_eq_false c5
        clear c5
        simp only [Option.some.injEq, Prod.mk.injEq] at H
        obtain ⟨rfl, rfl, rfl⟩ := H
        go_wp2
        go_ret
        exact ⟨_, by first | rfl | (simp [errW_none, errW_some] <;> rfl) | (simp [*, errW_none, errW_some] <;> rfl), by (with_reducible repeat (first | apply Kd.R_alloc | apply Kd.R_drewN | apply Kd.R_drew)); exact HO_5.out, by repeat (first | (with_reducible first | exact HI0.out | apply IsS125.alloc | apply IsS125.drewN | apply IsS125.drew | apply IsS125.set_1 | apply IsS125.set_2) | exact HI0.out), by repeat (first | (with_reducible first | exact HB.out | apply below_alloc | apply pw_below_drewN | apply below_drew1 | refine below_set ?_ (IsS125.ge HI0.out)) | exact HB.out), by repeat (first | (with_reducible first | exact HK.out | apply KeepBut.set_ | apply keep_drewN | apply keep_drew | apply keep_alloc) | exact HK.out)⟩

/-! ### spec_DrawGetList: function 47 -/
def spec_DrawGetList.f (k : Nat) (l0 : List Int) : Option (List Int × Int) := (spec_l1New.f k l0).bind fun bt323 => ((spec_l1Below.f bt323.1 bt323.2.1 bt323.2.2 2).bind fun bt327 => ((spec_l1Bytes.f k bt323.1 bt327.2.1 bt327.2.2 bt327.1).bind fun bt330 => ((spec_l2List.f k bt323.1 bt330.2.1 bt330.2.2).bind fun bt335 => ((spec_PutList.f k bt330.1 bt335.1).bind fun t340 => ((spec_l1Bend.f bt323.1 bt335.2.1 bt335.2.2 t340).bind fun bt343 => ((spec_l1Int.f bt323.1 bt343.2.1 bt343.2.2 (([0, 0, 0, 1, (-3)] : List Int))).bind fun bt351 => (some (bt343.1, wrap64 ((bt330.1.length : Int) + bt351.1)))))))))
theorem spec_DrawGetList.mono : ∀ a0 k, LeO (spec_DrawGetList.f k a0) (spec_DrawGetList.f (k + 1) a0) := by
  intro a0 k
  unfold spec_DrawGetList.f
  repeat' first
      | (with_reducible exact spec_PutList.mono _ _ _)
      | (with_reducible exact spec_l1Bytes.mono _ _ _ _ _)
      | (with_reducible exact spec_l1New.mono _ _)
      | (with_reducible exact spec_l2List.mono _ _ _ _)
      | (with_reducible exact LeO.refl _)
      | (with_reducible exact LeO.none _)
      | (with_reducible refine LeO.ite ?_ ?_)
      | (with_reducible refine LeO.bind ?_ (fun _ => ?_))
      | exact spec_PutList.mono _ _ _
      | exact spec_l1Bytes.mono _ _ _ _ _
      | exact spec_l1New.mono _ _
      | exact spec_l2List.mono _ _ _ _
      | exact LeO.none _
      | refine LeO.ite ?_ ?_
      | refine LeO.bind ?_ (fun _ => ?_)
set_option maxHeartbeats 8000000 in
set_option maxRecDepth 100000 in
theorem spec_DrawGetList.calls (k : Nat) (A0 : Option Addr) (c0 : Nat) (l0 : List Int) (r1 : List Int) (r2 : Int) (w : World) (hr0 : Kd.C (Kd.int .u8) w A0 l0.length l0) (hc0 : l0.length ≤ c0) (h : spec_DrawGetList.f k l0 = some (r1, r2)) :
    Calls Try.prog 47 #[.slice A0 l0.length c0] w fun e w' => ∃ v0_ : Value, e = .returned (.tuple #[v0_, .int .i64 r2]) ∧ Kd.R (Kd.int .u8) 5 w' w.heap.size (fun _ => True) v0_ r1 ∧ Below w.heap.size w w' := by
  have HR0 := Aside0.mk hr0
  have HC0 := Aside0.mk hc0
  clear hr0 hc0
  have HB := Aside0.mk (Below.refl w.heap.size w)
  have H : ((spec_l1New.f k l0).bind fun bt323 => ((spec_l1Below.f bt323.1 bt323.2.1 bt323.2.2 2).bind fun bt327 => ((spec_l1Bytes.f k bt323.1 bt327.2.1 bt327.2.2 bt327.1).bind fun bt330 => ((spec_l2List.f k bt323.1 bt330.2.1 bt330.2.2).bind fun bt335 => ((spec_PutList.f k bt330.1 bt335.1).bind fun t340 => ((spec_l1Bend.f bt323.1 bt335.2.1 bt335.2.2 t340).bind fun bt343 => ((spec_l1Int.f bt323.1 bt343.2.1 bt343.2.2 (([0, 0, 0, 1, (-3)] : List Int))).bind fun bt351 => (some (bt343.1, wrap64 ((bt330.1.length : Int) + bt351.1)))))))))) = some (r1, r2) := h
  clear h
  replace H := Option.bind_eq_some_iff.mp H
  obtain ⟨⟨t323, t324, t325⟩, A20, H⟩ := H
  replace H : ((spec_l1Below.f t323 t324 t325 2).bind fun bt327 => ((spec_l1Bytes.f k t323 bt327.2.1 bt327.2.2 bt327.1).bind fun bt330 => ((spec_l2List.f k t323 bt330.2.1 bt330.2.2).bind fun bt335 => ((spec_PutList.f k bt330.1 bt335.1).bind fun t340 => ((spec_l1Bend.f t323 bt335.2.1 bt335.2.2 t340).bind fun bt343 => ((spec_l1Int.f t323 bt343.2.1 bt343.2.2 (([0, 0, 0, 1, (-3)] : List Int))).bind fun bt351 => (some (bt343.1, wrap64 ((bt330.1.length : Int) + bt351.1))))))))) = some (r1, r2) := H
  have A2 := Aside0.mk A20
  clear A20
  replace H := Option.bind_eq_some_iff.mp H
  obtain ⟨⟨t327, t328, t329⟩, A30, H⟩ := H
  replace H : ((spec_l1Bytes.f k t323 t328 t329 t327).bind fun bt330 => ((spec_l2List.f k t323 bt330.2.1 bt330.2.2).bind fun bt335 => ((spec_PutList.f k bt330.1 bt335.1).bind fun t340 => ((spec_l1Bend.f t323 bt335.2.1 bt335.2.2 t340).bind fun bt343 => ((spec_l1Int.f t323 bt343.2.1 bt343.2.2 (([0, 0, 0, 1, (-3)] : List Int))).bind fun bt351 => (some (bt343.1, wrap64 ((bt330.1.length : Int) + bt351.1)))))))) = some (r1, r2) := H
  have A3 := Aside0.mk A30
  clear A30
  replace H := Option.bind_eq_some_iff.mp H
  obtain ⟨⟨t330, t333, t334⟩, A40, H⟩ := H
  replace H : ((spec_l2List.f k t323 t333 t334).bind fun bt335 => ((spec_PutList.f k t330 bt335.1).bind fun t340 => ((spec_l1Bend.f t323 bt335.2.1 bt335.2.2 t340).bind fun bt343 => ((spec_l1Int.f t323 bt343.2.1 bt343.2.2 (([0, 0, 0, 1, (-3)] : List Int))).bind fun bt351 => (some (bt343.1, wrap64 ((t330.length : Int) + bt351.1))))))) = some (r1, r2) := H
  have A4 := Aside0.mk A40
  clear A40
  replace H := Option.bind_eq_some_iff.mp H
  obtain ⟨⟨t335, t338, t339⟩, A50, H⟩ := H
  replace H : ((spec_PutList.f k t330 t335).bind fun t340 => ((spec_l1Bend.f t323 t338 t339 t340).bind fun bt343 => ((spec_l1Int.f t323 bt343.2.1 bt343.2.2 (([0, 0, 0, 1, (-3)] : List Int))).bind fun bt351 => (some (bt343.1, wrap64 ((t330.length : Int) + bt351.1)))))) = some (r1, r2) := H
  have A5 := Aside0.mk A50
  clear A50
  replace H := Option.bind_eq_some_iff.mp H
  obtain ⟨t340, A60, H⟩ := H
  replace H : ((spec_l1Bend.f t323 t338 t339 t340).bind fun bt343 => ((spec_l1Int.f t323 bt343.2.1 bt343.2.2 (([0, 0, 0, 1, (-3)] : List Int))).bind fun bt351 => (some (bt343.1, wrap64 ((t330.length : Int) + bt351.1))))) = some (r1, r2) := H
  have A6 := Aside0.mk A60
  clear A60
  replace H := Option.bind_eq_some_iff.mp H
  obtain ⟨⟨t343, t346, t347⟩, A70, H⟩ := H
  replace H : ((spec_l1Int.f t323 t346 t347 (([0, 0, 0, 1, (-3)] : List Int))).bind fun bt351 => (some (t343, wrap64 ((t330.length : Int) + bt351.1)))) = some (r1, r2) := H
  have A7 := Aside0.mk A70
  clear A70
  obtain ⟨y348, hy348⟩ : ∃ y_ : List Int, y_ = (([0, 0, 0, 1, (-3)] : List Int)) := ⟨_, rfl⟩
  replace H : ((spec_l1Int.f t323 t346 t347 y348).bind fun bt351 => (some (t343, wrap64 ((t330.length : Int) + bt351.1)))) = some (r1, r2) := by first | (rw [hy348]; with_reducible exact H) | (have H2_ := (Option.bind_some _ _).symm.trans H; rw [hy348]; with_reducible exact H2_) | (have H2_ := (Option.bind_some _ _).symm.trans H; with_reducible exact H2_) | with_reducible exact H | (rw [hy348]; exact H) | exact H
  have Ny348 := Aside0.mk hy348
  clear hy348
  replace H := Option.bind_eq_some_iff.mp H
  obtain ⟨⟨t351, t352, t353⟩, A80, H⟩ := H
  replace H : (some (t343, wrap64 ((t330.length : Int) + t351))) = some (r1, r2) := H
  have A8 := Aside0.mk A80
  clear A80
  simp only [Option.some.injEq, Prod.mk.injEq] at H
  obtain ⟨rfl, rfl⟩ := H
  go_enter Try.func47, Try.ntmps47
  go_wp2_with (first | ((with_reducible refine gate_callee (f := 94) rfl ?_); refine goesL_ (some 7) rfl rfl Try.func94 (by kernel_rfl) rfl #[.slice A0 l0.length c0] rfl (by (try simp only [List.map_toArray, List.map_cons, List.map_nil]); first | done | rfl | (simp only [List.length_drop, List.length_take]; rfl)) ?_; (with_reducible refine (spec_l1New.calls k _ _ l0 t323 t324 t325 w _ ?side1 ?side2 ?side3 A2.out).mono ?_); (case side1 => repeat (first | (with_reducible first | exact HB.out | apply below_alloc | apply pw_below_drewN | apply below_drew1) | exact HB.out)); (case side2 => exact HR0.out); (case side3 => exact HC0.out); rintro e w9 ⟨g326, rfl, hi, hb, hb2⟩; refine ⟨_, rfl, ?_⟩; have n0_ := Aside0.mk (hb); have n1_ := Aside0.mk (hi); clear HB; have HB := n0_; have HI326 := n1_; clear n0_ n1_; (try clear hb); (try clear hb2); (try clear hk); (try clear hi)) | ((with_reducible refine gate_callee (f := 97) rfl ?_); refine goesL_ (some 10) rfl rfl Try.func97 (by kernel_rfl) rfl #[.pointer (some ⟨g326, 0, none⟩), .int .i64 2] rfl (by (try simp only [List.map_toArray, List.map_cons, List.map_nil]); first | done | rfl | (simp only [List.length_drop, List.length_take]; rfl)) ?_; (with_reducible refine (spec_l1Below.calls g326 t323 t324 t325 2 t327 t328 t329 w _ ?side1 ?side2 A3.out).mono ?_); (case side1 => repeat (first | (with_reducible first | exact HI326.out | apply IsS125.alloc | apply IsS125.drewN | apply IsS125.drew | apply IsS125.set_1 | apply IsS125.set_2) | exact HI326.out)); (case side2 => repeat (first | (with_reducible first | exact HB.out | apply below_alloc | apply pw_below_drewN | apply below_drew1 | refine below_set ?_ (IsS125.ge HI326.out)) | exact HB.out)); rintro e w10 ⟨rfl, hi, hb, hk⟩; refine ⟨_, rfl, ?_⟩; have n0_ := Aside0.mk (hb); have n1_ := Aside0.mk (hi); clear HB; clear HI326; have HB := n0_; have HI326 := n1_; clear n0_ n1_; (try clear hb); (try clear hb2); (try clear hk); (try clear hi)) | ((with_reducible refine gate_callee (f := 96) rfl ?_); refine goesL_ (some 11) rfl rfl Try.func96 (by kernel_rfl) rfl #[.pointer (some ⟨g326, 0, none⟩), .int .i64 t327] rfl (by (try simp only [List.map_toArray, List.map_cons, List.map_nil]); first | done | rfl | (simp only [List.length_drop, List.length_take]; rfl)) ?_; (with_reducible refine (spec_l1Bytes.calls k g326 t323 t328 t329 t327 t330 t333 t334 w _ ?side1 ?side2 A4.out).mono ?_); (case side1 => repeat (first | (with_reducible first | exact HI326.out | apply IsS125.alloc | apply IsS125.drewN | apply IsS125.drew | apply IsS125.set_1 | apply IsS125.set_2) | exact HI326.out)); (case side2 => repeat (first | (with_reducible first | exact HB.out | apply below_alloc | apply pw_below_drewN | apply below_drew1 | refine below_set ?_ (IsS125.ge HI326.out)) | exact HB.out)); rintro e w11 ⟨v331, rfl, ho0, hi, hb, hk⟩; refine ⟨_, rfl, ?_⟩; have n0_ := Aside0.mk (Kd.R_lower ho0 (below_size (by repeat (first | (with_reducible first | exact HB.out | apply below_alloc | apply pw_below_drewN | apply below_drew1 | refine below_set ?_ (IsS125.ge HI326.out)) | exact HB.out)))); have n1_ := Aside0.mk (hb); have n2_ := Aside0.mk (hi); clear HB; clear HI326; have HO332 := n0_; have HB := n1_; have HI326 := n2_; clear n0_ n1_ n2_; (try clear hb); (try clear hb2); (try clear hk); (try clear hi); (try clear ho0)) | ((with_reducible refine gate_callee (f := 105) rfl ?_); refine goesL_ (some 15) rfl rfl Try.func105 (by kernel_rfl) rfl #[.pointer (some ⟨g326, 0, none⟩)] rfl (by (try simp only [List.map_toArray, List.map_cons, List.map_nil]); first | done | rfl | (simp only [List.length_drop, List.length_take]; rfl)) ?_; (with_reducible refine (spec_l2List.calls k g326 t323 t333 t334 t335 t338 t339 w _ ?side1 ?side2 A5.out).mono ?_); (case side1 => repeat (first | (with_reducible first | exact HI326.out | apply IsS125.alloc | apply IsS125.drewN | apply IsS125.drew | apply IsS125.set_1 | apply IsS125.set_2) | exact HI326.out)); (case side2 => repeat (first | (with_reducible first | exact HB.out | apply below_alloc | apply pw_below_drewN | apply below_drew1 | refine below_set ?_ (IsS125.ge HI326.out)) | exact HB.out)); rintro e w12 ⟨v336, rfl, ho0, hi, hb, hk⟩; refine ⟨_, rfl, ?_⟩; have n0_ := Aside0.mk (Kd.R_mono (Kd.R_keep (IsS125.apart (show IsS125 w _ g326 t323 t333 t334 from by repeat (first | (with_reducible first | exact HI326.out | apply IsS125.alloc | apply IsS125.drewN | apply IsS125.drew | apply IsS125.set_1 | apply IsS125.set_2) | exact HI326.out)) (by (with_reducible repeat (first | apply Kd.R_alloc | apply Kd.R_drewN | apply Kd.R_drew)); exact HO332.out) (by decide)) hk (fun _ h => h.2)) (fun _ h => h.1)); have n1_ := Aside0.mk (Kd.R_lower ho0 (below_size (by repeat (first | (with_reducible first | exact HB.out | apply below_alloc | apply pw_below_drewN | apply below_drew1 | refine below_set ?_ (IsS125.ge HI326.out)) | exact HB.out)))); have n2_ := Aside0.mk (hb); have n3_ := Aside0.mk (hi); clear HO332; clear HB; clear HI326; have HO332 := n0_; have HO337 := n1_; have HB := n2_; have HI326 := n3_; clear n0_ n1_ n2_ n3_; (try clear hb); (try clear hb2); (try clear hk); (try clear hi); (try clear ho0); obtain ⟨Ao13, co13, eo13⟩ := Kd.R_slice HO332.out; subst eo13; obtain ⟨Ao14, co14, eo14⟩ := Kd.R_slice HO337.out; subst eo14) | ((with_reducible refine gate_callee (f := 53) rfl ?_); refine goesL_ (some 16) rfl rfl Try.func53 (by kernel_rfl) rfl #[.slice Ao13 t330.length co13, .slice Ao14 t335.length co14] rfl (by (try simp only [List.map_toArray, List.map_cons, List.map_nil]); first | done | rfl | (simp only [List.length_drop, List.length_take]; rfl)) ?_; (with_reducible refine (spec_PutList.calls k _ _ t330 _ _ t335 t340 _ ?side1 ?side2 ?side3 ?side4 A6.out).mono ?_); (case side1 => repeat (first | exact (Kd.R_reads' HO332.out).2.2 | (with_reducible refine Kd.C_alloc ?_ _) | (with_reducible refine Kd.C_drewN ?_ _) | (with_reducible refine Kd.C_drew ?_))); (case side2 => exact (Kd.R_reads' HO332.out).2.1); (case side3 => repeat (first | exact (Kd.R_reads' HO337.out).2.2 | (with_reducible refine Kd.C_alloc ?_ _) | (with_reducible refine Kd.C_drewN ?_ _) | (with_reducible refine Kd.C_drew ?_))); (case side4 => exact (Kd.R_reads' HO337.out).2.1); rintro e w15 ⟨v341, rfl, ho0, hb⟩; refine ⟨_, rfl, ?_⟩; have n0_ := Aside0.mk (Kd.R_elder' (by (with_reducible repeat (first | apply Kd.R_alloc | apply Kd.R_drewN | apply Kd.R_drew)); exact HO332.out) (Kd.R_base ho0) hb); have n1_ := Aside0.mk (Kd.R_below (by (with_reducible repeat (first | apply Kd.R_alloc | apply Kd.R_drewN | apply Kd.R_drew)); exact HO337.out) hb); have n2_ := Aside0.mk (Kd.R_lower (Kd.R_new' ho0 (Kd.R_lt (by (with_reducible repeat (first | apply Kd.R_alloc | apply Kd.R_drewN | apply Kd.R_drew)); exact HO332.out))) (below_size (by repeat (first | (with_reducible first | exact HB.out | apply below_alloc | apply pw_below_drewN | apply below_drew1 | refine below_set ?_ (IsS125.ge HI326.out)) | exact HB.out)))); have n3_ := Aside0.mk (IsS125.below (by repeat (first | (with_reducible first | exact HI326.out | apply IsS125.alloc | apply IsS125.drewN | apply IsS125.drew | apply IsS125.set_1 | apply IsS125.set_2) | exact HI326.out)) hb); have n4_ := Aside0.mk (below_step (by repeat (first | (with_reducible first | exact HB.out | apply below_alloc | apply pw_below_drewN | apply below_drew1 | refine below_set ?_ (IsS125.ge HI326.out)) | exact HB.out)) hb); clear HO332; clear HO337; clear HI326; clear HB; have HO332 := n0_; have HO337 := n1_; have HO342 := n2_; have HI326 := n3_; have HB := n4_; clear n0_ n1_ n2_ n3_ n4_; (try clear hb); (try clear hb2); (try clear hk); (try clear hi); (try clear ho0); obtain ⟨Ao16, co16, eo16⟩ := Kd.R_slice HO342.out; subst eo16) | ((with_reducible refine gate_callee (f := 106) rfl ?_); refine goesL_ (some 17) rfl rfl Try.func106 (by kernel_rfl) rfl #[.pointer (some ⟨g326, 0, none⟩), .slice Ao16 t340.length co16] rfl (by (try simp only [List.map_toArray, List.map_cons, List.map_nil]); first | done | rfl | (simp only [List.length_drop, List.length_take]; rfl)) ?_; (with_reducible refine (spec_l1Bend.calls g326 t323 t338 t339 _ _ t340 t343 t346 t347 w _ ?side1 ?side2 ?side3 ?side4 ?side5 A7.out).mono ?_); (case side1 => repeat (first | (with_reducible first | exact HI326.out | apply IsS125.alloc | apply IsS125.drewN | apply IsS125.drew | apply IsS125.set_1 | apply IsS125.set_2) | exact HI326.out)); (case side2 => repeat (first | (with_reducible first | exact HB.out | apply below_alloc | apply pw_below_drewN | apply below_drew1 | refine below_set ?_ (IsS125.ge HI326.out)) | exact HB.out)); (case side3 => repeat (first | exact (Kd.R_reads' HO342.out).2.2 | (with_reducible refine Kd.C_alloc ?_ _) | (with_reducible refine Kd.C_drewN ?_ _) | (with_reducible refine Kd.C_drew ?_))); (case side4 => exact (Kd.R_reads' HO342.out).2.1); (case side5 => exact far_slice (IsS125.own_ne HI326.out HO342.out (by decide))); rintro e w17 ⟨v344, rfl, ho0, hi, hb, hk⟩; refine ⟨_, rfl, ?_⟩; have n0_ := Aside0.mk (Kd.R_mono (Kd.R_told (Kd.R_oldK (IsS125.apart (show IsS125 w _ g326 t323 t338 t339 from by repeat (first | (with_reducible first | exact HI326.out | apply IsS125.alloc | apply IsS125.drewN | apply IsS125.drew | apply IsS125.set_1 | apply IsS125.set_2) | exact HI326.out)) (by (with_reducible repeat (first | apply Kd.R_alloc | apply Kd.R_drewN | apply Kd.R_drew)); exact HO332.out) (by decide)) hk) (Kd.R_base ho0)) (fun _ h_ => h_.1)); have n1_ := Aside0.mk (Kd.R_mono (Kd.R_keep (IsS125.apart (show IsS125 w _ g326 t323 t338 t339 from by repeat (first | (with_reducible first | exact HI326.out | apply IsS125.alloc | apply IsS125.drewN | apply IsS125.drew | apply IsS125.set_1 | apply IsS125.set_2) | exact HI326.out)) (by (with_reducible repeat (first | apply Kd.R_alloc | apply Kd.R_drewN | apply Kd.R_drew)); exact HO337.out) (by decide)) hk (fun _ h => h.2)) (fun _ h => h.1)); have n2_ := Aside0.mk (Kd.R_mono (Kd.R_told (Kd.R_oldK (IsS125.apart (show IsS125 w _ g326 t323 t338 t339 from by repeat (first | (with_reducible first | exact HI326.out | apply IsS125.alloc | apply IsS125.drewN | apply IsS125.drew | apply IsS125.set_1 | apply IsS125.set_2) | exact HI326.out)) (by (with_reducible repeat (first | apply Kd.R_alloc | apply Kd.R_drewN | apply Kd.R_drew)); exact HO342.out) (by decide)) hk) (Kd.R_base ho0)) (fun _ h_ => h_.1)); have n3_ := Aside0.mk (Kd.R_lower (Kd.R_new' (Kd.R_new' ho0 (Kd.R_lt (by (with_reducible repeat (first | apply Kd.R_alloc | apply Kd.R_drewN | apply Kd.R_drew)); exact HO332.out))) (Kd.R_lt (by (with_reducible repeat (first | apply Kd.R_alloc | apply Kd.R_drewN | apply Kd.R_drew)); exact HO342.out))) (below_size (by repeat (first | (with_reducible first | exact HB.out | apply below_alloc | apply pw_below_drewN | apply below_drew1 | refine below_set ?_ (IsS125.ge HI326.out)) | exact HB.out)))); have n4_ := Aside0.mk (hb); have n5_ := Aside0.mk (hi); clear HO332; clear HO337; clear HO342; clear HB; clear HI326; have HO332 := n0_; have HO337 := n1_; have HO342 := n2_; have HO345 := n3_; have HB := n4_; have HI326 := n5_; clear n0_ n1_ n2_ n3_ n4_ n5_; (try clear hb); (try clear hb2); (try clear hk); (try clear hi); (try clear ho0)) | ((with_reducible refine gate_dst (N := 21) rfl ?_); refine Kd.R_lit (Kd.int .i64) _ 3 ?hg (N := 21) ?hd (xs := ([0, 0, 0, 1, (-3)] : List Int)) (inner := [.int .i64 0, .int .i64 0, .int .i64 0, .int .i64 1, .int .i64 (-3)]) (ok := fun _ => True) (okp := fun _ => True) ?hr ?hp (fun _ hk => hk) trivial (Below.refl _ _) (Nat.le_refl _) (by simp) ?_; (case hd => rfl); (case hg => rfl); (case hr => first | (go_simp; done) | (go_simp; rfl)); (case hp => exact (Reps.one (show Kd.M (Kd.int .i64) _ _ _ 0 [.int .i64 0] from rfl) (Reps.one (show Kd.M (Kd.int .i64) _ _ _ 0 [.int .i64 0] from rfl) (Reps.one (show Kd.M (Kd.int .i64) _ _ _ 0 [.int .i64 0] from rfl) (Reps.one (show Kd.M (Kd.int .i64) _ _ _ 1 [.int .i64 1] from rfl) (Reps.one (show Kd.M (Kd.int .i64) _ _ _ (-3) [.int .i64 (-3)] from rfl) (Reps.none _ _))))))); intro v349 w18 ho19 hb hg_ hnew_; clear hg_ hnew_; (first | rw [← Ny348.out] at ho19 | (simp only [Int.reduceToNat] at ho19; rw [← Ny348.out] at ho19)); have n0_ := Aside0.mk (Kd.R_below (by (with_reducible repeat (first | apply Kd.R_alloc | apply Kd.R_drewN | apply Kd.R_drew)); exact HO332.out) hb); have n1_ := Aside0.mk (Kd.R_elder' (by (with_reducible repeat (first | apply Kd.R_alloc | apply Kd.R_drewN | apply Kd.R_drew)); exact HO337.out) (Kd.R_base ho19) hb); have n2_ := Aside0.mk (Kd.R_below (by (with_reducible repeat (first | apply Kd.R_alloc | apply Kd.R_drewN | apply Kd.R_drew)); exact HO342.out) hb); have n3_ := Aside0.mk (Kd.R_below (by (with_reducible repeat (first | apply Kd.R_alloc | apply Kd.R_drewN | apply Kd.R_drew)); exact HO345.out) hb); have n4_ := Aside0.mk (Kd.R_lower (Kd.R_new' ho19 (Kd.R_lt (by (with_reducible repeat (first | apply Kd.R_alloc | apply Kd.R_drewN | apply Kd.R_drew)); exact HO337.out))) (below_size (by repeat (first | (with_reducible first | exact HB.out | apply below_alloc | apply pw_below_drewN | apply below_drew1 | refine below_set ?_ (IsS125.ge HI326.out)) | exact HB.out)))); have n5_ := Aside0.mk (IsS125.below (by repeat (first | (with_reducible first | exact HI326.out | apply IsS125.alloc | apply IsS125.drewN | apply IsS125.drew | apply IsS125.set_1 | apply IsS125.set_2) | exact HI326.out)) hb); have n6_ := Aside0.mk (below_step (by repeat (first | (with_reducible first | exact HB.out | apply below_alloc | apply pw_below_drewN | apply below_drew1 | refine below_set ?_ (IsS125.ge HI326.out)) | exact HB.out)) hb); clear HO332; clear HO337; clear HO342; clear HO345; clear HI326; clear HB; have HO332 := n0_; have HO337 := n1_; have HO342 := n2_; have HO345 := n3_; have HO350 := n4_; have HI326 := n5_; have HB := n6_; clear n0_ n1_ n2_ n3_ n4_ n5_ n6_; clear hb ho19; obtain ⟨Ao20, co20, eo20⟩ := Kd.R_slice HO350.out; subst eo20) | ((with_reducible refine gate_callee (f := 102) rfl ?_); refine goesL_ (some 22) rfl rfl Try.func102 (by kernel_rfl) rfl #[.pointer (some ⟨g326, 0, none⟩), .slice Ao20 y348.length co20] rfl (by (try simp only [List.map_toArray, List.map_cons, List.map_nil]); first | done | rfl | (simp only [List.length_drop, List.length_take]; rfl)) ?_; (with_reducible refine (spec_l1Int.calls g326 t323 t346 t347 _ _ y348 t351 t352 t353 w _ ?side1 ?side2 ?side3 ?side4 ?side5 A8.out).mono ?_); (case side1 => repeat (first | (with_reducible first | exact HI326.out | apply IsS125.alloc | apply IsS125.drewN | apply IsS125.drew | apply IsS125.set_1 | apply IsS125.set_2) | exact HI326.out)); (case side2 => repeat (first | (with_reducible first | exact HB.out | apply below_alloc | apply pw_below_drewN | apply below_drew1 | refine below_set ?_ (IsS125.ge HI326.out)) | exact HB.out)); (case side3 => repeat (first | exact (Kd.R_reads' HO350.out).2.2 | (with_reducible refine Kd.C_alloc ?_ _) | (with_reducible refine Kd.C_drewN ?_ _) | (with_reducible refine Kd.C_drew ?_))); (case side4 => exact (Kd.R_reads' HO350.out).2.1); (case side5 => exact far_slice (IsS125.own_ne HI326.out HO350.out (by decide))); rintro e w21 ⟨rfl, hi, hb, hk⟩; refine ⟨_, rfl, ?_⟩; have n0_ := Aside0.mk (Kd.R_mono (Kd.R_keep (IsS125.apart (show IsS125 w _ g326 t323 t346 t347 from by repeat (first | (with_reducible first | exact HI326.out | apply IsS125.alloc | apply IsS125.drewN | apply IsS125.drew | apply IsS125.set_1 | apply IsS125.set_2) | exact HI326.out)) (by (with_reducible repeat (first | apply Kd.R_alloc | apply Kd.R_drewN | apply Kd.R_drew)); exact HO332.out) (by decide)) hk (fun _ h => h.2)) (fun _ h => h.1)); have n1_ := Aside0.mk (Kd.R_mono (Kd.R_keep (IsS125.apart (show IsS125 w _ g326 t323 t346 t347 from by repeat (first | (with_reducible first | exact HI326.out | apply IsS125.alloc | apply IsS125.drewN | apply IsS125.drew | apply IsS125.set_1 | apply IsS125.set_2) | exact HI326.out)) (by (with_reducible repeat (first | apply Kd.R_alloc | apply Kd.R_drewN | apply Kd.R_drew)); exact HO337.out) (by decide)) hk (fun _ h => h.2)) (fun _ h => h.1)); have n2_ := Aside0.mk (Kd.R_mono (Kd.R_keep (IsS125.apart (show IsS125 w _ g326 t323 t346 t347 from by repeat (first | (with_reducible first | exact HI326.out | apply IsS125.alloc | apply IsS125.drewN | apply IsS125.drew | apply IsS125.set_1 | apply IsS125.set_2) | exact HI326.out)) (by (with_reducible repeat (first | apply Kd.R_alloc | apply Kd.R_drewN | apply Kd.R_drew)); exact HO342.out) (by decide)) hk (fun _ h => h.2)) (fun _ h => h.1)); have n3_ := Aside0.mk (Kd.R_mono (Kd.R_keep (IsS125.apart (show IsS125 w _ g326 t323 t346 t347 from by repeat (first | (with_reducible first | exact HI326.out | apply IsS125.alloc | apply IsS125.drewN | apply IsS125.drew | apply IsS125.set_1 | apply IsS125.set_2) | exact HI326.out)) (by (with_reducible repeat (first | apply Kd.R_alloc | apply Kd.R_drewN | apply Kd.R_drew)); exact HO345.out) (by decide)) hk (fun _ h => h.2)) (fun _ h => h.1)); have n4_ := Aside0.mk (Kd.R_mono (Kd.R_keep (IsS125.apart (show IsS125 w _ g326 t323 t346 t347 from by repeat (first | (with_reducible first | exact HI326.out | apply IsS125.alloc | apply IsS125.drewN | apply IsS125.drew | apply IsS125.set_1 | apply IsS125.set_2) | exact HI326.out)) (by (with_reducible repeat (first | apply Kd.R_alloc | apply Kd.R_drewN | apply Kd.R_drew)); exact HO350.out) (by decide)) hk (fun _ h => h.2)) (fun _ h => h.1)); have n5_ := Aside0.mk (hb); have n6_ := Aside0.mk (hi); clear HO332; clear HO337; clear HO342; clear HO345; clear HO350; clear HB; clear HI326; have HO332 := n0_; have HO337 := n1_; have HO342 := n2_; have HO345 := n3_; have HO350 := n4_; have HB := n5_; have HI326 := n6_; clear n0_ n1_ n2_ n3_ n4_ n5_ n6_; (try clear hb); (try clear hb2); (try clear hk); (try clear hi)))
  go_ret2
  exact ⟨_, by first | rfl | (simp [errW_none, errW_some] <;> rfl) | (simp [*, errW_none, errW_some] <;> rfl), by (with_reducible repeat (first | apply Kd.R_alloc | apply Kd.R_drewN | apply Kd.R_drew)); exact Kd.R_mono HO345.out (fun _ hk => trivial), by repeat (first | (with_reducible first | exact HB.out | apply below_alloc | apply pw_below_drewN | apply below_drew1 | refine below_set ?_ (IsS125.ge HI326.out)) | exact HB.out)⟩

/-! ### spec_DrawPutList: function 50 -/
def spec_DrawPutList.l0 : Nat → List Int → List Int → List Int → Int → Int → Option (List Int × List Int)
  | 0, _, _, _, _, _ => none
  | k + 1, x5, x6, x358000, x358001, x358002 => (spec_l1Int.f x358000 x358001 x358002 (([255, 256] : List Int))).bind fun bt377 => (if (x6.length : Int) < bt377.1 then (if x6.length < 17592186044416 then (spec_DrawPutList.l0 k x5 (x6 ++ [1]) x358000 bt377.2.1 bt377.2.2) else (none)) else (some (x5, x6)))
def spec_DrawPutList.f (k : Nat) (l0 : List Int) : Option (List Int × List Int) := (spec_l1New.f k l0).bind fun bt354 => ((spec_l1Below.f bt354.1 bt354.2.1 bt354.2.2 3).bind fun bt358 => ((spec_l1Bytes.f k bt354.1 bt358.2.1 bt358.2.2 bt358.1).bind fun bt361 => ((spec_l2List.f k bt354.1 bt361.2.1 bt361.2.2).bind fun bt366 => ((spec_l1Once.f bt354.1 bt366.2.1 bt366.2.2 20).bind fun bt371 => (if bt371.1 = true then (spec_DrawPutList.l0 k bt361.1 bt366.1 bt354.1 bt371.2.1 bt371.2.2) else (some (bt361.1, bt366.1)))))))
theorem spec_DrawPutList.mono_l : ∀ k, (∀ y0 y1 y2 y3 y4, LeO (spec_DrawPutList.l0 k y0 y1 y2 y3 y4) (spec_DrawPutList.l0 (k + 1) y0 y1 y2 y3 y4))
  | 0 => fun _ _ _ _ _ r h => by simp [spec_DrawPutList.l0] at h
  | k + 1 => by
    have ih0 := spec_DrawPutList.mono_l k
    · intro y0 y1 y2 y3 y4
      unfold spec_DrawPutList.l0
      repeat' first
      | (with_reducible exact ih0 _ _ _ _ _)
      | (with_reducible exact spec_l1Bytes.mono _ _ _ _ _)
      | (with_reducible exact spec_l1New.mono _ _)
      | (with_reducible exact spec_l2List.mono _ _ _ _)
      | (with_reducible exact LeO.refl _)
      | (with_reducible exact LeO.none _)
      | (with_reducible refine LeO.ite ?_ ?_)
      | (with_reducible refine LeO.bind ?_ (fun _ => ?_))
      | exact ih0 _ _ _ _ _
      | exact spec_l1Bytes.mono _ _ _ _ _
      | exact spec_l1New.mono _ _
      | exact spec_l2List.mono _ _ _ _
      | exact LeO.none _
      | refine LeO.ite ?_ ?_
      | refine LeO.bind ?_ (fun _ => ?_)
theorem spec_DrawPutList.mono : ∀ a0 k, LeO (spec_DrawPutList.f k a0) (spec_DrawPutList.f (k + 1) a0) := by
  intro a0 k
  have ih0 := spec_DrawPutList.mono_l k
  unfold spec_DrawPutList.f
  repeat' first
      | (with_reducible exact ih0 _ _ _ _ _)
      | (with_reducible exact spec_l1Bytes.mono _ _ _ _ _)
      | (with_reducible exact spec_l1New.mono _ _)
      | (with_reducible exact spec_l2List.mono _ _ _ _)
      | (with_reducible exact LeO.refl _)
      | (with_reducible exact LeO.none _)
      | (with_reducible refine LeO.ite ?_ ?_)
      | (with_reducible refine LeO.bind ?_ (fun _ => ?_))
      | exact ih0 _ _ _ _ _
      | exact spec_l1Bytes.mono _ _ _ _ _
      | exact spec_l1New.mono _ _
      | exact spec_l2List.mono _ _ _ _
      | exact LeO.none _
      | refine LeO.ite ?_ ?_
      | refine LeO.bind ?_ (fun _ => ?_)
set_option maxHeartbeats 8000000 in
set_option maxRecDepth 100000 in
theorem spec_DrawPutList.calls (k : Nat) (A0 : Option Addr) (c0 : Nat) (l0 : List Int) (r1 : List Int) (r2 : List Int) (w : World) (hr0 : Kd.C (Kd.int .u8) w A0 l0.length l0) (hc0 : l0.length ≤ c0) (h : spec_DrawPutList.f k l0 = some (r1, r2)) :
    Calls Try.prog 50 #[.slice A0 l0.length c0] w fun e w' => ∃ v0_ v1_ : Value, e = .returned (.tuple #[v0_, v1_]) ∧ Kd.R (Kd.int .u8) 5 w' w.heap.size (fun _ => True) v0_ r1 ∧ Kd.R (Kd.int .i64) 3 w' w.heap.size (fun _ => True) v1_ r2 ∧ Below w.heap.size w w' := by
  have HR0 := Aside0.mk hr0
  have HC0 := Aside0.mk hc0
  clear hr0 hc0
  have HB := Aside0.mk (Below.refl w.heap.size w)
  have H : ((spec_l1New.f k l0).bind fun bt354 => ((spec_l1Below.f bt354.1 bt354.2.1 bt354.2.2 3).bind fun bt358 => ((spec_l1Bytes.f k bt354.1 bt358.2.1 bt358.2.2 bt358.1).bind fun bt361 => ((spec_l2List.f k bt354.1 bt361.2.1 bt361.2.2).bind fun bt366 => ((spec_l1Once.f bt354.1 bt366.2.1 bt366.2.2 20).bind fun bt371 => (if bt371.1 = true then (spec_DrawPutList.l0 k bt361.1 bt366.1 bt354.1 bt371.2.1 bt371.2.2) else (some (bt361.1, bt366.1)))))))) = some (r1, r2) := h
  clear h
  replace H := Option.bind_eq_some_iff.mp H
  obtain ⟨⟨t354, t355, t356⟩, A20, H⟩ := H
  replace H : ((spec_l1Below.f t354 t355 t356 3).bind fun bt358 => ((spec_l1Bytes.f k t354 bt358.2.1 bt358.2.2 bt358.1).bind fun bt361 => ((spec_l2List.f k t354 bt361.2.1 bt361.2.2).bind fun bt366 => ((spec_l1Once.f t354 bt366.2.1 bt366.2.2 20).bind fun bt371 => (if bt371.1 = true then (spec_DrawPutList.l0 k bt361.1 bt366.1 t354 bt371.2.1 bt371.2.2) else (some (bt361.1, bt366.1))))))) = some (r1, r2) := H
  have A2 := Aside0.mk A20
  clear A20
  replace H := Option.bind_eq_some_iff.mp H
  obtain ⟨⟨t358, t359, t360⟩, A30, H⟩ := H
  replace H : ((spec_l1Bytes.f k t354 t359 t360 t358).bind fun bt361 => ((spec_l2List.f k t354 bt361.2.1 bt361.2.2).bind fun bt366 => ((spec_l1Once.f t354 bt366.2.1 bt366.2.2 20).bind fun bt371 => (if bt371.1 = true then (spec_DrawPutList.l0 k bt361.1 bt366.1 t354 bt371.2.1 bt371.2.2) else (some (bt361.1, bt366.1)))))) = some (r1, r2) := H
  have A3 := Aside0.mk A30
  clear A30
  replace H := Option.bind_eq_some_iff.mp H
  obtain ⟨⟨t361, t364, t365⟩, A40, H⟩ := H
  replace H : ((spec_l2List.f k t354 t364 t365).bind fun bt366 => ((spec_l1Once.f t354 bt366.2.1 bt366.2.2 20).bind fun bt371 => (if bt371.1 = true then (spec_DrawPutList.l0 k t361 bt366.1 t354 bt371.2.1 bt371.2.2) else (some (t361, bt366.1))))) = some (r1, r2) := H
  have A4 := Aside0.mk A40
  clear A40
  replace H := Option.bind_eq_some_iff.mp H
  obtain ⟨⟨t366, t369, t370⟩, A50, H⟩ := H
  replace H : ((spec_l1Once.f t354 t369 t370 20).bind fun bt371 => (if bt371.1 = true then (spec_DrawPutList.l0 k t361 t366 t354 bt371.2.1 bt371.2.2) else (some (t361, t366)))) = some (r1, r2) := H
  have A5 := Aside0.mk A50
  clear A50
  replace H := Option.bind_eq_some_iff.mp H
  obtain ⟨⟨t371, t372, t373⟩, A60, H⟩ := H
  replace H : (if t371 = true then (spec_DrawPutList.l0 k t361 t366 t354 t372 t373) else (some (t361, t366))) = some (r1, r2) := H
  have A6 := Aside0.mk A60
  clear A60
  go_enter Try.func50, Try.ntmps50
  repeat' (first | ((with_reducible refine gate_callee (f := 94) rfl ?_); refine goesL_ (some 8) rfl rfl Try.func94 (by kernel_rfl) rfl #[.slice A0 l0.length c0] rfl (by (try simp only [List.map_toArray, List.map_cons, List.map_nil]); first | done | rfl | (simp only [List.length_drop, List.length_take]; rfl)) ?_; (with_reducible refine (spec_l1New.calls k _ _ l0 t354 t355 t356 w _ ?side1 ?side2 ?side3 A2.out).mono ?_); (case side1 => repeat (first | (with_reducible first | exact HB.out | apply below_alloc | apply pw_below_drewN | apply below_drew1) | exact HB.out)); (case side2 => exact HR0.out); (case side3 => exact HC0.out); rintro e w8 ⟨g357, rfl, hi, hb, hb2⟩; refine ⟨_, rfl, ?_⟩; have n0_ := Aside0.mk (hb); have n1_ := Aside0.mk (hi); clear HB; have HB := n0_; have HI357 := n1_; clear n0_ n1_; (try clear hb); (try clear hb2); (try clear hk); (try clear hi); clear A2) | ((with_reducible refine gate_callee (f := 97) rfl ?_); refine goesL_ (some 11) rfl rfl Try.func97 (by kernel_rfl) rfl #[.pointer (some ⟨g357, 0, none⟩), .int .i64 3] rfl (by (try simp only [List.map_toArray, List.map_cons, List.map_nil]); first | done | rfl | (simp only [List.length_drop, List.length_take]; rfl)) ?_; (with_reducible refine (spec_l1Below.calls g357 t354 t355 t356 3 t358 t359 t360 w _ ?side1 ?side2 A3.out).mono ?_); (case side1 => repeat (first | (with_reducible first | exact HI357.out | apply IsS125.alloc | apply IsS125.drewN | apply IsS125.drew | apply IsS125.set_1 | apply IsS125.set_2) | exact HI357.out)); (case side2 => repeat (first | (with_reducible first | exact HB.out | apply below_alloc | apply pw_below_drewN | apply below_drew1 | refine below_set ?_ (IsS125.ge HI357.out)) | exact HB.out)); rintro e w9 ⟨rfl, hi, hb, hk⟩; refine ⟨_, rfl, ?_⟩; have n0_ := Aside0.mk (hb); have n1_ := Aside0.mk (hi); clear HB; clear HI357; have HB := n0_; have HI357 := n1_; clear n0_ n1_; (try clear hb); (try clear hb2); (try clear hk); (try clear hi); clear A3) | ((with_reducible refine gate_callee (f := 96) rfl ?_); refine goesL_ (some 12) rfl rfl Try.func96 (by kernel_rfl) rfl #[.pointer (some ⟨g357, 0, none⟩), .int .i64 t358] rfl (by (try simp only [List.map_toArray, List.map_cons, List.map_nil]); first | done | rfl | (simp only [List.length_drop, List.length_take]; rfl)) ?_; (with_reducible refine (spec_l1Bytes.calls k g357 t354 t359 t360 t358 t361 t364 t365 w _ ?side1 ?side2 A4.out).mono ?_); (case side1 => repeat (first | (with_reducible first | exact HI357.out | apply IsS125.alloc | apply IsS125.drewN | apply IsS125.drew | apply IsS125.set_1 | apply IsS125.set_2) | exact HI357.out)); (case side2 => repeat (first | (with_reducible first | exact HB.out | apply below_alloc | apply pw_below_drewN | apply below_drew1 | refine below_set ?_ (IsS125.ge HI357.out)) | exact HB.out)); rintro e w10 ⟨v362, rfl, ho0, hi, hb, hk⟩; refine ⟨_, rfl, ?_⟩; have n0_ := Aside0.mk (Kd.R_lower ho0 (below_size (by repeat (first | (with_reducible first | exact HB.out | apply below_alloc | apply pw_below_drewN | apply below_drew1 | refine below_set ?_ (IsS125.ge HI357.out)) | exact HB.out)))); have n1_ := Aside0.mk (hb); have n2_ := Aside0.mk (hi); clear HB; clear HI357; have HO363 := n0_; have HB := n1_; have HI357 := n2_; clear n0_ n1_ n2_; (try clear hb); (try clear hb2); (try clear hk); (try clear hi); (try clear ho0); clear A4) | ((fail_if_success (with_reducible refine gate_callee (f := 105) rfl ?_)); (first | go_values | go_skip | go_guarded | go_step | go_upon | go_back | (simp only [Int.not_lt, Int.not_le] at *; go_simp) | (go_ite <;> go_prune <;> (try go_simp)) | (split <;> (first | (rename_i hx; exact (hx _ rfl).elim) | go_prune)))))
  by_cases c7 : t371 = true
  · subst c7
    have H1 : (spec_DrawPutList.l0 k t361 t366 t354 t372 t373) = some (r1, r2) := by rw [if_pos rfl] at H; exact H
    clear H
    have H := H1
    clear H1
    have H' := Aside0.mk H
    clear H
    skip
    go_wp2_with (first | ((with_reducible refine gate_callee (f := 105) rfl ?_); refine goesL_ (some 14) rfl rfl Try.func105 (by kernel_rfl) rfl #[.pointer (some ⟨g357, 0, none⟩)] rfl (by (try simp only [List.map_toArray, List.map_cons, List.map_nil]); first | done | rfl | (simp only [List.length_drop, List.length_take]; rfl)) ?_; (with_reducible refine (spec_l2List.calls k g357 t354 t364 t365 t366 t369 t370 w _ ?side1 ?side2 A5.out).mono ?_); (case side1 => repeat (first | (with_reducible first | exact HI357.out | apply IsS125.alloc | apply IsS125.drewN | apply IsS125.drew | apply IsS125.set_1 | apply IsS125.set_2) | exact HI357.out)); (case side2 => repeat (first | (with_reducible first | exact HB.out | apply below_alloc | apply pw_below_drewN | apply below_drew1 | refine below_set ?_ (IsS125.ge HI357.out)) | exact HB.out)); rintro e w11 ⟨v367, rfl, ho0, hi, hb, hk⟩; refine ⟨_, rfl, ?_⟩; have n0_ := Aside0.mk (Kd.R_mono (Kd.R_keep (IsS125.apart (show IsS125 w _ g357 t354 t364 t365 from by repeat (first | (with_reducible first | exact HI357.out | apply IsS125.alloc | apply IsS125.drewN | apply IsS125.drew | apply IsS125.set_1 | apply IsS125.set_2) | exact HI357.out)) (by (with_reducible repeat (first | apply Kd.R_alloc | apply Kd.R_drewN | apply Kd.R_drew)); exact HO363.out) (by decide)) hk (fun _ h => h.2)) (fun _ h => h.1)); have n1_ := Aside0.mk (Kd.R_lower ho0 (below_size (by repeat (first | (with_reducible first | exact HB.out | apply below_alloc | apply pw_below_drewN | apply below_drew1 | refine below_set ?_ (IsS125.ge HI357.out)) | exact HB.out)))); have n2_ := Aside0.mk (hb); have n3_ := Aside0.mk (hi); clear HO363; clear HB; clear HI357; have HO363 := n0_; have HO368 := n1_; have HB := n2_; have HI357 := n3_; clear n0_ n1_ n2_ n3_; (try clear hb); (try clear hb2); (try clear hk); (try clear hi); (try clear ho0)) | ((with_reducible refine gate_callee (f := 99) rfl ?_); refine goesL_ (some 16) rfl rfl Try.func99 (by kernel_rfl) rfl #[.pointer (some ⟨g357, 0, none⟩), .int .i64 20] rfl (by (try simp only [List.map_toArray, List.map_cons, List.map_nil]); first | done | rfl | (simp only [List.length_drop, List.length_take]; rfl)) ?_; (with_reducible refine (spec_l1Once.calls g357 t354 t369 t370 20 true t372 t373 w _ ?side1 ?side2 A6.out).mono ?_); (case side1 => repeat (first | (with_reducible first | exact HI357.out | apply IsS125.alloc | apply IsS125.drewN | apply IsS125.drew | apply IsS125.set_1 | apply IsS125.set_2) | exact HI357.out)); (case side2 => repeat (first | (with_reducible first | exact HB.out | apply below_alloc | apply pw_below_drewN | apply below_drew1 | refine below_set ?_ (IsS125.ge HI357.out)) | exact HB.out)); rintro e w12 ⟨rfl, hi, hb, hk⟩; refine ⟨_, rfl, ?_⟩; have n0_ := Aside0.mk (Kd.R_mono (Kd.R_keep (IsS125.apart (show IsS125 w _ g357 t354 t369 t370 from by repeat (first | (with_reducible first | exact HI357.out | apply IsS125.alloc | apply IsS125.drewN | apply IsS125.drew | apply IsS125.set_1 | apply IsS125.set_2) | exact HI357.out)) (by (with_reducible repeat (first | apply Kd.R_alloc | apply Kd.R_drewN | apply Kd.R_drew)); exact HO363.out) (by decide)) hk (fun _ h => h.2)) (fun _ h => h.1)); have n1_ := Aside0.mk (Kd.R_mono (Kd.R_keep (IsS125.apart (show IsS125 w _ g357 t354 t369 t370 from by repeat (first | (with_reducible first | exact HI357.out | apply IsS125.alloc | apply IsS125.drewN | apply IsS125.drew | apply IsS125.set_1 | apply IsS125.set_2) | exact HI357.out)) (by (with_reducible repeat (first | apply Kd.R_alloc | apply Kd.R_drewN | apply Kd.R_drew)); exact HO368.out) (by decide)) hk (fun _ h => h.2)) (fun _ h => h.1)); have n2_ := Aside0.mk (hb); have n3_ := Aside0.mk (hi); clear HO363; clear HO368; clear HB; clear HI357; have HO363 := n0_; have HO368 := n1_; have HB := n2_; have HI357 := n3_; clear n0_ n1_ n2_ n3_; (try clear hb); (try clear hb2); (try clear hk); (try clear hi)))
    go_simp
    go_loopg [6] k (fun kq v6 w' => ∃ (x6_1 : List Int) (x358001_1 : Int) (x358002_1 : Int), Aside0 (spec_DrawPutList.l0 kq t361 x6_1 t354 x358001_1 x358002_1 = some (r1, r2)) ∧ Aside0 (kq ≤ k) ∧ Aside0 (Kd.R (Kd.int .u8) 5 w' w.heap.size (fun _ => True) v362 t361) ∧ Aside0 (Kd.R (Kd.int .i64) 3 w' w.heap.size (fun _ => True) v6 x6_1) ∧ Aside0 (IsS125 w w' g357 t354 x358001_1 x358002_1) ∧ Aside0 (Below w.heap.size w w'))
    case atStart => exact ⟨(t366), (t372), (t373), H', ⟨Nat.le_refl _⟩, ⟨by (with_reducible repeat (first | apply Kd.R_alloc | apply Kd.R_drewN | apply Kd.R_drew)); exact HO363.out⟩, ⟨by (with_reducible repeat (first | apply Kd.R_alloc | apply Kd.R_drewN | apply Kd.R_drew)); exact HO368.out⟩, ⟨by repeat (first | (with_reducible first | exact HI357.out | apply IsS125.alloc | apply IsS125.drewN | apply IsS125.drew | apply IsS125.set_1 | apply IsS125.set_2) | exact HI357.out)⟩, ⟨by repeat (first | (with_reducible first | exact HB.out | apply below_alloc | apply pw_below_drewN | apply below_drew1 | refine below_set ?_ (IsS125.ge HI357.out)) | exact HB.out)⟩⟩
    case round =>
      clear H'
      try clear c1
      try clear p2
      try clear c5
      try clear c7
      try clear c9
      try clear c10
      obtain ⟨x6_1, x358001_1, x358002_1, HA, HK1, HO_5, HO_6, HI357, HB⟩ := hrel
      cases gk with
      | zero => exact absurd HA.out (by simp [spec_DrawPutList.l0])
      | succ k1 =>
        have H := HA.out
        clear HA
        simp only [spec_DrawPutList.l0] at H
        obtain ⟨y374, hy374⟩ : ∃ y_ : List Int, y_ = (([255, 256] : List Int)) := ⟨_, rfl⟩
        replace H : ((spec_l1Int.f t354 x358001_1 x358002_1 y374).bind fun bt377 => (if (x6_1.length : Int) < bt377.1 then (if x6_1.length < 17592186044416 then (spec_DrawPutList.l0 k1 t361 (x6_1 ++ [1]) t354 bt377.2.1 bt377.2.2) else (none)) else (some (t361, x6_1)))) = some (r1, r2) := by first | (rw [hy374]; with_reducible exact H) | (have H2_ := (Option.bind_some _ _).symm.trans H; rw [hy374]; with_reducible exact H2_) | (have H2_ := (Option.bind_some _ _).symm.trans H; with_reducible exact H2_) | with_reducible exact H | (rw [hy374]; exact H) | exact H
        have Ny374 := Aside0.mk hy374
        clear hy374
        replace H := Option.bind_eq_some_iff.mp H
        obtain ⟨⟨t377, t378, t379⟩, A130, H⟩ := H
        replace H : (if (x6_1.length : Int) < t377 then (if x6_1.length < 17592186044416 then (spec_DrawPutList.l0 k1 t361 (x6_1 ++ [1]) t354 t378 t379) else (none)) else (some (t361, x6_1))) = some (r1, r2) := H
        have A13 := Aside0.mk A130
        clear A130
        by_cases c14 : (x6_1.length : Int) < t377
        · rw [if_pos c14] at H
          have c14b0 : decide ((x6_1.length : Int) < t377) = true := decide_eq_true c14
          clear c14
          by_cases c15 : x6_1.length < 17592186044416
          · rw [if_pos c15] at H
            have LMc15 := Aside0.mk c15
            clear c15
            obtain ⟨y380, hy380⟩ : ∃ y_ : List Int, y_ = (x6_1 ++ [1]) := ⟨_, rfl⟩
            replace H : (spec_DrawPutList.l0 k1 t361 y380 t354 t378 t379) = some (r1, r2) := by first | (rw [hy380]; with_reducible exact H) | (have H2_ := (Option.bind_some _ _).symm.trans H; rw [hy380]; with_reducible exact H2_) | (have H2_ := (Option.bind_some _ _).symm.trans H; with_reducible exact H2_) | with_reducible exact H | (rw [hy380]; exact H) | exact H
            have Ny380 := Aside0.mk hy380
            clear hy380
            have H' := Aside0.mk H
            clear H
            obtain ⟨Ao16, co16, eo16⟩ := Kd.R_slice HO_6.out
            subst eo16
            go_wp2_with (first | ((with_reducible refine gate_dst (N := 20) rfl ?_); refine Kd.R_lit (Kd.int .i64) _ 3 ?hg (N := 20) ?hd (xs := ([255, 256] : List Int)) (inner := [.int .i64 255, .int .i64 256]) (ok := fun _ => True) (okp := fun _ => True) ?hr ?hp (fun _ hk => hk) trivial (Below.refl _ _) (Nat.le_refl _) (by simp) ?_; (case hd => rfl); (case hg => rfl); (case hr => first | (go_simp; done) | (go_simp; rfl)); (case hp => exact (Reps.one (show Kd.M (Kd.int .i64) _ _ _ 255 [.int .i64 255] from rfl) (Reps.one (show Kd.M (Kd.int .i64) _ _ _ 256 [.int .i64 256] from rfl) (Reps.none _ _)))); intro v375 w17 ho18 hb hg_ hnew_; clear hg_ hnew_; (first | rw [← Ny374.out] at ho18 | (simp only [Int.reduceToNat] at ho18; rw [← Ny374.out] at ho18)); have n0_ := Aside0.mk (Kd.R_below (by (with_reducible repeat (first | apply Kd.R_alloc | apply Kd.R_drewN | apply Kd.R_drew)); exact HO_5.out) hb); have n1_ := Aside0.mk (Kd.R_elder' (by (with_reducible repeat (first | apply Kd.R_alloc | apply Kd.R_drewN | apply Kd.R_drew)); exact HO_6.out) (Kd.R_base ho18) hb); have n2_ := Aside0.mk (Kd.R_lower (Kd.R_new' ho18 (Kd.R_lt (by (with_reducible repeat (first | apply Kd.R_alloc | apply Kd.R_drewN | apply Kd.R_drew)); exact HO_6.out))) (below_size (by repeat (first | (with_reducible first | exact HB.out | apply below_alloc | apply pw_below_drewN | apply below_drew1 | refine below_set ?_ (IsS125.ge HI357.out)) | exact HB.out)))); have n3_ := Aside0.mk (IsS125.below (by repeat (first | (with_reducible first | exact HI357.out | apply IsS125.alloc | apply IsS125.drewN | apply IsS125.drew | apply IsS125.set_1 | apply IsS125.set_2) | exact HI357.out)) hb); have n4_ := Aside0.mk (below_step (by repeat (first | (with_reducible first | exact HB.out | apply below_alloc | apply pw_below_drewN | apply below_drew1 | refine below_set ?_ (IsS125.ge HI357.out)) | exact HB.out)) hb); clear HO_5; clear HO_6; clear HI357; clear HB; have HO_5 := n0_; have HO_6 := n1_; have HO376 := n2_; have HI357 := n3_; have HB := n4_; clear n0_ n1_ n2_ n3_ n4_; clear hb ho18; obtain ⟨Ao19, co19, eo19⟩ := Kd.R_slice HO376.out; subst eo19) | ((with_reducible refine gate_callee (f := 102) rfl ?_); refine goesL_ (some 21) rfl rfl Try.func102 (by kernel_rfl) rfl #[.pointer (some ⟨g357, 0, none⟩), .slice Ao19 y374.length co19] rfl (by (try simp only [List.map_toArray, List.map_cons, List.map_nil]); first | done | rfl | (simp only [List.length_drop, List.length_take]; rfl)) ?_; (with_reducible refine (spec_l1Int.calls g357 t354 x358001_1 x358002_1 _ _ y374 t377 t378 t379 w _ ?side1 ?side2 ?side3 ?side4 ?side5 A13.out).mono ?_); (case side1 => repeat (first | (with_reducible first | exact HI357.out | apply IsS125.alloc | apply IsS125.drewN | apply IsS125.drew | apply IsS125.set_1 | apply IsS125.set_2) | exact HI357.out)); (case side2 => repeat (first | (with_reducible first | exact HB.out | apply below_alloc | apply pw_below_drewN | apply below_drew1 | refine below_set ?_ (IsS125.ge HI357.out)) | exact HB.out)); (case side3 => repeat (first | exact (Kd.R_reads' HO376.out).2.2 | (with_reducible refine Kd.C_alloc ?_ _) | (with_reducible refine Kd.C_drewN ?_ _) | (with_reducible refine Kd.C_drew ?_))); (case side4 => exact (Kd.R_reads' HO376.out).2.1); (case side5 => exact far_slice (IsS125.own_ne HI357.out HO376.out (by decide))); rintro e w20 ⟨rfl, hi, hb, hk⟩; refine ⟨_, rfl, ?_⟩; have n0_ := Aside0.mk (Kd.R_mono (Kd.R_keep (IsS125.apart (show IsS125 w _ g357 t354 x358001_1 x358002_1 from by repeat (first | (with_reducible first | exact HI357.out | apply IsS125.alloc | apply IsS125.drewN | apply IsS125.drew | apply IsS125.set_1 | apply IsS125.set_2) | exact HI357.out)) (by (with_reducible repeat (first | apply Kd.R_alloc | apply Kd.R_drewN | apply Kd.R_drew)); exact HO_5.out) (by decide)) hk (fun _ h => h.2)) (fun _ h => h.1)); have n1_ := Aside0.mk (Kd.R_mono (Kd.R_keep (IsS125.apart (show IsS125 w _ g357 t354 x358001_1 x358002_1 from by repeat (first | (with_reducible first | exact HI357.out | apply IsS125.alloc | apply IsS125.drewN | apply IsS125.drew | apply IsS125.set_1 | apply IsS125.set_2) | exact HI357.out)) (by (with_reducible repeat (first | apply Kd.R_alloc | apply Kd.R_drewN | apply Kd.R_drew)); exact HO_6.out) (by decide)) hk (fun _ h => h.2)) (fun _ h => h.1)); have n2_ := Aside0.mk (Kd.R_mono (Kd.R_keep (IsS125.apart (show IsS125 w _ g357 t354 x358001_1 x358002_1 from by repeat (first | (with_reducible first | exact HI357.out | apply IsS125.alloc | apply IsS125.drewN | apply IsS125.drew | apply IsS125.set_1 | apply IsS125.set_2) | exact HI357.out)) (by (with_reducible repeat (first | apply Kd.R_alloc | apply Kd.R_drewN | apply Kd.R_drew)); exact HO376.out) (by decide)) hk (fun _ h => h.2)) (fun _ h => h.1)); have n3_ := Aside0.mk (hb); have n4_ := Aside0.mk (hi); clear HO_5; clear HO_6; clear HO376; clear HB; clear HI357; have HO_5 := n0_; have HO_6 := n1_; have HO376 := n2_; have HB := n3_; have HI357 := n4_; clear n0_ n1_ n2_ n3_ n4_; (try clear hb); (try clear hb2); (try clear hk); (try clear hi)) | ((with_reducible refine gate_builtin (b := .append) (xs := #[.tmp 23, .tmp 24]) rfl ?_); at_builtin; refine Kd.R_append (Kd.int .i64) (w0 := w) w.heap.size rfl (.tmp 23) (.tmp 24) 39 3 (.int .i64 0) 8 rfl Try.underlying39 info3 rfl (by decide) (by omega) (.slice Ao16 x6_1.length co16) x6_1 1 [.int .i64 1] (fun k_ => some k_ ≠ (.slice Ao19 y374.length co19 : Value).ownBlock) (fun _ => False) rfl rfl ?aP (fun _ hk => hk.elim) ?aF ?aO ?aB ?aS ?aL ?_; (case aP => exact rfl); (case aB => exact (by repeat (first | (with_reducible first | exact HB.out | apply below_alloc | apply pw_below_drewN | apply below_drew1 | refine below_set ?_ (IsS125.ge HI357.out)) | exact HB.out))); (case aF => exact (fun k_ hk => Kd.fresh' (Kd.R_lt (by (with_reducible repeat (first | apply Kd.R_alloc | apply Kd.R_drewN | apply Kd.R_drew)); exact HO376.out)) k_ hk)); (case aO => exact (by (with_reducible repeat (first | apply Kd.R_alloc | apply Kd.R_drewN | apply Kd.R_drew)); exact Kd.R_mono HO_6.out (fun _ hk => hk.2))); (case aS => exact (below_size (by repeat (first | (with_reducible first | exact HB.out | apply below_alloc | apply pw_below_drewN | apply below_drew1 | refine below_set ?_ (IsS125.ge HI357.out)) | exact HB.out)))); (case aL => have := LMc15.out; omega); intro v381 w21 ho hb hg hat; rw [← Ny380.out] at ho; have n0_ := Aside0.mk (Kd.R_over' (by (with_reducible repeat (first | apply Kd.R_alloc | apply Kd.R_drewN | apply Kd.R_drew)); exact HO_5.out) (Kd.R_typed (by (with_reducible repeat (first | apply Kd.R_alloc | apply Kd.R_drewN | apply Kd.R_drew)); exact HO_6.out)) (by decide) hg); have n1_ := Aside0.mk (IsS125.grown (by repeat (first | (with_reducible first | exact HI357.out | apply IsS125.alloc | apply IsS125.drewN | apply IsS125.drew | apply IsS125.set_1 | apply IsS125.set_2) | exact HI357.out)) hg (IsS125.own_ne HI357.out HO_6.out (by decide))); have n2_ := Aside0.mk (Kd.R_after (ok := (fun _ => True)) (by (with_reducible repeat (first | apply Kd.R_alloc | apply Kd.R_drewN | apply Kd.R_drew)); exact HO376.out) hg hat); have n3_ := Aside0.mk (hb); have n4_ := Aside0.mk (ho); clear HO_5; clear HI357; clear HO376; clear HB; clear HO_6; have HO_5 := n0_; have HI357 := n1_; have HO376 := n2_; have HB := n3_; have HO382 := n4_; clear n0_ n1_ n2_ n3_ n4_; clear ho hb hg hat))
            go_roundg k1
            case measure => have := HK1.out; omega
            case rel => exact ⟨(y380), (t378), (t379), H', ⟨by have := HK1.out; omega⟩, ⟨by (with_reducible repeat (first | apply Kd.R_alloc | apply Kd.R_drewN | apply Kd.R_drew)); exact HO_5.out⟩, ⟨by (with_reducible repeat (first | apply Kd.R_alloc | apply Kd.R_drewN | apply Kd.R_drew)); exact Kd.R_mono HO382.out (fun _ hk => trivial)⟩, ⟨by repeat (first | (with_reducible first | exact HI357.out | apply IsS125.alloc | apply IsS125.drewN | apply IsS125.drew | apply IsS125.set_1 | apply IsS125.set_2) | exact HI357.out)⟩, ⟨by repeat (first | (with_reducible first | exact HB.out | apply below_alloc | apply pw_below_drewN | apply below_drew1 | refine below_set ?_ (IsS125.ge HI357.out)) | exact HB.out)⟩⟩
          · rw [if_neg c15] at H
            exact absurd H (by simp)
        · rw [if_neg c14] at H
          have c14b0 : decide ((x6_1.length : Int) < t377) = false := decide_eq_false c14
          clear c14
          simp only [Option.some.injEq, Prod.mk.injEq] at H
          obtain ⟨rfl, rfl⟩ := H
          obtain ⟨Ao22, co22, eo22⟩ := Kd.R_slice HO_6.out
          subst eo22
          go_wp2_with (first | ((with_reducible refine gate_dst (N := 20) rfl ?_); refine Kd.R_lit (Kd.int .i64) _ 3 ?hg (N := 20) ?hd (xs := ([255, 256] : List Int)) (inner := [.int .i64 255, .int .i64 256]) (ok := fun _ => True) (okp := fun _ => True) ?hr ?hp (fun _ hk => hk) trivial (Below.refl _ _) (Nat.le_refl _) (by simp) ?_; (case hd => rfl); (case hg => rfl); (case hr => first | (go_simp; done) | (go_simp; rfl)); (case hp => exact (Reps.one (show Kd.M (Kd.int .i64) _ _ _ 255 [.int .i64 255] from rfl) (Reps.one (show Kd.M (Kd.int .i64) _ _ _ 256 [.int .i64 256] from rfl) (Reps.none _ _)))); intro v375 w23 ho24 hb hg_ hnew_; clear hg_ hnew_; (first | rw [← Ny374.out] at ho24 | (simp only [Int.reduceToNat] at ho24; rw [← Ny374.out] at ho24)); have n0_ := Aside0.mk (Kd.R_below (by (with_reducible repeat (first | apply Kd.R_alloc | apply Kd.R_drewN | apply Kd.R_drew)); exact HO_5.out) hb); have n1_ := Aside0.mk (Kd.R_elder' (by (with_reducible repeat (first | apply Kd.R_alloc | apply Kd.R_drewN | apply Kd.R_drew)); exact HO_6.out) (Kd.R_base ho24) hb); have n2_ := Aside0.mk (Kd.R_lower (Kd.R_new' ho24 (Kd.R_lt (by (with_reducible repeat (first | apply Kd.R_alloc | apply Kd.R_drewN | apply Kd.R_drew)); exact HO_6.out))) (below_size (by repeat (first | (with_reducible first | exact HB.out | apply below_alloc | apply pw_below_drewN | apply below_drew1 | refine below_set ?_ (IsS125.ge HI357.out)) | exact HB.out)))); have n3_ := Aside0.mk (IsS125.below (by repeat (first | (with_reducible first | exact HI357.out | apply IsS125.alloc | apply IsS125.drewN | apply IsS125.drew | apply IsS125.set_1 | apply IsS125.set_2) | exact HI357.out)) hb); have n4_ := Aside0.mk (below_step (by repeat (first | (with_reducible first | exact HB.out | apply below_alloc | apply pw_below_drewN | apply below_drew1 | refine below_set ?_ (IsS125.ge HI357.out)) | exact HB.out)) hb); clear HO_5; clear HO_6; clear HI357; clear HB; have HO_5 := n0_; have HO_6 := n1_; have HO376 := n2_; have HI357 := n3_; have HB := n4_; clear n0_ n1_ n2_ n3_ n4_; clear hb ho24; obtain ⟨Ao25, co25, eo25⟩ := Kd.R_slice HO376.out; subst eo25) | ((with_reducible refine gate_callee (f := 102) rfl ?_); refine goesL_ (some 21) rfl rfl Try.func102 (by kernel_rfl) rfl #[.pointer (some ⟨g357, 0, none⟩), .slice Ao25 y374.length co25] rfl (by (try simp only [List.map_toArray, List.map_cons, List.map_nil]); first | done | rfl | (simp only [List.length_drop, List.length_take]; rfl)) ?_; (with_reducible refine (spec_l1Int.calls g357 t354 x358001_1 x358002_1 _ _ y374 t377 t378 t379 w _ ?side1 ?side2 ?side3 ?side4 ?side5 A13.out).mono ?_); (case side1 => repeat (first | (with_reducible first | exact HI357.out | apply IsS125.alloc | apply IsS125.drewN | apply IsS125.drew | apply IsS125.set_1 | apply IsS125.set_2) | exact HI357.out)); (case side2 => repeat (first | (with_reducible first | exact HB.out | apply below_alloc | apply pw_below_drewN | apply below_drew1 | refine below_set ?_ (IsS125.ge HI357.out)) | exact HB.out)); (case side3 => repeat (first | exact (Kd.R_reads' HO376.out).2.2 | (with_reducible refine Kd.C_alloc ?_ _) | (with_reducible refine Kd.C_drewN ?_ _) | (with_reducible refine Kd.C_drew ?_))); (case side4 => exact (Kd.R_reads' HO376.out).2.1); (case side5 => exact far_slice (IsS125.own_ne HI357.out HO376.out (by decide))); rintro e w26 ⟨rfl, hi, hb, hk⟩; refine ⟨_, rfl, ?_⟩; have n0_ := Aside0.mk (Kd.R_mono (Kd.R_keep (IsS125.apart (show IsS125 w _ g357 t354 x358001_1 x358002_1 from by repeat (first | (with_reducible first | exact HI357.out | apply IsS125.alloc | apply IsS125.drewN | apply IsS125.drew | apply IsS125.set_1 | apply IsS125.set_2) | exact HI357.out)) (by (with_reducible repeat (first | apply Kd.R_alloc | apply Kd.R_drewN | apply Kd.R_drew)); exact HO_5.out) (by decide)) hk (fun _ h => h.2)) (fun _ h => h.1)); have n1_ := Aside0.mk (Kd.R_mono (Kd.R_keep (IsS125.apart (show IsS125 w _ g357 t354 x358001_1 x358002_1 from by repeat (first | (with_reducible first | exact HI357.out | apply IsS125.alloc | apply IsS125.drewN | apply IsS125.drew | apply IsS125.set_1 | apply IsS125.set_2) | exact HI357.out)) (by (with_reducible repeat (first | apply Kd.R_alloc | apply Kd.R_drewN | apply Kd.R_drew)); exact HO_6.out) (by decide)) hk (fun _ h => h.2)) (fun _ h => h.1)); have n2_ := Aside0.mk (Kd.R_mono (Kd.R_keep (IsS125.apart (show IsS125 w _ g357 t354 x358001_1 x358002_1 from by repeat (first | (with_reducible first | exact HI357.out | apply IsS125.alloc | apply IsS125.drewN | apply IsS125.drew | apply IsS125.set_1 | apply IsS125.set_2) | exact HI357.out)) (by (with_reducible repeat (first | apply Kd.R_alloc | apply Kd.R_drewN | apply Kd.R_drew)); exact HO376.out) (by decide)) hk (fun _ h => h.2)) (fun _ h => h.1)); have n3_ := Aside0.mk (hb); have n4_ := Aside0.mk (hi); clear HO_5; clear HO_6; clear HO376; clear HB; clear HI357; have HO_5 := n0_; have HO_6 := n1_; have HO376 := n2_; have HB := n3_; have HI357 := n4_; clear n0_ n1_ n2_ n3_ n4_; (try clear hb); (try clear hb2); (try clear hk); (try clear hi)))
          go_ret2
          exact ⟨_, _, by first | rfl | (simp [errW_none, errW_some] <;> rfl) | (simp [*, errW_none, errW_some] <;> rfl), by (with_reducible repeat (first | apply Kd.R_alloc | apply Kd.R_drewN | apply Kd.R_drew)); exact HO_5.out, by (with_reducible repeat (first | apply Kd.R_alloc | apply Kd.R_drewN | apply Kd.R_drew)); exact Kd.R_mono HO_6.out (fun _ hk => trivial), by repeat (first | (with_reducible first | exact HB.out | apply below_alloc | apply pw_below_drewN | apply below_drew1 | refine below_set ?_ (IsS125.ge HI357.out)) | exact HB.out)⟩
  · replace c7 := Bool.eq_false_iff.mpr c7
    subst c7
    have H1 : (some (t361, t366)) = some (r1, r2) := by rw [if_neg (show ¬ (false = true) by decide)] at H; exact H
    clear H
    have H := H1
    clear H1
    simp only [Option.some.injEq, Prod.mk.injEq] at H
    obtain ⟨rfl, rfl⟩ := H
    skip
    go_wp2_with (first | ((with_reducible refine gate_callee (f := 105) rfl ?_); refine goesL_ (some 14) rfl rfl Try.func105 (by kernel_rfl) rfl #[.pointer (some ⟨g357, 0, none⟩)] rfl (by (try simp only [List.map_toArray, List.map_cons, List.map_nil]); first | done | rfl | (simp only [List.length_drop, List.length_take]; rfl)) ?_; (with_reducible refine (spec_l2List.calls k g357 t354 t364 t365 t366 t369 t370 w _ ?side1 ?side2 A5.out).mono ?_); (case side1 => repeat (first | (with_reducible first | exact HI357.out | apply IsS125.alloc | apply IsS125.drewN | apply IsS125.drew | apply IsS125.set_1 | apply IsS125.set_2) | exact HI357.out)); (case side2 => repeat (first | (with_reducible first | exact HB.out | apply below_alloc | apply pw_below_drewN | apply below_drew1 | refine below_set ?_ (IsS125.ge HI357.out)) | exact HB.out)); rintro e w11 ⟨v367, rfl, ho0, hi, hb, hk⟩; refine ⟨_, rfl, ?_⟩; have n0_ := Aside0.mk (Kd.R_mono (Kd.R_keep (IsS125.apart (show IsS125 w _ g357 t354 t364 t365 from by repeat (first | (with_reducible first | exact HI357.out | apply IsS125.alloc | apply IsS125.drewN | apply IsS125.drew | apply IsS125.set_1 | apply IsS125.set_2) | exact HI357.out)) (by (with_reducible repeat (first | apply Kd.R_alloc | apply Kd.R_drewN | apply Kd.R_drew)); exact HO363.out) (by decide)) hk (fun _ h => h.2)) (fun _ h => h.1)); have n1_ := Aside0.mk (Kd.R_lower ho0 (below_size (by repeat (first | (with_reducible first | exact HB.out | apply below_alloc | apply pw_below_drewN | apply below_drew1 | refine below_set ?_ (IsS125.ge HI357.out)) | exact HB.out)))); have n2_ := Aside0.mk (hb); have n3_ := Aside0.mk (hi); clear HO363; clear HB; clear HI357; have HO363 := n0_; have HO368 := n1_; have HB := n2_; have HI357 := n3_; clear n0_ n1_ n2_ n3_; (try clear hb); (try clear hb2); (try clear hk); (try clear hi); (try clear ho0)) | ((with_reducible refine gate_callee (f := 99) rfl ?_); refine goesL_ (some 16) rfl rfl Try.func99 (by kernel_rfl) rfl #[.pointer (some ⟨g357, 0, none⟩), .int .i64 20] rfl (by (try simp only [List.map_toArray, List.map_cons, List.map_nil]); first | done | rfl | (simp only [List.length_drop, List.length_take]; rfl)) ?_; (with_reducible refine (spec_l1Once.calls g357 t354 t369 t370 20 false t372 t373 w _ ?side1 ?side2 A6.out).mono ?_); (case side1 => repeat (first | (with_reducible first | exact HI357.out | apply IsS125.alloc | apply IsS125.drewN | apply IsS125.drew | apply IsS125.set_1 | apply IsS125.set_2) | exact HI357.out)); (case side2 => repeat (first | (with_reducible first | exact HB.out | apply below_alloc | apply pw_below_drewN | apply below_drew1 | refine below_set ?_ (IsS125.ge HI357.out)) | exact HB.out)); rintro e w12 ⟨rfl, hi, hb, hk⟩; refine ⟨_, rfl, ?_⟩; have n0_ := Aside0.mk (Kd.R_mono (Kd.R_keep (IsS125.apart (show IsS125 w _ g357 t354 t369 t370 from by repeat (first | (with_reducible first | exact HI357.out | apply IsS125.alloc | apply IsS125.drewN | apply IsS125.drew | apply IsS125.set_1 | apply IsS125.set_2) | exact HI357.out)) (by (with_reducible repeat (first | apply Kd.R_alloc | apply Kd.R_drewN | apply Kd.R_drew)); exact HO363.out) (by decide)) hk (fun _ h => h.2)) (fun _ h => h.1)); have n1_ := Aside0.mk (Kd.R_mono (Kd.R_keep (IsS125.apart (show IsS125 w _ g357 t354 t369 t370 from by repeat (first | (with_reducible first | exact HI357.out | apply IsS125.alloc | apply IsS125.drewN | apply IsS125.drew | apply IsS125.set_1 | apply IsS125.set_2) | exact HI357.out)) (by (with_reducible repeat (first | apply Kd.R_alloc | apply Kd.R_drewN | apply Kd.R_drew)); exact HO368.out) (by decide)) hk (fun _ h => h.2)) (fun _ h => h.1)); have n2_ := Aside0.mk (hb); have n3_ := Aside0.mk (hi); clear HO363; clear HO368; clear HB; clear HI357; have HO363 := n0_; have HO368 := n1_; have HB := n2_; have HI357 := n3_; clear n0_ n1_ n2_ n3_; (try clear hb); (try clear hb2); (try clear hk); (try clear hi)))
    go_ret2
    exact ⟨_, _, by first | rfl | (simp [errW_none, errW_some] <;> rfl) | (simp [*, errW_none, errW_some] <;> rfl), by (with_reducible repeat (first | apply Kd.R_alloc | apply Kd.R_drewN | apply Kd.R_drew)); exact HO363.out, by (with_reducible repeat (first | apply Kd.R_alloc | apply Kd.R_drewN | apply Kd.R_drew)); exact HO368.out, by repeat (first | (with_reducible first | exact HB.out | apply below_alloc | apply pw_below_drewN | apply below_drew1 | refine below_set ?_ (IsS125.ge HI357.out)) | exact HB.out)⟩

/-! ### laws_sameInts: function 51 -/
def laws_sameInts.l0 : Nat → List Int → List Int → Int → Option (Bool)
  | 0, _, _, _ => none
  | k + 1, x0, x1, x5 => if x5 < (x0.length : Int) then (if 0 ≤ x5 then (if x5 < (x1.length : Int) then (if (rd x0 x5) = (rd x1 x5) then (laws_sameInts.l0 k x0 x1 (wrap64 (x5 + 1))) else (some false)) else (none)) else (none)) else (some true)
def laws_sameInts.f (k : Nat) (l0 : List Int) (l1 : List Int) : Option (Bool) := if (l0.length : Int) = (l1.length : Int) then (laws_sameInts.l0 k l0 l1 0) else (some false)
theorem laws_sameInts.mono_l : ∀ k, (∀ y0 y1 y2, LeO (laws_sameInts.l0 k y0 y1 y2) (laws_sameInts.l0 (k + 1) y0 y1 y2))
  | 0 => fun _ _ _ r h => by simp [laws_sameInts.l0] at h
  | k + 1 => by
    have ih0 := laws_sameInts.mono_l k
    · intro y0 y1 y2
      unfold laws_sameInts.l0
      repeat' first
      | (with_reducible exact ih0 _ _ _)
      | (with_reducible exact LeO.refl _)
      | (with_reducible exact LeO.none _)
      | (with_reducible refine LeO.ite ?_ ?_)
      | (with_reducible refine LeO.bind ?_ (fun _ => ?_))
      | exact ih0 _ _ _
      | exact LeO.none _
      | refine LeO.ite ?_ ?_
      | refine LeO.bind ?_ (fun _ => ?_)
theorem laws_sameInts.mono : ∀ a0 a1 k, LeO (laws_sameInts.f k a0 a1) (laws_sameInts.f (k + 1) a0 a1) := by
  intro a0 a1 k
  have ih0 := laws_sameInts.mono_l k
  unfold laws_sameInts.f
  repeat' first
      | (with_reducible exact ih0 _ _ _)
      | (with_reducible exact LeO.refl _)
      | (with_reducible exact LeO.none _)
      | (with_reducible refine LeO.ite ?_ ?_)
      | (with_reducible refine LeO.bind ?_ (fun _ => ?_))
      | exact ih0 _ _ _
      | exact LeO.none _
      | refine LeO.ite ?_ ?_
      | refine LeO.bind ?_ (fun _ => ?_)
set_option maxHeartbeats 8000000 in
set_option maxRecDepth 100000 in
theorem laws_sameInts.calls (k : Nat) (A0 : Option Addr) (c0 : Nat) (l0 : List Int) (A1 : Option Addr) (c1 : Nat) (l1 : List Int) (r : Bool) (w : World) (hr0 : Kd.C (Kd.int .i64) w A0 l0.length l0) (hc0 : l0.length ≤ c0) (hr1 : Kd.C (Kd.int .i64) w A1 l1.length l1) (hc1 : l1.length ≤ c1) (h : laws_sameInts.f k l0 l1 = some r) :
    Calls Try.prog 51 #[.slice A0 l0.length c0, .slice A1 l1.length c1] w fun e w' => e = .returned (.bool r) ∧ Drawn0 w w' := by
  have HR0 := Aside0.mk hr0
  have HC0 := Aside0.mk hc0
  clear hr0 hc0
  have HR1 := Aside0.mk hr1
  have HC1 := Aside0.mk hc1
  clear hr1 hc1
  have H : (if (l0.length : Int) = (l1.length : Int) then (laws_sameInts.l0 k l0 l1 0) else (some false)) = some r := h
  clear h
  by_cases c3 : (l0.length : Int) = (l1.length : Int)
  · rw [if_pos c3] at H
    have c3b0 : ((l0.length : Int) == (l1.length : Int)) = true := beq_iff_eq.mpr c3
    have c3b1 : ((l0.length : Int) != (l1.length : Int)) = false := bne_eq_false_iff_eq.mpr c3
    have c3b2 : (l0.length == l1.length) = true := by first | simpa using c3 | (simp at c3 ⊢; omega)
    clear c3
    have H' := Aside0.mk H
    clear H
    go_enter Try.func51, Try.ntmps51
    go_wp2
    repeat (go_quiet (fail); try go_wp2)
    go_loopg [5] k (fun kq v5 w' => ∃ (x5_1 : Int), v5 = .int .i64 x5_1 ∧ Aside0 (laws_sameInts.l0 kq l0 l1 x5_1 = some r) ∧ Aside0 (kq ≤ k) ∧ Drawn0 w w')
    case atStart => exact ⟨(0), (by first | rfl | (simp; done) | (simp [*]; done)), H', ⟨Nat.le_refl _⟩, by repeat (first | exact Drawn0.refl _ | apply Drawn0.step)⟩
    case round =>
      clear H'
      try clear c1
      try clear p2
      try clear c3
      try clear c3b0
      try clear c3b1
      try clear c3b2
      obtain ⟨x5_1, rfl, HA, HK1, ⟨m1, rfl⟩⟩ := hrel
      cases gk with
      | zero => exact absurd HA.out (by simp [laws_sameInts.l0])
      | succ k1 =>
        have H := HA.out
        clear HA
        simp only [laws_sameInts.l0] at H
        by_cases c4 : x5_1 < (l0.length : Int)
        · rw [if_pos c4] at H
          have c4b0 : decide (x5_1 < (l0.length : Int)) = true := decide_eq_true c4
          clear c4
          by_cases c5 : 0 ≤ x5_1
          · rw [if_pos c5] at H
            have c5b0 : decide (0 ≤ x5_1) = true := decide_eq_true c5
            clear c5
            by_cases c6 : x5_1 < (l1.length : Int)
            · rw [if_pos c6] at H
              have c6b0 : decide (x5_1 < (l1.length : Int)) = true := decide_eq_true c6
              clear c6
              by_cases c7 : (rd l0 x5_1) = (rd l1 x5_1)
              · rw [if_pos c7] at H
                have c7b0 : ((rd l0 x5_1) == (rd l1 x5_1)) = true := beq_iff_eq.mpr c7
                have c7b1 : ((rd l0 x5_1) != (rd l1 x5_1)) = false := bne_eq_false_iff_eq.mpr c7
                clear c7
                have H' := Aside0.mk H
                clear H
                have p383 : 0 ≤ (x5_1 : Int) := of_decide_eq_true (by first | (with_reducible assumption) | assumption)
                have q383 : x5_1 < (l0.length : Int) := of_decide_eq_true (by first | (with_reducible assumption) | assumption)
                obtain ⟨ad383, e383, hx383_0⟩ := Kd.at_int HR0.out x5_1 p383 q383
                cases e383
                replace p383 := eq_true p383
                replace q383 := eq_true q383
                have p384 : 0 ≤ (x5_1 : Int) := of_decide_eq_true (by first | (with_reducible assumption) | assumption)
                have q384 : x5_1 < (l1.length : Int) := of_decide_eq_true (by first | (with_reducible assumption) | assumption)
                obtain ⟨ad384, e384, hx384_0⟩ := Kd.at_int HR1.out x5_1 p384 q384
                cases e384
                replace p384 := eq_true p384
                replace q384 := eq_true q384
                go_wp2
                repeat (go_quiet (fail); try go_wp2)
                go_roundg k1
                case measure => have := HK1.out; omega
                case rel => exact ⟨(wrap64 (x5_1 + 1)), (by first | rfl | (simp; done) | (simp [*]; done)), H', ⟨by have := HK1.out; omega⟩, by repeat (first | exact Drawn0.refl _ | apply Drawn0.step)⟩
              · rw [if_neg c7] at H
                have c7b0 : ((rd l0 x5_1) == (rd l1 x5_1)) = false := beq_eq_false_iff_ne.mpr c7
                have c7b1 : ((rd l0 x5_1) != (rd l1 x5_1)) = true := bne_iff_ne.mpr c7
                obtain rfl := Option.some.inj H
                have p383 : 0 ≤ (x5_1 : Int) := of_decide_eq_true (by first | (with_reducible assumption) | assumption)
                have q383 : x5_1 < (l0.length : Int) := of_decide_eq_true (by first | (with_reducible assumption) | assumption)
                obtain ⟨ad383, e383, hx383_0⟩ := Kd.at_int HR0.out x5_1 p383 q383
                cases e383
                replace p383 := eq_true p383
                replace q383 := eq_true q383
                have p384 : 0 ≤ (x5_1 : Int) := of_decide_eq_true (by first | (with_reducible assumption) | assumption)
                have q384 : x5_1 < (l1.length : Int) := of_decide_eq_true (by first | (with_reducible assumption) | assumption)
                obtain ⟨ad384, e384, hx384_0⟩ := Kd.at_int HR1.out x5_1 p384 q384
                cases e384
                replace p384 := eq_true p384
                replace q384 := eq_true q384
                go_wp2
                repeat (go_quiet (fail); try go_wp2)
                go_ret
                exact ⟨by first | rfl | (simp; done) | (simp [*]; done), by repeat (first | exact Drawn0.refl _ | apply Drawn0.step)⟩
            · rw [if_neg c6] at H
              exact absurd H (by simp)
          · rw [if_neg c5] at H
            exact absurd H (by simp)
        · rw [if_neg c4] at H
          have c4b0 : decide (x5_1 < (l0.length : Int)) = false := decide_eq_false c4
          clear c4
          obtain rfl := Option.some.inj H
          go_wp2
          repeat (go_quiet (fail); try go_wp2)
          go_ret
          exact ⟨by first | rfl | (simp; done) | (simp [*]; done), by repeat (first | exact Drawn0.refl _ | apply Drawn0.step)⟩
  · rw [if_neg c3] at H
    have c3b0 : ((l0.length : Int) == (l1.length : Int)) = false := beq_eq_false_iff_ne.mpr c3
    have c3b1 : ((l0.length : Int) != (l1.length : Int)) = true := bne_iff_ne.mpr c3
    have c3b2 : (l0.length == l1.length) = false := by first | simpa using c3 | (simp at c3 ⊢; omega)
    obtain rfl := Option.some.inj H
    go_enter Try.func51, Try.ntmps51
    go_wp2
    repeat (go_quiet (fail); try go_wp2)
    go_ret
    exact ⟨by first | rfl | (simp; done) | (simp [*]; done), by repeat (first | exact Drawn0.refl _ | apply Drawn0.step)⟩

end Go.Proofs.Ytfpbbikhcnpceaa.QFnLists
