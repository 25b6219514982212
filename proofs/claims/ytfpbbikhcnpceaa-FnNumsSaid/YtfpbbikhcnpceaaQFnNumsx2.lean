-- Written by a program of this session (patch_print.py over the print).
import Derived.Test.YtfpbbikhcnpceaaQFnNumsx0
import Derived.Test.YtfpbbikhcnpceaaQFnNumsx1
namespace Go.Proofs.Ytfpbbikhcnpceaa.QFnNums
open Go.RowKit Go.Proofs.YtfpbbikhcnpceaaW.PrintWords Go.Proofs.YtfpbbikhcnpceaaW.PrintLast Go.Proofs.YtfpbbikhcnpceaaW.PrintMore
attribute [local go_sem] max2_int min2_int max_two min_two max_three min_three max_four min_four   -- for this text's walks alone
set_option linter.unusedVariables false
set_option linter.unusedSimpArgs false

theorem Z2_1 {p : Prop} (h : p := by exact (IsS125.below (by repeat (first | (with_reducible first | exact HI202.out | apply IsS125.alloc | apply IsS125.drewN | apply IsS125.drew | apply IsS125.set_1 | apply IsS125.set_2) | exact HI202.out)) hb)) : p := h
theorem Z2_3 {p : Prop} (h : p := by repeat (first | (with_reducible first | exact HB.out | apply below_alloc | apply pw_below_drewN | apply below_drew1 | refine below_set ?_ (IsS125.ge HI202.out)) | exact HB.out)) : p := h
theorem Z2_2 {p : Prop} (h : p := by exact (below_step Z2_3 hb)) : p := h
theorem Z2_6 {p : Prop} (h : p := by repeat (first | (with_reducible first | exact HB.out | apply below_alloc | apply pw_below_drewN | apply below_drew1) | exact HB.out)) : p := h
theorem Z2_4 {p : Prop} (h : p := by exact (below_step Z2_6 hb)) : p := h
theorem Z2_5 {p : Prop} (h : p := by (try simp only [List.map_toArray, List.map_cons, List.map_nil]); first | done | rfl | (simp only [List.length_drop, List.length_take]; rfl)) : p := h
theorem Z2_7 {p : Prop} (h : p := by first | rfl | (simp; done) | (simp only [← hji8, ← hji11, ← hji14] <;> (first | rfl | simp)) | (simp [*]; done)) : p := h
theorem Z2_8 {p : Prop} (h : p := by (with_reducible repeat (first | apply Kd.R_alloc | apply Kd.R_drewN | apply Kd.R_drew)); exact HO192.out) : p := h
theorem Z2_9 {p : Prop} (h : p := by (with_reducible repeat (first | apply Kd.R_alloc | apply Kd.R_drewN | apply Kd.R_drew)); exact HO195.out) : p := h
theorem Z2_10 {p : Prop} (h : p := by (with_reducible repeat (first | apply Kd.R_alloc | apply Kd.R_drewN | apply Kd.R_drew)); exact HO211.out) : p := h
theorem Z2_11 {p : Prop} (h : p := by (with_reducible repeat (first | apply Kd.R_alloc | apply Kd.R_drewN | apply Kd.R_drew)); exact HO220.out) : p := h
theorem Z2_12 {p : Prop} (h : p := by (with_reducible repeat (first | apply Kd.R_alloc | apply Kd.R_drewN | apply Kd.R_drew)); exact HO228.out) : p := h
theorem Z2_13 {p : Prop} (h : p := by first | rfl | (simp [errW_none, errW_some] <;> rfl) | (simp [*, errW_none, errW_some] <;> rfl)) : p := h
theorem Z2_14 {p : Prop} (h : p := by repeat (first | exact Drawn0.refl _ | apply Drawn0.step)) : p := h
theorem Z2_15 {p : Prop} (h : p := by first | (with_reducible assumption) | assumption) : p := h
theorem Z2_16 {p : Prop} (h : p := by first | rfl | (simp; done) | (simp [*]; done)) : p := h
/-! ### impl_GetNum: function 32 -/
def impl_GetNum.j0 : Nat → List Int → Int → Bool → Option (Int × Int × Bool)
  | 0, _, _, _ => none
  | k + 1, x0, x1, x16 => if x16 = true then (some (0, 0, false)) else (if 0 ≤ x1 then (if x1 < (x0.length : Int) then (if 0 ≤ (wrap64 (x1 + 1)) then (if (wrap64 (x1 + 1)) < (x0.length : Int) then (if 0 ≤ (wrap64 (x1 + 2)) then (if (wrap64 (x1 + 2)) < (x0.length : Int) then (if 0 ≤ (wrap64 (x1 + 3)) then (if (wrap64 (x1 + 3)) < (x0.length : Int) then (if (Go.bits .or .i64 (Go.bits .or .i64 (Go.bits .or .i64 (wrap64 ((wrap64 (rd x0 x1)) * 16777216)) (wrap64 ((wrap64 (rd x0 (wrap64 (x1 + 1)))) * 65536))) (wrap64 ((wrap64 (rd x0 (wrap64 (x1 + 2)))) * 256))) (wrap64 (rd x0 (wrap64 (x1 + 3))))) = 0 then (some (0, 0, false)) else (some (wrap64 ((Go.bits .or .i64 (Go.bits .or .i64 (Go.bits .or .i64 (wrap64 ((wrap64 (rd x0 x1)) * 16777216)) (wrap64 ((wrap64 (rd x0 (wrap64 (x1 + 1)))) * 65536))) (wrap64 ((wrap64 (rd x0 (wrap64 (x1 + 2)))) * 256))) (wrap64 (rd x0 (wrap64 (x1 + 3))))) - 2147483648), wrap64 (x1 + 4), true))) else (none)) else (none)) else (none)) else (none)) else (none)) else (none)) else (none)) else (none))
def impl_GetNum.f (k : Nat) (l0 : List Int) (a1 : Int) : Option (Int × Int × Bool) := if a1 < 0 then (impl_GetNum.j0 k l0 a1 true) else (impl_GetNum.j0 k l0 a1 (decide (a1 > (wrap64 ((l0.length : Int) - 4)))))
theorem impl_GetNum.mono_l : ∀ k, (∀ y0 y1 y2, LeO (impl_GetNum.j0 k y0 y1 y2) (impl_GetNum.j0 (k + 1) y0 y1 y2))
  | 0 => fun _ _ _ r h => by simp [impl_GetNum.j0] at h
  | k + 1 => by
    have ih0 := impl_GetNum.mono_l k
    · intro y0 y1 y2
      unfold impl_GetNum.j0
      repeat' first
      | (with_reducible exact ih0 _ _ _)
      | (with_reducible exact LeO.refl _)
      | (with_reducible exact LeO.none _)
      | (with_reducible refine LeO.ite ?_ ?_)
      | (with_reducible refine LeO.bind ?_ (fun _ => ?_))
      | exact ih0 _ _ _
      | exact LeO.none _
      | refine LeO.ite ?_ ?_
      | refine LeO.bind ?_ (fun _ => ?_)
theorem impl_GetNum.mono : ∀ a0 a1 k, LeO (impl_GetNum.f k a0 a1) (impl_GetNum.f (k + 1) a0 a1) := by
  intro a0 a1 k
  have ih0 := impl_GetNum.mono_l k
  unfold impl_GetNum.f
  repeat' first
      | (with_reducible exact ih0 _ _ _)
      | (with_reducible exact LeO.refl _)
      | (with_reducible exact LeO.none _)
      | (with_reducible refine LeO.ite ?_ ?_)
      | (with_reducible refine LeO.bind ?_ (fun _ => ?_))
      | exact ih0 _ _ _
      | exact LeO.none _
      | refine LeO.ite ?_ ?_
      | refine LeO.bind ?_ (fun _ => ?_)
set_option maxHeartbeats 8000000 in
set_option maxRecDepth 100000 in
theorem impl_GetNum.calls (k : Nat) (A0 : Option Addr) (c0 : Nat) (l0 : List Int) (a1 : Int) (r1 : Int) (r2 : Int) (r3 : Bool) (w : World) (hr0 : Kd.C (Kd.int .u8) w A0 l0.length l0) (hc0 : l0.length ≤ c0) (h : impl_GetNum.f k l0 a1 = some (r1, r2, r3)) :
    Calls Try.prog 32 #[.slice A0 l0.length c0, .int .i64 a1] w fun e w' => e = .returned (.tuple #[.int .i64 r1, .int .i64 r2, .bool r3]) ∧ Drawn0 w w' := by
  have HR0 := Aside0.mk hr0
  have HC0 := Aside0.mk hc0
  clear hr0 hc0
  have H : (if a1 < 0 then (impl_GetNum.j0 k l0 a1 true) else (impl_GetNum.j0 k l0 a1 (decide (a1 > (wrap64 ((l0.length : Int) - 4)))))) = some (r1, r2, r3) := h
  clear h
  have HC3 := Aside0.mk H
  clear H
  go_enter Try.func32, Try.ntmps32
  go_upto_region 1 with (fail)
  repeat (go_quiet (fail); go_upto_region 1 with (fail))
  go_cut [16] (fun v16 wc => ∃ (kq : Nat) (x16_2 : Bool), v16 = .bool x16_2 ∧ Aside0 (impl_GetNum.j0 kq l0 a1 x16_2 = some (r1, r2, r3)) ∧ Aside0 (kq ≤ k) ∧ Drawn0 w wc)
  case first =>
    have H := HC3.out
    clear HC3
    by_cases c4 : a1 < 0
    · rw [if_pos c4] at H
      have c4b0 : decide (a1 < 0) = true := decide_eq_true c4
      clear c4
      (first | rw [c4b0] | (simp only [i64_w, i32_w]; rw [c4b0]) | skip)
      have H' := Aside0.mk H
      clear H
      go_wp2
      repeat (go_quiet (fail); try go_wp2)
      go_meet
      case rel => exact ⟨_, (true), Z2_16, H', ⟨(by first | omega | exact Nat.le_refl _)⟩, Z2_14⟩
    rw [if_neg c4] at H
    have c4b0 : decide (a1 < 0) = false := decide_eq_false c4
    clear c4
    (first | rw [c4b0] | (simp only [i64_w, i32_w]; rw [c4b0]) | skip)
    have H' := Aside0.mk H
    clear H
    go_wp2
    repeat (go_quiet (fail); try go_wp2)
    go_meet
    case rel => exact ⟨_, (decide (a1 > (wrap64 ((l0.length : Int) - 4)))), Z2_16, H', ⟨(by first | omega | exact Nat.le_refl _)⟩, Z2_14⟩
  case rest =>
    clear HC3
    try clear p2
    try clear c3
    try clear c4
    try clear c4b0
    obtain ⟨kq, x16_2, rfl, HA, HJ2, ⟨mc2, rfl⟩⟩ := hcut
    cases kq with
    | zero => exact absurd HA.out (by simp [impl_GetNum.j0])
    | succ kj2 =>
      have H := HA.out
      clear HA
      simp only [impl_GetNum.j0] at H
      by_cases c5 : x16_2 = true
      · subst c5
        have H1 : (some (0, 0, false)) = some (r1, r2, r3) := by rw [if_pos rfl] at H; exact H
        clear H
        have H := H1
        clear H1
        simp only [Option.some.injEq, Prod.mk.injEq] at H
        obtain ⟨rfl, rfl, rfl⟩ := H
        go_wp2
        repeat (go_quiet (fail); try go_wp2)
        go_ret3
        exact ⟨Z2_16, Z2_14⟩
      replace c5 := Bool.eq_false_iff.mpr c5
      subst c5
      have H1 : (if 0 ≤ a1 then (if a1 < (l0.length : Int) then (if 0 ≤ (wrap64 (a1 + 1)) then (if (wrap64 (a1 + 1)) < (l0.length : Int) then (if 0 ≤ (wrap64 (a1 + 2)) then (if (wrap64 (a1 + 2)) < (l0.length : Int) then (if 0 ≤ (wrap64 (a1 + 3)) then (if (wrap64 (a1 + 3)) < (l0.length : Int) then (if (Go.bits .or .i64 (Go.bits .or .i64 (Go.bits .or .i64 (wrap64 ((wrap64 (rd l0 a1)) * 16777216)) (wrap64 ((wrap64 (rd l0 (wrap64 (a1 + 1)))) * 65536))) (wrap64 ((wrap64 (rd l0 (wrap64 (a1 + 2)))) * 256))) (wrap64 (rd l0 (wrap64 (a1 + 3))))) = 0 then (some (0, 0, false)) else (some (wrap64 ((Go.bits .or .i64 (Go.bits .or .i64 (Go.bits .or .i64 (wrap64 ((wrap64 (rd l0 a1)) * 16777216)) (wrap64 ((wrap64 (rd l0 (wrap64 (a1 + 1)))) * 65536))) (wrap64 ((wrap64 (rd l0 (wrap64 (a1 + 2)))) * 256))) (wrap64 (rd l0 (wrap64 (a1 + 3))))) - 2147483648), wrap64 (a1 + 4), true))) else (none)) else (none)) else (none)) else (none)) else (none)) else (none)) else (none)) else (none)) = some (r1, r2, r3) := by rw [if_neg (show ¬ (false = true) by decide)] at H; exact H
      clear H
      have H := H1
      clear H1
      by_cases c6 : 0 ≤ a1
      rotate_left
      · rw [if_neg c6] at H
        exact absurd H (by simp)
      rw [if_pos c6] at H
      have c6b0 : decide (0 ≤ a1) = true := decide_eq_true c6
      clear c6
      by_cases c7 : a1 < (l0.length : Int)
      rotate_left
      · rw [if_neg c7] at H
        exact absurd H (by simp)
      rw [if_pos c7] at H
      have c7b0 : decide (a1 < (l0.length : Int)) = true := decide_eq_true c7
      clear c7
      obtain ⟨ji8, hji8⟩ : ∃ j_ : Int, (wrap64 (a1 + 1)) = j_ := ⟨_, rfl⟩
      replace H : (if 0 ≤ (ji8) then (if (ji8) < (l0.length : Int) then (if 0 ≤ (wrap64 (a1 + 2)) then (if (wrap64 (a1 + 2)) < (l0.length : Int) then (if 0 ≤ (wrap64 (a1 + 3)) then (if (wrap64 (a1 + 3)) < (l0.length : Int) then (if (Go.bits .or .i64 (Go.bits .or .i64 (Go.bits .or .i64 (wrap64 ((wrap64 (rd l0 a1)) * 16777216)) (wrap64 ((wrap64 (rd l0 (ji8))) * 65536))) (wrap64 ((wrap64 (rd l0 (wrap64 (a1 + 2)))) * 256))) (wrap64 (rd l0 (wrap64 (a1 + 3))))) = 0 then (some (0, 0, false)) else (some (wrap64 ((Go.bits .or .i64 (Go.bits .or .i64 (Go.bits .or .i64 (wrap64 ((wrap64 (rd l0 a1)) * 16777216)) (wrap64 ((wrap64 (rd l0 (ji8))) * 65536))) (wrap64 ((wrap64 (rd l0 (wrap64 (a1 + 2)))) * 256))) (wrap64 (rd l0 (wrap64 (a1 + 3))))) - 2147483648), wrap64 (a1 + 4), true))) else (none)) else (none)) else (none)) else (none)) else (none)) else (none)) = some (r1, r2, r3) := by first | (rw [hji8] at H; exact H) | (simp only [hji8] at H ⊢; exact H)
      have hji8w : (IntKind.i64.wrap (a1 + 1)) = ji8 := (i64_w _).trans hji8
      by_cases c9 : 0 ≤ (ji8)
      rotate_left
      · rw [if_neg c9] at H
        exact absurd H (by simp)
      rw [if_pos c9] at H
      have c9b0 : decide (0 ≤ (ji8)) = true := decide_eq_true c9
      clear c9
      by_cases c10 : (ji8) < (l0.length : Int)
      rotate_left
      · rw [if_neg c10] at H
        exact absurd H (by simp)
      rw [if_pos c10] at H
      have c10b0 : decide ((ji8) < (l0.length : Int)) = true := decide_eq_true c10
      clear c10
      obtain ⟨ji11, hji11⟩ : ∃ j_ : Int, (wrap64 (a1 + 2)) = j_ := ⟨_, rfl⟩
      replace H : (if 0 ≤ (ji11) then (if (ji11) < (l0.length : Int) then (if 0 ≤ (wrap64 (a1 + 3)) then (if (wrap64 (a1 + 3)) < (l0.length : Int) then (if (Go.bits .or .i64 (Go.bits .or .i64 (Go.bits .or .i64 (wrap64 ((wrap64 (rd l0 a1)) * 16777216)) (wrap64 ((wrap64 (rd l0 (ji8))) * 65536))) (wrap64 ((wrap64 (rd l0 (ji11))) * 256))) (wrap64 (rd l0 (wrap64 (a1 + 3))))) = 0 then (some (0, 0, false)) else (some (wrap64 ((Go.bits .or .i64 (Go.bits .or .i64 (Go.bits .or .i64 (wrap64 ((wrap64 (rd l0 a1)) * 16777216)) (wrap64 ((wrap64 (rd l0 (ji8))) * 65536))) (wrap64 ((wrap64 (rd l0 (ji11))) * 256))) (wrap64 (rd l0 (wrap64 (a1 + 3))))) - 2147483648), wrap64 (a1 + 4), true))) else (none)) else (none)) else (none)) else (none)) = some (r1, r2, r3) := by first | (rw [hji11] at H; exact H) | (simp only [hji11] at H ⊢; exact H)
      have hji11w : (IntKind.i64.wrap (a1 + 2)) = ji11 := (i64_w _).trans hji11
      by_cases c12 : 0 ≤ (ji11)
      rotate_left
      · rw [if_neg c12] at H
        exact absurd H (by simp)
      rw [if_pos c12] at H
      have c12b0 : decide (0 ≤ (ji11)) = true := decide_eq_true c12
      clear c12
      by_cases c13 : (ji11) < (l0.length : Int)
      rotate_left
      · rw [if_neg c13] at H
        exact absurd H (by simp)
      rw [if_pos c13] at H
      have c13b0 : decide ((ji11) < (l0.length : Int)) = true := decide_eq_true c13
      clear c13
      obtain ⟨ji14, hji14⟩ : ∃ j_ : Int, (wrap64 (a1 + 3)) = j_ := ⟨_, rfl⟩
      replace H : (if 0 ≤ (ji14) then (if (ji14) < (l0.length : Int) then (if (Go.bits .or .i64 (Go.bits .or .i64 (Go.bits .or .i64 (wrap64 ((wrap64 (rd l0 a1)) * 16777216)) (wrap64 ((wrap64 (rd l0 (ji8))) * 65536))) (wrap64 ((wrap64 (rd l0 (ji11))) * 256))) (wrap64 (rd l0 (ji14)))) = 0 then (some (0, 0, false)) else (some (wrap64 ((Go.bits .or .i64 (Go.bits .or .i64 (Go.bits .or .i64 (wrap64 ((wrap64 (rd l0 a1)) * 16777216)) (wrap64 ((wrap64 (rd l0 (ji8))) * 65536))) (wrap64 ((wrap64 (rd l0 (ji11))) * 256))) (wrap64 (rd l0 (ji14)))) - 2147483648), wrap64 (a1 + 4), true))) else (none)) else (none)) = some (r1, r2, r3) := by first | (rw [hji14] at H; exact H) | (simp only [hji14] at H ⊢; exact H)
      have hji14w : (IntKind.i64.wrap (a1 + 3)) = ji14 := (i64_w _).trans hji14
      by_cases c15 : 0 ≤ (ji14)
      rotate_left
      · rw [if_neg c15] at H
        exact absurd H (by simp)
      rw [if_pos c15] at H
      have c15b0 : decide (0 ≤ (ji14)) = true := decide_eq_true c15
      clear c15
      by_cases c16 : (ji14) < (l0.length : Int)
      rotate_left
      · rw [if_neg c16] at H
        exact absurd H (by simp)
      rw [if_pos c16] at H
      have c16b0 : decide ((ji14) < (l0.length : Int)) = true := decide_eq_true c16
      clear c16
      by_cases c17 : (Go.bits .or .i64 (Go.bits .or .i64 (Go.bits .or .i64 (wrap64 ((wrap64 (rd l0 a1)) * 16777216)) (wrap64 ((wrap64 (rd l0 (ji8))) * 65536))) (wrap64 ((wrap64 (rd l0 (ji11))) * 256))) (wrap64 (rd l0 (ji14)))) = 0
      rotate_left
      · rw [if_neg c17] at H
        have c17b0 : ((Go.bits .or .i64 (Go.bits .or .i64 (Go.bits .or .i64 (wrap64 ((wrap64 (rd l0 a1)) * 16777216)) (wrap64 ((wrap64 (rd l0 (ji8))) * 65536))) (wrap64 ((wrap64 (rd l0 (ji11))) * 256))) (wrap64 (rd l0 (ji14)))) == 0) = false := beq_eq_false_iff_ne.mpr c17
        have c17b1 : ((Go.bits .or .i64 (Go.bits .or .i64 (Go.bits .or .i64 (wrap64 ((wrap64 (rd l0 a1)) * 16777216)) (wrap64 ((wrap64 (rd l0 (ji8))) * 65536))) (wrap64 ((wrap64 (rd l0 (ji11))) * 256))) (wrap64 (rd l0 (ji14)))) != 0) = true := bne_iff_ne.mpr c17
        simp only [Option.some.injEq, Prod.mk.injEq] at H
        obtain ⟨rfl, rfl, rfl⟩ := H
        have p182 : 0 ≤ (a1 : Int) := of_decide_eq_true Z2_15
        have q182 : a1 < (l0.length : Int) := of_decide_eq_true Z2_15
        obtain ⟨ad182, e182, hx182_0⟩ := Kd.at_int HR0.out a1 p182 q182
        cases e182
        replace p182 := eq_true p182
        replace q182 := eq_true q182
        have p183 : 0 ≤ ((ji8) : Int) := of_decide_eq_true Z2_15
        have q183 : (ji8) < (l0.length : Int) := of_decide_eq_true Z2_15
        obtain ⟨ad183, e183, hx183_0⟩ := Kd.at_int HR0.out (ji8) p183 q183
        obtain rfl : ad182 = ad183 := (by injection e183)
        replace p183 := eq_true p183
        replace q183 := eq_true q183
        have p184 : 0 ≤ ((ji11) : Int) := of_decide_eq_true Z2_15
        have q184 : (ji11) < (l0.length : Int) := of_decide_eq_true Z2_15
        obtain ⟨ad184, e184, hx184_0⟩ := Kd.at_int HR0.out (ji11) p184 q184
        obtain rfl : ad182 = ad184 := (by injection e184)
        replace p184 := eq_true p184
        replace q184 := eq_true q184
        have p185 : 0 ≤ ((ji14) : Int) := of_decide_eq_true Z2_15
        have q185 : (ji14) < (l0.length : Int) := of_decide_eq_true Z2_15
        obtain ⟨ad185, e185, hx185_0⟩ := Kd.at_int HR0.out (ji14) p185 q185
        obtain rfl : ad182 = ad185 := (by injection e185)
        replace p185 := eq_true p185
        replace q185 := eq_true q185
        go_wp2
        repeat (go_quiet (fail); try go_wp2)
        go_ret3
        exact ⟨Z2_7, Z2_14⟩
      rw [if_pos c17] at H
      have c17b0 : ((Go.bits .or .i64 (Go.bits .or .i64 (Go.bits .or .i64 (wrap64 ((wrap64 (rd l0 a1)) * 16777216)) (wrap64 ((wrap64 (rd l0 (ji8))) * 65536))) (wrap64 ((wrap64 (rd l0 (ji11))) * 256))) (wrap64 (rd l0 (ji14)))) == 0) = true := beq_iff_eq.mpr c17
      have c17b1 : ((Go.bits .or .i64 (Go.bits .or .i64 (Go.bits .or .i64 (wrap64 ((wrap64 (rd l0 a1)) * 16777216)) (wrap64 ((wrap64 (rd l0 (ji8))) * 65536))) (wrap64 ((wrap64 (rd l0 (ji11))) * 256))) (wrap64 (rd l0 (ji14)))) != 0) = false := bne_eq_false_iff_eq.mpr c17
      clear c17
      simp only [Option.some.injEq, Prod.mk.injEq] at H
      obtain ⟨rfl, rfl, rfl⟩ := H
      have p182 : 0 ≤ (a1 : Int) := of_decide_eq_true Z2_15
      have q182 : a1 < (l0.length : Int) := of_decide_eq_true Z2_15
      obtain ⟨ad182, e182, hx182_0⟩ := Kd.at_int HR0.out a1 p182 q182
      cases e182
      replace p182 := eq_true p182
      replace q182 := eq_true q182
      have p183 : 0 ≤ ((ji8) : Int) := of_decide_eq_true Z2_15
      have q183 : (ji8) < (l0.length : Int) := of_decide_eq_true Z2_15
      obtain ⟨ad183, e183, hx183_0⟩ := Kd.at_int HR0.out (ji8) p183 q183
      obtain rfl : ad182 = ad183 := (by injection e183)
      replace p183 := eq_true p183
      replace q183 := eq_true q183
      have p184 : 0 ≤ ((ji11) : Int) := of_decide_eq_true Z2_15
      have q184 : (ji11) < (l0.length : Int) := of_decide_eq_true Z2_15
      obtain ⟨ad184, e184, hx184_0⟩ := Kd.at_int HR0.out (ji11) p184 q184
      obtain rfl : ad182 = ad184 := (by injection e184)
      replace p184 := eq_true p184
      replace q184 := eq_true q184
      have p185 : 0 ≤ ((ji14) : Int) := of_decide_eq_true Z2_15
      have q185 : (ji14) < (l0.length : Int) := of_decide_eq_true Z2_15
      obtain ⟨ad185, e185, hx185_0⟩ := Kd.at_int HR0.out (ji14) p185 q185
      obtain rfl : ad182 = ad185 := (by injection e185)
      replace p185 := eq_true p185
      replace q185 := eq_true q185
      go_wp2
      repeat (go_quiet (fail); try go_wp2)
      go_ret3
      exact ⟨Z2_7, Z2_14⟩

/-! ### spec_Bound: function 29 -/
def spec_Bound.f (a0 : Int) : Option (Int) := if a0 > 2147483647 then (some 2147483647) else (if a0 < (-2147483647) then (some (-2147483647)) else (some a0))
set_option maxHeartbeats 8000000 in
set_option maxRecDepth 100000 in
theorem spec_Bound.calls (a0 : Int) (r : Int) (w : World) (h : spec_Bound.f a0 = some r) :
    Calls Try.prog 29 #[.int .i64 a0] w fun e w' => e = .returned (.int .i64 r) ∧ Drawn0 w w' := by
  have H : (if a0 > 2147483647 then (some 2147483647) else (if a0 < (-2147483647) then (some (-2147483647)) else (some a0))) = some r := h
  clear h
  by_cases c2 : a0 > 2147483647
  · rw [if_pos c2] at H
    have c2b0 : decide (2147483647 < a0) = true := decide_eq_true c2
    clear c2
    obtain rfl := Option.some.inj H
    go_enter Try.func29, Try.ntmps29
    go_wp2
    go_ret
    exact ⟨Z2_16, Z2_14⟩
  rw [if_neg c2] at H
  have c2b0 : decide (2147483647 < a0) = false := decide_eq_false c2
  clear c2
  by_cases c3 : a0 < (-2147483647)
  · rw [if_pos c3] at H
    have c3b0 : decide (a0 < (-2147483647)) = true := decide_eq_true c3
    clear c3
    obtain rfl := Option.some.inj H
    go_enter Try.func29, Try.ntmps29
    go_wp2
    go_ret
    exact ⟨Z2_16, Z2_14⟩
  rw [if_neg c3] at H
  have c3b0 : decide (a0 < (-2147483647)) = false := decide_eq_false c3
  clear c3
  obtain rfl := Option.some.inj H
  go_enter Try.func29, Try.ntmps29
  go_wp2
  go_ret
  exact ⟨Z2_16, Z2_14⟩

/-! ### spec_PutNum: function 101 -/
def spec_PutNum.f (l0 : List Int) (a1 : Int) : Option (List Int) := (spec_Bound.f a1).bind fun t186 => ((some (([] : List Int) : List Int)).bind fun y187 => (if y187.length + l0.length < 140737488355328 then ((some (y187 ++ l0 : List Int)).bind fun y190 => ((some (([(Go.bits .and .i64 ((wrap64 (t186 + 2147483648)) / 16777216) 255) % 256, (Go.bits .and .i64 ((wrap64 (t186 + 2147483648)) / 65536) 255) % 256, (Go.bits .and .i64 ((wrap64 (t186 + 2147483648)) / 256) 255) % 256, (Go.bits .and .i64 (wrap64 (t186 + 2147483648)) 255) % 256] : List Int) : List Int)).bind fun y193 => (if y190.length + y193.length < 140737488355328 then (some (y190 ++ y193)) else (none)))) else (none)))
set_option maxHeartbeats 8000000 in
set_option maxRecDepth 100000 in
theorem spec_PutNum.calls (A0 : Option Addr) (c0 : Nat) (l0 : List Int) (a1 : Int) (r : List Int) (w : World) (hr0 : Kd.C (Kd.int .u8) w A0 l0.length l0) (hc0 : l0.length ≤ c0) (h : spec_PutNum.f l0 a1 = some r) :
    Calls Try.prog 101 #[.slice A0 l0.length c0, .int .i64 a1] w fun e w' => ∃ v0_ : Value, e = .returned (v0_) ∧ Kd.R (Kd.int .u8) 5 w' w.heap.size (fun _ => True) v0_ r ∧ Below w.heap.size w w' := by
  have HR0 := Aside0.mk hr0
  have HC0 := Aside0.mk hc0
  clear hr0 hc0
  have HB := Aside0.mk (Below.refl w.heap.size w)
  have H : ((spec_Bound.f a1).bind fun t186 => ((some (([] : List Int) : List Int)).bind fun y187 => (if y187.length + l0.length < 140737488355328 then ((some (y187 ++ l0 : List Int)).bind fun y190 => ((some (([(Go.bits .and .i64 ((wrap64 (t186 + 2147483648)) / 16777216) 255) % 256, (Go.bits .and .i64 ((wrap64 (t186 + 2147483648)) / 65536) 255) % 256, (Go.bits .and .i64 ((wrap64 (t186 + 2147483648)) / 256) 255) % 256, (Go.bits .and .i64 (wrap64 (t186 + 2147483648)) 255) % 256] : List Int) : List Int)).bind fun y193 => (if y190.length + y193.length < 140737488355328 then (some (y190 ++ y193)) else (none)))) else (none)))) = some r := h
  clear h
  replace H := Option.bind_eq_some_iff.mp H
  obtain ⟨t186, A30, H⟩ := H
  replace H : ((some (([] : List Int) : List Int)).bind fun y187 => (if y187.length + l0.length < 140737488355328 then ((some (y187 ++ l0 : List Int)).bind fun y190 => ((some (([(Go.bits .and .i64 ((wrap64 (t186 + 2147483648)) / 16777216) 255) % 256, (Go.bits .and .i64 ((wrap64 (t186 + 2147483648)) / 65536) 255) % 256, (Go.bits .and .i64 ((wrap64 (t186 + 2147483648)) / 256) 255) % 256, (Go.bits .and .i64 (wrap64 (t186 + 2147483648)) 255) % 256] : List Int) : List Int)).bind fun y193 => (if y190.length + y193.length < 140737488355328 then (some (y190 ++ y193)) else (none)))) else (none))) = some r := H
  have A3 := Aside0.mk A30
  clear A30
  obtain ⟨y187, hy187⟩ : ∃ y_ : List Int, y_ = (([] : List Int)) := ⟨_, rfl⟩
  replace H : (if y187.length + l0.length < 140737488355328 then ((some (y187 ++ l0 : List Int)).bind fun y190 => ((some (([(Go.bits .and .i64 ((wrap64 (t186 + 2147483648)) / 16777216) 255) % 256, (Go.bits .and .i64 ((wrap64 (t186 + 2147483648)) / 65536) 255) % 256, (Go.bits .and .i64 ((wrap64 (t186 + 2147483648)) / 256) 255) % 256, (Go.bits .and .i64 (wrap64 (t186 + 2147483648)) 255) % 256] : List Int) : List Int)).bind fun y193 => (if y190.length + y193.length < 140737488355328 then (some (y190 ++ y193)) else (none)))) else (none)) = some r := by first | (rw [hy187]; with_reducible exact H) | (have H2_ := (Option.bind_some _ _).symm.trans H; rw [hy187]; with_reducible exact H2_) | (have H2_ := (Option.bind_some _ _).symm.trans H; with_reducible exact H2_) | with_reducible exact H | (rw [hy187]; exact H) | exact H
  have Ny187 := Aside0.mk hy187
  clear hy187
  by_cases c4 : y187.length + l0.length < 140737488355328
  rotate_left
  · rw [if_neg c4] at H
    exact absurd H (by simp)
  rw [if_pos c4] at H
  have LMc4 := Aside0.mk c4
  clear c4
  obtain ⟨y190, hy190⟩ : ∃ y_ : List Int, y_ = (y187 ++ l0) := ⟨_, rfl⟩
  replace H : ((some (([(Go.bits .and .i64 ((wrap64 (t186 + 2147483648)) / 16777216) 255) % 256, (Go.bits .and .i64 ((wrap64 (t186 + 2147483648)) / 65536) 255) % 256, (Go.bits .and .i64 ((wrap64 (t186 + 2147483648)) / 256) 255) % 256, (Go.bits .and .i64 (wrap64 (t186 + 2147483648)) 255) % 256] : List Int) : List Int)).bind fun y193 => (if y190.length + y193.length < 140737488355328 then (some (y190 ++ y193)) else (none))) = some r := by first | (rw [hy190]; with_reducible exact H) | (have H2_ := (Option.bind_some _ _).symm.trans H; rw [hy190]; with_reducible exact H2_) | (have H2_ := (Option.bind_some _ _).symm.trans H; with_reducible exact H2_) | with_reducible exact H | (rw [hy190]; exact H) | exact H
  have Ny190 := Aside0.mk hy190
  clear hy190
  obtain ⟨y193, hy193⟩ : ∃ y_ : List Int, y_ = (([(Go.bits .and .i64 ((wrap64 (t186 + 2147483648)) / 16777216) 255) % 256, (Go.bits .and .i64 ((wrap64 (t186 + 2147483648)) / 65536) 255) % 256, (Go.bits .and .i64 ((wrap64 (t186 + 2147483648)) / 256) 255) % 256, (Go.bits .and .i64 (wrap64 (t186 + 2147483648)) 255) % 256] : List Int)) := ⟨_, rfl⟩
  replace H : (if y190.length + y193.length < 140737488355328 then (some (y190 ++ y193)) else (none)) = some r := by first | (rw [hy193]; with_reducible exact H) | (have H2_ := (Option.bind_some _ _).symm.trans H; rw [hy193]; with_reducible exact H2_) | (have H2_ := (Option.bind_some _ _).symm.trans H; with_reducible exact H2_) | with_reducible exact H | (rw [hy193]; exact H) | exact H
  have Ny193 := Aside0.mk hy193
  clear hy193
  by_cases c5 : y190.length + y193.length < 140737488355328
  rotate_left
  · rw [if_neg c5] at H
    exact absurd H (by simp)
  rw [if_pos c5] at H
  have LMc5 := Aside0.mk c5
  clear c5
  obtain ⟨y196, hy196⟩ : ∃ y_ : List Int, y_ = (y190 ++ y193) := ⟨_, rfl⟩
  replace H : (some y196) = some r := by first | (rw [hy196]; with_reducible exact H) | (have H2_ := (Option.bind_some _ _).symm.trans H; rw [hy196]; with_reducible exact H2_) | (have H2_ := (Option.bind_some _ _).symm.trans H; with_reducible exact H2_) | with_reducible exact H | (rw [hy196]; exact H) | exact H
  have Ny196 := Aside0.mk hy196
  clear hy196
  obtain rfl := Option.some.inj H
  go_enter Try.func101, Try.ntmps101
  go_wp2_with (first | ((with_reducible refine gate_callee (f := 29) rfl ?_); refine goesL_ (some 7) rfl rfl Try.func29 (by kernel_rfl) rfl #[.int .i64 a1] rfl Z2_5 ?_; (with_reducible refine (spec_Bound.calls a1 t186 _ A3.out).mono ?_); rintro e w' ⟨rfl, ⟨nd, rfl⟩⟩; refine ⟨_, rfl, ?_⟩) | ((with_reducible refine gate_dst (N := 9) rfl ?_); refine Kd.R_lit (Kd.int .u8) _ 5 ?hg (N := 9) ?hd (xs := ([] : List Int)) (inner := []) (ok := fun _ => True) (okp := fun _ => True) ?hr ?hp (fun _ hk => hk) trivial (Below.refl _ _) (Nat.le_refl _) (by simp) ?_; (case hd => rfl); (case hg => rfl); (case hr => first | (go_simp; done) | (go_simp; rfl)); (case hp => exact (Reps.none _ _)); intro v188 w6 ho7 hb hg_ hnew_; clear hg_ hnew_; (first | rw [← Ny187.out] at ho7 | (simp only [Int.reduceToNat] at ho7; rw [← Ny187.out] at ho7)); have n0_ := Aside0.mk (Kd.R_lower ho7 (below_size Z2_6)); have n1_ := Aside0.mk Z2_4; clear HB; have HO189 := n0_; have HB := n1_; clear n0_ n1_; clear hb ho7) | ((with_reducible refine gate_builtin (b := .append) (xs := #[.tmp 9, .tmp 10]) rfl ?_); at_builtin; refine Kd.R_append_rows (Kd.int .u8) (w0 := w) w.heap.size rfl (.tmp 9) (.tmp 10) 22 5 (.int .u8 0) 1 rfl Try.underlying22 info5 rfl (by decide) (by omega) v188 y187 l0 _ _ _ (fun _ => True) (fun _ => False) rfl rfl ?aO ?aR (fun _ _ h => h) (fun _ h => h.elim) ?aF ?aB ?aS ?aL ?_; (case aR => repeat (first | exact (Kd.C_below HR0.out HB.out) | (with_reducible refine Kd.C_alloc ?_ _) | (with_reducible refine Kd.C_drewN ?_ _) | (with_reducible refine Kd.C_drew ?_))); (case aB => exact Z2_6); (case aF => exact (fun _ _ => trivial)); (case aO => exact (by (with_reducible repeat (first | apply Kd.R_alloc | apply Kd.R_drewN | apply Kd.R_drew)); exact HO189.out)); (case aS => exact (below_size Z2_6)); (case aL => have := LMc4.out; omega); intro v191 w8 ho hb hg hat; rw [← Ny190.out] at ho; have n0_ := Aside0.mk (hb); have n1_ := Aside0.mk (ho); clear HB; clear HO189; have HB := n0_; have HO192 := n1_; clear n0_ n1_; clear ho hb hg hat) | ((with_reducible refine gate_dst (N := 27) rfl ?_); refine Kd.R_lit (Kd.int .u8) _ 5 ?hg (N := 27) ?hd (xs := ([(Go.bits .and .i64 ((wrap64 (t186 + 2147483648)) / 16777216) 255) % 256, (Go.bits .and .i64 ((wrap64 (t186 + 2147483648)) / 65536) 255) % 256, (Go.bits .and .i64 ((wrap64 (t186 + 2147483648)) / 256) 255) % 256, (Go.bits .and .i64 (wrap64 (t186 + 2147483648)) 255) % 256] : List Int)) (inner := [.int .u8 ((Go.bits .and .i64 ((wrap64 (t186 + 2147483648)) / 16777216) 255) % 256), .int .u8 ((Go.bits .and .i64 ((wrap64 (t186 + 2147483648)) / 65536) 255) % 256), .int .u8 ((Go.bits .and .i64 ((wrap64 (t186 + 2147483648)) / 256) 255) % 256), .int .u8 ((Go.bits .and .i64 (wrap64 (t186 + 2147483648)) 255) % 256)]) (ok := fun _ => True) (okp := fun _ => True) ?hr ?hp (fun _ hk => hk) trivial (Below.refl _ _) (Nat.le_refl _) (by simp) ?_; (case hd => rfl); (case hg => rfl); (case hr => first | (go_simp; done) | (go_simp; rfl)); (case hp => exact (Reps.one (show Kd.M (Kd.int .u8) _ _ _ ((Go.bits .and .i64 ((wrap64 (t186 + 2147483648)) / 16777216) 255) % 256) [.int .u8 ((Go.bits .and .i64 ((wrap64 (t186 + 2147483648)) / 16777216) 255) % 256)] from rfl) (Reps.one (show Kd.M (Kd.int .u8) _ _ _ ((Go.bits .and .i64 ((wrap64 (t186 + 2147483648)) / 65536) 255) % 256) [.int .u8 ((Go.bits .and .i64 ((wrap64 (t186 + 2147483648)) / 65536) 255) % 256)] from rfl) (Reps.one (show Kd.M (Kd.int .u8) _ _ _ ((Go.bits .and .i64 ((wrap64 (t186 + 2147483648)) / 256) 255) % 256) [.int .u8 ((Go.bits .and .i64 ((wrap64 (t186 + 2147483648)) / 256) 255) % 256)] from rfl) (Reps.one (show Kd.M (Kd.int .u8) _ _ _ ((Go.bits .and .i64 (wrap64 (t186 + 2147483648)) 255) % 256) [.int .u8 ((Go.bits .and .i64 (wrap64 (t186 + 2147483648)) 255) % 256)] from rfl) (Reps.none _ _)))))); intro v194 w9 ho10 hb hg_ hnew_; clear hg_ hnew_; (first | rw [← Ny193.out] at ho10 | (simp only [Int.reduceToNat] at ho10; rw [← Ny193.out] at ho10)); have n0_ := Aside0.mk (Kd.R_elder' Z2_8 (Kd.R_base ho10) hb); have n1_ := Aside0.mk (Kd.R_lower (Kd.R_new' ho10 (Kd.R_lt Z2_8)) (below_size Z2_6)); have n2_ := Aside0.mk Z2_4; clear HO192; clear HB; have HO192 := n0_; have HO195 := n1_; have HB := n2_; clear n0_ n1_ n2_; clear hb ho10; obtain ⟨Ao12, co12, eo12⟩ := Kd.R_slice HO195.out; subst eo12) | ((with_reducible refine gate_builtin (b := .append) (xs := #[.tmp 11, .tmp 27]) rfl ?_); at_builtin; refine Kd.R_append_rows (Kd.int .u8) (w0 := w) w.heap.size rfl (.tmp 11) (.tmp 27) 22 5 (.int .u8 0) 1 rfl Try.underlying22 info5 rfl (by decide) (by omega) v191 y190 y193 _ _ _ (fun k_ => some k_ ≠ (.slice Ao12 y193.length co12 : Value).ownBlock) (fun _ => False) rfl rfl ?aO ?aR (fun _ _ h => h) (fun _ h => h.elim) ?aF ?aB ?aS ?aL ?_; (case aR => repeat (first | exact (Kd.R_reads' HO195.out).2.2 | (with_reducible refine Kd.C_alloc ?_ _) | (with_reducible refine Kd.C_drewN ?_ _) | (with_reducible refine Kd.C_drew ?_))); (case aB => exact Z2_6); (case aF => exact (fun k_ hk => Kd.fresh' (Kd.R_lt Z2_9) k_ hk)); (case aO => exact (by (with_reducible repeat (first | apply Kd.R_alloc | apply Kd.R_drewN | apply Kd.R_drew)); exact Kd.R_mono HO192.out (fun _ hk => hk.2))); (case aS => exact (below_size Z2_6)); (case aL => have := LMc5.out; omega); intro v197 w11 ho hb hg hat; rw [← Ny196.out] at ho; have n0_ := Aside0.mk (Kd.R_after (ok := (fun _ => True)) Z2_9 hg hat); have n1_ := Aside0.mk (hb); have n2_ := Aside0.mk (ho); clear HO195; clear HB; clear HO192; have HO195 := n0_; have HB := n1_; have HO198 := n2_; clear n0_ n1_ n2_; clear ho hb hg hat))
  go_ret
  exact ⟨_, Z2_13, (by (with_reducible repeat (first | apply Kd.R_alloc | apply Kd.R_drewN | apply Kd.R_drew)); exact Kd.R_mono HO198.out (fun _ hk => trivial)), Z2_6⟩

/-! ### spec_DrawGetNum: function 33 -/
def spec_DrawGetNum.f (k : Nat) (l0 : List Int) : Option (List Int × Int) := (spec_l1New.f k l0).bind fun bt199 => ((spec_l1Once.f bt199.1 bt199.2.1 bt199.2.2 4).bind fun bt203 => (if bt203.1 = true then ((spec_l1Byte.f bt199.1 bt203.2.1 bt203.2.2).bind fun bt206 => ((spec_l1Below.f bt199.1 bt206.2.1 bt206.2.2 3).bind fun bt212 => (some ((([0, 0, 0, 0, (bt206.1) % 256] : List Int)), bt212.1)))) else ((spec_l1Below.f bt199.1 bt203.2.1 bt203.2.2 2).bind fun bt215 => ((spec_l1Bytes.f k bt199.1 bt215.2.1 bt215.2.2 bt215.1).bind fun bt218 => ((spec_l1Raw.f bt199.1 bt218.2.1 bt218.2.2).bind fun bt223 => ((spec_PutNum.f bt218.1 bt223.1).bind fun t226 => ((spec_l1Int.f bt199.1 bt223.2.1 bt223.2.2 (([0, 0, 1, 2, (-1), 9223372036854775807] : List Int))).bind fun bt232 => (some (t226, bt232.1)))))))))
theorem spec_DrawGetNum.mono : ∀ a0 k, LeO (spec_DrawGetNum.f k a0) (spec_DrawGetNum.f (k + 1) a0) := by
  intro a0 k
  unfold spec_DrawGetNum.f
  repeat' first
      | (with_reducible exact spec_l1Bytes.mono _ _ _ _ _)
      | (with_reducible exact spec_l1New.mono _ _)
      | (with_reducible exact LeO.refl _)
      | (with_reducible exact LeO.none _)
      | (with_reducible refine LeO.ite ?_ ?_)
      | (with_reducible refine LeO.bind ?_ (fun _ => ?_))
      | exact spec_l1Bytes.mono _ _ _ _ _
      | exact spec_l1New.mono _ _
      | exact LeO.none _
      | refine LeO.ite ?_ ?_
      | refine LeO.bind ?_ (fun _ => ?_)
set_option maxHeartbeats 8000000 in
set_option maxRecDepth 100000 in
theorem spec_DrawGetNum.calls (k : Nat) (A0 : Option Addr) (c0 : Nat) (l0 : List Int) (r1 : List Int) (r2 : Int) (w : World) (hr0 : Kd.C (Kd.int .u8) w A0 l0.length l0) (hc0 : l0.length ≤ c0) (h : spec_DrawGetNum.f k l0 = some (r1, r2)) :
    Calls Try.prog 33 #[.slice A0 l0.length c0] w fun e w' => ∃ v0_ : Value, e = .returned (.tuple #[v0_, .int .i64 r2]) ∧ Kd.R (Kd.int .u8) 5 w' w.heap.size (fun _ => True) v0_ r1 ∧ Below w.heap.size w w' := by
  have HR0 := Aside0.mk hr0
  have HC0 := Aside0.mk hc0
  clear hr0 hc0
  have HB := Aside0.mk (Below.refl w.heap.size w)
  have H : ((spec_l1New.f k l0).bind fun bt199 => ((spec_l1Once.f bt199.1 bt199.2.1 bt199.2.2 4).bind fun bt203 => (if bt203.1 = true then ((spec_l1Byte.f bt199.1 bt203.2.1 bt203.2.2).bind fun bt206 => ((spec_l1Below.f bt199.1 bt206.2.1 bt206.2.2 3).bind fun bt212 => (some ((([0, 0, 0, 0, (bt206.1) % 256] : List Int)), bt212.1)))) else ((spec_l1Below.f bt199.1 bt203.2.1 bt203.2.2 2).bind fun bt215 => ((spec_l1Bytes.f k bt199.1 bt215.2.1 bt215.2.2 bt215.1).bind fun bt218 => ((spec_l1Raw.f bt199.1 bt218.2.1 bt218.2.2).bind fun bt223 => ((spec_PutNum.f bt218.1 bt223.1).bind fun t226 => ((spec_l1Int.f bt199.1 bt223.2.1 bt223.2.2 (([0, 0, 1, 2, (-1), 9223372036854775807] : List Int))).bind fun bt232 => (some (t226, bt232.1)))))))))) = some (r1, r2) := h
  clear h
  replace H := Option.bind_eq_some_iff.mp H
  obtain ⟨⟨t199, t200, t201⟩, A20, H⟩ := H
  replace H : ((spec_l1Once.f t199 t200 t201 4).bind fun bt203 => (if bt203.1 = true then ((spec_l1Byte.f t199 bt203.2.1 bt203.2.2).bind fun bt206 => ((spec_l1Below.f t199 bt206.2.1 bt206.2.2 3).bind fun bt212 => (some ((([0, 0, 0, 0, (bt206.1) % 256] : List Int)), bt212.1)))) else ((spec_l1Below.f t199 bt203.2.1 bt203.2.2 2).bind fun bt215 => ((spec_l1Bytes.f k t199 bt215.2.1 bt215.2.2 bt215.1).bind fun bt218 => ((spec_l1Raw.f t199 bt218.2.1 bt218.2.2).bind fun bt223 => ((spec_PutNum.f bt218.1 bt223.1).bind fun t226 => ((spec_l1Int.f t199 bt223.2.1 bt223.2.2 (([0, 0, 1, 2, (-1), 9223372036854775807] : List Int))).bind fun bt232 => (some (t226, bt232.1))))))))) = some (r1, r2) := H
  have A2 := Aside0.mk A20
  clear A20
  replace H := Option.bind_eq_some_iff.mp H
  obtain ⟨⟨t203, t204, t205⟩, A30, H⟩ := H
  replace H : (if t203 = true then ((spec_l1Byte.f t199 t204 t205).bind fun bt206 => ((spec_l1Below.f t199 bt206.2.1 bt206.2.2 3).bind fun bt212 => (some ((([0, 0, 0, 0, (bt206.1) % 256] : List Int)), bt212.1)))) else ((spec_l1Below.f t199 t204 t205 2).bind fun bt215 => ((spec_l1Bytes.f k t199 bt215.2.1 bt215.2.2 bt215.1).bind fun bt218 => ((spec_l1Raw.f t199 bt218.2.1 bt218.2.2).bind fun bt223 => ((spec_PutNum.f bt218.1 bt223.1).bind fun t226 => ((spec_l1Int.f t199 bt223.2.1 bt223.2.2 (([0, 0, 1, 2, (-1), 9223372036854775807] : List Int))).bind fun bt232 => (some (t226, bt232.1)))))))) = some (r1, r2) := H
  have A3 := Aside0.mk A30
  clear A30
  by_cases c4 : t203 = true
  · subst c4
    have H1 : ((spec_l1Byte.f t199 t204 t205).bind fun bt206 => ((spec_l1Below.f t199 bt206.2.1 bt206.2.2 3).bind fun bt212 => (some ((([0, 0, 0, 0, (bt206.1) % 256] : List Int)), bt212.1)))) = some (r1, r2) := by rw [if_pos rfl] at H; exact H
    clear H
    have H := H1
    clear H1
    replace H := Option.bind_eq_some_iff.mp H
    obtain ⟨⟨t206, t207, t208⟩, A50, H⟩ := H
    replace H : ((spec_l1Below.f t199 t207 t208 3).bind fun bt212 => (some ((([0, 0, 0, 0, (t206) % 256] : List Int)), bt212.1))) = some (r1, r2) := H
    have A5 := Aside0.mk A50
    clear A50
    obtain ⟨y209, hy209⟩ : ∃ y_ : List Int, y_ = (([0, 0, 0, 0, (t206) % 256] : List Int)) := ⟨_, rfl⟩
    replace H : ((spec_l1Below.f t199 t207 t208 3).bind fun bt212 => (some (y209, bt212.1))) = some (r1, r2) := by first | (rw [hy209]; with_reducible exact H) | (have H2_ := (Option.bind_some _ _).symm.trans H; rw [hy209]; with_reducible exact H2_) | (have H2_ := (Option.bind_some _ _).symm.trans H; with_reducible exact H2_) | with_reducible exact H | (rw [hy209]; exact H) | exact H
    have Ny209 := Aside0.mk hy209
    clear hy209
    replace H := Option.bind_eq_some_iff.mp H
    obtain ⟨⟨t212, t213, t214⟩, A60, H⟩ := H
    replace H : (some (y209, t212)) = some (r1, r2) := H
    have A6 := Aside0.mk A60
    clear A60
    simp only [Option.some.injEq, Prod.mk.injEq] at H
    obtain ⟨rfl, rfl⟩ := H
    go_enter Try.func33, Try.ntmps33
    go_wp2_with (first | ((with_reducible refine gate_callee (f := 94) rfl ?_); refine goesL_ (some 7) rfl rfl Try.func94 (by kernel_rfl) rfl #[.slice A0 l0.length c0] rfl Z2_5 ?_; (with_reducible refine (spec_l1New.calls k _ _ l0 t199 t200 t201 w _ ?side1 ?side2 ?side3 A2.out).mono ?_); (case side1 => repeat (first | (with_reducible first | exact HB.out | apply below_alloc | apply pw_below_drewN | apply below_drew1) | exact HB.out)); (case side2 => exact HR0.out); (case side3 => exact HC0.out); rintro e w7 ⟨g202, rfl, hi, hb, hb2⟩; refine ⟨_, rfl, ?_⟩; have n0_ := Aside0.mk (hb); have n1_ := Aside0.mk (hi); clear HB; have HB := n0_; have HI202 := n1_; clear n0_ n1_; (try clear hb); (try clear hb2); (try clear hk); (try clear hi)) | ((with_reducible refine gate_callee (f := 99) rfl ?_); refine goesL_ (some 9) rfl rfl Try.func99 (by kernel_rfl) rfl #[.pointer (some ⟨g202, 0, none⟩), .int .i64 4] rfl Z2_5 ?_; (with_reducible refine (spec_l1Once.calls g202 t199 t200 t201 4 true t204 t205 w _ ?side1 ?side2 A3.out).mono ?_); (case side1 => repeat (first | (with_reducible first | exact HI202.out | apply IsS125.alloc | apply IsS125.drewN | apply IsS125.drew | apply IsS125.set_1 | apply IsS125.set_2) | exact HI202.out)); (case side2 => repeat (first | (with_reducible first | exact HB.out | apply below_alloc | apply pw_below_drewN | apply below_drew1 | refine below_set ?_ (IsS125.ge HI202.out)) | exact HB.out)); rintro e w8 ⟨rfl, hi, hb, hk⟩; refine ⟨_, rfl, ?_⟩; have n0_ := Aside0.mk (hb); have n1_ := Aside0.mk (hi); clear HB; clear HI202; have HB := n0_; have HI202 := n1_; clear n0_ n1_; (try clear hb); (try clear hb2); (try clear hk); (try clear hi)) | ((with_reducible refine gate_callee (f := 100) rfl ?_); refine goesL_ (some 11) rfl rfl Try.func100 (by kernel_rfl) rfl #[.pointer (some ⟨g202, 0, none⟩)] rfl Z2_5 ?_; (with_reducible refine (spec_l1Byte.calls g202 t199 t204 t205 t206 t207 t208 w _ ?side1 ?side2 A5.out).mono ?_); (case side1 => repeat (first | (with_reducible first | exact HI202.out | apply IsS125.alloc | apply IsS125.drewN | apply IsS125.drew | apply IsS125.set_1 | apply IsS125.set_2) | exact HI202.out)); (case side2 => repeat (first | (with_reducible first | exact HB.out | apply below_alloc | apply pw_below_drewN | apply below_drew1 | refine below_set ?_ (IsS125.ge HI202.out)) | exact HB.out)); rintro e w9 ⟨rfl, hi, hb, hk⟩; refine ⟨_, rfl, ?_⟩; have n0_ := Aside0.mk (hb); have n1_ := Aside0.mk (hi); clear HB; clear HI202; have HB := n0_; have HI202 := n1_; clear n0_ n1_; (try clear hb); (try clear hb2); (try clear hk); (try clear hi)) | ((with_reducible refine gate_dst (N := 13) rfl ?_); refine Kd.R_lit (Kd.int .u8) _ 5 ?hg (N := 13) ?hd (xs := ([0, 0, 0, 0, (t206) % 256] : List Int)) (inner := [.int .u8 0, .int .u8 0, .int .u8 0, .int .u8 0, .int .u8 ((t206) % 256)]) (ok := fun _ => True) (okp := fun _ => True) ?hr ?hp (fun _ hk => hk) trivial (Below.refl _ _) (Nat.le_refl _) (by simp) ?_; (case hd => rfl); (case hg => rfl); (case hr => first | (go_simp; done) | (go_simp; rfl)); (case hp => exact (Reps.one (show Kd.M (Kd.int .u8) _ _ _ 0 [.int .u8 0] from rfl) (Reps.one (show Kd.M (Kd.int .u8) _ _ _ 0 [.int .u8 0] from rfl) (Reps.one (show Kd.M (Kd.int .u8) _ _ _ 0 [.int .u8 0] from rfl) (Reps.one (show Kd.M (Kd.int .u8) _ _ _ 0 [.int .u8 0] from rfl) (Reps.one (show Kd.M (Kd.int .u8) _ _ _ ((t206) % 256) [.int .u8 ((t206) % 256)] from rfl) (Reps.none _ _))))))); intro v210 w10 ho11 hb hg_ hnew_; clear hg_ hnew_; (first | rw [← Ny209.out] at ho11 | (simp only [Int.reduceToNat] at ho11; rw [← Ny209.out] at ho11)); have n0_ := Aside0.mk (Kd.R_lower ho11 (below_size Z2_3)); have n1_ := Aside0.mk Z2_1; have n2_ := Aside0.mk Z2_2; clear HI202; clear HB; have HO211 := n0_; have HI202 := n1_; have HB := n2_; clear n0_ n1_ n2_; clear hb ho11) | ((with_reducible refine gate_callee (f := 97) rfl ?_); refine goesL_ (some 15) rfl rfl Try.func97 (by kernel_rfl) rfl #[.pointer (some ⟨g202, 0, none⟩), .int .i64 3] rfl Z2_5 ?_; (with_reducible refine (spec_l1Below.calls g202 t199 t207 t208 3 t212 t213 t214 w _ ?side1 ?side2 A6.out).mono ?_); (case side1 => repeat (first | (with_reducible first | exact HI202.out | apply IsS125.alloc | apply IsS125.drewN | apply IsS125.drew | apply IsS125.set_1 | apply IsS125.set_2) | exact HI202.out)); (case side2 => repeat (first | (with_reducible first | exact HB.out | apply below_alloc | apply pw_below_drewN | apply below_drew1 | refine below_set ?_ (IsS125.ge HI202.out)) | exact HB.out)); rintro e w12 ⟨rfl, hi, hb, hk⟩; refine ⟨_, rfl, ?_⟩; have n0_ := Aside0.mk (Kd.R_mono (Kd.R_keep (IsS125.apart (show IsS125 w _ g202 t199 t207 t208 from by repeat (first | (with_reducible first | exact HI202.out | apply IsS125.alloc | apply IsS125.drewN | apply IsS125.drew | apply IsS125.set_1 | apply IsS125.set_2) | exact HI202.out)) Z2_10 (by decide)) hk (fun _ h => h.2)) (fun _ h => h.1)); have n1_ := Aside0.mk (hb); have n2_ := Aside0.mk (hi); clear HO211; clear HB; clear HI202; have HO211 := n0_; have HB := n1_; have HI202 := n2_; clear n0_ n1_ n2_; (try clear hb); (try clear hb2); (try clear hk); (try clear hi)))
    go_ret2
    exact ⟨_, Z2_13, Z2_10, Z2_3⟩
  replace c4 := Bool.eq_false_iff.mpr c4
  subst c4
  have H1 : ((spec_l1Below.f t199 t204 t205 2).bind fun bt215 => ((spec_l1Bytes.f k t199 bt215.2.1 bt215.2.2 bt215.1).bind fun bt218 => ((spec_l1Raw.f t199 bt218.2.1 bt218.2.2).bind fun bt223 => ((spec_PutNum.f bt218.1 bt223.1).bind fun t226 => ((spec_l1Int.f t199 bt223.2.1 bt223.2.2 (([0, 0, 1, 2, (-1), 9223372036854775807] : List Int))).bind fun bt232 => (some (t226, bt232.1))))))) = some (r1, r2) := by rw [if_neg (show ¬ (false = true) by decide)] at H; exact H
  clear H
  have H := H1
  clear H1
  replace H := Option.bind_eq_some_iff.mp H
  obtain ⟨⟨t215, t216, t217⟩, A130, H⟩ := H
  replace H : ((spec_l1Bytes.f k t199 t216 t217 t215).bind fun bt218 => ((spec_l1Raw.f t199 bt218.2.1 bt218.2.2).bind fun bt223 => ((spec_PutNum.f bt218.1 bt223.1).bind fun t226 => ((spec_l1Int.f t199 bt223.2.1 bt223.2.2 (([0, 0, 1, 2, (-1), 9223372036854775807] : List Int))).bind fun bt232 => (some (t226, bt232.1)))))) = some (r1, r2) := H
  have A13 := Aside0.mk A130
  clear A130
  replace H := Option.bind_eq_some_iff.mp H
  obtain ⟨⟨t218, t221, t222⟩, A140, H⟩ := H
  replace H : ((spec_l1Raw.f t199 t221 t222).bind fun bt223 => ((spec_PutNum.f t218 bt223.1).bind fun t226 => ((spec_l1Int.f t199 bt223.2.1 bt223.2.2 (([0, 0, 1, 2, (-1), 9223372036854775807] : List Int))).bind fun bt232 => (some (t226, bt232.1))))) = some (r1, r2) := H
  have A14 := Aside0.mk A140
  clear A140
  replace H := Option.bind_eq_some_iff.mp H
  obtain ⟨⟨t223, t224, t225⟩, A150, H⟩ := H
  replace H : ((spec_PutNum.f t218 t223).bind fun t226 => ((spec_l1Int.f t199 t224 t225 (([0, 0, 1, 2, (-1), 9223372036854775807] : List Int))).bind fun bt232 => (some (t226, bt232.1)))) = some (r1, r2) := H
  have A15 := Aside0.mk A150
  clear A150
  replace H := Option.bind_eq_some_iff.mp H
  obtain ⟨t226, A160, H⟩ := H
  replace H : ((spec_l1Int.f t199 t224 t225 (([0, 0, 1, 2, (-1), 9223372036854775807] : List Int))).bind fun bt232 => (some (t226, bt232.1))) = some (r1, r2) := H
  have A16 := Aside0.mk A160
  clear A160
  obtain ⟨y229, hy229⟩ : ∃ y_ : List Int, y_ = (([0, 0, 1, 2, (-1), 9223372036854775807] : List Int)) := ⟨_, rfl⟩
  replace H : ((spec_l1Int.f t199 t224 t225 y229).bind fun bt232 => (some (t226, bt232.1))) = some (r1, r2) := by first | (rw [hy229]; with_reducible exact H) | (have H2_ := (Option.bind_some _ _).symm.trans H; rw [hy229]; with_reducible exact H2_) | (have H2_ := (Option.bind_some _ _).symm.trans H; with_reducible exact H2_) | with_reducible exact H | (rw [hy229]; exact H) | exact H
  have Ny229 := Aside0.mk hy229
  clear hy229
  replace H := Option.bind_eq_some_iff.mp H
  obtain ⟨⟨t232, t233, t234⟩, A170, H⟩ := H
  replace H : (some (t226, t232)) = some (r1, r2) := H
  have A17 := Aside0.mk A170
  clear A170
  simp only [Option.some.injEq, Prod.mk.injEq] at H
  obtain ⟨rfl, rfl⟩ := H
  go_enter Try.func33, Try.ntmps33
  go_wp2_with (first | ((with_reducible refine gate_callee (f := 94) rfl ?_); refine goesL_ (some 7) rfl rfl Try.func94 (by kernel_rfl) rfl #[.slice A0 l0.length c0] rfl Z2_5 ?_; (with_reducible refine (spec_l1New.calls k _ _ l0 t199 t200 t201 w _ ?side1 ?side2 ?side3 A2.out).mono ?_); (case side1 => repeat (first | (with_reducible first | exact HB.out | apply below_alloc | apply pw_below_drewN | apply below_drew1) | exact HB.out)); (case side2 => exact HR0.out); (case side3 => exact HC0.out); rintro e w18 ⟨g202, rfl, hi, hb, hb2⟩; refine ⟨_, rfl, ?_⟩; have n0_ := Aside0.mk (hb); have n1_ := Aside0.mk (hi); clear HB; have HB := n0_; have HI202 := n1_; clear n0_ n1_; (try clear hb); (try clear hb2); (try clear hk); (try clear hi)) | ((with_reducible refine gate_callee (f := 99) rfl ?_); refine goesL_ (some 9) rfl rfl Try.func99 (by kernel_rfl) rfl #[.pointer (some ⟨g202, 0, none⟩), .int .i64 4] rfl Z2_5 ?_; (with_reducible refine (spec_l1Once.calls g202 t199 t200 t201 4 false t204 t205 w _ ?side1 ?side2 A3.out).mono ?_); (case side1 => repeat (first | (with_reducible first | exact HI202.out | apply IsS125.alloc | apply IsS125.drewN | apply IsS125.drew | apply IsS125.set_1 | apply IsS125.set_2) | exact HI202.out)); (case side2 => repeat (first | (with_reducible first | exact HB.out | apply below_alloc | apply pw_below_drewN | apply below_drew1 | refine below_set ?_ (IsS125.ge HI202.out)) | exact HB.out)); rintro e w19 ⟨rfl, hi, hb, hk⟩; refine ⟨_, rfl, ?_⟩; have n0_ := Aside0.mk (hb); have n1_ := Aside0.mk (hi); clear HB; clear HI202; have HB := n0_; have HI202 := n1_; clear n0_ n1_; (try clear hb); (try clear hb2); (try clear hk); (try clear hi)) | ((with_reducible refine gate_callee (f := 97) rfl ?_); refine goesL_ (some 18) rfl rfl Try.func97 (by kernel_rfl) rfl #[.pointer (some ⟨g202, 0, none⟩), .int .i64 2] rfl Z2_5 ?_; (with_reducible refine (spec_l1Below.calls g202 t199 t204 t205 2 t215 t216 t217 w _ ?side1 ?side2 A13.out).mono ?_); (case side1 => repeat (first | (with_reducible first | exact HI202.out | apply IsS125.alloc | apply IsS125.drewN | apply IsS125.drew | apply IsS125.set_1 | apply IsS125.set_2) | exact HI202.out)); (case side2 => repeat (first | (with_reducible first | exact HB.out | apply below_alloc | apply pw_below_drewN | apply below_drew1 | refine below_set ?_ (IsS125.ge HI202.out)) | exact HB.out)); rintro e w20 ⟨rfl, hi, hb, hk⟩; refine ⟨_, rfl, ?_⟩; have n0_ := Aside0.mk (hb); have n1_ := Aside0.mk (hi); clear HB; clear HI202; have HB := n0_; have HI202 := n1_; clear n0_ n1_; (try clear hb); (try clear hb2); (try clear hk); (try clear hi)) | ((with_reducible refine gate_callee (f := 96) rfl ?_); refine goesL_ (some 19) rfl rfl Try.func96 (by kernel_rfl) rfl #[.pointer (some ⟨g202, 0, none⟩), .int .i64 t215] rfl Z2_5 ?_; (with_reducible refine (spec_l1Bytes.calls k g202 t199 t216 t217 t215 t218 t221 t222 w _ ?side1 ?side2 A14.out).mono ?_); (case side1 => repeat (first | (with_reducible first | exact HI202.out | apply IsS125.alloc | apply IsS125.drewN | apply IsS125.drew | apply IsS125.set_1 | apply IsS125.set_2) | exact HI202.out)); (case side2 => repeat (first | (with_reducible first | exact HB.out | apply below_alloc | apply pw_below_drewN | apply below_drew1 | refine below_set ?_ (IsS125.ge HI202.out)) | exact HB.out)); rintro e w21 ⟨v219, rfl, ho0, hi, hb, hk⟩; refine ⟨_, rfl, ?_⟩; have n0_ := Aside0.mk (Kd.R_lower ho0 (below_size Z2_3)); have n1_ := Aside0.mk (hb); have n2_ := Aside0.mk (hi); clear HB; clear HI202; have HO220 := n0_; have HB := n1_; have HI202 := n2_; clear n0_ n1_ n2_; (try clear hb); (try clear hb2); (try clear hk); (try clear hi); (try clear ho0)) | ((with_reducible refine gate_callee (f := 95) rfl ?_); refine goesL_ (some 21) rfl rfl Try.func95 (by kernel_rfl) rfl #[.pointer (some ⟨g202, 0, none⟩)] rfl Z2_5 ?_; (with_reducible refine (spec_l1Raw.calls g202 t199 t221 t222 t223 t224 t225 w _ ?side1 ?side2 A15.out).mono ?_); (case side1 => repeat (first | (with_reducible first | exact HI202.out | apply IsS125.alloc | apply IsS125.drewN | apply IsS125.drew | apply IsS125.set_1 | apply IsS125.set_2) | exact HI202.out)); (case side2 => repeat (first | (with_reducible first | exact HB.out | apply below_alloc | apply pw_below_drewN | apply below_drew1 | refine below_set ?_ (IsS125.ge HI202.out)) | exact HB.out)); rintro e w22 ⟨rfl, hi, hb, hk⟩; refine ⟨_, rfl, ?_⟩; have n0_ := Aside0.mk (Kd.R_mono (Kd.R_keep (IsS125.apart (show IsS125 w _ g202 t199 t221 t222 from by repeat (first | (with_reducible first | exact HI202.out | apply IsS125.alloc | apply IsS125.drewN | apply IsS125.drew | apply IsS125.set_1 | apply IsS125.set_2) | exact HI202.out)) Z2_11 (by decide)) hk (fun _ h => h.2)) (fun _ h => h.1)); have n1_ := Aside0.mk (hb); have n2_ := Aside0.mk (hi); clear HO220; clear HB; clear HI202; have HO220 := n0_; have HB := n1_; have HI202 := n2_; clear n0_ n1_ n2_; (try clear hb); (try clear hb2); (try clear hk); (try clear hi); obtain ⟨Ao23, co23, eo23⟩ := Kd.R_slice HO220.out; subst eo23) | ((with_reducible refine gate_callee (f := 101) rfl ?_); refine goesL_ (some 22) rfl rfl Try.func101 (by kernel_rfl) rfl #[.slice Ao23 t218.length co23, .int .i64 t223] rfl Z2_5 ?_; (with_reducible refine (spec_PutNum.calls _ _ t218 t223 t226 _ ?side1 ?side2 A16.out).mono ?_); (case side1 => repeat (first | exact (Kd.R_reads' HO220.out).2.2 | (with_reducible refine Kd.C_alloc ?_ _) | (with_reducible refine Kd.C_drewN ?_ _) | (with_reducible refine Kd.C_drew ?_))); (case side2 => exact (Kd.R_reads' HO220.out).2.1); rintro e w24 ⟨v227, rfl, ho0, hb⟩; refine ⟨_, rfl, ?_⟩; have n0_ := Aside0.mk (Kd.R_elder' Z2_11 (Kd.R_base ho0) hb); have n1_ := Aside0.mk (Kd.R_lower (Kd.R_new' ho0 (Kd.R_lt Z2_11)) (below_size Z2_3)); have n2_ := Aside0.mk Z2_1; have n3_ := Aside0.mk Z2_2; clear HO220; clear HI202; clear HB; have HO220 := n0_; have HO228 := n1_; have HI202 := n2_; have HB := n3_; clear n0_ n1_ n2_ n3_; (try clear hb); (try clear hb2); (try clear hk); (try clear hi); (try clear ho0)) | ((with_reducible refine gate_dst (N := 25) rfl ?_); refine Kd.R_lit (Kd.int .i64) _ 3 ?hg (N := 25) ?hd (xs := ([0, 0, 1, 2, (-1), 9223372036854775807] : List Int)) (inner := [.int .i64 0, .int .i64 0, .int .i64 1, .int .i64 2, .int .i64 (-1), .int .i64 9223372036854775807]) (ok := fun _ => True) (okp := fun _ => True) ?hr ?hp (fun _ hk => hk) trivial (Below.refl _ _) (Nat.le_refl _) (by simp) ?_; (case hd => rfl); (case hg => rfl); (case hr => first | (go_simp; done) | (go_simp; rfl)); (case hp => exact (Reps.one (show Kd.M (Kd.int .i64) _ _ _ 0 [.int .i64 0] from rfl) (Reps.one (show Kd.M (Kd.int .i64) _ _ _ 0 [.int .i64 0] from rfl) (Reps.one (show Kd.M (Kd.int .i64) _ _ _ 1 [.int .i64 1] from rfl) (Reps.one (show Kd.M (Kd.int .i64) _ _ _ 2 [.int .i64 2] from rfl) (Reps.one (show Kd.M (Kd.int .i64) _ _ _ (-1) [.int .i64 (-1)] from rfl) (Reps.one (show Kd.M (Kd.int .i64) _ _ _ 9223372036854775807 [.int .i64 9223372036854775807] from rfl) (Reps.none _ _)))))))); intro v230 w25 ho26 hb hg_ hnew_; clear hg_ hnew_; (first | rw [← Ny229.out] at ho26 | (simp only [Int.reduceToNat] at ho26; rw [← Ny229.out] at ho26)); have n0_ := Aside0.mk (Kd.R_below Z2_11 hb); have n1_ := Aside0.mk (Kd.R_below Z2_12 hb); have n2_ := Aside0.mk (Kd.R_lower ho26 (below_size Z2_3)); have n3_ := Aside0.mk Z2_1; have n4_ := Aside0.mk Z2_2; clear HO220; clear HO228; clear HI202; clear HB; have HO220 := n0_; have HO228 := n1_; have HO231 := n2_; have HI202 := n3_; have HB := n4_; clear n0_ n1_ n2_ n3_ n4_; clear hb ho26; obtain ⟨Ao27, co27, eo27⟩ := Kd.R_slice HO231.out; subst eo27) | ((with_reducible refine gate_callee (f := 102) rfl ?_); refine goesL_ (some 26) rfl rfl Try.func102 (by kernel_rfl) rfl #[.pointer (some ⟨g202, 0, none⟩), .slice Ao27 y229.length co27] rfl Z2_5 ?_; (with_reducible refine (spec_l1Int.calls g202 t199 t224 t225 _ _ y229 t232 t233 t234 w _ ?side1 ?side2 ?side3 ?side4 ?side5 A17.out).mono ?_); (case side1 => repeat (first | (with_reducible first | exact HI202.out | apply IsS125.alloc | apply IsS125.drewN | apply IsS125.drew | apply IsS125.set_1 | apply IsS125.set_2) | exact HI202.out)); (case side2 => repeat (first | (with_reducible first | exact HB.out | apply below_alloc | apply pw_below_drewN | apply below_drew1 | refine below_set ?_ (IsS125.ge HI202.out)) | exact HB.out)); (case side3 => repeat (first | exact (Kd.R_reads' HO231.out).2.2 | (with_reducible refine Kd.C_alloc ?_ _) | (with_reducible refine Kd.C_drewN ?_ _) | (with_reducible refine Kd.C_drew ?_))); (case side4 => exact (Kd.R_reads' HO231.out).2.1); (case side5 => exact far_slice (IsS125.own_ne HI202.out HO231.out (by decide))); rintro e w28 ⟨rfl, hi, hb, hk⟩; refine ⟨_, rfl, ?_⟩; have n0_ := Aside0.mk (Kd.R_mono (Kd.R_keep (IsS125.apart (show IsS125 w _ g202 t199 t224 t225 from by repeat (first | (with_reducible first | exact HI202.out | apply IsS125.alloc | apply IsS125.drewN | apply IsS125.drew | apply IsS125.set_1 | apply IsS125.set_2) | exact HI202.out)) Z2_11 (by decide)) hk (fun _ h => h.2)) (fun _ h => h.1)); have n1_ := Aside0.mk (Kd.R_mono (Kd.R_keep (IsS125.apart (show IsS125 w _ g202 t199 t224 t225 from by repeat (first | (with_reducible first | exact HI202.out | apply IsS125.alloc | apply IsS125.drewN | apply IsS125.drew | apply IsS125.set_1 | apply IsS125.set_2) | exact HI202.out)) Z2_12 (by decide)) hk (fun _ h => h.2)) (fun _ h => h.1)); have n2_ := Aside0.mk (Kd.R_mono (Kd.R_keep (IsS125.apart (show IsS125 w _ g202 t199 t224 t225 from by repeat (first | (with_reducible first | exact HI202.out | apply IsS125.alloc | apply IsS125.drewN | apply IsS125.drew | apply IsS125.set_1 | apply IsS125.set_2) | exact HI202.out)) (by (with_reducible repeat (first | apply Kd.R_alloc | apply Kd.R_drewN | apply Kd.R_drew)); exact HO231.out) (by decide)) hk (fun _ h => h.2)) (fun _ h => h.1)); have n3_ := Aside0.mk (hb); have n4_ := Aside0.mk (hi); clear HO220; clear HO228; clear HO231; clear HB; clear HI202; have HO220 := n0_; have HO228 := n1_; have HO231 := n2_; have HB := n3_; have HI202 := n4_; clear n0_ n1_ n2_ n3_ n4_; (try clear hb); (try clear hb2); (try clear hk); (try clear hi)))
  go_ret2
  exact ⟨_, Z2_13, (by (with_reducible repeat (first | apply Kd.R_alloc | apply Kd.R_drewN | apply Kd.R_drew)); exact Kd.R_mono HO228.out (fun _ hk => trivial)), Z2_3⟩

/-! ### spec_GetNum: function 34 -/
mutual
def spec_GetNum.j0 : Nat → List Int → Int → Bool → Option (Int × Int × Bool)
  | 0, _, _, _ => none
  | k + 1, x0, x1, x17 => if x17 = true then (some (0, 0, false)) else (spec_GetNum.l0 k x0 x1 0 0)
def spec_GetNum.l0 : Nat → List Int → Int → Int → Int → Option (Int × Int × Bool)
  | 0, _, _, _, _ => none
  | k + 1, x0, x1, x7, x8 => if x8 < 4 then (if 0 ≤ (wrap64 (x1 + x8)) then (if (wrap64 (x1 + x8)) < (x0.length : Int) then (spec_GetNum.l0 k x0 x1 (wrap64 ((wrap64 (x7 * 256)) + (wrap64 (rd x0 (wrap64 (x1 + x8)))))) (wrap64 (x8 + 1))) else (none)) else (none)) else (if x7 = 0 then (some (0, 0, false)) else (some (wrap64 (x7 - 2147483648), wrap64 (x1 + 4), true)))
end
def spec_GetNum.f (k : Nat) (l0 : List Int) (a1 : Int) : Option (Int × Int × Bool) := if a1 < 0 then (spec_GetNum.j0 k l0 a1 true) else (spec_GetNum.j0 k l0 a1 (decide (a1 > (wrap64 ((l0.length : Int) - 4)))))
theorem spec_GetNum.mono_l : ∀ k, (∀ y0 y1 y2, LeO (spec_GetNum.j0 k y0 y1 y2) (spec_GetNum.j0 (k + 1) y0 y1 y2)) ∧ (∀ y0 y1 y2 y3, LeO (spec_GetNum.l0 k y0 y1 y2 y3) (spec_GetNum.l0 (k + 1) y0 y1 y2 y3))
  | 0 => ⟨fun _ _ _ r h => by simp [spec_GetNum.j0] at h, fun _ _ _ _ r h => by simp [spec_GetNum.l0] at h⟩
  | k + 1 => by
    obtain ⟨ih0, ih1⟩ := spec_GetNum.mono_l k
    refine ⟨?_, ?_⟩
    · intro y0 y1 y2
      unfold spec_GetNum.j0
      repeat' first
      | (with_reducible exact ih0 _ _ _)
      | (with_reducible exact ih1 _ _ _ _)
      | (with_reducible exact LeO.refl _)
      | (with_reducible exact LeO.none _)
      | (with_reducible refine LeO.ite ?_ ?_)
      | (with_reducible refine LeO.bind ?_ (fun _ => ?_))
      | exact ih0 _ _ _
      | exact ih1 _ _ _ _
      | exact LeO.none _
      | refine LeO.ite ?_ ?_
      | refine LeO.bind ?_ (fun _ => ?_)
    · intro y0 y1 y2 y3
      unfold spec_GetNum.l0
      repeat' first
      | (with_reducible exact ih0 _ _ _)
      | (with_reducible exact ih1 _ _ _ _)
      | (with_reducible exact LeO.refl _)
      | (with_reducible exact LeO.none _)
      | (with_reducible refine LeO.ite ?_ ?_)
      | (with_reducible refine LeO.bind ?_ (fun _ => ?_))
      | exact ih0 _ _ _
      | exact ih1 _ _ _ _
      | exact LeO.none _
      | refine LeO.ite ?_ ?_
      | refine LeO.bind ?_ (fun _ => ?_)
theorem spec_GetNum.mono : ∀ a0 a1 k, LeO (spec_GetNum.f k a0 a1) (spec_GetNum.f (k + 1) a0 a1) := by
  intro a0 a1 k
  obtain ⟨ih0, ih1⟩ := spec_GetNum.mono_l k
  unfold spec_GetNum.f
  repeat' first
      | (with_reducible exact ih0 _ _ _)
      | (with_reducible exact ih1 _ _ _ _)
      | (with_reducible exact LeO.refl _)
      | (with_reducible exact LeO.none _)
      | (with_reducible refine LeO.ite ?_ ?_)
      | (with_reducible refine LeO.bind ?_ (fun _ => ?_))
      | exact ih0 _ _ _
      | exact ih1 _ _ _ _
      | exact LeO.none _
      | refine LeO.ite ?_ ?_
      | refine LeO.bind ?_ (fun _ => ?_)
set_option maxHeartbeats 8000000 in
set_option maxRecDepth 100000 in
theorem spec_GetNum.calls (k : Nat) (A0 : Option Addr) (c0 : Nat) (l0 : List Int) (a1 : Int) (r1 : Int) (r2 : Int) (r3 : Bool) (w : World) (hr0 : Kd.C (Kd.int .u8) w A0 l0.length l0) (hc0 : l0.length ≤ c0) (h : spec_GetNum.f k l0 a1 = some (r1, r2, r3)) :
    Calls Try.prog 34 #[.slice A0 l0.length c0, .int .i64 a1] w fun e w' => e = .returned (.tuple #[.int .i64 r1, .int .i64 r2, .bool r3]) ∧ Drawn0 w w' := by
  have HR0 := Aside0.mk hr0
  have HC0 := Aside0.mk hc0
  clear hr0 hc0
  have H : (if a1 < 0 then (spec_GetNum.j0 k l0 a1 true) else (spec_GetNum.j0 k l0 a1 (decide (a1 > (wrap64 ((l0.length : Int) - 4)))))) = some (r1, r2, r3) := h
  clear h
  have HC3 := Aside0.mk H
  clear H
  go_enter Try.func34, Try.ntmps34
  go_upto_region 1 with (fail)
  go_cut [17] (fun v17 wc => ∃ (kq : Nat) (x17_2 : Bool), v17 = .bool x17_2 ∧ Aside0 (spec_GetNum.j0 kq l0 a1 x17_2 = some (r1, r2, r3)) ∧ Aside0 (kq ≤ k) ∧ Drawn0 w wc)
  case first =>
    have H := HC3.out
    clear HC3
    by_cases c4 : a1 < 0
    · rw [if_pos c4] at H
      have c4b0 : decide (a1 < 0) = true := decide_eq_true c4
      clear c4
      (first | rw [c4b0] | (simp only [i64_w, i32_w]; rw [c4b0]) | skip)
      have H' := Aside0.mk H
      clear H
      go_wp2
      go_meet
      case rel => exact ⟨_, (true), Z2_16, H', ⟨(by first | omega | exact Nat.le_refl _)⟩, Z2_14⟩
    rw [if_neg c4] at H
    have c4b0 : decide (a1 < 0) = false := decide_eq_false c4
    clear c4
    (first | rw [c4b0] | (simp only [i64_w, i32_w]; rw [c4b0]) | skip)
    have H' := Aside0.mk H
    clear H
    go_wp2
    go_meet
    case rel => exact ⟨_, (decide (a1 > (wrap64 ((l0.length : Int) - 4)))), Z2_16, H', ⟨(by first | omega | exact Nat.le_refl _)⟩, Z2_14⟩
  case rest =>
    clear HC3
    try clear p2
    try clear c3
    try clear c4
    try clear c4b0
    obtain ⟨kq, x17_2, rfl, HA, HJ2, ⟨mc2, rfl⟩⟩ := hcut
    cases kq with
    | zero => exact absurd HA.out (by simp [spec_GetNum.j0])
    | succ kj2 =>
      have H := HA.out
      clear HA
      simp only [spec_GetNum.j0] at H
      by_cases c5 : x17_2 = true
      · subst c5
        have H1 : (some (0, 0, false)) = some (r1, r2, r3) := by rw [if_pos rfl] at H; exact H
        clear H
        have H := H1
        clear H1
        simp only [Option.some.injEq, Prod.mk.injEq] at H
        obtain ⟨rfl, rfl, rfl⟩ := H
        go_wp2
        go_ret3
        exact ⟨Z2_16, Z2_14⟩
      replace c5 := Bool.eq_false_iff.mpr c5
      subst c5
      have H1 : (spec_GetNum.l0 kj2 l0 a1 0 0) = some (r1, r2, r3) := by rw [if_neg (show ¬ (false = true) by decide)] at H; exact H
      clear H
      have H := H1
      clear H1
      have H' := Aside0.mk H
      clear H
      go_wp2
      go_loopg [7, 8] kj2 (fun kq v7 v8 w' => ∃ (x7_2 : Int) (x8_2 : Int), v7 = .int .i64 x7_2 ∧ v8 = .int .i64 x8_2 ∧ Aside0 (spec_GetNum.l0 kq l0 a1 x7_2 x8_2 = some (r1, r2, r3)) ∧ Aside0 (kq ≤ kj2) ∧ Drawn0 w w')
      case atStart => exact ⟨(0), (0), Z2_16, Z2_16, H', ⟨Nat.le_refl _⟩, Z2_14⟩
      case round =>
        clear H'
        try clear c2
        try clear p2
        try clear c3
        try clear c4
        try clear c4b0
        try clear c5
        try clear p2
        obtain ⟨x7_2, x8_2, rfl, rfl, HA, HK2, ⟨m2, rfl⟩⟩ := hrel
        cases gk with
        | zero => exact absurd HA.out (by simp [spec_GetNum.l0])
        | succ k2 =>
          have H := HA.out
          clear HA
          simp only [spec_GetNum.l0] at H
          by_cases c6 : x8_2 < 4
          rotate_left
          · rw [if_neg c6] at H
            have c6b0 : decide (x8_2 < 4) = false := decide_eq_false c6
            clear c6
            by_cases c10 : x7_2 = 0
            rotate_left
            · rw [if_neg c10] at H
              have c10b0 : (x7_2 == 0) = false := beq_eq_false_iff_ne.mpr c10
              have c10b1 : (x7_2 != 0) = true := bne_iff_ne.mpr c10
              simp only [Option.some.injEq, Prod.mk.injEq] at H
              obtain ⟨rfl, rfl, rfl⟩ := H
              go_wp2
              go_ret3
              exact ⟨Z2_16, Z2_14⟩
            rw [if_pos c10] at H
            have c10b0 : (x7_2 == 0) = true := beq_iff_eq.mpr c10
            have c10b1 : (x7_2 != 0) = false := bne_eq_false_iff_eq.mpr c10
            clear c10
            simp only [Option.some.injEq, Prod.mk.injEq] at H
            obtain ⟨rfl, rfl, rfl⟩ := H
            go_wp2
            go_ret3
            exact ⟨Z2_16, Z2_14⟩
          rw [if_pos c6] at H
          have c6b0 : decide (x8_2 < 4) = true := decide_eq_true c6
          clear c6
          obtain ⟨ji7, hji7⟩ : ∃ j_ : Int, (wrap64 (a1 + x8_2)) = j_ := ⟨_, rfl⟩
          replace H : (if 0 ≤ (ji7) then (if (ji7) < (l0.length : Int) then (spec_GetNum.l0 k2 l0 a1 (wrap64 ((wrap64 (x7_2 * 256)) + (wrap64 (rd l0 (ji7))))) (wrap64 (x8_2 + 1))) else (none)) else (none)) = some (r1, r2, r3) := by first | (rw [hji7] at H; exact H) | (simp only [hji7] at H ⊢; exact H)
          have hji7w : (IntKind.i64.wrap (a1 + x8_2)) = ji7 := (i64_w _).trans hji7
          by_cases c8 : 0 ≤ (ji7)
          rotate_left
          · rw [if_neg c8] at H
            exact absurd H (by simp)
          rw [if_pos c8] at H
          have c8b0 : decide (0 ≤ (ji7)) = true := decide_eq_true c8
          clear c8
          by_cases c9 : (ji7) < (l0.length : Int)
          rotate_left
          · rw [if_neg c9] at H
            exact absurd H (by simp)
          rw [if_pos c9] at H
          have c9b0 : decide ((ji7) < (l0.length : Int)) = true := decide_eq_true c9
          clear c9
          have H' := Aside0.mk H
          clear H
          have p235 : 0 ≤ ((ji7) : Int) := of_decide_eq_true Z2_15
          have q235 : (ji7) < (l0.length : Int) := of_decide_eq_true Z2_15
          obtain ⟨ad235, e235, hx235_0⟩ := Kd.at_int HR0.out (ji7) p235 q235
          cases e235
          replace p235 := eq_true p235
          replace q235 := eq_true q235
          go_wp2
          go_roundg k2
          case measure => have := HJ2.out; have := HK2.out; omega
          case rel => exact ⟨(wrap64 ((wrap64 (x7_2 * 256)) + (wrap64 (rd l0 (ji7))))), (wrap64 (x8_2 + 1)), (by first | rfl | (simp; done) | (simp only [← hji7] <;> (first | rfl | simp)) | (simp [*]; done)), Z2_16, H', ⟨(by have := HJ2.out; have := HK2.out; omega)⟩, Z2_14⟩

/-! ### laws_same: function 35 -/
def laws_same.f (l0 : List Int) (l1 : List Int) : Option (Bool) := some ((strOfNums l0).toList == (strOfNums l1).toList)
set_option maxHeartbeats 8000000 in
set_option maxRecDepth 100000 in
theorem laws_same.calls (A0 : Option Addr) (c0 : Nat) (l0 : List Int) (A1 : Option Addr) (c1 : Nat) (l1 : List Int) (r : Bool) (w : World) (hr0 : Kd.C (Kd.int .u8) w A0 l0.length l0) (hc0 : l0.length ≤ c0) (hr1 : Kd.C (Kd.int .u8) w A1 l1.length l1) (hc1 : l1.length ≤ c1) (h : laws_same.f l0 l1 = some r) :
    Calls Try.prog 35 #[.slice A0 l0.length c0, .slice A1 l1.length c1] w fun e w' => e = .returned (.bool r) ∧ Drawn0 w w' := by
  have HR0 := Aside0.mk hr0
  have HC0 := Aside0.mk hc0
  clear hr0 hc0
  have HR1 := Aside0.mk hr1
  have HC1 := Aside0.mk hc1
  clear hr1 hc1
  have H : (some ((strOfNums l0).toList == (strOfNums l1).toList)) = some r := h
  clear h
  obtain rfl := Option.some.inj H
  have hcv3 := Kd.C_string (P := Try.prog) (A := A0) (c := c0) Try.underlying22 Try.underlying5 Try.underlying9 HR0.out
  have hcv4 := Kd.C_string (P := Try.prog) (A := A1) (c := c1) Try.underlying22 Try.underlying5 Try.underlying9 HR1.out
  go_enter Try.func35, Try.ntmps35
  go_wp2
  go_ret
  exact ⟨Z2_16, Z2_14⟩

end Go.Proofs.Ytfpbbikhcnpceaa.QFnNums
