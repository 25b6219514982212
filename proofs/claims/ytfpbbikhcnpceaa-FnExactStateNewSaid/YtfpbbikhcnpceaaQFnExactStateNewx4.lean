-- Written by a program of this session (patch_print.py over the print).
import Derived.Test.YtfpbbikhcnpceaaQFnExactStateNewx0
namespace Go.Proofs.Ytfpbbikhcnpceaa.QFnExactStateNew
open Go.RowKit Go.Proofs.YtfpbbikhcnpceaaW.PrintWords Go.Proofs.YtfpbbikhcnpceaaW.PrintLast Go.Proofs.YtfpbbikhcnpceaaW.PrintMore
attribute [local go_sem] max2_int min2_int max_two min_two max_three min_three max_four min_four   -- for this text's walks alone
set_option linter.unusedVariables false
set_option linter.unusedSimpArgs false

theorem Z4_1 {p : Prop} (h : p := by repeat (first | exact Drawn0.refl _ | apply Drawn0.step)) : p := h
theorem Z4_2 {p : Prop} (h : p := by first | (with_reducible assumption) | assumption) : p := h
theorem Z4_3 {p : Prop} (h : p := by first | rfl | (simp; done) | (simp [*]; done)) : p := h
/-! ### laws_heldPieceS: function 137 -/
def laws_heldPieceS.l0 : Nat → List (S54) → Int → Int → Option (Int)
  | 0, _, _, _ => none
  | k + 1, x0, x1, x5 => if x5 < (x0.length : Int) then (if 0 ≤ x5 then (if ((rd_T54 x0 x5).f0) = x1 then (if ((rd_T54 x0 x5).f1) = (wrap64 (x1 + 1)) then (if ((rd_T54 x0 x5).f2) = (wrap64 ((wrap64 (x1 + 1)) + 1)) then (if ((rd_T54 x0 x5).f3) = (wrap64 ((wrap64 ((wrap64 (x1 + 1)) + 1)) + 1)) then (if ((rd_T54 x0 x5).f4) = (wrap64 ((wrap64 ((wrap64 ((wrap64 (x1 + 1)) + 1)) + 1)) + 1)) then (if ((rd_T54 x0 x5).f5) = (wrap64 ((wrap64 ((wrap64 ((wrap64 ((wrap64 (x1 + 1)) + 1)) + 1)) + 1)) + 1)) then (if ((rd_T54 x0 x5).f6) = (wrap64 ((wrap64 ((wrap64 ((wrap64 ((wrap64 ((wrap64 (x1 + 1)) + 1)) + 1)) + 1)) + 1)) + 1)) then (if ((rd_T54 x0 x5).f7) = (wrap64 ((wrap64 ((wrap64 ((wrap64 ((wrap64 ((wrap64 ((wrap64 (x1 + 1)) + 1)) + 1)) + 1)) + 1)) + 1)) + 1)) then (if ((rd_T54 x0 x5).f8) = (wrap64 ((wrap64 ((wrap64 ((wrap64 ((wrap64 ((wrap64 ((wrap64 ((wrap64 (x1 + 1)) + 1)) + 1)) + 1)) + 1)) + 1)) + 1)) + 1)) then (if ((rd_T54 x0 x5).f9) = (wrap64 ((wrap64 ((wrap64 ((wrap64 ((wrap64 ((wrap64 ((wrap64 ((wrap64 ((wrap64 (x1 + 1)) + 1)) + 1)) + 1)) + 1)) + 1)) + 1)) + 1)) + 1)) then (if ((rd_T54 x0 x5).f10) = (wrap64 ((wrap64 ((wrap64 ((wrap64 ((wrap64 ((wrap64 ((wrap64 ((wrap64 ((wrap64 ((wrap64 (x1 + 1)) + 1)) + 1)) + 1)) + 1)) + 1)) + 1)) + 1)) + 1)) + 1)) then (if (((rd_T54 x0 x5).f11) != ((Int.tmod (wrap64 ((wrap64 ((wrap64 ((wrap64 ((wrap64 ((wrap64 ((wrap64 ((wrap64 ((wrap64 ((wrap64 ((wrap64 (x1 + 1)) + 1)) + 1)) + 1)) + 1)) + 1)) + 1)) + 1)) + 1)) + 1)) + 1)) 3) == 0)) = true then (some (-1)) else (if (((rd_T54 x0 x5).f12) != ((Int.tmod (wrap64 ((wrap64 ((wrap64 ((wrap64 ((wrap64 ((wrap64 ((wrap64 ((wrap64 ((wrap64 ((wrap64 ((wrap64 ((wrap64 (x1 + 1)) + 1)) + 1)) + 1)) + 1)) + 1)) + 1)) + 1)) + 1)) + 1)) + 1)) + 1)) 3) == 0)) = true then (some (-1)) else (laws_heldPieceS.l0 k x0 (wrap64 ((wrap64 ((wrap64 ((wrap64 ((wrap64 ((wrap64 ((wrap64 ((wrap64 ((wrap64 ((wrap64 ((wrap64 ((wrap64 ((wrap64 (x1 + 1)) + 1)) + 1)) + 1)) + 1)) + 1)) + 1)) + 1)) + 1)) + 1)) + 1)) + 1)) + 1)) (wrap64 (x5 + 1))))) else (some (-1))) else (some (-1))) else (some (-1))) else (some (-1))) else (some (-1))) else (some (-1))) else (some (-1))) else (some (-1))) else (some (-1))) else (some (-1))) else (some (-1))) else (none)) else (some x1)
def laws_heldPieceS.f (k : Nat) (l0 : List (S54)) (a1 : Int) : Option (Int) := laws_heldPieceS.l0 k l0 a1 0
theorem laws_heldPieceS.mono_l : ∀ k, (∀ y0 y1 y2, LeO (laws_heldPieceS.l0 k y0 y1 y2) (laws_heldPieceS.l0 (k + 1) y0 y1 y2))
  | 0 => fun _ _ _ r h => by simp [laws_heldPieceS.l0] at h
  | k + 1 => by
    have ih0 := laws_heldPieceS.mono_l k
    · intro y0 y1 y2
      unfold laws_heldPieceS.l0
      repeat' first
      | (with_reducible exact ih0 _ _ _)
      | (with_reducible exact LeO.refl _)
      | (with_reducible exact LeO.none _)
      | (with_reducible refine LeO.ite ?_ ?_)
      | (with_reducible refine LeO.bind ?_ (fun _ => ?_))
      | exact ih0 _ _ _
      | exact LeO.none _
      | refine LeO.ite ?_ ?_
      | refine LeO.bind ?_ (fun _ => ?_)
theorem laws_heldPieceS.mono : ∀ a0 a1 k, LeO (laws_heldPieceS.f k a0 a1) (laws_heldPieceS.f (k + 1) a0 a1) := by
  intro a0 a1 k
  have ih0 := laws_heldPieceS.mono_l k
  unfold laws_heldPieceS.f
  repeat' first
      | (with_reducible exact ih0 _ _ _)
      | (with_reducible exact LeO.refl _)
      | (with_reducible exact LeO.none _)
      | (with_reducible refine LeO.ite ?_ ?_)
      | (with_reducible refine LeO.bind ?_ (fun _ => ?_))
      | exact ih0 _ _ _
      | exact LeO.none _
      | refine LeO.ite ?_ ?_
      | refine LeO.bind ?_ (fun _ => ?_)
set_option maxHeartbeats 8000000 in
set_option maxRecDepth 100000 in
theorem laws_heldPieceS.calls (k : Nat) (A0 : Option Addr) (c0 : Nat) (l0 : List (S54)) (a1 : Int) (r : Int) (w : World) (hr0 : Kd.C k54 w A0 l0.length l0) (hc0 : l0.length ≤ c0) (h : laws_heldPieceS.f k l0 a1 = some r) :
    Calls Try.prog 137 #[.slice A0 l0.length c0, .int .i64 a1] w fun e w' => e = .returned (.int .i64 r) ∧ Drawn0 w w' := by
  have HR0 := Aside0.mk hr0
  have HC0 := Aside0.mk hc0
  clear hr0 hc0
  have H : (laws_heldPieceS.l0 k l0 a1 0) = some r := h
  clear h
  have H' := Aside0.mk H
  clear H
  go_enter Try.func137, Try.ntmps137
  go_wp2
  go_loopg [1, 5] k (fun kq v1 v5 w' => ∃ (x1_1 : Int) (x5_1 : Int), v1 = .int .i64 x1_1 ∧ v5 = .int .i64 x5_1 ∧ Aside0 (laws_heldPieceS.l0 kq l0 x1_1 x5_1 = some r) ∧ Aside0 (kq ≤ k) ∧ Drawn0 w w')
  case atStart => exact ⟨(a1), (0), Z4_3, Z4_3, H', ⟨Nat.le_refl _⟩, Z4_1⟩
  case round =>
    clear H'
    try clear c1
    try clear p2
    obtain ⟨x1_1, x5_1, rfl, rfl, HA, HK1, ⟨m1, rfl⟩⟩ := hrel
    cases gk with
    | zero => exact absurd HA.out (by simp [laws_heldPieceS.l0])
    | succ k1 =>
      have H := HA.out
      clear HA
      simp only [laws_heldPieceS.l0] at H
      by_cases c3 : x5_1 < (l0.length : Int)
      rotate_left
      · rw [if_neg c3] at H
        have c3b0 : decide (x5_1 < (l0.length : Int)) = false := decide_eq_false c3
        clear c3
        obtain rfl := Option.some.inj H
        go_wp2
        go_ret
        exact ⟨Z4_3, Z4_1⟩
      rw [if_pos c3] at H
      have c3b0 : decide (x5_1 < (l0.length : Int)) = true := decide_eq_true c3
      clear c3
      by_cases c4 : 0 ≤ x5_1
      rotate_left
      · rw [if_neg c4] at H
        exact absurd H (by simp)
      rw [if_pos c4] at H
      have c4b0 : decide (0 ≤ x5_1) = true := decide_eq_true c4
      clear c4
      by_cases c5 : ((rd_T54 l0 x5_1).f0) = x1_1
      rotate_left
      · rw [if_neg c5] at H
        have c5b0 : (((rd_T54 l0 x5_1).f0) == x1_1) = false := beq_eq_false_iff_ne.mpr c5
        have c5b1 : (((rd_T54 l0 x5_1).f0) != x1_1) = true := bne_iff_ne.mpr c5
        obtain rfl := Option.some.inj H
        have p149 : 0 ≤ (x5_1 : Int) := of_decide_eq_true Z4_2
        have q149 : x5_1 < (l0.length : Int) := of_decide_eq_true Z4_2
        obtain ⟨ad149, e149, hx149_0, hx149_1, hx149_2, hx149_3, hx149_4, hx149_5, hx149_6, hx149_7, hx149_8, hx149_9, hx149_10, hx149_11, hx149_12⟩ := at_T54 HR0.out x5_1 p149 q149
        cases e149
        replace p149 := eq_true p149
        replace q149 := eq_true q149
        go_wp2
        go_ret
        exact ⟨Z4_3, Z4_1⟩
      rw [if_pos c5] at H
      have c5b0 : (((rd_T54 l0 x5_1).f0) == x1_1) = true := beq_iff_eq.mpr c5
      have c5b1 : (((rd_T54 l0 x5_1).f0) != x1_1) = false := bne_eq_false_iff_eq.mpr c5
      clear c5
      by_cases c6 : ((rd_T54 l0 x5_1).f1) = (wrap64 (x1_1 + 1))
      rotate_left
      · rw [if_neg c6] at H
        have c6b0 : (((rd_T54 l0 x5_1).f1) == (wrap64 (x1_1 + 1))) = false := beq_eq_false_iff_ne.mpr c6
        have c6b1 : (((rd_T54 l0 x5_1).f1) != (wrap64 (x1_1 + 1))) = true := bne_iff_ne.mpr c6
        obtain rfl := Option.some.inj H
        have p149 : 0 ≤ (x5_1 : Int) := of_decide_eq_true Z4_2
        have q149 : x5_1 < (l0.length : Int) := of_decide_eq_true Z4_2
        obtain ⟨ad149, e149, hx149_0, hx149_1, hx149_2, hx149_3, hx149_4, hx149_5, hx149_6, hx149_7, hx149_8, hx149_9, hx149_10, hx149_11, hx149_12⟩ := at_T54 HR0.out x5_1 p149 q149
        cases e149
        replace p149 := eq_true p149
        replace q149 := eq_true q149
        have p150 : 0 ≤ (x5_1 : Int) := of_decide_eq_true Z4_2
        have q150 : x5_1 < (l0.length : Int) := of_decide_eq_true Z4_2
        obtain ⟨ad150, e150, hx150_0, hx150_1, hx150_2, hx150_3, hx150_4, hx150_5, hx150_6, hx150_7, hx150_8, hx150_9, hx150_10, hx150_11, hx150_12⟩ := at_T54 HR0.out x5_1 p150 q150
        obtain rfl : ad149 = ad150 := (by injection e150)
        replace p150 := eq_true p150
        replace q150 := eq_true q150
        go_wp2
        go_ret
        exact ⟨Z4_3, Z4_1⟩
      rw [if_pos c6] at H
      have c6b0 : (((rd_T54 l0 x5_1).f1) == (wrap64 (x1_1 + 1))) = true := beq_iff_eq.mpr c6
      have c6b1 : (((rd_T54 l0 x5_1).f1) != (wrap64 (x1_1 + 1))) = false := bne_eq_false_iff_eq.mpr c6
      clear c6
      by_cases c7 : ((rd_T54 l0 x5_1).f2) = (wrap64 ((wrap64 (x1_1 + 1)) + 1))
      rotate_left
      · rw [if_neg c7] at H
        have c7b0 : (((rd_T54 l0 x5_1).f2) == (wrap64 ((wrap64 (x1_1 + 1)) + 1))) = false := beq_eq_false_iff_ne.mpr c7
        have c7b1 : (((rd_T54 l0 x5_1).f2) != (wrap64 ((wrap64 (x1_1 + 1)) + 1))) = true := bne_iff_ne.mpr c7
        obtain rfl := Option.some.inj H
        have p149 : 0 ≤ (x5_1 : Int) := of_decide_eq_true Z4_2
        have q149 : x5_1 < (l0.length : Int) := of_decide_eq_true Z4_2
        obtain ⟨ad149, e149, hx149_0, hx149_1, hx149_2, hx149_3, hx149_4, hx149_5, hx149_6, hx149_7, hx149_8, hx149_9, hx149_10, hx149_11, hx149_12⟩ := at_T54 HR0.out x5_1 p149 q149
        cases e149
        replace p149 := eq_true p149
        replace q149 := eq_true q149
        have p150 : 0 ≤ (x5_1 : Int) := of_decide_eq_true Z4_2
        have q150 : x5_1 < (l0.length : Int) := of_decide_eq_true Z4_2
        obtain ⟨ad150, e150, hx150_0, hx150_1, hx150_2, hx150_3, hx150_4, hx150_5, hx150_6, hx150_7, hx150_8, hx150_9, hx150_10, hx150_11, hx150_12⟩ := at_T54 HR0.out x5_1 p150 q150
        obtain rfl : ad149 = ad150 := (by injection e150)
        replace p150 := eq_true p150
        replace q150 := eq_true q150
        have p151 : 0 ≤ (x5_1 : Int) := of_decide_eq_true Z4_2
        have q151 : x5_1 < (l0.length : Int) := of_decide_eq_true Z4_2
        obtain ⟨ad151, e151, hx151_0, hx151_1, hx151_2, hx151_3, hx151_4, hx151_5, hx151_6, hx151_7, hx151_8, hx151_9, hx151_10, hx151_11, hx151_12⟩ := at_T54 HR0.out x5_1 p151 q151
        obtain rfl : ad149 = ad151 := (by injection e151)
        replace p151 := eq_true p151
        replace q151 := eq_true q151
        go_wp2
        go_ret
        exact ⟨Z4_3, Z4_1⟩
      rw [if_pos c7] at H
      have c7b0 : (((rd_T54 l0 x5_1).f2) == (wrap64 ((wrap64 (x1_1 + 1)) + 1))) = true := beq_iff_eq.mpr c7
      have c7b1 : (((rd_T54 l0 x5_1).f2) != (wrap64 ((wrap64 (x1_1 + 1)) + 1))) = false := bne_eq_false_iff_eq.mpr c7
      clear c7
      by_cases c8 : ((rd_T54 l0 x5_1).f3) = (wrap64 ((wrap64 ((wrap64 (x1_1 + 1)) + 1)) + 1))
      rotate_left
      · rw [if_neg c8] at H
        have c8b0 : (((rd_T54 l0 x5_1).f3) == (wrap64 ((wrap64 ((wrap64 (x1_1 + 1)) + 1)) + 1))) = false := beq_eq_false_iff_ne.mpr c8
        have c8b1 : (((rd_T54 l0 x5_1).f3) != (wrap64 ((wrap64 ((wrap64 (x1_1 + 1)) + 1)) + 1))) = true := bne_iff_ne.mpr c8
        obtain rfl := Option.some.inj H
        have p149 : 0 ≤ (x5_1 : Int) := of_decide_eq_true Z4_2
        have q149 : x5_1 < (l0.length : Int) := of_decide_eq_true Z4_2
        obtain ⟨ad149, e149, hx149_0, hx149_1, hx149_2, hx149_3, hx149_4, hx149_5, hx149_6, hx149_7, hx149_8, hx149_9, hx149_10, hx149_11, hx149_12⟩ := at_T54 HR0.out x5_1 p149 q149
        cases e149
        replace p149 := eq_true p149
        replace q149 := eq_true q149
        have p150 : 0 ≤ (x5_1 : Int) := of_decide_eq_true Z4_2
        have q150 : x5_1 < (l0.length : Int) := of_decide_eq_true Z4_2
        obtain ⟨ad150, e150, hx150_0, hx150_1, hx150_2, hx150_3, hx150_4, hx150_5, hx150_6, hx150_7, hx150_8, hx150_9, hx150_10, hx150_11, hx150_12⟩ := at_T54 HR0.out x5_1 p150 q150
        obtain rfl : ad149 = ad150 := (by injection e150)
        replace p150 := eq_true p150
        replace q150 := eq_true q150
        have p151 : 0 ≤ (x5_1 : Int) := of_decide_eq_true Z4_2
        have q151 : x5_1 < (l0.length : Int) := of_decide_eq_true Z4_2
        obtain ⟨ad151, e151, hx151_0, hx151_1, hx151_2, hx151_3, hx151_4, hx151_5, hx151_6, hx151_7, hx151_8, hx151_9, hx151_10, hx151_11, hx151_12⟩ := at_T54 HR0.out x5_1 p151 q151
        obtain rfl : ad149 = ad151 := (by injection e151)
        replace p151 := eq_true p151
        replace q151 := eq_true q151
        have p152 : 0 ≤ (x5_1 : Int) := of_decide_eq_true Z4_2
        have q152 : x5_1 < (l0.length : Int) := of_decide_eq_true Z4_2
        obtain ⟨ad152, e152, hx152_0, hx152_1, hx152_2, hx152_3, hx152_4, hx152_5, hx152_6, hx152_7, hx152_8, hx152_9, hx152_10, hx152_11, hx152_12⟩ := at_T54 HR0.out x5_1 p152 q152
        obtain rfl : ad149 = ad152 := (by injection e152)
        replace p152 := eq_true p152
        replace q152 := eq_true q152
        go_wp2
        go_ret
        exact ⟨Z4_3, Z4_1⟩
      rw [if_pos c8] at H
      have c8b0 : (((rd_T54 l0 x5_1).f3) == (wrap64 ((wrap64 ((wrap64 (x1_1 + 1)) + 1)) + 1))) = true := beq_iff_eq.mpr c8
      have c8b1 : (((rd_T54 l0 x5_1).f3) != (wrap64 ((wrap64 ((wrap64 (x1_1 + 1)) + 1)) + 1))) = false := bne_eq_false_iff_eq.mpr c8
      clear c8
      by_cases c9 : ((rd_T54 l0 x5_1).f4) = (wrap64 ((wrap64 ((wrap64 ((wrap64 (x1_1 + 1)) + 1)) + 1)) + 1))
      rotate_left
      · rw [if_neg c9] at H
        have c9b0 : (((rd_T54 l0 x5_1).f4) == (wrap64 ((wrap64 ((wrap64 ((wrap64 (x1_1 + 1)) + 1)) + 1)) + 1))) = false := beq_eq_false_iff_ne.mpr c9
        have c9b1 : (((rd_T54 l0 x5_1).f4) != (wrap64 ((wrap64 ((wrap64 ((wrap64 (x1_1 + 1)) + 1)) + 1)) + 1))) = true := bne_iff_ne.mpr c9
        obtain rfl := Option.some.inj H
        have p149 : 0 ≤ (x5_1 : Int) := of_decide_eq_true Z4_2
        have q149 : x5_1 < (l0.length : Int) := of_decide_eq_true Z4_2
        obtain ⟨ad149, e149, hx149_0, hx149_1, hx149_2, hx149_3, hx149_4, hx149_5, hx149_6, hx149_7, hx149_8, hx149_9, hx149_10, hx149_11, hx149_12⟩ := at_T54 HR0.out x5_1 p149 q149
        cases e149
        replace p149 := eq_true p149
        replace q149 := eq_true q149
        have p150 : 0 ≤ (x5_1 : Int) := of_decide_eq_true Z4_2
        have q150 : x5_1 < (l0.length : Int) := of_decide_eq_true Z4_2
        obtain ⟨ad150, e150, hx150_0, hx150_1, hx150_2, hx150_3, hx150_4, hx150_5, hx150_6, hx150_7, hx150_8, hx150_9, hx150_10, hx150_11, hx150_12⟩ := at_T54 HR0.out x5_1 p150 q150
        obtain rfl : ad149 = ad150 := (by injection e150)
        replace p150 := eq_true p150
        replace q150 := eq_true q150
        have p151 : 0 ≤ (x5_1 : Int) := of_decide_eq_true Z4_2
        have q151 : x5_1 < (l0.length : Int) := of_decide_eq_true Z4_2
        obtain ⟨ad151, e151, hx151_0, hx151_1, hx151_2, hx151_3, hx151_4, hx151_5, hx151_6, hx151_7, hx151_8, hx151_9, hx151_10, hx151_11, hx151_12⟩ := at_T54 HR0.out x5_1 p151 q151
        obtain rfl : ad149 = ad151 := (by injection e151)
        replace p151 := eq_true p151
        replace q151 := eq_true q151
        have p152 : 0 ≤ (x5_1 : Int) := of_decide_eq_true Z4_2
        have q152 : x5_1 < (l0.length : Int) := of_decide_eq_true Z4_2
        obtain ⟨ad152, e152, hx152_0, hx152_1, hx152_2, hx152_3, hx152_4, hx152_5, hx152_6, hx152_7, hx152_8, hx152_9, hx152_10, hx152_11, hx152_12⟩ := at_T54 HR0.out x5_1 p152 q152
        obtain rfl : ad149 = ad152 := (by injection e152)
        replace p152 := eq_true p152
        replace q152 := eq_true q152
        have p153 : 0 ≤ (x5_1 : Int) := of_decide_eq_true Z4_2
        have q153 : x5_1 < (l0.length : Int) := of_decide_eq_true Z4_2
        obtain ⟨ad153, e153, hx153_0, hx153_1, hx153_2, hx153_3, hx153_4, hx153_5, hx153_6, hx153_7, hx153_8, hx153_9, hx153_10, hx153_11, hx153_12⟩ := at_T54 HR0.out x5_1 p153 q153
        obtain rfl : ad149 = ad153 := (by injection e153)
        replace p153 := eq_true p153
        replace q153 := eq_true q153
        go_wp2
        go_ret
        exact ⟨Z4_3, Z4_1⟩
      rw [if_pos c9] at H
      have c9b0 : (((rd_T54 l0 x5_1).f4) == (wrap64 ((wrap64 ((wrap64 ((wrap64 (x1_1 + 1)) + 1)) + 1)) + 1))) = true := beq_iff_eq.mpr c9
      have c9b1 : (((rd_T54 l0 x5_1).f4) != (wrap64 ((wrap64 ((wrap64 ((wrap64 (x1_1 + 1)) + 1)) + 1)) + 1))) = false := bne_eq_false_iff_eq.mpr c9
      clear c9
      by_cases c10 : ((rd_T54 l0 x5_1).f5) = (wrap64 ((wrap64 ((wrap64 ((wrap64 ((wrap64 (x1_1 + 1)) + 1)) + 1)) + 1)) + 1))
      rotate_left
      · rw [if_neg c10] at H
        have c10b0 : (((rd_T54 l0 x5_1).f5) == (wrap64 ((wrap64 ((wrap64 ((wrap64 ((wrap64 (x1_1 + 1)) + 1)) + 1)) + 1)) + 1))) = false := beq_eq_false_iff_ne.mpr c10
        have c10b1 : (((rd_T54 l0 x5_1).f5) != (wrap64 ((wrap64 ((wrap64 ((wrap64 ((wrap64 (x1_1 + 1)) + 1)) + 1)) + 1)) + 1))) = true := bne_iff_ne.mpr c10
        obtain rfl := Option.some.inj H
        have p149 : 0 ≤ (x5_1 : Int) := of_decide_eq_true Z4_2
        have q149 : x5_1 < (l0.length : Int) := of_decide_eq_true Z4_2
        obtain ⟨ad149, e149, hx149_0, hx149_1, hx149_2, hx149_3, hx149_4, hx149_5, hx149_6, hx149_7, hx149_8, hx149_9, hx149_10, hx149_11, hx149_12⟩ := at_T54 HR0.out x5_1 p149 q149
        cases e149
        replace p149 := eq_true p149
        replace q149 := eq_true q149
        have p150 : 0 ≤ (x5_1 : Int) := of_decide_eq_true Z4_2
        have q150 : x5_1 < (l0.length : Int) := of_decide_eq_true Z4_2
        obtain ⟨ad150, e150, hx150_0, hx150_1, hx150_2, hx150_3, hx150_4, hx150_5, hx150_6, hx150_7, hx150_8, hx150_9, hx150_10, hx150_11, hx150_12⟩ := at_T54 HR0.out x5_1 p150 q150
        obtain rfl : ad149 = ad150 := (by injection e150)
        replace p150 := eq_true p150
        replace q150 := eq_true q150
        have p151 : 0 ≤ (x5_1 : Int) := of_decide_eq_true Z4_2
        have q151 : x5_1 < (l0.length : Int) := of_decide_eq_true Z4_2
        obtain ⟨ad151, e151, hx151_0, hx151_1, hx151_2, hx151_3, hx151_4, hx151_5, hx151_6, hx151_7, hx151_8, hx151_9, hx151_10, hx151_11, hx151_12⟩ := at_T54 HR0.out x5_1 p151 q151
        obtain rfl : ad149 = ad151 := (by injection e151)
        replace p151 := eq_true p151
        replace q151 := eq_true q151
        have p152 : 0 ≤ (x5_1 : Int) := of_decide_eq_true Z4_2
        have q152 : x5_1 < (l0.length : Int) := of_decide_eq_true Z4_2
        obtain ⟨ad152, e152, hx152_0, hx152_1, hx152_2, hx152_3, hx152_4, hx152_5, hx152_6, hx152_7, hx152_8, hx152_9, hx152_10, hx152_11, hx152_12⟩ := at_T54 HR0.out x5_1 p152 q152
        obtain rfl : ad149 = ad152 := (by injection e152)
        replace p152 := eq_true p152
        replace q152 := eq_true q152
        have p153 : 0 ≤ (x5_1 : Int) := of_decide_eq_true Z4_2
        have q153 : x5_1 < (l0.length : Int) := of_decide_eq_true Z4_2
        obtain ⟨ad153, e153, hx153_0, hx153_1, hx153_2, hx153_3, hx153_4, hx153_5, hx153_6, hx153_7, hx153_8, hx153_9, hx153_10, hx153_11, hx153_12⟩ := at_T54 HR0.out x5_1 p153 q153
        obtain rfl : ad149 = ad153 := (by injection e153)
        replace p153 := eq_true p153
        replace q153 := eq_true q153
        have p154 : 0 ≤ (x5_1 : Int) := of_decide_eq_true Z4_2
        have q154 : x5_1 < (l0.length : Int) := of_decide_eq_true Z4_2
        obtain ⟨ad154, e154, hx154_0, hx154_1, hx154_2, hx154_3, hx154_4, hx154_5, hx154_6, hx154_7, hx154_8, hx154_9, hx154_10, hx154_11, hx154_12⟩ := at_T54 HR0.out x5_1 p154 q154
        obtain rfl : ad149 = ad154 := (by injection e154)
        replace p154 := eq_true p154
        replace q154 := eq_true q154
        go_wp2
        go_ret
        exact ⟨Z4_3, Z4_1⟩
      rw [if_pos c10] at H
      have c10b0 : (((rd_T54 l0 x5_1).f5) == (wrap64 ((wrap64 ((wrap64 ((wrap64 ((wrap64 (x1_1 + 1)) + 1)) + 1)) + 1)) + 1))) = true := beq_iff_eq.mpr c10
      have c10b1 : (((rd_T54 l0 x5_1).f5) != (wrap64 ((wrap64 ((wrap64 ((wrap64 ((wrap64 (x1_1 + 1)) + 1)) + 1)) + 1)) + 1))) = false := bne_eq_false_iff_eq.mpr c10
      clear c10
      by_cases c11 : ((rd_T54 l0 x5_1).f6) = (wrap64 ((wrap64 ((wrap64 ((wrap64 ((wrap64 ((wrap64 (x1_1 + 1)) + 1)) + 1)) + 1)) + 1)) + 1))
      rotate_left
      · rw [if_neg c11] at H
        have c11b0 : (((rd_T54 l0 x5_1).f6) == (wrap64 ((wrap64 ((wrap64 ((wrap64 ((wrap64 ((wrap64 (x1_1 + 1)) + 1)) + 1)) + 1)) + 1)) + 1))) = false := beq_eq_false_iff_ne.mpr c11
        have c11b1 : (((rd_T54 l0 x5_1).f6) != (wrap64 ((wrap64 ((wrap64 ((wrap64 ((wrap64 ((wrap64 (x1_1 + 1)) + 1)) + 1)) + 1)) + 1)) + 1))) = true := bne_iff_ne.mpr c11
        obtain rfl := Option.some.inj H
        have p149 : 0 ≤ (x5_1 : Int) := of_decide_eq_true Z4_2
        have q149 : x5_1 < (l0.length : Int) := of_decide_eq_true Z4_2
        obtain ⟨ad149, e149, hx149_0, hx149_1, hx149_2, hx149_3, hx149_4, hx149_5, hx149_6, hx149_7, hx149_8, hx149_9, hx149_10, hx149_11, hx149_12⟩ := at_T54 HR0.out x5_1 p149 q149
        cases e149
        replace p149 := eq_true p149
        replace q149 := eq_true q149
        have p150 : 0 ≤ (x5_1 : Int) := of_decide_eq_true Z4_2
        have q150 : x5_1 < (l0.length : Int) := of_decide_eq_true Z4_2
        obtain ⟨ad150, e150, hx150_0, hx150_1, hx150_2, hx150_3, hx150_4, hx150_5, hx150_6, hx150_7, hx150_8, hx150_9, hx150_10, hx150_11, hx150_12⟩ := at_T54 HR0.out x5_1 p150 q150
        obtain rfl : ad149 = ad150 := (by injection e150)
        replace p150 := eq_true p150
        replace q150 := eq_true q150
        have p151 : 0 ≤ (x5_1 : Int) := of_decide_eq_true Z4_2
        have q151 : x5_1 < (l0.length : Int) := of_decide_eq_true Z4_2
        obtain ⟨ad151, e151, hx151_0, hx151_1, hx151_2, hx151_3, hx151_4, hx151_5, hx151_6, hx151_7, hx151_8, hx151_9, hx151_10, hx151_11, hx151_12⟩ := at_T54 HR0.out x5_1 p151 q151
        obtain rfl : ad149 = ad151 := (by injection e151)
        replace p151 := eq_true p151
        replace q151 := eq_true q151
        have p152 : 0 ≤ (x5_1 : Int) := of_decide_eq_true Z4_2
        have q152 : x5_1 < (l0.length : Int) := of_decide_eq_true Z4_2
        obtain ⟨ad152, e152, hx152_0, hx152_1, hx152_2, hx152_3, hx152_4, hx152_5, hx152_6, hx152_7, hx152_8, hx152_9, hx152_10, hx152_11, hx152_12⟩ := at_T54 HR0.out x5_1 p152 q152
        obtain rfl : ad149 = ad152 := (by injection e152)
        replace p152 := eq_true p152
        replace q152 := eq_true q152
        have p153 : 0 ≤ (x5_1 : Int) := of_decide_eq_true Z4_2
        have q153 : x5_1 < (l0.length : Int) := of_decide_eq_true Z4_2
        obtain ⟨ad153, e153, hx153_0, hx153_1, hx153_2, hx153_3, hx153_4, hx153_5, hx153_6, hx153_7, hx153_8, hx153_9, hx153_10, hx153_11, hx153_12⟩ := at_T54 HR0.out x5_1 p153 q153
        obtain rfl : ad149 = ad153 := (by injection e153)
        replace p153 := eq_true p153
        replace q153 := eq_true q153
        have p154 : 0 ≤ (x5_1 : Int) := of_decide_eq_true Z4_2
        have q154 : x5_1 < (l0.length : Int) := of_decide_eq_true Z4_2
        obtain ⟨ad154, e154, hx154_0, hx154_1, hx154_2, hx154_3, hx154_4, hx154_5, hx154_6, hx154_7, hx154_8, hx154_9, hx154_10, hx154_11, hx154_12⟩ := at_T54 HR0.out x5_1 p154 q154
        obtain rfl : ad149 = ad154 := (by injection e154)
        replace p154 := eq_true p154
        replace q154 := eq_true q154
        have p155 : 0 ≤ (x5_1 : Int) := of_decide_eq_true Z4_2
        have q155 : x5_1 < (l0.length : Int) := of_decide_eq_true Z4_2
        obtain ⟨ad155, e155, hx155_0, hx155_1, hx155_2, hx155_3, hx155_4, hx155_5, hx155_6, hx155_7, hx155_8, hx155_9, hx155_10, hx155_11, hx155_12⟩ := at_T54 HR0.out x5_1 p155 q155
        obtain rfl : ad149 = ad155 := (by injection e155)
        replace p155 := eq_true p155
        replace q155 := eq_true q155
        go_wp2
        go_ret
        exact ⟨Z4_3, Z4_1⟩
      rw [if_pos c11] at H
      have c11b0 : (((rd_T54 l0 x5_1).f6) == (wrap64 ((wrap64 ((wrap64 ((wrap64 ((wrap64 ((wrap64 (x1_1 + 1)) + 1)) + 1)) + 1)) + 1)) + 1))) = true := beq_iff_eq.mpr c11
      have c11b1 : (((rd_T54 l0 x5_1).f6) != (wrap64 ((wrap64 ((wrap64 ((wrap64 ((wrap64 ((wrap64 (x1_1 + 1)) + 1)) + 1)) + 1)) + 1)) + 1))) = false := bne_eq_false_iff_eq.mpr c11
      clear c11
      by_cases c12 : ((rd_T54 l0 x5_1).f7) = (wrap64 ((wrap64 ((wrap64 ((wrap64 ((wrap64 ((wrap64 ((wrap64 (x1_1 + 1)) + 1)) + 1)) + 1)) + 1)) + 1)) + 1))
      rotate_left
      · rw [if_neg c12] at H
        have c12b0 : (((rd_T54 l0 x5_1).f7) == (wrap64 ((wrap64 ((wrap64 ((wrap64 ((wrap64 ((wrap64 ((wrap64 (x1_1 + 1)) + 1)) + 1)) + 1)) + 1)) + 1)) + 1))) = false := beq_eq_false_iff_ne.mpr c12
        have c12b1 : (((rd_T54 l0 x5_1).f7) != (wrap64 ((wrap64 ((wrap64 ((wrap64 ((wrap64 ((wrap64 ((wrap64 (x1_1 + 1)) + 1)) + 1)) + 1)) + 1)) + 1)) + 1))) = true := bne_iff_ne.mpr c12
        obtain rfl := Option.some.inj H
        have p149 : 0 ≤ (x5_1 : Int) := of_decide_eq_true Z4_2
        have q149 : x5_1 < (l0.length : Int) := of_decide_eq_true Z4_2
        obtain ⟨ad149, e149, hx149_0, hx149_1, hx149_2, hx149_3, hx149_4, hx149_5, hx149_6, hx149_7, hx149_8, hx149_9, hx149_10, hx149_11, hx149_12⟩ := at_T54 HR0.out x5_1 p149 q149
        cases e149
        replace p149 := eq_true p149
        replace q149 := eq_true q149
        have p150 : 0 ≤ (x5_1 : Int) := of_decide_eq_true Z4_2
        have q150 : x5_1 < (l0.length : Int) := of_decide_eq_true Z4_2
        obtain ⟨ad150, e150, hx150_0, hx150_1, hx150_2, hx150_3, hx150_4, hx150_5, hx150_6, hx150_7, hx150_8, hx150_9, hx150_10, hx150_11, hx150_12⟩ := at_T54 HR0.out x5_1 p150 q150
        obtain rfl : ad149 = ad150 := (by injection e150)
        replace p150 := eq_true p150
        replace q150 := eq_true q150
        have p151 : 0 ≤ (x5_1 : Int) := of_decide_eq_true Z4_2
        have q151 : x5_1 < (l0.length : Int) := of_decide_eq_true Z4_2
        obtain ⟨ad151, e151, hx151_0, hx151_1, hx151_2, hx151_3, hx151_4, hx151_5, hx151_6, hx151_7, hx151_8, hx151_9, hx151_10, hx151_11, hx151_12⟩ := at_T54 HR0.out x5_1 p151 q151
        obtain rfl : ad149 = ad151 := (by injection e151)
        replace p151 := eq_true p151
        replace q151 := eq_true q151
        have p152 : 0 ≤ (x5_1 : Int) := of_decide_eq_true Z4_2
        have q152 : x5_1 < (l0.length : Int) := of_decide_eq_true Z4_2
        obtain ⟨ad152, e152, hx152_0, hx152_1, hx152_2, hx152_3, hx152_4, hx152_5, hx152_6, hx152_7, hx152_8, hx152_9, hx152_10, hx152_11, hx152_12⟩ := at_T54 HR0.out x5_1 p152 q152
        obtain rfl : ad149 = ad152 := (by injection e152)
        replace p152 := eq_true p152
        replace q152 := eq_true q152
        have p153 : 0 ≤ (x5_1 : Int) := of_decide_eq_true Z4_2
        have q153 : x5_1 < (l0.length : Int) := of_decide_eq_true Z4_2
        obtain ⟨ad153, e153, hx153_0, hx153_1, hx153_2, hx153_3, hx153_4, hx153_5, hx153_6, hx153_7, hx153_8, hx153_9, hx153_10, hx153_11, hx153_12⟩ := at_T54 HR0.out x5_1 p153 q153
        obtain rfl : ad149 = ad153 := (by injection e153)
        replace p153 := eq_true p153
        replace q153 := eq_true q153
        have p154 : 0 ≤ (x5_1 : Int) := of_decide_eq_true Z4_2
        have q154 : x5_1 < (l0.length : Int) := of_decide_eq_true Z4_2
        obtain ⟨ad154, e154, hx154_0, hx154_1, hx154_2, hx154_3, hx154_4, hx154_5, hx154_6, hx154_7, hx154_8, hx154_9, hx154_10, hx154_11, hx154_12⟩ := at_T54 HR0.out x5_1 p154 q154
        obtain rfl : ad149 = ad154 := (by injection e154)
        replace p154 := eq_true p154
        replace q154 := eq_true q154
        have p155 : 0 ≤ (x5_1 : Int) := of_decide_eq_true Z4_2
        have q155 : x5_1 < (l0.length : Int) := of_decide_eq_true Z4_2
        obtain ⟨ad155, e155, hx155_0, hx155_1, hx155_2, hx155_3, hx155_4, hx155_5, hx155_6, hx155_7, hx155_8, hx155_9, hx155_10, hx155_11, hx155_12⟩ := at_T54 HR0.out x5_1 p155 q155
        obtain rfl : ad149 = ad155 := (by injection e155)
        replace p155 := eq_true p155
        replace q155 := eq_true q155
        have p156 : 0 ≤ (x5_1 : Int) := of_decide_eq_true Z4_2
        have q156 : x5_1 < (l0.length : Int) := of_decide_eq_true Z4_2
        obtain ⟨ad156, e156, hx156_0, hx156_1, hx156_2, hx156_3, hx156_4, hx156_5, hx156_6, hx156_7, hx156_8, hx156_9, hx156_10, hx156_11, hx156_12⟩ := at_T54 HR0.out x5_1 p156 q156
        obtain rfl : ad149 = ad156 := (by injection e156)
        replace p156 := eq_true p156
        replace q156 := eq_true q156
        go_wp2
        go_ret
        exact ⟨Z4_3, Z4_1⟩
      rw [if_pos c12] at H
      have c12b0 : (((rd_T54 l0 x5_1).f7) == (wrap64 ((wrap64 ((wrap64 ((wrap64 ((wrap64 ((wrap64 ((wrap64 (x1_1 + 1)) + 1)) + 1)) + 1)) + 1)) + 1)) + 1))) = true := beq_iff_eq.mpr c12
      have c12b1 : (((rd_T54 l0 x5_1).f7) != (wrap64 ((wrap64 ((wrap64 ((wrap64 ((wrap64 ((wrap64 ((wrap64 (x1_1 + 1)) + 1)) + 1)) + 1)) + 1)) + 1)) + 1))) = false := bne_eq_false_iff_eq.mpr c12
      clear c12
      by_cases c13 : ((rd_T54 l0 x5_1).f8) = (wrap64 ((wrap64 ((wrap64 ((wrap64 ((wrap64 ((wrap64 ((wrap64 ((wrap64 (x1_1 + 1)) + 1)) + 1)) + 1)) + 1)) + 1)) + 1)) + 1))
      rotate_left
      · rw [if_neg c13] at H
        have c13b0 : (((rd_T54 l0 x5_1).f8) == (wrap64 ((wrap64 ((wrap64 ((wrap64 ((wrap64 ((wrap64 ((wrap64 ((wrap64 (x1_1 + 1)) + 1)) + 1)) + 1)) + 1)) + 1)) + 1)) + 1))) = false := beq_eq_false_iff_ne.mpr c13
        have c13b1 : (((rd_T54 l0 x5_1).f8) != (wrap64 ((wrap64 ((wrap64 ((wrap64 ((wrap64 ((wrap64 ((wrap64 ((wrap64 (x1_1 + 1)) + 1)) + 1)) + 1)) + 1)) + 1)) + 1)) + 1))) = true := bne_iff_ne.mpr c13
        obtain rfl := Option.some.inj H
        have p149 : 0 ≤ (x5_1 : Int) := of_decide_eq_true Z4_2
        have q149 : x5_1 < (l0.length : Int) := of_decide_eq_true Z4_2
        obtain ⟨ad149, e149, hx149_0, hx149_1, hx149_2, hx149_3, hx149_4, hx149_5, hx149_6, hx149_7, hx149_8, hx149_9, hx149_10, hx149_11, hx149_12⟩ := at_T54 HR0.out x5_1 p149 q149
        cases e149
        replace p149 := eq_true p149
        replace q149 := eq_true q149
        have p150 : 0 ≤ (x5_1 : Int) := of_decide_eq_true Z4_2
        have q150 : x5_1 < (l0.length : Int) := of_decide_eq_true Z4_2
        obtain ⟨ad150, e150, hx150_0, hx150_1, hx150_2, hx150_3, hx150_4, hx150_5, hx150_6, hx150_7, hx150_8, hx150_9, hx150_10, hx150_11, hx150_12⟩ := at_T54 HR0.out x5_1 p150 q150
        obtain rfl : ad149 = ad150 := (by injection e150)
        replace p150 := eq_true p150
        replace q150 := eq_true q150
        have p151 : 0 ≤ (x5_1 : Int) := of_decide_eq_true Z4_2
        have q151 : x5_1 < (l0.length : Int) := of_decide_eq_true Z4_2
        obtain ⟨ad151, e151, hx151_0, hx151_1, hx151_2, hx151_3, hx151_4, hx151_5, hx151_6, hx151_7, hx151_8, hx151_9, hx151_10, hx151_11, hx151_12⟩ := at_T54 HR0.out x5_1 p151 q151
        obtain rfl : ad149 = ad151 := (by injection e151)
        replace p151 := eq_true p151
        replace q151 := eq_true q151
        have p152 : 0 ≤ (x5_1 : Int) := of_decide_eq_true Z4_2
        have q152 : x5_1 < (l0.length : Int) := of_decide_eq_true Z4_2
        obtain ⟨ad152, e152, hx152_0, hx152_1, hx152_2, hx152_3, hx152_4, hx152_5, hx152_6, hx152_7, hx152_8, hx152_9, hx152_10, hx152_11, hx152_12⟩ := at_T54 HR0.out x5_1 p152 q152
        obtain rfl : ad149 = ad152 := (by injection e152)
        replace p152 := eq_true p152
        replace q152 := eq_true q152
        have p153 : 0 ≤ (x5_1 : Int) := of_decide_eq_true Z4_2
        have q153 : x5_1 < (l0.length : Int) := of_decide_eq_true Z4_2
        obtain ⟨ad153, e153, hx153_0, hx153_1, hx153_2, hx153_3, hx153_4, hx153_5, hx153_6, hx153_7, hx153_8, hx153_9, hx153_10, hx153_11, hx153_12⟩ := at_T54 HR0.out x5_1 p153 q153
        obtain rfl : ad149 = ad153 := (by injection e153)
        replace p153 := eq_true p153
        replace q153 := eq_true q153
        have p154 : 0 ≤ (x5_1 : Int) := of_decide_eq_true Z4_2
        have q154 : x5_1 < (l0.length : Int) := of_decide_eq_true Z4_2
        obtain ⟨ad154, e154, hx154_0, hx154_1, hx154_2, hx154_3, hx154_4, hx154_5, hx154_6, hx154_7, hx154_8, hx154_9, hx154_10, hx154_11, hx154_12⟩ := at_T54 HR0.out x5_1 p154 q154
        obtain rfl : ad149 = ad154 := (by injection e154)
        replace p154 := eq_true p154
        replace q154 := eq_true q154
        have p155 : 0 ≤ (x5_1 : Int) := of_decide_eq_true Z4_2
        have q155 : x5_1 < (l0.length : Int) := of_decide_eq_true Z4_2
        obtain ⟨ad155, e155, hx155_0, hx155_1, hx155_2, hx155_3, hx155_4, hx155_5, hx155_6, hx155_7, hx155_8, hx155_9, hx155_10, hx155_11, hx155_12⟩ := at_T54 HR0.out x5_1 p155 q155
        obtain rfl : ad149 = ad155 := (by injection e155)
        replace p155 := eq_true p155
        replace q155 := eq_true q155
        have p156 : 0 ≤ (x5_1 : Int) := of_decide_eq_true Z4_2
        have q156 : x5_1 < (l0.length : Int) := of_decide_eq_true Z4_2
        obtain ⟨ad156, e156, hx156_0, hx156_1, hx156_2, hx156_3, hx156_4, hx156_5, hx156_6, hx156_7, hx156_8, hx156_9, hx156_10, hx156_11, hx156_12⟩ := at_T54 HR0.out x5_1 p156 q156
        obtain rfl : ad149 = ad156 := (by injection e156)
        replace p156 := eq_true p156
        replace q156 := eq_true q156
        have p157 : 0 ≤ (x5_1 : Int) := of_decide_eq_true Z4_2
        have q157 : x5_1 < (l0.length : Int) := of_decide_eq_true Z4_2
        obtain ⟨ad157, e157, hx157_0, hx157_1, hx157_2, hx157_3, hx157_4, hx157_5, hx157_6, hx157_7, hx157_8, hx157_9, hx157_10, hx157_11, hx157_12⟩ := at_T54 HR0.out x5_1 p157 q157
        obtain rfl : ad149 = ad157 := (by injection e157)
        replace p157 := eq_true p157
        replace q157 := eq_true q157
        go_wp2
        go_ret
        exact ⟨Z4_3, Z4_1⟩
      rw [if_pos c13] at H
      have c13b0 : (((rd_T54 l0 x5_1).f8) == (wrap64 ((wrap64 ((wrap64 ((wrap64 ((wrap64 ((wrap64 ((wrap64 ((wrap64 (x1_1 + 1)) + 1)) + 1)) + 1)) + 1)) + 1)) + 1)) + 1))) = true := beq_iff_eq.mpr c13
      have c13b1 : (((rd_T54 l0 x5_1).f8) != (wrap64 ((wrap64 ((wrap64 ((wrap64 ((wrap64 ((wrap64 ((wrap64 ((wrap64 (x1_1 + 1)) + 1)) + 1)) + 1)) + 1)) + 1)) + 1)) + 1))) = false := bne_eq_false_iff_eq.mpr c13
      clear c13
      by_cases c14 : ((rd_T54 l0 x5_1).f9) = (wrap64 ((wrap64 ((wrap64 ((wrap64 ((wrap64 ((wrap64 ((wrap64 ((wrap64 ((wrap64 (x1_1 + 1)) + 1)) + 1)) + 1)) + 1)) + 1)) + 1)) + 1)) + 1))
      rotate_left
      · rw [if_neg c14] at H
        have c14b0 : (((rd_T54 l0 x5_1).f9) == (wrap64 ((wrap64 ((wrap64 ((wrap64 ((wrap64 ((wrap64 ((wrap64 ((wrap64 ((wrap64 (x1_1 + 1)) + 1)) + 1)) + 1)) + 1)) + 1)) + 1)) + 1)) + 1))) = false := beq_eq_false_iff_ne.mpr c14
        have c14b1 : (((rd_T54 l0 x5_1).f9) != (wrap64 ((wrap64 ((wrap64 ((wrap64 ((wrap64 ((wrap64 ((wrap64 ((wrap64 ((wrap64 (x1_1 + 1)) + 1)) + 1)) + 1)) + 1)) + 1)) + 1)) + 1)) + 1))) = true := bne_iff_ne.mpr c14
        obtain rfl := Option.some.inj H
        have p149 : 0 ≤ (x5_1 : Int) := of_decide_eq_true Z4_2
        have q149 : x5_1 < (l0.length : Int) := of_decide_eq_true Z4_2
        obtain ⟨ad149, e149, hx149_0, hx149_1, hx149_2, hx149_3, hx149_4, hx149_5, hx149_6, hx149_7, hx149_8, hx149_9, hx149_10, hx149_11, hx149_12⟩ := at_T54 HR0.out x5_1 p149 q149
        cases e149
        replace p149 := eq_true p149
        replace q149 := eq_true q149
        have p150 : 0 ≤ (x5_1 : Int) := of_decide_eq_true Z4_2
        have q150 : x5_1 < (l0.length : Int) := of_decide_eq_true Z4_2
        obtain ⟨ad150, e150, hx150_0, hx150_1, hx150_2, hx150_3, hx150_4, hx150_5, hx150_6, hx150_7, hx150_8, hx150_9, hx150_10, hx150_11, hx150_12⟩ := at_T54 HR0.out x5_1 p150 q150
        obtain rfl : ad149 = ad150 := (by injection e150)
        replace p150 := eq_true p150
        replace q150 := eq_true q150
        have p151 : 0 ≤ (x5_1 : Int) := of_decide_eq_true Z4_2
        have q151 : x5_1 < (l0.length : Int) := of_decide_eq_true Z4_2
        obtain ⟨ad151, e151, hx151_0, hx151_1, hx151_2, hx151_3, hx151_4, hx151_5, hx151_6, hx151_7, hx151_8, hx151_9, hx151_10, hx151_11, hx151_12⟩ := at_T54 HR0.out x5_1 p151 q151
        obtain rfl : ad149 = ad151 := (by injection e151)
        replace p151 := eq_true p151
        replace q151 := eq_true q151
        have p152 : 0 ≤ (x5_1 : Int) := of_decide_eq_true Z4_2
        have q152 : x5_1 < (l0.length : Int) := of_decide_eq_true Z4_2
        obtain ⟨ad152, e152, hx152_0, hx152_1, hx152_2, hx152_3, hx152_4, hx152_5, hx152_6, hx152_7, hx152_8, hx152_9, hx152_10, hx152_11, hx152_12⟩ := at_T54 HR0.out x5_1 p152 q152
        obtain rfl : ad149 = ad152 := (by injection e152)
        replace p152 := eq_true p152
        replace q152 := eq_true q152
        have p153 : 0 ≤ (x5_1 : Int) := of_decide_eq_true Z4_2
        have q153 : x5_1 < (l0.length : Int) := of_decide_eq_true Z4_2
        obtain ⟨ad153, e153, hx153_0, hx153_1, hx153_2, hx153_3, hx153_4, hx153_5, hx153_6, hx153_7, hx153_8, hx153_9, hx153_10, hx153_11, hx153_12⟩ := at_T54 HR0.out x5_1 p153 q153
        obtain rfl : ad149 = ad153 := (by injection e153)
        replace p153 := eq_true p153
        replace q153 := eq_true q153
        have p154 : 0 ≤ (x5_1 : Int) := of_decide_eq_true Z4_2
        have q154 : x5_1 < (l0.length : Int) := of_decide_eq_true Z4_2
        obtain ⟨ad154, e154, hx154_0, hx154_1, hx154_2, hx154_3, hx154_4, hx154_5, hx154_6, hx154_7, hx154_8, hx154_9, hx154_10, hx154_11, hx154_12⟩ := at_T54 HR0.out x5_1 p154 q154
        obtain rfl : ad149 = ad154 := (by injection e154)
        replace p154 := eq_true p154
        replace q154 := eq_true q154
        have p155 : 0 ≤ (x5_1 : Int) := of_decide_eq_true Z4_2
        have q155 : x5_1 < (l0.length : Int) := of_decide_eq_true Z4_2
        obtain ⟨ad155, e155, hx155_0, hx155_1, hx155_2, hx155_3, hx155_4, hx155_5, hx155_6, hx155_7, hx155_8, hx155_9, hx155_10, hx155_11, hx155_12⟩ := at_T54 HR0.out x5_1 p155 q155
        obtain rfl : ad149 = ad155 := (by injection e155)
        replace p155 := eq_true p155
        replace q155 := eq_true q155
        have p156 : 0 ≤ (x5_1 : Int) := of_decide_eq_true Z4_2
        have q156 : x5_1 < (l0.length : Int) := of_decide_eq_true Z4_2
        obtain ⟨ad156, e156, hx156_0, hx156_1, hx156_2, hx156_3, hx156_4, hx156_5, hx156_6, hx156_7, hx156_8, hx156_9, hx156_10, hx156_11, hx156_12⟩ := at_T54 HR0.out x5_1 p156 q156
        obtain rfl : ad149 = ad156 := (by injection e156)
        replace p156 := eq_true p156
        replace q156 := eq_true q156
        have p157 : 0 ≤ (x5_1 : Int) := of_decide_eq_true Z4_2
        have q157 : x5_1 < (l0.length : Int) := of_decide_eq_true Z4_2
        obtain ⟨ad157, e157, hx157_0, hx157_1, hx157_2, hx157_3, hx157_4, hx157_5, hx157_6, hx157_7, hx157_8, hx157_9, hx157_10, hx157_11, hx157_12⟩ := at_T54 HR0.out x5_1 p157 q157
        obtain rfl : ad149 = ad157 := (by injection e157)
        replace p157 := eq_true p157
        replace q157 := eq_true q157
        have p158 : 0 ≤ (x5_1 : Int) := of_decide_eq_true Z4_2
        have q158 : x5_1 < (l0.length : Int) := of_decide_eq_true Z4_2
        obtain ⟨ad158, e158, hx158_0, hx158_1, hx158_2, hx158_3, hx158_4, hx158_5, hx158_6, hx158_7, hx158_8, hx158_9, hx158_10, hx158_11, hx158_12⟩ := at_T54 HR0.out x5_1 p158 q158
        obtain rfl : ad149 = ad158 := (by injection e158)
        replace p158 := eq_true p158
        replace q158 := eq_true q158
        go_wp2
        go_ret
        exact ⟨Z4_3, Z4_1⟩
      rw [if_pos c14] at H
      have c14b0 : (((rd_T54 l0 x5_1).f9) == (wrap64 ((wrap64 ((wrap64 ((wrap64 ((wrap64 ((wrap64 ((wrap64 ((wrap64 ((wrap64 (x1_1 + 1)) + 1)) + 1)) + 1)) + 1)) + 1)) + 1)) + 1)) + 1))) = true := beq_iff_eq.mpr c14
      have c14b1 : (((rd_T54 l0 x5_1).f9) != (wrap64 ((wrap64 ((wrap64 ((wrap64 ((wrap64 ((wrap64 ((wrap64 ((wrap64 ((wrap64 (x1_1 + 1)) + 1)) + 1)) + 1)) + 1)) + 1)) + 1)) + 1)) + 1))) = false := bne_eq_false_iff_eq.mpr c14
      clear c14
      by_cases c15 : ((rd_T54 l0 x5_1).f10) = (wrap64 ((wrap64 ((wrap64 ((wrap64 ((wrap64 ((wrap64 ((wrap64 ((wrap64 ((wrap64 ((wrap64 (x1_1 + 1)) + 1)) + 1)) + 1)) + 1)) + 1)) + 1)) + 1)) + 1)) + 1))
      rotate_left
      · rw [if_neg c15] at H
        have c15b0 : (((rd_T54 l0 x5_1).f10) == (wrap64 ((wrap64 ((wrap64 ((wrap64 ((wrap64 ((wrap64 ((wrap64 ((wrap64 ((wrap64 ((wrap64 (x1_1 + 1)) + 1)) + 1)) + 1)) + 1)) + 1)) + 1)) + 1)) + 1)) + 1))) = false := beq_eq_false_iff_ne.mpr c15
        have c15b1 : (((rd_T54 l0 x5_1).f10) != (wrap64 ((wrap64 ((wrap64 ((wrap64 ((wrap64 ((wrap64 ((wrap64 ((wrap64 ((wrap64 ((wrap64 (x1_1 + 1)) + 1)) + 1)) + 1)) + 1)) + 1)) + 1)) + 1)) + 1)) + 1))) = true := bne_iff_ne.mpr c15
        obtain rfl := Option.some.inj H
        have p149 : 0 ≤ (x5_1 : Int) := of_decide_eq_true Z4_2
        have q149 : x5_1 < (l0.length : Int) := of_decide_eq_true Z4_2
        obtain ⟨ad149, e149, hx149_0, hx149_1, hx149_2, hx149_3, hx149_4, hx149_5, hx149_6, hx149_7, hx149_8, hx149_9, hx149_10, hx149_11, hx149_12⟩ := at_T54 HR0.out x5_1 p149 q149
        cases e149
        replace p149 := eq_true p149
        replace q149 := eq_true q149
        have p150 : 0 ≤ (x5_1 : Int) := of_decide_eq_true Z4_2
        have q150 : x5_1 < (l0.length : Int) := of_decide_eq_true Z4_2
        obtain ⟨ad150, e150, hx150_0, hx150_1, hx150_2, hx150_3, hx150_4, hx150_5, hx150_6, hx150_7, hx150_8, hx150_9, hx150_10, hx150_11, hx150_12⟩ := at_T54 HR0.out x5_1 p150 q150
        obtain rfl : ad149 = ad150 := (by injection e150)
        replace p150 := eq_true p150
        replace q150 := eq_true q150
        have p151 : 0 ≤ (x5_1 : Int) := of_decide_eq_true Z4_2
        have q151 : x5_1 < (l0.length : Int) := of_decide_eq_true Z4_2
        obtain ⟨ad151, e151, hx151_0, hx151_1, hx151_2, hx151_3, hx151_4, hx151_5, hx151_6, hx151_7, hx151_8, hx151_9, hx151_10, hx151_11, hx151_12⟩ := at_T54 HR0.out x5_1 p151 q151
        obtain rfl : ad149 = ad151 := (by injection e151)
        replace p151 := eq_true p151
        replace q151 := eq_true q151
        have p152 : 0 ≤ (x5_1 : Int) := of_decide_eq_true Z4_2
        have q152 : x5_1 < (l0.length : Int) := of_decide_eq_true Z4_2
        obtain ⟨ad152, e152, hx152_0, hx152_1, hx152_2, hx152_3, hx152_4, hx152_5, hx152_6, hx152_7, hx152_8, hx152_9, hx152_10, hx152_11, hx152_12⟩ := at_T54 HR0.out x5_1 p152 q152
        obtain rfl : ad149 = ad152 := (by injection e152)
        replace p152 := eq_true p152
        replace q152 := eq_true q152
        have p153 : 0 ≤ (x5_1 : Int) := of_decide_eq_true Z4_2
        have q153 : x5_1 < (l0.length : Int) := of_decide_eq_true Z4_2
        obtain ⟨ad153, e153, hx153_0, hx153_1, hx153_2, hx153_3, hx153_4, hx153_5, hx153_6, hx153_7, hx153_8, hx153_9, hx153_10, hx153_11, hx153_12⟩ := at_T54 HR0.out x5_1 p153 q153
        obtain rfl : ad149 = ad153 := (by injection e153)
        replace p153 := eq_true p153
        replace q153 := eq_true q153
        have p154 : 0 ≤ (x5_1 : Int) := of_decide_eq_true Z4_2
        have q154 : x5_1 < (l0.length : Int) := of_decide_eq_true Z4_2
        obtain ⟨ad154, e154, hx154_0, hx154_1, hx154_2, hx154_3, hx154_4, hx154_5, hx154_6, hx154_7, hx154_8, hx154_9, hx154_10, hx154_11, hx154_12⟩ := at_T54 HR0.out x5_1 p154 q154
        obtain rfl : ad149 = ad154 := (by injection e154)
        replace p154 := eq_true p154
        replace q154 := eq_true q154
        have p155 : 0 ≤ (x5_1 : Int) := of_decide_eq_true Z4_2
        have q155 : x5_1 < (l0.length : Int) := of_decide_eq_true Z4_2
        obtain ⟨ad155, e155, hx155_0, hx155_1, hx155_2, hx155_3, hx155_4, hx155_5, hx155_6, hx155_7, hx155_8, hx155_9, hx155_10, hx155_11, hx155_12⟩ := at_T54 HR0.out x5_1 p155 q155
        obtain rfl : ad149 = ad155 := (by injection e155)
        replace p155 := eq_true p155
        replace q155 := eq_true q155
        have p156 : 0 ≤ (x5_1 : Int) := of_decide_eq_true Z4_2
        have q156 : x5_1 < (l0.length : Int) := of_decide_eq_true Z4_2
        obtain ⟨ad156, e156, hx156_0, hx156_1, hx156_2, hx156_3, hx156_4, hx156_5, hx156_6, hx156_7, hx156_8, hx156_9, hx156_10, hx156_11, hx156_12⟩ := at_T54 HR0.out x5_1 p156 q156
        obtain rfl : ad149 = ad156 := (by injection e156)
        replace p156 := eq_true p156
        replace q156 := eq_true q156
        have p157 : 0 ≤ (x5_1 : Int) := of_decide_eq_true Z4_2
        have q157 : x5_1 < (l0.length : Int) := of_decide_eq_true Z4_2
        obtain ⟨ad157, e157, hx157_0, hx157_1, hx157_2, hx157_3, hx157_4, hx157_5, hx157_6, hx157_7, hx157_8, hx157_9, hx157_10, hx157_11, hx157_12⟩ := at_T54 HR0.out x5_1 p157 q157
        obtain rfl : ad149 = ad157 := (by injection e157)
        replace p157 := eq_true p157
        replace q157 := eq_true q157
        have p158 : 0 ≤ (x5_1 : Int) := of_decide_eq_true Z4_2
        have q158 : x5_1 < (l0.length : Int) := of_decide_eq_true Z4_2
        obtain ⟨ad158, e158, hx158_0, hx158_1, hx158_2, hx158_3, hx158_4, hx158_5, hx158_6, hx158_7, hx158_8, hx158_9, hx158_10, hx158_11, hx158_12⟩ := at_T54 HR0.out x5_1 p158 q158
        obtain rfl : ad149 = ad158 := (by injection e158)
        replace p158 := eq_true p158
        replace q158 := eq_true q158
        have p159 : 0 ≤ (x5_1 : Int) := of_decide_eq_true Z4_2
        have q159 : x5_1 < (l0.length : Int) := of_decide_eq_true Z4_2
        obtain ⟨ad159, e159, hx159_0, hx159_1, hx159_2, hx159_3, hx159_4, hx159_5, hx159_6, hx159_7, hx159_8, hx159_9, hx159_10, hx159_11, hx159_12⟩ := at_T54 HR0.out x5_1 p159 q159
        obtain rfl : ad149 = ad159 := (by injection e159)
        replace p159 := eq_true p159
        replace q159 := eq_true q159
        go_wp2
        go_ret
        exact ⟨Z4_3, Z4_1⟩
      rw [if_pos c15] at H
      have c15b0 : (((rd_T54 l0 x5_1).f10) == (wrap64 ((wrap64 ((wrap64 ((wrap64 ((wrap64 ((wrap64 ((wrap64 ((wrap64 ((wrap64 ((wrap64 (x1_1 + 1)) + 1)) + 1)) + 1)) + 1)) + 1)) + 1)) + 1)) + 1)) + 1))) = true := beq_iff_eq.mpr c15
      have c15b1 : (((rd_T54 l0 x5_1).f10) != (wrap64 ((wrap64 ((wrap64 ((wrap64 ((wrap64 ((wrap64 ((wrap64 ((wrap64 ((wrap64 ((wrap64 (x1_1 + 1)) + 1)) + 1)) + 1)) + 1)) + 1)) + 1)) + 1)) + 1)) + 1))) = false := bne_eq_false_iff_eq.mpr c15
      clear c15
      by_cases c16 : (((rd_T54 l0 x5_1).f11) != ((Int.tmod (wrap64 ((wrap64 ((wrap64 ((wrap64 ((wrap64 ((wrap64 ((wrap64 ((wrap64 ((wrap64 ((wrap64 ((wrap64 (x1_1 + 1)) + 1)) + 1)) + 1)) + 1)) + 1)) + 1)) + 1)) + 1)) + 1)) + 1)) 3) == 0)) = true
      · rw [if_pos c16] at H
        have c16b0 : (((rd_T54 l0 x5_1).f11) != ((Int.tmod (wrap64 ((wrap64 ((wrap64 ((wrap64 ((wrap64 ((wrap64 ((wrap64 ((wrap64 ((wrap64 ((wrap64 ((wrap64 (x1_1 + 1)) + 1)) + 1)) + 1)) + 1)) + 1)) + 1)) + 1)) + 1)) + 1)) + 1)) 3) == 0)) = true := c16
        (try (have c16b1 : decide (((rd_T54 l0 x5_1).f11) = ((Int.tmod (wrap64 ((wrap64 ((wrap64 ((wrap64 ((wrap64 ((wrap64 ((wrap64 ((wrap64 ((wrap64 ((wrap64 ((wrap64 (x1_1 + 1)) + 1)) + 1)) + 1)) + 1)) + 1)) + 1)) + 1)) + 1)) + 1)) + 1)) 3) == 0)) = false := by simpa using c16))
        (try (have c16b2 : (((rd_T54 l0 x5_1).f11) == ((Int.tmod (wrap64 ((wrap64 ((wrap64 ((wrap64 ((wrap64 ((wrap64 ((wrap64 ((wrap64 ((wrap64 ((wrap64 ((wrap64 (x1_1 + 1)) + 1)) + 1)) + 1)) + 1)) + 1)) + 1)) + 1)) + 1)) + 1)) + 1)) 3) == 0)) = false := by simpa using c16))
        (try (have c16b3 : ¬ (((rd_T54 l0 x5_1).f11) = ((Int.tmod (wrap64 ((wrap64 ((wrap64 ((wrap64 ((wrap64 ((wrap64 ((wrap64 ((wrap64 ((wrap64 ((wrap64 ((wrap64 (x1_1 + 1)) + 1)) + 1)) + 1)) + 1)) + 1)) + 1)) + 1)) + 1)) + 1)) + 1)) 3) == 0)) := by simpa using c16))
        clear c16
        obtain rfl := Option.some.inj H
        have p149 : 0 ≤ (x5_1 : Int) := of_decide_eq_true Z4_2
        have q149 : x5_1 < (l0.length : Int) := of_decide_eq_true Z4_2
        obtain ⟨ad149, e149, hx149_0, hx149_1, hx149_2, hx149_3, hx149_4, hx149_5, hx149_6, hx149_7, hx149_8, hx149_9, hx149_10, hx149_11, hx149_12⟩ := at_T54 HR0.out x5_1 p149 q149
        cases e149
        replace p149 := eq_true p149
        replace q149 := eq_true q149
        have p150 : 0 ≤ (x5_1 : Int) := of_decide_eq_true Z4_2
        have q150 : x5_1 < (l0.length : Int) := of_decide_eq_true Z4_2
        obtain ⟨ad150, e150, hx150_0, hx150_1, hx150_2, hx150_3, hx150_4, hx150_5, hx150_6, hx150_7, hx150_8, hx150_9, hx150_10, hx150_11, hx150_12⟩ := at_T54 HR0.out x5_1 p150 q150
        obtain rfl : ad149 = ad150 := (by injection e150)
        replace p150 := eq_true p150
        replace q150 := eq_true q150
        have p151 : 0 ≤ (x5_1 : Int) := of_decide_eq_true Z4_2
        have q151 : x5_1 < (l0.length : Int) := of_decide_eq_true Z4_2
        obtain ⟨ad151, e151, hx151_0, hx151_1, hx151_2, hx151_3, hx151_4, hx151_5, hx151_6, hx151_7, hx151_8, hx151_9, hx151_10, hx151_11, hx151_12⟩ := at_T54 HR0.out x5_1 p151 q151
        obtain rfl : ad149 = ad151 := (by injection e151)
        replace p151 := eq_true p151
        replace q151 := eq_true q151
        have p152 : 0 ≤ (x5_1 : Int) := of_decide_eq_true Z4_2
        have q152 : x5_1 < (l0.length : Int) := of_decide_eq_true Z4_2
        obtain ⟨ad152, e152, hx152_0, hx152_1, hx152_2, hx152_3, hx152_4, hx152_5, hx152_6, hx152_7, hx152_8, hx152_9, hx152_10, hx152_11, hx152_12⟩ := at_T54 HR0.out x5_1 p152 q152
        obtain rfl : ad149 = ad152 := (by injection e152)
        replace p152 := eq_true p152
        replace q152 := eq_true q152
        have p153 : 0 ≤ (x5_1 : Int) := of_decide_eq_true Z4_2
        have q153 : x5_1 < (l0.length : Int) := of_decide_eq_true Z4_2
        obtain ⟨ad153, e153, hx153_0, hx153_1, hx153_2, hx153_3, hx153_4, hx153_5, hx153_6, hx153_7, hx153_8, hx153_9, hx153_10, hx153_11, hx153_12⟩ := at_T54 HR0.out x5_1 p153 q153
        obtain rfl : ad149 = ad153 := (by injection e153)
        replace p153 := eq_true p153
        replace q153 := eq_true q153
        have p154 : 0 ≤ (x5_1 : Int) := of_decide_eq_true Z4_2
        have q154 : x5_1 < (l0.length : Int) := of_decide_eq_true Z4_2
        obtain ⟨ad154, e154, hx154_0, hx154_1, hx154_2, hx154_3, hx154_4, hx154_5, hx154_6, hx154_7, hx154_8, hx154_9, hx154_10, hx154_11, hx154_12⟩ := at_T54 HR0.out x5_1 p154 q154
        obtain rfl : ad149 = ad154 := (by injection e154)
        replace p154 := eq_true p154
        replace q154 := eq_true q154
        have p155 : 0 ≤ (x5_1 : Int) := of_decide_eq_true Z4_2
        have q155 : x5_1 < (l0.length : Int) := of_decide_eq_true Z4_2
        obtain ⟨ad155, e155, hx155_0, hx155_1, hx155_2, hx155_3, hx155_4, hx155_5, hx155_6, hx155_7, hx155_8, hx155_9, hx155_10, hx155_11, hx155_12⟩ := at_T54 HR0.out x5_1 p155 q155
        obtain rfl : ad149 = ad155 := (by injection e155)
        replace p155 := eq_true p155
        replace q155 := eq_true q155
        have p156 : 0 ≤ (x5_1 : Int) := of_decide_eq_true Z4_2
        have q156 : x5_1 < (l0.length : Int) := of_decide_eq_true Z4_2
        obtain ⟨ad156, e156, hx156_0, hx156_1, hx156_2, hx156_3, hx156_4, hx156_5, hx156_6, hx156_7, hx156_8, hx156_9, hx156_10, hx156_11, hx156_12⟩ := at_T54 HR0.out x5_1 p156 q156
        obtain rfl : ad149 = ad156 := (by injection e156)
        replace p156 := eq_true p156
        replace q156 := eq_true q156
        have p157 : 0 ≤ (x5_1 : Int) := of_decide_eq_true Z4_2
        have q157 : x5_1 < (l0.length : Int) := of_decide_eq_true Z4_2
        obtain ⟨ad157, e157, hx157_0, hx157_1, hx157_2, hx157_3, hx157_4, hx157_5, hx157_6, hx157_7, hx157_8, hx157_9, hx157_10, hx157_11, hx157_12⟩ := at_T54 HR0.out x5_1 p157 q157
        obtain rfl : ad149 = ad157 := (by injection e157)
        replace p157 := eq_true p157
        replace q157 := eq_true q157
        have p158 : 0 ≤ (x5_1 : Int) := of_decide_eq_true Z4_2
        have q158 : x5_1 < (l0.length : Int) := of_decide_eq_true Z4_2
        obtain ⟨ad158, e158, hx158_0, hx158_1, hx158_2, hx158_3, hx158_4, hx158_5, hx158_6, hx158_7, hx158_8, hx158_9, hx158_10, hx158_11, hx158_12⟩ := at_T54 HR0.out x5_1 p158 q158
        obtain rfl : ad149 = ad158 := (by injection e158)
        replace p158 := eq_true p158
        replace q158 := eq_true q158
        have p159 : 0 ≤ (x5_1 : Int) := of_decide_eq_true Z4_2
        have q159 : x5_1 < (l0.length : Int) := of_decide_eq_true Z4_2
        obtain ⟨ad159, e159, hx159_0, hx159_1, hx159_2, hx159_3, hx159_4, hx159_5, hx159_6, hx159_7, hx159_8, hx159_9, hx159_10, hx159_11, hx159_12⟩ := at_T54 HR0.out x5_1 p159 q159
        obtain rfl : ad149 = ad159 := (by injection e159)
        replace p159 := eq_true p159
        replace q159 := eq_true q159
        have p160 : 0 ≤ (x5_1 : Int) := of_decide_eq_true Z4_2
        have q160 : x5_1 < (l0.length : Int) := of_decide_eq_true Z4_2
        obtain ⟨ad160, e160, hx160_0, hx160_1, hx160_2, hx160_3, hx160_4, hx160_5, hx160_6, hx160_7, hx160_8, hx160_9, hx160_10, hx160_11, hx160_12⟩ := at_T54 HR0.out x5_1 p160 q160
        obtain rfl : ad149 = ad160 := (by injection e160)
        replace p160 := eq_true p160
        replace q160 := eq_true q160
        go_wp2
        go_ret
        exact ⟨Z4_3, Z4_1⟩
      rw [if_neg c16] at H
      have c16b0 : (((rd_T54 l0 x5_1).f11) != ((Int.tmod (wrap64 ((wrap64 ((wrap64 ((wrap64 ((wrap64 ((wrap64 ((wrap64 ((wrap64 ((wrap64 ((wrap64 ((wrap64 (x1_1 + 1)) + 1)) + 1)) + 1)) + 1)) + 1)) + 1)) + 1)) + 1)) + 1)) + 1)) 3) == 0)) = false := by simpa using c16
      (try (have c16b1 : decide (((rd_T54 l0 x5_1).f11) = ((Int.tmod (wrap64 ((wrap64 ((wrap64 ((wrap64 ((wrap64 ((wrap64 ((wrap64 ((wrap64 ((wrap64 ((wrap64 ((wrap64 (x1_1 + 1)) + 1)) + 1)) + 1)) + 1)) + 1)) + 1)) + 1)) + 1)) + 1)) + 1)) 3) == 0)) = true := by simpa using c16))
      (try (have c16b2 : (((rd_T54 l0 x5_1).f11) == ((Int.tmod (wrap64 ((wrap64 ((wrap64 ((wrap64 ((wrap64 ((wrap64 ((wrap64 ((wrap64 ((wrap64 ((wrap64 ((wrap64 (x1_1 + 1)) + 1)) + 1)) + 1)) + 1)) + 1)) + 1)) + 1)) + 1)) + 1)) + 1)) 3) == 0)) = true := by simpa using c16))
      clear c16
      by_cases c17 : (((rd_T54 l0 x5_1).f12) != ((Int.tmod (wrap64 ((wrap64 ((wrap64 ((wrap64 ((wrap64 ((wrap64 ((wrap64 ((wrap64 ((wrap64 ((wrap64 ((wrap64 ((wrap64 (x1_1 + 1)) + 1)) + 1)) + 1)) + 1)) + 1)) + 1)) + 1)) + 1)) + 1)) + 1)) + 1)) 3) == 0)) = true
      · rw [if_pos c17] at H
        have c17b0 : (((rd_T54 l0 x5_1).f12) != ((Int.tmod (wrap64 ((wrap64 ((wrap64 ((wrap64 ((wrap64 ((wrap64 ((wrap64 ((wrap64 ((wrap64 ((wrap64 ((wrap64 ((wrap64 (x1_1 + 1)) + 1)) + 1)) + 1)) + 1)) + 1)) + 1)) + 1)) + 1)) + 1)) + 1)) + 1)) 3) == 0)) = true := c17
        (try (have c17b1 : decide (((rd_T54 l0 x5_1).f12) = ((Int.tmod (wrap64 ((wrap64 ((wrap64 ((wrap64 ((wrap64 ((wrap64 ((wrap64 ((wrap64 ((wrap64 ((wrap64 ((wrap64 ((wrap64 (x1_1 + 1)) + 1)) + 1)) + 1)) + 1)) + 1)) + 1)) + 1)) + 1)) + 1)) + 1)) + 1)) 3) == 0)) = false := by simpa using c17))
        (try (have c17b2 : (((rd_T54 l0 x5_1).f12) == ((Int.tmod (wrap64 ((wrap64 ((wrap64 ((wrap64 ((wrap64 ((wrap64 ((wrap64 ((wrap64 ((wrap64 ((wrap64 ((wrap64 ((wrap64 (x1_1 + 1)) + 1)) + 1)) + 1)) + 1)) + 1)) + 1)) + 1)) + 1)) + 1)) + 1)) + 1)) 3) == 0)) = false := by simpa using c17))
        (try (have c17b3 : ¬ (((rd_T54 l0 x5_1).f12) = ((Int.tmod (wrap64 ((wrap64 ((wrap64 ((wrap64 ((wrap64 ((wrap64 ((wrap64 ((wrap64 ((wrap64 ((wrap64 ((wrap64 ((wrap64 (x1_1 + 1)) + 1)) + 1)) + 1)) + 1)) + 1)) + 1)) + 1)) + 1)) + 1)) + 1)) + 1)) 3) == 0)) := by simpa using c17))
        clear c17
        obtain rfl := Option.some.inj H
        have p149 : 0 ≤ (x5_1 : Int) := of_decide_eq_true Z4_2
        have q149 : x5_1 < (l0.length : Int) := of_decide_eq_true Z4_2
        obtain ⟨ad149, e149, hx149_0, hx149_1, hx149_2, hx149_3, hx149_4, hx149_5, hx149_6, hx149_7, hx149_8, hx149_9, hx149_10, hx149_11, hx149_12⟩ := at_T54 HR0.out x5_1 p149 q149
        cases e149
        replace p149 := eq_true p149
        replace q149 := eq_true q149
        have p150 : 0 ≤ (x5_1 : Int) := of_decide_eq_true Z4_2
        have q150 : x5_1 < (l0.length : Int) := of_decide_eq_true Z4_2
        obtain ⟨ad150, e150, hx150_0, hx150_1, hx150_2, hx150_3, hx150_4, hx150_5, hx150_6, hx150_7, hx150_8, hx150_9, hx150_10, hx150_11, hx150_12⟩ := at_T54 HR0.out x5_1 p150 q150
        obtain rfl : ad149 = ad150 := (by injection e150)
        replace p150 := eq_true p150
        replace q150 := eq_true q150
        have p151 : 0 ≤ (x5_1 : Int) := of_decide_eq_true Z4_2
        have q151 : x5_1 < (l0.length : Int) := of_decide_eq_true Z4_2
        obtain ⟨ad151, e151, hx151_0, hx151_1, hx151_2, hx151_3, hx151_4, hx151_5, hx151_6, hx151_7, hx151_8, hx151_9, hx151_10, hx151_11, hx151_12⟩ := at_T54 HR0.out x5_1 p151 q151
        obtain rfl : ad149 = ad151 := (by injection e151)
        replace p151 := eq_true p151
        replace q151 := eq_true q151
        have p152 : 0 ≤ (x5_1 : Int) := of_decide_eq_true Z4_2
        have q152 : x5_1 < (l0.length : Int) := of_decide_eq_true Z4_2
        obtain ⟨ad152, e152, hx152_0, hx152_1, hx152_2, hx152_3, hx152_4, hx152_5, hx152_6, hx152_7, hx152_8, hx152_9, hx152_10, hx152_11, hx152_12⟩ := at_T54 HR0.out x5_1 p152 q152
        obtain rfl : ad149 = ad152 := (by injection e152)
        replace p152 := eq_true p152
        replace q152 := eq_true q152
        have p153 : 0 ≤ (x5_1 : Int) := of_decide_eq_true Z4_2
        have q153 : x5_1 < (l0.length : Int) := of_decide_eq_true Z4_2
        obtain ⟨ad153, e153, hx153_0, hx153_1, hx153_2, hx153_3, hx153_4, hx153_5, hx153_6, hx153_7, hx153_8, hx153_9, hx153_10, hx153_11, hx153_12⟩ := at_T54 HR0.out x5_1 p153 q153
        obtain rfl : ad149 = ad153 := (by injection e153)
        replace p153 := eq_true p153
        replace q153 := eq_true q153
        have p154 : 0 ≤ (x5_1 : Int) := of_decide_eq_true Z4_2
        have q154 : x5_1 < (l0.length : Int) := of_decide_eq_true Z4_2
        obtain ⟨ad154, e154, hx154_0, hx154_1, hx154_2, hx154_3, hx154_4, hx154_5, hx154_6, hx154_7, hx154_8, hx154_9, hx154_10, hx154_11, hx154_12⟩ := at_T54 HR0.out x5_1 p154 q154
        obtain rfl : ad149 = ad154 := (by injection e154)
        replace p154 := eq_true p154
        replace q154 := eq_true q154
        have p155 : 0 ≤ (x5_1 : Int) := of_decide_eq_true Z4_2
        have q155 : x5_1 < (l0.length : Int) := of_decide_eq_true Z4_2
        obtain ⟨ad155, e155, hx155_0, hx155_1, hx155_2, hx155_3, hx155_4, hx155_5, hx155_6, hx155_7, hx155_8, hx155_9, hx155_10, hx155_11, hx155_12⟩ := at_T54 HR0.out x5_1 p155 q155
        obtain rfl : ad149 = ad155 := (by injection e155)
        replace p155 := eq_true p155
        replace q155 := eq_true q155
        have p156 : 0 ≤ (x5_1 : Int) := of_decide_eq_true Z4_2
        have q156 : x5_1 < (l0.length : Int) := of_decide_eq_true Z4_2
        obtain ⟨ad156, e156, hx156_0, hx156_1, hx156_2, hx156_3, hx156_4, hx156_5, hx156_6, hx156_7, hx156_8, hx156_9, hx156_10, hx156_11, hx156_12⟩ := at_T54 HR0.out x5_1 p156 q156
        obtain rfl : ad149 = ad156 := (by injection e156)
        replace p156 := eq_true p156
        replace q156 := eq_true q156
        have p157 : 0 ≤ (x5_1 : Int) := of_decide_eq_true Z4_2
        have q157 : x5_1 < (l0.length : Int) := of_decide_eq_true Z4_2
        obtain ⟨ad157, e157, hx157_0, hx157_1, hx157_2, hx157_3, hx157_4, hx157_5, hx157_6, hx157_7, hx157_8, hx157_9, hx157_10, hx157_11, hx157_12⟩ := at_T54 HR0.out x5_1 p157 q157
        obtain rfl : ad149 = ad157 := (by injection e157)
        replace p157 := eq_true p157
        replace q157 := eq_true q157
        have p158 : 0 ≤ (x5_1 : Int) := of_decide_eq_true Z4_2
        have q158 : x5_1 < (l0.length : Int) := of_decide_eq_true Z4_2
        obtain ⟨ad158, e158, hx158_0, hx158_1, hx158_2, hx158_3, hx158_4, hx158_5, hx158_6, hx158_7, hx158_8, hx158_9, hx158_10, hx158_11, hx158_12⟩ := at_T54 HR0.out x5_1 p158 q158
        obtain rfl : ad149 = ad158 := (by injection e158)
        replace p158 := eq_true p158
        replace q158 := eq_true q158
        have p159 : 0 ≤ (x5_1 : Int) := of_decide_eq_true Z4_2
        have q159 : x5_1 < (l0.length : Int) := of_decide_eq_true Z4_2
        obtain ⟨ad159, e159, hx159_0, hx159_1, hx159_2, hx159_3, hx159_4, hx159_5, hx159_6, hx159_7, hx159_8, hx159_9, hx159_10, hx159_11, hx159_12⟩ := at_T54 HR0.out x5_1 p159 q159
        obtain rfl : ad149 = ad159 := (by injection e159)
        replace p159 := eq_true p159
        replace q159 := eq_true q159
        have p160 : 0 ≤ (x5_1 : Int) := of_decide_eq_true Z4_2
        have q160 : x5_1 < (l0.length : Int) := of_decide_eq_true Z4_2
        obtain ⟨ad160, e160, hx160_0, hx160_1, hx160_2, hx160_3, hx160_4, hx160_5, hx160_6, hx160_7, hx160_8, hx160_9, hx160_10, hx160_11, hx160_12⟩ := at_T54 HR0.out x5_1 p160 q160
        obtain rfl : ad149 = ad160 := (by injection e160)
        replace p160 := eq_true p160
        replace q160 := eq_true q160
        have p161 : 0 ≤ (x5_1 : Int) := of_decide_eq_true Z4_2
        have q161 : x5_1 < (l0.length : Int) := of_decide_eq_true Z4_2
        obtain ⟨ad161, e161, hx161_0, hx161_1, hx161_2, hx161_3, hx161_4, hx161_5, hx161_6, hx161_7, hx161_8, hx161_9, hx161_10, hx161_11, hx161_12⟩ := at_T54 HR0.out x5_1 p161 q161
        obtain rfl : ad149 = ad161 := (by injection e161)
        replace p161 := eq_true p161
        replace q161 := eq_true q161
        go_wp2
        go_ret
        exact ⟨Z4_3, Z4_1⟩
      rw [if_neg c17] at H
      have c17b0 : (((rd_T54 l0 x5_1).f12) != ((Int.tmod (wrap64 ((wrap64 ((wrap64 ((wrap64 ((wrap64 ((wrap64 ((wrap64 ((wrap64 ((wrap64 ((wrap64 ((wrap64 ((wrap64 (x1_1 + 1)) + 1)) + 1)) + 1)) + 1)) + 1)) + 1)) + 1)) + 1)) + 1)) + 1)) + 1)) 3) == 0)) = false := by simpa using c17
      (try (have c17b1 : decide (((rd_T54 l0 x5_1).f12) = ((Int.tmod (wrap64 ((wrap64 ((wrap64 ((wrap64 ((wrap64 ((wrap64 ((wrap64 ((wrap64 ((wrap64 ((wrap64 ((wrap64 ((wrap64 (x1_1 + 1)) + 1)) + 1)) + 1)) + 1)) + 1)) + 1)) + 1)) + 1)) + 1)) + 1)) + 1)) 3) == 0)) = true := by simpa using c17))
      (try (have c17b2 : (((rd_T54 l0 x5_1).f12) == ((Int.tmod (wrap64 ((wrap64 ((wrap64 ((wrap64 ((wrap64 ((wrap64 ((wrap64 ((wrap64 ((wrap64 ((wrap64 ((wrap64 ((wrap64 (x1_1 + 1)) + 1)) + 1)) + 1)) + 1)) + 1)) + 1)) + 1)) + 1)) + 1)) + 1)) + 1)) 3) == 0)) = true := by simpa using c17))
      clear c17
      have H' := Aside0.mk H
      clear H
      have p149 : 0 ≤ (x5_1 : Int) := of_decide_eq_true Z4_2
      have q149 : x5_1 < (l0.length : Int) := of_decide_eq_true Z4_2
      obtain ⟨ad149, e149, hx149_0, hx149_1, hx149_2, hx149_3, hx149_4, hx149_5, hx149_6, hx149_7, hx149_8, hx149_9, hx149_10, hx149_11, hx149_12⟩ := at_T54 HR0.out x5_1 p149 q149
      cases e149
      replace p149 := eq_true p149
      replace q149 := eq_true q149
      have p150 : 0 ≤ (x5_1 : Int) := of_decide_eq_true Z4_2
      have q150 : x5_1 < (l0.length : Int) := of_decide_eq_true Z4_2
      obtain ⟨ad150, e150, hx150_0, hx150_1, hx150_2, hx150_3, hx150_4, hx150_5, hx150_6, hx150_7, hx150_8, hx150_9, hx150_10, hx150_11, hx150_12⟩ := at_T54 HR0.out x5_1 p150 q150
      obtain rfl : ad149 = ad150 := (by injection e150)
      replace p150 := eq_true p150
      replace q150 := eq_true q150
      have p151 : 0 ≤ (x5_1 : Int) := of_decide_eq_true Z4_2
      have q151 : x5_1 < (l0.length : Int) := of_decide_eq_true Z4_2
      obtain ⟨ad151, e151, hx151_0, hx151_1, hx151_2, hx151_3, hx151_4, hx151_5, hx151_6, hx151_7, hx151_8, hx151_9, hx151_10, hx151_11, hx151_12⟩ := at_T54 HR0.out x5_1 p151 q151
      obtain rfl : ad149 = ad151 := (by injection e151)
      replace p151 := eq_true p151
      replace q151 := eq_true q151
      have p152 : 0 ≤ (x5_1 : Int) := of_decide_eq_true Z4_2
      have q152 : x5_1 < (l0.length : Int) := of_decide_eq_true Z4_2
      obtain ⟨ad152, e152, hx152_0, hx152_1, hx152_2, hx152_3, hx152_4, hx152_5, hx152_6, hx152_7, hx152_8, hx152_9, hx152_10, hx152_11, hx152_12⟩ := at_T54 HR0.out x5_1 p152 q152
      obtain rfl : ad149 = ad152 := (by injection e152)
      replace p152 := eq_true p152
      replace q152 := eq_true q152
      have p153 : 0 ≤ (x5_1 : Int) := of_decide_eq_true Z4_2
      have q153 : x5_1 < (l0.length : Int) := of_decide_eq_true Z4_2
      obtain ⟨ad153, e153, hx153_0, hx153_1, hx153_2, hx153_3, hx153_4, hx153_5, hx153_6, hx153_7, hx153_8, hx153_9, hx153_10, hx153_11, hx153_12⟩ := at_T54 HR0.out x5_1 p153 q153
      obtain rfl : ad149 = ad153 := (by injection e153)
      replace p153 := eq_true p153
      replace q153 := eq_true q153
      have p154 : 0 ≤ (x5_1 : Int) := of_decide_eq_true Z4_2
      have q154 : x5_1 < (l0.length : Int) := of_decide_eq_true Z4_2
      obtain ⟨ad154, e154, hx154_0, hx154_1, hx154_2, hx154_3, hx154_4, hx154_5, hx154_6, hx154_7, hx154_8, hx154_9, hx154_10, hx154_11, hx154_12⟩ := at_T54 HR0.out x5_1 p154 q154
      obtain rfl : ad149 = ad154 := (by injection e154)
      replace p154 := eq_true p154
      replace q154 := eq_true q154
      have p155 : 0 ≤ (x5_1 : Int) := of_decide_eq_true Z4_2
      have q155 : x5_1 < (l0.length : Int) := of_decide_eq_true Z4_2
      obtain ⟨ad155, e155, hx155_0, hx155_1, hx155_2, hx155_3, hx155_4, hx155_5, hx155_6, hx155_7, hx155_8, hx155_9, hx155_10, hx155_11, hx155_12⟩ := at_T54 HR0.out x5_1 p155 q155
      obtain rfl : ad149 = ad155 := (by injection e155)
      replace p155 := eq_true p155
      replace q155 := eq_true q155
      have p156 : 0 ≤ (x5_1 : Int) := of_decide_eq_true Z4_2
      have q156 : x5_1 < (l0.length : Int) := of_decide_eq_true Z4_2
      obtain ⟨ad156, e156, hx156_0, hx156_1, hx156_2, hx156_3, hx156_4, hx156_5, hx156_6, hx156_7, hx156_8, hx156_9, hx156_10, hx156_11, hx156_12⟩ := at_T54 HR0.out x5_1 p156 q156
      obtain rfl : ad149 = ad156 := (by injection e156)
      replace p156 := eq_true p156
      replace q156 := eq_true q156
      have p157 : 0 ≤ (x5_1 : Int) := of_decide_eq_true Z4_2
      have q157 : x5_1 < (l0.length : Int) := of_decide_eq_true Z4_2
      obtain ⟨ad157, e157, hx157_0, hx157_1, hx157_2, hx157_3, hx157_4, hx157_5, hx157_6, hx157_7, hx157_8, hx157_9, hx157_10, hx157_11, hx157_12⟩ := at_T54 HR0.out x5_1 p157 q157
      obtain rfl : ad149 = ad157 := (by injection e157)
      replace p157 := eq_true p157
      replace q157 := eq_true q157
      have p158 : 0 ≤ (x5_1 : Int) := of_decide_eq_true Z4_2
      have q158 : x5_1 < (l0.length : Int) := of_decide_eq_true Z4_2
      obtain ⟨ad158, e158, hx158_0, hx158_1, hx158_2, hx158_3, hx158_4, hx158_5, hx158_6, hx158_7, hx158_8, hx158_9, hx158_10, hx158_11, hx158_12⟩ := at_T54 HR0.out x5_1 p158 q158
      obtain rfl : ad149 = ad158 := (by injection e158)
      replace p158 := eq_true p158
      replace q158 := eq_true q158
      have p159 : 0 ≤ (x5_1 : Int) := of_decide_eq_true Z4_2
      have q159 : x5_1 < (l0.length : Int) := of_decide_eq_true Z4_2
      obtain ⟨ad159, e159, hx159_0, hx159_1, hx159_2, hx159_3, hx159_4, hx159_5, hx159_6, hx159_7, hx159_8, hx159_9, hx159_10, hx159_11, hx159_12⟩ := at_T54 HR0.out x5_1 p159 q159
      obtain rfl : ad149 = ad159 := (by injection e159)
      replace p159 := eq_true p159
      replace q159 := eq_true q159
      have p160 : 0 ≤ (x5_1 : Int) := of_decide_eq_true Z4_2
      have q160 : x5_1 < (l0.length : Int) := of_decide_eq_true Z4_2
      obtain ⟨ad160, e160, hx160_0, hx160_1, hx160_2, hx160_3, hx160_4, hx160_5, hx160_6, hx160_7, hx160_8, hx160_9, hx160_10, hx160_11, hx160_12⟩ := at_T54 HR0.out x5_1 p160 q160
      obtain rfl : ad149 = ad160 := (by injection e160)
      replace p160 := eq_true p160
      replace q160 := eq_true q160
      have p161 : 0 ≤ (x5_1 : Int) := of_decide_eq_true Z4_2
      have q161 : x5_1 < (l0.length : Int) := of_decide_eq_true Z4_2
      obtain ⟨ad161, e161, hx161_0, hx161_1, hx161_2, hx161_3, hx161_4, hx161_5, hx161_6, hx161_7, hx161_8, hx161_9, hx161_10, hx161_11, hx161_12⟩ := at_T54 HR0.out x5_1 p161 q161
      obtain rfl : ad149 = ad161 := (by injection e161)
      replace p161 := eq_true p161
      replace q161 := eq_true q161
      go_wp2
      go_roundg k1
      case measure => have := HK1.out; omega
      case rel => exact ⟨(wrap64 ((wrap64 ((wrap64 ((wrap64 ((wrap64 ((wrap64 ((wrap64 ((wrap64 ((wrap64 ((wrap64 ((wrap64 ((wrap64 ((wrap64 (x1_1 + 1)) + 1)) + 1)) + 1)) + 1)) + 1)) + 1)) + 1)) + 1)) + 1)) + 1)) + 1)) + 1)), (wrap64 (x5_1 + 1)), Z4_3, Z4_3, H', ⟨(by have := HK1.out; omega)⟩, Z4_1⟩

end Go.Proofs.Ytfpbbikhcnpceaa.QFnExactStateNew
