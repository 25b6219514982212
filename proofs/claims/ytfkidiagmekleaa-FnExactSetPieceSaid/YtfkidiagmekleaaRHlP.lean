-- Written by a program of this session (patch_print.py over the print).
import Derived.Test.YtfkidiagmekleaaQAllx0
namespace Go.Proofs.Ytfkidiagmekleaa.QAll
open Go.RowKit Go.Proofs.YtfkidiagmekleaaW.PrintWords Go.Proofs.YtfkidiagmekleaaW.PrintLast Go.Proofs.YtfkidiagmekleaaW.PrintMore
attribute [local go_sem] max2_int min2_int max_two min_two max_three min_three max_four min_four   -- for this text's walks alone
set_option linter.unusedVariables false
set_option linter.unusedSimpArgs false

theorem Z47_1 {p : Prop} (h : p := by repeat (first | exact Drawn0.refl _ | apply Drawn0.step)) : p := h
theorem Z47_2 {p : Prop} (h : p := by first | (with_reducible assumption) | assumption) : p := h
theorem Z47_3 {p : Prop} (h : p := by first | rfl | (simp; done) | (simp [*]; done)) : p := h
/-! ### laws_heldPieceS: function 121 -/
def laws_heldPieceS.l0 : Nat → List (S25) → Int → Int → Option (Int)
  | 0, _, _, _ => none
  | k + 1, x0, x1, x5 => if x5 < (x0.length : Int) then (if 0 ≤ x5 then (if ((rd_T25 x0 x5).f0) = x1 then (if ((rd_T25 x0 x5).f1) = (wrap64 (x1 + 1)) then (if ((rd_T25 x0 x5).f2) = (wrap64 ((wrap64 (x1 + 1)) + 1)) then (if ((rd_T25 x0 x5).f3) = (wrap64 ((wrap64 ((wrap64 (x1 + 1)) + 1)) + 1)) then (if ((rd_T25 x0 x5).f4) = (wrap64 ((wrap64 ((wrap64 ((wrap64 (x1 + 1)) + 1)) + 1)) + 1)) then (if ((rd_T25 x0 x5).f5) = (wrap64 ((wrap64 ((wrap64 ((wrap64 ((wrap64 (x1 + 1)) + 1)) + 1)) + 1)) + 1)) then (if ((rd_T25 x0 x5).f6) = (wrap64 ((wrap64 ((wrap64 ((wrap64 ((wrap64 ((wrap64 (x1 + 1)) + 1)) + 1)) + 1)) + 1)) + 1)) then (if ((rd_T25 x0 x5).f7) = (wrap64 ((wrap64 ((wrap64 ((wrap64 ((wrap64 ((wrap64 ((wrap64 (x1 + 1)) + 1)) + 1)) + 1)) + 1)) + 1)) + 1)) then (if ((rd_T25 x0 x5).f8) = (wrap64 ((wrap64 ((wrap64 ((wrap64 ((wrap64 ((wrap64 ((wrap64 ((wrap64 (x1 + 1)) + 1)) + 1)) + 1)) + 1)) + 1)) + 1)) + 1)) then (if ((rd_T25 x0 x5).f9) = (wrap64 ((wrap64 ((wrap64 ((wrap64 ((wrap64 ((wrap64 ((wrap64 ((wrap64 ((wrap64 (x1 + 1)) + 1)) + 1)) + 1)) + 1)) + 1)) + 1)) + 1)) + 1)) then (if ((rd_T25 x0 x5).f10) = (wrap64 ((wrap64 ((wrap64 ((wrap64 ((wrap64 ((wrap64 ((wrap64 ((wrap64 ((wrap64 ((wrap64 (x1 + 1)) + 1)) + 1)) + 1)) + 1)) + 1)) + 1)) + 1)) + 1)) + 1)) then (if (((rd_T25 x0 x5).f11) != ((Int.tmod (wrap64 ((wrap64 ((wrap64 ((wrap64 ((wrap64 ((wrap64 ((wrap64 ((wrap64 ((wrap64 ((wrap64 ((wrap64 (x1 + 1)) + 1)) + 1)) + 1)) + 1)) + 1)) + 1)) + 1)) + 1)) + 1)) + 1)) 3) == 0)) = true then (some (-1)) else (if (((rd_T25 x0 x5).f12) != ((Int.tmod (wrap64 ((wrap64 ((wrap64 ((wrap64 ((wrap64 ((wrap64 ((wrap64 ((wrap64 ((wrap64 ((wrap64 ((wrap64 ((wrap64 (x1 + 1)) + 1)) + 1)) + 1)) + 1)) + 1)) + 1)) + 1)) + 1)) + 1)) + 1)) + 1)) 3) == 0)) = true then (some (-1)) else (laws_heldPieceS.l0 k x0 (wrap64 ((wrap64 ((wrap64 ((wrap64 ((wrap64 ((wrap64 ((wrap64 ((wrap64 ((wrap64 ((wrap64 ((wrap64 ((wrap64 ((wrap64 (x1 + 1)) + 1)) + 1)) + 1)) + 1)) + 1)) + 1)) + 1)) + 1)) + 1)) + 1)) + 1)) + 1)) (wrap64 (x5 + 1))))) else (some (-1))) else (some (-1))) else (some (-1))) else (some (-1))) else (some (-1))) else (some (-1))) else (some (-1))) else (some (-1))) else (some (-1))) else (some (-1))) else (some (-1))) else (none)) else (some x1)
def laws_heldPieceS.f (k : Nat) (l0 : List (S25)) (a1 : Int) : Option (Int) := laws_heldPieceS.l0 k l0 a1 0
theorem laws_heldPieceS.mono_l : ∀ k, (∀ y0 y1 y2, LeO (laws_heldPieceS.l0 k y0 y1 y2) (laws_heldPieceS.l0 (k + 1) y0 y1 y2))
  | 0 => fun _ _ _ r h => by simp [laws_heldPieceS.l0] at h
  | k + 1 => by
    have ih0 := laws_heldPieceS.mono_l k
    · intro y0 y1 y2
      unfold laws_heldPieceS.l0
      repeat' first
      | (with_reducible exact ih0 _ _ _)
      | (with_reducible exact LeO.refl _)
      | (with_reducible exact LeO.none _)
      | (with_reducible refine LeO.ite ?_ ?_)
      | (with_reducible refine LeO.bind ?_ (fun _ => ?_))
      | exact ih0 _ _ _
      | exact LeO.none _
      | refine LeO.ite ?_ ?_
      | refine LeO.bind ?_ (fun _ => ?_)
theorem laws_heldPieceS.mono : ∀ a0 a1 k, LeO (laws_heldPieceS.f k a0 a1) (laws_heldPieceS.f (k + 1) a0 a1) := by
  intro a0 a1 k
  have ih0 := laws_heldPieceS.mono_l k
  unfold laws_heldPieceS.f
  repeat' first
      | (with_reducible exact ih0 _ _ _)
      | (with_reducible exact LeO.refl _)
      | (with_reducible exact LeO.none _)
      | (with_reducible refine LeO.ite ?_ ?_)
      | (with_reducible refine LeO.bind ?_ (fun _ => ?_))
      | exact ih0 _ _ _
      | exact LeO.none _
      | refine LeO.ite ?_ ?_
      | refine LeO.bind ?_ (fun _ => ?_)
set_option maxHeartbeats 8000000 in
set_option maxRecDepth 100000 in
theorem laws_heldPieceS.calls (k : Nat) (A0 : Option Addr) (c0 : Nat) (l0 : List (S25)) (a1 : Int) (r : Int) (w : World) (hr0 : Kd.C k25 w A0 l0.length l0) (hc0 : l0.length ≤ c0) (h : laws_heldPieceS.f k l0 a1 = some r) :
    Calls Try.prog 121 #[.slice A0 l0.length c0, .int .i64 a1] w fun e w' => e = .returned (.int .i64 r) ∧ Drawn0 w w' := by
  have HR0 := Aside0.mk hr0
  have HC0 := Aside0.mk hc0
  clear hr0 hc0
  have H : (laws_heldPieceS.l0 k l0 a1 0) = some r := h
  clear h
  have H' := Aside0.mk H
  clear H
  go_enter Try.func121, Try.ntmps121
  go_wp2
  go_loopg [1, 5] k (fun kq v1 v5 w' => ∃ (x1_1 : Int) (x5_1 : Int), v1 = .int .i64 x1_1 ∧ v5 = .int .i64 x5_1 ∧ Aside0 (laws_heldPieceS.l0 kq l0 x1_1 x5_1 = some r) ∧ Aside0 (kq ≤ k) ∧ Drawn0 w w')
  case atStart => exact ⟨(a1), (0), Z47_3, Z47_3, H', ⟨Nat.le_refl _⟩, Z47_1⟩
  case round =>
    clear H'
    try clear c1
    try clear p2
    obtain ⟨x1_1, x5_1, rfl, rfl, HA, HK1, ⟨m1, rfl⟩⟩ := hrel
    cases gk with
    | zero => exact absurd HA.out (by simp [laws_heldPieceS.l0])
    | succ k1 =>
      have H := HA.out
      clear HA
      simp only [laws_heldPieceS.l0] at H
      by_cases c3 : x5_1 < (l0.length : Int)
      rotate_left
      · rw [if_neg c3] at H
        have c3b0 : decide (x5_1 < (l0.length : Int)) = false := decide_eq_false c3
        clear c3
        obtain rfl := Option.some.inj H
        go_wp2
        go_ret
        exact ⟨Z47_3, Z47_1⟩
      rw [if_pos c3] at H
      have c3b0 : decide (x5_1 < (l0.length : Int)) = true := decide_eq_true c3
      clear c3
      by_cases c4 : 0 ≤ x5_1
      rotate_left
      · rw [if_neg c4] at H
        exact absurd H (by simp)
      rw [if_pos c4] at H
      have c4b0 : decide (0 ≤ x5_1) = true := decide_eq_true c4
      clear c4
      by_cases c5 : ((rd_T25 l0 x5_1).f0) = x1_1
      rotate_left
      · rw [if_neg c5] at H
        have c5b0 : (((rd_T25 l0 x5_1).f0) == x1_1) = false := beq_eq_false_iff_ne.mpr c5
        have c5b1 : (((rd_T25 l0 x5_1).f0) != x1_1) = true := bne_iff_ne.mpr c5
        obtain rfl := Option.some.inj H
        have p1305 : 0 ≤ (x5_1 : Int) := of_decide_eq_true Z47_2
        have q1305 : x5_1 < (l0.length : Int) := of_decide_eq_true Z47_2
        obtain ⟨ad1305, e1305, hx1305_0, hx1305_1, hx1305_2, hx1305_3, hx1305_4, hx1305_5, hx1305_6, hx1305_7, hx1305_8, hx1305_9, hx1305_10, hx1305_11, hx1305_12⟩ := at_T25 HR0.out x5_1 p1305 q1305
        cases e1305
        replace p1305 := eq_true p1305
        replace q1305 := eq_true q1305
        go_wp2
        go_ret
        exact ⟨Z47_3, Z47_1⟩
      rw [if_pos c5] at H
      have c5b0 : (((rd_T25 l0 x5_1).f0) == x1_1) = true := beq_iff_eq.mpr c5
      have c5b1 : (((rd_T25 l0 x5_1).f0) != x1_1) = false := bne_eq_false_iff_eq.mpr c5
      clear c5
      by_cases c6 : ((rd_T25 l0 x5_1).f1) = (wrap64 (x1_1 + 1))
      rotate_left
      · rw [if_neg c6] at H
        have c6b0 : (((rd_T25 l0 x5_1).f1) == (wrap64 (x1_1 + 1))) = false := beq_eq_false_iff_ne.mpr c6
        have c6b1 : (((rd_T25 l0 x5_1).f1) != (wrap64 (x1_1 + 1))) = true := bne_iff_ne.mpr c6
        obtain rfl := Option.some.inj H
        have p1305 : 0 ≤ (x5_1 : Int) := of_decide_eq_true Z47_2
        have q1305 : x5_1 < (l0.length : Int) := of_decide_eq_true Z47_2
        obtain ⟨ad1305, e1305, hx1305_0, hx1305_1, hx1305_2, hx1305_3, hx1305_4, hx1305_5, hx1305_6, hx1305_7, hx1305_8, hx1305_9, hx1305_10, hx1305_11, hx1305_12⟩ := at_T25 HR0.out x5_1 p1305 q1305
        cases e1305
        replace p1305 := eq_true p1305
        replace q1305 := eq_true q1305
        go_wp2
        go_ret
        exact ⟨Z47_3, Z47_1⟩
      rw [if_pos c6] at H
      have c6b0 : (((rd_T25 l0 x5_1).f1) == (wrap64 (x1_1 + 1))) = true := beq_iff_eq.mpr c6
      have c6b1 : (((rd_T25 l0 x5_1).f1) != (wrap64 (x1_1 + 1))) = false := bne_eq_false_iff_eq.mpr c6
      clear c6
      by_cases c7 : ((rd_T25 l0 x5_1).f2) = (wrap64 ((wrap64 (x1_1 + 1)) + 1))
      rotate_left
      · rw [if_neg c7] at H
        have c7b0 : (((rd_T25 l0 x5_1).f2) == (wrap64 ((wrap64 (x1_1 + 1)) + 1))) = false := beq_eq_false_iff_ne.mpr c7
        have c7b1 : (((rd_T25 l0 x5_1).f2) != (wrap64 ((wrap64 (x1_1 + 1)) + 1))) = true := bne_iff_ne.mpr c7
        obtain rfl := Option.some.inj H
        have p1305 : 0 ≤ (x5_1 : Int) := of_decide_eq_true Z47_2
        have q1305 : x5_1 < (l0.length : Int) := of_decide_eq_true Z47_2
        obtain ⟨ad1305, e1305, hx1305_0, hx1305_1, hx1305_2, hx1305_3, hx1305_4, hx1305_5, hx1305_6, hx1305_7, hx1305_8, hx1305_9, hx1305_10, hx1305_11, hx1305_12⟩ := at_T25 HR0.out x5_1 p1305 q1305
        cases e1305
        replace p1305 := eq_true p1305
        replace q1305 := eq_true q1305
        go_wp2
        go_ret
        exact ⟨Z47_3, Z47_1⟩
      rw [if_pos c7] at H
      have c7b0 : (((rd_T25 l0 x5_1).f2) == (wrap64 ((wrap64 (x1_1 + 1)) + 1))) = true := beq_iff_eq.mpr c7
      have c7b1 : (((rd_T25 l0 x5_1).f2) != (wrap64 ((wrap64 (x1_1 + 1)) + 1))) = false := bne_eq_false_iff_eq.mpr c7
      clear c7
      by_cases c8 : ((rd_T25 l0 x5_1).f3) = (wrap64 ((wrap64 ((wrap64 (x1_1 + 1)) + 1)) + 1))
      rotate_left
      · rw [if_neg c8] at H
        have c8b0 : (((rd_T25 l0 x5_1).f3) == (wrap64 ((wrap64 ((wrap64 (x1_1 + 1)) + 1)) + 1))) = false := beq_eq_false_iff_ne.mpr c8
        have c8b1 : (((rd_T25 l0 x5_1).f3) != (wrap64 ((wrap64 ((wrap64 (x1_1 + 1)) + 1)) + 1))) = true := bne_iff_ne.mpr c8
        obtain rfl := Option.some.inj H
        have p1305 : 0 ≤ (x5_1 : Int) := of_decide_eq_true Z47_2
        have q1305 : x5_1 < (l0.length : Int) := of_decide_eq_true Z47_2
        obtain ⟨ad1305, e1305, hx1305_0, hx1305_1, hx1305_2, hx1305_3, hx1305_4, hx1305_5, hx1305_6, hx1305_7, hx1305_8, hx1305_9, hx1305_10, hx1305_11, hx1305_12⟩ := at_T25 HR0.out x5_1 p1305 q1305
        cases e1305
        replace p1305 := eq_true p1305
        replace q1305 := eq_true q1305
        go_wp2
        go_ret
        exact ⟨Z47_3, Z47_1⟩
      rw [if_pos c8] at H
      have c8b0 : (((rd_T25 l0 x5_1).f3) == (wrap64 ((wrap64 ((wrap64 (x1_1 + 1)) + 1)) + 1))) = true := beq_iff_eq.mpr c8
      have c8b1 : (((rd_T25 l0 x5_1).f3) != (wrap64 ((wrap64 ((wrap64 (x1_1 + 1)) + 1)) + 1))) = false := bne_eq_false_iff_eq.mpr c8
      clear c8
      by_cases c9 : ((rd_T25 l0 x5_1).f4) = (wrap64 ((wrap64 ((wrap64 ((wrap64 (x1_1 + 1)) + 1)) + 1)) + 1))
      rotate_left
      · rw [if_neg c9] at H
        have c9b0 : (((rd_T25 l0 x5_1).f4) == (wrap64 ((wrap64 ((wrap64 ((wrap64 (x1_1 + 1)) + 1)) + 1)) + 1))) = false := beq_eq_false_iff_ne.mpr c9
        have c9b1 : (((rd_T25 l0 x5_1).f4) != (wrap64 ((wrap64 ((wrap64 ((wrap64 (x1_1 + 1)) + 1)) + 1)) + 1))) = true := bne_iff_ne.mpr c9
        obtain rfl := Option.some.inj H
        have p1305 : 0 ≤ (x5_1 : Int) := of_decide_eq_true Z47_2
        have q1305 : x5_1 < (l0.length : Int) := of_decide_eq_true Z47_2
        obtain ⟨ad1305, e1305, hx1305_0, hx1305_1, hx1305_2, hx1305_3, hx1305_4, hx1305_5, hx1305_6, hx1305_7, hx1305_8, hx1305_9, hx1305_10, hx1305_11, hx1305_12⟩ := at_T25 HR0.out x5_1 p1305 q1305
        cases e1305
        replace p1305 := eq_true p1305
        replace q1305 := eq_true q1305
        go_wp2
        go_ret
        exact ⟨Z47_3, Z47_1⟩
      rw [if_pos c9] at H
      have c9b0 : (((rd_T25 l0 x5_1).f4) == (wrap64 ((wrap64 ((wrap64 ((wrap64 (x1_1 + 1)) + 1)) + 1)) + 1))) = true := beq_iff_eq.mpr c9
      have c9b1 : (((rd_T25 l0 x5_1).f4) != (wrap64 ((wrap64 ((wrap64 ((wrap64 (x1_1 + 1)) + 1)) + 1)) + 1))) = false := bne_eq_false_iff_eq.mpr c9
      clear c9
      by_cases c10 : ((rd_T25 l0 x5_1).f5) = (wrap64 ((wrap64 ((wrap64 ((wrap64 ((wrap64 (x1_1 + 1)) + 1)) + 1)) + 1)) + 1))
      rotate_left
      · rw [if_neg c10] at H
        have c10b0 : (((rd_T25 l0 x5_1).f5) == (wrap64 ((wrap64 ((wrap64 ((wrap64 ((wrap64 (x1_1 + 1)) + 1)) + 1)) + 1)) + 1))) = false := beq_eq_false_iff_ne.mpr c10
        have c10b1 : (((rd_T25 l0 x5_1).f5) != (wrap64 ((wrap64 ((wrap64 ((wrap64 ((wrap64 (x1_1 + 1)) + 1)) + 1)) + 1)) + 1))) = true := bne_iff_ne.mpr c10
        obtain rfl := Option.some.inj H
        have p1305 : 0 ≤ (x5_1 : Int) := of_decide_eq_true Z47_2
        have q1305 : x5_1 < (l0.length : Int) := of_decide_eq_true Z47_2
        obtain ⟨ad1305, e1305, hx1305_0, hx1305_1, hx1305_2, hx1305_3, hx1305_4, hx1305_5, hx1305_6, hx1305_7, hx1305_8, hx1305_9, hx1305_10, hx1305_11, hx1305_12⟩ := at_T25 HR0.out x5_1 p1305 q1305
        cases e1305
        replace p1305 := eq_true p1305
        replace q1305 := eq_true q1305
        go_wp2
        go_ret
        exact ⟨Z47_3, Z47_1⟩
      rw [if_pos c10] at H
      have c10b0 : (((rd_T25 l0 x5_1).f5) == (wrap64 ((wrap64 ((wrap64 ((wrap64 ((wrap64 (x1_1 + 1)) + 1)) + 1)) + 1)) + 1))) = true := beq_iff_eq.mpr c10
      have c10b1 : (((rd_T25 l0 x5_1).f5) != (wrap64 ((wrap64 ((wrap64 ((wrap64 ((wrap64 (x1_1 + 1)) + 1)) + 1)) + 1)) + 1))) = false := bne_eq_false_iff_eq.mpr c10
      clear c10
      by_cases c11 : ((rd_T25 l0 x5_1).f6) = (wrap64 ((wrap64 ((wrap64 ((wrap64 ((wrap64 ((wrap64 (x1_1 + 1)) + 1)) + 1)) + 1)) + 1)) + 1))
      rotate_left
      · rw [if_neg c11] at H
        have c11b0 : (((rd_T25 l0 x5_1).f6) == (wrap64 ((wrap64 ((wrap64 ((wrap64 ((wrap64 ((wrap64 (x1_1 + 1)) + 1)) + 1)) + 1)) + 1)) + 1))) = false := beq_eq_false_iff_ne.mpr c11
        have c11b1 : (((rd_T25 l0 x5_1).f6) != (wrap64 ((wrap64 ((wrap64 ((wrap64 ((wrap64 ((wrap64 (x1_1 + 1)) + 1)) + 1)) + 1)) + 1)) + 1))) = true := bne_iff_ne.mpr c11
        obtain rfl := Option.some.inj H
        have p1305 : 0 ≤ (x5_1 : Int) := of_decide_eq_true Z47_2
        have q1305 : x5_1 < (l0.length : Int) := of_decide_eq_true Z47_2
        obtain ⟨ad1305, e1305, hx1305_0, hx1305_1, hx1305_2, hx1305_3, hx1305_4, hx1305_5, hx1305_6, hx1305_7, hx1305_8, hx1305_9, hx1305_10, hx1305_11, hx1305_12⟩ := at_T25 HR0.out x5_1 p1305 q1305
        cases e1305
        replace p1305 := eq_true p1305
        replace q1305 := eq_true q1305
        go_wp2
        go_ret
        exact ⟨Z47_3, Z47_1⟩
      rw [if_pos c11] at H
      have c11b0 : (((rd_T25 l0 x5_1).f6) == (wrap64 ((wrap64 ((wrap64 ((wrap64 ((wrap64 ((wrap64 (x1_1 + 1)) + 1)) + 1)) + 1)) + 1)) + 1))) = true := beq_iff_eq.mpr c11
      have c11b1 : (((rd_T25 l0 x5_1).f6) != (wrap64 ((wrap64 ((wrap64 ((wrap64 ((wrap64 ((wrap64 (x1_1 + 1)) + 1)) + 1)) + 1)) + 1)) + 1))) = false := bne_eq_false_iff_eq.mpr c11
      clear c11
      by_cases c12 : ((rd_T25 l0 x5_1).f7) = (wrap64 ((wrap64 ((wrap64 ((wrap64 ((wrap64 ((wrap64 ((wrap64 (x1_1 + 1)) + 1)) + 1)) + 1)) + 1)) + 1)) + 1))
      rotate_left
      · rw [if_neg c12] at H
        have c12b0 : (((rd_T25 l0 x5_1).f7) == (wrap64 ((wrap64 ((wrap64 ((wrap64 ((wrap64 ((wrap64 ((wrap64 (x1_1 + 1)) + 1)) + 1)) + 1)) + 1)) + 1)) + 1))) = false := beq_eq_false_iff_ne.mpr c12
        have c12b1 : (((rd_T25 l0 x5_1).f7) != (wrap64 ((wrap64 ((wrap64 ((wrap64 ((wrap64 ((wrap64 ((wrap64 (x1_1 + 1)) + 1)) + 1)) + 1)) + 1)) + 1)) + 1))) = true := bne_iff_ne.mpr c12
        obtain rfl := Option.some.inj H
        have p1305 : 0 ≤ (x5_1 : Int) := of_decide_eq_true Z47_2
        have q1305 : x5_1 < (l0.length : Int) := of_decide_eq_true Z47_2
        obtain ⟨ad1305, e1305, hx1305_0, hx1305_1, hx1305_2, hx1305_3, hx1305_4, hx1305_5, hx1305_6, hx1305_7, hx1305_8, hx1305_9, hx1305_10, hx1305_11, hx1305_12⟩ := at_T25 HR0.out x5_1 p1305 q1305
        cases e1305
        replace p1305 := eq_true p1305
        replace q1305 := eq_true q1305
        go_wp2
        go_ret
        exact ⟨Z47_3, Z47_1⟩
      rw [if_pos c12] at H
      have c12b0 : (((rd_T25 l0 x5_1).f7) == (wrap64 ((wrap64 ((wrap64 ((wrap64 ((wrap64 ((wrap64 ((wrap64 (x1_1 + 1)) + 1)) + 1)) + 1)) + 1)) + 1)) + 1))) = true := beq_iff_eq.mpr c12
      have c12b1 : (((rd_T25 l0 x5_1).f7) != (wrap64 ((wrap64 ((wrap64 ((wrap64 ((wrap64 ((wrap64 ((wrap64 (x1_1 + 1)) + 1)) + 1)) + 1)) + 1)) + 1)) + 1))) = false := bne_eq_false_iff_eq.mpr c12
      clear c12
      by_cases c13 : ((rd_T25 l0 x5_1).f8) = (wrap64 ((wrap64 ((wrap64 ((wrap64 ((wrap64 ((wrap64 ((wrap64 ((wrap64 (x1_1 + 1)) + 1)) + 1)) + 1)) + 1)) + 1)) + 1)) + 1))
      rotate_left
      · rw [if_neg c13] at H
        have c13b0 : (((rd_T25 l0 x5_1).f8) == (wrap64 ((wrap64 ((wrap64 ((wrap64 ((wrap64 ((wrap64 ((wrap64 ((wrap64 (x1_1 + 1)) + 1)) + 1)) + 1)) + 1)) + 1)) + 1)) + 1))) = false := beq_eq_false_iff_ne.mpr c13
        have c13b1 : (((rd_T25 l0 x5_1).f8) != (wrap64 ((wrap64 ((wrap64 ((wrap64 ((wrap64 ((wrap64 ((wrap64 ((wrap64 (x1_1 + 1)) + 1)) + 1)) + 1)) + 1)) + 1)) + 1)) + 1))) = true := bne_iff_ne.mpr c13
        obtain rfl := Option.some.inj H
        have p1305 : 0 ≤ (x5_1 : Int) := of_decide_eq_true Z47_2
        have q1305 : x5_1 < (l0.length : Int) := of_decide_eq_true Z47_2
        obtain ⟨ad1305, e1305, hx1305_0, hx1305_1, hx1305_2, hx1305_3, hx1305_4, hx1305_5, hx1305_6, hx1305_7, hx1305_8, hx1305_9, hx1305_10, hx1305_11, hx1305_12⟩ := at_T25 HR0.out x5_1 p1305 q1305
        cases e1305
        replace p1305 := eq_true p1305
        replace q1305 := eq_true q1305
        go_wp2
        go_ret
        exact ⟨Z47_3, Z47_1⟩
      rw [if_pos c13] at H
      have c13b0 : (((rd_T25 l0 x5_1).f8) == (wrap64 ((wrap64 ((wrap64 ((wrap64 ((wrap64 ((wrap64 ((wrap64 ((wrap64 (x1_1 + 1)) + 1)) + 1)) + 1)) + 1)) + 1)) + 1)) + 1))) = true := beq_iff_eq.mpr c13
      have c13b1 : (((rd_T25 l0 x5_1).f8) != (wrap64 ((wrap64 ((wrap64 ((wrap64 ((wrap64 ((wrap64 ((wrap64 ((wrap64 (x1_1 + 1)) + 1)) + 1)) + 1)) + 1)) + 1)) + 1)) + 1))) = false := bne_eq_false_iff_eq.mpr c13
      clear c13
      by_cases c14 : ((rd_T25 l0 x5_1).f9) = (wrap64 ((wrap64 ((wrap64 ((wrap64 ((wrap64 ((wrap64 ((wrap64 ((wrap64 ((wrap64 (x1_1 + 1)) + 1)) + 1)) + 1)) + 1)) + 1)) + 1)) + 1)) + 1))
      rotate_left
      · rw [if_neg c14] at H
        have c14b0 : (((rd_T25 l0 x5_1).f9) == (wrap64 ((wrap64 ((wrap64 ((wrap64 ((wrap64 ((wrap64 ((wrap64 ((wrap64 ((wrap64 (x1_1 + 1)) + 1)) + 1)) + 1)) + 1)) + 1)) + 1)) + 1)) + 1))) = false := beq_eq_false_iff_ne.mpr c14
        have c14b1 : (((rd_T25 l0 x5_1).f9) != (wrap64 ((wrap64 ((wrap64 ((wrap64 ((wrap64 ((wrap64 ((wrap64 ((wrap64 ((wrap64 (x1_1 + 1)) + 1)) + 1)) + 1)) + 1)) + 1)) + 1)) + 1)) + 1))) = true := bne_iff_ne.mpr c14
        obtain rfl := Option.some.inj H
        have p1305 : 0 ≤ (x5_1 : Int) := of_decide_eq_true Z47_2
        have q1305 : x5_1 < (l0.length : Int) := of_decide_eq_true Z47_2
        obtain ⟨ad1305, e1305, hx1305_0, hx1305_1, hx1305_2, hx1305_3, hx1305_4, hx1305_5, hx1305_6, hx1305_7, hx1305_8, hx1305_9, hx1305_10, hx1305_11, hx1305_12⟩ := at_T25 HR0.out x5_1 p1305 q1305
        cases e1305
        replace p1305 := eq_true p1305
        replace q1305 := eq_true q1305
        go_wp2
        go_ret
        exact ⟨Z47_3, Z47_1⟩
      rw [if_pos c14] at H
      have c14b0 : (((rd_T25 l0 x5_1).f9) == (wrap64 ((wrap64 ((wrap64 ((wrap64 ((wrap64 ((wrap64 ((wrap64 ((wrap64 ((wrap64 (x1_1 + 1)) + 1)) + 1)) + 1)) + 1)) + 1)) + 1)) + 1)) + 1))) = true := beq_iff_eq.mpr c14
      have c14b1 : (((rd_T25 l0 x5_1).f9) != (wrap64 ((wrap64 ((wrap64 ((wrap64 ((wrap64 ((wrap64 ((wrap64 ((wrap64 ((wrap64 (x1_1 + 1)) + 1)) + 1)) + 1)) + 1)) + 1)) + 1)) + 1)) + 1))) = false := bne_eq_false_iff_eq.mpr c14
      clear c14
      by_cases c15 : ((rd_T25 l0 x5_1).f10) = (wrap64 ((wrap64 ((wrap64 ((wrap64 ((wrap64 ((wrap64 ((wrap64 ((wrap64 ((wrap64 ((wrap64 (x1_1 + 1)) + 1)) + 1)) + 1)) + 1)) + 1)) + 1)) + 1)) + 1)) + 1))
      rotate_left
      · rw [if_neg c15] at H
        have c15b0 : (((rd_T25 l0 x5_1).f10) == (wrap64 ((wrap64 ((wrap64 ((wrap64 ((wrap64 ((wrap64 ((wrap64 ((wrap64 ((wrap64 ((wrap64 (x1_1 + 1)) + 1)) + 1)) + 1)) + 1)) + 1)) + 1)) + 1)) + 1)) + 1))) = false := beq_eq_false_iff_ne.mpr c15
        have c15b1 : (((rd_T25 l0 x5_1).f10) != (wrap64 ((wrap64 ((wrap64 ((wrap64 ((wrap64 ((wrap64 ((wrap64 ((wrap64 ((wrap64 ((wrap64 (x1_1 + 1)) + 1)) + 1)) + 1)) + 1)) + 1)) + 1)) + 1)) + 1)) + 1))) = true := bne_iff_ne.mpr c15
        obtain rfl := Option.some.inj H
        have p1305 : 0 ≤ (x5_1 : Int) := of_decide_eq_true Z47_2
        have q1305 : x5_1 < (l0.length : Int) := of_decide_eq_true Z47_2
        obtain ⟨ad1305, e1305, hx1305_0, hx1305_1, hx1305_2, hx1305_3, hx1305_4, hx1305_5, hx1305_6, hx1305_7, hx1305_8, hx1305_9, hx1305_10, hx1305_11, hx1305_12⟩ := at_T25 HR0.out x5_1 p1305 q1305
        cases e1305
        replace p1305 := eq_true p1305
        replace q1305 := eq_true q1305
        go_wp2
        go_ret
        exact ⟨Z47_3, Z47_1⟩
      rw [if_pos c15] at H
      have c15b0 : (((rd_T25 l0 x5_1).f10) == (wrap64 ((wrap64 ((wrap64 ((wrap64 ((wrap64 ((wrap64 ((wrap64 ((wrap64 ((wrap64 ((wrap64 (x1_1 + 1)) + 1)) + 1)) + 1)) + 1)) + 1)) + 1)) + 1)) + 1)) + 1))) = true := beq_iff_eq.mpr c15
      have c15b1 : (((rd_T25 l0 x5_1).f10) != (wrap64 ((wrap64 ((wrap64 ((wrap64 ((wrap64 ((wrap64 ((wrap64 ((wrap64 ((wrap64 ((wrap64 (x1_1 + 1)) + 1)) + 1)) + 1)) + 1)) + 1)) + 1)) + 1)) + 1)) + 1))) = false := bne_eq_false_iff_eq.mpr c15
      clear c15
      by_cases c16 : (((rd_T25 l0 x5_1).f11) != ((Int.tmod (wrap64 ((wrap64 ((wrap64 ((wrap64 ((wrap64 ((wrap64 ((wrap64 ((wrap64 ((wrap64 ((wrap64 ((wrap64 (x1_1 + 1)) + 1)) + 1)) + 1)) + 1)) + 1)) + 1)) + 1)) + 1)) + 1)) + 1)) 3) == 0)) = true
      · rw [if_pos c16] at H
        have c16b0 : (((rd_T25 l0 x5_1).f11) != ((Int.tmod (wrap64 ((wrap64 ((wrap64 ((wrap64 ((wrap64 ((wrap64 ((wrap64 ((wrap64 ((wrap64 ((wrap64 ((wrap64 (x1_1 + 1)) + 1)) + 1)) + 1)) + 1)) + 1)) + 1)) + 1)) + 1)) + 1)) + 1)) 3) == 0)) = true := c16
        (try (have c16b1 : decide (((rd_T25 l0 x5_1).f11) = ((Int.tmod (wrap64 ((wrap64 ((wrap64 ((wrap64 ((wrap64 ((wrap64 ((wrap64 ((wrap64 ((wrap64 ((wrap64 ((wrap64 (x1_1 + 1)) + 1)) + 1)) + 1)) + 1)) + 1)) + 1)) + 1)) + 1)) + 1)) + 1)) 3) == 0)) = false := by simpa using c16))
        (try (have c16b2 : (((rd_T25 l0 x5_1).f11) == ((Int.tmod (wrap64 ((wrap64 ((wrap64 ((wrap64 ((wrap64 ((wrap64 ((wrap64 ((wrap64 ((wrap64 ((wrap64 ((wrap64 (x1_1 + 1)) + 1)) + 1)) + 1)) + 1)) + 1)) + 1)) + 1)) + 1)) + 1)) + 1)) 3) == 0)) = false := by simpa using c16))
        (try (have c16b3 : ¬ (((rd_T25 l0 x5_1).f11) = ((Int.tmod (wrap64 ((wrap64 ((wrap64 ((wrap64 ((wrap64 ((wrap64 ((wrap64 ((wrap64 ((wrap64 ((wrap64 ((wrap64 (x1_1 + 1)) + 1)) + 1)) + 1)) + 1)) + 1)) + 1)) + 1)) + 1)) + 1)) + 1)) 3) == 0)) := by simpa using c16))
        clear c16
        obtain rfl := Option.some.inj H
        have p1305 : 0 ≤ (x5_1 : Int) := of_decide_eq_true Z47_2
        have q1305 : x5_1 < (l0.length : Int) := of_decide_eq_true Z47_2
        obtain ⟨ad1305, e1305, hx1305_0, hx1305_1, hx1305_2, hx1305_3, hx1305_4, hx1305_5, hx1305_6, hx1305_7, hx1305_8, hx1305_9, hx1305_10, hx1305_11, hx1305_12⟩ := at_T25 HR0.out x5_1 p1305 q1305
        cases e1305
        replace p1305 := eq_true p1305
        replace q1305 := eq_true q1305
        go_wp2
        go_ret
        exact ⟨Z47_3, Z47_1⟩
      rw [if_neg c16] at H
      have c16b0 : (((rd_T25 l0 x5_1).f11) != ((Int.tmod (wrap64 ((wrap64 ((wrap64 ((wrap64 ((wrap64 ((wrap64 ((wrap64 ((wrap64 ((wrap64 ((wrap64 ((wrap64 (x1_1 + 1)) + 1)) + 1)) + 1)) + 1)) + 1)) + 1)) + 1)) + 1)) + 1)) + 1)) 3) == 0)) = false := by simpa using c16
      (try (have c16b1 : decide (((rd_T25 l0 x5_1).f11) = ((Int.tmod (wrap64 ((wrap64 ((wrap64 ((wrap64 ((wrap64 ((wrap64 ((wrap64 ((wrap64 ((wrap64 ((wrap64 ((wrap64 (x1_1 + 1)) + 1)) + 1)) + 1)) + 1)) + 1)) + 1)) + 1)) + 1)) + 1)) + 1)) 3) == 0)) = true := by simpa using c16))
      (try (have c16b2 : (((rd_T25 l0 x5_1).f11) == ((Int.tmod (wrap64 ((wrap64 ((wrap64 ((wrap64 ((wrap64 ((wrap64 ((wrap64 ((wrap64 ((wrap64 ((wrap64 ((wrap64 (x1_1 + 1)) + 1)) + 1)) + 1)) + 1)) + 1)) + 1)) + 1)) + 1)) + 1)) + 1)) 3) == 0)) = true := by simpa using c16))
      clear c16
      by_cases c17 : (((rd_T25 l0 x5_1).f12) != ((Int.tmod (wrap64 ((wrap64 ((wrap64 ((wrap64 ((wrap64 ((wrap64 ((wrap64 ((wrap64 ((wrap64 ((wrap64 ((wrap64 ((wrap64 (x1_1 + 1)) + 1)) + 1)) + 1)) + 1)) + 1)) + 1)) + 1)) + 1)) + 1)) + 1)) + 1)) 3) == 0)) = true
      · rw [if_pos c17] at H
        have c17b0 : (((rd_T25 l0 x5_1).f12) != ((Int.tmod (wrap64 ((wrap64 ((wrap64 ((wrap64 ((wrap64 ((wrap64 ((wrap64 ((wrap64 ((wrap64 ((wrap64 ((wrap64 ((wrap64 (x1_1 + 1)) + 1)) + 1)) + 1)) + 1)) + 1)) + 1)) + 1)) + 1)) + 1)) + 1)) + 1)) 3) == 0)) = true := c17
        (try (have c17b1 : decide (((rd_T25 l0 x5_1).f12) = ((Int.tmod (wrap64 ((wrap64 ((wrap64 ((wrap64 ((wrap64 ((wrap64 ((wrap64 ((wrap64 ((wrap64 ((wrap64 ((wrap64 ((wrap64 (x1_1 + 1)) + 1)) + 1)) + 1)) + 1)) + 1)) + 1)) + 1)) + 1)) + 1)) + 1)) + 1)) 3) == 0)) = false := by simpa using c17))
        (try (have c17b2 : (((rd_T25 l0 x5_1).f12) == ((Int.tmod (wrap64 ((wrap64 ((wrap64 ((wrap64 ((wrap64 ((wrap64 ((wrap64 ((wrap64 ((wrap64 ((wrap64 ((wrap64 ((wrap64 (x1_1 + 1)) + 1)) + 1)) + 1)) + 1)) + 1)) + 1)) + 1)) + 1)) + 1)) + 1)) + 1)) 3) == 0)) = false := by simpa using c17))
        (try (have c17b3 : ¬ (((rd_T25 l0 x5_1).f12) = ((Int.tmod (wrap64 ((wrap64 ((wrap64 ((wrap64 ((wrap64 ((wrap64 ((wrap64 ((wrap64 ((wrap64 ((wrap64 ((wrap64 ((wrap64 (x1_1 + 1)) + 1)) + 1)) + 1)) + 1)) + 1)) + 1)) + 1)) + 1)) + 1)) + 1)) + 1)) 3) == 0)) := by simpa using c17))
        clear c17
        obtain rfl := Option.some.inj H
        have p1305 : 0 ≤ (x5_1 : Int) := of_decide_eq_true Z47_2
        have q1305 : x5_1 < (l0.length : Int) := of_decide_eq_true Z47_2
        obtain ⟨ad1305, e1305, hx1305_0, hx1305_1, hx1305_2, hx1305_3, hx1305_4, hx1305_5, hx1305_6, hx1305_7, hx1305_8, hx1305_9, hx1305_10, hx1305_11, hx1305_12⟩ := at_T25 HR0.out x5_1 p1305 q1305
        cases e1305
        replace p1305 := eq_true p1305
        replace q1305 := eq_true q1305
        go_wp2
        go_ret
        exact ⟨Z47_3, Z47_1⟩
      rw [if_neg c17] at H
      have c17b0 : (((rd_T25 l0 x5_1).f12) != ((Int.tmod (wrap64 ((wrap64 ((wrap64 ((wrap64 ((wrap64 ((wrap64 ((wrap64 ((wrap64 ((wrap64 ((wrap64 ((wrap64 ((wrap64 (x1_1 + 1)) + 1)) + 1)) + 1)) + 1)) + 1)) + 1)) + 1)) + 1)) + 1)) + 1)) + 1)) 3) == 0)) = false := by simpa using c17
      (try (have c17b1 : decide (((rd_T25 l0 x5_1).f12) = ((Int.tmod (wrap64 ((wrap64 ((wrap64 ((wrap64 ((wrap64 ((wrap64 ((wrap64 ((wrap64 ((wrap64 ((wrap64 ((wrap64 ((wrap64 (x1_1 + 1)) + 1)) + 1)) + 1)) + 1)) + 1)) + 1)) + 1)) + 1)) + 1)) + 1)) + 1)) 3) == 0)) = true := by simpa using c17))
      (try (have c17b2 : (((rd_T25 l0 x5_1).f12) == ((Int.tmod (wrap64 ((wrap64 ((wrap64 ((wrap64 ((wrap64 ((wrap64 ((wrap64 ((wrap64 ((wrap64 ((wrap64 ((wrap64 ((wrap64 (x1_1 + 1)) + 1)) + 1)) + 1)) + 1)) + 1)) + 1)) + 1)) + 1)) + 1)) + 1)) + 1)) 3) == 0)) = true := by simpa using c17))
      clear c17
      have H' := Aside0.mk H
      clear H
      have p1305 : 0 ≤ (x5_1 : Int) := of_decide_eq_true Z47_2
      have q1305 : x5_1 < (l0.length : Int) := of_decide_eq_true Z47_2
      obtain ⟨ad1305, e1305, hx1305_0, hx1305_1, hx1305_2, hx1305_3, hx1305_4, hx1305_5, hx1305_6, hx1305_7, hx1305_8, hx1305_9, hx1305_10, hx1305_11, hx1305_12⟩ := at_T25 HR0.out x5_1 p1305 q1305
      cases e1305
      replace p1305 := eq_true p1305
      replace q1305 := eq_true q1305
      go_wp2
      go_roundg k1
      case measure => have := HK1.out; omega
      case rel => exact ⟨(wrap64 ((wrap64 ((wrap64 ((wrap64 ((wrap64 ((wrap64 ((wrap64 ((wrap64 ((wrap64 ((wrap64 ((wrap64 ((wrap64 ((wrap64 (x1_1 + 1)) + 1)) + 1)) + 1)) + 1)) + 1)) + 1)) + 1)) + 1)) + 1)) + 1)) + 1)) + 1)), (wrap64 (x5_1 + 1)), Z47_3, Z47_3, H', ⟨(by have := HK1.out; omega)⟩, Z47_1⟩



end Go.Proofs.Ytfkidiagmekleaa.QAll
