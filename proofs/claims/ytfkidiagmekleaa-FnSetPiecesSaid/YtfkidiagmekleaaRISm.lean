-- Written by a program of this session (patch_print.py over the print).
import Derived.Test.YtfkidiagmekleaaQAllx0
import Derived.Test.YtfkidiagmekleaaQAllx1
import Derived.Test.YtfkidiagmekleaaQAllx2
namespace Go.Proofs.Ytfkidiagmekleaa.QAll
open Go.RowKit Go.Proofs.YtfkidiagmekleaaW.PrintWords Go.Proofs.YtfkidiagmekleaaW.PrintLast Go.Proofs.YtfkidiagmekleaaW.PrintMore
attribute [local go_sem] max2_int min2_int max_two min_two max_three min_three max_four min_four   -- for this text's walks alone
set_option linter.unusedVariables false
set_option linter.unusedSimpArgs false
attribute [local go_sem high] eqA25
attribute [local go_sem high] eqA71

theorem Z35ISm_15 {p : Prop} (h : p := by repeat (first | exact Drawn0.refl _ | apply Drawn0.step)) : p := h
theorem Z35ISm_16 {p : Prop} (h : p := by first | (with_reducible assumption) | assumption) : p := h
theorem Z35ISm_17 {p : Prop} (h : p := by first | rfl | (simp; done) | (simp [*]; done)) : p := h
/-! ### impl_Piece_110: function 110 -/
def impl_Piece_110.l0 : Nat → List (S25) → List (S25) → Int → Int → Option (Bool)
  | 0, _, _, _, _ => none
  | k + 1, x0, x1, x12, x13 => if x13 < x12 then (if 0 ≤ x13 then (if x13 < (x0.length : Int) then (if x13 < (x1.length : Int) then (if (!(((rd_T25 x0 x13).f0) == ((rd_T25 x1 x13).f0)) || (!(((rd_T25 x0 x13).f1) == ((rd_T25 x1 x13).f1)) || (!(((rd_T25 x0 x13).f2) == ((rd_T25 x1 x13).f2)) || (!(((rd_T25 x0 x13).f3) == ((rd_T25 x1 x13).f3)) || (!(((rd_T25 x0 x13).f4) == ((rd_T25 x1 x13).f4)) || (!(((rd_T25 x0 x13).f5) == ((rd_T25 x1 x13).f5)) || (!(((rd_T25 x0 x13).f6) == ((rd_T25 x1 x13).f6)) || (!(((rd_T25 x0 x13).f7) == ((rd_T25 x1 x13).f7)) || (!(((rd_T25 x0 x13).f8) == ((rd_T25 x1 x13).f8)) || (!(((rd_T25 x0 x13).f9) == ((rd_T25 x1 x13).f9)) || (!(((rd_T25 x0 x13).f10) == ((rd_T25 x1 x13).f10)) || (!(((rd_T25 x0 x13).f11) == ((rd_T25 x1 x13).f11)) || (!(((rd_T25 x0 x13).f12) == ((rd_T25 x1 x13).f12))))))))))))))) = true then (some false) else (impl_Piece_110.l0 k x0 x1 x12 (wrap64 (x13 + 1)))) else (none)) else (none)) else (none)) else (some true)
def impl_Piece_110.f (k : Nat) (l0 : List (S25)) (l1 : List (S25)) : Option (Bool) := if (l0.length : Int) = (l1.length : Int) then (impl_Piece_110.l0 k l0 l1 (l0.length : Int) 0) else (some false)
theorem impl_Piece_110.mono_l : ∀ k, (∀ y0 y1 y2 y3, LeO (impl_Piece_110.l0 k y0 y1 y2 y3) (impl_Piece_110.l0 (k + 1) y0 y1 y2 y3))
  | 0 => fun _ _ _ _ r h => by simp [impl_Piece_110.l0] at h
  | k + 1 => by
    have ih0 := impl_Piece_110.mono_l k
    · intro y0 y1 y2 y3
      unfold impl_Piece_110.l0
      repeat' first
      | (with_reducible exact ih0 _ _ _ _)
      | (with_reducible exact LeO.refl _)
      | (with_reducible exact LeO.none _)
      | (with_reducible refine LeO.ite ?_ ?_)
      | (with_reducible refine LeO.bind ?_ (fun _ => ?_))
      | exact ih0 _ _ _ _
      | exact LeO.none _
      | refine LeO.ite ?_ ?_
      | refine LeO.bind ?_ (fun _ => ?_)
theorem impl_Piece_110.mono : ∀ a0 a1 k, LeO (impl_Piece_110.f k a0 a1) (impl_Piece_110.f (k + 1) a0 a1) := by
  intro a0 a1 k
  have ih0 := impl_Piece_110.mono_l k
  unfold impl_Piece_110.f
  repeat' first
      | (with_reducible exact ih0 _ _ _ _)
      | (with_reducible exact LeO.refl _)
      | (with_reducible exact LeO.none _)
      | (with_reducible refine LeO.ite ?_ ?_)
      | (with_reducible refine LeO.bind ?_ (fun _ => ?_))
      | exact ih0 _ _ _ _
      | exact LeO.none _
      | refine LeO.ite ?_ ?_
      | refine LeO.bind ?_ (fun _ => ?_)
set_option maxHeartbeats 8000000 in
set_option maxRecDepth 100000 in
theorem impl_Piece_110.calls (k : Nat) (A0 : Option Addr) (c0 : Nat) (l0 : List (S25)) (A1 : Option Addr) (c1 : Nat) (l1 : List (S25)) (r : Bool) (w : World) (hr0 : Kd.C k25 w A0 l0.length l0) (hc0 : l0.length ≤ c0) (hr1 : Kd.C k25 w A1 l1.length l1) (hc1 : l1.length ≤ c1) (h : impl_Piece_110.f k l0 l1 = some r) :
    Calls Try.prog 110 #[.slice A0 l0.length c0, .slice A1 l1.length c1] w fun e w' => e = .returned (.bool r) ∧ Drawn0 w w' := by
  have hu25 := Try.underlying25
  have HR0 := Aside0.mk hr0
  have HC0 := Aside0.mk hc0
  clear hr0 hc0
  have HR1 := Aside0.mk hr1
  have HC1 := Aside0.mk hc1
  clear hr1 hc1
  have H : (if (l0.length : Int) = (l1.length : Int) then (impl_Piece_110.l0 k l0 l1 (l0.length : Int) 0) else (some false)) = some r := h
  clear h
  by_cases c3 : (l0.length : Int) = (l1.length : Int)
  rotate_left
  · rw [if_neg c3] at H
    have c3b0 : ((l0.length : Int) == (l1.length : Int)) = false := beq_eq_false_iff_ne.mpr c3
    have c3b1 : ((l0.length : Int) != (l1.length : Int)) = true := bne_iff_ne.mpr c3
    have c3b2 : (l0.length == l1.length) = false := by first | simpa using c3 | (simp at c3 ⊢; omega)
    obtain rfl := Option.some.inj H
    go_enter Try.func110, Try.ntmps110
    go_wp2
    repeat (go_quiet (fail); try go_wp2)
    go_ret
    exact ⟨Z35ISm_17, Z35ISm_15⟩
  rw [if_pos c3] at H
  have c3b0 : ((l0.length : Int) == (l1.length : Int)) = true := beq_iff_eq.mpr c3
  have c3b1 : ((l0.length : Int) != (l1.length : Int)) = false := bne_eq_false_iff_eq.mpr c3
  have c3b2 : (l0.length == l1.length) = true := by first | simpa using c3 | (simp at c3 ⊢; omega)
  clear c3
  have H' := Aside0.mk H
  clear H
  go_enter Try.func110, Try.ntmps110
  go_wp2
  repeat (go_quiet (fail); try go_wp2)
  go_loopg [13] k (fun kq v13 w' => ∃ (x13_1 : Int), v13 = .int .i64 x13_1 ∧ Aside0 (impl_Piece_110.l0 kq l0 l1 (l0.length : Int) x13_1 = some r) ∧ Aside0 (kq ≤ k) ∧ Drawn0 w w')
  case atStart => exact ⟨(0), Z35ISm_17, H', ⟨Nat.le_refl _⟩, Z35ISm_15⟩
  case round =>
    clear H'
    try clear c1
    try clear p2
    try clear c3
    try clear c3b0
    try clear c3b1
    try clear c3b2
    obtain ⟨x13_1, rfl, HA, HK1, ⟨m1, rfl⟩⟩ := hrel
    cases gk with
    | zero => exact absurd HA.out (by simp [impl_Piece_110.l0])
    | succ k1 =>
      have H := HA.out
      clear HA
      simp only [impl_Piece_110.l0] at H
      by_cases c4 : x13_1 < (l0.length : Int)
      rotate_left
      · rw [if_neg c4] at H
        have c4b0 : decide (x13_1 < (l0.length : Int)) = false := decide_eq_false c4
        clear c4
        obtain rfl := Option.some.inj H
        go_wp2
        repeat (go_quiet (fail); try go_wp2)
        go_ret
        exact ⟨Z35ISm_17, Z35ISm_15⟩
      rw [if_pos c4] at H
      have c4b0 : decide (x13_1 < (l0.length : Int)) = true := decide_eq_true c4
      clear c4
      by_cases c5 : 0 ≤ x13_1
      rotate_left
      · rw [if_neg c5] at H
        exact absurd H (by simp)
      rw [if_pos c5] at H
      have c5b0 : decide (0 ≤ x13_1) = true := decide_eq_true c5
      clear c5
      by_cases c6 : x13_1 < (l0.length : Int)
      rotate_left
      · rw [if_neg c6] at H
        exact absurd H (by simp)
      rw [if_pos c6] at H
      have c6b0 : decide (x13_1 < (l0.length : Int)) = true := decide_eq_true c6
      clear c6
      by_cases c7 : x13_1 < (l1.length : Int)
      rotate_left
      · rw [if_neg c7] at H
        exact absurd H (by simp)
      rw [if_pos c7] at H
      have c7b0 : decide (x13_1 < (l1.length : Int)) = true := decide_eq_true c7
      clear c7
      by_cases c8 : (!(((rd_T25 l0 x13_1).f0) == ((rd_T25 l1 x13_1).f0)) || (!(((rd_T25 l0 x13_1).f1) == ((rd_T25 l1 x13_1).f1)) || (!(((rd_T25 l0 x13_1).f2) == ((rd_T25 l1 x13_1).f2)) || (!(((rd_T25 l0 x13_1).f3) == ((rd_T25 l1 x13_1).f3)) || (!(((rd_T25 l0 x13_1).f4) == ((rd_T25 l1 x13_1).f4)) || (!(((rd_T25 l0 x13_1).f5) == ((rd_T25 l1 x13_1).f5)) || (!(((rd_T25 l0 x13_1).f6) == ((rd_T25 l1 x13_1).f6)) || (!(((rd_T25 l0 x13_1).f7) == ((rd_T25 l1 x13_1).f7)) || (!(((rd_T25 l0 x13_1).f8) == ((rd_T25 l1 x13_1).f8)) || (!(((rd_T25 l0 x13_1).f9) == ((rd_T25 l1 x13_1).f9)) || (!(((rd_T25 l0 x13_1).f10) == ((rd_T25 l1 x13_1).f10)) || (!(((rd_T25 l0 x13_1).f11) == ((rd_T25 l1 x13_1).f11)) || (!(((rd_T25 l0 x13_1).f12) == ((rd_T25 l1 x13_1).f12))))))))))))))) = true
      · rw [if_pos c8] at H
        have c8b0 : (!(((rd_T25 l0 x13_1).f0) == ((rd_T25 l1 x13_1).f0)) || (!(((rd_T25 l0 x13_1).f1) == ((rd_T25 l1 x13_1).f1)) || (!(((rd_T25 l0 x13_1).f2) == ((rd_T25 l1 x13_1).f2)) || (!(((rd_T25 l0 x13_1).f3) == ((rd_T25 l1 x13_1).f3)) || (!(((rd_T25 l0 x13_1).f4) == ((rd_T25 l1 x13_1).f4)) || (!(((rd_T25 l0 x13_1).f5) == ((rd_T25 l1 x13_1).f5)) || (!(((rd_T25 l0 x13_1).f6) == ((rd_T25 l1 x13_1).f6)) || (!(((rd_T25 l0 x13_1).f7) == ((rd_T25 l1 x13_1).f7)) || (!(((rd_T25 l0 x13_1).f8) == ((rd_T25 l1 x13_1).f8)) || (!(((rd_T25 l0 x13_1).f9) == ((rd_T25 l1 x13_1).f9)) || (!(((rd_T25 l0 x13_1).f10) == ((rd_T25 l1 x13_1).f10)) || (!(((rd_T25 l0 x13_1).f11) == ((rd_T25 l1 x13_1).f11)) || (!(((rd_T25 l0 x13_1).f12) == ((rd_T25 l1 x13_1).f12))))))))))))))) = true := c8
        clear c8
        obtain rfl := Option.some.inj H
        have p1047 : 0 ≤ (x13_1 : Int) := of_decide_eq_true Z35ISm_16
        have q1047 : x13_1 < (l0.length : Int) := of_decide_eq_true Z35ISm_16
        obtain ⟨ad1047, e1047, hx1047_0, hx1047_1, hx1047_2, hx1047_3, hx1047_4, hx1047_5, hx1047_6, hx1047_7, hx1047_8, hx1047_9, hx1047_10, hx1047_11, hx1047_12⟩ := at_T25 HR0.out x13_1 p1047 q1047
        cases e1047
        replace p1047 := eq_true p1047
        replace q1047 := eq_true q1047
        have p1048 : 0 ≤ (x13_1 : Int) := of_decide_eq_true Z35ISm_16
        have q1048 : x13_1 < (l1.length : Int) := of_decide_eq_true Z35ISm_16
        obtain ⟨ad1048, e1048, hx1048_0, hx1048_1, hx1048_2, hx1048_3, hx1048_4, hx1048_5, hx1048_6, hx1048_7, hx1048_8, hx1048_9, hx1048_10, hx1048_11, hx1048_12⟩ := at_T25 HR1.out x13_1 p1048 q1048
        cases e1048
        replace p1048 := eq_true p1048
        replace q1048 := eq_true q1048
        go_wp2
        repeat (go_quiet (fail); try go_wp2)
        go_ret
        exact ⟨Z35ISm_17, Z35ISm_15⟩
      rw [if_neg c8] at H
      have c8b0 : (!(((rd_T25 l0 x13_1).f0) == ((rd_T25 l1 x13_1).f0)) || (!(((rd_T25 l0 x13_1).f1) == ((rd_T25 l1 x13_1).f1)) || (!(((rd_T25 l0 x13_1).f2) == ((rd_T25 l1 x13_1).f2)) || (!(((rd_T25 l0 x13_1).f3) == ((rd_T25 l1 x13_1).f3)) || (!(((rd_T25 l0 x13_1).f4) == ((rd_T25 l1 x13_1).f4)) || (!(((rd_T25 l0 x13_1).f5) == ((rd_T25 l1 x13_1).f5)) || (!(((rd_T25 l0 x13_1).f6) == ((rd_T25 l1 x13_1).f6)) || (!(((rd_T25 l0 x13_1).f7) == ((rd_T25 l1 x13_1).f7)) || (!(((rd_T25 l0 x13_1).f8) == ((rd_T25 l1 x13_1).f8)) || (!(((rd_T25 l0 x13_1).f9) == ((rd_T25 l1 x13_1).f9)) || (!(((rd_T25 l0 x13_1).f10) == ((rd_T25 l1 x13_1).f10)) || (!(((rd_T25 l0 x13_1).f11) == ((rd_T25 l1 x13_1).f11)) || (!(((rd_T25 l0 x13_1).f12) == ((rd_T25 l1 x13_1).f12))))))))))))))) = false := by simpa using c8
      clear c8
      have H' := Aside0.mk H
      clear H
      have p1047 : 0 ≤ (x13_1 : Int) := of_decide_eq_true Z35ISm_16
      have q1047 : x13_1 < (l0.length : Int) := of_decide_eq_true Z35ISm_16
      obtain ⟨ad1047, e1047, hx1047_0, hx1047_1, hx1047_2, hx1047_3, hx1047_4, hx1047_5, hx1047_6, hx1047_7, hx1047_8, hx1047_9, hx1047_10, hx1047_11, hx1047_12⟩ := at_T25 HR0.out x13_1 p1047 q1047
      cases e1047
      replace p1047 := eq_true p1047
      replace q1047 := eq_true q1047
      have p1048 : 0 ≤ (x13_1 : Int) := of_decide_eq_true Z35ISm_16
      have q1048 : x13_1 < (l1.length : Int) := of_decide_eq_true Z35ISm_16
      obtain ⟨ad1048, e1048, hx1048_0, hx1048_1, hx1048_2, hx1048_3, hx1048_4, hx1048_5, hx1048_6, hx1048_7, hx1048_8, hx1048_9, hx1048_10, hx1048_11, hx1048_12⟩ := at_T25 HR1.out x13_1 p1048 q1048
      cases e1048
      replace p1048 := eq_true p1048
      replace q1048 := eq_true q1048
      go_wp2
      repeat (go_quiet (fail); try go_wp2)
      go_roundg k1
      case measure => have := HK1.out; omega
      case rel => exact ⟨(wrap64 (x13_1 + 1)), Z35ISm_17, H', ⟨(by have := HK1.out; omega)⟩, Z35ISm_15⟩


/-! ### impl_Side_111: function 111 -/
def impl_Side_111.l0 : Nat → List (S71) → List (S71) → Int → Int → Option (Bool)
  | 0, _, _, _, _ => none
  | k + 1, x0, x1, x12, x13 => if x13 < x12 then (if 0 ≤ x13 then (if x13 < (x0.length : Int) then (if x13 < (x1.length : Int) then (if (!(((rd_T71 x0 x13).f0) == ((rd_T71 x1 x13).f0)) || (!(((rd_T71 x0 x13).f1) == ((rd_T71 x1 x13).f1)) || (!(((rd_T71 x0 x13).f2) == ((rd_T71 x1 x13).f2))))) = true then (some false) else (impl_Side_111.l0 k x0 x1 x12 (wrap64 (x13 + 1)))) else (none)) else (none)) else (none)) else (some true)
def impl_Side_111.f (k : Nat) (l0 : List (S71)) (l1 : List (S71)) : Option (Bool) := if (l0.length : Int) = (l1.length : Int) then (impl_Side_111.l0 k l0 l1 (l0.length : Int) 0) else (some false)
theorem impl_Side_111.mono_l : ∀ k, (∀ y0 y1 y2 y3, LeO (impl_Side_111.l0 k y0 y1 y2 y3) (impl_Side_111.l0 (k + 1) y0 y1 y2 y3))
  | 0 => fun _ _ _ _ r h => by simp [impl_Side_111.l0] at h
  | k + 1 => by
    have ih0 := impl_Side_111.mono_l k
    · intro y0 y1 y2 y3
      unfold impl_Side_111.l0
      repeat' first
      | (with_reducible exact ih0 _ _ _ _)
      | (with_reducible exact LeO.refl _)
      | (with_reducible exact LeO.none _)
      | (with_reducible refine LeO.ite ?_ ?_)
      | (with_reducible refine LeO.bind ?_ (fun _ => ?_))
      | exact ih0 _ _ _ _
      | exact LeO.none _
      | refine LeO.ite ?_ ?_
      | refine LeO.bind ?_ (fun _ => ?_)
theorem impl_Side_111.mono : ∀ a0 a1 k, LeO (impl_Side_111.f k a0 a1) (impl_Side_111.f (k + 1) a0 a1) := by
  intro a0 a1 k
  have ih0 := impl_Side_111.mono_l k
  unfold impl_Side_111.f
  repeat' first
      | (with_reducible exact ih0 _ _ _ _)
      | (with_reducible exact LeO.refl _)
      | (with_reducible exact LeO.none _)
      | (with_reducible refine LeO.ite ?_ ?_)
      | (with_reducible refine LeO.bind ?_ (fun _ => ?_))
      | exact ih0 _ _ _ _
      | exact LeO.none _
      | refine LeO.ite ?_ ?_
      | refine LeO.bind ?_ (fun _ => ?_)
set_option maxHeartbeats 8000000 in
set_option maxRecDepth 100000 in
theorem impl_Side_111.calls (k : Nat) (A0 : Option Addr) (c0 : Nat) (l0 : List (S71)) (A1 : Option Addr) (c1 : Nat) (l1 : List (S71)) (r : Bool) (w : World) (hr0 : Kd.C k71 w A0 l0.length l0) (hc0 : l0.length ≤ c0) (hr1 : Kd.C k71 w A1 l1.length l1) (hc1 : l1.length ≤ c1) (h : impl_Side_111.f k l0 l1 = some r) :
    Calls Try.prog 111 #[.slice A0 l0.length c0, .slice A1 l1.length c1] w fun e w' => e = .returned (.bool r) ∧ Drawn0 w w' := by
  have hu71 := Try.underlying71
  have HR0 := Aside0.mk hr0
  have HC0 := Aside0.mk hc0
  clear hr0 hc0
  have HR1 := Aside0.mk hr1
  have HC1 := Aside0.mk hc1
  clear hr1 hc1
  have H : (if (l0.length : Int) = (l1.length : Int) then (impl_Side_111.l0 k l0 l1 (l0.length : Int) 0) else (some false)) = some r := h
  clear h
  by_cases c3 : (l0.length : Int) = (l1.length : Int)
  · rw [if_pos c3] at H
    have c3b0 : ((l0.length : Int) == (l1.length : Int)) = true := beq_iff_eq.mpr c3
    have c3b1 : ((l0.length : Int) != (l1.length : Int)) = false := bne_eq_false_iff_eq.mpr c3
    have c3b2 : (l0.length == l1.length) = true := by first | simpa using c3 | (simp at c3 ⊢; omega)
    clear c3
    have H' := Aside0.mk H
    clear H
    go_enter Try.func111, Try.ntmps111
    go_wp2
    repeat (go_quiet (fail); try go_wp2)
    go_loopg [13] k (fun kq v13 w' => ∃ (x13_1 : Int), v13 = .int .i64 x13_1 ∧ Aside0 (impl_Side_111.l0 kq l0 l1 (l0.length : Int) x13_1 = some r) ∧ Aside0 (kq ≤ k) ∧ Drawn0 w w')
    case atStart => exact ⟨(0), (by first | rfl | (simp; done) | (simp [*]; done)), H', ⟨Nat.le_refl _⟩, by repeat (first | exact Drawn0.refl _ | apply Drawn0.step)⟩
    case round =>
      clear H'
      try clear c1
      try clear p2
      try clear c3
      try clear c3b0
      try clear c3b1
      try clear c3b2
      obtain ⟨x13_1, rfl, HA, HK1, ⟨m1, rfl⟩⟩ := hrel
      cases gk with
      | zero => exact absurd HA.out (by simp [impl_Side_111.l0])
      | succ k1 =>
        have H := HA.out
        clear HA
        simp only [impl_Side_111.l0] at H
        by_cases c4 : x13_1 < (l0.length : Int)
        · rw [if_pos c4] at H
          have c4b0 : decide (x13_1 < (l0.length : Int)) = true := decide_eq_true c4
          clear c4
          by_cases c5 : 0 ≤ x13_1
          · rw [if_pos c5] at H
            have c5b0 : decide (0 ≤ x13_1) = true := decide_eq_true c5
            clear c5
            by_cases c6 : x13_1 < (l0.length : Int)
            · rw [if_pos c6] at H
              have c6b0 : decide (x13_1 < (l0.length : Int)) = true := decide_eq_true c6
              clear c6
              by_cases c7 : x13_1 < (l1.length : Int)
              · rw [if_pos c7] at H
                have c7b0 : decide (x13_1 < (l1.length : Int)) = true := decide_eq_true c7
                clear c7
                by_cases c8 : (!(((rd_T71 l0 x13_1).f0) == ((rd_T71 l1 x13_1).f0)) || (!(((rd_T71 l0 x13_1).f1) == ((rd_T71 l1 x13_1).f1)) || (!(((rd_T71 l0 x13_1).f2) == ((rd_T71 l1 x13_1).f2))))) = true
                · rw [if_pos c8] at H
                  have c8b0 : (!(((rd_T71 l0 x13_1).f0) == ((rd_T71 l1 x13_1).f0)) || (!(((rd_T71 l0 x13_1).f1) == ((rd_T71 l1 x13_1).f1)) || (!(((rd_T71 l0 x13_1).f2) == ((rd_T71 l1 x13_1).f2))))) = true := c8
                  clear c8
                  obtain rfl := Option.some.inj H
                  have p1049 : 0 ≤ (x13_1 : Int) := of_decide_eq_true (by first | (with_reducible assumption) | assumption)
                  have q1049 : x13_1 < (l0.length : Int) := of_decide_eq_true (by first | (with_reducible assumption) | assumption)
                  obtain ⟨ad1049, e1049, hx1049_0, hx1049_1, hx1049_2⟩ := at_T71 HR0.out x13_1 p1049 q1049
                  cases e1049
                  replace p1049 := eq_true p1049
                  replace q1049 := eq_true q1049
                  have p1050 : 0 ≤ (x13_1 : Int) := of_decide_eq_true (by first | (with_reducible assumption) | assumption)
                  have q1050 : x13_1 < (l1.length : Int) := of_decide_eq_true (by first | (with_reducible assumption) | assumption)
                  obtain ⟨ad1050, e1050, hx1050_0, hx1050_1, hx1050_2⟩ := at_T71 HR1.out x13_1 p1050 q1050
                  cases e1050
                  replace p1050 := eq_true p1050
                  replace q1050 := eq_true q1050
                  go_wp2
                  repeat (go_quiet (fail); try go_wp2)
                  go_ret
                  exact ⟨by first | rfl | (simp; done) | (simp [*]; done), by repeat (first | exact Drawn0.refl _ | apply Drawn0.step)⟩
                · rw [if_neg c8] at H
                  have c8b0 : (!(((rd_T71 l0 x13_1).f0) == ((rd_T71 l1 x13_1).f0)) || (!(((rd_T71 l0 x13_1).f1) == ((rd_T71 l1 x13_1).f1)) || (!(((rd_T71 l0 x13_1).f2) == ((rd_T71 l1 x13_1).f2))))) = false := by simpa using c8
                  clear c8
                  have H' := Aside0.mk H
                  clear H
                  have p1049 : 0 ≤ (x13_1 : Int) := of_decide_eq_true (by first | (with_reducible assumption) | assumption)
                  have q1049 : x13_1 < (l0.length : Int) := of_decide_eq_true (by first | (with_reducible assumption) | assumption)
                  obtain ⟨ad1049, e1049, hx1049_0, hx1049_1, hx1049_2⟩ := at_T71 HR0.out x13_1 p1049 q1049
                  cases e1049
                  replace p1049 := eq_true p1049
                  replace q1049 := eq_true q1049
                  have p1050 : 0 ≤ (x13_1 : Int) := of_decide_eq_true (by first | (with_reducible assumption) | assumption)
                  have q1050 : x13_1 < (l1.length : Int) := of_decide_eq_true (by first | (with_reducible assumption) | assumption)
                  obtain ⟨ad1050, e1050, hx1050_0, hx1050_1, hx1050_2⟩ := at_T71 HR1.out x13_1 p1050 q1050
                  cases e1050
                  replace p1050 := eq_true p1050
                  replace q1050 := eq_true q1050
                  go_wp2
                  repeat (go_quiet (fail); try go_wp2)
                  go_roundg k1
                  case measure => have := HK1.out; omega
                  case rel => exact ⟨(wrap64 (x13_1 + 1)), (by first | rfl | (simp; done) | (simp [*]; done)), H', ⟨by have := HK1.out; omega⟩, by repeat (first | exact Drawn0.refl _ | apply Drawn0.step)⟩
              · rw [if_neg c7] at H
                exact absurd H (by simp)
            · rw [if_neg c6] at H
              exact absurd H (by simp)
          · rw [if_neg c5] at H
            exact absurd H (by simp)
        · rw [if_neg c4] at H
          have c4b0 : decide (x13_1 < (l0.length : Int)) = false := decide_eq_false c4
          clear c4
          obtain rfl := Option.some.inj H
          go_wp2
          repeat (go_quiet (fail); try go_wp2)
          go_ret
          exact ⟨by first | rfl | (simp; done) | (simp [*]; done), by repeat (first | exact Drawn0.refl _ | apply Drawn0.step)⟩
  · rw [if_neg c3] at H
    have c3b0 : ((l0.length : Int) == (l1.length : Int)) = false := beq_eq_false_iff_ne.mpr c3
    have c3b1 : ((l0.length : Int) != (l1.length : Int)) = true := bne_iff_ne.mpr c3
    have c3b2 : (l0.length == l1.length) = false := by first | simpa using c3 | (simp at c3 ⊢; omega)
    obtain rfl := Option.some.inj H
    go_enter Try.func111, Try.ntmps111
    go_wp2
    repeat (go_quiet (fail); try go_wp2)
    go_ret
    exact ⟨by first | rfl | (simp; done) | (simp [*]; done), by repeat (first | exact Drawn0.refl _ | apply Drawn0.step)⟩

/-! ### impl_SameState: function 46 -/
def impl_SameState.f (k : Nat) (l0_0 : List (S25)) (l0_1 : List (S71)) (a0_2 : Int) (a0_3 : Int) (l1_0 : List (S25)) (l1_1 : List (S71)) (a1_2 : Int) (a1_3 : Int) : Option (Bool) := if a0_2 = a1_2 then (if a0_3 = a1_3 then ((impl_Piece_110.f k l0_0 l1_0).bind fun t1053 => (if t1053 = true then ((impl_Side_111.f k l0_1 l1_1).bind fun t1054 => (some t1054)) else (some false))) else (some false)) else (some false)
theorem impl_SameState.mono : ∀ a0 a1 a2 a3 a4 a5 a6 a7 k, LeO (impl_SameState.f k a0 a1 a2 a3 a4 a5 a6 a7) (impl_SameState.f (k + 1) a0 a1 a2 a3 a4 a5 a6 a7) := by
  intro a0 a1 a2 a3 a4 a5 a6 a7 k
  unfold impl_SameState.f
  repeat' first
      | (with_reducible exact impl_Piece_110.mono _ _ _)
      | (with_reducible exact impl_Side_111.mono _ _ _)
      | (with_reducible exact LeO.refl _)
      | (with_reducible exact LeO.none _)
      | (with_reducible refine LeO.ite ?_ ?_)
      | (with_reducible refine LeO.bind ?_ (fun _ => ?_))
      | exact impl_Piece_110.mono _ _ _
      | exact impl_Side_111.mono _ _ _
      | exact LeO.none _
      | refine LeO.ite ?_ ?_
      | refine LeO.bind ?_ (fun _ => ?_)
set_option maxHeartbeats 8000000 in
set_option maxRecDepth 100000 in
theorem impl_SameState.calls (k : Nat) (A0_0 : Option Addr) (c0_0 : Nat) (l0_0 : List (S25)) (A0_1 : Option Addr) (c0_1 : Nat) (l0_1 : List (S71)) (a0_2 : Int) (a0_3 : Int) (A1_0 : Option Addr) (c1_0 : Nat) (l1_0 : List (S25)) (A1_1 : Option Addr) (c1_1 : Nat) (l1_1 : List (S71)) (a1_2 : Int) (a1_3 : Int) (r : Bool) (w : World) (hr0_0 : Kd.C k25 w A0_0 l0_0.length l0_0) (hc0_0 : l0_0.length ≤ c0_0) (hr0_1 : Kd.C k71 w A0_1 l0_1.length l0_1) (hc0_1 : l0_1.length ≤ c0_1) (hr1_0 : Kd.C k25 w A1_0 l1_0.length l1_0) (hc1_0 : l1_0.length ≤ c1_0) (hr1_1 : Kd.C k71 w A1_1 l1_1.length l1_1) (hc1_1 : l1_1.length ≤ c1_1) (h : impl_SameState.f k l0_0 l0_1 a0_2 a0_3 l1_0 l1_1 a1_2 a1_3 = some r) :
    Calls Try.prog 46 #[.agg #[.slice A0_0 l0_0.length c0_0, .slice A0_1 l0_1.length c0_1, .int .i64 a0_2, .int .i64 a0_3], .agg #[.slice A1_0 l1_0.length c1_0, .slice A1_1 l1_1.length c1_1, .int .i64 a1_2, .int .i64 a1_3]] w fun e w' => e = .returned (.bool r) ∧ Below w.heap.size w w' := by
  have hu56 := Try.underlying56
  have HR0_0 := Aside0.mk hr0_0
  have HC0_0 := Aside0.mk hc0_0
  clear hr0_0 hc0_0
  have HR0_1 := Aside0.mk hr0_1
  have HC0_1 := Aside0.mk hc0_1
  clear hr0_1 hc0_1
  have HR1_0 := Aside0.mk hr1_0
  have HC1_0 := Aside0.mk hc1_0
  clear hr1_0 hc1_0
  have HR1_1 := Aside0.mk hr1_1
  have HC1_1 := Aside0.mk hc1_1
  clear hr1_1 hc1_1
  have HB := Aside0.mk (Below.refl w.heap.size w)
  have H : (if a0_2 = a1_2 then (if a0_3 = a1_3 then ((impl_Piece_110.f k l0_0 l1_0).bind fun t1053 => (if t1053 = true then ((impl_Side_111.f k l0_1 l1_1).bind fun t1054 => (some t1054)) else (some false))) else (some false)) else (some false)) = some r := h
  clear h
  by_cases c3 : a0_2 = a1_2
  · rw [if_pos c3] at H
    have c3b0 : (a0_2 == a1_2) = true := beq_iff_eq.mpr c3
    have c3b1 : (a0_2 != a1_2) = false := bne_eq_false_iff_eq.mpr c3
    clear c3
    by_cases c4 : a0_3 = a1_3
    · rw [if_pos c4] at H
      have c4b0 : (a0_3 == a1_3) = true := beq_iff_eq.mpr c4
      have c4b1 : (a0_3 != a1_3) = false := bne_eq_false_iff_eq.mpr c4
      clear c4
      replace H := Option.bind_eq_some_iff.mp H
      obtain ⟨t1053, A50, H⟩ := H
      replace H : (if t1053 = true then ((impl_Side_111.f k l0_1 l1_1).bind fun t1054 => (some t1054)) else (some false)) = some r := H
      have A5 := Aside0.mk A50
      clear A50
      by_cases c6 : t1053 = true
      · subst c6
        have H1 : ((impl_Side_111.f k l0_1 l1_1).bind fun t1054 => (some t1054)) = some r := by rw [if_pos rfl] at H; exact H
        clear H
        have H := H1
        clear H1
        replace H := Option.bind_eq_some_iff.mp H
        obtain ⟨t1054, A70, H⟩ := H
        replace H : (some t1054) = some r := H
        have A7 := Aside0.mk A70
        clear A70
        obtain rfl := Option.some.inj H
        go_enter Try.func46, Try.ntmps46
        go_wp2_with (first | ((with_reducible refine gate_dst (N := 2) rfl ?_); refine box_event ?hg (N := 2) ?hd (cs := #[.slice A0_0 l0_0.length c0_0, .slice A0_1 l0_1.length c0_1, .int .i64 a0_2, .int .i64 a0_3]) (t := 56) ?hr ?_; (case hd => rfl); (case hg => rfl); (case hr => first | (go_simp; done) | (go_simp; rfl)); intro gb1051 hg w8 hbox hb; have n0_ := Aside0.mk (below_step (by repeat (first | (with_reducible first | exact HB.out | apply below_alloc | apply pw_below_drewN | apply below_drew1) | exact HB.out)) hb); have n1_ := Aside0.mk (hbox); have n2_ := Aside0.mk ((by rw [hg]; exact (below_size (by repeat (first | (with_reducible first | exact HB.out | apply below_alloc | apply pw_below_drewN | apply below_drew1) | exact HB.out))) : w.heap.size ≤ gb1051)); have n3_ := Aside0.mk ((by rw [hg]; exact (below_size (by repeat (first | (with_reducible first | exact HB.out | apply below_alloc | apply pw_below_drewN | apply below_drew1) | exact HB.out))) : w.heap.size ≤ gb1051)); clear HB; have HB := n0_; have BK1051 := n1_; have GW1051 := n2_; have GE1051 := n3_; clear n0_ n1_ n2_ n3_; clear hb hbox hg) | ((with_reducible refine gate_dst (N := 3) rfl ?_); refine box_event ?hg (N := 3) ?hd (cs := #[.slice A1_0 l1_0.length c1_0, .slice A1_1 l1_1.length c1_1, .int .i64 a1_2, .int .i64 a1_3]) (t := 56) ?hr ?_; (case hd => rfl); (case hg => rfl); (case hr => first | (go_simp; done) | (go_simp; rfl)); intro gb1052 hg w9 hbox hb; have n0_ := Aside0.mk (blk_below (g := gb1051) (o := .cells #[.slice A0_0 l0_0.length c0_0, .slice A0_1 l0_1.length c0_1, .int .i64 a0_2, .int .i64 a0_3] 56 (0, 0)) (by (with_reducible repeat (first | refine blk_drewN ?_ _ | refine blk_drew ?_ | refine blk_alloc ?_ _)); exact BK1051.out) hb); have n1_ := Aside0.mk (below_step (by repeat (first | (with_reducible first | exact HB.out | apply below_alloc | apply pw_below_drewN | apply below_drew1 | refine below_set ?_ GE1051.out) | exact HB.out)) hb); have n2_ := Aside0.mk (hbox); have n3_ := Aside0.mk ((by rw [hg]; exact (below_size (by repeat (first | (with_reducible first | exact HB.out | apply below_alloc | apply pw_below_drewN | apply below_drew1 | refine below_set ?_ GE1051.out) | exact HB.out))) : w.heap.size ≤ gb1052)); have n4_ := Aside0.mk ((by rw [hg]; exact (below_size (by repeat (first | (with_reducible first | exact HB.out | apply below_alloc | apply pw_below_drewN | apply below_drew1 | refine below_set ?_ GE1051.out) | exact HB.out))) : w.heap.size ≤ gb1052)); have n5_ := Aside0.mk ((by rw [hg]; exact Nat.ne_of_lt (blk_lt (g := gb1051) (o := .cells #[.slice A0_0 l0_0.length c0_0, .slice A0_1 l0_1.length c0_1, .int .i64 a0_2, .int .i64 a0_3] 56 (0, 0)) (by (with_reducible repeat (first | refine blk_drewN ?_ _ | refine blk_drew ?_ | refine blk_alloc ?_ _)); exact BK1051.out)) : gb1051 ≠ gb1052)); have n6_ := Aside0.mk ((by rw [hg]; exact Nat.ne_of_gt (blk_lt (g := gb1051) (o := .cells #[.slice A0_0 l0_0.length c0_0, .slice A0_1 l0_1.length c0_1, .int .i64 a0_2, .int .i64 a0_3] 56 (0, 0)) (by (with_reducible repeat (first | refine blk_drewN ?_ _ | refine blk_drew ?_ | refine blk_alloc ?_ _)); exact BK1051.out)) : gb1052 ≠ gb1051)); clear BK1051; clear HB; have BK1051 := n0_; have HB := n1_; have BK1052 := n2_; have GW1052 := n3_; have GE1052 := n4_; have NB1051_1052 := n5_; have NB1052_1051 := n6_; clear n0_ n1_ n2_ n3_ n4_ n5_ n6_; clear hb hbox hg; have hnb10 := NB1051_1052.out; have hnc10 := NB1052_1051.out; have hcz11_0 : w9.cell? ⟨gb1051, 0, none⟩ = some (.slice A0_0 l0_0.length c0_0) := (blk_cell BK1051.out 0).trans rfl; have hcz11_1 : w9.cell? ⟨gb1051, 1, none⟩ = some (.slice A0_1 l0_1.length c0_1) := (blk_cell BK1051.out 1).trans rfl; have hcz11_2 : w9.cell? ⟨gb1051, 2, none⟩ = some (.int .i64 a0_2) := (blk_cell BK1051.out 2).trans rfl; have hcz11_3 : w9.cell? ⟨gb1051, 3, none⟩ = some (.int .i64 a0_3) := (blk_cell BK1051.out 3).trans rfl; have hfz11_0 := blk_frozen BK1051.out 0; have hfz11_1 := blk_frozen BK1051.out 1; have hfz11_2 := blk_frozen BK1051.out 2; have hfz11_3 := blk_frozen BK1051.out 3; have hcz12_0 : w9.cell? ⟨gb1052, 0, none⟩ = some (.slice A1_0 l1_0.length c1_0) := (blk_cell BK1052.out 0).trans rfl; have hcz12_1 : w9.cell? ⟨gb1052, 1, none⟩ = some (.slice A1_1 l1_1.length c1_1) := (blk_cell BK1052.out 1).trans rfl; have hcz12_2 : w9.cell? ⟨gb1052, 2, none⟩ = some (.int .i64 a1_2) := (blk_cell BK1052.out 2).trans rfl; have hcz12_3 : w9.cell? ⟨gb1052, 3, none⟩ = some (.int .i64 a1_3) := (blk_cell BK1052.out 3).trans rfl; have hfz12_0 := blk_frozen BK1052.out 0; have hfz12_1 := blk_frozen BK1052.out 1; have hfz12_2 := blk_frozen BK1052.out 2; have hfz12_3 := blk_frozen BK1052.out 3) | (go_at_call 110; (with_reducible refine (impl_Piece_110.calls k _ _ l0_0 _ _ l1_0 true _ ?side1 ?side2 ?side3 ?side4 A5.out).mono ?_); (case side1 => repeat (first | exact (Kd.C_below HR0_0.out HB.out) | (with_reducible refine Kd.C_alloc ?_ _) | (with_reducible refine Kd.C_drewN ?_ _) | (with_reducible refine Kd.C_drew ?_))); (case side2 => exact HC0_0.out); (case side3 => repeat (first | exact (Kd.C_below HR1_0.out HB.out) | (with_reducible refine Kd.C_alloc ?_ _) | (with_reducible refine Kd.C_drewN ?_ _) | (with_reducible refine Kd.C_drew ?_))); (case side4 => exact HC1_0.out); rintro e w' ⟨rfl, ⟨nd, rfl⟩⟩) | (go_at_call 111; (with_reducible refine (impl_Side_111.calls k _ _ l0_1 _ _ l1_1 t1054 _ ?side1 ?side2 ?side3 ?side4 A7.out).mono ?_); (case side1 => repeat (first | exact (Kd.C_below HR0_1.out (by repeat (first | (with_reducible first | exact HB.out | apply below_alloc | apply pw_below_drewN | apply below_drew1 | refine below_set ?_ GE1051.out | refine below_set ?_ GE1052.out) | exact HB.out))) | (with_reducible refine Kd.C_alloc ?_ _) | (with_reducible refine Kd.C_drewN ?_ _) | (with_reducible refine Kd.C_drew ?_))); (case side2 => exact HC0_1.out); (case side3 => repeat (first | exact (Kd.C_below HR1_1.out (by repeat (first | (with_reducible first | exact HB.out | apply below_alloc | apply pw_below_drewN | apply below_drew1 | refine below_set ?_ GE1051.out | refine below_set ?_ GE1052.out) | exact HB.out))) | (with_reducible refine Kd.C_alloc ?_ _) | (with_reducible refine Kd.C_drewN ?_ _) | (with_reducible refine Kd.C_drew ?_))); (case side4 => exact HC1_1.out); rintro e w' ⟨rfl, ⟨nd, rfl⟩⟩))
        go_ret
        exact ⟨by first | rfl | (simp [errW_none, errW_some] <;> rfl) | (simp [*, errW_none, errW_some] <;> rfl), by repeat (first | (with_reducible first | exact HB.out | apply below_alloc | apply pw_below_drewN | apply below_drew1 | refine below_set ?_ GE1051.out | refine below_set ?_ GE1052.out) | exact HB.out)⟩
      · replace c6 := Bool.eq_false_iff.mpr c6
        subst c6
        have H1 : (some false) = some r := by rw [if_neg (show ¬ (false = true) by decide)] at H; exact H
        clear H
        have H := H1
        clear H1
        obtain rfl := Option.some.inj H
        go_enter Try.func46, Try.ntmps46
        go_wp2_with (first | ((with_reducible refine gate_dst (N := 2) rfl ?_); refine box_event ?hg (N := 2) ?hd (cs := #[.slice A0_0 l0_0.length c0_0, .slice A0_1 l0_1.length c0_1, .int .i64 a0_2, .int .i64 a0_3]) (t := 56) ?hr ?_; (case hd => rfl); (case hg => rfl); (case hr => first | (go_simp; done) | (go_simp; rfl)); intro gb1051 hg w13 hbox hb; have n0_ := Aside0.mk (below_step (by repeat (first | (with_reducible first | exact HB.out | apply below_alloc | apply pw_below_drewN | apply below_drew1) | exact HB.out)) hb); have n1_ := Aside0.mk (hbox); have n2_ := Aside0.mk ((by rw [hg]; exact (below_size (by repeat (first | (with_reducible first | exact HB.out | apply below_alloc | apply pw_below_drewN | apply below_drew1) | exact HB.out))) : w.heap.size ≤ gb1051)); have n3_ := Aside0.mk ((by rw [hg]; exact (below_size (by repeat (first | (with_reducible first | exact HB.out | apply below_alloc | apply pw_below_drewN | apply below_drew1) | exact HB.out))) : w.heap.size ≤ gb1051)); clear HB; have HB := n0_; have BK1051 := n1_; have GW1051 := n2_; have GE1051 := n3_; clear n0_ n1_ n2_ n3_; clear hb hbox hg) | ((with_reducible refine gate_dst (N := 3) rfl ?_); refine box_event ?hg (N := 3) ?hd (cs := #[.slice A1_0 l1_0.length c1_0, .slice A1_1 l1_1.length c1_1, .int .i64 a1_2, .int .i64 a1_3]) (t := 56) ?hr ?_; (case hd => rfl); (case hg => rfl); (case hr => first | (go_simp; done) | (go_simp; rfl)); intro gb1052 hg w14 hbox hb; have n0_ := Aside0.mk (blk_below (g := gb1051) (o := .cells #[.slice A0_0 l0_0.length c0_0, .slice A0_1 l0_1.length c0_1, .int .i64 a0_2, .int .i64 a0_3] 56 (0, 0)) (by (with_reducible repeat (first | refine blk_drewN ?_ _ | refine blk_drew ?_ | refine blk_alloc ?_ _)); exact BK1051.out) hb); have n1_ := Aside0.mk (below_step (by repeat (first | (with_reducible first | exact HB.out | apply below_alloc | apply pw_below_drewN | apply below_drew1 | refine below_set ?_ GE1051.out) | exact HB.out)) hb); have n2_ := Aside0.mk (hbox); have n3_ := Aside0.mk ((by rw [hg]; exact (below_size (by repeat (first | (with_reducible first | exact HB.out | apply below_alloc | apply pw_below_drewN | apply below_drew1 | refine below_set ?_ GE1051.out) | exact HB.out))) : w.heap.size ≤ gb1052)); have n4_ := Aside0.mk ((by rw [hg]; exact (below_size (by repeat (first | (with_reducible first | exact HB.out | apply below_alloc | apply pw_below_drewN | apply below_drew1 | refine below_set ?_ GE1051.out) | exact HB.out))) : w.heap.size ≤ gb1052)); have n5_ := Aside0.mk ((by rw [hg]; exact Nat.ne_of_lt (blk_lt (g := gb1051) (o := .cells #[.slice A0_0 l0_0.length c0_0, .slice A0_1 l0_1.length c0_1, .int .i64 a0_2, .int .i64 a0_3] 56 (0, 0)) (by (with_reducible repeat (first | refine blk_drewN ?_ _ | refine blk_drew ?_ | refine blk_alloc ?_ _)); exact BK1051.out)) : gb1051 ≠ gb1052)); have n6_ := Aside0.mk ((by rw [hg]; exact Nat.ne_of_gt (blk_lt (g := gb1051) (o := .cells #[.slice A0_0 l0_0.length c0_0, .slice A0_1 l0_1.length c0_1, .int .i64 a0_2, .int .i64 a0_3] 56 (0, 0)) (by (with_reducible repeat (first | refine blk_drewN ?_ _ | refine blk_drew ?_ | refine blk_alloc ?_ _)); exact BK1051.out)) : gb1052 ≠ gb1051)); clear BK1051; clear HB; have BK1051 := n0_; have HB := n1_; have BK1052 := n2_; have GW1052 := n3_; have GE1052 := n4_; have NB1051_1052 := n5_; have NB1052_1051 := n6_; clear n0_ n1_ n2_ n3_ n4_ n5_ n6_; clear hb hbox hg; have hnb15 := NB1051_1052.out; have hnc15 := NB1052_1051.out; have hcz16_0 : w14.cell? ⟨gb1051, 0, none⟩ = some (.slice A0_0 l0_0.length c0_0) := (blk_cell BK1051.out 0).trans rfl; have hcz16_1 : w14.cell? ⟨gb1051, 1, none⟩ = some (.slice A0_1 l0_1.length c0_1) := (blk_cell BK1051.out 1).trans rfl; have hcz16_2 : w14.cell? ⟨gb1051, 2, none⟩ = some (.int .i64 a0_2) := (blk_cell BK1051.out 2).trans rfl; have hcz16_3 : w14.cell? ⟨gb1051, 3, none⟩ = some (.int .i64 a0_3) := (blk_cell BK1051.out 3).trans rfl; have hfz16_0 := blk_frozen BK1051.out 0; have hfz16_1 := blk_frozen BK1051.out 1; have hfz16_2 := blk_frozen BK1051.out 2; have hfz16_3 := blk_frozen BK1051.out 3; have hcz17_0 : w14.cell? ⟨gb1052, 0, none⟩ = some (.slice A1_0 l1_0.length c1_0) := (blk_cell BK1052.out 0).trans rfl; have hcz17_1 : w14.cell? ⟨gb1052, 1, none⟩ = some (.slice A1_1 l1_1.length c1_1) := (blk_cell BK1052.out 1).trans rfl; have hcz17_2 : w14.cell? ⟨gb1052, 2, none⟩ = some (.int .i64 a1_2) := (blk_cell BK1052.out 2).trans rfl; have hcz17_3 : w14.cell? ⟨gb1052, 3, none⟩ = some (.int .i64 a1_3) := (blk_cell BK1052.out 3).trans rfl; have hfz17_0 := blk_frozen BK1052.out 0; have hfz17_1 := blk_frozen BK1052.out 1; have hfz17_2 := blk_frozen BK1052.out 2; have hfz17_3 := blk_frozen BK1052.out 3) | (go_at_call 110; (with_reducible refine (impl_Piece_110.calls k _ _ l0_0 _ _ l1_0 false _ ?side1 ?side2 ?side3 ?side4 A5.out).mono ?_); (case side1 => repeat (first | exact (Kd.C_below HR0_0.out HB.out) | (with_reducible refine Kd.C_alloc ?_ _) | (with_reducible refine Kd.C_drewN ?_ _) | (with_reducible refine Kd.C_drew ?_))); (case side2 => exact HC0_0.out); (case side3 => repeat (first | exact (Kd.C_below HR1_0.out HB.out) | (with_reducible refine Kd.C_alloc ?_ _) | (with_reducible refine Kd.C_drewN ?_ _) | (with_reducible refine Kd.C_drew ?_))); (case side4 => exact HC1_0.out); rintro e w' ⟨rfl, ⟨nd, rfl⟩⟩))
        go_ret
        exact ⟨by first | rfl | (simp [errW_none, errW_some] <;> rfl) | (simp [*, errW_none, errW_some] <;> rfl), by repeat (first | (with_reducible first | exact HB.out | apply below_alloc | apply pw_below_drewN | apply below_drew1 | refine below_set ?_ GE1051.out | refine below_set ?_ GE1052.out) | exact HB.out)⟩
    · rw [if_neg c4] at H
      have c4b0 : (a0_3 == a1_3) = false := beq_eq_false_iff_ne.mpr c4
      have c4b1 : (a0_3 != a1_3) = true := bne_iff_ne.mpr c4
      obtain rfl := Option.some.inj H
      go_enter Try.func46, Try.ntmps46
      go_wp2_with (first | ((with_reducible refine gate_dst (N := 2) rfl ?_); refine box_event ?hg (N := 2) ?hd (cs := #[.slice A0_0 l0_0.length c0_0, .slice A0_1 l0_1.length c0_1, .int .i64 a0_2, .int .i64 a0_3]) (t := 56) ?hr ?_; (case hd => rfl); (case hg => rfl); (case hr => first | (go_simp; done) | (go_simp; rfl)); intro gb1051 hg w18 hbox hb; have n0_ := Aside0.mk (below_step (by repeat (first | (with_reducible first | exact HB.out | apply below_alloc | apply pw_below_drewN | apply below_drew1) | exact HB.out)) hb); have n1_ := Aside0.mk (hbox); have n2_ := Aside0.mk ((by rw [hg]; exact (below_size (by repeat (first | (with_reducible first | exact HB.out | apply below_alloc | apply pw_below_drewN | apply below_drew1) | exact HB.out))) : w.heap.size ≤ gb1051)); have n3_ := Aside0.mk ((by rw [hg]; exact (below_size (by repeat (first | (with_reducible first | exact HB.out | apply below_alloc | apply pw_below_drewN | apply below_drew1) | exact HB.out))) : w.heap.size ≤ gb1051)); clear HB; have HB := n0_; have BK1051 := n1_; have GW1051 := n2_; have GE1051 := n3_; clear n0_ n1_ n2_ n3_; clear hb hbox hg) | ((with_reducible refine gate_dst (N := 3) rfl ?_); refine box_event ?hg (N := 3) ?hd (cs := #[.slice A1_0 l1_0.length c1_0, .slice A1_1 l1_1.length c1_1, .int .i64 a1_2, .int .i64 a1_3]) (t := 56) ?hr ?_; (case hd => rfl); (case hg => rfl); (case hr => first | (go_simp; done) | (go_simp; rfl)); intro gb1052 hg w19 hbox hb; have n0_ := Aside0.mk (blk_below (g := gb1051) (o := .cells #[.slice A0_0 l0_0.length c0_0, .slice A0_1 l0_1.length c0_1, .int .i64 a0_2, .int .i64 a0_3] 56 (0, 0)) (by (with_reducible repeat (first | refine blk_drewN ?_ _ | refine blk_drew ?_ | refine blk_alloc ?_ _)); exact BK1051.out) hb); have n1_ := Aside0.mk (below_step (by repeat (first | (with_reducible first | exact HB.out | apply below_alloc | apply pw_below_drewN | apply below_drew1 | refine below_set ?_ GE1051.out) | exact HB.out)) hb); have n2_ := Aside0.mk (hbox); have n3_ := Aside0.mk ((by rw [hg]; exact (below_size (by repeat (first | (with_reducible first | exact HB.out | apply below_alloc | apply pw_below_drewN | apply below_drew1 | refine below_set ?_ GE1051.out) | exact HB.out))) : w.heap.size ≤ gb1052)); have n4_ := Aside0.mk ((by rw [hg]; exact (below_size (by repeat (first | (with_reducible first | exact HB.out | apply below_alloc | apply pw_below_drewN | apply below_drew1 | refine below_set ?_ GE1051.out) | exact HB.out))) : w.heap.size ≤ gb1052)); have n5_ := Aside0.mk ((by rw [hg]; exact Nat.ne_of_lt (blk_lt (g := gb1051) (o := .cells #[.slice A0_0 l0_0.length c0_0, .slice A0_1 l0_1.length c0_1, .int .i64 a0_2, .int .i64 a0_3] 56 (0, 0)) (by (with_reducible repeat (first | refine blk_drewN ?_ _ | refine blk_drew ?_ | refine blk_alloc ?_ _)); exact BK1051.out)) : gb1051 ≠ gb1052)); have n6_ := Aside0.mk ((by rw [hg]; exact Nat.ne_of_gt (blk_lt (g := gb1051) (o := .cells #[.slice A0_0 l0_0.length c0_0, .slice A0_1 l0_1.length c0_1, .int .i64 a0_2, .int .i64 a0_3] 56 (0, 0)) (by (with_reducible repeat (first | refine blk_drewN ?_ _ | refine blk_drew ?_ | refine blk_alloc ?_ _)); exact BK1051.out)) : gb1052 ≠ gb1051)); clear BK1051; clear HB; have BK1051 := n0_; have HB := n1_; have BK1052 := n2_; have GW1052 := n3_; have GE1052 := n4_; have NB1051_1052 := n5_; have NB1052_1051 := n6_; clear n0_ n1_ n2_ n3_ n4_ n5_ n6_; clear hb hbox hg; have hnb20 := NB1051_1052.out; have hnc20 := NB1052_1051.out; have hcz21_0 : w19.cell? ⟨gb1051, 0, none⟩ = some (.slice A0_0 l0_0.length c0_0) := (blk_cell BK1051.out 0).trans rfl; have hcz21_1 : w19.cell? ⟨gb1051, 1, none⟩ = some (.slice A0_1 l0_1.length c0_1) := (blk_cell BK1051.out 1).trans rfl; have hcz21_2 : w19.cell? ⟨gb1051, 2, none⟩ = some (.int .i64 a0_2) := (blk_cell BK1051.out 2).trans rfl; have hcz21_3 : w19.cell? ⟨gb1051, 3, none⟩ = some (.int .i64 a0_3) := (blk_cell BK1051.out 3).trans rfl; have hfz21_0 := blk_frozen BK1051.out 0; have hfz21_1 := blk_frozen BK1051.out 1; have hfz21_2 := blk_frozen BK1051.out 2; have hfz21_3 := blk_frozen BK1051.out 3; have hcz22_0 : w19.cell? ⟨gb1052, 0, none⟩ = some (.slice A1_0 l1_0.length c1_0) := (blk_cell BK1052.out 0).trans rfl; have hcz22_1 : w19.cell? ⟨gb1052, 1, none⟩ = some (.slice A1_1 l1_1.length c1_1) := (blk_cell BK1052.out 1).trans rfl; have hcz22_2 : w19.cell? ⟨gb1052, 2, none⟩ = some (.int .i64 a1_2) := (blk_cell BK1052.out 2).trans rfl; have hcz22_3 : w19.cell? ⟨gb1052, 3, none⟩ = some (.int .i64 a1_3) := (blk_cell BK1052.out 3).trans rfl; have hfz22_0 := blk_frozen BK1052.out 0; have hfz22_1 := blk_frozen BK1052.out 1; have hfz22_2 := blk_frozen BK1052.out 2; have hfz22_3 := blk_frozen BK1052.out 3))
      go_ret
      exact ⟨by first | rfl | (simp [errW_none, errW_some] <;> rfl) | (simp [*, errW_none, errW_some] <;> rfl), by repeat (first | (with_reducible first | exact HB.out | apply below_alloc | apply pw_below_drewN | apply below_drew1 | refine below_set ?_ GE1051.out | refine below_set ?_ GE1052.out) | exact HB.out)⟩
  · rw [if_neg c3] at H
    have c3b0 : (a0_2 == a1_2) = false := beq_eq_false_iff_ne.mpr c3
    have c3b1 : (a0_2 != a1_2) = true := bne_iff_ne.mpr c3
    obtain rfl := Option.some.inj H
    go_enter Try.func46, Try.ntmps46
    go_wp2_with (first | ((with_reducible refine gate_dst (N := 2) rfl ?_); refine box_event ?hg (N := 2) ?hd (cs := #[.slice A0_0 l0_0.length c0_0, .slice A0_1 l0_1.length c0_1, .int .i64 a0_2, .int .i64 a0_3]) (t := 56) ?hr ?_; (case hd => rfl); (case hg => rfl); (case hr => first | (go_simp; done) | (go_simp; rfl)); intro gb1051 hg w23 hbox hb; have n0_ := Aside0.mk (below_step (by repeat (first | (with_reducible first | exact HB.out | apply below_alloc | apply pw_below_drewN | apply below_drew1) | exact HB.out)) hb); have n1_ := Aside0.mk (hbox); have n2_ := Aside0.mk ((by rw [hg]; exact (below_size (by repeat (first | (with_reducible first | exact HB.out | apply below_alloc | apply pw_below_drewN | apply below_drew1) | exact HB.out))) : w.heap.size ≤ gb1051)); have n3_ := Aside0.mk ((by rw [hg]; exact (below_size (by repeat (first | (with_reducible first | exact HB.out | apply below_alloc | apply pw_below_drewN | apply below_drew1) | exact HB.out))) : w.heap.size ≤ gb1051)); clear HB; have HB := n0_; have BK1051 := n1_; have GW1051 := n2_; have GE1051 := n3_; clear n0_ n1_ n2_ n3_; clear hb hbox hg) | ((with_reducible refine gate_dst (N := 3) rfl ?_); refine box_event ?hg (N := 3) ?hd (cs := #[.slice A1_0 l1_0.length c1_0, .slice A1_1 l1_1.length c1_1, .int .i64 a1_2, .int .i64 a1_3]) (t := 56) ?hr ?_; (case hd => rfl); (case hg => rfl); (case hr => first | (go_simp; done) | (go_simp; rfl)); intro gb1052 hg w24 hbox hb; have n0_ := Aside0.mk (blk_below (g := gb1051) (o := .cells #[.slice A0_0 l0_0.length c0_0, .slice A0_1 l0_1.length c0_1, .int .i64 a0_2, .int .i64 a0_3] 56 (0, 0)) (by (with_reducible repeat (first | refine blk_drewN ?_ _ | refine blk_drew ?_ | refine blk_alloc ?_ _)); exact BK1051.out) hb); have n1_ := Aside0.mk (below_step (by repeat (first | (with_reducible first | exact HB.out | apply below_alloc | apply pw_below_drewN | apply below_drew1 | refine below_set ?_ GE1051.out) | exact HB.out)) hb); have n2_ := Aside0.mk (hbox); have n3_ := Aside0.mk ((by rw [hg]; exact (below_size (by repeat (first | (with_reducible first | exact HB.out | apply below_alloc | apply pw_below_drewN | apply below_drew1 | refine below_set ?_ GE1051.out) | exact HB.out))) : w.heap.size ≤ gb1052)); have n4_ := Aside0.mk ((by rw [hg]; exact (below_size (by repeat (first | (with_reducible first | exact HB.out | apply below_alloc | apply pw_below_drewN | apply below_drew1 | refine below_set ?_ GE1051.out) | exact HB.out))) : w.heap.size ≤ gb1052)); have n5_ := Aside0.mk ((by rw [hg]; exact Nat.ne_of_lt (blk_lt (g := gb1051) (o := .cells #[.slice A0_0 l0_0.length c0_0, .slice A0_1 l0_1.length c0_1, .int .i64 a0_2, .int .i64 a0_3] 56 (0, 0)) (by (with_reducible repeat (first | refine blk_drewN ?_ _ | refine blk_drew ?_ | refine blk_alloc ?_ _)); exact BK1051.out)) : gb1051 ≠ gb1052)); have n6_ := Aside0.mk ((by rw [hg]; exact Nat.ne_of_gt (blk_lt (g := gb1051) (o := .cells #[.slice A0_0 l0_0.length c0_0, .slice A0_1 l0_1.length c0_1, .int .i64 a0_2, .int .i64 a0_3] 56 (0, 0)) (by (with_reducible repeat (first | refine blk_drewN ?_ _ | refine blk_drew ?_ | refine blk_alloc ?_ _)); exact BK1051.out)) : gb1052 ≠ gb1051)); clear BK1051; clear HB; have BK1051 := n0_; have HB := n1_; have BK1052 := n2_; have GW1052 := n3_; have GE1052 := n4_; have NB1051_1052 := n5_; have NB1052_1051 := n6_; clear n0_ n1_ n2_ n3_ n4_ n5_ n6_; clear hb hbox hg; have hnb25 := NB1051_1052.out; have hnc25 := NB1052_1051.out; have hcz26_0 : w24.cell? ⟨gb1051, 0, none⟩ = some (.slice A0_0 l0_0.length c0_0) := (blk_cell BK1051.out 0).trans rfl; have hcz26_1 : w24.cell? ⟨gb1051, 1, none⟩ = some (.slice A0_1 l0_1.length c0_1) := (blk_cell BK1051.out 1).trans rfl; have hcz26_2 : w24.cell? ⟨gb1051, 2, none⟩ = some (.int .i64 a0_2) := (blk_cell BK1051.out 2).trans rfl; have hcz26_3 : w24.cell? ⟨gb1051, 3, none⟩ = some (.int .i64 a0_3) := (blk_cell BK1051.out 3).trans rfl; have hfz26_0 := blk_frozen BK1051.out 0; have hfz26_1 := blk_frozen BK1051.out 1; have hfz26_2 := blk_frozen BK1051.out 2; have hfz26_3 := blk_frozen BK1051.out 3; have hcz27_0 : w24.cell? ⟨gb1052, 0, none⟩ = some (.slice A1_0 l1_0.length c1_0) := (blk_cell BK1052.out 0).trans rfl; have hcz27_1 : w24.cell? ⟨gb1052, 1, none⟩ = some (.slice A1_1 l1_1.length c1_1) := (blk_cell BK1052.out 1).trans rfl; have hcz27_2 : w24.cell? ⟨gb1052, 2, none⟩ = some (.int .i64 a1_2) := (blk_cell BK1052.out 2).trans rfl; have hcz27_3 : w24.cell? ⟨gb1052, 3, none⟩ = some (.int .i64 a1_3) := (blk_cell BK1052.out 3).trans rfl; have hfz27_0 := blk_frozen BK1052.out 0; have hfz27_1 := blk_frozen BK1052.out 1; have hfz27_2 := blk_frozen BK1052.out 2; have hfz27_3 := blk_frozen BK1052.out 3))
    go_ret
    exact ⟨by first | rfl | (simp [errW_none, errW_some] <;> rfl) | (simp [*, errW_none, errW_some] <;> rfl), by repeat (first | (with_reducible first | exact HB.out | apply below_alloc | apply pw_below_drewN | apply below_drew1 | refine below_set ?_ GE1051.out | refine below_set ?_ GE1052.out) | exact HB.out)⟩



end Go.Proofs.Ytfkidiagmekleaa.QAll
