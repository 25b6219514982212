/- For every Event the program's EventOk and the reference's EventOk return the same bool. No condition. -/
import Derived.Test.YtnkpbdpdgfjhcaaQFnExactEventOkx5
namespace Go.Proofs.Ytnkpbdpdgfjhcaa.Pure
open Go.RowKit Go.Proofs.Ytnkpbdpdgfjhcaa.QFnExactEventOk Go.Proofs.YtnkpbdpdgfjhcaaW.PrintWords Go.Proofs.YtnkpbdpdgfjhcaaW.PrintLast
def inr (a lo hi : Int) : Bool := decide (lo ≤ a ∧ a ≤ hi)
theorem inr_if (a lo hi : Int) : (if a ≥ lo then (some (decide (a ≤ hi))) else (some false)) = some (inr a lo hi) := by
  unfold inr
  by_cases h : a ≥ lo
  · rw [if_pos h]; congr 1; simp [show lo ≤ a from h]
  · rw [if_neg h]; congr 1; simp; omega
theorem spec_in (a lo hi : Int) : spec_l1In.f a lo hi = some (inr a lo hi) := inr_if a lo hi
theorem impl_from_in (a lo hi : Int) : impl_from.f a lo hi = some (inr a lo hi) := inr_if a lo hi

def eok (a0 a1 a2 a3 a4 a5 : Int) (a6 : Bool) : Bool :=
  inr a4 0 2147483647 && (if a0 = 1 then inr a1 1 99 && (((inr a2 1 99 && (a3 == -1)) || (decide (a2 = 0) && inr a3 0 2)) && (decide (a5 = 0) && !a6))
    else if a0 = 2 then decide (a1 = 0) && ((inr a2 1 99 && (a3 == -1)) && (inr a5 1 4 && (decide (a4 ≤ 99) && (decide (a5 = 2) || (decide (a4 = 0) && !a6)))))
    else if a0 = 3 ∨ a0 = 4 then decide (a1 = 0) && ((decide (a2 = 0) && inr a3 0 2) && (decide (a5 = 0) && !a6))
    else if a0 = 5 ∨ a0 = 6 then decide (a1 = 0) && ((inr a2 1 99 && (a3 == -1)) && (decide (a5 = 0) && !a6))
    else false)
theorem spec_eventok (a0 a1 a2 a3 a4 a5 : Int) (a6 : Bool) : spec_EventOk.f 5 a0 a1 a2 a3 a4 a5 a6 = some (eok a0 a1 a2 a3 a4 a5 a6) := by
  have h2 : ∀ (x : Bool), spec_EventOk.j0 5 x a0 a1 a2 a3 a4 a5 a6 = spec_EventOk.j1 4 x (decide (a2 = 0) && inr a3 0 2) a0 a1 a2 a3 a4 a5 a6 := by
    intro x
    simp only [spec_EventOk.j0, spec_in, Option.bind_some]
    by_cases h : a2 = 0
    · rw [if_pos h]; simp [h]
    · rw [if_neg h]; simp [h]
  have h1 : spec_EventOk.f 5 a0 a1 a2 a3 a4 a5 a6 = spec_EventOk.j1 4 (inr a2 1 99 && (a3 == -1)) (decide (a2 = 0) && inr a3 0 2) a0 a1 a2 a3 a4 a5 a6 := by
    unfold spec_EventOk.f
    rw [spec_in]
    simp only [Option.bind_some, h2]
    cases inr a2 1 99 <;> simp
  rw [h1]
  unfold eok
  generalize (inr a2 1 99 && (a3 == -1)) = pc
  generalize (decide (a2 = 0) && inr a3 0 2) = sd
  simp only [spec_EventOk.j1, spec_EventOk.j2, spec_in, Option.bind_some]
  cases inr a4 0 2147483647
  · simp
  by_cases k1 : a0 = 1
  · simp only [k1, if_true]
    cases inr a1 1 99 <;> cases pc <;> cases sd <;> by_cases h5 : a5 = 0 <;> simp [h5]
  by_cases k2 : a0 = 2
  · simp only [k2, if_true]
    by_cases g1 : a1 = 0 <;> cases pc <;> cases inr a5 1 4 <;> by_cases g4 : a4 ≤ 99 <;> by_cases g5 : a5 = 2 <;> by_cases g6 : a4 = 0 <;> simp [g1, g4, g5, g6]
  by_cases k3 : a0 = 3
  · subst k3
    by_cases g1 : a1 = 0 <;> cases sd <;> by_cases g5 : a5 = 0 <;> simp [g1, g5]
  by_cases k4 : a0 = 4
  · subst k4
    by_cases g1 : a1 = 0 <;> cases sd <;> by_cases g5 : a5 = 0 <;> simp [g1, g5]
  by_cases k5 : a0 = 5
  · subst k5
    by_cases g1 : a1 = 0 <;> cases pc <;> by_cases g5 : a5 = 0 <;> simp [g1, g5]
  by_cases k6 : a0 = 6
  · subst k6
    by_cases g1 : a1 = 0 <;> cases pc <;> by_cases g5 : a5 = 0 <;> simp [g1, g5]
  simp [k1, k2, k3, k4, k5, k6]
theorem impl_eventok (a0 a1 a2 a3 a4 a5 : Int) (a6 : Bool) : impl_EventOk.f 5 a0 a1 a2 a3 a4 a5 a6 = some (eok a0 a1 a2 a3 a4 a5 a6) := by
  have hp : ∀ (b0 b1 b4 b5 : Int) (b6 : Bool), impl_onPiece.f b0 b1 a2 a3 b4 b5 b6 = some (inr a2 1 99 && (a3 == -1)) := by
    intro b0 b1 b4 b5 b6
    unfold impl_onPiece.f impl_isId.f
    rw [impl_from_in]
    simp only [Option.bind_some]
    cases inr a2 1 99 <;> simp
  have hs : ∀ (b0 b1 b4 b5 : Int) (b6 : Bool), impl_onPlayer.f b0 b1 a2 a3 b4 b5 b6 = some (decide (a2 = 0) && inr a3 0 2) := by
    intro b0 b1 b4 b5 b6
    unfold impl_onPlayer.f impl_isPlayer.f
    rw [impl_from_in]
    simp only [Option.bind_some]
    by_cases h : a2 = 0 <;> simp [h]
  unfold impl_EventOk.f eok
  simp only [impl_EventOk.j0, impl_EventOk.j1, hp, hs, impl_isAmount.f, impl_isId.f, impl_isZone.f, impl_from_in, Option.bind_some]
  generalize (inr a2 1 99 && (a3 == -1)) = pc
  generalize (decide (a2 = 0) && inr a3 0 2) = sd
  cases inr a4 0 2147483647
  · simp
  by_cases k1 : a0 = 1
  · subst k1
    cases inr a1 1 99 <;> cases pc <;> cases sd <;> by_cases h5 : a5 = 0 <;> cases a6 <;> simp [h5]
  by_cases k2 : a0 = 2
  · subst k2
    by_cases g5 : a5 = 2
    · subst g5
      have hz : inr 2 1 4 = true := rfl
      by_cases g1 : a1 = 0 <;> cases pc <;> by_cases g4 : a4 ≤ 99 <;> simp [g1, g4, hz]
    · by_cases g6 : a4 = 0
      · subst g6
        by_cases g1 : a1 = 0 <;> cases pc <;> cases inr a5 1 4 <;> simp [g1, g5]
      · by_cases g1 : a1 = 0 <;> cases pc <;> cases inr a5 1 4 <;> simp [g1, g5, g6]
  by_cases k3 : a0 = 3
  · subst k3
    by_cases g1 : a1 = 0 <;> cases sd <;> by_cases g5 : a5 = 0 <;> cases a6 <;> simp [g1, g5]
  by_cases k4 : a0 = 4
  · subst k4
    by_cases g1 : a1 = 0 <;> cases sd <;> by_cases g5 : a5 = 0 <;> cases a6 <;> simp [g1, g5]
  by_cases k5 : a0 = 5
  · subst k5
    by_cases g1 : a1 = 0 <;> cases pc <;> by_cases g5 : a5 = 0 <;> cases a6 <;> simp [g1, g5]
  by_cases k6 : a0 = 6
  · subst k6
    by_cases g1 : a1 = 0 <;> cases pc <;> by_cases g5 : a5 = 0 <;> cases a6 <;> simp [g1, g5]
  by_cases g1 : a1 = 0 <;> by_cases g5 : a5 = 0 <;> cases a6 <;> simp [k1, k2, k3, k4, k5, k6, g1, g5]
theorem FnExactEventOk : laws_FnExactEventOk.Pure := by
  unfold laws_FnExactEventOk.Pure
  intro a0 a1 a2 a3 a4 a5 a6
  intros
  refine ⟨5, ?_⟩
  simp only [laws_FnExactEventOk.f, laws_toEvent.f, Option.bind_some]
  rw [spec_eventok, impl_eventok]
  simp only [Option.bind_some, bne_self_eq_false, Bool.false_eq_true, if_false]

end Go.Proofs.Ytnkpbdpdgfjhcaa.Pure
