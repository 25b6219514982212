/- For every Event e and every int n the program's WithN and the reference's WithN return the same Event. No condition. -/
import Derived.Test.YtnkpbdpdgfjhcaaQFnExactWithNx1
namespace Go.Proofs.Ytnkpbdpdgfjhcaa.Pure
open Go.RowKit Go.Proofs.Ytnkpbdpdgfjhcaa.QFnExactWithN Go.Proofs.YtnkpbdpdgfjhcaaW.PrintWords Go.Proofs.YtnkpbdpdgfjhcaaW.PrintLast
theorem impl_upto (a b : Int) : impl_Upto.f a b = spec_Upto.f a b := by
  unfold impl_Upto.f spec_Upto.f mx mn
  by_cases h1 : b < a
  · rw [if_pos h1]
    by_cases h2 : b < 0
    · rw [if_pos h2, if_neg (by omega)]; simp [h1]
    · rw [if_neg h2]; congr 1; simp [h1]; omega
  · rw [if_neg h1]
    by_cases h2 : a < 0
    · rw [if_pos h2, if_neg (by omega)]; simp [h1]
    · rw [if_neg h2]; congr 1; simp [h1]; omega
theorem spec_upto_some (a b : Int) : ∃ r, spec_Upto.f a b = some r := by
  unfold spec_Upto.f
  split <;> split <;> exact ⟨_, rfl⟩

theorem FnExactWithN : laws_FnExactWithN.Pure := by
  unfold laws_FnExactWithN.Pure
  intro a0_0 a0_1 a0_2 a0_3 a0_4 a0_5 a0_6 a1
  intros
  obtain ⟨r, hr⟩ := spec_upto_some a1 2147483647
  simp only [laws_FnExactWithN.f, laws_toEvent.f, spec_WithN.f, impl_WithN.f, impl_upto, hr, laws_eqEvent.f, Option.bind_some, if_true, bne_self_eq_false, Bool.false_eq_true, if_false]

end Go.Proofs.Ytnkpbdpdgfjhcaa.Pure
