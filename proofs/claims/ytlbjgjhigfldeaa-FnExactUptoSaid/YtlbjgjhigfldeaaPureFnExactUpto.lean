/- For all ints n and most the program's Upto and the reference's Upto return the same number. No condition. -/
import Derived.Test.YtlbjgjhigfldeaaPFnExactUptox1
namespace Go.Proofs.Ytlbjgjhigfldeaa.Pure
open Go.RowKit Go.Proofs.Ytlbjgjhigfldeaa.PFnExactUpto Go.Proofs.YtlbjgjhigfldeaaW.PrintWords Go.Proofs.YtlbjgjhigfldeaaW.PrintLast
theorem impl_upto (a b : Int) : impl_Upto.f a b = spec_Upto.f a b := by
  unfold impl_Upto.f spec_Upto.f mx mn
  by_cases h1 : b < a
  · rw [if_pos h1]
    by_cases h2 : b < 0
    · rw [if_pos h2, if_neg (by omega)]; simp [h1]
    · rw [if_neg h2]; congr 1; simp [h1]; omega
  · rw [if_neg h1]
    by_cases h2 : a < 0
    · rw [if_pos h2, if_neg (by omega)]; simp [h1]
    · rw [if_neg h2]; congr 1; simp [h1]; omega
theorem spec_upto_some (a b : Int) : ∃ r, spec_Upto.f a b = some r := by
  unfold spec_Upto.f
  split <;> split <;> exact ⟨_, rfl⟩
theorem FnExactUpto : laws_FnExactUpto.Pure := by
  intro a0 a1 _ _
  obtain ⟨r, hr⟩ := spec_upto_some a0 a1
  simp [laws_FnExactUpto.f, impl_upto, hr]

end Go.Proofs.Ytlbjgjhigfldeaa.Pure
