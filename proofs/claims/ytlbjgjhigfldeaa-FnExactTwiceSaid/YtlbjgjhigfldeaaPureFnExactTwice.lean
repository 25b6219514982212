/- For every int n the program's Twice and the reference's Twice return the same number. No condition. -/
import Derived.Test.YtlbjgjhigfldeaaPFnExactTwicex1
namespace Go.Proofs.Ytlbjgjhigfldeaa.Pure
open Go.RowKit Go.Proofs.Ytlbjgjhigfldeaa.PFnExactTwice Go.Proofs.YtlbjgjhigfldeaaW.PrintWords Go.Proofs.YtlbjgjhigfldeaaW.PrintLast
def bnd (n : Int) : Int := if n > 2147483647 then 2147483647 else if n < -2147483647 then -2147483647 else n
theorem spec_bound (n : Int) : spec_Bound.f n = some (bnd n) := by
  unfold spec_Bound.f bnd
  by_cases h1 : n > 2147483647
  · rw [if_pos h1, if_pos h1]
  · rw [if_neg h1, if_neg h1]
    by_cases h2 : n < -2147483647
    · rw [if_pos h2, if_pos h2]
    · rw [if_neg h2, if_neg h2]
theorem impl_bound (n : Int) : impl_Bound.f n = some (bnd n) := by
  unfold impl_Bound.f bnd mx mn
  congr 1
  split <;> split <;> (try split) <;> omega

theorem FnExactTwice : laws_FnExactTwice.Pure := by
  intro a0 _
  simp [laws_FnExactTwice.f, spec_Twice.f, impl_Twice.f, spec_bound, impl_bound]

end Go.Proofs.Ytlbjgjhigfldeaa.Pure
