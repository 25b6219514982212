/- For all ints a and b the program's Plus and the reference's Plus return the same number. No condition. -/
import Derived.Test.YtlbjgjhigfldeaaPFnExactPlusx1
namespace Go.Proofs.Ytlbjgjhigfldeaa.Pure
open Go.RowKit Go.Proofs.Ytlbjgjhigfldeaa.PFnExactPlus Go.Proofs.YtlbjgjhigfldeaaW.PrintWords Go.Proofs.YtlbjgjhigfldeaaW.PrintLast
def bnd (n : Int) : Int := if n > 2147483647 then 2147483647 else if n < -2147483647 then -2147483647 else n
theorem spec_bound (n : Int) : spec_Bound.f n = some (bnd n) := by
  unfold spec_Bound.f bnd
  by_cases h1 : n > 2147483647
  · rw [if_pos h1, if_pos h1]
  · rw [if_neg h1, if_neg h1]
    by_cases h2 : n < -2147483647
    · rw [if_pos h2, if_pos h2]
    · rw [if_neg h2, if_neg h2]
theorem impl_bound (n : Int) : impl_Bound.f n = some (bnd n) := by
  unfold impl_Bound.f bnd mx mn
  congr 1
  split <;> split <;> (try split) <;> omega

theorem FnExactPlus : laws_FnExactPlus.Pure := by
  intro a0 a1 _ _
  simp [laws_FnExactPlus.f, spec_Plus.f, impl_Plus.f, spec_bound, impl_bound]

end Go.Proofs.Ytlbjgjhigfldeaa.Pure
