/- For every Piece the program's ToughOf and the reference's ToughOf return the same number. No condition. -/
import Derived.Test.YtlbjgjhigfldeaaQFnExactToughOfx1
namespace Go.Proofs.Ytlbjgjhigfldeaa.Pure
open Go.RowKit Go.Proofs.Ytlbjgjhigfldeaa.QFnExactToughOf Go.Proofs.YtlbjgjhigfldeaaW.PrintWords Go.Proofs.YtlbjgjhigfldeaaW.PrintLast
def bnd (n : Int) : Int := if n > 2147483647 then 2147483647 else if n < -2147483647 then -2147483647 else n
theorem spec_bound (n : Int) : spec_Bound.f n = some (bnd n) := by
  unfold spec_Bound.f bnd
  by_cases h1 : n > 2147483647
  · rw [if_pos h1, if_pos h1]
  · rw [if_neg h1, if_neg h1]
    by_cases h2 : n < -2147483647
    · rw [if_pos h2, if_pos h2]
    · rw [if_neg h2, if_neg h2]
theorem impl_bound (n : Int) : impl_Bound.f n = some (bnd n) := by
  unfold impl_Bound.f bnd mx mn
  congr 1
  split <;> split <;> (try split) <;> omega

theorem FnExactToughOf : laws_FnExactToughOf.Pure := by
  unfold laws_FnExactToughOf.Pure
  intros
  simp [laws_FnExactToughOf.f, laws_toPiece.f, spec_ToughOf.f, impl_ToughOf.f, spec_Plus.f, spec_Less.f, impl_Plus.f, impl_Less.f, spec_bound, impl_bound]

end Go.Proofs.Ytlbjgjhigfldeaa.Pure
