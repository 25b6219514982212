/- For every Piece p and every int t the program's HasTrait and the reference's HasTrait return the same bool. No condition. -/
import Derived.Test.YtlbjgjhigfldeaaQFnExactHasTraitx1
namespace Go.Proofs.Ytlbjgjhigfldeaa.Pure
open Go.RowKit Go.Proofs.Ytlbjgjhigfldeaa.QFnExactHasTrait Go.Proofs.YtlbjgjhigfldeaaW.PrintWords Go.Proofs.YtlbjgjhigfldeaaW.PrintLast
theorem impl_trait : @impl_HasTrait.f = @spec_HasTrait.f := rfl
theorem spec_trait_some (a0_0 a0_1 a0_2 a0_3 a0_4 a0_5 a0_6 a0_7 a0_8 a0_9 a0_10 : Int) (a0_11 a0_12 : Bool) (a1 : Int) : ∃ r, spec_HasTrait.f a0_0 a0_1 a0_2 a0_3 a0_4 a0_5 a0_6 a0_7 a0_8 a0_9 a0_10 a0_11 a0_12 a1 = some r := by
  unfold spec_HasTrait.f
  repeat' (first | exact ⟨_, rfl⟩ | split)
theorem FnExactHasTrait : laws_FnExactHasTrait.Pure := by
  intro a0_0 a0_1 a0_2 a0_3 a0_4 a0_5 a0_6 a0_7 a0_8 a0_9 a0_10 a0_11 a0_12 a1
  intros
  obtain ⟨r, hr⟩ := spec_trait_some a0_0 a0_1 a0_2 a0_3 a0_4 a0_5 a0_6 a0_7 a0_8 a0_9 a0_10 a0_11 a0_12 a1
  simp only [laws_FnExactHasTrait.f, laws_toPiece.f, impl_trait, hr, Option.bind_some, bne_self_eq_false, Bool.false_eq_true, if_false]

end Go.Proofs.Ytlbjgjhigfldeaa.Pure
