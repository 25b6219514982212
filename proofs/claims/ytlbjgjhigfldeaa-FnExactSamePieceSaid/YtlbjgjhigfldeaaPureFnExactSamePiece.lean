/- For all Pieces a and b the program's SamePiece and the reference's SamePiece return the same bool. No condition. -/
import Derived.Test.YtlbjgjhigfldeaaQFnExactSamePiecex2
namespace Go.Proofs.Ytlbjgjhigfldeaa.Pure
open Go.RowKit Go.Proofs.Ytlbjgjhigfldeaa.QFnExactSamePiece Go.Proofs.YtlbjgjhigfldeaaW.PrintWords Go.Proofs.YtlbjgjhigfldeaaW.PrintLast
theorem FnExactSamePiece : laws_FnExactSamePiece.Pure := by
  unfold laws_FnExactSamePiece.Pure
  intros
  simp only [laws_FnExactSamePiece.f, laws_toPiece.f, spec_SamePiece.f, impl_SamePiece.f, Option.bind_some, bne_self_eq_false, Bool.false_eq_true, if_false]

end Go.Proofs.Ytlbjgjhigfldeaa.Pure
