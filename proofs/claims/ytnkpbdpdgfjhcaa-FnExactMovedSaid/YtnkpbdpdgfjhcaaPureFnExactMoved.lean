/- For every Piece p, every zone and every stamp the program's Moved and the reference's Moved return the same Piece. No condition. -/
import Derived.Test.YtnkpbdpdgfjhcaaQFnExactMovedx1
namespace Go.Proofs.Ytnkpbdpdgfjhcaa.Pure
open Go.RowKit Go.Proofs.Ytnkpbdpdgfjhcaa.QFnExactMoved Go.Proofs.YtnkpbdpdgfjhcaaW.PrintWords Go.Proofs.YtnkpbdpdgfjhcaaW.PrintLast
theorem FnExactMoved : laws_FnExactMoved.Pure := by
  unfold laws_FnExactMoved.Pure
  intros
  simp only [laws_FnExactMoved.f, laws_toPiece.f, spec_Moved.f, impl_Moved.f, laws_eqPiece.f, Option.bind_some, if_true, bne_self_eq_false, Bool.false_eq_true, if_false]

end Go.Proofs.Ytnkpbdpdgfjhcaa.Pure
