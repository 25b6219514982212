/-
  No cell of these rows narrows 'for every input' (looked for: loops, veiled, ifaces, maps, wideKeys, modest, calm, conditions, laid).
  DERIVED. THE GIVEN ROWS OF THIS SEAT. 12 by the template 'for every input the law returns true; each argument reads behind the call as it read before'; 0 by the template 'total and deterministic' (their statements: YtfpbbikhcnpceaaTotals.lean).
  GIVEN WITH THE SEED: the statements are not yours to turn. If you find one false, say at which input.
  Laid BY PROGRAM, IN A SANDBOX (cutbox-rows.mjs): the forced cells as the released guide's own fill.sh prints them over the translation 1ad8bb1c13bc25f5… (all of the seat's roots in one cut). By AI agents, Wed Nov 11 2026. No macro, syntax, notation, axiom, sorry.
-/
import Derived.Test.YtfpbbikhcnpceaaChecked
import GoSem.Claim
import GoSem.ClaimJoined
import GoSem.ClaimMapViews
import Derived.JoinedTies
import Derived.KernelRfl
namespace Go.Proofs.Ytfpbbikhcnpceaa
/- THE CELL 'sum', in the pinned program and in every row, IS THE sha256 OF THE DUMP (.gsa) THAT YtfpbbikhcnpceaaProg.lean LOADS. Nothing in Lean hashes anything: it is a label: what it is worth is what the hold of that sum in a sandbox is worth. -/
noncomputable def Try.pinned : Pinned := { name := "ytfpbbikhcnpceaa", sum := "1ad8bb1c13bc25f5571f98a2d1e58555c60804473f0d6b298c38b1326d0758fd", checked := Try.checked }
namespace Rows
def none {H : Type} : Left H := { results := [], args := [] }

/-- 'laws.FnBounds': WHATEVER THE INPUT: true; the input reads as it did. -/
def fnBoundsSpec : ChangeSpec := { name := "fnBounds", fn := fun _ => fun
  | [d] => { results := [.lit (.bool true)], args := [d] }
  | _ => none }
def fnBoundsRow : OpenClaim := { program := "ytfpbbikhcnpceaa", sum := "1ad8bb1c13bc25f5571f98a2d1e58555c60804473f0d6b298c38b1326d0758fd", func := "loop.example/g00486/laws.FnBounds", spec := "fnBounds", apart := false }
def FnBoundsSaid : Prop := fnBoundsRow.holds Try.pinned (OpenSpec.ofChange fnBoundsSpec)

/-- ITS FALSE NEIGHBOUR: 'it returns false'. Refute it at one input. -/
def fnBoundsWrong : ChangeSpec := { name := "fnBounds", fn := fun _ => fun
  | [d] => { results := [.lit (.bool false)], args := [d] }
  | _ => none }
def FnBoundsWrongFalsely : Prop := fnBoundsRow.holds Try.pinned (OpenSpec.ofChange fnBoundsWrong)

/-- 'laws.FnNums': WHATEVER THE INPUT: true; the input reads as it did. -/
def fnNumsSpec : ChangeSpec := { name := "fnNums", fn := fun _ => fun
  | [d] => { results := [.lit (.bool true)], args := [d] }
  | _ => none }
def fnNumsRow : OpenClaim := { program := "ytfpbbikhcnpceaa", sum := "1ad8bb1c13bc25f5571f98a2d1e58555c60804473f0d6b298c38b1326d0758fd", func := "loop.example/g00486/laws.FnNums", spec := "fnNums", apart := false }
def FnNumsSaid : Prop := fnNumsRow.holds Try.pinned (OpenSpec.ofChange fnNumsSpec)

/-- ITS FALSE NEIGHBOUR: 'it returns false'. Refute it at one input. -/
def fnNumsWrong : ChangeSpec := { name := "fnNums", fn := fun _ => fun
  | [d] => { results := [.lit (.bool false)], args := [d] }
  | _ => none }
def FnNumsWrongFalsely : Prop := fnNumsRow.holds Try.pinned (OpenSpec.ofChange fnNumsWrong)

/-- 'laws.FnDigits': WHATEVER THE INPUT: true; the input reads as it did. -/
def fnDigitsSpec : ChangeSpec := { name := "fnDigits", fn := fun _ => fun
  | [d] => { results := [.lit (.bool true)], args := [d] }
  | _ => none }
def fnDigitsRow : OpenClaim := { program := "ytfpbbikhcnpceaa", sum := "1ad8bb1c13bc25f5571f98a2d1e58555c60804473f0d6b298c38b1326d0758fd", func := "loop.example/g00486/laws.FnDigits", spec := "fnDigits", recurses := true, apart := false }
def FnDigitsSaid : Prop := fnDigitsRow.holds Try.pinned (OpenSpec.ofChange fnDigitsSpec)

/-- ITS FALSE NEIGHBOUR: 'it returns false'. Refute it at one input. -/
def fnDigitsWrong : ChangeSpec := { name := "fnDigits", fn := fun _ => fun
  | [d] => { results := [.lit (.bool false)], args := [d] }
  | _ => none }
def FnDigitsWrongFalsely : Prop := fnDigitsRow.holds Try.pinned (OpenSpec.ofChange fnDigitsWrong)

/-- 'laws.FnLists': WHATEVER THE INPUT: true; the input reads as it did. -/
def fnListsSpec : ChangeSpec := { name := "fnLists", fn := fun _ => fun
  | [d] => { results := [.lit (.bool true)], args := [d] }
  | _ => none }
def fnListsRow : OpenClaim := { program := "ytfpbbikhcnpceaa", sum := "1ad8bb1c13bc25f5571f98a2d1e58555c60804473f0d6b298c38b1326d0758fd", func := "loop.example/g00486/laws.FnLists", spec := "fnLists", apart := false }
def FnListsSaid : Prop := fnListsRow.holds Try.pinned (OpenSpec.ofChange fnListsSpec)

/-- ITS FALSE NEIGHBOUR: 'it returns false'. Refute it at one input. -/
def fnListsWrong : ChangeSpec := { name := "fnLists", fn := fun _ => fun
  | [d] => { results := [.lit (.bool false)], args := [d] }
  | _ => none }
def FnListsWrongFalsely : Prop := fnListsRow.holds Try.pinned (OpenSpec.ofChange fnListsWrong)

/-- 'laws.FnExactPutPiece': WHATEVER THE INPUT: true; the input reads as it did. -/
def fnExactPutPieceSpec : ChangeSpec := { name := "fnExactPutPiece", fn := fun _ => fun
  | [d1, d2] => { results := [.lit (.bool true)], args := [d1, d2] }
  | _ => none }
def fnExactPutPieceRow : OpenClaim := { program := "ytfpbbikhcnpceaa", sum := "1ad8bb1c13bc25f5571f98a2d1e58555c60804473f0d6b298c38b1326d0758fd", func := "loop.example/g00486/laws.FnExactPutPiece", spec := "fnExactPutPiece", apart := false }
def FnExactPutPieceSaid : Prop := fnExactPutPieceRow.holds Try.pinned (OpenSpec.ofChange fnExactPutPieceSpec)

/-- ITS FALSE NEIGHBOUR: 'it returns false'. Refute it at one input. -/
def fnExactPutPieceWrong : ChangeSpec := { name := "fnExactPutPiece", fn := fun _ => fun
  | [d1, d2] => { results := [.lit (.bool false)], args := [d1, d2] }
  | _ => none }
def FnExactPutPieceWrongFalsely : Prop := fnExactPutPieceRow.holds Try.pinned (OpenSpec.ofChange fnExactPutPieceWrong)

/-- 'laws.FnExactGetPiece': WHATEVER THE INPUT: true; the input reads as it did. -/
def fnExactGetPieceSpec : ChangeSpec := { name := "fnExactGetPiece", fn := fun _ => fun
  | [d1, d2] => { results := [.lit (.bool true)], args := [d1, d2] }
  | _ => none }
def fnExactGetPieceRow : OpenClaim := { program := "ytfpbbikhcnpceaa", sum := "1ad8bb1c13bc25f5571f98a2d1e58555c60804473f0d6b298c38b1326d0758fd", func := "loop.example/g00486/laws.FnExactGetPiece", spec := "fnExactGetPiece", apart := false }
def FnExactGetPieceSaid : Prop := fnExactGetPieceRow.holds Try.pinned (OpenSpec.ofChange fnExactGetPieceSpec)

/-- ITS FALSE NEIGHBOUR: 'it returns false'. Refute it at one input. -/
def fnExactGetPieceWrong : ChangeSpec := { name := "fnExactGetPiece", fn := fun _ => fun
  | [d1, d2] => { results := [.lit (.bool false)], args := [d1, d2] }
  | _ => none }
def FnExactGetPieceWrongFalsely : Prop := fnExactGetPieceRow.holds Try.pinned (OpenSpec.ofChange fnExactGetPieceWrong)

/-- 'laws.FnPieces': WHATEVER THE INPUT: true; the input reads as it did. -/
def fnPiecesSpec : ChangeSpec := { name := "fnPieces", fn := fun _ => fun
  | [d] => { results := [.lit (.bool true)], args := [d] }
  | _ => none }
def fnPiecesRow : OpenClaim := { program := "ytfpbbikhcnpceaa", sum := "1ad8bb1c13bc25f5571f98a2d1e58555c60804473f0d6b298c38b1326d0758fd", func := "loop.example/g00486/laws.FnPieces", spec := "fnPieces", apart := false }
def FnPiecesSaid : Prop := fnPiecesRow.holds Try.pinned (OpenSpec.ofChange fnPiecesSpec)

/-- ITS FALSE NEIGHBOUR: 'it returns false'. Refute it at one input. -/
def fnPiecesWrong : ChangeSpec := { name := "fnPieces", fn := fun _ => fun
  | [d] => { results := [.lit (.bool false)], args := [d] }
  | _ => none }
def FnPiecesWrongFalsely : Prop := fnPiecesRow.holds Try.pinned (OpenSpec.ofChange fnPiecesWrong)

/-- 'laws.FnPieceBytes': WHATEVER THE INPUT: true; the input reads as it did. -/
def fnPieceBytesSpec : ChangeSpec := { name := "fnPieceBytes", fn := fun _ => fun
  | [d] => { results := [.lit (.bool true)], args := [d] }
  | _ => none }
def fnPieceBytesRow : OpenClaim := { program := "ytfpbbikhcnpceaa", sum := "1ad8bb1c13bc25f5571f98a2d1e58555c60804473f0d6b298c38b1326d0758fd", func := "loop.example/g00486/laws.FnPieceBytes", spec := "fnPieceBytes", apart := false }
def FnPieceBytesSaid : Prop := fnPieceBytesRow.holds Try.pinned (OpenSpec.ofChange fnPieceBytesSpec)

/-- ITS FALSE NEIGHBOUR: 'it returns false'. Refute it at one input. -/
def fnPieceBytesWrong : ChangeSpec := { name := "fnPieceBytes", fn := fun _ => fun
  | [d] => { results := [.lit (.bool false)], args := [d] }
  | _ => none }
def FnPieceBytesWrongFalsely : Prop := fnPieceBytesRow.holds Try.pinned (OpenSpec.ofChange fnPieceBytesWrong)

/-- 'laws.FnExactPieceAt': WHATEVER THE INPUT: true; the input reads as it did. -/
def fnExactPieceAtSpec : ChangeSpec := { name := "fnExactPieceAt", fn := fun _ => fun
  | [d1, d2] => { results := [.lit (.bool true)], args := [d1, d2] }
  | _ => none }
def fnExactPieceAtRow : OpenClaim := { program := "ytfpbbikhcnpceaa", sum := "1ad8bb1c13bc25f5571f98a2d1e58555c60804473f0d6b298c38b1326d0758fd", func := "loop.example/g00486/laws.FnExactPieceAt", spec := "fnExactPieceAt", unfollowed := true, recurses := true, apart := false }
def FnExactPieceAtSaid : Prop := fnExactPieceAtRow.holds Try.pinned (OpenSpec.ofChange fnExactPieceAtSpec)

/-- ITS FALSE NEIGHBOUR: 'it returns false'. Refute it at one input. -/
def fnExactPieceAtWrong : ChangeSpec := { name := "fnExactPieceAt", fn := fun _ => fun
  | [d1, d2] => { results := [.lit (.bool false)], args := [d1, d2] }
  | _ => none }
def FnExactPieceAtWrongFalsely : Prop := fnExactPieceAtRow.holds Try.pinned (OpenSpec.ofChange fnExactPieceAtWrong)

/-- 'laws.FnExactSameState': WHATEVER THE INPUT: true; the input reads as it did. -/
def fnExactSameStateSpec : ChangeSpec := { name := "fnExactSameState", fn := fun _ => fun
  | [d1, d2] => { results := [.lit (.bool true)], args := [d1, d2] }
  | _ => none }
def fnExactSameStateRow : OpenClaim := { program := "ytfpbbikhcnpceaa", sum := "1ad8bb1c13bc25f5571f98a2d1e58555c60804473f0d6b298c38b1326d0758fd", func := "loop.example/g00486/laws.FnExactSameState", spec := "fnExactSameState", apart := false }
def FnExactSameStateSaid : Prop := fnExactSameStateRow.holds Try.pinned (OpenSpec.ofChange fnExactSameStateSpec)

/-- ITS FALSE NEIGHBOUR: 'it returns false'. Refute it at one input. -/
def fnExactSameStateWrong : ChangeSpec := { name := "fnExactSameState", fn := fun _ => fun
  | [d1, d2] => { results := [.lit (.bool false)], args := [d1, d2] }
  | _ => none }
def FnExactSameStateWrongFalsely : Prop := fnExactSameStateRow.holds Try.pinned (OpenSpec.ofChange fnExactSameStateWrong)

/-- 'laws.FnExactStateOk': WHATEVER THE INPUT: true; the input reads as it did. -/
def fnExactStateOkSpec : ChangeSpec := { name := "fnExactStateOk", fn := fun _ => fun
  | [d] => { results := [.lit (.bool true)], args := [d] }
  | _ => none }
def fnExactStateOkRow : OpenClaim := { program := "ytfpbbikhcnpceaa", sum := "1ad8bb1c13bc25f5571f98a2d1e58555c60804473f0d6b298c38b1326d0758fd", func := "loop.example/g00486/laws.FnExactStateOk", spec := "fnExactStateOk", unfollowed := true, recurses := true, apart := false }
def FnExactStateOkSaid : Prop := fnExactStateOkRow.holds Try.pinned (OpenSpec.ofChange fnExactStateOkSpec)

/-- ITS FALSE NEIGHBOUR: 'it returns false'. Refute it at one input. -/
def fnExactStateOkWrong : ChangeSpec := { name := "fnExactStateOk", fn := fun _ => fun
  | [d] => { results := [.lit (.bool false)], args := [d] }
  | _ => none }
def FnExactStateOkWrongFalsely : Prop := fnExactStateOkRow.holds Try.pinned (OpenSpec.ofChange fnExactStateOkWrong)

/-- 'laws.FnExactStateNew': WHATEVER THE INPUT: true; the input reads as it did. -/
def fnExactStateNewSpec : ChangeSpec := { name := "fnExactStateNew", fn := fun _ => fun
  | [d] => { results := [.lit (.bool true)], args := [d] }
  | _ => none }
def fnExactStateNewRow : OpenClaim := { program := "ytfpbbikhcnpceaa", sum := "1ad8bb1c13bc25f5571f98a2d1e58555c60804473f0d6b298c38b1326d0758fd", func := "loop.example/g00486/laws.FnExactStateNew", spec := "fnExactStateNew", apart := false }
def FnExactStateNewSaid : Prop := fnExactStateNewRow.holds Try.pinned (OpenSpec.ofChange fnExactStateNewSpec)

/-- ITS FALSE NEIGHBOUR: 'it returns false'. Refute it at one input. -/
def fnExactStateNewWrong : ChangeSpec := { name := "fnExactStateNew", fn := fun _ => fun
  | [d] => { results := [.lit (.bool false)], args := [d] }
  | _ => none }
def FnExactStateNewWrongFalsely : Prop := fnExactStateNewRow.holds Try.pinned (OpenSpec.ofChange fnExactStateNewWrong)

/- THE SECOND FORM. 'bulk': how many values and letters a reading holds, each counted each time it is reached (what is shared counts as often as it is met; a slice's spare places count too). A statement '..UptoSaid' is the law's where the arguments, and the package variables that the reading takes, are together of bulk at most 1048576: NARROWER than '..Said'. Prove '..Said' where nothing that the law and all that it calls make is longer than what came in: it says more and counts as full. Else prove '..UptoSaid'. A law counts once. -/
mutual
def uptoBulk {H : Type} : DataW H → Nat
  | .lit (.string bytes) => bytes.length + 1
  | .lit _ => 1
  | .nil => 1
  | .ptr d => uptoBulk d + 1
  | .slice elems spare => uptoBulkAll elems + uptoBulkAll spare + 1
  | .agg parts => uptoBulkAll parts + 1
  | .iface _ d => uptoBulk d + 1
  | .map entries => uptoBulkEntries entries + 1
  | .held _ => 1
def uptoBulkAll {H : Type} : List (DataW H) → Nat
  | [] => 0
  | d :: r => uptoBulk d + uptoBulkAll r
def uptoBulkEntries {H : Type} : List (Lit × DataW H) → Nat
  | [] => 0
  | x :: r => uptoBulkEntry x + uptoBulkEntries r
def uptoBulkEntry {H : Type} : Lit × DataW H → Nat
  | (.string bytes, d) => bytes.length + uptoBulk d + 1
  | (_, d) => uptoBulk d + 1
 end
def uptoSmall : (H : Type) → List (DataW H) → Bool := fun _ ds => decide (uptoBulkAll ds ≤ 1048576)
def OpenSpec.upto (s : _root_.Go.ChangeSpec) : _root_.Go.OpenSpec := { _root_.Go.OpenSpec.ofChange s with cond := some uptoSmall }

/-- 'laws.FnBounds', WHERE WHAT IT READS IS OF BULK AT MOST 1048576: true; the input reads as it did. -/
def fnBoundsUptoRow : OpenClaim := { program := "ytfpbbikhcnpceaa", sum := "1ad8bb1c13bc25f5571f98a2d1e58555c60804473f0d6b298c38b1326d0758fd", func := "loop.example/g00486/laws.FnBounds", spec := "fnBounds", apart := false, narrowed := true }
def FnBoundsUptoSaid : Prop := fnBoundsUptoRow.holds Try.pinned (OpenSpec.upto fnBoundsSpec)

/-- 'laws.FnNums', WHERE WHAT IT READS IS OF BULK AT MOST 1048576: true; the input reads as it did. -/
def fnNumsUptoRow : OpenClaim := { program := "ytfpbbikhcnpceaa", sum := "1ad8bb1c13bc25f5571f98a2d1e58555c60804473f0d6b298c38b1326d0758fd", func := "loop.example/g00486/laws.FnNums", spec := "fnNums", apart := false, narrowed := true }
def FnNumsUptoSaid : Prop := fnNumsUptoRow.holds Try.pinned (OpenSpec.upto fnNumsSpec)

/-- 'laws.FnDigits', WHERE WHAT IT READS IS OF BULK AT MOST 1048576: true; the input reads as it did. -/
def fnDigitsUptoRow : OpenClaim := { program := "ytfpbbikhcnpceaa", sum := "1ad8bb1c13bc25f5571f98a2d1e58555c60804473f0d6b298c38b1326d0758fd", func := "loop.example/g00486/laws.FnDigits", spec := "fnDigits", recurses := true, apart := false, narrowed := true }
def FnDigitsUptoSaid : Prop := fnDigitsUptoRow.holds Try.pinned (OpenSpec.upto fnDigitsSpec)

/-- 'laws.FnLists', WHERE WHAT IT READS IS OF BULK AT MOST 1048576: true; the input reads as it did. -/
def fnListsUptoRow : OpenClaim := { program := "ytfpbbikhcnpceaa", sum := "1ad8bb1c13bc25f5571f98a2d1e58555c60804473f0d6b298c38b1326d0758fd", func := "loop.example/g00486/laws.FnLists", spec := "fnLists", apart := false, narrowed := true }
def FnListsUptoSaid : Prop := fnListsUptoRow.holds Try.pinned (OpenSpec.upto fnListsSpec)

/-- 'laws.FnExactPutPiece', WHERE WHAT IT READS IS OF BULK AT MOST 1048576: true; the input reads as it did. -/
def fnExactPutPieceUptoRow : OpenClaim := { program := "ytfpbbikhcnpceaa", sum := "1ad8bb1c13bc25f5571f98a2d1e58555c60804473f0d6b298c38b1326d0758fd", func := "loop.example/g00486/laws.FnExactPutPiece", spec := "fnExactPutPiece", apart := false, narrowed := true }
def FnExactPutPieceUptoSaid : Prop := fnExactPutPieceUptoRow.holds Try.pinned (OpenSpec.upto fnExactPutPieceSpec)

/-- 'laws.FnExactGetPiece', WHERE WHAT IT READS IS OF BULK AT MOST 1048576: true; the input reads as it did. -/
def fnExactGetPieceUptoRow : OpenClaim := { program := "ytfpbbikhcnpceaa", sum := "1ad8bb1c13bc25f5571f98a2d1e58555c60804473f0d6b298c38b1326d0758fd", func := "loop.example/g00486/laws.FnExactGetPiece", spec := "fnExactGetPiece", apart := false, narrowed := true }
def FnExactGetPieceUptoSaid : Prop := fnExactGetPieceUptoRow.holds Try.pinned (OpenSpec.upto fnExactGetPieceSpec)

/-- 'laws.FnPieces', WHERE WHAT IT READS IS OF BULK AT MOST 1048576: true; the input reads as it did. -/
def fnPiecesUptoRow : OpenClaim := { program := "ytfpbbikhcnpceaa", sum := "1ad8bb1c13bc25f5571f98a2d1e58555c60804473f0d6b298c38b1326d0758fd", func := "loop.example/g00486/laws.FnPieces", spec := "fnPieces", apart := false, narrowed := true }
def FnPiecesUptoSaid : Prop := fnPiecesUptoRow.holds Try.pinned (OpenSpec.upto fnPiecesSpec)

/-- 'laws.FnPieceBytes', WHERE WHAT IT READS IS OF BULK AT MOST 1048576: true; the input reads as it did. -/
def fnPieceBytesUptoRow : OpenClaim := { program := "ytfpbbikhcnpceaa", sum := "1ad8bb1c13bc25f5571f98a2d1e58555c60804473f0d6b298c38b1326d0758fd", func := "loop.example/g00486/laws.FnPieceBytes", spec := "fnPieceBytes", apart := false, narrowed := true }
def FnPieceBytesUptoSaid : Prop := fnPieceBytesUptoRow.holds Try.pinned (OpenSpec.upto fnPieceBytesSpec)

/-- 'laws.FnExactPieceAt', WHERE WHAT IT READS IS OF BULK AT MOST 1048576: true; the input reads as it did. -/
def fnExactPieceAtUptoRow : OpenClaim := { program := "ytfpbbikhcnpceaa", sum := "1ad8bb1c13bc25f5571f98a2d1e58555c60804473f0d6b298c38b1326d0758fd", func := "loop.example/g00486/laws.FnExactPieceAt", spec := "fnExactPieceAt", unfollowed := true, recurses := true, apart := false, narrowed := true }
def FnExactPieceAtUptoSaid : Prop := fnExactPieceAtUptoRow.holds Try.pinned (OpenSpec.upto fnExactPieceAtSpec)

/-- 'laws.FnExactSameState', WHERE WHAT IT READS IS OF BULK AT MOST 1048576: true; the input reads as it did. -/
def fnExactSameStateUptoRow : OpenClaim := { program := "ytfpbbikhcnpceaa", sum := "1ad8bb1c13bc25f5571f98a2d1e58555c60804473f0d6b298c38b1326d0758fd", func := "loop.example/g00486/laws.FnExactSameState", spec := "fnExactSameState", apart := false, narrowed := true }
def FnExactSameStateUptoSaid : Prop := fnExactSameStateUptoRow.holds Try.pinned (OpenSpec.upto fnExactSameStateSpec)

/-- 'laws.FnExactStateOk', WHERE WHAT IT READS IS OF BULK AT MOST 1048576: true; the input reads as it did. -/
def fnExactStateOkUptoRow : OpenClaim := { program := "ytfpbbikhcnpceaa", sum := "1ad8bb1c13bc25f5571f98a2d1e58555c60804473f0d6b298c38b1326d0758fd", func := "loop.example/g00486/laws.FnExactStateOk", spec := "fnExactStateOk", unfollowed := true, recurses := true, apart := false, narrowed := true }
def FnExactStateOkUptoSaid : Prop := fnExactStateOkUptoRow.holds Try.pinned (OpenSpec.upto fnExactStateOkSpec)

/-- 'laws.FnExactStateNew', WHERE WHAT IT READS IS OF BULK AT MOST 1048576: true; the input reads as it did. -/
def fnExactStateNewUptoRow : OpenClaim := { program := "ytfpbbikhcnpceaa", sum := "1ad8bb1c13bc25f5571f98a2d1e58555c60804473f0d6b298c38b1326d0758fd", func := "loop.example/g00486/laws.FnExactStateNew", spec := "fnExactStateNew", apart := false, narrowed := true }
def FnExactStateNewUptoSaid : Prop := fnExactStateNewUptoRow.holds Try.pinned (OpenSpec.upto fnExactStateNewSpec)

end Rows
end Go.Proofs.Ytfpbbikhcnpceaa
