/-
  No cell of these rows narrows 'for every input' (looked for: loops, veiled, ifaces, maps, wideKeys, modest, calm, conditions, laid).
  DERIVED. THE GIVEN ROWS OF THIS SEAT. 9 by the template 'for every input the law returns true; each argument reads behind the call as it read before'; 0 by the template 'total and deterministic' (their statements: YtfkidiagmekleaaTotals.lean).
  GIVEN WITH THE SEED: the statements are not yours to turn. If you find one false, say at which input.
  Laid BY PROGRAM, IN A SANDBOX (cutbox-rows.mjs): the forced cells as the released guide's own fill.sh prints them over the translation 48e20ca64eb7676a… (all of the seat's roots in one cut). By AI agents, Wed Nov 11 2026. No macro, syntax, notation, axiom, sorry.
-/
import Derived.Test.YtfkidiagmekleaaChecked
import GoSem.Claim
import GoSem.ClaimJoined
import GoSem.ClaimMapViews
import Derived.JoinedTies
import Derived.KernelRfl
namespace Go.Proofs.Ytfkidiagmekleaa
/- THE CELL 'sum', in the pinned program and in every row, IS THE sha256 OF THE DUMP (.gsa) THAT YtfkidiagmekleaaProg.lean LOADS. Nothing in Lean hashes anything: it is a label: what it is worth is what the hold of that sum in a sandbox is worth. -/
noncomputable def Try.pinned : Pinned := { name := "ytfkidiagmekleaa", sum := "48e20ca64eb7676a297eaacb7a8d816bf4fcc471a88b60fc4161b19f1ba8e532", checked := Try.checked }
namespace Rows
def none {H : Type} : Left H := { results := [], args := [] }

/-- 'laws.FnPieces': WHATEVER THE INPUT: true; the input reads as it did. -/
def fnPiecesSpec : ChangeSpec := { name := "fnPieces", fn := fun _ => fun
  | [d] => { results := [.lit (.bool true)], args := [d] }
  | _ => none }
def fnPiecesRow : OpenClaim := { program := "ytfkidiagmekleaa", sum := "48e20ca64eb7676a297eaacb7a8d816bf4fcc471a88b60fc4161b19f1ba8e532", func := "loop.example/g00486/laws.FnPieces", spec := "fnPieces", apart := false }
def FnPiecesSaid : Prop := fnPiecesRow.holds Try.pinned (OpenSpec.ofChange fnPiecesSpec)

/-- ITS FALSE NEIGHBOUR: 'it returns false'. Refute it at one input. -/
def fnPiecesWrong : ChangeSpec := { name := "fnPieces", fn := fun _ => fun
  | [d] => { results := [.lit (.bool false)], args := [d] }
  | _ => none }
def FnPiecesWrongFalsely : Prop := fnPiecesRow.holds Try.pinned (OpenSpec.ofChange fnPiecesWrong)

/-- 'laws.FnPieceBytes': WHATEVER THE INPUT: true; the input reads as it did. -/
def fnPieceBytesSpec : ChangeSpec := { name := "fnPieceBytes", fn := fun _ => fun
  | [d] => { results := [.lit (.bool true)], args := [d] }
  | _ => none }
def fnPieceBytesRow : OpenClaim := { program := "ytfkidiagmekleaa", sum := "48e20ca64eb7676a297eaacb7a8d816bf4fcc471a88b60fc4161b19f1ba8e532", func := "loop.example/g00486/laws.FnPieceBytes", spec := "fnPieceBytes", apart := false }
def FnPieceBytesSaid : Prop := fnPieceBytesRow.holds Try.pinned (OpenSpec.ofChange fnPieceBytesSpec)

/-- ITS FALSE NEIGHBOUR: 'it returns false'. Refute it at one input. -/
def fnPieceBytesWrong : ChangeSpec := { name := "fnPieceBytes", fn := fun _ => fun
  | [d] => { results := [.lit (.bool false)], args := [d] }
  | _ => none }
def FnPieceBytesWrongFalsely : Prop := fnPieceBytesRow.holds Try.pinned (OpenSpec.ofChange fnPieceBytesWrong)

/-- 'laws.FnExactStateOk': WHATEVER THE INPUT: true; the input reads as it did. -/
def fnExactStateOkSpec : ChangeSpec := { name := "fnExactStateOk", fn := fun _ => fun
  | [d] => { results := [.lit (.bool true)], args := [d] }
  | _ => none }
def fnExactStateOkRow : OpenClaim := { program := "ytfkidiagmekleaa", sum := "48e20ca64eb7676a297eaacb7a8d816bf4fcc471a88b60fc4161b19f1ba8e532", func := "loop.example/g00486/laws.FnExactStateOk", spec := "fnExactStateOk", unfollowed := true, recurses := true, apart := false }
def FnExactStateOkSaid : Prop := fnExactStateOkRow.holds Try.pinned (OpenSpec.ofChange fnExactStateOkSpec)

/-- ITS FALSE NEIGHBOUR: 'it returns false'. Refute it at one input. -/
def fnExactStateOkWrong : ChangeSpec := { name := "fnExactStateOk", fn := fun _ => fun
  | [d] => { results := [.lit (.bool false)], args := [d] }
  | _ => none }
def FnExactStateOkWrongFalsely : Prop := fnExactStateOkRow.holds Try.pinned (OpenSpec.ofChange fnExactStateOkWrong)

/-- 'laws.FnStates': WHATEVER THE INPUT: true; the input reads as it did. -/
def fnStatesSpec : ChangeSpec := { name := "fnStates", fn := fun _ => fun
  | [d] => { results := [.lit (.bool true)], args := [d] }
  | _ => none }
def fnStatesRow : OpenClaim := { program := "ytfkidiagmekleaa", sum := "48e20ca64eb7676a297eaacb7a8d816bf4fcc471a88b60fc4161b19f1ba8e532", func := "loop.example/g00486/laws.FnStates", spec := "fnStates", unfollowed := true, recurses := true, apart := false }
def FnStatesSaid : Prop := fnStatesRow.holds Try.pinned (OpenSpec.ofChange fnStatesSpec)

/-- ITS FALSE NEIGHBOUR: 'it returns false'. Refute it at one input. -/
def fnStatesWrong : ChangeSpec := { name := "fnStates", fn := fun _ => fun
  | [d] => { results := [.lit (.bool false)], args := [d] }
  | _ => none }
def FnStatesWrongFalsely : Prop := fnStatesRow.holds Try.pinned (OpenSpec.ofChange fnStatesWrong)

/-- 'laws.FnExactPutState': WHATEVER THE INPUT: true; the input reads as it did. -/
def fnExactPutStateSpec : ChangeSpec := { name := "fnExactPutState", fn := fun _ => fun
  | [d] => { results := [.lit (.bool true)], args := [d] }
  | _ => none }
def fnExactPutStateRow : OpenClaim := { program := "ytfkidiagmekleaa", sum := "48e20ca64eb7676a297eaacb7a8d816bf4fcc471a88b60fc4161b19f1ba8e532", func := "loop.example/g00486/laws.FnExactPutState", spec := "fnExactPutState", unfollowed := true, recurses := true, apart := false }
def FnExactPutStateSaid : Prop := fnExactPutStateRow.holds Try.pinned (OpenSpec.ofChange fnExactPutStateSpec)

/-- ITS FALSE NEIGHBOUR: 'it returns false'. Refute it at one input. -/
def fnExactPutStateWrong : ChangeSpec := { name := "fnExactPutState", fn := fun _ => fun
  | [d] => { results := [.lit (.bool false)], args := [d] }
  | _ => none }
def FnExactPutStateWrongFalsely : Prop := fnExactPutStateRow.holds Try.pinned (OpenSpec.ofChange fnExactPutStateWrong)

/-- 'laws.FnExactSetPiece': WHATEVER THE INPUT: true; the input reads as it did. -/
def fnExactSetPieceSpec : ChangeSpec := { name := "fnExactSetPiece", fn := fun _ => fun
  | [d1, d2] => { results := [.lit (.bool true)], args := [d1, d2] }
  | _ => none }
def fnExactSetPieceRow : OpenClaim := { program := "ytfkidiagmekleaa", sum := "48e20ca64eb7676a297eaacb7a8d816bf4fcc471a88b60fc4161b19f1ba8e532", func := "loop.example/g00486/laws.FnExactSetPiece", spec := "fnExactSetPiece", inPlace := ["slices.overlaps[loop.example/g00486/impl.Piece]"], unfollowed := true, recurses := true, apart := false }
def FnExactSetPieceSaid : Prop := fnExactSetPieceRow.holds Try.pinned (OpenSpec.ofChange fnExactSetPieceSpec)

/-- ITS FALSE NEIGHBOUR: 'it returns false'. Refute it at one input. -/
def fnExactSetPieceWrong : ChangeSpec := { name := "fnExactSetPiece", fn := fun _ => fun
  | [d1, d2] => { results := [.lit (.bool false)], args := [d1, d2] }
  | _ => none }
def FnExactSetPieceWrongFalsely : Prop := fnExactSetPieceRow.holds Try.pinned (OpenSpec.ofChange fnExactSetPieceWrong)

/-- 'laws.FnExactGetState': WHATEVER THE INPUT: true; the input reads as it did. -/
def fnExactGetStateSpec : ChangeSpec := { name := "fnExactGetState", fn := fun _ => fun
  | [d] => { results := [.lit (.bool true)], args := [d] }
  | _ => none }
def fnExactGetStateRow : OpenClaim := { program := "ytfkidiagmekleaa", sum := "48e20ca64eb7676a297eaacb7a8d816bf4fcc471a88b60fc4161b19f1ba8e532", func := "loop.example/g00486/laws.FnExactGetState", spec := "fnExactGetState", unfollowed := true, recurses := true, apart := false }
def FnExactGetStateSaid : Prop := fnExactGetStateRow.holds Try.pinned (OpenSpec.ofChange fnExactGetStateSpec)

/-- ITS FALSE NEIGHBOUR: 'it returns false'. Refute it at one input. -/
def fnExactGetStateWrong : ChangeSpec := { name := "fnExactGetState", fn := fun _ => fun
  | [d] => { results := [.lit (.bool false)], args := [d] }
  | _ => none }
def FnExactGetStateWrongFalsely : Prop := fnExactGetStateRow.holds Try.pinned (OpenSpec.ofChange fnExactGetStateWrong)

/-- 'laws.FnSetPieces': WHATEVER THE INPUT: true; the input reads as it did. -/
def fnSetPiecesSpec : ChangeSpec := { name := "fnSetPieces", fn := fun _ => fun
  | [d] => { results := [.lit (.bool true)], args := [d] }
  | _ => none }
def fnSetPiecesRow : OpenClaim := { program := "ytfkidiagmekleaa", sum := "48e20ca64eb7676a297eaacb7a8d816bf4fcc471a88b60fc4161b19f1ba8e532", func := "loop.example/g00486/laws.FnSetPieces", spec := "fnSetPieces", inPlace := ["slices.overlaps[loop.example/g00486/impl.Piece]"], unfollowed := true, recurses := true, apart := false }
def FnSetPiecesSaid : Prop := fnSetPiecesRow.holds Try.pinned (OpenSpec.ofChange fnSetPiecesSpec)

/-- ITS FALSE NEIGHBOUR: 'it returns false'. Refute it at one input. -/
def fnSetPiecesWrong : ChangeSpec := { name := "fnSetPieces", fn := fun _ => fun
  | [d] => { results := [.lit (.bool false)], args := [d] }
  | _ => none }
def FnSetPiecesWrongFalsely : Prop := fnSetPiecesRow.holds Try.pinned (OpenSpec.ofChange fnSetPiecesWrong)

/-- 'laws.FnStateBytes': WHATEVER THE INPUT: true; the input reads as it did. -/
def fnStateBytesSpec : ChangeSpec := { name := "fnStateBytes", fn := fun _ => fun
  | [d] => { results := [.lit (.bool true)], args := [d] }
  | _ => none }
def fnStateBytesRow : OpenClaim := { program := "ytfkidiagmekleaa", sum := "48e20ca64eb7676a297eaacb7a8d816bf4fcc471a88b60fc4161b19f1ba8e532", func := "loop.example/g00486/laws.FnStateBytes", spec := "fnStateBytes", unfollowed := true, recurses := true, apart := false }
def FnStateBytesSaid : Prop := fnStateBytesRow.holds Try.pinned (OpenSpec.ofChange fnStateBytesSpec)

/-- ITS FALSE NEIGHBOUR: 'it returns false'. Refute it at one input. -/
def fnStateBytesWrong : ChangeSpec := { name := "fnStateBytes", fn := fun _ => fun
  | [d] => { results := [.lit (.bool false)], args := [d] }
  | _ => none }
def FnStateBytesWrongFalsely : Prop := fnStateBytesRow.holds Try.pinned (OpenSpec.ofChange fnStateBytesWrong)

/- THE SECOND FORM. 'bulk': how many values and letters a reading holds, each counted each time it is reached (what is shared counts as often as it is met; a slice's spare places count too). A statement '..UptoSaid' is the law's where the arguments, and the package variables that the reading takes, are together of bulk at most 1048576: NARROWER than '..Said'. Prove '..Said' where nothing that the law and all that it calls make is longer than what came in: it says more and counts as full. Else prove '..UptoSaid'. A law counts once. -/
mutual
def uptoBulk {H : Type} : DataW H → Nat
  | .lit (.string bytes) => bytes.length + 1
  | .lit _ => 1
  | .nil => 1
  | .ptr d => uptoBulk d + 1
  | .slice elems spare => uptoBulkAll elems + uptoBulkAll spare + 1
  | .agg parts => uptoBulkAll parts + 1
  | .iface _ d => uptoBulk d + 1
  | .map entries => uptoBulkEntries entries + 1
  | .held _ => 1
def uptoBulkAll {H : Type} : List (DataW H) → Nat
  | [] => 0
  | d :: r => uptoBulk d + uptoBulkAll r
def uptoBulkEntries {H : Type} : List (Lit × DataW H) → Nat
  | [] => 0
  | x :: r => uptoBulkEntry x + uptoBulkEntries r
def uptoBulkEntry {H : Type} : Lit × DataW H → Nat
  | (.string bytes, d) => bytes.length + uptoBulk d + 1
  | (_, d) => uptoBulk d + 1
 end
def uptoSmall : (H : Type) → List (DataW H) → Bool := fun _ ds => decide (uptoBulkAll ds ≤ 1048576)
def OpenSpec.upto (s : _root_.Go.ChangeSpec) : _root_.Go.OpenSpec := { _root_.Go.OpenSpec.ofChange s with cond := some uptoSmall }

/-- 'laws.FnPieces', WHERE WHAT IT READS IS OF BULK AT MOST 1048576: true; the input reads as it did. -/
def fnPiecesUptoRow : OpenClaim := { program := "ytfkidiagmekleaa", sum := "48e20ca64eb7676a297eaacb7a8d816bf4fcc471a88b60fc4161b19f1ba8e532", func := "loop.example/g00486/laws.FnPieces", spec := "fnPieces", apart := false, narrowed := true }
def FnPiecesUptoSaid : Prop := fnPiecesUptoRow.holds Try.pinned (OpenSpec.upto fnPiecesSpec)

/-- 'laws.FnPieceBytes', WHERE WHAT IT READS IS OF BULK AT MOST 1048576: true; the input reads as it did. -/
def fnPieceBytesUptoRow : OpenClaim := { program := "ytfkidiagmekleaa", sum := "48e20ca64eb7676a297eaacb7a8d816bf4fcc471a88b60fc4161b19f1ba8e532", func := "loop.example/g00486/laws.FnPieceBytes", spec := "fnPieceBytes", apart := false, narrowed := true }
def FnPieceBytesUptoSaid : Prop := fnPieceBytesUptoRow.holds Try.pinned (OpenSpec.upto fnPieceBytesSpec)

/-- 'laws.FnExactStateOk', WHERE WHAT IT READS IS OF BULK AT MOST 1048576: true; the input reads as it did. -/
def fnExactStateOkUptoRow : OpenClaim := { program := "ytfkidiagmekleaa", sum := "48e20ca64eb7676a297eaacb7a8d816bf4fcc471a88b60fc4161b19f1ba8e532", func := "loop.example/g00486/laws.FnExactStateOk", spec := "fnExactStateOk", unfollowed := true, recurses := true, apart := false, narrowed := true }
def FnExactStateOkUptoSaid : Prop := fnExactStateOkUptoRow.holds Try.pinned (OpenSpec.upto fnExactStateOkSpec)

/-- 'laws.FnStates', WHERE WHAT IT READS IS OF BULK AT MOST 1048576: true; the input reads as it did. -/
def fnStatesUptoRow : OpenClaim := { program := "ytfkidiagmekleaa", sum := "48e20ca64eb7676a297eaacb7a8d816bf4fcc471a88b60fc4161b19f1ba8e532", func := "loop.example/g00486/laws.FnStates", spec := "fnStates", unfollowed := true, recurses := true, apart := false, narrowed := true }
def FnStatesUptoSaid : Prop := fnStatesUptoRow.holds Try.pinned (OpenSpec.upto fnStatesSpec)

/-- 'laws.FnExactPutState', WHERE WHAT IT READS IS OF BULK AT MOST 1048576: true; the input reads as it did. -/
def fnExactPutStateUptoRow : OpenClaim := { program := "ytfkidiagmekleaa", sum := "48e20ca64eb7676a297eaacb7a8d816bf4fcc471a88b60fc4161b19f1ba8e532", func := "loop.example/g00486/laws.FnExactPutState", spec := "fnExactPutState", unfollowed := true, recurses := true, apart := false, narrowed := true }
def FnExactPutStateUptoSaid : Prop := fnExactPutStateUptoRow.holds Try.pinned (OpenSpec.upto fnExactPutStateSpec)

/-- 'laws.FnExactSetPiece', WHERE WHAT IT READS IS OF BULK AT MOST 1048576: true; the input reads as it did. -/
def fnExactSetPieceUptoRow : OpenClaim := { program := "ytfkidiagmekleaa", sum := "48e20ca64eb7676a297eaacb7a8d816bf4fcc471a88b60fc4161b19f1ba8e532", func := "loop.example/g00486/laws.FnExactSetPiece", spec := "fnExactSetPiece", inPlace := ["slices.overlaps[loop.example/g00486/impl.Piece]"], unfollowed := true, recurses := true, apart := false, narrowed := true }
def FnExactSetPieceUptoSaid : Prop := fnExactSetPieceUptoRow.holds Try.pinned (OpenSpec.upto fnExactSetPieceSpec)

/-- 'laws.FnExactGetState', WHERE WHAT IT READS IS OF BULK AT MOST 1048576: true; the input reads as it did. -/
def fnExactGetStateUptoRow : OpenClaim := { program := "ytfkidiagmekleaa", sum := "48e20ca64eb7676a297eaacb7a8d816bf4fcc471a88b60fc4161b19f1ba8e532", func := "loop.example/g00486/laws.FnExactGetState", spec := "fnExactGetState", unfollowed := true, recurses := true, apart := false, narrowed := true }
def FnExactGetStateUptoSaid : Prop := fnExactGetStateUptoRow.holds Try.pinned (OpenSpec.upto fnExactGetStateSpec)

/-- 'laws.FnSetPieces', WHERE WHAT IT READS IS OF BULK AT MOST 1048576: true; the input reads as it did. -/
def fnSetPiecesUptoRow : OpenClaim := { program := "ytfkidiagmekleaa", sum := "48e20ca64eb7676a297eaacb7a8d816bf4fcc471a88b60fc4161b19f1ba8e532", func := "loop.example/g00486/laws.FnSetPieces", spec := "fnSetPieces", inPlace := ["slices.overlaps[loop.example/g00486/impl.Piece]"], unfollowed := true, recurses := true, apart := false, narrowed := true }
def FnSetPiecesUptoSaid : Prop := fnSetPiecesUptoRow.holds Try.pinned (OpenSpec.upto fnSetPiecesSpec)

/-- 'laws.FnStateBytes', WHERE WHAT IT READS IS OF BULK AT MOST 1048576: true; the input reads as it did. -/
def fnStateBytesUptoRow : OpenClaim := { program := "ytfkidiagmekleaa", sum := "48e20ca64eb7676a297eaacb7a8d816bf4fcc471a88b60fc4161b19f1ba8e532", func := "loop.example/g00486/laws.FnStateBytes", spec := "fnStateBytes", unfollowed := true, recurses := true, apart := false, narrowed := true }
def FnStateBytesUptoSaid : Prop := fnStateBytesUptoRow.holds Try.pinned (OpenSpec.upto fnStateBytesSpec)

end Rows
end Go.Proofs.Ytfkidiagmekleaa
