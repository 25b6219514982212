/-
  No cell of these rows narrows 'for every input' (looked for: loops, veiled, ifaces, maps, wideKeys, modest, calm, conditions, laid).
  DERIVED. THE GIVEN ROWS OF THIS SEAT. 6 by the template 'for every input the law returns true; each argument reads behind the call as it read before'; 0 by the template 'total and deterministic' (their statements: YtnogcdmkpbfcmaaTotals.lean).
  GIVEN WITH THE SEED: the statements are not yours to turn. If you find one false, say at which input.
  Laid BY PROGRAM, IN A SANDBOX (cutbox-rows.mjs): the forced cells as the released guide's own fill.sh prints them over the translation 2fed1d92ace55381… (all of the seat's roots in one cut). By AI agents, Wed Nov 11 2026. No macro, syntax, notation, axiom, sorry.
-/
import Derived.Test.YtnogcdmkpbfcmaaChecked
import GoSem.Claim
import GoSem.ClaimJoined
import GoSem.ClaimMapViews
import Derived.JoinedTies
import Derived.KernelRfl
namespace Go.Proofs.Ytnogcdmkpbfcmaa
/- THE CELL 'sum', in the pinned program and in every row, IS THE sha256 OF THE DUMP (.gsa) THAT YtnogcdmkpbfcmaaProg.lean LOADS. Nothing in Lean hashes anything: it is a label: what it is worth is what the hold of that sum in a sandbox is worth. -/
noncomputable def Try.pinned : Pinned := { name := "ytnogcdmkpbfcmaa", sum := "2fed1d92ace553811bad28bf9678f3c58cf0cf0da70801b30c07f6500f20ac9c", checked := Try.checked }
namespace Rows
def none {H : Type} : Left H := { results := [], args := [] }

/-- 'laws.FnExactOnField': WHATEVER THE INPUT: true; the input reads as it did. -/
def fnExactOnFieldSpec : ChangeSpec := { name := "fnExactOnField", fn := fun _ => fun
  | [d1, d2] => { results := [.lit (.bool true)], args := [d1, d2] }
  | _ => none }
def fnExactOnFieldRow : OpenClaim := { program := "ytnogcdmkpbfcmaa", sum := "2fed1d92ace553811bad28bf9678f3c58cf0cf0da70801b30c07f6500f20ac9c", func := "loop.example/g00486/laws.FnExactOnField", spec := "fnExactOnField", apart := false }
def FnExactOnFieldSaid : Prop := fnExactOnFieldRow.holds Try.pinned (OpenSpec.ofChange fnExactOnFieldSpec)

/-- ITS FALSE NEIGHBOUR: 'it returns false'. Refute it at one input. -/
def fnExactOnFieldWrong : ChangeSpec := { name := "fnExactOnField", fn := fun _ => fun
  | [d1, d2] => { results := [.lit (.bool false)], args := [d1, d2] }
  | _ => none }
def FnExactOnFieldWrongFalsely : Prop := fnExactOnFieldRow.holds Try.pinned (OpenSpec.ofChange fnExactOnFieldWrong)

/-- 'laws.FnSetPieces': WHATEVER THE INPUT: true; the input reads as it did. -/
def fnSetPiecesSpec : ChangeSpec := { name := "fnSetPieces", fn := fun _ => fun
  | [d] => { results := [.lit (.bool true)], args := [d] }
  | _ => none }
def fnSetPiecesRow : OpenClaim := { program := "ytnogcdmkpbfcmaa", sum := "2fed1d92ace553811bad28bf9678f3c58cf0cf0da70801b30c07f6500f20ac9c", func := "loop.example/g00486/laws.FnSetPieces", spec := "fnSetPieces", inPlace := ["slices.overlaps[loop.example/g00486/impl.Piece]"], unfollowed := true, recurses := true, apart := false }
def FnSetPiecesSaid : Prop := fnSetPiecesRow.holds Try.pinned (OpenSpec.ofChange fnSetPiecesSpec)

/-- ITS FALSE NEIGHBOUR: 'it returns false'. Refute it at one input. -/
def fnSetPiecesWrong : ChangeSpec := { name := "fnSetPieces", fn := fun _ => fun
  | [d] => { results := [.lit (.bool false)], args := [d] }
  | _ => none }
def FnSetPiecesWrongFalsely : Prop := fnSetPiecesRow.holds Try.pinned (OpenSpec.ofChange fnSetPiecesWrong)

/-- 'laws.FnExactPutState': WHATEVER THE INPUT: true; the input reads as it did. -/
def fnExactPutStateSpec : ChangeSpec := { name := "fnExactPutState", fn := fun _ => fun
  | [d] => { results := [.lit (.bool true)], args := [d] }
  | _ => none }
def fnExactPutStateRow : OpenClaim := { program := "ytnogcdmkpbfcmaa", sum := "2fed1d92ace553811bad28bf9678f3c58cf0cf0da70801b30c07f6500f20ac9c", func := "loop.example/g00486/laws.FnExactPutState", spec := "fnExactPutState", unfollowed := true, recurses := true, apart := false }
def FnExactPutStateSaid : Prop := fnExactPutStateRow.holds Try.pinned (OpenSpec.ofChange fnExactPutStateSpec)

/-- ITS FALSE NEIGHBOUR: 'it returns false'. Refute it at one input. -/
def fnExactPutStateWrong : ChangeSpec := { name := "fnExactPutState", fn := fun _ => fun
  | [d] => { results := [.lit (.bool false)], args := [d] }
  | _ => none }
def FnExactPutStateWrongFalsely : Prop := fnExactPutStateRow.holds Try.pinned (OpenSpec.ofChange fnExactPutStateWrong)

/-- 'laws.FnExactSetPiece': WHATEVER THE INPUT: true; the input reads as it did. -/
def fnExactSetPieceSpec : ChangeSpec := { name := "fnExactSetPiece", fn := fun _ => fun
  | [d1, d2] => { results := [.lit (.bool true)], args := [d1, d2] }
  | _ => none }
def fnExactSetPieceRow : OpenClaim := { program := "ytnogcdmkpbfcmaa", sum := "2fed1d92ace553811bad28bf9678f3c58cf0cf0da70801b30c07f6500f20ac9c", func := "loop.example/g00486/laws.FnExactSetPiece", spec := "fnExactSetPiece", inPlace := ["slices.overlaps[loop.example/g00486/impl.Piece]"], unfollowed := true, recurses := true, apart := false }
def FnExactSetPieceSaid : Prop := fnExactSetPieceRow.holds Try.pinned (OpenSpec.ofChange fnExactSetPieceSpec)

/-- ITS FALSE NEIGHBOUR: 'it returns false'. Refute it at one input. -/
def fnExactSetPieceWrong : ChangeSpec := { name := "fnExactSetPiece", fn := fun _ => fun
  | [d1, d2] => { results := [.lit (.bool false)], args := [d1, d2] }
  | _ => none }
def FnExactSetPieceWrongFalsely : Prop := fnExactSetPieceRow.holds Try.pinned (OpenSpec.ofChange fnExactSetPieceWrong)

/-- 'laws.FnExactGetState': WHATEVER THE INPUT: true; the input reads as it did. -/
def fnExactGetStateSpec : ChangeSpec := { name := "fnExactGetState", fn := fun _ => fun
  | [d] => { results := [.lit (.bool true)], args := [d] }
  | _ => none }
def fnExactGetStateRow : OpenClaim := { program := "ytnogcdmkpbfcmaa", sum := "2fed1d92ace553811bad28bf9678f3c58cf0cf0da70801b30c07f6500f20ac9c", func := "loop.example/g00486/laws.FnExactGetState", spec := "fnExactGetState", unfollowed := true, recurses := true, apart := false }
def FnExactGetStateSaid : Prop := fnExactGetStateRow.holds Try.pinned (OpenSpec.ofChange fnExactGetStateSpec)

/-- ITS FALSE NEIGHBOUR: 'it returns false'. Refute it at one input. -/
def fnExactGetStateWrong : ChangeSpec := { name := "fnExactGetState", fn := fun _ => fun
  | [d] => { results := [.lit (.bool false)], args := [d] }
  | _ => none }
def FnExactGetStateWrongFalsely : Prop := fnExactGetStateRow.holds Try.pinned (OpenSpec.ofChange fnExactGetStateWrong)

/-- 'laws.FnStateBytes': WHATEVER THE INPUT: true; the input reads as it did. -/
def fnStateBytesSpec : ChangeSpec := { name := "fnStateBytes", fn := fun _ => fun
  | [d] => { results := [.lit (.bool true)], args := [d] }
  | _ => none }
def fnStateBytesRow : OpenClaim := { program := "ytnogcdmkpbfcmaa", sum := "2fed1d92ace553811bad28bf9678f3c58cf0cf0da70801b30c07f6500f20ac9c", func := "loop.example/g00486/laws.FnStateBytes", spec := "fnStateBytes", unfollowed := true, recurses := true, apart := false }
def FnStateBytesSaid : Prop := fnStateBytesRow.holds Try.pinned (OpenSpec.ofChange fnStateBytesSpec)

/-- ITS FALSE NEIGHBOUR: 'it returns false'. Refute it at one input. -/
def fnStateBytesWrong : ChangeSpec := { name := "fnStateBytes", fn := fun _ => fun
  | [d] => { results := [.lit (.bool false)], args := [d] }
  | _ => none }
def FnStateBytesWrongFalsely : Prop := fnStateBytesRow.holds Try.pinned (OpenSpec.ofChange fnStateBytesWrong)

/- THE SECOND FORM. 'bulk': how many values and letters a reading holds, each counted each time it is reached (what is shared counts as often as it is met; a slice's spare places count too). A statement '..UptoSaid' is the law's where the arguments, and the package variables that the reading takes, are together of bulk at most 1048576: NARROWER than '..Said'. Prove '..Said' where nothing that the law and all that it calls make is longer than what came in: it says more and counts as full. Else prove '..UptoSaid'. A law counts once. -/
mutual
def uptoBulk {H : Type} : DataW H → Nat
  | .lit (.string bytes) => bytes.length + 1
  | .lit _ => 1
  | .nil => 1
  | .ptr d => uptoBulk d + 1
  | .slice elems spare => uptoBulkAll elems + uptoBulkAll spare + 1
  | .agg parts => uptoBulkAll parts + 1
  | .iface _ d => uptoBulk d + 1
  | .map entries => uptoBulkEntries entries + 1
  | .held _ => 1
def uptoBulkAll {H : Type} : List (DataW H) → Nat
  | [] => 0
  | d :: r => uptoBulk d + uptoBulkAll r
def uptoBulkEntries {H : Type} : List (Lit × DataW H) → Nat
  | [] => 0
  | x :: r => uptoBulkEntry x + uptoBulkEntries r
def uptoBulkEntry {H : Type} : Lit × DataW H → Nat
  | (.string bytes, d) => bytes.length + uptoBulk d + 1
  | (_, d) => uptoBulk d + 1
 end
def uptoSmall : (H : Type) → List (DataW H) → Bool := fun _ ds => decide (uptoBulkAll ds ≤ 1048576)
def OpenSpec.upto (s : _root_.Go.ChangeSpec) : _root_.Go.OpenSpec := { _root_.Go.OpenSpec.ofChange s with cond := some uptoSmall }

/-- 'laws.FnExactOnField', WHERE WHAT IT READS IS OF BULK AT MOST 1048576: true; the input reads as it did. -/
def fnExactOnFieldUptoRow : OpenClaim := { program := "ytnogcdmkpbfcmaa", sum := "2fed1d92ace553811bad28bf9678f3c58cf0cf0da70801b30c07f6500f20ac9c", func := "loop.example/g00486/laws.FnExactOnField", spec := "fnExactOnField", apart := false, narrowed := true }
def FnExactOnFieldUptoSaid : Prop := fnExactOnFieldUptoRow.holds Try.pinned (OpenSpec.upto fnExactOnFieldSpec)

/-- 'laws.FnSetPieces', WHERE WHAT IT READS IS OF BULK AT MOST 1048576: true; the input reads as it did. -/
def fnSetPiecesUptoRow : OpenClaim := { program := "ytnogcdmkpbfcmaa", sum := "2fed1d92ace553811bad28bf9678f3c58cf0cf0da70801b30c07f6500f20ac9c", func := "loop.example/g00486/laws.FnSetPieces", spec := "fnSetPieces", inPlace := ["slices.overlaps[loop.example/g00486/impl.Piece]"], unfollowed := true, recurses := true, apart := false, narrowed := true }
def FnSetPiecesUptoSaid : Prop := fnSetPiecesUptoRow.holds Try.pinned (OpenSpec.upto fnSetPiecesSpec)

/-- 'laws.FnExactPutState', WHERE WHAT IT READS IS OF BULK AT MOST 1048576: true; the input reads as it did. -/
def fnExactPutStateUptoRow : OpenClaim := { program := "ytnogcdmkpbfcmaa", sum := "2fed1d92ace553811bad28bf9678f3c58cf0cf0da70801b30c07f6500f20ac9c", func := "loop.example/g00486/laws.FnExactPutState", spec := "fnExactPutState", unfollowed := true, recurses := true, apart := false, narrowed := true }
def FnExactPutStateUptoSaid : Prop := fnExactPutStateUptoRow.holds Try.pinned (OpenSpec.upto fnExactPutStateSpec)

/-- 'laws.FnExactSetPiece', WHERE WHAT IT READS IS OF BULK AT MOST 1048576: true; the input reads as it did. -/
def fnExactSetPieceUptoRow : OpenClaim := { program := "ytnogcdmkpbfcmaa", sum := "2fed1d92ace553811bad28bf9678f3c58cf0cf0da70801b30c07f6500f20ac9c", func := "loop.example/g00486/laws.FnExactSetPiece", spec := "fnExactSetPiece", inPlace := ["slices.overlaps[loop.example/g00486/impl.Piece]"], unfollowed := true, recurses := true, apart := false, narrowed := true }
def FnExactSetPieceUptoSaid : Prop := fnExactSetPieceUptoRow.holds Try.pinned (OpenSpec.upto fnExactSetPieceSpec)

/-- 'laws.FnExactGetState', WHERE WHAT IT READS IS OF BULK AT MOST 1048576: true; the input reads as it did. -/
def fnExactGetStateUptoRow : OpenClaim := { program := "ytnogcdmkpbfcmaa", sum := "2fed1d92ace553811bad28bf9678f3c58cf0cf0da70801b30c07f6500f20ac9c", func := "loop.example/g00486/laws.FnExactGetState", spec := "fnExactGetState", unfollowed := true, recurses := true, apart := false, narrowed := true }
def FnExactGetStateUptoSaid : Prop := fnExactGetStateUptoRow.holds Try.pinned (OpenSpec.upto fnExactGetStateSpec)

/-- 'laws.FnStateBytes', WHERE WHAT IT READS IS OF BULK AT MOST 1048576: true; the input reads as it did. -/
def fnStateBytesUptoRow : OpenClaim := { program := "ytnogcdmkpbfcmaa", sum := "2fed1d92ace553811bad28bf9678f3c58cf0cf0da70801b30c07f6500f20ac9c", func := "loop.example/g00486/laws.FnStateBytes", spec := "fnStateBytes", unfollowed := true, recurses := true, apart := false, narrowed := true }
def FnStateBytesUptoSaid : Prop := fnStateBytesUptoRow.holds Try.pinned (OpenSpec.upto fnStateBytesSpec)

end Rows
end Go.Proofs.Ytnogcdmkpbfcmaa
