/-
  No cell of these rows narrows 'for every input' (looked for: loops, veiled, ifaces, maps, wideKeys, modest, calm, conditions, laid).
  DERIVED. THE GIVEN ROWS OF THIS SEAT. 12 by the template 'for every input the law returns true; each argument reads behind the call as it read before'; 0 by the template 'total and deterministic' (their statements: YtnkpbdpdgfjhcaaTotals.lean).
  GIVEN WITH THE SEED: the statements are not yours to turn. If you find one false, say at which input.
  Laid BY PROGRAM, IN A SANDBOX (cutbox-rows.mjs): the forced cells as the released guide's own fill.sh prints them over the translation bd2a75d035fac9d5… (all of the seat's roots in one cut). By AI agents, Wed Nov 11 2026. No macro, syntax, notation, axiom, sorry.
-/
import Derived.Test.YtnkpbdpdgfjhcaaChecked
import GoSem.Claim
import GoSem.ClaimJoined
import GoSem.ClaimMapViews
import Derived.JoinedTies
import Derived.KernelRfl
namespace Go.Proofs.Ytnkpbdpdgfjhcaa
/- THE CELL 'sum', in the pinned program and in every row, IS THE sha256 OF THE DUMP (.gsa) THAT YtnkpbdpdgfjhcaaProg.lean LOADS. Nothing in Lean hashes anything: it is a label: what it is worth is what the hold of that sum in a sandbox is worth. -/
noncomputable def Try.pinned : Pinned := { name := "ytnkpbdpdgfjhcaa", sum := "bd2a75d035fac9d5e061a81bcab863ac36355580731dab94155036f394774ee9", checked := Try.checked }
namespace Rows
def none {H : Type} : Left H := { results := [], args := [] }

/-- 'laws.FnExactHas': WHATEVER THE INPUT: true; the input reads as it did. -/
def fnExactHasSpec : ChangeSpec := { name := "fnExactHas", fn := fun _ => fun
  | [d1, d2] => { results := [.lit (.bool true)], args := [d1, d2] }
  | _ => none }
def fnExactHasRow : OpenClaim := { program := "ytnkpbdpdgfjhcaa", sum := "bd2a75d035fac9d5e061a81bcab863ac36355580731dab94155036f394774ee9", func := "loop.example/g00486/laws.FnExactHas", spec := "fnExactHas", apart := false }
def FnExactHasSaid : Prop := fnExactHasRow.holds Try.pinned (OpenSpec.ofChange fnExactHasSpec)

/-- ITS FALSE NEIGHBOUR: 'it returns false'. Refute it at one input. -/
def fnExactHasWrong : ChangeSpec := { name := "fnExactHas", fn := fun _ => fun
  | [d1, d2] => { results := [.lit (.bool false)], args := [d1, d2] }
  | _ => none }
def FnExactHasWrongFalsely : Prop := fnExactHasRow.holds Try.pinned (OpenSpec.ofChange fnExactHasWrong)

/-- 'laws.FnExactGetNum': WHATEVER THE INPUT: true; the input reads as it did. -/
def fnExactGetNumSpec : ChangeSpec := { name := "fnExactGetNum", fn := fun _ => fun
  | [d1, d2] => { results := [.lit (.bool true)], args := [d1, d2] }
  | _ => none }
def fnExactGetNumRow : OpenClaim := { program := "ytnkpbdpdgfjhcaa", sum := "bd2a75d035fac9d5e061a81bcab863ac36355580731dab94155036f394774ee9", func := "loop.example/g00486/laws.FnExactGetNum", spec := "fnExactGetNum", apart := false }
def FnExactGetNumSaid : Prop := fnExactGetNumRow.holds Try.pinned (OpenSpec.ofChange fnExactGetNumSpec)

/-- ITS FALSE NEIGHBOUR: 'it returns false'. Refute it at one input. -/
def fnExactGetNumWrong : ChangeSpec := { name := "fnExactGetNum", fn := fun _ => fun
  | [d1, d2] => { results := [.lit (.bool false)], args := [d1, d2] }
  | _ => none }
def FnExactGetNumWrongFalsely : Prop := fnExactGetNumRow.holds Try.pinned (OpenSpec.ofChange fnExactGetNumWrong)

/-- 'laws.FnExactPieceOk': WHATEVER THE INPUT: true; the input reads as it did. -/
def fnExactPieceOkSpec : ChangeSpec := { name := "fnExactPieceOk", fn := fun _ => fun
  | [d] => { results := [.lit (.bool true)], args := [d] }
  | _ => none }
def fnExactPieceOkRow : OpenClaim := { program := "ytnkpbdpdgfjhcaa", sum := "bd2a75d035fac9d5e061a81bcab863ac36355580731dab94155036f394774ee9", func := "loop.example/g00486/laws.FnExactPieceOk", spec := "fnExactPieceOk", apart := false }
def FnExactPieceOkSaid : Prop := fnExactPieceOkRow.holds Try.pinned (OpenSpec.ofChange fnExactPieceOkSpec)

/-- ITS FALSE NEIGHBOUR: 'it returns false'. Refute it at one input. -/
def fnExactPieceOkWrong : ChangeSpec := { name := "fnExactPieceOk", fn := fun _ => fun
  | [d] => { results := [.lit (.bool false)], args := [d] }
  | _ => none }
def FnExactPieceOkWrongFalsely : Prop := fnExactPieceOkRow.holds Try.pinned (OpenSpec.ofChange fnExactPieceOkWrong)

/-- 'laws.FnExactWithN': WHATEVER THE INPUT: true; the input reads as it did. -/
def fnExactWithNSpec : ChangeSpec := { name := "fnExactWithN", fn := fun _ => fun
  | [d1, d2] => { results := [.lit (.bool true)], args := [d1, d2] }
  | _ => none }
def fnExactWithNRow : OpenClaim := { program := "ytnkpbdpdgfjhcaa", sum := "bd2a75d035fac9d5e061a81bcab863ac36355580731dab94155036f394774ee9", func := "loop.example/g00486/laws.FnExactWithN", spec := "fnExactWithN", apart := false }
def FnExactWithNSaid : Prop := fnExactWithNRow.holds Try.pinned (OpenSpec.ofChange fnExactWithNSpec)

/-- ITS FALSE NEIGHBOUR: 'it returns false'. Refute it at one input. -/
def fnExactWithNWrong : ChangeSpec := { name := "fnExactWithN", fn := fun _ => fun
  | [d1, d2] => { results := [.lit (.bool false)], args := [d1, d2] }
  | _ => none }
def FnExactWithNWrongFalsely : Prop := fnExactWithNRow.holds Try.pinned (OpenSpec.ofChange fnExactWithNWrong)

/-- 'laws.FnExactEventOk': WHATEVER THE INPUT: true; the input reads as it did. -/
def fnExactEventOkSpec : ChangeSpec := { name := "fnExactEventOk", fn := fun _ => fun
  | [d] => { results := [.lit (.bool true)], args := [d] }
  | _ => none }
def fnExactEventOkRow : OpenClaim := { program := "ytnkpbdpdgfjhcaa", sum := "bd2a75d035fac9d5e061a81bcab863ac36355580731dab94155036f394774ee9", func := "loop.example/g00486/laws.FnExactEventOk", spec := "fnExactEventOk", apart := false }
def FnExactEventOkSaid : Prop := fnExactEventOkRow.holds Try.pinned (OpenSpec.ofChange fnExactEventOkSpec)

/-- ITS FALSE NEIGHBOUR: 'it returns false'. Refute it at one input. -/
def fnExactEventOkWrong : ChangeSpec := { name := "fnExactEventOk", fn := fun _ => fun
  | [d] => { results := [.lit (.bool false)], args := [d] }
  | _ => none }
def FnExactEventOkWrongFalsely : Prop := fnExactEventOkRow.holds Try.pinned (OpenSpec.ofChange fnExactEventOkWrong)

/-- 'laws.FnExactParseNum': WHATEVER THE INPUT: true; the input reads as it did. -/
def fnExactParseNumSpec : ChangeSpec := { name := "fnExactParseNum", fn := fun _ => fun
  | [d] => { results := [.lit (.bool true)], args := [d] }
  | _ => none }
def fnExactParseNumRow : OpenClaim := { program := "ytnkpbdpdgfjhcaa", sum := "bd2a75d035fac9d5e061a81bcab863ac36355580731dab94155036f394774ee9", func := "loop.example/g00486/laws.FnExactParseNum", spec := "fnExactParseNum", recurses := true, apart := false }
def FnExactParseNumSaid : Prop := fnExactParseNumRow.holds Try.pinned (OpenSpec.ofChange fnExactParseNumSpec)

/-- ITS FALSE NEIGHBOUR: 'it returns false'. Refute it at one input. -/
def fnExactParseNumWrong : ChangeSpec := { name := "fnExactParseNum", fn := fun _ => fun
  | [d] => { results := [.lit (.bool false)], args := [d] }
  | _ => none }
def FnExactParseNumWrongFalsely : Prop := fnExactParseNumRow.holds Try.pinned (OpenSpec.ofChange fnExactParseNumWrong)

/-- 'laws.FnExactPutNum': WHATEVER THE INPUT: true; the input reads as it did. -/
def fnExactPutNumSpec : ChangeSpec := { name := "fnExactPutNum", fn := fun _ => fun
  | [d1, d2] => { results := [.lit (.bool true)], args := [d1, d2] }
  | _ => none }
def fnExactPutNumRow : OpenClaim := { program := "ytnkpbdpdgfjhcaa", sum := "bd2a75d035fac9d5e061a81bcab863ac36355580731dab94155036f394774ee9", func := "loop.example/g00486/laws.FnExactPutNum", spec := "fnExactPutNum", apart := false }
def FnExactPutNumSaid : Prop := fnExactPutNumRow.holds Try.pinned (OpenSpec.ofChange fnExactPutNumSpec)

/-- ITS FALSE NEIGHBOUR: 'it returns false'. Refute it at one input. -/
def fnExactPutNumWrong : ChangeSpec := { name := "fnExactPutNum", fn := fun _ => fun
  | [d1, d2] => { results := [.lit (.bool false)], args := [d1, d2] }
  | _ => none }
def FnExactPutNumWrongFalsely : Prop := fnExactPutNumRow.holds Try.pinned (OpenSpec.ofChange fnExactPutNumWrong)

/-- 'laws.FnExactMoved': WHATEVER THE INPUT: true; the input reads as it did. -/
def fnExactMovedSpec : ChangeSpec := { name := "fnExactMoved", fn := fun _ => fun
  | [d1, d2, d3] => { results := [.lit (.bool true)], args := [d1, d2, d3] }
  | _ => none }
def fnExactMovedRow : OpenClaim := { program := "ytnkpbdpdgfjhcaa", sum := "bd2a75d035fac9d5e061a81bcab863ac36355580731dab94155036f394774ee9", func := "loop.example/g00486/laws.FnExactMoved", spec := "fnExactMoved", apart := false }
def FnExactMovedSaid : Prop := fnExactMovedRow.holds Try.pinned (OpenSpec.ofChange fnExactMovedSpec)

/-- ITS FALSE NEIGHBOUR: 'it returns false'. Refute it at one input. -/
def fnExactMovedWrong : ChangeSpec := { name := "fnExactMoved", fn := fun _ => fun
  | [d1, d2, d3] => { results := [.lit (.bool false)], args := [d1, d2, d3] }
  | _ => none }
def FnExactMovedWrongFalsely : Prop := fnExactMovedRow.holds Try.pinned (OpenSpec.ofChange fnExactMovedWrong)

/-- 'laws.FnExactPacked': WHATEVER THE INPUT: true; the input reads as it did. -/
def fnExactPackedSpec : ChangeSpec := { name := "fnExactPacked", fn := fun _ => fun
  | [d] => { results := [.lit (.bool true)], args := [d] }
  | _ => none }
def fnExactPackedRow : OpenClaim := { program := "ytnkpbdpdgfjhcaa", sum := "bd2a75d035fac9d5e061a81bcab863ac36355580731dab94155036f394774ee9", func := "loop.example/g00486/laws.FnExactPacked", spec := "fnExactPacked", apart := false }
def FnExactPackedSaid : Prop := fnExactPackedRow.holds Try.pinned (OpenSpec.ofChange fnExactPackedSpec)

/-- ITS FALSE NEIGHBOUR: 'it returns false'. Refute it at one input. -/
def fnExactPackedWrong : ChangeSpec := { name := "fnExactPacked", fn := fun _ => fun
  | [d] => { results := [.lit (.bool false)], args := [d] }
  | _ => none }
def FnExactPackedWrongFalsely : Prop := fnExactPackedRow.holds Try.pinned (OpenSpec.ofChange fnExactPackedWrong)

/-- 'laws.FnExactGetList': WHATEVER THE INPUT: true; the input reads as it did. -/
def fnExactGetListSpec : ChangeSpec := { name := "fnExactGetList", fn := fun _ => fun
  | [d1, d2] => { results := [.lit (.bool true)], args := [d1, d2] }
  | _ => none }
def fnExactGetListRow : OpenClaim := { program := "ytnkpbdpdgfjhcaa", sum := "bd2a75d035fac9d5e061a81bcab863ac36355580731dab94155036f394774ee9", func := "loop.example/g00486/laws.FnExactGetList", spec := "fnExactGetList", apart := false }
def FnExactGetListSaid : Prop := fnExactGetListRow.holds Try.pinned (OpenSpec.ofChange fnExactGetListSpec)

/-- ITS FALSE NEIGHBOUR: 'it returns false'. Refute it at one input. -/
def fnExactGetListWrong : ChangeSpec := { name := "fnExactGetList", fn := fun _ => fun
  | [d1, d2] => { results := [.lit (.bool false)], args := [d1, d2] }
  | _ => none }
def FnExactGetListWrongFalsely : Prop := fnExactGetListRow.holds Try.pinned (OpenSpec.ofChange fnExactGetListWrong)

/-- 'laws.FnExactPutList': WHATEVER THE INPUT: true; the input reads as it did. -/
def fnExactPutListSpec : ChangeSpec := { name := "fnExactPutList", fn := fun _ => fun
  | [d1, d2] => { results := [.lit (.bool true)], args := [d1, d2] }
  | _ => none }
def fnExactPutListRow : OpenClaim := { program := "ytnkpbdpdgfjhcaa", sum := "bd2a75d035fac9d5e061a81bcab863ac36355580731dab94155036f394774ee9", func := "loop.example/g00486/laws.FnExactPutList", spec := "fnExactPutList", apart := false }
def FnExactPutListSaid : Prop := fnExactPutListRow.holds Try.pinned (OpenSpec.ofChange fnExactPutListSpec)

/-- ITS FALSE NEIGHBOUR: 'it returns false'. Refute it at one input. -/
def fnExactPutListWrong : ChangeSpec := { name := "fnExactPutList", fn := fun _ => fun
  | [d1, d2] => { results := [.lit (.bool false)], args := [d1, d2] }
  | _ => none }
def FnExactPutListWrongFalsely : Prop := fnExactPutListRow.holds Try.pinned (OpenSpec.ofChange fnExactPutListWrong)

/-- 'laws.FnExactUnpacked': WHATEVER THE INPUT: true; the input reads as it did. -/
def fnExactUnpackedSpec : ChangeSpec := { name := "fnExactUnpacked", fn := fun _ => fun
  | [d] => { results := [.lit (.bool true)], args := [d] }
  | _ => none }
def fnExactUnpackedRow : OpenClaim := { program := "ytnkpbdpdgfjhcaa", sum := "bd2a75d035fac9d5e061a81bcab863ac36355580731dab94155036f394774ee9", func := "loop.example/g00486/laws.FnExactUnpacked", spec := "fnExactUnpacked", apart := false }
def FnExactUnpackedSaid : Prop := fnExactUnpackedRow.holds Try.pinned (OpenSpec.ofChange fnExactUnpackedSpec)

/-- ITS FALSE NEIGHBOUR: 'it returns false'. Refute it at one input. -/
def fnExactUnpackedWrong : ChangeSpec := { name := "fnExactUnpacked", fn := fun _ => fun
  | [d] => { results := [.lit (.bool false)], args := [d] }
  | _ => none }
def FnExactUnpackedWrongFalsely : Prop := fnExactUnpackedRow.holds Try.pinned (OpenSpec.ofChange fnExactUnpackedWrong)

/- THE SECOND FORM. 'bulk': how many values and letters a reading holds, each counted each time it is reached (what is shared counts as often as it is met; a slice's spare places count too). A statement '..UptoSaid' is the law's where the arguments, and the package variables that the reading takes, are together of bulk at most 1048576: NARROWER than '..Said'. Prove '..Said' where nothing that the law and all that it calls make is longer than what came in: it says more and counts as full. Else prove '..UptoSaid'. A law counts once. -/
mutual
def uptoBulk {H : Type} : DataW H → Nat
  | .lit (.string bytes) => bytes.length + 1
  | .lit _ => 1
  | .nil => 1
  | .ptr d => uptoBulk d + 1
  | .slice elems spare => uptoBulkAll elems + uptoBulkAll spare + 1
  | .agg parts => uptoBulkAll parts + 1
  | .iface _ d => uptoBulk d + 1
  | .map entries => uptoBulkEntries entries + 1
  | .held _ => 1
def uptoBulkAll {H : Type} : List (DataW H) → Nat
  | [] => 0
  | d :: r => uptoBulk d + uptoBulkAll r
def uptoBulkEntries {H : Type} : List (Lit × DataW H) → Nat
  | [] => 0
  | x :: r => uptoBulkEntry x + uptoBulkEntries r
def uptoBulkEntry {H : Type} : Lit × DataW H → Nat
  | (.string bytes, d) => bytes.length + uptoBulk d + 1
  | (_, d) => uptoBulk d + 1
 end
def uptoSmall : (H : Type) → List (DataW H) → Bool := fun _ ds => decide (uptoBulkAll ds ≤ 1048576)
def OpenSpec.upto (s : _root_.Go.ChangeSpec) : _root_.Go.OpenSpec := { _root_.Go.OpenSpec.ofChange s with cond := some uptoSmall }

/-- 'laws.FnExactHas', WHERE WHAT IT READS IS OF BULK AT MOST 1048576: true; the input reads as it did. -/
def fnExactHasUptoRow : OpenClaim := { program := "ytnkpbdpdgfjhcaa", sum := "bd2a75d035fac9d5e061a81bcab863ac36355580731dab94155036f394774ee9", func := "loop.example/g00486/laws.FnExactHas", spec := "fnExactHas", apart := false, narrowed := true }
def FnExactHasUptoSaid : Prop := fnExactHasUptoRow.holds Try.pinned (OpenSpec.upto fnExactHasSpec)

/-- 'laws.FnExactGetNum', WHERE WHAT IT READS IS OF BULK AT MOST 1048576: true; the input reads as it did. -/
def fnExactGetNumUptoRow : OpenClaim := { program := "ytnkpbdpdgfjhcaa", sum := "bd2a75d035fac9d5e061a81bcab863ac36355580731dab94155036f394774ee9", func := "loop.example/g00486/laws.FnExactGetNum", spec := "fnExactGetNum", apart := false, narrowed := true }
def FnExactGetNumUptoSaid : Prop := fnExactGetNumUptoRow.holds Try.pinned (OpenSpec.upto fnExactGetNumSpec)

/-- 'laws.FnExactPieceOk', WHERE WHAT IT READS IS OF BULK AT MOST 1048576: true; the input reads as it did. -/
def fnExactPieceOkUptoRow : OpenClaim := { program := "ytnkpbdpdgfjhcaa", sum := "bd2a75d035fac9d5e061a81bcab863ac36355580731dab94155036f394774ee9", func := "loop.example/g00486/laws.FnExactPieceOk", spec := "fnExactPieceOk", apart := false, narrowed := true }
def FnExactPieceOkUptoSaid : Prop := fnExactPieceOkUptoRow.holds Try.pinned (OpenSpec.upto fnExactPieceOkSpec)

/-- 'laws.FnExactWithN', WHERE WHAT IT READS IS OF BULK AT MOST 1048576: true; the input reads as it did. -/
def fnExactWithNUptoRow : OpenClaim := { program := "ytnkpbdpdgfjhcaa", sum := "bd2a75d035fac9d5e061a81bcab863ac36355580731dab94155036f394774ee9", func := "loop.example/g00486/laws.FnExactWithN", spec := "fnExactWithN", apart := false, narrowed := true }
def FnExactWithNUptoSaid : Prop := fnExactWithNUptoRow.holds Try.pinned (OpenSpec.upto fnExactWithNSpec)

/-- 'laws.FnExactEventOk', WHERE WHAT IT READS IS OF BULK AT MOST 1048576: true; the input reads as it did. -/
def fnExactEventOkUptoRow : OpenClaim := { program := "ytnkpbdpdgfjhcaa", sum := "bd2a75d035fac9d5e061a81bcab863ac36355580731dab94155036f394774ee9", func := "loop.example/g00486/laws.FnExactEventOk", spec := "fnExactEventOk", apart := false, narrowed := true }
def FnExactEventOkUptoSaid : Prop := fnExactEventOkUptoRow.holds Try.pinned (OpenSpec.upto fnExactEventOkSpec)

/-- 'laws.FnExactParseNum', WHERE WHAT IT READS IS OF BULK AT MOST 1048576: true; the input reads as it did. -/
def fnExactParseNumUptoRow : OpenClaim := { program := "ytnkpbdpdgfjhcaa", sum := "bd2a75d035fac9d5e061a81bcab863ac36355580731dab94155036f394774ee9", func := "loop.example/g00486/laws.FnExactParseNum", spec := "fnExactParseNum", recurses := true, apart := false, narrowed := true }
def FnExactParseNumUptoSaid : Prop := fnExactParseNumUptoRow.holds Try.pinned (OpenSpec.upto fnExactParseNumSpec)

/-- 'laws.FnExactPutNum', WHERE WHAT IT READS IS OF BULK AT MOST 1048576: true; the input reads as it did. -/
def fnExactPutNumUptoRow : OpenClaim := { program := "ytnkpbdpdgfjhcaa", sum := "bd2a75d035fac9d5e061a81bcab863ac36355580731dab94155036f394774ee9", func := "loop.example/g00486/laws.FnExactPutNum", spec := "fnExactPutNum", apart := false, narrowed := true }
def FnExactPutNumUptoSaid : Prop := fnExactPutNumUptoRow.holds Try.pinned (OpenSpec.upto fnExactPutNumSpec)

/-- 'laws.FnExactMoved', WHERE WHAT IT READS IS OF BULK AT MOST 1048576: true; the input reads as it did. -/
def fnExactMovedUptoRow : OpenClaim := { program := "ytnkpbdpdgfjhcaa", sum := "bd2a75d035fac9d5e061a81bcab863ac36355580731dab94155036f394774ee9", func := "loop.example/g00486/laws.FnExactMoved", spec := "fnExactMoved", apart := false, narrowed := true }
def FnExactMovedUptoSaid : Prop := fnExactMovedUptoRow.holds Try.pinned (OpenSpec.upto fnExactMovedSpec)

/-- 'laws.FnExactPacked', WHERE WHAT IT READS IS OF BULK AT MOST 1048576: true; the input reads as it did. -/
def fnExactPackedUptoRow : OpenClaim := { program := "ytnkpbdpdgfjhcaa", sum := "bd2a75d035fac9d5e061a81bcab863ac36355580731dab94155036f394774ee9", func := "loop.example/g00486/laws.FnExactPacked", spec := "fnExactPacked", apart := false, narrowed := true }
def FnExactPackedUptoSaid : Prop := fnExactPackedUptoRow.holds Try.pinned (OpenSpec.upto fnExactPackedSpec)

/-- 'laws.FnExactGetList', WHERE WHAT IT READS IS OF BULK AT MOST 1048576: true; the input reads as it did. -/
def fnExactGetListUptoRow : OpenClaim := { program := "ytnkpbdpdgfjhcaa", sum := "bd2a75d035fac9d5e061a81bcab863ac36355580731dab94155036f394774ee9", func := "loop.example/g00486/laws.FnExactGetList", spec := "fnExactGetList", apart := false, narrowed := true }
def FnExactGetListUptoSaid : Prop := fnExactGetListUptoRow.holds Try.pinned (OpenSpec.upto fnExactGetListSpec)

/-- 'laws.FnExactPutList', WHERE WHAT IT READS IS OF BULK AT MOST 1048576: true; the input reads as it did. -/
def fnExactPutListUptoRow : OpenClaim := { program := "ytnkpbdpdgfjhcaa", sum := "bd2a75d035fac9d5e061a81bcab863ac36355580731dab94155036f394774ee9", func := "loop.example/g00486/laws.FnExactPutList", spec := "fnExactPutList", apart := false, narrowed := true }
def FnExactPutListUptoSaid : Prop := fnExactPutListUptoRow.holds Try.pinned (OpenSpec.upto fnExactPutListSpec)

/-- 'laws.FnExactUnpacked', WHERE WHAT IT READS IS OF BULK AT MOST 1048576: true; the input reads as it did. -/
def fnExactUnpackedUptoRow : OpenClaim := { program := "ytnkpbdpdgfjhcaa", sum := "bd2a75d035fac9d5e061a81bcab863ac36355580731dab94155036f394774ee9", func := "loop.example/g00486/laws.FnExactUnpacked", spec := "fnExactUnpacked", apart := false, narrowed := true }
def FnExactUnpackedUptoSaid : Prop := fnExactUnpackedUptoRow.holds Try.pinned (OpenSpec.upto fnExactUnpackedSpec)

end Rows
end Go.Proofs.Ytnkpbdpdgfjhcaa
