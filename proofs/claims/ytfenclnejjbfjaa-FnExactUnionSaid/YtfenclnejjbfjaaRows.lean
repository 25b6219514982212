/-
  No cell of these rows narrows 'for every input' (looked for: loops, veiled, ifaces, maps, wideKeys, modest, calm, conditions, laid).
  DERIVED. THE GIVEN ROWS OF THIS SEAT. 10 by the template 'for every input the law returns true; each argument reads behind the call as it read before'; 0 by the template 'total and deterministic' (their statements: YtfenclnejjbfjaaTotals.lean).
  GIVEN WITH THE SEED: the statements are not yours to turn. If you find one false, say at which input.
  Laid BY PROGRAM, IN A SANDBOX (cutbox-rows.mjs): the forced cells as the released guide's own fill.sh prints them over the translation 47cd7d558bb17bc4… (all of the seat's roots in one cut). By AI agents, Wed Nov 11 2026. No macro, syntax, notation, axiom, sorry.
-/
import Derived.Test.YtfenclnejjbfjaaChecked
import GoSem.Claim
import GoSem.ClaimJoined
import GoSem.ClaimMapViews
import Derived.JoinedTies
import Derived.KernelRfl
namespace Go.Proofs.Ytfenclnejjbfjaa
/- THE CELL 'sum', in the pinned program and in every row, IS THE sha256 OF THE DUMP (.gsa) THAT YtfenclnejjbfjaaProg.lean LOADS. Nothing in Lean hashes anything: it is a label: what it is worth is what the hold of that sum in a sandbox is worth. -/
noncomputable def Try.pinned : Pinned := { name := "ytfenclnejjbfjaa", sum := "47cd7d558bb17bc43f7edd6712691789dabd6b7455c67858d11e27e1822d6d63", checked := Try.checked }
namespace Rows
def none {H : Type} : Left H := { results := [], args := [] }

/-- 'laws.FnExactSetOf': WHATEVER THE INPUT: true; the input reads as it did. -/
def fnExactSetOfSpec : ChangeSpec := { name := "fnExactSetOf", fn := fun _ => fun
  | [d] => { results := [.lit (.bool true)], args := [d] }
  | _ => none }
def fnExactSetOfRow : OpenClaim := { program := "ytfenclnejjbfjaa", sum := "47cd7d558bb17bc43f7edd6712691789dabd6b7455c67858d11e27e1822d6d63", func := "loop.example/g00486/laws.FnExactSetOf", spec := "fnExactSetOf", recurses := true, apart := false }
def FnExactSetOfSaid : Prop := fnExactSetOfRow.holds Try.pinned (OpenSpec.ofChange fnExactSetOfSpec)

/-- ITS FALSE NEIGHBOUR: 'it returns false'. Refute it at one input. -/
def fnExactSetOfWrong : ChangeSpec := { name := "fnExactSetOf", fn := fun _ => fun
  | [d] => { results := [.lit (.bool false)], args := [d] }
  | _ => none }
def FnExactSetOfWrongFalsely : Prop := fnExactSetOfRow.holds Try.pinned (OpenSpec.ofChange fnExactSetOfWrong)

/-- 'laws.FnExactWithin': WHATEVER THE INPUT: true; the input reads as it did. -/
def fnExactWithinSpec : ChangeSpec := { name := "fnExactWithin", fn := fun _ => fun
  | [d1, d2] => { results := [.lit (.bool true)], args := [d1, d2] }
  | _ => none }
def fnExactWithinRow : OpenClaim := { program := "ytfenclnejjbfjaa", sum := "47cd7d558bb17bc43f7edd6712691789dabd6b7455c67858d11e27e1822d6d63", func := "loop.example/g00486/laws.FnExactWithin", spec := "fnExactWithin", recurses := true, apart := false }
def FnExactWithinSaid : Prop := fnExactWithinRow.holds Try.pinned (OpenSpec.ofChange fnExactWithinSpec)

/-- ITS FALSE NEIGHBOUR: 'it returns false'. Refute it at one input. -/
def fnExactWithinWrong : ChangeSpec := { name := "fnExactWithin", fn := fun _ => fun
  | [d1, d2] => { results := [.lit (.bool false)], args := [d1, d2] }
  | _ => none }
def FnExactWithinWrongFalsely : Prop := fnExactWithinRow.holds Try.pinned (OpenSpec.ofChange fnExactWithinWrong)

/-- 'laws.FnExactWith': WHATEVER THE INPUT: true; the input reads as it did. -/
def fnExactWithSpec : ChangeSpec := { name := "fnExactWith", fn := fun _ => fun
  | [d1, d2] => { results := [.lit (.bool true)], args := [d1, d2] }
  | _ => none }
def fnExactWithRow : OpenClaim := { program := "ytfenclnejjbfjaa", sum := "47cd7d558bb17bc43f7edd6712691789dabd6b7455c67858d11e27e1822d6d63", func := "loop.example/g00486/laws.FnExactWith", spec := "fnExactWith", recurses := true, apart := false }
def FnExactWithSaid : Prop := fnExactWithRow.holds Try.pinned (OpenSpec.ofChange fnExactWithSpec)

/-- ITS FALSE NEIGHBOUR: 'it returns false'. Refute it at one input. -/
def fnExactWithWrong : ChangeSpec := { name := "fnExactWith", fn := fun _ => fun
  | [d1, d2] => { results := [.lit (.bool false)], args := [d1, d2] }
  | _ => none }
def FnExactWithWrongFalsely : Prop := fnExactWithRow.holds Try.pinned (OpenSpec.ofChange fnExactWithWrong)

/-- 'laws.FnExactUnion': WHATEVER THE INPUT: true; the input reads as it did. -/
def fnExactUnionSpec : ChangeSpec := { name := "fnExactUnion", fn := fun _ => fun
  | [d1, d2] => { results := [.lit (.bool true)], args := [d1, d2] }
  | _ => none }
def fnExactUnionRow : OpenClaim := { program := "ytfenclnejjbfjaa", sum := "47cd7d558bb17bc43f7edd6712691789dabd6b7455c67858d11e27e1822d6d63", func := "loop.example/g00486/laws.FnExactUnion", spec := "fnExactUnion", recurses := true, apart := false }
def FnExactUnionSaid : Prop := fnExactUnionRow.holds Try.pinned (OpenSpec.ofChange fnExactUnionSpec)

/-- ITS FALSE NEIGHBOUR: 'it returns false'. Refute it at one input. -/
def fnExactUnionWrong : ChangeSpec := { name := "fnExactUnion", fn := fun _ => fun
  | [d1, d2] => { results := [.lit (.bool false)], args := [d1, d2] }
  | _ => none }
def FnExactUnionWrongFalsely : Prop := fnExactUnionRow.holds Try.pinned (OpenSpec.ofChange fnExactUnionWrong)

/-- 'laws.FnExactMeet': WHATEVER THE INPUT: true; the input reads as it did. -/
def fnExactMeetSpec : ChangeSpec := { name := "fnExactMeet", fn := fun _ => fun
  | [d1, d2] => { results := [.lit (.bool true)], args := [d1, d2] }
  | _ => none }
def fnExactMeetRow : OpenClaim := { program := "ytfenclnejjbfjaa", sum := "47cd7d558bb17bc43f7edd6712691789dabd6b7455c67858d11e27e1822d6d63", func := "loop.example/g00486/laws.FnExactMeet", spec := "fnExactMeet", recurses := true, apart := false }
def FnExactMeetSaid : Prop := fnExactMeetRow.holds Try.pinned (OpenSpec.ofChange fnExactMeetSpec)

/-- ITS FALSE NEIGHBOUR: 'it returns false'. Refute it at one input. -/
def fnExactMeetWrong : ChangeSpec := { name := "fnExactMeet", fn := fun _ => fun
  | [d1, d2] => { results := [.lit (.bool false)], args := [d1, d2] }
  | _ => none }
def FnExactMeetWrongFalsely : Prop := fnExactMeetRow.holds Try.pinned (OpenSpec.ofChange fnExactMeetWrong)

/-- 'laws.FnExactRest': WHATEVER THE INPUT: true; the input reads as it did. -/
def fnExactRestSpec : ChangeSpec := { name := "fnExactRest", fn := fun _ => fun
  | [d1, d2] => { results := [.lit (.bool true)], args := [d1, d2] }
  | _ => none }
def fnExactRestRow : OpenClaim := { program := "ytfenclnejjbfjaa", sum := "47cd7d558bb17bc43f7edd6712691789dabd6b7455c67858d11e27e1822d6d63", func := "loop.example/g00486/laws.FnExactRest", spec := "fnExactRest", recurses := true, apart := false }
def FnExactRestSaid : Prop := fnExactRestRow.holds Try.pinned (OpenSpec.ofChange fnExactRestSpec)

/-- ITS FALSE NEIGHBOUR: 'it returns false'. Refute it at one input. -/
def fnExactRestWrong : ChangeSpec := { name := "fnExactRest", fn := fun _ => fun
  | [d1, d2] => { results := [.lit (.bool false)], args := [d1, d2] }
  | _ => none }
def FnExactRestWrongFalsely : Prop := fnExactRestRow.holds Try.pinned (OpenSpec.ofChange fnExactRestWrong)

/-- 'laws.FnExactWithout': WHATEVER THE INPUT: true; the input reads as it did. -/
def fnExactWithoutSpec : ChangeSpec := { name := "fnExactWithout", fn := fun _ => fun
  | [d1, d2] => { results := [.lit (.bool true)], args := [d1, d2] }
  | _ => none }
def fnExactWithoutRow : OpenClaim := { program := "ytfenclnejjbfjaa", sum := "47cd7d558bb17bc43f7edd6712691789dabd6b7455c67858d11e27e1822d6d63", func := "loop.example/g00486/laws.FnExactWithout", spec := "fnExactWithout", recurses := true, apart := false }
def FnExactWithoutSaid : Prop := fnExactWithoutRow.holds Try.pinned (OpenSpec.ofChange fnExactWithoutSpec)

/-- ITS FALSE NEIGHBOUR: 'it returns false'. Refute it at one input. -/
def fnExactWithoutWrong : ChangeSpec := { name := "fnExactWithout", fn := fun _ => fun
  | [d1, d2] => { results := [.lit (.bool false)], args := [d1, d2] }
  | _ => none }
def FnExactWithoutWrongFalsely : Prop := fnExactWithoutRow.holds Try.pinned (OpenSpec.ofChange fnExactWithoutWrong)

/-- 'laws.FnSets': WHATEVER THE INPUT: true; the input reads as it did. -/
def fnSetsSpec : ChangeSpec := { name := "fnSets", fn := fun _ => fun
  | [d] => { results := [.lit (.bool true)], args := [d] }
  | _ => none }
def fnSetsRow : OpenClaim := { program := "ytfenclnejjbfjaa", sum := "47cd7d558bb17bc43f7edd6712691789dabd6b7455c67858d11e27e1822d6d63", func := "loop.example/g00486/laws.FnSets", spec := "fnSets", recurses := true, apart := false }
def FnSetsSaid : Prop := fnSetsRow.holds Try.pinned (OpenSpec.ofChange fnSetsSpec)

/-- ITS FALSE NEIGHBOUR: 'it returns false'. Refute it at one input. -/
def fnSetsWrong : ChangeSpec := { name := "fnSets", fn := fun _ => fun
  | [d] => { results := [.lit (.bool false)], args := [d] }
  | _ => none }
def FnSetsWrongFalsely : Prop := fnSetsRow.holds Try.pinned (OpenSpec.ofChange fnSetsWrong)

/-- 'laws.FnSetSums': WHATEVER THE INPUT: true; the input reads as it did. -/
def fnSetSumsSpec : ChangeSpec := { name := "fnSetSums", fn := fun _ => fun
  | [d] => { results := [.lit (.bool true)], args := [d] }
  | _ => none }
def fnSetSumsRow : OpenClaim := { program := "ytfenclnejjbfjaa", sum := "47cd7d558bb17bc43f7edd6712691789dabd6b7455c67858d11e27e1822d6d63", func := "loop.example/g00486/laws.FnSetSums", spec := "fnSetSums", recurses := true, apart := false }
def FnSetSumsSaid : Prop := fnSetSumsRow.holds Try.pinned (OpenSpec.ofChange fnSetSumsSpec)

/-- ITS FALSE NEIGHBOUR: 'it returns false'. Refute it at one input. -/
def fnSetSumsWrong : ChangeSpec := { name := "fnSetSums", fn := fun _ => fun
  | [d] => { results := [.lit (.bool false)], args := [d] }
  | _ => none }
def FnSetSumsWrongFalsely : Prop := fnSetSumsRow.holds Try.pinned (OpenSpec.ofChange fnSetSumsWrong)

/-- 'laws.FnStates': WHATEVER THE INPUT: true; the input reads as it did. -/
def fnStatesSpec : ChangeSpec := { name := "fnStates", fn := fun _ => fun
  | [d] => { results := [.lit (.bool true)], args := [d] }
  | _ => none }
def fnStatesRow : OpenClaim := { program := "ytfenclnejjbfjaa", sum := "47cd7d558bb17bc43f7edd6712691789dabd6b7455c67858d11e27e1822d6d63", func := "loop.example/g00486/laws.FnStates", spec := "fnStates", unfollowed := true, recurses := true, apart := false }
def FnStatesSaid : Prop := fnStatesRow.holds Try.pinned (OpenSpec.ofChange fnStatesSpec)

/-- ITS FALSE NEIGHBOUR: 'it returns false'. Refute it at one input. -/
def fnStatesWrong : ChangeSpec := { name := "fnStates", fn := fun _ => fun
  | [d] => { results := [.lit (.bool false)], args := [d] }
  | _ => none }
def FnStatesWrongFalsely : Prop := fnStatesRow.holds Try.pinned (OpenSpec.ofChange fnStatesWrong)

/- THE SECOND FORM. 'bulk': how many values and letters a reading holds, each counted each time it is reached (what is shared counts as often as it is met; a slice's spare places count too). A statement '..UptoSaid' is the law's where the arguments, and the package variables that the reading takes, are together of bulk at most 1048576: NARROWER than '..Said'. Prove '..Said' where nothing that the law and all that it calls make is longer than what came in: it says more and counts as full. Else prove '..UptoSaid'. A law counts once. -/
mutual
def uptoBulk {H : Type} : DataW H → Nat
  | .lit (.string bytes) => bytes.length + 1
  | .lit _ => 1
  | .nil => 1
  | .ptr d => uptoBulk d + 1
  | .slice elems spare => uptoBulkAll elems + uptoBulkAll spare + 1
  | .agg parts => uptoBulkAll parts + 1
  | .iface _ d => uptoBulk d + 1
  | .map entries => uptoBulkEntries entries + 1
  | .held _ => 1
def uptoBulkAll {H : Type} : List (DataW H) → Nat
  | [] => 0
  | d :: r => uptoBulk d + uptoBulkAll r
def uptoBulkEntries {H : Type} : List (Lit × DataW H) → Nat
  | [] => 0
  | x :: r => uptoBulkEntry x + uptoBulkEntries r
def uptoBulkEntry {H : Type} : Lit × DataW H → Nat
  | (.string bytes, d) => bytes.length + uptoBulk d + 1
  | (_, d) => uptoBulk d + 1
 end
def uptoSmall : (H : Type) → List (DataW H) → Bool := fun _ ds => decide (uptoBulkAll ds ≤ 1048576)
def OpenSpec.upto (s : _root_.Go.ChangeSpec) : _root_.Go.OpenSpec := { _root_.Go.OpenSpec.ofChange s with cond := some uptoSmall }

/-- 'laws.FnExactSetOf', WHERE WHAT IT READS IS OF BULK AT MOST 1048576: true; the input reads as it did. -/
def fnExactSetOfUptoRow : OpenClaim := { program := "ytfenclnejjbfjaa", sum := "47cd7d558bb17bc43f7edd6712691789dabd6b7455c67858d11e27e1822d6d63", func := "loop.example/g00486/laws.FnExactSetOf", spec := "fnExactSetOf", recurses := true, apart := false, narrowed := true }
def FnExactSetOfUptoSaid : Prop := fnExactSetOfUptoRow.holds Try.pinned (OpenSpec.upto fnExactSetOfSpec)

/-- 'laws.FnExactWithin', WHERE WHAT IT READS IS OF BULK AT MOST 1048576: true; the input reads as it did. -/
def fnExactWithinUptoRow : OpenClaim := { program := "ytfenclnejjbfjaa", sum := "47cd7d558bb17bc43f7edd6712691789dabd6b7455c67858d11e27e1822d6d63", func := "loop.example/g00486/laws.FnExactWithin", spec := "fnExactWithin", recurses := true, apart := false, narrowed := true }
def FnExactWithinUptoSaid : Prop := fnExactWithinUptoRow.holds Try.pinned (OpenSpec.upto fnExactWithinSpec)

/-- 'laws.FnExactWith', WHERE WHAT IT READS IS OF BULK AT MOST 1048576: true; the input reads as it did. -/
def fnExactWithUptoRow : OpenClaim := { program := "ytfenclnejjbfjaa", sum := "47cd7d558bb17bc43f7edd6712691789dabd6b7455c67858d11e27e1822d6d63", func := "loop.example/g00486/laws.FnExactWith", spec := "fnExactWith", recurses := true, apart := false, narrowed := true }
def FnExactWithUptoSaid : Prop := fnExactWithUptoRow.holds Try.pinned (OpenSpec.upto fnExactWithSpec)

/-- 'laws.FnExactUnion', WHERE WHAT IT READS IS OF BULK AT MOST 1048576: true; the input reads as it did. -/
def fnExactUnionUptoRow : OpenClaim := { program := "ytfenclnejjbfjaa", sum := "47cd7d558bb17bc43f7edd6712691789dabd6b7455c67858d11e27e1822d6d63", func := "loop.example/g00486/laws.FnExactUnion", spec := "fnExactUnion", recurses := true, apart := false, narrowed := true }
def FnExactUnionUptoSaid : Prop := fnExactUnionUptoRow.holds Try.pinned (OpenSpec.upto fnExactUnionSpec)

/-- 'laws.FnExactMeet', WHERE WHAT IT READS IS OF BULK AT MOST 1048576: true; the input reads as it did. -/
def fnExactMeetUptoRow : OpenClaim := { program := "ytfenclnejjbfjaa", sum := "47cd7d558bb17bc43f7edd6712691789dabd6b7455c67858d11e27e1822d6d63", func := "loop.example/g00486/laws.FnExactMeet", spec := "fnExactMeet", recurses := true, apart := false, narrowed := true }
def FnExactMeetUptoSaid : Prop := fnExactMeetUptoRow.holds Try.pinned (OpenSpec.upto fnExactMeetSpec)

/-- 'laws.FnExactRest', WHERE WHAT IT READS IS OF BULK AT MOST 1048576: true; the input reads as it did. -/
def fnExactRestUptoRow : OpenClaim := { program := "ytfenclnejjbfjaa", sum := "47cd7d558bb17bc43f7edd6712691789dabd6b7455c67858d11e27e1822d6d63", func := "loop.example/g00486/laws.FnExactRest", spec := "fnExactRest", recurses := true, apart := false, narrowed := true }
def FnExactRestUptoSaid : Prop := fnExactRestUptoRow.holds Try.pinned (OpenSpec.upto fnExactRestSpec)

/-- 'laws.FnExactWithout', WHERE WHAT IT READS IS OF BULK AT MOST 1048576: true; the input reads as it did. -/
def fnExactWithoutUptoRow : OpenClaim := { program := "ytfenclnejjbfjaa", sum := "47cd7d558bb17bc43f7edd6712691789dabd6b7455c67858d11e27e1822d6d63", func := "loop.example/g00486/laws.FnExactWithout", spec := "fnExactWithout", recurses := true, apart := false, narrowed := true }
def FnExactWithoutUptoSaid : Prop := fnExactWithoutUptoRow.holds Try.pinned (OpenSpec.upto fnExactWithoutSpec)

/-- 'laws.FnSets', WHERE WHAT IT READS IS OF BULK AT MOST 1048576: true; the input reads as it did. -/
def fnSetsUptoRow : OpenClaim := { program := "ytfenclnejjbfjaa", sum := "47cd7d558bb17bc43f7edd6712691789dabd6b7455c67858d11e27e1822d6d63", func := "loop.example/g00486/laws.FnSets", spec := "fnSets", recurses := true, apart := false, narrowed := true }
def FnSetsUptoSaid : Prop := fnSetsUptoRow.holds Try.pinned (OpenSpec.upto fnSetsSpec)

/-- 'laws.FnSetSums', WHERE WHAT IT READS IS OF BULK AT MOST 1048576: true; the input reads as it did. -/
def fnSetSumsUptoRow : OpenClaim := { program := "ytfenclnejjbfjaa", sum := "47cd7d558bb17bc43f7edd6712691789dabd6b7455c67858d11e27e1822d6d63", func := "loop.example/g00486/laws.FnSetSums", spec := "fnSetSums", recurses := true, apart := false, narrowed := true }
def FnSetSumsUptoSaid : Prop := fnSetSumsUptoRow.holds Try.pinned (OpenSpec.upto fnSetSumsSpec)

/-- 'laws.FnStates', WHERE WHAT IT READS IS OF BULK AT MOST 1048576: true; the input reads as it did. -/
def fnStatesUptoRow : OpenClaim := { program := "ytfenclnejjbfjaa", sum := "47cd7d558bb17bc43f7edd6712691789dabd6b7455c67858d11e27e1822d6d63", func := "loop.example/g00486/laws.FnStates", spec := "fnStates", unfollowed := true, recurses := true, apart := false, narrowed := true }
def FnStatesUptoSaid : Prop := fnStatesUptoRow.holds Try.pinned (OpenSpec.upto fnStatesSpec)

end Rows
end Go.Proofs.Ytfenclnejjbfjaa
