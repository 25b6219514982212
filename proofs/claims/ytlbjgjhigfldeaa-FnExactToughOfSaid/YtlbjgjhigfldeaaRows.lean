/-
  No cell of these rows narrows 'for every input' (looked for: loops, veiled, ifaces, maps, wideKeys, modest, calm, conditions, laid).
  DERIVED. THE GIVEN ROWS OF THIS SEAT. 12 by the template 'for every input the law returns true; each argument reads behind the call as it read before'; 0 by the template 'total and deterministic' (their statements: YtlbjgjhigfldeaaTotals.lean).
  GIVEN WITH THE SEED: the statements are not yours to turn. If you find one false, say at which input.
  Laid BY PROGRAM, IN A SANDBOX (cutbox-rows.mjs): the forced cells as the released guide's own fill.sh prints them over the translation 390e3855c7433d8c… (all of the seat's roots in one cut). By AI agents, Wed Nov 11 2026. No macro, syntax, notation, axiom, sorry.
-/
import Derived.Test.YtlbjgjhigfldeaaChecked
import GoSem.Claim
import GoSem.ClaimJoined
import GoSem.ClaimMapViews
import Derived.JoinedTies
import Derived.KernelRfl
namespace Go.Proofs.Ytlbjgjhigfldeaa
/- THE CELL 'sum', in the pinned program and in every row, IS THE sha256 OF THE DUMP (.gsa) THAT YtlbjgjhigfldeaaProg.lean LOADS. Nothing in Lean hashes anything: it is a label: what it is worth is what the hold of that sum in a sandbox is worth. -/
noncomputable def Try.pinned : Pinned := { name := "ytlbjgjhigfldeaa", sum := "390e3855c7433d8cad17f058d5ba6844a9b489e1c4612a50a4a241e66f58957a", checked := Try.checked }
namespace Rows
def none {H : Type} : Left H := { results := [], args := [] }

/-- 'laws.FnExactConstants': WHATEVER THE INPUT: true; the input reads as it did. -/
def fnExactConstantsSpec : ChangeSpec := { name := "fnExactConstants", fn := fun _ => fun
  | [] => { results := [.lit (.bool true)], args := [] }
  | _ => none }
def fnExactConstantsRow : OpenClaim := { program := "ytlbjgjhigfldeaa", sum := "390e3855c7433d8cad17f058d5ba6844a9b489e1c4612a50a4a241e66f58957a", func := "loop.example/g00486/laws.FnExactConstants", spec := "fnExactConstants", apart := false }
def FnExactConstantsSaid : Prop := fnExactConstantsRow.holds Try.pinned (OpenSpec.ofChange fnExactConstantsSpec)

/-- ITS FALSE NEIGHBOUR: 'it returns false'. Refute it at one input. -/
def fnExactConstantsWrong : ChangeSpec := { name := "fnExactConstants", fn := fun _ => fun
  | [] => { results := [.lit (.bool false)], args := [] }
  | _ => none }
def FnExactConstantsWrongFalsely : Prop := fnExactConstantsRow.holds Try.pinned (OpenSpec.ofChange fnExactConstantsWrong)

/-- 'laws.FnExactBound': WHATEVER THE INPUT: true; the input reads as it did. -/
def fnExactBoundSpec : ChangeSpec := { name := "fnExactBound", fn := fun _ => fun
  | [d] => { results := [.lit (.bool true)], args := [d] }
  | _ => none }
def fnExactBoundRow : OpenClaim := { program := "ytlbjgjhigfldeaa", sum := "390e3855c7433d8cad17f058d5ba6844a9b489e1c4612a50a4a241e66f58957a", func := "loop.example/g00486/laws.FnExactBound", spec := "fnExactBound", apart := false }
def FnExactBoundSaid : Prop := fnExactBoundRow.holds Try.pinned (OpenSpec.ofChange fnExactBoundSpec)

/-- ITS FALSE NEIGHBOUR: 'it returns false'. Refute it at one input. -/
def fnExactBoundWrong : ChangeSpec := { name := "fnExactBound", fn := fun _ => fun
  | [d] => { results := [.lit (.bool false)], args := [d] }
  | _ => none }
def FnExactBoundWrongFalsely : Prop := fnExactBoundRow.holds Try.pinned (OpenSpec.ofChange fnExactBoundWrong)

/-- 'laws.FnExactUpto': WHATEVER THE INPUT: true; the input reads as it did. -/
def fnExactUptoSpec : ChangeSpec := { name := "fnExactUpto", fn := fun _ => fun
  | [d1, d2] => { results := [.lit (.bool true)], args := [d1, d2] }
  | _ => none }
def fnExactUptoRow : OpenClaim := { program := "ytlbjgjhigfldeaa", sum := "390e3855c7433d8cad17f058d5ba6844a9b489e1c4612a50a4a241e66f58957a", func := "loop.example/g00486/laws.FnExactUpto", spec := "fnExactUpto", apart := false }
def FnExactUptoSaid : Prop := fnExactUptoRow.holds Try.pinned (OpenSpec.ofChange fnExactUptoSpec)

/-- ITS FALSE NEIGHBOUR: 'it returns false'. Refute it at one input. -/
def fnExactUptoWrong : ChangeSpec := { name := "fnExactUpto", fn := fun _ => fun
  | [d1, d2] => { results := [.lit (.bool false)], args := [d1, d2] }
  | _ => none }
def FnExactUptoWrongFalsely : Prop := fnExactUptoRow.holds Try.pinned (OpenSpec.ofChange fnExactUptoWrong)

/-- 'laws.FnExactHalf': WHATEVER THE INPUT: true; the input reads as it did. -/
def fnExactHalfSpec : ChangeSpec := { name := "fnExactHalf", fn := fun _ => fun
  | [d] => { results := [.lit (.bool true)], args := [d] }
  | _ => none }
def fnExactHalfRow : OpenClaim := { program := "ytlbjgjhigfldeaa", sum := "390e3855c7433d8cad17f058d5ba6844a9b489e1c4612a50a4a241e66f58957a", func := "loop.example/g00486/laws.FnExactHalf", spec := "fnExactHalf", apart := false }
def FnExactHalfSaid : Prop := fnExactHalfRow.holds Try.pinned (OpenSpec.ofChange fnExactHalfSpec)

/-- ITS FALSE NEIGHBOUR: 'it returns false'. Refute it at one input. -/
def fnExactHalfWrong : ChangeSpec := { name := "fnExactHalf", fn := fun _ => fun
  | [d] => { results := [.lit (.bool false)], args := [d] }
  | _ => none }
def FnExactHalfWrongFalsely : Prop := fnExactHalfRow.holds Try.pinned (OpenSpec.ofChange fnExactHalfWrong)

/-- 'laws.FnExactLess': WHATEVER THE INPUT: true; the input reads as it did. -/
def fnExactLessSpec : ChangeSpec := { name := "fnExactLess", fn := fun _ => fun
  | [d1, d2] => { results := [.lit (.bool true)], args := [d1, d2] }
  | _ => none }
def fnExactLessRow : OpenClaim := { program := "ytlbjgjhigfldeaa", sum := "390e3855c7433d8cad17f058d5ba6844a9b489e1c4612a50a4a241e66f58957a", func := "loop.example/g00486/laws.FnExactLess", spec := "fnExactLess", apart := false }
def FnExactLessSaid : Prop := fnExactLessRow.holds Try.pinned (OpenSpec.ofChange fnExactLessSpec)

/-- ITS FALSE NEIGHBOUR: 'it returns false'. Refute it at one input. -/
def fnExactLessWrong : ChangeSpec := { name := "fnExactLess", fn := fun _ => fun
  | [d1, d2] => { results := [.lit (.bool false)], args := [d1, d2] }
  | _ => none }
def FnExactLessWrongFalsely : Prop := fnExactLessRow.holds Try.pinned (OpenSpec.ofChange fnExactLessWrong)

/-- 'laws.FnExactPlus': WHATEVER THE INPUT: true; the input reads as it did. -/
def fnExactPlusSpec : ChangeSpec := { name := "fnExactPlus", fn := fun _ => fun
  | [d1, d2] => { results := [.lit (.bool true)], args := [d1, d2] }
  | _ => none }
def fnExactPlusRow : OpenClaim := { program := "ytlbjgjhigfldeaa", sum := "390e3855c7433d8cad17f058d5ba6844a9b489e1c4612a50a4a241e66f58957a", func := "loop.example/g00486/laws.FnExactPlus", spec := "fnExactPlus", apart := false }
def FnExactPlusSaid : Prop := fnExactPlusRow.holds Try.pinned (OpenSpec.ofChange fnExactPlusSpec)

/-- ITS FALSE NEIGHBOUR: 'it returns false'. Refute it at one input. -/
def fnExactPlusWrong : ChangeSpec := { name := "fnExactPlus", fn := fun _ => fun
  | [d1, d2] => { results := [.lit (.bool false)], args := [d1, d2] }
  | _ => none }
def FnExactPlusWrongFalsely : Prop := fnExactPlusRow.holds Try.pinned (OpenSpec.ofChange fnExactPlusWrong)

/-- 'laws.FnExactTwice': WHATEVER THE INPUT: true; the input reads as it did. -/
def fnExactTwiceSpec : ChangeSpec := { name := "fnExactTwice", fn := fun _ => fun
  | [d] => { results := [.lit (.bool true)], args := [d] }
  | _ => none }
def fnExactTwiceRow : OpenClaim := { program := "ytlbjgjhigfldeaa", sum := "390e3855c7433d8cad17f058d5ba6844a9b489e1c4612a50a4a241e66f58957a", func := "loop.example/g00486/laws.FnExactTwice", spec := "fnExactTwice", apart := false }
def FnExactTwiceSaid : Prop := fnExactTwiceRow.holds Try.pinned (OpenSpec.ofChange fnExactTwiceSpec)

/-- ITS FALSE NEIGHBOUR: 'it returns false'. Refute it at one input. -/
def fnExactTwiceWrong : ChangeSpec := { name := "fnExactTwice", fn := fun _ => fun
  | [d] => { results := [.lit (.bool false)], args := [d] }
  | _ => none }
def FnExactTwiceWrongFalsely : Prop := fnExactTwiceRow.holds Try.pinned (OpenSpec.ofChange fnExactTwiceWrong)

/-- 'laws.FnExactSamePiece': WHATEVER THE INPUT: true; the input reads as it did. -/
def fnExactSamePieceSpec : ChangeSpec := { name := "fnExactSamePiece", fn := fun _ => fun
  | [d1, d2] => { results := [.lit (.bool true)], args := [d1, d2] }
  | _ => none }
def fnExactSamePieceRow : OpenClaim := { program := "ytlbjgjhigfldeaa", sum := "390e3855c7433d8cad17f058d5ba6844a9b489e1c4612a50a4a241e66f58957a", func := "loop.example/g00486/laws.FnExactSamePiece", spec := "fnExactSamePiece", apart := false }
def FnExactSamePieceSaid : Prop := fnExactSamePieceRow.holds Try.pinned (OpenSpec.ofChange fnExactSamePieceSpec)

/-- ITS FALSE NEIGHBOUR: 'it returns false'. Refute it at one input. -/
def fnExactSamePieceWrong : ChangeSpec := { name := "fnExactSamePiece", fn := fun _ => fun
  | [d1, d2] => { results := [.lit (.bool false)], args := [d1, d2] }
  | _ => none }
def FnExactSamePieceWrongFalsely : Prop := fnExactSamePieceRow.holds Try.pinned (OpenSpec.ofChange fnExactSamePieceWrong)

/-- 'laws.FnExactHasTrait': WHATEVER THE INPUT: true; the input reads as it did. -/
def fnExactHasTraitSpec : ChangeSpec := { name := "fnExactHasTrait", fn := fun _ => fun
  | [d1, d2] => { results := [.lit (.bool true)], args := [d1, d2] }
  | _ => none }
def fnExactHasTraitRow : OpenClaim := { program := "ytlbjgjhigfldeaa", sum := "390e3855c7433d8cad17f058d5ba6844a9b489e1c4612a50a4a241e66f58957a", func := "loop.example/g00486/laws.FnExactHasTrait", spec := "fnExactHasTrait", apart := false }
def FnExactHasTraitSaid : Prop := fnExactHasTraitRow.holds Try.pinned (OpenSpec.ofChange fnExactHasTraitSpec)

/-- ITS FALSE NEIGHBOUR: 'it returns false'. Refute it at one input. -/
def fnExactHasTraitWrong : ChangeSpec := { name := "fnExactHasTrait", fn := fun _ => fun
  | [d1, d2] => { results := [.lit (.bool false)], args := [d1, d2] }
  | _ => none }
def FnExactHasTraitWrongFalsely : Prop := fnExactHasTraitRow.holds Try.pinned (OpenSpec.ofChange fnExactHasTraitWrong)

/-- 'laws.FnExactNumText': WHATEVER THE INPUT: true; the input reads as it did. -/
def fnExactNumTextSpec : ChangeSpec := { name := "fnExactNumText", fn := fun _ => fun
  | [d] => { results := [.lit (.bool true)], args := [d] }
  | _ => none }
def fnExactNumTextRow : OpenClaim := { program := "ytlbjgjhigfldeaa", sum := "390e3855c7433d8cad17f058d5ba6844a9b489e1c4612a50a4a241e66f58957a", func := "loop.example/g00486/laws.FnExactNumText", spec := "fnExactNumText", recurses := true, apart := false }
def FnExactNumTextSaid : Prop := fnExactNumTextRow.holds Try.pinned (OpenSpec.ofChange fnExactNumTextSpec)

/-- ITS FALSE NEIGHBOUR: 'it returns false'. Refute it at one input. -/
def fnExactNumTextWrong : ChangeSpec := { name := "fnExactNumText", fn := fun _ => fun
  | [d] => { results := [.lit (.bool false)], args := [d] }
  | _ => none }
def FnExactNumTextWrongFalsely : Prop := fnExactNumTextRow.holds Try.pinned (OpenSpec.ofChange fnExactNumTextWrong)

/-- 'laws.FnExactPowerOf': WHATEVER THE INPUT: true; the input reads as it did. -/
def fnExactPowerOfSpec : ChangeSpec := { name := "fnExactPowerOf", fn := fun _ => fun
  | [d] => { results := [.lit (.bool true)], args := [d] }
  | _ => none }
def fnExactPowerOfRow : OpenClaim := { program := "ytlbjgjhigfldeaa", sum := "390e3855c7433d8cad17f058d5ba6844a9b489e1c4612a50a4a241e66f58957a", func := "loop.example/g00486/laws.FnExactPowerOf", spec := "fnExactPowerOf", apart := false }
def FnExactPowerOfSaid : Prop := fnExactPowerOfRow.holds Try.pinned (OpenSpec.ofChange fnExactPowerOfSpec)

/-- ITS FALSE NEIGHBOUR: 'it returns false'. Refute it at one input. -/
def fnExactPowerOfWrong : ChangeSpec := { name := "fnExactPowerOf", fn := fun _ => fun
  | [d] => { results := [.lit (.bool false)], args := [d] }
  | _ => none }
def FnExactPowerOfWrongFalsely : Prop := fnExactPowerOfRow.holds Try.pinned (OpenSpec.ofChange fnExactPowerOfWrong)

/-- 'laws.FnExactToughOf': WHATEVER THE INPUT: true; the input reads as it did. -/
def fnExactToughOfSpec : ChangeSpec := { name := "fnExactToughOf", fn := fun _ => fun
  | [d] => { results := [.lit (.bool true)], args := [d] }
  | _ => none }
def fnExactToughOfRow : OpenClaim := { program := "ytlbjgjhigfldeaa", sum := "390e3855c7433d8cad17f058d5ba6844a9b489e1c4612a50a4a241e66f58957a", func := "loop.example/g00486/laws.FnExactToughOf", spec := "fnExactToughOf", apart := false }
def FnExactToughOfSaid : Prop := fnExactToughOfRow.holds Try.pinned (OpenSpec.ofChange fnExactToughOfSpec)

/-- ITS FALSE NEIGHBOUR: 'it returns false'. Refute it at one input. -/
def fnExactToughOfWrong : ChangeSpec := { name := "fnExactToughOf", fn := fun _ => fun
  | [d] => { results := [.lit (.bool false)], args := [d] }
  | _ => none }
def FnExactToughOfWrongFalsely : Prop := fnExactToughOfRow.holds Try.pinned (OpenSpec.ofChange fnExactToughOfWrong)

/- THE SECOND FORM. 'bulk': how many values and letters a reading holds, each counted each time it is reached (what is shared counts as often as it is met; a slice's spare places count too). A statement '..UptoSaid' is the law's where the arguments, and the package variables that the reading takes, are together of bulk at most 1048576: NARROWER than '..Said'. Prove '..Said' where nothing that the law and all that it calls make is longer than what came in: it says more and counts as full. Else prove '..UptoSaid'. A law counts once. -/
mutual
def uptoBulk {H : Type} : DataW H → Nat
  | .lit (.string bytes) => bytes.length + 1
  | .lit _ => 1
  | .nil => 1
  | .ptr d => uptoBulk d + 1
  | .slice elems spare => uptoBulkAll elems + uptoBulkAll spare + 1
  | .agg parts => uptoBulkAll parts + 1
  | .iface _ d => uptoBulk d + 1
  | .map entries => uptoBulkEntries entries + 1
  | .held _ => 1
def uptoBulkAll {H : Type} : List (DataW H) → Nat
  | [] => 0
  | d :: r => uptoBulk d + uptoBulkAll r
def uptoBulkEntries {H : Type} : List (Lit × DataW H) → Nat
  | [] => 0
  | x :: r => uptoBulkEntry x + uptoBulkEntries r
def uptoBulkEntry {H : Type} : Lit × DataW H → Nat
  | (.string bytes, d) => bytes.length + uptoBulk d + 1
  | (_, d) => uptoBulk d + 1
 end
def uptoSmall : (H : Type) → List (DataW H) → Bool := fun _ ds => decide (uptoBulkAll ds ≤ 1048576)
def OpenSpec.upto (s : _root_.Go.ChangeSpec) : _root_.Go.OpenSpec := { _root_.Go.OpenSpec.ofChange s with cond := some uptoSmall }

/-- 'laws.FnExactConstants', WHERE WHAT IT READS IS OF BULK AT MOST 1048576: true; the input reads as it did. -/
def fnExactConstantsUptoRow : OpenClaim := { program := "ytlbjgjhigfldeaa", sum := "390e3855c7433d8cad17f058d5ba6844a9b489e1c4612a50a4a241e66f58957a", func := "loop.example/g00486/laws.FnExactConstants", spec := "fnExactConstants", apart := false, narrowed := true }
def FnExactConstantsUptoSaid : Prop := fnExactConstantsUptoRow.holds Try.pinned (OpenSpec.upto fnExactConstantsSpec)

/-- 'laws.FnExactBound', WHERE WHAT IT READS IS OF BULK AT MOST 1048576: true; the input reads as it did. -/
def fnExactBoundUptoRow : OpenClaim := { program := "ytlbjgjhigfldeaa", sum := "390e3855c7433d8cad17f058d5ba6844a9b489e1c4612a50a4a241e66f58957a", func := "loop.example/g00486/laws.FnExactBound", spec := "fnExactBound", apart := false, narrowed := true }
def FnExactBoundUptoSaid : Prop := fnExactBoundUptoRow.holds Try.pinned (OpenSpec.upto fnExactBoundSpec)

/-- 'laws.FnExactUpto', WHERE WHAT IT READS IS OF BULK AT MOST 1048576: true; the input reads as it did. -/
def fnExactUptoUptoRow : OpenClaim := { program := "ytlbjgjhigfldeaa", sum := "390e3855c7433d8cad17f058d5ba6844a9b489e1c4612a50a4a241e66f58957a", func := "loop.example/g00486/laws.FnExactUpto", spec := "fnExactUpto", apart := false, narrowed := true }
def FnExactUptoUptoSaid : Prop := fnExactUptoUptoRow.holds Try.pinned (OpenSpec.upto fnExactUptoSpec)

/-- 'laws.FnExactHalf', WHERE WHAT IT READS IS OF BULK AT MOST 1048576: true; the input reads as it did. -/
def fnExactHalfUptoRow : OpenClaim := { program := "ytlbjgjhigfldeaa", sum := "390e3855c7433d8cad17f058d5ba6844a9b489e1c4612a50a4a241e66f58957a", func := "loop.example/g00486/laws.FnExactHalf", spec := "fnExactHalf", apart := false, narrowed := true }
def FnExactHalfUptoSaid : Prop := fnExactHalfUptoRow.holds Try.pinned (OpenSpec.upto fnExactHalfSpec)

/-- 'laws.FnExactLess', WHERE WHAT IT READS IS OF BULK AT MOST 1048576: true; the input reads as it did. -/
def fnExactLessUptoRow : OpenClaim := { program := "ytlbjgjhigfldeaa", sum := "390e3855c7433d8cad17f058d5ba6844a9b489e1c4612a50a4a241e66f58957a", func := "loop.example/g00486/laws.FnExactLess", spec := "fnExactLess", apart := false, narrowed := true }
def FnExactLessUptoSaid : Prop := fnExactLessUptoRow.holds Try.pinned (OpenSpec.upto fnExactLessSpec)

/-- 'laws.FnExactPlus', WHERE WHAT IT READS IS OF BULK AT MOST 1048576: true; the input reads as it did. -/
def fnExactPlusUptoRow : OpenClaim := { program := "ytlbjgjhigfldeaa", sum := "390e3855c7433d8cad17f058d5ba6844a9b489e1c4612a50a4a241e66f58957a", func := "loop.example/g00486/laws.FnExactPlus", spec := "fnExactPlus", apart := false, narrowed := true }
def FnExactPlusUptoSaid : Prop := fnExactPlusUptoRow.holds Try.pinned (OpenSpec.upto fnExactPlusSpec)

/-- 'laws.FnExactTwice', WHERE WHAT IT READS IS OF BULK AT MOST 1048576: true; the input reads as it did. -/
def fnExactTwiceUptoRow : OpenClaim := { program := "ytlbjgjhigfldeaa", sum := "390e3855c7433d8cad17f058d5ba6844a9b489e1c4612a50a4a241e66f58957a", func := "loop.example/g00486/laws.FnExactTwice", spec := "fnExactTwice", apart := false, narrowed := true }
def FnExactTwiceUptoSaid : Prop := fnExactTwiceUptoRow.holds Try.pinned (OpenSpec.upto fnExactTwiceSpec)

/-- 'laws.FnExactSamePiece', WHERE WHAT IT READS IS OF BULK AT MOST 1048576: true; the input reads as it did. -/
def fnExactSamePieceUptoRow : OpenClaim := { program := "ytlbjgjhigfldeaa", sum := "390e3855c7433d8cad17f058d5ba6844a9b489e1c4612a50a4a241e66f58957a", func := "loop.example/g00486/laws.FnExactSamePiece", spec := "fnExactSamePiece", apart := false, narrowed := true }
def FnExactSamePieceUptoSaid : Prop := fnExactSamePieceUptoRow.holds Try.pinned (OpenSpec.upto fnExactSamePieceSpec)

/-- 'laws.FnExactHasTrait', WHERE WHAT IT READS IS OF BULK AT MOST 1048576: true; the input reads as it did. -/
def fnExactHasTraitUptoRow : OpenClaim := { program := "ytlbjgjhigfldeaa", sum := "390e3855c7433d8cad17f058d5ba6844a9b489e1c4612a50a4a241e66f58957a", func := "loop.example/g00486/laws.FnExactHasTrait", spec := "fnExactHasTrait", apart := false, narrowed := true }
def FnExactHasTraitUptoSaid : Prop := fnExactHasTraitUptoRow.holds Try.pinned (OpenSpec.upto fnExactHasTraitSpec)

/-- 'laws.FnExactNumText', WHERE WHAT IT READS IS OF BULK AT MOST 1048576: true; the input reads as it did. -/
def fnExactNumTextUptoRow : OpenClaim := { program := "ytlbjgjhigfldeaa", sum := "390e3855c7433d8cad17f058d5ba6844a9b489e1c4612a50a4a241e66f58957a", func := "loop.example/g00486/laws.FnExactNumText", spec := "fnExactNumText", recurses := true, apart := false, narrowed := true }
def FnExactNumTextUptoSaid : Prop := fnExactNumTextUptoRow.holds Try.pinned (OpenSpec.upto fnExactNumTextSpec)

/-- 'laws.FnExactPowerOf', WHERE WHAT IT READS IS OF BULK AT MOST 1048576: true; the input reads as it did. -/
def fnExactPowerOfUptoRow : OpenClaim := { program := "ytlbjgjhigfldeaa", sum := "390e3855c7433d8cad17f058d5ba6844a9b489e1c4612a50a4a241e66f58957a", func := "loop.example/g00486/laws.FnExactPowerOf", spec := "fnExactPowerOf", apart := false, narrowed := true }
def FnExactPowerOfUptoSaid : Prop := fnExactPowerOfUptoRow.holds Try.pinned (OpenSpec.upto fnExactPowerOfSpec)

/-- 'laws.FnExactToughOf', WHERE WHAT IT READS IS OF BULK AT MOST 1048576: true; the input reads as it did. -/
def fnExactToughOfUptoRow : OpenClaim := { program := "ytlbjgjhigfldeaa", sum := "390e3855c7433d8cad17f058d5ba6844a9b489e1c4612a50a4a241e66f58957a", func := "loop.example/g00486/laws.FnExactToughOf", spec := "fnExactToughOf", apart := false, narrowed := true }
def FnExactToughOfUptoSaid : Prop := fnExactToughOfUptoRow.holds Try.pinned (OpenSpec.upto fnExactToughOfSpec)

end Rows
end Go.Proofs.Ytlbjgjhigfldeaa
