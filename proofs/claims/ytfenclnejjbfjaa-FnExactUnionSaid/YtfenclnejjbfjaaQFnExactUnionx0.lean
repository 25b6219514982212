-- Written by a program of this session (patch_print.py over the print).
import Derived.Test.YtfenclnejjbfjaaProg
import Derived.Below
import Derived.Deep.Draws
import Derived.Deep.AppendLies
import Derived.Maps.AppendAt
import Derived.OwnWalk
import Derived.Laws.BytesArg
import Derived.Laws.MakeOwn
import Derived.Laws.OwnMore
import Derived.Deep.OwnRows
import Derived.Tactics
import Derived.Lib.ConvBytes
import Derived.Laws.Slices
import Derived.WalkKit
import Derived.KernelRfl
import Derived.RowKit3
import Derived.Deep.LoopGhost
import Derived.Deep.QuietTactic
import Derived.BigQuiet
import Derived.WideLaws
import Derived.Deep.DeepCutAuto
import Derived.Deep.CutBlock
import Derived.Deep.RegionHeld3
import Derived.Laws.Rows
import Derived.Lib.AppendStr
import Derived.ArgAppend
import Derived.Laws.IdiomCopy
import Derived.OrdersHeld
import Derived.Laws.BitsLemmas
import Derived.RowKit
import Derived.Lib.SliceRun
import Derived.Shelf.Slices.In.SortNone
import Derived.Shelf.Sort.Plain
import Derived.Shelf.Slices.CompactI
import Derived.Shelf.Slices.Cells
import Derived.Sort.OwnSortedInts
import Derived.Shelf.Spec.SlicesGrow
import Derived.Test.YtfenclnejjbfjaaWWords
import Derived.Test.YtfenclnejjbfjaaWLast
import Derived.Test.YtfenclnejjbfjaaWTab
import Derived.Test.YtfenclnejjbfjaaWFour
import Derived.Test.YtfenclnejjbfjaaWQPut
import Derived.Test.YtfenclnejjbfjaaWApart
import Derived.Test.YtfenclnejjbfjaaWArr
import Derived.Test.YtfenclnejjbfjaaWZeros
import Derived.Test.YtfenclnejjbfjaaWFoot
import Derived.Test.YtfenclnejjbfjaaWKept
import Derived.Test.YtfenclnejjbfjaaWShare
import Derived.Test.YtfenclnejjbfjaaWN
import Derived.Test.YtfenclnejjbfjaaWFootNe
import Derived.Test.YtfenclnejjbfjaaWAt
import Derived.Test.YtfenclnejjbfjaaWEqStruct
import Derived.Test.YtfenclnejjbfjaaWRepsOne
import Derived.Test.YtfenclnejjbfjaaWInv
import Derived.Test.YtfenclnejjbfjaaWInvWords
import Derived.Test.YtfenclnejjbfjaaWGuard
import Derived.Test.YtfenclnejjbfjaaWNEv
import Derived.Test.YtfenclnejjbfjaaWMore
namespace Go.Proofs.Ytfenclnejjbfjaa.QFnExactUnion
open Go.RowKit Go.Proofs.YtfenclnejjbfjaaW.PrintWords Go.Proofs.YtfenclnejjbfjaaW.PrintLast Go.Proofs.YtfenclnejjbfjaaW.PrintMore
attribute [local go_sem] max2_int min2_int max_two min_two max_three min_three max_four min_four   -- for this text's walks alone
set_option linter.unusedVariables false
set_option linter.unusedSimpArgs false



def errW : Option Int → Value
  | none => .nilIface
  | some c => .iface 0 (.int .i64 c)
theorem errW_none : errW none = .nilIface := rfl
theorem errW_some (c : Int) : errW (some c) = .iface 0 (.int .i64 c) := rfl

theorem info3 : (Try.prog.info? 3).map (fun i => (i.zero, i.size, i.bytes)) = some (some (.int .i64 0), 1, 8) := by kernel_rfl
-- the values' own types

end Go.Proofs.Ytfenclnejjbfjaa.QFnExactUnion
