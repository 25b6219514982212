-- Written by a program of this session (patch_print.py over the print).
import Derived.Test.YtnkpbdpdgfjhcaaProg
import Derived.Below
import Derived.Deep.Draws
import Derived.Deep.AppendLies
import Derived.Maps.AppendAt
import Derived.OwnWalk
import Derived.Laws.BytesArg
import Derived.Laws.MakeOwn
import Derived.Laws.OwnMore
import Derived.Deep.OwnRows
import Derived.Tactics
import Derived.Lib.ConvBytes
import Derived.Laws.Slices
import Derived.WalkKit
import Derived.KernelRfl
import Derived.RowKit3
import Derived.Deep.LoopGhost
import Derived.Deep.QuietTactic
import Derived.BigQuiet
import Derived.WideLaws
import Derived.Deep.DeepCutAuto
import Derived.Deep.CutBlock
import Derived.Deep.RegionHeld3
import Derived.Laws.Rows
import Derived.Lib.AppendStr
import Derived.ArgAppend
import Derived.Laws.IdiomCopy
import Derived.OrdersHeld
import Derived.Laws.BitsLemmas
import Derived.RowKit
import Derived.Lib.SliceRun
import Derived.Test.YtnkpbdpdgfjhcaaWWords
import Derived.Test.YtnkpbdpdgfjhcaaWLast
import Derived.Test.YtnkpbdpdgfjhcaaWTab
import Derived.Test.YtnkpbdpdgfjhcaaWFour
import Derived.Test.YtnkpbdpdgfjhcaaWQPut
import Derived.Test.YtnkpbdpdgfjhcaaWApart
import Derived.Test.YtnkpbdpdgfjhcaaWArr
import Derived.Test.YtnkpbdpdgfjhcaaWZeros
import Derived.Test.YtnkpbdpdgfjhcaaWFoot
import Derived.Test.YtnkpbdpdgfjhcaaWKept
import Derived.Test.YtnkpbdpdgfjhcaaWShare
import Derived.Test.YtnkpbdpdgfjhcaaWN
import Derived.Test.YtnkpbdpdgfjhcaaWFootNe
import Derived.Test.YtnkpbdpdgfjhcaaWAt
import Derived.Test.YtnkpbdpdgfjhcaaWEqStruct
import Derived.Test.YtnkpbdpdgfjhcaaWRepsOne
import Derived.Test.YtnkpbdpdgfjhcaaWInv
import Derived.Test.YtnkpbdpdgfjhcaaWInvWords
import Derived.Test.YtnkpbdpdgfjhcaaWGuard
import Derived.Test.YtnkpbdpdgfjhcaaWNEv
import Derived.Test.YtnkpbdpdgfjhcaaWMore
namespace Go.Proofs.Ytnkpbdpdgfjhcaa.QFnExactParseNum
open Go.RowKit Go.Proofs.YtnkpbdpdgfjhcaaW.PrintWords Go.Proofs.YtnkpbdpdgfjhcaaW.PrintLast Go.Proofs.YtnkpbdpdgfjhcaaW.PrintMore
attribute [local go_sem] max2_int min2_int max_two min_two max_three min_three max_four min_four   -- for this text's walks alone
set_option linter.unusedVariables false
set_option linter.unusedSimpArgs false



def errW : Option Int → Value
  | none => .nilIface
  | some c => .iface 0 (.int .i64 c)
theorem errW_none : errW none = .nilIface := rfl
theorem errW_some (c : Int) : errW (some c) = .iface 0 (.int .i64 c) := rfl

-- the values' own types

end Go.Proofs.Ytnkpbdpdgfjhcaa.QFnExactParseNum
