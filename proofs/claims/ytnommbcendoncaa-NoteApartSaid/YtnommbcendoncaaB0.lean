-- Printed by this session's own program over the printer of the kit (wip/tools/xprint.py); not by print.sh. Lean checks it.
import Derived.Test.YtnommbcendoncaaProg
import Derived.Below
import Derived.Deep.Draws
import Derived.Deep.AppendLies
import Derived.Maps.AppendAt
import Derived.OwnWalk
import Derived.Laws.BytesArg
import Derived.Laws.MakeOwn
import Derived.Laws.OwnMore
import Derived.Deep.OwnRows
import Derived.Tactics
import Derived.Lib.ConvBytes
import Derived.Laws.Slices
import Derived.WalkKit
import Derived.KernelRfl
import Derived.RowKit3
import Derived.Deep.LoopGhost
import Derived.Deep.QuietTactic
import Derived.BigQuiet
import Derived.WideLaws
import Derived.Deep.DeepCutAuto
import Derived.Deep.CutBlock
import Derived.Deep.RegionHeld3
import Derived.Laws.Rows
import Derived.Lib.AppendStr
import Derived.ArgAppend
import Derived.Laws.IdiomCopy
import Derived.OrdersHeld
import Derived.Laws.BitsLemmas
import Derived.RowKit
import Derived.Test.YtnommbcendoncaaWWords
import Derived.Test.YtnommbcendoncaaWLast
import Derived.Test.YtnommbcendoncaaWTab
import Derived.Test.YtnommbcendoncaaWFour
import Derived.Test.YtnommbcendoncaaWQPut
import Derived.Test.YtnommbcendoncaaWApart
import Derived.Test.YtnommbcendoncaaWArr
import Derived.Test.YtnommbcendoncaaWZeros
import Derived.Test.YtnommbcendoncaaWFoot
import Derived.Test.YtnommbcendoncaaWKept
import Derived.Test.YtnommbcendoncaaWShare
import Derived.Test.YtnommbcendoncaaWN
import Derived.Test.YtnommbcendoncaaWFootNe
import Derived.Test.YtnommbcendoncaaWAt
import Derived.Test.YtnommbcendoncaaWEqStruct
import Derived.Test.YtnommbcendoncaaWRepsOne
import Derived.Test.YtnommbcendoncaaWInv
import Derived.Test.YtnommbcendoncaaWInvWords
import Derived.Test.YtnommbcendoncaaWGuard
import Derived.Test.YtnommbcendoncaaWNEv
import Derived.Test.YtnommbcendoncaaWMore
namespace Go.Proofs.Ytnommbcendoncaa.B
open Go.RowKit Go.Proofs.YtnommbcendoncaaW.PrintWords Go.Proofs.YtnommbcendoncaaW.PrintLast Go.Proofs.YtnommbcendoncaaW.PrintMore
attribute [local go_sem] max2_int min2_int max_two min_two max_three min_three max_four min_four   -- for this text's walks alone
set_option linter.unusedVariables false
set_option linter.unusedSimpArgs false



def errW : Option Int → Value
  | none => .nilIface
  | some c => .iface 0 (.int .i64 c)
theorem errW_none : errW none = .nilIface := rfl
theorem errW_some (c : Int) : errW (some c) = .iface 0 (.int .i64 c) := rfl

-- the values' own types

end Go.Proofs.Ytnommbcendoncaa.B
