-- Printed by this session's own program over the printer of the kit (wip/tools/xprint.py); not by print.sh. Lean checks it.
import Derived.Test.YtmmbpbamkiheaaaDoorProg
import Derived.Below
import Derived.Deep.Draws
import Derived.Deep.AppendLies
import Derived.Maps.AppendAt
import Derived.OwnWalk
import Derived.Laws.BytesArg
import Derived.Laws.MakeOwn
import Derived.Laws.OwnMore
import Derived.Deep.OwnRows
import Derived.Tactics
import Derived.Lib.ConvBytes
import Derived.Laws.Slices
import Derived.WalkKit
import Derived.KernelRfl
import Derived.RowKit3
import Derived.Deep.LoopGhost
import Derived.Deep.QuietTactic
import Derived.BigQuiet
import Derived.WideLaws
import Derived.Deep.DeepCutAuto
import Derived.Deep.CutBlock
import Derived.Deep.RegionHeld3
import Derived.Laws.Rows
import Derived.Lib.AppendStr
import Derived.ArgAppend
import Derived.Laws.IdiomCopy
import Derived.OrdersHeld
import Derived.Laws.BitsLemmas
import Derived.RowKit
import Derived.Test.YtmmbpbamkiheaaaDoorWWords
import Derived.Test.YtmmbpbamkiheaaaDoorWLast
import Derived.Test.YtmmbpbamkiheaaaDoorWTab
import Derived.Test.YtmmbpbamkiheaaaDoorWFour
import Derived.Test.YtmmbpbamkiheaaaDoorWQPut
import Derived.Test.YtmmbpbamkiheaaaDoorWApart
import Derived.Test.YtmmbpbamkiheaaaDoorWArr
import Derived.Test.YtmmbpbamkiheaaaDoorWZeros
import Derived.Test.YtmmbpbamkiheaaaDoorWFoot
import Derived.Test.YtmmbpbamkiheaaaDoorWKept
import Derived.Test.YtmmbpbamkiheaaaDoorWShare
import Derived.Test.YtmmbpbamkiheaaaDoorWN
import Derived.Test.YtmmbpbamkiheaaaDoorWFootNe
import Derived.Test.YtmmbpbamkiheaaaDoorWAt
import Derived.Test.YtmmbpbamkiheaaaDoorWEqStruct
import Derived.Test.YtmmbpbamkiheaaaDoorWRepsOne
import Derived.Test.YtmmbpbamkiheaaaDoorWInv
import Derived.Test.YtmmbpbamkiheaaaDoorWInvWords
import Derived.Test.YtmmbpbamkiheaaaDoorWGuard
import Derived.Test.YtmmbpbamkiheaaaDoorWNEv
import Derived.Test.YtmmbpbamkiheaaaDoorWMore
namespace Go.Proofs.YtmmbpbamkiheaaaDoor.R
open Go.RowKit Go.Proofs.YtmmbpbamkiheaaaDoorW.PrintWords Go.Proofs.YtmmbpbamkiheaaaDoorW.PrintLast Go.Proofs.YtmmbpbamkiheaaaDoorW.PrintMore
attribute [local go_sem] max2_int min2_int max_two min_two max_three min_three max_four min_four   -- for this text's walks alone
set_option linter.unusedVariables false
set_option linter.unusedSimpArgs false



def errW : Option Int → Value
  | none => .nilIface
  | some c => .iface 0 (.int .i64 c)
theorem errW_none : errW none = .nilIface := rfl
theorem errW_some (c : Int) : errW (some c) = .iface 0 (.int .i64 c) := rfl

-- the values' own types

end Go.Proofs.YtmmbpbamkiheaaaDoor.R
