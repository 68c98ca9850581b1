-- Printed by this session's own program over the printer of the kit (wip/tools/xprint.py); not by print.sh. Lean checks it.
import Derived.Test.YtidicpngmildkaaDoorProg
import Derived.Below
import Derived.Deep.Draws
import Derived.Deep.AppendLies
import Derived.Maps.AppendAt
import Derived.OwnWalk
import Derived.Laws.BytesArg
import Derived.Laws.MakeOwn
import Derived.Laws.OwnMore
import Derived.Deep.OwnRows
import Derived.Tactics
import Derived.Lib.ConvBytes
import Derived.Laws.Slices
import Derived.WalkKit
import Derived.KernelRfl
import Derived.RowKit3
import Derived.Deep.LoopGhost
import Derived.Deep.QuietTactic
import Derived.BigQuiet
import Derived.WideLaws
import Derived.Deep.DeepCutAuto
import Derived.Deep.CutBlock
import Derived.Deep.RegionHeld3
import Derived.Laws.Rows
import Derived.Lib.AppendStr
import Derived.ArgAppend
import Derived.Laws.IdiomCopy
import Derived.OrdersHeld
import Derived.Laws.BitsLemmas
import Derived.RowKit
import Derived.Test.YtidicpngmildkaaDoorG3
import Derived.Test.YtidicpngmildkaaDoorAw
import Derived.Test.YtidicpngmildkaaDoorR
import Derived.Test.YtidicpngmildkaaDoorV
import Derived.Test.YtidicpngmildkaaDoorWWords
import Derived.Test.YtidicpngmildkaaDoorWLast
import Derived.Test.YtidicpngmildkaaDoorWTab
import Derived.Test.YtidicpngmildkaaDoorWFour
import Derived.Test.YtidicpngmildkaaDoorWQPut
import Derived.Test.YtidicpngmildkaaDoorWApart
import Derived.Test.YtidicpngmildkaaDoorWArr
import Derived.Test.YtidicpngmildkaaDoorWZeros
import Derived.Test.YtidicpngmildkaaDoorWFoot
import Derived.Test.YtidicpngmildkaaDoorWKept
import Derived.Test.YtidicpngmildkaaDoorWShare
import Derived.Test.YtidicpngmildkaaDoorWN
import Derived.Test.YtidicpngmildkaaDoorWFootNe
import Derived.Test.YtidicpngmildkaaDoorWAt
import Derived.Test.YtidicpngmildkaaDoorWEqStruct
import Derived.Test.YtidicpngmildkaaDoorWRepsOne
import Derived.Test.YtidicpngmildkaaDoorWInv
import Derived.Test.YtidicpngmildkaaDoorWInvWords
import Derived.Test.YtidicpngmildkaaDoorWGuard
import Derived.Test.YtidicpngmildkaaDoorWNEv
import Derived.Test.YtidicpngmildkaaDoorWMore
namespace Go.Proofs.YtidicpngmildkaaDoor.Y
open Go.Proofs.YtidicpngmildkaaDoor.Fl Go.Proofs.YtidicpngmildkaaDoor.Aw Go.Proofs.YtidicpngmildkaaDoor.R Go.Proofs.YtidicpngmildkaaDoor.V
open Go.RowKit Go.Proofs.YtidicpngmildkaaDoorW.PrintWords Go.Proofs.YtidicpngmildkaaDoorW.PrintLast Go.Proofs.YtidicpngmildkaaDoorW.PrintMore
attribute [local go_sem] max2_int min2_int max_two min_two max_three min_three max_four min_four   -- for this text's walks alone
set_option linter.unusedVariables false
set_option linter.unusedSimpArgs false



def errW : Option Int → Value
 | none => .nilIface
 | some c => .iface 0 (.int .i64 c)
theorem errW_none : errW none = .nilIface := rfl
theorem errW_some (c : Int) : errW (some c) = .iface 0 (.int .i64 c) := rfl

theorem info9 : (Tryd.prog.info? 9).map (fun i => (i.zero, i.size, i.bytes)) = some (some (.string ⟨#[]⟩), 1, 16) := by kernel_rfl
-- the values' own types

end Go.Proofs.YtidicpngmildkaaDoor.Y
