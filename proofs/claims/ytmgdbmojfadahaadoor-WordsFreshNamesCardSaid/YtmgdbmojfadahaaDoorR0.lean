-- Printed by this session's own program over the printer of the kit (wip/tools/xprint.py); not by print.sh. Lean checks it.
import Derived.Test.YtmgdbmojfadahaaDoorProg
import Derived.Below
import Derived.Deep.Draws
import Derived.Deep.AppendLies
import Derived.Maps.AppendAt
import Derived.OwnWalk
import Derived.Laws.BytesArg
import Derived.Laws.MakeOwn
import Derived.Laws.OwnMore
import Derived.Deep.OwnRows
import Derived.Tactics
import Derived.Lib.ConvBytes
import Derived.Laws.Slices
import Derived.WalkKit
import Derived.KernelRfl
import Derived.RowKit3
import Derived.Deep.LoopGhost
import Derived.Deep.QuietTactic
import Derived.BigQuiet
import Derived.WideLaws
import Derived.Deep.DeepCutAuto
import Derived.Deep.CutBlock
import Derived.Deep.RegionHeld3
import Derived.Laws.Rows
import Derived.Lib.AppendStr
import Derived.ArgAppend
import Derived.Laws.IdiomCopy
import Derived.OrdersHeld
import Derived.Laws.BitsLemmas
import Derived.RowKit
import Derived.Test.YtmgdbmojfadahaaDoorWWords
import Derived.Test.YtmgdbmojfadahaaDoorWLast
import Derived.Test.YtmgdbmojfadahaaDoorWTab
import Derived.Test.YtmgdbmojfadahaaDoorWFour
import Derived.Test.YtmgdbmojfadahaaDoorWQPut
import Derived.Test.YtmgdbmojfadahaaDoorWApart
import Derived.Test.YtmgdbmojfadahaaDoorWArr
import Derived.Test.YtmgdbmojfadahaaDoorWZeros
import Derived.Test.YtmgdbmojfadahaaDoorWFoot
import Derived.Test.YtmgdbmojfadahaaDoorWKept
import Derived.Test.YtmgdbmojfadahaaDoorWShare
import Derived.Test.YtmgdbmojfadahaaDoorWN
import Derived.Test.YtmgdbmojfadahaaDoorWFootNe
import Derived.Test.YtmgdbmojfadahaaDoorWAt
import Derived.Test.YtmgdbmojfadahaaDoorWEqStruct
import Derived.Test.YtmgdbmojfadahaaDoorWRepsOne
import Derived.Test.YtmgdbmojfadahaaDoorWInv
import Derived.Test.YtmgdbmojfadahaaDoorWInvWords
import Derived.Test.YtmgdbmojfadahaaDoorWGuard
import Derived.Test.YtmgdbmojfadahaaDoorWNEv
import Derived.Test.YtmgdbmojfadahaaDoorWMore
namespace Go.Proofs.YtmgdbmojfadahaaDoor.R
open Go.RowKit Go.Proofs.YtmgdbmojfadahaaDoorW.PrintWords Go.Proofs.YtmgdbmojfadahaaDoorW.PrintLast Go.Proofs.YtmgdbmojfadahaaDoorW.PrintMore
attribute [local go_sem] max2_int min2_int max_two min_two max_three min_three max_four min_four   -- for this text's walks alone
set_option linter.unusedVariables false
set_option linter.unusedSimpArgs false



def errW : Option Int → Value
  | none => .nilIface
  | some c => .iface 0 (.int .i64 c)
theorem errW_none : errW none = .nilIface := rfl
theorem errW_some (c : Int) : errW (some c) = .iface 0 (.int .i64 c) := rfl

theorem info9 : (Tryd.prog.info? 9).map (fun i => (i.zero, i.size, i.bytes)) = some (some (.string ⟨#[]⟩), 1, 16) := by kernel_rfl
-- the values' own types

end Go.Proofs.YtmgdbmojfadahaaDoor.R
