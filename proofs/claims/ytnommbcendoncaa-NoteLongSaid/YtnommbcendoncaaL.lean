-- Printed by this session's own program over the printer of the kit (wip/tools/xprint.py); not by print.sh. Lean checks it.
import Derived.Test.YtnommbcendoncaaL0
import Derived.Test.YtnommbcendoncaaL1
import Derived.Test.YtnommbcendoncaaL2
import Derived.Test.YtnommbcendoncaaL3
import Derived.Test.YtnommbcendoncaaL4
import Derived.Test.YtnommbcendoncaaL5
namespace Go.Proofs.Ytnommbcendoncaa.L
open Go.Proofs.Ytnommbcendoncaa.B Go.Proofs.Ytnommbcendoncaa.Np Go.Proofs.Ytnommbcendoncaa.Fx
open Go.RowKit Go.Proofs.YtnommbcendoncaaW.PrintWords Go.Proofs.YtnommbcendoncaaW.PrintLast Go.Proofs.YtnommbcendoncaaW.PrintMore
attribute [local go_sem] max2_int min2_int max_two min_two max_three min_three max_four min_four   -- for this text's walks alone
set_option linter.unusedVariables false
set_option linter.unusedSimpArgs false

end Go.Proofs.Ytnommbcendoncaa.L
