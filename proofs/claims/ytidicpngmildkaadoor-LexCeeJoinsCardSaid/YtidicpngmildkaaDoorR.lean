-- Printed by this session's own program over the printer of the kit (wip/tools/xprint.py); not by print.sh. Lean checks it.
import Derived.Test.YtidicpngmildkaaDoorR0
import Derived.Test.YtidicpngmildkaaDoorR1
import Derived.Test.YtidicpngmildkaaDoorR2
import Derived.Test.YtidicpngmildkaaDoorR3
namespace Go.Proofs.YtidicpngmildkaaDoor.R
open Go.Proofs.YtidicpngmildkaaDoor.Fy
open Go.RowKit Go.Proofs.YtidicpngmildkaaDoorW.PrintWords Go.Proofs.YtidicpngmildkaaDoorW.PrintLast Go.Proofs.YtidicpngmildkaaDoorW.PrintMore
attribute [local go_sem] max2_int min2_int max_two min_two max_three min_three max_four min_four   -- for this text's walks alone
set_option linter.unusedVariables false
set_option linter.unusedSimpArgs false

end Go.Proofs.YtidicpngmildkaaDoor.R
