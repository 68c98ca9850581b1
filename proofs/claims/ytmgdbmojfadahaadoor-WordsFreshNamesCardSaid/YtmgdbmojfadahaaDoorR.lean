-- Printed by this session's own program over the printer of the kit (wip/tools/xprint.py); not by print.sh. Lean checks it.
import Derived.Test.YtmgdbmojfadahaaDoorR0
import Derived.Test.YtmgdbmojfadahaaDoorR1
import Derived.Test.YtmgdbmojfadahaaDoorR2
import Derived.Test.YtmgdbmojfadahaaDoorR3
namespace Go.Proofs.YtmgdbmojfadahaaDoor.R
open Go.RowKit Go.Proofs.YtmgdbmojfadahaaDoorW.PrintWords Go.Proofs.YtmgdbmojfadahaaDoorW.PrintLast Go.Proofs.YtmgdbmojfadahaaDoorW.PrintMore
attribute [local go_sem] max2_int min2_int max_two min_two max_three min_three max_four min_four   -- for this text's walks alone
set_option linter.unusedVariables false
set_option linter.unusedSimpArgs false

end Go.Proofs.YtmgdbmojfadahaaDoor.R
