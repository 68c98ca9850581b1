/- What the rows' laid variables give the walks: the table of powers; the door's own heap meets the condition. -/
import Derived.Test.YtmmbpbamkiheaaaDoorRows
import Derived.Test.YtmmbpbamkiheaaaDoorTd
import Derived.ProofKit
import Derived.LaidMore
import Derived.Stop.Joined
import Derived.Lay
import Derived.OpenShut
set_option linter.unusedVariables false
namespace Go.Proofs.YtmmbpbamkiheaaaDoor.Tx
open Go.RowKit
def laidL : List (String × DataW Unit) := [("math/bits.deBruijn32tab", Rows.laid_math_bits_deBruijn32tab), ("math/bits.deBruijn64tab", Rows.laid_math_bits_deBruijn64tab), ("internal/strconv.uint64pow10", Rows.laid_internal_strconv_uint64pow10), ("unicode/utf8.acceptRanges", Rows.laid_unicode_utf8_acceptRanges), ("unicode/utf8.first", Rows.laid_unicode_utf8_first)]
theorem tab_datum : (Rows.laid_internal_strconv_uint64pow10 : DataW Unit) = Lib.tabData .u64 Lib.pow10Tab := by kernel_rfl
theorem of_laid {W : World} (h : laidMetH Tryd.prog laidL W) : Tab W := by
  rw [MakeChecks.laidMetH_plain _ _ _ (by kernel_rfl)] at h
  obtain ⟨ps, ⟨g0, t0, cs0, f0, p0, q0, hg0, ht0, hv0, hd0, ⟨g1, t1, cs1, f1, p1, q1, hg1, ht1, hv1, hd1, ⟨g4, t4, cs4, f4, p4, q4, hg4, ht4, hvar, hd, _⟩, _⟩, _⟩, _⟩ := h
  rw [tab_datum] at hd
  obtain rfl := Option.some.inj ((show Tryd.prog.globalNamed "internal/strconv.uint64pow10" = some 0 by kernel_rfl).symm.trans hg4)
  obtain rfl := Option.some.inj ((show (Tryd.prog.globals[0]?).map (·.type) = some 94 by kernel_rfl).symm.trans ht4)
  unfold Tab Lib.TabIs
  rw [hvar, ← Lib.cells_of_tab Tryd.underlying94 Tryd.underlying58 (by kernel_rfl) (by kernel_rfl) hd]
end Go.Proofs.YtmmbpbamkiheaaaDoor.Tx
