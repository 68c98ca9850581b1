/- TextNumbers: the walk. -/
import Derived.Test.YtmmbpbamkiheaaaDoorTp
set_option linter.unusedVariables false
set_option linter.unusedSimpArgs false
namespace Go.Proofs.YtmmbpbamkiheaaaDoor.Tx
open Go.RowKit Go.Proofs.YtmmbpbamkiheaaaDoorW.PrintWords Go.Proofs.YtmmbpbamkiheaaaDoorW.PrintLast Go.Proofs.YtmmbpbamkiheaaaDoorW.PrintMore Go.Proofs.YtmmbpbamkiheaaaDoor.R
set_option maxHeartbeats 8000000 in
set_option maxRecDepth 1000000 in
theorem textNumbers (s : ByteArray) (w : World) (ht : Tab w) (hs : s.size ≤ 140737488351232) : Calls Tryd.prog 3 #[.string s] w (RetB (.bool true) w) := by
  have HT := Lib.hid ht
  clear ht
  by_cases h5 : s.size ≤ 5000
  · go_enter Tryd.func3, Tryd.ntmps3
    go_wp2_with (first | (go_at_call 12; go_must (refine (number_any s _ (by omega)).mono ?_)))
    rintro e w1 ⟨rfl, hb⟩
    have HB1 := Lib.hid hb
    clear hb
    go_wp2_with (first | (go_at_call 13; go_must (refine (pantographref01_Number.calls (2 * s.size + 3) s (num s).1 (num s).2 _ (refnum_f s (by omega) _ (Nat.le_refl _))).mono ?_)))
    rintro e w2 ⟨rfl, hd⟩
    have HB2 := Lib.hid (below_weaken HB1.out HB1.out.size hd.below)
    clear hd HB1
    go_wp2_with (first | (go_at_call 11; go_must (refine (awake _ (tab_below HT.out HB2.out)).mono ?_); rintro e w9 ⟨rfl, hb⟩; have HB9 := Lib.hid (below_weaken HB2.out HB2.out.size hb); clear hb))
    go_ret
    exact ⟨rfl, HB9.out⟩
  · go_enter Tryd.func3, Tryd.ntmps3
    go_wp2_with (first | (go_at_call 11; go_must (refine (awake _ HT.out).mono ?_); rintro e w9 ⟨rfl, hb⟩; have HB9 := Lib.hid hb; clear hb))
    go_ret
    exact ⟨rfl, HB9.out⟩
end Go.Proofs.YtmmbpbamkiheaaaDoor.Tx
