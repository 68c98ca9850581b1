/- TextDigits: the walk. -/
import Derived.Test.YtmmbpbamkiheaaaDoorTp
import Derived.OpenShut
set_option linter.unusedVariables false
set_option linter.unusedSimpArgs false
namespace Go.Proofs.YtmmbpbamkiheaaaDoor.Tx
open Go.RowKit Go.Proofs.YtmmbpbamkiheaaaDoorW.PrintWords Go.Proofs.YtmmbpbamkiheaaaDoorW.PrintLast Go.Proofs.YtmmbpbamkiheaaaDoorW.PrintMore Go.Proofs.YtmmbpbamkiheaaaDoor.R
set_option maxHeartbeats 8000000 in
set_option maxRecDepth 1000000 in
theorem textDigits (n : Int) (w : World) (ht : Tab w) (hw : (Lit.int .i64 n).wf = true) : Calls Tryd.prog 4 #[.int .i64 n] w (RetB (.bool true) w) := by
  have HT := Lib.hid ht
  obtain ⟨h0, h1⟩ := bounds_i64 hw
  have hsm := itoB_small n h0 h1
  have href := Lib.hid (refdigits_f n h0 h1)
  clear ht hw
  by_cases hn : n < 0
  · have hnum := num_neg n hn
    have hd := decide_eq_true hn
    go_enter Tryd.func4, Tryd.ntmps4
    go_wp2_with (first | (go_at_call 14; go_must (refine (digits_any n h0 h1 _ HT.out).mono ?_)))
    rintro e w1 ⟨rfl, hb⟩
    have HB1 := Lib.hid hb
    clear hb
    go_wp2_with (first | (go_at_call 12; go_must (refine (number_any (itoB n) _ (by omega)).mono ?_)))
    rintro e w2 ⟨rfl, hb⟩
    rw [hnum]
    have HB2 := Lib.hid (below_weaken HB1.out HB1.out.size hb)
    clear hb HB1
    go_wp2_with (first | (go_at_call 15; go_must (refine (pantographref01_Digits.calls 40 n (itoB n) _ href.out).mono ?_)))
    rintro e w3 ⟨rfl, hb⟩
    have HB3 := Lib.hid (below_weaken HB2.out HB2.out.size hb)
    clear hb HB2
    go_wp2_with (first | (go_at_call 11; go_must (refine (awake _ (tab_below HT.out HB3.out)).mono ?_); rintro e w9 ⟨rfl, hb⟩; have HB9 := Lib.hid (below_weaken HB3.out HB3.out.size hb); clear hb))
    go_ret
    exact ⟨rfl, HB9.out⟩
  · replace hn : 0 ≤ n := by omega
    have hnum := num_dec n hn h1
    have hd : decide (n < 0) = false := decide_eq_false (by omega)
    go_enter Tryd.func4, Tryd.ntmps4
    go_wp2_with (first | (go_at_call 14; go_must (refine (digits_any n h0 h1 _ HT.out).mono ?_)))
    rintro e w1 ⟨rfl, hb⟩
    have HB1 := Lib.hid hb
    clear hb
    go_wp2_with (first | (go_at_call 12; go_must (refine (number_any (itoB n) _ (by omega)).mono ?_)))
    rintro e w2 ⟨rfl, hb⟩
    rw [hnum]
    have HB2 := Lib.hid (below_weaken HB1.out HB1.out.size hb)
    clear hb HB1
    go_wp2_with (first | (go_at_call 15; go_must (refine (pantographref01_Digits.calls 40 n (itoB n) _ href.out).mono ?_)))
    rintro e w3 ⟨rfl, hb⟩
    have HB3 := Lib.hid (below_weaken HB2.out HB2.out.size hb)
    clear hb HB2
    go_wp2_with (first | (go_at_call 11; go_must (refine (awake _ (tab_below HT.out HB3.out)).mono ?_); rintro e w9 ⟨rfl, hb⟩; have HB9 := Lib.hid (below_weaken HB3.out HB3.out.size hb); clear hb))
    go_ret
    exact ⟨rfl, HB9.out⟩
end Go.Proofs.YtmmbpbamkiheaaaDoor.Tx
