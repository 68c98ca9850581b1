/- WordsClash: the walk. -/
import Derived.Test.YtmgdbmojfadahaaDoorWp
set_option linter.unusedVariables false
set_option linter.unusedSimpArgs false
namespace Go.Proofs.YtmgdbmojfadahaaDoor.Wd
open Go.RowKit Go.Proofs.YtmgdbmojfadahaaDoorW.PrintWords Go.Proofs.YtmgdbmojfadahaaDoorW.PrintLast Go.Proofs.YtmgdbmojfadahaaDoorW.PrintMore Go.Proofs.YtmgdbmojfadahaaDoor.R
set_option maxHeartbeats 8000000 in
set_option maxRecDepth 1000000 in
theorem wordsClash (d : Int) (A : Option Addr) (c : Nat) (l : List ByteArray) (w : World) (ht : Tab w) (hr : Kd.C Kd.string w A l.length l) (hc : l.length ≤ c) (hw : (Lit.int .i64 d).wf = true) (ho : ∀ x ∈ l, x.size ≤ maxLen) :
    Calls Tryd.prog 5 #[.int .i64 d, .slice A l.length c] w (RetB (.bool true) w) := by
  have HT := Lib.hid ht
  have HR := Lib.hid hr
  clear ht hr hw
  by_cases h5 : l.length ≤ 60
  · go_enter Tryd.func5, Tryd.ntmps5
    go_wp2_with (first | (go_at_call 18; go_must (refine (clash_any d A c l _ HT.out HR.out ho (by omega)).mono ?_)))
    rintro e w1 ⟨r1, rfl, hR, hb⟩
    have HR1 := Lib.hid hR
    have HB1 := Lib.hid hb
    clear hR hb
    go_wp2_with (first | (go_at_call 19; go_must (refine (pantographref04_Clash.calls 5000 d A c l (clash (lst d) l) _ (Kd.C_below HR.out HB1.out) hc (clash_f d l (by omega))).mono ?_)))
    rintro e w2 ⟨r2, rfl, hR, hb⟩
    have HR2 := Lib.hid hR
    have HR1b := Lib.hid (Kd.R_below HR1.out hb)
    have HB2 := Lib.hid (below_weaken HB1.out HB1.out.size hb)
    clear hR hb HR1
    obtain ⟨A1, c1, rfl, hc1, hC1⟩ := Kd.R_reads HR1b.out
    obtain ⟨A2, c2, rfl, hc2, hC2⟩ := Kd.R_reads HR2.out
    have HC1 := Lib.hid hC1
    have HC2 := Lib.hid hC2
    have hcl := clash_len (lst d) l
    clear hC1 hC2
    go_wp2_with (first | (go_at_call 10; go_must (refine (pantographref01_SameTexts.calls 1001 A1 c1 (clash (lst d) l) A2 c2 (clash (lst d) l) true _ HC1.out hc1 HC2.out hc2 (same_f _ (by omega) 1001 (by omega))).mono ?_)))
    rintro e w3 ⟨rfl, hd⟩
    have HB3 := Lib.hid (below_weaken HB2.out HB2.out.size hd.below)
    clear hd
    go_wp2_with (first | (go_at_call 18; go_must (refine (clash_any d none 0 [] _ (tab_below HT.out HB3.out) (Kd.C_nil Kd.string _) (by simp) (by decide)).mono ?_)))
    rintro e w4 ⟨r4, rfl, hR, hb⟩
    have HR4 := Lib.hid hR
    have HB4 := Lib.hid (below_weaken HB3.out HB3.out.size hb)
    clear hR hb
    obtain ⟨A4, c4, rfl, hc4, _⟩ := Kd.R_reads HR4.out
    rw [show (clash (lst d) ([] : List ByteArray)).length = 0 from rfl]
    go_wp2_with (first | (go_at_call 14; go_must (refine (awake _ (tab_below HT.out HB4.out)).mono ?_); rintro e w5 ⟨rfl, hb⟩; have HB5 := Lib.hid (below_weaken HB4.out HB4.out.size hb); clear hb))
    go_ret
    exact ⟨rfl, HB5.out⟩
  · go_enter Tryd.func5, Tryd.ntmps5
    go_wp2_with (first | (go_at_call 14; go_must (refine (awake _ HT.out).mono ?_); rintro e w3 ⟨rfl, hb⟩; have HB3 := Lib.hid hb; clear hb))
    go_ret
    exact ⟨rfl, HB3.out⟩
end Go.Proofs.YtmgdbmojfadahaaDoor.Wd
