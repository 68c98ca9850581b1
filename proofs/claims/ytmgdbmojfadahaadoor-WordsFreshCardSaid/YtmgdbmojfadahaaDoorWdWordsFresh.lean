/- WordsFresh: the walk. -/
import Derived.Test.YtmgdbmojfadahaaDoorWq
set_option linter.unusedVariables false
set_option linter.unusedSimpArgs false
namespace Go.Proofs.YtmgdbmojfadahaaDoor.Wd
open Go.RowKit Go.Proofs.YtmgdbmojfadahaaDoorW.PrintWords Go.Proofs.YtmgdbmojfadahaaDoorW.PrintLast Go.Proofs.YtmgdbmojfadahaaDoorW.PrintMore Go.Proofs.YtmgdbmojfadahaaDoor.R
theorem fresh_ne (s : ByteArray) (taken : List ByteArray) (hb : bad taken s = true) : ¬ (fresh s taken).toList = s.toList := by
  intro e
  have h := tries_free taken s
  rw [show name s (tries taken s) = fresh s taken from rfl, (toList_iff _ _).1 e, hb] at h
  cases h
set_option maxHeartbeats 8000000 in
set_option maxRecDepth 1000000 in
theorem wordsFresh (s : ByteArray) (A : Option Addr) (c : Nat) (l : List ByteArray) (w : World) (ht : Tab w) (hr : Kd.C Kd.string w A l.length l) (hc : l.length ≤ c) (hs : s.size ≤ 140737488351232) (ho : ∀ x ∈ l, x.size ≤ maxLen) :
    Calls Tryd.prog 4 #[.string s, .slice A l.length c] w (RetB (.bool true) w) := by
  have HT := Lib.hid ht
  have HR := Lib.hid hr
  clear ht hr ho
  by_cases h5 : l.length ≤ 60
  · by_cases h6 : s.size ≤ 5000
    · obtain ⟨f0, f1, f2⟩ := fresh_ok s l
      go_enter Tryd.func4, Tryd.ntmps4
      go_wp2_with (first | (go_at_call 15; go_must (refine (fresh_any s A c l _ HT.out HR.out hs (by omega)).mono ?_)))
      rintro e w1 ⟨rfl, hb⟩
      have HB1 := Lib.hid hb
      clear hb
      go_wp2_with (first | (go_at_call 16; go_must (refine (pantographref04_Fresh.calls 5000 s A c l (fresh s l) _ (Kd.C_below HR.out HB1.out) hc (fresh_f s l (by omega) 5000 (by omega))).mono ?_)))
      rintro e w2 ⟨rfl, hb⟩
      have HB2 := Lib.hid (below_weaken HB1.out HB1.out.size hb)
      clear hb HB1
      go_wp2_with (first | (go_at_call 12; go_must (refine (is_any 0 (fresh s l) _ (tab_below HT.out HB2.out)).mono ?_)))
      rintro e w3 ⟨rfl, hb⟩
      rw [f0]
      have HB3 := Lib.hid (below_weaken HB2.out HB2.out.size hb)
      clear hb HB2
      go_wp2_with (first | (go_at_call 12; go_must (refine (is_any 1 (fresh s l) _ (tab_below HT.out HB3.out)).mono ?_)))
      rintro e w4 ⟨rfl, hb⟩
      rw [f1]
      have HB4 := Lib.hid (below_weaken HB3.out HB3.out.size hb)
      clear hb HB3
      go_wp2_with (first | (go_at_call 17; go_must (refine (pantographref04_Among.calls 1001 A c l (fresh s l) false _ (Kd.C_below HR.out HB4.out) hc (by rw [among_f l _ (by omega) 1001 (by omega), f2])).mono ?_)))
      rintro e w5 ⟨rfl, hd⟩
      have HB5 := Lib.hid (below_weaken HB4.out HB4.out.size hd.below)
      clear hd HB4
      cases hbad : bad l s with
      | true =>
        have hne := fresh_ne s l hbad
        have hne2 : ((fresh s l).toList == s.toList) = false := by simpa using hne
        go_wp2_with (first | (go_at_call 12; go_must (refine (is_any 0 s _ (tab_below HT.out HB5.out)).mono ?_)))
        rintro e w6 ⟨rfl, hb⟩
        have HB6 := Lib.hid (below_weaken HB5.out HB5.out.size hb)
        clear hb HB5
        cases hm0 : mem (lst 0) s with
        | true =>
          go_wp2_with (first | (go_at_call 14; go_must (refine (awake _ (tab_below HT.out HB6.out)).mono ?_); rintro e w9 ⟨rfl, hb⟩; have HB9 := Lib.hid (below_weaken HB6.out HB6.out.size hb); clear hb))
          go_ret
          exact ⟨rfl, HB9.out⟩
        | false =>
          go_wp2_with (first | (go_at_call 12; go_must (refine (is_any 1 s _ (tab_below HT.out HB6.out)).mono ?_)))
          rintro e w7 ⟨rfl, hb⟩
          have HB7 := Lib.hid (below_weaken HB6.out HB6.out.size hb)
          clear hb HB6
          cases hm1 : mem (lst 1) s with
          | true =>
            go_wp2_with (first | (go_at_call 14; go_must (refine (awake _ (tab_below HT.out HB7.out)).mono ?_); rintro e w9 ⟨rfl, hb⟩; have HB9 := Lib.hid (below_weaken HB7.out HB7.out.size hb); clear hb))
            go_ret
            exact ⟨rfl, HB9.out⟩
          | false =>
            have hm2 : mem l s = true := by simpa [bad, hm0, hm1] using hbad
            go_wp2_with (first | (go_at_call 17; go_must (refine (pantographref04_Among.calls 1001 A c l s true _ (Kd.C_below HR.out HB7.out) hc (by rw [among_f l _ (by omega) 1001 (by omega), hm2])).mono ?_)))
            rintro e w8 ⟨rfl, hd⟩
            have HB8 := Lib.hid (below_weaken HB7.out HB7.out.size hd.below)
            clear hd HB7
            go_wp2_with (first | (go_at_call 14; go_must (refine (awake _ (tab_below HT.out HB8.out)).mono ?_); rintro e w9 ⟨rfl, hb⟩; have HB9 := Lib.hid (below_weaken HB8.out HB8.out.size hb); clear hb))
            go_ret
            exact ⟨rfl, HB9.out⟩
      | false =>
        have he := fresh_good s l hbad
        have hm0 : mem (lst 0) s = false := he ▸ f0
        have hm1 : mem (lst 1) s = false := he ▸ f1
        have hm2 : mem l s = false := he ▸ f2
        have hne : (fresh s l).toList = s.toList := by rw [he]
        have hne2 : ((fresh s l).toList == s.toList) = true := by simp [hne]
        clear he f0 f1 f2 hbad
        go_wp2_with (first | (go_at_call 12; go_must (refine (is_any 0 s _ (tab_below HT.out HB5.out)).mono ?_)))
        rintro e w6 ⟨rfl, hb⟩
        rw [hm0]
        have HB6 := Lib.hid (below_weaken HB5.out HB5.out.size hb)
        clear hb HB5
        go_wp2_with (first | (go_at_call 12; go_must (refine (is_any 1 s _ (tab_below HT.out HB6.out)).mono ?_)))
        rintro e w7 ⟨rfl, hb⟩
        rw [hm1]
        have HB7 := Lib.hid (below_weaken HB6.out HB6.out.size hb)
        clear hb HB6
        go_wp2_with (first | (go_at_call 17; go_must (refine (pantographref04_Among.calls 1001 A c l s false _ (Kd.C_below HR.out HB7.out) hc (by rw [among_f l _ (by omega) 1001 (by omega), hm2])).mono ?_)))
        rintro e w8 ⟨rfl, hd⟩
        have HB8 := Lib.hid (below_weaken HB7.out HB7.out.size hd.below)
        clear hd HB7
        go_wp2_with (first | (go_at_call 14; go_must (refine (awake _ (tab_below HT.out HB8.out)).mono ?_); rintro e w9 ⟨rfl, hb⟩; have HB9 := Lib.hid (below_weaken HB8.out HB8.out.size hb); clear hb))
        go_ret
        exact ⟨rfl, HB9.out⟩
    · go_enter Tryd.func4, Tryd.ntmps4
      go_wp2_with (first | (go_at_call 14; go_must (refine (awake _ HT.out).mono ?_); rintro e w3 ⟨rfl, hb⟩; have HB3 := Lib.hid hb; clear hb))
      go_ret
      exact ⟨rfl, HB3.out⟩
  · go_enter Tryd.func4, Tryd.ntmps4
    go_wp2_with (first | (go_at_call 14; go_must (refine (awake _ HT.out).mono ?_); rintro e w3 ⟨rfl, hb⟩; have HB3 := Lib.hid hb; clear hb))
    go_ret
    exact ⟨rfl, HB3.out⟩
end Go.Proofs.YtmgdbmojfadahaaDoor.Wd
