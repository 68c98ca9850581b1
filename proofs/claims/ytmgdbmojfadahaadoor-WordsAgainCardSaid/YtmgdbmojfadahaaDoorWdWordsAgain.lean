/- WordsAgain: the walk. -/
import Derived.Test.YtmgdbmojfadahaaDoorWq
set_option linter.unusedVariables false
set_option linter.unusedSimpArgs false
namespace Go.Proofs.YtmgdbmojfadahaaDoor.Wd
open Go.RowKit Go.Proofs.YtmgdbmojfadahaaDoorW.PrintWords Go.Proofs.YtmgdbmojfadahaaDoorW.PrintLast Go.Proofs.YtmgdbmojfadahaaDoorW.PrintMore Go.Proofs.YtmgdbmojfadahaaDoor.R
theorem R_lit0 (W : World) {base : Nat} (h : base ≤ W.heap.size) : Kd.string.R 9 (W.alloc (.cells #[] 9)) base (fun _ => True) (.slice (some ⟨W.heap.size, 0, none⟩) 0 0) [] := by
  have := Kd.R_lower (R_fields W [] (by decide)) h
  exact this
theorem fresh_size (s : ByteArray) (l : List ByteArray) (hl : l.length ≤ 90) : (fresh s l).size ≤ s.size + 100 := by
  unfold fresh
  have := tries_le l s
  cases h : tries l s with
  | zero => show s.size ≤ _; omega
  | succ n =>
    have hb := base_size s
    have hd := decB_small (n + 1) (by omega)
    have hsz : (name s (n + 1)).size = (base s).size + 1 + (decB (n + 1)).size := by
      show ((base s ++ ⟨#[95]⟩) ++ decB (n + 1)).size = _
      rw [ByteArray.size_append, ByteArray.size_append]
      rfl
    omega
theorem fresh_again (s : ByteArray) (l : List ByteArray) : fresh (fresh s l) l = fresh s l := fresh_good _ _ (tries_free l s)
theorem fresh_other (s : ByteArray) (l : List ByteArray) : ¬ (fresh s (l ++ [fresh s l])).toList = (fresh s l).toList := by
  intro e
  have h := (fresh_ok s (l ++ [fresh s l])).2.2
  rw [(toList_iff _ _).1 e] at h
  have : mem (l ++ [fresh s l]) (fresh s l) = true := (mem_iff _ _).2 (by simp)
  rw [this] at h
  cases h
set_option maxHeartbeats 8000000 in
set_option maxRecDepth 1000000 in
theorem wordsAgain (s : ByteArray) (A : Option Addr) (c : Nat) (l : List ByteArray) (w : World) (ht : Tab w) (hr : Kd.C Kd.string w A l.length l) (hc : l.length ≤ c) (hs : s.size ≤ 140737488351232) (ho : ∀ x ∈ l, x.size ≤ maxLen) :
    Calls Tryd.prog 6 #[.string s, .slice A l.length c] w (RetB (.bool true) w) := by
  have HT := Lib.hid ht
  have HR := Lib.hid hr
  clear ht hr ho
  by_cases h5 : l.length ≤ 60
  · by_cases h6 : s.size ≤ 5000
    · have hfs := fresh_size s l (by omega)
      have hfa := Lib.hid (fresh_again s l)
      have hne := fresh_other s l
      have hne2 : ((fresh s (l ++ [fresh s l])).toList == (fresh s l).toList) = false := by simpa using hne
      have hok := Lib.hid (fresh_ok s (l ++ [fresh s l])).2.2
      have hll : (l ++ [fresh s l]).length = l.length + 1 := by simp
      generalize hL : l ++ [fresh s l] = L at *
      have HLL := Lib.hid hll
      have HL := Lib.hid hL
      clear hll hL
      go_enter Tryd.func6, Tryd.ntmps6
      go_wp2_with (first | (go_at_call 15; go_must (refine (fresh_any s A c l _ HT.out HR.out hs (by omega)).mono ?_)))
      rintro e w1 ⟨rfl, hb⟩
      have HB1 := Lib.hid hb
      clear hb
      go_wp2_with (first
        | ((with_reducible refine gate_builtin (b := .append) (xs := #[.tmp 20, .tmp 21]) rfl ?_); at_builtin; go_must (refine Kd.R_append_rows Kd.string w.heap.size rfl (.tmp 20) (.tmp 21) 22 9 (.string ⟨#[]⟩) 16 rfl Tryd.underlying22 infoStr rfl (by decide) (by omega) (.slice (some ⟨w1.heap.size, 0, none⟩) 0 0) [] l A l.length c (fun _ => True) (fun _ => False) rfl rfl ?aO ?aR (fun _ _ h => h) (fun _ h => h.elim) (fun _ _ => trivial) (below_alloc HB1.out _) ?aS ?aL ?_; (case aO => exact R_lit0 w1 HB1.out.size); (case aR => exact Kd.C_below HR.out (below_alloc HB1.out _)); (case aS => exact le_alloc _ _ HB1.out.size); (case aL => show (0 + l.length) * 16 ≤ _; omega)); intro v2 w2 hR hb hg hat; have HO2 := Lib.hid (show Kd.string.R 9 w2 w.heap.size (fun _ => True) v2 l from hR); have HB2 := Lib.hid hb; clear hR hb hg hat)
        | ((with_reducible refine gate_builtin (b := .append) (xs := #[.tmp 22, .tmp 24]) rfl ?_); at_builtin; go_must (refine Kd.R_append Kd.string w.heap.size rfl (.tmp 22) (.tmp 24) 22 9 (.string ⟨#[]⟩) 16 rfl Tryd.underlying22 infoStr rfl (by decide) (by omega) v2 l (fresh s l) [.string (fresh s l)] (fun _ => True) (fun _ => False) rfl rfl ?aP (fun _ hk => hk.elim) (fun _ _ => trivial) HO2.out HB2.out HB2.out.size ?aL ?_; (case aP => exact rfl); (case aL => omega)); intro v3 w3 hR hb hg hat; rw [HL.out] at hR; have HO3 := Lib.hid hR; have HB3 := Lib.hid hb; clear hR hb hg hat))
      obtain ⟨A3, c3, rfl, hc3, hC⟩ := Kd.R_reads HO3.out
      have HC3 := Lib.hid hC
      clear hC HO2 HB2
      go_wp2_with (first | (go_at_call 15; go_must (refine (fresh_any s A3 c3 L _ (tab_below HT.out HB3.out) HC3.out hs (by have := HLL.out; omega)).mono ?_)))
      rintro e w4 ⟨rfl, hb⟩
      have HB4 := Lib.hid (below_weaken HB3.out HB3.out.size hb)
      have HC4 := Lib.hid (Kd.C_below HC3.out hb)
      clear hb HC3 HB3
      go_wp2_with (first | (go_at_call 15; go_must (refine (fresh_any (fresh s l) A c l _ (tab_below HT.out HB4.out) (Kd.C_below HR.out HB4.out) (by omega) (by omega)).mono ?_)))
      rintro e w5 ⟨rfl, hb⟩
      rw [hfa.out]
      have HB5 := Lib.hid (below_weaken HB4.out HB4.out.size hb)
      have HC5 := Lib.hid (Kd.C_below HC4.out hb)
      clear hb HC4 HB4
      go_wp2_with (first | (go_at_call 17; go_must (refine (pantographref04_Among.calls 1001 A3 c3 L (fresh s L) false _ HC5.out hc3 (by rw [among_f _ _ (by have := HLL.out; omega) 1001 (by have := HLL.out; omega), hok.out])).mono ?_)))
      rintro e w6 ⟨rfl, hd⟩
      have HB6 := Lib.hid (below_weaken HB5.out HB5.out.size hd.below)
      clear hd HB5
      go_wp2_with (first | (go_at_call 14; go_must (refine (awake _ (tab_below HT.out HB6.out)).mono ?_); rintro e w9 ⟨rfl, hb⟩; have HB9 := Lib.hid (below_weaken HB6.out HB6.out.size hb); clear hb))
      go_ret
      exact ⟨rfl, HB9.out⟩
    · go_enter Tryd.func6, Tryd.ntmps6
      go_wp2_with (first | (go_at_call 14; go_must (refine (awake _ HT.out).mono ?_); rintro e w3 ⟨rfl, hb⟩; have HB3 := Lib.hid hb; clear hb))
      go_ret
      exact ⟨rfl, HB3.out⟩
  · go_enter Tryd.func6, Tryd.ntmps6
    go_wp2_with (first | (go_at_call 14; go_must (refine (awake _ HT.out).mono ?_); rintro e w3 ⟨rfl, hb⟩; have HB3 := Lib.hid hb; clear hb))
    go_ret
    exact ⟨rfl, HB3.out⟩
end Go.Proofs.YtmgdbmojfadahaaDoor.Wd
