/- WordsFreshNames: the walk. -/
import Derived.Test.YtmgdbmojfadahaaDoorWq
set_option linter.unusedVariables false
set_option linter.unusedSimpArgs false
namespace Go.Proofs.YtmgdbmojfadahaaDoor.Wd
open Go.RowKit Go.Proofs.YtmgdbmojfadahaaDoorW.PrintWords Go.Proofs.YtmgdbmojfadahaaDoorW.PrintLast Go.Proofs.YtmgdbmojfadahaaDoorW.PrintMore Go.Proofs.YtmgdbmojfadahaaDoor.R
theorem letter_some2 (a : Int) (b : Bool) : ∃ r, words_letter.f a b = some r := by
  unfold words_letter.f
  repeat' split
  all_goals exact ⟨_, rfl⟩
/-- May the bytes from one place on stand in a name? -/
def NameFrom (s : ByteArray) (i : Nat) : Prop := ∀ j, i ≤ j → j < s.size → words_letter.f (bt s j) (((j : Nat) : Int) == 0) = some true
theorem check_any (s : ByteArray) (hs : s.size ≤ 140737488351232) : ∀ (k i : Nat), i ≤ s.size → s.size - i < k →
    ∃ r, words_Check.l0 k s (s.size : Int) (i : Int) = some r ∧ (r = 0 ↔ NameFrom s i ∧ 0 < s.size ∧ s.size ≤ 32) := by
  intro k
  induction k with
  | zero => intro i _ h; omega
  | succ k ih =>
    intro i hi hk
    have hw : wrap64 ((i : Int) + 1) = ((i + 1 : Nat) : Int) := by
      unfold wrap64; omega
    unfold words_Check.l0
    by_cases hlt : (i : Int) < (s.size : Int)
    · rw [if_pos hlt, if_pos (by omega), if_pos hlt]
      obtain ⟨r0, hr0⟩ := letter_some2 (bt s i) ((i : Int) == 0)
      rw [hr0]
      simp only [Option.bind_some]
      cases r0 with
      | true =>
        rw [if_pos rfl, hw]
        obtain ⟨r, h1, h2⟩ := ih (i + 1) (by omega) (by omega)
        refine ⟨r, h1, h2.trans ⟨fun h => ⟨?_, h.2⟩, fun h => ⟨?_, h.2⟩⟩⟩
        · intro j hj hjs
          rcases Nat.lt_or_ge i j with h' | h'
          · exact h.1 j h' hjs
          · obtain rfl : j = i := by omega
            exact hr0
        · intro j hj hjs
          exact h.1 j (by omega) hjs
      | false =>
        rw [if_neg (by simp)]
        refine ⟨11, rfl, ⟨fun h => by omega, fun h => ?_⟩⟩
        have := h.1 i (Nat.le_refl _) (by omega)
        rw [hr0] at this
        cases this
    · rw [if_neg hlt]
      have hnf : NameFrom s i := fun j h1 h2 => by omega
      by_cases he : s.toList = []
      · rw [if_pos he]
        have : s.size = 0 := by rw [← data_length, ← ByteArray.toList_eq, he]; rfl
        exact ⟨11, rfl, ⟨fun h => by omega, fun h => by omega⟩⟩
      · rw [if_neg he]
        have hpos : 0 < s.size := by
          rcases Nat.eq_zero_or_pos s.size with h | h
          · exfalso
            apply he
            rw [ByteArray.toList_eq]
            exact List.eq_nil_of_length_eq_zero (by rw [data_length, h])
          · exact h
        split
        · exact ⟨3, rfl, ⟨fun h => by omega, fun h => by omega⟩⟩
        · exact ⟨0, rfl, ⟨fun _ => ⟨hnf, hpos, by omega⟩, fun _ => rfl⟩⟩
theorem bt_get (s : ByteArray) (j : Nat) : bt s j = ((s.data.toList[j]?).map fun b => (b.toNat : Int)).getD 0 := by
  unfold bt
  rw [Int.toNat_natCast]
  by_cases h : j < s.size
  · rw [dif_pos h, List.getElem?_eq_getElem (by rw [data_length]; exact h)]
    rfl
  · rw [dif_neg h, List.getElem?_eq_none (by rw [data_length]; omega)]
    rfl
theorem bt_app (a b : ByteArray) (j : Nat) : bt (a ++ b) j = if j < a.size then bt a j else bt b ((j - a.size : Nat) : Int) := by
  have hd : (a ++ b).data.toList = a.data.toList ++ b.data.toList := by simp
  split
  · rename_i h
    rw [bt_get, bt_get, hd, List.getElem?_append_left (by rw [data_length]; exact h)]
  · rename_i h
    rw [bt_get, bt_get, hd, List.getElem?_append_right (by rw [data_length]; omega), data_length]
theorem dec_digit (n : Nat) : ∀ b ∈ Lib.decDigits n, 48 ≤ b.toNat ∧ b.toNat ≤ 57 := by
  induction n using Nat.strongRecOn with
  | _ n ih =>
    rw [Lib.decDigits]
    by_cases h : n < 10
    · rw [dif_pos h]
      intro b hb
      rw [List.mem_singleton] at hb
      subst hb
      rw [UInt8.toNat_ofNat']; omega
    · rw [dif_neg h]
      intro b hb
      rcases List.mem_append.1 hb with hb | hb
      · exact ih (n / 10) (by omega) b hb
      · rw [List.mem_singleton] at hb
        subst hb
        rw [UInt8.toNat_ofNat']; omega
theorem bt_dec (n k : Nat) (h : k < (decB n).size) : 48 ≤ bt (decB n) k ∧ bt (decB n) k ≤ 57 := by
  have hl : k < (Lib.decDigits n).length := by
    have : (decB n).size = (Lib.decDigits n).length := by simp [decB, ByteArray.size]
    omega
  have := dec_digit n _ (List.getElem_mem hl)
  rw [bt_get, show (decB n).data.toList = Lib.decDigits n from by simp [decB], List.getElem?_eq_getElem hl]
  show 48 ≤ ((Lib.decDigits n)[k].toNat : Int) ∧ ((Lib.decDigits n)[k].toNat : Int) ≤ 57
  omega
theorem letter_digit (a : Int) (h1 : 48 ≤ a) (h2 : a ≤ 57) : words_letter.f a false = some true := by
  unfold words_letter.f
  rw [if_neg (by omega), if_neg (by simp), if_neg (by omega), if_pos (by omega), decide_eq_true h2]
theorem name_ok (s : ByteArray) (h : NameFrom s 0 ∧ 0 < s.size ∧ s.size ≤ 32) (n : Nat) (hn : n < 100) : NameFrom (name s n) 0 ∧ 0 < (name s n).size ∧ (name s n).size ≤ 32 := by
  cases n with
  | zero => exact h
  | succ n =>
    have hb := base_size s
    have hd := decB_small (n + 1) hn
    have hb1 : (base s).size = min s.size 24 := by unfold base; rw [ByteArray.size_extract]; omega
    have hsz : (name s (n + 1)).size = (base s).size + 1 + (decB (n + 1)).size := by
      show ((base s ++ ⟨#[95]⟩) ++ decB (n + 1)).size = _
      rw [ByteArray.size_append, ByteArray.size_append]
      rfl
    refine ⟨?_, by omega, by omega⟩
    intro j _ hj
    show words_letter.f (bt ((base s ++ ⟨#[95]⟩) ++ decB (n + 1)) j) _ = _
    have h1 : (base s ++ (⟨#[95]⟩ : ByteArray)).size = (base s).size + 1 := by rw [ByteArray.size_append]; rfl
    rw [bt_app, h1]
    by_cases c1 : j < (base s).size + 1
    · rw [if_pos c1, bt_app]
      by_cases c2 : j < (base s).size
      · rw [if_pos c2]
        have : bt (base s) j = bt s j := by
          rw [bt_get, bt_get]
          congr 2
          unfold base
          rw [ByteArray.data_extract, Array.toList_extract, List.extract_eq_take_drop, List.drop_zero, List.getElem?_take]
          rw [if_pos (by omega)]
        rw [this]
        exact h.1 j (Nat.zero_le _) (by omega)
      · have hj0 : ((j : Int) == 0) = false := by
          have : ¬ (j : Int) = 0 := by omega
          simpa using this
        rw [if_neg c2, hj0, show j - (base s).size = 0 by omega]
        rfl
    · have hj0 : ((j : Int) == 0) = false := by
          have : ¬ (j : Int) = 0 := by omega
          simpa using this
      rw [if_neg c1, hj0]
      have := bt_dec (n + 1) (j - ((base s).size + 1)) (by omega)
      exact letter_digit _ this.1 this.2
set_option maxHeartbeats 8000000 in
set_option maxRecDepth 1000000 in
theorem wordsFreshNames (s : ByteArray) (A : Option Addr) (c : Nat) (l : List ByteArray) (w : World) (ht : Tab w) (hr : Kd.C Kd.string w A l.length l) (hc : l.length ≤ c) (hs : s.size ≤ 140737488351232) (ho : ∀ x ∈ l, x.size ≤ maxLen) :
    Calls Tryd.prog 8 #[.string s, .slice A l.length c] w (RetB (.bool true) w) := by
  have HT := Lib.hid ht
  have HR := Lib.hid hr
  clear ht hr ho
  by_cases h5 : l.length ≤ 60
  · obtain ⟨r, hc1, hr1⟩ := check_any s hs (s.size + 1) 0 (Nat.zero_le _) (by omega)
    have hc1' : words_Check.f (s.size + 1) s = some r := hc1
    go_enter Tryd.func8, Tryd.ntmps8
    go_wp2_with (first | (go_at_call 20; go_must (refine (words_Check.calls (s.size + 1) s r _ hc1').mono ?_)))
    rintro e w1 ⟨rfl, hd⟩
    have HB1 := Lib.hid hd.below
    clear hd
    by_cases h0 : r = 0
    · have hn := hr1.1 h0
      subst h0
      have hok : NameFrom (fresh s l) 0 ∧ 0 < (fresh s l).size ∧ (fresh s l).size ≤ 32 := name_ok s hn _ (by have := tries_le l s; omega)
      obtain ⟨r2, hc2, hr2⟩ := check_any (fresh s l) (by omega) ((fresh s l).size + 1) 0 (Nat.zero_le _) (by omega)
      obtain rfl := hr2.2 hok
      have hc2' : words_Check.f ((fresh s l).size + 1) (fresh s l) = some 0 := hc2
      have HC2 := Lib.hid hc2'
      clear hc1 hc1' hr1 hr2 hc2 hc2' hn hok
      go_wp2_with (first | (go_at_call 15; go_must (refine (fresh_any s A c l _ (tab_below HT.out HB1.out) (Kd.C_below HR.out HB1.out) hs (by omega)).mono ?_)))
      rintro e w2 ⟨rfl, hb⟩
      have HB2 := Lib.hid (below_weaken HB1.out HB1.out.size hb)
      clear hb HB1
      go_wp2_with (first | (go_at_call 20; go_must (refine (words_Check.calls ((fresh s l).size + 1) (fresh s l) 0 _ HC2.out).mono ?_)))
      rintro e w3 ⟨rfl, hd⟩
      have HB3 := Lib.hid (below_weaken HB2.out HB2.out.size hd.below)
      clear hd HB2
      go_wp2_with (first | (go_at_call 14; go_must (refine (awake _ (tab_below HT.out HB3.out)).mono ?_); rintro e w9 ⟨rfl, hb⟩; have HB9 := Lib.hid (below_weaken HB3.out HB3.out.size hb); clear hb))
      go_ret
      exact ⟨rfl, HB9.out⟩
    · have h0' : (r == 0) = false := by simpa using h0
      have h0'' : (r != 0) = true := by simpa using h0
      clear hc1 hc1' hr1
      go_wp2_with (first | (go_at_call 14; go_must (refine (awake _ (tab_below HT.out HB1.out)).mono ?_); rintro e w9 ⟨rfl, hb⟩; have HB9 := Lib.hid (below_weaken HB1.out HB1.out.size hb); clear hb))
      go_ret
      exact ⟨rfl, HB9.out⟩
  · go_enter Tryd.func8, Tryd.ntmps8
    go_wp2_with (first | (go_at_call 14; go_must (refine (awake _ HT.out).mono ?_); rintro e w3 ⟨rfl, hb⟩; have HB3 := Lib.hid hb; clear hb))
    go_ret
    exact ⟨rfl, HB3.out⟩
end Go.Proofs.YtmgdbmojfadahaaDoor.Wd
