/- WordsNames: the walk. -/
import Derived.Test.YtmgdbmojfadahaaDoorWa
set_option linter.unusedVariables false
set_option linter.unusedSimpArgs false
namespace Go.Proofs.YtmgdbmojfadahaaDoor.Wd
open Go.RowKit Go.Proofs.YtmgdbmojfadahaaDoorW.PrintWords Go.Proofs.YtmgdbmojfadahaaDoorW.PrintLast Go.Proofs.YtmgdbmojfadahaaDoorW.PrintMore Go.Proofs.YtmgdbmojfadahaaDoor.R
theorem letter_some (a : Int) (b : Bool) : ∃ r, words_letter.f a b = some r := by
  unfold words_letter.f
  repeat' split
  all_goals exact ⟨_, rfl⟩
theorem letter_same (a : Int) (b : Bool) : pantographref04_Letter.f a b = words_letter.f a b := rfl
theorem check_loop (s : ByteArray) (hs : s.size ≤ 5000) : ∀ (k i : Nat), i ≤ s.size → s.size - i < k →
    ∃ r, words_Check.l0 k s (s.size : Int) (i : Int) = some r ∧ (s.toList ≠ [] → pantographref04_Check.l0 k s (i : Int) = some r) ∧ (s.toList = [] → r = 11) := by
  intro k
  induction k with
  | zero => intro i _ h; omega
  | succ k ih =>
    intro i hi hk
    have hw : wrap64 ((i : Int) + 1) = ((i + 1 : Nat) : Int) := by
      unfold wrap64; omega
    unfold words_Check.l0 pantographref04_Check.l0
    by_cases hlt : (i : Int) < (s.size : Int)
    · rw [if_pos hlt, if_pos (by omega), if_pos hlt, if_pos hlt, if_pos (by omega)]
      obtain ⟨r0, hr0⟩ := letter_some (bt s i) ((i : Int) == 0)
      rw [letter_same, hr0]
      simp only [Option.bind_some]
      have hne : s.toList ≠ [] := by
        rw [ByteArray.toList_eq]
        intro e
        have : s.size = 0 := by rw [← data_length, e]; rfl
        omega
      cases r0 with
      | true =>
        rw [if_pos rfl, if_pos rfl, hw]
        exact ih (i + 1) (by omega) (by omega)
      | false =>
        rw [if_neg (by simp), if_neg (by simp)]
        exact ⟨11, rfl, fun _ => rfl, fun e => absurd e hne⟩
    · rw [if_neg hlt, if_neg hlt]
      by_cases he : s.toList = []
      · rw [if_pos he]
        exact ⟨11, rfl, fun h => absurd he h, fun _ => rfl⟩
      · rw [if_neg he]
        split
        · exact ⟨3, rfl, fun _ => rfl, fun e => absurd e he⟩
        · exact ⟨0, rfl, fun _ => rfl, fun e => absurd e he⟩
theorem check_same (s : ByteArray) (hs : s.size ≤ 5000) : ∃ r, words_Check.f 5001 s = some r ∧ pantographref04_Check.f 5001 s = some r := by
  obtain ⟨r, h1, h2, h3⟩ := check_loop s hs 5001 0 (Nat.zero_le _) (by omega)
  refine ⟨r, h1, ?_⟩
  unfold pantographref04_Check.f
  by_cases he : s.toList = []
  · rw [if_pos he, h3 he]
  · rw [if_neg he]; exact h2 he
set_option maxHeartbeats 8000000 in
set_option maxRecDepth 1000000 in
theorem wordsNames (s : ByteArray) (w : World) (ht : Tab w) (hs : s.size ≤ 140737488351232) : Calls Tryd.prog 7 #[.string s] w (RetB (.bool true) w) := by
  have HT := Lib.hid ht
  clear ht
  by_cases h5 : s.size ≤ 5000
  · obtain ⟨r, h1, h2⟩ := check_same s h5
    have H1 := Lib.hid h1
    have H2 := Lib.hid h2
    clear h1 h2
    go_enter Tryd.func7, Tryd.ntmps7
    go_wp2_with (first | (go_at_call 20; go_must (refine (words_Check.calls 5001 s r _ H1.out).mono ?_)))
    rintro e w1 ⟨rfl, hd⟩
    have HB1 := Lib.hid hd.below
    clear hd
    go_wp2_with (first | (go_at_call 21; go_must (refine (pantographref04_Check.calls 5001 s r _ H2.out).mono ?_)))
    rintro e w2 ⟨rfl, hd⟩
    have HB2 := Lib.hid (below_weaken HB1.out HB1.out.size hd.below)
    clear hd HB1
    go_wp2_with (first | (go_at_call 14; go_must (refine (awake _ (tab_below HT.out HB2.out)).mono ?_); rintro e w3 ⟨rfl, hb⟩; have HB3 := Lib.hid (below_weaken HB2.out HB2.out.size hb); clear hb))
    go_ret
    exact ⟨rfl, HB3.out⟩
  · go_enter Tryd.func7, Tryd.ntmps7
    go_wp2
    go_ret
    exact ⟨rfl, Below.refl _ _⟩
end Go.Proofs.YtmgdbmojfadahaaDoor.Wd
