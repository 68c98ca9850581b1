/- slices.Contains, words.Fresh. -/
import Derived.Test.YtmgdbmojfadahaaDoorWn
set_option linter.unusedVariables false
set_option linter.unusedSimpArgs false
namespace Go.Proofs.YtmgdbmojfadahaaDoor.Wd
open Go.RowKit Go.Proofs.YtmgdbmojfadahaaDoorW.PrintWords Go.Proofs.YtmgdbmojfadahaaDoorW.PrintLast Go.Proofs.YtmgdbmojfadahaaDoorW.PrintMore Go.Proofs.YtmgdbmojfadahaaDoor.R
attribute [local go_sem] max2_int min2_int max_two min_two
theorem at_s {W : World} {A : Option Addr} {l : List ByteArray} (h : Kd.C Kd.string W A l.length l) (k : Nat) (hk : k < l.length) : ∃ ad, A = some ad ∧ W.cell? (ad.add k) = some (.string l[k]) := by
  obtain ⟨ad, hA, hc⟩ := Kd.at_string h (k : Int) (by omega) (by omega)
  refine ⟨ad, hA, ?_⟩
  rw [show ((k : Int)).toNat = k from by omega] at hc
  rw [hc]
  rw [show rdOf ByteArray.empty l (k : Int) = l.getD (k : Int).toNat ByteArray.empty from rfl]
  simp [hk]
def IxRel (l : List ByteArray) (x : ByteArray) (i : Value) : Prop := ∃ k : Nat, k ≤ l.length ∧ i = .int .i64 k ∧ mem l x = mem (l.drop k) x
theorem mem_drop (l : List ByteArray) (x : ByteArray) (k : Nat) (hk : k < l.length) : mem (l.drop k) x = (decide (l[k] = x) || mem (l.drop (k + 1)) x) := by
  rw [List.drop_eq_getElem_cons hk]; rfl
set_option maxHeartbeats 4000000 in
set_option maxRecDepth 100000 in
theorem index_any (A : Option Addr) (c : Nat) (l : List ByteArray) (x : ByteArray) (w : World) (hr : Kd.C Kd.string w A l.length l) :
    Calls Tryd.prog 33 #[.slice A l.length c, .string x] w fun e w' => ∃ i : Int, e = .returned (.int .i64 i) ∧ decide (0 ≤ i) = mem l x ∧ w = w' := by
  have hlm := hr.2.1
  have HR := Lib.hid hr
  clear hr
  go_enter Tryd.func33, Tryd.ntmps33
  go_wp2
  go_loop [8] (fun i => IxRel l x i) (fun i => l.length - (intOf i).toNat)
  case atStart => exact ⟨0, Nat.zero_le _, rfl, rfl⟩
  case round =>
    obtain ⟨k, hk, rfl, hm⟩ := hrel
    have HM := Lib.hid hm
    clear hm
    by_cases hlt : k < l.length
    · obtain ⟨ad, rfl, hcell⟩ := at_s HR.out k hlt
      have HD := Lib.hid (mem_drop l x k hlt)
      by_cases hx : x = l[k]
      · have h1 : (x.toList == l[k].toList) = true := by rw [← hx]; simp
        have h1b : x.toList = l[k].toList := by rw [← hx]
        have HX := Lib.hid hx
        clear hx
        go_wp2
        go_ret
        refine ⟨k, rfl, ?_, rfl⟩
        rw [HM.out, HD.out, decide_eq_true HX.out.symm]
        simp
      · have h1b : ¬ x.toList = l[k].toList := fun e => hx (by
          apply ByteArray.ext
          rw [ByteArray.toList_eq, ByteArray.toList_eq] at e
          exact Array.toList_inj.1 e)
        have h1 : (x.toList == l[k].toList) = false := by simpa using h1b
        have HX := Lib.hid hx
        clear hx
        go_wp2
        go_round
        · exact ⟨k + 1, by omega, by simp, by rw [HM.out, HD.out, decide_eq_false (fun e => HX.out e.symm)]; rfl⟩
        · simp only [intOf]; omega
    · obtain rfl : k = l.length := by omega
      go_wp2
      go_ret
      refine ⟨-1, rfl, ?_, rfl⟩
      rw [HM.out, List.drop_length]
      rfl
theorem contains_any (A : Option Addr) (c : Nat) (l : List ByteArray) (x : ByteArray) (w : World) (hr : Kd.C Kd.string w A l.length l) :
    Calls Tryd.prog 24 #[.slice A l.length c, .string x] w fun e w' => e = .returned (.bool (mem l x)) ∧ w = w' := by
  go_enter Tryd.func24, Tryd.ntmps24
  go_wp2_with (first | (go_at_call 33; go_must (refine (index_any A c l x _ hr).mono ?_)))
  rintro e w1 ⟨i, rfl, hi, rfl⟩
  have HI := Lib.hid hi
  clear hi
  go_wp2
  go_ret
  exact ⟨by rw [← HI.out]; rfl, rfl⟩

/-! ### Fresh -/
theorem base_size (s : ByteArray) : (base s).size ≤ 24 := by unfold base; rw [ByteArray.size_extract]; omega
theorem decB_small (n : Nat) (h : n < 100) : (decB n).size ≤ 2 := by
  show (Lib.decDigits n).toArray.size ≤ 2
  rw [List.size_toArray]
  by_cases h1 : n < 10
  · rw [Lib.decDigits_one h1]; exact Nat.le_succ 1
  · rw [Lib.decDigits_two h1 h]; exact Nat.le_refl 2
def FRel (w : World) (s : ByteArray) (taken : List ByteArray) (nm n : Value) (wr : World) : Prop :=
  ∃ k : Nat, k ≤ tries taken s ∧ n = .int .i64 ((k : Int) + 1) ∧ nm = .string (name s k) ∧ Below w.heap.size w wr
set_option maxHeartbeats 8000000 in
set_option maxRecDepth 1000000 in
theorem fresh_any (s : ByteArray) (A : Option Addr) (c : Nat) (taken : List ByteArray) (w : World) (ht : Tab w) (hr : Kd.C Kd.string w A taken.length taken) (hs : s.size ≤ 140737488351232) (hl : taken.length ≤ 70) :
    Calls Tryd.prog 15 #[.string s, .slice A taken.length c] w fun e w' => e = .returned (.string (fresh s taken)) ∧ Below w.heap.size w w' := by
  have HR := Lib.hid hr
  have HT := Lib.hid ht
  have hle := tries_le taken s
  clear hr ht
  go_enter Tryd.func15, Tryd.ntmps15
  go_wp2
  go_loopw [5, 6] (fun nm n wr => FRel w s taken nm n wr) (fun _ n _ => 100 - (intOf n).toNat)
  case atStart => exact ⟨0, Nat.zero_le _, rfl, rfl, Below.refl _ _⟩
  case round =>
    obtain ⟨k, hk, rfl, rfl, hb⟩ := hrel
    have HB := Lib.hid hb
    clear hb
    by_cases hkt : k < tries taken s
    · have hbad := tries_bad taken s k hkt
      have hdec := decB_small (k + 1) (by omega)
      have HI : Hid (∀ W : World, Calls Tryd.prog 25 #[.int .i64 ((k : Int) + 1)] W fun e w' => e = .returned (.string (decB (k + 1))) ∧ w' = W) := Lib.hid (by
        intro W
        have := Tryd.strconv_Itoa_small (k + 1) (by omega) W
        rw [show (((k + 1 : Nat) : Int)) = (k : Int) + 1 from by omega] at this
        exact this)
      go_wp2_with (first | (go_at_call 12; go_must (refine (is_any 0 (name s k) _ (tab_below HT.out HB.out)).mono ?_)))
      rintro e w1 ⟨rfl, hb⟩
      have HB1 := Lib.hid (below_weaken HB.out HB.out.size hb)
      clear hb HB
      cases h0 : mem (lst 0) (name s k) with
      | true =>
        clear hbad
        by_cases h24 : (24 : Int) < (s.size : Int)
        · have h24e := eq_true h24
          have h24f : (24 : Int) ≤ (s.size : Int) := by omega
          have h24g := eq_true h24f
          have hx1 : (s.extract 0 24).size = 24 := by rw [ByteArray.size_extract]; omega
          have hx2 : (9223372036854775807 < 24 + 1 + (decB (k + 1)).size) = False := eq_false (by omega)
          have hbs : base s = s.extract 0 24 := by unfold base; rw [show min s.size 24 = 24 from by omega]
          go_wp2
          go_quiet ((go_at_call 25; exact Calls.quiet_of_same (HI.out _)))
          go_wp2
          go_round
          · exact ⟨k + 1, by omega, by simp, by show Value.string _ = Value.string (base s ++ ⟨#[95]⟩ ++ decB (k + 1)); rw [hbs], pw_below_drewN HB1.out _⟩
          · simp only [intOf]; omega
        · have h24e := eq_false h24
          have hsz2 : s.size ≤ 24 := by omega
          have hx1 : (s.extract 0 s.size).size = s.size := by rw [ByteArray.size_extract]; omega
          have hx2 : (9223372036854775807 < s.size + 1 + (decB (k + 1)).size) = False := eq_false (by omega)
          have hx3 : (9223372036854775807 < s.size + 1) = False := eq_false (by omega)
          have hbs : base s = s := by
            unfold base
            rw [show min s.size 24 = s.size from by omega]
            exact ByteArray.extract_zero_size
          go_wp2
          go_quiet ((go_at_call 25; exact Calls.quiet_of_same (HI.out _)))
          go_wp2
          go_round
          · exact ⟨k + 1, by omega, by simp, by show Value.string _ = Value.string (base s ++ ⟨#[95]⟩ ++ decB (k + 1)); rw [hbs], pw_below_drewN HB1.out _⟩
          · simp only [intOf]; omega
      | false =>
        go_wp2_with (first | (go_at_call 12; go_must (refine (is_any 1 (name s k) _ (tab_below HT.out HB1.out)).mono ?_)))
        rintro e w2 ⟨rfl, hb⟩
        have HB2 := Lib.hid (below_weaken HB1.out HB1.out.size hb)
        clear hb HB1
        cases h1 : mem (lst 1) (name s k) with
        | true =>
          clear hbad
          by_cases h24 : (24 : Int) < (s.size : Int)
          · have h24e := eq_true h24
            have h24f : (24 : Int) ≤ (s.size : Int) := by omega
            have h24g := eq_true h24f
            have hx1 : (s.extract 0 24).size = 24 := by rw [ByteArray.size_extract]; omega
            have hx2 : (9223372036854775807 < 24 + 1 + (decB (k + 1)).size) = False := eq_false (by omega)
            have hbs : base s = s.extract 0 24 := by unfold base; rw [show min s.size 24 = 24 from by omega]
            go_wp2
            go_quiet ((go_at_call 25; exact Calls.quiet_of_same (HI.out _)))
            go_wp2
            go_round
            · exact ⟨k + 1, by omega, by simp, by show Value.string _ = Value.string (base s ++ ⟨#[95]⟩ ++ decB (k + 1)); rw [hbs], pw_below_drewN HB2.out _⟩
            · simp only [intOf]; omega
          · have h24e := eq_false h24
            have hsz2 : s.size ≤ 24 := by omega
            have hx1 : (s.extract 0 s.size).size = s.size := by rw [ByteArray.size_extract]; omega
            have hx2 : (9223372036854775807 < s.size + 1 + (decB (k + 1)).size) = False := eq_false (by omega)
            have hx3 : (9223372036854775807 < s.size + 1) = False := eq_false (by omega)
            have hbs : base s = s := by
              unfold base
              rw [show min s.size 24 = s.size from by omega]
              exact ByteArray.extract_zero_size
            go_wp2
            go_quiet ((go_at_call 25; exact Calls.quiet_of_same (HI.out _)))
            go_wp2
            go_round
            · exact ⟨k + 1, by omega, by simp, by show Value.string _ = Value.string (base s ++ ⟨#[95]⟩ ++ decB (k + 1)); rw [hbs], pw_below_drewN HB2.out _⟩
            · simp only [intOf]; omega
        | false =>
          have hmt : mem taken (name s k) = true := by simpa [bad, h0, h1] using hbad
          clear hbad
          go_wp2_with (first | (go_at_call 24; go_must (refine (contains_any A c taken (name s k) _ (Kd.C_below HR.out HB2.out)).mono ?_)))
          rintro e w3 ⟨rfl, rfl⟩
          rw [hmt]
          by_cases h24 : (24 : Int) < (s.size : Int)
          · have h24e := eq_true h24
            have h24f : (24 : Int) ≤ (s.size : Int) := by omega
            have h24g := eq_true h24f
            have hx1 : (s.extract 0 24).size = 24 := by rw [ByteArray.size_extract]; omega
            have hx2 : (9223372036854775807 < 24 + 1 + (decB (k + 1)).size) = False := eq_false (by omega)
            have hbs : base s = s.extract 0 24 := by unfold base; rw [show min s.size 24 = 24 from by omega]
            go_wp2
            go_quiet ((go_at_call 25; exact Calls.quiet_of_same (HI.out _)))
            go_wp2
            go_round
            · exact ⟨k + 1, by omega, by simp, by show Value.string _ = Value.string (base s ++ ⟨#[95]⟩ ++ decB (k + 1)); rw [hbs], pw_below_drewN HB2.out _⟩
            · simp only [intOf]; omega
          · have h24e := eq_false h24
            have hsz2 : s.size ≤ 24 := by omega
            have hx1 : (s.extract 0 s.size).size = s.size := by rw [ByteArray.size_extract]; omega
            have hx2 : (9223372036854775807 < s.size + 1 + (decB (k + 1)).size) = False := eq_false (by omega)
            have hx3 : (9223372036854775807 < s.size + 1) = False := eq_false (by omega)
            have hbs : base s = s := by
              unfold base
              rw [show min s.size 24 = s.size from by omega]
              exact ByteArray.extract_zero_size
            go_wp2
            go_quiet ((go_at_call 25; exact Calls.quiet_of_same (HI.out _)))
            go_wp2
            go_round
            · exact ⟨k + 1, by omega, by simp, by show Value.string _ = Value.string (base s ++ ⟨#[95]⟩ ++ decB (k + 1)); rw [hbs], pw_below_drewN HB2.out _⟩
            · simp only [intOf]; omega
    · obtain rfl : k = tries taken s := by omega
      have hfree := tries_free taken s
      have h0 : mem (lst 0) (name s (tries taken s)) = false := by
        cases h : mem (lst 0) (name s (tries taken s)) with
        | false => rfl
        | true => simp [bad, h] at hfree
      have h1 : mem (lst 1) (name s (tries taken s)) = false := by
        cases h : mem (lst 1) (name s (tries taken s)) with
        | false => rfl
        | true => simp [bad, h] at hfree
      have h2 : mem taken (name s (tries taken s)) = false := by
        cases h : mem taken (name s (tries taken s)) with
        | false => rfl
        | true => simp [bad, h] at hfree
      clear hfree
      go_wp2_with (first | (go_at_call 12; go_must (refine (is_any 0 (name s (tries taken s)) _ (tab_below HT.out HB.out)).mono ?_)))
      rintro e w1 ⟨rfl, hb⟩
      have HB1 := Lib.hid (below_weaken HB.out HB.out.size hb)
      clear hb HB
      rw [h0]
      go_wp2_with (first | (go_at_call 12; go_must (refine (is_any 1 (name s (tries taken s)) _ (tab_below HT.out HB1.out)).mono ?_)))
      rintro e w2 ⟨rfl, hb⟩
      have HB2 := Lib.hid (below_weaken HB1.out HB1.out.size hb)
      clear hb HB1
      rw [h1]
      go_wp2_with (first | (go_at_call 24; go_must (refine (contains_any A c taken (name s (tries taken s)) _ (Kd.C_below HR.out HB2.out)).mono ?_)))
      rintro e w3 ⟨rfl, rfl⟩
      rw [h2]
      go_wp2
      go_ret
      exact ⟨rfl, HB2.out⟩
end Go.Proofs.YtmgdbmojfadahaaDoor.Wd
