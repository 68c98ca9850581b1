/- Digits, Join. -/
import Derived.Test.YtmmbpbamkiheaaaDoorTn
import Derived.Lib.ItoaNum
import Derived.Lib.AppendIntMem
set_option linter.unusedVariables false
set_option linter.unusedSimpArgs false
namespace Go.Proofs.YtmmbpbamkiheaaaDoor.Tx
open Go.RowKit Go.Proofs.YtmmbpbamkiheaaaDoorW.PrintWords Go.Proofs.YtmmbpbamkiheaaaDoorW.PrintLast Go.Proofs.YtmmbpbamkiheaaaDoorW.PrintMore Go.Proofs.YtmmbpbamkiheaaaDoor.R
/-- The table of powers lies as the library lays it. -/
def Tab (w : World) : Prop := Lib.TabIs Tryd.prog w "internal/strconv.uint64pow10" .u64 Lib.pow10Tab
theorem tab_below {w w' : World} (h : Tab w) (hb : Below w.heap.size w w') : Tab w' := by
  have hgn : Tryd.prog.globalNamed "internal/strconv.uint64pow10" = some 0 := by kernel_rfl
  unfold Tab Lib.TabIs World.var? at h ⊢
  rw [hgn] at h ⊢
  simp only [Option.bind_some] at h ⊢
  have hlt : 0 < w.heap.size := by
    rcases Nat.lt_or_ge 0 w.heap.size with h' | h'
    · exact h'
    · simp [Array.getElem?_eq_none h'] at h
  rw [hb.block 0 hlt]
  exact h
def itoB (n : Int) : ByteArray := ⟨(Lib.itoa n).toArray⟩
set_option maxHeartbeats 4000000 in
set_option maxRecDepth 1000000 in
theorem digits_any (n : Int) (h0 : -9223372036854775808 ≤ n) (h1 : n ≤ 9223372036854775807) (w : World) (ht : Tab w) :
    Calls Tryd.prog 14 #[.int .i64 n] w fun e w' => e = .returned (.string (itoB n)) ∧ Below w.heap.size w w' := by
  have HT := Lib.hid ht
  clear ht
  go_enter Tryd.func14, Tryd.ntmps14
  go_wp2_with (first | (go_at_call 28; go_must (refine (Tryd.strconv_FormatInt_10 n h0 h1 w HT.out).mono ?_); rintro e w1 ⟨rfl, k, os, rfl⟩; have HB := Lib.hid (Lib.below_grow w.heap.size w (Nat.le_refl _) k os)))
  go_ret
  exact ⟨rfl, HB.out⟩
/-! ### The document's digits -/
def decB (n : Nat) : ByteArray := ⟨(Lib.decDigits n).toArray⟩
theorem digit1 (d : Nat) (h : d < 10) : (⟨#[48, 49, 50, 51, 52, 53, 54, 55, 56, 57]⟩ : ByteArray).extract d (d + 1) = ⟨#[UInt8.ofNat (48 + d)]⟩ := by
  have key : ∀ d : Fin 10, (⟨#[48, 49, 50, 51, 52, 53, 54, 55, 56, 57]⟩ : ByteArray).extract d.1 (d.1 + 1) = ⟨#[UInt8.ofNat (48 + d.1)]⟩ := by decide
  exact key ⟨d, h⟩
theorem decB_step (n : Nat) (h : 10 ≤ n) : decB n = decB (n / 10) ++ ⟨#[UInt8.ofNat (48 + n % 10)]⟩ := by
  unfold decB
  apply ByteArray.ext
  apply Array.toList_inj.1
  rw [Lib.decDigits, dif_neg (by omega)]
  simp
theorem decB_one (n : Nat) (h : n < 10) : decB n = ⟨#[UInt8.ofNat (48 + n)]⟩ := by
  unfold decB
  rw [Lib.decDigits, dif_pos h]
theorem long_f : ∀ (k n : Nat), n < 10 ^ (k + 1) → n < 18446744073709551616 → k ≤ 1000 → pantographref01_long.f (k + 1) (n : Int) = some (decB n) ∧ (decB n).size ≤ k + 1 := by
  intro k
  induction k with
  | zero =>
    intro n hn h64 _
    have hn : n < 10 := by simpa using hn
    constructor
    · unfold pantographref01_long.f
      rw [if_pos (by omega), show ((n : Int) + 1) = ((n + 1 : Nat) : Int) by omega, u64_in ((n + 1 : Nat) : Int) (by omega) (by omega), if_pos (by omega), if_pos (by omega), if_pos (by omega), Int.toNat_natCast, Int.toNat_natCast, digit1 n hn, decB_one n hn]
    · rw [decB_one n hn]
      show 1 ≤ _
      omega
  | succ k ih =>
    intro n hn h64 hk
    by_cases h10 : n < 10
    · constructor
      · unfold pantographref01_long.f
        rw [if_pos (by omega), show ((n : Int) + 1) = ((n + 1 : Nat) : Int) by omega, u64_in ((n + 1 : Nat) : Int) (by omega) (by omega), if_pos (by omega), if_pos (by omega), if_pos (by omega), Int.toNat_natCast, Int.toNat_natCast, digit1 n h10, decB_one n h10]
      · rw [decB_one n h10]
        show 1 ≤ _
        omega
    · have hp : 10 ^ (k + 1 + 1) = 10 ^ (k + 1) * 10 := Nat.pow_succ _ _
      obtain ⟨h1, h2⟩ := ih (n / 10) (by omega) (by omega) (by omega)
      have hq : Int.tdiv (n : Int) 10 = ((n / 10 : Nat) : Int) := by
        rw [Int.tdiv_eq_ediv_of_nonneg (by omega)]; omega
      have hr : Int.tmod (n : Int) 10 = ((n % 10 : Nat) : Int) := by
        rw [Int.tmod_eq_emod_of_nonneg (by omega)]; omega
      have hd := digit1 (n % 10) (by omega)
      constructor
      · unfold pantographref01_long.f
        rw [if_neg (by omega), hq, u64_in ((n / 10 : Nat) : Int) (by omega) (by omega), h1, Option.bind_some, hr, show (((n % 10 : Nat) : Int) + 1) = ((n % 10 + 1 : Nat) : Int) by omega, u64_in ((n % 10 + 1 : Nat) : Int) (by omega) (by omega), if_pos (by omega), if_pos (by omega), if_pos (by omega), Int.toNat_natCast, Int.toNat_natCast, hd, if_pos (by show _ + 1 ≤ _; omega), decB_step n (by omega)]
      · rw [decB_step n (by omega), ByteArray.size_append]
        show _ + 1 ≤ _
        omega
theorem u64_mod (n : Int) : IntKind.u64.wrap n = n % 18446744073709551616 := by
  simp only [IntKind.wrap, IntKind.bits, IntKind.signed]
  simp
theorem refdigits_f (n : Int) (h0 : -9223372036854775808 ≤ n) (h1 : n ≤ 9223372036854775807) : pantographref01_Digits.f 40 n = some (itoB n) := by
  unfold pantographref01_Digits.f
  by_cases h : n < 0
  · obtain ⟨m, hm⟩ : ∃ m : Nat, n = -(m : Int) := ⟨n.natAbs, by omega⟩
    have hw : IntKind.u64.wrap (-(IntKind.u64.wrap n)) = (m : Int) := by rw [u64_mod, u64_mod]; omega
    have hp : (10 : Nat) ^ 40 = 10000000000000000000000000000000000000000 := by decide
    obtain ⟨hl, hs⟩ := long_f 39 m (by omega) (by omega) (by omega)
    rw [if_pos h, hw, hl, Option.bind_some, if_pos (by omega)]
    have : Lib.itoa n = 45 :: Lib.decDigits m := by
      unfold Lib.itoa
      rw [if_pos h, show n.natAbs = m by omega]
    unfold itoB
    rw [this]
    congr 1
  · obtain ⟨m, rfl⟩ := Int.eq_ofNat_of_zero_le (show 0 ≤ n by omega)
    have hp : (10 : Nat) ^ 40 = 10000000000000000000000000000000000000000 := by decide
    rw [if_neg h, u64_in _ (by omega) (by omega), (long_f 39 m (by omega) (by omega) (by omega)).1]
    have : Lib.itoa (m : Int) = Lib.decDigits m := by
      unfold Lib.itoa
      rw [if_neg h, Int.toNat_natCast]
    unfold itoB
    rw [this]
    rfl
/-! ### A number's digits are read as it -/
def valI (l : List UInt8) : Int := l.foldl (fun a b => 10 * a + ((b.toNat : Int) - 48)) 0
theorem valI_snoc (l : List UInt8) (b : UInt8) : valI (l ++ [b]) = 10 * valI l + ((b.toNat : Int) - 48) := by simp [valI]
theorem vl_take (s : ByteArray) (k : Nat) (hk : k ≤ s.size) : vl s k = valI (s.data.toList.take k) := by
  induction k with
  | zero => rfl
  | succ k ih =>
    have hl : k < s.data.toList.length := by rw [data_length]; omega
    rw [List.take_succ_eq_append_getElem hl, valI_snoc, ← ih (by omega)]
    show 10 * vl s k + (bt s (k : Int) - 48) = _
    unfold bt
    rw [Int.toNat_natCast, dif_pos (by omega : k < s.size)]
    rfl
theorem val_dec (n : Nat) : valI (Lib.decDigits n) = n := by
  induction n using Nat.strongRecOn with
  | _ n ih =>
    rw [Lib.decDigits]
    by_cases h : n < 10
    · rw [dif_pos h]
      show 10 * 0 + (((UInt8.ofNat (48 + n)).toNat : Int) - 48) = n
      rw [UInt8.toNat_ofNat']; omega
    · rw [dif_neg h, valI_snoc, ih (n / 10) (by omega), UInt8.toNat_ofNat']; omega
theorem dec_digit (n : Nat) : ∀ b ∈ Lib.decDigits n, 48 ≤ b.toNat ∧ b.toNat ≤ 57 := by
  induction n using Nat.strongRecOn with
  | _ n ih =>
    rw [Lib.decDigits]
    by_cases h : n < 10
    · rw [dif_pos h]
      intro b hb
      rw [List.mem_singleton] at hb
      subst hb
      rw [UInt8.toNat_ofNat']; omega
    · rw [dif_neg h]
      intro b hb
      rcases List.mem_append.1 hb with hb | hb
      · exact ih (n / 10) (by omega) b hb
      · rw [List.mem_singleton] at hb
        subst hb
        rw [UInt8.toNat_ofNat']; omega
theorem dec_ne (n : Nat) : Lib.decDigits n ≠ [] := by
  rw [Lib.decDigits]
  split
  · simp
  · simp
theorem itoB_data (n : Int) : (itoB n).data.toList = Lib.itoa n := by simp [itoB]
theorem itoB_size (n : Int) : (itoB n).size = (Lib.itoa n).length := by rw [← data_length, itoB_data]
theorem num_dec (n : Int) (h0 : 0 ≤ n) (h1 : n ≤ 9223372036854775807) : num (itoB n) = (n, 0) := by
  obtain ⟨m, rfl⟩ := Int.eq_ofNat_of_zero_le h0
  have hi : Lib.itoa (m : Int) = Lib.decDigits m := by
    unfold Lib.itoa
    rw [if_neg (by omega), Int.toNat_natCast]
  have hd : digs (itoB (m : Int)) = true := by
    unfold digs
    rw [itoB_data, hi, List.all_eq_true]
    intro b hb
    have := dec_digit m b hb
    simp only [Bool.and_eq_true, decide_eq_true_eq]
    exact this
  have hv : vl (itoB (m : Int)) (itoB (m : Int)).size = m := by
    rw [vl_take _ _ (Nat.le_refl _), ← data_length, List.take_length, itoB_data, hi, val_dec]
  have hne : (itoB (m : Int)).size ≠ 0 := by
    rw [itoB_size, hi]
    intro e
    exact dec_ne m (List.eq_nil_of_length_eq_zero e)
  unfold num
  rw [if_neg (by rw [hd]; simp [hne]), hv, if_neg (by omega)]
theorem num_neg (n : Int) (h0 : n < 0) : num (itoB n) = (0, 5) := by
  have hi : Lib.itoa n = 45 :: Lib.decDigits n.natAbs := by
    unfold Lib.itoa
    rw [if_pos h0]
  unfold num
  rw [if_pos]
  refine .inr ?_
  unfold digs
  rw [itoB_data, hi]
  rfl
theorem itoB_small (n : Int) (h0 : -9223372036854775808 ≤ n) (h1 : n ≤ 9223372036854775807) : (itoB n).size ≤ 1000 := by
  have key : ∀ m : Nat, m ≤ 9223372036854775808 → (Lib.decDigits m).length ≤ 40 := by
    intro m hm
    have hp : (10 : Nat) ^ 40 = 10000000000000000000000000000000000000000 := by decide
    have := (long_f 39 m (by omega) (by omega) (by omega)).2
    have e : (decB m).size = (Lib.decDigits m).length := by simp [decB, ByteArray.size]
    omega
  rw [itoB_size]
  unfold Lib.itoa
  split
  · have := key n.natAbs (by omega)
    rw [List.length_cons]; omega
  · have := key n.toNat (by omega)
    omega
/-! ### Join -/
def cat (l : List ByteArray) : ByteArray := ⟨(l.map (·.data.toList)).flatten.toArray⟩
theorem join_flat (xs : List (List UInt8)) : Lib.join xs [] = xs.flatten := by
  unfold Lib.join
  induction xs with
  | nil => rfl
  | cons a l ih =>
    cases l with
    | nil => simp [List.intercalate]
    | cons b l =>
      simp only [List.intercalate, List.intersperse_cons_cons, List.flatten_cons, List.nil_append] at ih ⊢
      rw [ih]
set_option maxHeartbeats 4000000 in
set_option maxRecDepth 1000000 in
theorem join_any (A : Option Addr) (c : Nat) (l : List ByteArray) (w : World) (hr : Kd.C Kd.string w A l.length l) (hc : l.length ≤ c) (hl : l.length ≤ 1000) (hs : (cat l).size ≤ 140737488355328) :
    Calls Tryd.prog 17 #[.slice A l.length c] w fun e w' => e = .returned (.string (cat l)) ∧ Below w.heap.size w w' := by
  have hJ : Calls Tryd.prog 30 #[.slice A l.length c, .string ⟨#[]⟩] w fun e w' => e = .returned (.string (cat l)) ∧ Below w.heap.size w w' := by
    cases l with
    | nil =>
      refine (Tryd.strings_Join_none A c ⟨#[]⟩ w).mono ?_
      rintro e w' ⟨rfl, rfl⟩
      exact ⟨rfl, Below.refl _ _⟩
    | cons x l =>
      obtain ⟨ad, rfl, h0⟩ := Kd.at_string hr 0 (by omega) (by simp)
      obtain ⟨bk, o, sp⟩ := ad
      obtain rfl : sp = none := by
        cases sp with
        | none => rfl
        | some z =>
          exfalso
          simp [World.cell?, Addr.add] at h0
          split at h0 <;> simp at h0
      have hbk : bk < w.heap.size := by
        rcases Nat.lt_or_ge bk w.heap.size with h | h
        · exact h
        · exfalso
          simp [World.cell?, Addr.add, Array.getElem?_eq_none h] at h0
      have hsz : (cat (x :: l)).size = (Lib.join ((x :: l).map (·.data.toList)) (⟨#[]⟩ : ByteArray).data.toList).length := by
        rw [← data_length]
        show _ = (Lib.join _ []).length
        rw [join_flat]
        rfl
      have := Tryd.strings_Join bk o c (x :: l) ⟨#[]⟩ w (fun j y hj => by
        obtain ⟨hjl, hy⟩ := List.getElem?_eq_some_iff.1 hj
        obtain ⟨ad', h1, h2⟩ := Kd.at_string hr (j : Int) (by omega) (by omega)
        injection h1 with h1
        subst h1
        rw [show ((j : Int)).toNat = j from by omega] at h2
        rw [show (⟨bk, o + j, none⟩ : Addr) = (⟨bk, o, none⟩ : Addr).add j from by simp [Addr.add], h2, show rdOf ByteArray.empty (x :: l) (j : Int) = (x :: l).getD (j : Int).toNat ByteArray.empty from rfl, Int.toNat_natCast, List.getD_eq_getElem?_getD, hj]
        rfl) hbk (by omega) hc (by rw [← hsz]; exact hs)
      refine this.mono ?_
      rintro e w' ⟨rfl, hb⟩
      refine ⟨?_, hb⟩
      show Ending.returned (.string ⟨(Lib.join _ []).toArray⟩) = _
      rw [join_flat]
      rfl
  have HJ := Lib.hid hJ
  clear hJ hr
  go_enter Tryd.func17, Tryd.ntmps17
  go_wp2_with (first | (go_at_call 30; go_must (refine (HJ.out).mono ?_); rintro e w1 ⟨rfl, hb⟩; have HB := Lib.hid hb; clear hb))
  go_ret
  exact ⟨rfl, HB.out⟩
end Go.Proofs.YtmmbpbamkiheaaaDoor.Tx
