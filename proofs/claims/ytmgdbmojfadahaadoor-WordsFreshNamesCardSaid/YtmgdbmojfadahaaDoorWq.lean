/- What the document's Fresh computes. -/
import Derived.Test.YtmgdbmojfadahaaDoorWp
set_option linter.unusedVariables false
set_option linter.unusedSimpArgs false
namespace Go.Proofs.YtmgdbmojfadahaaDoor.Wd
open Go.RowKit Go.Proofs.YtmgdbmojfadahaaDoorW.PrintWords Go.Proofs.YtmgdbmojfadahaaDoor.R
theorem u64w (n : Nat) (h : n < 18446744073709551616) : IntKind.u64.wrap (n : Int) = n := by
  simp only [IntKind.wrap, IntKind.bits, IntKind.signed]
  simp <;> omega
theorem digit1 (d : Nat) (h : d < 10) : (⟨#[48, 49, 50, 51, 52, 53, 54, 55, 56, 57]⟩ : ByteArray).extract d (d + 1) = ⟨#[UInt8.ofNat (48 + d)]⟩ := by
  have key : ∀ d : Fin 10, (⟨#[48, 49, 50, 51, 52, 53, 54, 55, 56, 57]⟩ : ByteArray).extract d.1 (d.1 + 1) = ⟨#[UInt8.ofNat (48 + d.1)]⟩ := by decide
  exact key ⟨d, h⟩
theorem decB_step (n : Nat) (h : 10 ≤ n) : decB n = decB (n / 10) ++ ⟨#[UInt8.ofNat (48 + n % 10)]⟩ := by
  unfold decB
  apply ByteArray.ext
  apply Array.toList_inj.1
  rw [Lib.decDigits, dif_neg (by omega)]
  simp
theorem decB_one (n : Nat) (h : n < 10) : decB n = ⟨#[UInt8.ofNat (48 + n)]⟩ := by
  unfold decB
  rw [Lib.decDigits, dif_pos h]
theorem long_f : ∀ (k n : Nat), n < 10 ^ (k + 1) → n < 18446744073709551616 → k ≤ 1000 → pantographref01_long.f (k + 1) (n : Int) = some (decB n) ∧ (decB n).size ≤ k + 1 := by
  intro k
  induction k with
  | zero =>
    intro n hn h64 _
    have hn : n < 10 := by simpa using hn
    constructor
    · unfold pantographref01_long.f
      rw [if_pos (by omega), show ((n : Int) + 1) = ((n + 1 : Nat) : Int) by omega, u64w (n + 1) (by omega), if_pos (by omega), if_pos (by omega), if_pos (by omega), Int.toNat_natCast, Int.toNat_natCast, digit1 n hn, decB_one n hn]
    · rw [decB_one n hn]
      show 1 ≤ _
      omega
  | succ k ih =>
    intro n hn h64 hk
    by_cases h10 : n < 10
    · constructor
      · unfold pantographref01_long.f
        rw [if_pos (by omega), show ((n : Int) + 1) = ((n + 1 : Nat) : Int) by omega, u64w (n + 1) (by omega), if_pos (by omega), if_pos (by omega), if_pos (by omega), Int.toNat_natCast, Int.toNat_natCast, digit1 n h10, decB_one n h10]
      · rw [decB_one n h10]
        show 1 ≤ _
        omega
    · have hp : 10 ^ (k + 1 + 1) = 10 ^ (k + 1) * 10 := Nat.pow_succ _ _
      obtain ⟨h1, h2⟩ := ih (n / 10) (by omega) (by omega) (by omega)
      have hq : Int.tdiv (n : Int) 10 = ((n / 10 : Nat) : Int) := by
        rw [Int.tdiv_eq_ediv_of_nonneg (by omega)]; omega
      have hr : Int.tmod (n : Int) 10 = ((n % 10 : Nat) : Int) := by
        rw [Int.tmod_eq_emod_of_nonneg (by omega)]; omega
      have hd := digit1 (n % 10) (by omega)
      constructor
      · unfold pantographref01_long.f
        rw [if_neg (by omega), hq, u64w _ (by omega), h1, Option.bind_some, hr, show (((n % 10 : Nat) : Int) + 1) = ((n % 10 + 1 : Nat) : Int) by omega, u64w _ (by omega), if_pos (by omega), if_pos (by omega), if_pos (by omega), Int.toNat_natCast, Int.toNat_natCast, hd, if_pos (by show _ + 1 ≤ _; omega), decB_step n (by omega)]
      · rw [decB_step n (by omega), ByteArray.size_append]
        show _ + 1 ≤ _
        omega
theorem digits_f (n : Nat) (hn : n < 9223372036854775808) (k : Nat) (hk : 20 < k) (hk2 : k ≤ 1000) : pantographref01_Digits.f k (n : Int) = some (decB n) := by
  obtain ⟨k, rfl⟩ : ∃ k', k = k' + 1 := ⟨k - 1, by omega⟩
  unfold pantographref01_Digits.f
  have hp : (10 : Nat) ^ 20 ≤ 10 ^ (k + 1) := Nat.pow_le_pow_right (by decide) (by omega)
  rw [if_neg (by omega), u64w n (by omega), (long_f k n (by omega) (by omega) (by omega)).1]
  rfl
theorem digits_mono (n : Nat) (hn : n < 9223372036854775808) : ∀ k, 20 < k → pantographref01_Digits.f k (n : Int) = some (decB n) := by
  intro k hk
  induction k with
  | zero => omega
  | succ k ih =>
    rcases Nat.lt_or_ge 20 k with h | h
    · exact pantographref01_Digits.mono _ _ _ (ih h)
    · exact digits_f n hn (k + 1) hk (by omega)
theorem wr64 (n : Nat) (h : n < 9223372036854775808) : wrap64 (n : Int) = n := by unfold wrap64; omega
theorem fresh_loop (s : ByteArray) (taken : List ByteArray) (hl : taken.length ≤ 1000) : ∀ (m n k : Nat), n ≤ taken.length → (∀ j, j ≤ n → bad taken (name s j) = true) → taken.length - n < m → 2000 + m ≤ k → pantographref04_Fresh.l0 k taken (base s) ((n + 1 : Nat) : Int) = some (fresh s taken) := by
  intro m
  induction m with
  | zero => intro n k _ _ h; omega
  | succ m ih =>
    intro n k hn hb hm hk
    obtain ⟨k, rfl⟩ : ∃ k', k = k' + 1 := ⟨k - 1, by omega⟩
    unfold pantographref04_Fresh.l0
    have hbs := base_size s
    have hname : (base s ++ (⟨#[95]⟩ : ByteArray)) ++ decB (n + 1) = name s (n + 1) := rfl
    have hds : (decB (n + 1)).size ≤ 30 := (long_f 29 (n + 1) (by omega) (by omega) (by omega)).2
    rw [show (taken.length : Int) + 1 = ((taken.length + 1 : Nat) : Int) by omega, wr64 _ (by omega), if_pos (by omega), if_pos (by omega), digits_mono (n + 1) (by omega) k (by omega), Option.bind_some, if_pos (by show _ + 1 + _ ≤ _; omega), hname, is_f 0 _ k (by omega), Option.bind_some, name_word s n 0, if_neg (by simp), is_f 1 _ k (by omega), Option.bind_some, name_word s n 1, if_neg (by simp), among_f taken _ hl k (by omega), Option.bind_some]
    have hbn := bad_name taken s n
    cases hmt : mem taken (name s (n + 1)) with
    | false =>
      rw [if_neg (by simp)]
      unfold fresh
      rw [tries_at taken s (n + 1) (fun j hj => hb j (by omega)) (by rw [hbn, hmt])]
    | true =>
      rw [if_pos rfl]
      have hb' : ∀ j, j ≤ n + 1 → bad taken (name s j) = true := by
        intro j hj
        rcases Nat.lt_or_ge n j with h | h
        · obtain rfl : j = n + 1 := by omega
          rw [hbn, hmt]
        · exact hb j h
      have hlt : n + 1 ≤ taken.length := by
        rcases Nat.lt_or_ge taken.length (n + 1) with h | h
        · exfalso
          have h1 := tries_le taken s
          have h2 := tries_free taken s
          rw [hb' _ (by omega)] at h2
          cases h2
        · exact h
      have := ih (n + 1) k hlt hb' (by omega) (by omega)
      rw [show ((n + 1 : Nat) : Int) + 1 = ((n + 1 + 1 : Nat) : Int) by omega, wr64 _ (by omega)]
      exact this
theorem fresh_bad (s : ByteArray) (taken : List ByteArray) (hl : taken.length ≤ 1000) (hb : bad taken s = true) (k : Nat) (hk : 4000 ≤ k) : pantographref04_Fresh.j0 k s taken false = some (fresh s taken) := by
  obtain ⟨k, rfl⟩ : ∃ k', k = k' + 1 + 1 := ⟨k - 2, by omega⟩
  have h0 := fresh_loop s taken hl 1001 0 k (Nat.zero_le _) (fun j hj => by
    obtain rfl : j = 0 := by omega
    exact hb) (by omega) (by omega)
  rw [pantographref04_Fresh.j0, if_neg (by simp)]
  by_cases h24 : (s.size : Int) > 24
  · rw [if_pos h24, if_pos (by omega), if_pos (by omega)]
    unfold pantographref04_Fresh.j1
    have : base s = s.extract 0 24 := by unfold base; rw [Nat.min_eq_right (by omega)]
    rw [this] at h0
    exact h0
  · rw [if_neg h24]
    unfold pantographref04_Fresh.j1
    have : base s = s := by unfold base; rw [Nat.min_eq_left (by omega)]; exact ByteArray.extract_zero_size
    rw [this] at h0
    exact h0
theorem fresh_good (s : ByteArray) (taken : List ByteArray) (hb : bad taken s = false) : fresh s taken = s := by
  unfold fresh
  rw [tries_at taken s 0 (fun j hj => by omega) hb]
  rfl
theorem fresh_f (s : ByteArray) (taken : List ByteArray) (hl : taken.length ≤ 1000) (k : Nat) (hk : 4000 ≤ k) : pantographref04_Fresh.f k s taken = some (fresh s taken) := by
  unfold pantographref04_Fresh.f
  rw [is_f 0 s k (by omega), is_f 1 s k (by omega), among_f taken s hl k (by omega), Option.bind_some, Option.bind_some, Option.bind_some]
  cases h0 : mem (lst 0) s with
  | true => rw [if_pos rfl]; exact fresh_bad s taken hl (by simp [bad, h0]) k hk
  | false =>
    rw [if_neg (by simp)]
    cases h1 : mem (lst 1) s with
    | true => rw [if_pos rfl]; exact fresh_bad s taken hl (by simp [bad, h1]) k hk
    | false =>
      rw [if_neg (by simp)]
      cases h2 : mem taken s with
      | true => exact fresh_bad s taken hl (by simp [bad, h2]) k hk
      | false =>
        rw [fresh_good s taken (by simp [bad, h0, h1, h2])]
        obtain ⟨k, rfl⟩ : ∃ k', k = k' + 1 := ⟨k - 1, by omega⟩
        rw [pantographref04_Fresh.j0]
        exact if_pos rfl
theorem fresh_ok (s : ByteArray) (taken : List ByteArray) : mem (lst 0) (fresh s taken) = false ∧ mem (lst 1) (fresh s taken) = false ∧ mem taken (fresh s taken) = false := by
  have := tries_free taken s
  unfold fresh
  simpa [bad, Bool.or_eq_false_iff, and_assoc] using this
end Go.Proofs.YtmgdbmojfadahaaDoor.Wd
