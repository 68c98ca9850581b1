/- Number, Digits, Join, the document's examples. -/
import Derived.Test.YtmmbpbamkiheaaaDoorTx
import Derived.Shelf.Strings.SlTrimAscii
set_option linter.unusedVariables false
set_option linter.unusedSimpArgs false
namespace Go.Proofs.YtmmbpbamkiheaaaDoor.Tx
open Go.RowKit Go.Proofs.YtmmbpbamkiheaaaDoorW.PrintWords Go.Proofs.YtmmbpbamkiheaaaDoorW.PrintLast Go.Proofs.YtmmbpbamkiheaaaDoorW.PrintMore Go.Proofs.YtmmbpbamkiheaaaDoor.R
/-! ### The number that a text is -/
def vl (s : ByteArray) : Nat → Int
  | 0 => 0
  | k + 1 => 10 * vl s k + (bt s (k : Int) - 48)
def digs (s : ByteArray) : Bool := s.data.toList.all fun b => decide (48 ≤ b.toNat) && decide (b.toNat ≤ 57)
theorem digs_at {s : ByteArray} (h : digs s = true) (k : Nat) (hk : k < s.size) : 48 ≤ bt s (k : Int) ∧ bt s (k : Int) ≤ 57 := by
  have hl : k < s.data.toList.length := by rw [data_length]; exact hk
  have := List.all_eq_true.1 h _ (List.getElem_mem hl)
  simp only [Bool.and_eq_true, decide_eq_true_eq] at this
  unfold bt
  rw [Int.toNat_natCast, dif_pos hk]
  have he : s[k] = s.data.toList[k] := rfl
  rw [he]
  omega
theorem vl_mono {s : ByteArray} (h : digs s = true) : ∀ (k : Nat), k ≤ s.size → 0 ≤ vl s k ∧ ∀ j, j ≤ k → vl s j ≤ vl s k := by
  intro k
  induction k with
  | zero =>
    intro _
    refine ⟨Int.le_refl _, fun j hj => ?_⟩
    obtain rfl : j = 0 := by omega
    exact Int.le_refl _
  | succ k ih =>
    intro hk
    obtain ⟨h1, h2⟩ := ih (by omega)
    obtain ⟨h3, h4⟩ := digs_at h k (by omega)
    have h5 : vl s (k + 1) = 10 * vl s k + (bt s (k : Int) - 48) := rfl
    refine ⟨by omega, fun j hj => ?_⟩
    rcases Nat.lt_or_ge k j with h | h
    · obtain rfl : j = k + 1 := by omega
      exact Int.le_refl _
    · have := h2 j h
      omega
def num (s : ByteArray) : Int × Int := if s.size = 0 ∨ digs s = false then (0, 5) else if vl s s.size > 9223372036854775807 then (0, 6) else (vl s s.size, 0)
def digSet : ByteArray := ⟨#[48, 49, 50, 51, 52, 53, 54, 55, 56, 57]⟩
theorem digSet_ascii : ∀ (j : Nat) b, digSet.data.toList[j]? = some b → b.toNat < 128 := ascii_of_all (by decide)
theorem in_set (b : UInt8) : digSet.data.toList.contains b = (decide (48 ≤ b.toNat) && decide (b.toNat ≤ 57)) := by
  have key : ∀ n : Fin 256, digSet.data.toList.contains (UInt8.ofNat n.1) = (decide (48 ≤ (UInt8.ofNat n.1).toNat) && decide ((UInt8.ofNat n.1).toNat ≤ 57)) := by decide +kernel
  have := key ⟨b.toNat, UInt8.toNat_lt b⟩
  simpa using this
theorem dropWhile_nil {α : Type} (p : α → Bool) (l : List α) : l.dropWhile p = [] ↔ l.all p = true := by
  induction l with
  | nil => simp
  | cons a l ih =>
    rw [List.dropWhile_cons, List.all_cons]
    cases h : p a with
    | true => simpa using ih
    | false => simp
theorem all_dropWhile {α : Type} (p : α → Bool) (l : List α) : (l.dropWhile p).all p = l.all p := by
  induction l with
  | nil => rfl
  | cons a l ih =>
    rw [List.dropWhile_cons]
    cases h : p a with
    | true => simpa [h] using ih
    | false => simp
theorem trim_nil (s : ByteArray) : Lib.trimS s.data.toList digSet.data.toList = [] ↔ digs s = true := by
  have hp : (fun b => digSet.data.toList.contains b) = (fun b : UInt8 => decide (48 ≤ b.toNat) && decide (b.toNat ≤ 57)) := funext in_set
  unfold digs
  rw [← hp]
  unfold Lib.trimS Lib.trimLeftS Lib.trimRightS
  rw [dropWhile_nil, List.all_reverse, all_dropWhile, List.all_reverse]
theorem trim_any (s : ByteArray) (w : World) (hs : s.size ≤ 1000000) : Calls Tryd.prog 27 #[.string s, .string digSet] w fun e w' => e = .returned (.string ⟨(Lib.trimS s.data.toList digSet.data.toList).toArray⟩) ∧ Below w.heap.size w w' :=
  Any.strings_Trim_laid Tryd.lays160 (by kernel_rfl) s digSet w (by omega) (by decide) digSet_ascii
theorem empty_iff (s : ByteArray) : s.toList = [] ↔ s.size = 0 := by
  rw [ByteArray.toList_eq, ← data_length]
  exact List.length_eq_zero_iff.symm
def NmRel (s : ByteArray) (n i : Value) : Prop := ∃ k : Nat, k ≤ s.size ∧ i = .int .i64 k ∧ n = .int .i64 (vl s k) ∧ vl s k ≤ 9223372036854775807
set_option maxHeartbeats 4000000 in
set_option maxRecDepth 1000000 in
theorem number_any (s : ByteArray) (w : World) (hs : s.size ≤ 1000000) :
    Calls Tryd.prog 12 #[.string s] w fun e w' => e = .returned (.tuple #[.int .i64 (num s).1, .int .i64 (num s).2]) ∧ Below w.heap.size w w' := by
  by_cases h0 : s.size = 0
  · have hn : num s = (0, 5) := by unfold num; rw [if_pos (.inl h0)]
    rw [hn]
    have he1 := (empty_iff s).2 h0
    have he2 : (s.toList == ([] : List UInt8)) = true := by simp [he1]
    clear hn
    go_enter Tryd.func12, Tryd.ntmps12
    go_wp2
    go_ret2
    exact ⟨rfl, Below.refl _ _⟩
  · have he1 : ¬ s.toList = [] := fun e => h0 ((empty_iff s).1 e)
    have he2 : (s.toList == ([] : List UInt8)) = false := by simpa using he1
    cases hd : digs s with
    | false =>
      have hn : num s = (0, 5) := by unfold num; rw [if_pos (.inr hd)]
      rw [hn]
      have ht1 : ¬ (⟨(Lib.trimS s.data.toList digSet.data.toList).toArray⟩ : ByteArray).toList = [] := by
        intro e
        rw [ByteArray.toList_eq] at e
        have : Lib.trimS s.data.toList digSet.data.toList = [] := by simpa using e
        rw [(trim_nil s).1 this] at hd
        cases hd
      have ht2 : ((⟨(Lib.trimS s.data.toList digSet.data.toList).toArray⟩ : ByteArray).toList == ([] : List UInt8)) = false := by simpa using ht1
      generalize hT : (⟨(Lib.trimS s.data.toList digSet.data.toList).toArray⟩ : ByteArray) = T at *
      have HT := Lib.hid hT
      clear hT hn hd
      go_enter Tryd.func12, Tryd.ntmps12
      go_wp2_with (first | (go_at_call 27; go_must (refine (trim_any s w hs).mono ?_); rintro e w1 ⟨rfl, hb⟩; rw [HT.out]; have HB := Lib.hid hb; clear hb))
      go_ret2
      exact ⟨rfl, HB.out⟩
    | true =>
      have ht1 : (⟨(Lib.trimS s.data.toList digSet.data.toList).toArray⟩ : ByteArray) = ⟨#[]⟩ := by
        rw [(trim_nil s).2 hd]
      have HT1 := Lib.hid ht1
      have HD := Lib.hid hd
      clear ht1
      go_enter Tryd.func12, Tryd.ntmps12
      go_wp2_with (first | (go_at_call 27; go_must (refine (trim_any s w hs).mono ?_); rintro e w1 ⟨rfl, hb⟩; rw [HT1.out]; have HB := Lib.hid hb; clear hb))
      go_loop [4, 16] (fun n i => NmRel s n i) (fun _ i => s.size - (intOf i).toNat)
      case atStart => exact ⟨0, Nat.zero_le _, rfl, rfl, by show (0 : Int) ≤ _; omega⟩
      case round =>
        obtain ⟨k, hk, rfl, rfl, hv⟩ := hrel
        have hv0 := (vl_mono HD.out k hk).1
        by_cases hlt : k < s.size
        · have hx := bt_at_nat s k
          obtain ⟨hb1, hb2⟩ := digs_at HD.out k hlt
          have hstep : vl s (k + 1) = 10 * vl s k + (bt s (k : Int) - 48) := rfl
          by_cases hov : 10 * vl s k + (bt s (k : Int) - 48) ≤ 9223372036854775807
          · have hq : vl s k ≤ (9223372036854775807 - (bt s (k : Int) - 48)) / 10 := by omega
            have hq2 : ((9223372036854775807 - (bt s (k : Int) - 48)) / 10 < vl s k) = False := eq_false (by omega)
            have HST := Lib.hid hstep
            clear hstep
            go_wp2
            go_round
            · exact ⟨k + 1, by omega, by simp, by rw [HST.out], by rw [HST.out]; exact hov⟩
            · simp only [intOf]; omega
          · have hq : ¬ vl s k ≤ (9223372036854775807 - (bt s (k : Int) - 48)) / 10 := by omega
            have hq2 : ((9223372036854775807 - (bt s (k : Int) - 48)) / 10 < vl s k) = True := eq_true (by omega)
            have HST := Lib.hid hstep
            clear hstep
            go_wp2
            go_ret2
            have hn : num s = (0, 6) := by
              unfold num
              rw [if_neg (by rw [HD.out]; simp [h0]), if_pos]
              have := (vl_mono HD.out s.size (Nat.le_refl _)).2 (k + 1) hlt
              rw [HST.out] at this
              omega
            rw [hn]
            exact ⟨rfl, HB.out⟩
        · obtain rfl : k = s.size := by omega
          go_wp2
          go_ret2
          have hn : num s = (vl s s.size, 0) := by
            unfold num
            rw [if_neg (by rw [HD.out]; simp [h0]), if_neg (by omega)]
          rw [hn]
          exact ⟨rfl, HB.out⟩
/-! ### The document's Number -/
theorem wr_n (k : Nat) (h : k < 9223372036854775807) : wrap64 ((k : Int) + 1) = ((k + 1 : Nat) : Int) := by unfold wrap64; omega
theorem u64_in (n : Int) (h0 : 0 ≤ n) (h : n < 18446744073709551616) : IntKind.u64.wrap n = n := by
  simp only [IntKind.wrap, IntKind.bits, IntKind.signed]
  simp <;> omega
theorem refnum1 (s : ByteArray) (hd : digs s = true) (hs : s.size ≤ 1000000) : ∀ (m k : Nat), k ≤ s.size → s.size - k < m → 0 ≤ vl s k → vl s k ≤ 9223372036854775807 → pantographref01_Number.l1 m s (vl s k) (k : Int) = some (if vl s s.size > 9223372036854775807 then (0, 6) else (vl s s.size, 0)) := by
  intro m
  induction m with
  | zero => intro k _ h; omega
  | succ m ih =>
    intro k hk hm h0 h1
    unfold pantographref01_Number.l1
    by_cases hlt : k < s.size
    · obtain ⟨hb1, hb2⟩ := digs_at hd k hlt
      have hmod : (bt s (k : Int) - 48) % 256 = bt s (k : Int) - 48 := by omega
      have hst : vl s (k + 1) = 10 * vl s k + (bt s (k : Int) - 48) := rfl
      rw [if_pos (by omega), if_pos (by omega), hmod]
      have hover : ∀ (hh : vl s (k + 1) > 9223372036854775807), (some (0, 6) : Option (Int × Int)) = some (if vl s s.size > 9223372036854775807 then (0, 6) else (vl s s.size, 0)) := by
        intro hh
        have := (vl_mono hd s.size (Nat.le_refl _)).2 (k + 1) hlt
        rw [if_pos (by omega)]
      have hgo : ∀ (hh : vl s (k + 1) ≤ 9223372036854775807), pantographref01_Number.l1 m s (IntKind.u64.wrap (IntKind.u64.wrap (vl s k * 10) + (bt s (k : Int) - 48))) (wrap64 ((k : Int) + 1)) = some (if vl s s.size > 9223372036854775807 then (0, 6) else (vl s s.size, 0)) := by
        intro hh
        rw [u64_in (vl s k * 10) (by omega) (by omega), u64_in _ (by omega) (by omega), wr_n k (by omega), show vl s k * 10 + (bt s (k : Int) - 48) = vl s (k + 1) by rw [hst]; omega]
        exact ih (k + 1) (by omega) (by omega) (by omega) hh
      by_cases c1 : vl s k > 922337203685477580
      · rw [if_pos c1]
        exact hover (by omega)
      · rw [if_neg c1]
        by_cases c2 : vl s k = 922337203685477580
        · rw [if_pos c2]
          by_cases c3 : bt s (k : Int) - 48 > 7
          · rw [if_pos c3]; exact hover (by omega)
          · rw [if_neg c3]; exact hgo (by omega)
        · rw [if_neg c2]; exact hgo (by omega)
    · obtain rfl : k = s.size := by omega
      rw [if_neg (by omega), if_neg (by omega), show wrap64 (vl s s.size) = vl s s.size by unfold wrap64; omega]
theorem digs_of {s : ByteArray} (h : ∀ j, j < s.size → 48 ≤ bt s (j : Int) ∧ bt s (j : Int) ≤ 57) : digs s = true := by
  unfold digs
  rw [List.all_eq_true]
  intro b hb
  obtain ⟨j, hj, rfl⟩ := List.getElem_of_mem hb
  have hjs : j < s.size := by rw [← data_length]; exact hj
  have h1 := h j hjs
  unfold bt at h1
  rw [Int.toNat_natCast, dif_pos hjs] at h1
  have he : s[j] = s.data.toList[j] := rfl
  rw [he] at h1
  simp only [Bool.and_eq_true, decide_eq_true_eq]
  omega
theorem refnum0 (s : ByteArray) (hs : s.size ≤ 1000000) (h0 : 0 < s.size) : ∀ (m k : Nat), k ≤ s.size → 2 * s.size + 2 - k < m → (∀ j, j < k → 48 ≤ bt s (j : Int) ∧ bt s (j : Int) ≤ 57) → pantographref01_Number.l0 m s (k : Int) = some (num s) := by
  intro m
  induction m with
  | zero => intro k _ h; omega
  | succ m ih =>
    intro k hk hm hb
    unfold pantographref01_Number.l0
    have hbad : ∀ (hh : k < s.size) (hn : ¬ (48 ≤ bt s (k : Int) ∧ bt s (k : Int) ≤ 57)), (some (0, 5) : Option (Int × Int)) = some (num s) := by
      intro hh hn
      unfold num
      rw [if_pos]
      refine .inr ?_
      cases hd : digs s with
      | false => rfl
      | true => exact absurd (digs_at hd k hh) hn
    by_cases hlt : k < s.size
    · rw [if_pos (by omega), if_pos (by omega)]
      by_cases c1 : bt s (k : Int) < 48
      · rw [if_pos c1]; exact hbad hlt (by omega)
      · rw [if_neg c1]
        by_cases c2 : bt s (k : Int) > 57
        · rw [if_pos c2]; exact hbad hlt (by omega)
        · rw [if_neg c2, wr_n k (by omega)]
          refine ih (k + 1) (by omega) (by omega) (fun j hj => ?_)
          rcases Nat.lt_or_ge j k with h | h
          · exact hb j h
          · obtain rfl : j = k := by omega
            omega
    · obtain rfl : k = s.size := by omega
      rw [if_neg (by omega)]
      have hd := digs_of hb
      have hz : vl s 0 = 0 := rfl
      have := refnum1 s hd hs m 0 (Nat.zero_le _) (by omega) (by omega) (by omega)
      rw [show num s = (if vl s s.size > 9223372036854775807 then (0, 6) else (vl s s.size, 0)) from by unfold num; rw [if_neg]; rw [hd]; simp only [Bool.true_eq_false, or_false]; omega]
      exact this
theorem refnum_f (s : ByteArray) (hs : s.size ≤ 1000000) (k : Nat) (hk : 2 * s.size + 3 ≤ k) : pantographref01_Number.f k s = some (num s) := by
  unfold pantographref01_Number.f
  by_cases h0 : s.size = 0
  · rw [if_pos ((empty_iff s).2 h0)]
    unfold num
    rw [if_pos (.inl h0)]
  · rw [if_neg (fun e => h0 ((empty_iff s).1 e))]
    exact refnum0 s hs (by omega) k 0 (Nat.zero_le _) (by omega) (fun j hj => by omega)
end Go.Proofs.YtmmbpbamkiheaaaDoor.Tx
