/- The document's At, Has; While. -/
import Derived.Test.YtmmbpbamkiheaaaDoorTa
set_option linter.unusedVariables false
set_option linter.unusedSimpArgs false
namespace Go.Proofs.YtmmbpbamkiheaaaDoor.Tx
open Go.RowKit Go.Proofs.YtmmbpbamkiheaaaDoorW.PrintWords Go.Proofs.YtmmbpbamkiheaaaDoorW.PrintLast Go.Proofs.YtmmbpbamkiheaaaDoorW.PrintMore Go.Proofs.YtmmbpbamkiheaaaDoor.R
theorem skN_le (s : ByteArray) (k : Nat) (n : Int) (hk : k ≤ s.size) : k + skN s k n ≤ s.size := by unfold skN; omega
theorem refat_loop (s : ByteArray) (n : Int) (hs : s.size ≤ 1000000) : ∀ (m k : Nat), k ≤ skN s 0 n → 2 * (s.size - k) + 2 ≤ m → pantographref01_At.l0 m s n (k : Int) (k : Int) (ln s k) (cl s k) = some (((skN s 0 n : Nat) : Int), ((ln s (skN s 0 n) : Nat) : Int), ((cl s (skN s 0 n) : Nat) : Int)) := by
  intro m
  induction m using Nat.strongRecOn with
  | _ m ih =>
    intro k hk hm
    have hle := skN_le s 0 n (Nat.zero_le _)
    obtain ⟨m, rfl⟩ : ∃ m', m = m' + 1 + 1 := ⟨m - 2, by omega⟩
    unfold pantographref01_At.l0
    have h1 := ln_le s k
    have h2 := cl_le s k
    by_cases hlt : k < skN s 0 n
    · have hn : (k : Int) < n ∧ k < s.size := by unfold skN at hlt; omega
      rw [if_pos (by omega), decide_eq_true hn.1, pantographref01_At.j1, if_pos rfl, if_pos (by omega), if_pos (by omega), wr_n k (by omega), wr_n (cl s k) (by omega), wr_n (ln s k) (by omega)]
      have := ih m (by omega) (k + 1) (by omega) (by omega)
      by_cases h10 : bt s (k : Int) = 10
      · rw [if_pos h10]
        rw [show ln s (k + 1) = ln s k + 1 from by rw [ln, if_pos h10], show cl s (k + 1) = 0 from by rw [cl, if_pos h10]] at this
        exact this
      · rw [if_neg h10]
        rw [show ln s (k + 1) = ln s k from by rw [ln, if_neg h10], show cl s (k + 1) = cl s k + 1 from by rw [cl, if_neg h10]] at this
        exact this
    · obtain rfl : k = skN s 0 n := by omega
      generalize hq : skN s 0 n = q at *
      have hq2 : n ≤ q ∨ q = s.size := by unfold skN at hq; omega
      by_cases hqs : (q : Int) < (s.size : Int)
      · rw [if_pos hqs, decide_eq_false (by omega), pantographref01_At.j1, if_neg (by simp)]
      · rw [if_neg hqs, pantographref01_At.j1, if_neg (by simp)]
theorem refat_f (s : ByteArray) (n : Int) (hs : s.size ≤ 1000000) (m : Nat) (hm : 2 * s.size + 2 ≤ m) : pantographref01_At.f m s n = some (((skN s 0 n : Nat) : Int), ((ln s (skN s 0 n) : Nat) : Int), ((cl s (skN s 0 n) : Nat) : Int)) := by
  have := refat_loop s n hs m 0 (Nat.zero_le _) (by omega)
  exact this
theorem refat_any (s : ByteArray) (n : Int) (hs : s.size ≤ 1000000) (w : World) : Calls Tryd.prog 19 #[.string s, .int .i64 n] w fun e w' => e = .returned (posV s (skN s 0 n)) ∧ Below w.heap.size w w' :=
  pantographref01_At.calls (2 * s.size + 2) s n _ _ _ w (refat_f s n hs _ (Nat.le_refl _))
/-! ### Has -/
def inS (set : ByteArray) (c : Int) : Bool := set.data.toList.any fun b => decide ((b.toNat : Int) = c)
theorem bt_get (s : ByteArray) (j : Nat) (h : j < s.data.toList.length) : bt s (j : Int) = (s.data.toList[j].toNat : Int) := by
  unfold bt
  rw [Int.toNat_natCast, dif_pos (by rw [← data_length]; exact h : j < s.size)]
  rfl
theorem refhas_loop (set : ByteArray) (c : Int) (hs : set.size ≤ 9223372036854775806) : ∀ (m k : Nat), k ≤ set.size → set.size - k < m → pantographref01_Has.l0 m set c (k : Int) = some ((set.data.toList.drop k).any fun b => decide ((b.toNat : Int) = c)) := by
  intro m
  induction m with
  | zero => intro k _ h; omega
  | succ m ih =>
    intro k hk hm
    unfold pantographref01_Has.l0
    have hln := data_length set
    by_cases hlt : k < set.size
    · have hl : k < set.data.toList.length := by omega
      rw [if_pos (by omega), if_pos (by omega), bt_get set k hl, wr_n k (by omega), List.drop_eq_getElem_cons hl, List.any_cons]
      by_cases he : (set.data.toList[k].toNat : Int) = c
      · rw [if_pos he, decide_eq_true he]; rfl
      · rw [if_neg he, decide_eq_false he, ih (k + 1) (by omega) (by omega)]; rfl
    · rw [if_neg (by omega), List.drop_of_length_le (by omega)]; rfl
theorem refhas_any (set : ByteArray) (c : Int) (hs : set.size ≤ 9223372036854775806) (w : World) : Calls Tryd.prog 25 #[.string set, .int .u8 c] w fun e w' => e = .returned (.bool (inS set c)) ∧ Drawn0 w w' := by
  have := refhas_loop set c hs (set.size + 1) 0 (Nat.zero_le _) (by omega)
  exact pantographref01_Has.calls (set.size + 1) set c _ w this
/-! ### While -/
def whF (s set : ByteArray) : Nat → Nat → Nat
  | 0, _ => 0
  | f + 1, k => if inS set (bt s (k : Int)) = true then whF s set f (k + 1) + 1 else 0
def whN (s set : ByteArray) (k : Nat) : Nat := whF s set (s.size - k) k
theorem whF_ok (s set : ByteArray) : ∀ (f k : Nat), whF s set f k ≤ f ∧ (∀ j, j < whF s set f k → inS set (bt s ((k + j : Nat) : Int)) = true) ∧ (whF s set f k < f → inS set (bt s ((k + whF s set f k : Nat) : Int)) = false) := by
  intro f
  induction f with
  | zero => intro k; exact ⟨Nat.le_refl _, fun j hj => absurd hj (Nat.not_lt_zero _), fun h => absurd h (Nat.not_lt_zero _)⟩
  | succ f ih =>
    intro k
    obtain ⟨h1, h2, h3⟩ := ih (k + 1)
    rw [whF]
    by_cases hc : inS set (bt s (k : Int)) = true
    · rw [if_pos hc]
      refine ⟨by omega, fun j hj => ?_, fun hlt => ?_⟩
      · cases j with
        | zero => exact hc
        | succ j =>
          have := h2 j (by omega)
          rw [show k + (j + 1) = k + 1 + j by omega]; exact this
      · have := h3 (by omega)
        rw [show k + (whF s set f (k + 1) + 1) = k + 1 + whF s set f (k + 1) by omega]; exact this
    · rw [if_neg hc]
      refine ⟨Nat.zero_le _, fun j hj => absurd hj (Nat.not_lt_zero _), fun _ => ?_⟩
      simpa using hc
theorem whN_le (s set : ByteArray) (k : Nat) (hk : k ≤ s.size) : k + whN s set k ≤ s.size := by
  have := (whF_ok s set (s.size - k) k).1
  unfold whN; omega
theorem whN_in (s set : ByteArray) (k j : Nat) (hj : j < whN s set k) : inS set (bt s ((k + j : Nat) : Int)) = true := (whF_ok s set (s.size - k) k).2.1 j hj
theorem whN_out (s set : ByteArray) (k : Nat) (hk : k + whN s set k < s.size) : inS set (bt s ((k + whN s set k : Nat) : Int)) = false :=
  (whF_ok s set (s.size - k) k).2.2 (by unfold whN at hk; omega)
theorem index_neg_list (c : Int) (h0 : 0 ≤ c) (h1 : c ≤ 255) : ∀ l : List UInt8, (Lib.indexByte l c.toNat.toUInt8 = -1 ∧ (l.any fun b => decide ((b.toNat : Int) = c)) = false) ∨ (0 ≤ Lib.indexByte l c.toNat.toUInt8 ∧ (l.any fun b => decide ((b.toNat : Int) = c)) = true)
  | [] => .inl ⟨rfl, rfl⟩
  | b :: l => by
    have hc : (c.toNat.toUInt8).toNat = c.toNat := by
      show (UInt8.ofNat c.toNat).toNat = _
      rw [UInt8.toNat_ofNat']; omega
    rw [Lib.indexByte, List.any_cons]
    by_cases he : (b.toNat : Int) = c
    · have hb : b = c.toNat.toUInt8 := UInt8.toNat_inj.1 (by omega)
      rw [if_pos (by simpa using hb), decide_eq_true he]
      exact .inr ⟨by omega, rfl⟩
    · have hb : ¬ b = c.toNat.toUInt8 := fun e => he (by have := congrArg UInt8.toNat e; omega)
      rw [if_neg (by simpa using hb), decide_eq_false he, Bool.false_or]
      rcases index_neg_list c h0 h1 l with ⟨h2, h3⟩ | ⟨h2, h3⟩
      · rw [if_pos (by simp [h2])]
        exact .inl ⟨rfl, h3⟩
      · rw [if_neg (fun h => by have := beq_iff_eq.mp h; omega)]
        exact .inr ⟨by omega, h3⟩
theorem index_in (set : ByteArray) (c : Int) (h0 : 0 ≤ c) (h1 : c ≤ 255) (h : inS set c = true) : 0 ≤ Lib.indexByte set.data.toList c.toNat.toUInt8 := by
  rcases index_neg_list c h0 h1 set.data.toList with ⟨h2, h3⟩ | ⟨h2, h3⟩
  · unfold inS at h; rw [h3] at h; cases h
  · exact h2
theorem index_out (set : ByteArray) (c : Int) (h0 : 0 ≤ c) (h1 : c ≤ 255) (h : inS set c = false) : Lib.indexByte set.data.toList c.toNat.toUInt8 = -1 := by
  rcases index_neg_list c h0 h1 set.data.toList with ⟨h2, h3⟩ | ⟨h2, h3⟩
  · exact h2
  · unfold inS at h; rw [h3] at h; cases h
def WhRel (w : World) (m : Nat) (i : Value) (wr : World) : Prop := ∃ j q : Nat, i = .int .i64 j ∧ j ≤ m ∧ wr = w.drewN q
set_option maxHeartbeats 4000000 in
set_option maxRecDepth 1000000 in
theorem while_any (g : Nat) (s : ByteArray) (k : Nat) (set : ByteArray) (w : World) (h : Cu g s k w) (hs : s.size ≤ 1000000) (hk : k ≤ s.size) :
    Calls Tryd.prog 26 #[.pointer (some ⟨g, 0, none⟩), .string set] w fun e w' => e = .returned (.string (s.extract k (k + whN s set k))) ∧ Cu g s (k + whN s set k) w' ∧ At1 g w w' := by
  have H := Lib.hid h
  have hle := whN_le s set k hk
  have HIN := Lib.hid (whN_in s set k)
  have HOUT := Lib.hid (whN_out s set k)
  generalize hm : whN s set k = m at *
  clear h
  go_enter Tryd.func26, Tryd.ntmps26
  go_wp2
  go_loopw [5] (fun i wr => WhRel w m i wr) (fun i _ => m + 1 - (intOf i).toNat)
  case atStart => exact ⟨0, 0, rfl, Nat.zero_le _, rfl⟩
  case round =>
    obtain ⟨j, q, rfl, hj, rfl⟩ := hrel
    have HP := Lib.hid (peek_any g s k j (w.drewN q) (H.out.drewN q) hs hk)
    by_cases hend : k + j < s.size
    · have hpk : Pk s k (j : Int) = .tuple #[.int .u8 (bt s ((k + j : Nat) : Int)), .bool true] := by
        unfold Pk
        rw [if_pos ⟨by omega, by omega⟩, show (k : Int) + (j : Int) = ((k + j : Nat) : Int) by omega]
      have HPK := Lib.hid hpk
      clear hpk
      obtain ⟨hb0, hb1⟩ := bt_u8 s ((k + j : Nat) : Int)
      by_cases hlt : j < m
      · have hix := index_in set _ hb0 hb1 (HIN.out j hlt)
        have hix2 := eq_true hix
        have hix3 : (Lib.indexByte set.data.toList (bt s ((k + j : Nat) : Int)).toNat.toUInt8 < 0) = False := eq_false (by omega)
        generalize hbv : bt s ((k + j : Nat) : Int) = bv at *
        go_wp2_with (first
          | (go_at_call 23; go_must (refine (HP.out).mono ?_); rintro e w1 ⟨rfl, n, rfl⟩; rw [HPK.out])
          | (go_at_call 31; go_must (refine (Tryd.strings_IndexByte set bv _).mono ?_); rintro e w2 ⟨rfl, rfl⟩))
        go_round
        · exact ⟨j + 1, q + n, by simp, by omega, rfl⟩
        · simp only [intOf]; omega
      · have hjm : j = m := by omega
        subst hjm
        have hix := index_out set _ hb0 hb1 (HOUT.out hend)
        generalize hbv : bt s ((k + j : Nat) : Int) = bv at *
        by_cases hm0 : j = 0
        · subst hm0
          go_wp2_with (first | (go_at_call 23; go_must (refine (HP.out).mono ?_); rintro e w1 ⟨rfl, n, rfl⟩; rw [HPK.out]) | (go_at_call 31; go_must (refine (Tryd.strings_IndexByte set bv _).mono ?_); rintro e w2 ⟨rfl, rfl⟩))
          go_ret
          refine ⟨?_, (H.out.drewN _ : Cu g s k _), At1.drewN _ _ _⟩
          rw [show s.extract k (k + 0) = ⟨#[]⟩ from by apply ByteArray.ext; simp]
          rfl
        · have hz1 : ((j : Int) == 0) = false := by simpa using hm0
          have hz2 : (j : Int) ≠ 0 := by omega
          obtain ⟨c0, c1, c2, c3⟩ := cu_cells H.out
          have hsk : skN s k (j : Int) = j := by unfold skN; omega
          have hsl1 : ((k : Int) ≤ ((k + j : Nat) : Int)) := by omega
          have hsl2 : (((k + j : Nat) : Int) ≤ (s.size : Int)) := by omega
          have hsl3 : (k : Int) ≤ (k : Int) + (j : Int) := by omega
          have hsl4 : (k : Int) + (j : Int) ≤ (s.size : Int) := by omega
          go_wp2_with (first | (go_at_call 23; go_must (refine (HP.out).mono ?_); rintro e w1 ⟨rfl, n, rfl⟩; rw [HPK.out]) | (go_at_call 31; go_must (refine (Tryd.strings_IndexByte set bv _).mono ?_); rintro e w2 ⟨rfl, rfl⟩) | (go_at_call 21; go_must (refine (skip_any g s k (j : Int) _ (H.out.drewN _) hs hk).mono ?_); rintro e w3 ⟨rfl, hc, ha⟩; rw [hsk] at hc; have HC := Lib.hid hc; have HA := Lib.hid ((At1.drewN g w _).trans ha); clear hc ha c0 c1 c2 c3; obtain ⟨c0, c1, c2, c3⟩ := cu_cells HC.out))
          go_quiet (fail)
          go_wp2
          go_ret
          exact ⟨rfl, HC.out.drewN _, HA.out.trans (At1.drewN _ _ _)⟩
    · have hpk : Pk s k (j : Int) = .tuple #[.int .u8 0, .bool false] := by
        unfold Pk
        rw [if_neg (by omega)]
      have HPK := Lib.hid hpk
      clear hpk
      have hjm : j = m := by omega
      subst hjm
      by_cases hm0 : j = 0
      · subst hm0
        go_wp2_with (first | (go_at_call 23; go_must (refine (HP.out).mono ?_); rintro e w1 ⟨rfl, n, rfl⟩; rw [HPK.out]))
        go_ret
        refine ⟨?_, (H.out.drewN _ : Cu g s k _), At1.drewN _ _ _⟩
        rw [show s.extract k (k + 0) = ⟨#[]⟩ from by apply ByteArray.ext; simp]
        rfl
      · have hz1 : ((j : Int) == 0) = false := by simpa using hm0
        have hz2 : (j : Int) ≠ 0 := by omega
        obtain ⟨c0, c1, c2, c3⟩ := cu_cells H.out
        have hsk : skN s k (j : Int) = j := by unfold skN; omega
        have hsl1 : ((k : Int) ≤ ((k + j : Nat) : Int)) := by omega
        have hsl2 : (((k + j : Nat) : Int) ≤ (s.size : Int)) := by omega
        have hsl3 : (k : Int) ≤ (k : Int) + (j : Int) := by omega
        have hsl4 : (k : Int) + (j : Int) ≤ (s.size : Int) := by omega
        go_wp2_with (first | (go_at_call 23; go_must (refine (HP.out).mono ?_); rintro e w1 ⟨rfl, n, rfl⟩; rw [HPK.out]) | (go_at_call 21; go_must (refine (skip_any g s k (j : Int) _ (H.out.drewN _) hs hk).mono ?_); rintro e w3 ⟨rfl, hc, ha⟩; rw [hsk] at hc; have HC := Lib.hid hc; have HA := Lib.hid ((At1.drewN g w _).trans ha); clear hc ha c0 c1 c2 c3; obtain ⟨c0, c1, c2, c3⟩ := cu_cells HC.out))
        go_quiet (fail)
        go_wp2
        go_ret
        exact ⟨rfl, HC.out.drewN _, HA.out.trans (At1.drewN _ _ _)⟩
end Go.Proofs.YtmmbpbamkiheaaaDoor.Tx
