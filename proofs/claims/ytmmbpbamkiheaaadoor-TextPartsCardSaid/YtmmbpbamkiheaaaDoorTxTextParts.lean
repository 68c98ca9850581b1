/- TextParts: the walk. -/
import Derived.Test.YtmmbpbamkiheaaaDoorTp
import Derived.OpenShut
set_option linter.unusedVariables false
set_option linter.unusedSimpArgs false
namespace Go.Proofs.YtmmbpbamkiheaaaDoor.Tx
open Go.RowKit Go.Proofs.YtmmbpbamkiheaaaDoorW.PrintWords Go.Proofs.YtmmbpbamkiheaaaDoorW.PrintLast Go.Proofs.YtmmbpbamkiheaaaDoorW.PrintMore Go.Proofs.YtmmbpbamkiheaaaDoor.R
theorem at_s {W : World} {A : Option Addr} {l : List ByteArray} (h : Kd.C Kd.string W A l.length l) (k : Nat) (hk : k < l.length) : ∃ ad, A = some ad ∧ W.cell? (ad.add k) = some (.string l[k]) := by
  obtain ⟨ad, hA, hc⟩ := Kd.at_string h (k : Int) (by omega) (by omega)
  refine ⟨ad, hA, ?_⟩
  rw [show ((k : Int)).toNat = k from by omega] at hc
  rw [hc]
  rw [show rdOf ByteArray.empty l (k : Int) = l.getD (k : Int).toNat ByteArray.empty from rfl]
  simp [hk]
theorem ext_size (s : ByteArray) (k : Nat) (hk : k ≤ s.size) : (s.extract 0 k).size = k := by rw [ByteArray.size_extract]; omega
theorem ext_on (s : ByteArray) (k n : Nat) (hk : k + n ≤ s.size) : s.extract 0 k ++ s.extract k (k + n) = s.extract 0 (k + n) := by
  apply ByteArray.ext
  apply Array.toList_inj.1
  simp only [ByteArray.data_append, ByteArray.data_extract, Array.toList_append, Array.toList_extract, List.extract_eq_take_drop, List.drop_zero]
  rw [show k + n - k = n by omega, Nat.sub_zero, Nat.sub_zero, List.take_add]
theorem ext_one (s : ByteArray) (k : Nat) (hk : k < s.size) (c : UInt8) (hc : bt s (k : Int) = (c.toNat : Int)) : s.extract 0 k ++ ⟨#[c]⟩ = s.extract 0 (k + 1) := by
  rw [← ext_on s k 1 (by omega)]
  congr 1
  apply ByteArray.ext
  apply Array.toList_inj.1
  have hl : k < s.data.toList.length := by rw [data_length]; exact hk
  have hb : s.data.toList[k] = c := by
    apply UInt8.toNat_inj.1
    have := bt_get s k hl
    omega
  simp only [ByteArray.data_extract, Array.toList_extract, List.extract_eq_take_drop]
  rw [show k + 1 - k = 1 by omega, List.drop_eq_getElem_cons hl, List.take_succ_cons, List.take_zero, hb]
theorem conv1 (W : World) (cb : UInt8) : (convert 55 9 (.slice (some ⟨W.heap.size, 0, none⟩) 1 1)).run Tryd.prog (W.alloc (.cells #[.int .u8 cb.toNat] 5)) = .ok (.string ⟨#[cb]⟩) (W.alloc (.cells #[.int .u8 cb.toNat] 5)) := by
  refine run_convert_bytes_back (W.alloc (.cells #[.int .u8 cb.toNat] 5)) 55 9 5 ⟨W.heap.size, 0, none⟩ 1 [cb] Tryd.underlying55 Tryd.underlying5 Tryd.underlying9 ?_
  intro j hj
  obtain rfl : j = 0 := by simp at hj; omega
  have hb := alloc_new W (.cells #[.int .u8 cb.toNat] 5)
  exact (blk_cell hb 0).trans rfl
def PtRel (w : World) (g : Nat) (s : ByteArray) (all i : Value) (wr : World) : Prop :=
  ∃ (k j : Nat) (X : ByteArray), i = .int .i64 j ∧ all = .string X ∧ X = s.extract 0 k ∧ k ≤ s.size ∧ j ≤ k ∧ Cu g s k wr ∧ Below w.heap.size w wr
set_option maxHeartbeats 8000000 in
set_option maxRecDepth 1000000 in
theorem textParts (s : ByteArray) (A : Option Addr) (c : Nat) (l : List ByteArray) (w : World) (ht : Tab w) (hr : Kd.C Kd.string w A l.length l) (hc : l.length ≤ c) (hs : s.size ≤ 140737488351232) (ho : ∀ x ∈ l, x.size ≤ maxLen) : Calls Tryd.prog 10 #[.string s, .slice A l.length c] w (RetB (.bool true) w) := by
  have HT := Lib.hid ht
  have HR := Lib.hid hr
  clear ht hr hc ho
  by_cases h5 : s.size ≤ 2000
  · go_enter Tryd.func10, Tryd.ntmps10
    go_wp2_with (first | (go_at_call 20; go_must (refine (new_any s _).mono ?_)))
    rintro e w1 ⟨g, rfl, hc, hg, hb⟩
    have HC1 := Lib.hid hc
    have HG := Lib.hid hg
    have HB1 := Lib.hid hb
    clear hc hg hb
    go_wp2
    go_loopw [6, 7] (fun all i wr => PtRel w g s all i wr) (fun _ i _ => s.size + 1 - (intOf i).toNat)
    case atStart => exact ⟨0, 0, ⟨#[]⟩, rfl, rfl, by apply ByteArray.ext; simp, Nat.zero_le _, Nat.le_refl _, HC1.out, HB1.out⟩
    case round =>
      obtain ⟨k, j, X, rfl, rfl, hX, hk, hj, hcu, hbl⟩ := hrel
      have hXs : X.size = k := by rw [hX]; exact ext_size s k hk
      have HX := Lib.hid hX
      have HC := Lib.hid hcu
      have HB := Lib.hid hbl
      clear hX hcu hbl HC1 HB1
      by_cases hlt : k < s.size
      · by_cases hjl : j < l.length
        · obtain ⟨ad, rfl, hcell⟩ := at_s (Kd.C_below HR.out HB.out) j hjl
          have hwl := whN_le s l[j] k hk
          obtain ⟨n, hn⟩ : ∃ n, n = whN s l[j] k := ⟨_, rfl⟩
          obtain ⟨Y, hY⟩ : ∃ Y, Y = s.extract k (k + n) := ⟨_, rfl⟩
          have hYs : Y.size = n := by rw [hY, ByteArray.size_extract]; omega
          have hov : (9223372036854775807 < k + n) = False := eq_false (by omega)
          have hkn : k + n ≤ s.size := by omega
          have HN := Lib.hid hn
          have HY := Lib.hid hY
          clear hn hY
          go_wp2_with (first | (go_at_call 26; go_must (refine (while_any g s k l[j] _ HC.out (by omega) hk).mono ?_); rintro e w2 ⟨rfl, hc2, ha2⟩; rw [← HN.out] at hc2; rw [← HN.out, ← HY.out]; have HC2 := Lib.hid hc2; have HB2 := Lib.hid (ha2.below HB.out HG.out); clear hc2 ha2))
          obtain ⟨q, hq⟩ : ∃ q, q = k + n := ⟨_, rfl⟩
          have hqle : q ≤ s.size := by omega
          have hZ0 : X ++ Y = s.extract 0 q := by rw [HX.out, HY.out, hq]; exact ext_on s k n hkn
          have hZ1 : (X ++ Y).size = q := by rw [hZ0]; exact ext_size s q hqle
          have HCq : Hid (Cu g s q w2) := Lib.hid (hq ▸ HC2.out)
          generalize X ++ Y = Z at *
          have HZ := Lib.hid hZ0
          clear hZ0 hXs hYs
          by_cases hqs : q < s.size
          · obtain ⟨b0, b1⟩ := bt_u8 s (q : Int)
            obtain ⟨cb, hcb⟩ : ∃ cb : UInt8, bt s (q : Int) = (cb.toNat : Int) := ⟨UInt8.ofNat (bt s (q : Int)).toNat, by rw [UInt8.toNat_ofNat']; omega⟩
            have hov2 : (9223372036854775807 < q + 1) = False := eq_false (by omega)
            have HZ2 := Lib.hid (show Z ++ ⟨#[cb]⟩ = s.extract 0 (q + 1) from by rw [HZ.out]; exact ext_one s q hqs cb hcb)
            go_wp2_with (first | (go_at_call 24; go_must (refine (next_in g s q _ HCq.out (by omega) hqs).mono ?_); rintro e w3 ⟨rfl, hc3, ha3⟩; rw [hcb]; have HC3 := Lib.hid hc3; have HB3 := Lib.hid (ha3.below HB2.out HG.out); clear hc3 ha3; have hcv := conv1 w3 cb))
            go_round
            · exact ⟨q + 1, j + 1, Z ++ ⟨#[cb]⟩, by simp, rfl, HZ2.out, by omega, by omega, HC3.out.below (below_alloc (Below.refl _ _) _), below_alloc HB3.out _⟩
            · simp only [intOf]; omega
          · have hqe : q = s.size := by omega
            have HCE : Hid (Cu g s s.size w2) := Lib.hid (hqe ▸ HCq.out)
            go_wp2_with (first | (go_at_call 24; go_must (refine (next_end g s _ HCE.out (by omega)).mono ?_); rintro e w3 ⟨rfl, m3, rfl⟩))
            go_round
            · exact ⟨q, j + 1, Z, by simp, rfl, HZ.out, by omega, by omega, HCq.out.drewN _, pw_below_drewN HB2.out _⟩
            · simp only [intOf]; omega
        · have hjl2 : l.length ≤ j := by omega
          clear hjl
          by_cases hqs : k < s.size
          · obtain ⟨b0, b1⟩ := bt_u8 s (k : Int)
            obtain ⟨cb, hcb⟩ : ∃ cb : UInt8, bt s (k : Int) = (cb.toNat : Int) := ⟨UInt8.ofNat (bt s (k : Int)).toNat, by rw [UInt8.toNat_ofNat']; omega⟩
            have hov2 : (9223372036854775807 < k + 1) = False := eq_false (by omega)
            have HZ2 := Lib.hid (show X ++ ⟨#[cb]⟩ = s.extract 0 (k + 1) from by rw [HX.out]; exact ext_one s k hqs cb hcb)
            go_wp2_with (first | (go_at_call 24; go_must (refine (next_in g s k _ HC.out (by omega) hqs).mono ?_); rintro e w3 ⟨rfl, hc3, ha3⟩; rw [hcb]; have HC3 := Lib.hid hc3; have HB3 := Lib.hid (ha3.below HB.out HG.out); clear hc3 ha3; have hcv := conv1 w3 cb))
            go_round
            · exact ⟨k + 1, j + 1, X ++ ⟨#[cb]⟩, by simp, rfl, HZ2.out, by omega, by omega, HC3.out.below (below_alloc (Below.refl _ _) _), below_alloc HB3.out _⟩
            · simp only [intOf]; omega
          · omega
      · obtain rfl : k = s.size := by omega
        have hXe : X = s := by rw [HX.out]; exact ByteArray.extract_zero_size
        subst hXe
        clear HX
        go_wp2_with (first | (go_at_call 24; go_must (refine (next_end g X _ HC.out (by omega)).mono ?_); rintro e w3 ⟨rfl, m3, rfl⟩; have HB3 := Lib.hid (pw_below_drewN HB.out m3)) | (go_at_call 11; go_must (refine (awake _ (tab_below HT.out HB3.out)).mono ?_); rintro e w9 ⟨rfl, hb⟩; have HB9 := Lib.hid (below_weaken HB3.out HB3.out.size hb); clear hb))
        go_ret
        exact ⟨rfl, HB9.out⟩
  · go_enter Tryd.func10, Tryd.ntmps10
    go_wp2_with (first | (go_at_call 11; go_must (refine (awake _ HT.out).mono ?_); rintro e w9 ⟨rfl, hb⟩; have HB9 := Lib.hid hb; clear hb))
    go_ret
    exact ⟨rfl, HB9.out⟩
end Go.Proofs.YtmmbpbamkiheaaaDoor.Tx
