/- TextGoes: the walk. -/
import Derived.Test.YtmmbpbamkiheaaaDoorTg
import Derived.OpenShut
set_option linter.unusedVariables false
set_option linter.unusedSimpArgs false
namespace Go.Proofs.YtmmbpbamkiheaaaDoor.Tx
open Go.RowKit Go.Proofs.YtmmbpbamkiheaaaDoorW.PrintWords Go.Proofs.YtmmbpbamkiheaaaDoorW.PrintLast Go.Proofs.YtmmbpbamkiheaaaDoorW.PrintMore Go.Proofs.YtmmbpbamkiheaaaDoor.R
attribute [local go_sem] max2_int min2_int max_two min_two
theorem skN_all (s : ByteArray) (k : Nat) (hk : k ≤ s.size) : skN s 0 ((k : Nat) : Int) = k := by unfold skN; omega
def GoRel (w : World) (g : Nat) (s : ByteArray) (a i : Value) (wr : World) : Prop :=
  ∃ k j : Nat, a = .int .i64 k ∧ i = .int .i64 j ∧ k ≤ s.size ∧ Cu g s k wr ∧ Below w.heap.size w wr
def WtRel (W : World) (k n : Nat) (a : Value) (wr : World) : Prop := ∃ i m : Nat, a = .int .i64 ((k + i : Nat) : Int) ∧ i ≤ n ∧ wr = W.drewN m
set_option maxHeartbeats 16000000 in
set_option maxRecDepth 1000000 in
theorem textGoes (s : ByteArray) (A : Option Addr) (c : Nat) (l : List ActS) (w : World) (ht : Tab w) (hr : Kd.C kAct w A l.length l) (hc : l.length ≤ c) (hs : s.size ≤ 140737488351232) (ho : ∀ x ∈ l, (Lit.int .i64 x.f0).wf = true ∧ (Lit.int .i64 x.f1).wf = true ∧ x.f2.size ≤ maxLen) : Calls Tryd.prog 8 #[.string s, .slice A l.length c] w (RetB (.bool true) w) := by
  have HT := Lib.hid ht
  have HR := Lib.hid hr
  have HO := Lib.hid ho
  clear ht hr ho
  by_cases h5 : s.size ≤ 5000
  · go_enter Tryd.func8, Tryd.ntmps8
    go_wp2_with (first | (go_at_call 20; go_must (refine (new_any s _).mono ?_)))
    rintro e w1 ⟨g, rfl, hc, hg, hb⟩
    have HC1 := Lib.hid hc
    have HG := Lib.hid hg
    have HB1 := Lib.hid hb
    clear hc hg hb
    go_wp2
    go_loopw [6, 7] (fun a i wr => GoRel w g s a i wr) (fun _ i _ => 200 - (intOf i).toNat)
    case atStart => exact ⟨0, 0, rfl, rfl, Nat.zero_le _, HC1.out, HB1.out⟩
    case round =>
      obtain ⟨k, j, rfl, rfl, hk, hcu, hbl⟩ := hrel
      have HC := Lib.hid hcu
      have HB := Lib.hid hbl
      clear hcu hbl HC1 HB1
      by_cases hlt : j < l.length ∧ j < 100
      · obtain ⟨hjl, hj1⟩ := hlt
        obtain ⟨ad, rfl, e0, e1, e2⟩ := at_act (Kd.C_below HR.out HB.out) j hjl
        obtain ⟨hw0, hw1', hsz0⟩ := HO.out l[j] (List.getElem_mem _)
        have hsz : l[j].f2.size ≤ 9223372036854775807 := Nat.le_trans hsz0 (by decide)
        clear hw0 hw1' hsz0
        obtain ⟨r, hr3, hp⟩ := pick4 l[j].f0
        have HP := Lib.hid hp
        clear hp
        obtain ⟨W2, hW2⟩ : ∃ W2, W2 = wr.alloc (.cells #[.int .i64 l[j].f0, .int .i64 l[j].f1, .string l[j].f2] 47) := ⟨_, rfl⟩
        obtain ⟨b, hbk⟩ : ∃ b, b = wr.heap.size := ⟨_, rfl⟩
        have HA2 : Hid (Ax b l[j].f0 l[j].f1 l[j].f2 W2) := Lib.hid (by rw [hW2, hbk]; exact alloc_new wr _)
        have hal : Below wr.heap.size wr W2 := by rw [hW2]; exact below_alloc (Below.refl _ _) _
        have HC2 := Lib.hid (HC.out.below hal)
        have HB2 := Lib.hid (below_weaken HB.out HB.out.size hal)
        have HNB := Lib.hid (show b ≠ g from fun e => by have := HC.out.lt; omega)
        have HW2 := Lib.hid hW2
        have HBK := Lib.hid hbk
        clear hal hW2 hbk
        go_wp2_with (first | (go_at_call 16; go_must (refine (pantographref01_Pick.calls l[j].f0 4 (r : Int) _ HP.out).mono ?_)))
        rintro e w3 ⟨rfl, hd⟩
        obtain ⟨m3, rfl⟩ := hd.out
        rw [← HW2.out, ← HBK.out]
        clear hd HP HW2 HC HB e0 e1 e2
        generalize l[j].f1 = N at *
        generalize l[j].f2 = F at *
        generalize l[j].f0 = KK at *
        rcases (show r = 0 ∨ r = 1 ∨ r = 2 ∨ r = 3 by omega) with rfl | rfl | rfl | rfl
        · skip
          obtain ⟨d0, d1, d2⟩ := HA2.out.cells
          by_cases hin : 0 ≤ N ∧ (k : Int) + N < s.size
          · obtain ⟨hn0, hn1⟩ := hin
            obtain ⟨M, rfl⟩ := Int.eq_ofNat_of_zero_le hn0
            obtain ⟨q, hq⟩ : ∃ q, q = k + M := ⟨_, rfl⟩
            have hw1 : wrap64 ((k : Int) + (M : Int)) = (q : Int) := by unfold wrap64; omega
            have hw2 : wrap64 ((s.size : Int) - (k : Int)) = (s.size : Int) - (k : Int) := by unfold wrap64; omega
            have hd1 : decide ((M : Int) < (s.size : Int) - (k : Int)) = true := decide_eq_true (by omega)
            have hd2 : ((M : Int) < (s.size : Int) - (k : Int)) = True := eq_true (by omega)
            have hqs : q < s.size := by omega
            have hx := bt_at_nat s q
            have HPK := Lib.hid (show Pk s k (M : Int) = .tuple #[.int .u8 (bt s (q : Int)), .bool true] from by unfold Pk; rw [if_pos ⟨hn0, hn1⟩, show (k : Int) + (M : Int) = (q : Int) by omega])
            have HQ := Lib.hid hq
            clear hq hn0 hn1
            go_wp2_with (first
              | (go_at_call 23; go_must (refine (peek_any g s k (M : Int) _ (HC2.out.drewN _) (by omega) hk).mono ?_); rintro e w4 ⟨rfl, m4, rfl⟩; rw [HPK.out]; have HC4 := Lib.hid (HC2.out.drewN (m3 + m4)); have HB4 := Lib.hid (pw_below_drewN HB2.out (m3 + m4)))
              | (go_at_call 22; go_must (refine (pos_any g s k _ HC4.out).mono ?_); rintro e w7 ⟨rfl, hb7⟩; have HC7 := Lib.hid (HC4.out.below hb7); have HB7 := Lib.hid (below_weaken HB4.out HB4.out.size hb7); clear hb7)
              | (go_at_call 19; go_must (refine (refat_any s ((k : Nat) : Int) (by omega) _).mono ?_); rintro e w8 ⟨rfl, hb8⟩; rw [skN_all s (k) (by omega)]; have HC8 := Lib.hid (HC7.out.below hb8); have HB8 := Lib.hid (below_weaken HB7.out HB7.out.size hb8); clear hb8 HC7 HB7; unfold posV))
            go_round
            · exact ⟨k, j + 1, by simp, by simp, by omega, HC8.out, HB8.out⟩
            · simp only [intOf]; omega
          · have HPK := Lib.hid (show Pk s k N = .tuple #[.int .u8 0, .bool false] from by unfold Pk; rw [if_neg hin])
            have hw2 : wrap64 ((s.size : Int) - (k : Int)) = (s.size : Int) - (k : Int) := by unfold wrap64; omega
            by_cases hn0 : 0 ≤ N
            · have hd1 : decide (N < (s.size : Int) - (k : Int)) = false := decide_eq_false (by omega)
              have hd2 : (N < (s.size : Int) - (k : Int)) = False := eq_false (by omega)
              clear hin
              go_wp2_with (first
                | (go_at_call 23; go_must (refine (peek_any g s k N _ (HC2.out.drewN _) (by omega) hk).mono ?_); rintro e w4 ⟨rfl, m4, rfl⟩; rw [HPK.out]; have HC4 := Lib.hid (HC2.out.drewN (m3 + m4)); have HB4 := Lib.hid (pw_below_drewN HB2.out (m3 + m4)))
                | (go_at_call 22; go_must (refine (pos_any g s k _ HC4.out).mono ?_); rintro e w7 ⟨rfl, hb7⟩; have HC7 := Lib.hid (HC4.out.below hb7); have HB7 := Lib.hid (below_weaken HB4.out HB4.out.size hb7); clear hb7)
                | (go_at_call 19; go_must (refine (refat_any s ((k : Nat) : Int) (by omega) _).mono ?_); rintro e w8 ⟨rfl, hb8⟩; rw [skN_all s (k) (by omega)]; have HC8 := Lib.hid (HC7.out.below hb8); have HB8 := Lib.hid (below_weaken HB7.out HB7.out.size hb8); clear hb8 HC7 HB7; unfold posV))
              go_round
              · exact ⟨k, j + 1, by simp, by simp, by omega, HC8.out, HB8.out⟩
              · simp only [intOf]; omega
            · have hn1 : (0 ≤ N) = False := eq_false hn0
              have hn2 : decide (0 ≤ N) = false := decide_eq_false hn0
              clear hin hn0
              go_wp2_with (first
                | (go_at_call 23; go_must (refine (peek_any g s k N _ (HC2.out.drewN _) (by omega) hk).mono ?_); rintro e w4 ⟨rfl, m4, rfl⟩; rw [HPK.out]; have HC4 := Lib.hid (HC2.out.drewN (m3 + m4)); have HB4 := Lib.hid (pw_below_drewN HB2.out (m3 + m4)))
                | (go_at_call 22; go_must (refine (pos_any g s k _ HC4.out).mono ?_); rintro e w7 ⟨rfl, hb7⟩; have HC7 := Lib.hid (HC4.out.below hb7); have HB7 := Lib.hid (below_weaken HB4.out HB4.out.size hb7); clear hb7)
                | (go_at_call 19; go_must (refine (refat_any s ((k : Nat) : Int) (by omega) _).mono ?_); rintro e w8 ⟨rfl, hb8⟩; rw [skN_all s (k) (by omega)]; have HC8 := Lib.hid (HC7.out.below hb8); have HB8 := Lib.hid (below_weaken HB7.out HB7.out.size hb8); clear hb8 HC7 HB7; unfold posV))
              go_round
              · exact ⟨k, j + 1, by simp, by simp, by omega, HC8.out, HB8.out⟩
              · simp only [intOf]; omega
        · skip
          obtain ⟨d0, d1, d2⟩ := HA2.out.cells
          by_cases hin : k < s.size
          · have hx := bt_at_nat s k
            obtain ⟨q, hq⟩ : ∃ q, q = k + 1 := ⟨_, rfl⟩
            have hq1 : (k : Int) + 1 = (q : Int) := by omega
            have hqs : q ≤ s.size := by omega
            have HQ := Lib.hid hq
            clear hq
            go_wp2_with (first
              | (go_at_call 24; go_must (refine (next_in g s k _ (HC2.out.drewN _) (by omega) hin).mono ?_); rintro e w4 ⟨rfl, hc4, ha4⟩; rw [← HQ.out] at hc4; have HC4 := Lib.hid hc4; have HB4 := Lib.hid (ha4.below (pw_below_drewN HB2.out _) HG.out); clear hc4 ha4)
              | (go_at_call 22; go_must (refine (pos_any g s q _ HC4.out).mono ?_); rintro e w7 ⟨rfl, hb7⟩; have HC7 := Lib.hid (HC4.out.below hb7); have HB7 := Lib.hid (below_weaken HB4.out HB4.out.size hb7); clear hb7)
              | (go_at_call 19; go_must (refine (refat_any s ((q : Nat) : Int) (by omega) _).mono ?_); rintro e w8 ⟨rfl, hb8⟩; rw [skN_all s (q) (by omega)]; have HC8 := Lib.hid (HC7.out.below hb8); have HB8 := Lib.hid (below_weaken HB7.out HB7.out.size hb8); clear hb8 HC7 HB7; unfold posV))
            go_round
            · exact ⟨q, j + 1, by simp, by simp, by omega, HC8.out, HB8.out⟩
            · simp only [intOf]; omega
          · have hke : k = s.size := by omega
            subst hke
            go_wp2_with (first
              | (go_at_call 24; go_must (refine (next_end g s _ (HC2.out.drewN _) (by omega)).mono ?_); rintro e w4 ⟨rfl, m4, rfl⟩; have HC4 := Lib.hid (HC2.out.drewN (m3 + m4)); have HB4 := Lib.hid (pw_below_drewN HB2.out (m3 + m4)))
              | (go_at_call 22; go_must (refine (pos_any g s s.size _ HC4.out).mono ?_); rintro e w7 ⟨rfl, hb7⟩; have HC7 := Lib.hid (HC4.out.below hb7); have HB7 := Lib.hid (below_weaken HB4.out HB4.out.size hb7); clear hb7)
              | (go_at_call 19; go_must (refine (refat_any s ((s.size : Nat) : Int) (by omega) _).mono ?_); rintro e w8 ⟨rfl, hb8⟩; rw [skN_all s (s.size) (by omega)]; have HC8 := Lib.hid (HC7.out.below hb8); have HB8 := Lib.hid (below_weaken HB7.out HB7.out.size hb8); clear hb8 HC7 HB7; unfold posV))
            go_round
            · exact ⟨s.size, j + 1, by simp, by simp, by omega, HC8.out, HB8.out⟩
            · simp only [intOf]; omega
        · skip
          obtain ⟨d0, d1, d2⟩ := HA2.out.cells
          obtain ⟨d, hd⟩ : ∃ d, d = s.size - k := ⟨_, rfl⟩
          have hw3 : (s.size : Int) - (k : Int) = (d : Int) := by omega
          have hw2 : wrap64 ((s.size : Int) - (k : Int)) = (d : Int) := by unfold wrap64; omega
          have HD := Lib.hid hd
          by_cases hn0 : N ≤ 0
          · have c1 : ((d : Int) < N) = False := eq_false (by omega)
            have c2 : ((0 : Int) < N) = False := eq_false (by omega)
            have HQ := Lib.hid (show skN s k N = 0 from by unfold skN; omega)
            clear hd
            go_wp2_with (first
              | (go_at_call 21; go_must (refine (skip_any g s k N _ (HC2.out.drewN _) (by omega) hk).mono ?_); rintro e w4 ⟨rfl, hc4, ha4⟩; rw [HQ.out, Nat.add_zero] at hc4; rw [HQ.out]; have HC4 := Lib.hid hc4; have HB4 := Lib.hid (ha4.below (pw_below_drewN HB2.out _) HG.out); clear hc4 ha4)
              | (go_at_call 22; go_must (refine (pos_any g s k _ HC4.out).mono ?_); rintro e w7 ⟨rfl, hb7⟩; have HC7 := Lib.hid (HC4.out.below hb7); have HB7 := Lib.hid (below_weaken HB4.out HB4.out.size hb7); clear hb7)
              | (go_at_call 19; go_must (refine (refat_any s ((k : Nat) : Int) (by omega) _).mono ?_); rintro e w8 ⟨rfl, hb8⟩; rw [skN_all s (k) (by omega)]; have HC8 := Lib.hid (HC7.out.below hb8); have HB8 := Lib.hid (below_weaken HB7.out HB7.out.size hb8); clear hb8 HC7 HB7; unfold posV))
            go_round
            · exact ⟨k, j + 1, by simp, by simp, by omega, HC8.out, HB8.out⟩
            · simp only [intOf]; omega
          · by_cases hnd : N ≤ d
            · obtain ⟨q, rfl⟩ := Int.eq_ofNat_of_zero_le (show 0 ≤ N by omega)
              have c1 : ((d : Int) < (q : Int)) = False := eq_false (by omega)
              have c1n : (d < q) = False := eq_false (by omega)
              have c2 : ((0 : Int) < (q : Int)) = True := eq_true (by omega)
              have c2n : (0 < q) = True := eq_true (by omega)
              obtain ⟨z, hz⟩ : ∃ z, z = k + q := ⟨_, rfl⟩
              have hz1 : (k : Int) + (q : Int) = (z : Int) := by omega
              have hzs : z ≤ s.size := by omega
              have HZ := Lib.hid hz
              have HQ := Lib.hid (show skN s k (q : Int) = q from by unfold skN; omega)
              clear hz
              clear hd hn0 hnd
              go_wp2_with (first
                | (go_at_call 21; go_must (refine (skip_any g s k (q : Int) _ (HC2.out.drewN _) (by omega) hk).mono ?_); rintro e w4 ⟨rfl, hc4, ha4⟩; rw [HQ.out, ← HZ.out] at hc4; rw [HQ.out]; have HC4 := Lib.hid hc4; have HB4 := Lib.hid (ha4.below (pw_below_drewN HB2.out _) HG.out); clear hc4 ha4)
                | (go_at_call 22; go_must (refine (pos_any g s z _ HC4.out).mono ?_); rintro e w7 ⟨rfl, hb7⟩; have HC7 := Lib.hid (HC4.out.below hb7); have HB7 := Lib.hid (below_weaken HB4.out HB4.out.size hb7); clear hb7)
                | (go_at_call 19; go_must (refine (refat_any s ((z : Nat) : Int) (by omega) _).mono ?_); rintro e w8 ⟨rfl, hb8⟩; rw [skN_all s (z) (by omega)]; have HC8 := Lib.hid (HC7.out.below hb8); have HB8 := Lib.hid (below_weaken HB7.out HB7.out.size hb8); clear hb8 HC7 HB7; unfold posV))
              go_round
              · exact ⟨z, j + 1, by simp, by simp, by omega, HC8.out, HB8.out⟩
              · simp only [intOf]; omega
            · have c1 : ((d : Int) < N) = True := eq_true (by omega)
              by_cases hd0 : 0 < d
              · have c2 : ((0 : Int) < (d : Int)) = True := eq_true (by omega)
                have c2n : (0 < d) = True := eq_true hd0
                obtain ⟨z, hz⟩ : ∃ z, z = k + d := ⟨_, rfl⟩
                have hz1 : (k : Int) + (d : Int) = (z : Int) := by omega
                have hzs : z ≤ s.size := by omega
                have HZ := Lib.hid hz
                have HQ := Lib.hid (show skN s k N = d from by unfold skN; omega)
                clear hz
                clear hd hn0 hnd
                go_wp2_with (first
                  | (go_at_call 21; go_must (refine (skip_any g s k N _ (HC2.out.drewN _) (by omega) hk).mono ?_); rintro e w4 ⟨rfl, hc4, ha4⟩; rw [HQ.out, ← HZ.out] at hc4; rw [HQ.out]; have HC4 := Lib.hid hc4; have HB4 := Lib.hid (ha4.below (pw_below_drewN HB2.out _) HG.out); clear hc4 ha4)
                  | (go_at_call 22; go_must (refine (pos_any g s z _ HC4.out).mono ?_); rintro e w7 ⟨rfl, hb7⟩; have HC7 := Lib.hid (HC4.out.below hb7); have HB7 := Lib.hid (below_weaken HB4.out HB4.out.size hb7); clear hb7)
                  | (go_at_call 19; go_must (refine (refat_any s ((z : Nat) : Int) (by omega) _).mono ?_); rintro e w8 ⟨rfl, hb8⟩; rw [skN_all s (z) (by omega)]; have HC8 := Lib.hid (HC7.out.below hb8); have HB8 := Lib.hid (below_weaken HB7.out HB7.out.size hb8); clear hb8 HC7 HB7; unfold posV))
                go_round
                · exact ⟨z, j + 1, by simp, by simp, by omega, HC8.out, HB8.out⟩
                · simp only [intOf]; omega
              · have hdz : d = 0 := by omega
                subst hdz
                have c3 : ((0 : Int) < N) = True := eq_true (by omega)
                have HQ := Lib.hid (show skN s k N = 0 from by unfold skN; omega)
                clear hd hn0 hnd hd0
                go_wp2_with (first
                  | (go_at_call 21; go_must (refine (skip_any g s k N _ (HC2.out.drewN _) (by omega) hk).mono ?_); rintro e w4 ⟨rfl, hc4, ha4⟩; rw [HQ.out, Nat.add_zero] at hc4; rw [HQ.out]; have HC4 := Lib.hid hc4; have HB4 := Lib.hid (ha4.below (pw_below_drewN HB2.out _) HG.out); clear hc4 ha4)
                  | (go_at_call 22; go_must (refine (pos_any g s k _ HC4.out).mono ?_); rintro e w7 ⟨rfl, hb7⟩; have HC7 := Lib.hid (HC4.out.below hb7); have HB7 := Lib.hid (below_weaken HB4.out HB4.out.size hb7); clear hb7)
                  | (go_at_call 19; go_must (refine (refat_any s ((k : Nat) : Int) (by omega) _).mono ?_); rintro e w8 ⟨rfl, hb8⟩; rw [skN_all s (k) (by omega)]; have HC8 := Lib.hid (HC7.out.below hb8); have HB8 := Lib.hid (below_weaken HB7.out HB7.out.size hb8); clear hb8 HC7 HB7; unfold posV))
                go_round
                · exact ⟨k, j + 1, by simp, by simp, by omega, HC8.out, HB8.out⟩
                · simp only [intOf]; omega
        · skip
          obtain ⟨d0, d1, d2⟩ := HA2.out.cells
          obtain ⟨n, hn⟩ : ∃ n, n = whN s F k := ⟨_, rfl⟩
          have hkn : k + n ≤ s.size := by have := whN_le s F k hk; omega
          have HN := Lib.hid hn.symm
          have HIN := Lib.hid (show ∀ i, i < n → inS F (bt s ((k + i : Nat) : Int)) = true from by rw [hn]; exact whN_in s F k)
          have HOUT := Lib.hid (show k + n < s.size → inS F (bt s ((k + n : Nat) : Int)) = false from by rw [hn]; exact whN_out s F k)
          clear hn
          go_wp2
          go_loopw [6] (fun at1 wr2 => WtRel W2 k n at1 wr2) (fun at1 _ => k + n + 1 - (intOf at1).toNat)
          case atStart => exact ⟨0, m3, rfl, Nat.zero_le _, rfl⟩
          case round =>
            obtain ⟨i, m, rfl, hi, hwr⟩ := hrel
            have d2r : wr.cell? ⟨b, 2, none⟩ = some (.string F) := by rw [hwr]; exact d2
            have HWR := Lib.hid hwr
            clear hwr d0 d1 d2
            by_cases hend : k + i < s.size
            · obtain ⟨z, hz⟩ : ∃ z, z = k + i := ⟨_, rfl⟩
              have hzs : z < s.size := by omega
              have hx := bt_at_nat s z
              have HZ := Lib.hid hz
              by_cases hlt : i < n
              · have HH := Lib.hid (show ∀ W : World, Calls Tryd.prog 25 #[.string F, .int .u8 (bt s (z : Int))] W fun e w' => e = .returned (.bool true) ∧ ∃ m, w' = W.drewN m from fun W => (refhas_any2 F (bt s (z : Int)) hsz W).mono fun e w' ⟨h1, h2⟩ => ⟨by rw [h1, hz, HIN.out i hlt], h2.out⟩)
                rw [← hz]
                clear hz
                go_wp2
                go_quiet ((go_at_call 25; exact Calls.quiet_of (HH.out _)))
                go_wp2
                go_round
                · exact ⟨i + 1, m + nq, by have := HZ.out; simp; omega, by omega, by rw [HWR.out, World.drewN_drewN]⟩
                · have := HZ.out; simp only [intOf]; omega
              · have hin : i = n := by omega
                have HH := Lib.hid (show ∀ W : World, Calls Tryd.prog 25 #[.string F, .int .u8 (bt s (z : Int))] W fun e w' => e = .returned (.bool false) ∧ ∃ m, w' = W.drewN m from fun W => (refhas_any2 F (bt s (z : Int)) hsz W).mono fun e w' ⟨h1, h2⟩ => ⟨by rw [h1, hz, hin, HOUT.out (by omega)], h2.out⟩)
                subst hin
                rw [← hz]
                clear hz
                go_wp2
                go_quiet ((go_at_call 25; exact Calls.quiet_of (HH.out _)))
                go_wp2
                have HC0 := Lib.hid (show Cu g s k (World.drew (wr.drewN nq)) from by rw [HWR.out]; exact HC2.out)
                have HA0 := Lib.hid (show Ax b KK N F (World.drew (wr.drewN nq)) from by rw [HWR.out]; exact HA2.out)
                have HB0 : Hid (Below w.heap.size w (World.drew (wr.drewN nq))) := Lib.hid (by rw [HWR.out]; exact below_drew (pw_below_drewN (pw_below_drewN HB2.out m) nq))
                have hs1 : (k : Int) ≤ (z : Int) := by have := HZ.out; omega
                have hs1n : k ≤ z := by have := HZ.out; omega
                have hs2 : (z : Int) ≤ (s.size : Int) := by omega
                have hs2n : z ≤ s.size := by omega
                refine start_ (n := 9) (S := fun w' => w'.cell? ⟨b, 2, none⟩ = some (.string F)) (ds := []) #[false, false, false, false, false, false, false, false, false] (by kernel_rfl) rfl rfl (HA0.out.cells.2.2) (fun hHeld => ?_)
                generalize hwd : World.drew _ = wd at *
                refine pure_ (i := 0) (N := some 54) (v := ?_) (a' := ?_) #[true, false, false, false, false, false, false, false, false] rfl rfl (by kernel_rfl) (fun _ _ _ h => h) (Or.inl ⟨by rfl, ?_⟩) ?_ ?_
                rotate_left
                · intro w'
                  go_simp
                  with_reducible rfl
                rotate_left
                · simp only [Act.put, List.setIfInBounds_toArray, List.set_cons_zero, List.set_cons_succ, i64_w, i32_w]
                  rfl
                refine pure_ (i := 1) (N := some 55) (v := ?_) (a' := ?_) #[true, true, false, false, false, false, false, false, false] rfl rfl (by kernel_rfl) (fun _ _ _ h => h) (Or.inl ⟨by rfl, ?_⟩) ?_ ?_
                rotate_left
                · intro w'
                  go_simp
                  with_reducible rfl
                rotate_left
                · simp only [Act.put, List.setIfInBounds_toArray, List.set_cons_zero, List.set_cons_succ, i64_w, i32_w]
                  rfl
                refine pure_ (i := 4) (N := some 58) (v := ?_) (a' := ?_) #[true, true, false, false, true, false, false, false, false] rfl rfl (by kernel_rfl) (fun _ _ _ h => h) (Or.inl ⟨by rfl, ?_⟩) ?_ ?_
                rotate_left
                · intro w'
                  go_simp
                  with_reducible rfl
                rotate_left
                · simp only [Act.put, List.setIfInBounds_toArray, List.set_cons_zero, List.set_cons_succ, i64_w, i32_w]
                  rfl
                refine pure_ (i := 5) (N := some 59) (v := ?_) (a' := ?_) #[true, true, false, false, true, true, false, false, false] rfl rfl (by kernel_rfl) (fun _ _ _ h => h) (Or.inl ⟨by rfl, ?_⟩) ?_ ?_
                rotate_left
                · intro w'
                  go_simp
                  with_reducible rfl
                rotate_left
                · simp only [Act.put, List.setIfInBounds_toArray, List.set_cons_zero, List.set_cons_succ, i64_w, i32_w]
                  rfl
                refine pure_ (i := 6) (N := some 60) (v := ?_) (a' := ?_) #[true, true, false, false, true, true, true, false, false] rfl rfl (by kernel_rfl) (fun _ _ _ h => h) (Or.inl ⟨by rfl, ?_⟩) ?_ ?_
                rotate_left
                · intro w'
                  go_simp
                  with_reducible rfl
                rotate_left
                · simp only [Act.put, List.setIfInBounds_toArray, List.set_cons_zero, List.set_cons_succ, i64_w, i32_w]
                  rfl
                refine pure_ (i := 7) (N := some 61) (v := ?_) (a' := ?_) #[true, true, false, false, true, true, true, true, false] rfl rfl (by kernel_rfl) (fun _ _ _ h => h) (Or.inl ⟨by rfl, ?_⟩) ?_ ?_
                rotate_left
                · intro w'
                  go_simp
                  with_reducible rfl
                rotate_left
                · simp only [Act.put, List.setIfInBounds_toArray, List.set_cons_zero, List.set_cons_succ, i64_w, i32_w]
                  rfl
                refine take_ (i := 2) (N := some 56) (v := ?_) (a' := ?_) #[true, true, true, false, true, true, true, true, false] rfl rfl (by kernel_rfl) (fun _ _ _ h => h) (Or.inl ⟨by rfl, ?_⟩) hHeld ?_ ?_
                rotate_left
                · intro w' s0
                  go_simp
                  with_reducible rfl
                rotate_left
                · simp only [Act.put, List.setIfInBounds_toArray, List.set_cons_zero, List.set_cons_succ, i64_w, i32_w]
                  rfl
                refine one_ (i := 3) (N := some 57) #[true, true, true, true, true, true, true, true, false] rfl rfl (by kernel_rfl) (by decide) (fun K hK => ?_)
                refine goes_ Tryd.func26 (by kernel_rfl) rfl #[.pointer (some ⟨g, 0, none⟩), .string F] (by rfl) rfl rfl (by simp only [List.map_toArray, List.map_cons, List.map_nil]; rfl) ?_
                with_reducible refine (while_any g s k F _ HC0.out (by omega) hk).mono ?_
                rintro e w4 ⟨rfl, hc4, ha4⟩
                refine ⟨_, rfl, ?_⟩
                rw [HN.out, ← HZ.out] at hc4
                rw [HN.out, ← HZ.out]
                have HC4 := Lib.hid hc4
                have HA4 := Lib.hid (HA0.out.at1 ha4 HNB.out)
                have HB4 := Lib.hid (ha4.below HB0.out HG.out)
                clear hc4 ha4 HC0 HA0 HB0
                refine hK.out _ _ (HA4.out.cells.2.2) (fun hHeld => ?_)
                clear hK K
                refine norm_ (a' := ?_) ?_ ?_
                rotate_left
                · show Act.put _ (some 57) _ = _
                  simp only [Act.put, List.setIfInBounds_toArray, List.set_cons_zero, List.set_cons_succ, i64_w, i32_w]
                  rfl
                refine pure_ (i := 8) (N := some 62) (v := ?_) (a' := ?_) #[true, true, true, true, true, true, true, true, true] rfl rfl (by kernel_rfl) (fun _ _ _ h => h) (Or.inl ⟨by rfl, ?_⟩) ?_ ?_
                rotate_left
                · intro w'
                  go_simp
                  with_reducible rfl
                rotate_left
                · simp only [Act.put, List.setIfInBounds_toArray, List.set_cons_zero, List.set_cons_succ, i64_w, i32_w]
                  rfl
                refine done_ (by kernel_rfl) ?_
                go_wp2_with (first
                  | (go_at_call 22; go_must (refine (pos_any g s z _ HC4.out).mono ?_); rintro e w7 ⟨rfl, hb7⟩; have HC7 := Lib.hid (HC4.out.below hb7); have HB7 := Lib.hid (below_weaken HB4.out HB4.out.size hb7); clear hb7)
                  | (go_at_call 19; go_must (refine (refat_any s ((z : Nat) : Int) (by omega) _).mono ?_); rintro e w8 ⟨rfl, hb8⟩; rw [skN_all s (z) (by omega)]; have HC8 := Lib.hid (HC7.out.below hb8); have HB8 := Lib.hid (below_weaken HB7.out HB7.out.size hb8); clear hb8 HC7 HB7; unfold posV))
                go_round
                · exact ⟨z, j + 1, by simp, by simp, by omega, HC8.out, HB8.out⟩
                · simp only [intOf]; omega
            · have hin : i = n := by omega
              obtain ⟨z, hz⟩ : ∃ z, z = k + i := ⟨_, rfl⟩
              have hze : z = s.size := by omega
              subst hin
              have HZ := Lib.hid hz
              rw [← hz]
              have hk2 : k ≤ z := by omega
              clear hz
              subst hze
              go_wp2
              go_quiet (fail)
              go_wp2
              have HC0 := Lib.hid (show Cu g s k (World.drew (wr.drewN nq)) from by rw [HWR.out]; exact HC2.out)
              have HA0 := Lib.hid (show Ax b KK N F (World.drew (wr.drewN nq)) from by rw [HWR.out]; exact HA2.out)
              have HB0 : Hid (Below w.heap.size w (World.drew (wr.drewN nq))) := Lib.hid (by rw [HWR.out]; exact below_drew (pw_below_drewN (pw_below_drewN HB2.out m) nq))
              have hs1 : (k : Int) ≤ (s.size : Int) := by have := HZ.out; omega
              have hs1n : k ≤ s.size := by have := HZ.out; omega
              have hs2 : (s.size : Int) ≤ (s.size : Int) := by omega
              have hs2n : s.size ≤ s.size := by omega
              refine start_ (n := 9) (S := fun w' => w'.cell? ⟨b, 2, none⟩ = some (.string F)) (ds := []) #[false, false, false, false, false, false, false, false, false] (by kernel_rfl) rfl rfl (HA0.out.cells.2.2) (fun hHeld => ?_)
              generalize hwd : World.drew _ = wd at *
              refine pure_ (i := 0) (N := some 54) (v := ?_) (a' := ?_) #[true, false, false, false, false, false, false, false, false] rfl rfl (by kernel_rfl) (fun _ _ _ h => h) (Or.inl ⟨by rfl, ?_⟩) ?_ ?_
              rotate_left
              · intro w'
                go_simp
                with_reducible rfl
              rotate_left
              · simp only [Act.put, List.setIfInBounds_toArray, List.set_cons_zero, List.set_cons_succ, i64_w, i32_w]
                rfl
              refine pure_ (i := 1) (N := some 55) (v := ?_) (a' := ?_) #[true, true, false, false, false, false, false, false, false] rfl rfl (by kernel_rfl) (fun _ _ _ h => h) (Or.inl ⟨by rfl, ?_⟩) ?_ ?_
              rotate_left
              · intro w'
                go_simp
                with_reducible rfl
              rotate_left
              · simp only [Act.put, List.setIfInBounds_toArray, List.set_cons_zero, List.set_cons_succ, i64_w, i32_w]
                rfl
              refine pure_ (i := 4) (N := some 58) (v := ?_) (a' := ?_) #[true, true, false, false, true, false, false, false, false] rfl rfl (by kernel_rfl) (fun _ _ _ h => h) (Or.inl ⟨by rfl, ?_⟩) ?_ ?_
              rotate_left
              · intro w'
                go_simp
                with_reducible rfl
              rotate_left
              · simp only [Act.put, List.setIfInBounds_toArray, List.set_cons_zero, List.set_cons_succ, i64_w, i32_w]
                rfl
              refine pure_ (i := 5) (N := some 59) (v := ?_) (a' := ?_) #[true, true, false, false, true, true, false, false, false] rfl rfl (by kernel_rfl) (fun _ _ _ h => h) (Or.inl ⟨by rfl, ?_⟩) ?_ ?_
              rotate_left
              · intro w'
                go_simp
                with_reducible rfl
              rotate_left
              · simp only [Act.put, List.setIfInBounds_toArray, List.set_cons_zero, List.set_cons_succ, i64_w, i32_w]
                rfl
              refine pure_ (i := 6) (N := some 60) (v := ?_) (a' := ?_) #[true, true, false, false, true, true, true, false, false] rfl rfl (by kernel_rfl) (fun _ _ _ h => h) (Or.inl ⟨by rfl, ?_⟩) ?_ ?_
              rotate_left
              · intro w'
                go_simp
                with_reducible rfl
              rotate_left
              · simp only [Act.put, List.setIfInBounds_toArray, List.set_cons_zero, List.set_cons_succ, i64_w, i32_w]
                rfl
              refine pure_ (i := 7) (N := some 61) (v := ?_) (a' := ?_) #[true, true, false, false, true, true, true, true, false] rfl rfl (by kernel_rfl) (fun _ _ _ h => h) (Or.inl ⟨by rfl, ?_⟩) ?_ ?_
              rotate_left
              · intro w'
                go_simp
                with_reducible rfl
              rotate_left
              · simp only [Act.put, List.setIfInBounds_toArray, List.set_cons_zero, List.set_cons_succ, i64_w, i32_w]
                rfl
              refine take_ (i := 2) (N := some 56) (v := ?_) (a' := ?_) #[true, true, true, false, true, true, true, true, false] rfl rfl (by kernel_rfl) (fun _ _ _ h => h) (Or.inl ⟨by rfl, ?_⟩) hHeld ?_ ?_
              rotate_left
              · intro w' s0
                go_simp
                with_reducible rfl
              rotate_left
              · simp only [Act.put, List.setIfInBounds_toArray, List.set_cons_zero, List.set_cons_succ, i64_w, i32_w]
                rfl
              refine one_ (i := 3) (N := some 57) #[true, true, true, true, true, true, true, true, false] rfl rfl (by kernel_rfl) (by decide) (fun K hK => ?_)
              refine goes_ Tryd.func26 (by kernel_rfl) rfl #[.pointer (some ⟨g, 0, none⟩), .string F] (by rfl) rfl rfl (by simp only [List.map_toArray, List.map_cons, List.map_nil]; rfl) ?_
              with_reducible refine (while_any g s k F _ HC0.out (by omega) hk).mono ?_
              rintro e w4 ⟨rfl, hc4, ha4⟩
              refine ⟨_, rfl, ?_⟩
              rw [HN.out, ← HZ.out] at hc4
              rw [HN.out, ← HZ.out]
              have HC4 := Lib.hid hc4
              have HA4 := Lib.hid (HA0.out.at1 ha4 HNB.out)
              have HB4 := Lib.hid (ha4.below HB0.out HG.out)
              clear hc4 ha4 HC0 HA0 HB0
              refine hK.out _ _ (HA4.out.cells.2.2) (fun hHeld => ?_)
              clear hK K
              refine norm_ (a' := ?_) ?_ ?_
              rotate_left
              · show Act.put _ (some 57) _ = _
                simp only [Act.put, List.setIfInBounds_toArray, List.set_cons_zero, List.set_cons_succ, i64_w, i32_w]
                rfl
              refine pure_ (i := 8) (N := some 62) (v := ?_) (a' := ?_) #[true, true, true, true, true, true, true, true, true] rfl rfl (by kernel_rfl) (fun _ _ _ h => h) (Or.inl ⟨by rfl, ?_⟩) ?_ ?_
              rotate_left
              · intro w'
                go_simp
                with_reducible rfl
              rotate_left
              · simp only [Act.put, List.setIfInBounds_toArray, List.set_cons_zero, List.set_cons_succ, i64_w, i32_w]
                rfl
              refine done_ (by kernel_rfl) ?_
              go_wp2_with (first
                | (go_at_call 22; go_must (refine (pos_any g s s.size _ HC4.out).mono ?_); rintro e w7 ⟨rfl, hb7⟩; have HC7 := Lib.hid (HC4.out.below hb7); have HB7 := Lib.hid (below_weaken HB4.out HB4.out.size hb7); clear hb7)
                | (go_at_call 19; go_must (refine (refat_any s ((s.size : Nat) : Int) (by omega) _).mono ?_); rintro e w8 ⟨rfl, hb8⟩; rw [skN_all s (s.size) (by omega)]; have HC8 := Lib.hid (HC7.out.below hb8); have HB8 := Lib.hid (below_weaken HB7.out HB7.out.size hb8); clear hb8 HC7 HB7; unfold posV))
              go_round
              · exact ⟨s.size, j + 1, by simp, by simp, by omega, HC8.out, HB8.out⟩
              · simp only [intOf]; omega
      · by_cases hjl : j < l.length
        · replace hlt : 100 ≤ j := by omega
          go_wp2_with (first | (go_at_call 11; go_must (refine (awake _ (tab_below HT.out HB.out)).mono ?_); rintro e w9 ⟨rfl, hb⟩; have HB9 := Lib.hid (below_weaken HB.out HB.out.size hb); clear hb))
          go_ret
          exact ⟨rfl, HB9.out⟩
        · replace hlt : l.length ≤ j := by omega
          clear hjl
          go_wp2_with (first | (go_at_call 11; go_must (refine (awake _ (tab_below HT.out HB.out)).mono ?_); rintro e w9 ⟨rfl, hb⟩; have HB9 := Lib.hid (below_weaken HB.out HB.out.size hb); clear hb))
          go_ret
          exact ⟨rfl, HB9.out⟩
  · go_enter Tryd.func8, Tryd.ntmps8
    go_wp2_with (first | (go_at_call 11; go_must (refine (awake _ HT.out).mono ?_); rintro e w9 ⟨rfl, hb⟩; have HB9 := Lib.hid hb; clear hb))
    go_ret
    exact ⟨rfl, HB9.out⟩
end Go.Proofs.YtmmbpbamkiheaaaDoor.Tx
