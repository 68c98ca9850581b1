/- SinkRoom: the walk. -/
import Derived.Test.YtchdcklalgadhaaSkg
set_option linter.unusedVariables false
set_option linter.unusedSimpArgs false
namespace Go.Proofs.Ytchdcklalgadhaa.Sk
open Go.RowKit Go.Proofs.YtchdcklalgadhaaW.PrintWords Go.Proofs.YtchdcklalgadhaaW.PrintLast Go.Proofs.YtchdcklalgadhaaW.PrintMore Go.Proofs.Ytchdcklalgadhaa.R
def RoomRel (w : World) (g : Nat) (most : Int) (l : List ActS) (full i : Value) (wr : World) : Prop :=
  ∃ (k : Nat) (f : Bool) (bs : List UInt8), k ≤ l.length ∧ k ≤ 60 ∧ i = .int .i64 k ∧ full = .bool f ∧ (bs.length : Int) ≤ max most 0 ∧ bs.length ≤ tot (l.take k) ∧ S1 w g bs (max most 0) 0 f wr
theorem tot_mono (l : List ActS) (k : Nat) (hk : k ≤ 60) : tot (l.take k) ≤ tot (l.take 60) := by
  have h : ∀ a b : List ActS, tot (a ++ b) = tot a + tot b := by
    intro a b
    induction a with
    | nil => simp [tot]
    | cons q r ih => simp [tot, ih]; omega
  have h2 : l.take 60 = l.take k ++ (l.drop k).take (60 - k) := by
    rw [← List.take_add]; congr 1; omega
  rw [h2, h]; omega

set_option maxHeartbeats 4000000 in
set_option maxRecDepth 1000000 in
theorem sinkRoom (most : Int) (A : Option Addr) (c : Nat) (l : List ActS) (w : World) (hr : Kd.C kAct w A l.length l) (hc : l.length ≤ c) (hw : (Lit.int .i64 most).wf = true) :
    Calls Try.prog 4 #[.int .i64 most, .slice A l.length c] w (RetB (.bool true) w) := by
  have hlm := hr.2.1
  have HR := Lib.hid hr
  have hm : -9223372036854775808 ≤ most ∧ most ≤ 9223372036854775807 := by simpa [Lit.wf, IntKind.min, IntKind.max, IntKind.signed, IntKind.bits] using hw
  clear hr hw
  obtain ⟨hm0, hm1⟩ := hm
  go_enter Try.func4, Try.ntmps4
  go_wp2_with (first | (go_at_call 14; go_must (refine (great_any A c l w HR.out).mono ?_)))
  rintro e w1 ⟨b, rfl, rfl, hb⟩
  cases b with
  | true =>
    clear hb
    go_wp2_with (first | (go_at_call 8; go_must (refine (awake _).mono ?_); rintro e w5 ⟨rfl, hb⟩; have HB4 := Lib.hid hb; clear hb))
    go_ret
    exact ⟨rfl, HB4.out⟩
  | false =>
    obtain ⟨hb1, htot⟩ := hb rfl
    clear hb
    have HB1 := Lib.hid hb1
    clear hb1
    go_wp2_with (go_at_call 9; go_must (refine (new1 most (Below.refl _ w)).mono ?_))
    rintro e w1 ⟨rfl, hs⟩
    have HS1 := Lib.hid hs
    clear hs
    go_wp2
    go_loopw [6, 7] (fun full i wr => RoomRel w w.heap.size most l full i wr) (fun _ i _ => l.length - (intOf i).toNat)
    case atStart => exact ⟨0, false, [], Nat.zero_le _, Nat.zero_le _, rfl, rfl, by simp; omega, Nat.zero_le _, HS1.out⟩
    case round =>
      obtain ⟨k, f, bs, hk, hk60, rfl, rfl, hbm, hbt, hs⟩ := hrel
      have HS := Lib.hid hs
      clear hs HS1
      by_cases hlt : k < l.length ∧ k < 60
      · obtain ⟨h1, h2⟩ := hlt
        obtain ⟨ad, A1, c1, rfl, hc1, hC, hat⟩ := act_at HR.out k h1
        have HAT := Lib.hid hat
        clear hat
        have hcat : (cat l[k].f1).length ≤ 20000 := by
          have h3 := tot_take l k h1
          have h4 := tot_mono l (k + 1) (by omega)
          omega
        have htk := tot_take l k h1
        have htm := tot_mono l k hk60
        have hmx : max most 0 ≤ 9223372036854775807 := by omega
        have hmx0 : 0 ≤ max most 0 := by omega
        go_wp2_with (first
          | (go_at_call 13; go_must (refine (str1 HS.out).mono ?_)))
        rintro e w2 ⟨rfl, hs⟩
        have HS2 := Lib.hid hs
        clear hs HS
        obtain ⟨_, hcell⟩ := HAT.out _ HS2.out.bel
        go_wp2_with (first
          | (go_at_call 15; go_must (refine (put1 HS2.out hC hmx0 hmx (by omega)).mono ?_)))
        intro e w3 hp
        cases f with
        | true =>
          obtain ⟨he, hs⟩ := hp.no (.inl rfl) hbm
          subst he
          have HS3 := Lib.hid hs
          clear hs hp HS2
          go_wp2_with (first
            | (go_at_call 13; go_must (refine (str1 HS3.out).mono ?_); rintro e w4 ⟨rfl, hs⟩; have HS4 := Lib.hid hs; clear hs HS3)
            | (go_at_call 16; go_must (refine (len1 HS4.out).mono ?_); rintro e w5 ⟨rfl, rfl⟩)
            | (go_at_call 17; go_must (refine (full1 HS4.out).mono ?_); rintro e w5 ⟨rfl, rfl⟩))
          go_round
          · exact ⟨k + 1, true, bs, by omega, by omega, by simp, rfl, hbm, by omega, HS4.out⟩
          · simp only [intOf]; omega
        | false =>
          by_cases hov : max most 0 < ((bs ++ cat l[k].f1).length : Int)
          · skip
            obtain ⟨he, hs⟩ := hp.no (.inr hov) hbm
            subst he
            have HS3 := Lib.hid hs
            clear hs hp HS2
            go_wp2_with (first
              | (go_at_call 13; go_must (refine (str1 HS3.out).mono ?_); rintro e w4 ⟨rfl, hs⟩; have HS4 := Lib.hid hs; clear hs HS3)
              | (go_at_call 16; go_must (refine (len1 HS4.out).mono ?_); rintro e w5 ⟨rfl, rfl⟩)
              | (go_at_call 17; go_must (refine (full1 HS4.out).mono ?_); rintro e w5 ⟨rfl, rfl⟩))
            go_round
            · exact ⟨k + 1, true, bs, by omega, by omega, by simp, rfl, hbm, by omega, HS4.out⟩
            · simp only [intOf]; omega
          · skip
            have hov2 : (bs.length : Int) + ((cat l[k].f1).length : Int) ≤ max most 0 := by rw [List.length_append] at hov; omega
            obtain ⟨he, hs⟩ := hp.yes (by omega) hbm
            subst he
            have HS4 := Lib.hid hs
            clear hs hp HS2
            go_wp2_with (first
              | (go_at_call 16; go_must (refine (len1 HS4.out).mono ?_); rintro e w5 ⟨rfl, rfl⟩)
              | (go_at_call 17; go_must (refine (full1 HS4.out).mono ?_); rintro e w5 ⟨rfl, rfl⟩))
            go_round
            · exact ⟨k + 1, false, bs ++ cat l[k].f1, by omega, by omega, by simp, rfl, by omega, by rw [htk, List.length_append]; omega, HS4.out⟩
            · simp only [intOf]; omega
      · by_cases h : k < l.length
        · obtain rfl : k = 60 := by omega
          go_wp2_with (first | (go_at_call 8; go_must (refine (awake _).mono ?_); rintro e w7 ⟨rfl, hb⟩; have HB4 := Lib.hid (below_weaken HS.out.bel HS.out.bel.size hb); clear hb))
          go_ret
          exact ⟨rfl, HB4.out⟩
        · go_wp2_with (first | (go_at_call 8; go_must (refine (awake _).mono ?_); rintro e w7 ⟨rfl, hb⟩; have HB4 := Lib.hid (below_weaken HS.out.bel HS.out.bel.size hb); clear hb))
          go_ret
          exact ⟨rfl, HB4.out⟩
end Go.Proofs.Ytchdcklalgadhaa.Sk
