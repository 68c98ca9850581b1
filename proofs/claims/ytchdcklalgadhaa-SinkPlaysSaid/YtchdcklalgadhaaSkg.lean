/- great: is there more than is looked at? -/
import Derived.Test.YtchdcklalgadhaaSkf
import Derived.Test.YtchdcklalgadhaaR0
set_option linter.unusedVariables false
set_option linter.unusedSimpArgs false
namespace Go.Proofs.Ytchdcklalgadhaa.Sk
open Go.RowKit Go.Proofs.YtchdcklalgadhaaW.PrintWords Go.Proofs.YtchdcklalgadhaaW.PrintLast Go.Proofs.YtchdcklalgadhaaW.PrintMore Go.Proofs.Ytchdcklalgadhaa.R
abbrev ActS := S33
abbrev kAct : Kd ActS := k33
def tot : List ActS → Nat
  | [] => 0
  | x :: r => (cat x.f1).length + tot r
theorem tot_snoc (l : List ActS) (x : ActS) : tot (l ++ [x]) = tot l + (cat x.f1).length := by
  induction l with
  | nil => simp [tot]
  | cons q r ih => simp [tot, ih]; omega
theorem tot_take (l : List ActS) (k : Nat) (hk : k < l.length) : tot (l.take (k + 1)) = tot (l.take k) + (cat l[k].f1).length := by
  rw [List.take_succ_eq_append_getElem hk, tot_snoc]
theorem at_act {W : World} {A : Option Addr} {l : List ActS} (h : Kd.C kAct W A l.length l) (k : Nat) (hk : k < l.length) :
    ∃ ad A1 c1, A = some ad ∧ W.cell? (ad.add (k * 2)) = some (.int .i64 l[k].f0) ∧ W.cell? ⟨(ad.add (k * 2)).block, (ad.add (k * 2)).off + 1, none⟩ = some (.slice A1 l[k].f1.length c1) ∧ l[k].f1.length ≤ c1 ∧ Kd.C Kd.string W A1 l[k].f1.length l[k].f1 := by
  have := at_T33 h (k : Int) (by omega) (by omega)
  rw [show ((k : Int)).toNat = k from by omega, show rd_T33 l (k : Int) = l[k] from by rw [show rd_T33 l (k : Int) = l.getD (k : Int).toNat _ from rfl]; simp [hk]] at this
  exact this
/-- The same in all later worlds. -/
theorem act_at {w : World} {A : Option Addr} {l : List ActS} (h : Kd.C kAct w A l.length l) (k : Nat) (hk : k < l.length) :
    ∃ ad A1 c1, A = some ad ∧ l[k].f1.length ≤ c1 ∧ Kd.C Kd.string w A1 l[k].f1.length l[k].f1 ∧ ∀ W, Below w.heap.size w W → W.cell? (ad.add (k * 2)) = some (.int .i64 l[k].f0) ∧ W.cell? ⟨(ad.add (k * 2)).block, (ad.add (k * 2)).off + 1, none⟩ = some (.slice A1 l[k].f1.length c1) := by
  obtain ⟨ad, A1, c1, hA, h0, h1, hc, hC⟩ := at_act h k hk
  refine ⟨ad, A1, c1, hA, hc, hC, fun W hb => ⟨?_, ?_⟩⟩
  · rw [hb.cell (World.block_lt_of_cell? w _ h0)]; exact h0
  · rw [hb.cell (World.block_lt_of_cell? w _ h1)]; exact h1
def Fits (l : List ActS) : Prop := (∀ x ∈ l.take 60, x.f1.length ≤ 20) ∧ tot (l.take 60) ≤ 20000
def GreatTo (l : List ActS) (w : World) (e : Ending) (w' : World) : Prop := ∃ b, e = .returned (.bool b) ∧ w = w' ∧ (b = false → Fits l)
def GRel (l : List ActS) (n i : Value) : Prop := ∃ k : Nat, k ≤ l.length ∧ k ≤ 60 ∧ i = .int .i64 k ∧ n = .int .i64 (tot (l.take k)) ∧ (∀ x ∈ l.take k, x.f1.length ≤ 20) ∧ tot (l.take k) ≤ 40000 * k
def GRel2 (l : List ActS) (k : Nat) (x : ActS) (n i : Value) : Prop := ∃ j : Nat, j ≤ x.f1.length ∧ i = .int .i64 j ∧ n = .int .i64 ((tot (l.take k) + (cat (x.f1.take j)).length : Nat)) ∧ (cat (x.f1.take j)).length ≤ 2000 * j

set_option maxHeartbeats 4000000 in
set_option maxRecDepth 1000000 in
theorem great_any (A : Option Addr) (c : Nat) (l : List ActS) (w : World) (hr : Kd.C kAct w A l.length l) :
    Calls Try.prog 14 #[.slice A l.length c] w (GreatTo l w) := by
  have hlm := hr.2.1
  have HR := Lib.hid hr
  clear hr
  go_enter Try.func14, Try.ntmps14
  go_wp2
  go_loop [3, 4] (fun n i => GRel l n i) (fun _ i => l.length - (intOf i).toNat)
  case atStart => exact ⟨0, Nat.zero_le _, Nat.zero_le _, rfl, rfl, by simp, Nat.zero_le _⟩
  case round =>
    obtain ⟨k, hk, hk60, rfl, rfl, hall, htot⟩ := hrel
    have HA := Lib.hid hall
    clear hall
    by_cases hlt : k < l.length ∧ k < 60
    · obtain ⟨h1, h2⟩ := hlt
      obtain ⟨ad, A1, c1, rfl, _, hcell, hc1, hC⟩ := at_act HR.out k h1
      have hsx := hC.2.1
      have HC := Lib.hid hC
      clear hC
      have htk := tot_take l k h1
      by_cases h20 : l[k].f1.length ≤ 20
      · go_wp2
        go_loop [3, 5] (fun n i => GRel2 l k l[k] n i) (fun _ i => l[k].f1.length - (intOf i).toNat)
        case atStart => exact ⟨0, Nat.zero_le _, rfl, by simp [cat], Nat.zero_le _⟩
        case round =>
          obtain ⟨j, hj, rfl, rfl, hjt⟩ := hrel
          by_cases hjl : j < l[k].f1.length
          · obtain ⟨ad1, rfl, hcell2⟩ := at_k HC.out j hjl
            have hjk := cat_take l[k].f1 j hjl
            by_cases h2000 : l[k].f1[j].size ≤ 2000
            · go_wp2
              go_round
              · exact ⟨j + 1, by omega, by simp, by rw [hjk, List.length_append, data_length]; simp; omega, by rw [hjk, List.length_append, data_length]; omega⟩
              · simp only [intOf]; omega
            · go_wp2
              go_ret
              exact ⟨true, rfl, rfl, by simp⟩
          · obtain rfl : j = l[k].f1.length := by omega
            rw [List.take_length] at hjt ⊢
            go_wp2
            go_round
            · refine ⟨k + 1, by omega, by omega, by simp, by rw [htk], ?_, by rw [htk]; omega⟩
              intro x hx
              rw [List.take_succ_eq_append_getElem h1] at hx
              rcases List.mem_append.1 hx with hx | hx
              · exact HA.out x hx
              · rw [List.mem_singleton.1 hx]; exact h20
            · simp only [intOf]; omega
      · go_wp2
        go_ret
        exact ⟨true, rfl, rfl, by simp⟩
    · have hk60' : l.take k = l.take 60 := by
        by_cases h : k < l.length
        · rw [show k = 60 from by omega]
        · rw [List.take_of_length_le (by omega), List.take_of_length_le (by omega)]
      rw [hk60'] at HA htot ⊢
      by_cases h : k < l.length
      · obtain rfl : k = 60 := by omega
        go_wp2
        go_ret
        exact ⟨_, rfl, rfl, fun hb => ⟨HA.out, by have h5 : ((tot (l.take 60) : Nat) : Int) ≤ 20000 := (by simpa using hb); omega⟩⟩
      · go_wp2
        go_ret
        exact ⟨_, rfl, rfl, fun hb => ⟨HA.out, by have h5 : ((tot (l.take 60) : Nat) : Int) ≤ 20000 := (by simpa using hb); omega⟩⟩
end Go.Proofs.Ytchdcklalgadhaa.Sk
