/- SinkDeep: the walk. -/
import Derived.Test.YtchdcklalgadhaaSkf
import Derived.Test.YtchdcklalgadhaaR0
set_option linter.unusedVariables false
set_option linter.unusedSimpArgs false
namespace Go.Proofs.Ytchdcklalgadhaa.Sk
open Go.RowKit Go.Proofs.YtchdcklalgadhaaW.PrintWords Go.Proofs.YtchdcklalgadhaaW.PrintLast Go.Proofs.YtchdcklalgadhaaW.PrintMore
theorem at_kb {W : World} {A : Option Addr} {l : List Bool} (h : Kd.C Kd.bool W A l.length l) (k : Nat) (hk : k < l.length) : ∃ ad, A = some ad ∧ W.cell? (ad.add k) = some (.bool l[k]) := by
  obtain ⟨ad, hA, hc⟩ := Kd.at_bool h (k : Int) (by omega) (by omega)
  refine ⟨ad, hA, ?_⟩
  rw [show ((k : Int)).toNat = k from by omega] at hc
  rw [hc]
  rw [show rdOf false l (k : Int) = l.getD (k : Int).toNat false from rfl]
  simp [hk]
/-- The first rounds of the outer loop. -/
def DeepRel (w : World) (g : Nat) (l : List Bool) (deep want i : Value) (wr : World) : Prop :=
  ∃ (k : Nat) (d : Int) (wt : ByteArray), k ≤ l.length ∧ i = .int .i64 k ∧ deep = .int .i64 d ∧ want = .string wt ∧ 0 ≤ d ∧ d ≤ k ∧ wt.size ≤ 300 * k ∧ S1 w g wt.data.toList 1048576 d false wr
def ind_ (j : Nat) : ByteArray := ⟨(Lib.repeatL [32, 32] j).toArray⟩
theorem ind_zero (wt : ByteArray) : wt ++ ind_ 0 = wt := by
  apply ByteArray.ext
  simp [ind_, Lib.repeatL]
theorem ind_succ (wt : ByteArray) (j : Nat) : wt ++ ind_ (j + 1) = wt ++ ind_ j ++ ⟨#[32, 32]⟩ := by
  have h : ∀ n, Lib.repeatL ([32, 32] : List UInt8) (n + 1) = Lib.repeatL [32, 32] n ++ [32, 32] := by
    intro n
    induction n with
    | zero => rfl
    | succ n ih => rw [show Lib.repeatL ([32, 32] : List UInt8) (n + 1 + 1) = [32, 32] ++ Lib.repeatL [32, 32] (n + 1) from rfl, ih, ← List.append_assoc, show ([32, 32] : List UInt8) ++ Lib.repeatL [32, 32] n = Lib.repeatL [32, 32] (n + 1) from rfl, ih]
  apply ByteArray.ext
  simp [ind_, h]
def InnerRel (wt : ByteArray) (D : Int) (want k : Value) : Prop := ∃ j : Nat, (j : Int) ≤ D ∧ k = .int .i64 j ∧ want = .string (wt ++ ind_ j)

theorem line_len (d : Int) : (cat ([ind d, ⟨#[120]⟩] ++ [⟨#[10]⟩])).length = 2 * d.toNat + 2 := by
  simp only [cat, List.length_append, data_length, List.cons_append, List.nil_append, List.length_nil, ind_size]
  show 2 * d.toNat + (1 + (1 + 0)) = _
  omega
theorem line_fits (wt : ByteArray) (d : Int) (h1 : wt.size ≤ 1000000) (h2 : d ≤ 1000) : wt.data.toList.length + (cat ([ind d, ⟨#[120]⟩] ++ [⟨#[10]⟩])).length ≤ 140737488355328 := by
  rw [line_len, data_length]; omega
theorem Put1.line {w0 w1 : World} {g : Nat} {wt : ByteArray} {d : Int} {e : Ending} (h : Put1 w0 g wt.data.toList 1048576 d false ([ind d, ⟨#[120]⟩] ++ [⟨#[10]⟩]) e w1) (hs : (wt.size : Int) + 2 * d.toNat + 2 ≤ 1048576) :
    e = .returned (.bool true) ∧ S1 w0 g (wt ++ ind d ++ ⟨#[120, 10]⟩).data.toList 1048576 d false w1 := by
  have := h.yes (by rw [List.length_append, line_len, data_length]; omega) (by rw [data_length]; omega)
  rw [show wt.data.toList ++ cat ([ind d, ⟨#[120]⟩] ++ [⟨#[10]⟩]) = (wt ++ ind d ++ ⟨#[120, 10]⟩).data.toList from by simp [cat, List.append_assoc]] at this
  exact this

set_option maxHeartbeats 4000000 in
set_option maxRecDepth 1000000 in
theorem sinkDeep (A : Option Addr) (c : Nat) (l : List Bool) (w : World) (hr : Kd.C Kd.bool w A l.length l) (hc : l.length ≤ c) (ho : ∀ x ∈ l, True) :
    Calls Try.prog 3 #[.slice A l.length c] w (RetB (.bool true) w) := by
  have HR := Lib.hid hr
  clear hr ho
  by_cases hl : l.length ≤ 100
  · go_enter Try.func3, Try.ntmps3
    go_wp2_with (go_at_call 9; go_must (refine (new1 1048576 (Below.refl _ w)).mono ?_))
    rintro e w1 ⟨rfl, hs⟩
    have HS1 : Hid (S1 w w.heap.size [] 1048576 0 false w1) := Lib.hid hs
    clear hs
    go_wp2
    go_loopw [4, 5, 6] (fun deep want i wr => DeepRel w w.heap.size l deep want i wr) (fun _ _ i _ => l.length - (intOf i).toNat)
    case atStart => exact ⟨0, 0, ⟨#[]⟩, Nat.zero_le _, rfl, rfl, rfl, Int.le_refl _, Int.le_refl _, Nat.zero_le _, HS1.out⟩
    case round =>
      obtain ⟨k, d, wt, hk, rfl, rfl, rfl, hd0, hdk, hwt, hs⟩ := hrel
      have HS := Lib.hid hs
      clear hs HS1
      by_cases hlt : k < l.length
      · obtain ⟨ad, rfl, hcell⟩ := at_kb (Kd.C_below HR.out HS.out.bel) k hlt
        cases hb : l[k] with
        | true =>
          rw [hb] at hcell
          go_wp2_with (first | (go_at_call 10; go_must (refine (in1 HS.out hd0 (by omega)).mono ?_)))
          rintro e w2 ⟨rfl, hs⟩
          have HS2 := Lib.hid hs
          clear hs hcell HS
          go_wp2_with (first | (go_at_call 12; go_must (refine (line1 (HS2.out.alloc _) (l := [⟨#[120]⟩]) (C_lit _ [⟨#[120]⟩] _ rfl (by simp)) (by omega) (by omega) (by simp) (by omega) (by omega) ?lb).mono ?_)))
          case lb => exact line_fits wt _ (by omega) (by omega)
          intro e w3 hp
          obtain ⟨he, hs⟩ := hp.line (by omega)
          subst he
          have HS3 := Lib.hid hs
          clear hp hs HS2
          go_wp2
          generalize hD : d + 1 = D at *
          have hD0 : 0 ≤ D := by omega
          have hDk : D ≤ k + 1 := by omega
          clear hD
          go_loop [5, 7] (fun want kk => InnerRel wt D want kk) (fun _ kk => (D - intOf kk).toNat)
          case atStart => exact ⟨0, hD0, rfl, by rw [ind_zero]⟩
          case round =>
            obtain ⟨j, hjD, rfl, rfl⟩ := hrel
            have hij : (ind_ j).size = 2 * j := ind_size (j : Int)
            by_cases hj : (j : Int) < D
            · go_wp2
              go_round
              · exact ⟨j + 1, by omega, by simp, by rw [ind_succ]⟩
              · simp only [intOf]; omega
            · obtain rfl : D = (j : Int) := by omega
              have hsz : (wt ++ ind_ j ++ (⟨#[120, 10]⟩ : ByteArray)).size ≤ 300 * (k + 1) := by rw [ByteArray.size_append, ByteArray.size_append, show ind_ j = ind (j : Int) from rfl, ind_size]; show _ + 2 ≤ _; omega
              go_wp2
              go_round
              · exact ⟨k + 1, j, wt ++ ind_ j ++ ⟨#[120, 10]⟩, by omega, by simp, rfl, rfl, hD0, by simpa using hDk, hsz, HS3.out⟩
              · simp only [intOf]; omega
        | false =>
          rw [hb] at hcell
          go_wp2_with (first | (go_at_call 11; go_must (refine (out1 HS.out hd0 (by omega)).mono ?_)))
          rintro e w2 ⟨rfl, hs⟩
          have HS2 := Lib.hid hs
          clear hs hcell HS
          go_wp2_with (first | (go_at_call 12; go_must (refine (line1 (HS2.out.alloc _) (l := [⟨#[120]⟩]) (C_lit _ [⟨#[120]⟩] _ rfl (by simp)) (by omega) (by omega) (by simp) (by omega) (by omega) ?lb).mono ?_)))
          case lb => exact line_fits wt _ (by omega) (by omega)
          intro e w3 hp
          obtain ⟨he, hs⟩ := hp.line (by omega)
          subst he
          have HS3 := Lib.hid hs
          clear hp hs HS2
          go_wp2
          generalize hD : max 0 (d - 1) = D at *
          have hD0 : 0 ≤ D := by omega
          have hDk : D ≤ k + 1 := by omega
          clear hD
          go_loop [5, 7] (fun want kk => InnerRel wt D want kk) (fun _ kk => (D - intOf kk).toNat)
          case atStart => exact ⟨0, hD0, rfl, by rw [ind_zero]⟩
          case round =>
            obtain ⟨j, hjD, rfl, rfl⟩ := hrel
            have hij : (ind_ j).size = 2 * j := ind_size (j : Int)
            by_cases hj : (j : Int) < D
            · go_wp2
              go_round
              · exact ⟨j + 1, by omega, by simp, by rw [ind_succ]⟩
              · simp only [intOf]; omega
            · obtain rfl : D = (j : Int) := by omega
              have hsz : (wt ++ ind_ j ++ (⟨#[120, 10]⟩ : ByteArray)).size ≤ 300 * (k + 1) := by rw [ByteArray.size_append, ByteArray.size_append, show ind_ j = ind (j : Int) from rfl, ind_size]; show _ + 2 ≤ _; omega
              go_wp2
              go_round
              · exact ⟨k + 1, j, wt ++ ind_ j ++ ⟨#[120, 10]⟩, by omega, by simp, rfl, rfl, hD0, by simpa using hDk, hsz, HS3.out⟩
              · simp only [intOf]; omega
      · obtain rfl : k = l.length := by omega
        go_wp2_with (first
          | (go_at_call 13; go_must (refine (str1 HS.out).mono ?_); rintro e w6 ⟨rfl, hs⟩; have HS6 := Lib.hid hs; clear hs HS)
          | (go_at_call 8; go_must (refine (awake _).mono ?_); rintro e w7 ⟨rfl, hb⟩; have HB4 := Lib.hid (below_weaken HS6.out.bel HS6.out.bel.size hb); clear hb))
        go_ret
        exact ⟨rfl, HB4.out⟩
  · go_enter Try.func3, Try.ntmps3
    go_wp2_with (first | (go_at_call 8; go_must (refine (awake _).mono ?_); rintro e w5 ⟨rfl, hb⟩; have HB4 := Lib.hid hb; clear hb))
    go_ret
    exact ⟨rfl, HB4.out⟩
end Go.Proofs.Ytchdcklalgadhaa.Sk
