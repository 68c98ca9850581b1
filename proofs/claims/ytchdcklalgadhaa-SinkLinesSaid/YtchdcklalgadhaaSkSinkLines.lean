/- SinkLines: two sinks; the walk. -/
import Derived.Test.YtchdcklalgadhaaSkf
import Derived.Test.YtchdcklalgadhaaR0
set_option linter.unusedVariables false
set_option linter.unusedSimpArgs false
namespace Go.Proofs.Ytchdcklalgadhaa.Sk
open Go.RowKit Go.Proofs.YtchdcklalgadhaaW.PrintWords Go.Proofs.YtchdcklalgadhaaW.PrintLast Go.Proofs.YtchdcklalgadhaaW.PrintMore
abbrev M20 : Int := 1048576
/-- Two sinks behind w0. -/
def S2 (w0 : World) (ga gb : Nat) (xa xb : List UInt8) (da db : Int) (w : World) : Prop :=
  ∃ va vb, Sk w0.heap.size ga va xa M20 da false w ∧ Sk w0.heap.size gb vb xb M20 db false w ∧ ga ≠ gb ∧ (vb.ownBlock = none ∨ vb.ownBlock ≠ va.ownBlock) ∧ some gb ≠ va.ownBlock ∧ some ga ≠ vb.ownBlock ∧ Below w0.heap.size w0 w
section
variable {w0 w w1 : World} {ga gb : Nat} {xa xb xc : List UInt8} {da db dc : Int}
theorem S2.bel (h : S2 w0 ga gb xa xb da db w) : Below w0.heap.size w0 w := by obtain ⟨_, _, _, _, _, _, _, _, h⟩ := h; exact h
theorem S2.swap (h : S2 w0 ga gb xa xb da db w) : S2 w0 gb ga xb xa db da w := by
  obtain ⟨va, vb, h1, h2, h3, h4, h5, h6, h7⟩ := h
  refine ⟨vb, va, h2, h1, fun e => h3 e.symm, ?_, h6, h5, h7⟩
  rcases h4 with h4 | h4
  · cases hv : va.ownBlock with
    | none => exact .inl rfl
    | some k => exact .inr (by rw [h4]; simp)
  · exact .inr (fun e => h4 e.symm)
theorem S2.below (h : S2 w0 ga gb xa xb da db w) (hb : Below w.heap.size w w1) : S2 w0 ga gb xa xb da db w1 := by
  obtain ⟨va, vb, h1, h2, h3, h4, h5, h6, h7⟩ := h
  exact ⟨va, vb, h1.below hb, h2.below hb, h3, h4, h5, h6, below_weaken h7 h7.size hb⟩
theorem S2.alloc (h : S2 w0 ga gb xa xb da db w) (o : Obj) : S2 w0 ga gb xa xb da db (w.alloc o) := h.below (below_alloc (Below.refl _ _) o)
/-- What a call at the first one leaves. -/
theorem S2.to {va vb : Value} (h1 : Sk w0.heap.size ga va xa M20 da false w) (h2 : Sk w0.heap.size gb vb xb M20 db false w) (h3 : ga ≠ gb) (h4 : vb.ownBlock = none ∨ vb.ownBlock ≠ va.ownBlock) (h5 : some gb ≠ va.ownBlock) (h6 : some ga ≠ vb.ownBlock) (h7 : Below w0.heap.size w0 w)
    (ht : To w0.heap.size ga va xc M20 dc false w w1) : S2 w0 ga gb xc xb dc db w1 := by
  obtain ⟨v', hs, hf, hr⟩ := ht
  refine ⟨v', vb, hs, h2.fr hf (fun e => h3 e.symm) h5 (fun e => h6 e.symm) h4, h3, ?_, hr.ne h2.lt h5, h6, h7.trans (hf.below h1.1 (fun k hk => (h1.base k hk).1) h7.size)⟩
  cases hv : vb.ownBlock with
  | none => exact .inl rfl
  | some k =>
    refine .inr (hr.ne (h2.base k hv).2 ?_)
    rcases h4 with h4 | h4
    · rw [hv] at h4; cases h4
    · rw [← hv]; exact h4
theorem PutTo.yes {B g : Nat} {v : Value} {bs : List UInt8} {most deep : Int} {l : List ByteArray} {e : Ending} (h : PutTo B g v bs most deep false l w e w1) (hr : ((bs ++ cat l).length : Int) ≤ most) : e = .returned (.bool true) ∧ To B g v (bs ++ cat l) most deep false w w1 := by
  unfold PutTo at h
  rw [List.length_append] at hr
  rw [if_neg (by
    rw [over_cat _ _ (by omega)]
    simp only [Bool.false_eq_true, false_or, decide_eq_true_eq]
    omega)] at h
  exact h
theorem in2 (h : S2 w0 ga gb xa xb da db w) (hd0 : 0 ≤ da) (hd : da ≤ 1000) : Calls Try.prog 10 #[.pointer (some ⟨ga, 0, none⟩)] w fun e w' => e = .returned (.tuple #[]) ∧ S2 w0 ga gb xa xb (da + 1) db w' := by
  obtain ⟨va, vb, h1, h2, h3, h4, h5, h6, h7⟩ := h
  refine (in_any _ ga va xa M20 da false w h1 hd0 (by omega)).mono ?_
  rintro e w' ⟨he, ht⟩
  exact ⟨he, S2.to h1 h2 h3 h4 h5 h6 h7 ht⟩
theorem line2 (h : S2 w0 ga gb xa xb da db w) {A : Option Addr} {c : Nat} {l : List ByteArray} (hr : Kd.string.C w A l.length l) (hd0 : 0 ≤ da) (hd : da ≤ 1000) (hl : l.length ≤ 1000) (hb : ((xa ++ cat (ind da :: l ++ [⟨#[10]⟩])).length : Int) ≤ M20) :
    Calls Try.prog 12 #[.pointer (some ⟨ga, 0, none⟩), .slice A l.length c] w fun e w' => e = .returned (.bool true) ∧ S2 w0 ga gb (xa ++ cat (ind da :: l ++ [⟨#[10]⟩])) xb da db w' := by
  obtain ⟨va, vb, h1, h2, h3, h4, h5, h6, h7⟩ := h
  refine (line_any _ ga va xa M20 da false A c l w h1 h7.size hr hd0 (by omega) (by omega) (by decide) (by decide) (by rw [List.length_append] at hb; unfold M20 at hb; omega)).mono ?_
  intro e w' ht
  obtain ⟨he, hto⟩ := PutTo.yes ht hb
  exact ⟨he, S2.to h1 h2 h3 h4 h5 h6 h7 hto⟩
theorem begin2 (h : S2 w0 ga gb xa xb da db w) {A : Option Addr} {c : Nat} {l : List ByteArray} (hr : Kd.string.C w A l.length l) (hd0 : 0 ≤ da) (hd : da ≤ 1000) (hl : l.length ≤ 1000) (hb : ((xa ++ cat (ind da :: l)).length : Int) ≤ M20) :
    Calls Try.prog 18 #[.pointer (some ⟨ga, 0, none⟩), .slice A l.length c] w fun e w' => e = .returned (.bool true) ∧ S2 w0 ga gb (xa ++ cat (ind da :: l)) xb da db w' := by
  obtain ⟨va, vb, h1, h2, h3, h4, h5, h6, h7⟩ := h
  refine (begin_any _ ga va xa M20 da false A c l w h1 h7.size hr hd0 (by omega) (by omega) (by decide) (by decide) (by rw [List.length_append] at hb; unfold M20 at hb; omega)).mono ?_
  intro e w' ht
  obtain ⟨he, hto⟩ := PutTo.yes ht hb
  exact ⟨he, S2.to h1 h2 h3 h4 h5 h6 h7 hto⟩
theorem end2 (h : S2 w0 ga gb xa xb da db w) {A : Option Addr} {c : Nat} {l : List ByteArray} (hr : Kd.string.C w A l.length l) (hl : l.length ≤ 1000) (hb : ((xa ++ cat (l ++ [⟨#[10]⟩])).length : Int) ≤ M20) :
    Calls Try.prog 19 #[.pointer (some ⟨ga, 0, none⟩), .slice A l.length c] w fun e w' => e = .returned (.bool true) ∧ S2 w0 ga gb (xa ++ cat (l ++ [⟨#[10]⟩])) xb da db w' := by
  obtain ⟨va, vb, h1, h2, h3, h4, h5, h6, h7⟩ := h
  refine (end_any _ ga va xa M20 da false A c l w h1 h7.size hr (by omega) (by decide) (by decide) (by rw [List.length_append] at hb; unfold M20 at hb; omega)).mono ?_
  intro e w' ht
  obtain ⟨he, hto⟩ := PutTo.yes ht hb
  exact ⟨he, S2.to h1 h2 h3 h4 h5 h6 h7 hto⟩
theorem str2 (h : S2 w0 ga gb xa xb da db w) : Calls Try.prog 13 #[.pointer (some ⟨ga, 0, none⟩)] w fun e w' => e = .returned (.string ⟨xa.toArray⟩) ∧ S2 w0 ga gb xa xb da db w' := by
  obtain ⟨va, vb, h1, h2, h3, h4, h5, h6, h7⟩ := h
  refine (str_any _ ga va xa M20 da false w h1).mono ?_
  rintro e w' ⟨he, hs, hf⟩
  exact ⟨he, S2.to h1 h2 h3 h4 h5 h6 h7 ⟨va, hs, hf, .inl rfl⟩⟩
theorem new2 (h : S1 w0 ga [] M20 0 false w) : Calls Try.prog 9 #[.int .i64 1048576] w fun e w' => e = .returned (.pointer (some ⟨w.heap.size, 0, none⟩)) ∧ S2 w0 ga w.heap.size [] [] 0 0 w' := by
  obtain ⟨va, hs, hb⟩ := h
  refine (new_any 1048576 w).mono ?_
  rintro e w' ⟨he, hs2, hbb⟩
  refine ⟨he, va, .slice none 0 0, hs.below hbb, ⟨hb.size, hs2.2.1, World.ownsRowF_nil _ _ _ _⟩, by have := hs.lt; omega, .inl rfl, ?_, by simp [Value.ownBlock], below_weaken hb hb.size hbb⟩
  intro e
  have := hs.base w.heap.size e.symm
  omega
end

def ind_ (j : Nat) : ByteArray := ⟨(Lib.repeatL [32, 32] j).toArray⟩
theorem ind_succ (j : Nat) : ind_ (j + 1) = ind_ j ++ ⟨#[32, 32]⟩ := by
  have h : ∀ n, Lib.repeatL ([32, 32] : List UInt8) (n + 1) = Lib.repeatL [32, 32] n ++ [32, 32] := by
    intro n
    induction n with
    | zero => rfl
    | succ n ih => rw [show Lib.repeatL ([32, 32] : List UInt8) (n + 1 + 1) = [32, 32] ++ Lib.repeatL [32, 32] (n + 1) from rfl, ih, ← List.append_assoc, show ([32, 32] : List UInt8) ++ Lib.repeatL [32, 32] n = Lib.repeatL [32, 32] (n + 1) from rfl, ih]
  apply ByteArray.ext
  simp [ind_, h]
def InRel (w : World) (ga gb : Nat) (D : Int) (margin i : Value) (wr : World) : Prop :=
  ∃ j : Nat, (j : Int) ≤ D ∧ i = .int .i64 j ∧ margin = .string (ind_ j) ∧ S2 w ga gb [] [] j j wr
def LinesRel (w : World) (ga gb : Nat) (D : Nat) (l : List ByteArray) (want i : Value) (wr : World) : Prop :=
  ∃ (k : Nat) (wt : ByteArray), k ≤ l.length ∧ i = .int .i64 k ∧ want = .string wt ∧ wt.size ≤ 1100 * k ∧ S2 w ga gb wt.data.toList wt.data.toList D D wr

set_option maxHeartbeats 4000000 in
set_option maxRecDepth 1000000 in
theorem sinkLines (A : Option Addr) (c : Nat) (l : List ByteArray) (deep : Int) (w : World) (hr : Kd.C Kd.string w A l.length l) (hc : l.length ≤ c) (ho : ∀ x ∈ l, x.size ≤ maxLen) (hw : (Lit.int .u8 deep).wf = true) :
    Calls Try.prog 5 #[.slice A l.length c, .int .u8 deep] w (RetB (.bool true) w) := by
  have HR := Lib.hid hr
  have hd : 0 ≤ deep ∧ deep ≤ 255 := by simpa [Lit.wf, IntKind.min, IntKind.max, IntKind.signed, IntKind.bits] using hw
  clear hr hw ho
  obtain ⟨hd0, hd1⟩ := hd
  by_cases hl : l.length ≤ 40
  · go_enter Try.func5, Try.ntmps5
    go_wp2_with (go_at_call 9; go_must (refine (new1 1048576 (Below.refl _ w)).mono ?_))
    rintro e w1 ⟨rfl, hs⟩
    have HS1 : Hid (S1 w w.heap.size [] M20 0 false w1) := Lib.hid hs
    clear hs
    go_wp2_with (go_at_call 9; go_must (refine (new2 HS1.out).mono ?_))
    rintro e w2 ⟨rfl, hs⟩
    have HS2 := Lib.hid hs
    clear hs HS1
    generalize hga : w.heap.size = ga at *
    generalize hgb : w1.heap.size = gb at *
    clear hga hgb
    have hD0 : 0 ≤ deep % 20 := by omega
    have hD1 : deep % 20 ≤ 19 := by omega
    have hrem : Int.tmod deep 20 = deep % 20 := Int.tmod_eq_emod_of_nonneg hd0
    go_wp2
    go_loopw [8, 9] (fun margin i wr => InRel w ga gb (deep % 20) margin i wr) (fun _ i _ => (deep % 20 - intOf i).toNat)
    case atStart => exact ⟨0, hD0, rfl, rfl, HS2.out⟩
    case round =>
      obtain ⟨j, hj, rfl, rfl, hs⟩ := hrel
      have HS := Lib.hid hs
      clear hs HS2
      have hij : (ind_ j).size = 2 * j := ind_size (j : Int)
      by_cases hjl : (j : Int) < deep % 20
      · go_wp2_with (first
          | (go_at_call 10; go_must (refine (in2 HS.out (by omega) (by omega)).mono ?_)))
        rintro e w3 ⟨rfl, hs⟩
        have HS3 := Lib.hid hs.swap
        clear hs HS
        go_wp2_with (first
          | (go_at_call 10; go_must (refine (in2 HS3.out (by omega) (by omega)).mono ?_)))
        rintro e w4 ⟨rfl, hs⟩
        have HS4 := Lib.hid hs.swap
        clear hs HS3
        go_wp2
        go_round
        · exact ⟨j + 1, by omega, by simp, by rw [ind_succ], HS4.out⟩
        · simp only [intOf]; omega
      · obtain hjD : deep % 20 = (j : Int) := by omega
        clear hj hjl
        have hj20 : j ≤ 19 := by omega
        go_wp2
        clear hjD hD0 hD1 hrem
        go_loopw [7, 10] (fun want i wr => LinesRel w ga gb j l want i wr) (fun _ i _ => l.length - (intOf i).toNat)
        case atStart => exact ⟨0, ⟨#[]⟩, Nat.zero_le _, rfl, rfl, Nat.zero_le _, HS.out⟩
        case round =>
          obtain ⟨k, wt, hk, rfl, rfl, hwt, hs⟩ := hrel
          have HT := Lib.hid hs
          clear hs HS
          by_cases hlt : k < l.length
          · obtain ⟨ad, rfl, hcell⟩ := at_k (Kd.C_below HR.out HT.out.bel) k hlt
            by_cases h1000 : l[k].size ≤ 1000
            · have hln : (cat (ind (j : Int) :: [l[k]] ++ [⟨#[10]⟩])).length = 2 * j + l[k].size + 1 := by
                simp only [cat, List.length_append, data_length, List.cons_append, List.nil_append, List.length_nil, ind_size]
                show 2 * (j : Int).toNat + (l[k].size + (1 + 0)) = _
                omega
              go_wp2_with (first
                | (go_at_call 12; go_must (refine (line2 (HT.out.alloc _) (l := [l[k]]) (C_lit _ [l[k]] _ rfl (by simp)) (by omega) (by omega) (by simp) ?b1).mono ?_)))
              case b1 => rw [List.length_append, hln, data_length]; unfold M20; omega
              rintro e w3 ⟨rfl, hs⟩
              have HT3 := Lib.hid hs.swap
              clear hs HT hcell
              have hlb : (cat [ind (j : Int)]).length = 2 * j := by
                simp only [cat, List.length_append, data_length, List.length_nil, ind_size]; omega
              go_wp2_with (first
                | (go_at_call 18; go_must (refine (begin2 HT3.out (l := []) (Kd.C_nil Kd.string _) (by omega) (by omega) (by simp) ?b2).mono ?_)))
              case b2 => rw [List.length_append, hlb, data_length]; unfold M20; omega
              rintro e w4 ⟨rfl, hs⟩
              have HT4 := Lib.hid hs
              have hbel := HT4.out.bel
              obtain ⟨ad', hA', hcell4⟩ := at_k (Kd.C_below HR.out HT4.out.bel) k hlt
              injection hA' with hA'
              subst hA'
              clear hs HT3 hbel
              have hle : (cat ([l[k]] ++ [⟨#[10]⟩])).length = l[k].size + 1 := by
                simp only [cat, List.length_append, data_length, List.cons_append, List.nil_append, List.length_nil]
                show (l[k].size + (1 + 0)) = _
                omega
              go_wp2_with (first
                | (go_at_call 19; go_must (refine (end2 (HT4.out.alloc _) (l := [l[k]]) (C_lit _ [l[k]] _ rfl (by simp)) (by simp) ?b3).mono ?_)))
              case b3 => rw [List.length_append, List.length_append, hlb, hle, data_length]; unfold M20; omega
              rintro e w5 ⟨rfl, hs⟩
              have e1 : wt.data.toList ++ cat (ind (j : Int) :: [l[k]] ++ [⟨#[10]⟩]) = (wt ++ ind_ j ++ l[k] ++ ⟨#[10]⟩).data.toList := by rw [show ind (j : Int) = ind_ j from rfl]; simp [cat]
              have e2 : wt.data.toList ++ cat [ind (j : Int)] ++ cat ([l[k]] ++ [⟨#[10]⟩]) = (wt ++ ind_ j ++ l[k] ++ ⟨#[10]⟩).data.toList := by rw [show ind (j : Int) = ind_ j from rfl]; simp [cat]
              rw [e1, e2] at hs
              have HT5 := Lib.hid hs.swap
              clear hs HT4 hcell4 e1 e2
              have hsz : (wt ++ ind_ j ++ l[k] ++ (⟨#[10]⟩ : ByteArray)).size ≤ 1100 * (k + 1) := by
                rw [ByteArray.size_append, ByteArray.size_append, ByteArray.size_append]; show _ + 1 ≤ _; omega
              obtain ⟨ad', hA', hcell5⟩ := at_k (Kd.C_below HR.out HT5.out.bel) k hlt
              injection hA' with hA'
              subst hA'
              go_wp2
              go_round
              · exact ⟨k + 1, wt ++ ind_ j ++ l[k] ++ ⟨#[10]⟩, by omega, by simp, rfl, hsz, HT5.out⟩
              · simp only [intOf]; omega
            · go_wp2_with (first | (go_at_call 8; go_must (refine (awake _).mono ?_); rintro e w7 ⟨rfl, hb⟩; have HB4 := Lib.hid (below_weaken HT.out.bel HT.out.bel.size hb); clear hb))
              go_ret
              exact ⟨rfl, HB4.out⟩
          · obtain rfl : k = l.length := by omega
            go_wp2_with (first
              | (go_at_call 13; go_must (refine (str2 HT.out).mono ?_)))
            rintro e w3 ⟨rfl, hs⟩
            have HT3 := Lib.hid hs.swap
            clear hs HT
            go_wp2_with (first
              | (go_at_call 13; go_must (refine (str2 HT3.out).mono ?_)))
            rintro e w4 ⟨rfl, hs⟩
            have HT4 := Lib.hid hs
            clear hs HT3
            go_wp2_with (first | (go_at_call 8; go_must (refine (awake _).mono ?_); rintro e w7 ⟨rfl, hb⟩; have HB4 := Lib.hid (below_weaken HT4.out.bel HT4.out.bel.size hb); clear hb))
            go_ret
            exact ⟨rfl, HB4.out⟩
  · go_enter Try.func5, Try.ntmps5
    go_wp2_with (first | (go_at_call 8; go_must (refine (awake _).mono ?_); rintro e w5 ⟨rfl, hb⟩; have HB4 := Lib.hid hb; clear hb))
    go_ret
    exact ⟨rfl, HB4.out⟩
end Go.Proofs.Ytchdcklalgadhaa.Sk
