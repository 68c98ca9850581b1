/- One sink that a call has made: its contracts in a short form; the document's example. -/
import Derived.Test.YtchdcklalgadhaaSke
import Derived.Deep.DeepMust
set_option linter.unusedVariables false
namespace Go.Proofs.Ytchdcklalgadhaa.Sk
open Go.RowKit Go.Proofs.YtchdcklalgadhaaW.PrintWords Go.Proofs.YtchdcklalgadhaaW.PrintLast Go.Proofs.YtchdcklalgadhaaW.PrintMore

/-- A sink that was made behind w0; w0 is as it was. -/
def S1 (w0 : World) (g : Nat) (bs : List UInt8) (most deep : Int) (full : Bool) (w : World) : Prop := ∃ v, Sk w0.heap.size g v bs most deep full w ∧ Below w0.heap.size w0 w
section
variable {w0 w w1 : World} {g : Nat} {bs : List UInt8} {most deep : Int} {full : Bool}
theorem S1.bel (h : S1 w0 g bs most deep full w) : Below w0.heap.size w0 w := by obtain ⟨_, _, h⟩ := h; exact h
theorem S1.of_to {v : Value} {bs0 : List UInt8} {m0 d0 : Int} {f0 : Bool} (h : Sk w0.heap.size g v bs0 m0 d0 f0 w) (hb : Below w0.heap.size w0 w) (ht : To w0.heap.size g v bs most deep full w w1) : S1 w0 g bs most deep full w1 := by
  obtain ⟨v', hs, hf, _⟩ := ht
  exact ⟨v', hs, hb.trans (hf.below h.1 (fun k hk => (h.base k hk).1) hb.size)⟩
theorem S1.below (h : S1 w0 g bs most deep full w) (hb : Below w.heap.size w w1) : S1 w0 g bs most deep full w1 := by
  obtain ⟨v, hs, hb0⟩ := h
  exact ⟨v, hs.below hb, below_weaken hb0 hb0.size hb⟩
theorem S1.alloc (h : S1 w0 g bs most deep full w) (o : Obj) : S1 w0 g bs most deep full (w.alloc o) := h.below (below_alloc (Below.refl _ _) o)
theorem S1.drewN (h : S1 w0 g bs most deep full w) (n : Nat) : S1 w0 g bs most deep full (w.drewN n) := by
  obtain ⟨v, hs, hb0⟩ := h
  exact ⟨v, hs.drewN n, ⟨hb0.os, hb0.tape, hb0.output, hb0.size, hb0.block⟩⟩
def Put1 (w0 : World) (g : Nat) (bs : List UInt8) (most deep : Int) (full : Bool) (l : List ByteArray) (e : Ending) (w' : World) : Prop :=
  if full = true ∨ over (most - bs.length) l = true then e = .returned (.bool false) ∧ S1 w0 g bs most deep true w' else e = .returned (.bool true) ∧ S1 w0 g (bs ++ cat l) most deep false w'
theorem Put1.of_to {v : Value} {l : List ByteArray} {e : Ending} (h : Sk w0.heap.size g v bs most deep full w) (hb : Below w0.heap.size w0 w) (ht : PutTo w0.heap.size g v bs most deep full l w e w1) : Put1 w0 g bs most deep full l e w1 := by
  unfold PutTo at ht
  unfold Put1
  split at ht
  · rw [if_pos (by assumption)]; exact ⟨ht.1, S1.of_to h hb ht.2⟩
  · rw [if_neg (by assumption)]; exact ⟨ht.1, S1.of_to h hb ht.2⟩
theorem Put1.ret {l : List ByteArray} {e : Ending} (h : Put1 w0 g bs most deep full l e w1) : ∃ b, e = .returned (.bool b) := by
  unfold Put1 at h
  split at h
  · exact ⟨_, h.1⟩
  · exact ⟨_, h.1⟩
/-- With room. -/
theorem Put1.yes {l : List ByteArray} {e : Ending} (h : Put1 w0 g bs most deep false l e w1) (hr : ((bs ++ cat l).length : Int) ≤ most) (h0 : (bs.length : Int) ≤ most) : e = .returned (.bool true) ∧ S1 w0 g (bs ++ cat l) most deep false w1 := by
  unfold Put1 at h
  rw [if_neg (by
    rw [over_cat _ _ (by omega)]
    simp only [List.length_append] at hr
    simp only [Bool.false_eq_true, false_or, decide_eq_true_eq]
    omega)] at h
  exact h
theorem Put1.no {l : List ByteArray} {e : Ending} (h : Put1 w0 g bs most deep full l e w1) (hr : full = true ∨ most < ((bs ++ cat l).length : Int)) (h0 : (bs.length : Int) ≤ most) : e = .returned (.bool false) ∧ S1 w0 g bs most deep true w1 := by
  unfold Put1 at h
  rw [if_pos (by
    rw [over_cat _ _ (by omega)]
    simp only [List.length_append] at hr
    simp only [decide_eq_true_eq]
    rcases hr with hr | hr
    · exact .inl hr
    · exact .inr (by omega))] at h
  exact h

theorem new1 (most : Int) (hb : Below w0.heap.size w0 w) : Calls Try.prog 9 #[.int .i64 most] w fun e w' => e = .returned (.pointer (some ⟨w.heap.size, 0, none⟩)) ∧ S1 w0 w.heap.size [] (max most 0) 0 false w' := by
  refine (new_any most w).mono ?_
  rintro e w' ⟨he, hs, hbb⟩
  refine ⟨he, _, ⟨hb.size, hs.2.1, World.ownsRowF_nil _ _ _ _⟩, below_weaken hb hb.size hbb⟩
theorem in1 (h : S1 w0 g bs most deep full w) (hd0 : 0 ≤ deep) (hd : deep < 9223372036854775807) : Calls Try.prog 10 #[.pointer (some ⟨g, 0, none⟩)] w fun e w' => e = .returned (.tuple #[]) ∧ S1 w0 g bs most (deep + 1) full w' := by
  obtain ⟨v, hs, hb⟩ := h
  refine (in_any _ g v bs most deep full w hs hd0 hd).mono ?_
  rintro e w' ⟨he, ht⟩
  exact ⟨he, S1.of_to hs hb ht⟩
theorem out1 (h : S1 w0 g bs most deep full w) (hd0 : 0 ≤ deep) (hd : deep < 9223372036854775807) : Calls Try.prog 11 #[.pointer (some ⟨g, 0, none⟩)] w fun e w' => e = .returned (.tuple #[]) ∧ S1 w0 g bs most (max 0 (deep - 1)) full w' := by
  obtain ⟨v, hs, hb⟩ := h
  by_cases h0 : deep = 0
  · subst h0
    refine (out_zero _ g v bs most full w hs).mono ?_
    rintro e w' ⟨he, ht⟩
    exact ⟨he, S1.of_to hs hb ht⟩
  · refine (out_pos _ g v bs most deep full w hs (by omega) hd).mono ?_
    rintro e w' ⟨he, ht⟩
    rw [show max 0 (deep - 1) = deep - 1 from by omega]
    exact ⟨he, S1.of_to hs hb ht⟩
theorem len1 (h : S1 w0 g bs most deep full w) : Calls Try.prog 16 #[.pointer (some ⟨g, 0, none⟩)] w fun e w' => e = .returned (.int .i64 bs.length) ∧ w = w' := by
  obtain ⟨v, hs, hb⟩ := h
  exact sinkLen _ g v bs most deep full w hs
theorem full1 (h : S1 w0 g bs most deep full w) : Calls Try.prog 17 #[.pointer (some ⟨g, 0, none⟩)] w fun e w' => e = .returned (.bool full) ∧ w = w' := by
  obtain ⟨v, hs, hb⟩ := h
  exact full_any _ g v bs most deep full w hs
theorem str1 (h : S1 w0 g bs most deep full w) : Calls Try.prog 13 #[.pointer (some ⟨g, 0, none⟩)] w fun e w' => e = .returned (.string ⟨bs.toArray⟩) ∧ S1 w0 g bs most deep full w' := by
  obtain ⟨v, hs, hb⟩ := h
  refine (str_any _ g v bs most deep full w hs).mono ?_
  rintro e w' ⟨he, hs', hf⟩
  exact ⟨he, v, hs', hb.trans (hf.below hs.1 (fun k hk => (hs.base k hk).1) hb.size)⟩
/-- Put of a row of w0's. -/
theorem put1 (h : S1 w0 g bs most deep full w) {A : Option Addr} {c : Nat} {l : List ByteArray} (hr : Kd.string.C w0 A l.length l) (hm0 : 0 ≤ most) (hm1 : most ≤ 9223372036854775807) (hb : bs.length + (cat l).length ≤ 140737488355328) :
    Calls Try.prog 15 #[.pointer (some ⟨g, 0, none⟩), .slice A l.length c] w (Put1 w0 g bs most deep full l) := by
  obtain ⟨v, hs, hbb⟩ := h
  refine (put_any _ g v bs most deep full A c l w hs hbb.size (fun W hf => Kd.C_below hr (hbb.trans (hf.below hs.1 (fun k hk => (hs.base k hk).1) hbb.size))) hm0 hm1 hb).mono ?_
  exact fun e w' ht => Put1.of_to hs hbb ht
/-- Put of a row of the call's own. -/
theorem put1r (h : S1 w0 g bs most deep full w) {r : Value} {l : List ByteArray} {base : Nat} (hr : Kd.string.R 9 w base Any1 r l) (hm0 : 0 ≤ most) (hm1 : most ≤ 9223372036854775807) (hb : bs.length + (cat l).length ≤ 140737488355328) :
    Calls Try.prog 15 #[.pointer (some ⟨g, 0, none⟩), r] w (Put1 w0 g bs most deep full l) := by
  obtain ⟨v, hs, hbb⟩ := h
  exact (put_row _ g v bs most deep full r l base w hs hbb.size hr hm0 hm1 hb).mono fun e w' ht => Put1.of_to hs hbb ht
theorem begin1 (h : S1 w0 g bs most deep full w) {A : Option Addr} {c : Nat} {l : List ByteArray} (hr : Kd.string.C w A l.length l) (hd0 : 0 ≤ deep) (hd : deep ≤ 1000000) (hl : l.length ≤ 1000000) (hm0 : 0 ≤ most) (hm1 : most ≤ 9223372036854775807) (hb : bs.length + (cat (ind deep :: l)).length ≤ 140737488355328) :
    Calls Try.prog 18 #[.pointer (some ⟨g, 0, none⟩), .slice A l.length c] w (Put1 w0 g bs most deep full (ind deep :: l)) := by
  obtain ⟨v, hs, hbb⟩ := h
  exact (begin_any _ g v bs most deep full A c l w hs hbb.size hr hd0 hd hl hm0 hm1 hb).mono fun e w' ht => Put1.of_to hs hbb ht
theorem line1 (h : S1 w0 g bs most deep full w) {A : Option Addr} {c : Nat} {l : List ByteArray} (hr : Kd.string.C w A l.length l) (hd0 : 0 ≤ deep) (hd : deep ≤ 1000000) (hl : l.length ≤ 1000000) (hm0 : 0 ≤ most) (hm1 : most ≤ 9223372036854775807) (hb : bs.length + (cat (ind deep :: l ++ [⟨#[10]⟩])).length ≤ 140737488355328) :
    Calls Try.prog 12 #[.pointer (some ⟨g, 0, none⟩), .slice A l.length c] w (Put1 w0 g bs most deep full (ind deep :: l ++ [⟨#[10]⟩])) := by
  obtain ⟨v, hs, hbb⟩ := h
  exact (line_any _ g v bs most deep full A c l w hs hbb.size hr hd0 hd hl hm0 hm1 hb).mono fun e w' ht => Put1.of_to hs hbb ht
theorem end1 (h : S1 w0 g bs most deep full w) {A : Option Addr} {c : Nat} {l : List ByteArray} (hr : Kd.string.C w A l.length l) (hl : l.length ≤ 1000000) (hm0 : 0 ≤ most) (hm1 : most ≤ 9223372036854775807) (hb : bs.length + (cat (l ++ [⟨#[10]⟩])).length ≤ 140737488355328) :
    Calls Try.prog 19 #[.pointer (some ⟨g, 0, none⟩), .slice A l.length c] w (Put1 w0 g bs most deep full (l ++ [⟨#[10]⟩])) := by
  obtain ⟨v, hs, hbb⟩ := h
  exact (end_any _ g v bs most deep full A c l w hs hbb.size hr hl hm0 hm1 hb).mono fun e w' ht => Put1.of_to hs hbb ht
end

set_option maxHeartbeats 4000000 in
set_option maxRecDepth 1000000 in
theorem awake (w : World) : Calls Try.prog 8 #[] w (RetB (.bool true) w) := by
  go_enter Try.func8, Try.ntmps8
  go_wp2_with (go_at_call 9; refine (new1 9 (Below.refl _ w)).mono ?_)
  rintro e w1 ⟨rfl, hs⟩
  have HS1 : Hid (S1 w w.heap.size [] 9 0 false w1) := Lib.hid hs
  clear hs
  go_wp2_with (go_at_call 10; refine (in1 HS1.out (by omega) (by omega)).mono ?_)
  rintro e w2 ⟨rfl, hs⟩
  have HS2 : Hid (S1 w w.heap.size [] 9 1 false w2) := Lib.hid hs
  clear hs HS1
  go_wp2_with (go_at_call 12; refine (line1 (HS2.out.alloc _) (l := [⟨#[97]⟩, ⟨#[98]⟩]) (C_lit w2 [⟨#[97]⟩, ⟨#[98]⟩] _ rfl (by simp)) (by omega) (by omega) (by simp) (by omega) (by omega) (by decide)).mono ?_)
  intro e w3 hp
  obtain ⟨he, hs⟩ := hp.yes (by decide) (by decide)
  subst he
  have HS3 := Lib.hid hs
  clear hp hs HS2
  go_wp2_with (go_at_call 15; refine (put1r (HS3.out.alloc _) (R_one w3 ⟨#[49, 50, 51, 52, 53]⟩ (Nat.le_refl _)) (by omega) (by omega) (by decide)).mono ?_)
  intro e w4 hp
  obtain ⟨he, hs⟩ := hp.no (by decide) (by decide)
  subst he
  have HS4 := Lib.hid hs
  clear hp hs HS3
  go_wp2_with (first | (go_at_call 15; refine (put1r HS4.out (Kd.R_nil Kd.string 9 w4 w4.heap.size Any1) (by omega) (by omega) (by decide)).mono ?_))
  intro e w5 hp
  obtain ⟨he, hs⟩ := hp.no (.inl rfl) (by decide)
  subst he
  have HS5 := Lib.hid hs
  clear hp hs HS4
  go_wp2_with (first | (go_at_call 13; go_must (refine (str1 HS5.out).mono ?_)))
  rintro e w6 ⟨rfl, hs⟩
  have HS6 := Lib.hid hs
  clear hs HS5
  rw [show (⟨(([] : List UInt8) ++ cat ([ind 1, ⟨#[97]⟩, ⟨#[98]⟩] ++ [⟨#[10]⟩])).toArray⟩ : ByteArray) = ⟨#[32, 32, 97, 98, 10]⟩ from by decide]
  go_wp2_with (first | (go_at_call 17; go_must (refine (full1 HS6.out).mono ?_); rintro e w7 ⟨rfl, rfl⟩))
  go_ret
  exact ⟨rfl, HS6.out.bel⟩
end Go.Proofs.Ytchdcklalgadhaa.Sk
