/- The contract of note.Print2: some comments, line by line. -/
import Derived.Test.YtnommbcendoncaaNp
set_option linter.unusedVariables false
namespace Go.Proofs.Ytnommbcendoncaa.Np
open Go.RowKit Go.Proofs.Ytnommbcendoncaa.B Go.Proofs.YtnommbcendoncaaW.PrintWords Go.Proofs.YtnommbcendoncaaW.PrintLast Go.Proofs.YtnommbcendoncaaW.PrintMore

def np2a (d : Int) (acc : List UInt8) : List ByteArray → ByteArray × Int
  | [] => (⟨acc.toArray⟩, 0)
  | n :: r => if (npr d n).2 = 0 then np2a d (acc ++ (npr d n).1.data.toList ++ [10]) r else (⟨#[]⟩, (npr d n).2)
def note_Print2.f (a0 : Int) (l1 : List ByteArray) : Option (ByteArray × Int) := if l1.length ≤ 20 then some (np2a a0 [] l1) else none
def Res2 (d : Int) (l : List ByteArray) (e : Ending) : Prop := e = .returned (.tuple #[.string (np2a d [] l).1, .int .i64 (np2a d [] l).2])

theorem npr_size (d : Int) (s : ByteArray) : (npr d s).1.size ≤ 2052 := by
  unfold npr
  split
  · split
    · exact Nat.zero_le _
    · split
      · have h := nbody_len d s.data.toList
        have h2 := data_length s
        have h3 : (nopen d).length ≤ 2 := by unfold nopen; split <;> simp
        have h4 : (nend d).length ≤ 2 := by unfold nend; split <;> simp
        show (nopen d ++ nbody d s.data.toList ++ nend d).toArray.size ≤ 2052
        simp only [List.size_toArray, List.length_append]
        omega
      · exact Nat.zero_le _
  · exact Nat.zero_le _

theorem at_below {T e : TypeId} {B b : Nat} {p : Value} {bs : List Value} {w w1 : World} (h : Lib.BuilderAtF T e B b p bs w) (hb : Below w.heap.size w w1) : Lib.BuilderAtF T e B b p bs w1 := by
  have hlt := h.lt
  obtain ⟨hB, v, hk, hown, hne⟩ := h
  exact ⟨hB, v, (hb.block _ hlt).trans hk, hown.kept (grown_of_below hb none) (by cases hv : v.ownBlock <;> simp), hne⟩
theorem builder_below {T e : TypeId} {B b : Nat} {bs : List Value} {w w1 : World} (h : Lib.IsBuilderF T e B b bs w) (hb : Below w.heap.size w w1) : Lib.IsBuilderF T e B b bs w1 :=
  h.elim (fun x => .inl (at_below x hb)) (fun x => .inr (at_below x hb))

def Rel2 (d : Int) (l : List ByteArray) (w : World) (i : Value) (wr : World) : Prop :=
  ∃ (k : Nat) (acc : List UInt8), k ≤ l.length ∧ i = .int .i64 k ∧ Lib.IsBuilderF 46 5 w.heap.size w.heap.size (Lib.byteCells acc) wr ∧ Below w.heap.size w wr ∧ np2a d acc (l.drop k) = np2a d [] l ∧ acc.length ≤ 2053 * k

theorem np2_end (d : Int) (l : List ByteArray) (acc : List UInt8) (k : Nat) (hk : ¬ k < l.length) (h : np2a d acc (l.drop k) = np2a d [] l) : np2a d [] l = (⟨acc.toArray⟩, 0) := by
  rw [← h, List.drop_eq_nil_of_le (by omega)]; rfl
theorem np2_next (d : Int) (l : List ByteArray) (acc : List UInt8) (k : Nat) (hk : k < l.length) (h : np2a d acc (l.drop k) = np2a d [] l) (h0 : (npr d l[k]).2 = 0) : np2a d (acc ++ (npr d l[k]).1.data.toList ++ [10]) (l.drop (k + 1)) = np2a d [] l := by
  rw [← h, List.drop_eq_getElem_cons hk]
  simp only [np2a]; rw [if_pos h0]
theorem np2_stop (d : Int) (l : List ByteArray) (acc : List UInt8) (k : Nat) (hk : k < l.length) (h : np2a d acc (l.drop k) = np2a d [] l) (h0 : ¬ (npr d l[k]).2 = 0) : np2a d [] l = (⟨#[]⟩, (npr d l[k]).2) := by
  rw [← h, List.drop_eq_getElem_cons hk]
  simp only [np2a]; rw [if_neg h0]

set_option maxHeartbeats 8000000 in
set_option maxRecDepth 1000000 in
theorem note_Print2.walk (d : Int) (A : Option Addr) (c : Nat) (l : List ByteArray) (w : World) (hr0 : Kd.C Kd.string w A l.length l) (hl : l.length ≤ 20) :
    Calls Try.prog 14 #[.int .i64 d, .slice A l.length c] w fun e w' => Res2 d l e ∧ Below w.heap.size w w' := by
  have hr := Lib.hid hr0; clear hr0
  have hI0 := Lib.IsBuilderF.of (Lib.fresh_isBuilder 46 5 w)
  go_enter Try.func14, Try.ntmps14
  go_wp2
  go_loopw [13] (fun i wr => Rel2 d l w i wr) (fun i _ => l.length - (intOf i).toNat)
  case atStart => exact ⟨0, [], Nat.zero_le _, rfl, hI0, (Below.refl _ w).alloc (Nat.le_refl _) _, rfl, by simp⟩
  case round =>
    obtain ⟨k, acc, hk, rfl, hI, hb, hacc0, hlen⟩ := hrel
    have hacc := Lib.hid hacc0; clear hacc0 hI0
    have hz : w.heap.size ≤ wr.heap.size := hb.size
    by_cases hlt : k < l.length
    · obtain ⟨ad, rfl, hcell0⟩ := Kd.at_string hr.out (k : Int) (by omega) (by omega)
      have hcell : wr.cell? (ad.add k) = some (.string l[k]) := by
        have h1 := pw_cell_below hb hcell0
        rw [show ((k : Int)).toNat = k from by omega] at h1
        rw [h1]; simp [rdOf, hlt]
      have hsz0 := npr_size d l[k]
      obtain ⟨t, z, hnp0⟩ : ∃ t z, npr d l[k] = (t, z) := ⟨_, _, rfl⟩
      have hsz : t.size ≤ 2052 := by rw [hnp0] at hsz0; exact hsz0
      have hnp := Lib.hid hnp0; clear hnp0 hsz0
      by_cases h0 : z = 0
      · subst h0
        go_wp2_with (go_at_call 9; refine (note_Print.calls _ _ t 0 _ (congrArg some hnp.out)).mono ?_; rintro e w1 ⟨rfl, hb1⟩)
        have hI1 := builder_below hI hb1
        have hbw1 := hb.trans (hb1.mono hz)
        have hz1 : w.heap.size ≤ w1.heap.size := hbw1.size
        clear hI hb hb1 hcell hcell0 hz
        refine (Bld.writeString _ _ _ t _ hI1 (by rw [Lib.byteCells_length]; omega) hz1).mono ?_
        rintro e w2 ⟨rfl, hI2, hb2, -⟩
        have hbw2 := hbw1.trans hb2
        have hz2 : w.heap.size ≤ w2.heap.size := hbw2.size
        have hI3 : Lib.IsBuilderF 46 5 w.heap.size w.heap.size (Lib.byteCells (acc ++ t.data.toList)) w2 := by
          rw [byteCells_str, ← Lib.byteCells_append] at hI2; exact .inr hI2
        clear hI1 hI2 hbw1 hb2 hz1
        go_wp2_with (go_at_call 23; refine (Bld.writeByte _ _ _ 10 _ hI3 (by rw [Lib.byteCells_length, List.length_append, data_length]; omega) hz2).mono ?_)
        rintro e w3 ⟨rfl, hI4, hb3, -⟩
        have hbw3 := hbw2.trans hb3
        have hI5 : Lib.IsBuilderF 46 5 w.heap.size w.heap.size (Lib.byteCells (acc ++ t.data.toList ++ [10])) w3 := by
          rw [byteCells_snoc]; exact .inr hI4
        have hst := Lib.hid (np2_next d l acc k hlt hacc.out (by rw [hnp.out]))
        have hln : (acc ++ t.data.toList ++ [10]).length ≤ 2053 * (k + 1) := by simp only [List.length_append, data_length, List.length_singleton]; omega
        have HLN := Lib.hid hln; clear hln
        clear hI3 hI4 hbw2 hb3 hz2
        go_wp2
        go_roundw
        case rel => exact ⟨k + 1, _, hlt, by go_num, hI5, hbw3, by have := hst.out; rw [hnp.out] at this; exact this, HLN.out⟩
        case measure => simp [intOf]; omega
      · have H0 := Lib.hid h0
        have hz0 : (z != 0) = true := bne_iff_ne.mpr h0
        clear h0
        go_wp2_with (go_at_call 9; refine (note_Print.calls _ _ t z _ (congrArg some hnp.out)).mono ?_; rintro e w1 ⟨rfl, hb1⟩)
        go_ret2
        exact ⟨by have h := np2_stop d l acc k hlt hacc.out (by rw [hnp.out]; exact H0.out); unfold Res2; rw [h, hnp.out]; rfl, hb.trans (hb1.mono hz)⟩
    · go_wp2_with (go_at_call 24; refine (Bld.string _ _ _ _ hI hz).mono ?_)
      rintro e w1 ⟨rfl, -, hb1, -⟩
      go_wp2
      go_ret2
      exact ⟨by unfold Res2; rw [np2_end d l acc k hlt hacc.out]; rfl, hb.trans hb1⟩

theorem note_Print2.calls (a0 : Int) (A1 : Option Addr) (c1 : Nat) (l1 : List ByteArray) (r1 : ByteArray) (r2 : Int) (w : World) (hr1 : Kd.C Kd.string w A1 l1.length l1) (hc1 : l1.length ≤ c1) (h : note_Print2.f a0 l1 = some (r1, r2)) :
    Calls Try.prog 14 #[.int .i64 a0, .slice A1 l1.length c1] w fun e w' => e = .returned (.tuple #[.string r1, .int .i64 r2]) ∧ Below w.heap.size w w' := by
  unfold note_Print2.f at h
  split at h
  · rename_i hl
    have h' : np2a a0 [] l1 = (r1, r2) := Option.some.inj h
    refine (note_Print2.walk a0 A1 c1 l1 w hr1 hl).mono ?_
    rintro e w' ⟨he, hb⟩
    unfold Res2 at he
    rw [h'] at he
    exact ⟨he, hb⟩
  · cases h
end Go.Proofs.Ytnommbcendoncaa.Np
