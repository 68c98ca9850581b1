/- The sink's own methods: New, In, Out, Len, Full, String, Put. -/
import Derived.Test.YtchdcklalgadhaaSkb
import Derived.Deep.QuietTactic
import Derived.BigQuiet
import Derived.IntWalk
set_option linter.unusedVariables false
namespace Go.Proofs.Ytchdcklalgadhaa.Sk
open Go.RowKit Go.Proofs.YtchdcklalgadhaaW.PrintWords Go.Proofs.YtchdcklalgadhaaW.PrintLast Go.Proofs.YtchdcklalgadhaaW.PrintMore

def NewTo (most : Int) (w : World) (e : Ending) (w' : World) : Prop :=
  e = .returned (.pointer (some ⟨w.heap.size, 0, none⟩)) ∧ Sk w.heap.size w.heap.size (.slice none 0 0) [] most 0 false w' ∧ Below w.heap.size w w'
theorem sk_new (w : World) (most : Int) : Sk w.heap.size w.heap.size (.slice none 0 0) [] most 0 false (w.alloc (.cells #[.pointer none, .slice none 0 0, .int .i64 most, .int .i64 0, .bool false] 47)) :=
  ⟨Nat.le_refl _, ⟨_, .inl rfl, heap_alloc_new w _⟩, World.ownsRowF_nil _ _ _ _⟩
set_option maxHeartbeats 1000000 in
theorem new_any (most : Int) (w : World) : Calls Try.prog 9 #[.int .i64 most] w (NewTo (max most 0) w) := by
  have h4 := Lib.hid (sk_new w (max most 0))
  go_enter Try.func9, Try.ntmps9
  go_wp2
  go_ret
  exact ⟨rfl, h4.out, (Below.refl _ _).alloc (Nat.le_refl _) _⟩

section
variable {B g : Nat} {v : Value} {bs : List UInt8} {most deep : Int} {full : Bool} {w : World}
theorem To.setDeep (h : Sk B g v bs most deep full w) (d : Int) : To B g v bs most d full w (w.setCell ⟨g, 3, none⟩ (.int .i64 d)) := ⟨v, h.setDeep d, Fr.of_set (g := g) _ w ⟨g, 3, none⟩ rfl _, .inl rfl⟩
theorem To.setFull (h : Sk B g v bs most deep full w) (d : Bool) : To B g v bs most deep d w (w.setCell ⟨g, 4, none⟩ (.bool d)) := ⟨v, h.setFull d, Fr.of_set (g := g) _ w ⟨g, 4, none⟩ rfl _, .inl rfl⟩
end

set_option maxHeartbeats 1000000 in
theorem in_any (B g : Nat) (v : Value) (bs : List UInt8) (most deep : Int) (full : Bool) (w : World) (h : Sk B g v bs most deep full w) (hd0 : 0 ≤ deep) (hd : deep < 9223372036854775807) :
    Calls Try.prog 10 #[.pointer (some ⟨g, 0, none⟩)] w fun e w' => e = .returned (.tuple #[]) ∧ To B g v bs most (deep + 1) full w w' := by
  obtain ⟨c1, c2, c3, c4⟩ := h.cell0
  have f3 := h.frozen 3
  have ht := Lib.hid (To.setDeep h (deep + 1))
  clear h
  go_enter Try.func10, Try.ntmps10
  go_wp2
  go_end0
  exact ⟨rfl, ht.out⟩
set_option maxHeartbeats 1000000 in
theorem out_pos (B g : Nat) (v : Value) (bs : List UInt8) (most deep : Int) (full : Bool) (w : World) (h : Sk B g v bs most deep full w) (hd0 : 0 < deep) (hd : deep < 9223372036854775807) :
    Calls Try.prog 11 #[.pointer (some ⟨g, 0, none⟩)] w fun e w' => e = .returned (.tuple #[]) ∧ To B g v bs most (deep - 1) full w w' := by
  obtain ⟨c1, c2, c3, c4⟩ := h.cell0
  have f3 := h.frozen 3
  have ht := Lib.hid (To.setDeep h (deep - 1))
  clear h
  go_enter Try.func11, Try.ntmps11
  go_wp2
  go_end0
  exact ⟨rfl, ht.out⟩
set_option maxHeartbeats 1000000 in
theorem out_zero (B g : Nat) (v : Value) (bs : List UInt8) (most : Int) (full : Bool) (w : World) (h : Sk B g v bs most 0 full w) :
    Calls Try.prog 11 #[.pointer (some ⟨g, 0, none⟩)] w fun e w' => e = .returned (.tuple #[]) ∧ To B g v bs most 0 full w w' := by
  obtain ⟨c1, c2, c3, c4⟩ := h.cell0
  have ht := Lib.hid (To.same h)
  clear h
  go_enter Try.func11, Try.ntmps11
  go_wp2
  go_end0
  exact ⟨rfl, ht.out⟩
set_option maxHeartbeats 1000000 in
theorem sinkLen (B g : Nat) (v : Value) (bs : List UInt8) (most deep : Int) (full : Bool) (w : World) (h : Sk B g v bs most deep full w) :
    Calls Try.prog 16 #[.pointer (some ⟨g, 0, none⟩)] w fun e w' => e = .returned (.int .i64 bs.length) ∧ w = w' := by
  go_enter Try.func16, Try.ntmps16
  go_wp2_with (go_at_call 23; refine (len_any B g v bs most deep full _ h).mono ?_; rintro e w' ⟨rfl, rfl⟩)
  go_ret
  exact ⟨rfl, rfl⟩
set_option maxHeartbeats 1000000 in
theorem full_any (B g : Nat) (v : Value) (bs : List UInt8) (most deep : Int) (full : Bool) (w : World) (h : Sk B g v bs most deep full w) :
    Calls Try.prog 17 #[.pointer (some ⟨g, 0, none⟩)] w fun e w' => e = .returned (.bool full) ∧ w = w' := by
  obtain ⟨c1, c2, c3, c4⟩ := h.cell0
  go_enter Try.func17, Try.ntmps17
  go_wp2
  go_ret
  exact ⟨rfl, rfl⟩
set_option maxHeartbeats 1000000 in
theorem str_any (B g : Nat) (v : Value) (bs : List UInt8) (most deep : Int) (full : Bool) (w : World) (h : Sk B g v bs most deep full w) :
    Calls Try.prog 13 #[.pointer (some ⟨g, 0, none⟩)] w (StrTo B g v bs most deep full w) := by
  go_enter Try.func13, Try.ntmps13
  go_wp2_with (go_at_call 22; refine (bstring B g v bs most deep full _ h).mono ?_; rintro e w' ⟨rfl, h1, h2⟩)
  go_ret
  exact ⟨rfl, h1, h2⟩

theorem To.pre {B g : Nat} {v : Value} {bs : List UInt8} {most deep : Int} {full : Bool} {w w1 w2 : World} (h : To B g v bs most deep full w1 w2) (hf : Fr g v.ownBlock w w1) : To B g v bs most deep full w w2 := by
  obtain ⟨v', hk, hfr, hrow⟩ := h
  exact ⟨v', hk, hf.trans hfr (.inl rfl), (RowTo.refl _ _).trans hrow hf.size⟩
theorem To.trans {B g : Nat} {v v1 : Value} {bs : List UInt8} {most deep : Int} {full : Bool} {w w1 w2 : World} (hf : Fr g v.ownBlock w w1) (hr : RowTo v.ownBlock v1.ownBlock w) (h : To B g v1 bs most deep full w1 w2) : To B g v bs most deep full w w2 := by
  obtain ⟨v', hk, hfr, hrow⟩ := h
  exact ⟨v', hk, hf.trans hfr hr, hr.trans hrow hf.size⟩

/-! ### Put -/
def cat : List ByteArray → List UInt8
  | [] => []
  | p :: r => p.data.toList ++ cat r
theorem cat_snoc (l : List ByteArray) (p : ByteArray) : cat (l ++ [p]) = cat l ++ p.data.toList := by
  induction l with
  | nil => simp [cat]
  | cons q r ih => simp [cat, ih]
theorem cat_append (l m : List ByteArray) : cat (l ++ m) = cat l ++ cat m := by
  induction l with
  | nil => rfl
  | cons q r ih => simp [cat, ih]
/-- Is there no room? (No text at all always has.) -/
def over (room : Int) : List ByteArray → Bool
  | [] => false
  | p :: r => decide (room < (p.size : Int)) || over (room - p.size) r
theorem over_cat (room : Int) (l : List ByteArray) (h : 0 ≤ room) : over room l = decide (room < ((cat l).length : Int)) := by
  induction l generalizing room with
  | nil => exact (decide_eq_false (by simp [cat]; omega)).symm
  | cons p r ih =>
    simp only [over, cat, List.length_append, data_length]
    by_cases h1 : room < (p.size : Int)
    · rw [decide_eq_true h1, decide_eq_true (by omega)]; rfl
    · rw [decide_eq_false h1, ih _ (by omega), Bool.false_or, decide_eq_decide]; omega

/-- What Put answers and leaves. -/
def PutTo (B g : Nat) (v : Value) (bs : List UInt8) (most deep : Int) (full : Bool) (l : List ByteArray) (w : World) (e : Ending) (w' : World) : Prop :=
  if full = true ∨ over (most - bs.length) l = true then e = .returned (.bool false) ∧ To B g v bs most deep true w w' else e = .returned (.bool true) ∧ To B g v (bs ++ cat l) most deep false w w'

theorem over_next (l : List ByteArray) (k : Nat) (r : Int) (hk : k < l.length) : over r (l.drop k) = (decide (r < (l[k].size : Int)) || over (r - l[k].size) (l.drop (k + 1))) := by
  rw [List.drop_eq_getElem_cons hk]; rfl
theorem cat_take (l : List ByteArray) (k : Nat) (hk : k < l.length) : cat (l.take (k + 1)) = cat (l.take k) ++ l[k].data.toList := by
  rw [List.take_succ_eq_append_getElem hk, cat_snoc]
theorem cat_le (l : List ByteArray) (k : Nat) (hk : k < l.length) : (cat (l.take k)).length + l[k].size ≤ (cat l).length := by
  have h : cat l = cat (l.take (k + 1)) ++ cat (l.drop (k + 1)) := by rw [← cat_append, List.take_append_drop]
  rw [h, cat_take l k hk, List.length_append, List.length_append, data_length]; omega
def Rel1 (l : List ByteArray) (room0 : Int) (room i : Value) : Prop := ∃ (k : Nat) (r : Int), k ≤ l.length ∧ i = .int .i64 k ∧ room = .int .i64 r ∧ over r (l.drop k) = over room0 l ∧ r ≤ room0 ∧ (r = room0 ∨ 0 ≤ r)
def Rel2 (B g : Nat) (v : Value) (bs : List UInt8) (most deep : Int) (l : List ByteArray) (w : World) (i : Value) (wr : World) : Prop :=
  ∃ (k : Nat) (v' : Value), k ≤ l.length ∧ i = .int .i64 k ∧ Sk B g v' (bs ++ cat (l.take k)) most deep false wr ∧ Fr g v.ownBlock w wr ∧ RowTo v.ownBlock v'.ownBlock w
theorem at_k {W : World} {A : Option Addr} {l : List ByteArray} (h : Kd.C Kd.string W A l.length l) (k : Nat) (hk : k < l.length) : ∃ ad, A = some ad ∧ W.cell? (ad.add k) = some (.string l[k]) := by
  obtain ⟨ad, hA, hc⟩ := Kd.at_string h (k : Int) (by omega) (by omega)
  refine ⟨ad, hA, ?_⟩
  rw [show ((k : Int)).toNat = k from by omega] at hc
  rw [hc]
  rw [show rdOf ByteArray.empty l (k : Int) = l.getD (k : Int).toNat ByteArray.empty from rfl]
  simp [hk]

set_option maxHeartbeats 1000000 in
theorem put_full (B g : Nat) (v : Value) (bs : List UInt8) (most deep : Int) (A : Option Addr) (n c : Nat) (l : List ByteArray) (w : World) (h : Sk B g v bs most deep true w) :
    Calls Try.prog 15 #[.pointer (some ⟨g, 0, none⟩), .slice A n c] w (PutTo B g v bs most deep true l w) := by
  obtain ⟨c1, c2, c3, c4⟩ := h.cell0
  have ht := Lib.hid (To.same h)
  clear h
  go_enter Try.func15, Try.ntmps15
  go_wp2
  go_ret
  unfold PutTo
  rw [if_pos (.inl rfl)]
  exact ⟨rfl, ht.out⟩

set_option maxHeartbeats 8000000 in
set_option maxRecDepth 1000000 in
theorem put_room (B g : Nat) (v : Value) (bs : List UInt8) (most deep : Int) (A : Option Addr) (c : Nat) (l : List ByteArray) (w : World) (h : Sk B g v bs most deep false w) (hBw : B ≤ w.heap.size)
    (hr0 : ∀ W, Fr g v.ownBlock w W → Kd.C Kd.string W A l.length l) (hm0 : 0 ≤ most) (hm1 : most ≤ 9223372036854775807) (hb : bs.length + (cat l).length ≤ 140737488355328) :
    Calls Try.prog 15 #[.pointer (some ⟨g, 0, none⟩), .slice A l.length c] w (PutTo B g v bs most deep false l w) := by
  obtain ⟨c1, c2, c3, c4⟩ := h.cell0
  have hlm := (hr0 w (Fr.refl _ _ _)).2.1
  have hr := Lib.hid hr0; clear hr0
  have hsub : IntKind.i64.wrap (most - (bs.length : Int)) = most - bs.length := IntWalk.i64_in _ (by omega)
  go_enter Try.func15, Try.ntmps15
  go_wp2
  go_quiet ((go_at_call 23; exact Calls.quiet_of_same (len_any B g v bs most deep false _ (h.drewN _))))
  have hr1 : ∀ W, Fr g v.ownBlock (w.drewN nq) W → Kd.C Kd.string W A l.length l := fun W hW => hr.out W (((Fr.refl g v.ownBlock w).drewN nq).trans hW (.inl rfl))
  have hk1 : Sk B g v bs most deep false (w.drewN nq) := h.drewN nq
  have hBw1 : B ≤ (w.drewN nq).heap.size := hBw
  have HR := Lib.hid hr1
  have HF := Lib.hid ((Fr.refl g v.ownBlock w).drewN nq)
  clear hr1 hr h hBw c1 c2 c3 c4 hsub
  generalize hw1 : w.drewN nq = w1 at *
  clear hw1
  have f4 := hk1.frozen 4
  have ht4 := Lib.hid (To.setFull hk1 true)
  obtain ⟨c1, c2, c3, c4⟩ := hk1.cell0
  go_wp2
  go_loop [5, 29] (fun room i => Rel1 l (most - bs.length) room i) (fun _ i => l.length - (intOf i).toNat)
  case atStart => exact ⟨0, _, Nat.zero_le _, rfl, rfl, rfl, Int.le_refl _, .inl rfl⟩
  case round =>
    obtain ⟨k, r, hk, rfl, rfl, hov, hr0, hr1⟩ := hrel
    have HOV := Lib.hid hov; clear hov
    have hrl : -140737488355328 ≤ r := by rcases hr1 with rfl | hr1 <;> omega
    by_cases hlt : k < l.length
    · obtain ⟨ad, rfl, hcell⟩ := at_k (HR.out w1 (Fr.refl _ _ _)) k hlt
      have hsz := cat_le l k hlt
      have hnx := Lib.hid (over_next l k r hlt)
      by_cases hro : r < (l[k].size : Int)
      · have hover : over (most - bs.length) l = true := by rw [← HOV.out, hnx.out, decide_eq_true hro]; rfl
        have HO := Lib.hid hover; clear hover
        go_wp2
        go_ret
        unfold PutTo
        rw [if_pos (.inr HO.out)]
        exact ⟨rfl, ht4.out.pre HF.out⟩
      · have hover : over (r - l[k].size) (l.drop (k + 1)) = over (most - bs.length) l := by rw [← HOV.out, hnx.out, decide_eq_false hro]; rfl
        have HO := Lib.hid hover; clear hover
        have hge : (l[k].size : Int) ≤ r := by omega
        go_wp2
        go_round
        · exact ⟨k + 1, r - l[k].size, by omega, by simp, rfl, HO.out, by omega, .inr (by omega)⟩
        · simp only [intOf]; omega
    · have hkl : k = l.length := by omega
      have hov0 : over (most - bs.length) l = false := by rw [← HOV.out, hkl, List.drop_length]; rfl
      have HO := Lib.hid hov0; clear hov0
      clear ht4 f4 c1 c2 c3 c4
      have HK := Lib.hid hk1
      clear hk1
      go_wp2
      go_loopw [47] (fun i wr => Rel2 B g v bs most deep l w1 i wr) (fun i _ => l.length - (intOf i).toNat)
      case atStart => exact ⟨0, v, Nat.zero_le _, rfl, by simpa [cat] using HK.out, Fr.refl _ _ _, .inl rfl⟩
      case round =>
        obtain ⟨k2, v2, hk2, rfl, hsk, hfr, hrow⟩ := hrel
        have HS := Lib.hid hsk
        have HFR := Lib.hid hfr
        have HRW := Lib.hid hrow
        clear hsk hfr hrow
        by_cases hlt : k2 < l.length
        · obtain ⟨ad, rfl, hcell⟩ := at_k (HR.out _ HFR.out) k2 hlt
          have hsz := cat_le l k2 hlt
          go_wp2_with (go_at_call 24; refine (writeString B g v2 (bs ++ cat (l.take k2)) most deep false l[k2] _ HS.out ?g1 ?g2).mono ?_)
          case g1 => simp only [List.length_append]; omega
          case g2 => have := HFR.out.size; omega
          rintro e w3 ⟨rfl, hto⟩
          obtain ⟨v3, hs3, hf3, hr3⟩ := hto
          have HS3 := Lib.hid hs3
          have HF3 := Lib.hid hf3
          have HR3 := Lib.hid hr3
          clear hs3 hf3 hr3
          go_wp2
          go_round
          · refine ⟨k2 + 1, v3, by omega, by simp, ?_, HFR.out.trans HF3.out HRW.out, HRW.out.trans HR3.out HFR.out.size⟩
            rw [cat_take l k2 hlt, ← List.append_assoc]
            exact HS3.out
          · simp only [intOf]; omega
        · go_wp2
          go_ret
          have hk3 : k2 = l.length := by omega
          unfold PutTo
          rw [if_neg (by rw [HO.out]; simp)]
          have h4 := HS.out
          rw [hk3, List.take_length] at h4
          exact ⟨rfl, v2, h4, HF.out.trans HFR.out (.inl rfl), (RowTo.refl _ _).trans HRW.out HF.out.size⟩
end Go.Proofs.Ytchdcklalgadhaa.Sk
