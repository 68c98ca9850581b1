/- The contract of note.Print, by a walk over the shelf's contracts of strings.Builder: what it computes is a plain function of the text. -/
import Derived.Test.YtnommbcendoncaaB
import Derived.Test.YtnommbcendoncaaBld
import Derived.Lib.UnsafeStr
import Derived.Lib.OthersKept
import Derived.Lib.FrozenHead
import Derived.WalkKit
import Derived.BigCall
import Derived.Deep.QuietTactic
import Derived.BigQuiet
import Derived.Lib.Hide
import Derived.Outline
namespace Go.Proofs.Ytnommbcendoncaa.Np
open Go.RowKit Go.Proofs.Ytnommbcendoncaa.B Go.Proofs.YtnommbcendoncaaW.PrintWords Go.Proofs.YtnommbcendoncaaW.PrintLast Go.Proofs.YtnommbcendoncaaW.PrintMore

def nright (c : UInt8) : Bool := decide (c.toNat = 9) || decide (c.toNat = 10) || (decide (32 ≤ c.toNat) && decide (c.toNat ≤ 126))
def nmark (d : Int) (c : UInt8) (r : List UInt8) : Bool := decide (c.toNat = 92) || (decide (d = 0) && decide (c.toNat = 125)) || (decide (d ≠ 0) && decide (c.toNat = 42) && decide (r.head? = some 47))
def nbody (d : Int) : List UInt8 → List UInt8
  | [] => []
  | c :: r => (if nmark d c r then [92, c] else [c]) ++ nbody d r
def nopen (d : Int) : List UInt8 := if d = 0 then [123] else [47, 42]
def nend (d : Int) : List UInt8 := if d = 0 then [125] else [42, 47]
def nform (d : Int) (s : ByteArray) : ByteArray := ⟨(nopen d ++ nbody d s.data.toList ++ nend d).toArray⟩
def npr (d : Int) (s : ByteArray) : ByteArray × Int :=
  if d = 0 ∨ d = 1 then (if 1024 < s.size then (⟨#[]⟩, 3) else if s.data.toList.all nright then (nform d s, 0) else (⟨#[]⟩, 8)) else (⟨#[]⟩, 1)
def note_Print.f (a0 : Int) (a1 : ByteArray) : Option (ByteArray × Int) := some (npr a0 a1)
def Res (d : Int) (s : ByteArray) (e : Ending) : Prop := e = .returned (.tuple #[.string (npr d s).1, .int .i64 (npr d s).2])

theorem nbody_len (d : Int) (l : List UInt8) : (nbody d l).length ≤ 2 * l.length := by
  induction l with
  | nil => simp [nbody]
  | cons c r ih => simp only [nbody]; split <;> simp <;> omega

theorem right_f (c : UInt8) : note_right.f (c.toNat : Int) = some (nright c) := by
  have h : c.toNat < 256 := c.toNat_lt
  unfold note_right.f nright
  by_cases h1 : (c.toNat : Int) = 9
  · have : c.toNat = 9 := by omega
    simp [this]
  by_cases h2 : (c.toNat : Int) = 10
  · have : c.toNat = 10 := by omega
    simp [this]
  by_cases h3 : (c.toNat : Int) ≥ 32
  · rw [if_neg h1, if_neg h2, if_pos h3]
    have a : c.toNat ≠ 9 := by omega
    have b : c.toNat ≠ 10 := by omega
    have g : 32 ≤ c.toNat := by omega
    have e : decide ((c.toNat : Int) ≤ 126) = decide (c.toNat ≤ 126) := by
      rw [decide_eq_decide]; omega
    simp [a, b, g, e]
  · rw [if_neg h1, if_neg h2, if_neg h3]
    have a : c.toNat ≠ 9 := by omega
    have b : c.toNat ≠ 10 := by omega
    have g : ¬ 32 ≤ c.toNat := by omega
    simp [a, b, g]

theorem of_wrong (d : Int) (h0 : d ≠ 0) (h1 : d ≠ 1) : note_of.f d = some (⟨#[]⟩, ⟨#[]⟩, ⟨#[]⟩, false) := by
  unfold note_of.f; rw [if_neg h0, if_neg h1]

set_option maxHeartbeats 4000000 in
set_option maxRecDepth 1000000 in
theorem walk_wrong (d : Int) (s : ByteArray) (w : World) (h0 : d ≠ 0) (h1 : d ≠ 1) :
    Calls Try.prog 9 #[.int .i64 d, .string s] w fun e w' => Res d s e ∧ Below w.heap.size w w' := by
  have hf := Lib.hid (of_wrong d h0 h1)
  have hr : Hid (npr d s = (⟨#[]⟩, 1)) := Lib.hid (by unfold npr; rw [if_neg (by omega)])
  clear h0 h1
  go_enter Try.func9, Try.ntmps9
  go_wp2_with (go_at_call 19; refine (note_of.calls _ _ _ _ _ _ hf.out).mono ?_; rintro e w1 ⟨rfl, hb1⟩)
  go_ret2
  exact ⟨by unfold Res; rw [hr.out]; rfl, hb1.alloc hb1.size _⟩


theorem byteCells_str (s : ByteArray) : Lib.strCells s = Lib.byteCells s.data.toList := rfl
theorem nx_data (s : ByteArray) (p : Nat) (h : p < s.size) : s.data.toList.drop p = s[p] :: s.data.toList.drop (p + 1) := by
  have h' : p < s.data.toList.length := by simpa using h
  rw [List.drop_eq_getElem_cons h']; rfl

theorem prefix_f (a b : ByteArray) : strings_HasPrefix.f a b = some (b.data.toList.isPrefixOf a.data.toList) := by
  have h : stringslite_HasPrefix.f a b = some (b.data.toList.isPrefixOf a.data.toList) := by
    unfold stringslite_HasPrefix.f
    by_cases h : (a.size : Int) ≥ (b.size : Int)
    · rw [if_pos h, if_pos (by omega), if_pos (by omega)]
      have e : (a.extract 0 ((b.size : Int) : Int).toNat).toList = a.data.toList.take b.data.toList.length := by
        rw [Lib.extract_toList, List.drop_zero, data_length]; congr 1
      have e2 : (a.data.toList.take b.data.toList.length == b.data.toList) = b.data.toList.isPrefixOf a.data.toList := by
        rw [Bool.eq_iff_iff, beq_iff_eq, List.isPrefixOf_iff_prefix, List.prefix_iff_eq_take]
        exact eq_comm
      rw [e, Lib.toList_data, e2]
    · rw [if_neg h]
      have : b.data.toList.isPrefixOf a.data.toList = false := by
        rw [Bool.eq_false_iff]; intro hp
        have := (List.isPrefixOf_iff_prefix.mp hp).length_le
        rw [data_length, data_length] at this; omega
      rw [this]
  unfold strings_HasPrefix.f; rw [h]; try rfl

theorem ext_end (s : ByteArray) (a : Nat) : (s.extract a s.size).data.toList = s.data.toList.drop a := by
  rw [Lib.extract_data, List.take_of_length_le (by rw [List.length_drop, data_length]; exact Nat.le_refl _)]

theorem end_mark (d : Int) (hd : d = 0 ∨ d = 1) (c : UInt8) (r : List UInt8) (h : c.toNat ≠ 92) : (nend d).isPrefixOf (c :: r) = nmark d c r := by
  have e (c : UInt8) (n : Nat) (hn : n < 256) : (c == UInt8.ofNat n) = decide (c.toNat = n) := by
    rw [Bool.eq_iff_iff, beq_iff_eq, decide_eq_true_eq, ← UInt8.toNat_inj, UInt8.toNat_ofNat_of_lt' hn]
  rcases hd with rfl | rfl
  · have := e c 125 (by omega)
    have h2 : ((125 : UInt8) == c) = decide (c.toNat = 125) := by rw [← this, Bool.eq_iff_iff, beq_iff_eq, beq_iff_eq]; exact eq_comm
    simp [nend, nmark, List.isPrefixOf, h, h2]
  · have h2 : ((42 : UInt8) == c) = decide (c.toNat = 42) := by rw [← e c 42 (by omega), Bool.eq_iff_iff, beq_iff_eq, beq_iff_eq]; exact eq_comm
    cases r with
    | nil => simp [nend, nmark, List.isPrefixOf, h]
    | cons y r =>
      have h3 : ((47 : UInt8) == y) = decide (y = 47) := by rw [Bool.eq_iff_iff, beq_iff_eq, decide_eq_true_eq]; exact eq_comm
      simp [nend, nmark, List.isPrefixOf, h, h2, h3]

theorem mark_92 (d : Int) (c : UInt8) (r : List UInt8) (h : c.toNat = 92) : nmark d c r = true := by simp [nmark, h]

theorem res_wrong (d : Int) (hd : d = 0 ∨ d = 1) (s : ByteArray) (hs : s.size ≤ 1024) (pos : Nat) (hp : pos < s.size) (h : ¬ nright s[pos] = true) : npr d s = (⟨#[]⟩, 8) := by
  unfold npr
  rw [if_pos hd, if_neg (by omega), if_neg ?_]
  intro ha
  rw [List.all_eq_true] at ha
  exact h (ha _ (by
    have : s[pos] = s.data.toList[pos]'(by simpa using hp) := rfl
    rw [this]; exact List.getElem_mem _))
theorem res_right (d : Int) (hd : d = 0 ∨ d = 1) (s : ByteArray) (hs : s.size ≤ 1024) (h : s.data.toList.all nright = true) : npr d s = (nform d s, 0) := by
  unfold npr
  rw [if_pos hd, if_neg (by omega), if_pos h]

theorem nopen_len (d : Int) : (nopen d).length ≤ 2 := by unfold nopen; split <;> simp
theorem res_end (d : Int) (hd : d = 0 ∨ d = 1) (s : ByteArray) (hs : s.size ≤ 1024) (pos : Nat) (acc : List UInt8) (hp : ¬ pos < s.size) (hall : (s.data.toList.take pos).all nright = true) (hacc : acc ++ nbody d (s.data.toList.drop pos) = nbody d s.data.toList) :
    Res d s (.returned (.tuple #[.string ⟨(nopen d ++ (acc ++ nend d)).toArray⟩, .int .i64 0])) := by
  have hl : s.data.toList.length ≤ pos := by rw [data_length]; omega
  rw [List.take_of_length_le hl] at hall
  rw [List.drop_eq_nil_of_le hl] at hacc
  simp only [nbody, List.append_nil] at hacc
  unfold Res; rw [res_right d hd s hs hall, hacc, ← List.append_assoc]; rfl

def Rel (d : Int) (op en qu s : ByteArray) (w : World) (g k : Nat) (wr : World) : Prop :=
  ∃ (pos : Nat) (acc : List UInt8), pos ≤ s.size ∧ (s.data.toList.take pos).all nright = true ∧ Lib.IsBuilderF 46 5 (g + 1) (g + 1) (Lib.byteCells (nopen d ++ acc)) wr ∧ wr.heap[k]? = some (.stringIter s pos) ∧
    wr.heap[g]? = some (.cells #[.string op, .string en, .string qu] 40 (0, 0)) ∧ Below w.heap.size w wr ∧ g + 1 ≤ wr.heap.size ∧ acc ++ nbody d (s.data.toList.drop pos) = nbody d s.data.toList ∧ acc.length ≤ 2 * pos

theorem byteCells_snoc (l : List UInt8) (c : UInt8) : Lib.byteCells (l ++ [c]) = Lib.byteCells l ++ [.int .u8 (c.toNat : Int)] := by rw [Lib.byteCells_append]; rfl
theorem take_snoc (s : ByteArray) (p : Nat) (h : p < s.size) : s.data.toList.take (p + 1) = s.data.toList.take p ++ [s[p]] := by
  rw [List.take_succ_eq_append_getElem (by simpa using h)]; rfl
theorem rel_step (d : Int) (op en qu s : ByteArray) (w : World) (g k pos : Nat) (acc : List UInt8) (w8 : World) (mk : Bool) (hp : pos < s.size) (hc : nright s[pos] = true) (hall : (s.data.toList.take pos).all nright = true)
    (hacc : acc ++ nbody d (s.data.toList.drop pos) = nbody d s.data.toList) (hlen : acc.length ≤ 2 * pos) (hmk : nmark d s[pos] (s.data.toList.drop (pos + 1)) = mk)
    (hI : Lib.IsBuilderF 46 5 (g + 1) (g + 1) (Lib.byteCells ((nopen d ++ (if mk then acc ++ [92] else acc)) ++ [s[pos]])) w8) (hit : w8.heap[k]? = some (.stringIter s (pos + 1)))
    (hm : w8.heap[g]? = some (.cells #[.string op, .string en, .string qu] 40 (0, 0))) (hb : Below w.heap.size w w8) (hz : g + 1 ≤ w8.heap.size) : Rel d op en qu s w g k w8 := by
  refine ⟨pos + 1, (if mk then acc ++ [92] else acc) ++ [s[pos]], hp, ?_, by rw [List.append_assoc] at hI; exact hI, hit, hm, hb, hz, ?_, ?_⟩
  · rw [take_snoc s pos hp, List.all_append, hall]; simp [hc]
  · rw [← hacc, nx_data s pos hp]
    simp only [nbody, hmk]
    cases mk <;> simp
  · cases mk <;> simp <;> omega

set_option maxHeartbeats 8000000 in
set_option maxRecDepth 1000000 in
theorem walk_right (d : Int) (op en qu : ByteArray) (s : ByteArray) (w : World) (hf0 : note_of.f d = some (op, en, qu, true)) (hop0 : op.data.toList = nopen d) (hop1 : op.size ≤ 2) (hen0 : en.data.toList = nend d) (hen1 : en.size ≤ 2) (hs : s.size ≤ 1024) (hd0 : d = 0 ∨ d = 1) :
    Calls Try.prog 9 #[.int .i64 d, .string s] w fun e w' => Res d s e ∧ Below w.heap.size w w' := by
  have hd' := Lib.hid hd0; clear hd0
  have hf := Lib.hid hf0; clear hf0
  have hop := Lib.hid hop0; clear hop0
  have hen := Lib.hid hen0; clear hen0
  go_enter Try.func9, Try.ntmps9
  go_wp2_with (go_at_call 19; refine (note_of.calls _ _ _ _ _ _ hf.out).mono ?_; rintro e w1 ⟨rfl, hb1⟩)
  have hI0 : Lib.IsBuilderF 46 5 (w1.heap.size + 1) (w1.heap.size + 1) [] ((w1.alloc (.cells #[.string op, .string en, .string qu] 40)).alloc (.cells #[.pointer none, .slice none 0 0] 46)) := by
    have h := Lib.IsBuilderF.of (Lib.fresh_isBuilder 46 5 (w1.alloc (.cells #[.string op, .string en, .string qu] 40)))
    simpa using h
  refine (Bld.writeString (w1.heap.size + 1) (w1.heap.size + 1) [] op _ hI0 (by simp; omega) (by simp)).mono ?_
  rintro e w2 ⟨rfl, hI2, hb2, hk2⟩
  have hm2 : w2.heap[w1.heap.size]? = some (.cells #[.string op, .string en, .string qu] 40 (0, 0)) := by
    rw [hb2.block _ (by omega)]
    exact (Lib.alloc_old _ _ _ (by simp)).trans (heap_alloc_new w1 _)
  have hI2' : Lib.IsBuilderF 46 5 (w1.heap.size + 1) (w1.heap.size + 1) (Lib.byteCells (nopen d)) w2 := by
    rw [List.nil_append, byteCells_str, hop.out] at hI2
    exact .inr hI2
  have hw2 : Below w.heap.size w w2 := ((hb1.alloc hb1.size _).alloc (by have := hb1.size; simp; omega) _).trans (hb2.mono (by have := hb1.size; omega))
  have hz2 : w1.heap.size + 1 < w2.heap.size := hI2.lt
  have hwg : w.heap.size ≤ w1.heap.size + 1 := by have := hb1.size; omega
  clear hI0 hI2 hb2 hk2 hb1
  generalize w1.heap.size = g at *
  clear w1
  go_wp2
  have hkw0 : w.heap.size ≤ w2.heap.size := hw2.size
  generalize hk : w2.heap.size = k at *
  go_loopw [] (fun wr => Rel d op en qu s w g k wr) (fun wr => s.size - wr.iterPos k)
  case atStart =>
    refine ⟨0, [], Nat.zero_le _, by simp, ?_, ?_, ?_, ?_, ?_, ?_, by simp⟩
    · rw [List.append_nil]; exact hI2'.alloc _
    · rw [← hk]; exact World.iter_heap w2 s 0
    · exact (Lib.alloc_old _ _ _ (by omega)).trans hm2
    · exact hw2.alloc (by have := hw2.size; omega) _
    · show g + 1 ≤ (w2.alloc _).heap.size
      simp; omega
    · simp
  case round =>
    obtain ⟨pos, acc, hp0, hall, hI, hit, hm, hbw, hgz, hacc, hlen⟩ := hrel
    have hkw := hkw0
    clear hI2' hm2 hw2 hz2 hk hkw0
    clear w2
    have Hall := Lib.hid hall; clear hall
    have Hacc := Lib.hid hacc; clear hacc
    by_cases hp : pos < s.size
    · have hdrop := Lib.hid (nx_data s pos hp)
      by_cases hc0 : nright s[pos] = true
      · have ha : (s[pos]'hp).toNat < 128 := by
          have h := hc0
          simp only [nright, Bool.or_eq_true, Bool.and_eq_true, decide_eq_true_eq] at h
          omega
        have hnx : ∀ ty, (Instr.next (.pointer (some ⟨k, 0, none⟩)) true ty).run Try.prog wr = _ := fun ty => Lib.run_next_ascii_at wr k s pos ty hit hp ha
        have hI3 := hI.iterAt hit (pos + 1)
        have hit3 := Lib.iterAt_heap wr k s pos (pos + 1) hit
        have hkg : k ≠ g := by intro h; rw [h, hm] at hit; cases hit
        have hkb : k ≠ g + 1 := by
          rcases hI with h | h
          · obtain ⟨_, v, hb, _⟩ := h
            intro e; rw [e, hb] at hit; cases hit
          · obtain ⟨_, v, hb, _⟩ := h
            intro e; rw [e, hb] at hit; cases hit
        have hm3 : (wr.iterAt k s (pos + 1)).heap[g]? = some (.cells #[.string op, .string en, .string qu] 40 (0, 0)) := by rw [Lib.iterAt_other _ _ _ _ _ (Ne.symm hkg)]; exact hm
        have hbw3 : Below w.heap.size w (wr.iterAt k s (pos + 1)) := Lib.below_iterAt hbw hkw s (pos + 1)
        have hz3 : g + 1 ≤ (wr.iterAt k s (pos + 1)).heap.size := by rw [Lib.iterAt_size]; exact hgz
        have hkg1 : k ≠ g + 1 := hkb
        have hit0 := Lib.hid hit
        clear hit hm hI hbw hgz
        go_wp2_with (go_at_call 21; refine (note_right.calls _ _ _ (right_f _)).mono ?_; rintro e w3 ⟨rfl, ⟨⟨n3, rfl⟩⟩⟩)
        clear hnx
        have hI4 : Lib.IsBuilderF 46 5 (g + 1) (g + 1) (Lib.byteCells (nopen d ++ acc)) ((wr.iterAt k s (pos + 1)).drewN n3) := hI3
        have hit4 : ((wr.iterAt k s (pos + 1)).drewN n3).heap[k]? = some (.stringIter s (pos + 1)) := hit3
        have hm4 : ((wr.iterAt k s (pos + 1)).drewN n3).heap[g]? = some (.cells #[.string op, .string en, .string qu] 40 (0, 0)) := hm3
        have hb4 : Below w.heap.size w ((wr.iterAt k s (pos + 1)).drewN n3) := pw_below_drewN hbw3 n3
        have hz4 : g + 1 ≤ ((wr.iterAt k s (pos + 1)).drewN n3).heap.size := hz3
        clear hI3 hit3 hm3 hbw3 hz3
        generalize (wr.iterAt k s (pos + 1)).drewN n3 = w4 at *
        have hc1 : w4.cell? ⟨g, 1, none⟩ = some (.string en) := (blk_cell hm4 1).trans rfl
        have hlt : (pos : Int) < (s.size : Int) := by omega
        by_cases hq : (s[pos]'hp).toNat = 92
        · have hq1 : (((s[pos]'hp).toNat : Int) == 92) = true := beq_iff_eq.mpr (by omega)
          have hmk := Lib.hid (mark_92 d s[pos] (s.data.toList.drop (pos + 1)) hq)
          clear hq
          go_quiet (fail)
          have hI5 : Lib.IsBuilderF 46 5 (g + 1) (g + 1) (Lib.byteCells (nopen d ++ acc)) (w4.drewN nq) := hI4
          have hit5 : (w4.drewN nq).heap[k]? = some (.stringIter s (pos + 1)) := hit4
          have hm5 : (w4.drewN nq).heap[g]? = some (.cells #[.string op, .string en, .string qu] 40 (0, 0)) := hm4
          have hb5 : Below w.heap.size w (w4.drewN nq) := pw_below_drewN hb4 nq
          have hz5 : g + 1 ≤ (w4.drewN nq).heap.size := hz4
          clear hI4 hit4 hm4 hb4 hz4 hc1
          generalize w4.drewN nq = w5 at *
          go_wp2_with (go_at_call 23; refine (Bld.writeByte (g + 1) (g + 1) _ 92 _ hI5 (by rw [Lib.byteCells_length, List.length_append]; have := nopen_len d; omega) hz5).mono ?_)
          rintro e w6 ⟨rfl, hI6, hb6, hk6⟩
          have hI7 : Lib.IsBuilderF 46 5 (g + 1) (g + 1) (Lib.byteCells (nopen d ++ (acc ++ [92]))) w6 := by rw [← List.append_assoc, Lib.byteCells_append]; exact .inr hI6
          have hit7 := hk6.iter hit5 hkg1
          have hm7 := (hb6.block g (by omega)).trans hm5
          have hb7 := hb5.trans (hb6.mono hwg)
          have hz7 : g + 1 ≤ w6.heap.size := by have := hb6.size; omega
          clear hI5 hit5 hm5 hb5 hI6 hk6 hb6 hz5
          go_wp2_with (go_at_call 23; refine (Bld.writeByte (g + 1) (g + 1) _ (s[pos]'hp).toNat _ hI7 (by rw [Lib.byteCells_length, List.length_append]; have := nopen_len d; simp; omega) hz7).mono ?_)
          rintro e w8 ⟨rfl, hI8, hb8, hk8⟩
          have hrel := Lib.hid (rel_step d op en qu s w g k pos acc w8 true hp hc0 Hall.out Hacc.out hlen hmk.out (by rw [byteCells_snoc]; exact .inr hI8) (hk8.iter hit7 hkg1) ((hb8.block g (by omega)).trans hm7) (hb7.trans (hb8.mono hwg)) (by have := hb8.size; omega))
          have hmeas : w8.iterPos k = pos + 1 := by unfold World.iterPos; rw [hk8.iter hit7 hkg1]
          have hmeas0 : wr.iterPos k = pos := by unfold World.iterPos; rw [hit0.out]
          have HM := Lib.hid hmeas; have HM0 := Lib.hid hmeas0
          clear hI7 hit7 hm7 hb7 hI8 hb8 hk8 hmeas hmeas0
          go_wp2
          go_roundw
          case rel => exact hrel.out
          case measure => rw [HM.out, HM0.out]; omega
        · have hq1 : (((s[pos]'hp).toNat : Int) == 92) = false := beq_eq_false_iff_ne.mpr (by omega)
          have hpf := Lib.hid ((prefix_f (s.extract pos s.size) en).trans (by rw [ext_end, nx_data s pos hp, hen.out, end_mark d hd'.out _ _ hq]))
          clear hq
          generalize hmk0 : nmark d s[pos] (s.data.toList.drop (pos + 1)) = mk at hpf
          have hmk := Lib.hid hmk0; clear hmk0
          cases mk with
          | true =>
            go_quiet ((go_at_call 22; exact Calls.quiet_of ((strings_HasPrefix.calls _ _ _ _ hpf.out).mono fun _ _ ⟨he, hd⟩ => ⟨he, hd.out⟩)))
            have hI5 : Lib.IsBuilderF 46 5 (g + 1) (g + 1) (Lib.byteCells (nopen d ++ acc)) (w4.drewN nq) := hI4
            have hit5 : (w4.drewN nq).heap[k]? = some (.stringIter s (pos + 1)) := hit4
            have hm5 : (w4.drewN nq).heap[g]? = some (.cells #[.string op, .string en, .string qu] 40 (0, 0)) := hm4
            have hb5 : Below w.heap.size w (w4.drewN nq) := pw_below_drewN hb4 nq
            have hz5 : g + 1 ≤ (w4.drewN nq).heap.size := hz4
            clear hI4 hit4 hm4 hb4 hz4 hc1
            generalize w4.drewN nq = w5 at *
            go_wp2_with (go_at_call 23; refine (Bld.writeByte (g + 1) (g + 1) _ 92 _ hI5 (by rw [Lib.byteCells_length, List.length_append]; have := nopen_len d; omega) hz5).mono ?_)
            rintro e w6 ⟨rfl, hI6, hb6, hk6⟩
            have hI7 : Lib.IsBuilderF 46 5 (g + 1) (g + 1) (Lib.byteCells (nopen d ++ (acc ++ [92]))) w6 := by rw [← List.append_assoc, Lib.byteCells_append]; exact .inr hI6
            have hit7 := hk6.iter hit5 hkg1
            have hm7 := (hb6.block g (by omega)).trans hm5
            have hb7 := hb5.trans (hb6.mono hwg)
            have hz7 : g + 1 ≤ w6.heap.size := by have := hb6.size; omega
            clear hI5 hit5 hm5 hb5 hI6 hk6 hb6 hz5
            go_wp2_with (go_at_call 23; refine (Bld.writeByte (g + 1) (g + 1) _ (s[pos]'hp).toNat _ hI7 (by rw [Lib.byteCells_length, List.length_append]; have := nopen_len d; simp; omega) hz7).mono ?_)
            rintro e w8 ⟨rfl, hI8, hb8, hk8⟩
            have hrel := Lib.hid (rel_step d op en qu s w g k pos acc w8 true hp hc0 Hall.out Hacc.out hlen hmk.out (by rw [byteCells_snoc]; exact .inr hI8) (hk8.iter hit7 hkg1) ((hb8.block g (by omega)).trans hm7) (hb7.trans (hb8.mono hwg)) (by have := hb8.size; omega))
            have hmeas : w8.iterPos k = pos + 1 := by unfold World.iterPos; rw [hk8.iter hit7 hkg1]
            have hmeas0 : wr.iterPos k = pos := by unfold World.iterPos; rw [hit0.out]
            have HM := Lib.hid hmeas; have HM0 := Lib.hid hmeas0
            clear hI7 hit7 hm7 hb7 hI8 hb8 hk8 hmeas hmeas0
            go_wp2
            go_roundw
            case rel => exact hrel.out
            case measure => rw [HM.out, HM0.out]; omega
          | false =>
            go_quiet ((go_at_call 22; exact Calls.quiet_of ((strings_HasPrefix.calls _ _ _ _ hpf.out).mono fun _ _ ⟨he, hd⟩ => ⟨he, hd.out⟩)))
            have hI5 : Lib.IsBuilderF 46 5 (g + 1) (g + 1) (Lib.byteCells (nopen d ++ acc)) (w4.drewN nq) := hI4
            have hit5 : (w4.drewN nq).heap[k]? = some (.stringIter s (pos + 1)) := hit4
            have hm5 : (w4.drewN nq).heap[g]? = some (.cells #[.string op, .string en, .string qu] 40 (0, 0)) := hm4
            have hb5 : Below w.heap.size w (w4.drewN nq) := pw_below_drewN hb4 nq
            have hz5 : g + 1 ≤ (w4.drewN nq).heap.size := hz4
            clear hI4 hit4 hm4 hb4 hz4 hc1
            generalize w4.drewN nq = w5 at *
            have hI7 : Lib.IsBuilderF 46 5 (g + 1) (g + 1) (Lib.byteCells (nopen d ++ acc)) w5 := hI5
            have hit7 := hit5
            have hm7 := hm5
            have hb7 := hb5
            have hz7 := hz5
            clear hI5 hit5 hm5 hb5 hz5
            go_wp2_with (go_at_call 23; refine (Bld.writeByte (g + 1) (g + 1) _ (s[pos]'hp).toNat _ hI7 (by rw [Lib.byteCells_length, List.length_append]; have := nopen_len d; simp; omega) hz7).mono ?_)
            rintro e w8 ⟨rfl, hI8, hb8, hk8⟩
            have hrel := Lib.hid (rel_step d op en qu s w g k pos acc w8 false hp hc0 Hall.out Hacc.out hlen hmk.out (by rw [byteCells_snoc]; exact .inr hI8) (hk8.iter hit7 hkg1) ((hb8.block g (by omega)).trans hm7) (hb7.trans (hb8.mono hwg)) (by have := hb8.size; omega))
            have hmeas : w8.iterPos k = pos + 1 := by unfold World.iterPos; rw [hk8.iter hit7 hkg1]
            have hmeas0 : wr.iterPos k = pos := by unfold World.iterPos; rw [hit0.out]
            have HM := Lib.hid hmeas; have HM0 := Lib.hid hmeas0
            clear hI7 hit7 hm7 hb7 hI8 hb8 hk8 hmeas hmeas0
            go_wp2
            go_roundw
            case rel => exact hrel.out
            case measure => rw [HM.out, HM0.out]; omega
      · have hnx : ∀ ty, (Instr.next (.pointer (some ⟨k, 0, none⟩)) true ty).run Try.prog wr = _ := fun ty => Lib.run_next_any_at wr k s pos ty hit hp
        have hbw3 : Below w.heap.size w (wr.iterAt k s (pos + (Utf8.decode s pos).2)) := Lib.below_iterAt hbw hkw s _
        have hRes := Lib.hid (res_wrong d hd'.out s hs pos hp hc0)
        go_wp2_with (go_at_call 21; refine (note_right.calls _ _ _ (right_f _)).mono ?_; rintro e w3 ⟨rfl, ⟨⟨n3, rfl⟩⟩⟩)
        go_ret2
        exact ⟨by unfold Res; rw [hRes.out]; rfl, pw_below_drewN hbw3 n3⟩
    · have hnx : ∀ ty, (Instr.next (.pointer (some ⟨k, 0, none⟩)) true ty).run Try.prog wr = _ := fun ty => Lib.run_next_end_at wr k s pos ty hit hp
      have hc1 : wr.cell? ⟨g, 1, none⟩ = some (.string en) := (blk_cell hm 1).trans rfl
      go_wp2_with (go_at_call 20; refine (Bld.writeString (g + 1) (g + 1) _ en _ hI (by rw [Lib.byteCells_length, List.length_append]; have := nopen_len d; omega) hgz).mono ?_)
      rintro e w3 ⟨rfl, hI3, hb3, hk3⟩
      have hI4 : Lib.IsBuilderF 46 5 (g + 1) (g + 1) (Lib.byteCells (nopen d ++ acc ++ nend d)) w3 := by
        rw [byteCells_str, hen.out, ← Lib.byteCells_append] at hI3
        exact .inr hI3
      have hb4 := hbw.trans (hb3.mono hwg)
      have hz4 : g + 1 ≤ w3.heap.size := by have := hb3.size; omega
      clear hI3 hI hc1 hb3 hk3 hbw hm hit hnx
      go_wp2_with (go_at_call 24; refine (Bld.string (g + 1) (g + 1) _ _ hI4 hz4).mono ?_)
      rintro e w5 ⟨rfl, _, hb5, _⟩
      go_wp2
      go_ret2
      exact ⟨res_end d hd'.out s hs pos acc hp Hall.out Hacc.out, hb4.trans (hb5.mono hwg)⟩

set_option maxHeartbeats 4000000 in
set_option maxRecDepth 1000000 in
theorem walk_long (d : Int) (op en qu : ByteArray) (s : ByteArray) (w : World) (hf0 : note_of.f d = some (op, en, qu, true)) (hs : 1024 < s.size) (hd : d = 0 ∨ d = 1) :
    Calls Try.prog 9 #[.int .i64 d, .string s] w fun e w' => Res d s e ∧ Below w.heap.size w w' := by
  have hf := Lib.hid hf0; clear hf0
  have hr : Hid (npr d s = (⟨#[]⟩, 3)) := Lib.hid (by unfold npr; rw [if_pos hd, if_pos hs])
  clear hd
  go_enter Try.func9, Try.ntmps9
  go_wp2_with (go_at_call 19; refine (note_of.calls _ _ _ _ _ _ hf.out).mono ?_; rintro e w1 ⟨rfl, hb1⟩)
  go_ret2
  exact ⟨by unfold Res; rw [hr.out]; rfl, hb1.alloc hb1.size _⟩

theorem note_Print.any (d : Int) (s : ByteArray) (w : World) :
    Calls Try.prog 9 #[.int .i64 d, .string s] w fun e w' => Res d s e ∧ Below w.heap.size w w' := by
  by_cases hd : d = 0 ∨ d = 1
  · by_cases hs : 1024 < s.size
    · rcases hd with rfl | rfl
      · exact walk_long 0 _ _ _ s w rfl hs (.inl rfl)
      · exact walk_long 1 _ _ _ s w rfl hs (.inr rfl)
    · rcases hd with rfl | rfl
      · exact walk_right 0 _ _ _ s w rfl rfl (by decide) rfl (by decide) (by omega) (.inl rfl)
      · exact walk_right 1 _ _ _ s w rfl rfl (by decide) rfl (by decide) (by omega) (.inr rfl)
  · exact walk_wrong d s w (fun h => hd (.inl h)) (fun h => hd (.inr h))

theorem note_Print.calls (a0 : Int) (a1 : ByteArray) (r1 : ByteArray) (r2 : Int) (w : World) (h : note_Print.f a0 a1 = some (r1, r2)) :
    Calls Try.prog 9 #[.int .i64 a0, .string a1] w fun e w' => e = .returned (.tuple #[.string r1, .int .i64 r2]) ∧ Below w.heap.size w w' := by
  have h' : npr a0 a1 = (r1, r2) := Option.some.inj h
  refine (note_Print.any a0 a1 w).mono ?_
  rintro e w' ⟨he, hb⟩
  unfold Res at he
  rw [h'] at he
  exact ⟨he, hb⟩

end Go.Proofs.Ytnommbcendoncaa.Np
