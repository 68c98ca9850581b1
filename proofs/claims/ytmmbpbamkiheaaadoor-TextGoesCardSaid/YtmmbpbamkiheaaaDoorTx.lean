/- A cursor's calls: Peek, Next, Skip, Pos. -/
import Derived.Test.YtmmbpbamkiheaaaDoorR
import Derived.Test.YtmmbpbamkiheaaaDoorShelf
import Derived.Deep.DeepMust
import Derived.Deep.QuietTactic
import Derived.BigQuiet
set_option linter.unusedVariables false
set_option linter.unusedSimpArgs false
namespace Go.Proofs.YtmmbpbamkiheaaaDoor.Tx
open Go.RowKit Go.Proofs.YtmmbpbamkiheaaaDoorW.PrintWords Go.Proofs.YtmmbpbamkiheaaaDoorW.PrintLast Go.Proofs.YtmmbpbamkiheaaaDoorW.PrintMore Go.Proofs.YtmmbpbamkiheaaaDoor.R
/-! ### The place of a byte -/
def ln (s : ByteArray) : Nat → Nat
  | 0 => 0
  | k + 1 => if bt s (k : Int) = 10 then ln s k + 1 else ln s k
def cl (s : ByteArray) : Nat → Nat
  | 0 => 0
  | k + 1 => if bt s (k : Int) = 10 then 0 else cl s k + 1
theorem ln_le (s : ByteArray) (k : Nat) : ln s k ≤ k := by
  induction k with
  | zero => exact Nat.le_refl _
  | succ k ih => rw [ln]; split <;> omega
theorem cl_le (s : ByteArray) (k : Nat) : cl s k ≤ k := by
  induction k with
  | zero => exact Nat.le_refl _
  | succ k ih => rw [cl]; split <;> omega
/-- A cursor at a byte. -/
def Cu (g : Nat) (s : ByteArray) (k : Nat) (W : World) : Prop := W.heap[g]? = some (.cells #[.string s, .int .i64 k, .int .i64 (ln s k), .int .i64 (cl s k)] 63 (0, 0))
theorem cu_cells {g : Nat} {s : ByteArray} {k : Nat} {W : World} (h : Cu g s k W) : W.cell? ⟨g, 0, none⟩ = some (.string s) ∧ W.cell? ⟨g, 1, none⟩ = some (.int .i64 k) ∧ W.cell? ⟨g, 2, none⟩ = some (.int .i64 (ln s k)) ∧ W.cell? ⟨g, 3, none⟩ = some (.int .i64 (cl s k)) := by
  unfold Cu at h
  refine ⟨?_, ?_, ?_, ?_⟩ <;> simp [World.cell?, h]
theorem Cu.drewN {g : Nat} {s : ByteArray} {k : Nat} {W : World} (h : Cu g s k W) (n : Nat) : Cu g s k (W.drewN n) := h
theorem Cu.lt {g : Nat} {s : ByteArray} {k : Nat} {W : World} (h : Cu g s k W) : g < W.heap.size := by
  rcases Nat.lt_or_ge g W.heap.size with h' | h'
  · exact h'
  · unfold Cu at h; rw [Array.getElem?_eq_none h'] at h; cases h
/-- Only one block is another one. -/
def At1 (g : Nat) (w w' : World) : Prop := w.grownBy w' (some g)
theorem At1.refl (g : Nat) (w : World) : At1 g w w := ⟨rfl, rfl, rfl, Nat.le_refl _, fun _ _ _ => rfl⟩
theorem At1.drewN (g : Nat) (w : World) (n : Nat) : At1 g w (w.drewN n) := by
  have h := pw_below_drewN (Below.refl w.heap.size w) n
  exact ⟨h.os, h.tape, h.output, h.size, fun i hi _ => h.block i hi⟩
theorem At1.trans {g : Nat} {w w1 w2 : World} (h : At1 g w w1) (k : At1 g w1 w2) : At1 g w w2 :=
  ⟨k.os.trans h.os, k.tape.trans h.tape, k.output.trans h.output, Nat.le_trans h.size k.size, fun i hi hn => (k.block i (Nat.lt_of_lt_of_le hi h.size) hn).trans (h.block i hi hn)⟩
theorem At1.below {g : Nat} {w0 w w' : World} (h : At1 g w w') (hb : Below w0.heap.size w0 w) (hg : w0.heap.size ≤ g) : Below w0.heap.size w0 w' :=
  ⟨h.os.trans hb.os, h.tape.trans hb.tape, h.output.trans hb.output, Nat.le_trans hb.size h.size, fun j hj => (h.block j (Nat.lt_of_lt_of_le hj hb.size) (fun e => by have := Option.some.inj e; omega)).trans (hb.block j hj)⟩
theorem At1.of_below {g : Nat} {w w' : World} (h : Below w.heap.size w w') : At1 g w w' := ⟨h.os, h.tape, h.output, h.size, fun i hi _ => h.block i hi⟩
theorem At1.cu {g f : Nat} {w w' : World} (h : At1 g w w') (hn : f ≠ g) {s : ByteArray} {k : Nat} (hc : Cu f s k w) : Cu f s k w' := by
  unfold Cu at hc ⊢
  rw [h.block f (Cu.lt hc) (fun e => hn (Option.some.inj e))]
  exact hc
theorem Cu.below {g : Nat} {s : ByteArray} {k : Nat} {w w' : World} (h : Cu g s k w) (hb : Below w.heap.size w w') : Cu g s k w' := by
  unfold Cu at h ⊢
  rw [hb.block g (Cu.lt h)]
  exact h
theorem bt_at_nat (s : ByteArray) (j : Nat) : ∀ h : j < s.size, ((s[j]'h).toNat : Int) = bt s (j : Int) := fun h => by
  have := bt_at s (j : Int) (by rw [Int.toNat_natCast]; exact h)
  exact this
set_option maxHeartbeats 4000000 in
set_option maxRecDepth 1000000 in
theorem peek_in (g : Nat) (s : ByteArray) (k i : Nat) (w : World) (h : Cu g s k w) (hs : s.size ≤ 1000000) (hi : k + i < s.size) :
    Calls Tryd.prog 23 #[.pointer (some ⟨g, 0, none⟩), .int .i64 i] w fun e w' => e = .returned (.tuple #[.int .u8 (bt s ((k + i : Nat) : Int)), .bool true]) ∧ ∃ n, w' = w.drewN n := by
  obtain ⟨c0, c1, c2, c3⟩ := cu_cells h
  have H := Lib.hid h
  clear h c2 c3
  obtain ⟨j, hj⟩ : ∃ j, j = k + i := ⟨_, rfl⟩
  have hw1 : wrap64 ((k : Int) + (i : Int)) = (j : Int) := by unfold wrap64; omega
  have hw2 : wrap64 ((s.size : Int) - (k : Int)) = (s.size : Int) - (k : Int) := by unfold wrap64; omega
  have hlt : ((i : Int) < 0) = False := eq_false (by omega)
  have hd1 : decide ((s.size : Int) - (k : Int) ≤ (i : Int)) = false := decide_eq_false (by omega)
  have hd2 : ((s.size : Int) - (k : Int) ≤ (i : Int)) = False := eq_false (by omega)
  have hjs : j < s.size := by omega
  have hx := bt_at_nat s j
  rw [← hj]
  have HJ := Lib.hid hj
  clear hj hi
  go_enter Tryd.func23, Tryd.ntmps23
  go_wp2
  go_quiet (fail)
  go_wp2
  go_quiet (fail)
  go_wp2
  go_ret2
  exact ⟨rfl, _, by rw [World.drewN_drewN]⟩
set_option maxHeartbeats 4000000 in
set_option maxRecDepth 1000000 in
theorem peek_neg (g : Nat) (s : ByteArray) (k : Nat) (i : Int) (w : World) (h : Cu g s k w) (hi : i < 0) :
    Calls Tryd.prog 23 #[.pointer (some ⟨g, 0, none⟩), .int .i64 i] w fun e w' => e = .returned (.tuple #[.int .u8 0, .bool false]) ∧ ∃ n, w' = w.drewN n := by
  obtain ⟨c0, c1, c2, c3⟩ := cu_cells h
  clear h c2 c3
  have hlt := eq_true hi
  go_enter Tryd.func23, Tryd.ntmps23
  go_wp2
  go_quiet (fail)
  go_wp2
  go_ret2
  exact ⟨rfl, _, rfl⟩
set_option maxHeartbeats 4000000 in
set_option maxRecDepth 1000000 in
theorem peek_past (g : Nat) (s : ByteArray) (k : Nat) (i : Int) (w : World) (h : Cu g s k w) (hs : s.size ≤ 1000000) (hk : k ≤ s.size) (h0 : 0 ≤ i) (hi : (s.size : Int) - (k : Int) ≤ i) :
    Calls Tryd.prog 23 #[.pointer (some ⟨g, 0, none⟩), .int .i64 i] w fun e w' => e = .returned (.tuple #[.int .u8 0, .bool false]) ∧ ∃ n, w' = w.drewN n := by
  obtain ⟨c0, c1, c2, c3⟩ := cu_cells h
  clear h c2 c3
  have hw2 : wrap64 ((s.size : Int) - (k : Int)) = (s.size : Int) - (k : Int) := by unfold wrap64; omega
  have hlt : (i < 0) = False := eq_false (by omega)
  have hd1 : decide ((s.size : Int) - (k : Int) ≤ i) = true := decide_eq_true hi
  have hd2 : ((s.size : Int) - (k : Int) ≤ i) = True := eq_true hi
  clear hi h0 hk
  go_enter Tryd.func23, Tryd.ntmps23
  go_wp2
  go_quiet (fail)
  go_wp2
  go_ret2
  exact ⟨rfl, _, rfl⟩
set_option maxHeartbeats 4000000 in
set_option maxRecDepth 1000000 in
theorem peek_nil (i : Int) (w : World) :
    Calls Tryd.prog 23 #[.pointer none, .int .i64 i] w fun e w' => e = .returned (.tuple #[.int .u8 0, .bool false]) ∧ ∃ n, w' = w.drewN n := by
  go_enter Tryd.func23, Tryd.ntmps23
  go_wp2
  go_quiet (fail)
  go_wp2
  go_ret2
  exact ⟨rfl, _, rfl⟩
/-- What Peek tells. -/
def Pk (s : ByteArray) (k : Nat) (i : Int) : Value := if 0 ≤ i ∧ (k : Int) + i < s.size then .tuple #[.int .u8 (bt s ((k : Int) + i)), .bool true] else .tuple #[.int .u8 0, .bool false]
theorem peek_any (g : Nat) (s : ByteArray) (k : Nat) (i : Int) (w : World) (h : Cu g s k w) (hs : s.size ≤ 1000000) (hk : k ≤ s.size) :
    Calls Tryd.prog 23 #[.pointer (some ⟨g, 0, none⟩), .int .i64 i] w fun e w' => e = .returned (Pk s k i) ∧ ∃ n, w' = w.drewN n := by
  unfold Pk
  by_cases h0 : 0 ≤ i
  · by_cases hi : (k : Int) + i < s.size
    · rw [if_pos ⟨h0, hi⟩]
      obtain ⟨j, rfl⟩ := Int.eq_ofNat_of_zero_le h0
      exact peek_in g s k j w h hs (by omega)
    · rw [if_neg (fun c => hi c.2)]
      exact peek_past g s k i w h hs hk h0 (by omega)
  · rw [if_neg (fun c => h0 c.1)]
    exact peek_neg g s k i w h (by omega)
/-! ### Next -/
theorem bt_u8 (s : ByteArray) (j : Int) : 0 ≤ bt s j ∧ bt s j ≤ 255 := bt_range s j
def NxTo (g : Nat) (s : ByteArray) (k : Nat) (w : World) (e : Ending) (w' : World) : Prop := e = .returned (.tuple #[.int .u8 (bt s (k : Int)), .bool true]) ∧ Cu g s (k + 1) w' ∧ At1 g w w'
/-- A cursor's four cells. -/
def Cx (g : Nat) (s : ByteArray) (a b c : Int) (W : World) : Prop := W.heap[g]? = some (.cells #[.string s, .int .i64 a, .int .i64 b, .int .i64 c] 63 (0, 0))
theorem blk_setc {W : World} {g : Nat} {cs : Array Value} {T : TypeId} {fr : Nat × Nat} (h : W.heap[g]? = some (.cells cs T fr)) (j : Nat) (v : Value) : (W.setCell ⟨g, j, none⟩ v).heap[g]? = some (.cells (cs.setIfInBounds j v) T fr) := by
  obtain ⟨hlt, hk⟩ := Array.getElem?_eq_some_iff.1 h
  show (W.heap.modify g _)[g]? = _
  rw [Array.getElem?_eq_getElem (by rw [Array.size_modify]; exact hlt), Array.getElem_modify_self, hk]
  rfl
theorem Cx.set1 {g : Nat} {s : ByteArray} {a b c : Int} {W : World} (h : Cx g s a b c W) (v : Int) : Cx g s v b c (W.setCell ⟨g, 1, none⟩ (.int .i64 v)) := blk_setc h 1 _
theorem Cx.set2 {g : Nat} {s : ByteArray} {a b c : Int} {W : World} (h : Cx g s a b c W) (v : Int) : Cx g s a v c (W.setCell ⟨g, 2, none⟩ (.int .i64 v)) := blk_setc h 2 _
theorem Cx.set3 {g : Nat} {s : ByteArray} {a b c : Int} {W : World} (h : Cx g s a b c W) (v : Int) : Cx g s a b v (W.setCell ⟨g, 3, none⟩ (.int .i64 v)) := blk_setc h 3 _
theorem At1.set {g : Nat} {w w' : World} (h : At1 g w w') (j : Nat) (v : Value) : At1 g w (w'.setCell ⟨g, j, none⟩ v) :=
  h.trans ⟨rfl, rfl, rfl, by simp [World.setCell], fun k _ hk => Below.heap_setCell _ _ _ k (fun e => hk (by rw [e]))⟩
set_option maxHeartbeats 4000000 in
set_option maxRecDepth 1000000 in
theorem next_in (g : Nat) (s : ByteArray) (k : Nat) (w : World) (h : Cu g s k w) (hs : s.size ≤ 1000000) (hk : k < s.size) :
    Calls Tryd.prog 24 #[.pointer (some ⟨g, 0, none⟩)] w (NxTo g s k w) := by
  have hp := peek_any g s k 0 w h hs (by omega)
  rw [show Pk s k 0 = .tuple #[.int .u8 (bt s (k : Int)), .bool true] from by unfold Pk; rw [if_pos ⟨by omega, by omega⟩, Int.add_zero]] at hp
  have HP := Lib.hid hp
  have H := Lib.hid h
  have hl := ln_le s k
  have hc := cl_le s k
  clear hp h
  go_enter Tryd.func24, Tryd.ntmps24
  go_wp2_with (first | (go_at_call 23; go_must (refine (HP.out).mono ?_)))
  rintro e w1 ⟨rfl, n, rfl⟩
  obtain ⟨c0, c1, c2, c3⟩ := cu_cells (H.out.drewN n)
  have f1 := Lib.frozen_of_heap (H.out.drewN n) 1
  have f2 := Lib.frozen_of_heap (H.out.drewN n) 2
  have f3 := Lib.frozen_of_heap (H.out.drewN n) 3
  by_cases h10 : bt s (k : Int) = 10
  · have hb1 : (bt s (k : Int) == 10) = true := by simpa using h10
    have hln : ln s (k + 1) = ln s k + 1 := by rw [ln, if_pos h10]
    have hcl : cl s (k + 1) = 0 := by rw [cl, if_pos h10]
    have HLN := Lib.hid hln
    have HCL := Lib.hid hcl
    have H10 := Lib.hid h10
    clear hln hcl h10
    go_wp2
    go_ret2
    refine ⟨rfl, ?_, ((((At1.drewN g w n).set 1 _).set 3 _).set 2 _).set 3 _⟩
    have h4 := (((Cx.set1 (show Cx g s k (ln s k) (cl s k) (w.drewN n) from H.out) ((k : Int) + 1)).set3 ((cl s k : Int) + 1)).set2 ((ln s k : Int) + 1)).set3 0
    unfold Cu
    rw [HLN.out, HCL.out]
    exact h4
  · have hb1 : (bt s (k : Int) == 10) = false := by simpa using h10
    have hln : ln s (k + 1) = ln s k := by rw [ln, if_neg h10]
    have hcl : cl s (k + 1) = cl s k + 1 := by rw [cl, if_neg h10]
    have HLN := Lib.hid hln
    have HCL := Lib.hid hcl
    have H10 := Lib.hid h10
    clear hln hcl h10
    go_wp2
    go_ret2
    refine ⟨rfl, ?_, ((At1.drewN g w n).set 1 _).set 3 _⟩
    have h4 := (Cx.set1 (show Cx g s k (ln s k) (cl s k) (w.drewN n) from H.out) ((k : Int) + 1)).set3 ((cl s k : Int) + 1)
    unfold Cu
    rw [HLN.out, HCL.out]
    exact h4
set_option maxHeartbeats 4000000 in
set_option maxRecDepth 1000000 in
theorem next_end (g : Nat) (s : ByteArray) (w : World) (h : Cu g s s.size w) (hs : s.size ≤ 1000000) :
    Calls Tryd.prog 24 #[.pointer (some ⟨g, 0, none⟩)] w fun e w' => e = .returned (.tuple #[.int .u8 0, .bool false]) ∧ ∃ n, w' = w.drewN n := by
  have HP := Lib.hid (peek_past g s s.size 0 w h hs (Nat.le_refl _) (by omega) (by omega))
  clear h
  go_enter Tryd.func24, Tryd.ntmps24
  go_wp2_with (first | (go_at_call 23; go_must (refine (HP.out).mono ?_)))
  rintro e w1 ⟨rfl, n, rfl⟩
  go_wp2
  go_ret2
  exact ⟨rfl, _, rfl⟩
set_option maxHeartbeats 4000000 in
set_option maxRecDepth 1000000 in
theorem next_nil (w : World) :
    Calls Tryd.prog 24 #[.pointer none] w fun e w' => e = .returned (.tuple #[.int .u8 0, .bool false]) ∧ ∃ n, w' = w.drewN n := by
  go_enter Tryd.func24, Tryd.ntmps24
  go_wp2_with (first | (go_at_call 23; go_must (refine (peek_nil 0 w).mono ?_)))
  rintro e w1 ⟨rfl, n, rfl⟩
  go_wp2
  go_ret2
  exact ⟨rfl, _, rfl⟩
/-! ### Skip -/
def SkRel (g : Nat) (s : ByteArray) (k : Nat) (n : Int) (w : World) (i : Value) (wr : World) : Prop := ∃ j : Nat, i = .int .i64 j ∧ k + j ≤ s.size ∧ ((j : Int) ≤ n ∨ j = 0) ∧ Cu g s (k + j) wr ∧ At1 g w wr
/-- How far Skip goes. -/
def skN (s : ByteArray) (k : Nat) (n : Int) : Nat := min n.toNat (s.size - k)
set_option maxHeartbeats 4000000 in
set_option maxRecDepth 1000000 in
theorem skip_any (g : Nat) (s : ByteArray) (k : Nat) (n : Int) (w : World) (h : Cu g s k w) (hs : s.size ≤ 1000000) (hk : k ≤ s.size) :
    Calls Tryd.prog 21 #[.pointer (some ⟨g, 0, none⟩), .int .i64 n] w fun e w' => e = .returned (.int .i64 (skN s k n)) ∧ Cu g s (k + skN s k n) w' ∧ At1 g w w' := by
  have H := Lib.hid h
  clear h
  go_enter Tryd.func21, Tryd.ntmps21
  go_wp2
  go_loopw [5] (fun i wr => SkRel g s k n w i wr) (fun i _ => s.size + 1 - (intOf i).toNat)
  case atStart => exact ⟨0, rfl, by omega, .inr rfl, H.out, At1.refl _ _⟩
  case round =>
    obtain ⟨j, rfl, hj, hn, hc, ha⟩ := hrel
    have HC := Lib.hid hc
    have HA := Lib.hid ha
    clear hc ha H
    by_cases hlt : (j : Int) < n
    · have hd := decide_eq_true hlt
      by_cases he : k + j < s.size
      · go_wp2_with (first | (go_at_call 24; go_must (refine (next_in g s (k + j) wr HC.out hs he).mono ?_)))
        rintro e w1 ⟨rfl, hc1, ha1⟩
        have HC1 := Lib.hid hc1
        have HA1 := Lib.hid (HA.out.trans ha1)
        clear hc1 ha1 HC HA
        go_wp2
        go_round
        · exact ⟨j + 1, by simp, by omega, .inl (by omega), HC1.out, HA1.out⟩
        · simp only [intOf]; omega
      · obtain hks : k + j = s.size := by omega
        have HCE : Hid (Cu g s s.size wr) := Lib.hid (hks ▸ HC.out)
        go_wp2_with (first | (go_at_call 24; go_must (refine (next_end g s wr HCE.out hs).mono ?_)))
        rintro e w1 ⟨rfl, m, rfl⟩
        go_wp2
        go_ret
        have hsk : skN s k n = j := by unfold skN; omega
        rw [hsk]
        exact ⟨rfl, HC.out.drewN m, HA.out.trans (At1.drewN _ _ _)⟩
    · have hd := decide_eq_false hlt
      go_wp2
      go_ret
      have hsk : skN s k n = j := by unfold skN; omega
      rw [hsk]
      exact ⟨rfl, HC.out, HA.out⟩
/-! ### Pos -/
theorem alloc_new (w : World) (o : Obj) : (w.alloc o).heap[w.heap.size]? = some o := by
  show (w.heap.push o)[w.heap.size]? = some o
  simp
def posV (s : ByteArray) (k : Nat) : Value := .agg #[.int .i64 k, .int .i64 (ln s k), .int .i64 (cl s k)]
set_option maxHeartbeats 4000000 in
set_option maxRecDepth 1000000 in
theorem pos_any (g : Nat) (s : ByteArray) (k : Nat) (w : World) (h : Cu g s k w) :
    Calls Tryd.prog 22 #[.pointer (some ⟨g, 0, none⟩)] w fun e w' => e = .returned (posV s k) ∧ Below w.heap.size w w' := by
  obtain ⟨c0, c1, c2, c3⟩ := cu_cells (h.below (below_alloc (Below.refl _ _) (.cells #[.int .i64 0, .int .i64 0, .int .i64 0] 36)))
  go_enter Tryd.func22, Tryd.ntmps22
  go_wp2
  refine bodyPost_ret (results_cell_row rfl _ _ w.heap.size 36 #[.int .i64 k, .int .i64 (ln s k), .int .i64 (cl s k)] (0, 0) _ rfl (alloc_new w _) Tryd.underlying36 rfl (by kernel_rfl)) rfl ?_
  exact ⟨rfl, below_alloc (Below.refl _ _) _⟩
set_option maxHeartbeats 4000000 in
set_option maxRecDepth 1000000 in
theorem pos_nil (w : World) :
    Calls Tryd.prog 22 #[.pointer none] w fun e w' => e = .returned (.agg #[.int .i64 0, .int .i64 0, .int .i64 0]) ∧ Below w.heap.size w w' := by
  go_enter Tryd.func22, Tryd.ntmps22
  go_wp2
  refine bodyPost_ret (results_cell_row rfl _ _ w.heap.size 36 #[.int .i64 0, .int .i64 0, .int .i64 0] (0, 0) _ rfl (alloc_new w _) Tryd.underlying36 rfl (by kernel_rfl)) rfl ?_
  exact ⟨rfl, below_alloc (Below.refl _ _) _⟩
set_option maxHeartbeats 4000000 in
set_option maxRecDepth 1000000 in
theorem skip_nil (n : Int) (w : World) :
    Calls Tryd.prog 21 #[.pointer none, .int .i64 n] w fun e w' => e = .returned (.int .i64 0) ∧ ∃ n, w' = w.drewN n := by
  go_enter Tryd.func21, Tryd.ntmps21
  go_wp2
  go_loopw [5] (fun i wr => i = .int .i64 0 ∧ wr = w) (fun i _ => 0)
  case atStart => exact ⟨rfl, rfl⟩
  case round =>
    obtain ⟨rfl, rfl⟩ := hrel
    by_cases hlt : (0 : Int) < n
    · have hd := decide_eq_true hlt
      go_wp2_with (first | (go_at_call 24; go_must (refine (next_nil wr).mono ?_)))
      rintro e w1 ⟨rfl, m, rfl⟩
      go_wp2
      go_ret
      exact ⟨rfl, _, rfl⟩
    · have hd := decide_eq_false hlt
      go_wp2
      go_ret
      exact ⟨rfl, 0, rfl⟩
/-! ### New, At -/
theorem new_any (s : ByteArray) (w : World) :
    Calls Tryd.prog 20 #[.string s] w fun e w' => ∃ g : Nat, e = .returned (.pointer (some ⟨g, 0, none⟩)) ∧ Cu g s 0 w' ∧ w.heap.size ≤ g ∧ Below w.heap.size w w' := by
  refine (text_New.calls s s 0 0 0 w w (Below.refl _ _) rfl).mono ?_
  rintro e w' ⟨g, he, hs, hb, hb2⟩
  exact ⟨g, he, hs.1, hs.2, hb2⟩
/-- A Pos in a block of its own. -/
def Px (g : Nat) (a b c : Int) (W : World) : Prop := W.heap[g]? = some (.cells #[.int .i64 a, .int .i64 b, .int .i64 c] 36 (0, 0))
theorem Px.below {g : Nat} {a b c : Int} {w w' : World} (h : Px g a b c w) (hb : Below w.heap.size w w') : Px g a b c w' := by
  unfold Px at h ⊢
  rw [hb.block g (Array.getElem?_eq_some_iff.1 h).1]
  exact h
theorem Px.at1 {g f : Nat} {a b c : Int} {w w' : World} (h : Px g a b c w) (ha : At1 f w w') (hn : g ≠ f) : Px g a b c w' := by
  unfold Px at h ⊢
  rw [ha.block g (Array.getElem?_eq_some_iff.1 h).1 (fun e => hn (Option.some.inj e))]
  exact h
theorem Px.cells {g : Nat} {a b c : Int} {W : World} (h : Px g a b c W) : W.cell? ⟨g, 0, none⟩ = some (.int .i64 a) ∧ W.cell? ⟨g, 1, none⟩ = some (.int .i64 b) ∧ W.cell? ⟨g, 2, none⟩ = some (.int .i64 c) := by
  unfold Px at h
  refine ⟨?_, ?_, ?_⟩ <;> simp [World.cell?, h]
set_option maxHeartbeats 4000000 in
set_option maxRecDepth 1000000 in
theorem at_any (s : ByteArray) (n : Int) (w : World) (hs : s.size ≤ 1000000) :
    Calls Tryd.prog 18 #[.string s, .int .i64 n] w fun e w' => e = .returned (posV s (skN s 0 n)) ∧ Below w.heap.size w w' := by
  have HX := Lib.hid (show Px w.heap.size 0 0 0 (w.alloc (.cells #[.int .i64 0, .int .i64 0, .int .i64 0] 36)) from alloc_new w _)
  have hl : w.heap.size < (w.alloc (.cells #[.int .i64 0, .int .i64 0, .int .i64 0] 36)).heap.size := by
    show _ < (w.heap.push _).size
    rw [Array.size_push]; omega
  have HL := Lib.hid hl
  clear hl
  have HB0 := Lib.hid (below_alloc (Below.refl w.heap.size w) (.cells #[.int .i64 0, .int .i64 0, .int .i64 0] 36))
  go_enter Tryd.func18, Tryd.ntmps18
  go_wp2_with (first | (go_at_call 20; go_must (refine (new_any s _).mono ?_)))
  rintro e w1 ⟨g, rfl, hc, hg, hb⟩
  have HC := Lib.hid hc
  have HX1 := Lib.hid (HX.out.below hb)
  have HB := Lib.hid (below_weaken HB0.out HB0.out.size hb)
  have HG := Lib.hid (Nat.lt_of_lt_of_le HL.out hg)
  clear hc hb hg HL HX HB0
  go_wp2_with (first | (go_at_call 21; go_must (refine (skip_any g s 0 n w1 HC.out hs (Nat.zero_le _)).mono ?_)))
  rintro e w2 ⟨rfl, hc, ha⟩
  rw [Nat.zero_add] at hc
  have HC2 := Lib.hid hc
  have HX2 := Lib.hid (HX1.out.at1 ha (Nat.ne_of_lt HG.out))
  have HB2 := Lib.hid (ha.below HB.out (Nat.le_of_lt HG.out))
  clear hc ha HC HB HX1
  go_wp2_with (first | (go_at_call 22; go_must (refine (pos_any g s _ w2 HC2.out).mono ?_); rintro e w3 ⟨rfl, hb⟩; have HB3 := Lib.hid (below_weaken HB2.out HB2.out.size hb); have HX3 := Lib.hid (HX2.out.below hb); clear hb HB2 HX2; unfold posV; obtain ⟨d0, d1, d2⟩ := HX3.out.cells; have e0 := blk_frozen HX3.out 0; have e1 := blk_frozen HX3.out 1; have e2 := blk_frozen HX3.out 2))
  have hb := ((blk_set (blk_set (blk_set HX3.out 0 (.int .i64 (skN s 0 n))) 1 (.int .i64 (ln s (skN s 0 n)))) 2 (.int .i64 (cl s (skN s 0 n)))))
  refine bodyPost_ret (results_cell_row rfl _ _ w.heap.size 36 #[.int .i64 (skN s 0 n), .int .i64 (ln s (skN s 0 n)), .int .i64 (cl s (skN s 0 n))] (0, 0) _ rfl hb Tryd.underlying36 rfl (by kernel_rfl)) rfl ?_
  exact ⟨rfl, below_set (below_set (below_set HB3.out (Nat.le_refl _)) (Nat.le_refl _)) (Nat.le_refl _)⟩
end Go.Proofs.YtmmbpbamkiheaaaDoor.Tx
