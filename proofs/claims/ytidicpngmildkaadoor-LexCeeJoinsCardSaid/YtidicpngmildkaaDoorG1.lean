/- slices.BinarySearch at texts: the shelf's contract at this translation (laid by hand: the tool does not lay it). A cursor's calls: Peek, Next, Skip, Pos. Number, Digits, Join, the document's examples. Digits: plain. The document's At; While (XTp without Has and awake). words.All, words.Is. A Cee lexer's state; Rest, Add. Word, Char, Int, follows. follows, name. Sign. Note. Note: the walk. -/
import Derived.Shelf.Spec.SearchS
import Derived.Test.YtidicpngmildkaaDoorProg
import Derived.Lib.Hide
import Derived.Lib.Builder
import Derived.Test.YtidicpngmildkaaDoorR
import Derived.Test.YtidicpngmildkaaDoorShelf
import Derived.Deep.DeepMust
import Derived.Deep.QuietTactic
import Derived.BigQuiet
import Derived.Shelf.Strings.SlTrimAscii
import Derived.Lib.ItoaNum
set_option linter.unusedVariables false
namespace Go.Proofs.YtidicpngmildkaaDoor
abbrev YY : Bool := true
abbrev ZZ : Bool := false
end Go.Proofs.YtidicpngmildkaaDoor
namespace Go.Proofs.YtidicpngmildkaaDoor.Wd
open Go.Shelf
def ren26 : Ren := ⟨fun | 26 => 58 | 33 => 70 | 34 => 71 | 38 => 79 | n => n, fun | 24 => 32 | 40 => 106 | n => n, fun | n => n⟩
theorem lays26 : Go.Proofs.Lays2.n26 Tryd.prog ren26 := {
 mixed := by kernel_rfl
 f26 := Tryd.func58.trans (congrArg some (by kernel_rfl))
 f33 := Tryd.func70.trans (congrArg some (by kernel_rfl))
 f34 := Tryd.func71.trans (congrArg some (by kernel_rfl))
 f38 := Tryd.func79.trans (congrArg some (by kernel_rfl))
 t0 := Tryd.underlying0
 a0 := Tryd.isAgg0
 z0 := Tryd.sizeOf0
 v0 := Tryd.zeroValue0
 t3 := Tryd.underlying3
 a3 := Tryd.isAgg3
 z3 := Tryd.sizeOf3
 v3 := Tryd.zeroValue3
 t4 := Tryd.underlying4
 a4 := Tryd.isAgg4
 z4 := Tryd.sizeOf4
 v4 := Tryd.zeroValue4
 t9 := Tryd.underlying9
 a9 := Tryd.isAgg9
 z9 := Tryd.sizeOf9
 v9 := Tryd.zeroValue9
 t24 := Tryd.underlying32
 a24 := Tryd.isAgg32
 z24 := Tryd.sizeOf32
 v24 := Tryd.zeroValue32
 t40 := Tryd.underlying106
 a40 := Tryd.isAgg106
 z40 := Tryd.sizeOf106
 v40 := Tryd.zeroValue106 }
end Go.Proofs.YtidicpngmildkaaDoor.Wd
set_option linter.unusedVariables false
set_option linter.unusedSimpArgs false
namespace Go.Proofs.YtidicpngmildkaaDoor.Tx
open Go.RowKit Go.Proofs.YtidicpngmildkaaDoorW.PrintWords Go.Proofs.YtidicpngmildkaaDoorW.PrintLast Go.Proofs.YtidicpngmildkaaDoorW.PrintMore Go.Proofs.YtidicpngmildkaaDoor.R
/-! ### The place of a byte -/
def ln (s : ByteArray) : Nat → Nat
 | 0 => 0
 | k + 1 => if bt s (k : Int) = 10 then ln s k + 1 else ln s k
def cl (s : ByteArray) : Nat → Nat
 | 0 => 0
 | k + 1 => if bt s (k : Int) = 10 then 0 else cl s k + 1
theorem ln_le (s : ByteArray) (k : Nat) : ln s k ≤ k := by
 induction k with
 | zero => exact Nat.le_refl _
 | succ k ih => rw [ln]; split <;> omega
theorem cl_le (s : ByteArray) (k : Nat) : cl s k ≤ k := by
 induction k with
 | zero => exact Nat.le_refl _
 | succ k ih => rw [cl]; split <;> omega
/-- A cursor at a byte. -/
def Cu (g : Nat) (s : ByteArray) (k : Nat) (W : World) : Prop := W.heap[g]? = some (.cells #[.string s, .int .i64 k, .int .i64 (ln s k), .int .i64 (cl s k)] 64 (0, 0))
theorem cu_cells {g : Nat} {s : ByteArray} {k : Nat} {W : World} (h : Cu g s k W) : W.cell? ⟨g, 0, none⟩ = some (.string s) ∧ W.cell? ⟨g, 1, none⟩ = some (.int .i64 k) ∧ W.cell? ⟨g, 2, none⟩ = some (.int .i64 (ln s k)) ∧ W.cell? ⟨g, 3, none⟩ = some (.int .i64 (cl s k)) := by
 unfold Cu at h
 refine ⟨?_, ?_, ?_, ?_⟩ <;> simp [World.cell?, h]
theorem Cu.drewN {g : Nat} {s : ByteArray} {k : Nat} {W : World} (h : Cu g s k W) (n : Nat) : Cu g s k (W.drewN n) := h
theorem Cu.lt {g : Nat} {s : ByteArray} {k : Nat} {W : World} (h : Cu g s k W) : g < W.heap.size := by
 rcases Nat.lt_or_ge g W.heap.size with h' | h'
 ·exact h'
 ·unfold Cu at h; rw [Array.getElem?_eq_none h'] at h; cases h
/-- Only one block is another one. -/
def At1 (g : Nat) (w w' : World) : Prop := w.grownBy w' (some g)
theorem At1.refl (g : Nat) (w : World) : At1 g w w := ⟨rfl, rfl, rfl, Nat.le_refl _, fun _ _ _ => rfl⟩
theorem At1.drewN (g : Nat) (w : World) (n : Nat) : At1 g w (w.drewN n) := by
 have h := pw_below_drewN (Below.refl w.heap.size w) n
 exact ⟨h.os, h.tape, h.output, h.size, fun i hi _ => h.block i hi⟩
theorem At1.trans {g : Nat} {w w1 w2 : World} (h : At1 g w w1) (k : At1 g w1 w2) : At1 g w w2 :=
 ⟨k.os.trans h.os, k.tape.trans h.tape, k.output.trans h.output, Nat.le_trans h.size k.size, fun i hi hn => (k.block i (Nat.lt_of_lt_of_le hi h.size) hn).trans (h.block i hi hn)⟩
theorem At1.below {g : Nat} {w0 w w' : World} (h : At1 g w w') (hb : Below w0.heap.size w0 w) (hg : w0.heap.size ≤ g) : Below w0.heap.size w0 w' :=
 ⟨h.os.trans hb.os, h.tape.trans hb.tape, h.output.trans hb.output, Nat.le_trans hb.size h.size, fun j hj => (h.block j (Nat.lt_of_lt_of_le hj hb.size) (fun e => by have := Option.some.inj e; omega)).trans (hb.block j hj)⟩
theorem At1.of_below {g : Nat} {w w' : World} (h : Below w.heap.size w w') : At1 g w w' := ⟨h.os, h.tape, h.output, h.size, fun i hi _ => h.block i hi⟩
theorem At1.cu {g f : Nat} {w w' : World} (h : At1 g w w') (hn : f ≠ g) {s : ByteArray} {k : Nat} (hc : Cu f s k w) : Cu f s k w' := by
 unfold Cu at hc ⊢
 rw [h.block f (Cu.lt hc) (fun e => hn (Option.some.inj e))]
 exact hc
theorem Cu.below {g : Nat} {s : ByteArray} {k : Nat} {w w' : World} (h : Cu g s k w) (hb : Below w.heap.size w w') : Cu g s k w' := by
 unfold Cu at h ⊢
 rw [hb.block g (Cu.lt h)]
 exact h
theorem bt_at_nat (s : ByteArray) (j : Nat) : ∀ h : j < s.size, ((s[j]'h).toNat : Int) = bt s (j : Int) := fun h => by
 have := bt_at s (j : Int) (by rw [Int.toNat_natCast]; exact h)
 exact this
set_option maxHeartbeats 4000000 in
set_option maxRecDepth 1000000 in
theorem peek_in (g : Nat) (s : ByteArray) (k i : Nat) (w : World) (h : Cu g s k w) (hs : s.size ≤ 1000000) (hi : k + i < s.size) :
  Calls Tryd.prog 17 #[.pointer (some ⟨g, 0, none⟩), .int .i64 i] w fun e w' => e = .returned (.tuple #[.int .u8 (bt s ((k + i : Nat) : Int)), .bool true]) ∧ ∃ n, w' = w.drewN n := by
 obtain ⟨c0, c1, c2, c3⟩ := cu_cells h
 have H := Lib.hid h
 clear h c2 c3
 obtain ⟨j, hj⟩ : ∃ j, j = k + i := ⟨_, rfl⟩
 have hw1 : wrap64 ((k : Int) + (i : Int)) = (j : Int) := by unfold wrap64; omega
 have hw2 : wrap64 ((s.size : Int) - (k : Int)) = (s.size : Int) - (k : Int) := by unfold wrap64; omega
 have hlt : ((i : Int) < 0) = False := eq_false (by omega)
 have hd1 : decide ((s.size : Int) - (k : Int) ≤ (i : Int)) = false := decide_eq_false (by omega)
 have hd2 : ((s.size : Int) - (k : Int) ≤ (i : Int)) = False := eq_false (by omega)
 have hjs : j < s.size := by omega
 have hx := bt_at_nat s j
 rw [← hj]
 have HJ := Lib.hid hj
 clear hj hi
 go_enter Tryd.func17, Tryd.ntmps17
 go_wp2
 go_quiet (fail)
 go_wp2
 go_quiet (fail)
 go_wp2
 go_ret2
 exact ⟨rfl, _, by rw [World.drewN_drewN]⟩
set_option maxHeartbeats 4000000 in
set_option maxRecDepth 1000000 in
theorem peek_neg (g : Nat) (s : ByteArray) (k : Nat) (i : Int) (w : World) (h : Cu g s k w) (hi : i < 0) :
  Calls Tryd.prog 17 #[.pointer (some ⟨g, 0, none⟩), .int .i64 i] w fun e w' => e = .returned (.tuple #[.int .u8 0, .bool false]) ∧ ∃ n, w' = w.drewN n := by
 obtain ⟨c0, c1, c2, c3⟩ := cu_cells h
 clear h c2 c3
 have hlt := eq_true hi
 go_enter Tryd.func17, Tryd.ntmps17
 go_wp2
 go_quiet (fail)
 go_wp2
 go_ret2
 exact ⟨rfl, _, rfl⟩
set_option maxHeartbeats 4000000 in
set_option maxRecDepth 1000000 in
theorem peek_past (g : Nat) (s : ByteArray) (k : Nat) (i : Int) (w : World) (h : Cu g s k w) (hs : s.size ≤ 1000000) (hk : k ≤ s.size) (h0 : 0 ≤ i) (hi : (s.size : Int) - (k : Int) ≤ i) :
  Calls Tryd.prog 17 #[.pointer (some ⟨g, 0, none⟩), .int .i64 i] w fun e w' => e = .returned (.tuple #[.int .u8 0, .bool false]) ∧ ∃ n, w' = w.drewN n := by
 obtain ⟨c0, c1, c2, c3⟩ := cu_cells h
 clear h c2 c3
 have hw2 : wrap64 ((s.size : Int) - (k : Int)) = (s.size : Int) - (k : Int) := by unfold wrap64; omega
 have hlt : (i < 0) = False := eq_false (by omega)
 have hd1 : decide ((s.size : Int) - (k : Int) ≤ i) = true := decide_eq_true hi
 have hd2 : ((s.size : Int) - (k : Int) ≤ i) = True := eq_true hi
 clear hi h0 hk
 go_enter Tryd.func17, Tryd.ntmps17
 go_wp2
 go_quiet (fail)
 go_wp2
 go_ret2
 exact ⟨rfl, _, rfl⟩
set_option maxHeartbeats 4000000 in
set_option maxRecDepth 1000000 in
theorem peek_nil (i : Int) (w : World) :
  Calls Tryd.prog 17 #[.pointer none, .int .i64 i] w fun e w' => e = .returned (.tuple #[.int .u8 0, .bool false]) ∧ ∃ n, w' = w.drewN n := by
 go_enter Tryd.func17, Tryd.ntmps17
 go_wp2
 go_quiet (fail)
 go_wp2
 go_ret2
 exact ⟨rfl, _, rfl⟩
/-- What Peek tells. -/
def Pk (s : ByteArray) (k : Nat) (i : Int) : Value := if 0 ≤ i ∧ (k : Int) + i < s.size then .tuple #[.int .u8 (bt s ((k : Int) + i)), .bool true] else .tuple #[.int .u8 0, .bool false]
theorem peek_any (g : Nat) (s : ByteArray) (k : Nat) (i : Int) (w : World) (h : Cu g s k w) (hs : s.size ≤ 1000000) (hk : k ≤ s.size) :
  Calls Tryd.prog 17 #[.pointer (some ⟨g, 0, none⟩), .int .i64 i] w fun e w' => e = .returned (Pk s k i) ∧ ∃ n, w' = w.drewN n := by
 unfold Pk
 by_cases h0 : 0 ≤ i
 ·by_cases hi : (k : Int) + i < s.size
  ·rw [if_pos ⟨h0, hi⟩]
   obtain ⟨j, rfl⟩ := Int.eq_ofNat_of_zero_le h0
   exact peek_in g s k j w h hs (by omega)
  ·rw [if_neg (fun c => hi c.2)]
   exact peek_past g s k i w h hs hk h0 (by omega)
 ·rw [if_neg (fun c => h0 c.1)]
  exact peek_neg g s k i w h (by omega)
/-! ### Next -/
theorem bt_u8 (s : ByteArray) (j : Int) : 0 ≤ bt s j ∧ bt s j ≤ 255 := bt_range s j
def NxTo (g : Nat) (s : ByteArray) (k : Nat) (w : World) (e : Ending) (w' : World) : Prop := e = .returned (.tuple #[.int .u8 (bt s (k : Int)), .bool true]) ∧ Cu g s (k + 1) w' ∧ At1 g w w'
/-- A cursor's four cells. -/
def Cx (g : Nat) (s : ByteArray) (a b c : Int) (W : World) : Prop := W.heap[g]? = some (.cells #[.string s, .int .i64 a, .int .i64 b, .int .i64 c] 64 (0, 0))
theorem blk_setc {W : World} {g : Nat} {cs : Array Value} {T : TypeId} {fr : Nat × Nat} (h : W.heap[g]? = some (.cells cs T fr)) (j : Nat) (v : Value) : (W.setCell ⟨g, j, none⟩ v).heap[g]? = some (.cells (cs.setIfInBounds j v) T fr) := by
 obtain ⟨hlt, hk⟩ := Array.getElem?_eq_some_iff.1 h
 show (W.heap.modify g _)[g]? = _
 rw [Array.getElem?_eq_getElem (by rw [Array.size_modify]; exact hlt), Array.getElem_modify_self, hk]
 rfl
theorem Cx.set1 {g : Nat} {s : ByteArray} {a b c : Int} {W : World} (h : Cx g s a b c W) (v : Int) : Cx g s v b c (W.setCell ⟨g, 1, none⟩ (.int .i64 v)) := blk_setc h 1 _
theorem Cx.set2 {g : Nat} {s : ByteArray} {a b c : Int} {W : World} (h : Cx g s a b c W) (v : Int) : Cx g s a v c (W.setCell ⟨g, 2, none⟩ (.int .i64 v)) := blk_setc h 2 _
theorem Cx.set3 {g : Nat} {s : ByteArray} {a b c : Int} {W : World} (h : Cx g s a b c W) (v : Int) : Cx g s a b v (W.setCell ⟨g, 3, none⟩ (.int .i64 v)) := blk_setc h 3 _
theorem At1.set {g : Nat} {w w' : World} (h : At1 g w w') (j : Nat) (v : Value) : At1 g w (w'.setCell ⟨g, j, none⟩ v) :=
 h.trans ⟨rfl, rfl, rfl, by simp [World.setCell], fun k _ hk => Below.heap_setCell _ _ _ k (fun e => hk (by rw [e]))⟩
set_option maxHeartbeats 4000000 in
set_option maxRecDepth 1000000 in
theorem next_in (g : Nat) (s : ByteArray) (k : Nat) (w : World) (h : Cu g s k w) (hs : s.size ≤ 1000000) (hk : k < s.size) :
  Calls Tryd.prog 35 #[.pointer (some ⟨g, 0, none⟩)] w (NxTo g s k w) := by
 have hp := peek_any g s k 0 w h hs (by omega)
 rw [show Pk s k 0 = .tuple #[.int .u8 (bt s (k : Int)), .bool true] from by unfold Pk; rw [if_pos ⟨by omega, by omega⟩, Int.add_zero]] at hp
 have HP := Lib.hid hp
 have H := Lib.hid h
 have hl := ln_le s k
 have hc := cl_le s k
 clear hp h
 go_enter Tryd.func35, Tryd.ntmps35
 go_wp2_with (first | (go_at_call 17; go_must (refine (HP.out).mono ?_)))
 rintro e w1 ⟨rfl, n, rfl⟩
 obtain ⟨c0, c1, c2, c3⟩ := cu_cells (H.out.drewN n)
 have f1 := Lib.frozen_of_heap (H.out.drewN n) 1
 have f2 := Lib.frozen_of_heap (H.out.drewN n) 2
 have f3 := Lib.frozen_of_heap (H.out.drewN n) 3
 by_cases h10 : bt s (k : Int) = 10
 ·have hb1 : (bt s (k : Int) == 10) = true := by simpa using h10
  have hln : ln s (k + 1) = ln s k + 1 := by rw [ln, if_pos h10]
  have hcl : cl s (k + 1) = 0 := by rw [cl, if_pos h10]
  have HLN := Lib.hid hln
  have HCL := Lib.hid hcl
  have H10 := Lib.hid h10
  clear hln hcl h10
  go_wp2
  go_ret2
  refine ⟨rfl, ?_, ((((At1.drewN g w n).set 1 _).set 3 _).set 2 _).set 3 _⟩
  have h4 := (((Cx.set1 (show Cx g s k (ln s k) (cl s k) (w.drewN n) from H.out) ((k : Int) + 1)).set3 ((cl s k : Int) + 1)).set2 ((ln s k : Int) + 1)).set3 0
  unfold Cu
  rw [HLN.out, HCL.out]
  exact h4
 ·have hb1 : (bt s (k : Int) == 10) = false := by simpa using h10
  have hln : ln s (k + 1) = ln s k := by rw [ln, if_neg h10]
  have hcl : cl s (k + 1) = cl s k + 1 := by rw [cl, if_neg h10]
  have HLN := Lib.hid hln
  have HCL := Lib.hid hcl
  have H10 := Lib.hid h10
  clear hln hcl h10
  go_wp2
  go_ret2
  refine ⟨rfl, ?_, ((At1.drewN g w n).set 1 _).set 3 _⟩
  have h4 := (Cx.set1 (show Cx g s k (ln s k) (cl s k) (w.drewN n) from H.out) ((k : Int) + 1)).set3 ((cl s k : Int) + 1)
  unfold Cu
  rw [HLN.out, HCL.out]
  exact h4
set_option maxHeartbeats 4000000 in
set_option maxRecDepth 1000000 in
theorem next_end (g : Nat) (s : ByteArray) (w : World) (h : Cu g s s.size w) (hs : s.size ≤ 1000000) :
  Calls Tryd.prog 35 #[.pointer (some ⟨g, 0, none⟩)] w fun e w' => e = .returned (.tuple #[.int .u8 0, .bool false]) ∧ ∃ n, w' = w.drewN n := by
 have HP := Lib.hid (peek_past g s s.size 0 w h hs (Nat.le_refl _) (by omega) (by omega))
 clear h
 go_enter Tryd.func35, Tryd.ntmps35
 go_wp2_with (first | (go_at_call 17; go_must (refine (HP.out).mono ?_)))
 rintro e w1 ⟨rfl, n, rfl⟩
 go_wp2
 go_ret2
 exact ⟨rfl, _, rfl⟩
set_option maxHeartbeats 4000000 in
set_option maxRecDepth 1000000 in
theorem next_nil (w : World) :
  Calls Tryd.prog 35 #[.pointer none] w fun e w' => e = .returned (.tuple #[.int .u8 0, .bool false]) ∧ ∃ n, w' = w.drewN n := by
 go_enter Tryd.func35, Tryd.ntmps35
 go_wp2_with (first | (go_at_call 17; go_must (refine (peek_nil 0 w).mono ?_)))
 rintro e w1 ⟨rfl, n, rfl⟩
 go_wp2
 go_ret2
 exact ⟨rfl, _, rfl⟩
/-! ### Skip -/
def SkRel (g : Nat) (s : ByteArray) (k : Nat) (n : Int) (w : World) (i : Value) (wr : World) : Prop := ∃ j : Nat, i = .int .i64 j ∧ k + j ≤ s.size ∧ ((j : Int) ≤ n ∨ j = 0) ∧ Cu g s (k + j) wr ∧ At1 g w wr
/-- How far Skip goes. -/
def skN (s : ByteArray) (k : Nat) (n : Int) : Nat := min n.toNat (s.size - k)
set_option maxHeartbeats 4000000 in
set_option maxRecDepth 1000000 in
theorem skip_any (g : Nat) (s : ByteArray) (k : Nat) (n : Int) (w : World) (h : Cu g s k w) (hs : s.size ≤ 1000000) (hk : k ≤ s.size) :
  Calls Tryd.prog 25 #[.pointer (some ⟨g, 0, none⟩), .int .i64 n] w fun e w' => e = .returned (.int .i64 (skN s k n)) ∧ Cu g s (k + skN s k n) w' ∧ At1 g w w' := by
 have H := Lib.hid h
 clear h
 go_enter Tryd.func25, Tryd.ntmps25
 go_wp2
 go_loopw [5] (fun i wr => SkRel g s k n w i wr) (fun i _ => s.size + 1 - (intOf i).toNat)
 case atStart => exact ⟨0, rfl, by omega, .inr rfl, H.out, At1.refl _ _⟩
 case round =>
  obtain ⟨j, rfl, hj, hn, hc, ha⟩ := hrel
  have HC := Lib.hid hc
  have HA := Lib.hid ha
  clear hc ha H
  by_cases hlt : (j : Int) < n
  ·have hd := decide_eq_true hlt
   by_cases he : k + j < s.size
   ·go_wp2_with (first | (go_at_call 35; go_must (refine (next_in g s (k + j) wr HC.out hs he).mono ?_)))
    rintro e w1 ⟨rfl, hc1, ha1⟩
    have HC1 := Lib.hid hc1
    have HA1 := Lib.hid (HA.out.trans ha1)
    clear hc1 ha1 HC HA
    go_wp2
    go_round
    ·exact ⟨j + 1, by simp, by omega, .inl (by omega), HC1.out, HA1.out⟩
    ·simp only [intOf]; omega
   ·obtain hks : k + j = s.size := by omega
    have HCE : Hid (Cu g s s.size wr) := Lib.hid (hks ▸ HC.out)
    go_wp2_with (first | (go_at_call 35; go_must (refine (next_end g s wr HCE.out hs).mono ?_)))
    rintro e w1 ⟨rfl, m, rfl⟩
    go_wp2
    go_ret
    have hsk : skN s k n = j := by unfold skN; omega
    rw [hsk]
    exact ⟨rfl, HC.out.drewN m, HA.out.trans (At1.drewN _ _ _)⟩
  ·have hd := decide_eq_false hlt
   go_wp2
   go_ret
   have hsk : skN s k n = j := by unfold skN; omega
   rw [hsk]
   exact ⟨rfl, HC.out, HA.out⟩
/-! ### Pos -/
theorem alloc_new (w : World) (o : Obj) : (w.alloc o).heap[w.heap.size]? = some o := by
 show (w.heap.push o)[w.heap.size]? = some o
 simp
def posV (s : ByteArray) (k : Nat) : Value := .agg #[.int .i64 k, .int .i64 (ln s k), .int .i64 (cl s k)]
set_option maxHeartbeats 4000000 in
set_option maxRecDepth 1000000 in
theorem pos_any (g : Nat) (s : ByteArray) (k : Nat) (w : World) (h : Cu g s k w) :
  Calls Tryd.prog 16 #[.pointer (some ⟨g, 0, none⟩)] w fun e w' => e = .returned (posV s k) ∧ Below w.heap.size w w' := by
 obtain ⟨c0, c1, c2, c3⟩ := cu_cells (h.below (below_alloc (Below.refl _ _) (.cells #[.int .i64 0, .int .i64 0, .int .i64 0] 27)))
 go_enter Tryd.func16, Tryd.ntmps16
 go_wp2
 refine bodyPost_ret (results_cell_row rfl _ _ w.heap.size 27 #[.int .i64 k, .int .i64 (ln s k), .int .i64 (cl s k)] (0, 0) _ rfl (alloc_new w _) Tryd.underlying27 rfl (by kernel_rfl)) rfl ?_
 exact ⟨rfl, below_alloc (Below.refl _ _) _⟩
set_option maxHeartbeats 4000000 in
set_option maxRecDepth 1000000 in
theorem pos_nil (w : World) :
  Calls Tryd.prog 16 #[.pointer none] w fun e w' => e = .returned (.agg #[.int .i64 0, .int .i64 0, .int .i64 0]) ∧ Below w.heap.size w w' := by
 go_enter Tryd.func16, Tryd.ntmps16
 go_wp2
 refine bodyPost_ret (results_cell_row rfl _ _ w.heap.size 27 #[.int .i64 0, .int .i64 0, .int .i64 0] (0, 0) _ rfl (alloc_new w _) Tryd.underlying27 rfl (by kernel_rfl)) rfl ?_
 exact ⟨rfl, below_alloc (Below.refl _ _) _⟩
set_option maxHeartbeats 4000000 in
set_option maxRecDepth 1000000 in
theorem skip_nil (n : Int) (w : World) :
  Calls Tryd.prog 25 #[.pointer none, .int .i64 n] w fun e w' => e = .returned (.int .i64 0) ∧ ∃ n, w' = w.drewN n := by
 go_enter Tryd.func25, Tryd.ntmps25
 go_wp2
 go_loopw [5] (fun i wr => i = .int .i64 0 ∧ wr = w) (fun i _ => 0)
 case atStart => exact ⟨rfl, rfl⟩
 case round =>
  obtain ⟨rfl, rfl⟩ := hrel
  by_cases hlt : (0 : Int) < n
  ·have hd := decide_eq_true hlt
   go_wp2_with (first | (go_at_call 35; go_must (refine (next_nil wr).mono ?_)))
   rintro e w1 ⟨rfl, m, rfl⟩
   go_wp2
   go_ret
   exact ⟨rfl, _, rfl⟩
  ·have hd := decide_eq_false hlt
   go_wp2
   go_ret
   exact ⟨rfl, 0, rfl⟩
/-! ### New, At -/
theorem new_any (s : ByteArray) (w : World) :
  Calls Tryd.prog 23 #[.string s] w fun e w' => ∃ g : Nat, e = .returned (.pointer (some ⟨g, 0, none⟩)) ∧ Cu g s 0 w' ∧ w.heap.size ≤ g ∧ Below w.heap.size w w' := by
 refine (text_New.calls s s 0 0 0 w w (Below.refl _ _) rfl).mono ?_
 rintro e w' ⟨g, he, hs, hb, hb2⟩
 exact ⟨g, he, hs.1, hs.2, hb2⟩
/-- A Pos in a block of its own. -/
def Px (g : Nat) (a b c : Int) (W : World) : Prop := W.heap[g]? = some (.cells #[.int .i64 a, .int .i64 b, .int .i64 c] 27 (0, 0))
theorem Px.below {g : Nat} {a b c : Int} {w w' : World} (h : Px g a b c w) (hb : Below w.heap.size w w') : Px g a b c w' := by
 unfold Px at h ⊢
 rw [hb.block g (Array.getElem?_eq_some_iff.1 h).1]
 exact h
theorem Px.at1 {g f : Nat} {a b c : Int} {w w' : World} (h : Px g a b c w) (ha : At1 f w w') (hn : g ≠ f) : Px g a b c w' := by
 unfold Px at h ⊢
 rw [ha.block g (Array.getElem?_eq_some_iff.1 h).1 (fun e => hn (Option.some.inj e))]
 exact h
theorem Px.cells {g : Nat} {a b c : Int} {W : World} (h : Px g a b c W) : W.cell? ⟨g, 0, none⟩ = some (.int .i64 a) ∧ W.cell? ⟨g, 1, none⟩ = some (.int .i64 b) ∧ W.cell? ⟨g, 2, none⟩ = some (.int .i64 c) := by
 unfold Px at h
 refine ⟨?_, ?_, ?_⟩ <;> simp [World.cell?, h]
end Go.Proofs.YtidicpngmildkaaDoor.Tx
set_option linter.unusedVariables false
set_option linter.unusedSimpArgs false
namespace Go.Proofs.YtidicpngmildkaaDoor.Tx
open Go.RowKit Go.Proofs.YtidicpngmildkaaDoorW.PrintWords Go.Proofs.YtidicpngmildkaaDoorW.PrintLast Go.Proofs.YtidicpngmildkaaDoorW.PrintMore Go.Proofs.YtidicpngmildkaaDoor.R
/-! ### The number that a text is -/
def vl (s : ByteArray) : Nat → Int
 | 0 => 0
 | k + 1 => 10 * vl s k + (bt s (k : Int) - 48)
def digs (s : ByteArray) : Bool := s.data.toList.all fun b => decide (48 ≤ b.toNat) && decide (b.toNat ≤ 57)
theorem digs_at {s : ByteArray} (h : digs s = true) (k : Nat) (hk : k < s.size) : 48 ≤ bt s (k : Int) ∧ bt s (k : Int) ≤ 57 := by
 have hl : k < s.data.toList.length := by rw [data_length]; exact hk
 have := List.all_eq_true.1 h _ (List.getElem_mem hl)
 simp only [Bool.and_eq_true, decide_eq_true_eq] at this
 unfold bt
 rw [Int.toNat_natCast, dif_pos hk]
 have he : s[k] = s.data.toList[k] := rfl
 rw [he]
 omega
theorem vl_mono {s : ByteArray} (h : digs s = true) : ∀ (k : Nat), k ≤ s.size → 0 ≤ vl s k ∧ ∀ j, j ≤ k → vl s j ≤ vl s k := by
 intro k
 induction k with
 | zero =>
  intro _
  refine ⟨Int.le_refl _, fun j hj => ?_⟩
  obtain rfl : j = 0 := by omega
  exact Int.le_refl _
 | succ k ih =>
  intro hk
  obtain ⟨h1, h2⟩ := ih (by omega)
  obtain ⟨h3, h4⟩ := digs_at h k (by omega)
  have h5 : vl s (k + 1) = 10 * vl s k + (bt s (k : Int) - 48) := rfl
  refine ⟨by omega, fun j hj => ?_⟩
  rcases Nat.lt_or_ge k j with h | h
  ·obtain rfl : j = k + 1 := by omega
   exact Int.le_refl _
  ·have := h2 j h
   omega
def num (s : ByteArray) : Int × Int := if s.size = 0 ∨ digs s = false then (0, 5) else if vl s s.size > 9223372036854775807 then (0, 6) else (vl s s.size, 0)
def digSet : ByteArray := ⟨#[48, 49, 50, 51, 52, 53, 54, 55, 56, 57]⟩
theorem digSet_ascii : ∀ (j : Nat) b, digSet.data.toList[j]? = some b → b.toNat < 128 := ascii_of_all (by decide)
theorem in_set (b : UInt8) : digSet.data.toList.contains b = (decide (48 ≤ b.toNat) && decide (b.toNat ≤ 57)) := by
 have key : ∀ n : Fin 256, digSet.data.toList.contains (UInt8.ofNat n.1) = (decide (48 ≤ (UInt8.ofNat n.1).toNat) && decide ((UInt8.ofNat n.1).toNat ≤ 57)) := by decide +kernel
 have := key ⟨b.toNat, UInt8.toNat_lt b⟩
 simpa using this
theorem dropWhile_nil {α : Type} (p : α → Bool) (l : List α) : l.dropWhile p = [] ↔ l.all p = true := by
 induction l with
 | nil => simp
 | cons a l ih =>
  rw [List.dropWhile_cons, List.all_cons]
  cases h : p a with
  | true => simpa using ih
  | false => simp
theorem all_dropWhile {α : Type} (p : α → Bool) (l : List α) : (l.dropWhile p).all p = l.all p := by
 induction l with
 | nil => rfl
 | cons a l ih =>
  rw [List.dropWhile_cons]
  cases h : p a with
  | true => simpa [h] using ih
  | false => simp
theorem trim_nil (s : ByteArray) : Lib.trimS s.data.toList digSet.data.toList = [] ↔ digs s = true := by
 have hp : (fun b => digSet.data.toList.contains b) = (fun b : UInt8 => decide (48 ≤ b.toNat) && decide (b.toNat ≤ 57)) := funext in_set
 unfold digs
 rw [← hp]
 unfold Lib.trimS Lib.trimLeftS Lib.trimRightS
 rw [dropWhile_nil, List.all_reverse, all_dropWhile, List.all_reverse]
theorem trim_any (s : ByteArray) (w : World) (hs : s.size ≤ 1000000) : Calls Tryd.prog 43 #[.string s, .string digSet] w fun e w' => e = .returned (.string ⟨(Lib.trimS s.data.toList digSet.data.toList).toArray⟩) ∧ Below w.heap.size w w' :=
 Any.strings_Trim_laid Tryd.lays160 (by kernel_rfl) s digSet w (by omega) (by decide) digSet_ascii
theorem empty_iff (s : ByteArray) : s.toList = [] ↔ s.size = 0 := by
 rw [ByteArray.toList_eq, ← data_length]
 exact List.length_eq_zero_iff.symm
def NmRel (s : ByteArray) (n i : Value) : Prop := ∃ k : Nat, k ≤ s.size ∧ i = .int .i64 k ∧ n = .int .i64 (vl s k) ∧ vl s k ≤ 9223372036854775807
set_option maxHeartbeats 4000000 in
set_option maxRecDepth 1000000 in
theorem number_any (s : ByteArray) (w : World) (hs : s.size ≤ 1000000) :
  Calls Tryd.prog 41 #[.string s] w fun e w' => e = .returned (.tuple #[.int .i64 (num s).1, .int .i64 (num s).2]) ∧ Below w.heap.size w w' := by
 by_cases h0 : s.size = 0
 ·have hn : num s = (0, 5) := by unfold num; rw [if_pos (.inl h0)]
  rw [hn]
  have he1 := (empty_iff s).2 h0
  have he2 : (s.toList == ([] : List UInt8)) = true := by simp [he1]
  clear hn
  go_enter Tryd.func41, Tryd.ntmps41
  go_wp2
  go_ret2
  exact ⟨rfl, Below.refl _ _⟩
 ·have he1 : ¬ s.toList = [] := fun e => h0 ((empty_iff s).1 e)
  have he2 : (s.toList == ([] : List UInt8)) = false := by simpa using he1
  cases hd : digs s with
  | false =>
   have hn : num s = (0, 5) := by unfold num; rw [if_pos (.inr hd)]
   rw [hn]
   have ht1 : ¬ (⟨(Lib.trimS s.data.toList digSet.data.toList).toArray⟩ : ByteArray).toList = [] := by
    intro e
    rw [ByteArray.toList_eq] at e
    have : Lib.trimS s.data.toList digSet.data.toList = [] := by simpa using e
    rw [(trim_nil s).1 this] at hd
    cases hd
   have ht2 : ((⟨(Lib.trimS s.data.toList digSet.data.toList).toArray⟩ : ByteArray).toList == ([] : List UInt8)) = false := by simpa using ht1
   generalize hT : (⟨(Lib.trimS s.data.toList digSet.data.toList).toArray⟩ : ByteArray) = T at *
   have HT := Lib.hid hT
   clear hT hn hd
   go_enter Tryd.func41, Tryd.ntmps41
   go_wp2_with (first | (go_at_call 43; go_must (refine (trim_any s w hs).mono ?_); rintro e w1 ⟨rfl, hb⟩; rw [HT.out]; have HB := Lib.hid hb; clear hb))
   go_ret2
   exact ⟨rfl, HB.out⟩
  | true =>
   have ht1 : (⟨(Lib.trimS s.data.toList digSet.data.toList).toArray⟩ : ByteArray) = ⟨#[]⟩ := by
    rw [(trim_nil s).2 hd]
   have HT1 := Lib.hid ht1
   have HD := Lib.hid hd
   clear ht1
   go_enter Tryd.func41, Tryd.ntmps41
   go_wp2_with (first | (go_at_call 43; go_must (refine (trim_any s w hs).mono ?_); rintro e w1 ⟨rfl, hb⟩; rw [HT1.out]; have HB := Lib.hid hb; clear hb))
   go_loop [4, 16] (fun n i => NmRel s n i) (fun _ i => s.size - (intOf i).toNat)
   case atStart => exact ⟨0, Nat.zero_le _, rfl, rfl, by show (0 : Int) ≤ _; omega⟩
   case round =>
    obtain ⟨k, hk, rfl, rfl, hv⟩ := hrel
    have hv0 := (vl_mono HD.out k hk).1
    by_cases hlt : k < s.size
    ·have hx := bt_at_nat s k
     obtain ⟨hb1, hb2⟩ := digs_at HD.out k hlt
     have hstep : vl s (k + 1) = 10 * vl s k + (bt s (k : Int) - 48) := rfl
     by_cases hov : 10 * vl s k + (bt s (k : Int) - 48) ≤ 9223372036854775807
     ·have hq : vl s k ≤ (9223372036854775807 - (bt s (k : Int) - 48)) / 10 := by omega
      have hq2 : ((9223372036854775807 - (bt s (k : Int) - 48)) / 10 < vl s k) = False := eq_false (by omega)
      have HST := Lib.hid hstep
      clear hstep
      go_wp2
      go_round
      ·exact ⟨k + 1, by omega, by simp, by rw [HST.out], by rw [HST.out]; exact hov⟩
      ·simp only [intOf]; omega
     ·have hq : ¬ vl s k ≤ (9223372036854775807 - (bt s (k : Int) - 48)) / 10 := by omega
      have hq2 : ((9223372036854775807 - (bt s (k : Int) - 48)) / 10 < vl s k) = True := eq_true (by omega)
      have HST := Lib.hid hstep
      clear hstep
      go_wp2
      go_ret2
      have hn : num s = (0, 6) := by
       unfold num
       rw [if_neg (by rw [HD.out]; simp [h0]), if_pos]
       have := (vl_mono HD.out s.size (Nat.le_refl _)).2 (k + 1) hlt
       rw [HST.out] at this
       omega
      rw [hn]
      exact ⟨rfl, HB.out⟩
    ·obtain rfl : k = s.size := by omega
     go_wp2
     go_ret2
     have hn : num s = (vl s s.size, 0) := by
      unfold num
      rw [if_neg (by rw [HD.out]; simp [h0]), if_neg (by omega)]
     rw [hn]
     exact ⟨rfl, HB.out⟩
theorem wr_n (k : Nat) (h : k < 9223372036854775807) : wrap64 ((k : Int) + 1) = ((k + 1 : Nat) : Int) := by unfold wrap64; omega
theorem u64_in (n : Int) (h0 : 0 ≤ n) (h : n < 18446744073709551616) : IntKind.u64.wrap n = n := by
 simp only [IntKind.wrap, IntKind.bits, IntKind.signed]
 simp <;> omega
end Go.Proofs.YtidicpngmildkaaDoor.Tx
set_option linter.unusedVariables false
set_option linter.unusedSimpArgs false
namespace Go.Proofs.YtidicpngmildkaaDoor.Tx
open Go.RowKit Go.Proofs.YtidicpngmildkaaDoorW.PrintWords Go.Proofs.YtidicpngmildkaaDoorW.PrintLast Go.Proofs.YtidicpngmildkaaDoorW.PrintMore Go.Proofs.YtidicpngmildkaaDoor.R
def itoB (n : Int) : ByteArray := ⟨(Lib.itoa n).toArray⟩
def decB (n : Nat) : ByteArray := ⟨(Lib.decDigits n).toArray⟩
theorem digit1 (d : Nat) (h : d < 10) : (⟨#[48, 49, 50, 51, 52, 53, 54, 55, 56, 57]⟩ : ByteArray).extract d (d + 1) = ⟨#[UInt8.ofNat (48 + d)]⟩ := by
 have key : ∀ d : Fin 10, (⟨#[48, 49, 50, 51, 52, 53, 54, 55, 56, 57]⟩ : ByteArray).extract d.1 (d.1 + 1) = ⟨#[UInt8.ofNat (48 + d.1)]⟩ := by decide
 exact key ⟨d, h⟩
theorem decB_step (n : Nat) (h : 10 ≤ n) : decB n = decB (n / 10) ++ ⟨#[UInt8.ofNat (48 + n % 10)]⟩ := by
 unfold decB
 apply ByteArray.ext
 apply Array.toList_inj.1
 rw [Lib.decDigits, dif_neg (by omega)]
 simp
theorem decB_one (n : Nat) (h : n < 10) : decB n = ⟨#[UInt8.ofNat (48 + n)]⟩ := by
 unfold decB
 rw [Lib.decDigits, dif_pos h]
theorem long_f : ∀ (k n : Nat), n < 10 ^ (k + 1) → n < 18446744073709551616 → k ≤ 1000 → pantographref01_long.f (k + 1) (n : Int) = some (decB n) ∧ (decB n).size ≤ k + 1 := by
 intro k
 induction k with
 | zero =>
  intro n hn h64 _
  have hn : n < 10 := by simpa using hn
  constructor
  ·unfold pantographref01_long.f
   rw [if_pos (by omega), show ((n : Int) + 1) = ((n + 1 : Nat) : Int) by omega, u64_in ((n + 1 : Nat) : Int) (by omega) (by omega), if_pos (by omega), if_pos (by omega), if_pos (by omega), Int.toNat_natCast, Int.toNat_natCast, digit1 n hn, decB_one n hn]
  ·rw [decB_one n hn]
   show 1 ≤ _
   omega
 | succ k ih =>
  intro n hn h64 hk
  by_cases h10 : n < 10
  ·constructor
   ·unfold pantographref01_long.f
    rw [if_pos (by omega), show ((n : Int) + 1) = ((n + 1 : Nat) : Int) by omega, u64_in ((n + 1 : Nat) : Int) (by omega) (by omega), if_pos (by omega), if_pos (by omega), if_pos (by omega), Int.toNat_natCast, Int.toNat_natCast, digit1 n h10, decB_one n h10]
   ·rw [decB_one n h10]
    show 1 ≤ _
    omega
  ·have hp : 10 ^ (k + 1 + 1) = 10 ^ (k + 1) * 10 := Nat.pow_succ _ _
   obtain ⟨h1, h2⟩ := ih (n / 10) (by omega) (by omega) (by omega)
   have hq : Int.tdiv (n : Int) 10 = ((n / 10 : Nat) : Int) := by
    rw [Int.tdiv_eq_ediv_of_nonneg (by omega)]; omega
   have hr : Int.tmod (n : Int) 10 = ((n % 10 : Nat) : Int) := by
    rw [Int.tmod_eq_emod_of_nonneg (by omega)]; omega
   have hd := digit1 (n % 10) (by omega)
   constructor
   ·unfold pantographref01_long.f
    rw [if_neg (by omega), hq, u64_in ((n / 10 : Nat) : Int) (by omega) (by omega), h1, Option.bind_some, hr, show (((n % 10 : Nat) : Int) + 1) = ((n % 10 + 1 : Nat) : Int) by omega, u64_in ((n % 10 + 1 : Nat) : Int) (by omega) (by omega), if_pos (by omega), if_pos (by omega), if_pos (by omega), Int.toNat_natCast, Int.toNat_natCast, hd, if_pos (by show _ + 1 ≤ _; omega), decB_step n (by omega)]
   ·rw [decB_step n (by omega), ByteArray.size_append]
    show _ + 1 ≤ _
    omega
theorem u64_mod (n : Int) : IntKind.u64.wrap n = n % 18446744073709551616 := by
 simp only [IntKind.wrap, IntKind.bits, IntKind.signed]
 simp
theorem refdigits_f (n : Int) (h0 : -9223372036854775808 ≤ n) (h1 : n ≤ 9223372036854775807) : pantographref01_Digits.f 40 n = some (itoB n) := by
 unfold pantographref01_Digits.f
 by_cases h : n < 0
 ·obtain ⟨m, hm⟩ : ∃ m : Nat, n = -(m : Int) := ⟨n.natAbs, by omega⟩
  have hw : IntKind.u64.wrap (-(IntKind.u64.wrap n)) = (m : Int) := by rw [u64_mod, u64_mod]; omega
  have hp : (10 : Nat) ^ 40 = 10000000000000000000000000000000000000000 := by decide
  obtain ⟨hl, hs⟩ := long_f 39 m (by omega) (by omega) (by omega)
  rw [if_pos h, hw, hl, Option.bind_some, if_pos (by omega)]
  have : Lib.itoa n = 45 :: Lib.decDigits m := by
   unfold Lib.itoa
   rw [if_pos h, show n.natAbs = m by omega]
  unfold itoB
  rw [this]
  congr 1
 ·obtain ⟨m, rfl⟩ := Int.eq_ofNat_of_zero_le (show 0 ≤ n by omega)
  have hp : (10 : Nat) ^ 40 = 10000000000000000000000000000000000000000 := by decide
  rw [if_neg h, u64_in _ (by omega) (by omega), (long_f 39 m (by omega) (by omega) (by omega)).1]
  have : Lib.itoa (m : Int) = Lib.decDigits m := by
   unfold Lib.itoa
   rw [if_neg h, Int.toNat_natCast]
  unfold itoB
  rw [this]
  rfl
/-! ### A number's digits are read as it -/
def valI (l : List UInt8) : Int := l.foldl (fun a b => 10 * a + ((b.toNat : Int) - 48)) 0
theorem valI_snoc (l : List UInt8) (b : UInt8) : valI (l ++ [b]) = 10 * valI l + ((b.toNat : Int) - 48) := by simp [valI]
theorem vl_take (s : ByteArray) (k : Nat) (hk : k ≤ s.size) : vl s k = valI (s.data.toList.take k) := by
 induction k with
 | zero => rfl
 | succ k ih =>
  have hl : k < s.data.toList.length := by rw [data_length]; omega
  rw [List.take_succ_eq_append_getElem hl, valI_snoc, ← ih (by omega)]
  show 10 * vl s k + (bt s (k : Int) - 48) = _
  unfold bt
  rw [Int.toNat_natCast, dif_pos (by omega : k < s.size)]
  rfl
theorem val_dec (n : Nat) : valI (Lib.decDigits n) = n := by
 induction n using Nat.strongRecOn with
 | _ n ih =>
  rw [Lib.decDigits]
  by_cases h : n < 10
  ·rw [dif_pos h]
   show 10 * 0 + (((UInt8.ofNat (48 + n)).toNat : Int) - 48) = n
   rw [UInt8.toNat_ofNat']; omega
  ·rw [dif_neg h, valI_snoc, ih (n / 10) (by omega), UInt8.toNat_ofNat']; omega
theorem dec_digit (n : Nat) : ∀ b ∈ Lib.decDigits n, 48 ≤ b.toNat ∧ b.toNat ≤ 57 := by
 induction n using Nat.strongRecOn with
 | _ n ih =>
  rw [Lib.decDigits]
  by_cases h : n < 10
  ·rw [dif_pos h]
   intro b hb
   rw [List.mem_singleton] at hb
   subst hb
   rw [UInt8.toNat_ofNat']; omega
  ·rw [dif_neg h]
   intro b hb
   rcases List.mem_append.1 hb with hb | hb
   ·exact ih (n / 10) (by omega) b hb
   ·rw [List.mem_singleton] at hb
    subst hb
    rw [UInt8.toNat_ofNat']; omega
theorem dec_ne (n : Nat) : Lib.decDigits n ≠ [] := by
 rw [Lib.decDigits]
 split
 ·simp
 ·simp
theorem itoB_data (n : Int) : (itoB n).data.toList = Lib.itoa n := by simp [itoB]
theorem itoB_size (n : Int) : (itoB n).size = (Lib.itoa n).length := by rw [← data_length, itoB_data]
theorem num_dec (n : Int) (h0 : 0 ≤ n) (h1 : n ≤ 9223372036854775807) : num (itoB n) = (n, 0) := by
 obtain ⟨m, rfl⟩ := Int.eq_ofNat_of_zero_le h0
 have hi : Lib.itoa (m : Int) = Lib.decDigits m := by
  unfold Lib.itoa
  rw [if_neg (by omega), Int.toNat_natCast]
 have hd : digs (itoB (m : Int)) = true := by
  unfold digs
  rw [itoB_data, hi, List.all_eq_true]
  intro b hb
  have := dec_digit m b hb
  simp only [Bool.and_eq_true, decide_eq_true_eq]
  exact this
 have hv : vl (itoB (m : Int)) (itoB (m : Int)).size = m := by
  rw [vl_take _ _ (Nat.le_refl _), ← data_length, List.take_length, itoB_data, hi, val_dec]
 have hne : (itoB (m : Int)).size ≠ 0 := by
  rw [itoB_size, hi]
  intro e
  exact dec_ne m (List.eq_nil_of_length_eq_zero e)
 unfold num
 rw [if_neg (by rw [hd]; simp [hne]), hv, if_neg (by omega)]
theorem num_neg (n : Int) (h0 : n < 0) : num (itoB n) = (0, 5) := by
 have hi : Lib.itoa n = 45 :: Lib.decDigits n.natAbs := by
  unfold Lib.itoa
  rw [if_pos h0]
 unfold num
 rw [if_pos]
 refine .inr ?_
 unfold digs
 rw [itoB_data, hi]
 rfl
theorem itoB_small (n : Int) (h0 : -9223372036854775808 ≤ n) (h1 : n ≤ 9223372036854775807) : (itoB n).size ≤ 1000 := by
 have key : ∀ m : Nat, m ≤ 9223372036854775808 → (Lib.decDigits m).length ≤ 40 := by
  intro m hm
  have hp : (10 : Nat) ^ 40 = 10000000000000000000000000000000000000000 := by decide
  have := (long_f 39 m (by omega) (by omega) (by omega)).2
  have e : (decB m).size = (Lib.decDigits m).length := by simp [decB, ByteArray.size]
  omega
 rw [itoB_size]
 unfold Lib.itoa
 split
 ·have := key n.natAbs (by omega)
  rw [List.length_cons]; omega
 ·have := key n.toNat (by omega)
  omega
/-! ### Join -/
end Go.Proofs.YtidicpngmildkaaDoor.Tx
set_option linter.unusedVariables false
set_option linter.unusedSimpArgs false
namespace Go.Proofs.YtidicpngmildkaaDoor.Tx
open Go.RowKit Go.Proofs.YtidicpngmildkaaDoorW.PrintWords Go.Proofs.YtidicpngmildkaaDoorW.PrintLast Go.Proofs.YtidicpngmildkaaDoorW.PrintMore Go.Proofs.YtidicpngmildkaaDoor.R
theorem skN_le (s : ByteArray) (k : Nat) (n : Int) (hk : k ≤ s.size) : k + skN s k n ≤ s.size := by unfold skN; omega
theorem refat_loop (s : ByteArray) (n : Int) (hs : s.size ≤ 1000000) : ∀ (m k : Nat), k ≤ skN s 0 n → 2 * (s.size - k) + 2 ≤ m → pantographref01_At.l0 m s n (k : Int) (k : Int) (ln s k) (cl s k) = some (((skN s 0 n : Nat) : Int), ((ln s (skN s 0 n) : Nat) : Int), ((cl s (skN s 0 n) : Nat) : Int)) := by
 intro m
 induction m using Nat.strongRecOn with
 | _ m ih =>
  intro k hk hm
  have hle := skN_le s 0 n (Nat.zero_le _)
  obtain ⟨m, rfl⟩ : ∃ m', m = m' + 1 + 1 := ⟨m - 2, by omega⟩
  unfold pantographref01_At.l0
  have h1 := ln_le s k
  have h2 := cl_le s k
  by_cases hlt : k < skN s 0 n
  ·have hn : (k : Int) < n ∧ k < s.size := by unfold skN at hlt; omega
   rw [if_pos (by omega), decide_eq_true hn.1, pantographref01_At.j1, if_pos rfl, if_pos (by omega), if_pos (by omega), wr_n k (by omega), wr_n (cl s k) (by omega), wr_n (ln s k) (by omega)]
   have := ih m (by omega) (k + 1) (by omega) (by omega)
   by_cases h10 : bt s (k : Int) = 10
   ·rw [if_pos h10]
    rw [show ln s (k + 1) = ln s k + 1 from by rw [ln, if_pos h10], show cl s (k + 1) = 0 from by rw [cl, if_pos h10]] at this
    exact this
   ·rw [if_neg h10]
    rw [show ln s (k + 1) = ln s k from by rw [ln, if_neg h10], show cl s (k + 1) = cl s k + 1 from by rw [cl, if_neg h10]] at this
    exact this
  ·obtain rfl : k = skN s 0 n := by omega
   generalize hq : skN s 0 n = q at *
   have hq2 : n ≤ q ∨ q = s.size := by unfold skN at hq; omega
   by_cases hqs : (q : Int) < (s.size : Int)
   ·rw [if_pos hqs, decide_eq_false (by omega), pantographref01_At.j1, if_neg (by simp)]
   ·rw [if_neg hqs, pantographref01_At.j1, if_neg (by simp)]
theorem refat_f (s : ByteArray) (n : Int) (hs : s.size ≤ 1000000) (m : Nat) (hm : 2 * s.size + 2 ≤ m) : pantographref01_At.f m s n = some (((skN s 0 n : Nat) : Int), ((ln s (skN s 0 n) : Nat) : Int), ((cl s (skN s 0 n) : Nat) : Int)) := by
 have := refat_loop s n hs m 0 (Nat.zero_le _) (by omega)
 exact this
theorem refat_any (s : ByteArray) (n : Int) (hs : s.size ≤ 1000000) (w : World) : Calls Tryd.prog 13 #[.string s, .int .i64 n] w fun e w' => e = .returned (posV s (skN s 0 n)) ∧ Below w.heap.size w w' :=
 pantographref01_At.calls (2 * s.size + 2) s n _ _ _ w (refat_f s n hs _ (Nat.le_refl _))
/-! ### Has -/
def inS (set : ByteArray) (c : Int) : Bool := set.data.toList.any fun b => decide ((b.toNat : Int) = c)
theorem bt_get (s : ByteArray) (j : Nat) (h : j < s.data.toList.length) : bt s (j : Int) = (s.data.toList[j].toNat : Int) := by
 unfold bt
 rw [Int.toNat_natCast, dif_pos (by rw [← data_length]; exact h : j < s.size)]
 rfl
/-! ### While -/
def whF (s set : ByteArray) : Nat → Nat → Nat
 | 0, _ => 0
 | f + 1, k => if inS set (bt s (k : Int)) = true then whF s set f (k + 1) + 1 else 0
def whN (s set : ByteArray) (k : Nat) : Nat := whF s set (s.size - k) k
theorem whF_ok (s set : ByteArray) : ∀ (f k : Nat), whF s set f k ≤ f ∧ (∀ j, j < whF s set f k → inS set (bt s ((k + j : Nat) : Int)) = true) ∧ (whF s set f k < f → inS set (bt s ((k + whF s set f k : Nat) : Int)) = false) := by
 intro f
 induction f with
 | zero => intro k; exact ⟨Nat.le_refl _, fun j hj => absurd hj (Nat.not_lt_zero _), fun h => absurd h (Nat.not_lt_zero _)⟩
 | succ f ih =>
  intro k
  obtain ⟨h1, h2, h3⟩ := ih (k + 1)
  rw [whF]
  by_cases hc : inS set (bt s (k : Int)) = true
  ·rw [if_pos hc]
   refine ⟨by omega, fun j hj => ?_, fun hlt => ?_⟩
   ·cases j with
    | zero => exact hc
    | succ j =>
     have := h2 j (by omega)
     rw [show k + (j + 1) = k + 1 + j by omega]; exact this
   ·have := h3 (by omega)
    rw [show k + (whF s set f (k + 1) + 1) = k + 1 + whF s set f (k + 1) by omega]; exact this
  ·rw [if_neg hc]
   refine ⟨Nat.zero_le _, fun j hj => absurd hj (Nat.not_lt_zero _), fun _ => ?_⟩
   simpa using hc
theorem whN_le (s set : ByteArray) (k : Nat) (hk : k ≤ s.size) : k + whN s set k ≤ s.size := by
 have := (whF_ok s set (s.size - k) k).1
 unfold whN; omega
theorem whN_in (s set : ByteArray) (k j : Nat) (hj : j < whN s set k) : inS set (bt s ((k + j : Nat) : Int)) = true := (whF_ok s set (s.size - k) k).2.1 j hj
theorem whN_out (s set : ByteArray) (k : Nat) (hk : k + whN s set k < s.size) : inS set (bt s ((k + whN s set k : Nat) : Int)) = false :=
 (whF_ok s set (s.size - k) k).2.2 (by unfold whN at hk; omega)
theorem index_neg_list (c : Int) (h0 : 0 ≤ c) (h1 : c ≤ 255) : ∀ l : List UInt8, (Lib.indexByte l c.toNat.toUInt8 = -1 ∧ (l.any fun b => decide ((b.toNat : Int) = c)) = false) ∨ (0 ≤ Lib.indexByte l c.toNat.toUInt8 ∧ (l.any fun b => decide ((b.toNat : Int) = c)) = true)
 | [] => .inl ⟨rfl, rfl⟩
 | b :: l => by
  have hc : (c.toNat.toUInt8).toNat = c.toNat := by
   show (UInt8.ofNat c.toNat).toNat = _
   rw [UInt8.toNat_ofNat']; omega
  rw [Lib.indexByte, List.any_cons]
  by_cases he : (b.toNat : Int) = c
  ·have hb : b = c.toNat.toUInt8 := UInt8.toNat_inj.1 (by omega)
   rw [if_pos (by simpa using hb), decide_eq_true he]
   exact .inr ⟨by omega, rfl⟩
  ·have hb : ¬ b = c.toNat.toUInt8 := fun e => he (by have := congrArg UInt8.toNat e; omega)
   rw [if_neg (by simpa using hb), decide_eq_false he, Bool.false_or]
   rcases index_neg_list c h0 h1 l with ⟨h2, h3⟩ | ⟨h2, h3⟩
   ·rw [if_pos (by simp [h2])]
    exact .inl ⟨rfl, h3⟩
   ·rw [if_neg (fun h => by have := beq_iff_eq.mp h; omega)]
    exact .inr ⟨by omega, h3⟩
theorem index_in (set : ByteArray) (c : Int) (h0 : 0 ≤ c) (h1 : c ≤ 255) (h : inS set c = true) : 0 ≤ Lib.indexByte set.data.toList c.toNat.toUInt8 := by
 rcases index_neg_list c h0 h1 set.data.toList with ⟨h2, h3⟩ | ⟨h2, h3⟩
 ·unfold inS at h; rw [h3] at h; cases h
 ·exact h2
theorem index_out (set : ByteArray) (c : Int) (h0 : 0 ≤ c) (h1 : c ≤ 255) (h : inS set c = false) : Lib.indexByte set.data.toList c.toNat.toUInt8 = -1 := by
 rcases index_neg_list c h0 h1 set.data.toList with ⟨h2, h3⟩ | ⟨h2, h3⟩
 ·exact h2
 ·unfold inS at h; rw [h3] at h; cases h
def WhRel (w : World) (m : Nat) (i : Value) (wr : World) : Prop := ∃ j q : Nat, i = .int .i64 j ∧ j ≤ m ∧ wr = w.drewN q
set_option maxHeartbeats 4000000 in
set_option maxRecDepth 1000000 in
theorem while_any (g : Nat) (s : ByteArray) (k : Nat) (set : ByteArray) (w : World) (h : Cu g s k w) (hs : s.size ≤ 1000000) (hk : k ≤ s.size) :
  Calls Tryd.prog 15 #[.pointer (some ⟨g, 0, none⟩), .string set] w fun e w' => e = .returned (.string (s.extract k (k + whN s set k))) ∧ Cu g s (k + whN s set k) w' ∧ At1 g w w' := by
 have H := Lib.hid h
 have hle := whN_le s set k hk
 have HIN := Lib.hid (whN_in s set k)
 have HOUT := Lib.hid (whN_out s set k)
 generalize hm : whN s set k = m at *
 clear h
 go_enter Tryd.func15, Tryd.ntmps15
 go_wp2
 go_loopw [5] (fun i wr => WhRel w m i wr) (fun i _ => m + 1 - (intOf i).toNat)
 case atStart => exact ⟨0, 0, rfl, Nat.zero_le _, rfl⟩
 case round =>
  obtain ⟨j, q, rfl, hj, rfl⟩ := hrel
  have HP := Lib.hid (peek_any g s k j (w.drewN q) (H.out.drewN q) hs hk)
  by_cases hend : k + j < s.size
  ·have hpk : Pk s k (j : Int) = .tuple #[.int .u8 (bt s ((k + j : Nat) : Int)), .bool true] := by
    unfold Pk
    rw [if_pos ⟨by omega, by omega⟩, show (k : Int) + (j : Int) = ((k + j : Nat) : Int) by omega]
   have HPK := Lib.hid hpk
   clear hpk
   obtain ⟨hb0, hb1⟩ := bt_u8 s ((k + j : Nat) : Int)
   by_cases hlt : j < m
   ·have hix := index_in set _ hb0 hb1 (HIN.out j hlt)
    have hix2 := eq_true hix
    have hix3 : (Lib.indexByte set.data.toList (bt s ((k + j : Nat) : Int)).toNat.toUInt8 < 0) = False := eq_false (by omega)
    generalize hbv : bt s ((k + j : Nat) : Int) = bv at *
    go_wp2_with (first
     | (go_at_call 17; go_must (refine (HP.out).mono ?_); rintro e w1 ⟨rfl, n, rfl⟩; rw [HPK.out])
     | (go_at_call 24; go_must (refine (Tryd.strings_IndexByte set bv _).mono ?_); rintro e w2 ⟨rfl, rfl⟩))
    go_round
    ·exact ⟨j + 1, q + n, by simp, by omega, rfl⟩
    ·simp only [intOf]; omega
   ·have hjm : j = m := by omega
    subst hjm
    have hix := index_out set _ hb0 hb1 (HOUT.out hend)
    generalize hbv : bt s ((k + j : Nat) : Int) = bv at *
    by_cases hm0 : j = 0
    ·subst hm0
     go_wp2_with (first | (go_at_call 17; go_must (refine (HP.out).mono ?_); rintro e w1 ⟨rfl, n, rfl⟩; rw [HPK.out]) | (go_at_call 24; go_must (refine (Tryd.strings_IndexByte set bv _).mono ?_); rintro e w2 ⟨rfl, rfl⟩))
     go_ret
     refine ⟨?_, (H.out.drewN _ : Cu g s k _), At1.drewN _ _ _⟩
     rw [show s.extract k (k + 0) = ⟨#[]⟩ from by apply ByteArray.ext; simp]
     rfl
    ·have hz1 : ((j : Int) == 0) = false := by simpa using hm0
     have hz2 : (j : Int) ≠ 0 := by omega
     obtain ⟨c0, c1, c2, c3⟩ := cu_cells H.out
     have hsk : skN s k (j : Int) = j := by unfold skN; omega
     have hsl1 : ((k : Int) ≤ ((k + j : Nat) : Int)) := by omega
     have hsl2 : (((k + j : Nat) : Int) ≤ (s.size : Int)) := by omega
     have hsl3 : (k : Int) ≤ (k : Int) + (j : Int) := by omega
     have hsl4 : (k : Int) + (j : Int) ≤ (s.size : Int) := by omega
     go_wp2_with (first | (go_at_call 17; go_must (refine (HP.out).mono ?_); rintro e w1 ⟨rfl, n, rfl⟩; rw [HPK.out]) | (go_at_call 24; go_must (refine (Tryd.strings_IndexByte set bv _).mono ?_); rintro e w2 ⟨rfl, rfl⟩) | (go_at_call 25; go_must (refine (skip_any g s k (j : Int) _ (H.out.drewN _) hs hk).mono ?_); rintro e w3 ⟨rfl, hc, ha⟩; rw [hsk] at hc; have HC := Lib.hid hc; have HA := Lib.hid ((At1.drewN g w _).trans ha); clear hc ha c0 c1 c2 c3; obtain ⟨c0, c1, c2, c3⟩ := cu_cells HC.out))
     go_quiet (fail)
     go_wp2
     go_ret
     exact ⟨rfl, HC.out.drewN _, HA.out.trans (At1.drewN _ _ _)⟩
  ·have hpk : Pk s k (j : Int) = .tuple #[.int .u8 0, .bool false] := by
    unfold Pk
    rw [if_neg (by omega)]
   have HPK := Lib.hid hpk
   clear hpk
   have hjm : j = m := by omega
   subst hjm
   by_cases hm0 : j = 0
   ·subst hm0
    go_wp2_with (first | (go_at_call 17; go_must (refine (HP.out).mono ?_); rintro e w1 ⟨rfl, n, rfl⟩; rw [HPK.out]))
    go_ret
    refine ⟨?_, (H.out.drewN _ : Cu g s k _), At1.drewN _ _ _⟩
    rw [show s.extract k (k + 0) = ⟨#[]⟩ from by apply ByteArray.ext; simp]
    rfl
   ·have hz1 : ((j : Int) == 0) = false := by simpa using hm0
    have hz2 : (j : Int) ≠ 0 := by omega
    obtain ⟨c0, c1, c2, c3⟩ := cu_cells H.out
    have hsk : skN s k (j : Int) = j := by unfold skN; omega
    have hsl1 : ((k : Int) ≤ ((k + j : Nat) : Int)) := by omega
    have hsl2 : (((k + j : Nat) : Int) ≤ (s.size : Int)) := by omega
    have hsl3 : (k : Int) ≤ (k : Int) + (j : Int) := by omega
    have hsl4 : (k : Int) + (j : Int) ≤ (s.size : Int) := by omega
    go_wp2_with (first | (go_at_call 17; go_must (refine (HP.out).mono ?_); rintro e w1 ⟨rfl, n, rfl⟩; rw [HPK.out]) | (go_at_call 25; go_must (refine (skip_any g s k (j : Int) _ (H.out.drewN _) hs hk).mono ?_); rintro e w3 ⟨rfl, hc, ha⟩; rw [hsk] at hc; have HC := Lib.hid hc; have HA := Lib.hid ((At1.drewN g w _).trans ha); clear hc ha c0 c1 c2 c3; obtain ⟨c0, c1, c2, c3⟩ := cu_cells HC.out))
    go_quiet (fail)
    go_wp2
    go_ret
    exact ⟨rfl, HC.out.drewN _, HA.out.trans (At1.drewN _ _ _)⟩
end Go.Proofs.YtidicpngmildkaaDoor.Tx
set_option linter.unusedVariables false
set_option linter.unusedSimpArgs false
namespace Go.Proofs.YtidicpngmildkaaDoor.Wd
open Go.RowKit Go.Proofs.YtidicpngmildkaaDoorW.PrintWords Go.Proofs.YtidicpngmildkaaDoorW.PrintLast Go.Proofs.YtidicpngmildkaaDoorW.PrintMore Go.Proofs.YtidicpngmildkaaDoor.R
/-- The table of blanks lies as the library lays it. -/
def Tab (w : World) : Prop := Lib.TabIs Tryd.prog w "strings.asciiSpace" .u8 Lib.asciiSpaceTab
theorem tab_below {w w' : World} (h : Tab w) (hb : Below w.heap.size w w') : Tab w' := by
 unfold Tab Lib.TabIs World.var? at h ⊢
 generalize hgn : Tryd.prog.globalNamed "strings.asciiSpace" = G at h ⊢
 cases G with
 | none => simp at h
 | some q =>
  simp only [Option.bind_some] at h ⊢
  have hlt : q < w.heap.size := by
   rcases Nat.lt_or_ge q w.heap.size with h' | h'
   ·exact h'
   ·simp [Array.getElem?_eq_none h'] at h
  rw [hb.block q hlt]
  exact h
def pasS : ByteArray := ⟨#[97, 110, 100, 32, 97, 114, 114, 97, 121, 32, 98, 101, 103, 105, 110, 32, 98, 111, 111, 108, 101, 97, 110, 32, 99, 104, 97, 114, 32, 100, 105, 118, 32, 100, 111, 32, 100, 111, 119, 110, 116, 111, 32, 101, 108, 115, 101, 32, 101, 110, 100, 32, 102, 97, 108, 115, 101, 32, 102, 111, 114, 32, 102, 111, 114, 119, 97, 114, 100, 32, 102, 117, 110, 99, 116, 105, 111, 110, 32, 105, 102, 32, 105, 110, 116, 101, 103, 101, 114, 32, 109, 111, 100, 32, 110, 111, 116, 32, 111, 102, 32, 111, 114, 32, 112, 114, 111, 99, 101, 100, 117, 114, 101, 32, 112, 114, 111, 103, 114, 97, 109, 32, 114, 101, 97, 100, 32, 114, 101, 99, 111, 114, 100, 32, 114, 101, 112, 101, 97, 116, 32, 114, 101, 116, 117, 114, 110, 32, 116, 104, 101, 110, 32, 116, 111, 32, 116, 114, 117, 101, 32, 116, 121, 112, 101, 32, 117, 110, 116, 105, 108, 32, 118, 97, 114, 32, 119, 104, 105, 108, 101, 32, 119, 114, 105, 116, 101]⟩
def ceeS : ByteArray := ⟨#[98, 111, 111, 108, 32, 99, 104, 97, 114, 32, 100, 111, 32, 100, 111, 119, 110, 116, 111, 32, 101, 108, 115, 101, 32, 102, 97, 108, 115, 101, 32, 102, 111, 114, 32, 103, 101, 116, 32, 105, 102, 32, 105, 110, 116, 32, 109, 97, 105, 110, 32, 112, 114, 111, 103, 114, 97, 109, 32, 112, 117, 116, 32, 114, 101, 116, 117, 114, 110, 32, 115, 116, 114, 117, 99, 116, 32, 116, 111, 32, 116, 114, 117, 101, 32, 117, 110, 116, 105, 108, 32, 117, 112, 32, 118, 111, 105, 100, 32, 119, 104, 105, 108, 101]⟩
def lst (d : Int) : List ByteArray := if d = 0 then (Lib.fields pasS.data.toList).map (fun l => (⟨l.toArray⟩ : ByteArray)) else if d = 1 then (Lib.fields ceeS.data.toList).map (fun l => (⟨l.toArray⟩ : ByteArray)) else []
theorem lst_pas : (Lib.fields pasS.data.toList).map (fun l => (⟨l.toArray⟩ : ByteArray)) = lst 0 := by kernel_rfl
theorem lst_cee : (Lib.fields ceeS.data.toList).map (fun l => (⟨l.toArray⟩ : ByteArray)) = lst 1 := by kernel_rfl
theorem asciiP : ∀ (j : Nat) b, pasS.data.toList[j]? = some b → b.toNat < 128 := by
 have : (pasS.data.toList.all fun b => decide (b.toNat < 128)) = true := by kernel_rfl
 exact fun j b h => of_decide_eq_true (List.all_eq_true.1 this b (List.mem_of_getElem? h))
theorem asciiC : ∀ (j : Nat) b, ceeS.data.toList[j]? = some b → b.toNat < 128 := by
 have : (ceeS.data.toList.all fun b => decide (b.toNat < 128)) = true := by kernel_rfl
 exact fun j b h => of_decide_eq_true (List.all_eq_true.1 this b (List.mem_of_getElem? h))
/-- What All answers: a new row of the dialect's words. -/
def AllTo (d : Int) (w : World) (e : Ending) (w' : World) : Prop := ∃ r, e = .returned r ∧ Kd.string.R 9 w' w.heap.size (fun _ => True) r (lst d) ∧ Below w.heap.size w w'
theorem R_fields (w : World) (xs : List ByteArray) (hl : xs.length ≤ 1000) : Kd.string.R 9 (w.alloc (.cells (xs.map Value.string).toArray 9)) w.heap.size (fun _ => True) (.slice (some ⟨w.heap.size, 0, none⟩) xs.length xs.length) xs := by
 have hown := World.ownsRow_lit (base := w.heap.size) (e := 9) (size := 1) w (xs.map Value.string).toArray xs.length (Nat.le_refl _) (by simp [maxLen]; omega) (by simp)
 refine ⟨fun _ _ => trivial, xs.map Value.string, hown, ?_⟩
 refine ⟨by simp [Kd.string, Kd.scalar], fun j p hj => ?_⟩
 show ((xs.map Value.string).drop (j * 1)).take 1 = [.string p]
 obtain ⟨hjl, hp⟩ := List.getElem?_eq_some_iff.1 hj
 rw [Nat.mul_one, List.drop_eq_getElem_cons (by simpa using hjl)]
 simp [hp]
theorem fields_to (s : ByteArray) (d : Int) (w : World) (hs : s.size < 4294967281) (ha : ∀ (j : Nat) b, s.data.toList[j]? = some b → b.toNat < 128) (ht : Tab w) (hl : (Lib.fields s.data.toList).map (fun l => (⟨l.toArray⟩ : ByteArray)) = lst d) (hn : (lst d).length ≤ 1000) :
  Calls Tryd.prog 72 #[.string s] w (AllTo d w) := by
 refine (Tryd.strings_Fields s w hs ha ht).mono ?_
 rintro e w' ⟨he, hw⟩
 have h1 : (Lib.fields s.data.toList).map (fun l => Value.string ⟨l.toArray⟩) = (lst d).map Value.string := by rw [← hl, List.map_map]; rfl
 have h2 : (Lib.fields s.data.toList).length = (lst d).length := by rw [← hl, List.length_map]
 rw [h1] at hw
 rw [h2] at he
 subst hw
 exact ⟨_, he, R_fields w (lst d) hn, below_alloc (Below.refl _ _) _⟩
set_option maxHeartbeats 4000000 in
set_option maxRecDepth 100000 in
theorem all_any (d : Int) (w : World) (ht : Tab w) : Calls Tryd.prog 59 #[.int .i64 d] w (AllTo d w) := by
 have HT := Lib.hid ht
 clear ht
 by_cases h0 : d = 0
 ·subst h0
  go_enter Tryd.func59, Tryd.ntmps59
  go_wp2_with (first | (go_at_call 72; go_must (refine (fields_to pasS 0 w (by decide) asciiP HT.out lst_pas (by decide)).mono ?_)))
  rintro e w1 ⟨r, rfl, hR, hb⟩
  have HR := Lib.hid hR
  have HB := Lib.hid hb
  clear hR hb
  go_wp2
  go_ret
  exact ⟨_, rfl, HR.out, HB.out⟩
 ·by_cases h1 : d = 1
  ·subst h1
   go_enter Tryd.func59, Tryd.ntmps59
   go_wp2_with (first | (go_at_call 72; go_must (refine (fields_to ceeS 1 w (by decide) asciiC HT.out lst_cee (by decide)).mono ?_)))
   rintro e w1 ⟨r, rfl, hR, hb⟩
   have HR := Lib.hid hR
   have HB := Lib.hid hb
   clear hR hb
   go_wp2
   go_ret
   exact ⟨_, rfl, HR.out, HB.out⟩
  ·have hl : lst d = [] := by unfold lst; rw [if_neg h0, if_neg h1]
   go_enter Tryd.func59, Tryd.ntmps59
   go_wp2
   go_ret
   rw [AllTo, hl]
   exact ⟨_, rfl, Kd.R_nil _ _ _ _ _, Below.refl _ _⟩

/-! ### Is -/
def mem (l : List ByteArray) (x : ByteArray) : Bool := l.any fun y => decide (y = x)
theorem mem_iff (l : List ByteArray) (x : ByteArray) : mem l x = true ↔ x ∈ l := by
 unfold mem
 rw [List.any_eq_true]
 constructor
 ·rintro ⟨y, hy, he⟩
  rw [← of_decide_eq_true he]; exact hy
 ·intro h
  exact ⟨x, h, decide_eq_true rfl⟩
theorem bytesLess_lt : ∀ (x y : List UInt8), Op.bytesLess x y = decide (x < y)
 | [], [] => by simp [Op.bytesLess]
 | _ :: _, [] => by simp [Op.bytesLess]
 | [], _ :: _ => by simp [Op.bytesLess]
 | a :: x, b :: y => by
  rw [Op.bytesLess, bytesLess_lt x y, Bool.eq_iff_iff]
  simp [List.cons_lt_cons_iff]
abbrev less (a b : ByteArray) : Bool := Op.bytesLess a.toList b.toList
theorem less_irrefl (a : ByteArray) : less a a = false := by
 show Op.bytesLess a.toList a.toList = false
 rw [bytesLess_lt]
 exact decide_eq_false (List.lt_irrefl _)
theorem less_trans {a b c : ByteArray} (h1 : less a b = true) (h2 : less b c = true) : less a c = true := by
 have g1 : Op.bytesLess a.toList b.toList = true := h1
 have g2 : Op.bytesLess b.toList c.toList = true := h2
 show Op.bytesLess a.toList c.toList = true
 rw [bytesLess_lt] at g1 g2 ⊢
 exact decide_eq_true (List.lt_trans (of_decide_eq_true g1) (of_decide_eq_true g2))
def Sx (l : List ByteArray) (x : ByteArray) (t : Nat) : ByteArray := if h : t < l.length then l[t] else x
/-- The halving finds just what is there. -/
theorem bs_found (l : List ByteArray) (x : ByteArray) (hs : l.Pairwise (fun a b => less a b = true)) (inst : Decidable (Lib.bsGo (fun t => Op.bytesLess (Sx l x t).toList x.toList) l.length 0 l.length < l.length ∧ Sx l x (Lib.bsGo (fun t => Op.bytesLess (Sx l x t).toList x.toList) l.length 0 l.length) = x)) :
  decide (Lib.bsGo (fun t => Op.bytesLess (Sx l x t).toList x.toList) l.length 0 l.length < l.length ∧ Sx l x (Lib.bsGo (fun t => Op.bytesLess (Sx l x t).toList x.toList) l.length 0 l.length) = x) = mem l x := by
 have hk : Lib.bsGo (fun t => Op.bytesLess (Sx l x t).toList x.toList) l.length 0 l.length = l.findIdx (fun y => !less y x) := by
  refine Lib.bsGo_spec _ _ ?_ ?_ _ _ _ (by omega) (Nat.zero_le _) List.findIdx_le_length
  ·intro t ht
   have hl : t < l.length := Nat.lt_of_lt_of_le ht List.findIdx_le_length
   have := List.not_of_lt_findIdx ht
   simp only [Sx, dif_pos hl]
   simpa [less] using this
  ·intro t ht
   by_cases hl : t < l.length
   ·simp only [Sx, dif_pos hl]
    have hkl : l.findIdx (fun y => !less y x) < l.length := by omega
    have h1 := List.findIdx_getElem (xs := l) (p := fun y => !less y x) (w := hkl)
    simp only [Bool.not_eq_true'] at h1
    cases hc : less l[t] x with
    | false => exact hc
    | true =>
     exfalso
     rcases Nat.lt_or_ge (l.findIdx (fun y => !less y x)) t with h2 | h2
     ·have h3 := List.pairwise_iff_getElem.1 hs _ _ hkl hl h2
      rw [less_trans h3 hc] at h1
      cases h1
     ·have h4 : l.findIdx (fun y => !less y x) = t := by omega
      simp only [h4] at h1
      rw [h1] at hc; cases hc
   ·simp only [Sx, dif_neg hl]
    exact less_irrefl x
 rw [Bool.eq_iff_iff, decide_eq_true_iff, hk, mem_iff]
 constructor
 ·rintro ⟨h1, h2⟩
  simp only [Sx, dif_pos h1] at h2
  rw [← h2]
  exact List.getElem_mem _
 ·intro hx
  obtain ⟨i, hi, rfl⟩ := List.getElem_of_mem hx
  have hle : l.findIdx (fun y => !less y l[i]) ≤ i := by
   rcases Nat.lt_or_ge i (l.findIdx (fun y => !less y l[i])) with h | h
   ·have := List.not_of_lt_findIdx h
    rw [less_irrefl] at this
    exact absurd this (by simp)
   ·exact h
  have hkl : l.findIdx (fun y => !less y l[i]) < l.length := by omega
  refine ⟨hkl, ?_⟩
  simp only [Sx, dif_pos hkl]
  rcases Nat.lt_or_ge (l.findIdx (fun y => !less y l[i])) i with h | h
  ·have h3 := List.pairwise_iff_getElem.1 hs _ _ hkl hi h
   have h1 := List.findIdx_getElem (xs := l) (p := fun y => !less y l[i]) (w := hkl)
   simp only [Bool.not_eq_true'] at h1
   rw [h3] at h1; cases h1
  ·have h4 : l.findIdx (fun y => !less y l[i]) = i := by omega
   simp only [h4]
theorem sorted_lst (d : Int) : (lst d).Pairwise (fun a b => less a b = true) := by
 by_cases h0 : d = 0
 ·subst h0
  exact of_decide_eq_true (by kernel_rfl)
 ·by_cases h1 : d = 1
  ·subst h1
   exact of_decide_eq_true (by kernel_rfl)
  ·have hl : lst d = [] := by unfold lst; rw [if_neg h0, if_neg h1]
   rw [hl]
   exact List.Pairwise.nil
theorem lst_len (d : Int) : (lst d).length ≤ 1000 := by
 have h0 : (lst 0).length ≤ 1000 := of_decide_eq_true (by kernel_rfl)
 have h1 : (lst 1).length ≤ 1000 := of_decide_eq_true (by kernel_rfl)
 by_cases e0 : d = 0
 ·subst e0; exact h0
 ·by_cases e1 : d = 1
  ·subst e1; exact h1
  ·have hl : lst d = [] := by unfold lst; rw [if_neg e0, if_neg e1]
   rw [hl]; simp
theorem search_row (l : List ByteArray) (x : ByteArray) (w : World) {r : Value} {base : Nat} (hR : Kd.string.R 9 w base (fun _ => True) r l) (hs : l.Pairwise (fun a b => less a b = true)) (hl : l.length ≤ 1000) :
  Calls Tryd.prog 58 #[r, .string x] w fun e w' => ∃ i : Nat, e = .returned (.tuple #[.int .i64 i, .bool (mem l x)]) ∧ ∃ q, w' = w.drewN q := by
 obtain ⟨A, c, he, hlc, hC⟩ := Kd.R_reads hR
 obtain ⟨inner, hown⟩ := Kd.R_own hR
 rcases hown.2 with ⟨hv, h0⟩ | ⟨g, cap, cur, hv, _⟩
 ·obtain rfl := List.eq_nil_of_length_eq_zero h0
  rw [hv]
  refine (Any2.slices_BinarySearch_string_empty lays26 none 0 x w).mono ?_
  rintro e w' ⟨he, hw⟩
  exact ⟨0, he, 0, hw⟩
 ·rw [hv]
  have hA : A = some ⟨g, 0, none⟩ := by rw [hv] at he; injection he with h1 _ _; exact h1.symm
  subst hA
  have hcell : ∀ j, j < l.length → w.cell? ⟨g, 0 + j, none⟩ = some (.string (Sx l x j)) := by
   intro j hj
   obtain ⟨ad, h1, h2⟩ := Kd.at_string hC (j : Int) (by omega) (by omega)
   injection h1 with h1
   subst h1
   rw [show ((j : Int)).toNat = j from by omega] at h2
   rw [show (⟨g, 0 + j, none⟩ : Addr) = (⟨g, 0, none⟩ : Addr).add j from by simp [Addr.add], h2, show rdOf ByteArray.empty l (j : Int) = l.getD (j : Int).toNat ByteArray.empty from rfl]
   simp [Sx, hj]
  refine (Any2.slices_BinarySearch_string lays26 g 0 l.length cap (Sx l x) x w (by omega) hcell).mono ?_
  rintro e w' ⟨he, q, hw⟩
  rw [bs_found l x hs] at he
  exact ⟨_, he, q, hw⟩
set_option maxHeartbeats 4000000 in
set_option maxRecDepth 100000 in
theorem is_any (d : Int) (s : ByteArray) (w : World) (ht : Tab w) : Calls Tryd.prog 48 #[.int .i64 d, .string s] w fun e w' => e = .returned (.bool (mem (lst d) s)) ∧ Below w.heap.size w w' := by
 have HT := Lib.hid ht
 clear ht
 go_enter Tryd.func48, Tryd.ntmps48
 go_wp2_with (first | (go_at_call 59; go_must (refine (all_any d w HT.out).mono ?_)))
 rintro e w1 ⟨r, rfl, hR, hb⟩
 have HR := Lib.hid hR
 have HB := Lib.hid hb
 clear hR hb
 go_wp2_with (first | (go_at_call 58; go_must (refine (search_row (lst d) s _ HR.out (sorted_lst d) (lst_len d)).mono ?_)))
 rintro e w2 ⟨i, rfl, q, rfl⟩
 go_wp2
 go_ret
 exact ⟨rfl, pw_below_drewN HB.out q⟩
end Go.Proofs.YtidicpngmildkaaDoor.Wd
set_option linter.unusedVariables false
set_option linter.unusedSimpArgs false
namespace Go.Proofs.YtidicpngmildkaaDoor.Tx
open Go.RowKit Go.Proofs.YtidicpngmildkaaDoorW.PrintWords Go.Proofs.YtidicpngmildkaaDoorW.PrintLast Go.Proofs.YtidicpngmildkaaDoorW.PrintMore Go.Proofs.YtidicpngmildkaaDoor.R
abbrev Tok := S35
abbrev kTok : Kd Tok := k35
/-- A place that lies in a block of its own (or none does). -/
def PosIn (O : Option (Nat × Nat)) (s : ByteArray) (W : World) : Prop := ∀ b q : Nat, O = some (b, q) → Px b q (ln s q) (cl s q) W
theorem PosIn.below {O : Option (Nat × Nat)} {s : ByteArray} {W W' : World} (h : PosIn O s W) (hb : Below W.heap.size W W') : PosIn O s W' := fun b q e => (h b q e).below hb
theorem PosIn.at1 {O : Option (Nat × Nat)} {s : ByteArray} {W W' : World} {f : Nat} (h : PosIn O s W) (ha : At1 f W W') (hn : ∀ b q : Nat, O = some (b, q) → b ≠ f) : PosIn O s W' := fun b q e => (h b q e).at1 ha (hn b q e)
theorem PosIn.ne {O : Option (Nat × Nat)} {s : ByteArray} {W : World} (h : PosIn O s W) {f : Nat} {cs : Array Value} {t : TypeId} (hf : W.heap[f]? = some (.cells cs t (0, 0))) (ht : t ≠ 27) : ∀ b q : Nat, O = some (b, q) → b ≠ f := by
 intro b q e e2
 have h1 := h b q e
 unfold Px at h1
 rw [e2, hf] at h1
 injection h1 with h1
 injection h1 with _ h1
 exact ht h1
def Bel (O : Option (Nat × Nat)) (s : ByteArray) (w0 W : World) : Prop := Below w0.heap.size w0 W ∧ PosIn O s W
/-- A lexer at a byte, with its tokens. -/
structure Lx (O : Option (Nat × Nat)) (w0 : World) (g c : Nat) (s : ByteArray) (k : Nat) (v : Value) (l : List Tok) (last : Int) (W : World) : Prop where
 blk : W.heap[g]? = some (.cells #[.pointer (some ⟨c, 0, none⟩), .int .i64 1, .string s, v, .int .i64 last] 50 (0, 0))
 cu : Cu c s k W
 row : Kd.R kTok 35 W w0.heap.size (fun _ => True) v l
 bel : Below w0.heap.size w0 W
 hg : w0.heap.size ≤ g
 hc : w0.heap.size ≤ c
 pos : PosIn O s W
section
variable {O : Option (Nat × Nat)} {w0 W W' : World} {g c : Nat} {s : ByteArray} {k : Nat} {v : Value} {l : List Tok} {last : Int}
theorem Lx.cells (h : Lx O w0 g c s k v l last W) : W.cell? ⟨g, 0, none⟩ = some (.pointer (some ⟨c, 0, none⟩)) ∧ W.cell? ⟨g, 1, none⟩ = some (.int .i64 1) ∧ W.cell? ⟨g, 2, none⟩ = some (.string s) ∧ W.cell? ⟨g, 3, none⟩ = some v ∧ W.cell? ⟨g, 4, none⟩ = some (.int .i64 last) :=
 ⟨(blk_cell h.blk 0).trans rfl, (blk_cell h.blk 1).trans rfl, (blk_cell h.blk 2).trans rfl, (blk_cell h.blk 3).trans rfl, (blk_cell h.blk 4).trans rfl⟩
theorem Lx.lt (h : Lx O w0 g c s k v l last W) : g < W.heap.size := blk_lt h.blk
theorem Lx.below (h : Lx O w0 g c s k v l last W) (hb : Below W.heap.size W W') : Lx O w0 g c s k v l last W' :=
 ⟨(hb.block g h.lt).trans h.blk, h.cu.below hb, Kd.R_below h.row hb, below_weaken h.bel h.bel.size hb, h.hg, h.hc, h.pos.below hb⟩
theorem Lx.drewN (h : Lx O w0 g c s k v l last W) (n : Nat) : Lx O w0 g c s k v l last (W.drewN n) := h.below (pw_below_drewN (Below.refl _ _) n)
theorem Lx.drew (h : Lx O w0 g c s k v l last W) : Lx O w0 g c s k v l last W.drew := h.below (below_drew (Below.refl _ _))
theorem Lx.ne (h : Lx O w0 g c s k v l last W) : g ≠ c := by
 intro e
 have h1 := h.blk
 have h2 := h.cu
 unfold Cu at h2
 rw [e, h2] at h1
 injection h1 with h1
 injection h1 with _ h1
 exact absurd h1 (by decide)
theorem Lx.rowg (h : Lx O w0 g c s k v l last W) : some g ≠ v.ownBlock := Kd.R_ne h.row h.blk (by decide)
theorem Lx.rowc (h : Lx O w0 g c s k v l last W) : some c ≠ v.ownBlock := Kd.R_ne h.row h.cu (by decide)
/-- The cursor has gone on. -/
theorem Lx.move (h : Lx O w0 g c s k v l last W) {k' : Nat} (hc : Cu c s k' W') (ha : At1 c W W') : Lx O w0 g c s k' v l last W' :=
 ⟨(ha.block g h.lt (fun e => h.ne (Option.some.inj e))).trans h.blk, hc, Kd.R_grown2 h.row rfl ha (fun q e => by have := Option.some.inj e; subst this; exact h.rowc), ha.below h.bel h.hc, h.hg, h.hc, h.pos.at1 ha (h.pos.ne h.cu (by decide))⟩
/-- A block that is none of these is another one. -/
theorem Lx.other (h : Lx O w0 g c s k v l last W) {b : Nat} (ha : At1 b W W') (hg : g ≠ b) (hc : c ≠ b) (hr : some b ≠ v.ownBlock) (hb : w0.heap.size ≤ b) (ho : ∀ b1 q : Nat, O = some (b1, q) → b1 ≠ b) : Lx O w0 g c s k v l last W' :=
 ⟨(ha.block g h.lt (fun e => hg (Option.some.inj e))).trans h.blk, ha.cu hc h.cu, Kd.R_grown2 h.row rfl ha (fun q e => by have := Option.some.inj e; subst this; exact hr), ha.below h.bel hb, h.hg, h.hc, h.pos.at1 ha ho⟩
/-- A cell of the lexer is another one. -/
theorem Lx.setLast (h : Lx O w0 g c s k v l last W) (n : Int) : Lx O w0 g c s k v l n (W.setCell ⟨g, 4, none⟩ (.int .i64 n)) := by
 have ha : At1 g W (W.setCell ⟨g, 4, none⟩ (.int .i64 n)) := (At1.refl g W).set 4 _
 exact ⟨blk_set h.blk 4 _, ha.cu (Ne.symm h.ne) h.cu, Kd.R_grown2 h.row rfl ha (fun q e => by have := Option.some.inj e; subst this; exact h.rowg), ha.below h.bel h.hg, h.hg, h.hc, h.pos.at1 ha (h.pos.ne h.blk (by decide))⟩
theorem Lx.fin (h : Lx O w0 g c s k v l last W) : Bel O s w0 W := ⟨h.bel, h.pos⟩
theorem PosIn.grow (h : Lx O w0 g c s k v l last W) {W1 : World} (hg : W.grownBy W1 v.ownBlock) : PosIn O s W1 := fun b q e => by
 have h1 := h.pos b q e
 unfold Px at h1 ⊢
 rw [hg.block b (Array.getElem?_eq_some_iff.1 h1).1 (Kd.R_ne h.row h1 (by decide))]
 exact h1
/-- The row has grown, and is laid anew. -/
theorem Lx.setRow (h : Lx O w0 g c s k v l last W) {W1 : World} {v1 : Value} {l1 : List Tok} (hr : Kd.R kTok 35 W1 w0.heap.size (fun _ => True) v1 l1) (hg : W.grownBy W1 v.ownBlock) (hb : Below w0.heap.size w0 W1) : Lx O w0 g c s k v1 l1 last (W1.setCell ⟨g, 3, none⟩ v1) := by
 have hb1 : W1.heap[g]? = some (.cells #[.pointer (some ⟨c, 0, none⟩), .int .i64 1, .string s, v, .int .i64 last] 50 (0, 0)) := (hg.block g h.lt h.rowg).trans h.blk
 have hc1 : Cu c s k W1 := (hg.block c h.cu.lt h.rowc).trans h.cu
 have ha : At1 g W1 (W1.setCell ⟨g, 3, none⟩ v1) := (At1.refl g W1).set 3 _
 exact ⟨blk_set hb1 3 _, ha.cu (Ne.symm h.ne) hc1, Kd.R_grown2 hr rfl ha (fun q e => by have := Option.some.inj e; subst this; exact Kd.R_ne hr hb1 (by decide)), ha.below hb h.hg, h.hg, h.hc, PosIn.at1 (fun b q e => PosIn.grow h hg b q e) ha (PosIn.ne (fun b q e => PosIn.grow h hg b q e) hb1 (by decide))⟩
end
theorem field0 (a b c : Int) (W : World) : (Instr.field 27 (.agg #[.int .i64 a, .int .i64 b, .int .i64 c]) 0).run Tryd.prog W = .ok (.int .i64 a) W := by kernel_rfl
theorem field1 (a b c : Int) (W : World) : (Instr.field 27 (.agg #[.int .i64 a, .int .i64 b, .int .i64 c]) 1).run Tryd.prog W = .ok (.int .i64 b) W := by kernel_rfl
attribute [local go_sem] field0 field1
set_option maxHeartbeats 4000000 in
set_option maxRecDepth 1000000 in
theorem rest_any {O : Option (Nat × Nat)} {w0 w : World} {g c : Nat} {s : ByteArray} {k : Nat} {v : Value} {l : List Tok} {last : Int} (h : Lx O w0 g c s k v l last w) (hs : s.size ≤ 1000000) (hk : k ≤ s.size) :
  Calls Tryd.prog 27 #[.pointer (some ⟨g, 0, none⟩)] w fun e w' => e = .returned (.string (s.extract k s.size)) ∧ Below w.heap.size w w' := by
 have H := Lib.hid h
 clear h
 have hk1 : (k : Int) ≤ (s.size : Int) := by omega
 have HPV := Lib.hid (show posV s k = .agg #[.int .i64 k, .int .i64 (ln s k), .int .i64 (cl s k)] from rfl)
 go_enter Tryd.func27, Tryd.ntmps27
 go_wp2
 have H0 := Lib.hid H.out.drew
 have HB0 := Lib.hid (below_drew (Below.refl w.heap.size w))
 refine start_ (n := 12) (S := fun w' => w'.cell? ⟨g, 0, none⟩ = some (.pointer (some ⟨c, 0, none⟩)) ∧ w'.cell? ⟨g, 2, none⟩ = some (.string s)) (ds := []) #[ZZ,ZZ,ZZ,ZZ,ZZ,ZZ,ZZ,ZZ,ZZ,ZZ,ZZ,ZZ] (by kernel_rfl) rfl rfl ⟨H0.out.cells.1, H0.out.cells.2.2.1⟩ (fun hHeld => ?_)
 generalize hwd : World.drew _ = wd at *
 refine pure_ (i := 0) (N := some 3) (v := ?_) (a' := ?_) #[YY,ZZ,ZZ,ZZ,ZZ,ZZ,ZZ,ZZ,ZZ,ZZ,ZZ,ZZ] rfl rfl (by kernel_rfl) (fun _ _ _ h => h) (Or.inl ⟨by rfl, ?_⟩) ?_ ?_
 rotate_left
 ·intro w'
  go_simp
  with_reducible rfl
 rotate_left
 ·simp only [Act.put, List.setIfInBounds_toArray, List.set_cons_zero, List.set_cons_succ, i64_w, i32_w]
  rfl
 refine pure_ (i := 1) (N := some 4) (v := ?_) (a' := ?_) #[YY,YY,ZZ,ZZ,ZZ,ZZ,ZZ,ZZ,ZZ,ZZ,ZZ,ZZ] rfl rfl (by kernel_rfl) (fun _ _ _ h => h) (Or.inl ⟨by rfl, ?_⟩) ?_ ?_
 rotate_left
 ·intro w'
  go_simp
  with_reducible rfl
 rotate_left
 ·simp only [Act.put, List.setIfInBounds_toArray, List.set_cons_zero, List.set_cons_succ, i64_w, i32_w]
  rfl
 refine pure_ (i := 2) (N := some 5) (v := ?_) (a' := ?_) #[YY,YY,YY,ZZ,ZZ,ZZ,ZZ,ZZ,ZZ,ZZ,ZZ,ZZ] rfl rfl (by kernel_rfl) (fun _ _ _ h => h) (Or.inl ⟨by rfl, ?_⟩) ?_ ?_
 rotate_left
 ·intro w'
  go_simp
  with_reducible rfl
 rotate_left
 ·simp only [Act.put, List.setIfInBounds_toArray, List.set_cons_zero, List.set_cons_succ, i64_w, i32_w]
  rfl
 refine pure_ (i := 4) (N := some 7) (v := ?_) (a' := ?_) #[YY,YY,YY,ZZ,YY,ZZ,ZZ,ZZ,ZZ,ZZ,ZZ,ZZ] rfl rfl (by kernel_rfl) (fun _ _ _ h => h) (Or.inl ⟨by rfl, ?_⟩) ?_ ?_
 rotate_left
 ·intro w'
  go_simp
  with_reducible rfl
 rotate_left
 ·simp only [Act.put, List.setIfInBounds_toArray, List.set_cons_zero, List.set_cons_succ, i64_w, i32_w]
  rfl
 refine pure_ (i := 5) (N := some 8) (v := ?_) (a' := ?_) #[YY,YY,YY,ZZ,YY,YY,ZZ,ZZ,ZZ,ZZ,ZZ,ZZ] rfl rfl (by kernel_rfl) (fun _ _ _ h => h) (Or.inl ⟨by rfl, ?_⟩) ?_ ?_
 rotate_left
 ·intro w'
  go_simp
  with_reducible rfl
 rotate_left
 ·simp only [Act.put, List.setIfInBounds_toArray, List.set_cons_zero, List.set_cons_succ, i64_w, i32_w]
  rfl
 refine pure_ (i := 6) (N := some 9) (v := ?_) (a' := ?_) #[YY,YY,YY,ZZ,YY,YY,YY,ZZ,ZZ,ZZ,ZZ,ZZ] rfl rfl (by kernel_rfl) (fun _ _ _ h => h) (Or.inl ⟨by rfl, ?_⟩) ?_ ?_
 rotate_left
 ·intro w'
  go_simp
  with_reducible rfl
 rotate_left
 ·simp only [Act.put, List.setIfInBounds_toArray, List.set_cons_zero, List.set_cons_succ, i64_w, i32_w]
  rfl
 refine take_ (i := 3) (N := some 6) (v := ?_) (a' := ?_) #[YY,YY,YY,YY,YY,YY,YY,ZZ,ZZ,ZZ,ZZ,ZZ] rfl rfl (by kernel_rfl) (fun _ _ _ h => h) (Or.inl ⟨by rfl, ?_⟩) hHeld ?_ ?_
 rotate_left
 ·rintro w' ⟨s0, s1⟩
  go_simp
  with_reducible rfl
 rotate_left
 ·simp only [Act.put, List.setIfInBounds_toArray, List.set_cons_zero, List.set_cons_succ, i64_w, i32_w]
  rfl
 refine take_ (i := 7) (N := some 10) (v := ?_) (a' := ?_) #[YY,YY,YY,YY,YY,YY,YY,YY,ZZ,ZZ,ZZ,ZZ] rfl rfl (by kernel_rfl) (fun _ _ _ h => h) (Or.inl ⟨by rfl, ?_⟩) hHeld ?_ ?_
 rotate_left
 ·rintro w' ⟨s0, s1⟩
  go_simp
  with_reducible rfl
 rotate_left
 ·simp only [Act.put, List.setIfInBounds_toArray, List.set_cons_zero, List.set_cons_succ, i64_w, i32_w]
  rfl
 refine one_ (i := 8) (N := some 11) #[YY,YY,YY,YY,YY,YY,YY,YY,YY,ZZ,ZZ,ZZ] rfl rfl (by kernel_rfl) (by decide) (fun K hK => ?_)
 refine goes_ Tryd.func16 (by kernel_rfl) rfl #[.pointer (some ⟨c, 0, none⟩)] (by rfl) rfl rfl (by simp only [List.map_toArray, List.map_cons, List.map_nil]; rfl) ?_
 with_reducible refine (pos_any c s k _ H0.out.cu).mono ?_
 rintro e w9 ⟨rfl, hb⟩
 refine ⟨_, rfl, ?_⟩
 rw [HPV.out]
 have H9 := Lib.hid (H0.out.below hb)
 have HB9 := Lib.hid (below_weaken HB0.out HB0.out.size hb)
 clear hb
 refine hK.out _ _ ⟨H9.out.cells.1, H9.out.cells.2.2.1⟩ (fun hHeld => ?_)
 clear hK K
 refine norm_ (a' := ?_) ?_ ?_
 rotate_left
 ·show Act.put _ (some 11) _ = _
  simp only [Act.put, List.setIfInBounds_toArray, List.set_cons_zero, List.set_cons_succ, i64_w, i32_w]
  rfl
 refine pure_ (i := 9) (N := some 12) (v := ?_) (a' := ?_) #[YY,YY,YY,YY,YY,YY,YY,YY,YY,YY,ZZ,ZZ] rfl rfl (by kernel_rfl) (fun _ _ _ h => h) (Or.inl ⟨by rfl, ?_⟩) ?_ ?_
 rotate_left
 ·intro w'
  go_simp
  with_reducible rfl
 rotate_left
 ·simp only [Act.put, List.setIfInBounds_toArray, List.set_cons_zero, List.set_cons_succ, i64_w, i32_w]
  rfl
 refine pure_ (i := 10) (N := some 13) (v := ?_) (a' := ?_) #[YY,YY,YY,YY,YY,YY,YY,YY,YY,YY,YY,ZZ] rfl rfl (by kernel_rfl) (fun _ _ _ h => h) (Or.inl ⟨by rfl, ?_⟩) ?_ ?_
 rotate_left
 ·intro w'
  go_simp
  with_reducible rfl
 rotate_left
 ·simp only [Act.put, List.setIfInBounds_toArray, List.set_cons_zero, List.set_cons_succ, i64_w, i32_w]
  rfl
 refine pure_ (i := 11) (N := some 2) (v := ?_) (a' := ?_) #[YY,YY,YY,YY,YY,YY,YY,YY,YY,YY,YY,YY] rfl rfl (by kernel_rfl) (fun _ _ _ h => h) (Or.inl ⟨by rfl, ?_⟩) ?_ ?_
 rotate_left
 ·intro w'
  go_simp
  with_reducible rfl
 rotate_left
 ·simp only [Act.put, List.setIfInBounds_toArray, List.set_cons_zero, List.set_cons_succ, i64_w, i32_w]
  rfl
 refine done_ (by kernel_rfl) ?_
 go_wp2
 go_ret
 exact ⟨rfl, HB9.out⟩
def TkOf (kind : Int) (text : ByteArray) (n : Int) (same : Bool) (s : ByteArray) (k : Nat) : Tok := ⟨kind, text, n, same, ⟨k, ln s k, cl s k⟩⟩
def tkCells (kind : Int) (text : ByteArray) (n : Int) (same : Bool) (s : ByteArray) (k : Nat) : Array Value := #[.int .i64 kind, .string text, .int .i64 n, .bool same, .int .i64 k, .int .i64 (ln s k), .int .i64 (cl s k)]
def Tx7 (b : Nat) (kind : Int) (text : ByteArray) (n : Int) (same : Bool) (s : ByteArray) (k : Nat) (W : World) : Prop := W.heap[b]? = some (.cells #[.int .i64 kind, .string text, .int .i64 n, .bool same, .int .i64 k, .int .i64 (ln s k), .int .i64 (cl s k)] 35 (0, 0))
theorem Tx7.cells {b : Nat} {kind : Int} {text : ByteArray} {n : Int} {same : Bool} {s : ByteArray} {k : Nat} {W : World} (h : Tx7 b kind text n same s k W) : W.cell? ⟨b, 0, none⟩ = some (.int .i64 kind) ∧ W.cell? ⟨b, 1, none⟩ = some (.string text) ∧ W.cell? ⟨b, 2, none⟩ = some (.int .i64 n) ∧ W.cell? ⟨b, 3, none⟩ = some (.bool same) ∧ W.cell? ⟨b, 4, none⟩ = some (.int .i64 k) ∧ W.cell? ⟨b, 5, none⟩ = some (.int .i64 (ln s k)) ∧ W.cell? ⟨b, 6, none⟩ = some (.int .i64 (cl s k)) :=
 ⟨(blk_cell h 0).trans rfl, (blk_cell h 1).trans rfl, (blk_cell h 2).trans rfl, (blk_cell h 3).trans rfl, (blk_cell h 4).trans rfl, (blk_cell h 5).trans rfl, (blk_cell h 6).trans rfl⟩
theorem Tx7.below {b : Nat} {kind : Int} {text : ByteArray} {n : Int} {same : Bool} {s : ByteArray} {k : Nat} {W W' : World} (h : Tx7 b kind text n same s k W) (hb : Below W.heap.size W W') : Tx7 b kind text n same s k W' := (hb.block b (blk_lt h)).trans h
theorem Tx7.setSame {b : Nat} {kind : Int} {text : ByteArray} {n : Int} {same : Bool} {s : ByteArray} {k : Nat} {W : World} (h : Tx7 b kind text n same s k W) (x : Bool) : Tx7 b kind text n x s k (W.setCell ⟨b, 3, none⟩ (.bool x)) := blk_set h 3 _
theorem infoTok : (Tryd.prog.info? 35).map (fun i => (i.zero, i.size, i.bytes)) = some (some (.agg #[.int .i64 0, .string ⟨#[]⟩, .int .i64 0, .bool false, .int .i64 0, .int .i64 0, .int .i64 0]), 7, 64) := by kernel_rfl
set_option maxHeartbeats 8000000 in
set_option maxRecDepth 1000000 in
theorem add_any {O : Option (Nat × Nat)} {w0 w : World} {g c : Nat} {s : ByteArray} {k k0 : Nat} {v : Value} {l : List Tok} {last : Int} (h : Lx O w0 g c s k v l last w) (hl : l.length ≤ 1000000) (kind : Int) (text : ByteArray) (n : Int) :
  Calls Tryd.prog 18 #[.pointer (some ⟨g, 0, none⟩), .agg #[.int .i64 kind, .string text, .int .i64 n, .bool false, .int .i64 0, .int .i64 0, .int .i64 0], posV s k0] w fun e w' => e = .returned (.tuple #[]) ∧ ∃ v1, Lx O w0 g c s k v1 (l ++ [TkOf kind text n (last == (ln s k0 : Int)) s k0]) (ln s k) w' := by
 obtain ⟨b, hb⟩ : ∃ b, b = w.heap.size := ⟨_, rfl⟩
 obtain ⟨b2, hb2⟩ : ∃ b2, b2 = w.heap.size + 1 := ⟨_, rfl⟩
 obtain ⟨W1, hW1⟩ : ∃ W1, W1 = w.alloc (.cells #[.int .i64 kind, .string text, .int .i64 n, .bool false, .int .i64 k0, .int .i64 (ln s k0), .int .i64 (cl s k0)] 35) := ⟨_, rfl⟩
 obtain ⟨W2, hW2⟩ : ∃ W2, W2 = W1.alloc (.cells #[.int .i64 k0, .int .i64 (ln s k0), .int .i64 (cl s k0)] 27) := ⟨_, rfl⟩
 have hal1 : Below w.heap.size w W1 := by rw [hW1]; exact below_alloc (Below.refl _ _) _
 have hal2 : Below W1.heap.size W1 W2 := by rw [hW2]; exact below_alloc (Below.refl _ _) _
 have hs1 : W1.heap.size = b2 := by rw [hW1, hb2]; exact Array.size_push _
 have HT2 : Hid (Tx7 b kind text n false s k0 W2) := Lib.hid (Tx7.below (W := W1) (by rw [hW1, hb]; exact alloc_new w _) hal2)
 have HP2 : Hid (Px b2 k0 (ln s k0) (cl s k0) W2) := Lib.hid (by rw [hW2, ← hs1]; exact alloc_new W1 _)
 have H2 := Lib.hid ((h.below hal1).below hal2)
 have hgb : g < b := by rw [hb]; exact h.lt
 have hcb : c < b := by rw [hb]; exact h.cu.lt
 have hrb : some b ≠ v.ownBlock := fun e => by have := Kd.R_lt h.row b e.symm; omega
 have HO := Lib.hid (show ∀ b1 q : Nat, O = some (b1, q) → b1 ≠ b from fun b1 q e e2 => by
  have h1 := (Array.getElem?_eq_some_iff.1 (h.pos b1 q e)).1
  omega)
 have HG := Lib.hid (show g ≠ b ∧ c ≠ b ∧ some b ≠ v.ownBlock ∧ w0.heap.size ≤ b ∧ b2 ≠ b ∧ b2 = b + 1 from ⟨by omega, by omega, hrb, by rw [hb]; exact h.bel.size, by omega, by omega⟩)
 have HW1 := Lib.hid hW1
 have HW2 := Lib.hid hW2
 have HB := Lib.hid hb
 have HB2 := Lib.hid hb2
 clear hb hb2 hW1 hW2 hal1 hal2 hs1 hgb hcb hrb h
 unfold posV
 go_enter Tryd.func18, Tryd.ntmps18
 go_wp2
 rw [← HW1.out, ← HW2.out, ← HB2.out, ← HB.out]
 clear HW1 HW2 HB HB2
 have H0 := Lib.hid H2.out.drew
 have HT0 := Lib.hid (HT2.out.below (below_drew (Below.refl W2.heap.size W2)))
 have HP0 := Lib.hid (HP2.out.below (below_drew (Below.refl W2.heap.size W2)))
 clear H2 HT2 HP2
 refine start_ (n := 9) (S := fun w' => w'.cell? ⟨g, 4, none⟩ = some (.int .i64 last) ∧ w'.cell? ⟨b2, 1, none⟩ = some (.int .i64 (ln s k0))) (ds := []) #[ZZ,ZZ,ZZ,ZZ,ZZ,ZZ,ZZ,ZZ,ZZ] (by kernel_rfl) rfl rfl ⟨H0.out.cells.2.2.2.2, HP0.out.cells.2.1⟩ (fun hHeld => ?_)
 generalize hwd : World.drew _ = wd at *
 refine pure_ (i := 0) (N := some 8) (v := ?_) (a' := ?_) #[YY,ZZ,ZZ,ZZ,ZZ,ZZ,ZZ,ZZ,ZZ] rfl rfl (by kernel_rfl) (fun _ _ _ h => h) (Or.inl ⟨by rfl, ?_⟩) ?_ ?_
 rotate_left
 ·intro w'
  go_simp
  with_reducible rfl
 rotate_left
 ·simp only [Act.put, List.setIfInBounds_toArray, List.set_cons_zero, List.set_cons_succ, i64_w, i32_w]
  rfl
 refine pure_ (i := 1) (N := some 9) (v := ?_) (a' := ?_) #[YY,YY,ZZ,ZZ,ZZ,ZZ,ZZ,ZZ,ZZ] rfl rfl (by kernel_rfl) (fun _ _ _ h => h) (Or.inl ⟨by rfl, ?_⟩) ?_ ?_
 rotate_left
 ·intro w'
  go_simp
  with_reducible rfl
 rotate_left
 ·simp only [Act.put, List.setIfInBounds_toArray, List.set_cons_zero, List.set_cons_succ, i64_w, i32_w]
  rfl
 refine pure_ (i := 2) (N := some 10) (v := ?_) (a' := ?_) #[YY,YY,YY,ZZ,ZZ,ZZ,ZZ,ZZ,ZZ] rfl rfl (by kernel_rfl) (fun _ _ _ h => h) (Or.inl ⟨by rfl, ?_⟩) ?_ ?_
 rotate_left
 ·intro w'
  go_simp
  with_reducible rfl
 rotate_left
 ·simp only [Act.put, List.setIfInBounds_toArray, List.set_cons_zero, List.set_cons_succ, i64_w, i32_w]
  rfl
 refine pure_ (i := 4) (N := some 12) (v := ?_) (a' := ?_) #[YY,YY,YY,ZZ,YY,ZZ,ZZ,ZZ,ZZ] rfl rfl (by kernel_rfl) (fun _ _ _ h => h) (Or.inl ⟨by rfl, ?_⟩) ?_ ?_
 rotate_left
 ·intro w'
  go_simp
  with_reducible rfl
 rotate_left
 ·simp only [Act.put, List.setIfInBounds_toArray, List.set_cons_zero, List.set_cons_succ, i64_w, i32_w]
  rfl
 refine take_ (i := 3) (N := some 11) (v := ?_) (a' := ?_) #[YY,YY,YY,YY,YY,ZZ,ZZ,ZZ,ZZ] rfl rfl (by kernel_rfl) (fun _ _ _ h => h) (Or.inl ⟨by rfl, ?_⟩) hHeld ?_ ?_
 rotate_left
 ·rintro w' ⟨s0, s1⟩
  go_simp
  with_reducible rfl
 rotate_left
 ·simp only [Act.put, List.setIfInBounds_toArray, List.set_cons_zero, List.set_cons_succ, i64_w, i32_w]
  rfl
 refine take_ (i := 5) (N := some 13) (v := ?_) (a' := ?_) #[YY,YY,YY,YY,YY,YY,ZZ,ZZ,ZZ] rfl rfl (by kernel_rfl) (fun _ _ _ h => h) (Or.inl ⟨by rfl, ?_⟩) hHeld ?_ ?_
 rotate_left
 ·rintro w' ⟨s0, s1⟩
  go_simp
  with_reducible rfl
 rotate_left
 ·simp only [Act.put, List.setIfInBounds_toArray, List.set_cons_zero, List.set_cons_succ, i64_w, i32_w]
  rfl
 refine pure_ (i := 6) (N := some 14) (v := ?_) (a' := ?_) #[YY,YY,YY,YY,YY,YY,YY,ZZ,ZZ] rfl rfl (by kernel_rfl) (fun _ _ _ h => h) (Or.inl ⟨by rfl, ?_⟩) ?_ ?_
 rotate_left
 ·intro w'
  go_simp
  with_reducible rfl
 rotate_left
 ·simp only [Act.put, List.setIfInBounds_toArray, List.set_cons_zero, List.set_cons_succ, i64_w, i32_w]
  rfl
 refine pure_ (i := 7) (N := some 15) (v := ?_) (a' := ?_) #[YY,YY,YY,YY,YY,YY,YY,YY,ZZ] rfl rfl (by kernel_rfl) (fun _ _ _ h => h) (Or.inl ⟨by rfl, ?_⟩) ?_ ?_
 rotate_left
 ·intro w'
  go_simp
  with_reducible rfl
 rotate_left
 ·simp only [Act.put, List.setIfInBounds_toArray, List.set_cons_zero, List.set_cons_succ, i64_w, i32_w]
  rfl
 refine one_ (i := 8) (N := none) #[YY,YY,YY,YY,YY,YY,YY,YY,YY] rfl rfl (by kernel_rfl) (by decide) (fun K hK => ?_)
 have t3 := HT0.out.cells.2.2.2.1
 have f3 := blk_frozen HT0.out 3
 refine skip_ (w1 := ?_) (by rfl) rfl ?_ ?_
 rotate_left
 ·go_simp
  rfl
 clear t3 f3
 have ha3 : At1 b wd (wd.setCell ⟨b, 3, none⟩ (.bool (last == (ln s k0 : Int)))) := (At1.refl b wd).set 3 _
 have H3 := Lib.hid (H0.out.other ha3 HG.out.1 HG.out.2.1 HG.out.2.2.1 HG.out.2.2.2.1 HO.out)
 have HP3 := Lib.hid (HP0.out.at1 ha3 HG.out.2.2.2.2.1)
 have HT3 := Lib.hid (HT0.out.setSame (last == (ln s k0 : Int)))
 clear ha3 H0 HP0 HT0
 refine hK.out _ _ ⟨H3.out.cells.2.2.2.2, HP3.out.cells.2.1⟩ (fun hHeld => ?_)
 clear hK K
 refine done_ (by kernel_rfl) ?_
 clear hwd
 go_wp2
 have hl2 : l.length + 1 ≤ 1000001 := by omega
 have H5 := Lib.hid H3.out.drew
 have HT5 := Lib.hid (HT3.out.below (below_drew (Below.refl _ _)))
 clear H3 HT3 HP3
 refine start_ (n := 11) (S := fun w' => w'.cell? ⟨g, 3, none⟩ = some v ∧ w'.cell? ⟨b, 0, none⟩ = some (.int .i64 kind) ∧ w'.cell? ⟨b, 1, none⟩ = some (.string text) ∧ w'.cell? ⟨b, 2, none⟩ = some (.int .i64 n) ∧ w'.cell? ⟨b, 3, none⟩ = some (.bool (last == (ln s k0 : Int))) ∧ w'.cell? ⟨b, 4, none⟩ = some (.int .i64 k0) ∧ w'.cell? ⟨b, 5, none⟩ = some (.int .i64 (ln s k0)) ∧ w'.cell? ⟨b, 6, none⟩ = some (.int .i64 (cl s k0))) (ds := [10]) #[ZZ,ZZ,ZZ,ZZ,ZZ,ZZ,ZZ,ZZ,ZZ,ZZ,ZZ] (by kernel_rfl) rfl rfl ⟨H5.out.cells.2.2.2.1, HT5.out.cells.1, HT5.out.cells.2.1, HT5.out.cells.2.2.1, HT5.out.cells.2.2.2.1, HT5.out.cells.2.2.2.2.1, HT5.out.cells.2.2.2.2.2.1, HT5.out.cells.2.2.2.2.2.2⟩ (fun hHeld => ?_)
 generalize hwd : World.drew _ = wd at *
 refine pure_ (i := 0) (N := some 16) (v := ?_) (a' := ?_) #[YY,ZZ,ZZ,ZZ,ZZ,ZZ,ZZ,ZZ,ZZ,ZZ,ZZ] rfl rfl (by kernel_rfl) (fun _ _ _ h => h) (Or.inl ⟨by rfl, ?_⟩) ?_ ?_
 rotate_left
 ·intro w'
  go_simp
  with_reducible rfl
 rotate_left
 ·simp only [Act.put, List.setIfInBounds_toArray, List.set_cons_zero, List.set_cons_succ, i64_w, i32_w]
  rfl
 refine pure_ (i := 1) (N := some 17) (v := ?_) (a' := ?_) #[YY,YY,ZZ,ZZ,ZZ,ZZ,ZZ,ZZ,ZZ,ZZ,ZZ] rfl rfl (by kernel_rfl) (fun _ _ _ h => h) (Or.inl ⟨by rfl, ?_⟩) ?_ ?_
 rotate_left
 ·intro w'
  go_simp
  with_reducible rfl
 rotate_left
 ·simp only [Act.put, List.setIfInBounds_toArray, List.set_cons_zero, List.set_cons_succ, i64_w, i32_w]
  rfl
 refine pure_ (i := 2) (N := some 18) (v := ?_) (a' := ?_) #[YY,YY,YY,ZZ,ZZ,ZZ,ZZ,ZZ,ZZ,ZZ,ZZ] rfl rfl (by kernel_rfl) (fun _ _ _ h => h) (Or.inl ⟨by rfl, ?_⟩) ?_ ?_
 rotate_left
 ·intro w'
  go_simp
  with_reducible rfl
 rotate_left
 ·simp only [Act.put, List.setIfInBounds_toArray, List.set_cons_zero, List.set_cons_succ, i64_w, i32_w]
  rfl
 refine pure_ (i := 3) (N := some 19) (v := ?_) (a' := ?_) #[YY,YY,YY,YY,ZZ,ZZ,ZZ,ZZ,ZZ,ZZ,ZZ] rfl rfl (by kernel_rfl) (fun _ _ _ h => h) (Or.inl ⟨by rfl, ?_⟩) ?_ ?_
 rotate_left
 ·intro w'
  go_simp
  with_reducible rfl
 rotate_left
 ·simp only [Act.put, List.setIfInBounds_toArray, List.set_cons_zero, List.set_cons_succ, i64_w, i32_w]
  rfl
 refine take_ (i := 4) (N := some 20) (v := ?_) (a' := ?_) #[YY,YY,YY,YY,YY,ZZ,ZZ,ZZ,ZZ,ZZ,ZZ] rfl rfl (by kernel_rfl) (fun _ _ _ h => h) (Or.inl ⟨by rfl, ?_⟩) hHeld ?_ ?_
 rotate_left
 ·rintro w' ⟨s0, s1, s2, s3, s4, s5, s6, s7⟩
  go_simp
  with_reducible rfl
 rotate_left
 ·simp only [Act.put, List.setIfInBounds_toArray, List.set_cons_zero, List.set_cons_succ, i64_w, i32_w]
  rfl
 refine take_ (i := 5) (N := some 21) (v := ?_) (a' := ?_) #[YY,YY,YY,YY,YY,YY,ZZ,ZZ,ZZ,ZZ,ZZ] rfl rfl (by kernel_rfl) (fun _ _ _ h => h) (Or.inl ⟨by rfl, ?_⟩) hHeld ?_ ?_
 rotate_left
 ·rintro w' ⟨s0, s1, s2, s3, s4, s5, s6, s7⟩
  go_simp
  with_reducible rfl
 rotate_left
 ·simp only [Act.put, List.setIfInBounds_toArray, List.set_cons_zero, List.set_cons_succ, i64_w, i32_w]
  rfl
 refine one_ (i := 6) (N := some 22) #[YY,YY,YY,YY,YY,YY,YY,ZZ,ZZ,ZZ,ZZ] rfl rfl (by kernel_rfl) (by decide) (fun K hK => ?_)
 refine value_ (w1 := ?_) (v := ?_) (by rfl) rfl ?_ ?_
 rotate_left 2
 ·go_simp
  constructor
  ·rfl
  ·rfl
 have H6 := Lib.hid (H5.out.below (below_alloc (Below.refl wd.heap.size wd) (.cells #[.int .i64 kind, .string text, .int .i64 n, .bool (last == (ln s k0 : Int)), .int .i64 k0, .int .i64 (ln s k0), .int .i64 (cl s k0)] 35)))
 have HT6 := Lib.hid (HT5.out.below (below_alloc (Below.refl wd.heap.size wd) (.cells #[.int .i64 kind, .string text, .int .i64 n, .bool (last == (ln s k0 : Int)), .int .i64 k0, .int .i64 (ln s k0), .int .i64 (cl s k0)] 35)))
 refine hK.out _ _ ⟨H6.out.cells.2.2.2.1, HT6.out.cells.1, HT6.out.cells.2.1, HT6.out.cells.2.2.1, HT6.out.cells.2.2.2.1, HT6.out.cells.2.2.2.2.1, HT6.out.cells.2.2.2.2.2.1, HT6.out.cells.2.2.2.2.2.2⟩ (fun hHeld => ?_)
 clear hK K
 refine norm_ (a' := ?_) ?_ ?_
 rotate_left
 ·show Act.put _ (some 22) _ = _
  simp only [Act.put, List.setIfInBounds_toArray, List.set_cons_zero, List.set_cons_succ, i64_w, i32_w]
  rfl
 refine one_ (i := 7) (N := some 23) #[YY,YY,YY,YY,YY,YY,YY,YY,ZZ,ZZ,ZZ] rfl rfl (by kernel_rfl) (by decide) (fun K hK => ?_)
 refine Kd.R_append_step kTok w0.heap.size (by rfl) (.tmp 20) (.tmp 22) 24 35 (.agg #[.int .i64 0, .string ⟨#[]⟩, .int .i64 0, .bool false, .int .i64 0, .int .i64 0, .int .i64 0]) 64 rfl Tryd.underlying24 infoTok rfl (by decide) (by omega) v l (TkOf kind text n (last == (ln s k0 : Int)) s k0) [.int .i64 kind, .string text, .int .i64 n, .bool (last == (ln s k0 : Int)), .int .i64 k0, .int .i64 (ln s k0), .int .i64 (cl s k0)] (fun _ => True) (fun _ => False) rfl rfl ?aP (fun _ hk => hk.elim) (fun _ _ => trivial) H5.out.row H5.out.bel H5.out.bel.size ?aL ?_
 (case aP => exact k35_mkM _ _ _ (TkOf kind text n (last == (ln s k0 : Int)) s k0))
 (case aL => omega)
 intro v7 W7 hR hb hg hat
 obtain ⟨A7, c7, hv7, _, _⟩ := Kd.R_reads hR
 rw [show (l ++ [TkOf kind text n (last == (ln s k0 : Int)) s k0]).length = l.length + 1 from by simp] at hv7
 subst hv7
 have HR7 := Lib.hid hR
 have HG7 := Lib.hid hg
 have HBL7 := Lib.hid hb
 have HB7 := Lib.hid ((hg.block g H5.out.lt H5.out.rowg).trans H5.out.blk)
 have HT7 : Hid (Tx7 b kind text n (last == (ln s k0 : Int)) s k0 W7) := Lib.hid ((hg.block b (blk_lt HT5.out) HG.out.2.2.1).trans HT5.out)
 clear hR hb hg hat H6 HT6
 refine hK.out _ _ ⟨((blk_cell HB7.out 3).trans rfl), HT7.out.cells.1, HT7.out.cells.2.1, HT7.out.cells.2.2.1, HT7.out.cells.2.2.2.1, HT7.out.cells.2.2.2.2.1, HT7.out.cells.2.2.2.2.2.1, HT7.out.cells.2.2.2.2.2.2⟩ (fun hHeld => ?_)
 clear hK K
 refine norm_ (a' := ?_) ?_ ?_
 rotate_left
 ·show Act.put _ (some 23) _ = _
  simp only [Act.put, List.setIfInBounds_toArray, List.set_cons_zero, List.set_cons_succ, i64_w, i32_w]
  rfl
 refine pure_ (i := 8) (N := some 24) (v := ?_) (a' := ?_) #[YY,YY,YY,YY,YY,YY,YY,YY,YY,ZZ,ZZ] rfl rfl (by kernel_rfl) (fun _ _ _ h => h) (Or.inl ⟨by rfl, ?_⟩) ?_ ?_
 rotate_left
 ·intro w'
  go_simp
  with_reducible rfl
 rotate_left
 ·simp only [Act.put, List.setIfInBounds_toArray, List.set_cons_zero, List.set_cons_succ, i64_w, i32_w]
  rfl
 refine pure_ (i := 9) (N := some 25) (v := ?_) (a' := ?_) #[YY,YY,YY,YY,YY,YY,YY,YY,YY,YY,ZZ] rfl rfl (by kernel_rfl) (fun _ _ _ h => h) (Or.inl ⟨by rfl, ?_⟩) ?_ ?_
 rotate_left
 ·intro w'
  go_simp
  with_reducible rfl
 rotate_left
 ·simp only [Act.put, List.setIfInBounds_toArray, List.set_cons_zero, List.set_cons_succ, i64_w, i32_w]
  rfl
 refine last_ (i := 10) (N := none) #[YY,YY,YY,YY,YY,YY,YY,YY,YY,YY,YY] rfl rfl (by kernel_rfl) (by decide) (fun K hK => ?_)
 have c3 : W7.cell? ⟨g, 3, none⟩ = some v := (blk_cell HB7.out 3).trans rfl
 have f3 := blk_frozen HB7.out 3
 refine skip_ (w1 := ?_) (by rfl) rfl ?_ ?_
 rotate_left
 ·go_simp
  rfl
 clear c3 f3
 have H8 := Lib.hid (H5.out.setRow HR7.out HG7.out HBL7.out)
 have HT8 : Hid (Tx7 b kind text n (last == (ln s k0 : Int)) s k0 (W7.setCell ⟨g, 3, none⟩ (.slice A7 (l.length + 1) c7))) := Lib.hid ((((At1.refl g W7).set 3 (.slice A7 (l.length + 1) c7)).block b (blk_lt HT7.out) (fun e => HG.out.1 (Option.some.inj e).symm)).trans HT7.out)
 clear HR7 HG7 HBL7 HB7 HT7 H5 HT5
 refine hK.out _ _ ?_
 clear hK K
 refine done_ (by kernel_rfl) ?_
 clear hwd
 obtain ⟨d0, d1, d2, d3, d4⟩ := H8.out.cells
 go_wp2_with (first | (go_at_call 16; go_must (refine (pos_any c s k _ H8.out.cu).mono ?_); rintro e w9 ⟨rfl, hb⟩; have H9 := Lib.hid (H8.out.below hb); clear hb d0 d1 d2 d3 d4; obtain ⟨d0, d1, d2, d3, d4⟩ := H9.out.cells; have f4 := blk_frozen H9.out.blk 4; unfold posV))
 go_end0
 exact ⟨rfl, _, H9.out.setLast _⟩
end Go.Proofs.YtidicpngmildkaaDoor.Tx
set_option linter.unusedVariables false
set_option linter.unusedSimpArgs false
namespace Go.Proofs.YtidicpngmildkaaDoor.Tx
open Go.RowKit Go.Proofs.YtidicpngmildkaaDoorW.PrintWords Go.Proofs.YtidicpngmildkaaDoorW.PrintLast Go.Proofs.YtidicpngmildkaaDoorW.PrintMore Go.Proofs.YtidicpngmildkaaDoor.R
open Go.Proofs.YtidicpngmildkaaDoor.Wd (mem lst is_any)
/-- The kind of a name, or of a word. -/
def wordKind (b : Bool) : Int := match b with | true => 2 | false => 1
/-- What a call that lays a token leaves. -/
def Laid (O : Option (Nat × Nat)) (w0 : World) (g c : Nat) (s : ByteArray) (k : Nat) (l : List Tok) (kind : Int) (text : ByteArray) (n : Int) (last : Int) (k0 : Nat) (w' : World) : Prop :=
 ∃ v1, Lx O w0 g c s k v1 (l ++ [TkOf kind text n (last == (ln s k0 : Int)) s k0]) (ln s k) w'
theorem add_at {O : Option (Nat × Nat)} {w0 w : World} {g c : Nat} {s : ByteArray} {k k0 : Nat} {v : Value} {l : List Tok} {last : Int} (h : Lx O w0 g c s k v l last w) (hl : l.length ≤ 1000000) (kind : Int) (text : ByteArray) (n : Int) :
  Calls Tryd.prog 18 #[.pointer (some ⟨g, 0, none⟩), .agg #[.int .i64 kind, .string text, .int .i64 n, .bool false, .int .i64 0, .int .i64 0, .int .i64 0], .agg #[.int .i64 k0, .int .i64 (ln s k0), .int .i64 (cl s k0)]] w fun e w' => e = .returned (.tuple #[]) ∧ Laid O w0 g c s k l kind text n last k0 w' :=
 add_any h hl kind text n
set_option maxHeartbeats 8000000 in
set_option maxRecDepth 1000000 in
theorem word_any {O : Option (Nat × Nat)} {w0 w : World} {g c : Nat} {s : ByteArray} {k k0 : Nat} {v : Value} {l : List Tok} {last : Int} (ht : Wd.Tab w0) (h : Lx O w0 g c s k v l last w) (hl : l.length ≤ 1000000) (t : ByteArray) :
  Calls Tryd.prog 40 #[.pointer (some ⟨g, 0, none⟩), .string t, posV s k0] w fun e w' => e = .returned (.tuple #[]) ∧ Laid O w0 g c s k l (wordKind (mem (lst 1) t)) t 0 last k0 w' := by
 have HT := Lib.hid ht
 have hal : Below w.heap.size w (w.alloc (.cells #[.int .i64 k0, .int .i64 (ln s k0), .int .i64 (cl s k0)] 27)) := below_alloc (Below.refl _ _) _
 have HP := Lib.hid (show Px w.heap.size k0 (ln s k0) (cl s k0) (w.alloc (.cells #[.int .i64 k0, .int .i64 (ln s k0), .int .i64 (cl s k0)] 27)) from alloc_new w _)
 have H := Lib.hid (h.below hal)
 obtain ⟨c0, c1, c2, c3, c4⟩ := H.out.cells
 clear ht h hal
 generalize hmb : mem (lst 1) t = mb
 have HMB := Lib.hid hmb
 clear hmb
 unfold posV
 go_enter Tryd.func40, Tryd.ntmps40
 go_wp2_with (first | (go_at_call 48; go_must (refine (is_any 1 t _ (Wd.tab_below HT.out H.out.bel)).mono ?_)))
 rintro e w2 ⟨rfl, hb⟩
 have H2 := Lib.hid (H.out.below hb)
 have HP2 := Lib.hid (HP.out.below hb)
 clear hb H HP c0 c1 c2 c3 c4
 obtain ⟨d0, d1, d2⟩ := HP2.out.cells
 rw [HMB.out]
 clear HMB
 cases mb with
 | true =>
  go_wp2_with (first | (go_at_call 18; go_must (refine (add_at H2.out hl 2 t 0).mono ?_); rintro e w3 ⟨rfl, hL⟩; have HL := Lib.hid hL; clear hL))
  go_end0
  exact ⟨rfl, HL.out⟩
 | false =>
  go_wp2_with (first | (go_at_call 18; go_must (refine (add_at H2.out hl 1 t 0).mono ?_); rintro e w3 ⟨rfl, hL⟩; have HL := Lib.hid hL; clear hL))
  go_end0
  exact ⟨rfl, HL.out⟩
set_option maxHeartbeats 8000000 in
set_option maxRecDepth 1000000 in
theorem char_any {O : Option (Nat × Nat)} {w0 w : World} {g c : Nat} {s : ByteArray} {k : Nat} {v : Value} {l : List Tok} {last : Int} (h : Lx O w0 g c s k v l last w) (hl : l.length ≤ 1000000) (n : Int) (j : Nat) (hs : s.size ≤ 1000000) (hj : k + j ≤ s.size) :
  Calls Tryd.prog 42 #[.pointer (some ⟨g, 0, none⟩), .int .i64 n, .int .i64 j] w fun e w' => e = .returned (.int .i64 0) ∧ Laid O w0 g c s (k + j) l 4 ⟨#[]⟩ n last k w' := by
 have H := Lib.hid h
 obtain ⟨c0, c1, c2, c3, c4⟩ := H.out.cells
 clear h
 have hsk : skN s k (j : Int) = j := by unfold skN; omega
 have HSK := Lib.hid hsk
 clear hsk
 go_enter Tryd.func42, Tryd.ntmps42
 go_wp2_with (first | (go_at_call 16; go_must (refine (pos_any c s k _ H.out.cu).mono ?_)))
 rintro e w2 ⟨rfl, hb⟩
 have H2 := Lib.hid (H.out.below hb)
 clear hb H c0 c1 c2 c3 c4
 unfold posV
 have hal : Below w2.heap.size w2 (w2.alloc (.cells #[.int .i64 k, .int .i64 (ln s k), .int .i64 (cl s k)] 27)) := below_alloc (Below.refl _ _) _
 have HP := Lib.hid (show Px w2.heap.size k (ln s k) (cl s k) (w2.alloc (.cells #[.int .i64 k, .int .i64 (ln s k), .int .i64 (cl s k)] 27)) from alloc_new w2 _)
 have H3 := Lib.hid (H2.out.below hal)
 have HNE := Lib.hid (show w2.heap.size ≠ c from fun e => by have := H2.out.cu.lt; omega)
 clear hal H2
 obtain ⟨c0, c1, c2, c3, c4⟩ := H3.out.cells
 go_wp2_with (first | (go_at_call 25; go_must (refine (skip_any c s k (j : Int) _ H3.out.cu hs (by omega)).mono ?_)))
 rintro e w4 ⟨rfl, hc, ha⟩
 rw [HSK.out] at hc
 rw [HSK.out]
 have H4 := Lib.hid (H3.out.move hc ha)
 have HP4 := Lib.hid (HP.out.at1 ha HNE.out)
 clear hc ha H3 HP c0 c1 c2 c3 c4
 obtain ⟨d0, d1, d2⟩ := HP4.out.cells
 go_wp2_with (first | (go_at_call 18; go_must (refine (add_at H4.out hl 4 ⟨#[]⟩ n (k0 := k)).mono ?_); rintro e w5 ⟨rfl, hL⟩; have HL := Lib.hid hL; clear hL))
 go_ret
 exact ⟨rfl, HL.out⟩
/-- What a call that may find an error leaves. -/
def Got (O : Option (Nat × Nat)) (s : ByteArray) (w0 : World) (r : Int) (L : World → Prop) (e : Ending) (w' : World) : Prop := e = .returned (.int .i64 r) ∧ (r = 0 → L w') ∧ Bel O s w0 w'
theorem Laid.fin {O : Option (Nat × Nat)} {w0 : World} {g c : Nat} {s : ByteArray} {k : Nat} {l : List Tok} {kind : Int} {text : ByteArray} {n : Int} {last : Int} {k0 : Nat} {w' : World} (h : Laid O w0 g c s k l kind text n last k0 w') : Bel O s w0 w' := by
 obtain ⟨v, h⟩ := h
 exact h.fin
def numAt (s : ByteArray) (k : Nat) : Int × Int := num (s.extract k (k + whN s digSet k))
set_option maxHeartbeats 8000000 in
set_option maxRecDepth 1000000 in
theorem int_any {O : Option (Nat × Nat)} {w0 w : World} {g c : Nat} {s : ByteArray} {k : Nat} {v : Value} {l : List Tok} {last : Int} (h : Lx O w0 g c s k v l last w) (hl : l.length ≤ 1000000) (hs : s.size ≤ 1000000) (hk : k ≤ s.size) :
  Calls Tryd.prog 30 #[.pointer (some ⟨g, 0, none⟩)] w (Got O s w0 (numAt s k).2 (Laid O w0 g c s (k + whN s digSet k) l 3 ⟨#[]⟩ (numAt s k).1 last k)) := by
 have H := Lib.hid h
 obtain ⟨c0, c1, c2, c3, c4⟩ := H.out.cells
 clear h
 have hle := whN_le s digSet k hk
 obtain ⟨n, hn⟩ : ∃ n, n = whN s digSet k := ⟨_, rfl⟩
 obtain ⟨X, hX⟩ : ∃ X, X = s.extract k (k + n) := ⟨_, rfl⟩
 have hXs : X.size ≤ 1000000 := by rw [hX, ByteArray.size_extract]; omega
 have hnum : numAt s k = num X := by unfold numAt; rw [hX, hn]
 rw [hnum, ← hn]
 obtain ⟨r1, r2, hR⟩ : ∃ r1 r2, num X = (r1, r2) := ⟨_, _, rfl⟩
 rw [hR]
 have HR := Lib.hid hR
 have HN := Lib.hid hn
 have HX := Lib.hid hX
 clear hn hX hnum hle hR
 go_enter Tryd.func30, Tryd.ntmps30
 go_wp2_with (first | (go_at_call 16; go_must (refine (pos_any c s k _ H.out.cu).mono ?_)))
 rintro e w2 ⟨rfl, hb⟩
 have H2 := Lib.hid (H.out.below hb)
 clear hb H c0 c1 c2 c3 c4
 unfold posV
 have hal : Below w2.heap.size w2 (w2.alloc (.cells #[.int .i64 k, .int .i64 (ln s k), .int .i64 (cl s k)] 27)) := below_alloc (Below.refl _ _) _
 have HP := Lib.hid (show Px w2.heap.size k (ln s k) (cl s k) (w2.alloc (.cells #[.int .i64 k, .int .i64 (ln s k), .int .i64 (cl s k)] 27)) from alloc_new w2 _)
 have H3 := Lib.hid (H2.out.below hal)
 have HNE := Lib.hid (show w2.heap.size ≠ c from fun e => by have := H2.out.cu.lt; omega)
 clear hal H2
 obtain ⟨c0, c1, c2, c3, c4⟩ := H3.out.cells
 go_wp2_with (first | (go_at_call 15; go_must (refine (while_any c s k digSet _ H3.out.cu hs hk).mono ?_)))
 rintro e w4 ⟨rfl, hc, ha⟩
 rw [← HN.out] at hc
 rw [← HN.out, ← HX.out]
 have H4 := Lib.hid (H3.out.move hc ha)
 have HP4 := Lib.hid (HP.out.at1 ha HNE.out)
 clear hc ha H3 HP c0 c1 c2 c3 c4
 go_wp2_with (first | (go_at_call 41; go_must (refine (number_any X _ hXs).mono ?_)))
 rintro e w5 ⟨rfl, hb⟩
 have H5 := Lib.hid (H4.out.below hb)
 have HP5 := Lib.hid (HP4.out.below hb)
 clear hb H4 HP4
 obtain ⟨d0, d1, d2⟩ := HP5.out.cells
 rw [HR.out]
 by_cases h0 : r2 = 0
 ·subst h0
  go_wp2_with (first | (go_at_call 18; go_must (refine (add_at H5.out hl 3 ⟨#[]⟩ r1 (k0 := k)).mono ?_); rintro e w6 ⟨rfl, hL⟩; have HL := Lib.hid hL; clear hL))
  go_ret
  exact ⟨rfl, fun _ => HL.out, HL.out.fin⟩
 ·have h1 : (r2 == 0) = false := by simpa using h0
  go_wp2
  go_ret
  exact ⟨rfl, fun e => absurd e h0, H5.out.fin⟩
end Go.Proofs.YtidicpngmildkaaDoor.Tx
set_option linter.unusedVariables false
set_option linter.unusedSimpArgs false
namespace Go.Proofs.YtidicpngmildkaaDoor.Tx
open Go.RowKit Go.Proofs.YtidicpngmildkaaDoorW.PrintWords Go.Proofs.YtidicpngmildkaaDoorW.PrintLast Go.Proofs.YtidicpngmildkaaDoorW.PrintMore Go.Proofs.YtidicpngmildkaaDoor.R
open Go.Proofs.YtidicpngmildkaaDoor.Wd (mem lst is_any)
def smallS : ByteArray := ⟨#[97, 98, 99, 100, 101, 102, 103, 104, 105, 106, 107, 108, 109, 110, 111, 112, 113, 114, 115, 116, 117, 118, 119, 120, 121, 122]⟩
def restS : ByteArray := ⟨#[97, 98, 99, 100, 101, 102, 103, 104, 105, 106, 107, 108, 109, 110, 111, 112, 113, 114, 115, 116, 117, 118, 119, 120, 121, 122, 48, 49, 50, 51, 52, 53, 54, 55, 56, 57, 95]⟩
theorem bt_past (s : ByteArray) (k : Nat) (h : s.size ≤ k) : bt s (k : Int) = 0 := by
 unfold bt
 rw [Int.toNat_natCast, dif_neg (by omega)]
theorem pk_nat (s : ByteArray) (k i : Nat) : Pk s k (i : Int) = .tuple #[.int .u8 (bt s ((k + i : Nat) : Int)), .bool (decide (k + i < s.size))] := by
 unfold Pk
 by_cases h : k + i < s.size
 ·rw [if_pos ⟨by omega, by omega⟩, decide_eq_true h, show (k : Int) + (i : Int) = ((k + i : Nat) : Int) by omega]
 ·rw [if_neg (by omega), decide_eq_false h, bt_past s (k + i) (by omega)]
def fol (s : ByteArray) (k : Nat) : Bool := decide (bt s (k : Int) = 36) && inS smallS (bt s ((k + 1 : Nat) : Int))
theorem small_ne (c : Int) (h : inS smallS c = true) : c ≠ 0 := by
 rintro rfl
 revert h
 decide
set_option maxHeartbeats 8000000 in
set_option maxRecDepth 1000000 in
theorem follows_any {O : Option (Nat × Nat)} {w0 w : World} {g c : Nat} {s : ByteArray} {k : Nat} {v : Value} {l : List Tok} {last : Int} (h : Lx O w0 g c s k v l last w) (hs : s.size ≤ 1000000) (hk : k ≤ s.size) :
  Calls Tryd.prog 39 #[.pointer (some ⟨g, 0, none⟩)] w fun e w' => e = .returned (.bool (fol s k)) ∧ ∃ n, w' = w.drewN n := by
 have H := Lib.hid h
 obtain ⟨c0, c1, c2, c3, c4⟩ := H.out.cells
 clear h
 obtain ⟨b0, b1⟩ := bt_u8 s ((k + 1 : Nat) : Int)
 have hp0 := pk_nat s k 0
 have hp1 := pk_nat s k 1
 rw [Nat.add_zero] at hp0
 have HP0 := Lib.hid hp0
 have HP1 := Lib.hid hp1
 clear hp0 hp1
 unfold fol
 generalize hA : bt s (k : Int) = a at *
 generalize hB : bt s ((k + 1 : Nat) : Int) = b at *
 generalize decide (k < s.size) = o1 at HP0
 generalize decide (k + 1 < s.size) = o2 at HP1
 by_cases ha : a = 36
 ·subst ha
  cases hin : inS smallS b with
  | true =>
   have hix := index_in smallS b b0 b1 hin
   have hne := small_ne b hin
   have hne2 : (b == 0) = false := by simpa using hne
   have hne3 : (b != 0) = true := by simpa using hne
   have hix2 : decide (0 ≤ Lib.indexByte smallS.data.toList b.toNat.toUInt8) = true := decide_eq_true hix
   clear hne hin
   go_enter Tryd.func39, Tryd.ntmps39
   go_wp2_with (first | (go_at_call 17; go_must (refine (peek_any c s k 0 _ H.out.cu hs hk).mono ?_)))
   rintro e w1 ⟨rfl, n1, rfl⟩
   rw [show Pk s k 0 = _ from HP0.out]
   go_wp2_with (first | (go_at_call 17; go_must (refine (peek_any c s k 1 _ (H.out.cu.drewN _) hs hk).mono ?_)))
   rintro e w2 ⟨rfl, n2, rfl⟩
   rw [show Pk s k 1 = _ from HP1.out]
   go_wp2_with (first | (go_at_call 24; go_must (refine (Tryd.strings_IndexByte smallS b _).mono ?_); rintro e w3 ⟨rfl, rfl⟩))
   go_ret
   exact ⟨rfl, _, rfl⟩
  | false =>
   have hix := index_out smallS b b0 b1 hin
   clear hin
   go_enter Tryd.func39, Tryd.ntmps39
   go_wp2_with (first | (go_at_call 17; go_must (refine (peek_any c s k 0 _ H.out.cu hs hk).mono ?_)))
   rintro e w1 ⟨rfl, n1, rfl⟩
   rw [show Pk s k 0 = _ from HP0.out]
   go_wp2_with (first | (go_at_call 17; go_must (refine (peek_any c s k 1 _ (H.out.cu.drewN _) hs hk).mono ?_)))
   rintro e w2 ⟨rfl, n2, rfl⟩
   rw [show Pk s k 1 = _ from HP1.out]
   go_wp2_with (first | (go_at_call 24; go_must (refine (Tryd.strings_IndexByte smallS b _).mono ?_); rintro e w3 ⟨rfl, rfl⟩))
   go_ret
   exact ⟨rfl, _, rfl⟩
 ·have ha2 : (a == 36) = false := by simpa using ha
  rw [decide_eq_false ha, Bool.false_and]
  go_enter Tryd.func39, Tryd.ntmps39
  go_wp2_with (first | (go_at_call 17; go_must (refine (peek_any c s k 0 _ H.out.cu hs hk).mono ?_)))
  rintro e w1 ⟨rfl, n1, rfl⟩
  rw [show Pk s k 0 = _ from HP0.out]
  go_wp2_with (first | (go_at_call 17; go_must (refine (peek_any c s k 1 _ (H.out.cu.drewN _) hs hk).mono ?_)))
  rintro e w2 ⟨rfl, n2, rfl⟩
  rw [show Pk s k 1 = _ from HP1.out]
  go_wp2
  go_ret
  exact ⟨rfl, _, rfl⟩
/-- Where a name ends, and whether a part of it is too long. -/
def nmG (s : ByteArray) : Nat → Nat → Bool → Nat × Bool
 | 0, k, b => (k, b)
 | f + 1, k, b => if fol s k = true then nmG s f (k + 1 + whN s restS (k + 1)) (b || decide (32 < whN s restS (k + 1))) else (k, b)
def nmAt (s : ByteArray) (k : Nat) : Nat × Bool := nmG s s.size (k + whN s restS k) (decide (32 < whN s restS k))
theorem fol_lt (s : ByteArray) (k : Nat) (h : fol s k = true) : k + 1 < s.size ∧ bt s (k : Int) = 36 := by
 unfold fol at h
 rw [Bool.and_eq_true, decide_eq_true_eq] at h
 refine ⟨?_, h.1⟩
 rcases Nat.lt_or_ge (k + 1) s.size with h' | h'
 ·exact h'
 ·exact absurd (bt_past s (k + 1) h') (small_ne _ h.2)
theorem nmG_stop (s : ByteArray) (f k : Nat) (b : Bool) (h : fol s k = false) : nmG s f k b = (k, b) := by
 cases f with
 | zero => rfl
 | succ f => rw [nmG, if_neg (by rw [h]; simp)]
theorem ext_more (s : ByteArray) (a k n : Nat) (hak : a ≤ k) (hk : k + n ≤ s.size) : s.extract a k ++ s.extract k (k + n) = s.extract a (k + n) := by
 apply ByteArray.ext
 apply Array.toList_inj.1
 simp only [ByteArray.data_append, ByteArray.data_extract, Array.toList_append, Array.toList_extract, List.extract_eq_take_drop]
 rw [show k + n - k = n by omega, show k + n - a = (k - a) + n by omega, List.take_add, List.drop_drop, show a + (k - a) = k by omega]
theorem ext_at (s : ByteArray) (k : Nat) (hk : k < s.size) (c : UInt8) (hc : bt s (k : Int) = (c.toNat : Int)) : s.extract k (k + 1) = ⟨#[c]⟩ := by
 apply ByteArray.ext
 apply Array.toList_inj.1
 have hl : k < s.data.toList.length := by rw [data_length]; exact hk
 have hb : s.data.toList[k] = c := by
  apply UInt8.toNat_inj.1
  have := bt_get s k hl
  omega
 simp only [ByteArray.data_extract, Array.toList_extract, List.extract_eq_take_drop]
 rw [show k + 1 - k = 1 by omega, List.drop_eq_getElem_cons hl, List.take_succ_cons, List.take_zero, hb]
theorem word_at {O : Option (Nat × Nat)} {w0 w : World} {g c : Nat} {s : ByteArray} {k k0 : Nat} {v : Value} {l : List Tok} {last : Int} (ht : Wd.Tab w0) (h : Lx O w0 g c s k v l last w) (hl : l.length ≤ 1000000) (t : ByteArray) :
  Calls Tryd.prog 40 #[.pointer (some ⟨g, 0, none⟩), .string t, .agg #[.int .i64 k0, .int .i64 (ln s k0), .int .i64 (cl s k0)]] w fun e w' => e = .returned (.tuple #[]) ∧ Laid O w0 g c s k l (wordKind (mem (lst 1) t)) t 0 last k0 w' :=
 word_any ht h hl t
def longE (b : Bool) : Int := match b with | true => 3 | false => 0
def strLen : Value → Nat
 | .string b => b.size
 | _ => 0
def NameRel (O : Option (Nat × Nat)) (w0 : World) (g c : Nat) (s : ByteArray) (k0 : Nat) (v : Value) (l : List Tok) (last : Int) (b : Nat) (fin : Nat × Bool) (all long : Value) (wr : World) : Prop :=
 ∃ (k f : Nat) (X : ByteArray) (lb : Bool), all = .string X ∧ X = s.extract k0 k ∧ long = .bool lb ∧ k0 ≤ k ∧ k ≤ s.size ∧ s.size - k ≤ f ∧ nmG s f k lb = fin ∧ Lx O w0 g c s k v l last wr ∧ Px b k0 (ln s k0) (cl s k0) wr
set_option maxHeartbeats 8000000 in
set_option maxRecDepth 1000000 in
theorem name_any {O : Option (Nat × Nat)} {w0 w : World} {g c : Nat} {s : ByteArray} {k0 : Nat} {v : Value} {l : List Tok} {last : Int} (ht : Wd.Tab w0) (h : Lx O w0 g c s k0 v l last w) (hl : l.length ≤ 1000000) (hs : s.size ≤ 1000000) (hk : k0 ≤ s.size) :
  Calls Tryd.prog 29 #[.pointer (some ⟨g, 0, none⟩)] w (Got O s w0 (longE (nmAt s k0).2) (Laid O w0 g c s (nmAt s k0).1 l (wordKind (mem (lst 1) (s.extract k0 (nmAt s k0).1))) (s.extract k0 (nmAt s k0).1) 0 last k0)) := by
 have HT := Lib.hid ht
 have H := Lib.hid h
 obtain ⟨c0, c1, c2, c3, c4⟩ := H.out.cells
 clear h ht
 obtain ⟨fk, fb, hfin⟩ : ∃ fk fb, nmAt s k0 = (fk, fb) := ⟨_, _, rfl⟩
 rw [hfin]
 have HFIN := Lib.hid hfin
 clear hfin
 have hle := whN_le s restS k0 hk
 obtain ⟨n, hn⟩ : ∃ n, n = whN s restS k0 := ⟨_, rfl⟩
 rw [← hn] at hle
 obtain ⟨X, hX⟩ : ∃ X, X = s.extract k0 (k0 + n) := ⟨_, rfl⟩
 have hXs : X.size = n := by rw [hX, ByteArray.size_extract]; omega
 have HN := Lib.hid hn
 have HX := Lib.hid hX
 clear hn hX
 go_enter Tryd.func29, Tryd.ntmps29
 go_wp2_with (first | (go_at_call 16; go_must (refine (pos_any c s k0 _ H.out.cu).mono ?_)))
 rintro e w2 ⟨rfl, hb⟩
 have H2 := Lib.hid (H.out.below hb)
 clear hb H c0 c1 c2 c3 c4
 unfold posV
 have hal : Below w2.heap.size w2 (w2.alloc (.cells #[.int .i64 k0, .int .i64 (ln s k0), .int .i64 (cl s k0)] 27)) := below_alloc (Below.refl _ _) _
 have HP := Lib.hid (show Px w2.heap.size k0 (ln s k0) (cl s k0) (w2.alloc (.cells #[.int .i64 k0, .int .i64 (ln s k0), .int .i64 (cl s k0)] 27)) from alloc_new w2 _)
 have H3 := Lib.hid (H2.out.below hal)
 have HNE := Lib.hid (show w2.heap.size ≠ c from fun e => by have := H2.out.cu.lt; omega)
 clear hal H2
 obtain ⟨c0, c1, c2, c3, c4⟩ := H3.out.cells
 go_wp2_with (first | (go_at_call 15; go_must (refine (while_any c s k0 restS _ H3.out.cu hs hk).mono ?_)))
 rintro e w4 ⟨rfl, hc, ha⟩
 rw [← HN.out] at hc
 rw [← HN.out, ← HX.out]
 have H4 := Lib.hid (H3.out.move hc ha)
 have HP4 := Lib.hid (HP.out.at1 ha HNE.out)
 clear hc ha H3 HP c0 c1 c2 c3 c4
 generalize w2.heap.size = b at HP4 HNE ⊢
 go_wp2
 go_loopw [5, 6] (fun all long wr => NameRel O w0 g c s k0 v l last b (fk, fb) all long wr) (fun all _ _ => s.size + 1 - strLen all)
 case atStart => exact ⟨k0 + n, s.size, X, decide (32 < n), rfl, HX.out, by rw [← hXs]; simp; omega, by omega, hle, by omega, by rw [← HFIN.out]; unfold nmAt; rw [HN.out], H4.out, HP4.out⟩
 case round =>
  obtain ⟨k, f, Z, lb, rfl, hZ, rfl, hk0, hks, hf, hnm, hL, hP⟩ := hrel
  have HZ := Lib.hid hZ
  have hZs : Z.size = k - k0 := by rw [hZ, ByteArray.size_extract]; omega
  have HK := Lib.hid hL
  have HPK := Lib.hid hP
  have HNM := Lib.hid hnm
  clear hZ hL hP hnm H4 HP4
  obtain ⟨c0, c1, c2, c3, c4⟩ := HK.out.cells
  cases hfol : fol s k with
  | true =>
   obtain ⟨hk1, hb36⟩ := fol_lt s k hfol
   obtain ⟨f, rfl⟩ : ∃ f', f = f' + 1 := ⟨f - 1, by omega⟩
   obtain ⟨q, hq⟩ : ∃ q, q = k + 1 := ⟨_, rfl⟩
   obtain ⟨m, hm⟩ : ∃ m, m = whN s restS q := ⟨_, rfl⟩
   have hqm : q + m ≤ s.size := by have := whN_le s restS q (by omega); omega
   obtain ⟨z, hz⟩ : ∃ z, z = q + m := ⟨_, rfl⟩
   obtain ⟨Y, hY⟩ : ∃ Y, Y = s.extract q z := ⟨_, rfl⟩
   have hYs : Y.size = m := by rw [hY, ByteArray.size_extract]; omega
   have hsk : skN s k (1 : Int) = 1 := by unfold skN; omega
   have hov1 : (9223372036854775807 < 1 + m) = False := eq_false (by omega)
   have hov2 : (9223372036854775807 < k - k0 + (1 + m)) = False := eq_false (by omega)
   have hcat : Z ++ (⟨#[36]⟩ ++ Y) = s.extract k0 z := by
    rw [← ext_at s k (by omega) 36 hb36, HZ.out, hY, hz, hq]
    rw [ext_more s k (k + 1) m (by omega) (by omega), show k + 1 + m = k + (1 + m) by omega, ext_more s k0 k (1 + m) hk0 (by omega)]
   have hcs : (Z ++ (⟨#[36]⟩ ++ Y)).size = z - k0 := by rw [hcat, ByteArray.size_extract]; omega
   have hstep : nmG s f z (lb || decide (32 < m)) = (fk, fb) := by
    rw [← HNM.out, nmG, if_pos hfol, ← hq, ← hm, ← hz]
   have HCAT := Lib.hid hcat
   have HCS := Lib.hid hcs
   have HST := Lib.hid hstep
   have HQ := Lib.hid hq
   have HM := Lib.hid hm
   have HZ2 := Lib.hid hz
   have HY := Lib.hid hY
   have HSK := Lib.hid hsk
   have HFO := Lib.hid hfol
   have HNUM := Lib.hid (show k0 ≤ z ∧ z ≤ s.size ∧ s.size - z ≤ f ∧ k - k0 < z - k0 ∧ z - k0 ≤ s.size from by omega)
   clear hcat hcs hstep hq hm hz hY hsk hfol hf hk1 hb36 hqm
   cases lb with
   | true =>
    go_wp2_with (first
     | (go_at_call 39; go_must (refine (follows_any HK.out hs hks).mono ?_); rintro e w5 ⟨rfl, n5, rfl⟩; rw [HFO.out]; have H5 := Lib.hid (HK.out.drewN n5); have HP5 := Lib.hid (HPK.out.below (pw_below_drewN (Below.refl _ _) n5)))
     | (go_at_call 25; go_must (refine (skip_any c s k 1 _ H5.out.cu hs hks).mono ?_); rintro e w6 ⟨rfl, hc, ha⟩; rw [HSK.out, ← HQ.out] at hc; have H6 := Lib.hid (H5.out.move hc ha); have HP6 := Lib.hid (HP5.out.at1 ha HNE.out); clear hc ha c0 c1 c2 c3 c4; obtain ⟨c0, c1, c2, c3, c4⟩ := H6.out.cells)
     | (go_at_call 15; go_must (refine (while_any c s q restS _ H6.out.cu hs (by have := HZ2.out; have := HNUM.out; omega)).mono ?_); rintro e w7 ⟨rfl, hc, ha⟩; rw [← HM.out, ← HZ2.out] at hc; rw [← HM.out, ← HZ2.out, ← HY.out]; have H7 := Lib.hid (H6.out.move hc ha); have HP7 := Lib.hid (HP6.out.at1 ha HNE.out); clear hc ha))
    go_round
    ·have hx := HNUM.out
     exact ⟨z, f, Z ++ (⟨#[36]⟩ ++ Y), true, rfl, HCAT.out, rfl, hx.1, hx.2.1, hx.2.2.1, HST.out, H7.out, HP7.out⟩
    ·have hx := HNUM.out
     simp only [strLen]
     rw [HCS.out, hZs]
     omega
   | false =>
    go_wp2_with (first
     | (go_at_call 39; go_must (refine (follows_any HK.out hs hks).mono ?_); rintro e w5 ⟨rfl, n5, rfl⟩; rw [HFO.out]; have H5 := Lib.hid (HK.out.drewN n5); have HP5 := Lib.hid (HPK.out.below (pw_below_drewN (Below.refl _ _) n5)))
     | (go_at_call 25; go_must (refine (skip_any c s k 1 _ H5.out.cu hs hks).mono ?_); rintro e w6 ⟨rfl, hc, ha⟩; rw [HSK.out, ← HQ.out] at hc; have H6 := Lib.hid (H5.out.move hc ha); have HP6 := Lib.hid (HP5.out.at1 ha HNE.out); clear hc ha c0 c1 c2 c3 c4; obtain ⟨c0, c1, c2, c3, c4⟩ := H6.out.cells)
     | (go_at_call 15; go_must (refine (while_any c s q restS _ H6.out.cu hs (by have := HZ2.out; have := HNUM.out; omega)).mono ?_); rintro e w7 ⟨rfl, hc, ha⟩; rw [← HM.out, ← HZ2.out] at hc; rw [← HM.out, ← HZ2.out, ← HY.out]; have H7 := Lib.hid (H6.out.move hc ha); have HP7 := Lib.hid (HP6.out.at1 ha HNE.out); clear hc ha))
    go_round
    ·have hx := HNUM.out
     exact ⟨z, f, Z ++ (⟨#[36]⟩ ++ Y), (decide (32 < m)), rfl, HCAT.out, (by first | rfl | (congr 1; rw [decide_eq_decide]; omega) | simp), hx.1, hx.2.1, hx.2.2.1, HST.out, H7.out, HP7.out⟩
    ·have hx := HNUM.out
     simp only [strLen]
     rw [HCS.out, hZs]
     omega
  | false =>
   have hst := nmG_stop s f k lb hfol
   rw [HNM.out] at hst
   obtain ⟨rfl, rfl⟩ := Prod.mk.inj hst
   have HFO := Lib.hid hfol
   clear hfol hst
   cases fb with
   | true =>
    go_wp2_with (first
     | (go_at_call 39; go_must (refine (follows_any HK.out hs hks).mono ?_); rintro e w5 ⟨rfl, n5, rfl⟩; rw [HFO.out]; have H5 := Lib.hid (HK.out.drewN n5)))
    go_ret
    exact ⟨rfl, fun e => absurd e (by decide), H5.out.fin⟩
   | false =>
    go_wp2_with (first
     | (go_at_call 39; go_must (refine (follows_any HK.out hs hks).mono ?_); rintro e w5 ⟨rfl, n5, rfl⟩; rw [HFO.out]))
    have H0 := Lib.hid (HK.out.drewN n5).drew
    have HP0 := Lib.hid (HPK.out.below (below_drew (pw_below_drewN (Below.refl wr.heap.size wr) n5)))
    refine start_ (n := 6) (S := fun w' => w'.cell? ⟨b, 0, none⟩ = some (.int .i64 k0) ∧ w'.cell? ⟨b, 1, none⟩ = some (.int .i64 (ln s k0)) ∧ w'.cell? ⟨b, 2, none⟩ = some (.int .i64 (cl s k0))) (ds := [5]) #[ZZ,ZZ,ZZ,ZZ,ZZ,ZZ] (by kernel_rfl) rfl rfl ⟨HP0.out.cells.1, HP0.out.cells.2.1, HP0.out.cells.2.2⟩ (fun hHeld => ?_)
    generalize hwd : World.drew _ = wd at *
    refine pure_ (i := 0) (N := some 48) (v := ?_) (a' := ?_) #[YY,ZZ,ZZ,ZZ,ZZ,ZZ] rfl rfl (by kernel_rfl) (fun _ _ _ h => h) (Or.inl ⟨by rfl, ?_⟩) ?_ ?_
    rotate_left
    ·intro w'
     go_simp
     with_reducible rfl
    rotate_left
    ·simp only [Act.put, List.setIfInBounds_toArray, List.set_cons_zero, List.set_cons_succ, i64_w, i32_w]
     rfl
    refine pure_ (i := 1) (N := some 49) (v := ?_) (a' := ?_) #[YY,YY,ZZ,ZZ,ZZ,ZZ] rfl rfl (by kernel_rfl) (fun _ _ _ h => h) (Or.inl ⟨by rfl, ?_⟩) ?_ ?_
    rotate_left
    ·intro w'
     go_simp
     with_reducible rfl
    rotate_left
    ·simp only [Act.put, List.setIfInBounds_toArray, List.set_cons_zero, List.set_cons_succ, i64_w, i32_w]
     rfl
    refine pure_ (i := 2) (N := some 50) (v := ?_) (a' := ?_) #[YY,YY,YY,ZZ,ZZ,ZZ] rfl rfl (by kernel_rfl) (fun _ _ _ h => h) (Or.inl ⟨by rfl, ?_⟩) ?_ ?_
    rotate_left
    ·intro w'
     go_simp
     with_reducible rfl
    rotate_left
    ·simp only [Act.put, List.setIfInBounds_toArray, List.set_cons_zero, List.set_cons_succ, i64_w, i32_w]
     rfl
    refine pure_ (i := 3) (N := some 51) (v := ?_) (a' := ?_) #[YY,YY,YY,YY,ZZ,ZZ] rfl rfl (by kernel_rfl) (fun _ _ _ h => h) (Or.inl ⟨by rfl, ?_⟩) ?_ ?_
    rotate_left
    ·intro w'
     go_simp
     with_reducible rfl
    rotate_left
    ·simp only [Act.put, List.setIfInBounds_toArray, List.set_cons_zero, List.set_cons_succ, i64_w, i32_w]
     rfl
    refine take_ (i := 4) (N := some 52) (v := ?_) (a' := ?_) #[YY,YY,YY,YY,YY,ZZ] rfl rfl (by kernel_rfl) (fun _ _ _ h => h) (Or.inl ⟨by rfl, ?_⟩) hHeld ?_ ?_
    rotate_left
    ·rintro w' ⟨s0, s1, s2⟩
     go_simp
     with_reducible rfl
    rotate_left
    ·simp only [Act.put, List.setIfInBounds_toArray, List.set_cons_zero, List.set_cons_succ, i64_w, i32_w]
     rfl
    refine last_ (i := 5) (N := some 53) #[YY,YY,YY,YY,YY,YY] rfl rfl (by kernel_rfl) (by decide) (fun K hK => ?_)
    refine goes_ Tryd.func40 (by kernel_rfl) rfl #[.pointer (some ⟨g, 0, none⟩), .string Z, .agg #[.int .i64 k0, .int .i64 (ln s k0), .int .i64 (cl s k0)]] (by rfl) rfl rfl (by simp only [List.map_toArray, List.map_cons, List.map_nil]; rfl) ?_
    with_reducible refine (word_at HT.out H0.out hl Z (k0 := k0)).mono ?_
    rintro e w9 ⟨rfl, hL⟩
    refine ⟨_, rfl, ?_⟩
    rw [HZ.out] at hL
    have HL := Lib.hid hL
    clear hL
    refine hK.out _ _ ?_
    clear hK K
    refine norm_ (a' := ?_) ?_ ?_
    rotate_left
    ·show Act.put _ (some 53) _ = _
     simp only [Act.put, List.setIfInBounds_toArray, List.set_cons_zero, List.set_cons_succ, i64_w, i32_w]
     rfl
    refine done_ (by kernel_rfl) ?_
    go_wp2
    go_ret
    exact ⟨rfl, fun _ => HL.out, HL.out.fin⟩
end Go.Proofs.YtidicpngmildkaaDoor.Tx
set_option linter.unusedVariables false
set_option linter.unusedSimpArgs false
namespace Go.Proofs.YtidicpngmildkaaDoor.Tx
open Go.RowKit Go.Proofs.YtidicpngmildkaaDoorW.PrintWords Go.Proofs.YtidicpngmildkaaDoorW.PrintLast Go.Proofs.YtidicpngmildkaaDoorW.PrintMore Go.Proofs.YtidicpngmildkaaDoor.R
open Go.Proofs.YtidicpngmildkaaDoor.Wd (mem lst is_any)
def pre (u t : ByteArray) : Bool := decide (t.size ≤ u.size) && ((u.extract 0 t.size).toList == t.toList)
theorem prefix_any (u t : ByteArray) (w : World) : Calls Tryd.prog 37 #[.string u, .string t] w fun e w' => e = .returned (.bool (pre u t)) ∧ ∃ n, w' = w.drewN n := by
 refine (strings_HasPrefix.calls u t (pre u t) w ?_).mono fun e w' ⟨h1, h2⟩ => ⟨h1, h2.out⟩
 unfold strings_HasPrefix.f stringslite_HasPrefix.f pre
 by_cases h : t.size ≤ u.size
 ·rw [if_pos (by omega), if_pos (by omega), if_pos (by omega), decide_eq_true h, Bool.true_and]; rfl
 ·rw [if_neg (by omega), decide_eq_false h, Bool.false_and]; rfl
theorem at_s {W : World} {A : Option Addr} {l : List ByteArray} (h : Kd.C Kd.string W A l.length l) (k : Nat) (hk : k < l.length) : ∃ ad, A = some ad ∧ W.cell? (ad.add k) = some (.string l[k]) := by
 obtain ⟨ad, hA, hc⟩ := Kd.at_string h (k : Int) (by omega) (by omega)
 refine ⟨ad, hA, ?_⟩
 rw [show ((k : Int)).toNat = k from by omega] at hc
 rw [hc]
 rw [show rdOf ByteArray.empty l (k : Int) = l.getD (k : Int).toNat ByteArray.empty from rfl]
 simp [hk]
def sgE : Option ByteArray → Int
 | some _ => 0
 | none => 5
def SgRel (O : Option (Nat × Nat)) (w0 w : World) (g c : Nat) (s : ByteArray) (k : Nat) (v : Value) (l : List Tok) (last : Int) (signs : List ByteArray) (u : ByteArray) (o : Option ByteArray) (i : Value) (wr : World) : Prop :=
 ∃ j : Nat, i = .int .i64 j ∧ j ≤ signs.length ∧ (signs.drop j).find? (fun t => pre u t) = o ∧ Lx O w0 g c s k v l last wr ∧ Below w.heap.size w wr
set_option maxHeartbeats 8000000 in
set_option maxRecDepth 1000000 in
theorem sign_any {O : Option (Nat × Nat)} {w0 w : World} {g c : Nat} {s : ByteArray} {k : Nat} {v : Value} {l : List Tok} {last : Int} (h : Lx O w0 g c s k v l last w) (hl : l.length ≤ 1000000) (hs : s.size ≤ 1000000) (hk : k ≤ s.size) (A : Option Addr) (n : Nat) (cp : Nat) (signs : List ByteArray) (hn : signs.length = n) (hn1 : n ≤ 1000) (hr : Kd.C Kd.string w A signs.length signs) :
  Calls Tryd.prog 32 #[.pointer (some ⟨g, 0, none⟩), .slice A n cp] w (Got O s w0 (sgE (signs.find? fun t => pre (s.extract k s.size) t)) (fun W => ∃ t, signs.find? (fun t => pre (s.extract k s.size) t) = some t ∧ Laid O w0 g c s (k + t.size) l 5 t 0 last k W)) := by
 subst hn
 have H := Lib.hid h
 have HR := Lib.hid hr
 clear h hr
 obtain ⟨u, hu⟩ : ∃ u, u = s.extract k s.size := ⟨_, rfl⟩
 have hus : u.size = s.size - k := by rw [hu, ByteArray.size_extract]; omega
 rw [← hu]
 obtain ⟨o, ho⟩ : ∃ o, signs.find? (fun t => pre u t) = o := ⟨_, rfl⟩
 rw [ho]
 have HU := Lib.hid hu
 have HO := Lib.hid ho
 have HUS := Lib.hid hus
 clear hu ho hus
 go_enter Tryd.func32, Tryd.ntmps32
 go_wp2
 go_loopw [10] (fun i wr => SgRel O w0 w g c s k v l last signs u o i wr) (fun i _ => signs.length - (intOf i).toNat)
 case atStart => exact ⟨0, rfl, Nat.zero_le _, HO.out, H.out, Below.refl _ _⟩
 case round =>
  obtain ⟨j, rfl, hj, hf, hL, hB⟩ := hrel
  have HF := Lib.hid hf
  have HK := Lib.hid hL
  have HB := Lib.hid hB
  clear hf hL hB H HO
  by_cases hlt : j < signs.length
  ·obtain ⟨ad, rfl, hcell⟩ := at_s (Kd.C_below HR.out HB.out) j hlt
   have hdrop := List.drop_eq_getElem_cons hlt
   cases hp : pre u signs[j] with
   | true =>
    have hts : signs[j].size ≤ u.size := by
     unfold pre at hp
     rw [Bool.and_eq_true, decide_eq_true_eq] at hp
     exact hp.1
    have hfo : o = some signs[j] := by rw [← HF.out, hdrop, List.find?_cons_of_pos hp]
    obtain ⟨t, ht⟩ : ∃ t, t = signs[j] := ⟨_, rfl⟩
    rw [← ht] at hcell hp hts hfo
    have hkt : k + t.size ≤ s.size := by have := HUS.out; omega
    have hsk : skN s k (t.size : Int) = t.size := by unfold skN; omega
    have HSK := Lib.hid hsk
    have HFO := Lib.hid hfo
    have HP := Lib.hid hp
    clear hsk hfo hp hdrop ht HF hts
    go_wp2_with (first
     | (go_at_call 27; go_must (refine (rest_any HK.out hs hk).mono ?_); rintro e w5 ⟨rfl, hb5⟩; rw [← HU.out]; have H5 := Lib.hid (HK.out.below hb5); have HB5 := Lib.hid (below_weaken HB.out HB.out.size hb5); clear hb5)
     | (go_at_call 37; go_must (refine (prefix_any u t _).mono ?_); rintro e w6 ⟨rfl, n6, rfl⟩; rw [HP.out]; have H6 := Lib.hid (H5.out.drewN n6); have HB6 := Lib.hid (pw_below_drewN HB5.out n6); obtain ⟨c0, c1, c2, c3, c4⟩ := H6.out.cells)
     | (go_at_call 16; go_must (refine (pos_any c s k _ H6.out.cu).mono ?_)))
    rintro e w7 ⟨rfl, hb⟩
    have H7 := Lib.hid (H6.out.below hb)
    clear hb H6 H5 HB6 HB5 c0 c1 c2 c3 c4
    unfold posV
    have hal : Below w7.heap.size w7 (w7.alloc (.cells #[.int .i64 k, .int .i64 (ln s k), .int .i64 (cl s k)] 27)) := below_alloc (Below.refl _ _) _
    have HPx := Lib.hid (show Px w7.heap.size k (ln s k) (cl s k) (w7.alloc (.cells #[.int .i64 k, .int .i64 (ln s k), .int .i64 (cl s k)] 27)) from alloc_new w7 _)
    have H8 := Lib.hid (H7.out.below hal)
    have HNE := Lib.hid (show w7.heap.size ≠ c from fun e => by have := H7.out.cu.lt; omega)
    clear hal H7
    obtain ⟨c0, c1, c2, c3, c4⟩ := H8.out.cells
    go_wp2_with (first | (go_at_call 25; go_must (refine (skip_any c s k (t.size : Int) _ H8.out.cu hs hk).mono ?_)))
    rintro e w9 ⟨rfl, hc, ha⟩
    rw [HSK.out] at hc
    rw [HSK.out]
    have H9 := Lib.hid (H8.out.move hc ha)
    have HP9 := Lib.hid (HPx.out.at1 ha HNE.out)
    clear hc ha H8 HPx c0 c1 c2 c3 c4
    obtain ⟨d0, d1, d2⟩ := HP9.out.cells
    go_wp2_with (first | (go_at_call 18; go_must (refine (add_at H9.out hl 5 t 0 (k0 := k)).mono ?_); rintro e w10 ⟨rfl, hL⟩; have HL := Lib.hid hL; clear hL))
    go_ret
    rw [HFO.out]
    exact ⟨rfl, fun _ => ⟨t, rfl, HL.out⟩, HL.out.fin⟩
   | false =>
    have HP := Lib.hid hp
    have hfo : (signs.drop (j + 1)).find? (fun t => pre u t) = o := by rw [← HF.out, hdrop, List.find?_cons_of_neg (by rw [hp]; simp)]
    have HFO := Lib.hid hfo
    clear hp hfo hdrop HF
    go_wp2_with (first
     | (go_at_call 27; go_must (refine (rest_any HK.out hs hk).mono ?_); rintro e w5 ⟨rfl, hb5⟩; rw [← HU.out]; have H5 := Lib.hid (HK.out.below hb5); have HB5 := Lib.hid (below_weaken HB.out HB.out.size hb5); clear hb5)
     | (go_at_call 37; go_must (refine (prefix_any u signs[j] _).mono ?_); rintro e w6 ⟨rfl, n6, rfl⟩; rw [HP.out]; have H6 := Lib.hid (H5.out.drewN n6); have HB6 := Lib.hid (pw_below_drewN HB5.out n6); obtain ⟨c0, c1, c2, c3, c4⟩ := H6.out.cells))
    go_round
    ·exact ⟨j + 1, by simp, by omega, HFO.out, H6.out, HB6.out⟩
    ·simp only [intOf]; omega
  ·obtain rfl : j = signs.length := by omega
   have hfo : o = none := by rw [← HF.out, List.drop_length]; rfl
   subst hfo
   clear HF
   go_wp2
   go_ret
   exact ⟨rfl, fun e => absurd e (by decide), HK.out.fin⟩
end Go.Proofs.YtidicpngmildkaaDoor.Tx
set_option linter.unusedVariables false
set_option linter.unusedSimpArgs false
namespace Go.Proofs.YtidicpngmildkaaDoor.Tx
open Go.RowKit Go.Proofs.YtidicpngmildkaaDoorW.PrintWords Go.Proofs.YtidicpngmildkaaDoorW.PrintLast Go.Proofs.YtidicpngmildkaaDoorW.PrintMore Go.Proofs.YtidicpngmildkaaDoor.R
open Go.Proofs.YtidicpngmildkaaDoor.Wd (mem lst is_any)
theorem hasprefix_f (u t : ByteArray) : strings_HasPrefix.f u t = some (pre u t) := by
 unfold strings_HasPrefix.f stringslite_HasPrefix.f pre
 by_cases h : t.size ≤ u.size
 ·rw [if_pos (by omega), if_pos (by omega), if_pos (by omega), decide_eq_true h, Bool.true_and]; rfl
 ·rw [if_neg (by omega), decide_eq_false h, Bool.false_and]; rfl
theorem begins_f (u : ByteArray) : note_Begins.f 1 u = some (pre u ⟨#[47, 42]⟩) := by
 unfold note_Begins.f note_of.f
 rw [if_neg (by decide), if_pos rfl, Option.bind_some, if_pos rfl, hasprefix_f]
 rfl
theorem right_some (c : Int) : ∃ b, note_right.f c = some b := by
 unfold note_right.f
 repeat' split
 all_goals exact ⟨_, rfl⟩
theorem read_loop (u o : ByteArray) (hu : u.size ≤ 1000000) : ∀ (m i : Nat) (x : List Int), 2 ≤ i → i ≤ u.size → 2 * (u.size - i) + 2 ≤ m → x.length ≤ 1024 → ∃ r : ByteArray × Int × Int, note_Read.l0 m u x (i : Int) o ⟨#[42, 47]⟩ ⟨#[92, 42]⟩ = some r ∧ (r.2.2 = 0 → 2 ≤ r.2.1 ∧ r.2.1 ≤ (u.size : Int)) := by
 intro m
 induction m using Nat.strongRecOn with
 | _ m ih =>
  intro i x h2i hi hm hx
  obtain ⟨m, rfl⟩ : ∃ m', m = m' + 1 + 1 := ⟨m - 2, by omega⟩
  unfold note_Read.l0
  have hj : ∀ q : Nat, q < u.size → i ≤ q → ∃ r : ByteArray × Int × Int, note_Read.j1 (m + 1) u x (q : Int) o ⟨#[42, 47]⟩ ⟨#[92, 42]⟩ = some r ∧ (r.2.2 = 0 → 2 ≤ r.2.1 ∧ r.2.1 ≤ (u.size : Int)) := by
   intro q hq hiq
   unfold note_Read.j1
   obtain ⟨b, hb⟩ := right_some (bt u (q : Int))
   rw [if_pos (by omega), if_pos (by omega), hb, Option.bind_some]
   cases b with
   | false => exact ⟨_, rfl, fun e => absurd e (by decide)⟩
   | true =>
    rw [if_pos rfl]
    by_cases h10 : (x.length : Int) = 1024
    ·rw [if_pos h10]; exact ⟨_, rfl, fun e => absurd e (by decide)⟩
    ·rw [if_neg h10, if_pos (by omega), wr_n q (by omega)]
     exact ih m (by omega) (q + 1) (x ++ [bt u (q : Int)]) (by omega) (by omega) (by omega) (by simp; omega)
  by_cases hlt : i < u.size
  ·rw [if_pos (by omega), if_pos (by omega), if_pos (by omega), hasprefix_f, Option.bind_some]
   cases hp : pre (u.extract (i : Int).toNat u.size) ⟨#[42, 47]⟩ with
   | true =>
    rw [if_pos rfl]
    unfold pre at hp
    rw [Bool.and_eq_true, decide_eq_true_eq] at hp
    have h2 := hp.1
    rw [ByteArray.size_extract, Int.toNat_natCast] at h2
    have h3 : (⟨#[42, 47]⟩ : ByteArray).size = 2 := rfl
    refine ⟨_, rfl, fun _ => ?_⟩
    show 2 ≤ wrap64 ((i : Int) + ((⟨#[42, 47]⟩ : ByteArray).size : Int)) ∧ wrap64 ((i : Int) + ((⟨#[42, 47]⟩ : ByteArray).size : Int)) ≤ (u.size : Int)
    rw [h3] at h2 ⊢
    unfold wrap64
    omega
   | false =>
    rw [if_neg (by simp)]
    by_cases h92 : bt u (i : Int) = 92
    ·rw [if_pos h92, wr_n i (by omega)]
     by_cases he : ((i + 1 : Nat) : Int) = (u.size : Int)
     ·rw [if_pos he]; exact ⟨_, rfl, fun e => absurd e (by decide)⟩
     ·rw [if_neg he, if_pos (by omega), if_pos (by omega)]
      show ∃ r, ((some _).bind _) = some r ∧ _
      rw [Option.bind_some]
      split
      ·exact ⟨_, rfl, fun e => absurd e (by decide)⟩
      ·exact hj (i + 1) (by omega) (by omega)
    ·rw [if_neg h92]
     exact hj i hlt (Nat.le_refl _)
  ·rw [if_neg (by omega)]
   exact ⟨_, rfl, fun e => absurd e (by decide)⟩
/-- What is read of a comment. -/
theorem read_some (u : ByteArray) (hu : u.size ≤ 1000000) (hb : pre u ⟨#[47, 42]⟩ = true) : ∃ r : ByteArray × Int × Int, note_Read.f (2 * u.size + 2) 1 u = some r ∧ (r.2.2 = 0 → 2 ≤ r.2.1 ∧ r.2.1 ≤ (u.size : Int)) := by
 have hs : 2 ≤ u.size := by
  unfold pre at hb
  rw [Bool.and_eq_true, decide_eq_true_eq] at hb
  exact hb.1
 obtain ⟨r, h1, h2⟩ := read_loop u ⟨#[47, 42]⟩ hu (2 * u.size + 2) 2 [] (by omega) hs (by omega) (by simp)
 refine ⟨r, ?_, h2⟩
 unfold note_Read.f
 rw [show note_of.f 1 = some ((⟨#[47, 42]⟩ : ByteArray), (⟨#[42, 47]⟩ : ByteArray), (⟨#[92, 42]⟩ : ByteArray), true) from rfl, Option.bind_some, if_pos rfl, begins_f, hb, Option.bind_some, if_pos rfl]
 exact h1
def noteAt (u : ByteArray) : ByteArray × Int × Int := (note_Read.f (2 * u.size + 2) 1 u).getD (⟨#[]⟩, 0, 8)
theorem noteAt_ok (u : ByteArray) (hu : u.size ≤ 1000000) (hb : pre u ⟨#[47, 42]⟩ = true) : note_Read.f (2 * u.size + 2) 1 u = some (noteAt u) ∧ ((noteAt u).2.2 = 0 → 2 ≤ (noteAt u).2.1 ∧ (noteAt u).2.1 ≤ (u.size : Int)) := by
 obtain ⟨r, h1, h2⟩ := read_some u hu hb
 have : noteAt u = r := by unfold noteAt; rw [h1]; rfl
 rw [this]
 exact ⟨h1, h2⟩
end Go.Proofs.YtidicpngmildkaaDoor.Tx
set_option linter.unusedVariables false
set_option linter.unusedSimpArgs false
namespace Go.Proofs.YtidicpngmildkaaDoor.Tx
open Go.RowKit Go.Proofs.YtidicpngmildkaaDoorW.PrintWords Go.Proofs.YtidicpngmildkaaDoorW.PrintLast Go.Proofs.YtidicpngmildkaaDoorW.PrintMore Go.Proofs.YtidicpngmildkaaDoor.R
open Go.Proofs.YtidicpngmildkaaDoor.Wd (mem lst is_any)
set_option maxHeartbeats 8000000 in
set_option maxRecDepth 1000000 in
theorem note_no {O : Option (Nat × Nat)} {w0 w : World} {g c : Nat} {s : ByteArray} {k : Nat} {v : Value} {l : List Tok} {last : Int} (h : Lx O w0 g c s k v l last w) (hs : s.size ≤ 1000000) (hk : k ≤ s.size) (hb : pre (s.extract k s.size) ⟨#[47, 42]⟩ = false) :
  Calls Tryd.prog 19 #[.pointer (some ⟨g, 0, none⟩)] w fun e w' => e = .returned (.tuple #[.bool false, .int .i64 0]) ∧ Lx O w0 g c s k v l last w' := by
 have H := Lib.hid h
 have HBG := Lib.hid (show note_Begins.f 1 (s.extract k s.size) = some false from by rw [begins_f, hb])
 clear h hb
 go_enter Tryd.func19, Tryd.ntmps19
 go_wp2
 have H0 := Lib.hid H.out.drew
 refine start_ (n := 8) (S := fun w' => w'.cell? ⟨g, 1, none⟩ = some (.int .i64 1)) (ds := []) #[ZZ,ZZ,ZZ,ZZ,ZZ,ZZ,ZZ,ZZ] (by kernel_rfl) rfl rfl (H0.out.cells.2.1) (fun hHeld => ?_)
 generalize hwd : World.drew _ = wd at *
 refine pure_ (i := 0) (N := some 8) (v := ?_) (a' := ?_) #[YY,ZZ,ZZ,ZZ,ZZ,ZZ,ZZ,ZZ] rfl rfl (by kernel_rfl) (fun _ _ _ h => h) (Or.inl ⟨by rfl, ?_⟩) ?_ ?_
 rotate_left
 ·intro w'
  go_simp
  with_reducible rfl
 rotate_left
 ·simp only [Act.put, List.setIfInBounds_toArray, List.set_cons_zero, List.set_cons_succ, i64_w, i32_w]
  rfl
 refine pure_ (i := 1) (N := some 9) (v := ?_) (a' := ?_) #[YY,YY,ZZ,ZZ,ZZ,ZZ,ZZ,ZZ] rfl rfl (by kernel_rfl) (fun _ _ _ h => h) (Or.inl ⟨by rfl, ?_⟩) ?_ ?_
 rotate_left
 ·intro w'
  go_simp
  with_reducible rfl
 rotate_left
 ·simp only [Act.put, List.setIfInBounds_toArray, List.set_cons_zero, List.set_cons_succ, i64_w, i32_w]
  rfl
 refine pure_ (i := 2) (N := some 10) (v := ?_) (a' := ?_) #[YY,YY,YY,ZZ,ZZ,ZZ,ZZ,ZZ] rfl rfl (by kernel_rfl) (fun _ _ _ h => h) (Or.inl ⟨by rfl, ?_⟩) ?_ ?_
 rotate_left
 ·intro w'
  go_simp
  with_reducible rfl
 rotate_left
 ·simp only [Act.put, List.setIfInBounds_toArray, List.set_cons_zero, List.set_cons_succ, i64_w, i32_w]
  rfl
 refine pure_ (i := 4) (N := some 12) (v := ?_) (a' := ?_) #[YY,YY,YY,ZZ,YY,ZZ,ZZ,ZZ] rfl rfl (by kernel_rfl) (fun _ _ _ h => h) (Or.inl ⟨by rfl, ?_⟩) ?_ ?_
 rotate_left
 ·intro w'
  go_simp
  with_reducible rfl
 rotate_left
 ·simp only [Act.put, List.setIfInBounds_toArray, List.set_cons_zero, List.set_cons_succ, i64_w, i32_w]
  rfl
 refine take_ (i := 3) (N := some 11) (v := ?_) (a' := ?_) #[YY,YY,YY,YY,YY,ZZ,ZZ,ZZ] rfl rfl (by kernel_rfl) (fun _ _ _ h => h) (Or.inl ⟨by rfl, ?_⟩) hHeld ?_ ?_
 rotate_left
 ·intro w' s0
  go_simp
  with_reducible rfl
 rotate_left
 ·simp only [Act.put, List.setIfInBounds_toArray, List.set_cons_zero, List.set_cons_succ, i64_w, i32_w]
  rfl
 refine one_ (i := 5) (N := some 13) #[YY,YY,YY,YY,YY,YY,ZZ,ZZ] rfl rfl (by kernel_rfl) (by decide) (fun K hK => ?_)
 refine goes_ Tryd.func27 (by kernel_rfl) rfl #[.pointer (some ⟨g, 0, none⟩)] (by rfl) rfl rfl (by simp only [List.map_toArray, List.map_cons, List.map_nil]; rfl) ?_
 with_reducible refine (rest_any H0.out hs hk).mono ?_
 rintro e w3 ⟨rfl, hb⟩
 refine ⟨_, rfl, ?_⟩
 have H3 := Lib.hid (H0.out.below hb)
 clear hb
 refine hK.out _ _ (H3.out.cells.2.1) (fun hHeld => ?_)
 clear hK K
 refine norm_ (a' := ?_) ?_ ?_
 rotate_left
 ·show Act.put _ (some 13) _ = _
  simp only [Act.put, List.setIfInBounds_toArray, List.set_cons_zero, List.set_cons_succ, i64_w, i32_w]
  rfl
 refine one_ (i := 6) (N := some 14) #[YY,YY,YY,YY,YY,YY,YY,ZZ] rfl rfl (by kernel_rfl) (by decide) (fun K hK => ?_)
 refine goes_ Tryd.func26 (by kernel_rfl) rfl #[.int .i64 1, .string (s.extract k s.size)] (by rfl) rfl rfl (by simp only [List.map_toArray, List.map_cons, List.map_nil]; rfl) ?_
 with_reducible refine (note_Begins.calls 1 (s.extract k s.size) false _ HBG.out).mono ?_
 rintro e w4 ⟨rfl, hb⟩
 refine ⟨_, rfl, ?_⟩
 have H4 := Lib.hid (H3.out.below hb)
 clear hb
 refine hK.out _ _ (H4.out.cells.2.1) (fun hHeld => ?_)
 clear hK K
 refine norm_ (a' := ?_) ?_ ?_
 rotate_left
 ·show Act.put _ (some 14) _ = _
  simp only [Act.put, List.setIfInBounds_toArray, List.set_cons_zero, List.set_cons_succ, i64_w, i32_w]
  rfl
 refine pure_ (i := 7) (N := some 15) (v := ?_) (a' := ?_) #[YY,YY,YY,YY,YY,YY,YY,YY] rfl rfl (by kernel_rfl) (fun _ _ _ h => h) (Or.inl ⟨by rfl, ?_⟩) ?_ ?_
 rotate_left
 ·intro w'
  go_simp
  with_reducible rfl
 rotate_left
 ·simp only [Act.put, List.setIfInBounds_toArray, List.set_cons_zero, List.set_cons_succ, i64_w, i32_w]
  rfl
 refine done_ (by kernel_rfl) ?_
 go_wp2
 go_ret2
 exact ⟨rfl, H4.out⟩
set_option maxHeartbeats 8000000 in
set_option maxRecDepth 1000000 in
theorem note_yes {O : Option (Nat × Nat)} {w0 w : World} {g c : Nat} {s : ByteArray} {k : Nat} {v : Value} {l : List Tok} {last : Int} (h : Lx O w0 g c s k v l last w) (hl : l.length ≤ 1000000) (hs : s.size ≤ 1000000) (hk : k ≤ s.size) (hb : pre (s.extract k s.size) ⟨#[47, 42]⟩ = true) :
  Calls Tryd.prog 19 #[.pointer (some ⟨g, 0, none⟩)] w fun e w' => e = .returned (.tuple #[.bool true, .int .i64 (noteAt (s.extract k s.size)).2.2]) ∧ ((noteAt (s.extract k s.size)).2.2 = 0 → Laid O w0 g c s (k + (noteAt (s.extract k s.size)).2.1.toNat) l 6 (noteAt (s.extract k s.size)).1 0 last k w') ∧ Bel O s w0 w' := by
 have H := Lib.hid h
 have hus : (s.extract k s.size).size = s.size - k := by rw [ByteArray.size_extract]; omega
 have HBG := Lib.hid (show note_Begins.f 1 (s.extract k s.size) = some true from by rw [begins_f, hb])
 obtain ⟨hrd, hok⟩ := noteAt_ok (s.extract k s.size) (by omega) hb
 obtain ⟨t, n, r, hnt⟩ : ∃ t n r, noteAt (s.extract k s.size) = (t, n, r) := ⟨_, _, _, rfl⟩
 rw [hnt] at hrd hok ⊢
 have hok : r = 0 → 2 ≤ n ∧ n ≤ ((s.extract k s.size).size : Int) := hok
 have HRD := Lib.hid hrd
 have HOK := Lib.hid (show r = 0 → 0 ≤ n ∧ n ≤ (s.size : Int) - (k : Int) from fun e => by have := hok e; omega)
 clear h hb hrd hok hnt hus
 go_enter Tryd.func19, Tryd.ntmps19
 go_wp2
 have H0 := Lib.hid H.out.drew
 refine start_ (n := 8) (S := fun w' => w'.cell? ⟨g, 1, none⟩ = some (.int .i64 1)) (ds := []) #[ZZ,ZZ,ZZ,ZZ,ZZ,ZZ,ZZ,ZZ] (by kernel_rfl) rfl rfl (H0.out.cells.2.1) (fun hHeld => ?_)
 generalize hwd : World.drew _ = wd at *
 refine pure_ (i := 0) (N := some 8) (v := ?_) (a' := ?_) #[YY,ZZ,ZZ,ZZ,ZZ,ZZ,ZZ,ZZ] rfl rfl (by kernel_rfl) (fun _ _ _ h => h) (Or.inl ⟨by rfl, ?_⟩) ?_ ?_
 rotate_left
 ·intro w'
  go_simp
  with_reducible rfl
 rotate_left
 ·simp only [Act.put, List.setIfInBounds_toArray, List.set_cons_zero, List.set_cons_succ, i64_w, i32_w]
  rfl
 refine pure_ (i := 1) (N := some 9) (v := ?_) (a' := ?_) #[YY,YY,ZZ,ZZ,ZZ,ZZ,ZZ,ZZ] rfl rfl (by kernel_rfl) (fun _ _ _ h => h) (Or.inl ⟨by rfl, ?_⟩) ?_ ?_
 rotate_left
 ·intro w'
  go_simp
  with_reducible rfl
 rotate_left
 ·simp only [Act.put, List.setIfInBounds_toArray, List.set_cons_zero, List.set_cons_succ, i64_w, i32_w]
  rfl
 refine pure_ (i := 2) (N := some 10) (v := ?_) (a' := ?_) #[YY,YY,YY,ZZ,ZZ,ZZ,ZZ,ZZ] rfl rfl (by kernel_rfl) (fun _ _ _ h => h) (Or.inl ⟨by rfl, ?_⟩) ?_ ?_
 rotate_left
 ·intro w'
  go_simp
  with_reducible rfl
 rotate_left
 ·simp only [Act.put, List.setIfInBounds_toArray, List.set_cons_zero, List.set_cons_succ, i64_w, i32_w]
  rfl
 refine pure_ (i := 4) (N := some 12) (v := ?_) (a' := ?_) #[YY,YY,YY,ZZ,YY,ZZ,ZZ,ZZ] rfl rfl (by kernel_rfl) (fun _ _ _ h => h) (Or.inl ⟨by rfl, ?_⟩) ?_ ?_
 rotate_left
 ·intro w'
  go_simp
  with_reducible rfl
 rotate_left
 ·simp only [Act.put, List.setIfInBounds_toArray, List.set_cons_zero, List.set_cons_succ, i64_w, i32_w]
  rfl
 refine take_ (i := 3) (N := some 11) (v := ?_) (a' := ?_) #[YY,YY,YY,YY,YY,ZZ,ZZ,ZZ] rfl rfl (by kernel_rfl) (fun _ _ _ h => h) (Or.inl ⟨by rfl, ?_⟩) hHeld ?_ ?_
 rotate_left
 ·intro w' s0
  go_simp
  with_reducible rfl
 rotate_left
 ·simp only [Act.put, List.setIfInBounds_toArray, List.set_cons_zero, List.set_cons_succ, i64_w, i32_w]
  rfl
 refine one_ (i := 5) (N := some 13) #[YY,YY,YY,YY,YY,YY,ZZ,ZZ] rfl rfl (by kernel_rfl) (by decide) (fun K hK => ?_)
 refine goes_ Tryd.func27 (by kernel_rfl) rfl #[.pointer (some ⟨g, 0, none⟩)] (by rfl) rfl rfl (by simp only [List.map_toArray, List.map_cons, List.map_nil]; rfl) ?_
 with_reducible refine (rest_any H0.out hs hk).mono ?_
 rintro e w3 ⟨rfl, hb⟩
 refine ⟨_, rfl, ?_⟩
 have H3 := Lib.hid (H0.out.below hb)
 clear hb
 refine hK.out _ _ (H3.out.cells.2.1) (fun hHeld => ?_)
 clear hK K
 refine norm_ (a' := ?_) ?_ ?_
 rotate_left
 ·show Act.put _ (some 13) _ = _
  simp only [Act.put, List.setIfInBounds_toArray, List.set_cons_zero, List.set_cons_succ, i64_w, i32_w]
  rfl
 refine one_ (i := 6) (N := some 14) #[YY,YY,YY,YY,YY,YY,YY,ZZ] rfl rfl (by kernel_rfl) (by decide) (fun K hK => ?_)
 refine goes_ Tryd.func26 (by kernel_rfl) rfl #[.int .i64 1, .string (s.extract k s.size)] (by rfl) rfl rfl (by simp only [List.map_toArray, List.map_cons, List.map_nil]; rfl) ?_
 with_reducible refine (note_Begins.calls 1 (s.extract k s.size) true _ HBG.out).mono ?_
 rintro e w4 ⟨rfl, hb⟩
 refine ⟨_, rfl, ?_⟩
 have H4 := Lib.hid (H3.out.below hb)
 clear hb
 refine hK.out _ _ (H4.out.cells.2.1) (fun hHeld => ?_)
 clear hK K
 refine norm_ (a' := ?_) ?_ ?_
 rotate_left
 ·show Act.put _ (some 14) _ = _
  simp only [Act.put, List.setIfInBounds_toArray, List.set_cons_zero, List.set_cons_succ, i64_w, i32_w]
  rfl
 refine pure_ (i := 7) (N := some 15) (v := ?_) (a' := ?_) #[YY,YY,YY,YY,YY,YY,YY,YY] rfl rfl (by kernel_rfl) (fun _ _ _ h => h) (Or.inl ⟨by rfl, ?_⟩) ?_ ?_
 rotate_left
 ·intro w'
  go_simp
  with_reducible rfl
 rotate_left
 ·simp only [Act.put, List.setIfInBounds_toArray, List.set_cons_zero, List.set_cons_succ, i64_w, i32_w]
  rfl
 refine done_ (by kernel_rfl) ?_
 clear hwd
 obtain ⟨c0, c1, c2, c3, c4⟩ := H4.out.cells
 go_wp2_with (first | (go_at_call 16; go_must (refine (pos_any c s k _ H4.out.cu).mono ?_)))
 rintro e w7 ⟨rfl, hb⟩
 have H7 := Lib.hid (H4.out.below hb)
 clear hb H4 H c0 c1 c2 c3 c4
 unfold posV
 have hal : Below w7.heap.size w7 (w7.alloc (.cells #[.int .i64 k, .int .i64 (ln s k), .int .i64 (cl s k)] 27)) := below_alloc (Below.refl _ _) _
 have HPx := Lib.hid (show Px w7.heap.size k (ln s k) (cl s k) (w7.alloc (.cells #[.int .i64 k, .int .i64 (ln s k), .int .i64 (cl s k)] 27)) from alloc_new w7 _)
 have H8 := Lib.hid (H7.out.below hal)
 have HNE := Lib.hid (show w7.heap.size ≠ c from fun e => by have := H7.out.cu.lt; omega)
 clear hal H7
 go_wp2
 generalize w7.heap.size = b at HPx HNE ⊢
 have H0 := Lib.hid H8.out.drew
 have HP0 := Lib.hid (HPx.out.below (below_drew (Below.refl _ _)))
 clear H8 HPx
 refine start_ (n := 14) (S := fun w' => w'.cell? ⟨g, 1, none⟩ = some (.int .i64 1)) (ds := []) #[ZZ,ZZ,ZZ,ZZ,ZZ,ZZ,ZZ,ZZ,ZZ,ZZ,ZZ,ZZ,ZZ,ZZ] (by kernel_rfl) rfl rfl (H0.out.cells.2.1) (fun hHeld => ?_)
 generalize hwd : World.drew _ = wd at *
 refine pure_ (i := 0) (N := some 22) (v := ?_) (a' := ?_) #[YY,ZZ,ZZ,ZZ,ZZ,ZZ,ZZ,ZZ,ZZ,ZZ,ZZ,ZZ,ZZ,ZZ] rfl rfl (by kernel_rfl) (fun _ _ _ h => h) (Or.inl ⟨by rfl, ?_⟩) ?_ ?_
 rotate_left
 ·intro w'
  go_simp
  with_reducible rfl
 rotate_left
 ·simp only [Act.put, List.setIfInBounds_toArray, List.set_cons_zero, List.set_cons_succ, i64_w, i32_w]
  rfl
 refine pure_ (i := 1) (N := some 23) (v := ?_) (a' := ?_) #[YY,YY,ZZ,ZZ,ZZ,ZZ,ZZ,ZZ,ZZ,ZZ,ZZ,ZZ,ZZ,ZZ] rfl rfl (by kernel_rfl) (fun _ _ _ h => h) (Or.inl ⟨by rfl, ?_⟩) ?_ ?_
 rotate_left
 ·intro w'
  go_simp
  with_reducible rfl
 rotate_left
 ·simp only [Act.put, List.setIfInBounds_toArray, List.set_cons_zero, List.set_cons_succ, i64_w, i32_w]
  rfl
 refine pure_ (i := 2) (N := some 24) (v := ?_) (a' := ?_) #[YY,YY,YY,ZZ,ZZ,ZZ,ZZ,ZZ,ZZ,ZZ,ZZ,ZZ,ZZ,ZZ] rfl rfl (by kernel_rfl) (fun _ _ _ h => h) (Or.inl ⟨by rfl, ?_⟩) ?_ ?_
 rotate_left
 ·intro w'
  go_simp
  with_reducible rfl
 rotate_left
 ·simp only [Act.put, List.setIfInBounds_toArray, List.set_cons_zero, List.set_cons_succ, i64_w, i32_w]
  rfl
 refine pure_ (i := 4) (N := some 26) (v := ?_) (a' := ?_) #[YY,YY,YY,ZZ,YY,ZZ,ZZ,ZZ,ZZ,ZZ,ZZ,ZZ,ZZ,ZZ] rfl rfl (by kernel_rfl) (fun _ _ _ h => h) (Or.inl ⟨by rfl, ?_⟩) ?_ ?_
 rotate_left
 ·intro w'
  go_simp
  with_reducible rfl
 rotate_left
 ·simp only [Act.put, List.setIfInBounds_toArray, List.set_cons_zero, List.set_cons_succ, i64_w, i32_w]
  rfl
 refine take_ (i := 3) (N := some 25) (v := ?_) (a' := ?_) #[YY,YY,YY,YY,YY,ZZ,ZZ,ZZ,ZZ,ZZ,ZZ,ZZ,ZZ,ZZ] rfl rfl (by kernel_rfl) (fun _ _ _ h => h) (Or.inl ⟨by rfl, ?_⟩) hHeld ?_ ?_
 rotate_left
 ·intro w' s0
  go_simp
  with_reducible rfl
 rotate_left
 ·simp only [Act.put, List.setIfInBounds_toArray, List.set_cons_zero, List.set_cons_succ, i64_w, i32_w]
  rfl
 refine one_ (i := 5) (N := some 27) #[YY,YY,YY,YY,YY,YY,ZZ,ZZ,ZZ,ZZ,ZZ,ZZ,ZZ,ZZ] rfl rfl (by kernel_rfl) (by decide) (fun K hK => ?_)
 refine goes_ Tryd.func27 (by kernel_rfl) rfl #[.pointer (some ⟨g, 0, none⟩)] (by rfl) rfl rfl (by simp only [List.map_toArray, List.map_cons, List.map_nil]; rfl) ?_
 with_reducible refine (rest_any H0.out hs hk).mono ?_
 rintro e w3 ⟨rfl, hb⟩
 refine ⟨_, rfl, ?_⟩
 have H3 := Lib.hid (H0.out.below hb)
 have HP3 := Lib.hid (HP0.out.below hb)
 clear hb
 refine hK.out _ _ (H3.out.cells.2.1) (fun hHeld => ?_)
 clear hK K
 refine norm_ (a' := ?_) ?_ ?_
 rotate_left
 ·show Act.put _ (some 27) _ = _
  simp only [Act.put, List.setIfInBounds_toArray, List.set_cons_zero, List.set_cons_succ, i64_w, i32_w]
  rfl
 refine one_ (i := 6) (N := some 28) #[YY,YY,YY,YY,YY,YY,YY,ZZ,ZZ,ZZ,ZZ,ZZ,ZZ,ZZ] rfl rfl (by kernel_rfl) (by decide) (fun K hK => ?_)
 refine goes_ Tryd.func28 (by kernel_rfl) rfl #[.int .i64 1, .string (s.extract k s.size)] (by rfl) rfl rfl (by simp only [List.map_toArray, List.map_cons, List.map_nil]; rfl) ?_
 with_reducible refine (note_Read.calls _ 1 (s.extract k s.size) t n r _ HRD.out).mono ?_
 rintro e w9 ⟨rfl, hb⟩
 refine ⟨_, rfl, ?_⟩
 have H9 := Lib.hid (H3.out.below hb)
 have HP9 := Lib.hid (HP3.out.below hb)
 clear hb
 refine hK.out _ _ (H9.out.cells.2.1) (fun hHeld => ?_)
 clear hK K
 refine norm_ (a' := ?_) ?_ ?_
 rotate_left
 ·show Act.put _ (some 28) _ = _
  simp only [Act.put, List.setIfInBounds_toArray, List.set_cons_zero, List.set_cons_succ, i64_w, i32_w]
  rfl
 refine pure_ (i := 7) (N := some 21) (v := ?_) (a' := ?_) #[YY,YY,YY,YY,YY,YY,YY,YY,ZZ,ZZ,ZZ,ZZ,ZZ,ZZ] rfl rfl (by kernel_rfl) (fun _ _ _ h => h) (Or.inl ⟨by rfl, ?_⟩) ?_ ?_
 rotate_left
 ·intro w'
  go_simp
  with_reducible rfl
 rotate_left
 ·simp only [Act.put, List.setIfInBounds_toArray, List.set_cons_zero, List.set_cons_succ, i64_w, i32_w]
  rfl
 refine pure_ (i := 8) (N := some 29) (v := ?_) (a' := ?_) #[YY,YY,YY,YY,YY,YY,YY,YY,YY,ZZ,ZZ,ZZ,ZZ,ZZ] rfl rfl (by kernel_rfl) (fun _ _ _ h => h) (Or.inl ⟨by rfl, ?_⟩) ?_ ?_
 rotate_left
 ·intro w'
  go_simp
  with_reducible rfl
 rotate_left
 ·simp only [Act.put, List.setIfInBounds_toArray, List.set_cons_zero, List.set_cons_succ, i64_w, i32_w]
  rfl
 refine pure_ (i := 9) (N := some 30) (v := ?_) (a' := ?_) #[YY,YY,YY,YY,YY,YY,YY,YY,YY,YY,ZZ,ZZ,ZZ,ZZ] rfl rfl (by kernel_rfl) (fun _ _ _ h => h) (Or.inl ⟨by rfl, ?_⟩) ?_ ?_
 rotate_left
 ·intro w'
  go_simp
  with_reducible rfl
 rotate_left
 ·simp only [Act.put, List.setIfInBounds_toArray, List.set_cons_zero, List.set_cons_succ, i64_w, i32_w]
  rfl
 refine pure_ (i := 10) (N := some 31) (v := ?_) (a' := ?_) #[YY,YY,YY,YY,YY,YY,YY,YY,YY,YY,YY,ZZ,ZZ,ZZ] rfl rfl (by kernel_rfl) (fun _ _ _ h => h) (Or.inl ⟨by rfl, ?_⟩) ?_ ?_
 rotate_left
 ·intro w'
  go_simp
  with_reducible rfl
 rotate_left
 ·simp only [Act.put, List.setIfInBounds_toArray, List.set_cons_zero, List.set_cons_succ, i64_w, i32_w]
  rfl
 refine pure_ (i := 11) (N := some 5) (v := ?_) (a' := ?_) #[YY,YY,YY,YY,YY,YY,YY,YY,YY,YY,YY,YY,ZZ,ZZ] rfl rfl (by kernel_rfl) (fun _ _ _ h => h) (Or.inl ⟨by rfl, ?_⟩) ?_ ?_
 rotate_left
 ·intro w'
  go_simp
  with_reducible rfl
 rotate_left
 ·simp only [Act.put, List.setIfInBounds_toArray, List.set_cons_zero, List.set_cons_succ, i64_w, i32_w]
  rfl
 refine pure_ (i := 12) (N := some 6) (v := ?_) (a' := ?_) #[YY,YY,YY,YY,YY,YY,YY,YY,YY,YY,YY,YY,YY,ZZ] rfl rfl (by kernel_rfl) (fun _ _ _ h => h) (Or.inl ⟨by rfl, ?_⟩) ?_ ?_
 rotate_left
 ·intro w'
  go_simp
  with_reducible rfl
 rotate_left
 ·simp only [Act.put, List.setIfInBounds_toArray, List.set_cons_zero, List.set_cons_succ, i64_w, i32_w]
  rfl
 refine pure_ (i := 13) (N := some 7) (v := ?_) (a' := ?_) #[YY,YY,YY,YY,YY,YY,YY,YY,YY,YY,YY,YY,YY,YY] rfl rfl (by kernel_rfl) (fun _ _ _ h => h) (Or.inl ⟨by rfl, ?_⟩) ?_ ?_
 rotate_left
 ·intro w'
  go_simp
  with_reducible rfl
 rotate_left
 ·simp only [Act.put, List.setIfInBounds_toArray, List.set_cons_zero, List.set_cons_succ, i64_w, i32_w]
  rfl
 refine done_ (by kernel_rfl) ?_
 clear hwd
 by_cases h0 : r = 0
 ·subst h0
  obtain ⟨hn0, hn1⟩ := HOK.out rfl
  obtain ⟨n, rfl⟩ := Int.eq_ofNat_of_zero_le hn0
  have hsk : skN s k (n : Int) = n := by unfold skN; omega
  have HSK := Lib.hid hsk
  clear hsk hn0 hn1
  obtain ⟨c0, c1, c2, c3, c4⟩ := H9.out.cells
  go_wp2_with (first | (go_at_call 25; go_must (refine (skip_any c s k (n : Int) _ H9.out.cu hs hk).mono ?_)))
  rintro e w10 rfl hc ha
  rw [HSK.out] at hc
  rw [HSK.out]
  have H10 := Lib.hid (H9.out.move hc ha)
  have HP10 := Lib.hid (HP9.out.at1 ha HNE.out)
  clear hc ha H9 HP9 c0 c1 c2 c3 c4
  obtain ⟨d0, d1, d2⟩ := HP10.out.cells
  go_wp2_with (first | (go_at_call 18; go_must (refine (add_at H10.out hl 6 t 0 (k0 := k)).mono ?_); rintro e w11 ⟨rfl, hL⟩; have HL := Lib.hid hL; clear hL))
  go_ret2
  exact ⟨rfl, HL.out, HL.out.fin⟩
 ·have h1 : (r == 0) = false := by simpa using h0
  have h2 : (r != 0) = true := by simpa using h0
  go_wp2
  go_ret2
  exact ⟨rfl, fun e => absurd e h0, H9.out.fin⟩
end Go.Proofs.YtidicpngmildkaaDoor.Tx
