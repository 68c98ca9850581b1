/- A part of the proof of RenameApartUpto (no two names become one, no word of the dialect is left among them, and only words become others): a reckoner of the code over data, shown right, and what it gives; conditions stand with each theorem. -/
import Derived.Test.YtlepjafokfhnfaaDoorA2
import Derived.Below
import Derived.Deep.Draws
import Derived.Deep.AppendLies
import Derived.Maps.AppendAt
import Derived.OwnWalk
import Derived.Laws.BytesArg
import Derived.Laws.MakeOwn
import Derived.Laws.OwnMore
import Derived.Deep.OwnRows
import Derived.Tactics
import Derived.Lib.ConvBytes
import Derived.Laws.Slices
import Derived.WalkKit
import Derived.KernelRfl
import Derived.RowKit3
import Derived.Deep.LoopGhost
import Derived.Deep.QuietTactic
import Derived.BigQuiet
import Derived.WideLaws
import Derived.Deep.DeepCutAuto
import Derived.Deep.CutBlock
import Derived.Deep.RegionHeld3
import Derived.Laws.Rows
import Derived.Lib.AppendStr
import Derived.ArgAppend
import Derived.Laws.IdiomCopy
import Derived.RowKit
import Derived.Shelf.Spec.SearchS
import Derived.Test.YtlepjafokfhnfaaDoorProg
import Derived.Lib.Hide
import Derived.Deep.DeepMust
import Derived.Maps.OwnSet
import Derived.Maps.Keyed
import Derived.StringKeys
import Derived.Test.YtlepjafokfhnfaaDoorRows
import Derived.Test.YtlepjafokfhnfaaDoorCards
import Derived.Test.YtlepjafokfhnfaaDoorTie
import Derived.ProofKit
import Derived.LaidMore
import Derived.SevenTiedAt
import Derived.Stop.Joined
import Derived.Lay
import Derived.OpenShut
import Derived.ShutString
import Derived.ChangeOld
import Derived.SizedLaws
import Derived.Lib.CutLaws
import Derived.Lib.SplitLaws
namespace Go.Proofs.YtlepjafokfhnfaaDoorW.PrintWords
end Go.Proofs.YtlepjafokfhnfaaDoorW.PrintWords
namespace Go.Proofs.YtlepjafokfhnfaaDoorW.PrintLast
end Go.Proofs.YtlepjafokfhnfaaDoorW.PrintLast
namespace Go.Proofs.YtlepjafokfhnfaaDoorW.PrintMore
end Go.Proofs.YtlepjafokfhnfaaDoorW.PrintMore
section
-- PRINTED BY print.sh 35421559b90ae4d0a3588c463048766b98c2df88dd9212a6774a882060cdf62d: not written by this session
-- PRINTED WORDS (module Derived/Print/Words.lean): go-wishes' parts 1 to 38 and go-gate-2's additions: AI agents of Go's test side, Mon Nov 16 2026; no person has read them. Plain theorems and definitions: no macro, no elab, no axiom.
set_option linter.unusedVariables false
set_option linter.unusedSimpArgs false
namespace Go.Proofs.YtlepjafokfhnfaaDoorW.PrintWords
open Go.RowKit
structure Drawn0 (w w' : World) : Prop where mk :: (out : ∃ n, w' = w.drewN n)
theorem Drawn0.refl (w : World) : Drawn0 w w := ⟨⟨0, rfl⟩⟩
theorem Drawn0.step {w w' : World} (h : Drawn0 w w') (n : Nat) : Drawn0 w (w'.drewN n) := by
  obtain ⟨m, rfl⟩ := h
  exact ⟨⟨m + n, World.drewN_drewN ..⟩⟩
theorem Drawn0.grown {w w' : World} (h : Drawn0 w w') : Grown w w' := by
  obtain ⟨n, rfl⟩ := h
  induction n with
  | zero => exact Grown.refl _
  | succ n ih => rw [← World.drew_drewN]; exact Grown.drew ih
theorem Drawn0.below {w w' : World} (h : Drawn0 w w') : Below w.heap.size w w' := by
  obtain ⟨n, rfl⟩ := h
  induction n with
  | zero => exact Below.refl _ _
  | succ n ih => rw [← World.drew_drewN]; exact ih.drew
def rd (xs : List Int) (i : Int) : Int := xs.getD i.toNat 0
def bt (s : ByteArray) (i : Int) : Int := if h : i.toNat < s.size then ((s[i.toNat]'h).toNat : Int) else 0
theorem bt_at (s : ByteArray) (i : Int) : ∀ h : i.toNat < s.size, ((s[i.toNat]'h).toNat : Int) = bt s i := fun h => by simp [bt, h]
theorem below_alloc {w W : World} (h : Below w.heap.size w W) (o : Obj) : Below w.heap.size w (W.alloc o) := h.alloc h.size o
theorem pw_below_drewN {B : Nat} {w W : World} (h : Below B w W) (n : Nat) : Below B w (W.drewN n) := ⟨h.os, h.tape, h.output, h.size, h.block⟩
theorem grown_of_below {w w1 : World} (h : Below w.heap.size w w1) (row : Option Nat) : w.grownBy w1 row := ⟨h.os, h.tape, h.output, h.size, fun i hi _ => h.block i hi⟩
theorem pw_cell_below {w w1 : World} (h : Below w.heap.size w w1) {a : Addr} {v : Value} (hc : w.cell? a = some v) : w1.cell? a = some v := (h.cell (World.block_lt_of_cell? w a hc)).trans hc
def ReadsInt (w : World) (k : IntKind) (A : Option Addr) (n : Nat) (xs : List Int) : Prop :=
  xs.length = n ∧ n ≤ 9223372036854775807 ∧ (0 < n → ∃ ad, A = some ad ∧ ∀ j, j < n → w.cell? (ad.add j) = some (.int k (xs.getD j 0)))
theorem ReadsInt.at_ {w : World} {k : IntKind} {A : Option Addr} {n : Nat} {xs : List Int} (h : ReadsInt w k A n xs) (i : Int) (h0 : 0 ≤ i) (h1 : i < n) : ∃ ad, A = some ad ∧ w.cell? (ad.add i.toNat) = some (.int k (rd xs i)) := by
  obtain ⟨ad, e, hc⟩ := h.2.2 (by omega)
  exact ⟨ad, e, hc _ (by omega)⟩
theorem ReadsInt.below {w w1 : World} {k : IntKind} {A : Option Addr} {n : Nat} {xs : List Int} (h : ReadsInt w k A n xs) (hb : Below w.heap.size w w1) : ReadsInt w1 k A n xs :=
  ⟨h.1, h.2.1, fun hn => by
    obtain ⟨ad, e, hc⟩ := h.2.2 hn
    exact ⟨ad, e, fun j hj => pw_cell_below hb (hc j hj)⟩⟩
theorem own_nil (W : World) (base : Nat) (e : TypeId) (size : Nat) : W.ownsRow base e size (.slice none 0 0) 0 [] := ⟨by simp, .inl ⟨rfl, rfl⟩⟩
theorem own_base {w : World} {base : Nat} {e : TypeId} {size n : Nat} {v : Value} {xs : List Value} (h : w.ownsRow base e size v n xs) (k : Nat) (hk : v.ownBlock = some k) : base ≤ k := by
  rcases h.2 with ⟨rfl, _⟩ | ⟨g, cap, cur, rfl, hb, _⟩
  · simp [Value.ownBlock] at hk
  · have : g = k := by simpa [Value.ownBlock] using hk
    omega
theorem own_lt {w : World} {base : Nat} {e : TypeId} {size n : Nat} {v : Value} {xs : List Value} (h : w.ownsRow base e size v n xs) (k : Nat) (hk : v.ownBlock = some k) : k < w.heap.size := by
  rcases h.2 with ⟨rfl, _⟩ | ⟨g, cap, cur, rfl, hb, hh, _⟩
  · simp [Value.ownBlock] at hk
  · have : g = k := by simpa [Value.ownBlock] using hk
    subst this
    exact (Array.getElem?_eq_some_iff.1 hh).1
theorem pw_own_below {w w1 : World} {base : Nat} {e : TypeId} {size n : Nat} {v : Value} {xs : List Value} (h : w.ownsRow base e size v n xs) (hb : Below w.heap.size w w1) : w1.ownsRow base e size v n xs :=
  h.kept (grown_of_below hb none) (by cases v.ownBlock <;> simp)
theorem own_other {w w1 : World} {base : Nat} {e : TypeId} {size n : Nat} {v : Value} {xs : List Value} (h : w.ownsRow base e size v n xs) {row : Option Nat} (hg : w.grownBy w1 row) (hne : v.ownBlock = none ∨ v.ownBlock ≠ row) : w1.ownsRow base e size v n xs := h.kept hg hne
section
variable {P : Program} {ops : Array Oper} {rest : List Oper} {o : Oper} {a : Act} {Q : Exit → Act → World → Prop}
end
section
variable {P : Program}
end
section
variable {P : Program} {ops : Array Oper} {rest : List Oper} {o : Oper} {a : Act} {Q : Exit → Act → World → Prop}
end
def LeO {α : Type} (a b : Option α) : Prop := ∀ r, a = some r → b = some r
theorem LeO.refl {α : Type} (a : Option α) : LeO a a := fun _ h => h
theorem LeO.none {α : Type} (b : Option α) : LeO Option.none b := fun _ h => by cases h
theorem LeO.trans {α : Type} {a b c : Option α} (h : LeO a b) (k : LeO b c) : LeO a c := fun r hr => k r (h r hr)
theorem LeO.ite {α : Type} {c : Prop} [Decidable c] {a a' b b' : Option α} (h : LeO a a') (k : LeO b b') : LeO (if c then a else b) (if c then a' else b') := by
  split
  · exact h
  · exact k
theorem LeO.bind {α β : Type} {a a' : Option α} {f f' : α → Option β} (h : LeO a a') (k : ∀ x, LeO (f x) (f' x)) : LeO (a.bind f) (a'.bind f') := by
  intro r hr
  obtain ⟨x, hx, hf⟩ := Option.bind_eq_some_iff.1 hr
  exact Option.bind_eq_some_iff.2 ⟨x, h x hx, k x r hf⟩
theorem LeO.map {α β : Type} {a a' : Option α} (f : α → β) (h : LeO a a') : LeO (a.map f) (a'.map f) := by
  intro r hr
  obtain ⟨x, hx, hf⟩ := Option.map_eq_some_iff.1 hr
  exact Option.map_eq_some_iff.2 ⟨x, h x hx, hf⟩
theorem more_rounds {α : Type} {g : Nat → Option α} (h : ∀ k, LeO (g k) (g (k + 1))) (k : Nat) : ∀ j, LeO (g k) (g (k + j))
  | 0 => LeO.refl _
  | j + 1 => (more_rounds h k j).trans (h (k + j))
theorem at_rounds {α : Type} {g : Nat → Option α} (h : ∀ k, LeO (g k) (g (k + 1))) {k k' : Nat} (hk : k ≤ k') {r : α} (hr : g k = some r) : g k' = some r := by
  have := more_rounds h k (k' - k) r hr
  rwa [Nat.add_sub_cancel' hk] at this
def Reps {α : Type} (R : α → List Value → Prop) (size : Nat) (ps : List α) (cs : List Value) : Prop :=
  cs.length = ps.length * size ∧ ∀ j p, ps[j]? = some p → R p ((cs.drop (j * size)).take size)
theorem Reps.none {α : Type} (R : α → List Value → Prop) (size : Nat) : Reps R size [] [] := ⟨by simp, fun j p h => by simp at h⟩
theorem Reps.snoc {α : Type} {R : α → List Value → Prop} {size : Nat} {ps : List α} {cs c : List Value} {p : α} (h : Reps R size ps cs) (hp : R p c) (hc : c.length = size) : Reps R size (ps ++ [p]) (cs ++ c) := by
  refine ⟨by rw [List.length_append, h.1, hc, List.length_append, List.length_singleton, Nat.add_mul, Nat.one_mul], fun j q hq => ?_⟩
  rcases Nat.lt_or_ge j ps.length with hj | hj
  · rw [List.getElem?_append_left hj] at hq
    have h1 : j * size + size ≤ cs.length := by rw [h.1, ← Nat.succ_mul]; exact Nat.mul_le_mul_right _ hj
    have h2 := h.2 j q hq
    rw [List.drop_append_of_le_length (by omega), List.take_append_of_le_length (by rw [List.length_drop]; omega)]
    exact h2
  · have hj' : j = ps.length := by
      have := (List.getElem?_eq_some_iff.1 hq).1
      rw [List.length_append, List.length_singleton] at this
      omega
    subst hj'
    have hq' : p = q := by simpa using hq
    subst hq'
    rw [← h.1, List.drop_left, ← hc, List.take_length]
    exact hp
theorem Reps.imp_ {α : Type} {R R' : α → List Value → Prop} {size : Nat} {ps : List α} {cs : List Value} (h : Reps R size ps cs) (hR : ∀ p c, R p c → R' p c) : Reps R' size ps cs := ⟨h.1, fun j p hj => hR _ _ (h.2 j p hj)⟩
def ReadsRow {α : Type} (R : α → List Value → Prop) (size : Nat) (w : World) (A : Option Addr) (n : Nat) (ps : List α) : Prop :=
  ps.length = n ∧ n ≤ 9223372036854775807 ∧ (0 < n → ∃ ad, A = some ad ∧ ∀ j p, ps[j]? = some p → ∃ c, c.length = size ∧ R p c ∧ ∀ i u, c[i]? = some u → w.cell? (ad.add (j * size + i)) = some u)
theorem ReadsRow.imp_ {α : Type} {R R' : α → List Value → Prop} {size : Nat} {w w1 : World} {A : Option Addr} {n : Nat} {ps : List α} (h : ReadsRow R size w A n ps) (hb : Below w.heap.size w w1) (hR : ∀ p c, R p c → R' p c) : ReadsRow R' size w1 A n ps :=
  ⟨h.1, h.2.1, fun hn => by
    obtain ⟨ad, e, hc⟩ := h.2.2 hn
    refine ⟨ad, e, fun j p hj => ?_⟩
    obtain ⟨c, hs, hr, hcell⟩ := hc j p hj
    exact ⟨c, hs, hR _ _ hr, fun i u hu => pw_cell_below hb (hcell i u hu)⟩⟩
theorem own_reads_row {α : Type} {R : α → List Value → Prop} {w : World} {base n size : Nat} {e : TypeId} {v : Value} {ps : List α} {cs : List Value} (h : w.ownsRow base e size v n cs) (hR : Reps R size ps cs) (hn : ps.length = n) :
    ∃ A c, v = .slice A n c ∧ ReadsRow R size w A n ps := by
  rcases Nat.eq_zero_or_pos n with h0 | h0
  · rcases h.2 with ⟨rfl, rfl⟩ | ⟨g, cap, cur, rfl, _⟩
    · exact ⟨none, 0, rfl, hn, by omega, fun hp => absurd hp (by omega)⟩
    · exact ⟨_, cap, rfl, hn, by omega, fun hp => absurd hp (by omega)⟩
  · obtain ⟨g, cap, rfl, _, _⟩ := h.form h0
    have hm : n ≤ 9223372036854775807 := by
      rcases h.2 with ⟨_, h1⟩ | ⟨g', cap', cur, he, _, _, h1, h2, _⟩
      · omega
      · simp only [maxLen] at h2
        omega
    refine ⟨_, cap, rfl, hn, hm, fun _ => ⟨_, rfl, fun j p hj => ⟨(cs.drop (j * size)).take size, ?_, hR.2 j p hj, fun i u hu => ?_⟩⟩⟩
    · have hjl := (List.getElem?_eq_some_iff.1 hj).1
      have h1 : j * size + size ≤ cs.length := by rw [hR.1, ← Nat.succ_mul]; exact Nat.mul_le_mul_right _ hjl
      rw [List.length_take, List.length_drop]
      omega
    · refine h.cells (g := g) rfl _ u ?_
      rw [List.getElem?_take] at hu
      split at hu
      · rw [List.getElem?_drop] at hu
        exact hu
      · cases hu
section
variable {P : Program} {ops : Array Oper} {rest : List Oper} {o : Oper} {a : Act} {Q : Exit → Act → World → Prop}
theorem print_append_cells {w0 W : World} (base : Nat) (hgd : o.guard = none) (s x : Operand) (t e : TypeId) (z : Value) (size bytes : Nat)
    (ho : o.op = .call { callee := .builtin .append, args := #[s, x], argTypes := #[t, t] })
    (ht : P.underlying t = some (.slice e)) (hinfo : (P.info? e).map (fun i => (i.zero, i.size, i.bytes)) = some (some z, size, bytes)) (hz : z.cells.size = size) (hs0 : 0 < size) (hb0 : 0 < bytes)
    (v : Value) (n : Nat) (xs ys : List Value) (hs : a.eval s = v) (hx : a.eval x = .slice (some ⟨W.heap.size, 0, none⟩) 1 1) (hys : ys.length = size) (h1 : ∀ u ∈ ys, u.oneCell' = true)
    (HO : W.ownsRow base e size v n xs) (HB : Below base w0 W) (hbase : base ≤ W.heap.size) (hl : (n + 1) * bytes ≤ 140737488355328)
    (h : ∀ v1 w1, w1.ownsRow base e size v1 (n + 1) (xs ++ ys) → Below base w0 w1 → W.grownBy w1 v.ownBlock → (v1.ownBlock = v.ownBlock ∨ ∃ b, v1.ownBlock = some b ∧ W.heap.size ≤ b) → wpList P ops Q rest (a.put o.dst v1) w1) :
    wpList P ops Q (o :: rest) a (W.alloc (.cells ys.toArray e)) := by
  obtain ⟨i0, hi, hzz⟩ := Option.map_eq_some_iff.1 hinfo
  simp only [Prod.mk.injEq] at hzz
  obtain ⟨hz0, hz1, hz2⟩ := hzz
  have hlen : n + 1 ≤ 140737488355328 := Nat.le_trans (Nat.le_mul_of_pos_right _ hb0) hl
  refine wpList_append_own_at (W.alloc (.cells ys.toArray e)) hgd s x t ho base e i0 z size bytes ht hi hz0 hz1 hz2 hz hs0 v n xs hs (HO.alloc _) ⟨W.heap.size, 0, none⟩ 1 1 ys hx (by rw [hys]; simp)
    (by simpa using World.news_of_block (cs := ys.toArray) (t := e) (fr := (0, 0)) (heap_alloc_new W (.cells ys.toArray e))) h1 (by simp only [maxLen]; omega) hl (by simp; omega) ?_
  intro v1 w1 hown hg _ hat
  refine h v1 w1 hown ((HB.alloc hbase _).grown hg (by simp; omega) (own_base HO)) (World.grownBy.trans (World.grownBy_alloc W _ _) hg) ?_
  rcases hat with hat | hat
  · exact .inl hat
  · exact .inr ⟨_, hat, by simp⟩
end
theorem own_ne {w : World} {base : Nat} {e t : TypeId} {size n g : Nat} {v : Value} {xs : List Value} {cs : Array Value} (h : w.ownsRow base e size v n xs) (hg : w.heap[g]? = some (.cells cs t (0, 0))) (hne : e ≠ t) : some g ≠ v.ownBlock := by
  rcases h.2 with ⟨rfl, _⟩ | ⟨g', cap, cur, rfl, _, hh, _⟩
  · simp [Value.ownBlock]
  · intro he
    have : g = g' := by simpa [Value.ownBlock] using he
    subst this
    rw [hg] at hh
    injection hh with hh
    injection hh with _ ht
    exact hne ht.symm
theorem blk_lt {w : World} {g : Nat} {o : Obj} (h : w.heap[g]? = some o) : g < w.heap.size := (Array.getElem?_eq_some_iff.1 h).1
def KeepBut (w w' : World) (g : Nat) (row : Option Nat) : Prop := w.heap.size ≤ w'.heap.size ∧ ∀ i, i < w.heap.size → i ≠ g → some i ≠ row → w'.heap[i]? = w.heap[i]?
theorem KeepBut.refl (w : World) (g : Nat) (row : Option Nat) : KeepBut w w g row := ⟨Nat.le_refl _, fun _ _ _ _ => rfl⟩
theorem KeepBut.trans {w w1 w2 : World} {g : Nat} {row row1 : Option Nat} (h : KeepBut w w1 g row) (k : KeepBut w1 w2 g row1) (hr : row1 = row ∨ ∃ b, row1 = some b ∧ w.heap.size ≤ b) : KeepBut w w2 g row :=
  ⟨Nat.le_trans h.1 k.1, fun i hi hg hn => by
    refine (k.2 i (Nat.lt_of_lt_of_le hi h.1) hg ?_).trans (h.2 i hi hg hn)
    rcases hr with rfl | ⟨b, rfl, hb⟩
    · exact hn
    · intro e
      injection e with e
      omega⟩
theorem KeepBut.blk {w w1 : World} {g g' : Nat} {row : Option Nat} {o : Obj} (h : KeepBut w w1 g row) (hb : w.heap[g']? = some o) (hg : g' ≠ g) (hr : some g' ≠ row) : w1.heap[g']? = some o := (h.2 g' (blk_lt hb) hg hr).trans hb
theorem KeepBut.own {w w1 : World} {g : Nat} {row : Option Nat} {base : Nat} {e : TypeId} {size n : Nat} {v : Value} {xs : List Value} (h : KeepBut w w1 g row) (ho : w.ownsRow base e size v n xs) (hg : v.ownBlock ≠ some g) (hr : v.ownBlock = none ∨ v.ownBlock ≠ row) : w1.ownsRow base e size v n xs := by
  obtain ⟨h1, h2⟩ := ho
  refine ⟨h1, ?_⟩
  rcases h2 with h2 | ⟨b, cap, cur, rfl, hb, hh, r⟩
  · exact .inl h2
  · refine .inr ⟨b, cap, cur, rfl, hb, h.blk hh ?_ ?_, r⟩
    · intro e
      exact hg (by rw [← e]; rfl)
    · rcases hr with hr | hr
      · simp [Value.ownBlock] at hr
      · exact hr
def Ev {α : Type} (g : Nat → Option α) (r : α) : Prop := ∃ K, ∀ k, K ≤ k → g k = some r
theorem Ev.of {α : Type} {g : Nat → Option α} {r : α} (hg : ∀ k, LeO (g k) (g (k + 1))) {k : Nat} (h : g k = some r) : Ev g r := ⟨k, fun _ hk => at_rounds hg hk h⟩
theorem Ev.now {α : Type} (r : α) : Ev (fun _ => some r) r := ⟨0, fun _ _ => rfl⟩
theorem Ev.rounds {α : Type} {g : Nat → Option α} {r : α} (h : Ev g r) : ∃ k, g k = some r := by
  obtain ⟨K, h⟩ := h
  exact ⟨K, h K (Nat.le_refl _)⟩
theorem Ev.bind {α β : Type} {g : Nat → Option α} {f : Nat → α → Option β} {a : α} {r : β} (h : Ev g a) (k : Ev (fun n => f n a) r) : Ev (fun n => (g n).bind (f n)) r := by
  obtain ⟨K, h⟩ := h
  obtain ⟨K', k⟩ := k
  refine ⟨max K K', fun n hn => ?_⟩
  have h1 := h n (by omega)
  have h2 := k n (by omega)
  simp only [h1, Option.bind_some]
  exact h2
theorem Ev.step {α : Type} {g f : Nat → Option α} {r : α} (h : ∀ k, g (k + 1) = f k) (k : Ev f r) : Ev g r := by
  obtain ⟨K, k⟩ := k
  refine ⟨K + 1, fun n hn => ?_⟩
  obtain ⟨m, rfl⟩ : ∃ m, n = m + 1 := ⟨n - 1, by omega⟩
  rw [h]
  exact k m (by omega)
theorem Ev.congr {α : Type} {g f : Nat → Option α} {r : α} (h : ∀ k, g k = f k) (k : Ev f r) : Ev g r := by
  obtain ⟨K, k⟩ := k
  exact ⟨K, fun n hn => (h n).trans (k n hn)⟩
section
variable {P : Program} {ops : Array Oper} {o : Oper} {a : Act} {Q : Exit → Act → World → Prop} {K : Act → World → Prop}
end
theorem own_weaken {w : World} {base base' : Nat} {e : TypeId} {size n : Nat} {v : Value} {xs : List Value} (h : w.ownsRow base e size v n xs) (hb : base' ≤ base) : w.ownsRow base' e size v n xs := by
  obtain ⟨h1, h2⟩ := h
  refine ⟨h1, ?_⟩
  rcases h2 with h2 | ⟨g, cap, cur, rfl, hg, r⟩
  · exact .inl h2
  · exact .inr ⟨g, cap, cur, rfl, Nat.le_trans hb hg, r⟩
section
variable {α : Type} {enc : α → Value} {d : α}
def rdOf (d : α) (xs : List α) (i : Int) : α := xs.getD i.toNat d
def ReadsOf (enc : α → Value) (d : α) (w : World) (A : Option Addr) (n : Nat) (xs : List α) : Prop :=
  xs.length = n ∧ n ≤ 9223372036854775807 ∧ (0 < n → ∃ ad, A = some ad ∧ ∀ j, j < n → w.cell? (ad.add j) = some (enc (xs.getD j d)))
theorem ReadsOf.at_ {w : World} {A : Option Addr} {n : Nat} {xs : List α} (h : ReadsOf enc d w A n xs) (i : Int) (h0 : 0 ≤ i) (h1 : i < n) : ∃ ad, A = some ad ∧ w.cell? (ad.add i.toNat) = some (enc (rdOf d xs i)) := by
  obtain ⟨ad, e, hc⟩ := h.2.2 (by omega)
  exact ⟨ad, e, hc _ (by omega)⟩
theorem ReadsOf.below {w w1 : World} {A : Option Addr} {n : Nat} {xs : List α} (h : ReadsOf enc d w A n xs) (hb : Below w.heap.size w w1) : ReadsOf enc d w1 A n xs :=
  ⟨h.1, h.2.1, fun hn => by
    obtain ⟨ad, e, hc⟩ := h.2.2 hn
    exact ⟨ad, e, fun j hj => pw_cell_below hb (hc j hj)⟩⟩
end
section
variable {α : Type} {P : Program} {ops : Array Oper} {rest : List Oper} {o : Oper} {a : Act} {Q : Exit → Act → World → Prop}
end
section
variable {P : Program}
end
theorem own_le {w : World} {base n m c size : Nat} {e : TypeId} {A : Option Addr} {xs : List Value} (h : w.ownsRow base e size (.slice A m c) n xs) : m ≤ c := by
  rcases h.2 with ⟨he, _⟩ | ⟨g, cap, cur, he, _, _, hnc, _⟩
  · injection he with _ h2 h3
    omega
  · injection he with _ h2 h3
    omega
def OwnRow {α : Type} (R : α → List Value → Prop) (e : TypeId) (size : Nat) (w : World) (base : Nat) (v : Value) (ps : List α) : Prop :=
  ∃ inner, w.ownsRow base e size v ps.length inner ∧ Reps R size ps inner
section
variable {α : Type} {R R' : α → List Value → Prop} {e : TypeId} {size : Nat} {w w1 : World} {base : Nat} {v : Value} {ps : List α}
theorem OwnRow.none_ (R : α → List Value → Prop) (e : TypeId) (size : Nat) (w : World) (base : Nat) : OwnRow R e size w base (.slice none 0 0) [] := ⟨[], own_nil _ _ _ _, Reps.none _ _⟩
theorem OwnRow.imp_ (h : OwnRow R e size w base v ps) (hR : ∀ p c, R p c → R' p c) : OwnRow R' e size w base v ps := by
  obtain ⟨inner, ho, hr⟩ := h
  exact ⟨inner, ho, hr.imp_ hR⟩
theorem OwnRow.below (h : OwnRow R e size w base v ps) (hb : Below w.heap.size w w1) : OwnRow R e size w1 base v ps := by
  obtain ⟨inner, ho, hr⟩ := h
  exact ⟨inner, pw_own_below ho hb, hr⟩
theorem OwnRow.other (h : OwnRow R e size w base v ps) {row : Option Nat} (hg : w.grownBy w1 row) (hne : v.ownBlock = none ∨ v.ownBlock ≠ row) : OwnRow R e size w1 base v ps := by
  obtain ⟨inner, ho, hr⟩ := h
  exact ⟨inner, own_other ho hg hne, hr⟩
theorem OwnRow.keep (h : OwnRow R e size w base v ps) {g : Nat} {t : TypeId} {cells : Array Value} (hb : w.heap[g]? = some (.cells cells t (0, 0))) (ht : e ≠ t) (hk : KeepBut w w1 g none) : OwnRow R e size w1 base v ps := by
  obtain ⟨inner, ho, hr⟩ := h
  exact ⟨inner, hk.own ho (Ne.symm (own_ne ho hb ht)) (by cases v.ownBlock <;> simp), hr⟩
theorem OwnRow.reads (h : OwnRow R e size w base v ps) : ∃ A c, v = .slice A ps.length c ∧ ps.length ≤ c ∧ ReadsRow R size w A ps.length ps := by
  obtain ⟨inner, ho, hr⟩ := h
  obtain ⟨A, c, rfl, hrow⟩ := own_reads_row ho hr rfl
  exact ⟨A, c, rfl, own_le ho, hrow⟩
theorem OwnRow.lit (W : World) (base : Nat) {inner : List Value} (hr : Reps R size ps inner) (hb : base ≤ W.heap.size) (hm : ps.length ≤ 9223372036854775807) :
    OwnRow R e size (W.alloc (.cells inner.toArray e)) base (.slice (some ⟨W.heap.size, 0, none⟩) ps.length ps.length) ps := by
  have h := World.ownsRow_lit (base := base) (e := e) (size := size) W inner.toArray ps.length hb (by simpa [maxLen] using hm) (by simpa using hr.1)
  exact ⟨inner, by simpa using h, hr⟩
end
section
variable {P : Program} {ops : Array Oper} {rest : List Oper} {o : Oper} {a : Act} {Q : Exit → Act → World → Prop} {α : Type} {R : α → List Value → Prop}
theorem OwnRow.append {w0 W : World} (base : Nat) (hgd : o.guard = none) (s x : Operand) (t e : TypeId) (z : Value) (size bytes : Nat)
    (ho : o.op = .call { callee := .builtin .append, args := #[s, x], argTypes := #[t, t] })
    (ht : P.underlying t = some (.slice e)) (hinfo : (P.info? e).map (fun i => (i.zero, i.size, i.bytes)) = some (some z, size, bytes)) (hz : z.cells.size = size) (hs0 : 0 < size) (hb0 : 0 < bytes)
    (v : Value) (ps : List α) (p : α) (cs : List Value) (hs : a.eval s = v) (hx : a.eval x = .slice (some ⟨W.heap.size, 0, none⟩) 1 1) (hp : R p cs) (hcs : cs.length = size) (h1 : ∀ u ∈ cs, u.oneCell' = true)
    (HO : OwnRow R e size W base v ps) (HB : Below base w0 W) (hbase : base ≤ W.heap.size) (hl : (ps.length + 1) * bytes ≤ 140737488355328)
    (h : ∀ v1 w1, OwnRow R e size w1 base v1 (ps ++ [p]) → Below base w0 w1 → W.grownBy w1 v.ownBlock → (v1.ownBlock = v.ownBlock ∨ ∃ b, v1.ownBlock = some b ∧ W.heap.size ≤ b) → wpList P ops Q rest (a.put o.dst v1) w1) :
    wpList P ops Q (o :: rest) a (W.alloc (.cells cs.toArray e)) := by
  obtain ⟨inner, hown, hr⟩ := HO
  refine print_append_cells base hgd s x t e z size bytes ho ht hinfo hz hs0 hb0 v ps.length inner cs hs hx hcs h1 hown HB hbase hl ?_
  intro v1 w1 hown1 hb1 hg1 hat1
  exact h v1 w1 ⟨inner ++ cs, by rw [List.length_append, List.length_singleton]; exact hown1, hr.snoc hp hcs⟩ hb1 hg1 hat1
end
section
variable {P : Program} {ops : Array Oper} {o : Oper} {a : Act} {Q : Exit → Act → World → Prop} {K : Act → World → Prop} {α : Type} {R : α → List Value → Prop}
end
section
variable {α : Type} {P : Program}
theorem ReadsOf.len_ {enc : α → Value} {d : α} {w : World} {A : Option Addr} {n : Nat} {xs : List α} (h : ReadsOf enc d w A n xs) : ReadsOf enc d w A xs.length xs := by rw [h.1]; exact h
end
section
variable {P : Program} {ops : Array Oper} {rest : List Oper} {o : Oper} {a : Act} {Q : Exit → Act → World → Prop}
end
structure Kd (α : Type) where
  sz : Nat
  E : List Nat
  K : World → α → List Value → Prop
  M : World → Nat → (Nat → Prop) → α → List Value → Prop
  K_len : ∀ {w x cs}, K w x cs → cs.length = sz
  K_one : ∀ {w x cs}, K w x cs → ∀ u ∈ cs, u.oneCell' = true
  K_below : ∀ {w w1 : World} {x cs}, Below w.heap.size w w1 → K w x cs → K w1 x cs
  K_of_M : ∀ {w base ok x cs}, M w base ok x cs → K w x cs
  M_mono : ∀ {w base ok ok' x cs}, (∀ k, ok k → ok' k) → M w base ok x cs → M w base ok' x cs
  M_bound : ∀ {w : World} {base ok x cs}, M w base ok x cs → M w base (fun k => ok k ∧ base ≤ k ∧ k < w.heap.size ∧ ∃ q, q ∈ E ∧ ∃ cells, w.heap[k]? = some (.cells cells q (0, 0))) x cs
  M_move : ∀ {w w1 : World} {base ok x cs}, (∀ k, ok k → w1.heap[k]? = w.heap[k]?) → M w base ok x cs → M w1 base ok x cs
  M_lower : ∀ {w base base' ok x cs}, base' ≤ base → M w base ok x cs → M w base' ok x cs
theorem own_move {w w1 : World} {base : Nat} {e : TypeId} {size n : Nat} {v : Value} {xs : List Value} (h : w.ownsRow base e size v n xs) (hm : ∀ k, v.ownBlock = some k → w1.heap[k]? = w.heap[k]?) : w1.ownsRow base e size v n xs := by
  obtain ⟨h1, h2⟩ := h
  refine ⟨h1, ?_⟩
  rcases h2 with h2 | ⟨g, cap, cur, rfl, hg, hh, r⟩
  · exact .inl h2
  · exact .inr ⟨g, cap, cur, rfl, hg, (hm g (by simp [Value.ownBlock])).trans hh, r⟩
theorem own_typed {w : World} {base : Nat} {e : TypeId} {size n : Nat} {v : Value} {xs : List Value} (h : w.ownsRow base e size v n xs) (k : Nat) (hk : v.ownBlock = some k) : ∃ cells, w.heap[k]? = some (.cells cells e (0, 0)) := by
  rcases h.2 with ⟨rfl, _⟩ | ⟨g, cap, cur, rfl, hg, hh, r⟩
  · simp [Value.ownBlock] at hk
  · have : g = k := by simpa [Value.ownBlock] using hk
    subst this
    exact ⟨cur, hh⟩
namespace Kd
def C {α : Type} (d : Kd α) (w : World) (A : Option Addr) (n : Nat) (xs : List α) : Prop := ReadsRow (d.K w) d.sz w A n xs
def R {α : Type} (d : Kd α) (e : Nat) (w : World) (base : Nat) (ok : Nat → Prop) (v : Value) (xs : List α) : Prop :=
  (∀ k, v.ownBlock = some k → ok k) ∧ OwnRow (d.M w base (fun k => ok k ∧ some k ≠ v.ownBlock)) e d.sz w base v xs
section
variable {α : Type} {d : Kd α} {e : Nat} {w w1 : World} {base : Nat} {ok ok' : Nat → Prop} {v : Value} {xs : List α}
theorem C_below {A : Option Addr} {n : Nat} (h : d.C w A n xs) (hb : Below w.heap.size w w1) : d.C w1 A n xs := ReadsRow.imp_ h hb (fun _ _ hp => d.K_below hb hp)
theorem R_nil (d : Kd α) (e : Nat) (w : World) (base : Nat) (ok : Nat → Prop) : d.R e w base ok (.slice none 0 0) [] := ⟨fun k hk => by simp [Value.ownBlock] at hk, OwnRow.none_ _ _ _ _ _⟩
theorem R_mono (h : d.R e w base ok v xs) (hok : ∀ k, ok k → ok' k) : d.R e w base ok' v xs := ⟨fun k hk => hok k (h.1 k hk), h.2.imp_ (fun _ _ hp => d.M_mono (fun k hk => ⟨hok k hk.1, hk.2⟩) hp)⟩
theorem R_bound (h : d.R e w base ok v xs) : d.R e w base (fun k => ok k ∧ base ≤ k ∧ k < w.heap.size ∧ ∃ q, q ∈ e :: d.E ∧ ∃ cells, w.heap[k]? = some (.cells cells q (0, 0))) v xs := by
  obtain ⟨h0, inner, ho, hr⟩ := h
  refine ⟨fun k hk => ?_, inner, ho, hr.imp_ (fun _ _ hp => d.M_mono (fun k hk => ?_) (d.M_bound hp))⟩
  · obtain ⟨cells, hc⟩ := own_typed ho k hk
    exact ⟨h0 k hk, own_base ho k hk, own_lt ho k hk, e, List.mem_cons_self, cells, hc⟩
  · obtain ⟨⟨h1, h2⟩, h3, h4, q, hq, hc⟩ := hk
    exact ⟨⟨h1, h3, h4, q, List.mem_cons_of_mem _ hq, hc⟩, h2⟩
theorem R_move (h : d.R e w base ok v xs) (hm : ∀ k, ok k → w1.heap[k]? = w.heap[k]?) : d.R e w1 base ok v xs := by
  obtain ⟨h0, inner, ho, hr⟩ := h
  exact ⟨h0, inner, own_move ho (fun k hk => hm k (h0 k hk)), hr.imp_ (fun _ _ hp => d.M_move (fun k hk => hm k hk.1) hp)⟩
theorem R_lower {base' : Nat} (h : d.R e w base ok v xs) (hb : base' ≤ base) : d.R e w base' ok v xs := by
  obtain ⟨h0, inner, ho, hr⟩ := h
  exact ⟨h0, inner, own_weaken ho hb, hr.imp_ (fun _ _ hp => d.M_lower hb hp)⟩
theorem R_step (h : d.R e w base ok v xs) (hm : ∀ k, ok k → k < w.heap.size → w1.heap[k]? = w.heap[k]?) : d.R e w1 base ok v xs :=
  R_mono (R_move (R_bound h) (fun k hk => hm k hk.1 hk.2.2.1)) (fun _ hk => hk.1)
theorem R_below (h : d.R e w base ok v xs) (hb : Below w.heap.size w w1) : d.R e w1 base ok v xs := R_step h (fun k _ hk => hb.block k hk)
theorem R_reads (h : d.R e w base ok v xs) : ∃ A c, v = .slice A xs.length c ∧ xs.length ≤ c ∧ d.C w A xs.length xs := by
  obtain ⟨A, c, he, hl, hr⟩ := OwnRow.reads h.2
  exact ⟨A, c, he, hl, hr.imp_ (Below.refl _ _) (fun _ _ hp => d.K_of_M hp)⟩
theorem R_own (h : d.R e w base ok v xs) : ∃ inner, w.ownsRow base e d.sz v xs.length inner := by
  obtain ⟨_, inner, ho, _⟩ := h
  exact ⟨inner, ho⟩
end
def scalar {α : Type} (enc : α → Value) (h1 : ∀ x, (enc x).oneCell' = true) : Kd α where
  sz := 1
  E := []
  K := fun _ x cs => cs = [enc x]
  M := fun _ _ _ x cs => cs = [enc x]
  K_len := fun h => by rw [h]; rfl
  K_one := fun h u hu => by
    rw [h] at hu
    rw [List.mem_singleton.1 hu]
    exact h1 _
  K_below := fun _ h => h
  K_of_M := fun h => h
  M_mono := fun _ h => h
  M_bound := fun h => h
  M_move := fun _ h => h
  M_lower := fun _ h => h
def int (k : IntKind) : Kd Int := scalar (Value.int k) (fun _ => rfl)
def bool : Kd Bool := scalar Value.bool (fun _ => rfl)
def string : Kd ByteArray := scalar Value.string (fun _ => rfl)
def slice {α : Type} (e : Nat) (d : Kd α) : Kd (List α) where
  sz := 1
  E := e :: d.E
  K := fun w xs cs => ∃ A c, cs = [.slice A xs.length c] ∧ xs.length ≤ c ∧ d.C w A xs.length xs
  M := fun w base ok xs cs => ∃ v, cs = [v] ∧ d.R e w base ok v xs
  K_len := by
    rintro w x cs ⟨A, c, rfl, _⟩
    rfl
  K_one := by
    rintro w x cs ⟨A, c, rfl, _⟩ u hu
    rw [List.mem_singleton.1 hu]
    rfl
  K_below := by
    rintro w w1 x cs hb ⟨A, c, rfl, hl, hr⟩
    exact ⟨A, c, rfl, hl, C_below hr hb⟩
  K_of_M := by
    rintro w base ok x cs ⟨v, rfl, h⟩
    obtain ⟨A, c, rfl, hl, hr⟩ := R_reads h
    exact ⟨A, c, rfl, hl, hr⟩
  M_mono := by
    rintro w base ok ok' x cs hok ⟨v, rfl, h⟩
    exact ⟨v, rfl, R_mono h hok⟩
  M_bound := by
    rintro w base ok x cs ⟨v, rfl, h⟩
    exact ⟨v, rfl, R_bound h⟩
  M_move := by
    rintro w w1 base ok x cs hm ⟨v, rfl, h⟩
    exact ⟨v, rfl, R_move h hm⟩
  M_lower := by
    rintro w base base' ok x cs hb ⟨v, rfl, h⟩
    exact ⟨v, rfl, R_lower h hb⟩
def bot {α : Type} (sz : Nat) (E : List Nat) : Kd α where
  sz := sz
  E := E
  K := fun _ _ _ => False
  M := fun _ _ _ _ _ => False
  K_len := fun h => h.elim
  K_one := fun h => h.elim
  K_below := fun _ h => h
  K_of_M := fun h => h
  M_mono := fun _ h => h
  M_bound := fun h => h
  M_move := fun _ h => h
  M_lower := fun _ h => h
def upto {α : Type} (F : Kd α → Kd α) (sz : Nat) (E : List Nat) : Nat → Kd α
  | 0 => bot sz E
  | n + 1 => F (upto F sz E n)
theorem R_appended {α : Type} {d : Kd α} {e base : Nat} {ok okp : Nat → Prop} {W w1 : World} {v v1 : Value} {xs : List α} {p : α} {inner cs : List Value} (h0 : ∀ k, v.ownBlock = some k → ok k) (hr : Reps (d.M W base (fun k => ok k ∧ some k ≠ v.ownBlock)) d.sz xs inner) (hp : d.M W base okp p cs) (hokp : ∀ k, okp k → ok k ∧ some k ≠ v.ownBlock) (hfresh : ∀ k, W.heap.size ≤ k → ok k)
    (hown : w1.ownsRow base e d.sz v1 (xs.length + 1) (inner ++ cs)) (hg : W.grownBy w1 v.ownBlock) (hat : v1.ownBlock = v.ownBlock ∨ ∃ b, v1.ownBlock = some b ∧ W.heap.size ≤ b) : d.R e w1 base ok v1 (xs ++ [p]) := by
  have hne : ∀ k, some k ≠ v.ownBlock → k < W.heap.size → some k ≠ v1.ownBlock := by
    intro k hk hlt
    rcases hat with hat | ⟨b, hb, hle⟩
    · rw [hat]; exact hk
    · rw [hb]
      intro he
      injection he with he
      omega
  have step : ∀ {q : α} {c : List Value} {o : Nat → Prop}, d.M W base o q c → (∀ k, o k → ok k ∧ some k ≠ v.ownBlock) → d.M w1 base (fun k => ok k ∧ some k ≠ v1.ownBlock) q c := by
    intro q c o hq ho
    have h1 := d.M_move (w1 := w1) (fun k hk => hg.block k hk.2.2.1 (ho k hk.1).2) (d.M_bound hq)
    exact d.M_mono (fun k hk => ⟨(ho k hk.1).1, hne k (ho k hk.1).2 hk.2.2.1⟩) h1
  refine ⟨fun k hk => ?_, inner ++ cs, by rw [List.length_append, List.length_singleton]; exact hown, ?_⟩
  · rcases hat with hat | ⟨b, hb, hle⟩
    · exact h0 k (hat ▸ hk)
    · rw [hb] at hk
      injection hk with hk
      exact hfresh k (by omega)
  · exact (hr.imp_ (fun _ _ hq => step hq (fun _ hk => hk))).snoc (step hp hokp) (d.K_len (d.K_of_M hp))
section
variable {P : Program} {ops : Array Oper} {rest : List Oper} {o : Oper} {a : Act} {Q : Exit → Act → World → Prop} {α : Type}
theorem R_append (d : Kd α) {w0 W : World} (base : Nat) (hgd : o.guard = none) (s x : Operand) (t e : TypeId) (z : Value) (bytes : Nat)
    (ho : o.op = .call { callee := .builtin .append, args := #[s, x], argTypes := #[t, t] })
    (ht : P.underlying t = some (.slice e)) (hinfo : (P.info? e).map (fun i => (i.zero, i.size, i.bytes)) = some (some z, d.sz, bytes)) (hz : z.cells.size = d.sz) (hs0 : 0 < d.sz) (hb0 : 0 < bytes)
    (v : Value) (xs : List α) (p : α) (cs : List Value) (ok okp : Nat → Prop) (hs : a.eval s = v) (hx : a.eval x = .slice (some ⟨W.heap.size, 0, none⟩) 1 1) (hp : d.M W base okp p cs) (hokp : ∀ k, okp k → ok k ∧ some k ≠ v.ownBlock) (hfresh : ∀ k, W.heap.size ≤ k → ok k)
    (HO : d.R e W base ok v xs) (HB : Below base w0 W) (hbase : base ≤ W.heap.size) (hl : (xs.length + 1) * bytes ≤ 140737488355328)
    (h : ∀ v1 w1, d.R e w1 base ok v1 (xs ++ [p]) → Below base w0 w1 → W.grownBy w1 v.ownBlock → (v1.ownBlock = v.ownBlock ∨ ∃ b, v1.ownBlock = some b ∧ W.heap.size ≤ b) → wpList P ops Q rest (a.put o.dst v1) w1) :
    wpList P ops Q (o :: rest) a (W.alloc (.cells cs.toArray e)) := by
  obtain ⟨h0, inner, hown, hr⟩ := HO
  refine print_append_cells base hgd s x t e z d.sz bytes ho ht hinfo hz hs0 hb0 v xs.length inner cs hs hx (d.K_len (d.K_of_M hp)) (d.K_one (d.K_of_M hp)) hown HB hbase hl ?_
  intro v1 w1 hown1 hb1 hg1 hat1
  exact h v1 w1 (R_appended h0 hr hp hokp hfresh hown1 hg1 hat1) hb1 hg1 hat1
end
section
variable {P : Program} {ops : Array Oper} {o : Oper} {a : Act} {Q : Exit → Act → World → Prop} {Kc : Act → World → Prop} {α : Type}
end
theorem reads_of_C {α : Type} {enc : α → Value} {d : α} {h1 : ∀ x, (enc x).oneCell' = true} {w : World} {A : Option Addr} {n : Nat} {xs : List α} (h : (scalar enc h1).C w A n xs) : ReadsOf enc d w A n xs := by
  refine ⟨h.1, h.2.1, fun hn => ?_⟩
  obtain ⟨ad, e, hc⟩ := h.2.2 hn
  refine ⟨ad, e, fun j hj => ?_⟩
  have hl : j < xs.length := by have := h.1; omega
  obtain ⟨c, _, hK, hcell⟩ := hc j _ (List.getElem?_eq_getElem hl)
  have hK' : c = [enc xs[j]] := hK
  subst hK'
  have := hcell 0 _ rfl
  simpa [scalar, List.getD_eq_getElem?_getD, List.getElem?_eq_getElem hl] using this
end Kd
namespace Kd
def Sub {α β : Type} (F : Kd α → Kd β) (E : List Nat) : Prop := ∀ d : Kd α, (∀ q, q ∈ d.E → q ∈ E) → ∀ q, q ∈ (F d).E → q ∈ E
section
variable {α : Type} {F : Kd α → Kd α} {sz : Nat} {E : List Nat} {hs : ∀ n, (upto F sz E n).sz = sz} {hE : ∀ n q, q ∈ (upto F sz E n).E → q ∈ E}
end
end Kd
namespace Kd
end Kd
namespace Kd
section
variable {α β : Type} {d : Kd α} {d' : Kd β} {e e' : Nat} {w w1 W : World} {base b b' : Nat} {ok ok' okv oku : Nat → Prop} {v u : Value} {xs : List α} {ys : List β}
theorem R_alloc (h : d.R e w base ok v xs) (o : Obj) : d.R e (w.alloc o) base ok v xs := R_below h (below_alloc (Below.refl _ _) o)
end
section
variable {w W : World} {A : Option Addr} {n : Nat}
theorem at_string {xs : List ByteArray} (h : Kd.string.C w A n xs) (i : Int) (h0 : 0 ≤ i) (h1 : i < n) : ∃ ad, A = some ad ∧ w.cell? (ad.add i.toNat) = some (.string (rdOf ByteArray.empty xs i)) :=
  ReadsOf.at_ (reads_of_C (enc := Value.string) (d := ByteArray.empty) (h1 := fun _ => rfl) h) i h0 h1
variable {α : Type} {enc : α → Value} {h1 : ∀ x, (enc x).oneCell' = true} {e base g cap : Nat} {ok : Nat → Prop} {xs : List α}
end
section
variable {P : Program} {ops : Array Oper} {rest : List Oper} {o : Oper} {a : Act} {Q : Exit → Act → World → Prop}
variable {α : Type}
end
end Kd
section
variable {P : Program}
end
def QRow (w : World) (base : Nat) (e : TypeId) (size : Nat) (v : Value) (n : Nat) (xs : List Value) : Prop :=
  xs.length = n * size ∧
  ((n = 0 ∧ ∃ A, v = .slice A 0 0 ∧ ∀ a, A = some a → base ≤ a.block ∧ ∃ cur, w.heap[a.block]? = some (.cells cur e (0, 0))) ∨
   ∃ g off cap cur, v = .slice (some ⟨g, off * size, none⟩) n cap ∧ base ≤ g ∧ w.heap[g]? = some (.cells cur e (0, 0)) ∧ n ≤ cap ∧ off + cap ≤ maxLen ∧ cur.size = (off + cap) * size ∧ (cur.toList.drop (off * size)).take (n * size) = xs)
section
variable {w w1 : World} {base n size : Nat} {e : TypeId} {v : Value} {xs : List Value}
theorem add_at (g o j : Nat) : (⟨g, o, none⟩ : Addr).add j = ⟨g, o + j, none⟩ := by unfold Addr.add; split <;> simp_all
end
section
variable {P : Program}
end
namespace Kd
def Q {α : Type} (d : Kd α) (e : Nat) (w : World) (base : Nat) (ok : Nat → Prop) (v : Value) (xs : List α) : Prop :=
  (∀ k, v.ownBlock = some k → ok k) ∧ ∃ inner, QRow w base e d.sz v xs.length inner ∧ Reps (d.M w base (fun k => ok k ∧ some k ≠ v.ownBlock)) d.sz xs inner
section
variable {α : Type} {d : Kd α} {e : Nat} {w w1 W : World} {base : Nat} {ok ok' : Nat → Prop} {v : Value} {xs : List α}
end
section
variable {P : Program} {ops : Array Oper} {rest : List Oper} {o : Oper} {a : Act} {Q' : Exit → Act → World → Prop} {Kc : Act → World → Prop} {α : Type}
end
end Kd
namespace Kd
section
variable {α : Type} {d : Kd α} {e e' : Nat} {w w1 W : World} {base : Nat} {ok : Nat → Prop} {u v : Value} {xs : List α}
end
end Kd
namespace Kd
section
variable {α : Type} {d : Kd α} {e base g n cap : Nat} {ok okp : Nat → Prop} {W : World} {xs : List α}
end
end Kd
namespace Kd
section
variable {α : Type} {F : Kd α → Kd α} {sz : Nat} {E : List Nat} {hs : ∀ n, (upto F sz E n).sz = sz} {hE : ∀ n q, q ∈ (upto F sz E n).E → q ∈ E}
end
end Kd
namespace Kd
section
variable {P : Program} {ops : Array Oper} {rest : List Oper} {o : Oper} {a : Act} {Q : Exit → Act → World → Prop} {α : Type}
end
end Kd
namespace Kd
section
variable {P : Program} {ops : Array Oper} {rest : List Oper} {o : Oper} {a : Act} {Q : Exit → Act → World → Prop} {α : Type}
end
end Kd
theorem add_add (a : Addr) (i j : Nat) : (a.add i).add j = a.add (i + j) := by
  unfold Addr.add
  by_cases h1 : i = 0 <;> by_cases h2 : j = 0 <;> simp [h1, h2, Nat.add_assoc]
namespace Kd
section
variable {α : Type} {k : Kd α} {w : World} {A : Option Addr} {xs : List α} {m c : Nat}
end
end Kd
section
variable {P : Program}
end
theorem ReadsInt.nil (W : World) (k : IntKind) : ReadsInt W k none ([] : List Int).length [] := ⟨rfl, by simp, fun h => absurd h (Nat.lt_irrefl 0)⟩
theorem ReadsInt.drewN {W : World} {k : IntKind} {A : Option Addr} {n : Nat} {xs : List Int} (h : ReadsInt W k A n xs) (m : Nat) : ReadsInt (W.drewN m) k A n xs := h
theorem keep_cell {w W : World} {g : Nat} (h : KeepBut w W g none) {a : Addr} {v : Value} (hc : w.cell? a = some v) (hne : a.block ≠ g) : W.cell? a = some v := by
  have := h.2 a.block (World.block_lt_of_cell? w a hc) hne (by simp)
  simpa [World.cell?, this] using hc
theorem add_block (a : Addr) (i : Nat) : (a.add i).block = a.block := by unfold Addr.add; split <;> rfl
theorem below_weaken {w0 w w1 : World} {B : Nat} (h : Below w0.heap.size w0 w) (hB : w0.heap.size ≤ B) (k : Below B w w1) : Below w0.heap.size w0 w1 :=
  h.trans ⟨k.os, k.tape, k.output, k.size, fun i hi => k.block i (Nat.lt_of_lt_of_le hi hB)⟩
theorem ReadsOf.nil {α : Type} (enc : α → Value) (d : α) (W : World) : ReadsOf enc d W none ([] : List α).length [] := ⟨rfl, by simp, fun h => absurd h (Nat.lt_irrefl 0)⟩
theorem ReadsOf.drewN {α : Type} {enc : α → Value} {d : α} {W : World} {A : Option Addr} {n : Nat} {xs : List α} (h : ReadsOf enc d W A n xs) (m : Nat) : ReadsOf enc d (W.drewN m) A n xs := h
theorem ReadsInt.keep {w W : World} {k : IntKind} {A : Option Addr} {n g : Nat} {xs : List Int} (h : ReadsInt w k A n xs) (hk : KeepBut w W g none) (hf : ∀ ad, A = some ad → 0 < n → ad.block ≠ g) : ReadsInt W k A n xs :=
  ⟨h.1, h.2.1, fun hn => by
    obtain ⟨ad, e, hc⟩ := h.2.2 hn
    exact ⟨ad, e, fun j hj => keep_cell hk (hc j hj) (by rw [add_block]; exact hf ad e hn)⟩⟩
theorem ReadsOf.keep {α : Type} {enc : α → Value} {d : α} {w W : World} {A : Option Addr} {n g : Nat} {xs : List α} (h : ReadsOf enc d w A n xs) (hk : KeepBut w W g none) (hf : ∀ ad, A = some ad → 0 < n → ad.block ≠ g) : ReadsOf enc d W A n xs :=
  ⟨h.1, h.2.1, fun hn => by
    obtain ⟨ad, e, hc⟩ := h.2.2 hn
    exact ⟨ad, e, fun j hj => keep_cell hk (hc j hj) (by rw [add_block]; exact hf ad e hn)⟩⟩
namespace Kd
section
variable {α β : Type} {d : Kd α} {d' : Kd β} {e e' base base' n : Nat} {ok ok' : Nat → Prop} {w W w1 W1 : World} {v u : Value} {xs : List α} {ys : List β} {A : Option Addr} {c : Nat}
end
section
variable {α : Type} {enc : α → Value} {h1 : ∀ x, (enc x).oneCell' = true} {w W : World} {A : Option Addr} {n g : Nat} {xs : List α}
end
end Kd
namespace Kd
section
variable {α : Type} {d : Kd α} {e base g : Nat} {ok : Nat → Prop} {w w1 : World} {v : Value} {xs : List α} {o : Obj}
end
end Kd
section
variable {P : Program} {ops : Array Oper} {rest : List Oper} {o : Oper} {a : Act} {Q : Exit → Act → World → Prop}
end
namespace Kd
section
variable {α : Type} {enc : α → Value} {h1 : ∀ x, (enc x).oneCell' = true} {e base g n cap : Nat} {ok : Nat → Prop} {W : World} {xs : List α}
end
end Kd
section
variable {P : Program} {ops : Array Oper} {rest : List Oper} {o : Oper} {a : Act} {Q : Exit → Act → World → Prop}
end
namespace Kd
section
variable {α : Type} {enc : α → Value} {h1 : ∀ x, (enc x).oneCell' = true} {e base g n cap : Nat} {ok : Nat → Prop} {W : World} {xs : List α}
end
end Kd
section
variable {P : Program} {ops : Array Oper} {rest : List Oper} {o : Oper} {a : Act} {Q : Exit → Act → World → Prop} {W : World}
end
section
variable {P : Program} {ops : Array Oper} {o : Oper} {a : Act} {Q : Exit → Act → World → Prop} {Kc : Act → World → Prop}
namespace Kd
variable {α : Type}
end Kd
end
section
variable {P : Program} {tmps : Array Value} {w : World}
end
namespace Kd
section
variable {P : Program} {α : Type}
end
section
variable {P : Program} {ops : Array Oper} {rest : List Oper} {o : Oper} {a : Act} {Q : Exit → Act → World → Prop} {Kc : Act → World → Prop} {α : Type}
end
end Kd
end Go.Proofs.YtlepjafokfhnfaaDoorW.PrintWords
end
section
-- PRINTED BY print.sh 35421559b90ae4d0a3588c463048766b98c2df88dd9212a6774a882060cdf62d: not written by this session
-- PRINTED WORDS (module Derived/Print/More.lean): go-gate-2's additions: an AI agent of Go's test side, Tue Nov 17 2026; no person has read it. Lean checks it.
namespace Go.Proofs.YtlepjafokfhnfaaDoorW.PrintMore
open Go.RowKit Go.Proofs.YtlepjafokfhnfaaDoorW.PrintWords
namespace Kd
open Go.Proofs.YtlepjafokfhnfaaDoorW.PrintWords.Kd
end Kd
namespace Kd
open Go.Proofs.YtlepjafokfhnfaaDoorW.PrintWords.Kd
section
variable {α : Type} {d : Kd α} {e base g N : Nat} {ok : Nat → Prop} {W w1 : World} {u v : Value} {xs : List α}
end
end Kd
end Go.Proofs.YtlepjafokfhnfaaDoorW.PrintMore
namespace Go.Proofs.YtlepjafokfhnfaaDoorW.PrintWords
open Go.RowKit
section
variable {P : Program} {ops : Array Oper} {rest : List Oper} {o : Oper} {a : Act} {Q : Exit → Act → World → Prop} {W : World}
theorem gate_builtin {b : Builtin} {xs : Array Operand} {ts : Array TypeId} (_ho : o.op = .call { callee := .builtin b, args := xs, argTypes := ts }) (h : wpList P ops Q (o :: rest) a W) : wpList P ops Q (o :: rest) a W := h
end
def mx (a b : Int) : Int := if a < b then b else a
namespace Kd
section
variable {α : Type} {d : Kd α} {e base : Nat} {ok : Nat → Prop} {W w1 : World} {v : Value} {xs : List α}
end
section
variable {α : Type} {d : Kd α} {e base g n cap : Nat} {ok oki okp : Nat → Prop} {W : World} {xs : List α} {i : Int} {c : List Value}
end
section
variable {α : Type} {d : Kd α} {e base b b' g N : Nat} {ok ok1 : Nat → Prop} {W W2 w1 : World} {u v : Value} {xs ys : List α} {S : Nat → Prop}
end
end Kd
end Go.Proofs.YtlepjafokfhnfaaDoorW.PrintWords
namespace Go.Proofs.YtlepjafokfhnfaaDoorW.PrintWords
open Go.RowKit
namespace Kd
section
variable {α β : Type} {d : Kd α} {e base base' n m c g N' lo hi : Nat} {ok ok' S : Nat → Prop} {w W w1 : World} {A : Option Addr} {ad : Addr} {u v v1 : Value} {xs : List α}
end
end Kd
end Go.Proofs.YtlepjafokfhnfaaDoorW.PrintWords
end
section
set_option linter.unusedVariables false
namespace Go.Proofs.YtlepjafokfhnfaaDoor
end Go.Proofs.YtlepjafokfhnfaaDoor
namespace Go.Proofs.YtlepjafokfhnfaaDoor.Wd
open Go.Shelf
def ren26 : Ren := ⟨fun | 26 => 49 | 33 => 64 | 34 => 65 | 38 => 72 | n => n, fun | 24 => 22 | 40 => 113 | n => n, fun | n => n⟩
theorem lays26 : Go.Proofs.Lays2.n26 Tryd.prog ren26 := {
  mixed := by kernel_rfl
  f26 := Tryd.func49.trans (congrArg some (by kernel_rfl))
  f33 := Tryd.func64.trans (congrArg some (by kernel_rfl))
  f34 := Tryd.func65.trans (congrArg some (by kernel_rfl))
  f38 := Tryd.func72.trans (congrArg some (by kernel_rfl))
  t0 := Tryd.underlying0
  a0 := Tryd.isAgg0
  z0 := Tryd.sizeOf0
  v0 := Tryd.zeroValue0
  t3 := Tryd.underlying3
  a3 := Tryd.isAgg3
  z3 := Tryd.sizeOf3
  v3 := Tryd.zeroValue3
  t4 := Tryd.underlying4
  a4 := Tryd.isAgg4
  z4 := Tryd.sizeOf4
  v4 := Tryd.zeroValue4
  t9 := Tryd.underlying9
  a9 := Tryd.isAgg9
  z9 := Tryd.sizeOf9
  v9 := Tryd.zeroValue9
  t24 := Tryd.underlying22
  a24 := Tryd.isAgg22
  z24 := Tryd.sizeOf22
  v24 := Tryd.zeroValue22
  t40 := Tryd.underlying113
  a40 := Tryd.isAgg113
  z40 := Tryd.sizeOf113
  v40 := Tryd.zeroValue113 }
end Go.Proofs.YtlepjafokfhnfaaDoor.Wd
end
section
set_option linter.unusedVariables false
set_option linter.unusedSimpArgs false
namespace Go.Proofs.YtlepjafokfhnfaaDoor.Wd
open Go.RowKit Go.Proofs.YtlepjafokfhnfaaDoorW.PrintWords Go.Proofs.YtlepjafokfhnfaaDoorW.PrintLast Go.Proofs.YtlepjafokfhnfaaDoorW.PrintMore
def Tab (w : World) : Prop := Lib.TabIs Tryd.prog w "strings.asciiSpace" .u8 Lib.asciiSpaceTab
theorem tab_below {w w' : World} (h : Tab w) (hb : Below w.heap.size w w') : Tab w' := by
  unfold Tab Lib.TabIs World.var? at h ⊢
  generalize hgn : Tryd.prog.globalNamed "strings.asciiSpace" = G at h ⊢
  cases G with
  | none => simp at h
  | some q =>
    simp only [Option.bind_some] at h ⊢
    have hlt : q < w.heap.size := by
      rcases Nat.lt_or_ge q w.heap.size with h' | h'
      · exact h'
      · simp [Array.getElem?_eq_none h'] at h
    rw [hb.block q hlt]
    exact h
def pasS : ByteArray := ⟨#[97, 110, 100, 32, 97, 114, 114, 97, 121, 32, 98, 101, 103, 105, 110, 32, 98, 111, 111, 108, 101, 97, 110, 32, 99, 104, 97, 114, 32, 100, 105, 118, 32, 100, 111, 32, 100, 111, 119, 110, 116, 111, 32, 101, 108, 115, 101, 32, 101, 110, 100, 32, 102, 97, 108, 115, 101, 32, 102, 111, 114, 32, 102, 111, 114, 119, 97, 114, 100, 32, 102, 117, 110, 99, 116, 105, 111, 110, 32, 105, 102, 32, 105, 110, 116, 101, 103, 101, 114, 32, 109, 111, 100, 32, 110, 111, 116, 32, 111, 102, 32, 111, 114, 32, 112, 114, 111, 99, 101, 100, 117, 114, 101, 32, 112, 114, 111, 103, 114, 97, 109, 32, 114, 101, 97, 100, 32, 114, 101, 99, 111, 114, 100, 32, 114, 101, 112, 101, 97, 116, 32, 114, 101, 116, 117, 114, 110, 32, 116, 104, 101, 110, 32, 116, 111, 32, 116, 114, 117, 101, 32, 116, 121, 112, 101, 32, 117, 110, 116, 105, 108, 32, 118, 97, 114, 32, 119, 104, 105, 108, 101, 32, 119, 114, 105, 116, 101]⟩
def ceeS : ByteArray := ⟨#[98, 111, 111, 108, 32, 99, 104, 97, 114, 32, 100, 111, 32, 100, 111, 119, 110, 116, 111, 32, 101, 108, 115, 101, 32, 102, 97, 108, 115, 101, 32, 102, 111, 114, 32, 103, 101, 116, 32, 105, 102, 32, 105, 110, 116, 32, 109, 97, 105, 110, 32, 112, 114, 111, 103, 114, 97, 109, 32, 112, 117, 116, 32, 114, 101, 116, 117, 114, 110, 32, 115, 116, 114, 117, 99, 116, 32, 116, 111, 32, 116, 114, 117, 101, 32, 117, 110, 116, 105, 108, 32, 117, 112, 32, 118, 111, 105, 100, 32, 119, 104, 105, 108, 101]⟩
def lst (d : Int) : List ByteArray := if d = 0 then (Lib.fields pasS.data.toList).map (fun l => (⟨l.toArray⟩ : ByteArray)) else if d = 1 then (Lib.fields ceeS.data.toList).map (fun l => (⟨l.toArray⟩ : ByteArray)) else []
theorem lst_pas : (Lib.fields pasS.data.toList).map (fun l => (⟨l.toArray⟩ : ByteArray)) = lst 0 := by kernel_rfl
theorem lst_cee : (Lib.fields ceeS.data.toList).map (fun l => (⟨l.toArray⟩ : ByteArray)) = lst 1 := by kernel_rfl
theorem asciiP : ∀ (j : Nat) b, pasS.data.toList[j]? = some b → b.toNat < 128 := by
  have : (pasS.data.toList.all fun b => decide (b.toNat < 128)) = true := by kernel_rfl
  exact fun j b h => of_decide_eq_true (List.all_eq_true.1 this b (List.mem_of_getElem? h))
theorem asciiC : ∀ (j : Nat) b, ceeS.data.toList[j]? = some b → b.toNat < 128 := by
  have : (ceeS.data.toList.all fun b => decide (b.toNat < 128)) = true := by kernel_rfl
  exact fun j b h => of_decide_eq_true (List.all_eq_true.1 this b (List.mem_of_getElem? h))
def AllTo (d : Int) (w : World) (e : Ending) (w' : World) : Prop := ∃ r, e = .returned r ∧ Kd.string.R 9 w' w.heap.size (fun _ => True) r (lst d) ∧ Below w.heap.size w w'
theorem R_fields (w : World) (xs : List ByteArray) (hl : xs.length ≤ 1000) : Kd.string.R 9 (w.alloc (.cells (xs.map Value.string).toArray 9)) w.heap.size (fun _ => True) (.slice (some ⟨w.heap.size, 0, none⟩) xs.length xs.length) xs := by
  have hown := World.ownsRow_lit (base := w.heap.size) (e := 9) (size := 1) w (xs.map Value.string).toArray xs.length (Nat.le_refl _) (by simp [maxLen]; omega) (by simp)
  refine ⟨fun _ _ => trivial, xs.map Value.string, hown, ?_⟩
  refine ⟨by simp [Kd.string, Kd.scalar], fun j p hj => ?_⟩
  show ((xs.map Value.string).drop (j * 1)).take 1 = [.string p]
  obtain ⟨hjl, hp⟩ := List.getElem?_eq_some_iff.1 hj
  rw [Nat.mul_one, List.drop_eq_getElem_cons (by simpa using hjl)]
  simp [hp]
theorem fields_to (s : ByteArray) (d : Int) (w : World) (hs : s.size < 4294967281) (ha : ∀ (j : Nat) b, s.data.toList[j]? = some b → b.toNat < 128) (ht : Tab w) (hl : (Lib.fields s.data.toList).map (fun l => (⟨l.toArray⟩ : ByteArray)) = lst d) (hn : (lst d).length ≤ 1000) :
    Calls Tryd.prog 48 #[.string s] w (AllTo d w) := by
  refine (Tryd.strings_Fields s w hs ha ht).mono ?_
  rintro e w' ⟨he, hw⟩
  have h1 : (Lib.fields s.data.toList).map (fun l => Value.string ⟨l.toArray⟩) = (lst d).map Value.string := by rw [← hl, List.map_map]; rfl
  have h2 : (Lib.fields s.data.toList).length = (lst d).length := by rw [← hl, List.length_map]
  rw [h1] at hw
  rw [h2] at he
  subst hw
  exact ⟨_, he, R_fields w (lst d) hn, below_alloc (Below.refl _ _) _⟩
set_option maxHeartbeats 4000000 in
set_option maxRecDepth 100000 in
theorem all_any (d : Int) (w : World) (ht : Tab w) : Calls Tryd.prog 35 #[.int .i64 d] w (AllTo d w) := by
  have HT := Lib.hid ht
  clear ht
  by_cases h0 : d = 0
  · subst h0
    go_enter Tryd.func35, Tryd.ntmps35
    go_wp2_with (first | (go_at_call 48; go_must (refine (fields_to pasS 0 w (by decide) asciiP HT.out lst_pas (by decide)).mono ?_)))
    rintro e w1 ⟨r, rfl, hR, hb⟩
    have HR := Lib.hid hR
    have HB := Lib.hid hb
    clear hR hb
    go_wp2
    go_ret
    exact ⟨_, rfl, HR.out, HB.out⟩
  · by_cases h1 : d = 1
    · subst h1
      go_enter Tryd.func35, Tryd.ntmps35
      go_wp2_with (first | (go_at_call 48; go_must (refine (fields_to ceeS 1 w (by decide) asciiC HT.out lst_cee (by decide)).mono ?_)))
      rintro e w1 ⟨r, rfl, hR, hb⟩
      have HR := Lib.hid hR
      have HB := Lib.hid hb
      clear hR hb
      go_wp2
      go_ret
      exact ⟨_, rfl, HR.out, HB.out⟩
    · have hl : lst d = [] := by unfold lst; rw [if_neg h0, if_neg h1]
      go_enter Tryd.func35, Tryd.ntmps35
      go_wp2
      go_ret
      rw [AllTo, hl]
      exact ⟨_, rfl, Kd.R_nil _ _ _ _ _, Below.refl _ _⟩
def mem (l : List ByteArray) (x : ByteArray) : Bool := l.any fun y => decide (y = x)
theorem mem_iff (l : List ByteArray) (x : ByteArray) : mem l x = true ↔ x ∈ l := by
  unfold mem
  rw [List.any_eq_true]
  constructor
  · rintro ⟨y, hy, he⟩
    rw [← of_decide_eq_true he]; exact hy
  · intro h
    exact ⟨x, h, decide_eq_true rfl⟩
theorem bytesLess_lt : ∀ (x y : List UInt8), Op.bytesLess x y = decide (x < y)
  | [], [] => by simp [Op.bytesLess]
  | _ :: _, [] => by simp [Op.bytesLess]
  | [], _ :: _ => by simp [Op.bytesLess]
  | a :: x, b :: y => by
    rw [Op.bytesLess, bytesLess_lt x y, Bool.eq_iff_iff]
    simp [List.cons_lt_cons_iff]
abbrev less (a b : ByteArray) : Bool := Op.bytesLess a.toList b.toList
theorem less_irrefl (a : ByteArray) : less a a = false := by
  show Op.bytesLess a.toList a.toList = false
  rw [bytesLess_lt]
  exact decide_eq_false (List.lt_irrefl _)
theorem less_trans {a b c : ByteArray} (h1 : less a b = true) (h2 : less b c = true) : less a c = true := by
  have g1 : Op.bytesLess a.toList b.toList = true := h1
  have g2 : Op.bytesLess b.toList c.toList = true := h2
  show Op.bytesLess a.toList c.toList = true
  rw [bytesLess_lt] at g1 g2 ⊢
  exact decide_eq_true (List.lt_trans (of_decide_eq_true g1) (of_decide_eq_true g2))
def Sx (l : List ByteArray) (x : ByteArray) (t : Nat) : ByteArray := if h : t < l.length then l[t] else x
theorem bs_found (l : List ByteArray) (x : ByteArray) (hs : l.Pairwise (fun a b => less a b = true)) (inst : Decidable (Lib.bsGo (fun t => Op.bytesLess (Sx l x t).toList x.toList) l.length 0 l.length < l.length ∧ Sx l x (Lib.bsGo (fun t => Op.bytesLess (Sx l x t).toList x.toList) l.length 0 l.length) = x)) :
    decide (Lib.bsGo (fun t => Op.bytesLess (Sx l x t).toList x.toList) l.length 0 l.length < l.length ∧ Sx l x (Lib.bsGo (fun t => Op.bytesLess (Sx l x t).toList x.toList) l.length 0 l.length) = x) = mem l x := by
  have hk : Lib.bsGo (fun t => Op.bytesLess (Sx l x t).toList x.toList) l.length 0 l.length = l.findIdx (fun y => !less y x) := by
    refine Lib.bsGo_spec _ _ ?_ ?_ _ _ _ (by omega) (Nat.zero_le _) List.findIdx_le_length
    · intro t ht
      have hl : t < l.length := Nat.lt_of_lt_of_le ht List.findIdx_le_length
      have := List.not_of_lt_findIdx ht
      simp only [Sx, dif_pos hl]
      simpa [less] using this
    · intro t ht
      by_cases hl : t < l.length
      · simp only [Sx, dif_pos hl]
        have hkl : l.findIdx (fun y => !less y x) < l.length := by omega
        have h1 := List.findIdx_getElem (xs := l) (p := fun y => !less y x) (w := hkl)
        simp only [Bool.not_eq_true'] at h1
        cases hc : less l[t] x with
        | false => exact hc
        | true =>
          exfalso
          rcases Nat.lt_or_ge (l.findIdx (fun y => !less y x)) t with h2 | h2
          · have h3 := List.pairwise_iff_getElem.1 hs _ _ hkl hl h2
            rw [less_trans h3 hc] at h1
            cases h1
          · have h4 : l.findIdx (fun y => !less y x) = t := by omega
            simp only [h4] at h1
            rw [h1] at hc; cases hc
      · simp only [Sx, dif_neg hl]
        exact less_irrefl x
  rw [Bool.eq_iff_iff, decide_eq_true_iff, hk, mem_iff]
  constructor
  · rintro ⟨h1, h2⟩
    simp only [Sx, dif_pos h1] at h2
    rw [← h2]
    exact List.getElem_mem _
  · intro hx
    obtain ⟨i, hi, rfl⟩ := List.getElem_of_mem hx
    have hle : l.findIdx (fun y => !less y l[i]) ≤ i := by
      rcases Nat.lt_or_ge i (l.findIdx (fun y => !less y l[i])) with h | h
      · have := List.not_of_lt_findIdx h
        rw [less_irrefl] at this
        exact absurd this (by simp)
      · exact h
    have hkl : l.findIdx (fun y => !less y l[i]) < l.length := by omega
    refine ⟨hkl, ?_⟩
    simp only [Sx, dif_pos hkl]
    rcases Nat.lt_or_ge (l.findIdx (fun y => !less y l[i])) i with h | h
    · have h3 := List.pairwise_iff_getElem.1 hs _ _ hkl hi h
      have h1 := List.findIdx_getElem (xs := l) (p := fun y => !less y l[i]) (w := hkl)
      simp only [Bool.not_eq_true'] at h1
      rw [h3] at h1; cases h1
    · have h4 : l.findIdx (fun y => !less y l[i]) = i := by omega
      simp only [h4]
theorem sorted_lst (d : Int) : (lst d).Pairwise (fun a b => less a b = true) := by
  by_cases h0 : d = 0
  · subst h0
    exact of_decide_eq_true (by kernel_rfl)
  · by_cases h1 : d = 1
    · subst h1
      exact of_decide_eq_true (by kernel_rfl)
    · have hl : lst d = [] := by unfold lst; rw [if_neg h0, if_neg h1]
      rw [hl]
      exact List.Pairwise.nil
theorem lst_len (d : Int) : (lst d).length ≤ 1000 := by
  have h0 : (lst 0).length ≤ 1000 := of_decide_eq_true (by kernel_rfl)
  have h1 : (lst 1).length ≤ 1000 := of_decide_eq_true (by kernel_rfl)
  by_cases e0 : d = 0
  · subst e0; exact h0
  · by_cases e1 : d = 1
    · subst e1; exact h1
    · have hl : lst d = [] := by unfold lst; rw [if_neg e0, if_neg e1]
      rw [hl]; simp
theorem search_row (l : List ByteArray) (x : ByteArray) (w : World) {r : Value} {base : Nat} (hR : Kd.string.R 9 w base (fun _ => True) r l) (hs : l.Pairwise (fun a b => less a b = true)) (hl : l.length ≤ 1000) :
    Calls Tryd.prog 49 #[r, .string x] w fun e w' => ∃ i : Nat, e = .returned (.tuple #[.int .i64 i, .bool (mem l x)]) ∧ ∃ q, w' = w.drewN q := by
  obtain ⟨A, c, he, hlc, hC⟩ := Kd.R_reads hR
  obtain ⟨inner, hown⟩ := Kd.R_own hR
  rcases hown.2 with ⟨hv, h0⟩ | ⟨g, cap, cur, hv, _⟩
  · obtain rfl := List.eq_nil_of_length_eq_zero h0
    rw [hv]
    refine (Any2.slices_BinarySearch_string_empty lays26 none 0 x w).mono ?_
    rintro e w' ⟨he, hw⟩
    exact ⟨0, he, 0, hw⟩
  · rw [hv]
    have hA : A = some ⟨g, 0, none⟩ := by rw [hv] at he; injection he with h1 _ _; exact h1.symm
    subst hA
    have hcell : ∀ j, j < l.length → w.cell? ⟨g, 0 + j, none⟩ = some (.string (Sx l x j)) := by
      intro j hj
      obtain ⟨ad, h1, h2⟩ := Kd.at_string hC (j : Int) (by omega) (by omega)
      injection h1 with h1
      subst h1
      rw [show ((j : Int)).toNat = j from by omega] at h2
      rw [show (⟨g, 0 + j, none⟩ : Addr) = (⟨g, 0, none⟩ : Addr).add j from by simp [Addr.add], h2, show rdOf ByteArray.empty l (j : Int) = l.getD (j : Int).toNat ByteArray.empty from rfl]
      simp [Sx, hj]
    refine (Any2.slices_BinarySearch_string lays26 g 0 l.length cap (Sx l x) x w (by omega) hcell).mono ?_
    rintro e w' ⟨he, q, hw⟩
    rw [bs_found l x hs] at he
    exact ⟨_, he, q, hw⟩
set_option maxHeartbeats 4000000 in
set_option maxRecDepth 100000 in
theorem is_any (d : Int) (s : ByteArray) (w : World) (ht : Tab w) : Calls Tryd.prog 36 #[.int .i64 d, .string s] w fun e w' => e = .returned (.bool (mem (lst d) s)) ∧ Below w.heap.size w w' := by
  have HT := Lib.hid ht
  clear ht
  go_enter Tryd.func36, Tryd.ntmps36
  go_wp2_with (first | (go_at_call 35; go_must (refine (all_any d w HT.out).mono ?_)))
  rintro e w1 ⟨r, rfl, hR, hb⟩
  have HR := Lib.hid hR
  have HB := Lib.hid hb
  clear hR hb
  go_wp2_with (first | (go_at_call 49; go_must (refine (search_row (lst d) s _ HR.out (sorted_lst d) (lst_len d)).mono ?_)))
  rintro e w2 ⟨i, rfl, q, rfl⟩
  go_wp2
  go_ret
  exact ⟨rfl, pw_below_drewN HB.out q⟩
end Go.Proofs.YtlepjafokfhnfaaDoor.Wd
end
section
open Go Go.Proofs
namespace Go.Ev
open Go.RowKit Go.Proofs.YtlepjafokfhnfaaDoor Go.Proofs.YtlepjafokfhnfaaDoorW.PrintWords Go.Proofs.YtlepjafokfhnfaaDoorW.PrintLast Go.Proofs.YtlepjafokfhnfaaDoorW.PrintMore
set_option linter.unusedVariables false
set_option linter.unusedSimpArgs false
set_option maxHeartbeats 4000000
set_option maxRecDepth 100000
theorem ok_words_Is : SpecA Tryd.prog EE 36 (ansOf c_words_Is rc_words_Is.enc fun x => some (Wd.mem (Wd.lst x.1) x.2.1)) := by
  refine specA_by _ _ _ fun x y hy Sl w us fp rs hSl hargs hnd hlt hiv => ?_
  injection hy with hy
  subst hy
  obtain ⟨vs, rfl, h1⟩ := areps_lit hargs
  obtain ⟨vs', rfl, h2⟩ := areps_lit h1
  obtain ⟨rfl, rfl, rfl⟩ := areps_nil h2
  refine ⟨36, #[_, _], .inl ⟨by decide, rfl, rfl⟩, ⟨Tryd.f36, Tryd.func36, by kernel_rfl, by kernel_rfl⟩, ?_⟩
  exact (Wd.is_any x.1 x.2.1 w hiv.1).mono fun e w' ⟨he, hb⟩ => ⟨_, he, answers_lit hSl hb rfl⟩
theorem drep_lit {E : Env II} {Sl : Nat → Nat → Prop} {w : World} {v u : Value} (h : DRep E Sl w v (.lit u)) : v = u := by cases h; rfl
theorem ok_Clone : SpecA Tryd.prog EE 27 (ansOf c_slices_Clone_string rc_slices_Clone_string.enc fun x => if x.1.length * 16 ≤ 140737488355328 then some x.1 else none) := by
  refine specA_by _ _ _ fun x y hy Sl w us fp rs hSl hargs hnd hlt hiv => ?_
  obtain ⟨xs, _⟩ := x
  simp only at hy
  split at hy
  · rename_i hb
    injection hy with hy
    subst hy
    obtain ⟨v, vs, rfl, h1, h2⟩ := areps_d hargs
    obtain ⟨rfl, rfl, rfl⟩ := areps_nil h2
    refine ⟨27, #[_], .inl ⟨by decide, rfl, rfl⟩, ⟨Tryd.f27, Tryd.func27, by kernel_rfl, by kernel_rfl⟩, ?_⟩
    cases h1 with
    | sl _ _ A n c g o vals hn hcap hm hA hc hr =>
      have hn : xs.length = n := hn
      rcases Nat.eq_zero_or_pos n with rfl | hpos
      · have hxs : xs = [] := List.eq_nil_of_length_eq_zero hn
        subst hxs
        cases A with
        | none =>
          refine (Tryd.slices_Clone_string_nil 0 c w).mono fun e w' ⟨he, hw⟩ => ?_
          subst hw
          exact ⟨_, he, answers_row (t := 9) (xs := []) (vals := []) (ti := { size := 1, bytes := 16, zero := [.string ⟨#[]⟩], td := .string }) (by kernel_rfl) hSl (Below.refl _ _) ⟨rfl, .inl ⟨rfl, rfl⟩⟩ (fun i r j y hi => by simp at hi)⟩
        | some a =>
          refine (Tryd.slices_Clone_string_zero a c w).mono fun e w' ⟨u, he, ho, _, hb⟩ => ?_
          exact ⟨_, he, answers_row (t := 9) (xs := []) (vals := []) (ti := { size := 1, bytes := 16, zero := [.string ⟨#[]⟩], td := .string }) (by kernel_rfl) hSl hb ho (fun i r j y hi => by simp at hi)⟩
      · rw [hA hpos]
        have hcell : ∀ j, j < xs.length → w.cell? ⟨g, o + j, none⟩ = some (.string (xs.getD j ByteArray.empty)) := by
          intro j hj
          have hi : xs[j]? = some xs[j] := List.getElem?_eq_getElem hj
          have h3 := (hc j xs[j] 0 (.lit (.string xs[j])) hi rfl).1
          have h4 := hr j xs[j] 0 (.lit (.string xs[j])) hi rfl
          have h5 : (EE.row 9 xs[j]).length = 1 := rfl
          rw [h5, Nat.mul_one, Nat.add_zero] at h3 h4
          rw [h3, drep_lit h4, List.getD_eq_getElem?_getD, hi]; rfl
        refine (Tryd.slices_Clone_string g o n c xs w (by omega) (by omega) hcell).mono fun e w' ⟨u, he, ho, _, hb⟩ => ?_
        rw [← hn, List.take_length] at ho
        refine ⟨_, he, answers_row (E := EE) (w' := w') (u := u) (t := 9) (xs := xs) (vals := xs.map .string) (ti := { size := 1, bytes := 16, zero := [.string ⟨#[]⟩], td := .string }) (by kernel_rfl) hSl hb ho (fun i r j y hi hj => ?_)⟩
        have hj' : ([DV.lit (.string r)] : List (DV II))[j]? = some y := hj
        cases j with
        | zero =>
          simp at hj'
          subst hj'
          refine ⟨.string r, by simp [hi], fun Sl' _ => .lit _ rfl⟩
        | succ j => simp at hj'
  · cases hy
theorem ans_run {α β : Type} (c : CodL EE α) (conv : β → RV II) (F : α → Option β) {avs : List (AV II)} {x : α} {y : β} (h : c.dec avs = some x) (hF : F x = some y) : (ansOf c conv F avs).run = some (conv y) := by
  unfold ansOf
  rw [h]
  simp only [Tree.run, hF, Option.bind_some]
theorem drep_env {Sl : Nat → Nat → Prop} {w : World} {v : Value} {x : DV II} (h : DRep EE0 Sl w v x) : DRep EE Sl w v x := by
  induction h with
  | any v h => exact .any v h
  | lit v h => exact .lit v h
  | nils => exact .nils
  | sl t xs A n c g o vs hn hcap hm hA hcell _ ih => exact .sl t xs A n c g o vs hn hcap hm hA hcell ih
theorem drep_env' {Sl : Nat → Nat → Prop} {w : World} {v : Value} {x : DV II} (h : DRep EE Sl w v x) : DRep EE0 Sl w v x := by
  induction h with
  | any v h => exact .any v h
  | lit v h => exact .lit v h
  | nils => exact .nils
  | sl t xs A n c g o vs hn hcap hm hA hcell _ ih => exact .sl t xs A n c g o vs hn hcap hm hA hcell ih
theorem drep_len {Sl : Nat → Nat → Prop} {w : World} {v : Value} {t : Nat} {xs : List (II t)} (h : DRep EE Sl w v (.sl t xs)) : xs.length ≤ maxLen := by
  cases h with
  | sl _ _ A n c g o vals hn hcap hm hA hc hr => rw [hn]; exact hm
theorem find_drop (l : List TPair) (s : ByteArray) (hm : l.length ≤ maxLen) (s' : Fam) (k : Nat) (x0 : ByteArray) (x1 : List TPair) : ∀ j i, i ≤ l.length → l.length - i < j → Ltree_Rename_1_2 s' k x0 x1 j s l (l.length : Int) (i : Int) = some (match (l.drop i).find? (fun p => p.Old.toList == s.toList) with | some p => p.New | none => s) := by
  refine up_ind l.length (fun j => ?_) (fun j i hi ihj => ?_)
  · simp only [Ltree_Rename_1_2]
    rw [if_neg (by simp)]
    simp
  · have c1 : decide ((i : Int) < (l.length : Int)) = true := by simpa using hi
    have c2 : (0 : Int) ≤ (i : Int) := by omega
    have c3 : (i : Int) < (l.length : Int) := by omega
    simp only [Ltree_Rename_1_2, c1, c2, c3, if_true, getD_at l i _ hi, wrap_succ hi hm, ihj, decide_true]
    have hd : l.drop i = l[i] :: l.drop (i + 1) := (List.getElem_cons_drop hi).symm
    rw [hd, List.find?_cons]
    cases (l[i].Old.toList == s.toList) <;> rfl
theorem rename_1_ok (l : List TPair) (s : ByteArray) (hm : l.length ≤ maxLen) : B_tree_Rename_1 nilFam (l.length + 1) s l = some (match l.find? (fun p => p.Old.toList == s.toList) with | some p => p.New | none => s) := by
  have := find_drop l s hm nilFam (l.length + 1) s l (l.length + 1) 0 (Nat.zero_le _) (by omega)
  simp only [Int.ofNat_zero, List.drop_zero] at this
  exact this
theorem spec46 (k : Nat) : SpecA Tryd.prog EE 30 (ansOf c_tree_Rename_1 rc_tree_Rename_1.enc fun x => B_tree_Rename_1 nilFam k x.1 x.2.1) :=
  specA_of hEE (look_ok nil_ok) Tryd.func30 (by kernel_rfl) (by decide) c_tree_Rename_1 rc_tree_Rename_1.enc _ (fun x => e_tree_Rename_1 nilFam k x)
theorem keepX_mono {X X' : Nat → Prop} {B : Nat} {w w' : World} (h : KeepX X B w w') (hX : ∀ k, X k → X' k) : KeepX X' B w w' := ⟨h.os, h.tape, h.output, h.size, fun i hi hn => h.block i hi fun hx => hn (hX i hx)⟩
theorem ext_mono {Sl Sl' : Nat → Nat → Prop} {w w' : World} {fp fp' : List Nat} (h : Ext Sl Sl' w w' fp) (hs : ∀ k ∈ fp, k ∈ fp') : Ext Sl Sl' w w' fp' := ⟨h.s, fun g o hg => (h.n g o hg).imp id fun hx => ⟨hx.1.imp id (hs g), hx.2⟩, h.c⟩
theorem ren_calls {Sl : Nat → Nat → Prop} {w : World} {v : Value} {fp : List Nat} (l : List TPair) (s : ByteArray) (hSl : ∀ g o, Sl g o → g < w.heap.size) (h : EE.frep (Thing.ren l) Sl w v fp) (hk : ∀ k ∈ fp, k < w.heap.size ∧ ∀ j, ¬ Sl k j) (hiv : EE.inv w) :
    ∃ g args, Callee 1000003 [v, .string s] g args ∧ (∃ fn, Tryd.prog.funcs[g]? = some fn ∧ fn.body.isSome = true ∧ (fn.name == "runtime.NumGoroutine") = false) ∧ Calls Tryd.prog g args w fun e w' => ∃ u, e = .returned u ∧
      Answers EE Sl w fp [v] (.c (.d (.lit (.string (match l.find? (fun p => p.Old.toList == s.toList) with | some p => p.New | none => s)))), [.fd (Thing.ren l)]) u w' := by
  have h0 := h
  obtain ⟨g, sv, rfl, rfl, hb, hd⟩ := h
  have hd := drep_env hd
  have hcell : w.cell? ⟨g, 0, none⟩ = some sv := by simp [World.cell?, hb]
  obtain ⟨hg, hng⟩ := hk g (by simp)
  have hrp : PRep EE Sl w (· ∈ ([] : List Nat)) w.heap.size (.pointer (some ⟨g, 0, none⟩)) (.rp [.sl 36 l] 0) [] [] := PRep.rp (I := II) (E := EE) (Sl := Sl) ([.sl 36 l] : List (DV II)) 0 g 0 fun j y hj => by
    cases j with
    | zero => simp at hj; subst hj; exact ⟨sv, hcell, hd, .inl ⟨hg, by simp⟩⟩
    | succ j => simp at hj
  obtain ⟨g', args, hc, hfn, hcalls⟩ := spec46 (l.length + 1) (c_tree_Rename_1.enc (s, l, ())) _ (by
    exact ans_run _ _ _ (x := (s, l, ())) rfl (rename_1_ok l s (drep_len hd))) Sl w [.string s, .pointer (some ⟨g, 0, none⟩)] [] [] hSl
    (.cons _ _ _ _ [] [] [] [] (.c _ _ _ _ (.d _ _ (.lit _ rfl))) (.cons _ _ _ _ [] [] [] [] (.c _ _ _ _ hrp) .nil)) List.nodup_nil (fun k hk => by cases hk) hiv
  rcases hc with ⟨_, rfl, ha⟩ | ⟨hne, _⟩
  · refine ⟨30, args, .inr ⟨rfl, #[], #[.pointer (some ⟨g, 0, none⟩)], [.string s], rfl, by rw [ha]; rfl⟩, hfn, hcalls.mono fun e w' ⟨u, he, Sl', p1, p2, r1, r2, hkeep, hext, ha, hp, hnd, hlt⟩ => ⟨u, he, ?_⟩⟩
    obtain ⟨hu, rfl, rfl⟩ := arep_d ha
    cases hp
    have hnew : ∀ j, ¬ Sl' g j := fun j hj => by
      rcases hext.n g j hj with h1 | ⟨h1 | h1, _⟩
      · exact hng j h1
      · omega
      · cases h1
    have hsame : w'.heap[g]? = w.heap[g]? := hkeep.block g hg (by simp)
    refine ⟨Sl', [], [g], [], [.func (.func 30) #[] #[.pointer (some ⟨g, 0, none⟩)]], keepX_mono hkeep (by simp), ext_mono hext (by simp), .c _ _ _ _ (.d _ _ hu), ?_, by simp, fun k hk => ?_⟩
    · exact .cons _ _ _ _ [g] [] [_] [] (.fd _ _ [g] (EE.frame _ Sl Sl' w w' _ _ h0 hext.s hext.c (by simp [hsame])) rfl (fun k hk => by
        simp at hk; subst hk; exact ⟨Nat.lt_of_lt_of_le hg hkeep.size, hnew⟩)) .nil
    · simp at hk; subst hk; exact ⟨Nat.lt_of_lt_of_le hg hkeep.size, .inr (by simp)⟩
  · cases hne
open Go.Maps Go.ChangeMaps Go.WideMaps
theorem keyed9 : Go.Maps.Keyed Tryd.prog 9 := string_keyed Tryd.underlying9
theorem zero4 (w : World) : (zeroValue 4).run Tryd.prog w = .ok (.bool false) w := Tryd.zeroValue4 w
theorem key_ne {s t : ByteArray} (h : s ≠ t) : (Lit.string s.data.toList) ≠ Lit.string t.data.toList := by
  intro e
  injection e with e
  exact h (by apply ByteArray.ext; exact Array.toList_inj.1 e)
theorem map_lookup {w : World} {b n : Nat} {L : ByteArray → Bool} (h : MapAt w b n L) (s : ByteArray) (hs : s.size ≤ maxLen) : (Instr.lookup 84 (.map (some b)) (.string s) false).run Tryd.prog w = .ok (.bool (L s)) w := by
  obtain ⟨D, hD, hL⟩ := h
  obtain ⟨v, ps, hrun, hv⟩ := hD.lookup keyed9 Tryd.underlying84 (zero4 w) (plainElem_bool Tryd.underlying4 false) (keyOf_string_mk Tryd.underlying9 hs)
  rw [hL s hs] at hv
  rw [hrun]
  unfold plainElem at hv
  rw [Tryd.underlying4] at hv
  cases v <;> simp at hv
  rw [hv.1]
theorem map_put {w : World} {b n : Nat} {L : ByteArray → Bool} (h : MapAt w b n L) (hn : n < maxLen) (s : ByteArray) (hs : s.size ≤ maxLen) :
    ∃ w', (Instr.mapUpdate 84 (.map (some b)) (.string s) (.bool true)).run Tryd.prog w = .ok () w' ∧ MapAt w' b (n + 1) (fun x => decide (x = s) || L x) ∧ w.grownBy w' (some b) := by
  obtain ⟨D, hD, hL⟩ := h
  obtain ⟨w', hrun, hD', ht⟩ := hD.update keyed9 Tryd.underlying84 hn (keyOf_string_mk Tryd.underlying9 hs) (plainElem_bool Tryd.underlying4 true)
  have hm : Go.Maps.IsMap D := by obtain ⟨es, clock, _, _, _, rfl⟩ := hD; exact ⟨_, rfl⟩
  refine ⟨w', hrun, ⟨_, hD', fun x hx => ?_⟩, ht⟩
  by_cases e : x = s
  · subst e
    rw [Go.Maps.atKey_put_same hm (by simp [WideAt.IsKeyLit])]; simp
  · rw [Go.Maps.atKey_put_other (key_ne e), hL x hx]; simp [e]
theorem infoStr9 : (Tryd.prog.info? 9).map (fun i => (i.zero, i.size, i.bytes)) = some (some (.string ⟨#[]⟩), 1, 16) := by kernel_rfl
def NamesTo (w : World) (gm go : Nat) (sv : Value) (s : ByteArray) (l : List ByteArray) (e : Ending) (w' : World) : Prop := e = .returned (.string s) ∧ ∃ v1 n1, n1 ≤ l.length ∧ w'.os = w.os ∧ w'.tape = w.tape ∧ w'.output = w.output ∧ w.heap.size ≤ w'.heap.size ∧
  (∀ i, i < w.heap.size → i ≠ gm → i ≠ go → some i ≠ sv.ownBlock → w'.heap[i]? = w.heap[i]?) ∧ MapAt w' gm n1 (fun y => l.any fun z => z.toList == y.toList) ∧ w'.heap[go]? = some (.cells #[v1] 22 (0, 0)) ∧ w'.ownsRow 0 9 1 v1 l.length (l.map Value.string) ∧
  (v1.ownBlock = sv.ownBlock ∨ ∃ b, v1.ownBlock = some b ∧ w.heap.size ≤ b)
theorem names_in (w : World) (gs gm go n : Nat) (sv : Value) (l : List ByteArray) (s : ByteArray) (h1 : w.heap[gs]? = some (.cells #[.map (some gm)] 84 (0, 0))) (hM : MapAt w gm n (fun y => l.any fun z => z.toList == y.toList)) (hn : n ≤ l.length)
    (h3 : w.heap[go]? = some (.cells #[sv] 22 (0, 0))) (h4 : w.ownsRow 0 9 1 sv l.length (l.map Value.string)) (hs : s.size ≤ maxLen) (hin : (l.any fun z => z.toList == s.toList) = true) :
    Calls Tryd.prog 34 #[.string s, .pointer (some ⟨gs, 0, none⟩), .pointer (some ⟨go, 0, none⟩)] w fun e w' => NamesTo w gm go sv s l e w' := by
  have hlk := map_lookup hM s hs
  rw [hin] at hlk
  have c1 : w.cell? ⟨gs, 0, none⟩ = some (.map (some gm)) := by simp [World.cell?, h1]
  have c3 : w.cell? ⟨go, 0, none⟩ = some sv := by simp [World.cell?, h3]
  have H : Hid (NamesTo w gm go sv s l (.returned (.string s)) w) := Lib.hid ⟨rfl, sv, n, hn, rfl, rfl, rfl, Nat.le_refl _, fun _ _ _ _ _ => rfl, hM, h3, h4, .inl rfl⟩
  clear hM h1 h3 h4 hin
  go_enter Tryd.func34, Tryd.ntmps34
  go_wp2
  go_ret
  exact H.out
theorem cells1_set {w : World} {g t : Nat} {x y : Value} (h : w.heap[g]? = some (.cells #[x] t (0, 0))) : (w.setCell ⟨g, 0, none⟩ y).heap[g]? = some (.cells #[y] t (0, 0)) := by
  simp [World.setCell, Array.getElem?_modify, h]
theorem size_alloc (W : World) (o : Go.Obj) : (W.alloc o).heap.size = W.heap.size + 1 := by
  show (W.heap.push o).size = _
  rw [Array.size_push]
theorem le_alloc (W : World) (o : Go.Obj) {n : Nat} (h : n ≤ W.heap.size) : n ≤ (W.alloc o).heap.size := by
  rw [size_alloc]; omega
theorem owns_slice {w : World} {B e size n : Nat} {v : Value} {xs : List Value} (h : w.ownsRow B e size v n xs) : ∃ A c, v = .slice A n c := by
  obtain ⟨_, ⟨rfl, rfl⟩ | ⟨g, cap, cur, rfl, _⟩⟩ := h
  · exact ⟨none, 0, rfl⟩
  · exact ⟨_, cap, rfl⟩
theorem names_out (w : World) (gs gm go n : Nat) (sv : Value) (l : List ByteArray) (s : ByteArray) (h1 : w.heap[gs]? = some (.cells #[.map (some gm)] 84 (0, 0))) (hM : MapAt w gm n (fun y => l.any fun z => z.toList == y.toList)) (hn : n ≤ l.length)
    (h3 : w.heap[go]? = some (.cells #[sv] 22 (0, 0))) (h4 : w.ownsRow 0 9 1 sv l.length (l.map Value.string)) (hs : s.size ≤ maxLen) (hin : (l.any fun z => z.toList == s.toList) = false) (hlim : (l.length + 1) * 16 ≤ 140737488355328)
    (d1 : gs ≠ gm) (d2 : gs ≠ go) (d3 : gm ≠ go) (d4 : some gm ≠ sv.ownBlock) (d5 : some go ≠ sv.ownBlock) :
    Calls Tryd.prog 34 #[.string s, .pointer (some ⟨gs, 0, none⟩), .pointer (some ⟨go, 0, none⟩)] w fun e w' => NamesTo w gm go sv s (l ++ [s]) e w' := by
  have hlk := map_lookup hM s hs
  rw [hin] at hlk
  have c1 : w.cell? ⟨gs, 0, none⟩ = some (.map (some gm)) := by simp [World.cell?, h1]
  have hgs : gs < w.heap.size := (Array.getElem?_eq_some_iff.1 h1).1
  have hgo : go < w.heap.size := (Array.getElem?_eq_some_iff.1 h3).1
  obtain ⟨w5, hput, hM5, hg5⟩ := map_put hM (by simp [maxLen]; omega) s hs
  have b3 : w5.heap[go]? = some (.cells #[sv] 22 (0, 0)) := (hg5.block go hgo (fun e => d3 (Option.some.inj e).symm)).trans h3
  have c3 : w5.cell? ⟨go, 0, none⟩ = some sv := by simp [World.cell?, b3]
  have o5 : w5.ownsRow 0 9 1 sv l.length (l.map Value.string) := owns_same h4 fun k hk => by
    have hlt := (h4.lt (k := k) hk).2
    exact hg5.block k hlt fun e => d4 (e.symm.trans hk.symm)
  have O5 := Lib.hid o5
  have M5 := Lib.hid hM5
  have G5 := Lib.hid hg5
  have B3 := Lib.hid b3
  have H4 := Lib.hid h4
  have hgm : gm < w.heap.size := by obtain ⟨D, hD, _⟩ := hM; exact hD.lt
  clear hM h1 h3 h4 hin o5 hM5 hg5 b3
  go_enter Tryd.func34, Tryd.ntmps34
  go_wp2_with (first
    | ((with_reducible refine gate_builtin (b := .append) (xs := #[.tmp 11, .tmp 13]) rfl ?_); at_builtin; go_must ((refine print_append_cells (w0 := w5) 0 rfl (.tmp 11) (.tmp 13) 22 9 (.string ⟨#[]⟩) 1 16 rfl Tryd.underlying22 infoStr9 rfl (by decide) (by decide) sv l.length (l.map Value.string) [.string s] rfl rfl rfl (by simp; rfl) O5.out ⟨rfl, rfl, rfl, Nat.le_refl _, fun _ h => absurd h (Nat.not_lt_zero _)⟩ (Nat.zero_le _) hlim ?_)); go_must (intro v1 w9 ho9 hb hg hat; obtain ⟨A1, k1, rfl⟩ := owns_slice ho9; have O9 := Lib.hid ho9; have HG9 := Lib.hid hg; have HAT := Lib.hid hat; have b9 : w9.heap[go]? = some (.cells #[sv] 22 (0, 0)) := (hg.block go (Nat.lt_of_lt_of_le hgo G5.out.size) d5).trans B3.out; have c9 : w9.cell? ⟨go, 0, none⟩ = some sv := by { simp [World.cell?, b9] }; have f9 := Lib.frozen_of_heap b9 0; have B9 := Lib.hid b9; clear ho9 hb hg hat b9)))
  go_ret
  have hset : ∀ i, i ≠ go → (w9.setCell ⟨go, 0, none⟩ (.slice A1 (l.length + 1) k1)).heap[i]? = w9.heap[i]? := fun i hi => Below.heap_setCell _ _ _ i hi
  have hown : ∀ k, (Value.slice A1 (l.length + 1) k1).ownBlock = some k → k ≠ go := fun k hk e => by
    rcases HAT.out with h | ⟨b, h, hb⟩
    · exact d5 (by rw [← e, ← hk]; exact h)
    · have : b = k := Option.some.inj (h.symm.trans hk)
      have := G5.out.size
      omega
  have hne : some gm ≠ sv.ownBlock := d4
  refine ⟨rfl, _, n + 1, by simp; omega, ?_, ?_, ?_, ?_, fun i hi h1 h2 h3 => ?_, ?_, cells1_set B9.out, ?_, ?_⟩
  · exact HG9.out.os.trans G5.out.os
  · exact HG9.out.tape.trans G5.out.tape
  · exact HG9.out.output.trans G5.out.output
  · have h1 := G5.out.size
    have h2 := HG9.out.size
    simp only [World.setCell, Array.size_modify]
    omega
  · rw [hset i h2, HG9.out.block i (Nat.lt_of_lt_of_le hi G5.out.size) h3, G5.out.block i hi (fun e => h1 (Option.some.inj e))]
  · have := (M5.out.same (w' := w9) (HG9.out.block gm (Nat.lt_of_lt_of_le hgm G5.out.size) d4)).same (w' := w9.setCell ⟨go, 0, none⟩ (.slice A1 (l.length + 1) k1)) (hset gm d3)
    obtain ⟨D, h1, h2⟩ := this
    refine ⟨D, h1, fun x hx => (h2 x hx).trans ?_⟩
    have e : decide (x = s) = (s.toList == x.toList) := by
      rw [ba_dc]
      by_cases e : x = s
      · subst e; rw [dc_true rfl]; simp
      · rw [dc_false (fun e' => e e'.symm)]; simp [e]
    refine congrArg (fun b => DataW.lit (Lit.bool b)) ?_
    simp only [List.any_append, List.any_cons, List.any_nil, Bool.or_false]
    rw [e, Bool.or_comm]
  · have := owns_same (w' := w9.setCell ⟨go, 0, none⟩ (.slice A1 (l.length + 1) k1)) O9.out fun k hk => hset k (hown k hk)
    simpa using this
  · rcases HAT.out with h | ⟨b, h, hb⟩
    · exact .inl h
    · exact .inr ⟨b, h, Nat.le_trans G5.out.size hb⟩
theorem names_answers {Sl : Nat → Nat → Prop} {w w' : World} {gs gm go : Nat} {sv : Value} {n : Nat} {l l' : List ByteArray} {s : ByteArray} {e : Ending} (hSl : ∀ g o, Sl g o → g < w.heap.size)
    (h1 : w.heap[gs]? = some (.cells #[.map (some gm)] 84 (0, 0))) (hk : ∀ k ∈ gs :: gm :: go :: sv.ownBlock.toList, k < w.heap.size ∧ ∀ j, ¬ Sl k j) (hnd : (gs :: gm :: go :: sv.ownBlock.toList).Nodup) (h : NamesTo w gm go sv s l' e w') :
    ∃ u, e = .returned u ∧ Answers EE Sl w (gs :: gm :: go :: sv.ownBlock.toList) [.func (.func 34) #[] #[.pointer (some ⟨gs, 0, none⟩), .pointer (some ⟨go, 0, none⟩)]] (.c (.d (.lit (.string s))), [.fd (Thing.names l')]) u w' := by
  obtain ⟨rfl, v1, n1, hn1, e1, e2, e3, hsz, hkeep, hM, hgo, hown, hblk⟩ := h
  have hsvm : ∀ k, some k = sv.ownBlock ↔ k ∈ sv.ownBlock.toList := fun k => by cases sv.ownBlock <;> simp [eq_comm]
  simp only [List.nodup_cons, List.mem_cons, not_or] at hnd
  obtain ⟨⟨d1, d2, d3⟩, ⟨d4, d5⟩, d6, d7⟩ := hnd
  have kgs := hk gs (by simp)
  have kgm := hk gm (by simp)
  have kgo := hk go (by simp)
  have hsame : ∀ i, i < w.heap.size → ¬ i ∈ gs :: gm :: go :: sv.ownBlock.toList → w'.heap[i]? = w.heap[i]? := fun i hi hn => by
    simp only [List.mem_cons, not_or] at hn
    exact hkeep i hi hn.2.1 hn.2.2.1 fun e => hn.2.2.2 ((hsvm i).1 e)
  have hb : ∀ k, k ∈ v1.ownBlock.toList → k < w'.heap.size ∧ (∀ j, ¬ Sl k j) ∧ (k ∈ sv.ownBlock.toList ∨ w.heap.size ≤ k) := fun k hk' => by
    have hk' : v1.ownBlock = some k := by cases h : v1.ownBlock with
      | none => rw [h] at hk'; simp at hk'
      | some b => rw [h] at hk'; simp at hk'; rw [hk']
    have hlt := (hown.lt k hk').2
    rcases hblk with h | ⟨b, h, hb⟩
    · have hm := (hsvm k).1 (hk'.symm.trans h)
      exact ⟨hlt, (hk k (by simp [hm])).2, .inl hm⟩
    · have : b = k := Option.some.inj (h.symm.trans hk')
      subst this
      exact ⟨hlt, fun j hj => by have := hSl b j hj; omega, .inr hb⟩
  have hall : ∀ k ∈ gs :: gm :: go :: v1.ownBlock.toList, (k < w'.heap.size ∧ ∀ j, ¬ Sl k j) ∧ (w.heap.size ≤ k ∨ k ∈ gs :: gm :: go :: sv.ownBlock.toList) := fun k hk' => by
    simp only [List.mem_cons] at hk'
    rcases hk' with rfl | rfl | rfl | hk'
    · exact ⟨⟨Nat.lt_of_lt_of_le kgs.1 hsz, kgs.2⟩, .inr (by simp)⟩
    · exact ⟨⟨Nat.lt_of_lt_of_le kgm.1 hsz, kgm.2⟩, .inr (by simp)⟩
    · exact ⟨⟨Nat.lt_of_lt_of_le kgo.1 hsz, kgo.2⟩, .inr (by simp)⟩
    · obtain ⟨q1, q2, q3⟩ := hb k hk'
      exact ⟨⟨q1, q2⟩, q3.elim (fun h => .inr (by simp [h])) .inl⟩
  have hfrep : EE.frep (Thing.names l') Sl w' (.func (.func 34) #[] #[.pointer (some ⟨gs, 0, none⟩), .pointer (some ⟨go, 0, none⟩)]) (gs :: gm :: go :: v1.ownBlock.toList) :=
    ⟨gs, gm, go, v1, n1, rfl, rfl, hn1, (hkeep gs kgs.1 d1 d2 (fun e => d3 ((hsvm gs).1 e))).trans h1, hM, hgo, hown⟩
  have hnd' : (gs :: gm :: go :: v1.ownBlock.toList).Nodup := by
    have hno : ∀ k, k ∈ v1.ownBlock.toList → k ≠ gs ∧ k ≠ gm ∧ k ≠ go := fun k hk' => by
      obtain ⟨_, _, h | h⟩ := hb k hk'
      · exact ⟨fun e => d3 (e ▸ h), fun e => d5 (e ▸ h), fun e => d6 (e ▸ h)⟩
      · exact ⟨fun e => by omega, fun e => by omega, fun e => by omega⟩
    simp only [List.nodup_cons, List.mem_cons, not_or]
    refine ⟨⟨d1, d2, fun h => (hno _ h).1 rfl⟩, ⟨d4, fun h => (hno _ h).2.1 rfl⟩, fun h => (hno _ h).2.2 rfl, ?_⟩
    cases v1.ownBlock <;> simp
  refine ⟨_, rfl, Sl, [], gs :: gm :: go :: v1.ownBlock.toList, [], [.func (.func 34) #[] #[.pointer (some ⟨gs, 0, none⟩), .pointer (some ⟨go, 0, none⟩)]], ⟨e1, e2, e3, hsz, fun i hi hn => hsame i hi hn⟩,
    ⟨fun _ _ h => h, fun _ _ h => .inl h, fun g o u hs hu => (cell_same (hsame g (hSl g o hs) fun hm => (hk g hm).2 o hs)).trans hu⟩, .c _ _ _ _ (.d _ _ (.lit _ rfl)), ?_, by simpa using hnd', fun k hk' => ?_⟩
  · have := PReps.cons (E := EE) (Sl := Sl) (w := w') (X0 := fun _ => True) (B0 := 0) _ [] _ [] (gs :: gm :: go :: v1.ownBlock.toList) [] [_] [] (.fd _ _ _ hfrep rfl fun k hk' => (hall k hk').1) .nil
    simpa using this
  · have := hall k (by simpa using hk')
    exact ⟨this.1.1, this.2⟩
theorem arep_fd {Sl : Nat → Nat → Prop} {w : World} {X0 : Nat → Prop} {B0 : Nat} {v : Value} {th : Thing} {p : List Nat} {r : List Value} (h : ARep EE Sl w X0 B0 v (.c (.fd th)) p r) :
    EE.frep th Sl w v p ∧ v.oneCell' = true ∧ (∀ k ∈ p, k < w.heap.size ∧ ∀ j, ¬ Sl k j) ∧ r = [v] := by
  cases h with
  | c _ _ _ _ h => cases h with | fd _ _ _ h h1 hk => exact ⟨h, h1, hk, rfl⟩
theorem by_calls {Sl : Nat → Nat → Prop} {w : World} {v : Value} {th : Thing} {fp : List Nat} {s : ByteArray} {y : b_by} (hy : stepT (th, s, ()) = some y) (hSl : ∀ g o, Sl g o → g < w.heap.size) (hf : EE.frep th Sl w v fp) (hk : ∀ k ∈ fp, k < w.heap.size ∧ ∀ j, ¬ Sl k j) (hnd : fp.Nodup) (hiv : EE.inv w) :
    ∃ g args, Callee 1000003 [v, .string s] g args ∧ (∃ fn, Tryd.prog.funcs[g]? = some fn ∧ fn.body.isSome = true ∧ (fn.name == "runtime.NumGoroutine") = false) ∧ Calls Tryd.prog g args w fun e w' => ∃ u, e = .returned u ∧ Answers EE Sl w fp [v] (rc_by.enc y) u w' := by
  cases th with
  | ren l =>
    simp only [stepT, Option.some.injEq] at hy
    subst hy
    exact ren_calls l s hSl hf hk hiv
  | names l =>
    simp only [stepT] at hy
    split at hy
    · rename_i hs
      obtain ⟨gs, gm, go, sv, n, rfl, rfl, hn, h1, hM, h3, h4⟩ := hf
      have hnd0 := hnd
      simp only [List.nodup_cons, List.mem_cons, not_or] at hnd
      obtain ⟨⟨d1, d2, d3⟩, ⟨d4, d5⟩, d6, d7⟩ := hnd
      have hsvm : ∀ k, some k = sv.ownBlock → k ∈ sv.ownBlock.toList := fun k e => by rw [← e]; simp
      refine ⟨34, #[_, _, _], .inr ⟨rfl, #[], #[_, _], [.string s], rfl, rfl⟩, ⟨Tryd.f34, Tryd.func34, by kernel_rfl, by kernel_rfl⟩, ?_⟩
      split at hy
      · rename_i hin
        injection hy with hy
        subst hy
        exact (names_in w gs gm go n sv l s h1 hM hn h3 h4 hs hin).mono fun e w' h => names_answers (n := n) (l := l) hSl h1 hk hnd0 h
      · rename_i hin
        split at hy
        · rename_i hlim
          injection hy with hy
          subst hy
          exact (names_out w gs gm go n sv l s h1 hM hn h3 h4 hs (by simpa using hin) hlim d1 d2 d4 (fun e => d5 (hsvm _ e)) (fun e => d6 (hsvm _ e))).mono fun e w' h => names_answers (n := n) (l := l) hSl h1 hk hnd0 h
        · cases hy
    · cases hy
theorem ok_by : SpecA Tryd.prog EE 1000003 (ansOf c_by rc_by.enc stepT) := by
  refine specA_by _ _ _ fun x y hy Sl w us fp rs hSl hargs hnd hlt hiv => ?_
  obtain ⟨th, s, _⟩ := x
  obtain ⟨v, vs, p, q, r, t, rfl, rfl, rfl, h1, h2⟩ := areps_cons hargs
  obtain ⟨vs', rfl, h3⟩ := areps_lit h2
  obtain ⟨rfl, rfl, rfl⟩ := areps_nil h3
  obtain ⟨hf, _, hk, rfl⟩ := arep_fd h1
  simp only [List.append_nil] at hnd ⊢
  exact by_calls hy hSl hf hk hnd hiv
theorem dreps_of {Sl : Nat → Nat → Prop} {w : World} {X0 : Nat → Prop} {B0 : Nat} : ∀ {ds : List (DV II)} {us : List Value} {fp : List Nat} {rs : List Value}, PReps EE Sl w X0 B0 us (ds.map .d) fp rs → us.length = ds.length ∧ fp = [] ∧ rs = []
  | [], us, fp, rs, h => by cases h; exact ⟨rfl, rfl, rfl⟩
  | d :: ds, us, fp, rs, h => by
    cases h with
    | cons v vs x xs p q r t h hs =>
      cases h with
      | d =>
        obtain ⟨h1, rfl, rfl⟩ := dreps_of hs
        exact ⟨by simp [h1], rfl, rfl⟩
theorem dreps_move {Sl Sl' : Nat → Nat → Prop} {w w' : World} {X0 X0' : Nat → Prop} {B0 B0' : Nat} (hS : ∀ g o, Sl g o → Sl' g o) (hc : ∀ g o u, Sl g o → w.cell? ⟨g, o, none⟩ = some u → w'.cell? ⟨g, o, none⟩ = some u) :
    ∀ {ds : List (DV II)} {us : List Value} {fp : List Nat} {rs : List Value}, PReps EE Sl w X0 B0 us (ds.map .d) fp rs → PReps EE Sl' w' X0' B0' us (ds.map .d) [] []
  | [], us, fp, rs, h => by cases h; exact .nil
  | d :: ds, us, fp, rs, h => by
    cases h with
    | cons v vs x xs p q r t h hs =>
      cases h with
      | d _ _ h => exact .cons _ _ _ _ [] [] [] [] (.d _ _ (h.move hS hc)) (dreps_move hS hc hs)
theorem sp39 (s : Fam) : sp s 31 = ansOf c_tree_mapper_program rc_tree_mapper_program.enc s.f_tree_mapper_program := by kernel_rfl
def ProgR (Sl : Nat → Nat → Prop) (w : World) (u : Value) (p : TProgram) : Prop := ∃ us : Array Value, u = .agg us ∧ PReps EE Sl w (fun _ => True) 0 us.toList ((row_TProgram p).map .d) [] []
theorem enc_prog (p : TProgram) : c_TProgram.enc p = .agg ((row_TProgram p).map .d) := rfl
theorem arep_prog {Sl : Nat → Nat → Prop} {w : World} {X0 : Nat → Prop} {B0 : Nat} {v : Value} {p : TProgram} {fp : List Nat} {rs : List Value} (h : ARep EE Sl w X0 B0 v (c_TProgram.enc p) fp rs) : ProgR Sl w v p ∧ fp = [] ∧ rs = [] := by
  rw [enc_prog] at h
  cases h with
  | agg us _ _ _ h =>
    have := dreps_of h
    exact ⟨⟨us, rfl, dreps_move (fun _ _ h => h) (fun _ _ _ _ h => h) h⟩, this.2.1, this.2.2⟩
theorem drep_slice {Sl : Nat → Nat → Prop} {w : World} {v : Value} {t : Nat} {xs : List (II t)} (h : DRep EE Sl w v (.sl t xs)) : ∃ A n c, v = .slice A n c := by
  cases h with
  | sl _ _ A n c => exact ⟨A, n, c, rfl⟩
theorem preps_d {Sl : Nat → Nat → Prop} {w : World} {X0 : Nat → Prop} {B0 : Nat} {d : DV II} {ds : List (CV II)} {us : List Value} {fp : List Nat} {rs : List Value} (h : PReps EE Sl w X0 B0 us (.d d :: ds) fp rs) : ∃ v vs, us = v :: vs ∧ DRep EE Sl w v d ∧ PReps EE Sl w X0 B0 vs ds fp rs := by
  cases h with
  | cons v vs x xs p q r t h hs => cases h with | d _ _ h => exact ⟨v, vs, rfl, h, hs⟩
theorem ProgR.nine {Sl : Nat → Nat → Prop} {w : World} {u : Value} {p : TProgram} (h : ProgR Sl w u p) : ∃ s0 A1 n1 c1 A2 n2 c2 A3 n3 c3 A4 n4 c4 A5 n5 c5 A6 n6 c6 A7 n7 c7 A8 n8 c8, u = .agg #[.string s0, .slice A1 n1 c1, .slice A2 n2 c2, .slice A3 n3 c3, .slice A4 n4 c4, .slice A5 n5 c5, .slice A6 n6 c6, .slice A7 n7 c7, .slice A8 n8 c8] := by
  obtain ⟨us, rfl, h⟩ := h
  have h : PReps EE Sl w (fun _ => True) 0 us.toList [.d (.lit (.string p.Name)), .d (.sl 9 p.Before), .d (.sl 9 p.Mid), .d (.sl 9 p.After), .d (.sl 44 p.Recs), .d (.sl 54 p.Vars), .d (.sl 66 p.Routines), .d (.sl 73 p.Body), .d (.sl 9 p.End)] [] [] := h
  obtain ⟨l⟩ := us
  obtain ⟨v0, l0, e0, h0, z0⟩ := preps_d h
  have x0 := drep_lit h0
  obtain ⟨v1, l1, e1, h1, z1⟩ := preps_d z0
  obtain ⟨A1, n1, c1, x1⟩ := drep_slice h1
  obtain ⟨v2, l2, e2, h2, z2⟩ := preps_d z1
  obtain ⟨A2, n2, c2, x2⟩ := drep_slice h2
  obtain ⟨v3, l3, e3, h3, z3⟩ := preps_d z2
  obtain ⟨A3, n3, c3, x3⟩ := drep_slice h3
  obtain ⟨v4, l4, e4, h4, z4⟩ := preps_d z3
  obtain ⟨A4, n4, c4, x4⟩ := drep_slice h4
  obtain ⟨v5, l5, e5, h5, z5⟩ := preps_d z4
  obtain ⟨A5, n5, c5, x5⟩ := drep_slice h5
  obtain ⟨v6, l6, e6, h6, z6⟩ := preps_d z5
  obtain ⟨A6, n6, c6, x6⟩ := drep_slice h6
  obtain ⟨v7, l7, e7, h7, z7⟩ := preps_d z6
  obtain ⟨A7, n7, c7, x7⟩ := drep_slice h7
  obtain ⟨v8, l8, e8, h8, z8⟩ := preps_d z7
  obtain ⟨A8, n8, c8, x8⟩ := drep_slice h8
  cases z8
  subst e8 e7 e6 e5 e4 e3 e2 e1
  have e0 : l = _ := e0
  subst x0 x1 x2 x3 x4 x5 x6 x7 x8 e0
  exact ⟨_, _, _, _, _, _, _, _, _, _, _, _, _, _, _, _, _, _, _, _, _, _, _, _, _, rfl⟩
theorem ProgR.move {Sl Sl' : Nat → Nat → Prop} {w w' : World} {u : Value} {p : TProgram} (h : ProgR Sl w u p) (hS : ∀ g o, Sl g o → Sl' g o) (hc : ∀ g o u, Sl g o → w.cell? ⟨g, o, none⟩ = some u → w'.cell? ⟨g, o, none⟩ = some u) : ProgR Sl' w' u p := by
  obtain ⟨us, rfl, h⟩ := h
  exact ⟨us, rfl, dreps_move hS hc h⟩
structure ProgTo (Sl : Nat → Nat → Prop) (w0 W : World) (v : Value) (fp : List Nat) (q : TProgram) (th : Thing) (u : Value) (w' : World) : Prop where
  ex : ∃ Sl' p2, KeepX (fun _ => False) w0.heap.size w0 w' ∧ Ext Sl Sl' w0 w' [] ∧ (∀ g o, Sl' g o → Sl g o ∨ W.heap.size ≤ g ∨ g ∈ fp) ∧ ProgR Sl' w' u q ∧ EE.frep th Sl' w' v p2 ∧ p2.Nodup ∧ ∀ k ∈ p2, w0.heap.size ≤ k ∧ k < w'.heap.size ∧ ∀ j, ¬ Sl' k j
  size : W.heap.size ≤ w'.heap.size
  same : ∀ k, k < W.heap.size → ¬ k ∈ fp → w'.heap[k]? = W.heap[k]?
theorem inv_below {w W : World} (h : EE.inv w) (hb : Below w.heap.size w W) : EE.inv W := EE.invKeep w W h fun k hk => hb.block k (EE.invLt w k h hk)
theorem prog_calls {s : Fam} (hS : ∀ f, SpecOK Tryd.prog EE (sp s) f) {th : Thing} {p : TProgram} {r : b_tree_mapper_program} (hr : s.f_tree_mapper_program ((th, ()), p, ()) = some r) {Sl : Nat → Nat → Prop} {w0 W : World} {v u : Value} {fp : List Nat}
    (hSl : ∀ g o, Sl g o → g < w0.heap.size) (hb : Below w0.heap.size w0 W) (hiv : EE.inv w0) (hp : ProgR Sl w0 u p) (hf : EE.frep th Sl W v fp) (h1 : v.oneCell' = true) (hk : ∀ k ∈ fp, w0.heap.size ≤ k ∧ k < W.heap.size) (hnd : fp.Nodup) :
    Calls Tryd.prog 31 #[.agg #[v], u] W fun e w' => ∃ u', e = .returned u' ∧ ProgTo Sl w0 W v fp r.1 r.2.1 u' w' := by
  have hcell : ∀ g o u, Sl g o → w0.cell? ⟨g, o, none⟩ = some u → W.cell? ⟨g, o, none⟩ = some u := fun g o u hs hu => (cell_same (hb.block g (hSl g o hs))).trans hu
  have hno : ∀ k ∈ fp, ∀ j, ¬ Sl k j := fun k hk' j hj => by have := hSl k j hj; have := (hk k hk').1; omega
  obtain ⟨us, rfl, hp⟩ := hp
  have hSl' : ∀ g o, Sl g o → g < W.heap.size := fun g o h => Nat.lt_of_lt_of_le (hSl g o h) hb.size
  have hm : PReps EE Sl W (· ∈ fp) W.heap.size [v] [.fd th] fp [v] := by
    have := PReps.cons (E := EE) (Sl := Sl) (w := W) (X0 := (· ∈ fp)) (B0 := W.heap.size) v [] (.fd th) [] fp [] [v] [] (.fd _ _ _ hf h1 fun k hk' => ⟨(hk k hk').2, hno k hk'⟩) .nil
    simpa using this
  have ha : AReps EE Sl W (· ∈ fp) W.heap.size [.agg #[v], .agg us] (c_tree_mapper_program.enc ((th, ()), p, ())) fp [v] := by
    have := AReps.cons (E := EE) (Sl := Sl) (w := W) (X0 := (· ∈ fp)) (B0 := W.heap.size) (.agg #[v]) [.agg us] (.agg [.fd th]) [c_TProgram.enc p] fp [] [v] [] (.agg _ _ _ _ hm) (.cons _ _ _ _ [] [] [] [] (.agg us _ [] [] (dreps_move (fun _ _ h => h) hcell hp)) .nil)
    rw [List.append_nil] at this
    exact this
  obtain ⟨g', args, hc, hfn, hcalls⟩ := hS 31 (c_tree_mapper_program.enc ((th, ()), p, ())) (rc_tree_mapper_program.enc r) (by rw [sp39]; exact ans_run _ _ _ rfl hr) Sl W _ fp [v] hSl' ha hnd
    (fun k hk' => ⟨(hk k hk').2, fun hg => by have := EE.invLt w0 k hiv hg; have := (hk k hk').1; omega⟩) (inv_below hiv hb)
  rcases hc with ⟨_, rfl, hargs⟩ | ⟨hne, _⟩
  · have : args = #[.agg #[v], .agg us] := by cases args; simpa using hargs
    subst this
    refine hcalls.mono fun e w' ⟨u', he, Sl', p1, p2, r1, r2, hkeep, hext, hu, hps, hnd', hlt⟩ => ⟨u', he, ?_⟩
    obtain ⟨hq, rfl, rfl⟩ := arep_prog hu
    refine ⟨⟨Sl', p2, ⟨hkeep.os.trans hb.os, hkeep.tape.trans hb.tape, hkeep.output.trans hb.output, Nat.le_trans hb.size hkeep.size, fun i hi _ => (hkeep.block i (Nat.lt_of_lt_of_le hi hb.size) fun hm => by have := (hk i hm).1; omega).trans (hb.block i hi)⟩,
      ⟨hext.s, fun g o hg => (hext.n g o hg).imp id fun hx => ⟨.inl (hx.1.elim (fun h => Nat.le_trans hb.size h) fun h => (hk g h).1), hx.2⟩, fun g o u hs hu => hext.c g o u hs (hcell g o u hs hu)⟩, fun g o hg => (hext.n g o hg).imp id fun hx => hx.1, hq, ?_⟩, hkeep.size, fun k h1 h2 => hkeep.block k h1 h2⟩
    have hps : PReps EE Sl' w' (fun _ => True) 0 [v] [.fd r.2.1] p2 r2 := hps
    cases hps with
    | cons _ _ _ _ p' q' r' t' h hs =>
      cases hs
      cases h with
      | fd _ _ _ h _ hk2 =>
        simp only [List.append_nil, List.nil_append] at hnd' hlt hk2 ⊢
        exact ⟨h, hnd', fun k hk' => ⟨(hlt k hk').2.elim (fun h => Nat.le_trans hb.size h) fun h => (hk k h).1, hk2 k hk'⟩⟩
  · cases hne
end Go.Ev
end
section
open Go Go.Proofs
namespace Go.Ev
open Go.RowKit Go.Proofs.YtlepjafokfhnfaaDoor Go.Proofs.YtlepjafokfhnfaaDoorW.PrintWords Go.Proofs.YtlepjafokfhnfaaDoorW.PrintLast Go.Proofs.YtlepjafokfhnfaaDoorW.PrintMore
set_option linter.unusedVariables false
set_option linter.unusedSimpArgs false
set_option maxHeartbeats 4000000
set_option maxRecDepth 100000
theorem heap_top (w : World) (a : Go.Obj) : (w.alloc a).heap[w.heap.size]? = some a := (MapKept.heap_alloc w a).1
theorem heap_mid (w : World) (a b c : Go.Obj) : (((w.alloc a).alloc b).alloc c).heap[w.heap.size + 1]? = some b := by
  rw [Below.heap_alloc _ _ _ (by simp only [size_alloc]; omega)]
  have := heap_top (w.alloc a) b
  rwa [size_alloc] at this
theorem heap_three (w : World) (a b c : Go.Obj) : (((w.alloc a).alloc b).alloc c).heap[w.heap.size + 1 + 1]? = some c := by
  have := heap_top ((w.alloc a).alloc b) c
  rwa [size_alloc, size_alloc] at this
theorem cells_set {w : World} {g t : Nat} {cs : Array Value} (h : w.heap[g]? = some (.cells cs t (0, 0))) (j : Nat) (v : Value) : (w.setCell ⟨g, j, none⟩ v).heap[g]? = some (.cells (cs.setIfInBounds j v) t (0, 0)) := by
  simp [World.setCell, Array.getElem?_modify, h]
theorem so (w : World) (a : Addr) (v : Value) : (w.setCell a v).os = w.os := by simp only [World.setCell]
theorem st (w : World) (a : Addr) (v : Value) : (w.setCell a v).tape = w.tape := by simp only [World.setCell]
theorem su (w : World) (a : Addr) (v : Value) : (w.setCell a v).output = w.output := by simp only [World.setCell]
theorem sz (w : World) (a : Addr) (v : Value) : (w.setCell a v).heap.size = w.heap.size := by simp only [World.setCell, Array.size_modify]
def set9 (w : World) (g : Nat) (b0 b1 b2 b3 b4 b5 b6 b7 b8 : Value) : World := (((((((((w.setCell ⟨g, 0, none⟩ b0).setCell ⟨g, 1, none⟩ b1).setCell ⟨g, 2, none⟩ b2).setCell ⟨g, 3, none⟩ b3).setCell ⟨g, 4, none⟩ b4).setCell ⟨g, 5, none⟩ b5).setCell ⟨g, 6, none⟩ b6).setCell ⟨g, 7, none⟩ b7).setCell ⟨g, 8, none⟩ b8)
theorem set9_at {w : World} {g t : Nat} {a0 a1 a2 a3 a4 a5 a6 a7 a8 b0 b1 b2 b3 b4 b5 b6 b7 b8 : Value} (h : w.heap[g]? = some (.cells #[a0, a1, a2, a3, a4, a5, a6, a7, a8] t (0, 0))) : (set9 w g b0 b1 b2 b3 b4 b5 b6 b7 b8).heap[g]? = some (.cells #[b0, b1, b2, b3, b4, b5, b6, b7, b8] t (0, 0)) := by
  have h0 := cells_set h 0 b0
  have h1 := cells_set h0 1 b1
  have h2 := cells_set h1 2 b2
  have h3 := cells_set h2 3 b3
  have h4 := cells_set h3 4 b4
  have h5 := cells_set h4 5 b5
  have h6 := cells_set h5 6 b6
  have h7 := cells_set h6 7 b7
  have h8 := cells_set h7 8 b8
  simp only [List.setIfInBounds_toArray, List.set_cons_zero, List.set_cons_succ] at h8
  exact h8
theorem set9_ne {w : World} {g : Nat} {b0 b1 b2 b3 b4 b5 b6 b7 b8 : Value} (k : Nat) (hk : k ≠ g) : (set9 w g b0 b1 b2 b3 b4 b5 b6 b7 b8).heap[k]? = w.heap[k]? := by
  exact (Below.heap_setCell _ ⟨g, 8, none⟩ _ k hk).trans ((Below.heap_setCell _ ⟨g, 7, none⟩ _ k hk).trans ((Below.heap_setCell _ ⟨g, 6, none⟩ _ k hk).trans ((Below.heap_setCell _ ⟨g, 5, none⟩ _ k hk).trans ((Below.heap_setCell _ ⟨g, 4, none⟩ _ k hk).trans ((Below.heap_setCell _ ⟨g, 3, none⟩ _ k hk).trans ((Below.heap_setCell _ ⟨g, 2, none⟩ _ k hk).trans ((Below.heap_setCell _ ⟨g, 1, none⟩ _ k hk).trans ((Below.heap_setCell _ ⟨g, 0, none⟩ _ k hk)))))))))
theorem set9_size {w : World} {g : Nat} {b0 b1 b2 b3 b4 b5 b6 b7 b8 : Value} : (set9 w g b0 b1 b2 b3 b4 b5 b6 b7 b8).heap.size = w.heap.size := by
  exact (sz _ _ _).trans ((sz _ _ _).trans ((sz _ _ _).trans ((sz _ _ _).trans ((sz _ _ _).trans ((sz _ _ _).trans ((sz _ _ _).trans ((sz _ _ _).trans (sz _ _ _))))))))
theorem set9_all (w : World) (g : Nat) (b0 b1 b2 b3 b4 b5 b6 b7 b8 : Value) : (set9 w g b0 b1 b2 b3 b4 b5 b6 b7 b8).os = w.os ∧ (set9 w g b0 b1 b2 b3 b4 b5 b6 b7 b8).tape = w.tape ∧ (set9 w g b0 b1 b2 b3 b4 b5 b6 b7 b8).output = w.output ∧ (set9 w g b0 b1 b2 b3 b4 b5 b6 b7 b8).heap.size = w.heap.size ∧ ∀ k, k ≠ g → (set9 w g b0 b1 b2 b3 b4 b5 b6 b7 b8).heap[k]? = w.heap[k]? :=
  ⟨(so _ _ _).trans ((so _ _ _).trans ((so _ _ _).trans ((so _ _ _).trans ((so _ _ _).trans ((so _ _ _).trans ((so _ _ _).trans ((so _ _ _).trans (so _ _ _)))))))), (st _ _ _).trans ((st _ _ _).trans ((st _ _ _).trans ((st _ _ _).trans ((st _ _ _).trans ((st _ _ _).trans ((st _ _ _).trans ((st _ _ _).trans (st _ _ _)))))))), (su _ _ _).trans ((su _ _ _).trans ((su _ _ _).trans ((su _ _ _).trans ((su _ _ _).trans ((su _ _ _).trans ((su _ _ _).trans ((su _ _ _).trans (su _ _ _)))))))), set9_size, fun k hk => set9_ne k hk⟩
theorem res16 (tmps : Array Value) (g : Nat) (w : World) (cs : Array Value) (h4 : tmps.getD 4 undef = .pointer (some ⟨g, 0, none⟩)) (hg : w.heap[g]? = some (.cells cs 28 (0, 0))) (hs : cs.size = 9) : (results Tryd.f18 tmps).run Tryd.prog w = .ok (.agg cs) w :=
  results_cell_row rfl tmps w g 28 cs (0, 0) _ h4 hg Tryd.underlying28 rfl (by rw [hs]; kernel_rfl)
theorem rename_walk {s : Fam} (hS : ∀ f, SpecOK Tryd.prog EE (sp s) f) {p : TProgram} {l : List TPair} {r : b_tree_mapper_program} (hr : s.f_tree_mapper_program ((Thing.ren l, ()), p, ()) = some r) {Sl : Nat → Nat → Prop} {w : World} {sv : Value} {s0 : ByteArray} {A1 A2 A3 A4 A5 A6 A7 A8 : Option Addr} {n1 n2 n3 n4 n5 n6 n7 n8 c1 c2 c3 c4 c5 c6 c7 c8 : Nat}
    (hSl : ∀ g o, Sl g o → g < w.heap.size) (hiv : EE.inv w) (hp : ProgR Sl w (.agg #[.string s0, .slice A1 n1 c1, .slice A2 n2 c2, .slice A3 n3 c3, .slice A4 n4 c4, .slice A5 n5 c5, .slice A6 n6 c6, .slice A7 n7 c7, .slice A8 n8 c8]) p) (hd : DRep EE0 Sl w sv (.sl 36 l)) (A : Option Addr) (n c : Nat) (hsv : sv = .slice A n c) :
    Calls Tryd.prog 18 #[.agg #[.string s0, .slice A1 n1 c1, .slice A2 n2 c2, .slice A3 n3 c3, .slice A4 n4 c4, .slice A5 n5 c5, .slice A6 n6 c6, .slice A7 n7 c7, .slice A8 n8 c8], sv] w fun e w' => ∃ u', e = .returned u' ∧ Answers EE Sl w [] [] (rc_tree_Rename.enc r.1) u' w' := by
  subst hsv
  have HP := Lib.hid hp
  have HD := Lib.hid hd
  have HR := Lib.hid hr
  have HS := Lib.hid hS
  have HSL := Lib.hid hSl
  have HI := Lib.hid hiv
  clear hp hd hr hS hSl hiv
  go_enter Tryd.func18, Tryd.ntmps18
  go_wp2_with (first | (go_at_call 31; go_must (refine (prog_calls HS.out HR.out HSL.out (below_alloc (below_alloc (below_alloc (Below.refl _ _) _) _) _) HI.out HP.out (fp := [w.heap.size + 1]) ?hf rfl ?hk (by simp)).mono ?_; (case hf => exact ⟨w.heap.size + 1, .slice A n c, rfl, rfl, heap_mid _ _ _ _, HD.out.move (fun _ _ h => h) (fun g o u hs hu => (cell_same ((below_alloc (below_alloc (below_alloc (Below.refl _ w) _) _) _).block g (HSL.out g o hs))).trans hu)⟩); (case hk => intro k hk; simp only [List.mem_singleton] at hk; subst hk; simp only [size_alloc]; omega)); go_must (rintro e w5 ⟨u', rfl, H5⟩; have H := Lib.hid H5; obtain ⟨⟨Sl5, p2, _, _, _, hq, _⟩, _, hsame⟩ := H5; obtain ⟨t0, D1, m1, e1, D2, m2, e2, D3, m3, e3, D4, m4, e4, D5, m5, e5, D6, m6, e6, D7, m7, e7, D8, m8, e8, rfl⟩ := hq.nine; have hb := hsame (w.heap.size + 1 + 1) (by simp only [size_alloc]; omega) (by simp); rw [heap_three] at hb; have f0 := Lib.frozen_of_heap hb 0; have c0 : w5.cell? ⟨w.heap.size + 1 + 1, 0, none⟩ = some (.string ⟨#[]⟩) := by { simp [World.cell?, hb] }; have f1 := Lib.frozen_of_heap hb 1; have c1 : w5.cell? ⟨w.heap.size + 1 + 1, 1, none⟩ = some (.slice none 0 0) := by { simp [World.cell?, hb] }; have f2 := Lib.frozen_of_heap hb 2; have c2 : w5.cell? ⟨w.heap.size + 1 + 1, 2, none⟩ = some (.slice none 0 0) := by { simp [World.cell?, hb] }; have f3 := Lib.frozen_of_heap hb 3; have c3 : w5.cell? ⟨w.heap.size + 1 + 1, 3, none⟩ = some (.slice none 0 0) := by { simp [World.cell?, hb] }; have f4 := Lib.frozen_of_heap hb 4; have c4 : w5.cell? ⟨w.heap.size + 1 + 1, 4, none⟩ = some (.slice none 0 0) := by { simp [World.cell?, hb] }; have f5 := Lib.frozen_of_heap hb 5; have c5 : w5.cell? ⟨w.heap.size + 1 + 1, 5, none⟩ = some (.slice none 0 0) := by { simp [World.cell?, hb] }; have f6 := Lib.frozen_of_heap hb 6; have c6 : w5.cell? ⟨w.heap.size + 1 + 1, 6, none⟩ = some (.slice none 0 0) := by { simp [World.cell?, hb] }; have f7 := Lib.frozen_of_heap hb 7; have c7 : w5.cell? ⟨w.heap.size + 1 + 1, 7, none⟩ = some (.slice none 0 0) := by { simp [World.cell?, hb] }; have f8 := Lib.frozen_of_heap hb 8; have c8 : w5.cell? ⟨w.heap.size + 1 + 1, 8, none⟩ = some (.slice none 0 0) := by { simp [World.cell?, hb] }; have HB := Lib.hid hb; clear hb hq hsame)))
  go_wp2
  have hset := set9_at (b0 := .string t0) (b1 := .slice D1 m1 e1) (b2 := .slice D2 m2 e2) (b3 := .slice D3 m3 e3) (b4 := .slice D4 m4 e4) (b5 := .slice D5 m5 e5) (b6 := .slice D6 m6 e6) (b7 := .slice D7 m7 e7) (b8 := .slice D8 m8 e8) HB.out
  change bodyPost _ _ _ _ _ (set9 w5 (w.heap.size + 1 + 1) (.string t0) (.slice D1 m1 e1) (.slice D2 m2 e2) (.slice D3 m3 e3) (.slice D4 m4 e4) (.slice D5 m5 e5) (.slice D6 m6 e6) (.slice D7 m7 e7) (.slice D8 m8 e8))
  obtain ⟨k1, k2, k3, k4, k5⟩ := set9_all w5 (w.heap.size + 1 + 1) (.string t0) (.slice D1 m1 e1) (.slice D2 m2 e2) (.slice D3 m3 e3) (.slice D4 m4 e4) (.slice D5 m5 e5) (.slice D6 m6 e6) (.slice D7 m7 e7) (.slice D8 m8 e8)
  generalize set9 w5 (w.heap.size + 1 + 1) (.string t0) (.slice D1 m1 e1) (.slice D2 m2 e2) (.slice D3 m3 e3) (.slice D4 m4 e4) (.slice D5 m5 e5) (.slice D6 m6 e6) (.slice D7 m7 e7) (.slice D8 m8 e8) = w9 at hset k1 k2 k3 k4 k5 ⊢
  refine bodyPost_ret (res16 _ (w.heap.size + 1 + 1) w9 _ rfl hset rfl) rfl ?_
  obtain ⟨⟨Sl5, p2, hkeep, hext, hnew, hq, hf5, hnd5, hk5⟩, hsize, hsame⟩ := H.out
  have hne : ∀ g o, Sl5 g o → g ≠ w.heap.size + 1 + 1 := fun g o hg e => by
    rcases hnew g o hg with h | h | h
    · have := HSL.out g o h; omega
    · simp only [size_alloc] at h; omega
    · simp at h; omega
  have hq' := hq.move (w' := w9) (fun _ _ h => h) fun g o u hs hu => (cell_same (k5 g (hne g o hs))).trans hu
  refine ⟨_, rfl, Sl5, [], [], [], [], ?_, ?_, ?_, .nil, List.nodup_nil, fun k hk => by cases hk⟩
  · exact ⟨k1.trans hkeep.os, k2.trans hkeep.tape, k3.trans hkeep.output, Nat.le_trans hkeep.size (Nat.le_of_eq k4.symm), fun i hi _ => (k5 i (by omega)).trans (hkeep.block i hi (fun h => h))⟩
  · exact ⟨hext.s, fun g o hg => (hext.n g o hg).imp id fun hx => ⟨hx.1, Nat.lt_of_lt_of_le hx.2 (Nat.le_of_eq k4.symm)⟩, fun g o u hs hu => (cell_same (k5 g (by have := HSL.out g o hs; omega))).trans (hext.c g o u hs hu)⟩
  · obtain ⟨us, he, hps⟩ := hq'
    injection he with he
    subst he
    exact .agg _ _ [] [] hps
theorem ok_tree_Rename (s : Fam) (k : Nat) (hS : ∀ f, SpecOK Tryd.prog EE (sp s) f) : SpecA Tryd.prog EE 18 (ansOf c_tree_Rename rc_tree_Rename.enc fun x => B_tree_Rename s k x.1 x.2.1) := by
  refine specA_by _ _ _ fun x y hy Sl w us fp rs hSl hargs hnd hlt hiv => ?_
  obtain ⟨p, l, _⟩ := x
  obtain ⟨r, hr, rfl⟩ := Option.map_eq_some_iff.1 hy
  obtain ⟨v, vs, fp1, fp2, rs1, rs2, rfl, rfl, rfl, h1, h2⟩ := areps_cons hargs
  obtain ⟨hp, rfl, rfl⟩ := arep_prog h1
  obtain ⟨sv, vs', rfl, hd, h3⟩ := areps_d h2
  obtain ⟨rfl, rfl, rfl⟩ := areps_nil h3
  obtain ⟨A, n, c, hsv⟩ := drep_slice hd
  refine ⟨18, #[_, _], .inl ⟨by decide, rfl, rfl⟩, ⟨Tryd.f18, Tryd.func18, by kernel_rfl, by kernel_rfl⟩, ?_⟩
  obtain ⟨s0, A1, n1, c1, A2, n2, c2, A3, n3, c3, A4, n4, c4, A5, n5, c5, A6, n6, c6, A7, n7, c7, A8, n8, c8, rfl⟩ := hp.nine
  exact rename_walk hS hr hSl hiv hp (drep_env' hd) A n c hsv
end Go.Ev
end
section
open Go Go.Proofs
namespace Go.Ev
open Go.RowKit Go.Proofs.YtlepjafokfhnfaaDoor Go.Proofs.YtlepjafokfhnfaaDoorW.PrintWords Go.Proofs.YtlepjafokfhnfaaDoorW.PrintLast Go.Proofs.YtlepjafokfhnfaaDoorW.PrintMore
set_option linter.unusedVariables false
set_option linter.unusedSimpArgs false
set_option maxHeartbeats 4000000
set_option maxRecDepth 100000
theorem make_run73 (w : World) : (Instr.makeMap 84 none).run Tryd.prog w = .ok (.map (some w.heap.size)) (w.alloc (.map #[] 0)) := by
  simp [Instr.makeMap, run_underlying Tryd.underlying84]
  try rfl
theorem heap4_1 (w : World) (a b c d : Go.Obj) : ((((w.alloc a).alloc b).alloc c).alloc d).heap[w.heap.size + 1]? = some b := by
  rw [Below.heap_alloc _ _ _ (by simp only [size_alloc]; omega)]
  exact heap_mid w a b c
theorem heap4_2 (w : World) (a b c d : Go.Obj) : ((((w.alloc a).alloc b).alloc c).alloc d).heap[w.heap.size + 1 + 1]? = some c := by
  rw [Below.heap_alloc _ _ _ (by simp only [size_alloc]; omega)]
  exact heap_three w a b c
theorem heap4_3 (w : World) (a b c d : Go.Obj) : ((((w.alloc a).alloc b).alloc c).alloc d).heap[w.heap.size + 1 + 1 + 1]? = some d := by
  have := heap_top (((w.alloc a).alloc b).alloc c) d
  rwa [size_alloc, size_alloc, size_alloc] at this
theorem map_made (w : World) (a b d : Go.Obj) : MapAt ((((w.alloc a).alloc b).alloc (.map #[] 0)).alloc d) (w.heap.size + 1 + 1) 0 (fun y => ([] : List ByteArray).any fun z => z.toList == y.toList) := by
  refine MapAt.same (w := ((w.alloc a).alloc b).alloc (.map #[] 0)) ?_ (Below.heap_alloc _ _ _ (by simp only [size_alloc]; omega))
  have := World.ownsMap_made (H := Unit) ((w.alloc a).alloc b) Tryd.prog 9 (plainElem Tryd.prog 4)
  rw [size_alloc, size_alloc] at this
  exact ⟨_, this, fun s _ => rfl⟩
theorem names_row {Sl : Nat → Nat → Prop} {w : World} {gs go : Nat} {l : List ByteArray} {fp : List Nat} (h : EE.frep (Thing.names l) Sl w (.func (.func 34) #[] #[.pointer (some ⟨gs, 0, none⟩), .pointer (some ⟨go, 0, none⟩)]) fp) :
    ∃ sv, w.heap[go]? = some (.cells #[sv] 22 (0, 0)) ∧ w.ownsRow 0 9 1 sv l.length (l.map Value.string) ∧ ∀ k, sv.ownBlock = some k → k ∈ fp := by
  obtain ⟨gs', gm, go', sv, n, hv, rfl, _, _, _, h3, h4⟩ := h
  simp at hv
  obtain ⟨rfl, rfl⟩ := hv
  exact ⟨sv, h3, h4, fun k hk => by simp [hk]⟩
theorem names_walk {s : Fam} (hS : ∀ f, SpecOK Tryd.prog EE (sp s) f) {p : TProgram} {l : List ByteArray} {r : b_tree_mapper_program} (hr : s.f_tree_mapper_program ((Thing.names [], ()), p, ()) = some r) (hrl : r.2.1 = .names l) {Sl : Nat → Nat → Prop} {w : World} {s0 : ByteArray} {A1 A2 A3 A4 A5 A6 A7 A8 : Option Addr} {n1 n2 n3 n4 n5 n6 n7 n8 c1 c2 c3 c4 c5 c6 c7 c8 : Nat}
    (hSl : ∀ g o, Sl g o → g < w.heap.size) (hiv : EE.inv w) (hp : ProgR Sl w (.agg #[.string s0, .slice A1 n1 c1, .slice A2 n2 c2, .slice A3 n3 c3, .slice A4 n4 c4, .slice A5 n5 c5, .slice A6 n6 c6, .slice A7 n7 c7, .slice A8 n8 c8]) p) :
    Calls Tryd.prog 26 #[.agg #[.string s0, .slice A1 n1 c1, .slice A2 n2 c2, .slice A3 n3 c3, .slice A4 n4 c4, .slice A5 n5 c5, .slice A6 n6 c6, .slice A7 n7 c7, .slice A8 n8 c8]] w fun e w' => ∃ u', e = .returned u' ∧ Answers EE Sl w [] [] (rc_tree_Names.enc l) u' w' := by
  have HP := Lib.hid hp
  have HR := Lib.hid hr
  have HS := Lib.hid hS
  have HSL := Lib.hid hSl
  have HI := Lib.hid hiv
  have hmk := make_run73
  clear hp hr hS hSl hiv
  go_enter Tryd.func26, Tryd.ntmps26
  go_wp2_with (first | (go_at_call 31; go_must (refine (prog_calls HS.out HR.out HSL.out (below_alloc (below_alloc (below_alloc (below_alloc (Below.refl _ _) _) _) _) _) HI.out HP.out (fp := [w.heap.size + 1 + 1 + 1, w.heap.size + 1 + 1, w.heap.size + 1]) ?hf rfl ?hk (by simp; omega)).mono ?_; (case hf => exact ⟨w.heap.size + 1 + 1 + 1, w.heap.size + 1 + 1, w.heap.size + 1, .slice none 0 0, 0, rfl, rfl, Nat.zero_le _, heap4_3 _ _ _ _ _, (map_made w _ _ _).same rfl, heap4_1 _ _ _ _ _, rfl, .inl ⟨rfl, rfl⟩⟩); (case hk => intro k hk; simp only [List.mem_cons, List.not_mem_nil, or_false] at hk; simp only [size_alloc]; omega)); go_must (rintro e w5 ⟨u', rfl, H5⟩; have H := Lib.hid H5; obtain ⟨⟨Sl5, p2, _, _, _, _, hf5, _⟩, _, _⟩ := H5; rw [hrl] at hf5; obtain ⟨sv, hgo, hown, _⟩ := names_row hf5; obtain ⟨A9, c9, rfl⟩ := owns_slice hown; have hc9 : w5.cell? ⟨w.heap.size + 1, 0, none⟩ = some (.slice A9 l.length c9) := by { simp [World.cell?, hgo] }; clear hf5 hgo hown)))
  go_ret
  obtain ⟨⟨Sl5, p2, hkeep, hext, hnew, hq, hf5, hnd5, hk5⟩, _, _⟩ := H.out
  rw [hrl] at hf5
  obtain ⟨sv, hgo, hown, hin⟩ := names_row hf5
  obtain rfl : sv = .slice A9 l.length c9 := by
    simp only [World.cell?, hgo] at hc9
    simpa using hc9
  refine ⟨_, rfl, fun g j => Sl5 g j ∨ ((Value.slice A9 l.length c9).ownBlock = some g ∧ j < l.length), [], [], [], [], keepX_mono hkeep (fun _ h => h.elim), ⟨fun g o h => .inl (hext.s g o h), fun g o h => ?_, hext.c⟩, .c _ _ _ _ (.d _ _ ?_), .nil, List.nodup_nil, fun k hk => by cases hk⟩
  · rcases h with h | ⟨h, _⟩
    · exact hext.n g o h
    · have := hk5 g (hin g h)
      exact .inr ⟨.inl this.1, this.2.1⟩
  · refine own_sl hEE (ti := { size := 1, bytes := 16, zero := [.string ⟨#[]⟩], td := .string }) (by kernel_rfl) hown (fun i r j y hi hj => ?_) (fun k hk j => ?_)
    · have hj' : ([DV.lit (.string r)] : List (DV II))[j]? = some y := hj
      cases j with
      | zero =>
        simp at hj'
        subst hj'
        exact ⟨.string r, by simp [hi], .lit _ rfl⟩
      | succ j => simp at hj'
    · constructor
      · rintro (h | ⟨_, h⟩)
        · exact absurd h ((hk5 k (hin k hk)).2.2 j)
        · simpa using h
      · intro h
        exact .inr ⟨hk, by simpa using h⟩
theorem ok_tree_Names (s : Fam) (k : Nat) (hS : ∀ f, SpecOK Tryd.prog EE (sp s) f) : SpecA Tryd.prog EE 26 (ansOf c_tree_Names rc_tree_Names.enc fun x => B_tree_Names s k x.1) := by
  refine specA_by _ _ _ fun x y hy Sl w us fp rs hSl hargs hnd hlt hiv => ?_
  obtain ⟨p, _⟩ := x
  obtain ⟨r, hr, hy⟩ := Option.bind_eq_some_iff.1 hy
  obtain ⟨v, vs, fp1, fp2, rs1, rs2, rfl, rfl, rfl, h1, h2⟩ := areps_cons hargs
  obtain ⟨hp, rfl, rfl⟩ := arep_prog h1
  obtain ⟨rfl, rfl, rfl⟩ := areps_nil h2
  refine ⟨26, #[_], .inl ⟨by decide, rfl, rfl⟩, ⟨Tryd.f26, Tryd.func26, by kernel_rfl, by kernel_rfl⟩, ?_⟩
  obtain ⟨s0, A1, n1, c1, A2, n2, c2, A3, n3, c3, A4, n4, c4, A5, n5, c5, A6, n6, c6, A7, n7, c7, A8, n8, c8, rfl⟩ := hp.nine
  cases hrl : r.2.1 with
  | ren => rw [hrl] at hy; cases hy
  | names l =>
    rw [hrl] at hy
    injection hy with hy
    subst hy
    exact names_walk hS hr hrl hSl hiv hp
end Go.Ev
end
section
open Go Go.Proofs
namespace Go.Ev
open Go.RowKit Go.Proofs.YtlepjafokfhnfaaDoor Go.Proofs.YtlepjafokfhnfaaDoorW.PrintWords Go.Proofs.YtlepjafokfhnfaaDoorW.PrintLast Go.Proofs.YtlepjafokfhnfaaDoorW.PrintMore
set_option linter.unusedVariables false
set_option linter.unusedSimpArgs false
set_option maxHeartbeats 4000000
set_option maxRecDepth 100000
structure PIn (Sl : Nat → Nat → Prop) (w : World) (v : Value) (fp : List Nat) (th : Thing) (wr : World) (fp' : List Nat) (Slr : Nat → Nat → Prop) : Prop where
  rep : EE.frep th Slr wr v fp'
  nd : fp'.Nodup
  at_ : ∀ k ∈ fp', k < wr.heap.size ∧ (∀ j, ¬ Slr k j) ∧ (k ∈ fp ∨ w.heap.size + 2 ≤ k)
  keep : KeepX (· ∈ fp) w.heap.size w wr
  size : w.heap.size + 2 ≤ wr.heap.size
  ext : Ext Sl Slr w wr fp
  news : ∀ g o, Slr g o → Sl g o ∨ g ∈ fp ∨ w.heap.size + 2 ≤ g
def PMid (Sl : Nat → Nat → Prop) (w : World) (v : Value) (fp : List Nat) (th : Thing) (wr : World) : Prop := ∃ fp' Slr, PIn Sl w v fp th wr fp' Slr
theorem sp_by (s : Fam) : sp s 1000003 = ansOf c_by rc_by.enc s.f_by := by kernel_rfl
section
variable {s : Fam} {Sl : Nat → Nat → Prop} {w wr : World} {v : Value} {fp : List Nat} {th : Thing}
theorem by_step (hS : ∀ f, SpecOK Tryd.prog EE (sp s) f) (hSl : ∀ g o, Sl g o → g < w.heap.size) (hiv : EE.inv w) (hfp : ∀ k ∈ fp, k < w.heap.size ∧ ¬ EE.glob k) (h1 : v.oneCell' = true) {g : Nat} {cs : Array Value} (hv : v = .func (.func g) #[] cs)
    (hm : PMid Sl w v fp th wr) {p : ByteArray} {t : b_by} (ht : s.f_by (th, p, ()) = some t) {args : Array Value} (ha : args.toList = .string p :: cs.toList) :
    Calls Tryd.prog g args wr fun e w' => e = .returned (.string t.1) ∧ PMid Sl w v fp t.2.1 w' ∧ w'.heap[w.heap.size]? = wr.heap[w.heap.size]? ∧ w'.heap[w.heap.size + 1]? = wr.heap[w.heap.size + 1]? := by
  obtain ⟨fp', Slr, hp⟩ := hm
  have hlt : ∀ g o, Slr g o → g < wr.heap.size := fun g o h => by
    rcases hp.ext.n g o h with h | ⟨_, h⟩
    · exact Nat.lt_of_lt_of_le (hSl g o h) hp.keep.size
    · exact h
  have hinv : EE.inv wr := EE.invKeep w wr hiv fun k hk => hp.keep.block k (EE.invLt w k hiv hk) fun hm => (hfp k hm).2 hk
  have hpp : PReps EE Slr wr (· ∈ fp') wr.heap.size [v] [.fd th] fp' [v] := by
    have := PReps.cons (E := EE) (Sl := Slr) (w := wr) (X0 := (· ∈ fp')) (B0 := wr.heap.size) v [] (.fd th) [] fp' [] [v] [] (.fd _ _ _ hp.rep h1 fun k hk => ⟨(hp.at_ k hk).1, (hp.at_ k hk).2.1⟩) .nil
    simpa using this
  have hargs : AReps EE Slr wr (· ∈ fp') wr.heap.size [v, .string p] (c_by.enc (th, p, ())) fp' [v] := by
    have := AReps.cons (E := EE) (Sl := Slr) (w := wr) (X0 := (· ∈ fp')) (B0 := wr.heap.size) v [.string p] (.c (.fd th)) [.c (.d (.lit (.string p)))] fp' [] [v] [] (.c _ _ _ _ (.fd _ _ _ hp.rep h1 fun k hk => ⟨(hp.at_ k hk).1, (hp.at_ k hk).2.1⟩)) (.cons _ _ _ _ [] [] [] [] (.c _ _ _ _ (.d _ _ (.lit _ rfl))) .nil)
    rw [List.append_nil] at this
    exact this
  obtain ⟨g', args', hc, hfn, hcalls⟩ := hS 1000003 (c_by.enc (th, p, ())) (rc_by.enc t) (by rw [sp_by]; exact ans_run _ _ _ rfl ht) Slr wr [v, .string p] fp' [v] hlt hargs hp.nd
    (fun k hk => ⟨(hp.at_ k hk).1, fun hg => by
      rcases (hp.at_ k hk).2.2 with h | h
      · exact (hfp k h).2 hg
      · have := EE.invLt w k hiv hg; omega⟩) hinv
  rcases hc with ⟨h, _⟩ | ⟨_, fs, cs', rest, he, hargs'⟩
  · exact absurd rfl h
  · rw [hv] at he
    injection he with he1 he2
    injection he1 with e1 e2 e3
    injection e1 with e1
    subst e1 e2 e3
    have : args = args' := by
      apply Array.toList_inj.1
      rw [ha, hargs', ← he2]
      simp
    subst this
    refine hcalls.mono fun e w' ⟨u, he, Sl', p1, p2, r1, r2, hkeep, hext, hu, hps, hnd', hb⟩ => ?_
    obtain ⟨hu1, rfl, rfl⟩ := arep_d hu
    have := drep_lit hu1
    subst this
    have hps : PReps EE Sl' w' (fun _ => True) 0 [v] [.fd t.2.1] p2 r2 := hps
    have hno : ∀ i, i < w.heap.size + 2 → ¬ i ∈ fp → ¬ i ∈ fp' := fun i hi hn hm => by
      rcases (hp.at_ i hm).2.2 with h | h
      · exact hn h
      · omega
    cases hps with
    | cons _ _ _ _ p' q' r' t' h hs =>
      cases hs
      cases h with
      | fd _ _ _ hf _ hk2 =>
        simp only [List.append_nil, List.nil_append] at hnd' hb hk2
        refine ⟨he, ⟨p', Sl', hf, hnd', fun k hk => ⟨(hb k hk).1, (hk2 k hk).2, ?_⟩, ⟨hkeep.os.trans hp.keep.os, hkeep.tape.trans hp.keep.tape, hkeep.output.trans hp.keep.output, Nat.le_trans hp.keep.size hkeep.size, fun i hi hn => (hkeep.block i (Nat.lt_of_lt_of_le hi hp.keep.size) (hno i (by omega) hn)).trans (hp.keep.block i hi hn)⟩, Nat.le_trans hp.size hkeep.size,
          ⟨fun g o h => hext.s g o (hp.ext.s g o h), fun g o h => ?_, fun g o u hs hu => hext.c g o u (hp.ext.s g o hs) (hp.ext.c g o u hs hu)⟩, fun g o h => ?_⟩, hkeep.block _ (by have := hp.size; omega) (hno _ (by omega) fun h => by have := (hfp _ h).1; omega), hkeep.block _ (by have := hp.size; omega) (hno _ (by omega) fun h => by have := (hfp _ h).1; omega)⟩
        · rcases (hb k hk).2 with h | h
          · exact .inr (Nat.le_trans hp.size h)
          · exact (hp.at_ k h).2.2
        · rcases hext.n g o h with h | ⟨h | h, h2⟩
          · rcases hp.ext.n g o h with h | ⟨h, h3⟩
            · exact .inl h
            · exact .inr ⟨h, Nat.lt_of_lt_of_le h3 hkeep.size⟩
          · exact .inr ⟨.inl (Nat.le_trans hp.keep.size h), h2⟩
          · rcases (hp.at_ g h).2.2 with h | h
            · exact .inr ⟨.inr h, h2⟩
            · exact .inr ⟨.inl (by omega), h2⟩
        · rcases hext.n g o h with h | ⟨h | h, h2⟩
          · exact hp.news g o h
          · exact .inr (.inr (Nat.le_trans hp.size h))
          · exact .inr ((hp.at_ g h).2.2)
theorem PMid.set (hSl : ∀ g o, Sl g o → g < w.heap.size) (hfp : ∀ k ∈ fp, k < w.heap.size ∧ ¬ EE.glob k) (hm : PMid Sl w v fp th wr) (j : Nat) (x : Value) : PMid Sl w v fp th (wr.setCell ⟨w.heap.size + 1, j, none⟩ x) := by
  obtain ⟨fp', Slr, hp⟩ := hm
  have hs : ∀ i, i ≠ w.heap.size + 1 → (wr.setCell ⟨w.heap.size + 1, j, none⟩ x).heap[i]? = wr.heap[i]? := fun i hi => Below.heap_setCell _ ⟨w.heap.size + 1, j, none⟩ x i hi
  have hz := sz wr ⟨w.heap.size + 1, j, none⟩ x
  have h1 : ∀ k ∈ fp', k ≠ w.heap.size + 1 := fun k hk e => by
    rcases (hp.at_ k hk).2.2 with h | h
    · have := (hfp k h).1; omega
    · omega
  have h2 : ∀ g o, Slr g o → g ≠ w.heap.size + 1 := fun g o h e => by
    rcases hp.news g o h with h | h | h
    · have := hSl g o h; omega
    · have := (hfp g h).1; omega
    · omega
  refine ⟨fp', Slr, EE.frame _ Slr Slr wr _ _ _ hp.rep (fun _ _ h => h) (fun g o u hg hu => (cell_same (hs g (h2 g o hg))).trans hu) (fun k hk => hs k (h1 k hk)), hp.nd, fun k hk => ⟨by rw [hz]; exact (hp.at_ k hk).1, (hp.at_ k hk).2⟩,
    ⟨(so _ _ _).trans hp.keep.os, (st _ _ _).trans hp.keep.tape, (su _ _ _).trans hp.keep.output, Nat.le_trans hp.keep.size (Nat.le_of_eq hz.symm), fun i hi hn => (hs i (by omega)).trans (hp.keep.block i hi hn)⟩, Nat.le_trans hp.size (Nat.le_of_eq hz.symm),
    ⟨hp.ext.s, fun g o h => (hp.ext.n g o h).imp id fun h => ⟨h.1, by rw [hz]; exact h.2⟩, fun g o u hg hu => (cell_same (hs g (by have := hSl g o hg; omega))).trans (hp.ext.c g o u hg hu)⟩, hp.news⟩
theorem PMid.start (hSl : ∀ g o, Sl g o → g < w.heap.size) (hf : EE.frep th Sl w v fp) (hk : ∀ k ∈ fp, k < w.heap.size ∧ ∀ j, ¬ Sl k j) (hnd : fp.Nodup) (a b : Go.Obj) : PMid Sl w v fp th ((w.alloc a).alloc b) := by
  have hb : Below w.heap.size w ((w.alloc a).alloc b) := below_alloc (below_alloc (Below.refl _ _) _) _
  have hc : ∀ g o u, Sl g o → w.cell? ⟨g, o, none⟩ = some u → ((w.alloc a).alloc b).cell? ⟨g, o, none⟩ = some u := fun g o u hg hu => (cell_same (hb.block g (hSl g o hg))).trans hu
  refine ⟨fp, Sl, EE.frame _ Sl Sl w _ _ _ hf (fun _ _ h => h) hc (fun k hk' => hb.block k (hk k hk').1), hnd, fun k hk' => ⟨Nat.lt_of_lt_of_le (hk k hk').1 hb.size, (hk k hk').2, .inl hk'⟩, keepX_of_below hb _, by simp only [size_alloc]; omega, ⟨fun _ _ h => h, fun _ _ h => .inl h, hc⟩, fun g o h => .inl h⟩
end
end Go.Ev
end
section
open Go Go.Proofs
namespace Go.Ev
open Go.RowKit Go.Proofs.YtlepjafokfhnfaaDoor Go.Proofs.YtlepjafokfhnfaaDoorW.PrintWords Go.Proofs.YtlepjafokfhnfaaDoorW.PrintLast Go.Proofs.YtlepjafokfhnfaaDoorW.PrintMore
set_option linter.unusedVariables false
set_option linter.unusedSimpArgs false
set_option maxHeartbeats 4000000
set_option maxRecDepth 100000
def PRel (s : Fam) (Sl : Nat → Nat → Prop) (w : World) (v : Value) (fp : List Nat) (L : List ByteArray) (Q : List ByteArray × Thing) (i : Value) (wr : World) : Prop := ∃ (k : Nat) (done : List ByteArray) (th : Thing) (q : List ByteArray × Thing), i = .int .i64 k ∧ k ≤ L.length ∧ done.length = k ∧ partsT s th (L.drop k) = some q ∧ Q = (done ++ q.1, q.2) ∧
  wr.heap[w.heap.size]? = some (.cells #[v] 80 (0, 0)) ∧ wr.heap[w.heap.size + 1]? = some (.cells ((done ++ L.drop k).map Value.string).toArray 9 (0, 0)) ∧ PMid Sl w v fp th wr
theorem split_calls {w W : World} (hiv : EE.inv W) {x : ByteArray} (hx : x.size ≤ 4294967280) :
    Calls Tryd.prog 52 #[.string x, .string ⟨#[36]⟩] W fun e w' => e = .returned (.slice (some ⟨W.heap.size, 0, none⟩) (cutD x).length (cutD x).length) ∧ w' = W.alloc (.cells ((cutD x).map Value.string).toArray 9) := by
  obtain ⟨_, ⟨m, hm⟩, _⟩ := hiv
  have hlen : (cutD x).length = Lib.countB x sep36 + 1 := Lib.splitB_all sep36 (by decide) 0 _ x rfl
  rw [hlen]
  exact Tryd.strings_Split x sep36 m W (by omega) hm (by decide)
section
variable {s : Fam} {Sl : Nat → Nat → Prop} {w : World} {v : Value} {fp : List Nat} {th : Thing}
theorem empty_size (p : ByteArray) : p.toList.isEmpty = true ↔ p.size = 0 := by
  have h0 : (⟨#[]⟩ : ByteArray).toList = [] := by first | rfl | simp | kernel_rfl
  constructor
  · intro h
    have h1 : (p.toList == (⟨#[]⟩ : ByteArray).toList) = true := by rw [h0, List.isEmpty_iff.1 h]; rfl
    rw [ba_dc] at h1
    by_cases e : p = ⟨#[]⟩
    · rw [e]; rfl
    · rw [dc_false e] at h1; cases h1
  · intro h
    have : p = ⟨#[]⟩ := by
      obtain ⟨⟨l⟩⟩ := p
      have : l.length = 0 := h
      rw [List.eq_nil_of_length_eq_zero this]
    rw [this, h0]; rfl
theorem join_calls {wr : World} {b n : Nat} {l : List ByteArray} (hn : l.length = n) (hl : n ≤ 1000000000000) (hb : wr.heap[b]? = some (.cells (l.map Value.string).toArray 9 (0, 0))) (hj : (Lib.join (l.map (·.data.toList)) sep36.data.toList).length ≤ 140737488355328) :
    Calls Tryd.prog 53 #[.slice (some ⟨b, 0, none⟩) n n, .string ⟨#[36]⟩] wr fun e w' => e = .returned (.string (joinD l)) ∧ Below wr.heap.size wr w' := by
  subst hn
  refine Tryd.strings_Join b 0 l.length l sep36 wr (fun j x hx => ?_) (Array.getElem?_eq_some_iff.1 hb).1 (by omega) (Nat.le_refl _) hj
  rw [Nat.zero_add]
  simp only [World.cell?, hb]
  rw [List.getElem?_toArray, List.getElem?_map, hx]
  rfl
theorem PMid.below {wr w' : World} (hm : PMid Sl w v fp th wr) (hSl : ∀ g o, Sl g o → g < w.heap.size) (hb : Below wr.heap.size wr w') : PMid Sl w v fp th w' := by
  obtain ⟨fp', Slr, hp⟩ := hm
  have hlt : ∀ g o, Slr g o → g < wr.heap.size := fun g o h => by
    rcases hp.ext.n g o h with h | ⟨_, h⟩
    · exact Nat.lt_of_lt_of_le (hSl g o h) hp.keep.size
    · exact h
  exact ⟨fp', Slr, EE.frame _ Slr Slr wr _ _ _ hp.rep (fun _ _ h => h) (fun g o u hg hu => (cell_same (hb.block g (hlt g o hg))).trans hu) (fun k hk => hb.block k (hp.at_ k hk).1), hp.nd, fun k hk => ⟨Nat.lt_of_lt_of_le (hp.at_ k hk).1 hb.size, (hp.at_ k hk).2⟩,
    ⟨hb.os.trans hp.keep.os, hb.tape.trans hp.keep.tape, hb.output.trans hp.keep.output, Nat.le_trans hp.keep.size hb.size, fun i hi hn => (hb.block i (Nat.lt_of_lt_of_le hi hp.keep.size)).trans (hp.keep.block i hi hn)⟩, Nat.le_trans hp.size hb.size,
    ⟨hp.ext.s, fun g o h => (hp.ext.n g o h).imp id fun h => ⟨h.1, Nat.lt_of_lt_of_le h.2 hb.size⟩, fun g o u hg hu => (cell_same (hb.block g (Nat.lt_of_lt_of_le (hSl g o hg) hp.keep.size))).trans (hp.ext.c g o u hg hu)⟩, hp.news⟩
theorem prel_next {L : List ByteArray} {Q q2 : List ByteArray × Thing} {k : Nat} {done : List ByteArray} {th : Thing} {x y : ByteArray} {w5 : World} (hlt : k < L.length) (hd : done.length = k) (hdrop : L.drop k = x :: L.drop (k + 1)) (hQ : Q = (done ++ (y :: q2.1, q2.2).1, (y :: q2.1, q2.2).2))
    (hSl : ∀ g o, Sl g o → g < w.heap.size) (hfp : ∀ k ∈ fp, k < w.heap.size ∧ ¬ EE.glob k) (hq : partsT s th (L.drop (k + 1)) = some q2) (hm : PMid Sl w v fp th w5) (h1 : w5.heap[w.heap.size]? = some (.cells #[v] 80 (0, 0)))
    (h2 : w5.heap[w.heap.size + 1]? = some (.cells ((done ++ L.drop k).map Value.string).toArray 9 (0, 0))) : PRel s Sl w v fp L Q (.int .i64 ((k : Int) + 1)) (w5.setCell ⟨w.heap.size + 1, k, none⟩ (.string y)) := by
  refine ⟨k + 1, done ++ [y], th, q2, by simp, hlt, by simp [hd], hq, by rw [hQ]; simp, (Below.heap_setCell _ ⟨w.heap.size + 1, k, none⟩ _ _ (by show w.heap.size ≠ w.heap.size + 1; omega)).trans h1, ?_, hm.set hSl hfp k _⟩
  rw [cells_set h2]
  congr 2
  rw [hdrop]
  subst hd
  simp
theorem parts_walk (hS : ∀ f, SpecOK Tryd.prog EE (sp s) f) (hSl : ∀ g o, Sl g o → g < w.heap.size) (hiv : EE.inv w) (hfp : ∀ k ∈ fp, k < w.heap.size ∧ ¬ EE.glob k) (hf : EE.frep th Sl w v fp) (hk : ∀ k ∈ fp, k < w.heap.size ∧ ∀ j, ¬ Sl k j) (hnd : fp.Nodup)
    {x : ByteArray} {q : List ByteArray × Thing} (hx0 : x.toList.isEmpty = false) (hx : x.size ≤ 4294967280) (hL : (cutD x).length ≤ 1000000000000) (hq : partsT s th (cutD x) = some q) (hj : (Lib.join (q.1.map (·.data.toList)) sep36.data.toList).length ≤ 140737488355328)
    (g : Nat) (cs : Array Value) (hv : v = .func (.func g) #[] cs) (hcs : (g = 30 ∧ ∃ a, cs = #[.pointer a]) ∨ (g = 34 ∧ ∃ a b, cs = #[.pointer a, .pointer b])) :
    Calls Tryd.prog 39 #[.agg #[v], .string x] w fun e w' => e = .returned (.string (joinD q.1)) ∧ PMid Sl w v fp q.2 w' := by
  have hst := PMid.start (th := th) hSl hf hk hnd (.cells #[v] 80) (.cells ((cutD x).map Value.string).toArray 9)
  have HST := Lib.hid hst
  have HS := Lib.hid hS
  have HSL := Lib.hid hSl
  have HI := Lib.hid (inv_below hiv (below_alloc (Below.refl w.heap.size w) (.cells #[v] 80)))
  have HI0 := Lib.hid hiv
  have HFP := Lib.hid hfp
  have HQ := Lib.hid hq
  have HJ := Lib.hid hj
  clear hst hS hSl hiv hfp hf hk hnd hq hj
  subst hv
  go_enter Tryd.func39, Tryd.ntmps39
  go_wp2_with (first | (go_at_call 52; go_must (refine (split_calls (w := w) HI.out hx).mono ?_); go_must (rintro e w1 ⟨rfl, rfl⟩)))
  go_loopw [14] (fun i wr => PRel s Sl w (.func (.func g) #[] cs) fp (cutD x) q i wr) (fun i _ => (cutD x).length - (RowKit.intOf i).toNat)
  case atStart =>
    refine ⟨0, [], th, q, rfl, Nat.zero_le _, rfl, HQ.out, rfl, ?_, ?_, HST.out⟩
    · rw [Below.heap_alloc _ _ _ (by simp only [size_alloc]; omega)]
      exact heap_top _ _
    · have := heap_top (w.alloc (.cells #[.func (.func g) #[] cs] 80)) (.cells ((cutD x).map Value.string).toArray 9)
      rw [size_alloc] at this
      simpa using this
  case round =>
    obtain ⟨k, done, th', q', rfl, hk, hd, hq', hQ, h1, h2, hm⟩ := hrel
    have H2 := Lib.hid h2
    have H1 := Lib.hid h1
    have HM := Lib.hid hm
    have HQ' := Lib.hid hq'
    by_cases hlt : k < (cutD x).length
    · have c1 : wr.cell? ⟨w.heap.size, 0, none⟩ = some (.func (.func g) #[] cs) := by simp [World.cell?, h1]
      have hget : (done ++ (cutD x).drop k)[k]? = some (cutD x)[k] := by
        rw [List.getElem?_append_right (by omega), hd, Nat.sub_self, List.getElem?_drop, Nat.add_zero, List.getElem?_eq_getElem hlt]
      have c2 : wr.cell? ⟨w.heap.size + 1, k, none⟩ = some (.string (cutD x)[k]) := by
        have e : ((done ++ (cutD x).drop k).map Value.string)[k]? = some (.string (cutD x)[k]) := by rw [List.getElem?_map, hget]; rfl
        simp only [World.cell?, h2]
        rw [List.getElem?_toArray]
        exact e
      have hdrop : (cutD x).drop k = (cutD x)[k] :: (cutD x).drop (k + 1) := (List.getElem_cons_drop hlt).symm
      have f2 := Lib.frozen_of_heap h2 k
      clear h1 h2 hm hq'
      cases hemp : (cutD x)[k].toList.isEmpty with
      | true =>
        have hsz := (empty_size (cutD x)[k]).1 hemp
        have hpt := HQ'.out
        rw [hdrop] at hpt
        simp only [partsT, hsz, if_true] at hpt
        obtain ⟨q2, hq2, hqq⟩ := Option.map_eq_some_iff.1 hpt
        have HQ2 := Lib.hid hq2
        subst hqq
        clear hpt hq2
        go_wp2
        go_round
        · refine ⟨k + 1, done ++ [(cutD x)[k]], th', q2, by simp, hlt, by simp [hd], HQ2.out, by rw [hQ]; simp, H1.out, ?_, HM.out⟩
          rw [H2.out, hdrop]
          simp
        · simp only [RowKit.intOf]; omega
      | false =>
        have hsz : ¬ (cutD x)[k].size = 0 := fun h => by rw [(empty_size _).2 h] at hemp; cases hemp
        have hpt := HQ'.out
        rw [hdrop] at hpt
        simp only [partsT, hsz, if_false] at hpt
        obtain ⟨t, ht, hpt⟩ := Option.bind_eq_some_iff.1 hpt
        obtain ⟨q2, hq2, hqq⟩ := Option.map_eq_some_iff.1 hpt
        have HQ2 := Lib.hid hq2
        have HT := Lib.hid ht
        subst hqq
        clear hpt hq2 ht
        rcases hcs with ⟨rfl, a, rfl⟩ | ⟨rfl, a, b, rfl⟩
        · go_wp2_with (first | (go_at_call 30; go_must (refine (by_step HS.out HSL.out HI0.out HFP.out rfl rfl HM.out HT.out rfl).mono ?_); go_must (rintro e w5 ⟨rfl, hm5, e1, e2⟩; have HM5 := Lib.hid hm5; have b5 := e2.trans H2.out; have B5 := Lib.hid b5; have B1 := Lib.hid (e1.trans H1.out); have c5 : w5.cell? ⟨w.heap.size + 1, k, none⟩ = some (.string (cutD x)[k]) := (cell_same e2).trans c2; have f5 := Lib.frozen_of_heap b5 k; clear hm5 e1 e2 b5)))
          go_round
          · exact (prel_next hlt hd hdrop hQ HSL.out HFP.out HQ2.out HM5.out B1.out B5.out)
          · simp only [RowKit.intOf]; omega
        · go_wp2_with (first | (go_at_call 34; go_must (refine (by_step HS.out HSL.out HI0.out HFP.out rfl rfl HM.out HT.out rfl).mono ?_); go_must (rintro e w5 ⟨rfl, hm5, e1, e2⟩; have HM5 := Lib.hid hm5; have b5 := e2.trans H2.out; have B5 := Lib.hid b5; have B1 := Lib.hid (e1.trans H1.out); have c5 : w5.cell? ⟨w.heap.size + 1, k, none⟩ = some (.string (cutD x)[k]) := (cell_same e2).trans c2; have f5 := Lib.frozen_of_heap b5 k; clear hm5 e1 e2 b5)))
          go_round
          · exact (prel_next hlt hd hdrop hQ HSL.out HFP.out HQ2.out HM5.out B1.out B5.out)
          · simp only [RowKit.intOf]; omega
    · have hkl : k = (cutD x).length := by omega
      have hpt := HQ'.out
      rw [hkl, List.drop_length] at hpt
      simp only [partsT, Option.some.injEq] at hpt
      subst hpt
      have hrow : wr.heap[w.heap.size + 1]? = some (.cells (done.map Value.string).toArray 9 (0, 0)) := by
        rw [h2, hkl, List.drop_length, List.append_nil]
      have HROW := Lib.hid hrow
      have hq1 : q.1 = done := by rw [hQ]; simp
      have hq2 : q.2 = th' := by rw [hQ]
      have HJ2 : Hid ((Lib.join (done.map (·.data.toList)) sep36.data.toList).length ≤ 140737488355328) := Lib.hid (by rw [← hq1]; exact HJ.out)
      clear h1 h2 hm hq' hrow
      go_wp2_with (first | (go_at_call 53; go_must (refine (join_calls (hd.trans hkl) hL HROW.out HJ2.out).mono ?_); go_must (rintro e w9 ⟨rfl, hb9⟩; have HB9 := Lib.hid hb9; clear hb9)))
      go_ret
      exact ⟨by rw [hq1]; rfl, by rw [hq2]; exact HM.out.below HSL.out HB9.out⟩
end
theorem walk_empty (w : World) (v : Value) (hv : v.oneCell' = true) (h2 : ∃ g cs, v = .func (.func g) #[] cs) : Calls Tryd.prog 39 #[.agg #[v], .string ⟨#[]⟩] w fun e w' => e = .returned (.string ⟨#[]⟩) ∧ Below w.heap.size w w' := by
  obtain ⟨g, cs, rfl⟩ := h2
  have HB := Lib.hid (below_alloc (Below.refl w.heap.size w) (.cells #[.func (.func g) #[] cs] 80))
  go_enter Tryd.func39, Tryd.ntmps39
  go_wp2
  go_ret
  exact ⟨rfl, HB.out⟩
theorem frep_func {Sl : Nat → Nat → Prop} {w : World} {v : Value} {fp : List Nat} {th : Thing} (h : EE.frep th Sl w v fp) : ∃ g cs, v = .func (.func g) #[] cs ∧ ((g = 30 ∧ ∃ a, cs = #[.pointer a]) ∨ (g = 34 ∧ ∃ a b, cs = #[.pointer a, .pointer b])) := by
  cases th with
  | ren l => obtain ⟨g, sv, rfl, _⟩ := h; exact ⟨30, _, rfl, .inl ⟨rfl, _, rfl⟩⟩
  | names l => obtain ⟨gs, gm, go, sv, n, rfl, _⟩ := h; exact ⟨34, _, rfl, .inr ⟨rfl, _, _, rfl⟩⟩
theorem answers_parts {Sl : Nat → Nat → Prop} {w w' : World} {v : Value} {fp : List Nat} {th : Thing} {y : ByteArray} (h1 : v.oneCell' = true) (hm : PMid Sl w v fp th w') : Answers EE Sl w fp [v] (rc_tree_mapper_parts.enc (y, th, ())) (.string y) w' := by
  obtain ⟨fp', Slr, hp⟩ := hm
  refine ⟨Slr, [], fp', [], [v], hp.keep, hp.ext, .c _ _ _ _ (.d _ _ (.lit _ rfl)), ?_, by simpa using hp.nd, fun k hk => ?_⟩
  · have := PReps.cons (E := EE) (Sl := Slr) (w := w') (X0 := fun _ => True) (B0 := 0) v [] (.fd th) [] fp' [] [v] [] (.fd _ _ _ hp.rep h1 fun k hk => ⟨(hp.at_ k hk).1, (hp.at_ k hk).2.1⟩) .nil
    rw [List.append_nil] at this
    exact this
  · have := hp.at_ k (by simpa using hk)
    exact ⟨this.1, this.2.2.elim .inr fun h => .inl (by omega)⟩
theorem preps_fd {Sl : Nat → Nat → Prop} {w : World} {X0 : Nat → Prop} {B0 : Nat} {us : List Value} {th : Thing} {fp : List Nat} {rs : List Value} (h : PReps EE Sl w X0 B0 us [.fd th] fp rs) : ∃ v, us = [v] ∧ EE.frep th Sl w v fp ∧ v.oneCell' = true ∧ (∀ k ∈ fp, k < w.heap.size ∧ ∀ j, ¬ Sl k j) ∧ rs = [v] := by
  cases h with
  | cons v us x xs p q r t h1 hs =>
    cases hs
    cases h1 with
    | fd _ _ _ hf ho hk =>
      rw [List.append_nil]
      exact ⟨v, rfl, hf, ho, hk, rfl⟩
theorem ok_tree_mapper_parts (s : Fam) (k : Nat) (hS : ∀ f, SpecOK Tryd.prog EE (sp s) f) : SpecA Tryd.prog EE 39 (ansOf c_tree_mapper_parts rc_tree_mapper_parts.enc fun x => B_tree_mapper_parts s k x.1 x.2.1) := by
  refine specA_by _ _ _ fun x y hy Sl w us fp rs hSl hargs hnd hlt hiv => ?_
  obtain ⟨⟨th, _⟩, x, _⟩ := x
  obtain ⟨m, vs, fp1, fp2, rs1, rs2, rfl, rfl, rfl, h1, h2⟩ := areps_cons hargs
  obtain ⟨vs', rfl, h3⟩ := areps_lit h2
  obtain ⟨rfl, rfl, rfl⟩ := areps_nil h3
  obtain ⟨v, hmv, hf, ho, hk, hrs⟩ : ∃ v, m = .agg #[v] ∧ EE.frep th Sl w v fp1 ∧ v.oneCell' = true ∧ (∀ k ∈ fp1, k < w.heap.size ∧ ∀ j, ¬ Sl k j) ∧ rs1 = [v] := by
    cases h1 with
    | agg vs _ _ _ h =>
      obtain ⟨l⟩ := vs
      obtain ⟨v, hl, hf, ho, hk, hr⟩ := preps_fd h
      exact ⟨v, by rw [show l = [v] from hl], hf, ho, hk, hr⟩
  subst hmv hrs
  simp only [List.append_nil] at hnd hlt ⊢
  refine ⟨39, #[_, _], .inl ⟨by decide, rfl, rfl⟩, ⟨Tryd.f39, Tryd.func39, by kernel_rfl, by kernel_rfl⟩, ?_⟩
  obtain ⟨g, cs, hv, hcs⟩ := frep_func hf
  have hy : B_tree_mapper_parts s k (th, ()) x = some y := hy
  unfold B_tree_mapper_parts at hy
  split at hy
  · rename_i hx
    injection hy with hy
    subst hy
    have : x = ⟨#[]⟩ := by
      obtain ⟨⟨l⟩⟩ := x
      have : l.length = 0 := hx
      rw [List.eq_nil_of_length_eq_zero this]
    subst this
    refine (walk_empty w v ho ⟨g, cs, hv⟩).mono fun e w' ⟨he, hb⟩ => ⟨_, he, ?_⟩
    have hc : ∀ g o u, Sl g o → w.cell? ⟨g, o, none⟩ = some u → w'.cell? ⟨g, o, none⟩ = some u := fun g o u hg hu => (cell_same (hb.block g (hSl g o hg))).trans hu
    refine ⟨Sl, [], fp1, [], [v], keepX_of_below hb _, ⟨fun _ _ h => h, fun _ _ h => .inl h, hc⟩, .c _ _ _ _ (.d _ _ (.lit _ rfl)), ?_, by simpa using hnd, fun k hk' => ?_⟩
    · have := PReps.cons (E := EE) (Sl := Sl) (w := w') (X0 := fun _ => True) (B0 := 0) v [] (.fd th) [] fp1 [] [v] [] (.fd _ _ _ (EE.frame _ Sl Sl w _ _ _ hf (fun _ _ h => h) hc fun k hk' => hb.block k (hk k hk').1) ho fun k hk' => ⟨Nat.lt_of_lt_of_le (hk k hk').1 hb.size, (hk k hk').2⟩) .nil
      rw [List.append_nil] at this
      exact this
    · have := hk k (by simpa using hk')
      exact ⟨Nat.lt_of_lt_of_le this.1 hb.size, .inr (by simpa using hk')⟩
  · rename_i hx
    split at hy
    · cases hy
    · rename_i hx2
      split at hy
      · cases hy
      · rename_i hx3
        obtain ⟨q, hq, hy⟩ := Option.bind_eq_some_iff.1 hy
        split at hy
        · rename_i hj
          injection hy with hy
          subst hy
          have hx0 : x.toList.isEmpty = false := by
            cases h : x.toList.isEmpty with
            | true => exact absurd ((empty_size x).1 h) hx
            | false => rfl
          exact (parts_walk hS hSl hiv hlt hf hk hnd hx0 (by omega) (by omega) hq hj g cs hv hcs).mono fun e w' ⟨he, hm⟩ => ⟨_, he, answers_parts ho hm⟩
        · cases hy
end Go.Ev
end
section
set_option linter.unusedVariables false
set_option linter.unusedSimpArgs false
namespace Go.Proofs.YtlepjafokfhnfaaDoor.Wd
open Go.RowKit Go.Proofs.YtlepjafokfhnfaaDoorW.PrintWords Go.Proofs.YtlepjafokfhnfaaDoorW.PrintLast Go.Proofs.YtlepjafokfhnfaaDoorW.PrintMore
open Go.Maps Go.ChangeMaps Go.WideMaps
theorem at_s {W : World} {A : Option Addr} {l : List ByteArray} (h : Kd.C Kd.string W A l.length l) (k : Nat) (hk : k < l.length) : ∃ ad, A = some ad ∧ W.cell? (ad.add k) = some (.string l[k]) := by
  obtain ⟨ad, hA, hc⟩ := Kd.at_string h (k : Int) (by omega) (by omega)
  refine ⟨ad, hA, ?_⟩
  rw [show ((k : Int)).toNat = k from by omega] at hc
  rw [hc]
  rw [show rdOf ByteArray.empty l (k : Int) = l.getD (k : Int).toNat ByteArray.empty from rfl]
  simp [hk]
def unitR (v : Value) : Option (DataW Unit × List MemPlace) :=
  match v with
  | .agg ⟨[]⟩ => some (.agg [], [])
  | _ => none
theorem keyed : Keyed Tryd.prog 9 := string_keyed Tryd.underlying9
def MapAt (w : World) (b n : Nat) (L : ByteArray → Bool) : Prop := ∃ D : DataW Unit, w.ownsMap Tryd.prog 9 unitR b n D ∧ ∀ s : ByteArray, s.size ≤ maxLen → has D (.string s.data.toList) = L s
theorem lit_ne {s t : ByteArray} (h : s ≠ t) : (Lit.string s.data.toList) ≠ Lit.string t.data.toList := by
  intro e
  injection e with e
  exact h (by apply ByteArray.ext; exact Array.toList_inj.1 e)
theorem zero44 (w : World) : (zeroValue 86).run Tryd.prog w = .ok (.agg #[]) w := Tryd.zeroValue86 w
section
variable {w : World} {b n : Nat} {L : ByteArray → Bool}
theorem make_run (w : World) : (Instr.makeMap 85 none).run Tryd.prog w = .ok (.map (some w.heap.size)) (w.alloc (.map #[] 0)) := by
  simp [Instr.makeMap, run_underlying Tryd.underlying85]
  try rfl
theorem map_made (w : World) : MapAt (w.alloc (.map #[] 0)) w.heap.size 0 (fun _ => false) := ⟨_, World.ownsMap_made w _ _ _, fun s _ => rfl⟩
theorem map_put (h : MapAt w b n L) (hn : n < maxLen) (s : ByteArray) (hs : s.size ≤ maxLen) :
    ∃ w', (Instr.mapUpdate 85 (.map (some b)) (.string s) (.agg #[])).run Tryd.prog w = .ok () w' ∧ MapAt w' b (n + 1) (fun x => decide (x = s) || L x) ∧ w.mapTurned w' b := by
  obtain ⟨D, hD, hL⟩ := h
  obtain ⟨w', hrun, hD', ht⟩ := hD.store keyed Tryd.underlying85 hn (keyOf_string_mk Tryd.underlying9 hs) (show unitR (.agg #[]) = some (.agg [], []) from rfl)
  refine ⟨w', hrun, ⟨_, hD', fun x hx => ?_⟩, ht⟩
  by_cases e : x = s
  · subst e
    rw [has_put_same hD.isMap (by simp [WideAt.IsKeyLit])]; simp
  · rw [has_put_other (lit_ne e), hL x hx]; simp [e]
theorem map_look (h : MapAt w b n L) (s : ByteArray) (hs : s.size ≤ maxLen) :
    (Instr.lookup 85 (.map (some b)) (.string s) true).run Tryd.prog w = .ok (.tuple #[.agg #[], .bool (L s)]) w := by
  obtain ⟨D, hD, hL⟩ := h
  obtain ⟨v, ps, hrun, hv⟩ := hD.look_ok keyed Tryd.underlying85 (zero44 w) (show unitR (.agg #[]) = some (.agg [], []) from rfl) (keyOf_string_mk Tryd.underlying9 hs)
  rw [hrun, hL s hs]
  have : v = .agg #[] := by
    unfold unitR at hv
    split at hv
    · rfl
    · cases hv
  rw [this]
theorem map_drop (h : MapAt w b n L) (s : ByteArray) (hs : s.size ≤ maxLen) (ty : TypeId) :
    ∃ w', (Builtin.delete_ #[85, 9] ty #[.map (some b), .string s]).run Tryd.prog w = .ok (.tuple #[]) w' ∧ MapAt w' b n (fun x => !decide (x = s) && L x) ∧ w.mapTurned w' b := by
  obtain ⟨D, hD, hL⟩ := h
  obtain ⟨w', hrun, hD', ht⟩ := hD.drop keyed Tryd.underlying85 (keyOf_string_mk Tryd.underlying9 hs) ty
  refine ⟨w', hrun, ⟨_, hD', fun x hx => ?_⟩, ht⟩
  by_cases e : x = s
  · subst e
    rw [has_del_same]; simp
  · rw [has_del_other (lit_ne e), hL x hx]; simp [e]
end
theorem turned_grown {w w' : World} {b : Nat} (h : w.mapTurned w' b) : w.grownBy w' (some b) := by
  obtain ⟨es, clock, es', clock', hb, rfl⟩ := h
  refine ⟨rfl, rfl, rfl, by simp [setBlock], fun k hk hne => ?_⟩
  show (w.heap.setIfInBounds b _)[k]? = _
  rw [Array.getElem?_setIfInBounds]
  rw [if_neg (fun e => hne (by rw [e]))]
theorem R_turned {w w' : World} {b n : Nat} {L : ByteArray → Bool} {base : Nat} {v : Value} {xs : List ByteArray} (hm : MapAt w b n L) (h : Kd.string.R 9 w base (fun _ => True) v xs) (ht : w.mapTurned w' b) : Kd.string.R 9 w' base (fun _ => True) v xs := by
  have hg := turned_grown ht
  obtain ⟨D, ⟨es, clock, hb, _⟩, _⟩ := hm
  refine Kd.R_mono (ok' := fun _ => True) (Kd.R_move (Kd.R_bound h) ?_) (fun _ _ => trivial)
  rintro k ⟨_, _, hlt, q, hq, cells, hc⟩
  refine hg.block k hlt ?_
  intro e
  have := Option.some.inj e
  subst this
  rw [hc] at hb
  cases hb
theorem MapAt.below {w w' : World} {b n : Nat} {L : ByteArray → Bool} (h : MapAt w b n L) (hb : Below w.heap.size w w') : MapAt w' b n L := by
  obtain ⟨D, hD, hL⟩ := h
  exact ⟨D, hD.kept (row := none) ⟨hb.os, hb.tape, hb.output, hb.size, fun k hk _ => hb.block k hk⟩ (by simp), hL⟩
theorem MapAt.grown {w w' : World} {b n : Nat} {L : ByteArray → Bool} {row : Option Nat} (h : MapAt w b n L) (hg : w.grownBy w' row) (hne : some b ≠ row) : MapAt w' b n L := by
  obtain ⟨D, hD, hL⟩ := h
  exact ⟨D, hD.kept hg hne, hL⟩
theorem MapAt.congr {w : World} {b n : Nat} {L L' : ByteArray → Bool} (h : MapAt w b n L) (hl : ∀ x, L x = L' x) : MapAt w b n L' := by
  obtain ⟨D, hD, hL⟩ := h
  exact ⟨D, hD, fun s hs => (hL s hs).trans (hl s)⟩
def C1Rel (w : World) (b : Nat) (r : Value) (l : List ByteArray) (i : Value) (wr : World) : Prop :=
  ∃ k : Nat, k ≤ l.length ∧ i = .int .i64 k ∧ MapAt wr b k (fun x => mem (l.take k) x) ∧ Kd.string.R 9 wr w.heap.size (fun _ => True) r l ∧ Below w.heap.size w wr
def step (ws out : List ByteArray) (x : ByteArray) : List ByteArray := if (mem ws x && !mem out x) = true then out ++ [x] else out
def clash (ws names : List ByteArray) : List ByteArray := names.foldl (step ws) []
theorem clash_take (ws names : List ByteArray) (k : Nat) (hk : k < names.length) : clash ws (names.take (k + 1)) = step ws (clash ws (names.take k)) names[k] := by
  unfold clash
  rw [List.take_succ_eq_append_getElem hk, List.foldl_append]; rfl
theorem clash_len (ws names : List ByteArray) : (clash ws names).length ≤ names.length := by
  have : ∀ (l out : List ByteArray), (l.foldl (step ws) out).length ≤ out.length + l.length := by
    intro l
    induction l with
    | nil => intro out; simp
    | cons x r ih =>
      intro out
      have := ih (step ws out x)
      have h2 : (step ws out x).length ≤ out.length + 1 := by unfold step; split <;> simp
      simp only [List.foldl_cons, List.length_cons]; omega
  simpa [clash] using this names []
theorem infoStr : (Tryd.prog.info? 9).map (fun i => (i.zero, i.size, i.bytes)) = some (some (.string ⟨#[]⟩), 1, 16) := by kernel_rfl
theorem size_alloc (W : World) (o : Obj) : (W.alloc o).heap.size = W.heap.size + 1 := by
  show (W.heap.push o).size = _
  rw [Array.size_push]
theorem le_alloc (W : World) (o : Obj) {n : Nat} (h : n ≤ W.heap.size) : n ≤ (W.alloc o).heap.size := by
  show n ≤ (W.heap.push o).size
  rw [Array.size_push]; omega
theorem ne_map {w : World} {b n : Nat} {L : ByteArray → Bool} {base : Nat} {v : Value} {xs : List ByteArray} (hm : MapAt w b n L) (h : Kd.string.R 9 w base (fun _ => True) v xs) : some b ≠ v.ownBlock := by
  obtain ⟨D, ⟨es, clock, hb, _⟩, _⟩ := hm
  intro e
  obtain ⟨h0, _⟩ := Kd.R_bound h
  obtain ⟨_, _, _, q, _, cells, hc⟩ := h0 b e.symm
  rw [hc] at hb
  cases hb
theorem clash_left (ws out : List ByteArray) (x y : ByteArray) : (!decide (y = x) && (mem ws y && !mem out y)) = (mem ws y && !mem (out ++ [x]) y) := by
  have h : mem (out ++ [x]) y = (mem out y || decide (y = x)) := by
    unfold mem
    rw [List.any_append]
    congr 1
    by_cases e : y = x
    · subst e; simp
    · have e' : ¬ x = y := fun h => e h.symm
      simp [e, e']
  rw [h]
  cases mem ws y <;> cases mem out y <;> cases decide (y = x) <;> rfl
theorem turned_below {w W W' : World} (hb : Below w.heap.size w W) (ht : W.mapTurned W' w.heap.size) : Below w.heap.size w W' := by
  have hg := turned_grown ht
  exact ⟨hg.os.trans hb.os, hg.tape.trans hb.tape, hg.output.trans hb.output, Nat.le_trans hb.size hg.size, fun j hj => (hg.block j (Nat.lt_of_lt_of_le hj hb.size) (fun e => by have := Option.some.inj e; omega)).trans (hb.block j hj)⟩
def C2Rel (w : World) (b : Nat) (ws names : List ByteArray) (out i : Value) (wr : World) : Prop :=
  ∃ j n : Nat, j ≤ names.length ∧ i = .int .i64 j ∧ MapAt wr b n (fun x => mem ws x && !mem (clash ws (names.take j)) x) ∧ Kd.string.R 9 wr w.heap.size (fun _ => True) out (clash ws (names.take j)) ∧ Below w.heap.size w wr
theorem mem_take (l : List ByteArray) (k : Nat) (hk : k < l.length) (x : ByteArray) : mem (l.take (k + 1)) x = (decide (x = l[k]) || mem (l.take k) x) := by
  rw [List.take_succ_eq_append_getElem hk]
  unfold mem
  rw [List.any_append, Bool.or_comm]
  have : ∀ y : ByteArray, decide (y = x) = decide (x = y) := fun y => by
    by_cases e : y = x
    · subst e; rfl
    · rw [decide_eq_false e, decide_eq_false (fun e' => e e'.symm)]
  simp [this]
theorem lst_sizes (d : Int) : ∀ x ∈ lst d, x.size ≤ 1000 := by
  have h0 : ((lst 0).all fun x => decide (x.size ≤ 1000)) = true := by kernel_rfl
  have h1 : ((lst 1).all fun x => decide (x.size ≤ 1000)) = true := by kernel_rfl
  have key : ∀ l : List ByteArray, (l.all fun x => decide (x.size ≤ 1000)) = true → ∀ x ∈ l, x.size ≤ 1000 := fun l h x hx => of_decide_eq_true (List.all_eq_true.1 h x hx)
  by_cases e0 : d = 0
  · subst e0; exact key _ h0
  · by_cases e1 : d = 1
    · subst e1; exact key _ h1
    · have hl : lst d = [] := by unfold lst; rw [if_neg e0, if_neg e1]
      rw [hl]; simp
set_option maxHeartbeats 8000000 in
set_option maxRecDepth 1000000 in
theorem clash_any (d : Int) (A : Option Addr) (c : Nat) (names : List ByteArray) (w : World) (ht : Tab w) (hr : Kd.C Kd.string w A names.length names) (ho : ∀ x ∈ names, x.size ≤ maxLen) (hl : names.length ≤ 1000) :
    Calls Tryd.prog 28 #[.int .i64 d, .slice A names.length c] w fun e w' => ∃ r, e = .returned r ∧ Kd.string.R 9 w' w.heap.size (fun _ => True) r (clash (lst d) names) ∧ Below w.heap.size w w' := by
  have HR := Lib.hid hr
  have HT := Lib.hid (tab_below ht (below_alloc (Below.refl _ _) (.map #[] 0)))
  have HM := Lib.hid (map_made w)
  have HB := Lib.hid (below_alloc (Below.refl w.heap.size w) (.map #[] 0))
  have hln := lst_len d
  have hmk := make_run w
  clear hr ht
  go_enter Tryd.func28, Tryd.ntmps28
  go_wp2_with (first | (go_at_call 35; go_must (refine (all_any d _ HT.out).mono ?_)))
  rintro e w1 ⟨r, rfl, hR, hb⟩
  have HM1 := Lib.hid (HM.out.below hb)
  have HB1 := Lib.hid (below_weaken HB.out HB.out.size hb)
  have HR1 := Lib.hid (Kd.R_lower hR HB.out.size)
  clear hR hb HM HB HT
  obtain ⟨A2, c2, rfl, hlc2, _⟩ := Kd.R_reads HR1.out
  go_wp2
  go_loopw [17] (fun i wr => C1Rel w w.heap.size (.slice A2 (lst d).length c2) (lst d) i wr) (fun i _ => (lst d).length - (intOf i).toNat)
  case atStart => exact ⟨0, Nat.zero_le _, rfl, HM1.out.congr (fun x => rfl), HR1.out, HB1.out⟩
  case round =>
    obtain ⟨k, hk, rfl, hm, hR, hb⟩ := hrel
    have HMk := Lib.hid hm
    have HRk := Lib.hid hR
    have HBk := Lib.hid hb
    clear hm hR hb HM1 HR1 HB1 hmk
    by_cases hlt : k < (lst d).length
    · obtain ⟨A3, c3, he3, _, hC⟩ := Kd.R_reads HRk.out
      injection he3 with he1 he2 he3
      subst he1
      obtain ⟨ad, rfl, hcell⟩ := at_s hC k hlt
      have hsz := lst_sizes d (lst d)[k] (List.getElem_mem _)
      obtain ⟨w5, hup, hm5, ht5⟩ := map_put HMk.out (by simp [maxLen]; omega) (lst d)[k] (by simp [maxLen]; omega)
      have HM5 := Lib.hid hm5
      have HR5 := Lib.hid (R_turned HMk.out HRk.out ht5)
      have HB5 : Hid (Below w.heap.size w w5) := Lib.hid (by
        have hg := turned_grown ht5
        exact ⟨hg.os.trans HBk.out.os, hg.tape.trans HBk.out.tape, hg.output.trans HBk.out.output, Nat.le_trans HBk.out.size hg.size, fun j hj => (hg.block j (Nat.lt_of_lt_of_le hj HBk.out.size) (fun e => by have := Option.some.inj e; omega)).trans (HBk.out.block j hj)⟩)
      clear hm5 ht5 hC
      go_wp2
      go_round
      · exact ⟨k + 1, by omega, by simp, HM5.out.congr (fun x => (mem_take (lst d) k hlt x).symm), HR5.out, HB5.out⟩
      · simp only [intOf]; omega
    · obtain rfl : k = (lst d).length := by omega
      have HM2 := Lib.hid (HMk.out.congr (L' := fun x => mem (lst d) x && !mem [] x) (fun x => by rw [List.take_length]; simp [mem]))
      clear HMk HRk
      go_wp2
      go_loopw [8, 27] (fun out i wr => C2Rel w w.heap.size (lst d) names out i wr) (fun _ i _ => names.length - (intOf i).toNat)
      case atStart => exact ⟨0, _, Nat.zero_le _, rfl, HM2.out, Kd.R_nil _ _ _ _ _, HBk.out⟩
      case round =>
        obtain ⟨j, n, hj, rfl, hm, hR, hb⟩ := hrel
        have HMj := Lib.hid hm
        have HRj := Lib.hid hR
        have HBj := Lib.hid hb
        clear hm hR hb HM2 HBk
        by_cases hlt : j < names.length
        · obtain ⟨ad, rfl, hcell⟩ := at_s (Kd.C_below HR.out HBj.out) j hlt
          have hx := ho names[j] (List.getElem_mem _)
          have hlk := map_look HMj.out names[j] hx
          have hct := clash_take (lst d) names j hlt
          have HRa := Lib.hid (Kd.R_alloc HRj.out (.cells #[] 86))
          have HMa := Lib.hid (HMj.out.below (below_alloc (Below.refl wr.heap.size wr) (.cells #[] 86)))
          have HBa := Lib.hid (below_alloc HBj.out (.cells #[] 86))
          have HNa := Lib.hid (ne_map HMa.out HRa.out)
          have hln2 := clash_len (lst d) (names.take j)
          have hln3 : (names.take j).length ≤ 1000 := by rw [List.length_take]; omega
          cases hbv : (mem (lst d) names[j] && !mem (clash (lst d) (names.take j)) names[j]) with
          | true =>
            rw [hbv] at hlk
            have hst : clash (lst d) (names.take (j + 1)) = clash (lst d) (names.take j) ++ [names[j]] := by rw [hct, step, if_pos hbv]
            go_wp2_with (first
              | ((with_reducible refine gate_builtin (b := .append) (xs := #[.tmp 38, .tmp 40]) rfl ?_); at_builtin; go_must ((refine Kd.R_append Kd.string w.heap.size rfl (.tmp 38) (.tmp 40) 22 9 (.string ⟨#[]⟩) 16 rfl Tryd.underlying22 infoStr rfl (by decide) (by omega) u8 (clash (lst d) (names.take j)) names[j] [.string names[j]] (fun _ => True) (fun _ => False) rfl ?hx ?aP (fun _ hk => hk.elim) (fun _ _ => trivial) HRa.out (Below.refl _ _) (le_alloc _ _ HBj.out.size) ?aL ?_; (case hx => show Value.slice (some ⟨wr.heap.size + 1, 0, none⟩) 1 1 = Value.slice (some ⟨(wr.alloc _).heap.size, 0, none⟩) 1 1; rw [size_alloc]); (case aP => exact rfl); (case aL => omega))); go_must (intro v1 w9 ho9 hb hg hat; rw [← hst] at ho9; have HO9 := Lib.hid ho9; have HB9 := Lib.hid (HBa.out.trans hb); have HM9 := Lib.hid (HMa.out.grown hg HNa.out); obtain ⟨w10, hdl, hmd, htd⟩ := map_drop HM9.out names[j] hx 0; have HMD := Lib.hid hmd; have HTD := Lib.hid htd; clear ho9 hb hg hat hmd htd)))
            go_round
            · refine ⟨j + 1, n, by omega, by simp, ?_, R_turned HM9.out HO9.out HTD.out, turned_below HB9.out HTD.out⟩
              rw [hst]
              exact HMD.out.congr (fun y => clash_left (lst d) (clash (lst d) (names.take j)) names[j] y)
            · simp only [intOf]; omega
          | false =>
            rw [hbv] at hlk
            have hst : clash (lst d) (names.take (j + 1)) = clash (lst d) (names.take j) := by rw [hct, step, if_neg (by rw [hbv]; simp)]
            go_wp2
            go_round
            · refine ⟨j + 1, n, by omega, by simp, ?_, ?_, HBa.out⟩
              · rw [hst]; exact HMa.out
              · rw [hst]; exact HRa.out
            · simp only [intOf]; omega
        · obtain rfl : j = names.length := by omega
          rw [List.take_length] at HRj
          go_wp2
          go_ret
          exact ⟨_, rfl, HRj.out, HBj.out⟩
end Go.Proofs.YtlepjafokfhnfaaDoor.Wd
end
section
open Go Go.Proofs
namespace Go.Ev
open Go.RowKit Go.Proofs.YtlepjafokfhnfaaDoor Go.Proofs.YtlepjafokfhnfaaDoorW.PrintWords Go.Proofs.YtlepjafokfhnfaaDoorW.PrintLast Go.Proofs.YtlepjafokfhnfaaDoorW.PrintMore
set_option linter.unusedVariables false
set_option linter.unusedSimpArgs false
set_option maxHeartbeats 4000000
set_option maxRecDepth 100000
theorem c_string {Sl : Nat → Nat → Prop} {w : World} {v : Value} {xs : List ByteArray} (h : DRep EE Sl w v (.sl 9 xs)) :
    ∃ A c, v = .slice A xs.length c ∧ Kd.C Kd.string w A xs.length xs := by
  cases h with
  | sl _ _ A n c g o vals hn hcap hm hA hc hr =>
    have hn : xs.length = n := hn
    subst hn
    refine ⟨A, c, rfl, rfl, Nat.le_trans hm (by decide), fun hpos => ?_⟩
    rw [hA hpos]
    refine ⟨_, rfl, fun j p hp => ⟨[.string p], rfl, rfl, fun i u hu => ?_⟩⟩
    have h3 := (hc j p 0 (.lit (.string p)) hp rfl).1
    have h4 := hr j p 0 (.lit (.string p)) hp rfl
    have h5 : (EE.row 9 p).length = 1 := rfl
    rw [h5, Nat.mul_one, Nat.add_zero] at h3 h4
    cases i with
    | zero =>
      simp at hu
      subst hu
      rw [drep_lit h4] at h3
      have e : (⟨g, o, none⟩ : Addr).add (j * 1 + 0) = ⟨g, o + j, none⟩ := by simp [Addr.add]
      show w.cell? ((⟨g, o, none⟩ : Addr).add (j * 1 + 0)) = _
      rw [e]
      exact h3
    | succ i => simp at hu
theorem r_string {Sl : Nat → Nat → Prop} {w w' : World} {u : Value} {xs : List ByteArray} (hSl : ∀ g o, Sl g o → g < w.heap.size) (hb : Below w.heap.size w w') (hR : Kd.string.R 9 w' w.heap.size (fun _ => True) u xs) :
    Answers EE Sl w [] [] (.c (.ow 9 xs), []) u w' := by
  obtain ⟨_, inner, hown, hlen, hrep⟩ := hR
  refine answers_row (ti := { size := 1, bytes := 16, zero := [.string ⟨#[]⟩], td := .string }) (by kernel_rfl) hSl hb hown (fun i r j y hi hj => ?_)
  have hj' : ([DV.lit (.string r)] : List (DV II))[j]? = some y := hj
  have h1 : (inner.drop (i * 1)).take 1 = [Value.string r] := hrep i r hi
  cases j with
  | zero =>
    simp at hj'
    subst hj'
    refine ⟨.string r, ?_, fun Sl' _ => .lit _ rfl⟩
    have h2 : ((inner.drop (i * 1)).take 1)[0]? = some (Value.string r) := by rw [h1]; rfl
    rw [List.getElem?_take_of_lt (by omega), List.getElem?_drop] at h2
    exact h2
  | succ j => simp at hj'
theorem ok_words_Clash : SpecA Tryd.prog EE 28 (ansOf c_words_Clash rc_words_Clash.enc fun x => if x.2.1.length ≤ 1000 ∧ (x.2.1.all fun z => decide (z.size ≤ maxLen)) = true then some (Wd.clash (Wd.lst x.1) x.2.1) else none) := by
  refine specA_by _ _ _ fun x y hy Sl w us fp rs hSl hargs hnd hlt hiv => ?_
  obtain ⟨d, xs, _⟩ := x
  simp only at hy
  split at hy
  · rename_i hb
    injection hy with hy
    subst hy
    obtain ⟨vs, rfl, h1⟩ := areps_lit hargs
    obtain ⟨v, vs', rfl, h2, h3⟩ := areps_d h1
    obtain ⟨rfl, rfl, rfl⟩ := areps_nil h3
    obtain ⟨A, c, rfl, hC⟩ := c_string h2
    refine ⟨28, #[_, _], .inl ⟨by decide, rfl, rfl⟩, ⟨Tryd.f28, Tryd.func28, by kernel_rfl, by kernel_rfl⟩, ?_⟩
    exact (Wd.clash_any d A c xs w hiv.1 hC (fun z hz => of_decide_eq_true (List.all_eq_true.1 hb.2 z hz)) hb.1).mono fun e w' ⟨r, he, hR, hbel⟩ => ⟨r, he, r_string hSl hbel hR⟩
  · cases hy
theorem below_grown (w : World) (k : Nat) (os : Array Go.Obj) : Below w.heap.size w (Go.Sort.grow (w.drewN k) os) := by
  have h := pw_below_drewN (Below.refl w.heap.size w) k
  refine ⟨h.os, h.tape, h.output, ?_, fun i hi => ?_⟩
  · show w.heap.size ≤ ((w.drewN k).heap ++ os).size
    rw [Array.size_append]
    exact Nat.le_trans h.size (Nat.le_add_right _ _)
  · show ((w.drewN k).heap ++ os)[i]? = _
    rw [Array.getElem?_append_left (Nat.lt_of_lt_of_le hi h.size)]
    exact h.block i hi
def itoaB (n : Int) : ByteArray := ⟨(Lib.itoa n).toArray⟩
theorem ok_strconv_Itoa : SpecA Tryd.prog EE 38 (ansOf c_strconv_Itoa rc_strconv_Itoa.enc fun x => if 0 ≤ x.1 ∧ x.1 ≤ 9223372036854775807 then some (itoaB x.1) else none) := by
  refine specA_by _ _ _ fun x y hy Sl w us fp rs hSl hargs hnd hlt hiv => ?_
  obtain ⟨n, _⟩ := x
  simp only at hy
  split at hy
  · rename_i hb
    injection hy with hy
    subst hy
    obtain ⟨vs, rfl, h1⟩ := areps_lit hargs
    obtain ⟨rfl, rfl, rfl⟩ := areps_nil h1
    refine ⟨38, #[_], .inl ⟨by decide, rfl, rfl⟩, ⟨Tryd.f38, Tryd.func38, by kernel_rfl, by kernel_rfl⟩, ?_⟩
    refine (Tryd.strconv_Itoa n (by omega) hb.2 w hiv.2.2).mono fun e w' ⟨he, k, os, hw⟩ => ⟨_, he, ?_⟩
    subst hw
    exact answers_lit hSl (below_grown w k os) rfl
  · cases hy
def hFam : Fam := { nilFam with
  f_words_Is := fun x => some (Wd.mem (Wd.lst x.1) x.2.1)
  f_slices_Clone_string := fun x => if x.1.length * 16 ≤ 140737488355328 then some x.1 else none
  f_words_Clash := fun x => if x.2.1.length ≤ 1000 ∧ (x.2.1.all fun z => decide (z.size ≤ maxLen)) = true then some (Wd.clash (Wd.lst x.1) x.2.1) else none
  f_strconv_Itoa := fun x => if 0 ≤ x.1 ∧ x.1 ≤ 9223372036854775807 then some (itoaB x.1) else none
  f_by := stepT }
theorem hand : HandOK hFam where
  o_tree_Names := ok_tree_Names
  o_tree_Rename := ok_tree_Rename
  o_words_Is := ok_words_Is
  o_words_Clash := ok_words_Clash
  o_strconv_Itoa := ok_strconv_Itoa
  o_tree_mapper_parts := ok_tree_mapper_parts
  o_slices_Clone_string := ok_Clone
  o_by := ok_by
theorem awake_ok (k : Nat) : (FF hFam (k + 12)).f_w16_awake () = some true := by kernel_rfl
end Go.Ev
end
section
open Go Go.Proofs
namespace Go.Ev
open Go.RowKit Go.Proofs.YtlepjafokfhnfaaDoor
set_option linter.unusedVariables false
set_option linter.unusedSimpArgs false
set_option maxHeartbeats 4000000
set_option maxRecDepth 100000
theorem bulkAll_eq {H : Type} : ∀ l : List (DataW H), Rows.uptoBulkAll l = (l.map Rows.uptoBulk).sum
  | [] => rfl
  | d :: r => by rw [Rows.uptoBulkAll, bulkAll_eq r]; rfl
theorem bulk_pos {H : Type} (d : DataW H) : 1 ≤ Rows.uptoBulk d := by
  cases d with
  | lit l => cases l <;> simp [Rows.uptoBulk]
  | _ => simp [Rows.uptoBulk]
theorem measB (H : Type) : Meas EE ftt bkk (fun d : DataW H => Rows.uptoBulk d) rowsL :=
  meas EE rfl rfl _ (bulk_pos _) (fun l => bulk_pos _) (fun l => Nat.le_refl _) (fun a b => by show (a.map Rows.uptoBulk).sum + 1 ≤ Rows.uptoBulkAll a + Rows.uptoBulkAll b + 1; rw [bulkAll_eq a]; omega)
    (fun a => by show (a.map Rows.uptoBulk).sum + 1 ≤ Rows.uptoBulkAll a + 1; rw [bulkAll_eq a]; exact Nat.le_refl _)
section
variable {H : Type} {enc : TypeId × Value → H} {W : World} {base : Nat} {spare : Nat → Bool} {held : Bool}
def tyOfN (t : Nat) : TI := match EE.ty t with | some ti => ti | none => ⟨0, 0, [], .other, true⟩
def yesR : RV II := (.c (.d (.lit (.bool true))), [])
theorem below_of {w w' : World} {u : Value} (h : Answers EE (allS w) w [] [] yesR u w') : u = .bool true ∧ Below w.heap.size w w' := by
  obtain ⟨Sl', p1, p2, r1, r2, hkeep, hext, hu, hps, hnd, hlt⟩ := h
  obtain ⟨hu1, rfl, rfl⟩ := arep_d hu
  exact ⟨drep_lit hu1, ⟨hkeep.os, hkeep.tape, hkeep.output, hkeep.size, fun i hi => hkeep.block i hi (by simp)⟩⟩
theorem call_law {f : Nat} (hf : f ≠ 1000003) {s : Fam} (hS : ∀ f, SpecOK Tryd.prog EE (sp s) f) {avs : List (AV II)} (hr : (sp s f avs).run = some yesR) {args : Array Value} (ha : AReps EE (allS W) W (· ∈ ([] : List Nat)) W.heap.size args.toList avs [] []) (hi : EE.inv W) :
    Calls Tryd.prog f args W fun e W' => e = .returned (.bool true) ∧ Below W.heap.size W W' := by
  obtain ⟨g, args', hc, hfn, hcalls⟩ := hS f avs _ hr (allS W) W args.toList [] [] (fun _ _ h => h) ha List.nodup_nil (fun k hk => by cases hk) hi
  rcases hc with ⟨_, rfl, he⟩ | ⟨h, _⟩
  · have : args' = args := Array.toList_inj.1 he
    subst this
    refine hcalls.mono fun e w' ⟨u, he, h⟩ => ?_
    obtain ⟨rfl, hb⟩ := below_of h
    exact ⟨he, hb⟩
  · exact absurd h hf
theorem read_anyB {t : Nat} {ti : TI} {l : List KD} (ht : EE.ty t = some ti) (hs : (match ti.td with | .struct _ => true | _ => false) = true) (hl : flatK EE.ty 9 t = some l) (hn : Nat.beq ti.size 1 = false) {v : Value} {d : DataW H} {ps : List MemPlace} (h : DataW.Trod enc Tryd.prog W base spare held t v d ps) :
    ∃ vs : Array Value, v = .agg vs ∧ ∃ ds, DReps EE (allS W) W vs.toList ds ∧ ds.map kd = l ∧ (∀ d ∈ ds, QD ftt d) ∧ (ds.map (bkD bkk)).sum + 1 ≤ Rows.uptoBulk d := by
  obtain ⟨fuel, h⟩ := h
  obtain ⟨⟨ds, h1, h2, h3, h4⟩, h5, hlen⟩ := rd hEE (measB H) fuel t ti _ (d, ps) l ht hl h
  cases htd : ti.td with
  | struct fs =>
    rw [htd] at h4 h5
    simp only at h4 h5
    cases v with
    | agg vs => exact ⟨vs, rfl, ds, h1, h2, h3, by omega⟩
    | _ =>
      have h1 : 1 = ti.size := hlen
      simp only [← h1] at hn
      cases hn
  | _ => rw [htd] at hs; cases hs
theorem read_exprB {v : Value} {d : DataW H} {ps : List MemPlace} (h : DataW.Trod enc Tryd.prog W base spare held 71 v d ps) :
    ∃ (vs : Array Value) (x : TExpr), v = .agg vs ∧ ft_TExpr x ∧ bk_TExpr x ≤ Rows.uptoBulk d ∧ ARep EE (allS W) W (· ∈ ([] : List Nat)) W.heap.size v (c_TExpr.enc x) [] [] := by
  obtain ⟨vs, rfl, ds, h1, h2, h3, h4⟩ := read_anyB (t := 71) (l := [.int .i64, .int .i64, .str, .str, .sl 71]) (ti := tyOfN 71) (by kernel_rfl) (by kernel_rfl) (by kernel_rfl) (by kernel_rfl) h
  obtain ⟨x, rfl⟩ := full_TExpr ds (congrArg some h2.symm)
  refine ⟨vs, x, rfl, ?_, ?_, .agg vs _ [] [] h1.preps⟩
  · cases x
    simp only [row_TExpr, List.mem_cons, List.not_mem_nil, or_false, forall_eq_or_imp, forall_eq, QD] at h3
    simp only [ft_TExpr, fts_TExpr_iff]
    exact h3
  · cases x
    simp only [row_TExpr, List.map_cons, List.map_nil, List.sum_cons, List.sum_nil, bkD, bkk_TExpr] at h4
    simp only [bk_TExpr, bks_TExpr_eq]
    omega
theorem read_progB {v : Value} {d : DataW H} {ps : List MemPlace} (h : DataW.Trod enc Tryd.prog W base spare held 28 v d ps) :
    ∃ (vs : Array Value) (x : TProgram), v = .agg vs ∧ ft_TProgram x ∧ bk_TProgram x ≤ Rows.uptoBulk d ∧ ARep EE (allS W) W (· ∈ ([] : List Nat)) W.heap.size v (c_TProgram.enc x) [] [] := by
  obtain ⟨vs, rfl, ds, h1, h2, h3, h4⟩ := read_anyB (t := 28) (l := [.str, .sl 9, .sl 9, .sl 9, .sl 44, .sl 54, .sl 66, .sl 73, .sl 9]) (ti := tyOfN 28) (by kernel_rfl) (by kernel_rfl) (by kernel_rfl) (by kernel_rfl) h
  obtain ⟨d0, ds, rfl, e0, h⟩ := List.map_eq_cons_iff.1 h2
  obtain ⟨d1, ds, rfl, e1, h⟩ := List.map_eq_cons_iff.1 h
  obtain ⟨d2, ds, rfl, e2, h⟩ := List.map_eq_cons_iff.1 h
  obtain ⟨d3, ds, rfl, e3, h⟩ := List.map_eq_cons_iff.1 h
  obtain ⟨d4, ds, rfl, e4, h⟩ := List.map_eq_cons_iff.1 h
  obtain ⟨d5, ds, rfl, e5, h⟩ := List.map_eq_cons_iff.1 h
  obtain ⟨d6, ds, rfl, e6, h⟩ := List.map_eq_cons_iff.1 h
  obtain ⟨d7, ds, rfl, e7, h⟩ := List.map_eq_cons_iff.1 h
  obtain ⟨d8, ds, rfl, e8, h⟩ := List.map_eq_cons_iff.1 h
  obtain rfl := List.map_eq_nil_iff.1 h
  obtain ⟨y0, rfl⟩ := kd_str e0
  obtain ⟨y1, rfl⟩ := kd_sl e1
  obtain ⟨y2, rfl⟩ := kd_sl e2
  obtain ⟨y3, rfl⟩ := kd_sl e3
  obtain ⟨y4, rfl⟩ := kd_sl e4
  obtain ⟨y5, rfl⟩ := kd_sl e5
  obtain ⟨y6, rfl⟩ := kd_sl e6
  obtain ⟨y7, rfl⟩ := kd_sl e7
  obtain ⟨y8, rfl⟩ := kd_sl e8
  refine ⟨vs, ⟨y0, y1, y2, y3, y4, y5, y6, y7, y8⟩, rfl, ?_, ?_, .agg vs _ [] [] h1.preps⟩
  · simp only [List.mem_cons, List.not_mem_nil, or_false, forall_eq_or_imp, forall_eq, QD] at h3
    simp only [ft_TProgram, fts_v9_iff, fts_TRec_iff, fts_TVar_iff, fts_TRoutine_iff, fts_TStmt_iff]
    exact h3
  · simp only [List.map_cons, List.map_nil, List.sum_cons, List.sum_nil, bkD] at h4
    have e9 : ∀ l : List ByteArray, (l.map (bkk 9)).sum = bks_v9 l := fun l => by rw [bks_v9_eq]; rfl
    have e59 : ∀ l : List TRec, (l.map (bkk 44)).sum = bks_TRec l := fun l => by rw [bks_TRec_eq]; rfl
    have e98 : ∀ l : List TVar, (l.map (bkk 54)).sum = bks_TVar l := fun l => by rw [bks_TVar_eq]; rfl
    have e103 : ∀ l : List TRoutine, (l.map (bkk 66)).sum = bks_TRoutine l := fun l => by rw [bks_TRoutine_eq]; rfl
    have e107 : ∀ l : List TStmt, (l.map (bkk 73)).sum = bks_TStmt l := fun l => by rw [bks_TStmt_eq]; rfl
    have f1 := e9 y1
    have f2 := e9 y2
    have f3 := e9 y3
    have f4 := e59 y4
    have f5 := e98 y5
    have f6 := e103 y6
    have f7 := e107 y7
    have f8 := e9 y8
    simp only [bk_TProgram]
    omega
end
end Go.Ev
end
section
open Go Go.Proofs
namespace Go.Ev
open Go.RowKit Go.Proofs.YtlepjafokfhnfaaDoor
set_option linter.unusedVariables false
def laidL : List (String × DataW Unit) := [("math/bits.deBruijn32tab", Rows.laid_math_bits_deBruijn32tab), ("math/bits.deBruijn64tab", Rows.laid_math_bits_deBruijn64tab), ("internal/strconv.uint64pow10", Rows.laid_internal_strconv_uint64pow10), ("unicode/utf8.acceptRanges", Rows.laid_unicode_utf8_acceptRanges), ("unicode.White_Space", Rows.laid_unicode_White_Space), ("strings.asciiSpace", Rows.laid_strings_asciiSpace), ("unicode/utf8.first", Rows.laid_unicode_utf8_first)]
theorem tab_datum0 : (Rows.laid_strings_asciiSpace : DataW Unit) = Lib.tabData .u8 Lib.asciiSpaceTab := by kernel_rfl
theorem tab_datum1 : (Rows.laid_internal_strconv_uint64pow10 : DataW Unit) = Lib.tabData .u64 Lib.pow10Tab := by kernel_rfl
theorem of_laid {W : World} (h : laidMetH Tryd.prog laidL W) (hs : W.ShapedOpen Tryd.prog) : EE.inv W := by
  rw [MakeChecks.laidMetH_plain _ _ _ (by kernel_rfl)] at h
  obtain ⟨ps, ⟨g0, t0, cs0, f0, p0, q0, hg0, ht0, hv0, hd0, ⟨g1, t1, cs1, f1, p1, q1, hg1, ht1, hv1, hd1, ⟨g2, t2, cs2, f2, p2, q2, hg2, ht2, hv2, hd2, ⟨g3, t3, cs3, f3, p3, q3, hg3, ht3, hv3, hd3, ⟨g4, t4, cs4, f4, p4, q4, hg4, ht4, hv4, hd4, ⟨g5, t5, cs5, f5, p5, q5, hg5, ht5, hv5, hd5, _⟩, _⟩, _⟩, _⟩, _⟩, _⟩, _⟩ := h
  rw [tab_datum0] at hd5
  obtain rfl := Option.some.inj ((show Tryd.prog.globalNamed "strings.asciiSpace" = some 0 by kernel_rfl).symm.trans hg5)
  obtain rfl := Option.some.inj ((show (Tryd.prog.globals[0]?).map (·.type) = some 110 by kernel_rfl).symm.trans ht5)
  rw [tab_datum1] at hd2
  obtain rfl := Option.some.inj ((show Tryd.prog.globalNamed "internal/strconv.uint64pow10" = some 2 by kernel_rfl).symm.trans hg2)
  obtain rfl := Option.some.inj ((show (Tryd.prog.globals[2]?).map (·.type) = some 156 by kernel_rfl).symm.trans ht2)
  refine ⟨?_, Tryd.laysM146.s1_3 W hs, ?_⟩
  · unfold Lib.TabIs
    rw [hv5, ← Lib.cells_of_tab Tryd.underlying110 Tryd.underlying5 (by kernel_rfl) (by kernel_rfl) hd5]
  · unfold Lib.TabIs
    rw [hv2, ← Lib.cells_of_tab Tryd.underlying156 Tryd.underlying135 (by kernel_rfl) (by kernel_rfl) hd2]
end Go.Ev
end
section
open Go
namespace Go.Ev
set_option maxRecDepth 100000
set_option maxHeartbeats 4000000
set_option linter.unusedVariables false
set_option linter.unusedSimpArgs false
variable (h : Fam)
theorem bk_Var_pos (x : TVar) : 1 ≤ bk_TVar x := by cases x; simp [bk_TVar]
theorem bks_Var_len (l : List TVar) : l.length ≤ bks_TVar l := by rw [bks_TVar_eq]; exact len_sum _ bk_Var_pos l
theorem bks_Var_mem (l : List TVar) (i : Nat) (hi : i < l.length) : bk_TVar l[i] ≤ bks_TVar l := by rw [bks_TVar_eq]; exact mem_sum _ l i hi
theorem bk_Field_pos (x : TField) : 1 ≤ bk_TField x := by cases x; simp [bk_TField]
theorem bks_Field_len (l : List TField) : l.length ≤ bks_TField l := by rw [bks_TField_eq]; exact len_sum _ bk_Field_pos l
theorem bks_Field_mem (l : List TField) (i : Nat) (hi : i < l.length) : bk_TField l[i] ≤ bks_TField l := by rw [bks_TField_eq]; exact mem_sum _ l i hi
theorem bk_Rec_pos (x : TRec) : 1 ≤ bk_TRec x := by cases x; simp [bk_TRec]
theorem bks_Rec_len (l : List TRec) : l.length ≤ bks_TRec l := by rw [bks_TRec_eq]; exact len_sum _ bk_Rec_pos l
theorem bks_Rec_mem (l : List TRec) (i : Nat) (hi : i < l.length) : bk_TRec l[i] ≤ bks_TRec l := by rw [bks_TRec_eq]; exact mem_sum _ l i hi
theorem bk_Routine_pos (x : TRoutine) : 1 ≤ bk_TRoutine x := by cases x; simp [bk_TRoutine]
theorem bk_Param_pos (x : TParam) : 1 ≤ bk_TParam x := by cases x; simp [bk_TParam]
theorem bks_Param_len (l : List TParam) : l.length ≤ bks_TParam l := by rw [bks_TParam_eq]; exact len_sum _ bk_Param_pos l
theorem bks_Routine_len (l : List TRoutine) : l.length ≤ bks_TRoutine l := by rw [bks_TRoutine_eq]; exact len_sum _ bk_Routine_pos l
theorem bks_Routine_mem (l : List TRoutine) (i : Nat) (hi : i < l.length) : bk_TRoutine l[i] ≤ bks_TRoutine l := by rw [bks_TRoutine_eq]; exact mem_sum _ l i hi
end Go.Ev
end
section
open Go Go.Proofs
namespace Go.Ev
open Go.RowKit Go.Shelf
attribute [local go_sem] Oper.semAt_some
set_option linter.unusedVariables false
set_option linter.unusedSimpArgs false
set_option maxHeartbeats 4000000
set_option maxRecDepth 100000
theorem cutL_none : ∀ l : List UInt8, Lib.indexByte l 36 = -1 → cutL l = [l]
  | [], _ => rfl
  | c :: r, h => by
    have hc := Lib.indexByte_none h 0
    have hne : c ≠ 36 := fun e => hc (by simp [e])
    have hr : Lib.indexByte r 36 = -1 := by
      have hge := Lib.indexByte_ge r 36
      unfold Lib.indexByte at h
      split at h
      · cases h
      · split at h
        · rename_i h2; simpa using h2
        · omega
    rw [cutL, if_neg hne, cutL_none r hr]
theorem cutL_some : ∀ (l : List UInt8) (i : Nat), Lib.indexByte l 36 = i → cutL l = l.take i :: cutL (l.drop (i + 1))
  | [], i, h => by simp [Lib.indexByte] at h
  | c :: r, 0, h => by
    have := (Lib.indexByte_some h).1
    simp at this
    rw [cutL, if_pos this]
    rfl
  | c :: r, i + 1, h => by
    have hne : c ≠ 36 := fun e => (Lib.indexByte_some h).2 0 (by omega) (by simp [e])
    have hr : Lib.indexByte r 36 = i := by
      unfold Lib.indexByte at h
      split at h
      · omega
      · split at h
        · omega
        · push_cast at h; omega
    rw [cutL, if_neg hne, cutL_some r i hr]
    rfl
theorem cutP_none (s : ByteArray) (h : Lib.indexByte s.data.toList 36 = -1) : cutP s = [s] := by
  unfold cutP
  rw [cutL_none _ h]
  simp
theorem cutP_some (s : ByteArray) (i : Nat) (h : Lib.indexByte s.data.toList 36 = i) : cutP s = s.extract 0 i :: cutP (s.extract (i + 1) s.size) := by
  unfold cutP
  rw [cutL_some _ i h]
  simp only [List.map_cons, List.cons.injEq]
  constructor
  · apply ByteArray.ext
    apply Array.toList_inj.1
    rw [Lib.extract_data]
    simp
  · congr 2
    rw [Lib.extract_data, List.take_of_length_le (by simp)]
end Go.Ev
end
section
open Go
namespace Go.Ev
open Go.Proofs.YtlepjafokfhnfaaDoor
set_option maxRecDepth 100000
set_option maxHeartbeats 4000000
set_option linter.unusedVariables false
set_option linter.unusedSimpArgs false
theorem lt_dec {i n : Nat} (h : i < n) : decide ((i : Int) < (n : Int)) = true := by simpa using h
theorem eps_size (s : ByteArray) : (s.toList == (⟨#[]⟩ : ByteArray).toList) = decide (s.size = 0) := by
  rw [ba_beq]
  refine decide_eq_decide.2 ⟨fun h => by rw [h]; rfl, fun h => ?_⟩
  apply ByteArray.ext
  exact Array.eq_empty_of_size_eq_zero h
end Go.Ev
end
section
open Go
namespace Go.Ev
open Go.Proofs.YtlepjafokfhnfaaDoor
set_option maxRecDepth 100000
set_option maxHeartbeats 4000000
set_option linter.unusedVariables false
set_option linter.unusedSimpArgs false
theorem Among_ok (k : Nat) (l : List ByteArray) (x : ByteArray) (hk : l.length < k) (hm : l.length ≤ maxLen) : (FF hFam (k + 1)).f_r04_Among (l, x, ()) = some (Wd.mem l x) := by
  have key : ∀ j i, i ≤ l.length → l.length - i < j → Lr04_Among_2 (FF hFam k) k l x j l x (i : Int) = some (Wd.mem (l.drop i) x) := by
    refine up_ind l.length (fun j => ?_) (fun j i hi ih => ?_)
    · simp only [Lr04_Among_2]
      rw [if_neg (by simp)]
      simp [Wd.mem]
    · simp only [Lr04_Among_2]
      rw [if_pos (lt_dec hi), if_pos (by omega), if_pos (by omega), wrap_succ hi hm, ih, getD_at l i _ hi, ba_beq]
      have hd : l.drop i = l[i] :: l.drop (i + 1) := (List.getElem_cons_drop hi).symm
      by_cases h : l[i] = x
      · rw [if_pos (by simpa using h), hd]
        simp only [Wd.mem, List.any_cons, h, decide_true, Bool.true_or]
      · rw [if_neg (by simpa using h), hd]
        simp only [Wd.mem, List.any_cons, h, decide_false, Bool.false_or]
  have := key k 0 (Nat.zero_le _) (by omega)
  simp only [Int.ofNat_zero, List.drop_zero] at this
  exact this
theorem lst_len (d : Int) : (Wd.lst d).length ≤ 34 := by
  by_cases h0 : d = 0
  · subst h0; exact of_decide_eq_true (by kernel_rfl)
  · by_cases h1 : d = 1
    · subst h1; exact of_decide_eq_true (by kernel_rfl)
    · unfold Wd.lst; rw [if_neg h0, if_neg h1]; simp
theorem All_ok (k : Nat) (d : Int) : (FF hFam (k + 1)).f_r04_All (d, ()) = some (Wd.lst d) := by
  by_cases h0 : d = 0
  · subst h0; kernel_rfl
  · by_cases h1 : d = 1
    · subst h1; kernel_rfl
    · show B_r04_All (FF hFam k) k d = _
      unfold B_r04_All
      rw [if_neg (by simpa using h0), if_neg (by simpa using h1)]
      unfold Wd.lst; rw [if_neg h0, if_neg h1]
theorem r04_Is_ok (k : Nat) (d : Int) (s : ByteArray) (hk : 34 < k) : (FF hFam (k + 2)).f_r04_Is (d, s, ()) = some (Wd.mem (Wd.lst d) s) := by
  have hl := lst_len d
  show B_r04_Is (FF hFam (k + 1)) (k + 1) d s = _
  unfold B_r04_Is
  rw [All_ok, Option.bind_some, Among_ok k _ s (by omega) (by simp only [maxLen]; omega)]
  rfl
def mkB (l : List UInt8) : ByteArray := ⟨l.toArray⟩
theorem ext_mk (s : ByteArray) (a b : Nat) : s.extract a b = mkB ((s.data.toList.drop a).take (b - a)) := by
  apply ByteArray.ext
  apply Array.toList_inj.1
  rw [Lib.extract_data]
  simp [mkB]
theorem cutL_len : ∀ l : List UInt8, (cutL l).length ≤ l.length + 1
  | [] => by simp [cutL]
  | c :: r => by
    have := cutL_len r
    rw [cutL]
    split
    · simp; omega
    · split
      · simp
      · rename_i h; rw [h] at this; simp at this ⊢; omega
theorem cutL_free : ∀ l : List UInt8, (∀ x ∈ l, x ≠ 36) → cutL l = [l]
  | [], _ => rfl
  | c :: r, h => by rw [cutL, if_neg (h c List.mem_cons_self), cutL_free r fun x hx => h x (List.mem_cons_of_mem _ hx)]
theorem cutL_at : ∀ (l r : List UInt8), (∀ x ∈ l, x ≠ 36) → cutL (l ++ 36 :: r) = l :: cutL r
  | [], r, _ => by rw [List.nil_append, cutL, if_pos rfl]
  | c :: l, r, h => by rw [List.cons_append, cutL, if_neg (h c List.mem_cons_self), cutL_at l r fun x hx => h x (List.mem_cons_of_mem _ hx)]
theorem bt_at (s : ByteArray) (i : Nat) (h : i < s.size) : bt s (i : Int) = ((s.data.toList[i]'(by simpa using h)).toNat : Int) := by
  unfold bt
  rw [dif_pos (by simpa using h)]
  rfl
theorem Parts_ok (k : Nat) (s : ByteArray) (hk : s.size + 1 < k) (hm : s.size ≤ 8388608) : (FF hFam (k + 1)).f_r07_Parts (s, ()) = some (cutP s) := by
  have hml : s.size + 1 ≤ maxLen := by simp only [maxLen]; omega
  have hlen : s.data.toList.length = s.size := by simp
  have key : ∀ j i, i ≤ s.size + 1 → s.size + 1 - i < j →
      (i ≤ s.size → ∀ (f : Nat) out, f ≤ i → (∀ x ∈ (s.data.toList.drop f).take (i - f), x ≠ 36) → out.length ≤ f → Lr07_Parts_4 (FF hFam k) k s j s (f : Int) (i : Int) out = some (out ++ (cutL (s.data.toList.drop f)).map mkB)) ∧
      (i = s.size + 1 → ∀ (f : Int) out, Lr07_Parts_4 (FF hFam k) k s j s f (i : Int) out = some out) := by
    refine up_ind (s.size + 1) (fun j => ⟨fun h => by omega, fun _ f out => ?_⟩) (fun j i hi ih => ⟨fun hle f out hf hno hout => ?_, fun h => by omega⟩)
    · simp only [Lr07_Parts_4]
      rw [if_neg (by simp; omega)]
    · simp only [Lr07_Parts_4]
      rw [if_pos (by simp; omega)]
      have hpush : (out ++ [s.extract f i]).length * 16 ≤ 140737488355328 := by simp only [List.length_append, List.length_singleton]; omega
      rcases Nat.lt_or_ge i s.size with hlt | hge
      · rw [if_pos (by simp; omega), if_pos (by omega), if_pos (by omega), wrap_succ hi hml]
        have hget : s.data.toList[i]? = some (s.data.toList[i]'(by omega)) := List.getElem?_eq_getElem _
        by_cases h36 : s.data.toList[i]'(by omega) = 36
        · rw [if_pos (by rw [bt_at s i hlt, h36]; rfl), if_pos (by omega), if_pos (by omega), if_pos (by omega)]
          simp only [Int.toNat_natCast]
          rw [if_pos hpush, (ih.1 (by omega)) (i + 1) _ (Nat.le_refl _) (by simp) (by simp; omega)]
          have hsplit : s.data.toList.drop f = (s.data.toList.drop f).take (i - f) ++ 36 :: s.data.toList.drop (i + 1) := by
            have h1 : (s.data.toList.drop f).drop (i - f) = 36 :: s.data.toList.drop (i + 1) := by
              rw [List.drop_drop, show f + (i - f) = i by omega, List.drop_eq_getElem_cons (by omega), h36]
            rw [← h1, List.take_append_drop]
          have hcut : cutL (s.data.toList.drop f) = (s.data.toList.drop f).take (i - f) :: cutL (s.data.toList.drop (i + 1)) := by
            have := cutL_at _ (s.data.toList.drop (i + 1)) hno
            rwa [← hsplit] at this
          rw [hcut, ext_mk]
          simp [mkB]
        · have hne : (Bool.false || bt s (i : Int) == 36) = false := by
            rw [bt_at s i hlt]
            simp only [Bool.false_or, beq_eq_false_iff_ne, ne_eq]
            intro e
            apply h36
            apply UInt8.toNat_inj.1
            have : (36 : UInt8).toNat = 36 := rfl
            omega
          rw [if_neg (by rw [hne]; simp)]
          refine (ih.1 (by omega)) f out (by omega) (fun x hx => ?_) hout
          rw [show i + 1 - f = (i - f) + 1 by omega, List.take_add_one] at hx
          rcases List.mem_append.1 hx with hx | hx
          · exact hno x hx
          · rw [List.getElem?_drop, show f + (i - f) = i by omega, hget] at hx
            simp at hx
            rw [hx]; exact h36
      · have hi' : i = s.size := by omega
        subst hi'
        rw [if_neg (by simp), if_pos (by omega), if_pos (by omega), if_pos (by omega), wrap_succ hi hml]
        simp only [Int.toNat_natCast]
        rw [if_pos hpush, ih.2 rfl]
        have hall : (s.data.toList.drop f).take (s.size - f) = s.data.toList.drop f := List.take_of_length_le (by simp)
        rw [ext_mk, hall, cutL_free _ (by rw [← hall]; exact hno)]
        rfl
  have := (key k 0 (Nat.zero_le _) (by omega)).1 (Nat.zero_le _) 0 [] (Nat.le_refl _) (by simp) (Nat.le_refl _)
  simp only [Int.ofNat_zero, List.drop_zero, List.nil_append] at this
  exact this
theorem cutP_len (s : ByteArray) : (cutP s).length ≤ s.size + 1 := by
  unfold cutP
  rw [List.length_map]
  have := cutL_len s.data.toList
  simpa using this
theorem cutL_mem : ∀ (l : List UInt8), ∀ p ∈ cutL l, p.length ≤ l.length
  | [], p, h => by simp [cutL] at h; subst h; simp
  | c :: r, p, h => by
    have ih := cutL_mem r
    rw [cutL] at h
    split at h
    · rcases List.mem_cons.1 h with rfl | h
      · simp
      · have := ih p h; simp; omega
    · split at h
      · simp at h; subst h; simp
      · rename_i q t hq
        rcases List.mem_cons.1 h with rfl | h
        · have := ih q (by rw [hq]; exact List.mem_cons_self); simp; omega
        · have := ih p (by rw [hq]; exact List.mem_cons_of_mem _ h); simp; omega
theorem cutP_mem (s p : ByteArray) (h : p ∈ cutP s) : p.size ≤ s.size := by
  unfold cutP at h
  obtain ⟨l, hl, rfl⟩ := List.mem_map.1 h
  have := cutL_mem _ l hl
  show l.toArray.size ≤ _
  simpa using this
end Go.Ev
end
section
open Go
namespace Go.Ev
open Go.Proofs.YtlepjafokfhnfaaDoor
set_option maxRecDepth 100000
set_option maxHeartbeats 4000000
set_option linter.unusedVariables false
set_option linter.unusedSimpArgs false
theorem bk_name (e : TExpr) : e.Name.size + e.Field.size + bks_TExpr e.L + 6 ≤ bk_TExpr e := by cases e; simp [bk_TExpr]; omega
end Go.Ev
end
section
open Go
namespace Go.Ev
open Go.Proofs.YtlepjafokfhnfaaDoor
set_option maxRecDepth 100000
set_option maxHeartbeats 4000000
set_option linter.unusedVariables false
set_option linter.unusedSimpArgs false
theorem bk_VarN (v : TVar) : bks_v9 v.Marks_Before + bks_v9 v.Marks_Trail + v.Name.size + v.T_Name.size + 6 ≤ bk_TVar v := by cases v; simp only [bk_TVar]; omega
end Go.Ev
end
section
open Go
namespace Go.Ev
open Go.Proofs.YtlepjafokfhnfaaDoor
set_option maxRecDepth 100000
set_option maxHeartbeats 4000000
set_option linter.unusedVariables false
set_option linter.unusedSimpArgs false
theorem bk_ParamN (p : TParam) : p.Name.size + p.T_Name.size + 6 ≤ bk_TParam p := by cases p; simp only [bk_TParam]; omega
theorem bks_Param_mem' (l : List TParam) (i : Nat) (hi : i < l.length) : bk_TParam l[i] ≤ bks_TParam l := by rw [bks_TParam_eq]; exact mem_sum _ l i hi
end Go.Ev
end
section
open Go
namespace Go.Ev
open Go.Proofs.YtlepjafokfhnfaaDoor
set_option maxRecDepth 100000
set_option maxHeartbeats 4000000
set_option linter.unusedVariables false
set_option linter.unusedSimpArgs false
theorem bk_StmtN (x : TStmt) : bks_v9 x.Marks_Before + bks_v9 x.Marks_Trail + x.Name.size + bk_TExpr x.sub_P + bks_TExpr x.E + bks_TStmt x.Body + bks_TStmt x.Else + bks_v9 x.End + bks_v9 x.End2 + 10 ≤ bk_TStmt x := by
  cases x; simp only [bk_TStmt, TStmt.sub_P, bk_TExpr]; omega
end Go.Ev
end
section
open Go
namespace Go.Ev
open Go.Proofs.YtlepjafokfhnfaaDoor
set_option maxRecDepth 100000
set_option maxHeartbeats 8000000
set_option linter.unusedVariables false
set_option linter.unusedSimpArgs false
theorem bk_RoutineN (x : TRoutine) : bks_v9 x.Marks_Before + bks_v9 x.Marks_Trail + x.Name.size + bks_TParam x.Params + bks_TVar x.Vars + bks_TRoutine x.Inner + bks_TStmt x.Body + bks_v9 x.End + 9 ≤ bk_TRoutine x := by
  cases x; simp only [bk_TRoutine]; omega
end Go.Ev
end
section
open Go
namespace Go.Ev
open Go.Proofs.YtlepjafokfhnfaaDoor
set_option maxRecDepth 100000
set_option maxHeartbeats 8000000
set_option linter.unusedVariables false
set_option linter.unusedSimpArgs false
theorem bk_FieldN (x : TField) : bks_v9 x.Marks_Before + bks_v9 x.Marks_Trail + x.Name.size + 4 ≤ bk_TField x := by cases x; simp only [bk_TField]; omega
theorem bk_RecN (x : TRec) : bks_v9 x.Marks_Before + bks_v9 x.Marks_Trail + x.Name.size + bks_TField x.Fields + bks_v9 x.End + 5 ≤ bk_TRec x := by cases x; simp only [bk_TRec]; omega
theorem bk_ProgramN (x : TProgram) : x.Name.size + bks_v9 x.Before + bks_v9 x.Mid + bks_v9 x.After + bks_TRec x.Recs + bks_TVar x.Vars + bks_TRoutine x.Routines + bks_TStmt x.Body + bks_v9 x.End + 9 ≤ bk_TProgram x := by cases x; simp only [bk_TProgram]; omega
end Go.Ev
end
section
open Go
namespace Go.Ev
open Go.Proofs.YtlepjafokfhnfaaDoor
set_option maxRecDepth 100000
set_option maxHeartbeats 4000000
set_option linter.unusedVariables false
set_option linter.unusedSimpArgs false
theorem idx36 (s : ByteArray) : Lib.indexB s sep36 = Lib.indexByte s.data.toList 36 := Lib.index_one s.data.toList 36
theorem cutD_eq : ∀ (n : Nat) (s : ByteArray), s.size ≤ n → cutD s = cutP s := by
  intro n
  induction n with
  | zero =>
    intro s hs
    have h : Lib.indexByte s.data.toList 36 = -1 := by
      have : s.data.toList = [] := List.eq_nil_of_length_eq_zero (by simpa using hs)
      rw [this]; rfl
    unfold cutD
    rw [Lib.splitB_miss _ _ _ _ (by rw [idx36]; exact h), cutP_none s h]
  | succ n ih =>
    intro s hs
    unfold cutD
    rcases Int.lt_or_le (Lib.indexByte s.data.toList 36) 0 with hi | hi
    · have h : Lib.indexByte s.data.toList 36 = -1 := by have := Lib.indexByte_ge s.data.toList 36; omega
      rw [Lib.splitB_miss _ _ _ _ (by rw [idx36]; exact h), cutP_none s h]
    · obtain ⟨i, h⟩ := Int.eq_ofNat_of_zero_le hi
      have hb : Lib.indexB s sep36 = (i : Int) := by rw [idx36]; exact h
      have hlt : i < s.size := by
        have h1 := (Lib.indexByte_some h).1
        have h2 := (List.getElem?_eq_some_iff.1 h1).1
        simpa using h2
      have h1 : 1 ≤ sep36.size := by decide
      rw [Lib.countB_hit s sep36 i h1 hb, Nat.add_comm, Lib.splitB_hit sep36 0 _ s i hb, cutP_some s i h]
      have := ih (s.extract (i + 1) s.size) (by rw [ByteArray.size_extract]; omega)
      unfold cutD at this
      show s.extract 0 (i + 0) :: Lib.splitB sep36 0 (Lib.countB (s.extract (i + 1) s.size) sep36) (s.extract (i + 1) s.size) = _
      rw [this]
      rfl
theorem cutD_cutP (s : ByteArray) : cutD s = cutP s := cutD_eq s.size s (Nat.le_refl _)
theorem cutL_ne : ∀ l : List UInt8, cutL l ≠ []
  | [] => by simp [cutL]
  | c :: r => by
    rw [cutL]
    split
    · simp
    · split <;> simp
theorem join_cutL : ∀ l : List UInt8, Lib.join (cutL l) [36] = l
  | [] => by simp [cutL, Lib.join_one]
  | c :: r => by
    have ih := join_cutL r
    have hne := cutL_ne r
    rw [cutL]
    unfold Lib.join at ih ⊢
    split
    · rename_i h
      subst h
      cases hr : cutL r with
      | nil => exact absurd hr hne
      | cons p q =>
        rw [hr] at ih
        rw [List.intercalate_cons_cons]
        simp [ih]
    · split
      · rename_i h; exact absurd h hne
      · rename_i p q hq
        rw [hq] at ih
        cases q with
        | nil => simp [List.intercalate_singleton] at ih ⊢; exact ih
        | cons x y =>
          rw [List.intercalate_cons_cons] at ih ⊢
          simp only [List.cons_append, List.append_assoc] at ih ⊢
          rw [ih]
theorem joinD_cutP (s : ByteArray) : joinD (cutP s) = s := by
  unfold joinD cutP
  apply ByteArray.ext
  apply Array.toList_inj.1
  rw [List.map_map]
  have h : (List.map ((fun x : ByteArray => x.data.toList) ∘ fun l : List UInt8 => (⟨l.toArray⟩ : ByteArray)) (cutL s.data.toList)) = cutL s.data.toList := by
    rw [List.map_congr_left (g := id) (fun l _ => by simp)]; simp
  rw [h]
  exact (join_cutL s.data.toList)
def outT (th : Thing) (p : ByteArray) : ByteArray := match th with
  | .ren l => (match l.find? fun q => q.Old.toList == p.toList with | some q => q.New | none => p)
  | .names _ => p
def addN (l : List ByteArray) (p : ByteArray) : List ByteArray := if (l.any fun z => z.toList == p.toList) = true then l else l ++ [p]
def nxtT (th : Thing) (ps : List ByteArray) : Thing := match th with
  | .ren l => .ren l
  | .names l => .names (ps.foldl addN l)
theorem nxtT_nil (th : Thing) : nxtT th [] = th := by cases th <;> rfl
theorem nxtT_app (th : Thing) (a b : List ByteArray) : nxtT th (a ++ b) = nxtT (nxtT th a) b := by cases th <;> simp [nxtT]
theorem outT_nxt (th : Thing) (a : List ByteArray) (p : ByteArray) : outT (nxtT th a) p = outT th p := by cases th <;> rfl
def roomT (th : Thing) (n : Nat) : Prop := match th with
  | .ren l => ∀ q ∈ l, q.New.size ≤ 8388608
  | .names l => l.length + n ≤ 1099511627776
theorem addN_len (l : List ByteArray) (p : ByteArray) : (addN l p).length ≤ l.length + 1 := by unfold addN; split <;> simp
theorem foldN_len : ∀ (ps l : List ByteArray), (ps.foldl addN l).length ≤ l.length + ps.length
  | [], l => by simp
  | p :: r, l => by
    have := foldN_len r (addN l p)
    have := addN_len l p
    simp only [List.foldl_cons, List.length_cons]; omega
theorem roomT_nxt {th : Thing} {a : List ByteArray} {n : Nat} (h : roomT th (a.length + n)) : roomT (nxtT th a) n := by
  cases th with
  | ren l => exact h
  | names l =>
    have h' : l.length + (a.length + n) ≤ 1099511627776 := h
    have := foldN_len a l
    show (a.foldl addN l).length + n ≤ _
    omega
theorem roomT_le {th : Thing} {m n : Nat} (h : roomT th n) (hm : m ≤ n) : roomT th m := by
  cases th with
  | ren l => exact h
  | names l =>
    have h' : l.length + n ≤ 1099511627776 := h
    show l.length + m ≤ _
    omega
theorem outT_size {th : Thing} {n : Nat} (h : roomT th n) (p : ByteArray) (hp : p.size ≤ 8388608) : (outT th p).size ≤ 8388608 := by
  cases th with
  | ren l =>
    simp only [outT]
    split
    · rename_i q hq
      exact h q (List.mem_of_find?_eq_some hq)
    · exact hp
  | names l => exact hp
theorem stepT_ok {th : Thing} (h : roomT th 1) (p : ByteArray) (hp : p.size ≤ 8388608) : stepT (th, p, ()) = some (outT th p, nxtT th [p], ()) := by
  cases th with
  | ren l => rfl
  | names l =>
    have h' : l.length + 1 ≤ 1099511627776 := h
    simp only [stepT]
    rw [if_pos (by simp only [maxLen]; omega)]
    show _ = some (p, Thing.names (addN l p), ())
    unfold addN
    split
    · rfl
    · rw [if_pos (by omega)]
def someP (l : List ByteArray) : List ByteArray := l.filter fun p => decide (p.size ≠ 0)
def mapPart (th : Thing) (p : ByteArray) : ByteArray := if p.size = 0 then p else outT th p
theorem mapPart_nxt (th : Thing) (a : List ByteArray) : mapPart (nxtT th a) = mapPart th := by funext p; unfold mapPart; rw [outT_nxt]
theorem partsT_ok (k : Nat) : ∀ (ps : List ByteArray) (th : Thing), roomT th ps.length → (∀ p ∈ ps, p.size ≤ 8388608) → partsT (FF hFam k) th ps = some (ps.map (mapPart th), nxtT th (someP ps))
  | [], th, _, _ => by simp [partsT, someP, nxtT_nil]
  | p :: r, th, h, hp => by
    have hp0 := hp p List.mem_cons_self
    have hpr : ∀ q ∈ r, q.size ≤ 8388608 := fun q hq => hp q (List.mem_cons_of_mem _ hq)
    simp only [List.length_cons] at h
    unfold partsT
    by_cases hz : p.size = 0
    · rw [if_pos hz, partsT_ok k r th (roomT_le h (by omega)) hpr]
      simp only [Option.map_some, List.map_cons]
      have h1 : mapPart th p = p := by unfold mapPart; rw [if_pos hz]
      have h2 : someP (p :: r) = someP r := by unfold someP; rw [List.filter_cons_of_neg (by simp [hz])]
      rw [h1, h2]
    · have hby : (FF hFam k).f_by (th, p, ()) = stepT (th, p, ()) := by cases k <;> rfl
      have hr := partsT_ok k r (nxtT th [p]) (roomT_nxt (a := [p]) (by show roomT th (1 + r.length); rwa [Nat.add_comm])) hpr
      rw [if_neg hz, hby, stepT_ok (roomT_le h (by omega)) p hp0, Option.bind_some, hr, Option.map_some]
      simp only [List.map_cons]
      have h1 : mapPart th p = outT th p := by unfold mapPart; rw [if_neg hz]
      have h2 : someP (p :: r) = p :: someP r := by unfold someP; rw [List.filter_cons_of_pos (by simp [hz])]
      rw [h1, h2, mapPart_nxt, show p :: someP r = [p] ++ someP r from rfl, nxtT_app]
end Go.Ev
end
section
open Go
namespace Go.Ev
open Go.Proofs.YtlepjafokfhnfaaDoor
set_option maxRecDepth 100000
set_option maxHeartbeats 4000000
set_option linter.unusedVariables false
set_option linter.unusedSimpArgs false
def mapPo (o : ByteArray → ByteArray) (p : ByteArray) : ByteArray := if p.size = 0 then p else o p
def mapN (o : ByteArray → ByteArray) (s : ByteArray) : ByteArray := if s.size = 0 then ByteArray.empty else joinD ((cutP s).map (mapPo o))
def pts (s : ByteArray) : List ByteArray := someP (cutP s)
theorem outT_nxt' (th : Thing) (a : List ByteArray) : outT (nxtT th a) = outT th := by funext p; exact outT_nxt th a p
theorem pts_len (s : ByteArray) : (pts s).length ≤ s.size + 1 := Nat.le_trans (List.length_filter_le _ _) (cutP_len s)
theorem join_len : ∀ (ls : List (List UInt8)) (c : Nat), (∀ l ∈ ls, l.length ≤ c) → (Lib.join ls [36]).length ≤ ls.length * (c + 1)
  | [], c, _ => by simp [Lib.join, List.intercalate]
  | [x], c, h => by
    rw [Lib.join_one]
    have := h x List.mem_cons_self
    simp; omega
  | x :: y :: r, c, h => by
    have ih := join_len (y :: r) c fun l hl => h l (List.mem_cons_of_mem _ hl)
    have := h x List.mem_cons_self
    unfold Lib.join at ih ⊢
    rw [List.intercalate_cons_cons]
    simp only [List.length_append, List.length_cons, List.length_nil] at ih ⊢
    rw [Nat.add_mul (r.length + 1) 1 (c + 1)]
    omega
theorem parts_ok (k : Nat) (th : Thing) (s : ByteArray) (hr : roomT th (s.size + 1)) (hs : s.size ≤ 8388608) : (FF hFam (k + 1)).f_tree_mapper_parts ((th, ()), s, ()) = some (mapN (outT th) s, nxtT th (pts s), ()) := by
  show B_tree_mapper_parts (FF hFam k) k (th, ()) s = _
  unfold B_tree_mapper_parts mapN
  by_cases hz : s.size = 0
  · rw [if_pos hz, if_pos hz]
    have h : pts s = [] := by
      have h0 : s.data.toList = [] := List.eq_nil_of_length_eq_zero (by simpa using hz)
      have : cutP s = [⟨#[]⟩] := by unfold cutP; rw [h0]; rfl
      unfold pts
      rw [this]
      rfl
    rw [h, nxtT_nil]
  · rw [if_neg hz, if_neg hz, if_neg (by omega)]
    have hcl := cutP_len s
    rw [cutD_cutP, if_neg (by omega), partsT_ok k (cutP s) th (roomT_le hr hcl) (fun p hp => Nat.le_trans (cutP_mem s p hp) hs), Option.bind_some]
    have hm : (cutP s).map (mapPart th) = (cutP s).map (mapPo (outT th)) := rfl
    simp only [hm]
    have hlen : (Lib.join (((cutP s).map (mapPo (outT th))).map (·.data.toList)) sep36.data.toList).length ≤ (cutP s).length * (8388608 + 1) := by
      have := join_len (((cutP s).map (mapPo (outT th))).map (·.data.toList)) 8388608 (fun l hl => by
        obtain ⟨q, hq, rfl⟩ := List.mem_map.1 hl
        obtain ⟨p, hp, rfl⟩ := List.mem_map.1 hq
        have h1 := Nat.le_trans (cutP_mem s p hp) hs
        have h2 := outT_size hr p h1
        show (mapPo (outT th) p).data.toList.length ≤ _
        unfold mapPo
        split
        · simpa using h1
        · simpa using h2)
      have h36 : sep36.data.toList = [36] := rfl
      rw [h36]
      simpa using this
    have hprod : (cutP s).length * (8388608 + 1) ≤ 8388609 * 8388609 := Nat.mul_le_mul (by omega) (Nat.le_refl _)
    rw [if_pos (by omega)]
    rfl
def eachG {α : Type} (d : α) (sz : Nat) (f : Thing → α → Option (α × Thing × Unit)) : Nat → List α → Int → Int → List α → Thing → Option (List α × Thing × Unit)
  | 0, _, _, _, _, _ => none
  | j + 1, v0, v1, v2, v3, v4 => (if decide (v2 < v1) = true then (if 0 ≤ v2 then (if v2 < (v0.length : Int) then ((f v4 (v0.getD v2.toNat d)).bind fun t5 => (if (v3 ++ [t5.1]).length * sz ≤ 140737488355328 then eachG d sz f j v0 v1 (IntKind.i64.wrap (v2 + 1)) (v3 ++ [t5.1]) t5.2.1 else none)) else none) else none) else some ((v3, v4, ())))
theorem eachG_ok {α : Type} (d : α) (sz : Nat) (hsz : sz ≤ 1000) (f : Thing → α → Option (α × Thing × Unit)) (o : ByteArray → ByteArray) (m : α → α) (nm : α → List ByteArray) (w : α → Nat) (hnm : ∀ x, (nm x).length ≤ w x) (l : List α) (hl : l.length ≤ 8388608)
    (hf : ∀ i (h : i < l.length) th, outT th = o → roomT th (w l[i]) → f th l[i] = some (m l[i], nxtT th (nm l[i]), ())) :
    ∀ j i, i ≤ l.length → l.length - i < j → ∀ out th, outT th = o → roomT th (((l.drop i).map w).sum) → out.length ≤ i → eachG d sz f j l (l.length : Int) (i : Int) out th = some (out ++ (l.drop i).map m, nxtT th ((l.drop i).flatMap nm), ()) := by
  refine up_ind l.length (fun j out th ho hr hout => ?_) (fun j i hi ih out th ho hr hout => ?_)
  · simp only [eachG]
    rw [if_neg (by simp), List.drop_length]
    simp [nxtT_nil]
  · have hd := List.drop_eq_getElem_cons hi
    rw [hd] at hr ⊢
    simp only [List.map_cons, List.sum_cons] at hr
    simp only [eachG]
    rw [if_pos (lt_dec hi), if_pos (by omega), if_pos (by omega), getD_at l i _ hi, hf i hi th ho (roomT_le hr (by omega)), Option.bind_some, wrap_succ hi (by simp only [maxLen]; omega)]
    have hlen : (out ++ [m l[i]]).length * sz ≤ 140737488355328 := by
      have h1 : (out ++ [m l[i]]).length ≤ 8388609 := by simp; omega
      have := Nat.mul_le_mul h1 hsz
      omega
    have hn := hnm l[i]
    rw [if_pos hlen, ih (out ++ [m l[i]]) (nxtT th (nm l[i])) (by rw [outT_nxt', ho]) (roomT_nxt (roomT_le hr (by omega))) (by simp; omega)]
    simp only [List.map_cons, List.flatMap_cons, List.append_assoc, List.cons_append, List.nil_append, nxtT_app]
mutual
def nmE : TExpr → List ByteArray
  | ⟨_, _, nm, f, l⟩ => pts nm ++ (pts f ++ nmEs l)
def nmEs : List TExpr → List ByteArray
  | [] => []
  | x :: r => nmE x ++ nmEs r
end
mutual
def mapE (o : ByteArray → ByteArray) : TExpr → TExpr
  | ⟨op, n, nm, f, l⟩ => ⟨op, n, mapN o nm, mapN o f, mapEs o l⟩
def mapEs (o : ByteArray → ByteArray) : List TExpr → List TExpr
  | [] => []
  | x :: r => mapE o x :: mapEs o r
end
theorem nmEs_eq : ∀ l : List TExpr, nmEs l = l.flatMap nmE
  | [] => rfl
  | x :: r => by simp [nmEs, nmEs_eq r]
theorem mapEs_eq (o : ByteArray → ByteArray) : ∀ l : List TExpr, mapEs o l = l.map (mapE o)
  | [] => rfl
  | x :: r => by simp [mapEs, mapEs_eq o r]
mutual
theorem nmE_len : ∀ e : TExpr, (nmE e).length ≤ bk_TExpr e
  | ⟨_, _, nm, f, l⟩ => by
    have h1 := pts_len nm
    have h2 := pts_len f
    have h3 := nmEs_len l
    simp only [nmE, bk_TExpr, List.length_append]
    omega
theorem nmEs_len : ∀ l : List TExpr, (nmEs l).length ≤ bks_TExpr l
  | [] => by simp [nmEs]
  | x :: r => by
    have h1 := nmE_len x
    have h2 := nmEs_len r
    simp only [nmEs, bks_TExpr, List.length_append]
    omega
end
theorem L_each_Expr (s : Fam) (k : Nat) (x0 : List TExpr) (x1 : Thing × Unit) : ∀ j v0 v1 v2 v3 v4, Ltree_each_Expr_3 s k x0 x1 j v0 v1 v2 v3 v4 = eachG dd_TExpr 72 (fun th x => s.f_tree_mapper_expr ((th, ()), x, ())) j v0 v1 v2 v3 v4 := by
  intro j
  induction j with
  | zero => intros; rfl
  | succ j ih => intros; simp only [Ltree_each_Expr_3, eachG, ih, TExpr.re_eq]
theorem mexpr_ok : ∀ K, (∀ th e, roomT th (bk_TExpr e) → bk_TExpr e ≤ 8388608 → 3 * bk_TExpr e + 10 ≤ K → (FF hFam K).f_tree_mapper_expr ((th, ()), e, ()) = some (mapE (outT th) e, nxtT th (nmE e), ())) ∧
    (∀ th l, roomT th (bks_TExpr l) → bks_TExpr l ≤ 8388608 → 3 * bks_TExpr l + 11 ≤ K → (FF hFam K).f_tree_each_Expr (l, (th, ()), ()) = some (mapEs (outT th) l, nxtT th (nmEs l), ())) := by
  intro K
  induction K with
  | zero => exact ⟨fun th e _ _ h => by omega, fun th l _ _ h => by omega⟩
  | succ K ih =>
    refine ⟨fun th e hr hb hk => ?_, fun th l hr hb hk => ?_⟩
    · have hn := bk_name e
      have p1 := pts_len e.Name
      have p2 := pts_len e.Field
      show B_tree_mapper_expr (FF hFam K) K (th, ()) e = _
      unfold B_tree_mapper_expr
      obtain ⟨K', rfl⟩ : ∃ K', K = K' + 1 := ⟨K - 1, by omega⟩
      have hbk : bk_TExpr e = e.Name.size + e.Field.size + bks_TExpr e.L + 6 := by cases e; simp only [bk_TExpr]; omega
      rw [parts_ok K' th e.Name (roomT_le hr (by omega)) (by omega)]
      simp only [Option.bind_some]
      rw [parts_ok K' (nxtT th (pts e.Name)) e.Field (roomT_nxt (roomT_le hr (by omega))) (by omega)]
      simp only [Option.bind_some]
      rw [ih.2 (nxtT (nxtT th (pts e.Name)) (pts e.Field)) e.L (roomT_nxt (roomT_nxt (roomT_le hr (by omega)))) (by omega) (by omega)]
      simp only [Option.bind_some, outT_nxt']
      rw [← nxtT_app, ← nxtT_app]
      cases e
      simp only [mapE, nmE]
    · have hlen := bks_Expr_len l
      show B_tree_each_Expr (FF hFam K) K l (th, ()) = _
      unfold B_tree_each_Expr
      rw [L_each_Expr]
      have := eachG_ok dd_TExpr 72 (by decide) (fun th x => (FF hFam K).f_tree_mapper_expr ((th, ()), x, ())) (outT th) (mapE (outT th)) nmE bk_TExpr nmE_len l (by omega) (fun i hi th' ho hr' => by
        have := bks_Expr_mem l i hi
        rw [← ho]
        exact ih.1 th' l[i] hr' (by omega) (by omega)) K 0 (Nat.zero_le _) (by omega) [] th rfl (by rw [List.drop_zero, ← bks_TExpr_eq]; exact hr) (Nat.le_refl _)
      simp only [Int.ofNat_zero, List.drop_zero, List.nil_append] at this
      rw [mapEs_eq, nmEs_eq]
      exact this
end Go.Ev
end
section
open Go
namespace Go.Ev
open Go.Proofs.YtlepjafokfhnfaaDoor
set_option maxRecDepth 100000
set_option maxHeartbeats 4000000
set_option linter.unusedVariables false
set_option linter.unusedSimpArgs false
theorem clone_ok (k : Nat) (l : List ByteArray) (h : l.length ≤ 8388608) : (FF hFam k).f_slices_Clone_string (l, ()) = some l := by
  have : (FF hFam k).f_slices_Clone_string (l, ()) = (if l.length * 16 ≤ 140737488355328 then some l else none) := by cases k <;> rfl
  rw [this, if_pos (by omega)]
theorem mmarks_ok (k : Nat) (th : Thing) (x : TMarks) (h1 : x.Before.length ≤ 8388608) (h2 : x.Trail.length ≤ 8388608) : (FF hFam (k + 1)).f_tree_mapper_marks ((th, ()), x, ()) = some (x, th, ()) := by
  show B_tree_mapper_marks (FF hFam k) k (th, ()) x = _
  unfold B_tree_mapper_marks
  rw [clone_ok k _ h1, clone_ok k _ h2]
  rfl
theorem mtyp_ok (k : Nat) (th : Thing) (t : TType) (hr : roomT th (t.Name.size + 1)) (hs : t.Name.size ≤ 8388608) : (FF hFam (k + 2)).f_tree_mapper_typ ((th, ()), t, ()) = some (⟨t.Kind, t.Size, mapN (outT th) t.Name⟩, nxtT th (pts t.Name), ()) := by
  show B_tree_mapper_typ (FF hFam (k + 1)) (k + 1) (th, ()) t = _
  unfold B_tree_mapper_typ
  rw [parts_ok k th t.Name hr hs]
  rfl
def mapV (o : ByteArray → ByteArray) (v : TVar) : TVar := ⟨v.Marks_Before, v.Marks_Trail, mapN o v.Name, v.T_Kind, v.T_Size, mapN o v.T_Name⟩
def nmV (v : TVar) : List ByteArray := pts v.Name ++ pts v.T_Name
theorem nmV_len (v : TVar) : (nmV v).length ≤ bk_TVar v := by
  have h1 := pts_len v.Name
  have h2 := pts_len v.T_Name
  have := bk_VarN v
  simp only [nmV, List.length_append]
  omega
theorem mvar_ok (k : Nat) (th : Thing) (v : TVar) (hr : roomT th (bk_TVar v)) (hb : bk_TVar v ≤ 8388608) : (FF hFam (k + 3)).f_tree_mapper_variable ((th, ()), v, ()) = some (mapV (outT th) v, nxtT th (nmV v), ()) := by
  have hn := bk_VarN v
  have p1 := pts_len v.Name
  have l1 := bks_v9_len v.Marks_Before
  have l2 := bks_v9_len v.Marks_Trail
  show B_tree_mapper_variable (FF hFam (k + 2)) (k + 2) (th, ()) v = _
  unfold B_tree_mapper_variable
  rw [mmarks_ok (k + 1) th v.sub_Marks (by show v.Marks_Before.length ≤ _; omega) (by show v.Marks_Trail.length ≤ _; omega)]
  simp only [Option.bind_some]
  rw [parts_ok (k + 1) th v.Name (roomT_le hr (by omega)) (by omega)]
  simp only [Option.bind_some]
  rw [mtyp_ok k (nxtT th (pts v.Name)) v.sub_T (by show roomT _ (v.T_Name.size + 1); exact roomT_nxt (roomT_le hr (by omega))) (by show v.T_Name.size ≤ _; omega)]
  simp only [Option.bind_some, outT_nxt', ← nxtT_app]
  rfl
theorem L_each_Var (s : Fam) (k : Nat) (x0 : List TVar) (x1 : Thing × Unit) : ∀ j v0 v1 v2 v3 v4, Ltree_each_Var_3 s k x0 x1 j v0 v1 v2 v3 v4 = eachG dd_TVar 96 (fun th x => s.f_tree_mapper_variable ((th, ()), x, ())) j v0 v1 v2 v3 v4 := by
  intro j
  induction j with
  | zero => intros; rfl
  | succ j ih => intros; simp only [Ltree_each_Var_3, eachG, ih]
theorem each_Var_ok (k : Nat) (th : Thing) (l : List TVar) (hr : roomT th (bks_TVar l)) (hb : bks_TVar l ≤ 8388608) (hk : bks_TVar l + 1 ≤ k) : (FF hFam (k + 4)).f_tree_each_Var (l, (th, ()), ()) = some (l.map (mapV (outT th)), nxtT th (l.flatMap nmV), ()) := by
  have hlen := bks_Var_len l
  show B_tree_each_Var (FF hFam (k + 3)) (k + 3) l (th, ()) = _
  unfold B_tree_each_Var
  rw [L_each_Var]
  have := eachG_ok dd_TVar 96 (by decide) (fun th x => (FF hFam (k + 3)).f_tree_mapper_variable ((th, ()), x, ())) (outT th) (mapV (outT th)) nmV bk_TVar nmV_len l (by omega) (fun i hi th' ho hr' => by
    have := bks_Var_mem l i hi
    rw [← ho]
    exact mvar_ok k th' l[i] hr' (by omega)) (k + 3) 0 (Nat.zero_le _) (by omega) [] th rfl (by rw [List.drop_zero, ← bks_TVar_eq]; exact hr) (Nat.le_refl _)
  simp only [Int.ofNat_zero, List.drop_zero, List.nil_append] at this
  exact this
def mapF (o : ByteArray → ByteArray) (f : TField) : TField := ⟨f.Marks_Before, f.Marks_Trail, mapN o f.Name, f.Kind⟩
def nmF (f : TField) : List ByteArray := pts f.Name
theorem nmF_len (f : TField) : (nmF f).length ≤ bk_TField f := by
  have h1 := pts_len f.Name
  have := bk_FieldN f
  simp only [nmF]
  omega
theorem mfield_ok (k : Nat) (th : Thing) (f : TField) (hr : roomT th (bk_TField f)) (hb : bk_TField f ≤ 8388608) : (FF hFam (k + 3)).f_tree_mapper_rec_1 (f, (th, ()), ()) = some (mapF (outT th) f, nxtT th (nmF f), ()) := by
  have hn := bk_FieldN f
  have l1 := bks_v9_len f.Marks_Before
  have l2 := bks_v9_len f.Marks_Trail
  show B_tree_mapper_rec_1 (FF hFam (k + 2)) (k + 2) f (th, ()) = _
  unfold B_tree_mapper_rec_1
  rw [mmarks_ok (k + 1) th f.sub_Marks (by show f.Marks_Before.length ≤ _; omega) (by show f.Marks_Trail.length ≤ _; omega)]
  simp only [Option.bind_some]
  rw [parts_ok (k + 1) th f.Name (roomT_le hr (by omega)) (by omega)]
  rfl
theorem L_each_Field (s : Fam) (k : Nat) (x0 : List TField) (x1 : Unit × (Thing × Unit) × Unit) : ∀ j v0 v1 v2 v3 v4, Ltree_each_Field_3 s k x0 x1 j v0 v1 v2 v3 v4 = eachG dd_TField 72 (fun th x => s.f_tree_mapper_rec_1 (x, (th, ()), ())) j v0 v1 v2 v3 v4 := by
  intro j
  induction j with
  | zero => intros; rfl
  | succ j ih => intros; simp only [Ltree_each_Field_3, eachG, ih]
theorem each_Field_ok (k : Nat) (th : Thing) (l : List TField) (hr : roomT th (bks_TField l)) (hb : bks_TField l ≤ 8388608) (hk : bks_TField l + 1 ≤ k) : (FF hFam (k + 4)).f_tree_each_Field (l, ((), (th, ()), ()), ()) = some (l.map (mapF (outT th)), nxtT th (l.flatMap nmF), ()) := by
  have hlen := bks_Field_len l
  show B_tree_each_Field (FF hFam (k + 3)) (k + 3) l ((), (th, ()), ()) = _
  unfold B_tree_each_Field
  rw [L_each_Field]
  have := eachG_ok dd_TField 72 (by decide) (fun th x => (FF hFam (k + 3)).f_tree_mapper_rec_1 (x, (th, ()), ())) (outT th) (mapF (outT th)) nmF bk_TField nmF_len l (by omega) (fun i hi th' ho hr' => by
    have := bks_Field_mem l i hi
    rw [← ho]
    exact mfield_ok k th' l[i] hr' (by omega)) (k + 3) 0 (Nat.zero_le _) (by omega) [] th rfl (by rw [List.drop_zero, ← bks_TField_eq]; exact hr) (Nat.le_refl _)
  simp only [Int.ofNat_zero, List.drop_zero, List.nil_append] at this
  exact this
def mapC (o : ByteArray → ByteArray) (r : TRec) : TRec := ⟨r.Marks_Before, r.Marks_Trail, mapN o r.Name, r.Fields.map (mapF o), r.End⟩
def nmC (r : TRec) : List ByteArray := pts r.Name ++ r.Fields.flatMap nmF
theorem flat_len {α : Type} (nm : α → List ByteArray) (w : α → Nat) (h : ∀ x, (nm x).length ≤ w x) : ∀ l : List α, (l.flatMap nm).length ≤ (l.map w).sum
  | [] => by simp
  | x :: r => by
    have := h x
    have := flat_len nm w h r
    simp only [List.flatMap_cons, List.length_append, List.map_cons, List.sum_cons]
    omega
theorem nmC_len (r : TRec) : (nmC r).length ≤ bk_TRec r := by
  have h1 := pts_len r.Name
  have h2 := flat_len nmF bk_TField nmF_len r.Fields
  rw [← bks_TField_eq] at h2
  have := bk_RecN r
  simp only [nmC, List.length_append]
  omega
theorem mrec_ok (k : Nat) (th : Thing) (r : TRec) (hr : roomT th (bk_TRec r)) (hb : bk_TRec r ≤ 8388608) (hk : bk_TRec r ≤ k) : (FF hFam (k + 6)).f_tree_mapper_rec ((th, ()), r, ()) = some (mapC (outT th) r, nxtT th (nmC r), ()) := by
  have hn := bk_RecN r
  have p1 := pts_len r.Name
  have l1 := bks_v9_len r.Marks_Before
  have l2 := bks_v9_len r.Marks_Trail
  have l3 := bks_v9_len r.End
  show B_tree_mapper_rec (FF hFam (k + 5)) (k + 5) (th, ()) r = _
  unfold B_tree_mapper_rec
  rw [mmarks_ok (k + 4) th r.sub_Marks (by show r.Marks_Before.length ≤ _; omega) (by show r.Marks_Trail.length ≤ _; omega)]
  simp only [Option.bind_some]
  rw [parts_ok (k + 4) th r.Name (roomT_le hr (by omega)) (by omega)]
  simp only [Option.bind_some]
  rw [each_Field_ok (k + 1) (nxtT th (pts r.Name)) r.Fields (roomT_nxt (roomT_le hr (by omega))) (by omega) (by omega)]
  simp only [Option.bind_some]
  rw [clone_ok _ r.End (by omega)]
  simp only [Option.bind_some, outT_nxt', ← nxtT_app]
  rfl
theorem L_each_Rec (s : Fam) (k : Nat) (x0 : List TRec) (x1 : Thing × Unit) : ∀ j v0 v1 v2 v3 v4, Ltree_each_Rec_3 s k x0 x1 j v0 v1 v2 v3 v4 = eachG dd_TRec 112 (fun th x => s.f_tree_mapper_rec ((th, ()), x, ())) j v0 v1 v2 v3 v4 := by
  intro j
  induction j with
  | zero => intros; rfl
  | succ j ih => intros; simp only [Ltree_each_Rec_3, eachG, ih]
theorem each_Rec_ok (k : Nat) (th : Thing) (l : List TRec) (hr : roomT th (bks_TRec l)) (hb : bks_TRec l ≤ 8388608) (hk : bks_TRec l + 1 ≤ k) : (FF hFam (k + 7)).f_tree_each_Rec (l, (th, ()), ()) = some (l.map (mapC (outT th)), nxtT th (l.flatMap nmC), ()) := by
  have hlen := bks_Rec_len l
  show B_tree_each_Rec (FF hFam (k + 6)) (k + 6) l (th, ()) = _
  unfold B_tree_each_Rec
  rw [L_each_Rec]
  have := eachG_ok dd_TRec 112 (by decide) (fun th x => (FF hFam (k + 6)).f_tree_mapper_rec ((th, ()), x, ())) (outT th) (mapC (outT th)) nmC bk_TRec nmC_len l (by omega) (fun i hi th' ho hr' => by
    have := bks_Rec_mem l i hi
    rw [← ho]
    exact mrec_ok k th' l[i] hr' (by omega) (by omega)) (k + 6) 0 (Nat.zero_le _) (by omega) [] th rfl (by rw [List.drop_zero, ← bks_TRec_eq]; exact hr) (Nat.le_refl _)
  simp only [Int.ofNat_zero, List.drop_zero, List.nil_append] at this
  exact this
def mapA (o : ByteArray → ByteArray) (p : TParam) : TParam := ⟨mapN o p.Name, p.T_Kind, p.T_Size, mapN o p.T_Name, p.Mode⟩
def nmA (p : TParam) : List ByteArray := pts p.Name ++ pts p.T_Name
theorem nmA_len (p : TParam) : (nmA p).length ≤ bk_TParam p := by
  have h1 := pts_len p.Name
  have h2 := pts_len p.T_Name
  have := bk_ParamN p
  simp only [nmA, List.length_append]
  omega
theorem mparam_ok (k : Nat) (th : Thing) (p : TParam) (hr : roomT th (bk_TParam p)) (hb : bk_TParam p ≤ 8388608) : (FF hFam (k + 3)).f_tree_mapper_routine_1 (p, (th, ()), ()) = some (mapA (outT th) p, nxtT th (nmA p), ()) := by
  have hn := bk_ParamN p
  have p1 := pts_len p.Name
  show B_tree_mapper_routine_1 (FF hFam (k + 2)) (k + 2) p (th, ()) = _
  unfold B_tree_mapper_routine_1
  rw [parts_ok (k + 1) th p.Name (roomT_le hr (by omega)) (by omega)]
  simp only [Option.bind_some]
  rw [mtyp_ok k (nxtT th (pts p.Name)) p.sub_T (by show roomT _ (p.T_Name.size + 1); exact roomT_nxt (roomT_le hr (by omega))) (by show p.T_Name.size ≤ _; omega)]
  simp only [Option.bind_some, outT_nxt', ← nxtT_app]
  rfl
theorem L_each_Param (s : Fam) (k : Nat) (x0 : List TParam) (x1 : Unit × (Thing × Unit) × Unit) : ∀ j v0 v1 v2 v3 v4, Ltree_each_Param_3 s k x0 x1 j v0 v1 v2 v3 v4 = eachG dd_TParam 56 (fun th x => s.f_tree_mapper_routine_1 (x, (th, ()), ())) j v0 v1 v2 v3 v4 := by
  intro j
  induction j with
  | zero => intros; rfl
  | succ j ih => intros; simp only [Ltree_each_Param_3, eachG, ih]
theorem each_Param_ok (k : Nat) (th : Thing) (l : List TParam) (hr : roomT th (bks_TParam l)) (hb : bks_TParam l ≤ 8388608) (hk : bks_TParam l + 1 ≤ k) : (FF hFam (k + 4)).f_tree_each_Param (l, ((), (th, ()), ()), ()) = some (l.map (mapA (outT th)), nxtT th (l.flatMap nmA), ()) := by
  have hlen := bks_Param_len l
  show B_tree_each_Param (FF hFam (k + 3)) (k + 3) l ((), (th, ()), ()) = _
  unfold B_tree_each_Param
  rw [L_each_Param]
  have := eachG_ok dd_TParam 56 (by decide) (fun th x => (FF hFam (k + 3)).f_tree_mapper_routine_1 (x, (th, ()), ())) (outT th) (mapA (outT th)) nmA bk_TParam nmA_len l (by omega) (fun i hi th' ho hr' => by
    have := bks_Param_mem' l i hi
    rw [← ho]
    exact mparam_ok k th' l[i] hr' (by omega)) (k + 3) 0 (Nat.zero_le _) (by omega) [] th rfl (by rw [List.drop_zero, ← bks_TParam_eq]; exact hr) (Nat.le_refl _)
  simp only [Int.ofNat_zero, List.drop_zero, List.nil_append] at this
  exact this
mutual
def nmS : TStmt → List ByteArray
  | ⟨_, _, _, nm, po, pn, pnm, pf, pl, E, _, _, body, els, _, _⟩ => pts nm ++ (nmE ⟨po, pn, pnm, pf, pl⟩ ++ (nmEs E ++ (nmSs body ++ nmSs els)))
def nmSs : List TStmt → List ByteArray
  | [] => []
  | x :: r => nmS x ++ nmSs r
end
mutual
def mapS (o : ByteArray → ByteArray) : TStmt → TStmt
  | ⟨mb, mt, op, nm, po, pn, pnm, pf, pl, E, down, more, body, els, e1, e2⟩ => ⟨mb, mt, op, mapN o nm, po, pn, mapN o pnm, mapN o pf, mapEs o pl, mapEs o E, down, more, mapSs o body, mapSs o els, e1, e2⟩
def mapSs (o : ByteArray → ByteArray) : List TStmt → List TStmt
  | [] => []
  | x :: r => mapS o x :: mapSs o r
end
theorem nmSs_eq : ∀ l : List TStmt, nmSs l = l.flatMap nmS
  | [] => rfl
  | x :: r => by simp [nmSs, nmSs_eq r]
theorem mapSs_eq (o : ByteArray → ByteArray) : ∀ l : List TStmt, mapSs o l = l.map (mapS o)
  | [] => rfl
  | x :: r => by simp [mapSs, mapSs_eq o r]
mutual
theorem nmS_len : ∀ x : TStmt, (nmS x).length ≤ bk_TStmt x
  | ⟨_, _, _, nm, po, pn, pnm, pf, pl, E, _, _, body, els, _, _⟩ => by
    have h1 := pts_len nm
    have h2 := pts_len pnm
    have h2' := pts_len pf
    have h2'' := nmEs_len pl
    have h3 := nmEs_len E
    have h4 := nmSs_len body
    have h5 := nmSs_len els
    simp only [nmS, nmE, bk_TStmt, List.length_append]
    omega
theorem nmSs_len : ∀ l : List TStmt, (nmSs l).length ≤ bks_TStmt l
  | [] => by simp [nmSs]
  | x :: r => by
    have h1 := nmS_len x
    have h2 := nmSs_len r
    simp only [nmSs, bks_TStmt, List.length_append]
    omega
end
theorem L_each_Stmt (s : Fam) (k : Nat) (x0 : List TStmt) (x1 : Thing × Unit) : ∀ j v0 v1 v2 v3 v4, Ltree_each_Stmt_3 s k x0 x1 j v0 v1 v2 v3 v4 = eachG dd_TStmt 272 (fun th x => s.f_tree_mapper_stmt ((th, ()), x, ())) j v0 v1 v2 v3 v4 := by
  intro j
  induction j with
  | zero => intros; rfl
  | succ j ih => intros; simp only [Ltree_each_Stmt_3, eachG, ih, TStmt.re_eq]
theorem mstmt_ok : ∀ K, (∀ th x, roomT th (bk_TStmt x) → bk_TStmt x ≤ 8388608 → 3 * bk_TStmt x + 10 ≤ K → (FF hFam K).f_tree_mapper_stmt ((th, ()), x, ()) = some (mapS (outT th) x, nxtT th (nmS x), ())) ∧
    (∀ th l, roomT th (bks_TStmt l) → bks_TStmt l ≤ 8388608 → 3 * bks_TStmt l + 11 ≤ K → (FF hFam K).f_tree_each_Stmt (l, (th, ()), ()) = some (mapSs (outT th) l, nxtT th (nmSs l), ())) := by
  intro K
  induction K with
  | zero => exact ⟨fun th e _ _ h => by omega, fun th l _ _ h => by omega⟩
  | succ K ih =>
    refine ⟨fun th x hr hb hk => ?_, fun th l hr hb hk => ?_⟩
    · have hn := bk_StmtN x
      have p1 := pts_len x.Name
      have p2 := nmE_len x.sub_P
      have p3 := nmEs_len x.E
      have p4 := nmSs_len x.Body
      have p5 := nmSs_len x.Else
      have l1 := bks_v9_len x.Marks_Before
      have l2 := bks_v9_len x.Marks_Trail
      have l3 := bks_v9_len x.End
      have l4 := bks_v9_len x.End2
      show B_tree_mapper_stmt (FF hFam K) K (th, ()) x = _
      unfold B_tree_mapper_stmt
      obtain ⟨K', rfl⟩ : ∃ K', K = K' + 1 := ⟨K - 1, by omega⟩
      have hE := mexpr_ok (K' + 1)
      rw [mmarks_ok K' th x.sub_Marks (by show x.Marks_Before.length ≤ _; omega) (by show x.Marks_Trail.length ≤ _; omega)]
      simp only [Option.bind_some]
      rw [parts_ok K' th x.Name (roomT_le hr (by omega)) (by omega)]
      simp only [Option.bind_some]
      rw [hE.1 _ x.sub_P (roomT_nxt (roomT_le hr (by omega))) (by omega) (by omega)]
      simp only [Option.bind_some]
      rw [hE.2 _ x.E (roomT_nxt (roomT_nxt (roomT_le hr (by omega)))) (by omega) (by omega)]
      simp only [Option.bind_some]
      rw [ih.2 _ x.Body (roomT_nxt (roomT_nxt (roomT_nxt (roomT_le hr (by omega))))) (by omega) (by omega)]
      simp only [Option.bind_some]
      rw [ih.2 _ x.Else (roomT_nxt (roomT_nxt (roomT_nxt (roomT_nxt (roomT_le hr (by omega)))))) (by omega) (by omega)]
      simp only [Option.bind_some]
      rw [clone_ok _ x.End (by omega), clone_ok _ x.End2 (by omega)]
      simp only [Option.bind_some, outT_nxt', ← nxtT_app]
      cases x
      simp only [mapS, nmS, mapE, nmE, TStmt.sub_P, TStmt.sub_Marks, List.append_assoc]
    · have hlen := bks_Stmt_len l
      show B_tree_each_Stmt (FF hFam K) K l (th, ()) = _
      unfold B_tree_each_Stmt
      rw [L_each_Stmt]
      have := eachG_ok dd_TStmt 272 (by decide) (fun th x => (FF hFam K).f_tree_mapper_stmt ((th, ()), x, ())) (outT th) (mapS (outT th)) nmS bk_TStmt nmS_len l (by omega) (fun i hi th' ho hr' => by
        have := bks_Stmt_mem l i hi
        rw [← ho]
        exact ih.1 th' l[i] hr' (by omega) (by omega)) K 0 (Nat.zero_le _) (by omega) [] th rfl (by rw [List.drop_zero, ← bks_TStmt_eq]; exact hr) (Nat.le_refl _)
      simp only [Int.ofNat_zero, List.drop_zero, List.nil_append] at this
      rw [mapSs_eq, nmSs_eq]
      exact this
mutual
def nmR : TRoutine → List ByteArray
  | ⟨_, _, nm, _, ps, vs, inner, body, _⟩ => pts nm ++ (ps.flatMap nmA ++ (vs.flatMap nmV ++ (nmRs inner ++ nmSs body)))
def nmRs : List TRoutine → List ByteArray
  | [] => []
  | x :: r => nmR x ++ nmRs r
end
mutual
def mapR (o : ByteArray → ByteArray) : TRoutine → TRoutine
  | ⟨mb, mt, nm, res, ps, vs, inner, body, e⟩ => ⟨mb, mt, mapN o nm, res, ps.map (mapA o), vs.map (mapV o), mapRs o inner, mapSs o body, e⟩
def mapRs (o : ByteArray → ByteArray) : List TRoutine → List TRoutine
  | [] => []
  | x :: r => mapR o x :: mapRs o r
end
theorem nmRs_eq : ∀ l : List TRoutine, nmRs l = l.flatMap nmR
  | [] => rfl
  | x :: r => by simp [nmRs, nmRs_eq r]
theorem mapRs_eq (o : ByteArray → ByteArray) : ∀ l : List TRoutine, mapRs o l = l.map (mapR o)
  | [] => rfl
  | x :: r => by simp [mapRs, mapRs_eq o r]
mutual
theorem nmR_len : ∀ x : TRoutine, (nmR x).length ≤ bk_TRoutine x
  | ⟨_, _, nm, _, ps, vs, inner, body, _⟩ => by
    have h1 := pts_len nm
    have h2 := flat_len nmA bk_TParam nmA_len ps
    have h3 := flat_len nmV bk_TVar nmV_len vs
    rw [← bks_TParam_eq] at h2
    rw [← bks_TVar_eq] at h3
    have h4 := nmRs_len inner
    have h5 := nmSs_len body
    simp only [nmR, bk_TRoutine, List.length_append]
    omega
theorem nmRs_len : ∀ l : List TRoutine, (nmRs l).length ≤ bks_TRoutine l
  | [] => by simp [nmRs]
  | x :: r => by
    have h1 := nmR_len x
    have h2 := nmRs_len r
    simp only [nmRs, bks_TRoutine, List.length_append]
    omega
end
theorem L_each_Routine (s : Fam) (k : Nat) (x0 : List TRoutine) (x1 : Thing × Unit) : ∀ j v0 v1 v2 v3 v4, Ltree_each_Routine_3 s k x0 x1 j v0 v1 v2 v3 v4 = eachG dd_TRoutine 192 (fun th x => s.f_tree_mapper_routine ((th, ()), x, ())) j v0 v1 v2 v3 v4 := by
  intro j
  induction j with
  | zero => intros; rfl
  | succ j ih => intros; simp only [Ltree_each_Routine_3, eachG, ih, TRoutine.re_eq]
theorem mroutine_ok : ∀ K, (∀ th x, roomT th (bk_TRoutine x) → bk_TRoutine x ≤ 8388608 → 3 * bk_TRoutine x + 20 ≤ K → (FF hFam K).f_tree_mapper_routine ((th, ()), x, ()) = some (mapR (outT th) x, nxtT th (nmR x), ())) ∧
    (∀ th l, roomT th (bks_TRoutine l) → bks_TRoutine l ≤ 8388608 → 3 * bks_TRoutine l + 21 ≤ K → (FF hFam K).f_tree_each_Routine (l, (th, ()), ()) = some (mapRs (outT th) l, nxtT th (nmRs l), ())) := by
  intro K
  induction K with
  | zero => exact ⟨fun th e _ _ h => by omega, fun th l _ _ h => by omega⟩
  | succ K ih =>
    refine ⟨fun th x hr hb hk => ?_, fun th l hr hb hk => ?_⟩
    · have hn := bk_RoutineN x
      have p1 := pts_len x.Name
      have p2 := flat_len nmA bk_TParam nmA_len x.Params
      have p3 := flat_len nmV bk_TVar nmV_len x.Vars
      rw [← bks_TParam_eq] at p2
      rw [← bks_TVar_eq] at p3
      have p4 := nmRs_len x.Inner
      have p5 := nmSs_len x.Body
      have l1 := bks_v9_len x.Marks_Before
      have l2 := bks_v9_len x.Marks_Trail
      have l3 := bks_v9_len x.End
      show B_tree_mapper_routine (FF hFam K) K (th, ()) x = _
      unfold B_tree_mapper_routine
      obtain ⟨K', rfl⟩ : ∃ K', K = K' + 4 := ⟨K - 4, by omega⟩
      rw [mmarks_ok (K' + 3) th x.sub_Marks (by show x.Marks_Before.length ≤ _; omega) (by show x.Marks_Trail.length ≤ _; omega)]
      simp only [Option.bind_some]
      rw [parts_ok (K' + 3) th x.Name (roomT_le hr (by omega)) (by omega)]
      simp only [Option.bind_some]
      rw [each_Param_ok K' _ x.Params (roomT_nxt (roomT_le hr (by omega))) (by omega) (by omega)]
      simp only [Option.bind_some]
      rw [each_Var_ok K' _ x.Vars (roomT_nxt (roomT_nxt (roomT_le hr (by omega)))) (by omega) (by omega)]
      simp only [Option.bind_some]
      rw [ih.2 _ x.Inner (roomT_nxt (roomT_nxt (roomT_nxt (roomT_le hr (by omega))))) (by omega) (by omega)]
      simp only [Option.bind_some]
      rw [(mstmt_ok (K' + 4)).2 _ x.Body (roomT_nxt (roomT_nxt (roomT_nxt (roomT_nxt (roomT_le hr (by omega)))))) (by omega) (by omega)]
      simp only [Option.bind_some]
      rw [clone_ok _ x.End (by omega)]
      simp only [Option.bind_some, outT_nxt', ← nxtT_app]
      cases x
      simp only [mapR, nmR, TRoutine.sub_Marks, List.append_assoc]
    · have hlen := bks_Routine_len l
      show B_tree_each_Routine (FF hFam K) K l (th, ()) = _
      unfold B_tree_each_Routine
      rw [L_each_Routine]
      have := eachG_ok dd_TRoutine 192 (by decide) (fun th x => (FF hFam K).f_tree_mapper_routine ((th, ()), x, ())) (outT th) (mapR (outT th)) nmR bk_TRoutine nmR_len l (by omega) (fun i hi th' ho hr' => by
        have := bks_Routine_mem l i hi
        rw [← ho]
        exact ih.1 th' l[i] hr' (by omega) (by omega)) K 0 (Nat.zero_le _) (by omega) [] th rfl (by rw [List.drop_zero, ← bks_TRoutine_eq]; exact hr) (Nat.le_refl _)
      simp only [Int.ofNat_zero, List.drop_zero, List.nil_append] at this
      rw [mapRs_eq, nmRs_eq]
      exact this
def nmP' (p : TProgram) : List ByteArray := pts p.Name ++ (p.Recs.flatMap nmC ++ (p.Vars.flatMap nmV ++ (nmRs p.Routines ++ nmSs p.Body)))
def mapP (o : ByteArray → ByteArray) (p : TProgram) : TProgram := ⟨mapN o p.Name, p.Before, p.Mid, p.After, p.Recs.map (mapC o), p.Vars.map (mapV o), mapRs o p.Routines, mapSs o p.Body, p.End⟩
theorem mprog_ok (k : Nat) (th : Thing) (p : TProgram) (hr : roomT th (bk_TProgram p)) (hb : bk_TProgram p ≤ 8388608) (hk : 3 * bk_TProgram p + 30 ≤ k) : (FF hFam (k + 8)).f_tree_mapper_program ((th, ()), p, ()) = some (mapP (outT th) p, nxtT th (nmP' p), ()) := by
  have hn := bk_ProgramN p
  have p1 := pts_len p.Name
  have p2 := flat_len nmC bk_TRec nmC_len p.Recs
  have p3 := flat_len nmV bk_TVar nmV_len p.Vars
  rw [← bks_TRec_eq] at p2
  rw [← bks_TVar_eq] at p3
  have p4 := nmRs_len p.Routines
  have p5 := nmSs_len p.Body
  have l1 := bks_v9_len p.Before
  have l2 := bks_v9_len p.Mid
  have l3 := bks_v9_len p.After
  have l4 := bks_v9_len p.End
  show B_tree_mapper_program (FF hFam (k + 7)) (k + 7) (th, ()) p = _
  unfold B_tree_mapper_program
  rw [parts_ok (k + 6) th p.Name (roomT_le hr (by omega)) (by omega)]
  simp only [Option.bind_some]
  rw [clone_ok _ p.Before (by omega), clone_ok _ p.Mid (by omega), clone_ok _ p.After (by omega), clone_ok _ p.End (by omega)]
  simp only [Option.bind_some]
  rw [each_Rec_ok k _ p.Recs (roomT_nxt (roomT_le hr (by omega))) (by omega) (by omega)]
  simp only [Option.bind_some]
  rw [each_Var_ok (k + 3) _ p.Vars (roomT_nxt (roomT_nxt (roomT_le hr (by omega)))) (by omega) (by omega)]
  simp only [Option.bind_some]
  rw [(mroutine_ok (k + 7)).2 _ p.Routines (roomT_nxt (roomT_nxt (roomT_nxt (roomT_le hr (by omega))))) (by omega) (by omega)]
  simp only [Option.bind_some]
  rw [(mstmt_ok (k + 7)).2 _ p.Body (roomT_nxt (roomT_nxt (roomT_nxt (roomT_nxt (roomT_le hr (by omega)))))) (by omega) (by omega)]
  simp only [Option.bind_some, outT_nxt', ← nxtT_app, List.append_assoc]
  rfl
theorem tree_Names_ok (k : Nat) (p : TProgram) (hb : bk_TProgram p ≤ 8388608) (hk : 3 * bk_TProgram p + 30 ≤ k) : (FF hFam (k + 9)).f_tree_Names (p, ()) = some ((nmP' p).foldl addN []) := by
  show B_tree_Names (FF hFam (k + 8)) (k + 8) p = _
  unfold B_tree_Names
  rw [mprog_ok k (.names []) p (by show 0 + _ ≤ _; omega) hb hk]
  rfl
end Go.Ev
end
section
open Go
namespace Go.Ev
open Go.Proofs.YtlepjafokfhnfaaDoor
set_option maxRecDepth 100000
set_option maxHeartbeats 4000000
set_option linter.unusedVariables false
set_option linter.unusedSimpArgs false
mutual
def pE : TExpr → List ByteArray
  | ⟨_, _, nm, f, l⟩ => cutP nm ++ cutP f ++ pEs l
def pEs : List TExpr → List ByteArray
  | [] => []
  | x :: r => pE x ++ pEs r
end
mutual
theorem pE_len : ∀ e : TExpr, (pE e).length ≤ bk_TExpr e
  | ⟨_, _, nm, f, l⟩ => by
    have h1 := cutP_len nm
    have h2 := cutP_len f
    have h3 := pEs_len l
    simp only [pE, bk_TExpr, List.length_append]
    omega
theorem pEs_len : ∀ l : List TExpr, (pEs l).length ≤ bks_TExpr l
  | [] => by simp [pEs]
  | x :: r => by
    have h1 := pE_len x
    have h2 := pEs_len r
    simp only [pEs, bks_TExpr, List.length_append]
    omega
end
theorem someP_app (a b : List ByteArray) : someP (a ++ b) = someP a ++ someP b := by simp [someP]
mutual
theorem pE_nm : ∀ e : TExpr, someP (pE e) = nmE e
  | ⟨_, _, nm, f, l⟩ => by simp only [pE, nmE, someP_app, pEs_nm l, pts, List.append_assoc]
theorem pEs_nm : ∀ l : List TExpr, someP (pEs l) = nmEs l
  | [] => rfl
  | x :: r => by simp only [pEs, nmEs, someP_app, pE_nm x, pEs_nm r]
end
theorem bks_drop (l : List TExpr) (i : Nat) (hi : i < l.length) : bks_TExpr (l.drop i) = bk_TExpr l[i] + bks_TExpr (l.drop (i + 1)) := by rw [List.drop_eq_getElem_cons hi, bks_TExpr]
theorem rE_ok : ∀ K e, bk_TExpr e ≤ 8388608 → 2 * bk_TExpr e + 10 ≤ K → (FF hFam K).f_r07_ExprNames (e, ()) = some (pE e)
  | 0, e, hb, hk => by omega
  | K + 1, e, hb, hk => by
    have hn := bk_name e
    have p1 := cutP_len e.Name
    have p2 := cutP_len e.Field
    have hl := bks_Expr_len e.L
    show B_r07_ExprNames (FF hFam K) K e = _
    unfold B_r07_ExprNames
    obtain ⟨K', rfl⟩ : ∃ K', K = K' + 1 := ⟨K - 1, by omega⟩
    have hbk : bk_TExpr e = e.Name.size + e.Field.size + bks_TExpr e.L + 6 := by cases e; simp only [bk_TExpr]; omega
    rw [Parts_ok K' e.Name (by omega) (by omega), Parts_ok K' e.Field (by omega) (by omega)]
    simp only [Option.bind_some]
    rw [if_pos (by simp only [List.length_append]; omega)]
    have key : ∀ j i, i ≤ e.L.length → e.L.length - i < j → ∀ out : List ByteArray, out.length + bks_TExpr (e.L.drop i) ≤ 1099511627776 → Lr07_ExprNames_3 (FF hFam (K' + 1)) (K' + 1) e j (i : Int) e.Op e.N e.Name e.Field e.L out = some (out ++ pEs (e.L.drop i)) := by
      refine up_ind e.L.length (fun j out _ => ?_) (fun j i hi ih out ho => ?_)
      · simp only [Lr07_ExprNames_3]
        rw [if_neg (by simp), List.drop_length]
        simp [pEs]
      · have hbi := bks_Expr_mem e.L i hi
        have hd := bks_drop e.L i hi
        have hp := pE_len e.L[i]
        simp only [Lr07_ExprNames_3]
        rw [if_pos (lt_dec hi), if_pos (by omega), if_pos (by omega), getD_at e.L i _ hi, TExpr.re_eq, rE_ok (K' + 1) e.L[i] (by omega) (by omega), Option.bind_some, wrap_succ hi (by simp only [maxLen]; omega),
          if_pos (by simp only [List.length_append]; omega), ih (out ++ pE e.L[i]) (by simp only [List.length_append]; omega), List.drop_eq_getElem_cons hi]
        simp only [pEs, List.append_assoc]
    have := key (K' + 1) 0 (Nat.zero_le _) (by omega) (cutP e.Name ++ cutP e.Field) (by simp only [List.drop_zero, List.length_append]; omega)
    simp only [Int.ofNat_zero, List.drop_zero] at this
    rw [this]
    cases e
    simp only [pE]
def pV (v : TVar) : List ByteArray := cutP v.Name ++ cutP v.T_Name
theorem pV_len (v : TVar) : (pV v).length ≤ bk_TVar v := by
  have h1 := cutP_len v.Name
  have h2 := cutP_len v.T_Name
  have := bk_VarN v
  simp only [pV, List.length_append]
  omega
theorem pV_nm (v : TVar) : someP (pV v) = nmV v := by simp only [pV, nmV, someP_app, pts]
theorem flat_nm {α : Type} (p q : α → List ByteArray) (h : ∀ x, someP (p x) = q x) : ∀ l : List α, someP (l.flatMap p) = l.flatMap q
  | [] => rfl
  | x :: r => by simp only [List.flatMap_cons, someP_app, h, flat_nm p q h r]
theorem rV_ok (k : Nat) (l : List TVar) (hb : bks_TVar l ≤ 8388608) (hk : bks_TVar l + 10 ≤ k) : (FF hFam (k + 2)).f_r07_varNames (l, ()) = some (l.flatMap pV) := by
  have hlen := bks_Var_len l
  show B_r07_varNames (FF hFam (k + 1)) (k + 1) l = _
  unfold B_r07_varNames
  have key : ∀ j i, i ≤ l.length → l.length - i < j → ∀ out : List ByteArray, out.length + bks_TVar (l.drop i) ≤ 1099511627776 → Lr07_varNames_3 (FF hFam (k + 1)) (k + 1) l j l (i : Int) out = some (out ++ (l.drop i).flatMap pV) := by
    refine up_ind l.length (fun j out _ => ?_) (fun j i hi ih out ho => ?_)
    · simp only [Lr07_varNames_3]
      rw [if_neg (by simp), List.drop_length]
      simp
    · have hbi := bks_Var_mem l i hi
      have hv := bk_VarN l[i]
      have hd : bks_TVar (l.drop i) = bk_TVar l[i] + bks_TVar (l.drop (i + 1)) := by rw [List.drop_eq_getElem_cons hi, bks_TVar]
      have p1 := cutP_len l[i].Name
      have p2 := cutP_len l[i].T_Name
      simp only [Lr07_varNames_3]
      rw [if_pos (lt_dec hi), if_pos (by omega), if_pos (by omega), getD_at l i _ hi, Parts_ok k l[i].Name (by omega) (by omega), Option.bind_some, if_pos (by simp only [List.length_append]; omega), if_pos (by omega), if_pos (by omega),
        Parts_ok k l[i].T_Name (by omega) (by omega), Option.bind_some, if_pos (by simp only [List.length_append]; omega), wrap_succ hi (by simp only [maxLen]; omega), ih _ (by simp only [List.length_append]; omega), List.drop_eq_getElem_cons hi]
      simp only [List.flatMap_cons, pV, List.append_assoc]
  have := key (k + 1) 0 (Nat.zero_le _) (by omega) [] (by simp only [List.drop_zero, List.length_nil]; omega)
  simp only [Int.ofNat_zero, List.drop_zero, List.nil_append] at this
  exact this
mutual
def pS : TStmt → List ByteArray
  | ⟨_, _, _, nm, po, pn, pnm, pf, pl, E, _, _, body, els, _, _⟩ => cutP nm ++ pE ⟨po, pn, pnm, pf, pl⟩ ++ pEs E ++ pSs body ++ pSs els
def pSs : List TStmt → List ByteArray
  | [] => []
  | x :: r => pS x ++ pSs r
end
mutual
theorem pS_len : ∀ x : TStmt, (pS x).length ≤ bk_TStmt x
  | ⟨_, _, _, nm, po, pn, pnm, pf, pl, E, _, _, body, els, _, _⟩ => by
    have h1 := cutP_len nm
    have h2 := cutP_len pnm
    have h2' := cutP_len pf
    have h2'' := pEs_len pl
    have h3 := pEs_len E
    have h4 := pSs_len body
    have h5 := pSs_len els
    simp only [pS, pE, bk_TStmt, List.length_append]
    omega
theorem pSs_len : ∀ l : List TStmt, (pSs l).length ≤ bks_TStmt l
  | [] => by simp [pSs]
  | x :: r => by
    have h1 := pS_len x
    have h2 := pSs_len r
    simp only [pSs, bks_TStmt, List.length_append]
    omega
end
mutual
theorem pS_nm : ∀ x : TStmt, someP (pS x) = nmS x
  | ⟨_, _, _, nm, po, pn, pnm, pf, pl, E, _, _, body, els, _, _⟩ => by simp only [pS, nmS, someP_app, pE_nm, pEs_nm, pSs_nm body, pSs_nm els, pts, List.append_assoc]
theorem pSs_nm : ∀ l : List TStmt, someP (pSs l) = nmSs l
  | [] => rfl
  | x :: r => by simp only [pSs, nmSs, someP_app, pS_nm x, pSs_nm r]
end
theorem pS_eq (x : TStmt) : pS x = cutP x.Name ++ pE x.sub_P ++ pEs x.E ++ pSs x.Body ++ pSs x.Else := by cases x; simp only [pS, TStmt.sub_P]
theorem rS_ok : ∀ K l, bks_TStmt l ≤ 8388608 → 2 * bks_TStmt l + 20 ≤ K → (FF hFam K).f_r07_stmtNames (l, ()) = some (pSs l)
  | 0, l, hb, hk => by omega
  | K + 1, l, hb, hk => by
    have hlen := bks_Stmt_len l
    show B_r07_stmtNames (FF hFam K) K l = _
    unfold B_r07_stmtNames
    obtain ⟨K', rfl⟩ : ∃ K', K = K' + 1 := ⟨K - 1, by omega⟩
    have key : ∀ j i, i ≤ l.length → l.length - i < j → ∀ out : List ByteArray, out.length + bks_TStmt (l.drop i) ≤ 1099511627776 → Lr07_stmtNames_3 (FF hFam (K' + 1)) (K' + 1) l j l (i : Int) out = some (out ++ pSs (l.drop i)) := by
      refine up_ind l.length (fun j out _ => ?_) (fun j i hi ih out ho => ?_)
      · simp only [Lr07_stmtNames_3]
        rw [if_neg (by simp), List.drop_length]
        simp [pSs]
      · have hbi := bks_Stmt_mem l i hi
        have hv := bk_StmtN l[i]
        have hd : bks_TStmt (l.drop i) = bk_TStmt l[i] + bks_TStmt (l.drop (i + 1)) := by rw [List.drop_eq_getElem_cons hi, bks_TStmt]
        have p1 := cutP_len l[i].Name
        have p2 := pE_len l[i].sub_P
        have p4 := pSs_len l[i].Body
        have p5 := pSs_len l[i].Else
        have hEl := bks_Expr_len l[i].E
        -- the expressions, and what stands in the statement
        have inner : ∀ j' m, m ≤ l[i].E.length → l[i].E.length - m < j' → ∀ out' : List ByteArray, out'.length + bks_TExpr (l[i].E.drop m) + bks_TStmt l[i].Body + bks_TStmt l[i].Else + bks_TStmt (l.drop (i + 1)) ≤ 1099511627776 →
            Lr07_stmtNames_8 (FF hFam (K' + 1)) (K' + 1) l (Lr07_stmtNames_3 (FF hFam (K' + 1)) (K' + 1) l j) j' l (i : Int) (m : Int) out' = some (out' ++ pEs (l[i].E.drop m) ++ pSs l[i].Body ++ pSs l[i].Else ++ pSs (l.drop (i + 1))) := by
          refine up_ind l[i].E.length (fun j' out' ho' => ?_) (fun j' m hm ihm out' ho' => ?_)
          · simp only [Lr07_stmtNames_8, getD_at l i _ hi]
            rw [List.drop_length] at ho' ⊢
            simp only [bks_TExpr] at ho'
            have hlf : decide ((l[i].E.length : Int) < (l[i].E.length : Int)) = false := by simp
            rw [if_pos (by omega), if_pos (by omega), if_neg (by rw [hlf]; simp), if_pos (by omega), if_pos (by omega), rS_ok (K' + 1) l[i].Body (by omega) (by omega), Option.bind_some, if_pos (by simp only [List.length_append]; omega), if_pos (by omega), if_pos (by omega),
              rS_ok (K' + 1) l[i].Else (by omega) (by omega), Option.bind_some, if_pos (by simp only [List.length_append]; omega), wrap_succ hi (by simp only [maxLen]; omega), ih _ (by simp only [List.length_append]; omega)]
            simp only [pEs, List.append_nil, List.append_assoc]
          · have hbm := bks_Expr_mem l[i].E m hm
            have hdm := bks_drop l[i].E m hm
            have hpm := pE_len l[i].E[m]
            simp only [Lr07_stmtNames_8, getD_at l i _ hi]
            rw [if_pos (by omega), if_pos (by omega), if_pos (lt_dec hm), if_pos (by omega), if_pos (by omega), if_pos (by omega), if_pos (by omega), getD_at l[i].E m _ hm, TExpr.re_eq, rE_ok (K' + 1) l[i].E[m] (by omega) (by omega), Option.bind_some,
              if_pos (by simp only [List.length_append]; omega), wrap_succ hm (by simp only [maxLen]; omega), ihm _ (by simp only [List.length_append]; omega), List.drop_eq_getElem_cons hm]
            simp only [pEs, List.append_assoc]
        simp only [Lr07_stmtNames_3]
        rw [if_pos (lt_dec hi), if_pos (by omega), if_pos (by omega), getD_at l i _ hi, Parts_ok K' l[i].Name (by omega) (by omega), Option.bind_some, if_pos (by simp only [List.length_append]; omega), if_pos (by omega), if_pos (by omega),
          rE_ok (K' + 1) l[i].sub_P (by omega) (by omega), Option.bind_some, if_pos (by simp only [List.length_append]; omega)]
        have hin := inner (K' + 1) 0 (Nat.zero_le _) (by omega) (out ++ cutP l[i].Name ++ pE l[i].sub_P) (by simp only [List.drop_zero, List.length_append]; omega)
        simp only [Int.ofNat_zero, List.drop_zero] at hin
        rw [hin, List.drop_eq_getElem_cons hi]
        simp only [pSs, pS_eq, List.append_assoc]
    have := key (K' + 1) 0 (Nat.zero_le _) (by omega) [] (by simp only [List.drop_zero, List.length_nil]; omega)
    simp only [Int.ofNat_zero, List.drop_zero, List.nil_append] at this
    exact this
end Go.Ev
end
section
open Go
namespace Go.Ev
open Go.Proofs.YtlepjafokfhnfaaDoor
set_option maxRecDepth 100000
set_option maxHeartbeats 4000000
set_option linter.unusedVariables false
set_option linter.unusedSimpArgs false
def pA (p : TParam) : List ByteArray := cutP p.Name ++ cutP p.T_Name
theorem pA_nm (p : TParam) : someP (pA p) = nmA p := by simp only [pA, nmA, someP_app, pts]
theorem pA_len (p : TParam) : (pA p).length ≤ bk_TParam p := by
  have h1 := cutP_len p.Name
  have h2 := cutP_len p.T_Name
  have := bk_ParamN p
  simp only [pA, List.length_append]
  omega
mutual
def pR : TRoutine → List ByteArray
  | ⟨_, _, nm, _, ps, vs, inner, body, _⟩ => cutP nm ++ ps.flatMap pA ++ vs.flatMap pV ++ pRs inner ++ pSs body
def pRs : List TRoutine → List ByteArray
  | [] => []
  | x :: r => pR x ++ pRs r
end
mutual
theorem pR_len : ∀ x : TRoutine, (pR x).length ≤ bk_TRoutine x
  | ⟨_, _, nm, _, ps, vs, inner, body, _⟩ => by
    have h1 := cutP_len nm
    have h2 := flat_len pA bk_TParam pA_len ps
    have h3 := flat_len pV bk_TVar pV_len vs
    rw [← bks_TParam_eq] at h2
    rw [← bks_TVar_eq] at h3
    have h4 := pRs_len inner
    have h5 := pSs_len body
    simp only [pR, bk_TRoutine, List.length_append]
    omega
theorem pRs_len : ∀ l : List TRoutine, (pRs l).length ≤ bks_TRoutine l
  | [] => by simp [pRs]
  | x :: r => by
    have h1 := pR_len x
    have h2 := pRs_len r
    simp only [pRs, bks_TRoutine, List.length_append]
    omega
end
mutual
theorem pR_nm : ∀ x : TRoutine, someP (pR x) = nmR x
  | ⟨_, _, nm, _, ps, vs, inner, body, _⟩ => by simp only [pR, nmR, someP_app, flat_nm pA nmA pA_nm, flat_nm pV nmV pV_nm, pRs_nm inner, pSs_nm, pts, List.append_assoc]
theorem pRs_nm : ∀ l : List TRoutine, someP (pRs l) = nmRs l
  | [] => rfl
  | x :: r => by simp only [pRs, nmRs, someP_app, pR_nm x, pRs_nm r]
end
theorem pR_eq (x : TRoutine) : pR x = cutP x.Name ++ x.Params.flatMap pA ++ x.Vars.flatMap pV ++ pRs x.Inner ++ pSs x.Body := by cases x; simp only [pR]
theorem rR_ok : ∀ K l, bks_TRoutine l ≤ 8388608 → 2 * bks_TRoutine l + 30 ≤ K → (FF hFam K).f_r07_routineNames (l, ()) = some (pRs l)
  | 0, l, hb, hk => by omega
  | K + 1, l, hb, hk => by
    have hlen := bks_Routine_len l
    show B_r07_routineNames (FF hFam K) K l = _
    unfold B_r07_routineNames
    obtain ⟨K', rfl⟩ : ∃ K', K = K' + 2 := ⟨K - 2, by omega⟩
    have key : ∀ j i, i ≤ l.length → l.length - i < j → ∀ out : List ByteArray, out.length + bks_TRoutine (l.drop i) ≤ 1099511627776 → Lr07_routineNames_3 (FF hFam (K' + 2)) (K' + 2) l j l (i : Int) out = some (out ++ pRs (l.drop i)) := by
      refine up_ind l.length (fun j out _ => ?_) (fun j i hi ih out ho => ?_)
      · simp only [Lr07_routineNames_3]
        rw [if_neg (by simp), List.drop_length]
        simp [pRs]
      · have hbi := bks_Routine_mem l i hi
        have hv := bk_RoutineN l[i]
        have hd : bks_TRoutine (l.drop i) = bk_TRoutine l[i] + bks_TRoutine (l.drop (i + 1)) := by rw [List.drop_eq_getElem_cons hi, bks_TRoutine]
        have p1 := cutP_len l[i].Name
        have p3 := flat_len pV bk_TVar pV_len l[i].Vars
        rw [← bks_TVar_eq] at p3
        have p4 := pRs_len l[i].Inner
        have p5 := pSs_len l[i].Body
        have hPl := bks_Param_len l[i].Params
        have inner : ∀ j' m, m ≤ l[i].Params.length → l[i].Params.length - m < j' → ∀ out' : List ByteArray, out'.length + bks_TParam (l[i].Params.drop m) + bks_TVar l[i].Vars + bks_TRoutine l[i].Inner + bks_TStmt l[i].Body + bks_TRoutine (l.drop (i + 1)) ≤ 1099511627776 →
            ∀ (mb mt e : List ByteArray) (nm : ByteArray) (res : Int), Lr07_routineNames_8 (FF hFam (K' + 2)) (K' + 2) l (Lr07_routineNames_3 (FF hFam (K' + 2)) (K' + 2) l j) j' l (i : Int) (m : Int) mb mt nm res l[i].Params l[i].Vars l[i].Inner l[i].Body e out' =
              some (out' ++ (l[i].Params.drop m).flatMap pA ++ l[i].Vars.flatMap pV ++ pRs l[i].Inner ++ pSs l[i].Body ++ pRs (l.drop (i + 1))) := by
          refine up_ind l[i].Params.length (fun j' out' ho' mb mt e nm res => ?_) (fun j' m hm ihm out' ho' mb mt e nm res => ?_)
          · simp only [Lr07_routineNames_8]
            rw [List.drop_length] at ho' ⊢
            simp only [bks_TParam] at ho'
            rw [if_neg (by simp), rV_ok K' l[i].Vars (by omega) (by omega), Option.bind_some, if_pos (by simp only [List.length_append]; omega), rR_ok (K' + 2) l[i].Inner (by omega) (by omega), Option.bind_some, if_pos (by simp only [List.length_append]; omega),
              rS_ok (K' + 2) l[i].Body (by omega) (by omega), Option.bind_some, if_pos (by simp only [List.length_append]; omega), wrap_succ hi (by simp only [maxLen]; omega), ih _ (by simp only [List.length_append]; omega)]
            simp only [List.flatMap_nil, List.append_nil, List.append_assoc]
          · have hbm := bks_Param_mem' l[i].Params m hm
            have hvm := bk_ParamN l[i].Params[m]
            have hdm : bks_TParam (l[i].Params.drop m) = bk_TParam l[i].Params[m] + bks_TParam (l[i].Params.drop (m + 1)) := by rw [List.drop_eq_getElem_cons hm, bks_TParam]
            have q1 := cutP_len l[i].Params[m].Name
            have q2 := cutP_len l[i].Params[m].T_Name
            simp only [Lr07_routineNames_8]
            rw [if_pos (lt_dec hm), if_pos (by omega), if_pos (by omega), getD_at l[i].Params m _ hm, Parts_ok (K' + 1) l[i].Params[m].Name (by omega) (by omega), Option.bind_some, if_pos (by simp only [List.length_append]; omega), if_pos (by omega), if_pos (by omega),
              Parts_ok (K' + 1) l[i].Params[m].T_Name (by omega) (by omega), Option.bind_some, if_pos (by simp only [List.length_append]; omega), wrap_succ hm (by simp only [maxLen]; omega), ihm _ (by simp only [List.length_append]; omega), List.drop_eq_getElem_cons hm]
            simp only [List.flatMap_cons, pA, List.append_assoc]
        simp only [Lr07_routineNames_3]
        have hin := inner (K' + 2) 0 (Nat.zero_le _) (by omega) (out ++ cutP l[i].Name) (by simp only [List.drop_zero, List.length_append]; omega) l[i].Marks_Before l[i].Marks_Trail l[i].End l[i].Name l[i].Result
        simp only [Int.ofNat_zero, List.drop_zero] at hin
        rw [if_pos (lt_dec hi), if_pos (by omega), if_pos (by omega), getD_at l i _ hi, Parts_ok (K' + 1) l[i].Name (by omega) (by omega), Option.bind_some, if_pos (by simp only [List.length_append]; omega), hin, List.drop_eq_getElem_cons hi]
        simp only [pRs, pR_eq, List.append_assoc]
    have := key (K' + 2) 0 (Nat.zero_le _) (by omega) [] (by simp only [List.drop_zero, List.length_nil]; omega)
    simp only [Int.ofNat_zero, List.drop_zero, List.nil_append] at this
    exact this
def pF (f : TField) : List ByteArray := cutP f.Name
def pC (r : TRec) : List ByteArray := cutP r.Name ++ r.Fields.flatMap pF
theorem pC_len (r : TRec) : (pC r).length ≤ bk_TRec r := by
  have h1 := cutP_len r.Name
  have h2 := flat_len pF bk_TField (fun f => by have := cutP_len f.Name; have := bk_FieldN f; simp only [pF]; omega) r.Fields
  rw [← bks_TField_eq] at h2
  have := bk_RecN r
  simp only [pC, List.length_append]
  omega
theorem pC_nm (r : TRec) : someP (pC r) = nmC r := by simp only [pC, nmC, someP_app, pts, flat_nm pF nmF (fun _ => rfl)]
def pP (p : TProgram) : List ByteArray := cutP p.Name ++ p.Recs.flatMap pC ++ p.Vars.flatMap pV ++ pRs p.Routines ++ pSs p.Body
theorem pP_nm (p : TProgram) : someP (pP p) = nmP' p := by simp only [pP, nmP', someP_app, pts, flat_nm pC nmC pC_nm, flat_nm pV nmV pV_nm, pRs_nm, pSs_nm, List.append_assoc]
theorem pP_len (p : TProgram) : (pP p).length ≤ bk_TProgram p := by
  have h1 := cutP_len p.Name
  have h2 := flat_len pC bk_TRec pC_len p.Recs
  have h3 := flat_len pV bk_TVar pV_len p.Vars
  rw [← bks_TRec_eq] at h2
  rw [← bks_TVar_eq] at h3
  have h4 := pRs_len p.Routines
  have h5 := pSs_len p.Body
  have := bk_ProgramN p
  simp only [pP, List.length_append]
  omega
theorem mem_any (l : List ByteArray) (x : ByteArray) : Wd.mem l x = l.any fun z => z.toList == x.toList := by
  unfold Wd.mem
  congr 1
  funext z
  rw [ba_beq]
theorem dedup_loop (K : Nat) (x0 : TProgram) (r3 : Int → ByteArray → List ByteArray → List ByteArray → List ByteArray → List TRec → List TVar → List TRoutine → List TStmt → List ByteArray → List ByteArray → Option (List ByteArray)) (l : List ByteArray) (hl : l.length ≤ 8388608) (hk : 8388700 + l.length ≤ K) :
    ∀ j i, i ≤ l.length → l.length - i < j → ∀ out : List ByteArray, out.length ≤ i → Lr07_Names_15 (FF hFam (K + 1)) (K + 1) x0 r3 j (i : Int) l out = some ((someP (l.drop i)).foldl addN out) := by
  refine up_ind l.length (fun j out _ => ?_) (fun j i hi ih out ho => ?_)
  · simp only [Lr07_Names_15]
    rw [if_neg (by simp), List.drop_length]
    rfl
  · have hd := List.drop_eq_getElem_cons hi
    simp only [Lr07_Names_15]
    rw [if_pos (lt_dec hi), if_pos (by omega), if_pos (by omega), getD_at l i _ hi, wrap_succ hi (by simp only [maxLen]; omega), hd, eps_size]
    by_cases hz : l[i].size = 0
    · rw [if_neg (by simp [hz]), ih out (by omega)]
      unfold someP
      rw [List.filter_cons_of_neg (by simp [hz])]
    · rw [if_pos (by simp [hz]), if_pos (by omega), if_pos (by omega), Among_ok K out l[i] (by omega) (by simp only [maxLen]; omega), Option.bind_some, mem_any]
      have hs : someP (l[i] :: l.drop (i + 1)) = l[i] :: someP (l.drop (i + 1)) := by unfold someP; rw [List.filter_cons_of_pos (by simp [hz])]
      rw [hs, List.foldl_cons]
      unfold addN
      cases hany : out.any fun z => z.toList == l[i].toList with
      | true =>
        rw [if_neg (by simp), if_pos rfl]
        exact ih out (by omega)
      | false =>
        rw [if_pos (by simp), if_pos (by omega), if_pos (by omega), if_pos (by simp only [List.length_append, List.length_singleton]; omega), if_neg (by simp)]
        exact ih _ (by simp only [List.length_append, List.length_singleton]; omega)
theorem r07_Names_ok (k : Nat) (p : TProgram) (hb : bk_TProgram p ≤ 8388608) (hk : 3 * bk_TProgram p + 17000000 ≤ k) : (FF hFam (k + 4)).f_r07_Names (p, ()) = some ((nmP' p).foldl addN []) := by
  have hv := bk_ProgramN p
  have hlen := bks_Rec_len p.Recs
  have hpl := pP_len p
  show B_r07_Names (FF hFam (k + 3)) (k + 3) p = _
  unfold B_r07_Names
  have q1 := cutP_len p.Name
  have q3 := flat_len pV bk_TVar pV_len p.Vars
  rw [← bks_TVar_eq] at q3
  have q4 := pRs_len p.Routines
  have q5 := pSs_len p.Body
  rw [Parts_ok (k + 2) p.Name (by omega) (by omega), Option.bind_some]
  have key : ∀ j i, i ≤ p.Recs.length → p.Recs.length - i < j → ∀ out : List ByteArray, out.length + bks_TRec (p.Recs.drop i) ≤ 8388608 → (out ++ (p.Recs.drop i).flatMap pC ++ p.Vars.flatMap pV ++ pRs p.Routines ++ pSs p.Body).length ≤ 8388608 →
      Lr07_Names_3 (FF hFam (k + 3)) (k + 3) p j (i : Int) p.Name p.Before p.Mid p.After p.Recs p.Vars p.Routines p.Body p.End out = some ((someP (out ++ (p.Recs.drop i).flatMap pC ++ p.Vars.flatMap pV ++ pRs p.Routines ++ pSs p.Body)).foldl addN []) := by
    refine up_ind p.Recs.length (fun j out ho hall => ?_) (fun j i hi ih out ho hall => ?_)
    · rw [List.drop_length] at hall ⊢
      simp only [List.flatMap_nil, List.append_nil] at hall ⊢
      simp only [Lr07_Names_3]
      simp only [List.length_append] at hall
      have hdl := dedup_loop (k + 2) p (Lr07_Names_3 (FF hFam (k + 3)) (k + 3) p j) (out ++ p.Vars.flatMap pV ++ pRs p.Routines ++ pSs p.Body) (by simp only [List.length_append]; omega) (by simp only [List.length_append]; omega) (k + 3) 0 (Nat.zero_le _) (by simp only [List.length_append]; omega) [] (Nat.le_refl _)
      simp only [Int.ofNat_zero, List.drop_zero] at hdl
      rw [if_neg (by simp), rV_ok (k + 1) p.Vars (by omega) (by omega), Option.bind_some, if_pos (by simp only [List.length_append]; omega), rR_ok (k + 3) p.Routines (by omega) (by omega), Option.bind_some, if_pos (by simp only [List.length_append]; omega),
        rS_ok (k + 3) p.Body (by omega) (by omega), Option.bind_some, if_pos (by simp only [List.length_append]; omega), hdl]
    · have hbi := bks_Rec_mem p.Recs i hi
      have hvr := bk_RecN p.Recs[i]
      have hd : bks_TRec (p.Recs.drop i) = bk_TRec p.Recs[i] + bks_TRec (p.Recs.drop (i + 1)) := by rw [List.drop_eq_getElem_cons hi, bks_TRec]
      have r1 := cutP_len p.Recs[i].Name
      have hFl := bks_Field_len p.Recs[i].Fields
      have inner : ∀ j' m, m ≤ p.Recs[i].Fields.length → p.Recs[i].Fields.length - m < j' → ∀ out' : List ByteArray, out'.length + bks_TField (p.Recs[i].Fields.drop m) + bks_TRec (p.Recs.drop (i + 1)) ≤ 8388608 →
          (out' ++ (p.Recs[i].Fields.drop m).flatMap pF ++ (p.Recs.drop (i + 1)).flatMap pC ++ p.Vars.flatMap pV ++ pRs p.Routines ++ pSs p.Body).length ≤ 8388608 →
          Lr07_Names_7 (FF hFam (k + 3)) (k + 3) p (Lr07_Names_3 (FF hFam (k + 3)) (k + 3) p j) j' (i : Int) (m : Int) p.Name p.Before p.Mid p.After p.Recs p.Vars p.Routines p.Body p.End out' =
            some ((someP (out' ++ (p.Recs[i].Fields.drop m).flatMap pF ++ (p.Recs.drop (i + 1)).flatMap pC ++ p.Vars.flatMap pV ++ pRs p.Routines ++ pSs p.Body)).foldl addN []) := by
        refine up_ind p.Recs[i].Fields.length (fun j' out' ho' hall' => ?_) (fun j' m hm ihm out' ho' hall' => ?_)
        · rw [List.drop_length] at ho' hall' ⊢
          simp only [bks_TField, List.flatMap_nil, List.append_nil] at ho' hall' ⊢
          simp only [Lr07_Names_7, getD_at p.Recs i _ hi]
          have hlf : decide ((p.Recs[i].Fields.length : Int) < (p.Recs[i].Fields.length : Int)) = false := by simp
          rw [if_pos (by omega), if_pos (by omega), if_neg (by rw [hlf]; simp), wrap_succ hi (by simp only [maxLen]; omega), ih out' (by omega) hall']
        · have hbm := bks_Field_mem p.Recs[i].Fields m hm
          have hvm := bk_FieldN p.Recs[i].Fields[m]
          have hdm : bks_TField (p.Recs[i].Fields.drop m) = bk_TField p.Recs[i].Fields[m] + bks_TField (p.Recs[i].Fields.drop (m + 1)) := by rw [List.drop_eq_getElem_cons hm, bks_TField]
          have s1 := cutP_len p.Recs[i].Fields[m].Name
          have hsh : out' ++ (p.Recs[i].Fields.drop m).flatMap pF = (out' ++ cutP p.Recs[i].Fields[m].Name) ++ (p.Recs[i].Fields.drop (m + 1)).flatMap pF := by
            rw [List.drop_eq_getElem_cons hm]
            simp only [List.flatMap_cons, pF, List.append_assoc]
          rw [hsh] at hall' ⊢
          simp only [Lr07_Names_7, getD_at p.Recs i _ hi]
          rw [if_pos (by omega), if_pos (by omega), if_pos (lt_dec hm), if_pos (by omega), if_pos (by omega), if_pos (by omega), if_pos (by omega), getD_at p.Recs[i].Fields m _ hm, Parts_ok (k + 2) p.Recs[i].Fields[m].Name (by omega) (by omega), Option.bind_some,
            if_pos (by simp only [List.length_append]; omega), wrap_succ hm (by simp only [maxLen]; omega), ihm _ (by simp only [List.length_append]; omega) hall']
      have hsh : out ++ (p.Recs.drop i).flatMap pC = (out ++ cutP p.Recs[i].Name) ++ p.Recs[i].Fields.flatMap pF ++ (p.Recs.drop (i + 1)).flatMap pC := by
        rw [List.drop_eq_getElem_cons hi]
        simp only [List.flatMap_cons, pC, List.append_assoc]
      rw [hsh] at hall ⊢
      have hin := inner (k + 3) 0 (Nat.zero_le _) (by omega) (out ++ cutP p.Recs[i].Name) (by simp only [List.drop_zero, List.length_append]; omega) (by rw [List.drop_zero]; exact hall)
      simp only [Int.ofNat_zero, List.drop_zero] at hin
      simp only [Lr07_Names_3]
      rw [if_pos (lt_dec hi), if_pos (by omega), if_pos (by omega), getD_at p.Recs i _ hi, Parts_ok (k + 2) p.Recs[i].Name (by omega) (by omega), Option.bind_some, if_pos (by simp only [List.length_append]; omega), hin]
  have := key (k + 3) 0 (Nat.zero_le _) (by omega) (cutP p.Name) (by simp only [List.drop_zero]; omega) (by rw [List.drop_zero]; exact Nat.le_trans hpl hb)
  simp only [Int.ofNat_zero, List.drop_zero] at this
  rw [this]
  have hpp : cutP p.Name ++ p.Recs.flatMap pC ++ p.Vars.flatMap pV ++ pRs p.Routines ++ pSs p.Body = pP p := rfl
  rw [hpp, pP_nm]
end Go.Ev
end
section
open Go
namespace Go.Ev
open Go.Proofs.YtlepjafokfhnfaaDoor
set_option maxRecDepth 100000
set_option maxHeartbeats 4000000
set_option linter.unusedVariables false
set_option linter.unusedSimpArgs false
def freeB (p : ByteArray) : Prop := ∀ c ∈ p.data.toList, c ≠ 36
def goodO (o : ByteArray → ByteArray) (p : ByteArray) : Prop := freeB (o p) ∧ (o p).size ≠ 0
theorem join_sum : ∀ ls : List (List UInt8), ls ≠ [] → (Lib.join ls [36]).length + 1 = (ls.map fun l => l.length + 1).sum
  | [], h => absurd rfl h
  | [x], _ => by rw [Lib.join_one]; simp
  | x :: y :: r, _ => by
    have ih := join_sum (y :: r) (by simp)
    unfold Lib.join at ih ⊢
    rw [List.intercalate_cons_cons]
    simp only [List.length_append, List.length_cons, List.length_nil, List.map_cons, List.sum_cons] at ih ⊢
    omega
theorem cut_join : ∀ ls : List (List UInt8), ls ≠ [] → (∀ l ∈ ls, ∀ c ∈ l, c ≠ 36) → cutL (Lib.join ls [36]) = ls
  | [], h, _ => absurd rfl h
  | [x], _, h => by rw [Lib.join_one]; exact cutL_free x (h x List.mem_cons_self)
  | x :: y :: r, _, h => by
    have ih := cut_join (y :: r) (by simp) fun l hl => h l (List.mem_cons_of_mem _ hl)
    unfold Lib.join at ih ⊢
    rw [List.intercalate_cons_cons, List.append_assoc, List.cons_append, List.nil_append, cutL_at x _ (h x List.mem_cons_self), ih]
theorem joinD_data (ps : List ByteArray) : (joinD ps).data.toList = Lib.join (ps.map (·.data.toList)) [36] := by
  unfold joinD
  have h36 : sep36.data.toList = [36] := rfl
  rw [h36]
theorem cutP_ne (s : ByteArray) : cutP s ≠ [] := by
  unfold cutP
  intro h
  exact cutL_ne _ (List.map_eq_nil_iff.1 h)
theorem cutP_joinD (ps : List ByteArray) (hne : ps ≠ []) (h : ∀ p ∈ ps, freeB p) : cutP (joinD ps) = ps := by
  unfold cutP
  rw [joinD_data, cut_join _ (by simpa using hne) (fun l hl => by
    obtain ⟨p, hp, rfl⟩ := List.mem_map.1 hl
    exact h p hp), List.map_map]
  have : (fun l : List UInt8 => (⟨l.toArray⟩ : ByteArray)) ∘ (fun p : ByteArray => p.data.toList) = id := by
    funext p
    apply ByteArray.ext
    simp
  rw [this, List.map_id]
theorem cutL_free_mem : ∀ (l : List UInt8), ∀ p ∈ cutL l, ∀ c ∈ p, c ≠ 36
  | [], p, h => by simp [cutL] at h; subst h; simp
  | c :: r, p, h => by
    have ih := cutL_free_mem r
    rw [cutL] at h
    split at h
    · rcases List.mem_cons.1 h with rfl | h
      · simp
      · exact ih p h
    · rename_i hc
      split at h
      · simp at h; subst h; simpa using hc
      · rename_i q t hq
        rcases List.mem_cons.1 h with rfl | h
        · intro d hd
          rcases List.mem_cons.1 hd with rfl | hd
          · exact hc
          · exact ih q (by rw [hq]; exact List.mem_cons_self) d hd
        · exact ih p (by rw [hq]; exact List.mem_cons_of_mem _ h)
theorem cutP_free (s p : ByteArray) (h : p ∈ cutP s) : freeB p := by
  unfold cutP at h
  obtain ⟨l, hl, rfl⟩ := List.mem_map.1 h
  intro c hc
  exact cutL_free_mem _ l hl c (by simpa using hc)
theorem size_zero {s : ByteArray} (h : s.size = 0) : s = ByteArray.empty := by
  apply ByteArray.ext
  exact Array.eq_empty_of_size_eq_zero h
theorem cutP_empty : cutP ByteArray.empty = [ByteArray.empty] := rfl
theorem mem_pts {s p : ByteArray} : p ∈ pts s ↔ p ∈ cutP s ∧ p.size ≠ 0 := by simp [pts, someP]
theorem mapN_join (o : ByteArray → ByteArray) (s : ByteArray) : mapN o s = joinD ((cutP s).map (mapPo o)) := by
  unfold mapN
  by_cases h : s.size = 0
  · rw [if_pos h, size_zero h, cutP_empty]
    have : mapPo o ByteArray.empty = ByteArray.empty := rfl
    rw [List.map_cons, this, List.map_nil]
    rfl
  · rw [if_neg h]
theorem cutP_mapN (o : ByteArray → ByteArray) (s : ByteArray) (h : ∀ p ∈ pts s, goodO o p) : cutP (mapN o s) = (cutP s).map (mapPo o) := by
  rw [mapN_join]
  refine cutP_joinD _ (by simpa using cutP_ne s) fun q hq => ?_
  obtain ⟨p, hp, rfl⟩ := List.mem_map.1 hq
  unfold mapPo
  split
  · exact cutP_free s p hp
  · rename_i hz
    exact (h p (mem_pts.2 ⟨hp, hz⟩)).1
theorem someP_map (o : ByteArray → ByteArray) : ∀ l : List ByteArray, (∀ p ∈ someP l, (o p).size ≠ 0) → someP (l.map (mapPo o)) = (someP l).map o
  | [], _ => rfl
  | x :: r, h => by
    by_cases hz : x.size = 0
    · have h1 : mapPo o x = x := by unfold mapPo; rw [if_pos hz]
      have h2 : ∀ t, someP (x :: t) = someP t := fun t => by unfold someP; rw [List.filter_cons_of_neg (by simp [hz])]
      rw [List.map_cons, h1, h2, h2]
      rw [h2] at h
      exact someP_map o r h
    · have h1 : mapPo o x = o x := by unfold mapPo; rw [if_neg hz]
      have h2 : someP (x :: r) = x :: someP r := by unfold someP; rw [List.filter_cons_of_pos (by simp [hz])]
      rw [h2] at h
      have h3 := h x List.mem_cons_self
      have h4 : ∀ t, someP (o x :: t) = o x :: someP t := fun t => by unfold someP; rw [List.filter_cons_of_pos (by simp [h3])]
      rw [List.map_cons, h1, h4, h2, List.map_cons, someP_map o r fun p hp => h p (List.mem_cons_of_mem _ hp)]
theorem pts_mapN (o : ByteArray → ByteArray) (s : ByteArray) (h : ∀ p ∈ pts s, goodO o p) : pts (mapN o s) = (pts s).map o := by
  unfold pts
  rw [cutP_mapN o s h, someP_map o _ fun p hp => (h p hp).2]
theorem mapN_back (o o' : ByteArray → ByteArray) (s : ByteArray) (h : ∀ p ∈ pts s, goodO o p) (hb : ∀ p ∈ pts s, o' (o p) = p) : mapN o' (mapN o s) = s := by
  rw [mapN_join o', cutP_mapN o s h, List.map_map]
  have : (cutP s).map (mapPo o' ∘ mapPo o) = cutP s := by
    conv => rhs; rw [← List.map_id (cutP s)]
    refine List.map_congr_left fun p hp => ?_
    show mapPo o' (mapPo o p) = p
    by_cases hz : p.size = 0
    · unfold mapPo; rw [if_pos hz, if_pos hz]
    · have hm := mem_pts.2 ⟨hp, hz⟩
      have h1 : mapPo o p = o p := by unfold mapPo; rw [if_neg hz]
      rw [h1]
      unfold mapPo
      rw [if_neg (h p hm).2]
      exact hb p hm
  rw [this, joinD_cutP]
def growO (o : ByteArray → ByteArray) : Prop := ∀ p, (o p).size ≤ 5 * p.size
theorem sum_grow (o : ByteArray → ByteArray) (ho : growO o) : ∀ ps : List ByteArray, (((ps.map (mapPo o)).map fun p => p.size + 1).sum) + 4 * ps.length ≤ 5 * ((ps.map fun p => p.size + 1).sum)
  | [] => by simp
  | x :: r => by
    have ih := sum_grow o ho r
    have h1 : (mapPo o x).size ≤ 5 * x.size := by
      unfold mapPo
      split
      · omega
      · exact ho x
    simp only [List.map_cons, List.sum_cons, List.length_cons]
    omega
theorem joinD_size (ps : List ByteArray) (h : ps ≠ []) : (joinD ps).size + 1 = (ps.map fun p => p.size + 1).sum := by
  have h1 := join_sum (ps.map (·.data.toList)) (by simpa using h)
  rw [← joinD_data, List.map_map] at h1
  have h2 : ((fun l : List UInt8 => l.length + 1) ∘ fun p : ByteArray => p.data.toList) = fun p : ByteArray => p.size + 1 := by funext p; simp
  rw [h2] at h1
  simpa using h1
theorem mapN_size (o : ByteArray → ByteArray) (ho : growO o) (s : ByteArray) : (mapN o s).size ≤ 5 * s.size := by
  have hne := cutP_ne s
  have h1 := joinD_size (cutP s) hne
  rw [joinD_cutP] at h1
  have h2 := joinD_size ((cutP s).map (mapPo o)) (by simpa using hne)
  rw [← mapN_join] at h2
  have h3 := sum_grow o ho (cutP s)
  have h4 : 1 ≤ (cutP s).length := by
    rcases Nat.eq_zero_or_pos (cutP s).length with h | h
    · exact absurd (List.eq_nil_of_length_eq_zero h) hne
    · exact h
  omega
section
variable (o o' : ByteArray → ByteArray)
def thereP {α : Type} (m m' : α → α) (nm : α → List ByteArray) (x : α) : Prop := (∀ p ∈ nm x, goodO o p) → nm (m x) = (nm x).map o ∧ ((∀ p ∈ nm x, o' (o p) = p) → m' (m x) = x)
theorem there_list {α : Type} (m m' : α → α) (nm : α → List ByteArray) : ∀ l : List α, (∀ x ∈ l, thereP o o' m m' nm x) → (∀ p ∈ l.flatMap nm, goodO o p) → (l.map m).flatMap nm = (l.flatMap nm).map o ∧ ((∀ p ∈ l.flatMap nm, o' (o p) = p) → (l.map m).map m' = l)
  | [], _, _ => ⟨rfl, fun _ => rfl⟩
  | x :: r, h, hg => by
    simp only [List.flatMap_cons, List.mem_append] at hg
    obtain ⟨a1, a2⟩ := h x List.mem_cons_self fun p hp => hg p (.inl hp)
    obtain ⟨b1, b2⟩ := there_list m m' nm r (fun y hy => h y (List.mem_cons_of_mem _ hy)) fun p hp => hg p (.inr hp)
    refine ⟨by simp only [List.map_cons, List.flatMap_cons, a1, b1, List.map_append], fun hb => ?_⟩
    simp only [List.flatMap_cons, List.mem_append] at hb
    simp only [List.map_cons, a2 fun p hp => hb p (.inl hp), b2 fun p hp => hb p (.inr hp)]
mutual
theorem there_E : ∀ e : TExpr, thereP o o' (mapE o) (mapE o') nmE e
  | ⟨op, n, nm, f, l⟩ => fun hg => by
    simp only [nmE, List.mem_append] at hg
    have a := pts_mapN o nm fun p hp => hg p (.inl hp)
    have b := pts_mapN o f fun p hp => hg p (.inr (.inl hp))
    obtain ⟨c1, c2⟩ := there_Es l fun p hp => hg p (.inr (.inr hp))
    refine ⟨by simp only [mapE, nmE, a, b, c1, List.map_append], fun hb => ?_⟩
    simp only [nmE, List.mem_append] at hb
    simp only [mapE, mapN_back o o' nm (fun p hp => hg p (.inl hp)) fun p hp => hb p (.inl hp), mapN_back o o' f (fun p hp => hg p (.inr (.inl hp))) fun p hp => hb p (.inr (.inl hp)), c2 fun p hp => hb p (.inr (.inr hp))]
theorem there_Es : ∀ l : List TExpr, thereP o o' (mapEs o) (mapEs o') nmEs l
  | [] => fun _ => ⟨rfl, fun _ => rfl⟩
  | x :: r => fun hg => by
    simp only [nmEs, List.mem_append] at hg
    obtain ⟨a1, a2⟩ := there_E x fun p hp => hg p (.inl hp)
    obtain ⟨b1, b2⟩ := there_Es r fun p hp => hg p (.inr hp)
    refine ⟨by simp only [mapEs, nmEs, a1, b1, List.map_append], fun hb => ?_⟩
    simp only [nmEs, List.mem_append] at hb
    simp only [mapEs, a2 fun p hp => hb p (.inl hp), b2 fun p hp => hb p (.inr hp)]
end
theorem there_V (v : TVar) : thereP o o' (mapV o) (mapV o') nmV v := fun hg => by
  simp only [nmV, List.mem_append] at hg
  have a := pts_mapN o v.Name fun p hp => hg p (.inl hp)
  have b := pts_mapN o v.T_Name fun p hp => hg p (.inr hp)
  refine ⟨by simp only [mapV, nmV, a, b, List.map_append], fun hb => ?_⟩
  simp only [nmV, List.mem_append] at hb
  simp only [mapV, mapN_back o o' v.Name (fun p hp => hg p (.inl hp)) fun p hp => hb p (.inl hp), mapN_back o o' v.T_Name (fun p hp => hg p (.inr hp)) fun p hp => hb p (.inr hp)]
theorem there_A (v : TParam) : thereP o o' (mapA o) (mapA o') nmA v := fun hg => by
  simp only [nmA, List.mem_append] at hg
  have a := pts_mapN o v.Name fun p hp => hg p (.inl hp)
  have b := pts_mapN o v.T_Name fun p hp => hg p (.inr hp)
  refine ⟨by simp only [mapA, nmA, a, b, List.map_append], fun hb => ?_⟩
  simp only [nmA, List.mem_append] at hb
  simp only [mapA, mapN_back o o' v.Name (fun p hp => hg p (.inl hp)) fun p hp => hb p (.inl hp), mapN_back o o' v.T_Name (fun p hp => hg p (.inr hp)) fun p hp => hb p (.inr hp)]
theorem there_F (f : TField) : thereP o o' (mapF o) (mapF o') nmF f := fun hg => by
  refine ⟨pts_mapN o f.Name hg, fun hb => ?_⟩
  simp only [mapF, mapN_back o o' f.Name hg hb]
theorem there_C (r : TRec) : thereP o o' (mapC o) (mapC o') nmC r := fun hg => by
  simp only [nmC, List.mem_append] at hg
  have a := pts_mapN o r.Name fun p hp => hg p (.inl hp)
  obtain ⟨b1, b2⟩ := there_list o o' (mapF o) (mapF o') nmF r.Fields (fun f _ => there_F o o' f) fun p hp => hg p (.inr hp)
  refine ⟨by simp only [mapC, nmC, a, b1, List.map_append], fun hb => ?_⟩
  simp only [nmC, List.mem_append] at hb
  simp only [mapC, mapN_back o o' r.Name (fun p hp => hg p (.inl hp)) fun p hp => hb p (.inl hp), b2 fun p hp => hb p (.inr hp)]
mutual
theorem there_S : ∀ x : TStmt, thereP o o' (mapS o) (mapS o') nmS x
  | ⟨mb, mt, op, nm, po, pn, pnm, pf, pl, E, down, more, body, els, e1, e2⟩ => fun hg => by
    simp only [nmS, List.mem_append] at hg
    have a := pts_mapN o nm fun p hp => hg p (.inl hp)
    obtain ⟨b1, b2⟩ := there_E o o' ⟨po, pn, pnm, pf, pl⟩ fun p hp => hg p (.inr (.inl hp))
    obtain ⟨c1, c2⟩ := there_Es o o' E fun p hp => hg p (.inr (.inr (.inl hp)))
    obtain ⟨d1, d2⟩ := there_Ss body fun p hp => hg p (.inr (.inr (.inr (.inl hp))))
    obtain ⟨f1, f2⟩ := there_Ss els fun p hp => hg p (.inr (.inr (.inr (.inr hp))))
    have b1' : nmE ⟨po, pn, mapN o pnm, mapN o pf, mapEs o pl⟩ = (nmE ⟨po, pn, pnm, pf, pl⟩).map o := by rw [← b1]; simp only [mapE]
    refine ⟨by simp only [mapS, nmS, a, b1', c1, d1, f1, List.map_append], fun hb => ?_⟩
    simp only [nmS, List.mem_append] at hb
    have b2' := b2 fun p hp => hb p (.inr (.inl hp))
    simp only [mapE, TExpr.mk.injEq, true_and] at b2'
    obtain ⟨g1, g2, g3⟩ := b2'
    simp only [mapS, mapN_back o o' nm (fun p hp => hg p (.inl hp)) fun p hp => hb p (.inl hp), g1, g2, g3, c2 fun p hp => hb p (.inr (.inr (.inl hp))), d2 fun p hp => hb p (.inr (.inr (.inr (.inl hp)))), f2 fun p hp => hb p (.inr (.inr (.inr (.inr hp))))]
theorem there_Ss : ∀ l : List TStmt, thereP o o' (mapSs o) (mapSs o') nmSs l
  | [] => fun _ => ⟨rfl, fun _ => rfl⟩
  | x :: r => fun hg => by
    simp only [nmSs, List.mem_append] at hg
    obtain ⟨a1, a2⟩ := there_S x fun p hp => hg p (.inl hp)
    obtain ⟨b1, b2⟩ := there_Ss r fun p hp => hg p (.inr hp)
    refine ⟨by simp only [mapSs, nmSs, a1, b1, List.map_append], fun hb => ?_⟩
    simp only [nmSs, List.mem_append] at hb
    simp only [mapSs, a2 fun p hp => hb p (.inl hp), b2 fun p hp => hb p (.inr hp)]
end
mutual
theorem there_R : ∀ x : TRoutine, thereP o o' (mapR o) (mapR o') nmR x
  | ⟨mb, mt, nm, res, ps, vs, inner, body, e⟩ => fun hg => by
    simp only [nmR, List.mem_append] at hg
    have a := pts_mapN o nm fun p hp => hg p (.inl hp)
    obtain ⟨b1, b2⟩ := there_list o o' (mapA o) (mapA o') nmA ps (fun f _ => there_A o o' f) fun p hp => hg p (.inr (.inl hp))
    obtain ⟨c1, c2⟩ := there_list o o' (mapV o) (mapV o') nmV vs (fun f _ => there_V o o' f) fun p hp => hg p (.inr (.inr (.inl hp)))
    obtain ⟨d1, d2⟩ := there_Rs inner fun p hp => hg p (.inr (.inr (.inr (.inl hp))))
    obtain ⟨f1, f2⟩ := there_Ss o o' body fun p hp => hg p (.inr (.inr (.inr (.inr hp))))
    refine ⟨by simp only [mapR, nmR, a, b1, c1, d1, f1, List.map_append], fun hb => ?_⟩
    simp only [nmR, List.mem_append] at hb
    simp only [mapR, mapN_back o o' nm (fun p hp => hg p (.inl hp)) fun p hp => hb p (.inl hp), b2 fun p hp => hb p (.inr (.inl hp)), c2 fun p hp => hb p (.inr (.inr (.inl hp))), d2 fun p hp => hb p (.inr (.inr (.inr (.inl hp)))), f2 fun p hp => hb p (.inr (.inr (.inr (.inr hp))))]
theorem there_Rs : ∀ l : List TRoutine, thereP o o' (mapRs o) (mapRs o') nmRs l
  | [] => fun _ => ⟨rfl, fun _ => rfl⟩
  | x :: r => fun hg => by
    simp only [nmRs, List.mem_append] at hg
    obtain ⟨a1, a2⟩ := there_R x fun p hp => hg p (.inl hp)
    obtain ⟨b1, b2⟩ := there_Rs r fun p hp => hg p (.inr hp)
    refine ⟨by simp only [mapRs, nmRs, a1, b1, List.map_append], fun hb => ?_⟩
    simp only [nmRs, List.mem_append] at hb
    simp only [mapRs, a2 fun p hp => hb p (.inl hp), b2 fun p hp => hb p (.inr hp)]
end
theorem there_P (p : TProgram) : thereP o o' (mapP o) (mapP o') nmP' p := fun hg => by
  simp only [nmP', List.mem_append] at hg
  have a := pts_mapN o p.Name fun q hq => hg q (.inl hq)
  obtain ⟨b1, b2⟩ := there_list o o' (mapC o) (mapC o') nmC p.Recs (fun f _ => there_C o o' f) fun q hq => hg q (.inr (.inl hq))
  obtain ⟨c1, c2⟩ := there_list o o' (mapV o) (mapV o') nmV p.Vars (fun f _ => there_V o o' f) fun q hq => hg q (.inr (.inr (.inl hq)))
  obtain ⟨d1, d2⟩ := there_Rs o o' p.Routines fun q hq => hg q (.inr (.inr (.inr (.inl hq))))
  obtain ⟨f1, f2⟩ := there_Ss o o' p.Body fun q hq => hg q (.inr (.inr (.inr (.inr hq))))
  refine ⟨by simp only [mapP, nmP', a, b1, c1, d1, f1, List.map_append], fun hb => ?_⟩
  simp only [nmP', List.mem_append] at hb
  simp only [mapP, mapN_back o o' p.Name (fun q hq => hg q (.inl hq)) fun q hq => hb q (.inl hq), b2 fun q hq => hb q (.inr (.inl hq)), c2 fun q hq => hb q (.inr (.inr (.inl hq))), d2 fun q hq => hb q (.inr (.inr (.inr (.inl hq)))), f2 fun q hq => hb q (.inr (.inr (.inr (.inr hq))))]
end
end Go.Ev
end
section
open Go
namespace Go.Ev
open Go.Proofs.YtlepjafokfhnfaaDoor
set_option maxRecDepth 100000
set_option maxHeartbeats 4000000
set_option linter.unusedVariables false
set_option linter.unusedSimpArgs false
mutual
theorem grow_E (o : ByteArray → ByteArray) (ho : growO o) : ∀ e : TExpr, bk_TExpr (mapE o e) ≤ 5 * bk_TExpr e
  | ⟨op, n, nm, f, l⟩ => by
    have a := mapN_size o ho nm
    have b := mapN_size o ho f
    have c := grow_Es o ho l
    simp only [mapE, bk_TExpr]
    omega
theorem grow_Es (o : ByteArray → ByteArray) (ho : growO o) : ∀ l : List TExpr, bks_TExpr (mapEs o l) ≤ 5 * bks_TExpr l
  | [] => Nat.zero_le _
  | x :: r => by
    have a := grow_E o ho x
    have b := grow_Es o ho r
    simp only [mapEs, bks_TExpr]
    omega
end
theorem grow_list {α : Type} (m : α → α) (w : α → Nat) (h : ∀ x, w (m x) ≤ 5 * w x) : ∀ l : List α, ((l.map m).map w).sum ≤ 5 * (l.map w).sum
  | [] => by simp
  | x :: r => by
    have a := h x
    have b := grow_list m w h r
    simp only [List.map_cons, List.sum_cons]
    omega
theorem grow_V (o : ByteArray → ByteArray) (ho : growO o) (v : TVar) : bk_TVar (mapV o v) ≤ 5 * bk_TVar v := by
  obtain ⟨a1, a2, a3, a4, a5, a6⟩ := v
  have a := mapN_size o ho a3
  have b := mapN_size o ho a6
  simp only [mapV, bk_TVar]
  omega
theorem grow_A (o : ByteArray → ByteArray) (ho : growO o) (v : TParam) : bk_TParam (mapA o v) ≤ 5 * bk_TParam v := by
  obtain ⟨a1, a2, a3, a4, a5⟩ := v
  have a := mapN_size o ho a1
  have b := mapN_size o ho a4
  simp only [mapA, bk_TParam]
  omega
theorem grow_F (o : ByteArray → ByteArray) (ho : growO o) (v : TField) : bk_TField (mapF o v) ≤ 5 * bk_TField v := by
  obtain ⟨a1, a2, a3, a4⟩ := v
  have a := mapN_size o ho a3
  simp only [mapF, bk_TField]
  omega
theorem grow_C (o : ByteArray → ByteArray) (ho : growO o) (v : TRec) : bk_TRec (mapC o v) ≤ 5 * bk_TRec v := by
  obtain ⟨a1, a2, a3, a4, a5⟩ := v
  have a := mapN_size o ho a3
  have b := grow_list (mapF o) bk_TField (grow_F o ho) a4
  simp only [mapC, bk_TRec, bks_TField_eq]
  omega
mutual
theorem grow_S (o : ByteArray → ByteArray) (ho : growO o) : ∀ e : TStmt, bk_TStmt (mapS o e) ≤ 5 * bk_TStmt e
  | ⟨mb, mt, op, nm, po, pn, pnm, pf, pl, E, down, more, body, els, e1, e2⟩ => by
    have a := mapN_size o ho nm
    have b := mapN_size o ho pnm
    have b' := mapN_size o ho pf
    have c := grow_Es o ho pl
    have d := grow_Es o ho E
    have e := grow_Ss o ho body
    have f := grow_Ss o ho els
    simp only [mapS, bk_TStmt]
    omega
theorem grow_Ss (o : ByteArray → ByteArray) (ho : growO o) : ∀ l : List TStmt, bks_TStmt (mapSs o l) ≤ 5 * bks_TStmt l
  | [] => Nat.zero_le _
  | x :: r => by
    have a := grow_S o ho x
    have b := grow_Ss o ho r
    simp only [mapSs, bks_TStmt]
    omega
end
mutual
theorem grow_R (o : ByteArray → ByteArray) (ho : growO o) : ∀ e : TRoutine, bk_TRoutine (mapR o e) ≤ 5 * bk_TRoutine e
  | ⟨mb, mt, nm, res, ps, vs, inner, body, e⟩ => by
    have a := mapN_size o ho nm
    have b := grow_list (mapA o) bk_TParam (grow_A o ho) ps
    have c := grow_list (mapV o) bk_TVar (grow_V o ho) vs
    have d := grow_Rs o ho inner
    have e := grow_Ss o ho body
    simp only [mapR, bk_TRoutine, bks_TParam_eq, bks_TVar_eq]
    omega
theorem grow_Rs (o : ByteArray → ByteArray) (ho : growO o) : ∀ l : List TRoutine, bks_TRoutine (mapRs o l) ≤ 5 * bks_TRoutine l
  | [] => Nat.zero_le _
  | x :: r => by
    have a := grow_R o ho x
    have b := grow_Rs o ho r
    simp only [mapRs, bks_TRoutine]
    omega
end
theorem grow_P (o : ByteArray → ByteArray) (ho : growO o) (v : TProgram) : bk_TProgram (mapP o v) ≤ 5 * bk_TProgram v := by
  obtain ⟨a1, a2, a3, a4, a5, a6, a7, a8, a9⟩ := v
  have a := mapN_size o ho a1
  have b := grow_list (mapC o) bk_TRec (grow_C o ho) a5
  have c := grow_list (mapV o) bk_TVar (grow_V o ho) a6
  have d := grow_Rs o ho a7
  have e := grow_Ss o ho a8
  simp only [mapP, bk_TProgram, bks_TRec_eq, bks_TVar_eq]
  omega
theorem pts_mem {s q : ByteArray} (h : q ∈ pts s) : q.size ≠ 0 ∧ q.size ≤ s.size := by
  obtain ⟨h1, h2⟩ := mem_pts.1 h
  exact ⟨h2, cutP_mem s q h1⟩
def okP (n : Nat) (q : ByteArray) : Prop := q.size ≠ 0 ∧ q.size ≤ n
theorem okP_mono {n m : Nat} {q : ByteArray} (h : okP n q) (hm : n ≤ m) : okP m q := ⟨h.1, Nat.le_trans h.2 hm⟩
theorem okP_pts {s q : ByteArray} {m : Nat} (h : q ∈ pts s) (hm : s.size ≤ m) : okP m q := okP_mono (pts_mem h) hm
theorem okP_list {α : Type} (nm : α → List ByteArray) (w : α → Nat) (h : ∀ x, ∀ q ∈ nm x, okP (w x) q) : ∀ l : List α, ∀ q ∈ l.flatMap nm, okP (l.map w).sum q
  | [], q, hq => by simp at hq
  | x :: r, q, hq => by
    simp only [List.flatMap_cons, List.mem_append] at hq
    simp only [List.map_cons, List.sum_cons]
    rcases hq with hq | hq
    · exact okP_mono (h x q hq) (by omega)
    · exact okP_mono (okP_list nm w h r q hq) (by omega)
mutual
theorem okP_E : ∀ e : TExpr, ∀ q ∈ nmE e, okP (bk_TExpr e) q
  | ⟨op, n, nm, f, l⟩, q, hq => by
    simp only [nmE, List.mem_append] at hq
    simp only [bk_TExpr]
    rcases hq with hq | hq | hq
    · exact okP_pts hq (by omega)
    · exact okP_pts hq (by omega)
    · exact okP_mono (okP_Es l q hq) (by omega)
theorem okP_Es : ∀ l : List TExpr, ∀ q ∈ nmEs l, okP (bks_TExpr l) q
  | [], q, hq => by simp [nmEs] at hq
  | x :: r, q, hq => by
    simp only [nmEs, List.mem_append] at hq
    simp only [bks_TExpr]
    rcases hq with hq | hq
    · exact okP_mono (okP_E x q hq) (by omega)
    · exact okP_mono (okP_Es r q hq) (by omega)
end
theorem okP_V (v : TVar) : ∀ q ∈ nmV v, okP (bk_TVar v) q := by
  obtain ⟨a1, a2, a3, a4, a5, a6⟩ := v
  intro q hq
  simp only [nmV, List.mem_append] at hq
  simp only [bk_TVar]
  rcases hq with hq | hq <;> exact okP_pts hq (by omega)
theorem okP_A (v : TParam) : ∀ q ∈ nmA v, okP (bk_TParam v) q := by
  obtain ⟨a1, a2, a3, a4, a5⟩ := v
  intro q hq
  simp only [nmA, List.mem_append] at hq
  simp only [bk_TParam]
  rcases hq with hq | hq <;> exact okP_pts hq (by omega)
theorem okP_F (v : TField) : ∀ q ∈ nmF v, okP (bk_TField v) q := by
  obtain ⟨a1, a2, a3, a4⟩ := v
  intro q hq
  simp only [nmF] at hq
  simp only [bk_TField]
  exact okP_pts hq (by omega)
theorem okP_C (v : TRec) : ∀ q ∈ nmC v, okP (bk_TRec v) q := by
  obtain ⟨a1, a2, a3, a4, a5⟩ := v
  intro q hq
  simp only [nmC, List.mem_append] at hq
  simp only [bk_TRec, bks_TField_eq]
  rcases hq with hq | hq
  · exact okP_pts hq (by omega)
  · exact okP_mono (okP_list nmF bk_TField okP_F a4 q hq) (by omega)
mutual
theorem okP_S : ∀ e : TStmt, ∀ q ∈ nmS e, okP (bk_TStmt e) q
  | ⟨mb, mt, op, nm, po, pn, pnm, pf, pl, E, down, more, body, els, e1, e2⟩, q, hq => by
    simp only [nmS, nmE, List.mem_append] at hq
    simp only [bk_TStmt]
    rcases hq with hq | (hq | hq | hq) | hq | hq | hq
    · exact okP_pts hq (by omega)
    · exact okP_pts hq (by omega)
    · exact okP_pts hq (by omega)
    · exact okP_mono (okP_Es pl q hq) (by omega)
    · exact okP_mono (okP_Es E q hq) (by omega)
    · exact okP_mono (okP_Ss body q hq) (by omega)
    · exact okP_mono (okP_Ss els q hq) (by omega)
theorem okP_Ss : ∀ l : List TStmt, ∀ q ∈ nmSs l, okP (bks_TStmt l) q
  | [], q, hq => by simp [nmSs] at hq
  | x :: r, q, hq => by
    simp only [nmSs, List.mem_append] at hq
    simp only [bks_TStmt]
    rcases hq with hq | hq
    · exact okP_mono (okP_S x q hq) (by omega)
    · exact okP_mono (okP_Ss r q hq) (by omega)
end
mutual
theorem okP_R : ∀ e : TRoutine, ∀ q ∈ nmR e, okP (bk_TRoutine e) q
  | ⟨mb, mt, nm, res, ps, vs, inner, body, e⟩, q, hq => by
    simp only [nmR, List.mem_append] at hq
    simp only [bk_TRoutine, bks_TParam_eq, bks_TVar_eq]
    rcases hq with hq | hq | hq | hq | hq
    · exact okP_pts hq (by omega)
    · exact okP_mono (okP_list nmA bk_TParam okP_A ps q hq) (by omega)
    · exact okP_mono (okP_list nmV bk_TVar okP_V vs q hq) (by omega)
    · exact okP_mono (okP_Rs inner q hq) (by omega)
    · exact okP_mono (okP_Ss body q hq) (by omega)
theorem okP_Rs : ∀ l : List TRoutine, ∀ q ∈ nmRs l, okP (bks_TRoutine l) q
  | [], q, hq => by simp [nmRs] at hq
  | x :: r, q, hq => by
    simp only [nmRs, List.mem_append] at hq
    simp only [bks_TRoutine]
    rcases hq with hq | hq
    · exact okP_mono (okP_R x q hq) (by omega)
    · exact okP_mono (okP_Rs r q hq) (by omega)
end
theorem okP_P (v : TProgram) : ∀ q ∈ nmP' v, okP (bk_TProgram v) q := by
  obtain ⟨a1, a2, a3, a4, a5, a6, a7, a8, a9⟩ := v
  intro q hq
  simp only [nmP', List.mem_append] at hq
  simp only [bk_TProgram, bks_TRec_eq, bks_TVar_eq]
  rcases hq with hq | hq | hq | hq | hq
  · exact okP_pts hq (by omega)
  · exact okP_mono (okP_list nmC bk_TRec okP_C a5 q hq) (by omega)
  · exact okP_mono (okP_list nmV bk_TVar okP_V a6 q hq) (by omega)
  · exact okP_mono (okP_Rs a7 q hq) (by omega)
  · exact okP_mono (okP_Ss a8 q hq) (by omega)
theorem any_mem (l : List ByteArray) (p : ByteArray) : (l.any fun z => z.toList == p.toList) = true ↔ p ∈ l := by
  simp only [List.any_eq_true, ba_dc]
  constructor
  · rintro ⟨z, hz, h⟩
    rw [(dc_iff _).1 h] at hz
    exact hz
  · intro h
    exact ⟨p, h, dc_true rfl⟩
theorem addN_mem {l : List ByteArray} {p q : ByteArray} : q ∈ addN l p ↔ q ∈ l ∨ q = p := by
  unfold addN
  split
  · rename_i h
    have := (any_mem l p).1 h
    constructor
    · exact .inl
    · rintro (h | rfl)
      · exact h
      · exact this
  · simp
theorem foldN_mem : ∀ (ps l : List ByteArray) (q : ByteArray), q ∈ ps.foldl addN l ↔ q ∈ l ∨ q ∈ ps
  | [], l, q => by simp
  | p :: r, l, q => by
    rw [List.foldl_cons, foldN_mem r, addN_mem, List.mem_cons, or_assoc]
theorem foldN_map (o : ByteArray → ByteArray) : ∀ (ps l : List ByteArray), (∀ a b, (a ∈ l ∨ a ∈ ps) → (b ∈ l ∨ b ∈ ps) → o a = o b → a = b) → (ps.map o).foldl addN (l.map o) = (ps.foldl addN l).map o
  | [], l, _ => rfl
  | p :: r, l, h => by
    have h1 : addN (l.map o) (o p) = (addN l p).map o := by
      unfold addN
      by_cases hp : p ∈ l
      · rw [if_pos ((any_mem _ _).2 (List.mem_map_of_mem hp)), if_pos ((any_mem _ _).2 hp)]
      · rw [if_neg (fun hx => ?_), if_neg (fun hx => hp ((any_mem _ _).1 hx)), List.map_append]
        · rfl
        · obtain ⟨z, hz, hzp⟩ := List.mem_map.1 ((any_mem _ _).1 hx)
          exact hp (h z p (.inl hz) (.inr List.mem_cons_self) hzp ▸ hz)
    rw [List.map_cons, List.foldl_cons, h1, foldN_map o r (addN l p) (fun a b ha hb hab => h a b ?_ ?_ hab), List.foldl_cons]
    · rw [addN_mem] at ha
      simp only [List.mem_cons]
      rcases ha with (ha | ha) | ha
      · exact .inl ha
      · exact .inr (.inl ha)
      · exact .inr (.inr ha)
    · rw [addN_mem] at hb
      simp only [List.mem_cons]
      rcases hb with (ha | ha) | ha
      · exact .inl ha
      · exact .inr (.inl ha)
      · exact .inr (.inr ha)
def digB (i : Nat) : ByteArray := if i < 10 then ⟨#[UInt8.ofNat (48 + i)]⟩ else if i < 100 then ⟨#[UInt8.ofNat (48 + i / 10), UInt8.ofNat (48 + i % 10)]⟩ else ⟨#[UInt8.ofNat (48 + i / 100), UInt8.ofNat (48 + i / 10 % 10), UInt8.ofNat (48 + i % 10)]⟩
def decB (s : ByteArray) : Nat := s.data.toList.foldl (fun a c => if c = 126 then a else a * 10 + (c.toNat - 48)) 0
end Go.Ev
end
