/- The sink: a strings.Builder that stands in a struct. What a sink is in memory, what its calls leave as it was, and the contracts of the Builder's methods at it. -/
import Derived.Test.YtchdcklalgadhaaWMore
import Derived.Lib.FrozenHead
import Derived.Lib.Builder
import Derived.Lib.UnsafeStr
import Derived.Lib.AppendStr
import Derived.Lib.OthersKept
import Derived.Shelf.Strings.Builder1
import Derived.Shelf.RegionOpenPlain
import Derived.WalkKit
import Derived.Laws.Externs
import Derived.Lib.Hide
import Derived.Outline
import Derived.Test.YtchdcklalgadhaaProg
set_option linter.unusedVariables false
namespace Go.Proofs.Ytchdcklalgadhaa.Sk
open Go.RowKit Go.Proofs.YtchdcklalgadhaaW.PrintWords Go.Proofs.YtchdcklalgadhaaW.PrintLast Go.Proofs.YtchdcklalgadhaaW.PrintMore

/-- Only block g, the row, and new blocks may be other than they were. -/
structure Fr (g : Nat) (row : Option Nat) (w w' : World) : Prop where
  os : w'.os = w.os
  tape : w'.tape = w.tape
  output : w'.output = w.output
  size : w.heap.size ≤ w'.heap.size
  block : ∀ k, k < w.heap.size → k ≠ g → some k ≠ row → w'.heap[k]? = w.heap[k]?
theorem Fr.refl (g : Nat) (row : Option Nat) (w : World) : Fr g row w w := ⟨rfl, rfl, rfl, Nat.le_refl _, fun _ _ _ _ => rfl⟩
theorem Fr.of_below {w w' : World} (g : Nat) (row : Option Nat) (h : Below w.heap.size w w') : Fr g row w w' := ⟨h.os, h.tape, h.output, h.size, fun k hk _ _ => h.block k hk⟩
theorem Fr.of_grown {w w' : World} (g : Nat) {row : Option Nat} (h : w.grownBy w' row) : Fr g row w w' := ⟨h.os, h.tape, h.output, h.size, fun k hk _ hr => h.block k hk hr⟩
theorem Fr.of_set {g : Nat} (row : Option Nat) (w : World) (p : Addr) (hp : p.block = g) (u : Value) : Fr g row w (w.setCell p u) :=
  ⟨rfl, rfl, rfl, by simp [World.setCell], fun k _ hk _ => Below.heap_setCell w p u k (by rw [hp]; exact hk)⟩
theorem Fr.drew {g : Nat} {row : Option Nat} {w w' : World} (h : Fr g row w w') : Fr g row w w'.drew := ⟨h.os, h.tape, h.output, h.size, h.block⟩
theorem Fr.drewN {g : Nat} {row : Option Nat} {w w' : World} (h : Fr g row w w') (n : Nat) : Fr g row w (w'.drewN n) := ⟨h.os, h.tape, h.output, h.size, h.block⟩
theorem Fr.weak {g : Nat} {w w' : World} (h : Fr g none w w') (row : Option Nat) : Fr g row w w' := ⟨h.os, h.tape, h.output, h.size, fun k hk hg _ => h.block k hk hg (by simp)⟩
/-- The row is the same one, or none, or a new one. -/
def RowTo (r r' : Option Nat) (w : World) : Prop := r' = r ∨ r' = none ∨ ∃ q, r' = some q ∧ w.heap.size ≤ q
theorem RowTo.refl (r : Option Nat) (w : World) : RowTo r r w := .inl rfl
theorem RowTo.trans {r r1 r2 : Option Nat} {a b : World} (h : RowTo r r1 a) (k : RowTo r1 r2 b) (hs : a.heap.size ≤ b.heap.size) : RowTo r r2 a := by
  rcases k with rfl | rfl | ⟨q, rfl, hq⟩
  · exact h
  · exact .inr (.inl rfl)
  · exact .inr (.inr ⟨q, rfl, Nat.le_trans hs hq⟩)
theorem RowTo.ne {r r' : Option Nat} {w : World} (h : RowTo r r' w) {k : Nat} (hk : k < w.heap.size) (hne : some k ≠ r) : some k ≠ r' := by
  rcases h with rfl | rfl | ⟨q, rfl, hq⟩
  · exact hne
  · simp
  · intro e; have := Option.some.inj e; omega
theorem Fr.trans {g : Nat} {r r' : Option Nat} {a b c : World} (h : Fr g r a b) (k : Fr g r' b c) (hr : RowTo r r' a) : Fr g r a c :=
  ⟨k.os.trans h.os, k.tape.trans h.tape, k.output.trans h.output, Nat.le_trans h.size k.size, fun i hi hg hne => by
    rw [k.block i (Nat.lt_of_lt_of_le hi h.size) hg (hr.ne hi hne)]
    exact h.block i hi hg hne⟩
theorem Fr.below {B g : Nat} {row : Option Nat} {w w' : World} (h : Fr g row w w') (hg : B ≤ g) (hr : ∀ k, row = some k → B ≤ k) (hB : B ≤ w.heap.size) : Below B w w' :=
  ⟨h.os, h.tape, h.output, h.size, fun k hk => h.block k (by omega) (by omega) (fun e => by have := hr k e.symm; omega)⟩

/-- A sink at block g: its buffer's value, its bytes, its three fields. -/
def Sk (B g : Nat) (v : Value) (bs : List UInt8) (most deep : Int) (full : Bool) (w : World) : Prop :=
  B ≤ g ∧ (∃ p, (p = .pointer none ∨ p = .pointer (some ⟨g, 0, none⟩)) ∧ w.heap[g]? = some (.cells #[p, v, .int .i64 most, .int .i64 deep, .bool full] 47 (0, 0))) ∧ w.ownsRowF B 5 1 v bs.length (Lib.byteCells bs)
/-- What a call leaves of it. -/
def To (B g : Nat) (v : Value) (bs : List UInt8) (most deep : Int) (full : Bool) (w w' : World) : Prop :=
  ∃ v', Sk B g v' bs most deep full w' ∧ Fr g v.ownBlock w w' ∧ RowTo v.ownBlock v'.ownBlock w

section
variable {B g : Nat} {v : Value} {bs : List UInt8} {most deep : Int} {full : Bool} {w w1 : World}
theorem Sk.lt (h : Sk B g v bs most deep full w) : g < w.heap.size := by
  obtain ⟨_, ⟨p, _, hk⟩, _⟩ := h
  exact blk_lt hk
theorem Sk.ne (h : Sk B g v bs most deep full w) : v.ownBlock ≠ some g := by
  obtain ⟨_, ⟨p, _, hk⟩, ho⟩ := h
  exact Lib.ownBlock_neF ho hk (by decide)
theorem Sk.base (h : Sk B g v bs most deep full w) : ∀ k, v.ownBlock = some k → B ≤ k ∧ k < w.heap.size := h.2.2.lt
theorem Sk.below (h : Sk B g v bs most deep full w) (hb : Below w.heap.size w w1) : Sk B g v bs most deep full w1 := by
  have hlt := h.lt
  obtain ⟨hB, ⟨p, hp, hk⟩, ho⟩ := h
  exact ⟨hB, ⟨p, hp, (hb.block g hlt).trans hk⟩, ho.kept (grown_of_below hb none) (by cases hv : v.ownBlock <;> simp)⟩
theorem Sk.alloc (h : Sk B g v bs most deep full w) (o : Obj) : Sk B g v bs most deep full (w.alloc o) := h.below (below_alloc (Below.refl _ _) o)
theorem Sk.drew (h : Sk B g v bs most deep full w) : Sk B g v bs most deep full w.drew := h
theorem Sk.drewN (h : Sk B g v bs most deep full w) (n : Nat) : Sk B g v bs most deep full (w.drewN n) := h
/-- Another sink's call leaves it as it was. -/
theorem Sk.fr {g2 : Nat} {row : Option Nat} (h : Sk B g v bs most deep full w) (hf : Fr g2 row w w1) (h1 : g ≠ g2) (h2 : some g ≠ row) (h3 : v.ownBlock ≠ some g2) (h4 : v.ownBlock = none ∨ v.ownBlock ≠ row) : Sk B g v bs most deep full w1 := by
  have hlt := h.lt
  obtain ⟨hB, ⟨p, hp, hk⟩, ho⟩ := h
  refine ⟨hB, ⟨p, hp, (hf.block g hlt h1 h2).trans hk⟩, ho.1, ?_⟩
  rcases ho.2 with hn | ⟨q, cap, cur, fz, rfl, hbq, hq, rest⟩
  · exact .inl hn
  · refine .inr ⟨q, cap, cur, fz, rfl, hbq, ?_, rest⟩
    have hq2 : q ≠ g2 := fun e => h3 (by rw [e]; rfl)
    have hq3 : some q ≠ row := by
      rcases h4 with h4 | h4
      · cases h4
      · exact fun e => h4 e
    exact (hf.block q (blk_lt hq) hq2 hq3).trans hq
theorem Sk.cell0 (h : Sk B g v bs most deep full w) : w.cell? ⟨g, 1, none⟩ = some v ∧ w.cell? ⟨g, 2, none⟩ = some (.int .i64 most) ∧ w.cell? ⟨g, 3, none⟩ = some (.int .i64 deep) ∧ w.cell? ⟨g, 4, none⟩ = some (.bool full) := by
  obtain ⟨_, ⟨p, _, hk⟩, _⟩ := h
  exact ⟨(blk_cell hk 1).trans rfl, (blk_cell hk 2).trans rfl, (blk_cell hk 3).trans rfl, (blk_cell hk 4).trans rfl⟩
theorem Sk.frozen (h : Sk B g v bs most deep full w) (i : Nat) : w.frozen? ⟨g, i, none⟩ = false := by
  obtain ⟨_, ⟨p, _, hk⟩, _⟩ := h
  exact blk_frozen hk i
theorem Sk.setDeep (h : Sk B g v bs most deep full w) (d : Int) : Sk B g v bs most d full (w.setCell ⟨g, 3, none⟩ (.int .i64 d)) := by
  have hne := h.ne
  obtain ⟨hB, ⟨p, hp, hk⟩, ho⟩ := h
  refine ⟨hB, ⟨p, hp, by simpa using blk_set hk 3 (.int .i64 d)⟩, ?_⟩
  exact ho.kept (row := some g) ⟨rfl, rfl, rfl, by simp [World.setCell], fun k _ hk => Below.heap_setCell _ _ _ _ (fun e => hk (by simp [e]))⟩ (.inr hne)
theorem Sk.setFull (h : Sk B g v bs most deep full w) (d : Bool) : Sk B g v bs most deep d (w.setCell ⟨g, 4, none⟩ (.bool d)) := by
  have hne := h.ne
  obtain ⟨hB, ⟨p, hp, hk⟩, ho⟩ := h
  refine ⟨hB, ⟨p, hp, by simpa using blk_set hk 4 (.bool d)⟩, ?_⟩
  exact ho.kept (row := some g) ⟨rfl, rfl, rfl, by simp [World.setCell], fun k _ hk => Below.heap_setCell _ _ _ _ (fun e => hk (by simp [e]))⟩ (.inr hne)
theorem To.same (h : Sk B g v bs most deep full w) : To B g v bs most deep full w w := ⟨v, h, Fr.refl _ _ _, .inl rfl⟩
theorem To.belowTo (h : Sk B g v bs most deep full w) (hb : Below w.heap.size w w1) : To B g v bs most deep full w w1 := ⟨v, h.below hb, Fr.of_below _ _ hb, .inl rfl⟩
end

/-! ### The library's methods at a sink -/
theorem sizeB : (Try.prog.info? 45).map (·.size) = some 2 := by kernel_rfl
theorem lies : liesAt Try.prog Try.prog.depth 47 (5 / Try.prog.cellsOf 47) 0 45 1 = true := by kernel_rfl
theorem infoByte : (Try.prog.info? 5).map (fun i => (i.zero, i.size, i.bytes)) = some (some (.int .u8 0), 1, 1) := by kernel_rfl

set_option maxHeartbeats 1000000 in
set_option maxRecDepth 100000 in
theorem copyCheck_used (b : Nat) (w : World) (h0 : w.cell? ⟨b, 0, none⟩ = some (.pointer (some ⟨b, 0, none⟩))) :
    Calls Try.prog 29 #[.pointer (some ⟨b, 0, none⟩)] w fun e w' => e = .returned (.tuple #[]) ∧ w' = w := by
  obtain ⟨j, hj, _⟩ := Option.map_eq_some_iff.1 sizeB
  go_enter Try.func29, Try.ntmps29
  go_wp2
  rw [Lib.run_neq_ptr_same w _ Try.underlying42 hj]
  go_wp2
  go_end0
  exact ⟨rfl, rfl⟩
set_option maxHeartbeats 1000000 in
set_option maxRecDepth 100000 in
theorem copyCheck_fresh (b : Nat) (w : World) (h0 : w.cell? ⟨b, 0, none⟩ = some (.pointer none)) (hsh : w.shape? b = some (47, 5)) (hfz : w.frozen? ⟨b, 0, none⟩ = false) :
    Calls Try.prog 29 #[.pointer (some ⟨b, 0, none⟩)] w fun e w' => e = .returned (.tuple #[]) ∧ w' = w.setCell ⟨b, 0, none⟩ (.pointer (some ⟨b, 0, none⟩)) := by
  obtain ⟨j, hj, hjs⟩ := Option.map_eq_some_iff.1 sizeB
  go_enter Try.func29, Try.ntmps29
  go_wp2
  rw [Lib.run_to_unsafe w ⟨b, 0, none⟩ Try.underlying42 Try.underlying62 hj (by rw [hjs]; decide) hsh (Nat.zero_lt_succ 4)]
  simp only [Result.andThen]
  rw [Oper.upon_value]
  go_wp2
  rw [run_callFunc_extern Try.func33 (by kernel_rfl) (by kernel_rfl) (by kernel_rfl) (e := Extern.AbiNoEscape.same) (by kernel_rfl)]
  rw [Lib.run_noEscape]
  simp only [Result.andThen]
  rw [Oper.upon_value]
  go_wp2
  rw [Lib.run_from_unsafe w ⟨b, 0, none⟩ Try.underlying62 Try.underlying42 hj hsh lies]
  simp only [Result.andThen]
  rw [Oper.upon_value]
  go_wp2
  go_end0
  exact ⟨rfl, rfl⟩
/-- Behind copyCheck the sink is used. -/
def Used (B g : Nat) (v : Value) (bs : List UInt8) (most deep : Int) (full : Bool) (w : World) : Prop :=
  B ≤ g ∧ w.heap[g]? = some (.cells #[.pointer (some ⟨g, 0, none⟩), v, .int .i64 most, .int .i64 deep, .bool full] 47 (0, 0)) ∧ w.ownsRowF B 5 1 v bs.length (Lib.byteCells bs)
theorem Used.sk {B g : Nat} {v : Value} {bs : List UInt8} {most deep : Int} {full : Bool} {w : World} (h : Used B g v bs most deep full w) : Sk B g v bs most deep full w := ⟨h.1, ⟨_, .inr rfl, h.2.1⟩, h.2.2⟩
theorem copyCheck_any (B g : Nat) (v : Value) (bs : List UInt8) (most deep : Int) (full : Bool) (w : World) (h : Sk B g v bs most deep full w) :
    Calls Try.prog 29 #[.pointer (some ⟨g, 0, none⟩)] w fun e w' => e = .returned (.tuple #[]) ∧ (Used B g v bs most deep full w' ∧ Fr g none w w') := by
  have hne := h.ne
  obtain ⟨hB, ⟨p, hp, hk⟩, ho⟩ := h
  rcases hp with rfl | rfl
  · refine (copyCheck_fresh g w ((blk_cell hk 0).trans rfl) (by simp [World.shape?, hk]) (blk_frozen hk 0)).mono ?_
    rintro e w' ⟨rfl, rfl⟩
    refine ⟨rfl, ⟨hB, by simpa using blk_set hk 0 (.pointer (some ⟨g, 0, none⟩)), ?_⟩, Fr.of_set (g := g) none w ⟨g, 0, none⟩ rfl _⟩
    exact ho.kept (row := some g) ⟨rfl, rfl, rfl, by simp [World.setCell], fun k _ hk => Below.heap_setCell _ _ _ _ (fun e => hk (by simp [e]))⟩ (.inr hne)
  · refine (copyCheck_used g w ((blk_cell hk 0).trans rfl)).mono ?_
    rintro e w' ⟨rfl, rfl⟩
    exact ⟨rfl, ⟨hB, hk, ho⟩, Fr.refl _ _ _⟩

/-- append onto the buffer: in place, or into a new row. -/
theorem run_append_to (w : World) (base : Nat) (ty : TypeId) (i : TypeInfo) (hi : Try.prog.info? 5 = some i) (hz : i.zero = some (.int .u8 0)) (hsize : i.size = 1) (hby : i.bytes = 1)
    (v : Value) (n : Nat) (xs : List Value) (hown : w.ownsRowF base 5 1 v n xs) (s : ByteArray) (h63 : n + s.size ≤ maxLen) (hbytes : n + s.size ≤ 140737488355328) (hbase : base ≤ w.heap.size) :
    ∃ v' w', (Builtin.append_ #[43, 9] ty #[v, .string s]).run Try.prog w = .ok v' w' ∧ w'.ownsRowF base 5 1 v' (n + s.size) (xs ++ Lib.strCells s) ∧ w.grownBy w' v.ownBlock ∧ RowTo v.ownBlock v'.ownBlock w := by
  obtain ⟨v', w', hr, h2, h3, _⟩ := Lib.run_append_own_stringF w base 43 9 ty 5 i Try.underlying43 Try.underlying9 hi hz hsize hby v n xs hown s h63 hbytes hbase
  refine ⟨v', w', hr, h2, h3, ?_⟩
  rcases hown.2 with ⟨rfl, rfl⟩ | ⟨g, cap, cur, fz, rfl, hbg, hg, hfz, hnc, hcm, hcs, htake⟩
  · -- no row yet: the law once more, with the heap's end as its base
    obtain ⟨v2, w2, hr2, k2, _, _⟩ := Lib.run_append_own_stringF w w.heap.size 43 9 ty 5 i Try.underlying43 Try.underlying9 hi hz hsize hby (.slice none 0 0) 0 xs ⟨hown.1, .inl ⟨rfl, rfl⟩⟩ s h63 hbytes (Nat.le_refl _)
    rw [hr] at hr2
    obtain ⟨rfl, rfl⟩ : v' = v2 ∧ w' = w2 := by injection hr2 with h1 h2; exact ⟨h1, h2⟩
    cases hv : v'.ownBlock with
    | none => exact .inr (.inl rfl)
    | some q => exact .inr (.inr ⟨q, rfl, (k2.lt q hv).1⟩)
  · by_cases hroom : n + s.size ≤ cap
    · have hr2 := Lib.run_append_room_stringF w 43 9 ty 5 i Try.underlying43 Try.underlying9 hi hsize g n cap cur fz hg (by simpa using hfz) s hroom (by simp at hcs; omega)
      rw [hr] at hr2
      obtain ⟨rfl, _⟩ : v' = _ ∧ w' = _ := by injection hr2 with h1 h2; exact ⟨h1, h2⟩
      exact .inl rfl
    · have hsmall : n + s.size ≤ 9223372036854775807 := by simp only [maxLen] at h63; omega
      have hxl : xs.length = n := by simpa using hown.1
      have holds : ∀ j u, xs[j]? = some u → w.cell? ((⟨g, 0, none⟩ : Addr).add j) = some u := hown.cells (g := g) rfl
      have hr2 := Lib.run_append_grow_string (P := Try.prog) w 43 9 ty 5 i (.int .u8 0) Try.underlying43 Try.underlying9 hi hz ⟨g, 0, none⟩ n cap xs (by rw [hsize]; simpa using hxl) holds s (by omega) (by omega) (by rw [hby]; exact growslice_fits (by omega) (by omega))
      rw [hr] at hr2
      obtain ⟨rfl, _⟩ : v' = _ ∧ w' = _ := by injection hr2 with h1 h2; exact ⟨h1, h2⟩
      exact .inr (.inr ⟨_, rfl, Nat.le_refl _⟩)

theorem wpList_append_to {ops : Array Oper} {rest : List Oper} {o : Oper} {a : Act} {Q : Exit → Act → World → Prop} {w : World} (hgd : o.guard = none) (sl x : Operand)
    (ho : o.op = .call { callee := .builtin .append, args := #[sl, x], argTypes := #[43, 9] })
    (base : Nat) (i : TypeInfo) (hi : Try.prog.info? 5 = some i) (hz : i.zero = some (.int .u8 0)) (hsize : i.size = 1) (hby : i.bytes = 1)
    (v : Value) (n : Nat) (xs : List Value) (hs : a.eval sl = v) (hown : w.ownsRowF base 5 1 v n xs) (s : ByteArray) (hx : a.eval x = .string s)
    (h63 : n + s.size ≤ maxLen) (hbytes : n + s.size ≤ 140737488355328) (hbase : base ≤ w.heap.size)
    (h : ∀ v' w', w'.ownsRowF base 5 1 v' (n + s.size) (xs ++ Lib.strCells s) → w.grownBy w' v.ownBlock → RowTo v.ownBlock v'.ownBlock w → wpList Try.prog ops Q rest (a.put o.dst v') w') : wpList Try.prog ops Q (o :: rest) a w := by
  refine wpList_plain hgd fun K hK => ?_
  obtain ⟨v', w', hr, h2, h3, h4⟩ := run_append_to w base o.type i hi hz hsize hby v n xs hown s h63 hbytes hbase
  unfold Oper.wp execOp
  simp only [ho, resolve, invoke, builtin, Sem.run_bind, Sem.run_pure, Result.andThen_ok, List.map_toArray, List.map_cons, List.map_nil, hs, hx, hr]
  exact hK _ _ (h v' w' h2 h3 h4)

set_option maxHeartbeats 2000000 in
set_option maxRecDepth 100000 in
theorem writeString (B g : Nat) (v : Value) (bs : List UInt8) (most deep : Int) (full : Bool) (s : ByteArray) (w : World) (h : Sk B g v bs most deep full w) (hlen : bs.length + s.size ≤ 140737488355328) (hBw : B ≤ w.heap.size) :
    Calls Try.prog 24 #[.pointer (some ⟨g, 0, none⟩), .string s] w fun e w' => e = .returned (.tuple #[.int .i64 s.size, .nilIface]) ∧ To B g v (bs ++ s.data.toList) most deep full w w' := by
  obtain ⟨i0, hi, hz0, hz1, hz2⟩ := info_parts infoByte
  have hne0 := Lib.hid h.ne
  have hglt := h.lt
  go_enter Try.func24, Try.ntmps24
  go_wp2_with (go_at_call 29; refine (copyCheck_any B g v bs most deep full _ h).mono ?_)
  rintro e w1 ⟨rfl, ⟨hB, hbk, hown⟩, hf1⟩
  have c1 : w1.cell? ⟨g, 1, none⟩ = some v := (blk_cell hbk 1).trans rfl
  go_wp2_with (at_builtin; refine wpList_append_to rfl _ _ rfl B i0 hi hz0 hz1 hz2 _ _ _ rfl hown s rfl ?c3 ?c4 ?c5 ?_)
  case c3 => unfold maxLen; omega
  case c4 => omega
  case c5 => have := hf1.size; omega
  intro v' w2 hown' hgrow hto
  have hlt : g < w1.heap.size := blk_lt hbk
  have hne := hne0.out
  have hb2 : w2.heap[g]? = some (.cells #[.pointer (some ⟨g, 0, none⟩), v, .int .i64 most, .int .i64 deep, .bool full] 47 (0, 0)) := by
    rw [hgrow.block g hlt (fun e => hne e.symm)]
    exact hbk
  have d1 : w2.cell? ⟨g, 1, none⟩ = some v := (blk_cell hb2 1).trans rfl
  have f1 : w2.frozen? ⟨g, 1, none⟩ = false := blk_frozen hb2 1
  obtain ⟨ao, n', cap, rfl⟩ : ∃ ao n' cap, v' = .slice ao n' cap := by
    rcases hown'.2 with ⟨hv, _⟩ | ⟨g, cap, cur, fz, hv, _⟩
    · exact ⟨_, _, _, hv⟩
    · exact ⟨_, _, _, hv⟩
  clear hne c1
  go_wp2
  go_ret2
  refine ⟨rfl, _, ⟨hB, ⟨_, .inr rfl, by simpa using blk_set hb2 1 (.slice ao n' cap)⟩, ?_⟩, ?_, ?_⟩
  · have h2 : w2.ownsRowF B 5 1 (.slice ao n' cap) (bs ++ s.data.toList).length (Lib.byteCells (bs ++ s.data.toList)) := by
      rw [Lib.byteCells_append, List.length_append, data_length]; exact hown'
    exact h2.kept (row := some g) ⟨rfl, rfl, rfl, by simp [World.setCell], fun k _ hk => Below.heap_setCell _ _ _ _ (fun e => hk (by simp [e]))⟩ (.inr (Lib.ownBlock_neF h2 hb2 (by decide)))
  · exact Fr.trans ((hf1.weak v.ownBlock).trans (Fr.of_grown g hgrow) (.inl rfl)) (Fr.of_set (g := g) none _ ⟨g, 1, none⟩ rfl _) (.inr (.inl rfl))
  · rcases hto with h | h | ⟨q, h, hq⟩
    · exact .inl h
    · exact .inr (.inl h)
    · exact .inr (.inr ⟨q, h, Nat.le_trans hf1.size hq⟩)

set_option maxHeartbeats 1000000 in
theorem len_any (B g : Nat) (v : Value) (bs : List UInt8) (most deep : Int) (full : Bool) (w : World) (h : Sk B g v bs most deep full w) :
    Calls Try.prog 23 #[.pointer (some ⟨g, 0, none⟩)] w fun e w' => e = .returned (.int .i64 bs.length) ∧ w' = w := by
  obtain ⟨hB, ⟨p, hp, hk⟩, ho⟩ := h
  obtain ⟨ao, cap, rfl⟩ : ∃ ao cap, v = .slice ao bs.length cap := by
    rcases ho.2 with ⟨hv, h0⟩ | ⟨g, cap, cur, fz, hv, _⟩
    · exact ⟨none, 0, by rw [hv, h0]⟩
    · exact ⟨_, _, hv⟩
  have c1 : w.cell? ⟨g, 1, none⟩ = some (.slice ao bs.length cap) := (blk_cell hk 1).trans rfl
  go_enter Try.func23, Try.ntmps23
  go_wp2
  go_ret
  exact ⟨rfl, rfl⟩

end Go.Proofs.Ytchdcklalgadhaa.Sk
