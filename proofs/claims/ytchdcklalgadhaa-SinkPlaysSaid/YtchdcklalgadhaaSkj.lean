/- The sink and the document's sink, side by side. -/
import Derived.Test.YtchdcklalgadhaaSkr
set_option linter.unusedVariables false
set_option linter.unusedSimpArgs false
namespace Go.Proofs.Ytchdcklalgadhaa.Sk
open Go.RowKit Go.Proofs.YtchdcklalgadhaaW.PrintWords Go.Proofs.YtchdcklalgadhaaW.PrintLast Go.Proofs.YtchdcklalgadhaaW.PrintMore Go.Proofs.Ytchdcklalgadhaa.R

/-- Both, behind w0; v is the sink's buffer. -/
def JC (w0 : World) (g gx : Nat) (M : Int) (v : Value) (bs : List UInt8) (d : Int) (f : Bool) (xs : List UInt8) (xd : Int) (xf : Bool) (w : World) : Prop :=
  Sk w0.heap.size g v bs (max M 0) d f w ∧ X gx M xd xf ⟨xs.toArray⟩ w ∧ gx ≠ g ∧ some gx ≠ v.ownBlock ∧ w0.heap.size ≤ gx ∧ Below w0.heap.size w0 w
def J0 (w0 : World) (g gx : Nat) (M : Int) (bs : List UInt8) (d : Int) (f : Bool) (xs : List UInt8) (xd : Int) (xf : Bool) (w : World) : Prop := ∃ v, JC w0 g gx M v bs d f xs xd xf w
/-- And a box of the call's own. -/
def J (w0 : World) (g gx bx : Nat) (ob : Obj) (M : Int) (bs : List UInt8) (d : Int) (f : Bool) (xs : List UInt8) (xd : Int) (xf : Bool) (w : World) : Prop :=
  ∃ v, JC w0 g gx M v bs d f xs xd xf w ∧ w.heap[bx]? = some ob ∧ bx ≠ g ∧ bx ≠ gx ∧ some bx ≠ v.ownBlock
theorem blk_lt' {w : World} {k : Nat} {ob : Obj} (h : w.heap[k]? = some ob) : k < w.heap.size := (Array.getElem?_eq_some_iff.1 h).1
/-- A row of texts stays one. -/
def Keep (w w' : World) : Prop := ∀ base v xs, Kd.string.R 9 w base Any1 v xs → Kd.string.R 9 w' base Any1 v xs
theorem Keep.below {w w' : World} (hb : Below w.heap.size w w') : Keep w w' := fun _ _ _ h => Kd.R_below h hb
section
variable {w0 w w1 : World} {g gx bx : Nat} {ob : Obj} {M : Int} {bs bs' : List UInt8} {d d' : Int} {f f' : Bool} {xs xs' : List UInt8} {xd xd' : Int} {xf xf' : Bool} {v : Value}
theorem J.j0 (h : J w0 g gx bx ob M bs d f xs xd xf w) : J0 w0 g gx M bs d f xs xd xf w := by obtain ⟨v, h, _⟩ := h; exact ⟨v, h⟩
theorem J0.bel (h : J0 w0 g gx M bs d f xs xd xf w) : Below w0.heap.size w0 w := by obtain ⟨v, _, _, _, _, _, h⟩ := h; exact h
theorem J.bel (h : J w0 g gx bx ob M bs d f xs xd xf w) : Below w0.heap.size w0 w := h.j0.bel
theorem J0.xcells (h : J0 w0 g gx M bs d f xs xd xf w) : w.cell? ⟨gx, 0, none⟩ = some (.int .i64 M) ∧ w.cell? ⟨gx, 1, none⟩ = some (.int .i64 xd) ∧ w.cell? ⟨gx, 2, none⟩ = some (.bool xf) ∧ w.cell? ⟨gx, 3, none⟩ = some (.string ⟨xs.toArray⟩) := by
  obtain ⟨v, _, hx, _⟩ := h; exact hx.cells
theorem J0.xfrozen (h : J0 w0 g gx M bs d f xs xd xf w) (i : Nat) : w.frozen? ⟨gx, i, none⟩ = false := by
  obtain ⟨v, _, hx, _⟩ := h; exact hx.frozen i
theorem J.box (h : J w0 g gx bx ob M bs d f xs xd xf w) : w.heap[bx]? = some ob := by obtain ⟨v, _, h, _⟩ := h; exact h
theorem JC.below (h : JC w0 g gx M v bs d f xs xd xf w) (hb : Below w.heap.size w w1) : JC w0 g gx M v bs d f xs xd xf w1 := by
  obtain ⟨h1, h2, h3, h4, h5, h6⟩ := h
  exact ⟨h1.below hb, h2.below hb, h3, h4, h5, below_weaken h6 h6.size hb⟩
theorem J0.below (h : J0 w0 g gx M bs d f xs xd xf w) (hb : Below w.heap.size w w1) : J0 w0 g gx M bs d f xs xd xf w1 := by
  obtain ⟨v, h⟩ := h; exact ⟨v, h.below hb⟩
theorem J.below (h : J w0 g gx bx ob M bs d f xs xd xf w) (hb : Below w.heap.size w w1) : J w0 g gx bx ob M bs d f xs xd xf w1 := by
  obtain ⟨v, h, hbx, h1, h2, h3⟩ := h
  exact ⟨v, h.below hb, (hb.block bx (blk_lt' hbx)).trans hbx, h1, h2, h3⟩
/-- The box is laid. -/
theorem J0.boxed (h : J0 w0 g gx M bs d f xs xd xf w) (ob : Obj) : J w0 g gx w.heap.size ob M bs d f xs xd xf (w.alloc ob) := by
  obtain ⟨v, h⟩ := h
  have hs := h.1
  have hx := h.2.1
  refine ⟨v, h.below (below_alloc (Below.refl _ _) ob), heap_alloc_new w ob, ?_, ?_, ?_⟩
  · have := hs.lt; omega
  · have := hx.lt; omega
  · intro e; have := hs.base _ e.symm; omega
/-- A call at the sink. -/
theorem J.to (h : JC w0 g gx M v bs d f xs xd xf w) (hbx : w.heap[bx]? = some ob) (h1 : bx ≠ g) (h2 : bx ≠ gx) (h3 : some bx ≠ v.ownBlock) (ht : To w0.heap.size g v bs' (max M 0) d' f' w w1) :
    J w0 g gx bx ob M bs' d' f' xs xd xf w1 ∧ Keep w w1 := by
  obtain ⟨hs, hx, h4, h5, h6, h7⟩ := h
  obtain ⟨v', hs', hf, hr⟩ := ht
  refine ⟨⟨v', ⟨hs', (hf.block gx hx.lt h4 h5).trans hx, h4, hr.ne hx.lt h5, h6, h7.trans (hf.below hs.1 (fun k hk => (hs.base k hk).1) h7.size)⟩, (hf.block bx (blk_lt' hbx) h1 h3).trans hbx, h1, h2, hr.ne (blk_lt' hbx) h3⟩, ?_⟩
  exact fun base u ys hR => R_fr hs hR hf
/-- A call at the document's sink. -/
theorem J.fx (h : J w0 g gx bx ob M bs d f xs xd xf w) (hx' : X gx M xd' xf' ⟨xs'.toArray⟩ w1) (hf : Fr gx none w w1) : J w0 g gx bx ob M bs d f xs' xd' xf' w1 ∧ Keep w w1 := by
  obtain ⟨v, ⟨hs, hx, h4, h5, h6, h7⟩, hbx, h1, h2, h3⟩ := h
  refine ⟨⟨v, ⟨hs.fr hf (fun e => h4 e.symm) (by simp) (fun e => h5 e.symm) ?_, hx', h4, h5, h6, h7.trans (hf.below h6 (fun k hk => by cases hk) h7.size)⟩, (hf.block bx (blk_lt' hbx) h2 (by simp)).trans hbx, h1, h2, h3⟩, ?_⟩
  · cases hv : v.ownBlock with
    | none => exact .inl rfl
    | some k => exact .inr (by simp)
  · intro base u ys hR
    refine Kd.R_mono (ok' := Any1) (Kd.R_move (Kd.R_bound hR) ?_) (fun _ _ => trivial)
    rintro k ⟨_, _, hlt, q, hq, cells, hc⟩
    have hq9 : q = 9 := by simpa [Kd.string, Kd.scalar] using hq
    subst hq9
    refine hf.block k hlt ?_ (by simp)
    rintro rfl
    unfold X at hx
    rw [hc] at hx
    injection hx with hx
    injection hx with _ hx
    exact absurd hx (by decide)
end

/-- What both answer and become. -/
def res (M : Int) (bs : List UInt8) (f : Bool) (l : List ByteArray) : Bool × List UInt8 × Bool := if f = true ∨ max M 0 < ((bs.length + (cat l).length : Nat) : Int) then (false, bs, true) else (true, bs ++ cat l, f)
theorem res_cat (M : Int) (bs : List UInt8) (f : Bool) (l m : List ByteArray) (h : cat l = cat m) : res M bs f l = res M bs f m := by unfold res; rw [h]
theorem res_len (M : Int) (bs : List UInt8) (f : Bool) (l : List ByteArray) (h : (bs.length : Int) ≤ max M 0) : ((res M bs f l).2.1.length : Int) ≤ max M 0 ∧ (res M bs f l).2.1.length ≤ bs.length + (cat l).length := by
  unfold res
  split
  · exact ⟨h, by simp⟩
  · rename_i hn
    simp only [List.length_append]
    refine ⟨?_, Nat.le_refl _⟩
    by_cases hc : max M 0 < ((bs.length + (cat l).length : Nat) : Int)
    · exact absurd (.inr hc) hn
    · omega
section
variable {w0 w w1 : World} {g gx bx : Nat} {ob : Obj} {M : Int} {bs bs' : List UInt8} {d d' : Int} {f f' : Bool} {xs xs' : List UInt8} {xd xd' : Int} {xf xf' : Bool} {v : Value}
theorem PutTo.res {B : Nat} {l : List ByteArray} {e : Ending} (h : PutTo B g v bs (max M 0) d f l w e w1) (hb : (bs.length : Int) ≤ max M 0) :
    e = .returned (.bool (res M bs f l).1) ∧ To B g v (res M bs f l).2.1 (max M 0) d (res M bs f l).2.2 w w1 := by
  unfold PutTo at h
  unfold Sk.res
  rw [over_cat _ _ (by omega)] at h
  simp only [decide_eq_true_eq] at h
  by_cases hc : f = true ∨ max M 0 < ((bs.length + (cat l).length : Nat) : Int)
  · rw [if_pos hc]
    rw [if_pos (by rcases hc with hc | hc; exact .inl hc; exact .inr (by omega))] at h
    exact h
  · rw [if_neg hc]
    rw [if_neg (by rintro (h5 | h5); exact hc (.inl h5); exact hc (.inr (by omega)))] at h
    have hf : f = false := by cases f; rfl; exact absurd (.inl rfl) hc
    subst hf
    exact h
theorem XPutTo.res {l : List ByteArray} {e : Ending} (h : XPutTo gx M d f ⟨bs.toArray⟩ l w e w1) :
    e = .returned (.bool (Sk.res M bs f l).1) ∧ X gx M d (Sk.res M bs f l).2.2 ⟨(Sk.res M bs f l).2.1.toArray⟩ w1 ∧ Fr gx none w w1 := by
  unfold XPutTo at h
  unfold Sk.res
  have hs : ((⟨bs.toArray⟩ : ByteArray) ++ catB l).size = bs.length + (cat l).length := by rw [ByteArray.size_append, catB_size]; show bs.toArray.size + _ = _; simp
  rw [hs] at h
  by_cases hc : f = true ∨ max M 0 < ((bs.length + (cat l).length : Nat) : Int)
  · rw [if_pos hc] at h ⊢
    exact h
  · rw [if_neg hc] at h ⊢
    obtain ⟨h1, h2, h3⟩ := h
    refine ⟨h1, ?_, h3⟩
    have : (⟨bs.toArray⟩ : ByteArray) ++ catB l = ⟨(bs ++ cat l).toArray⟩ := by apply ByteArray.ext; simp [catB]
    rw [← this]
    exact h2

/-- The calls, of both. -/
def JTo (w0 : World) (g gx bx : Nat) (ob : Obj) (M : Int) (r : Bool × List UInt8 × Bool) (d : Int) (xs : List UInt8) (xd : Int) (xf : Bool) (w : World) (e : Ending) (w' : World) : Prop :=
  e = .returned (.bool r.1) ∧ J w0 g gx bx ob M r.2.1 d r.2.2 xs xd xf w' ∧ Keep w w'
def JXTo (w0 : World) (g gx bx : Nat) (ob : Obj) (M : Int) (r : Bool × List UInt8 × Bool) (bs : List UInt8) (d : Int) (f : Bool) (xd : Int) (w : World) (e : Ending) (w' : World) : Prop :=
  e = .returned (.bool r.1) ∧ J w0 g gx bx ob M bs d f r.2.1 xd r.2.2 w' ∧ Keep w w'
variable {A : Option Addr} {c : Nat} {l : List ByteArray}
theorem jput (h : J w0 g gx bx ob M bs d f xs xd xf w) (hr : Kd.string.C w0 A l.length l) (hm : M ≤ 9223372036854775807) (hb : (bs.length : Int) ≤ max M 0) (hl : bs.length + (cat l).length ≤ 1000000000) :
    Calls Try.prog 15 #[.pointer (some ⟨g, 0, none⟩), .slice A l.length c] w (JTo w0 g gx bx ob M (res M bs f l) d xs xd xf w) := by
  obtain ⟨v, hc, hbx, h1, h2, h3⟩ := h
  have hs := hc.1
  have hbb := hc.2.2.2.2.2
  refine (put_any _ g v bs (max M 0) d f A c l w hs hbb.size (fun W hf => Kd.C_below hr (hbb.trans (hf.below hs.1 (fun k hk => (hs.base k hk).1) hbb.size))) (by omega) (by omega) (by omega)).mono ?_
  intro e w' ht
  obtain ⟨he, hto⟩ := ht.res hb
  exact ⟨he, J.to hc hbx h1 h2 h3 hto⟩
theorem jbegin (h : J w0 g gx bx ob M bs d f xs xd xf w) (hr : Kd.string.C w0 A l.length l) (hm : M ≤ 9223372036854775807) (hd0 : 0 ≤ d) (hd : d ≤ 1000) (hll : l.length ≤ 1000) (hb : (bs.length : Int) ≤ max M 0) (hl : bs.length + (cat (ind d :: l)).length ≤ 1000000000) :
    Calls Try.prog 18 #[.pointer (some ⟨g, 0, none⟩), .slice A l.length c] w (JTo w0 g gx bx ob M (res M bs f (ind d :: l)) d xs xd xf w) := by
  obtain ⟨v, hc, hbx, h1, h2, h3⟩ := h
  have hs := hc.1
  have hbb := hc.2.2.2.2.2
  refine (begin_any _ g v bs (max M 0) d f A c l w hs hbb.size (Kd.C_below hr hbb) hd0 (by omega) (by omega) (by omega) (by omega) (by omega)).mono ?_
  intro e w' ht
  obtain ⟨he, hto⟩ := ht.res hb
  exact ⟨he, J.to hc hbx h1 h2 h3 hto⟩
theorem jline (h : J w0 g gx bx ob M bs d f xs xd xf w) (hr : Kd.string.C w0 A l.length l) (hm : M ≤ 9223372036854775807) (hd0 : 0 ≤ d) (hd : d ≤ 1000) (hll : l.length ≤ 1000) (hb : (bs.length : Int) ≤ max M 0) (hl : bs.length + (cat (ind d :: l ++ [⟨#[10]⟩])).length ≤ 1000000000) :
    Calls Try.prog 12 #[.pointer (some ⟨g, 0, none⟩), .slice A l.length c] w (JTo w0 g gx bx ob M (res M bs f (ind d :: l ++ [⟨#[10]⟩])) d xs xd xf w) := by
  obtain ⟨v, hc, hbx, h1, h2, h3⟩ := h
  have hs := hc.1
  have hbb := hc.2.2.2.2.2
  refine (line_any _ g v bs (max M 0) d f A c l w hs hbb.size (Kd.C_below hr hbb) hd0 (by omega) (by omega) (by omega) (by omega) (by omega)).mono ?_
  intro e w' ht
  obtain ⟨he, hto⟩ := ht.res hb
  exact ⟨he, J.to hc hbx h1 h2 h3 hto⟩
theorem jend (h : J w0 g gx bx ob M bs d f xs xd xf w) (hr : Kd.string.C w0 A l.length l) (hm : M ≤ 9223372036854775807) (hll : l.length ≤ 1000) (hb : (bs.length : Int) ≤ max M 0) (hl : bs.length + (cat (l ++ [⟨#[10]⟩])).length ≤ 1000000000) :
    Calls Try.prog 19 #[.pointer (some ⟨g, 0, none⟩), .slice A l.length c] w (JTo w0 g gx bx ob M (res M bs f (l ++ [⟨#[10]⟩])) d xs xd xf w) := by
  obtain ⟨v, hc, hbx, h1, h2, h3⟩ := h
  have hs := hc.1
  have hbb := hc.2.2.2.2.2
  refine (end_any _ g v bs (max M 0) d f A c l w hs hbb.size (Kd.C_below hr hbb) (by omega) (by omega) (by omega) (by omega)).mono ?_
  intro e w' ht
  obtain ⟨he, hto⟩ := ht.res hb
  exact ⟨he, J.to hc hbx h1 h2 h3 hto⟩
theorem jxput (h : J w0 g gx bx ob M bs d f xs xd xf w) (hr : Kd.string.C w A l.length l) (hm : M ≤ 9223372036854775807) (hl : xs.length + (cat l).length ≤ 1000000000) :
    Calls Try.prog 26 #[.pointer (some ⟨gx, 0, none⟩), .slice A l.length c] w (JXTo w0 g gx bx ob M (res M xs xf l) bs d f xd w) := by
  have hx : X gx M xd xf ⟨xs.toArray⟩ w := by obtain ⟨v, hc, _⟩ := h; exact hc.2.1
  refine (xput gx M xd xf _ A c l w hx hr hm (by show xs.toArray.size + _ ≤ _; simp; omega)).mono ?_
  intro e w' ht
  obtain ⟨he, h1, h2⟩ := ht.res
  exact ⟨he, h.fx h1 h2⟩
theorem jxput_row (h : J w0 g gx bx ob M bs d f xs xd xf w) {r : Value} {base : Nat} (hr : Kd.string.R 9 w base Any1 r l) (hm : M ≤ 9223372036854775807) (hl : xs.length + (cat l).length ≤ 1000000000) :
    Calls Try.prog 26 #[.pointer (some ⟨gx, 0, none⟩), r] w (JXTo w0 g gx bx ob M (res M xs xf l) bs d f xd w) := by
  obtain ⟨A, c, rfl, _, hC⟩ := Kd.R_reads hr
  exact jxput h hC hm hl
theorem jmargin (h : J w0 g gx bx ob M bs d f xs xd xf w) (hr : Kd.string.C w0 A l.length l) (hd0 : 0 ≤ xd) (hd1 : xd ≤ 1000) (hl : l.length ≤ 1000) :
    Calls Try.prog 27 #[.pointer (some ⟨gx, 0, none⟩), .slice A l.length c] w fun e w' => ∃ r, e = .returned r ∧ Kd.string.R 9 w' w.heap.size Any1 r (indL xd.toNat ++ l) ∧ J w0 g gx bx ob M bs d f xs xd xf w' ∧ Keep w w' := by
  have hx : X gx M xd xf ⟨xs.toArray⟩ w := by obtain ⟨v, hc, _⟩ := h; exact hc.2.1
  refine (xmargin gx M xd xf _ A c l w hx (Kd.C_below hr h.bel) hd0 hd1 hl).mono ?_
  rintro e w' ⟨r, he, hR, hb⟩
  exact ⟨r, he, hR, h.below hb, Keep.below hb⟩
theorem J.drew (h : J w0 g gx bx ob M bs d f xs xd xf w) : J w0 g gx bx ob M bs d f xs xd xf w.drew := h.below (below_drew (Below.refl _ _))
theorem J.cell1 {a b : Value} {t : TypeId} (h : J w0 g gx bx (.cells #[a, b] t (0, 0)) M bs d f xs xd xf w) : w.cell? ⟨bx, 1, none⟩ = some b := by
  rw [blk_cell h.box 1]; rfl
theorem jin (h : J w0 g gx bx ob M bs d f xs xd xf w) (hd0 : 0 ≤ d) (hd : d ≤ 1000) : Calls Try.prog 10 #[.pointer (some ⟨g, 0, none⟩)] w fun e w' => e = .returned (.tuple #[]) ∧ J w0 g gx bx ob M bs (d + 1) f xs xd xf w' := by
  obtain ⟨v, hc, hbx, h1, h2, h3⟩ := h
  refine (in_any _ g v bs (max M 0) d f w hc.1 hd0 (by omega)).mono ?_
  rintro e w' ⟨he, ht⟩
  exact ⟨he, (J.to hc hbx h1 h2 h3 ht).1⟩
theorem jout (h : J w0 g gx bx ob M bs d f xs xd xf w) (hd0 : 0 ≤ d) (hd : d ≤ 1000) : Calls Try.prog 11 #[.pointer (some ⟨g, 0, none⟩)] w fun e w' => e = .returned (.tuple #[]) ∧ J w0 g gx bx ob M bs (max 0 (d - 1)) f xs xd xf w' := by
  obtain ⟨v, hc, hbx, h1, h2, h3⟩ := h
  by_cases h0 : d = 0
  · subst h0
    refine (out_zero _ g v bs (max M 0) f w hc.1).mono ?_
    rintro e w' ⟨he, ht⟩
    exact ⟨he, (J.to hc hbx h1 h2 h3 ht).1⟩
  · refine (out_pos _ g v bs (max M 0) d f w hc.1 (by omega) (by omega)).mono ?_
    rintro e w' ⟨he, ht⟩
    rw [show max 0 (d - 1) = d - 1 from by omega]
    exact ⟨he, (J.to hc hbx h1 h2 h3 ht).1⟩
theorem J.setDeep (h : J w0 g gx bx ob M bs d f xs xd xf w) (n : Int) : J w0 g gx bx ob M bs d f xs n xf (w.setCell ⟨gx, 1, none⟩ (.int .i64 n)) := by
  have hx : X gx M xd xf ⟨xs.toArray⟩ w := by obtain ⟨v, hc, _⟩ := h; exact hc.2.1
  exact (h.fx (hx.setDeep n) (Fr.of_set (g := gx) none w ⟨gx, 1, none⟩ rfl _)).1
/-! What the orders of an expression leave. -/
theorem size_alloc (W : World) (o : Obj) : (W.alloc o).heap.size = W.heap.size + 1 := by
  show (W.heap.push o).size = _
  rw [Array.size_push]
theorem R_lit0 (W : World) {base : Nat} (h : base ≤ W.heap.size) : Kd.string.R 9 (W.alloc (.cells #[] 9)) base Any1 (.slice (some ⟨W.heap.size, 0, none⟩) 0 0) [] := by
  refine ⟨fun _ _ => trivial, [], ?_, ?_⟩
  · exact World.ownsRow_lit (base := base) (e := 9) (size := 1) W #[] 0 h (by simp) (by simp)
  · exact ⟨rfl, fun j p hj => by simp at hj⟩
theorem R_one_at (W : World) (x : ByteArray) {base q : Nat} (h : base ≤ W.heap.size) (hq : W.heap.size = q) : Kd.string.R 9 (W.alloc (.cells #[.string x] 9)) base Any1 (.slice (some ⟨q, 0, none⟩) 1 1) [x] := by subst hq; exact R_one W x h
theorem R_lit0_at (W : World) {base q : Nat} (h : base ≤ W.heap.size) (hq : W.heap.size = q) : Kd.string.R 9 (W.alloc (.cells #[] 9)) base Any1 (.slice (some ⟨q, 0, none⟩) 0 0) [] := by subst hq; exact R_lit0 W h
theorem R_typed {W : World} {base : Nat} {u : Value} {ys : List ByteArray} (h : Kd.string.R 9 W base Any1 u ys) {k : Nat} (hk : u.ownBlock = some k) : (k < W.heap.size ∧ base ≤ k) ∧ ∃ cells, W.heap[k]? = some (.cells cells 9 (0, 0)) := by
  obtain ⟨h0, _⟩ := Kd.R_bound h
  obtain ⟨_, hbk, hlt, q, hq, cells, hc⟩ := h0 k hk
  have hq9 : q = 9 := by simpa [Kd.string, Kd.scalar] using hq
  subst hq9
  exact ⟨⟨hlt, hbk⟩, cells, hc⟩
theorem R_lt {W : World} {base q n c : Nat} {ys : List ByteArray} (h : Kd.string.R 9 W base Any1 (.slice (some ⟨q, 0, none⟩) n c) ys) : q < W.heap.size := (R_typed h rfl).1.1
theorem RC {W : World} {base n c : Nat} {A : Option Addr} {ys : List ByteArray} (h : Kd.string.R 9 W base Any1 (.slice A n c) ys) : Kd.string.C W A ys.length ys := by
  obtain ⟨A2, c2, he, _, hC⟩ := Kd.R_reads h
  injection he with h1 h2 h3
  subst h1
  exact hC
/-- Another row has been written. -/
theorem R_apart {W W1 : World} {base q n c q1 : Nat} {ys : List ByteArray} (h : Kd.string.R 9 W base Any1 (.slice (some ⟨q, 0, none⟩) n c) ys) (hg : W.grownBy W1 (some q1)) (hne : q ≠ q1) : Kd.string.R 9 W1 base Any1 (.slice (some ⟨q, 0, none⟩) n c) ys := by
  have h' : Kd.string.R 9 W base (fun k => k = q) (.slice (some ⟨q, 0, none⟩) n c) ys := by
    refine ⟨fun k hk => ?_, h.2⟩
    have : q = k := by simpa [Value.ownBlock] using hk
    exact this.symm
  refine Kd.R_mono (Kd.R_grown h' hg ?_) (fun _ _ => trivial)
  rintro k rfl e
  exact hne (Option.some.inj e)
theorem J.grown {cells : Array Value} (h : J w0 g gx bx (.cells cells 33 (0, 0)) M bs d f xs xd xf w) {u : Value} {ys : List ByteArray} (hR : Kd.string.R 9 w w0.heap.size Any1 u ys) (hg : w.grownBy w1 u.ownBlock) :
    J w0 g gx bx (.cells cells 33 (0, 0)) M bs d f xs xd xf w1 := by
  cases hu : u.ownBlock with
  | none =>
    rw [hu] at hg
    exact h.below ⟨hg.os, hg.tape, hg.output, hg.size, fun k hk => hg.block k hk (by simp)⟩
  | some k =>
    obtain ⟨⟨hlt, hbk⟩, cs, hc⟩ := R_typed hR hu
    rw [hu] at hg
    have hf : Fr k none w w1 := ⟨hg.os, hg.tape, hg.output, hg.size, fun j hj hne _ => hg.block j hj (fun e => hne (Option.some.inj e))⟩
    obtain ⟨v, ⟨hs, hx, h4, h5, h6, h7⟩, hbx, h1, h2, h3⟩ := h
    have nx : gx ≠ k := by
      rintro rfl
      unfold X at hx
      rw [hc] at hx; injection hx with hx; injection hx with _ hx; exact absurd hx (by decide)
    have nb : bx ≠ k := by
      rintro rfl
      rw [hc] at hbx; injection hbx with hx; injection hx with _ hx; exact absurd hx (by decide)
    have ng : g ≠ k := by
      rintro rfl
      obtain ⟨_, ⟨p, _, hk⟩, _⟩ := hs
      rw [hc] at hk; injection hk with hx; injection hx with _ hx; exact absurd hx (by decide)
    have nv : v.ownBlock ≠ some k := by
      intro e
      obtain ⟨_, _, ho⟩ := hs
      rcases ho.2 with ⟨rfl, _⟩ | ⟨q, cap, cur, fz, rfl, _, hh, _⟩
      · simp [Value.ownBlock] at e
      · have : q = k := by simpa [Value.ownBlock] using e
        subst this
        rw [hc] at hh; injection hh with hx; injection hx with _ hx; exact absurd hx (by decide)
    refine ⟨v, ⟨hs.fr hf ng (by simp) nv ?_, (hf.block gx hx.lt nx (by simp)).trans hx, h4, h5, h6, h7.trans ?_⟩, (hf.block bx (blk_lt' hbx) nb (by simp)).trans hbx, h1, h2, h3⟩
    · cases hv : v.ownBlock with
      | none => exact .inl rfl
      | some k => exact .inr (by simp)
    · refine ⟨hf.os, hf.tape, hf.output, hf.size, fun j hj => hf.block j (Nat.lt_of_lt_of_le hj h7.size) ?_ (by simp)⟩
      intro e
      omega
end
end Go.Proofs.Ytchdcklalgadhaa.Sk
