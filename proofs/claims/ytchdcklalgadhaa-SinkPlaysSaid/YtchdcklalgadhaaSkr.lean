/- The document's sink: Put, Margin; Pick. -/
import Derived.Test.YtchdcklalgadhaaSkg
import Derived.Deep.QuietTactic
import Derived.BigQuiet
set_option linter.unusedVariables false
set_option linter.unusedSimpArgs false
namespace Go.Proofs.Ytchdcklalgadhaa.Sk
open Go.RowKit Go.Proofs.YtchdcklalgadhaaW.PrintWords Go.Proofs.YtchdcklalgadhaaW.PrintLast Go.Proofs.YtchdcklalgadhaaW.PrintMore Go.Proofs.Ytchdcklalgadhaa.R
attribute [local go_sem] max2_int min2_int max_two min_two

/-- Any number is of one of seven kinds. -/
def PickTo (w : World) (e : Ending) (w' : World) : Prop := ∃ r : Int, e = .returned (.int .i64 r) ∧ w = w'
set_option maxHeartbeats 1000000 in
theorem pick7 (a : Int) (w : World) : Calls Try.prog 25 #[.int .i64 a, .int .i64 7] w (PickTo w) := by
  have hlo := Int.tmod_lt_of_pos a (show (0 : Int) < 7 by decide)
  have hhi : -7 < Int.tmod a 7 := by have := Int.lt_tmod_of_pos a (show (0 : Int) < 7 by decide); omega
  go_enter Try.func25, Try.ntmps25
  by_cases hn : Int.tmod a 7 < 0
  · go_wp2
    go_ret
    exact ⟨_, rfl, rfl⟩
  · go_wp2
    go_ret
    exact ⟨_, rfl, rfl⟩

/-- The document's sink at block gx. -/
def X (gx : Nat) (m d : Int) (f : Bool) (s : ByteArray) (w : World) : Prop := w.heap[gx]? = some (.cells #[.int .i64 m, .int .i64 d, .bool f, .string s] 39 (0, 0))
def catB (l : List ByteArray) : ByteArray := ⟨(cat l).toArray⟩
theorem catB_size (l : List ByteArray) : (catB l).size = (cat l).length := by
  show (cat l).toArray.size = _
  simp
theorem catB_take (l : List ByteArray) (k : Nat) (hk : k < l.length) : catB (l.take (k + 1)) = catB (l.take k) ++ l[k] := by
  apply ByteArray.ext
  simp [catB, cat_take l k hk]
section
variable {gx : Nat} {m d : Int} {f : Bool} {s : ByteArray} {w w1 : World}
theorem X.lt (h : X gx m d f s w) : gx < w.heap.size := blk_lt h
theorem X.cells (h : X gx m d f s w) : w.cell? ⟨gx, 0, none⟩ = some (.int .i64 m) ∧ w.cell? ⟨gx, 1, none⟩ = some (.int .i64 d) ∧ w.cell? ⟨gx, 2, none⟩ = some (.bool f) ∧ w.cell? ⟨gx, 3, none⟩ = some (.string s) :=
  ⟨(blk_cell h 0).trans rfl, (blk_cell h 1).trans rfl, (blk_cell h 2).trans rfl, (blk_cell h 3).trans rfl⟩
theorem X.frozen (h : X gx m d f s w) (i : Nat) : w.frozen? ⟨gx, i, none⟩ = false := blk_frozen h i
theorem X.below (h : X gx m d f s w) (hb : Below w.heap.size w w1) : X gx m d f s w1 := (hb.block gx h.lt).trans h
theorem X.setDeep (h : X gx m d f s w) (d' : Int) : X gx m d' f s (w.setCell ⟨gx, 1, none⟩ (.int .i64 d')) := by have := blk_set h 1 (.int .i64 d'); unfold X; simpa using this
theorem X.setFull (h : X gx m d f s w) (f' : Bool) : X gx m d f' s (w.setCell ⟨gx, 2, none⟩ (.bool f')) := by have := blk_set h 2 (.bool f'); unfold X; simpa using this
theorem X.setS (h : X gx m d f s w) (s' : ByteArray) : X gx m d f s' (w.setCell ⟨gx, 3, none⟩ (.string s')) := by have := blk_set h 3 (.string s'); unfold X; simpa using this
end
def XPutTo (gx : Nat) (m d : Int) (f : Bool) (s : ByteArray) (l : List ByteArray) (w : World) (e : Ending) (w' : World) : Prop :=
  if f = true ∨ max m 0 < ((s ++ catB l).size : Int) then e = .returned (.bool false) ∧ X gx m d true s w' ∧ Fr gx none w w' else e = .returned (.bool true) ∧ X gx m d f (s ++ catB l) w' ∧ Fr gx none w w'
def XRel (l : List ByteArray) (all i : Value) : Prop := ∃ k : Nat, k ≤ l.length ∧ i = .int .i64 k ∧ all = .string (catB (l.take k))

set_option maxHeartbeats 4000000 in
set_option maxRecDepth 1000000 in
theorem xput (gx : Nat) (m d : Int) (f : Bool) (s : ByteArray) (A : Option Addr) (c : Nat) (l : List ByteArray) (w : World) (h : X gx m d f s w) (hr : Kd.C Kd.string w A l.length l) (hm1 : m ≤ 9223372036854775807) (hsz : s.size + (cat l).length ≤ 140737488355328) :
    Calls Try.prog 26 #[.pointer (some ⟨gx, 0, none⟩), .slice A l.length c] w (XPutTo gx m d f s l w) := by
  obtain ⟨c0, c1, c2, c3⟩ := h.cells
  have hlm := hr.2.1
  have HX := Lib.hid h
  have HR := Lib.hid hr
  clear h hr
  go_enter Try.func26, Try.ntmps26
  go_wp2
  go_loop [5, 6] (fun all i => XRel l all i) (fun _ i => l.length - (intOf i).toNat)
  case atStart => exact ⟨0, Nat.zero_le _, rfl, rfl⟩
  case round =>
    obtain ⟨k, hk, rfl, rfl⟩ := hrel
    by_cases hlt : k < l.length
    · obtain ⟨ad, rfl, hcell⟩ := at_k HR.out k hlt
      have hcl := cat_le l k hlt
      have hcs := catB_size (l.take k)
      go_wp2
      go_round
      · exact ⟨k + 1, by omega, by simp, by rw [catB_take l k hlt]⟩
      · simp only [intOf]; omega
    · obtain rfl : k = l.length := by omega
      rw [List.take_length]
      have hcs := catB_size l
      cases f with
      | true =>
        go_wp2
        go_ret
        unfold XPutTo
        rw [if_pos (.inl rfl)]
        exact ⟨rfl, HX.out, Fr.refl _ _ _⟩
      | false =>
        by_cases hov : max m 0 < ((s ++ catB l).size : Int)
        · have hov2 : max m 0 < (s.size : Int) + ((catB l).size : Int) := by rw [ByteArray.size_append] at hov; omega
          go_wp2
          go_quiet (fail)
          have hX2 : X gx m d false s (w.drewN nq) := HX.out
          have HF := Lib.hid ((Fr.refl gx none w).drewN nq)
          generalize w.drewN nq = w1 at *
          clear c0 c1 c2 c3
          obtain ⟨c0, c1, c2, c3⟩ := hX2.cells
          have f2 := hX2.frozen 2
          have HX3 := Lib.hid (hX2.setFull true)
          have HF3 := Lib.hid (HF.out.trans (Fr.of_set (g := gx) none w1 ⟨gx, 2, none⟩ rfl (.bool true)) (.inl rfl))
          go_wp2
          all_goals (go_ret; unfold XPutTo; rw [if_pos (.inr hov)]; exact ⟨rfl, HX3.out, HF3.out⟩)
        · have hov2 : (s.size : Int) + ((catB l).size : Int) ≤ max m 0 := by rw [ByteArray.size_append] at hov; omega
          go_wp2
          go_quiet (fail)
          have hX2 : X gx m d false s (w.drewN nq) := HX.out
          have HF := Lib.hid ((Fr.refl gx none w).drewN nq)
          generalize w.drewN nq = w1 at *
          clear c0 c1 c2 c3
          obtain ⟨c0, c1, c2, c3⟩ := hX2.cells
          have f3 := hX2.frozen 3
          have HX3 := Lib.hid (hX2.setS (s ++ catB l))
          have HF3 := Lib.hid (HF.out.trans (Fr.of_set (g := gx) none w1 ⟨gx, 3, none⟩ rfl (.string (s ++ catB l))) (.inl rfl))
          go_wp2
          all_goals (go_ret; unfold XPutTo; rw [if_neg (by rw [ByteArray.size_append]; simp only [Bool.false_eq_true, false_or]; omega)]; exact ⟨rfl, HX3.out, HF3.out⟩)

/-- The indentation as the document lays it. -/
def indL (d : Nat) : List ByteArray := List.replicate d ⟨#[32, 32]⟩
theorem cat_indL (d : Nat) : cat (indL d) = (ind (d : Int)).data.toList := by
  have h : ∀ n, cat (List.replicate n (⟨#[32, 32]⟩ : ByteArray)) = Lib.repeatL [32, 32] n := by
    intro n
    induction n with
    | zero => rfl
    | succ n ih => rw [List.replicate_succ]; simp only [cat, ih]; rfl
  show cat (List.replicate d _) = _
  rw [h d]
  simp [ind]
def MRel (w : World) (d : Int) (out i : Value) (wr : World) : Prop := ∃ k : Nat, (k : Int) ≤ d ∧ i = .int .i64 k ∧ Kd.string.R 9 wr w.heap.size Any1 out (indL k) ∧ Below w.heap.size w wr

set_option maxHeartbeats 4000000 in
set_option maxRecDepth 1000000 in
theorem xmargin (gx : Nat) (m d : Int) (f : Bool) (s : ByteArray) (A : Option Addr) (c : Nat) (l : List ByteArray) (w : World) (h : X gx m d f s w) (hr : Kd.C Kd.string w A l.length l) (hd0 : 0 ≤ d) (hd1 : d ≤ 1000) (hl : l.length ≤ 1000) :
    Calls Try.prog 27 #[.pointer (some ⟨gx, 0, none⟩), .slice A l.length c] w (Row1 w (indL d.toNat ++ l)) := by
  have HX := Lib.hid h
  have HR := Lib.hid hr
  clear h hr
  go_enter Try.func27, Try.ntmps27
  go_wp2
  go_loopw [5, 6] (fun out i wr => MRel w d out i wr) (fun _ i _ => (d - intOf i).toNat)
  case atStart => exact ⟨0, hd0, rfl, Kd.R_nil _ _ _ _ _, Below.refl _ _⟩
  case round =>
    obtain ⟨k, hk, rfl, ho, hb⟩ := hrel
    have HO := Lib.hid ho
    have HB := Lib.hid hb
    have hsz := hb.size
    obtain ⟨_, c1, _, _⟩ := (HX.out.below hb).cells
    clear ho hb
    by_cases hlt : (k : Int) < d
    · go_wp2_with ((with_reducible refine gate_builtin (b := .append) (xs := #[.tmp 15, .tmp 16]) rfl ?_); at_builtin; go_must ((refine Kd.R_append Kd.string w.heap.size rfl (.tmp 15) (.tmp 16) 31 9 (.string ⟨#[]⟩) 16 rfl Try.underlying31 infoStr rfl (by decide) (by omega) u5 (indL k) (⟨#[32, 32]⟩ : ByteArray) [.string (⟨#[32, 32]⟩ : ByteArray)] Any1 (fun _ => False) rfl rfl ?aP (fun _ hk => hk.elim) (fun _ _ => trivial) HO.out (Below.refl _ _) hsz ?aL ?_; (case aP => exact rfl); (case aL => rw [show (indL k).length = k from List.length_replicate]; omega))); intro v1 w9 ho hb hg hat; rw [show indL k ++ [(⟨#[32, 32]⟩ : ByteArray)] = indL (k + 1) from List.replicate_succ'.symm] at ho; have HO2 := Lib.hid ho; have HB2 := Lib.hid (HB.out.trans hb); clear ho hb hg hat HO)
      go_round
      · exact ⟨k + 1, by omega, by simp, HO2.out, HB2.out⟩
      · simp only [intOf]; omega
    · have hkd : d.toNat = k := by omega
      have hC := Lib.hid (Kd.C_below HR.out HB.out)
      rw [hkd]
      go_wp2_with ((with_reducible refine gate_builtin (b := .append) (xs := #[.tmp 18, .tmp 19]) rfl ?_); at_builtin; go_must ((refine Kd.R_append_rows Kd.string w.heap.size rfl (.tmp 18) (.tmp 19) 31 9 (.string ⟨#[]⟩) 16 rfl Try.underlying31 infoStr rfl (by decide) (by omega) u5 (indL k) l A l.length c Any1 (fun _ => False) rfl rfl HO.out hC.out (fun _ _ h => h) (fun _ h => h.elim) (fun _ _ => trivial) (Below.refl _ _) hsz ?aL ?_; (case aL => rw [show (indL k).length = k from List.length_replicate]; omega))); intro v1 w9 ho hb hg hat; have HO2 := Lib.hid ho; have HB2 := Lib.hid (HB.out.trans hb); clear ho hb hg hat HO)
      go_ret
      exact ⟨_, rfl, HO2.out, HB2.out⟩
end Go.Proofs.Ytchdcklalgadhaa.Sk
