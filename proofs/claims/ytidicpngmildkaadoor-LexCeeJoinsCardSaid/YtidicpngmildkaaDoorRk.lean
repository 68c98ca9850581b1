/- What reads as data at a type is of the printer's kind: for laws whose parameters are slices of strings, of structs, or of slices. -/
import Derived.Test.YtidicpngmildkaaDoorWWords
import Derived.ChangeArms
import Derived.ChangeSame
import Derived.DataReads
import Derived.DataElems
import Derived.ProofKit
set_option linter.unusedVariables false
namespace Go.Proofs.YtidicpngmildkaaDoor.Rk
open Go.RowKit Go.Proofs.YtidicpngmildkaaDoorW.PrintWords

section
variable {P : Program} {H : Type} {enc : TypeId × Value → H} {w : World} {base : Nat} {spare : Nat → Bool} {held : Bool}

theorem bool_at {t : TypeId} {fuel : Nat} {cs : List Value} {x : DataW H × List MemPlace} (ht : P.underlying t = some .bool) (h : DataW.trod enc P w base spare held fuel t cs = some x) : ∃ b, cs = [.bool b] := by
  cases fuel with
  | zero => simp [DataW.trod] at h
  | succ n =>
    unfold DataW.trod at h
    rw [ht] at h
    split at h <;> simp_all

/-- A slice, whatever its elements. -/
theorem slice_at {α : Type} (d : Kd α) (ok : α → Prop) {t e : TypeId} (ht : P.underlying t = some (.slice e)) (hsz : P.cellsOf e = d.sz) {fuel : Nat} {cs : List Value} {y : DataW H × List MemPlace}
    (hd : ∀ n, n < fuel → ∀ cs y, DataW.trod enc P w base spare held n e cs = some y → ∃ x, d.K w x cs ∧ ok x)
    (h : DataW.trod enc P w base spare held fuel t cs = some y) :
    ∃ (A : Option Addr) (c : Nat) (xs : List α), cs = [.slice A xs.length c] ∧ xs.length ≤ c ∧ d.C w A xs.length xs ∧ (∀ x ∈ xs, ok x) ∧ c ≤ maxLen := by
  rcases DataW.trod_slice ht h with ⟨rfl, _⟩ | ⟨a, len, cap, elems, rest, n, hfu, rfl, hx, hb, hl, hm, hlen, hel, _, _⟩
  · exact ⟨none, 0, [], rfl, Nat.le_refl _, Kd.C_nil d w, by simp, Nat.zero_le _⟩
  · have each : ∀ i, i < len → ∃ x cs', d.K w x cs' ∧ ok x ∧ cs'.length = d.sz ∧ ∀ j u, cs'[j]? = some u → w.cell? (a.add (i * d.sz + j)) = some u := by
      intro i hi
      have h1 := hel i hi
      rw [List.getElem?_eq_getElem (by omega)] at h1
      obtain ⟨cs', hc, ht'⟩ := Option.bind_eq_some_iff.1 h1
      obtain ⟨x, hk, ho⟩ := hd n (by omega) cs' _ ht'
      obtain ⟨_, hcl, hcell⟩ := World.cells?_some hc
      refine ⟨x, cs', hk, ho, by rw [hcl, hsz], fun j u hu => ?_⟩
      have hj : j < P.cellsOf e := by rw [← hcl]; exact (List.getElem?_eq_some_iff.1 hu).1
      rw [← hu, ← hcell j hj, Addr.add_add, hsz]
    have pick : ∀ m, m ≤ len → ∃ xs : List α, xs.length = m ∧ (∀ x ∈ xs, ok x) ∧ ∀ j p, xs[j]? = some p → ∃ c, c.length = d.sz ∧ d.K w p c ∧ ∀ i u, c[i]? = some u → w.cell? (a.add (j * d.sz + i)) = some u := by
      intro m
      induction m with
      | zero => intro _; exact ⟨[], rfl, by simp, fun j p hj => by simp at hj⟩
      | succ m ih =>
        intro hm'
        obtain ⟨xs, hxl, hxo, hx⟩ := ih (by omega)
        obtain ⟨x, cs', hk, ho, hcl, hcell⟩ := each m (by omega)
        refine ⟨xs ++ [x], by simp [hxl], ?_, fun j p hj => ?_⟩
        · intro z hz
          rcases List.mem_append.1 hz with hz | hz
          · exact hxo z hz
          · rw [List.mem_singleton.1 hz]; exact ho
        · rcases Nat.lt_or_ge j xs.length with hlt | hge
          · rw [List.getElem?_append_left hlt] at hj
            exact hx j p hj
          · have hj' : j = xs.length := by
              have := (List.getElem?_eq_some_iff.1 hj).1
              rw [List.length_append, List.length_singleton] at this
              omega
            subst hj'
            have : x = p := by simpa using hj
            subst this
            rw [hxl]
            exact ⟨cs', hcl, hk, hcell⟩
    obtain ⟨xs, hxl, hxo, hx⟩ := pick len (Nat.le_refl _)
    subst hxl
    exact ⟨some a, cap, xs, rfl, hl, ⟨rfl, by unfold maxLen at hm; omega, fun _ => ⟨a, rfl, hx⟩⟩, hxo, hm⟩

theorem split_ (cs : List Value) (o s : Nat) : cs.drop o = (cs.drop o).take s ++ cs.drop (o + s) := by
  rw [← List.drop_drop, List.take_append_drop]
theorem last_ (cs : List Value) (o s : Nat) (h : cs.length = o + s) : (cs.drop o).take s = cs.drop o :=
  List.take_of_length_le (by rw [List.length_drop]; omega)
def cut_ (cs : List Value) (o : Nat) : List Nat → List Value
  | [] => []
  | s :: r => (cs.drop o).take s ++ cut_ cs (o + s) r
theorem cut_eq (cs : List Value) : ∀ (l : List Nat) (o : Nat), cs.length ≤ o + l.sum → cs.drop o = cut_ cs o l
  | [], o, h => by
    have h' : cs.length ≤ o := by simpa using h
    exact List.drop_eq_nil_of_le h'
  | s :: r, o, h => by
    have h' : cs.length ≤ o + s + r.sum := by simp only [List.sum_cons] at h; omega
    rw [cut_, ← cut_eq cs r (o + s) h']
    exact split_ cs o s
theorem all_ (cs : List Value) (l : List Nat) (h : cs.length = l.sum) : cs = cut_ cs 0 l := by
  have := cut_eq cs l 0 (by omega)
  simpa using this

/-- One cell. -/
theorem int_K {t : TypeId} {k : IntKind} (ht : P.underlying t = some (.int k)) {n : Nat} {cs : List Value} {y : DataW H × List MemPlace} (h : DataW.trod enc P w base spare held n t cs = some y) :
    ∃ x, (Kd.int k).K w x cs ∧ (Lit.int k x).wf = true := by
  obtain ⟨x, rfl, _, hw⟩ := DataW.trod_int ht h
  exact ⟨x, rfl, hw⟩
theorem bool_K {t : TypeId} (ht : P.underlying t = some .bool) {n : Nat} {cs : List Value} {y : DataW H × List MemPlace} (h : DataW.trod enc P w base spare held n t cs = some y) :
    ∃ x, Kd.bool.K w x cs ∧ True := by
  obtain ⟨x, rfl⟩ := bool_at ht h
  exact ⟨x, rfl, trivial⟩
theorem string_K {t : TypeId} (ht : P.underlying t = some .string) {n : Nat} {cs : List Value} {y : DataW H × List MemPlace} (h : DataW.trod enc P w base spare held n t cs = some y) :
    ∃ x, Kd.string.K w x cs ∧ x.size ≤ maxLen := by
  obtain ⟨x, rfl, _, hw⟩ := DataW.trod_string ht h
  exact ⟨x, rfl, hw⟩
theorem slice_K {α : Type} (d : Kd α) (ok : α → Prop) {t e : TypeId} (ht : P.underlying t = some (.slice e)) (hsz : P.cellsOf e = d.sz) {fuel : Nat} {cs : List Value} {y : DataW H × List MemPlace}
    (hd : ∀ n, n < fuel → ∀ cs y, DataW.trod enc P w base spare held n e cs = some y → ∃ x, d.K w x cs ∧ ok x)
    (h : DataW.trod enc P w base spare held fuel t cs = some y) : ∃ xs, (Kd.slice e d).K w xs cs ∧ ((∀ x ∈ xs, ok x) ∧ xs.length ≤ maxLen) := by
  obtain ⟨A, c, xs, rfl, h1, h2, h3, h4⟩ := slice_at d ok ht hsz hd h
  exact ⟨xs, ⟨A, c, rfl, h1, h2⟩, h3, by omega⟩

/-- A parameter that is a slice. -/
theorem slice_arg {α : Type} (d : Kd α) (ok : α → Prop) {t e : TypeId} (ht : P.underlying t = some (.slice e)) (hsz : P.cellsOf e = d.sz) {A : Option Addr} {len cap : Nat} {y : DataW H} {ps : List MemPlace}
    (hd : ∀ n cs y, DataW.trod enc P w base spare held n e cs = some y → ∃ x, d.K w x cs ∧ ok x)
    (h : DataW.Trod enc P w base spare held t (.slice A len cap) y ps) : ∃ xs : List α, len = xs.length ∧ xs.length ≤ cap ∧ d.C w A xs.length xs ∧ (∀ x ∈ xs, ok x) := by
  obtain ⟨fuel, hf⟩ := h
  obtain ⟨A', c, xs, hcs, h1, h2, h3, _⟩ := slice_at d ok ht hsz (fun n _ => hd n) hf
  simp [Value.cells] at hcs
  obtain ⟨rfl, rfl, rfl⟩ := hcs
  exact ⟨xs, rfl, h1, h2, h3⟩
end
end Go.Proofs.YtidicpngmildkaaDoor.Rk
