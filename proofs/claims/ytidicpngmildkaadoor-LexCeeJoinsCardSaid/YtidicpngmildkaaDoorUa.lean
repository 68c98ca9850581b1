/- The document's example, plain; what All answers of a text. -/
import Derived.Test.YtidicpngmildkaaDoorAw
set_option linter.unusedVariables false
set_option linter.unusedSimpArgs false
namespace Go.Proofs.YtidicpngmildkaaDoor.Pl
open Go.RowKit Go.Proofs.YtidicpngmildkaaDoorW.PrintWords Go.Proofs.YtidicpngmildkaaDoorW.PrintLast Go.Proofs.YtidicpngmildkaaDoorW.PrintMore Go.Proofs.YtidicpngmildkaaDoor.R Go.Proofs.YtidicpngmildkaaDoor.Tx Go.Proofs.YtidicpngmildkaaDoor.Fl Go.Proofs.YtidicpngmildkaaDoor.Aw Go.Proofs.YtidicpngmildkaaDoor.Fm
theorem awake_true : pantographlaw06_awake.f = some true := rfl
theorem lexL_end : ∀ (f : Nat) (u : B) (l : List Bt), lexL f u = .ok l → ∃ l0, l = l0 ++ [endT] := by
  intro f
  induction f with
  | zero => intro u l h; cases h
  | succ f ih =>
    intro u l h
    rw [lexL] at h
    split at h
    · injection h with h
      exact ⟨[], h.symm⟩
    · split at h
      · cases hr : lexL f ((u.dropWhile blank).drop (fdL (u.dropWhile blank)).k) with
        | bad c r => rw [hr] at h; cases h
        | ok l1 =>
          rw [hr] at h
          injection h with h
          obtain ⟨l0, e⟩ := ih _ _ hr
          rw [e] at h
          exact ⟨bare (fdL (u.dropWhile blank)) :: l0, by rw [← h]; rfl⟩
      · cases h
/-- What All answers, bare. -/
theorem res_ok (s : ByteArray) (hs : s.size ≤ 65536) (f : Nat) (hf : s.size < f) (bs : List Bt) (h : lexL f s.data.toList = .ok bs) :
    ∃ l, lexcee_All.f s = some (l, 0, 0, 0, 0) ∧ l.map bareT = bs ∧ Chain s l 0 (-1) ∧ l.length ≤ s.size + 1 := by
  rcases lexA_L s (by omega) f hf with ⟨l, h1, h2, h3, h4⟩ | ⟨c, r, h1, h2, h3, h4⟩
  · rw [h] at h1
    injection h1 with h1
    refine ⟨l, ?_, h1.symm, h3, h4⟩
    unfold lexcee_All.f lexRes
    rw [if_neg (by omega), h2]
  · rw [h] at h1; cases h1
theorem res_bad (s : ByteArray) (hs : s.size ≤ 65536) (f : Nat) (hf : s.size < f) (c : Int) (r : Nat) (h : lexL f s.data.toList = .bad c r) :
    lexcee_All.f s = some ([], c, ((s.size - r : Nat) : Int), (ln s (s.size - r) : Int), (cl s (s.size - r) : Int)) ∧ c ≠ 0 ∧ r ≤ s.size := by
  rcases lexA_L s (by omega) f hf with ⟨l, h1, h2, h3, h4⟩ | ⟨c1, r1, h1, h2, h3, h4⟩
  · rw [h] at h1; cases h1
  · rw [h] at h1
    injection h1 with h1 h5
    subst h1 h5
    refine ⟨?_, h4, h2⟩
    unfold lexcee_All.f lexRes
    rw [if_neg (by omega), h3]
theorem app_data (a b : ByteArray) : (a ++ b).data.toList = a.data.toList ++ b.data.toList := by rw [ByteArray.data_append, Array.toList_append]
theorem rd0 (t : Tok) (l : List Tok) : rd_T35 (t :: l) 0 = t := rfl
/-! ### Same -/
theorem same_refl (l : List Tok) (hl : l.length ≤ 1000000) : ∀ (n i f : Nat), i + n = l.length → n < f → pantographref05_Same.l0 f l l (i : Int) = some true := by
  intro n
  induction n with
  | zero =>
    intro i f hi hf
    obtain ⟨f, rfl⟩ : ∃ g, f = g + 1 := ⟨f - 1, by omega⟩
    simp only [pantographref05_Same.l0]
    rw [if_neg (by omega)]
  | succ n ih =>
    intro i f hi hf
    obtain ⟨f, rfl⟩ : ∃ g, f = g + 1 := ⟨f - 1, by omega⟩
    simp only [pantographref05_Same.l0]
    rw [if_pos (by omega), if_pos (by omega), if_pos (by omega), if_neg (by simp), show wrap64 ((i : Int) + 1) = ((i + 1 : Nat) : Int) by unfold wrap64; omega]
    exact ih (i + 1) f (by omega) (by omega)
theorem same_self (l : List Tok) (hl : l.length ≤ 1000000) (f : Nat) (hf : l.length < f) : pantographref05_Same.f f l l = some true := by
  unfold pantographref05_Same.f
  rw [if_pos rfl]
  exact same_refl l hl l.length 0 f (by omega) hf
theorem bareS_map (a b : List Tok) (h : a.map bareT = b.map bareT) : a.map bareS = b.map bareS := by
  induction a generalizing b with
  | nil =>
    cases b with
    | nil => rfl
    | cons y b => cases h
  | cons x a ih =>
    cases b with
    | nil => cases h
    | cons y b =>
      rw [List.map_cons, List.map_cons] at h
      injection h with h1 h2
      rw [List.map_cons, List.map_cons, ih b h2]
      unfold bareT at h1
      injection h1 with h3 h4
      injection h4 with h5 h6
      unfold bareS
      rw [h3, h5, h6]
end Go.Proofs.YtidicpngmildkaaDoor.Pl
