/- NoteBack, its pure statement: what is printed is read as it was, whatever stands behind it, in both dialects. Conditions: none beyond the row's own reach. -/
import Derived.Test.YtnommbcendoncaaNpk
set_option linter.unusedVariables false
namespace Go.Proofs.Ytnommbcendoncaa.Pure
open Go.RowKit Go.Proofs.Ytnommbcendoncaa.L Go.Proofs.Ytnommbcendoncaa.B Go.Proofs.Ytnommbcendoncaa.Np Go.Proofs.Ytnommbcendoncaa.Fx Go.Proofs.Ytnommbcendoncaa.Npl Go.Proofs.YtnommbcendoncaaW.PrintWords Go.Proofs.YtnommbcendoncaaW.PrintLast

theorem back_round (k : Nat) (d : Int) (hd : d = 0 ∨ d = 1) (s b : ByteArray) (hs : s.size ≤ 140737488351232) (hb : b.size ≤ 140737488351232)
    (hk : (npr d s).2 = 0 → ∃ K, ∀ k, K ≤ k → note_Read.f k d (nform d s ++ b) = some (nread d (nform d s ++ b))) (h : Ev (fun k => pantographlaw02_NoteBack.l0 k s b (d + 1)) true) :
    Ev (fun k => pantographlaw02_NoteBack.l0 k s b d) true := by
  obtain ⟨K2, h2⟩ : ∃ K, ∀ k, K ≤ k → pantographlaw02_NoteBack.l0 k s b (d + 1) = some true := h
  have e1 : wrap64 (d + 1) = d + 1 := by rcases hd with rfl | rfl <;> (unfold wrap64; omega)
  by_cases h0 : (npr d s).2 = 0
  · obtain ⟨K1, h1⟩ := hk h0
    refine ⟨K1 + K2 + 1, fun k hk => ?_⟩
    obtain ⟨k, rfl⟩ : ∃ m, k = m + 1 := ⟨k - 1, by omega⟩
    simp only [pantographlaw02_NoteBack.l0]
    unfold note_Print.f
    rw [if_pos (by omega), e1]
    simp only [Option.bind_some]
    obtain ⟨_, hl, hr, e⟩ := npr_ok d s h0
    have hz := nform_size d s
    have hu := nbody_len d s.data.toList
    rw [data_length] at hu
    have h4 := nopen_len d
    have h5 : (nend d).length ≤ 2 := by unfold nend; split <;> simp
    rw [if_pos h0, e]
    simp only
    rw [if_pos (by omega), h1 _ (by omega), nread_form d hd s b e hr hl, begins_f]
    simp only [Option.bind_some, if_true]
    have hbg : (nopen d).isPrefixOf (nform d s).data.toList = true := List.isPrefixOf_iff_prefix.mpr (by simp [nform])
    rw [if_pos (by simp [hbg, hd])]
    exact h2 _ (by omega)
  · refine ⟨K2 + 1, fun k hk => ?_⟩
    obtain ⟨k, rfl⟩ : ∃ m, k = m + 1 := ⟨k - 1, by omega⟩
    simp only [pantographlaw02_NoteBack.l0]
    unfold note_Print.f
    rw [if_pos (by omega), e1]
    simp only [Option.bind_some]
    rw [if_neg h0]; exact h2 _ (by omega)

theorem NoteBack : pantographlaw02_NoteBack.Pure := by
  intro s b hs hb
  have hread : ∀ d, (d = 0 ∨ d = 1) → (npr d s).2 = 0 → ∃ K, ∀ k, K ≤ k → note_Read.f k d (nform d s ++ b) = some (nread d (nform d s ++ b)) := by
    intro d hd h0
    obtain ⟨_, hl, _, _⟩ := npr_ok d s h0
    have hz := nform_size d s
    have hu := nbody_len d s.data.toList
    rw [data_length] at hu
    have h4 := nopen_len d
    have h5 : (nend d).length ≤ 2 := by unfold nend; split <;> simp
    exact read_ev d _ (by rw [ByteArray.size_append]; omega)
  have e2 : Ev (fun k => pantographlaw02_NoteBack.l0 k s b (1 + 1)) true := by
    refine ⟨1, fun k hk => ?_⟩
    obtain ⟨k, rfl⟩ : ∃ m, k = m + 1 := ⟨k - 1, by omega⟩
    simp only [pantographlaw02_NoteBack.l0]
    rw [if_neg (by omega), awake_true]; rfl
  have e1 := back_round 0 1 (.inr rfl) s b hs hb (hread 1 (.inr rfl)) e2
  have e0 := back_round 0 0 (.inl rfl) s b hs hb (hread 0 (.inl rfl)) e1
  exact e0.rounds
end Go.Proofs.Ytnommbcendoncaa.Pure
