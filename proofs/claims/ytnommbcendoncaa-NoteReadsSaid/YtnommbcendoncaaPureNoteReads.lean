/- NoteReads, its pure statement: the program and the reference read the same comment, or refuse it alike. Conditions: none beyond the row's own reach. -/
import Derived.Test.YtnommbcendoncaaNpr
set_option linter.unusedVariables false
namespace Go.Proofs.Ytnommbcendoncaa.Pure
open Go.RowKit Go.Proofs.Ytnommbcendoncaa.L Go.Proofs.Ytnommbcendoncaa.B Go.Proofs.Ytnommbcendoncaa.Np Go.Proofs.Ytnommbcendoncaa.Fx Go.Proofs.Ytnommbcendoncaa.Npl Go.Proofs.YtnommbcendoncaaW.PrintWords Go.Proofs.YtnommbcendoncaaW.PrintLast

theorem NoteReads : pantographlaw02_NoteReads.Pure := by
  intro a0 a1 _ hs
  obtain ⟨K1, h1⟩ : ∃ K, ∀ k, K ≤ k → note_Read.f k a0 a1 = some _ := read_ev a0 a1 (by omega)
  obtain ⟨K2, h2⟩ : ∃ K, ∀ k, K ≤ k → pantographref02_Read.f k a0 a1 = some _ := rread_ev a0 a1 (by omega)
  refine ⟨K1 + K2, ?_⟩
  unfold pantographlaw02_NoteReads.f
  rw [h1 _ (by omega), h2 _ (by omega), begins_f, rbegins_f]
  simp only [Option.bind_some, if_true]
  rw [if_pos (beq_self_eq_true _), awake_true]; rfl
end Go.Proofs.Ytnommbcendoncaa.Pure
