/- NoteApart, its pure statement: unlike texts have unlike forms, and none is the beginning of another one. Conditions: none beyond the row's own reach. -/
import Derived.Test.YtnommbcendoncaaNpk
set_option linter.unusedVariables false
namespace Go.Proofs.Ytnommbcendoncaa.Pure
open Go.RowKit Go.Proofs.Ytnommbcendoncaa.L Go.Proofs.Ytnommbcendoncaa.B Go.Proofs.Ytnommbcendoncaa.Np Go.Proofs.Ytnommbcendoncaa.Fx Go.Proofs.Ytnommbcendoncaa.Npl Go.Proofs.YtnommbcendoncaaW.PrintWords Go.Proofs.YtnommbcendoncaaW.PrintLast

theorem apart_ok (k : Nat) (d : Int) (hd : d = 0 ∨ d = 1) (a b : ByteArray) (ha : (npr d a).2 = 0) (hb : (npr d b).2 = 0) : pantographlaw02_NoteApart.j0 (k + 1) (npr d a).1 (npr d b).1 (a.toList == b.toList) = some true := by
  obtain ⟨_, hla, hra, ea⟩ := npr_ok d a ha
  obtain ⟨_, hlb, hrb, eb⟩ := npr_ok d b hb
  simp only [pantographlaw02_NoteApart.j0]
  by_cases he : (a.toList == b.toList) = true
  · rw [if_pos he, awake_true]; rfl
  · rw [if_neg he, ea, eb]
    simp only
    by_cases hle : ((nform d a).size : Int) ≤ ((nform d b).size : Int)
    · rw [if_pos hle, if_pos (by omega), if_neg ?_, awake_true]
      · rfl
      · intro hx
        refine he (beq_iff_eq.mpr ?_)
        have hx' : (nform d b).data.toList.take (nform d a).size = (nform d a).data.toList := by
          have := hx
          rw [Lib.extract_toList, Lib.toList_data, List.drop_zero] at this
          exact this
        have hsplit : nform d b = nform d a ++ ⟨((nform d b).data.toList.drop (nform d a).size).toArray⟩ := by
          apply ext_of_data
          rw [ByteArray.data_append, Array.toList_append, ← hx']
          simp
        have h1 := nread_form d hd a ⟨((nform d b).data.toList.drop (nform d a).size).toArray⟩ ea hra hla
        have h2 := nread_form d hd b ⟨#[]⟩ eb hrb hlb
        have h3 : nform d b ++ (⟨#[]⟩ : ByteArray) = nform d b := by
          apply ext_of_data
          rw [ByteArray.data_append, Array.toList_append]; simp
        rw [h3, hsplit, h1] at h2
        rw [(Prod.mk.inj h2).1]
    · rw [if_neg hle, awake_true]; rfl

theorem NoteApart : pantographlaw02_NoteApart.Pure := by
  intro a0 a b _ _ _
  refine ⟨1, ?_⟩
  unfold pantographlaw02_NoteApart.f note_Print.f
  obtain ⟨d, hd, hp⟩ := pick_two a0
  rw [hp]
  simp only [Option.bind_some]
  have away : ∀ x y, pantographlaw02_NoteApart.j0 1 x y true = some true := by
    intro x y
    show pantographlaw02_NoteApart.j0 (0 + 1) x y true = some true
    simp only [pantographlaw02_NoteApart.j0]
    rw [if_pos trivial, awake_true]; rfl
  by_cases ha : (npr d a).2 = 0
  · rw [if_pos ha]
    by_cases hb : (npr d b).2 = 0
    · rw [if_pos hb]; exact apart_ok 0 d hd a b ha hb
    · rw [if_neg hb]; exact away _ _
  · rw [if_neg ha]; exact away _ _
end Go.Proofs.Ytnommbcendoncaa.Pure
