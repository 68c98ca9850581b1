/- NoteLong, its pure statement: a form is longer than its text by its signs, and by no more than a byte for each of its bytes. Conditions: none beyond the row's own reach. -/
import Derived.Test.YtnommbcendoncaaNpk
set_option linter.unusedVariables false
namespace Go.Proofs.Ytnommbcendoncaa.Pure
open Go.RowKit Go.Proofs.Ytnommbcendoncaa.L Go.Proofs.Ytnommbcendoncaa.B Go.Proofs.Ytnommbcendoncaa.Np Go.Proofs.Ytnommbcendoncaa.Fx Go.Proofs.Ytnommbcendoncaa.Npl Go.Proofs.YtnommbcendoncaaW.PrintWords Go.Proofs.YtnommbcendoncaaW.PrintLast

theorem NoteLong : pantographlaw02_NoteLong.Pure := by
  intro a0 a1 _ hs
  unfold pantographlaw02_NoteLong.f note_Print.f
  obtain ⟨d, hd, hp⟩ := pick_two a0
  rw [hp]
  simp only [Option.bind_some]
  by_cases h0 : (npr d a1).2 = 0
  · obtain ⟨_, hl, hr, e⟩ := npr_ok d a1 h0
    rw [if_pos h0, e]
    simp only
    have hz := nform_size d a1
    have hg := nbody_ge d a1.data.toList
    have hu := nbody_len d a1.data.toList
    rw [data_length] at hg hu
    have h4 : (nopen d).length + (nend d).length = 2 * (1 + d.toNat) := by rcases hd with rfl | rfl <;> rfl
    have e1 : wrap64 (((nform d a1).size : Int) - wrap64 (2 * wrap64 (1 + d))) = (nbody d a1.data.toList).length := by
      rw [hz]; unfold wrap64; rcases hd with rfl | rfl <;> simp at h4 <;> omega
    have e2 : wrap64 (2 * (a1.size : Int)) = 2 * (a1.size : Int) := by unfold wrap64; omega
    rw [e1, e2, if_pos (by omega), if_pos (by omega), awake_true]; rfl
  · rw [if_neg h0, awake_true]; rfl
end Go.Proofs.Ytnommbcendoncaa.Pure
