/- Plain laws: Pick, and how long a form is. -/
import Derived.Test.YtnommbcendoncaaNpr
set_option linter.unusedVariables false
namespace Go.Proofs.Ytnommbcendoncaa.Npl
open Go.RowKit Go.Proofs.Ytnommbcendoncaa.L Go.Proofs.Ytnommbcendoncaa.B Go.Proofs.Ytnommbcendoncaa.Np Go.Proofs.Ytnommbcendoncaa.Fx Go.Proofs.YtnommbcendoncaaW.PrintWords Go.Proofs.YtnommbcendoncaaW.PrintLast
theorem pick_two (a : Int) : ∃ d, (d = 0 ∨ d = 1) ∧ pantographref01_Pick.f a 2 = some d := by
  unfold pantographref01_Pick.f
  rw [if_neg (by omega), if_neg (by omega)]
  have h1 := Int.tmod_lt_of_pos a (b := 2) (by omega)
  have h2 := Int.lt_tmod_of_pos a (b := 2) (by omega)
  by_cases h : Int.tmod a 2 < 0
  · rw [if_pos h]
    refine ⟨_, ?_, rfl⟩
    have : Int.tmod a 2 = -1 := by omega
    rw [this]; right; unfold wrap64; omega
  · rw [if_neg h]
    exact ⟨_, by omega, rfl⟩
theorem nbody_ge (d : Int) (l : List UInt8) : l.length ≤ (nbody d l).length := by
  induction l with
  | nil => simp
  | cons c r ih => simp only [nbody]; split <;> simp <;> omega
theorem nform_size (d : Int) (s : ByteArray) : (nform d s).size = (nopen d).length + (nbody d s.data.toList).length + (nend d).length := by
  show (nopen d ++ nbody d s.data.toList ++ nend d).toArray.size = _
  simp; omega
theorem ext_of_data {a b : ByteArray} (h : a.data.toList = b.data.toList) : a = b := by
  cases a; cases b; congr 1; exact Array.toList_inj.mp h
end Go.Proofs.Ytnommbcendoncaa.Npl
