/- NoteMany, its pure statement: comments that are printed line by line are each one's form; of the first one that is wrong the error is told. Conditions: none beyond the row's own reach. -/
import Derived.Test.YtnommbcendoncaaNpk
set_option linter.unusedVariables false
namespace Go.Proofs.Ytnommbcendoncaa.Pure
open Go.RowKit Go.Proofs.Ytnommbcendoncaa.L Go.Proofs.Ytnommbcendoncaa.B Go.Proofs.Ytnommbcendoncaa.Np Go.Proofs.Ytnommbcendoncaa.Fx Go.Proofs.Ytnommbcendoncaa.Npl Go.Proofs.YtnommbcendoncaaW.PrintWords Go.Proofs.YtnommbcendoncaaW.PrintLast

theorem many_l0 (d : Int) (l : List ByteArray) (hl : l.length ≤ 20) (t : ByteArray) (e : Int) : ∀ (n i k : Nat) (acc : List UInt8), i + n = l.length → n < k → acc.length ≤ 2053 * i → np2a d acc (l.drop i) = (t, e) →
    pantographlaw02_NoteMany.l0 k d l t e ⟨acc.toArray⟩ (i : Int) = some true := by
  intro n
  induction n with
  | zero =>
    intro i k acc hi hk ha h
    obtain ⟨k, rfl⟩ : ∃ m, k = m + 1 := ⟨k - 1, by omega⟩
    simp only [pantographlaw02_NoteMany.l0]
    rw [List.drop_eq_nil_of_le (by omega)] at h
    obtain ⟨rfl, rfl⟩ := Prod.mk.inj (show (⟨acc.toArray⟩, (0 : Int)) = (t, e) from h)
    rw [if_neg (by omega), if_pos rfl, if_pos rfl, awake_true]; rfl
  | succ n ih =>
    intro i k acc hi hk ha h
    obtain ⟨k, rfl⟩ : ∃ m, k = m + 1 := ⟨k - 1, by omega⟩
    have hlt : i < l.length := by omega
    simp only [pantographlaw02_NoteMany.l0]
    have hrd : rdOf ByteArray.empty l (i : Int) = l[i] := by
      rw [show rdOf ByteArray.empty l (i : Int) = l.getD (i : Int).toNat ByteArray.empty from rfl]
      simp [hlt]
    rw [if_pos (by omega), if_pos (by omega), hrd]
    unfold note_Print.f
    simp only [Option.bind_some]
    rw [List.drop_eq_getElem_cons hlt] at h
    simp only [np2a] at h
    by_cases h0 : (npr d l[i]).2 = 0
    · rw [if_pos h0] at h
      have hsz := npr_size d l[i]
      have hasz : (⟨acc.toArray⟩ : ByteArray).size = acc.length := by simp [ByteArray.size]
      have hcat : (⟨acc.toArray⟩ : ByteArray) ++ (npr d l[i]).1 ++ (⟨#[10]⟩ : ByteArray) = ⟨(acc ++ (npr d l[i]).1.data.toList ++ [10]).toArray⟩ := by
        apply ext_of_data
        rw [ByteArray.data_append, Array.toList_append, ByteArray.data_append, Array.toList_append]
      have hw : wrap64 ((i : Int) + 1) = ((i + 1 : Nat) : Int) := wr1 i 21 (by omega) (by omega)
      rw [if_pos h0, hasz, if_pos (by omega), if_pos (by omega), hcat, hw]
      exact ih (i + 1) k _ (by omega) (by omega) (by simp only [List.length_append, data_length, List.length_singleton]; omega) h
    · rw [if_neg h0] at h
      obtain ⟨rfl, rfl⟩ := Prod.mk.inj h
      rw [if_neg h0, if_pos (by rw [Lib.toList_data]), if_pos rfl, awake_true]; rfl

theorem NoteMany : pantographlaw02_NoteMany.Pure := by
  intro d l _ _
  unfold pantographlaw02_NoteMany.f
  by_cases hl : (l.length : Int) > 20
  · exact ⟨0, by rw [if_pos hl, awake_true]; rfl⟩
  · refine ⟨l.length + 1, ?_⟩
    unfold note_Print2.f
    rw [if_neg hl, if_pos (by omega)]
    simp only [Option.bind_some]
    exact many_l0 d l (by omega) _ _ l.length 0 (l.length + 1) [] (by omega) (by omega) (by simp) rfl
end Go.Proofs.Ytnommbcendoncaa.Pure
