/- NotePrints, its pure statement: for every number and every text the program's form and error are the reference's. Conditions: none beyond the row's own reach. -/
import Derived.Test.YtnommbcendoncaaNpl
set_option linter.unusedVariables false
namespace Go.Proofs.Ytnommbcendoncaa.Pure
open Go.RowKit Go.Proofs.Ytnommbcendoncaa.L Go.Proofs.Ytnommbcendoncaa.B Go.Proofs.Ytnommbcendoncaa.Np Go.Proofs.Ytnommbcendoncaa.Fx Go.Proofs.Ytnommbcendoncaa.Npl Go.Proofs.YtnommbcendoncaaW.PrintWords Go.Proofs.YtnommbcendoncaaW.PrintLast

theorem prints_bad (k : Nat) (d : Int) (s : ByteArray) (c : Int) (hc : c ≠ 0) : pantographlaw02_NotePrints.j1 (k + 1) d s ⟨#[]⟩ c c = some true := by
  simp only [pantographlaw02_NotePrints.j1]
  rw [if_neg hc, if_pos (by rw [Lib.toList_data]), if_pos trivial, awake_true]; rfl

theorem NotePrints : pantographlaw02_NotePrints.Pure := by
  intro a0 a1 _ hs
  obtain ⟨K1, h1⟩ : ∃ K, ∀ k, K ≤ k → pantographref02_Check.f k a1 = some _ := check_ev a1 hs
  unfold pantographlaw02_NotePrints.f note_Print.f
  by_cases hd : a0 = 0 ∨ a0 = 1
  · have hn : ¬ a0 < 0 := by omega
    have hg : decide (a0 > 1) = false := decide_eq_false (by omega)
    by_cases hl : 1024 < a1.size
    · refine ⟨K1 + 2, ?_⟩
      have e : npr a0 a1 = (⟨#[]⟩, 3) := by unfold npr; rw [if_pos hd, if_pos hl]
      rw [h1 _ (by omega), e, if_pos hl]
      simp only [Option.bind_some, pantographlaw02_NotePrints.j0]
      rw [if_neg hn, hg, if_neg (by simp)]
      exact prints_bad K1 a0 a1 3 (by omega)
    · by_cases hr : a1.data.toList.all nright = true
      · obtain ⟨K2, h2⟩ : ∃ K, ∀ k, K ≤ k → pantographref02_Print.f k a0 a1 = some _ := print_ev a0 hd a1 (by omega)
        refine ⟨K1 + K2 + 2, ?_⟩
        rw [h1 _ (by omega), res_right a0 hd a1 (by omega) hr, if_neg hl, if_pos hr]
        simp only [Option.bind_some, pantographlaw02_NotePrints.j0]
        rw [if_neg hn, hg, if_neg (by simp)]
        simp only [pantographlaw02_NotePrints.j1]
        rw [if_pos trivial, h2 _ (by omega)]
        simp only [Option.bind_some, if_true]
        rw [awake_true]; rfl
      · refine ⟨K1 + 2, ?_⟩
        have e : npr a0 a1 = (⟨#[]⟩, 8) := by unfold npr; rw [if_pos hd, if_neg hl, if_neg hr]
        rw [h1 _ (by omega), e, if_neg hl, if_neg hr]
        simp only [Option.bind_some, pantographlaw02_NotePrints.j0]
        rw [if_neg hn, hg, if_neg (by simp)]
        exact prints_bad K1 a0 a1 8 (by omega)
  · refine ⟨K1 + 2, ?_⟩
    have e : npr a0 a1 = (⟨#[]⟩, 1) := by unfold npr; rw [if_neg hd]
    rw [h1 _ (by omega), e]
    simp only [Option.bind_some, pantographlaw02_NotePrints.j0, if_true]
    by_cases hn : a0 < 0
    · rw [if_pos hn]; exact prints_bad K1 a0 a1 1 (by omega)
    · rw [if_neg hn, if_pos (decide_eq_true (by omega))]; exact prints_bad K1 a0 a1 1 (by omega)
end Go.Proofs.Ytnommbcendoncaa.Pure
