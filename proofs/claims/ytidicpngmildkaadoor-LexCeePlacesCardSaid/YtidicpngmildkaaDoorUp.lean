/- LexCeePlaces: tokens stand where they are told to; plain. -/
import Derived.Test.YtidicpngmildkaaDoorUa
import Derived.Test.YtidicpngmildkaaDoorU3
set_option linter.unusedVariables false
set_option linter.unusedSimpArgs false
namespace Go.Proofs.YtidicpngmildkaaDoor.Pl
open Go.RowKit Go.Proofs.YtidicpngmildkaaDoorW.PrintWords Go.Proofs.YtidicpngmildkaaDoorW.PrintLast Go.Proofs.YtidicpngmildkaaDoorW.PrintMore Go.Proofs.YtidicpngmildkaaDoor.R Go.Proofs.YtidicpngmildkaaDoor.Tx Go.Proofs.YtidicpngmildkaaDoor.Fl Go.Proofs.YtidicpngmildkaaDoor.U Go.Proofs.YtidicpngmildkaaDoor.Aw Go.Proofs.YtidicpngmildkaaDoor.Aw
theorem rd_mid (l1 : List Tok) (t : Tok) (l2 : List Tok) : rd_T35 (l1 ++ t :: l2) (l1.length : Int) = t := by
  show (l1 ++ t :: l2).getD (l1.length : Int).toNat _ = t
  rw [Int.toNat_natCast]
  simp
theorem at_place (s : ByteArray) (q m : Nat) (hs : s.size ≤ 1000000) (hq : q ≤ s.size) (hm : 2 * s.size + 2 ≤ m) : pantographref01_At.f m s (q : Int) = some ((q : Int), ((ln s q : Nat) : Int), ((cl s q : Nat) : Int)) := by
  have := refat_f s (q : Int) hs m hm
  have e : skN s 0 (q : Int) = q := by unfold skN; omega
  rw [e] at this
  exact this
theorem w1 (n : Nat) (h : n ≤ 1000000) : wrap64 ((n : Int) + 1) = ((n + 1 : Nat) : Int) := by unfold wrap64; omega
theorem w2 (n : Nat) (h : n ≤ 1000000) : wrap64 (((n + 1 : Nat) : Int) - 1) = (n : Int) := by unfold wrap64; omega
theorem b3 (x : Int) : (x == x) = true := by simp
theorem places_l0 (s : ByteArray) (hs : s.size ≤ 3000) : ∀ (l2 l1 : List Tok) (k : Nat) (last : Int), (l1 ++ l2).length ≤ 100000 → Chain s l2 k last → ((l1 = [] ∧ last = -1) ∨ ∃ l0 t q0, l1 = l0 ++ [t] ∧ t.f4 = ⟨(q0 : Nat), ln s q0, cl s q0⟩ ∧ q0 < k) →
    ∀ f, 2 * s.size + 4 + 2 * l2.length ≤ f → pantographlaw06_LexCeePlaces.l0 f s (l1 ++ l2) (l1.length : Int) = some true := by
  intro l2
  induction l2 with
  | nil => intro l1 k last _ h; exact h.elim
  | cons t l ih =>
    intro l1 k last hlen h hp f hf
    obtain ⟨q, hkq, hqs, hpos, hsame, hend⟩ := h
    obtain ⟨f, rfl⟩ : ∃ g, f = g + 2 := ⟨f - 2, by omega⟩
    have hL : (l1 ++ t :: l).length = l1.length + 1 + l.length := by simp; omega
    have hrd := rd_mid l1 t l
    have hin : (l1.length : Int) < ((l1 ++ t :: l).length : Int) := by omega
    have h0 : (0 : Int) ≤ (l1.length : Int) := by omega
    have hnext : pantographlaw06_LexCeePlaces.l0 f s (l1 ++ t :: l) (wrap64 ((l1.length : Int) + 1)) = some true := by
      rw [w1 _ (by omega)]
      rcases hend with ⟨e0, rfl, rfl⟩ | ⟨e0, k', hq', hk', hch⟩
      · obtain ⟨f, rfl⟩ : ∃ g, f = g + 1 := ⟨f - 1, by simp only [List.length_cons] at hf; omega⟩
        have hL1 : (l1 ++ [t]).length = l1.length + 1 := by simp
        have hlast : wrap64 (((l1 ++ [t]).length : Int) - 1) = (l1.length : Int) := by rw [hL1]; exact w2 _ (by omega)
        simp only [pantographlaw06_LexCeePlaces.l0]
        rw [if_neg (by rw [hL1]; omega), if_pos (by rw [hL1]; omega), hlast, if_pos (by omega), if_pos (by rw [hL1]; omega), hrd, if_pos e0, hpos, if_pos rfl, awake_true]
        rfl
      · have := ih (l1 ++ [t]) k' (ln s k') (by rw [List.append_assoc]; exact hlen) hch (.inr ⟨l1, t, q, rfl, hpos, hq'⟩) f (by simp only [List.length_cons] at hf; omega)
        rw [List.append_assoc] at this
        rw [show (l1 ++ [t]).length = l1.length + 1 by simp] at this
        exact this
    have hj : pantographlaw06_LexCeePlaces.j1 (f + 1) s (l1 ++ t :: l) (l1.length : Int) false = some true := by
      simp only [pantographlaw06_LexCeePlaces.j1]
      rw [if_neg (by simp), if_pos h0, if_pos hin, hrd]
      rcases hp with ⟨rfl, rfl⟩ | ⟨l0, t0, q0, rfl, hp0, hq0⟩
      · have : t.f3 = false := by
          rw [hsame]
          simp only [beq_eq_false_iff_ne]
          omega
        rw [if_neg (by rw [this]; simp)]
        exact hnext
      · have hl0 : (l0 ++ [t0]).length = l0.length + 1 := by simp
        have hrd0 : rd_T35 (l0 ++ [t0] ++ t :: l) (l0.length : Int) = t0 := by rw [List.append_assoc]; exact rd_mid l0 t0 (t :: l)
        have hw : wrap64 (((l0 ++ [t0]).length : Int) - 1) = (l0.length : Int) := by rw [hl0]; exact w2 _ (by omega)
        by_cases hs3 : t.f3 = true
        · rw [if_pos hs3, if_neg (by rw [hl0]; omega), hw, if_pos (by omega), if_pos (by omega), hrd0, hpos, hp0]
          have := ln_mono s q0 q (by omega)
          rw [if_neg (by show ¬ ((ln s q : Int) < (ln s q0 : Int)); omega)]
          exact hnext
        · rw [if_neg hs3]
          exact hnext
    simp only [pantographlaw06_LexCeePlaces.l0]
    rw [if_pos hin, if_pos h0, hrd, hpos]
    dsimp only
    rw [at_place s q (f + 1) (by omega) hqs (by omega), Option.bind_some]
    dsimp only
    rw [if_neg (by simp)]
    rcases hp with ⟨rfl, rfl⟩ | ⟨l0, t0, q0, rfl, hp0, hq0⟩
    · rw [if_neg (by simp)]
      exact hj
    · have hl0 : (l0 ++ [t0]).length = l0.length + 1 := by simp
      have hrd0 : rd_T35 (l0 ++ [t0] ++ t :: l) (l0.length : Int) = t0 := by rw [List.append_assoc]; exact rd_mid l0 t0 (t :: l)
      have hw : wrap64 (((l0 ++ [t0]).length : Int) - 1) = (l0.length : Int) := by rw [hl0]; exact w2 _ (by omega)
      rw [if_pos (by rw [hl0]; omega), hw, if_pos (by omega), if_pos (by omega), hrd0, hp0]
      rw [if_neg (by show ¬ ((q : Int) ≤ (q0 : Int)); omega)]
      exact hj
theorem places_true (s : ByteArray) : ∃ f, pantographlaw06_LexCeePlaces.f f s = some true := by
  refine ⟨100000, ?_⟩
  unfold pantographlaw06_LexCeePlaces.f
  by_cases hs : (s.size : Int) > 3000
  · rw [if_pos hs, awake_true]; rfl
  · rw [if_neg hs]
    cases hr : lexL 4000 s.data.toList with
    | ok bs =>
      obtain ⟨l, e1, _, e3, e4⟩ := res_ok s (by omega) 4000 (by omega) bs hr
      rw [e1, Option.bind_some]
      dsimp only
      rw [if_pos rfl]
      have := places_l0 s (by omega) l [] 0 (-1) (by simp; omega) e3 (.inl ⟨rfl, rfl⟩) 100000 (by omega)
      exact this
    | bad c r =>
      obtain ⟨e1, e2, e3⟩ := res_bad s (by omega) 4000 (by omega) c r hr
      rw [e1, Option.bind_some]
      dsimp only
      rw [if_neg e2, if_pos (show (([] : List Tok).length : Int) = 0 from rfl), at_place s (s.size - r) 100000 (by omega) (by omega) (by omega), Option.bind_some]
      dsimp only
      rw [if_pos (by simp), awake_true]
      rfl
end Go.Proofs.YtidicpngmildkaaDoor.Pl
