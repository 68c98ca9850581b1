/- The document's printer of comments: plain. -/
import Derived.Test.YtidicpngmildkaaDoorG3
import Derived.Test.YtidicpngmildkaaDoorQ
set_option linter.unusedVariables false
set_option linter.unusedSimpArgs false
namespace Go.Proofs.YtidicpngmildkaaDoor.Pn
open Go.RowKit Go.Proofs.YtidicpngmildkaaDoor.R Go.Proofs.YtidicpngmildkaaDoor.Q Go.Proofs.YtidicpngmildkaaDoor.Fy Go.Proofs.YtidicpngmildkaaDoorW.PrintWords Go.Proofs.YtidicpngmildkaaDoorW.PrintLast Go.Proofs.YtidicpngmildkaaDoorW.PrintMore
theorem print_l0 (d : Int) (hd : d = 0 ∨ d = 1) (s : ByteArray) (hs : s.size ≤ 1024) : ∀ (n i k : Nat) (acc : List UInt8), i + n = s.size → n < k → acc.length + 2 * n ≤ 4000 →
    pantographref02_Print.l0 k d s (ints acc) (i : Int) = some ⟨(acc ++ nbody d (s.data.toList.drop i) ++ nend d).toArray⟩ := by
  intro n
  induction n with
  | zero =>
    intro i k acc hi hk hl
    obtain ⟨k, rfl⟩ : ∃ m, k = m + 1 := ⟨k - 1, by omega⟩
    have hl2 := ints_length acc
    simp only [pantographref02_Print.l0]
    rw [if_neg (by omega), List.drop_eq_nil_of_le (by rw [data_length]; omega)]
    rcases hd with rfl | rfl
    · rw [if_pos rfl, if_pos (by omega)]
      have : ints acc ++ [125] = ints (acc ++ nbody 0 [] ++ nend 0) := by simp [ints, nbody, nend]
      rw [this, str_ints]
    · rw [if_neg (by omega)]
      simp only [Option.bind_some]
      rw [if_pos (by simp; omega)]
      have : ints acc ++ [42, 47] = ints (acc ++ nbody 1 [] ++ nend 1) := by simp [ints, nbody, nend]
      rw [this, str_ints]
  | succ n ih =>
    intro i k acc hi hk hl
    obtain ⟨k, rfl⟩ : ∃ m, k = m + 1 := ⟨k - 1, by omega⟩
    have hlt : i < s.size := by omega
    have hl2 := ints_length acc
    have e1 : ints acc ++ [((s[i]'hlt).toNat : Int)] = ints (acc ++ [s[i]]) := by simp [ints]
    have e2 : ints acc ++ [92] ++ [((s[i]'hlt).toNat : Int)] = ints (acc ++ [92, s[i]]) := by simp [ints]
    have ih1 := ih (i + 1) k (acc ++ [s[i]]) (by omega) (by omega) (by simp; omega)
    have ih2 := ih (i + 1) k (acc ++ [92, s[i]]) (by omega) (by omega) (by simp; omega)
    have n1 : nmark d s[i] (s.data.toList.drop (i + 1)) = false → some (⟨(acc ++ [s[i]] ++ nbody d (s.data.toList.drop (i + 1)) ++ nend d).toArray⟩ : ByteArray) = some ⟨(acc ++ nbody d (s.data.toList.drop i) ++ nend d).toArray⟩ := by
      intro h; rw [nx_data s i hlt]; simp only [nbody, h]; simp
    have n2 : nmark d s[i] (s.data.toList.drop (i + 1)) = true → some (⟨(acc ++ [92, s[i]] ++ nbody d (s.data.toList.drop (i + 1)) ++ nend d).toArray⟩ : ByteArray) = some ⟨(acc ++ nbody d (s.data.toList.drop i) ++ nend d).toArray⟩ := by
      intro h; rw [nx_data s i hlt]; simp only [nbody, h]; simp
    have hm := mark_int d hd s[i] (s.data.toList.drop (i + 1))
    have hf : ∀ P : Prop, ¬ P → nmark d s[i] (s.data.toList.drop (i + 1)) = false ∨ nmark d s[i] (s.data.toList.drop (i + 1)) = true := fun _ _ => by cases nmark d s[i] (s.data.toList.drop (i + 1)) <;> simp
    have plain : ¬ (nmark d s[i] (s.data.toList.drop (i + 1)) = true) → (if (ints acc).length < 140737488355328 then pantographref02_Print.l0 k d s (ints acc ++ [((s[i]'hlt).toNat : Int)]) ((i + 1 : Nat) : Int) else none) = some ⟨(acc ++ nbody d (s.data.toList.drop i) ++ nend d).toArray⟩ := by
      intro h
      rw [if_pos (by omega), e1, ih1, n1 (Bool.eq_false_iff.mpr h)]
    have quot : nmark d s[i] (s.data.toList.drop (i + 1)) = true → (if (ints acc).length < 140737488355328 then ((some (ints acc ++ [92] : List Int)).bind fun y => if y.length < 140737488355328 then pantographref02_Print.l0 k d s (y ++ [((s[i]'hlt).toNat : Int)]) ((i + 1 : Nat) : Int) else none) else none) = some ⟨(acc ++ nbody d (s.data.toList.drop i) ++ nend d).toArray⟩ := by
      intro h
      rw [if_pos (by omega)]
      simp only [Option.bind_some]
      rw [if_pos (by simp; omega), e2, ih2, n2 h]
    simp only [pantographref02_Print.l0]
    rw [if_pos (by omega), if_pos (by omega), wr1 i s.size hlt (by omega), bt_nat s i hlt]
    by_cases h92 : ((s[i]'hlt).toNat : Int) = 92
    · rw [if_pos h92]; exact quot (hm.mpr (.inl h92))
    · rw [if_neg h92]
      rcases hd with rfl | rfl
      · rw [if_pos rfl]
        by_cases h125 : ((s[i]'hlt).toNat : Int) = 125
        · rw [if_pos h125]; exact quot (hm.mpr (.inr (.inl ⟨rfl, h125⟩)))
        · rw [if_neg h125, if_neg (by omega)]
          exact plain (fun h => by rcases hm.mp h with h | ⟨_, h⟩ | ⟨h, _⟩ <;> omega)
      · rw [if_neg (by omega), if_pos rfl]
        by_cases h42 : ((s[i]'hlt).toNat : Int) = 42
        · rw [if_pos h42]
          by_cases hnx : i + 1 < s.size
          · rw [if_pos (by omega), if_pos (by omega), bt_nat s (i + 1) hnx]
            have hh : (s.data.toList.drop (i + 1)).head? = some (s[i + 1]'hnx) := by rw [nx_data s (i + 1) hnx]; rfl
            by_cases h47 : ((s[i + 1]'hnx).toNat : Int) = 47
            · rw [if_pos h47]
              refine quot (hm.mpr (.inr (.inr ⟨rfl, h42, ?_⟩)))
              rw [hh]; congr 1
              rw [← UInt8.toNat_inj]
              show (s[i + 1]'hnx).toNat = 47
              omega
            · rw [if_neg h47]
              refine plain (fun h => ?_)
              rcases hm.mp h with h | ⟨h, _⟩ | ⟨_, _, h⟩
              · exact h92 h
              · omega
              · rw [hh] at h
                have := Option.some.inj h
                rw [this] at h47
                exact h47 rfl
          · rw [if_neg (by omega)]
            refine plain (fun h => ?_)
            rcases hm.mp h with h | ⟨h, _⟩ | ⟨_, _, h⟩
            · exact h92 h
            · omega
            · rw [List.drop_eq_nil_of_le (by rw [data_length]; omega)] at h; cases h
        · rw [if_neg h42]
          exact plain (fun h => by rcases hm.mp h with h | ⟨h, _⟩ | ⟨_, h, _⟩ <;> omega)

theorem print_ev (d : Int) (hd : d = 0 ∨ d = 1) (s : ByteArray) (hs : s.size ≤ 1024) : Ev (fun k => pantographref02_Print.f k d s) (nform d s) := by
  refine Ev.of (pantographref02_Print.mono d s) (k := s.size + 2) ?_
  have h := print_l0 d hd s hs s.size 0 (s.size + 1) (nopen d) (by omega) (by omega) (by have := nopen_len d; omega)
  rw [List.drop_zero] at h
  unfold pantographref02_Print.f
  rcases hd with rfl | rfl
  · rw [if_pos rfl, if_pos (by simp)]
    simp only [pantographref02_Print.j0]
    exact h
  · rw [if_neg (by omega)]
    simp only [Option.bind_some]
    rw [if_pos (by simp)]
    simp only [pantographref02_Print.j0]
    exact h
end Go.Proofs.YtidicpngmildkaaDoor.Pn
