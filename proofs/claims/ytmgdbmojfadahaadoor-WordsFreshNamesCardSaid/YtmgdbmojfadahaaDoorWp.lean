/- What the document's functions compute. -/
import Derived.Test.YtmgdbmojfadahaaDoorWa
set_option linter.unusedVariables false
namespace Go.Proofs.YtmgdbmojfadahaaDoor.Wd
open Go.RowKit Go.Proofs.YtmgdbmojfadahaaDoorW.PrintWords Go.Proofs.YtmgdbmojfadahaaDoor.R
theorem rdOf_get (l : List ByteArray) (i : Nat) (h : i < l.length) : rdOf ByteArray.empty l (i : Int) = l[i] := by
  rw [show rdOf ByteArray.empty l (i : Int) = l.getD (i : Int).toNat ByteArray.empty from rfl]
  simp [h]
theorem wr_ (i : Nat) (h : i < 1000000) : wrap64 ((i : Int) + 1) = ((i + 1 : Nat) : Int) := by unfold wrap64; omega
theorem toList_iff (a b : ByteArray) : a.toList = b.toList ↔ a = b := by
  constructor
  · intro e
    apply ByteArray.ext
    rw [ByteArray.toList_eq, ByteArray.toList_eq] at e
    exact Array.toList_inj.1 e
  · rintro rfl; rfl
theorem among_loop (l : List ByteArray) (x : ByteArray) (hl : l.length ≤ 1000) : ∀ (k i : Nat), i ≤ l.length → l.length - i < k → pantographref04_Among.l0 k l x (i : Int) = some (mem (l.drop i) x) := by
  intro k
  induction k with
  | zero => intro i _ h; omega
  | succ k ih =>
    intro i hi hk
    unfold pantographref04_Among.l0
    by_cases hlt : i < l.length
    · rw [if_pos (by omega), if_pos (by omega), rdOf_get l i hlt, mem_drop l x i hlt, wr_ i (by omega)]
      by_cases he : l[i] = x
      · rw [if_pos ((toList_iff _ _).2 he), decide_eq_true he]; rfl
      · rw [if_neg (fun e => he ((toList_iff _ _).1 e)), decide_eq_false he, ih (i + 1) (by omega) (by omega)]; rfl
    · rw [if_neg (by omega), List.drop_of_length_le (by omega)]; rfl
theorem among_f (l : List ByteArray) (x : ByteArray) (hl : l.length ≤ 1000) (k : Nat) (hk : l.length < k) : pantographref04_Among.f k l x = some (mem l x) := by
  have := among_loop l x hl k 0 (Nat.zero_le _) (by omega)
  exact this
theorem is_f (d : Int) (x : ByteArray) (k : Nat) (hk : 1000 < k) : pantographref04_Is.f k d x = some (mem (lst d) x) := by
  unfold pantographref04_Is.f
  rw [lst_all d, Option.bind_some, among_f (lst d) x (lst_len d) k (by have := lst_len d; omega)]
  rfl
theorem clash_loop (d : Int) (names : List ByteArray) (hl : names.length ≤ 1000) : ∀ (m i k : Nat), i ≤ names.length → names.length - i < m → 2000 < k - m → m ≤ k → pantographref04_Clash.l0 (k) d names (clash (lst d) (names.take i)) (i : Int) = some (clash (lst d) names) := by
  intro m
  induction m with
  | zero => intro i k _ h; omega
  | succ m ih =>
    intro i k hi hk h2 h3
    obtain ⟨k, rfl⟩ : ∃ k', k = k' + 1 := ⟨k - 1, by omega⟩
    unfold pantographref04_Clash.l0
    by_cases hlt : i < names.length
    · have hcl : (clash (lst d) (names.take i)).length ≤ i := Nat.le_trans (clash_len _ _) (by rw [List.length_take]; omega)
      rw [if_pos (by omega), if_pos (by omega), rdOf_get names i hlt, is_f d _ k (by omega), Option.bind_some, wr_ i (by omega)]
      have hct := clash_take (lst d) names i hlt
      have hih := ih (i + 1) k (by omega) (by omega) (by omega) (by omega)
      cases hm : mem (lst d) names[i] with
      | true =>
        rw [if_pos rfl, among_f _ _ (by omega) k (by omega), Option.bind_some]
        cases ho : mem (clash (lst d) (names.take i)) names[i] with
        | true =>
          rw [if_pos rfl]
          rw [hct, step, if_neg (by rw [hm, ho]; simp)] at hih
          exact hih
        | false =>
          rw [if_neg (by simp), if_pos (by omega)]
          rw [hct, step, if_pos (by rw [hm, ho]; rfl)] at hih
          exact hih
      | false =>
        rw [if_neg (by simp)]
        rw [hct, step, if_neg (by rw [hm]; simp)] at hih
        exact hih
    · rw [if_neg (by omega), List.take_of_length_le (by omega)]
theorem clash_f (d : Int) (names : List ByteArray) (hl : names.length ≤ 1000) : pantographref04_Clash.f 5000 d names = some (clash (lst d) names) := by
  have := clash_loop d names hl 1001 0 5000 (Nat.zero_le _) (by omega) (by omega) (by omega)
  exact this
theorem same_loop (a b : List ByteArray) (hab : a.length = b.length) (hl : a.length ≤ 1000) : ∀ (k i : Nat), i ≤ a.length → a.length - i < k → pantographref01_SameTexts.l0 k a b (i : Int) = some (decide (a.drop i = b.drop i)) := by
  intro k
  induction k with
  | zero => intro i _ h; omega
  | succ k ih =>
    intro i hi hk
    unfold pantographref01_SameTexts.l0
    by_cases hlt : i < a.length
    · have hlb : i < b.length := by omega
      rw [if_pos (by omega), if_pos (by omega), if_pos (by omega), rdOf_get a i hlt, rdOf_get b i hlb, wr_ i (by omega)]
      have hd : (a.drop i = b.drop i) ↔ (a[i] = b[i] ∧ a.drop (i + 1) = b.drop (i + 1)) := by
        have h1 := List.drop_eq_getElem_cons hlt
        have h2 := List.drop_eq_getElem_cons hlb
        rw [h1, h2, List.cons.injEq]
      by_cases he : a[i] = b[i]
      · rw [if_pos ((toList_iff _ _).2 he), ih (i + 1) (by omega) (by omega)]
        congr 1
        rw [decide_eq_decide, hd]
        exact ⟨fun h => ⟨he, h⟩, fun h => h.2⟩
      · rw [if_neg (fun e => he ((toList_iff _ _).1 e))]
        congr 1
        exact (decide_eq_false (fun h => he (hd.1 h).1)).symm
    · rw [if_neg (by omega), List.drop_of_length_le (by omega), List.drop_of_length_le (by omega)]; simp
theorem same_f (a : List ByteArray) (hl : a.length ≤ 1000) (k : Nat) (hk : 1000 < k) : pantographref01_SameTexts.f k a a = some true := by
  unfold pantographref01_SameTexts.f
  rw [if_pos rfl]
  have := same_loop a a rfl hl k 0 (Nat.zero_le _) (by omega)
  simpa using this
end Go.Proofs.YtmgdbmojfadahaaDoor.Wd
