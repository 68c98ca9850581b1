/- The names that Fresh tries. -/
import Derived.Test.YtmgdbmojfadahaaDoorWd
import Derived.Lib.ItoaNum
set_option linter.unusedVariables false
namespace Go.Proofs.YtmgdbmojfadahaaDoor.Wd
open Go.RowKit Go.Proofs.YtmgdbmojfadahaaDoorW.PrintWords Go.Proofs.YtmgdbmojfadahaaDoor.R

def decB (n : Nat) : ByteArray := ⟨(Lib.decDigits n).toArray⟩
/-- The value of digits. -/
def val (l : List UInt8) : Nat := l.foldl (fun a b => a * 10 + (b.toNat - 48)) 0
theorem val_snoc (l : List UInt8) (b : UInt8) : val (l ++ [b]) = val l * 10 + (b.toNat - 48) := by simp [val]
theorem val_dec (n : Nat) : val (Lib.decDigits n) = n := by
  induction n using Nat.strongRecOn with
  | _ n ih =>
    rw [Lib.decDigits]
    by_cases h : n < 10
    · rw [dif_pos h]
      show 0 * 10 + ((UInt8.ofNat (48 + n)).toNat - 48) = n
      rw [UInt8.toNat_ofNat']; omega
    · rw [dif_neg h, val_snoc, ih (n / 10) (by omega), UInt8.toNat_ofNat']; omega
theorem dec_inj {a b : Nat} (h : decB a = decB b) : a = b := by
  have : Lib.decDigits a = Lib.decDigits b := by
    have h1 : (decB a).data.toList = (decB b).data.toList := by rw [h]
    simpa [decB] using h1
  rw [← val_dec a, ← val_dec b, this]
def base (s : ByteArray) : ByteArray := s.extract 0 (min s.size 24)
def name (s : ByteArray) : Nat → ByteArray
  | 0 => s
  | n + 1 => base s ++ ⟨#[95]⟩ ++ decB (n + 1)
theorem name_inj (s : ByteArray) {a b : Nat} (h : name s (a + 1) = name s (b + 1)) : a = b := by
  have h1 : (base s ++ ⟨#[95]⟩ ++ decB (a + 1)).data.toList = (base s ++ ⟨#[95]⟩ ++ decB (b + 1)).data.toList := by
    show (name s (a + 1)).data.toList = (name s (b + 1)).data.toList
    rw [h]
  have h2 : (decB (a + 1)).data.toList = (decB (b + 1)).data.toList := by
    simpa using h1
  have h3 : decB (a + 1) = decB (b + 1) := by
    apply ByteArray.ext
    exact Array.toList_inj.1 h2
  have := dec_inj h3
  omega
/-- No word has a sign '_'. -/
theorem no_bar (d : Int) : ∀ x ∈ lst d, (95 : UInt8) ∉ x.data.toList := by
  have h0 : ((lst 0).all fun x => !x.data.toList.contains 95) = true := by kernel_rfl
  have h1 : ((lst 1).all fun x => !x.data.toList.contains 95) = true := by kernel_rfl
  have key : ∀ l : List ByteArray, (l.all fun x => !x.data.toList.contains 95) = true → ∀ x ∈ l, (95 : UInt8) ∉ x.data.toList := by
    intro l h x hx hm
    have := List.all_eq_true.1 h x hx
    simp [hm] at this
  by_cases e0 : d = 0
  · subst e0; exact key _ h0
  · by_cases e1 : d = 1
    · subst e1; exact key _ h1
    · have hl : lst d = [] := by unfold lst pantographref04_All.f; rw [if_neg e0, if_neg e1]; rfl
      rw [hl]; simp
theorem name_word (s : ByteArray) (n : Nat) (d : Int) : mem (lst d) (name s (n + 1)) = false := by
  cases h : mem (lst d) (name s (n + 1)) with
  | false => rfl
  | true => exact absurd (by simp [name]) (no_bar d _ ((mem_iff _ _).1 h))
def bad (taken : List ByteArray) (x : ByteArray) : Bool := mem (lst 0) x || mem (lst 1) x || mem taken x
theorem bad_name (taken : List ByteArray) (s : ByteArray) (n : Nat) : bad taken (name s (n + 1)) = mem taken (name s (n + 1)) := by
  simp [bad, name_word]
theorem length_le_of_sub {α : Type} : ∀ (l m : List α), l.Nodup → (∀ x ∈ l, x ∈ m) → l.length ≤ m.length
  | [], m, _, _ => by simp
  | a :: l, m, hn, hs => by
    obtain ⟨p, q, rfl⟩ := List.append_of_mem (hs a (by simp))
    have hn' := List.nodup_cons.1 hn
    have := length_le_of_sub l (p ++ q) hn'.2 (fun x hx => by
      have := hs x (by simp [hx])
      have hne : x ≠ a := fun e => hn'.1 (e ▸ hx)
      simpa [hne] using this)
    simp at this ⊢
    omega
/-- One of the first is free. -/
theorem some_free (taken : List ByteArray) (s : ByteArray) : ∃ n, n ≤ taken.length + 1 ∧ bad taken (name s n) = false := by
  by_cases hex : ∃ n, n ≤ taken.length + 1 ∧ bad taken (name s n) = false
  · exact hex
  · exfalso
    have hall : ∀ n, n ≤ taken.length + 1 → bad taken (name s n) = true := by
      intro n hn
      cases h : bad taken (name s n) with
      | true => rfl
      | false => exact absurd ⟨n, hn, h⟩ hex
    have := length_le_of_sub ((List.range (taken.length + 1)).map fun n => name s (n + 1)) taken ?_ ?_
    · simp at this; omega
    · rw [List.nodup_iff_pairwise_ne, List.pairwise_map]
      refine List.Pairwise.imp ?_ (List.nodup_iff_pairwise_ne.1 List.nodup_range)
      intro a b hab e
      exact hab (name_inj s e)
    · intro x hx
      obtain ⟨n, hn, rfl⟩ := List.mem_map.1 hx
      have h1 := hall (n + 1) (by have := List.mem_range.1 hn; omega)
      rw [bad_name] at h1
      exact (mem_iff _ _).1 h1
/-- How often it tries. -/
def tries (taken : List ByteArray) (s : ByteArray) : Nat := (List.range (taken.length + 2)).findIdx fun n => !bad taken (name s n)
theorem tries_le (taken : List ByteArray) (s : ByteArray) : tries taken s ≤ taken.length + 1 := by
  obtain ⟨n, hn, hf⟩ := some_free taken s
  have : tries taken s < (List.range (taken.length + 2)).length := List.findIdx_lt_length_of_exists ⟨n, by rw [List.mem_range]; omega, by simp [hf]⟩
  rw [List.length_range] at this
  omega
theorem tries_free (taken : List ByteArray) (s : ByteArray) : bad taken (name s (tries taken s)) = false := by
  have hlt : tries taken s < (List.range (taken.length + 2)).length := by rw [List.length_range]; have := tries_le taken s; omega
  have := List.findIdx_getElem (xs := List.range (taken.length + 2)) (p := fun n => !bad taken (name s n)) (w := hlt)
  have h3 : (!bad taken (name s ((List.range (taken.length + 2))[tries taken s]'hlt))) = true := this
  rw [show (List.range (taken.length + 2))[tries taken s]'hlt = tries taken s from List.getElem_range _] at h3
  simpa using h3
theorem tries_bad (taken : List ByteArray) (s : ByteArray) (k : Nat) (hk : k < tries taken s) : bad taken (name s k) = true := by
  have := List.not_of_lt_findIdx (show k < (List.range (taken.length + 2)).findIdx (fun n => !bad taken (name s n)) from hk)
  rw [List.getElem_range] at this
  simpa using this
/-- What is fresh. -/
def fresh (s : ByteArray) (taken : List ByteArray) : ByteArray := name s (tries taken s)
end Go.Proofs.YtmgdbmojfadahaaDoor.Wd
