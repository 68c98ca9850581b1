/- Proved here: the statement RenameApartUpto (no two names become one, no word of the dialect is left among them, and only words become others), for every input that its row lets in; conditions: those of the row, and none beside. -/
import Derived.Test.YtlepjafokfhnfaaDoorA3
import Derived.Lib.ItoaNum
import Derived.Deep.DeepHandedRow
section
set_option linter.unusedVariables false
namespace Go.Proofs.YtlepjafokfhnfaaDoor.Wd
open Go.RowKit Go.Proofs.YtlepjafokfhnfaaDoorW.PrintWords
def decB (n : Nat) : ByteArray := ⟨(Lib.decDigits n).toArray⟩
def val (l : List UInt8) : Nat := l.foldl (fun a b => a * 10 + (b.toNat - 48)) 0
theorem val_snoc (l : List UInt8) (b : UInt8) : val (l ++ [b]) = val l * 10 + (b.toNat - 48) := by simp [val]
theorem val_dec (n : Nat) : val (Lib.decDigits n) = n := by
  induction n using Nat.strongRecOn with
  | _ n ih =>
    rw [Lib.decDigits]
    by_cases h : n < 10
    · rw [dif_pos h]
      show 0 * 10 + ((UInt8.ofNat (48 + n)).toNat - 48) = n
      rw [UInt8.toNat_ofNat']; omega
    · rw [dif_neg h, val_snoc, ih (n / 10) (by omega), UInt8.toNat_ofNat']; omega
theorem dec_inj {a b : Nat} (h : decB a = decB b) : a = b := by
  have : Lib.decDigits a = Lib.decDigits b := by
    have h1 : (decB a).data.toList = (decB b).data.toList := by rw [h]
    simpa [decB] using h1
  rw [← val_dec a, ← val_dec b, this]
def base (s : ByteArray) : ByteArray := s.extract 0 (min s.size 24)
def name (s : ByteArray) : Nat → ByteArray
  | 0 => s
  | n + 1 => base s ++ ⟨#[95]⟩ ++ decB (n + 1)
theorem name_inj (s : ByteArray) {a b : Nat} (h : name s (a + 1) = name s (b + 1)) : a = b := by
  have h1 : (base s ++ ⟨#[95]⟩ ++ decB (a + 1)).data.toList = (base s ++ ⟨#[95]⟩ ++ decB (b + 1)).data.toList := by
    show (name s (a + 1)).data.toList = (name s (b + 1)).data.toList
    rw [h]
  have h2 : (decB (a + 1)).data.toList = (decB (b + 1)).data.toList := by
    simpa using h1
  have h3 : decB (a + 1) = decB (b + 1) := by
    apply ByteArray.ext
    exact Array.toList_inj.1 h2
  have := dec_inj h3
  omega
theorem no_bar (d : Int) : ∀ x ∈ lst d, (95 : UInt8) ∉ x.data.toList := by
  have h0 : ((lst 0).all fun x => !x.data.toList.contains 95) = true := by kernel_rfl
  have h1 : ((lst 1).all fun x => !x.data.toList.contains 95) = true := by kernel_rfl
  have key : ∀ l : List ByteArray, (l.all fun x => !x.data.toList.contains 95) = true → ∀ x ∈ l, (95 : UInt8) ∉ x.data.toList := by
    intro l h x hx hm
    have := List.all_eq_true.1 h x hx
    simp [hm] at this
  by_cases e0 : d = 0
  · subst e0; exact key _ h0
  · by_cases e1 : d = 1
    · subst e1; exact key _ h1
    · have hl : lst d = [] := by unfold lst; rw [if_neg e0, if_neg e1]
      rw [hl]; simp
theorem name_word (s : ByteArray) (n : Nat) (d : Int) : mem (lst d) (name s (n + 1)) = false := by
  cases h : mem (lst d) (name s (n + 1)) with
  | false => rfl
  | true => exact absurd (by simp [name]) (no_bar d _ ((mem_iff _ _).1 h))
def bad (taken : List ByteArray) (x : ByteArray) : Bool := mem (lst 0) x || mem (lst 1) x || mem taken x
theorem bad_name (taken : List ByteArray) (s : ByteArray) (n : Nat) : bad taken (name s (n + 1)) = mem taken (name s (n + 1)) := by
  simp [bad, name_word]
theorem length_le_of_sub {α : Type} : ∀ (l m : List α), l.Nodup → (∀ x ∈ l, x ∈ m) → l.length ≤ m.length
  | [], m, _, _ => by simp
  | a :: l, m, hn, hs => by
    obtain ⟨p, q, rfl⟩ := List.append_of_mem (hs a (by simp))
    have hn' := List.nodup_cons.1 hn
    have := length_le_of_sub l (p ++ q) hn'.2 (fun x hx => by
      have := hs x (by simp [hx])
      have hne : x ≠ a := fun e => hn'.1 (e ▸ hx)
      simpa [hne] using this)
    simp at this ⊢
    omega
theorem some_free (taken : List ByteArray) (s : ByteArray) : ∃ n, n ≤ taken.length + 1 ∧ bad taken (name s n) = false := by
  by_cases hex : ∃ n, n ≤ taken.length + 1 ∧ bad taken (name s n) = false
  · exact hex
  · exfalso
    have hall : ∀ n, n ≤ taken.length + 1 → bad taken (name s n) = true := by
      intro n hn
      cases h : bad taken (name s n) with
      | true => rfl
      | false => exact absurd ⟨n, hn, h⟩ hex
    have := length_le_of_sub ((List.range (taken.length + 1)).map fun n => name s (n + 1)) taken ?_ ?_
    · simp at this; omega
    · rw [List.nodup_iff_pairwise_ne, List.pairwise_map]
      refine List.Pairwise.imp ?_ (List.nodup_iff_pairwise_ne.1 List.nodup_range)
      intro a b hab e
      exact hab (name_inj s e)
    · intro x hx
      obtain ⟨n, hn, rfl⟩ := List.mem_map.1 hx
      have h1 := hall (n + 1) (by have := List.mem_range.1 hn; omega)
      rw [bad_name] at h1
      exact (mem_iff _ _).1 h1
def tries (taken : List ByteArray) (s : ByteArray) : Nat := (List.range (taken.length + 2)).findIdx fun n => !bad taken (name s n)
theorem tries_le (taken : List ByteArray) (s : ByteArray) : tries taken s ≤ taken.length + 1 := by
  obtain ⟨n, hn, hf⟩ := some_free taken s
  have : tries taken s < (List.range (taken.length + 2)).length := List.findIdx_lt_length_of_exists ⟨n, by rw [List.mem_range]; omega, by simp [hf]⟩
  rw [List.length_range] at this
  omega
theorem tries_free (taken : List ByteArray) (s : ByteArray) : bad taken (name s (tries taken s)) = false := by
  have hlt : tries taken s < (List.range (taken.length + 2)).length := by rw [List.length_range]; have := tries_le taken s; omega
  have := List.findIdx_getElem (xs := List.range (taken.length + 2)) (p := fun n => !bad taken (name s n)) (w := hlt)
  have h3 : (!bad taken (name s ((List.range (taken.length + 2))[tries taken s]'hlt))) = true := this
  rw [show (List.range (taken.length + 2))[tries taken s]'hlt = tries taken s from List.getElem_range _] at h3
  simpa using h3
theorem tries_bad (taken : List ByteArray) (s : ByteArray) (k : Nat) (hk : k < tries taken s) : bad taken (name s k) = true := by
  have := List.not_of_lt_findIdx (show k < (List.range (taken.length + 2)).findIdx (fun n => !bad taken (name s n)) from hk)
  rw [List.getElem_range] at this
  simpa using this
def fresh (s : ByteArray) (taken : List ByteArray) : ByteArray := name s (tries taken s)
end Go.Proofs.YtlepjafokfhnfaaDoor.Wd
end
section
open Go
namespace Go.Ev
open Go.Proofs.YtlepjafokfhnfaaDoor
set_option maxRecDepth 100000
set_option maxHeartbeats 4000000
set_option linter.unusedVariables false
set_option linter.unusedSimpArgs false
theorem index_ok (k : Nat) (l : List ByteArray) (x : ByteArray) (hk : l.length < k) (hm : l.length ≤ maxLen) : ∃ r : Int, (FF hFam (k + 1)).f_slices_Index_string (l, x, ()) = some r ∧ (decide (r ≥ 0)) = Wd.mem l x := by
  show ∃ r : Int, B_slices_Index_string (FF hFam k) k l x = some r ∧ _
  unfold B_slices_Index_string
  have key : ∀ j i, i ≤ l.length → l.length - i < j → ∃ r : Int, Lslices_Index_string_2 (FF hFam k) k l x j l x (l.length : Int) (i : Int) = some r ∧ (decide (r ≥ 0)) = Wd.mem (l.drop i) x := by
    refine up_ind l.length (fun j => ?_) (fun j i hi ih => ?_)
    · refine ⟨-1, ?_, ?_⟩
      · simp only [Lslices_Index_string_2]
        rw [if_neg (by simp)]
      · rw [List.drop_length]
        rfl
    · have hd := List.drop_eq_getElem_cons hi
      simp only [Lslices_Index_string_2]
      rw [if_pos (lt_dec hi), if_pos (by omega), if_pos (by omega), getD_at l i _ hi, wrap_succ hi hm, ba_beq]
      by_cases he : x = l[i]
      · refine ⟨(i : Int), by rw [if_pos (by simpa using he)], ?_⟩
        rw [hd]
        have h1 : Wd.mem (l[i] :: l.drop (i + 1)) x = true := by unfold Wd.mem; rw [List.any_cons, decide_eq_true he.symm, Bool.true_or]
        rw [h1]
        simp
      · rw [if_neg (by simpa using he)]
        obtain ⟨r, h1, h2⟩ := ih
        refine ⟨r, h1, ?_⟩
        rw [h2, hd]
        have h3 : decide (l[i] = x) = false := by simpa using fun e : l[i] = x => he e.symm
        simp only [Wd.mem, List.any_cons, h3, Bool.false_or]
  obtain ⟨r, h1, h2⟩ := key k 0 (Nat.zero_le _) (by omega)
  exact ⟨r, h1, by rw [h2, List.drop_zero]⟩
theorem contains_ok (k : Nat) (l : List ByteArray) (x : ByteArray) (hk : l.length < k) (hm : l.length ≤ maxLen) : (FF hFam (k + 2)).f_slices_Contains_string (l, x, ()) = some (Wd.mem l x) := by
  obtain ⟨r, h1, h2⟩ := index_ok k l x hk hm
  show B_slices_Contains_string (FF hFam (k + 1)) (k + 1) l x = _
  unfold B_slices_Contains_string
  rw [h1, Option.bind_some, h2]
theorem decB_dig (n : Nat) (h : n < 1000) : Wd.decB n = digB n := by
  unfold Wd.decB digB
  by_cases h1 : n < 10
  · rw [if_pos h1, Lib.decDigits_one h1]
  · rw [if_neg h1]
    by_cases h2 : n < 100
    · rw [if_pos h2, Lib.decDigits_two h1 h2]
    · rw [if_neg h2]
      have h3 : ¬ n / 10 < 10 := by omega
      rw [Lib.decDigits, dif_neg h1, Lib.decDigits_two h3 (by omega)]
      have e1 : n / 10 / 10 = n / 100 := by omega
      rw [e1]
      rfl
theorem decB_size (n : Nat) (h : n < 1000) : (Wd.decB n).size ≤ 3 := by
  rw [decB_dig n h]
  unfold digB
  split
  · exact Nat.le_of_ble_eq_true rfl
  · split
    · exact Nat.le_of_ble_eq_true rfl
    · exact Nat.le_of_ble_eq_true rfl
theorem itoa_at (k i : Nat) : (FF hFam (k + 1)).f_strconv_Itoa ((i : Int), ()) = if i ≤ 9223372036854775807 then some (Wd.decB i) else none := by
  show (if 0 ≤ (i : Int) ∧ (i : Int) ≤ 9223372036854775807 then some (itoaB i) else none) = _
  have e : itoaB (i : Int) = Wd.decB i := by
    unfold itoaB Wd.decB Lib.itoa
    rw [if_neg (by omega)]
    rfl
  rw [e]
  by_cases h : i ≤ 9223372036854775807
  · rw [if_pos h, if_pos (by omega)]
  · rw [if_neg h, if_neg (by omega)]
theorem base_small {s : ByteArray} (hs : s.size ≤ 24) : Wd.base s = s := by
  unfold Wd.base
  rw [Nat.min_eq_left hs]
  simp
theorem name_succ {s : ByteArray} (hs : s.size ≤ 24) (n : Nat) : Wd.name s (n + 1) = s ++ { data := #[95] : ByteArray } ++ Wd.decB (n + 1) := by
  show Wd.base s ++ ⟨#[95]⟩ ++ Wd.decB (n + 1) = _
  rw [base_small hs]
theorem s95 : ({ data := #[95] : ByteArray } : ByteArray).size = 1 := rfl
theorem Fresh_ok (k : Nat) (s : ByteArray) (taken : List ByteArray) (hs : s.size ≤ 24) (ht : taken.length ≤ 650) (hk : taken.length + 10 ≤ k) : (FF hFam (k + 3)).f_words_Fresh (s, taken, ()) = some (Wd.fresh s taken) := by
  have htr := Wd.tries_le taken s
  show B_words_Fresh (FF hFam (k + 2)) (k + 2) s taken = _
  unfold B_words_Fresh
  have key : ∀ j i, i ≤ Wd.tries taken s → Wd.tries taken s - i < j → Lwords_Fresh_3 (FF hFam (k + 2)) (k + 2) s taken j s taken (Wd.name s i) ((i + 1 : Nat) : Int) = some (Wd.fresh s taken) := by
    refine up_ind (Wd.tries taken s) (fun j => ?_) (fun j i hi ih => ?_)
    · have hf := Wd.tries_free taken s
      unfold Wd.bad at hf
      simp only [Bool.or_eq_false_iff] at hf
      obtain ⟨⟨h1, h2⟩, h3⟩ := hf
      have e1 : (FF hFam (k + 2)).f_words_Is (0, Wd.name s (Wd.tries taken s), ()) = some (Wd.mem (Wd.lst 0) (Wd.name s (Wd.tries taken s))) := rfl
      have e2 : (FF hFam (k + 2)).f_words_Is (1, Wd.name s (Wd.tries taken s), ()) = some (Wd.mem (Wd.lst 1) (Wd.name s (Wd.tries taken s))) := rfl
      simp only [Lwords_Fresh_3]
      rw [e1, Option.bind_some, if_pos h1, e2, Option.bind_some, h2, if_pos (by rfl), contains_ok k taken _ (by omega) (by simp only [maxLen]; omega), Option.bind_some, h3, if_neg (by simp)]
      rfl
    · have hb := Wd.tries_bad taken s i hi
      have hi' : i + 1 < 1000 := by omega
      have hdz := decB_size (i + 1) hi'
      have e1 : (FF hFam (k + 2)).f_words_Is (0, Wd.name s i, ()) = some (Wd.mem (Wd.lst 0) (Wd.name s i)) := rfl
      have e2 : (FF hFam (k + 2)).f_words_Is (1, Wd.name s i, ()) = some (Wd.mem (Wd.lst 1) (Wd.name s i)) := rfl
      have e3 := contains_ok k taken (Wd.name s i) (by omega) (by simp only [maxLen]; omega)
      have e4 : (if 24 < (s.size : Int) then 24 else (s.size : Int)) = (s.size : Int) := by rw [if_neg (by omega)]
      have e5 : (FF hFam (k + 2)).f_strconv_Itoa (((i + 1 : Nat) : Int), ()) = some (Wd.decB (i + 1)) := by rw [itoa_at (k + 1), if_pos (by omega)]
      have e6 : s.extract 0 s.size = s := by simp
      have hm1 : ¬ ((s.size + 1 : Nat) : Int) > IntKind.i64.max := by
        show ¬ ((s.size + 1 : Nat) : Int) > 9223372036854775807
        omega
      have hm2 : ¬ ((s.size + 1 + (Wd.decB (i + 1)).size : Nat) : Int) > IntKind.i64.max := by
        show ¬ ((s.size + 1 + (Wd.decB (i + 1)).size : Nat) : Int) > 9223372036854775807
        omega
      have ew : IntKind.i64.wrap (((i + 1 : Nat) : Int) + 1) = ((i + 1 + 1 : Nat) : Int) := wrap_succ (n := i + 2) (by omega) (by simp only [maxLen]; omega)
      rw [name_succ hs] at ih
      have tail : (if (↑0 : Int) ≤ (s.size : Int) then (if (s.size : Int) ≤ (s.size : Int) then (if ((s.extract (0 : Int).toNat ((s.size : Nat) : Int).toNat).size + ({ data := #[95] : ByteArray } : ByteArray).size : Nat) > IntKind.i64.max then none else
          (some (Wd.decB (i + 1))).bind fun t => if (((s.extract (0 : Int).toNat ((s.size : Nat) : Int).toNat ++ { data := #[95] : ByteArray }).size + ByteArray.size t : Nat) : Int) > IntKind.i64.max then none else
            Lwords_Fresh_3 (FF hFam (k + 2)) (k + 2) s taken j s taken (s.extract (0 : Int).toNat ((s.size : Nat) : Int).toNat ++ { data := #[95] : ByteArray } ++ t) (((i + 1 + 1 : Nat) : Int))) else none) else none) = some (Wd.fresh s taken) := by
        simp only [Int.toNat_natCast, Int.toNat_zero, e6, ByteArray.size_append, s95]
        rw [if_pos (by omega), if_pos (by omega), if_neg hm1, Option.bind_some, if_neg hm2]
        exact ih
      simp only [Lwords_Fresh_3, e4]
      rw [e1, Option.bind_some]
      unfold Wd.bad at hb
      by_cases h1 : Wd.mem (Wd.lst 0) (Wd.name s i) = true
      · rw [if_neg (by rw [h1]; simp), e5, ew]
        exact tail
      · have h1' := Bool.eq_false_iff.2 h1
        rw [if_pos h1', e2, Option.bind_some, e5, ew]
        by_cases h2 : Wd.mem (Wd.lst 1) (Wd.name s i) = true
        · rw [if_neg (by rw [h2]; simp)]
          exact tail
        · have h2' := Bool.eq_false_iff.2 h2
          rw [h1', h2', Bool.false_or, Bool.false_or] at hb
          rw [if_pos (by rw [h2']; rfl), e3, Option.bind_some, hb, if_pos (by rfl)]
          exact tail
  have := key (k + 2) 0 (Nat.zero_le _) (by omega)
  exact this
end Go.Ev
end
section
open Go
namespace Go.Ev
open Go.Proofs.YtlepjafokfhnfaaDoor
set_option maxRecDepth 100000
set_option maxHeartbeats 4000000
set_option linter.unusedVariables false
set_option linter.unusedSimpArgs false
def isW (d : Int) (n : ByteArray) : Bool := Wd.mem (Wd.lst d) n
def tblN (d : Int) : List ByteArray → List ByteArray → List TPair
  | [], _ => []
  | n :: r, taken => if isW d n = true then ⟨n, Wd.fresh n taken⟩ :: tblN d r (taken ++ [Wd.fresh n taken]) else tblN d r taken
theorem word_small {d : Int} {n : ByteArray} (h : isW d n = true) : n.size ≤ 12 ∧ 2 ≤ n.size := by
  have hm := (Wd.mem_iff _ _).1 h
  have h0 : ((Wd.lst 0).all fun x => Nat.ble x.size 12 && Nat.ble 2 x.size) = true := by kernel_rfl
  have h1 : ((Wd.lst 1).all fun x => Nat.ble x.size 12 && Nat.ble 2 x.size) = true := by kernel_rfl
  have key : ∀ l : List ByteArray, (l.all fun x => Nat.ble x.size 12 && Nat.ble 2 x.size) = true → ∀ x ∈ l, x.size ≤ 12 ∧ 2 ≤ x.size := fun l h x hx => by
    have := List.all_eq_true.1 h x hx
    simp only [Bool.and_eq_true] at this
    exact ⟨Nat.le_of_ble_eq_true this.1, Nat.le_of_ble_eq_true this.2⟩
  by_cases e0 : d = 0
  · subst e0; exact key _ h0 n hm
  · by_cases e1 : d = 1
    · subst e1; exact key _ h1 n hm
    · have hl : Wd.lst d = [] := by unfold Wd.lst; rw [if_neg e0, if_neg e1]
      rw [hl] at hm; simp at hm
theorem tblN_filter (d : Int) : ∀ (l taken : List ByteArray), tblN d (l.filter (isW d)) taken = tblN d l taken
  | [], _ => rfl
  | n :: r, taken => by
    by_cases h : isW d n = true
    · rw [List.filter_cons_of_pos h, tblN, tblN, if_pos h, if_pos h, tblN_filter d r]
    · rw [List.filter_cons_of_neg h, tblN, if_neg h, tblN_filter d r]
theorem tblN_len (d : Int) : ∀ (l taken : List ByteArray), (tblN d l taken).length ≤ l.length
  | [], _ => Nat.le_refl _
  | n :: r, taken => by
    rw [tblN]
    split
    · have := tblN_len d r (taken ++ [Wd.fresh n taken])
      simp only [List.length_cons]; omega
    · have := tblN_len d r taken
      simp only [List.length_cons]; omega
theorem addN_nodup {l : List ByteArray} (h : l.Nodup) (p : ByteArray) : (addN l p).Nodup := by
  unfold addN
  split
  · exact h
  · rename_i hn
    rw [List.nodup_append]
    refine ⟨h, by simp, fun a ha b hb e => ?_⟩
    simp at hb
    subst hb
    subst e
    exact hn ((any_mem l a).2 ha)
theorem foldN_nodup : ∀ (ps l : List ByteArray), l.Nodup → (ps.foldl addN l).Nodup
  | [], l, h => h
  | p :: r, l, h => by rw [List.foldl_cons]; exact foldN_nodup r _ (addN_nodup h p)
theorem clash_filter (d : Int) (l : List ByteArray) (h : l.Nodup) : Wd.clash (Wd.lst d) l = l.filter (isW d) := by
  have key : ∀ (l out : List ByteArray), l.Nodup → (∀ x ∈ l, x ∉ out) → l.foldl (Wd.step (Wd.lst d)) out = out ++ l.filter (isW d) := by
    intro l
    induction l with
    | nil => intro out _ _; simp
    | cons x r ih =>
      intro out hn ho
      have hn' := List.nodup_cons.1 hn
      rw [List.foldl_cons]
      have hx : Wd.mem out x = false := by
        cases hq : Wd.mem out x with
        | false => rfl
        | true => exact absurd ((Wd.mem_iff _ _).1 hq) (ho x List.mem_cons_self)
      by_cases hw : isW d x = true
      · have e : Wd.step (Wd.lst d) out x = out ++ [x] := by
          unfold Wd.step
          have hw' : Wd.mem (Wd.lst d) x = true := hw
          rw [hw', hx, if_pos (by rfl)]
        rw [e, ih _ hn'.2, List.filter_cons_of_pos hw, List.append_assoc]
        · rfl
        · intro y hy hyo
          rw [List.mem_append] at hyo
          rcases hyo with hyo | hyo
          · exact ho y (List.mem_cons_of_mem _ hy) hyo
          · simp at hyo
            subst hyo
            exact hn'.1 hy
      · have e : Wd.step (Wd.lst d) out x = out := by
          unfold Wd.step
          have hw' : Wd.mem (Wd.lst d) x = false := Bool.eq_false_iff.2 hw
          rw [hw', if_neg (by simp)]
        rw [e, ih _ hn'.2 (fun y hy => ho y (List.mem_cons_of_mem _ hy)), List.filter_cons_of_neg hw]
  have := key l [] h (by simp)
  simpa [Wd.clash] using this
def namesP (p : TProgram) : List ByteArray := (nmP' p).foldl addN []
theorem namesP_mem (p : TProgram) (q : ByteArray) : q ∈ namesP p ↔ q ∈ nmP' p := by unfold namesP; rw [foldN_mem]; simp
theorem namesP_nodup (p : TProgram) : (namesP p).Nodup := foldN_nodup _ _ List.nodup_nil
theorem namesP_size (p : TProgram) {q : ByteArray} (h : q ∈ namesP p) : q.size ≠ 0 ∧ q.size ≤ bk_TProgram p := okP_P p q ((namesP_mem p q).1 h)
theorem table_loop (k : Nat) (d : Int) (p : TProgram) (c : List ByteArray) (hc : ∀ x ∈ c, isW d x = true) (hl : c.length ≤ 300) (hk : 1000 ≤ k) :
    ∀ j i, i ≤ c.length → c.length - i < j → ∀ (taken : List ByteArray) (out : List TPair), taken.length ≤ 300 + i → out.length ≤ i → Lrename_Table_5 (FF hFam (k + 3)) (k + 3) d p j (c.length : Int) (i : Int) taken out c = some (out ++ tblN d (c.drop i) taken) := by
  refine up_ind c.length (fun j taken out ht ho => ?_) (fun j i hi ih taken out ht ho => ?_)
  · simp only [Lrename_Table_5]
    rw [if_neg (by simp), List.drop_length]
    simp [tblN]
  · have hd := List.drop_eq_getElem_cons hi
    have hw := hc c[i] (List.getElem_mem hi)
    simp only [Lrename_Table_5]
    rw [if_pos (lt_dec hi), if_pos (by omega), if_pos (by omega), getD_at c i _ hi, Fresh_ok k c[i] taken (by have := word_small hw; omega) (by omega) (by omega), Option.bind_some,
      if_pos (by simp only [List.length_append, List.length_singleton]; omega), if_pos (by simp only [List.length_append, List.length_singleton]; omega), wrap_succ hi (by simp only [maxLen]; omega),
      ih _ _ (by simp only [List.length_append, List.length_singleton]; omega) (by simp only [List.length_append, List.length_singleton]; omega), hd]
    rw [tblN, if_pos hw, List.append_assoc]
    rfl
def tblP (d : Int) (p : TProgram) : List TPair := tblN d (namesP p) (namesP p)
theorem Table_ok (k : Nat) (d : Int) (p : TProgram) (hb : bk_TProgram p ≤ 8388608) (hk : 3 * bk_TProgram p + 1030 ≤ k) (hl : (namesP p).length ≤ 300) : (FF hFam (k + 10)).f_rename_Table (d, p, ()) = some (tblP d p) := by
  show B_rename_Table (FF hFam (k + 9)) (k + 9) d p = _
  unfold B_rename_Table
  have e1 := tree_Names_ok k p hb (by omega)
  have e2 : (nmP' p).foldl addN [] = namesP p := rfl
  rw [e2] at e1
  have e3 : (FF hFam (k + 9)).f_words_Clash (d, namesP p, ()) = some ((namesP p).filter (isW d)) := by
    show (if (namesP p).length ≤ 1000 ∧ ((namesP p).all fun z => decide (z.size ≤ maxLen)) = true then some (Wd.clash (Wd.lst d) (namesP p)) else none) = _
    rw [if_pos ⟨by omega, List.all_eq_true.2 fun z hz => by have := (namesP_size p hz).2; simp only [maxLen]; exact decide_eq_true (by omega)⟩, clash_filter d _ (namesP_nodup p)]
  have hfl := List.length_filter_le (isW d) (namesP p)
  rw [e1, Option.bind_some, clone_ok (k + 9) _ (by omega), Option.bind_some, e3, Option.bind_some]
  have := table_loop (k + 6) d p ((namesP p).filter (isW d)) (fun x hx => (List.mem_filter.1 hx).2) (by omega) (by omega) (k + 9) 0 (Nat.zero_le _) (by omega) (namesP p) [] (by omega) (by simp)
  simp only [Int.ofNat_zero, List.drop_zero, List.nil_append] at this
  rw [tblN_filter] at this
  exact this
end Go.Ev
end
section
open Go
namespace Go.Ev
open Go.Proofs.YtlepjafokfhnfaaDoor
set_option maxRecDepth 100000
set_option maxHeartbeats 4000000
set_option linter.unusedVariables false
set_option linter.unusedSimpArgs false
set_option linter.unusedSectionVars false
section
variable (o : ByteArray → ByteArray) (ho : ∀ q, o q = q)
include ho
theorem mapN_id (s : ByteArray) : mapN o s = s := by
  rw [mapN_join]
  have : (cutP s).map (mapPo o) = cutP s := by
    conv => rhs; rw [← List.map_id (cutP s)]
    refine List.map_congr_left fun p _ => ?_
    unfold mapPo
    split
    · rfl
    · exact ho p
  rw [this, joinD_cutP]
mutual
theorem mapE_id : ∀ e, mapE o e = e
  | ⟨op, n, nm, f, l⟩ => by simp only [mapE, mapN_id o ho, mapEs_id l]
theorem mapEs_id : ∀ l, mapEs o l = l
  | [] => rfl
  | x :: r => by simp only [mapEs, mapE_id x, mapEs_id r]
end
theorem map_id' {α : Type} (f : α → α) (h : ∀ x, f x = x) (l : List α) : l.map f = l := by
  conv => rhs; rw [← List.map_id l]
  exact List.map_congr_left fun x _ => h x
theorem mapV_id (v : TVar) : mapV o v = v := by cases v; simp only [mapV, mapN_id o ho]
theorem mapA_id (v : TParam) : mapA o v = v := by cases v; simp only [mapA, mapN_id o ho]
theorem mapF_id (v : TField) : mapF o v = v := by cases v; simp only [mapF, mapN_id o ho]
theorem mapC_id (v : TRec) : mapC o v = v := by cases v; simp only [mapC, mapN_id o ho, map_id' o ho _ (mapF_id o ho)]
mutual
theorem mapS_id : ∀ e, mapS o e = e
  | ⟨mb, mt, op, nm, po, pn, pnm, pf, pl, E, down, more, body, els, e1, e2⟩ => by simp only [mapS, mapN_id o ho, mapEs_id o ho, mapSs_id body, mapSs_id els]
theorem mapSs_id : ∀ l, mapSs o l = l
  | [] => rfl
  | x :: r => by simp only [mapSs, mapS_id x, mapSs_id r]
end
mutual
theorem mapR_id : ∀ e, mapR o e = e
  | ⟨mb, mt, nm, res, ps, vs, inner, body, e⟩ => by simp only [mapR, mapN_id o ho, mapSs_id o ho, map_id' o ho _ (mapA_id o ho), map_id' o ho _ (mapV_id o ho), mapRs_id inner]
theorem mapRs_id : ∀ l, mapRs o l = l
  | [] => rfl
  | x :: r => by simp only [mapRs, mapR_id x, mapRs_id r]
end
theorem mapP_id (p : TProgram) : mapP o p = p := by cases p; simp only [mapP, mapN_id o ho, mapSs_id o ho, mapRs_id o ho, map_id' o ho _ (mapC_id o ho), map_id' o ho _ (mapV_id o ho)]
end
section
variable (o : ByteArray → ByteArray) (ho : growO o)
include ho
theorem fit_N {s : ByteArray} (h : s.size ≤ 8388608) : (mapN o s).size ≤ maxLen := by
  have := mapN_size o ho s
  simp only [maxLen]
  omega
mutual
theorem fit_E : ∀ e, ft_TExpr e → bk_TExpr e ≤ 8388608 → ft_TExpr (mapE o e)
  | ⟨op, n, nm, f, l⟩, h, hb => by
    simp only [bk_TExpr] at hb
    simp only [ft_TExpr] at h
    simp only [mapE, ft_TExpr]
    exact ⟨h.1, h.2.1, fit_N o ho (by omega), fit_N o ho (by omega), by rw [mapEs_eq, List.length_map]; exact h.2.2.2.2.1, fit_Es l h.2.2.2.2.2 (by omega)⟩
theorem fit_Es : ∀ l, fts_TExpr l → bks_TExpr l ≤ 8388608 → fts_TExpr (mapEs o l)
  | [], h, hb => by simp only [mapEs, fts_TExpr]
  | x :: r, h, hb => by
    simp only [bks_TExpr] at hb
    simp only [fts_TExpr] at h
    simp only [mapEs, fts_TExpr]
    exact ⟨fit_E x h.1 (by omega), fit_Es r h.2 (by omega)⟩
end
theorem fit_V (v : TVar) (h : ft_TVar v) (hb : bk_TVar v ≤ 8388608) : ft_TVar (mapV o v) := by
  obtain ⟨a1, a2, a3, a4, a5, a6⟩ := v
  simp only [bk_TVar] at hb
  simp only [ft_TVar] at h
  simp only [mapV, ft_TVar]
  exact ⟨h.1, h.2.1, fit_N o ho (by omega), h.2.2.2.1, h.2.2.2.2.1, fit_N o ho (by omega)⟩
theorem fit_A (v : TParam) (h : ft_TParam v) (hb : bk_TParam v ≤ 8388608) : ft_TParam (mapA o v) := by
  obtain ⟨a1, a2, a3, a4, a5⟩ := v
  simp only [bk_TParam] at hb
  simp only [ft_TParam] at h
  simp only [mapA, ft_TParam]
  exact ⟨fit_N o ho (by omega), h.2.1, h.2.2.1, fit_N o ho (by omega), h.2.2.2.2⟩
theorem fit_F (v : TField) (h : ft_TField v) (hb : bk_TField v ≤ 8388608) : ft_TField (mapF o v) := by
  obtain ⟨a1, a2, a3, a4⟩ := v
  simp only [bk_TField] at hb
  simp only [ft_TField] at h
  simp only [mapF, ft_TField]
  exact ⟨h.1, h.2.1, fit_N o ho (by omega), h.2.2.2⟩
theorem fit_Vs : ∀ l : List TVar, fts_TVar l → bks_TVar l ≤ 8388608 → fts_TVar (l.map (mapV o))
  | [], h, hb => by simp only [List.map_nil, fts_TVar]
  | x :: r, h, hb => by
    simp only [bks_TVar] at hb
    simp only [fts_TVar] at h
    simp only [List.map_cons, fts_TVar]
    exact ⟨fit_V o ho x h.1 (by omega), fit_Vs r h.2 (by omega)⟩
theorem fit_As : ∀ l : List TParam, fts_TParam l → bks_TParam l ≤ 8388608 → fts_TParam (l.map (mapA o))
  | [], h, hb => by simp only [List.map_nil, fts_TParam]
  | x :: r, h, hb => by
    simp only [bks_TParam] at hb
    simp only [fts_TParam] at h
    simp only [List.map_cons, fts_TParam]
    exact ⟨fit_A o ho x h.1 (by omega), fit_As r h.2 (by omega)⟩
theorem fit_Fs : ∀ l : List TField, fts_TField l → bks_TField l ≤ 8388608 → fts_TField (l.map (mapF o))
  | [], h, hb => by simp only [List.map_nil, fts_TField]
  | x :: r, h, hb => by
    simp only [bks_TField] at hb
    simp only [fts_TField] at h
    simp only [List.map_cons, fts_TField]
    exact ⟨fit_F o ho x h.1 (by omega), fit_Fs r h.2 (by omega)⟩
theorem fit_C (v : TRec) (h : ft_TRec v) (hb : bk_TRec v ≤ 8388608) : ft_TRec (mapC o v) := by
  obtain ⟨a1, a2, a3, a4, a5⟩ := v
  simp only [bk_TRec] at hb
  simp only [ft_TRec] at h
  simp only [mapC, ft_TRec, List.length_map]
  exact ⟨h.1, h.2.1, fit_N o ho (by omega), ⟨h.2.2.2.1.1, fit_Fs o ho a4 h.2.2.2.1.2 (by omega)⟩, h.2.2.2.2⟩
theorem fit_Cs : ∀ l : List TRec, fts_TRec l → bks_TRec l ≤ 8388608 → fts_TRec (l.map (mapC o))
  | [], h, hb => by simp only [List.map_nil, fts_TRec]
  | x :: r, h, hb => by
    simp only [bks_TRec] at hb
    simp only [fts_TRec] at h
    simp only [List.map_cons, fts_TRec]
    exact ⟨fit_C o ho x h.1 (by omega), fit_Cs r h.2 (by omega)⟩
mutual
theorem fit_S : ∀ e, ft_TStmt e → bk_TStmt e ≤ 8388608 → ft_TStmt (mapS o e)
  | ⟨mb, mt, op, nm, po, pn, pnm, pf, pl, E, down, more, body, els, e1, e2⟩, h, hb => by
    simp only [bk_TStmt] at hb
    simp only [ft_TStmt] at h
    obtain ⟨h1, h2, h3, h4, h5, h6, h7, h8, h9, h10, h11, h12, h13, h14, h15, h16⟩ := h
    simp only [mapS, ft_TStmt]
    exact ⟨h1, h2, h3, fit_N o ho (by omega), h5, h6, fit_N o ho (by omega), fit_N o ho (by omega), ⟨by rw [mapEs_eq, List.length_map]; exact h9.1, fit_Es o ho pl h9.2 (by omega)⟩, ⟨by rw [mapEs_eq, List.length_map]; exact h10.1, fit_Es o ho E h10.2 (by omega)⟩, h11, h12,
      ⟨by rw [mapSs_eq, List.length_map]; exact h13.1, fit_Ss body h13.2 (by omega)⟩, ⟨by rw [mapSs_eq, List.length_map]; exact h14.1, fit_Ss els h14.2 (by omega)⟩, h15, h16⟩
theorem fit_Ss : ∀ l, fts_TStmt l → bks_TStmt l ≤ 8388608 → fts_TStmt (mapSs o l)
  | [], h, hb => by simp only [mapSs, fts_TStmt]
  | x :: r, h, hb => by
    simp only [bks_TStmt] at hb
    simp only [fts_TStmt] at h
    simp only [mapSs, fts_TStmt]
    exact ⟨fit_S x h.1 (by omega), fit_Ss r h.2 (by omega)⟩
end
mutual
theorem fit_R : ∀ e, ft_TRoutine e → bk_TRoutine e ≤ 8388608 → ft_TRoutine (mapR o e)
  | ⟨mb, mt, nm, res, ps, vs, inner, body, e⟩, h, hb => by
    simp only [bk_TRoutine] at hb
    simp only [ft_TRoutine] at h
    obtain ⟨h1, h2, h3, h4, h5, h6, h7, h8, h9⟩ := h
    simp only [mapR, ft_TRoutine, List.length_map]
    exact ⟨h1, h2, fit_N o ho (by omega), h4, ⟨h5.1, fit_As o ho ps h5.2 (by omega)⟩, ⟨h6.1, fit_Vs o ho vs h6.2 (by omega)⟩, ⟨by rw [mapRs_eq, List.length_map]; exact h7.1, fit_Rs inner h7.2 (by omega)⟩, ⟨by rw [mapSs_eq, List.length_map]; exact h8.1, fit_Ss o ho body h8.2 (by omega)⟩, h9⟩
theorem fit_Rs : ∀ l, fts_TRoutine l → bks_TRoutine l ≤ 8388608 → fts_TRoutine (mapRs o l)
  | [], h, hb => by simp only [mapRs, fts_TRoutine]
  | x :: r, h, hb => by
    simp only [bks_TRoutine] at hb
    simp only [fts_TRoutine] at h
    simp only [mapRs, fts_TRoutine]
    exact ⟨fit_R x h.1 (by omega), fit_Rs r h.2 (by omega)⟩
end
theorem fit_P (p : TProgram) (h : ft_TProgram p) (hb : bk_TProgram p ≤ 8388608) : ft_TProgram (mapP o p) := by
  obtain ⟨a1, a2, a3, a4, a5, a6, a7, a8, a9⟩ := p
  simp only [bk_TProgram] at hb
  simp only [ft_TProgram] at h
  obtain ⟨h1, h2, h3, h4, h5, h6, h7, h8, h9⟩ := h
  simp only [mapP, ft_TProgram, List.length_map]
  exact ⟨fit_N o ho (by omega), h2, h3, h4, ⟨h5.1, fit_Cs o ho a5 h5.2 (by omega)⟩, ⟨h6.1, fit_Vs o ho a6 h6.2 (by omega)⟩, ⟨by rw [mapRs_eq, List.length_map]; exact h7.1, fit_Rs o ho a7 h7.2 (by omega)⟩, ⟨by rw [mapSs_eq, List.length_map]; exact h8.1, fit_Ss o ho a8 h8.2 (by omega)⟩, h9⟩
end
section
variable {P : ByteArray → Prop} (hP : ∀ s q, q ∈ pts s → P q)
include hP
mutual
theorem all_E : ∀ e : TExpr, ∀ q ∈ nmE e, P q
  | ⟨op, n, nm, f, l⟩, q, hq => by
    simp only [nmE, List.mem_append] at hq
    rcases hq with hq | hq | hq
    · exact hP _ _ hq
    · exact hP _ _ hq
    · exact all_Es l q hq
theorem all_Es : ∀ l : List TExpr, ∀ q ∈ nmEs l, P q
  | [], q, hq => by simp [nmEs] at hq
  | x :: r, q, hq => by
    simp only [nmEs, List.mem_append] at hq
    rcases hq with hq | hq
    · exact all_E x q hq
    · exact all_Es r q hq
end
theorem all_list {α : Type} (nm : α → List ByteArray) (h : ∀ x, ∀ q ∈ nm x, P q) (l : List α) : ∀ q ∈ l.flatMap nm, P q := fun q hq => by
  obtain ⟨x, _, hx⟩ := List.mem_flatMap.1 hq
  exact h x q hx
theorem all_V (v : TVar) : ∀ q ∈ nmV v, P q := fun q hq => by
  simp only [nmV, List.mem_append] at hq
  rcases hq with hq | hq <;> exact hP _ _ hq
theorem all_A (v : TParam) : ∀ q ∈ nmA v, P q := fun q hq => by
  simp only [nmA, List.mem_append] at hq
  rcases hq with hq | hq <;> exact hP _ _ hq
theorem all_C (v : TRec) : ∀ q ∈ nmC v, P q := fun q hq => by
  simp only [nmC, List.mem_append] at hq
  rcases hq with hq | hq
  · exact hP _ _ hq
  · exact all_list hP nmF (fun x q hq => hP _ _ hq) _ q hq
mutual
theorem all_S : ∀ x : TStmt, ∀ q ∈ nmS x, P q
  | ⟨mb, mt, op, nm, po, pn, pnm, pf, pl, E, down, more, body, els, e1, e2⟩, q, hq => by
    simp only [nmS, List.mem_append] at hq
    rcases hq with hq | hq | hq | hq | hq
    · exact hP _ _ hq
    · exact all_E hP _ q hq
    · exact all_Es hP E q hq
    · exact all_Ss body q hq
    · exact all_Ss els q hq
theorem all_Ss : ∀ l : List TStmt, ∀ q ∈ nmSs l, P q
  | [], q, hq => by simp [nmSs] at hq
  | x :: r, q, hq => by
    simp only [nmSs, List.mem_append] at hq
    rcases hq with hq | hq
    · exact all_S x q hq
    · exact all_Ss r q hq
end
mutual
theorem all_R : ∀ x : TRoutine, ∀ q ∈ nmR x, P q
  | ⟨mb, mt, nm, res, ps, vs, inner, body, e⟩, q, hq => by
    simp only [nmR, List.mem_append] at hq
    rcases hq with hq | hq | hq | hq | hq
    · exact hP _ _ hq
    · exact all_list hP nmA (all_A hP) ps q hq
    · exact all_list hP nmV (all_V hP) vs q hq
    · exact all_Rs inner q hq
    · exact all_Ss hP body q hq
theorem all_Rs : ∀ l : List TRoutine, ∀ q ∈ nmRs l, P q
  | [], q, hq => by simp [nmRs] at hq
  | x :: r, q, hq => by
    simp only [nmRs, List.mem_append] at hq
    rcases hq with hq | hq
    · exact all_R x q hq
    · exact all_Rs r q hq
end
theorem all_P (p : TProgram) : ∀ q ∈ nmP' p, P q := fun q hq => by
  simp only [nmP', List.mem_append] at hq
  rcases hq with hq | hq | hq | hq | hq
  · exact hP _ _ hq
  · exact all_list hP nmC (all_C hP) _ q hq
  · exact all_list hP nmV (all_V hP) _ q hq
  · exact all_Rs hP _ q hq
  · exact all_Ss hP _ q hq
end
theorem dec_free (n : Nat) : ∀ c ∈ Lib.decDigits n, c ≠ 36 := by
  have dig : ∀ d, d < 10 → UInt8.ofNat (48 + d) ≠ 36 := by decide
  induction n using Nat.strongRecOn with
  | _ n ih =>
    rw [Lib.decDigits]
    by_cases h : n < 10
    · rw [dif_pos h]
      intro c hc
      simp only [List.mem_singleton] at hc
      subst hc
      exact dig n h
    · rw [dif_neg h]
      intro c hc
      rw [List.mem_append] at hc
      rcases hc with hc | hc
      · exact ih (n / 10) (by omega) c hc
      · simp only [List.mem_singleton] at hc
        subst hc
        exact dig _ (by omega)
theorem word_free {d : Int} {n : ByteArray} (h : isW d n = true) : freeB n := by
  have hm := (Wd.mem_iff _ _).1 h
  have h0 : ((Wd.lst 0).all fun x => x.data.toList.all fun c => c != 36) = true := by kernel_rfl
  have h1 : ((Wd.lst 1).all fun x => x.data.toList.all fun c => c != 36) = true := by kernel_rfl
  have key : ∀ l : List ByteArray, (l.all fun x => x.data.toList.all fun c => c != 36) = true → ∀ x ∈ l, freeB x := fun l h x hx c hc => by
    have := List.all_eq_true.1 (List.all_eq_true.1 h x hx) c hc
    simpa using this
  by_cases e0 : d = 0
  · subst e0; exact key _ h0 n hm
  · by_cases e1 : d = 1
    · subst e1; exact key _ h1 n hm
    · have hl : Wd.lst d = [] := by unfold Wd.lst; rw [if_neg e0, if_neg e1]
      rw [hl] at hm; simp at hm
theorem tblN_old (d : Int) : ∀ (l taken : List ByteArray), (tblN d l taken).map (·.Old) = l.filter (isW d)
  | [], _ => rfl
  | n :: r, taken => by
    by_cases h : isW d n = true
    · rw [List.filter_cons_of_pos h, tblN, if_pos h, List.map_cons, tblN_old d r]
    · rw [List.filter_cons_of_neg h, tblN, if_neg h, tblN_old d r]
theorem fresh_taken (n : ByteArray) (taken : List ByteArray) (h : n ∈ taken) : Wd.fresh n taken ∉ taken ∧ ∃ k, k ≤ taken.length ∧ Wd.fresh n taken = Wd.name n (k + 1) := by
  have hf := Wd.tries_free taken n
  have hle := Wd.tries_le taken n
  refine ⟨fun hm => ?_, ?_⟩
  · unfold Wd.bad at hf
    simp only [Bool.or_eq_false_iff] at hf
    have : Wd.mem taken (Wd.name n (Wd.tries taken n)) = true := (Wd.mem_iff _ _).2 hm
    rw [this] at hf
    exact absurd hf.2 (by simp)
  · rcases Nat.eq_zero_or_pos (Wd.tries taken n) with h0 | h0
    · exfalso
      rw [h0] at hf
      unfold Wd.bad at hf
      simp only [Bool.or_eq_false_iff] at hf
      have : Wd.mem taken (Wd.name n 0) = true := (Wd.mem_iff _ _).2 h
      rw [this] at hf
      exact absurd hf.2 (by simp)
    · refine ⟨Wd.tries taken n - 1, by omega, ?_⟩
      unfold Wd.fresh
      rw [show Wd.tries taken n - 1 + 1 = Wd.tries taken n by omega]
theorem tblN_props (d : Int) : ∀ (l taken : List ByteArray), (∀ x ∈ l, x ∈ taken) → (∀ q ∈ tblN d l taken, isW d q.Old = true ∧ q.Old ∈ l ∧ q.New ∉ taken ∧ ∃ k, k ≤ taken.length + l.length ∧ q.New = Wd.name q.Old (k + 1)) ∧ ((tblN d l taken).map (·.New)).Nodup
  | [], taken, _ => ⟨fun q hq => by simp [tblN] at hq, by simp [tblN]⟩
  | n :: r, taken, hs => by
    by_cases h : isW d n = true
    · rw [tblN, if_pos h]
      obtain ⟨hf, k, hk, hn⟩ := fresh_taken n taken (hs n List.mem_cons_self)
      obtain ⟨i1, i2⟩ := tblN_props d r (taken ++ [Wd.fresh n taken]) fun x hx => List.mem_append_left _ (hs x (List.mem_cons_of_mem _ hx))
      refine ⟨fun q hq => ?_, ?_⟩
      · rcases List.mem_cons.1 hq with rfl | hq
        · exact ⟨h, List.mem_cons_self, hf, k, by omega, hn⟩
        · obtain ⟨a1, a2, a3, k', hk', a4⟩ := i1 q hq
          refine ⟨a1, List.mem_cons_of_mem _ a2, fun hm => a3 (List.mem_append_left _ hm), k', ?_, a4⟩
          simp only [List.length_append, List.length_cons, List.length_nil] at hk' ⊢
          omega
      · rw [List.map_cons, List.nodup_cons]
        refine ⟨fun hm => ?_, i2⟩
        obtain ⟨q, hq, he⟩ := List.mem_map.1 hm
        have he : q.New = Wd.fresh n taken := he
        exact (i1 q hq).2.2.1 (by rw [he]; simp)
    · rw [tblN, if_neg h]
      obtain ⟨i1, i2⟩ := tblN_props d r taken fun x hx => hs x (List.mem_cons_of_mem _ hx)
      refine ⟨fun q hq => ?_, i2⟩
      obtain ⟨a1, a2, a3, k', hk', a4⟩ := i1 q hq
      exact ⟨a1, List.mem_cons_of_mem _ a2, a3, k', by simp only [List.length_cons]; omega, a4⟩
def newO (d : Int) (p : TProgram) : ByteArray → ByteArray := outT (.ren (tblP d p))
theorem newO_word {d : Int} {p : TProgram} {n : ByteArray} (hn : n ∈ namesP p) (h : isW d n = true) : ∃ q ∈ tblP d p, q.Old = n ∧ newO d p n = q.New := by
  have hm : n ∈ (tblP d p).map (·.Old) := by unfold tblP; rw [tblN_old]; exact List.mem_filter.2 ⟨hn, h⟩
  obtain ⟨q, hq, he⟩ := List.mem_map.1 hm
  unfold newO
  simp only [outT]
  split
  · rename_i q' hq'
    have h1 := List.mem_of_find?_eq_some hq'
    have h2 := List.find?_some hq'
    rw [ba_dc] at h2
    exact ⟨q', h1, (dc_iff _).1 h2, rfl⟩
  · rename_i hnone
    have := List.find?_eq_none.1 hnone q hq
    rw [ba_dc] at this
    exact absurd (dc_true he) this
theorem newO_not {d : Int} {p : TProgram} {n : ByteArray} (h : ¬ isW d n = true) : newO d p n = n := by
  unfold newO
  simp only [outT]
  split
  · rename_i q hq
    have h1 := List.mem_of_find?_eq_some hq
    have h2 := List.find?_some hq
    rw [ba_dc] at h2
    have h3 := (dc_iff _).1 h2
    have h4 := ((tblN_props d (namesP p) (namesP p) fun _ h => h).1 q h1).1
    rw [h3] at h4
    exact absurd h4 h
  · rfl
theorem newO_out {d : Int} {p : TProgram} {n : ByteArray} (hn : n ∉ namesP p) : newO d p n = n := by
  unfold newO
  simp only [outT]
  split
  · rename_i q hq
    have h1 := List.mem_of_find?_eq_some hq
    have h2 := List.find?_some hq
    rw [ba_dc] at h2
    have h3 := (dc_iff _).1 h2
    have h4 := ((tblN_props d (namesP p) (namesP p) fun _ h => h).1 q h1).2.1
    rw [h3] at h4
    exact absurd h4 hn
  · rfl
section
variable {d : Int} {p : TProgram} (hl : (namesP p).length ≤ 300)
include hl
theorem pair_props {q : TPair} (hq : q ∈ tblP d p) : isW d q.Old = true ∧ q.Old ∈ namesP p ∧ q.New ∉ namesP p ∧ (∀ e, isW e q.New = false) ∧ freeB q.New ∧ q.New.size ≤ q.Old.size + 4 ∧ q.New.size ≠ 0 ∧ q.New ≠ q.Old := by
  obtain ⟨h1, h2, h3, k, hk, h4⟩ := (tblN_props d (namesP p) (namesP p) fun _ h => h).1 q hq
  have hs := word_small h1
  have hnm := name_succ (s := q.Old) (by omega) k
  have hdz := decB_size (k + 1) (by omega)
  refine ⟨h1, h2, h3, fun e => by rw [h4]; exact Wd.name_word q.Old k e, ?_, ?_, ?_, fun e => h3 (e ▸ h2)⟩
  · rw [h4, hnm]
    intro c hc
    simp only [ByteArray.data_append, Array.toList_append, List.mem_append] at hc
    rcases hc with (hc | hc) | hc
    · exact word_free h1 c hc
    · simp at hc; subst hc; decide
    · exact dec_free (k + 1) c (by simpa [Wd.decB] using hc)
  · rw [h4, hnm]
    simp only [ByteArray.size_append, s95]
    omega
  · rw [h4, hnm]
    simp only [ByteArray.size_append, s95]
    omega
theorem newO_grow : growO (newO d p) := fun n => by
  by_cases hn : n ∈ namesP p
  · by_cases h : isW d n = true
    · obtain ⟨q, hq, rfl, he⟩ := newO_word hn h
      have := (pair_props hl hq).2.2.2.2.2.1
      have := word_small h
      rw [he]
      omega
    · rw [newO_not h]
      omega
  · rw [newO_out hn]
    omega
theorem newO_good : ∀ q ∈ nmP' p, goodO (newO d p) q := fun n hn => by
  have hfree : freeB n := all_P (P := freeB) (fun s q hq => cutP_free s q (mem_pts.1 hq).1) p n hn
  have hz := (okP_P p n hn).1
  unfold goodO
  by_cases h : isW d n = true
  · obtain ⟨q, hq, rfl, he⟩ := newO_word ((namesP_mem p n).2 hn) h
    have := pair_props hl hq
    rw [he]
    exact ⟨this.2.2.2.2.1, this.2.2.2.2.2.2.1⟩
  · rw [newO_not h]
    exact ⟨hfree, hz⟩
theorem nodup_inj {α β : Type} (f : α → β) : ∀ (l : List α), (l.map f).Nodup → ∀ a ∈ l, ∀ b ∈ l, f a = f b → a = b
  | [], _, a, ha, _, _, _ => by simp at ha
  | x :: r, h, a, ha, b, hb, e => by
    rw [List.map_cons, List.nodup_cons] at h
    rcases List.mem_cons.1 ha with h1 | h1
    · rcases List.mem_cons.1 hb with h2 | h2
      · rw [h1, h2]
      · exact absurd (List.mem_map.2 ⟨b, h2, by rw [← e, h1]⟩) h.1
    · rcases List.mem_cons.1 hb with h2 | h2
      · exact absurd (List.mem_map.2 ⟨a, h1, by rw [e, h2]⟩) h.1
      · exact nodup_inj f r h.2 a h1 b h2 e
theorem newO_inj {a b : ByteArray} (ha : a ∈ namesP p) (hb : b ∈ namesP p) (h : newO d p a = newO d p b) : a = b := by
  have hnd := (tblN_props d (namesP p) (namesP p) fun _ h => h).2
  by_cases h1 : isW d a = true
  · obtain ⟨q, hq, rfl, he⟩ := newO_word ha h1
    have hp := pair_props hl hq
    by_cases h2 : isW d b = true
    · obtain ⟨q', hq', rfl, he'⟩ := newO_word hb h2
      rw [he, he'] at h
      rw [nodup_inj hl (·.New) _ hnd q hq q' hq' h]
    · rw [he, newO_not h2] at h
      exact absurd (h ▸ hb) hp.2.2.1
  · by_cases h2 : isW d b = true
    · obtain ⟨q', hq', rfl, he'⟩ := newO_word hb h2
      rw [he', newO_not h1] at h
      exact absurd (h ▸ ha) (pair_props hl hq').2.2.1
    · rw [newO_not h1, newO_not h2] at h
      exact h
theorem newO_free {a : ByteArray} (ha : a ∈ namesP p) : isW d (newO d p a) = false := by
  by_cases h1 : isW d a = true
  · obtain ⟨q, hq, rfl, he⟩ := newO_word ha h1
    rw [he]
    exact (pair_props hl hq).2.2.2.1 d
  · rw [newO_not h1]
    exact Bool.eq_false_iff.2 h1
theorem newO_same {a : ByteArray} (ha : a ∈ namesP p) : newO d p a = a ↔ ¬ isW d a = true := by
  constructor
  · intro h h1
    have := newO_free (d := d) hl ha
    rw [h, h1] at this
    cases this
  · exact newO_not
theorem namesP_new : namesP (mapP (newO d p) p) = (namesP p).map (newO d p) := by
  obtain ⟨t1, _⟩ := there_P (newO d p) (newO d p) p (newO_good hl)
  have e3 := foldN_map (newO d p) (nmP' p) [] (fun a b ha hb hab => newO_inj hl ((namesP_mem p a).2 (ha.resolve_left (by simp))) ((namesP_mem p b).2 (hb.resolve_left (by simp))) hab)
  rw [List.map_nil, ← t1] at e3
  exact e3
theorem tblP_len : (tblP d p).length ≤ 300 := Nat.le_trans (tblN_len d _ _) hl
theorem tblP_room (n : Nat) : roomT (.ren (tblP d p)) n := fun q hq => by
  have h := pair_props hl hq
  have := word_small h.1
  omega
theorem Apply_ok (k : Nat) (hb : bk_TProgram p ≤ 8388608) (hk : 3 * bk_TProgram p + 1030 ≤ k) : (FF hFam (k + 11)).f_rename_Apply (d, p, ()) = some (mapP (newO d p) p, tblP d p, ()) := by
  show B_rename_Apply (FF hFam (k + 10)) (k + 10) d p = _
  unfold B_rename_Apply
  rw [Table_ok k d p hb hk hl, Option.bind_some]
  have e : (FF hFam (k + 10)).f_tree_Rename (p, tblP d p, ()) = some (mapP (newO d p) p) := by
    show B_tree_Rename (FF hFam (k + 9)) (k + 9) p (tblP d p) = _
    unfold B_tree_Rename
    rw [mprog_ok (k + 1) (.ren (tblP d p)) p (tblP_room hl _) hb (by omega)]
    rfl
  rw [e]
  rfl
end
end Go.Ev
end
section
open Go
namespace Go.Ev
open Go.Proofs.YtlepjafokfhnfaaDoor
set_option maxRecDepth 100000
set_option maxHeartbeats 4000000
set_option linter.unusedVariables false
set_option linter.unusedSimpArgs false
set_option linter.unusedSectionVars false
theorem nodup_at {α : Type} : ∀ (l : List α), l.Nodup → ∀ i j (hi : i < l.length) (hj : j < l.length), l[i] = l[j] → i = j
  | [], _, i, j, hi, _, _ => by simp at hi
  | x :: r, h, i, j, hi, hj, e => by
    have hn := List.nodup_cons.1 h
    cases i with
    | zero =>
      cases j with
      | zero => rfl
      | succ j =>
        simp only [List.getElem_cons_zero, List.getElem_cons_succ] at e
        exact absurd (e ▸ List.getElem_mem (by simpa using hj)) hn.1
    | succ i =>
      cases j with
      | zero =>
        simp only [List.getElem_cons_zero, List.getElem_cons_succ] at e
        exact absurd (e ▸ List.getElem_mem (by simpa using hi)) hn.1
      | succ j =>
        simp only [List.getElem_cons_succ] at e
        rw [nodup_at r hn.2 i j (by simpa using hi) (by simpa using hj) e]
theorem tbl_free {d : Int} {p : TProgram} (h : ∀ n ∈ namesP p, isW d n = false) : tblP d p = [] := by
  have h1 := tblN_old d (namesP p) (namesP p)
  rw [List.filter_eq_nil_iff.2 (fun n hn => by rw [h n hn]; simp)] at h1
  exact List.map_eq_nil_iff.1 h1
theorem newO_id {d : Int} {p : TProgram} (h : tblP d p = []) : ∀ q, newO d p q = q := fun q => by unfold newO; rw [h]; rfl
section
variable {d : Int} {p : TProgram} (hl : (namesP p).length ≤ 300)
include hl
theorem free_new : ∀ n ∈ namesP (mapP (newO d p) p), isW d n = false := fun n hn => by
  rw [namesP_new hl] at hn
  obtain ⟨m, hm, rfl⟩ := List.mem_map.1 hn
  exact newO_free hl hm
theorem len_new : (namesP (mapP (newO d p) p)).length = (namesP p).length := by rw [namesP_new hl, List.length_map]
end
theorem RenameApart_ok (k : Nat) (d : Int) (p : TProgram) (fp : ft_TProgram p) (hb : bk_TProgram p ≤ 1048576) (hk : 50000000 ≤ k) (aw : (FF hFam (k + 11)).f_w16_awake () = some true) : (FF hFam (k + 12)).f_w16_RenameApart (d, p, ()) = some true := by
  show B_w16_RenameApart (FF hFam (k + 11)) (k + 11) d p = _
  unfold B_w16_RenameApart
  have e1 := r07_Names_ok (k + 7) p (by omega) (by omega)
  have e2 : ∀ p : TProgram, (nmP' p).foldl addN [] = namesP p := fun _ => rfl
  rw [e2] at e1
  rw [e1, Option.bind_some]
  by_cases hl : (namesP p).length ≤ 300
  · have hlf : decide (((namesP p).length : Int) > 300) = false := by simpa using (by omega : ((namesP p).length : Int) ≤ 300)
    have hg := newO_grow (d := d) hl
    have hbq := grow_P (newO d p) hg p
    have hA := Apply_ok (d := d) hl k (by omega) (by omega)
    have e3 := r07_Names_ok (k + 7) (mapP (newO d p) p) (by omega) (by omega)
    rw [e2, namesP_new hl] at e3
    have hlen := tblP_len (d := d) hl
    have hold : ((tblP d p).map (·.Old)).Nodup := by
      unfold tblP
      rw [tblN_old]
      exact (namesP_nodup p).filter _
    have hnew := (tblN_props d (namesP p) (namesP p) fun _ h => h).2
    have hO : ∀ i j (hi : i < (tblP d p).length) (hj : j < (tblP d p).length), (tblP d p)[i].Old = (tblP d p)[j].Old → i = j := fun i j hi hj e => nodup_at _ hold i j (by simpa using hi) (by simpa using hj) (by simpa using e)
    have hN : ∀ i j (hi : i < (tblP d p).length) (hj : j < (tblP d p).length), (tblP d p)[i].New = (tblP d p)[j].New → i = j := fun i j hi hj e => nodup_at _ hnew i j (by simpa [tblP] using hi) (by simpa [tblP] using hj) (by simpa [tblP] using e)
    -- the pairs
    have pairs : ∀ r9, ∀ j i, i ≤ (tblP d p).length → (tblP d p).length - i < j → Lw16_RenameApart_14 (FF hFam (k + 11)) (k + 11) d p r9 j (tblP d p) (i : Int) = some true := by
      intro r9
      refine up_ind (tblP d p).length (fun j => ?_) (fun j i hi ih => ?_)
      · simp only [Lw16_RenameApart_14]
        rw [if_neg (by simp), aw]
        rfl
      · have inner : ∀ j' m, m ≤ (tblP d p).length → (tblP d p).length - m < j' → Lw16_RenameApart_17 (FF hFam (k + 11)) (k + 11) d p r9 (Lw16_RenameApart_14 (FF hFam (k + 11)) (k + 11) d p r9 j) j' (tblP d p) (i : Int) (m : Int) = some true := by
          refine up_ind (tblP d p).length (fun j' => ?_) (fun j' m hm ihm => ?_)
          · simp only [Lw16_RenameApart_17]
            rw [if_neg (by simp), wrap_succ hi (by simp only [maxLen]; omega)]
            exact ih
          · simp only [Lw16_RenameApart_17]
            rw [if_pos (lt_dec hm), wrap_succ hm (by simp only [maxLen]; omega), ihm]
            by_cases him : i = m
            · subst him
              rw [if_neg (by simp)]
            · rw [if_pos (by simpa using (by omega : ¬ (i : Int) = (m : Int))), if_pos (by omega), if_pos (by omega), if_pos (by omega), if_pos (by omega), getD_at (tblP d p) i _ hi, getD_at (tblP d p) m _ hm, ba_dc, dc_false (fun e => him (hO i m hi hm e)),
                if_pos rfl, if_pos (by omega), if_pos (by omega), if_pos (by omega), if_pos (by omega), ba_dc, dc_false (fun e => him (hN i m hi hm e)), if_neg (by simp)]
        simp only [Lw16_RenameApart_14]
        rw [if_pos (lt_dec hi)]
        exact inner (k + 11) 0 (Nat.zero_le _) (by omega)
    have key : ∀ j i, i ≤ (namesP p).length → (namesP p).length - i < j → Lw16_RenameApart_9 (FF hFam (k + 11)) (k + 11) d p j d (namesP p) (tblP d p) ((namesP p).map (newO d p)) (i : Int) = some true := by
      refine up_ind (namesP p).length (fun j => ?_) (fun j i hi ih => ?_)
      · simp only [Lw16_RenameApart_9]
        rw [if_neg (by simp)]
        exact pairs _ (k + 11) 0 (Nat.zero_le _) (by omega)
      · have hi' : i < ((namesP p).map (newO d p)).length := by simpa using hi
        have hm : (namesP p)[i] ∈ namesP p := List.getElem_mem hi
        have hat : ((namesP p).map (newO d p))[i] = newO d p (namesP p)[i] := by simp
        have hs := newO_same (d := d) hl hm
        have hf := newO_free (d := d) hl hm
        simp only [Lw16_RenameApart_9]
        rw [if_pos (lt_dec hi'), if_pos (by omega), if_pos (by omega), getD_at _ i _ hi', hat, r04_Is_ok (k + 9) d _ (by omega), Option.bind_some]
        have hf' : Wd.mem (Wd.lst d) (newO d p (namesP p)[i]) = false := hf
        rw [if_pos hf', if_pos (by omega), if_pos (by omega), if_pos (by omega), if_pos (by omega), if_pos (by omega), if_pos (by omega), getD_at (namesP p) i _ hi, r04_Is_ok (k + 9) d _ (by omega), Option.bind_some, wrap_succ hi (by simp only [maxLen]; omega), ba_dc]
        rw [if_neg, ih]
        have hw : Wd.mem (Wd.lst d) (namesP p)[i] = isW d (namesP p)[i] := rfl
        rw [hw]
        cases hwv : isW d (namesP p)[i] with
        | true =>
          rw [dc_false (fun e => hs.1 e hwv)]
          simp
        | false =>
          rw [dc_true (hs.2 (by rw [hwv]; simp))]
          simp
    rw [if_neg (by rw [hlf]; simp), hA, Option.bind_some, e3, Option.bind_some, if_neg (by simp)]
    exact key (k + 11) 0 (Nat.zero_le _) (by omega)
  · have hlf : decide (((namesP p).length : Int) > 300) = true := by simpa using (by omega : ((namesP p).length : Int) > 300)
    rw [if_pos hlf, aw]
    rfl
end Go.Ev
end
section
open Go Go.Proofs
namespace Go.Ev
open Go.RowKit Go.Proofs.YtlepjafokfhnfaaDoor
set_option linter.unusedVariables false
set_option maxHeartbeats 4000000
set_option maxRecDepth 100000
section
variable {H : Type} {enc : TypeId × Value → H} {W : World} {base : Nat} {spare : Nat → Bool} {held : Bool}
theorem sp_renameApart (s : Fam) : sp s 3 = ansOf c_w16_RenameApart rc_w16_RenameApart.enc s.f_w16_RenameApart := by kernel_rfl
theorem renameApart (n0 : Int) {v1 : Value} {d1 : DataW H} {p1 : List MemPlace} (h1 : DataW.Trod enc Tryd.prog W base spare held 28 v1 d1 p1) (hb1 : Rows.uptoBulk d1 ≤ 1048576) (hi : EE.inv W) : Calls Tryd.prog 3 #[.int .i64 n0, v1] W fun e W' => e = .returned (.bool true) ∧ Below W.heap.size W W' := by
  obtain ⟨_, x1, _, fx1, bx1, rx1⟩ := read_progB h1
  refine call_law (s := FF hFam (50000001 + 12)) (by decide) (specs hand _) (avs := c_w16_RenameApart.enc (n0, x1, ())) ?_ (.cons _ _ _ _ [] [] [] [] (.c _ _ _ _ (.d _ _ (.lit _ rfl))) (.cons _ _ _ _ [] [] [] [] rx1 .nil)) hi
  rw [sp_renameApart]
  exact ans_run _ _ _ (x := (n0, x1, ())) rfl (by exact RenameApart_ok 50000001 n0 x1 fx1 (by omega) (by omega) (awake_ok 50000000))
end
end Go.Ev
end
section
set_option linter.unusedVariables false
namespace Go.Ev.renameApart
open Go Go.Proofs Go.ChangeShapes Go.WideShapes Go.ChangeAt Go.RowKit Go.Proofs.YtlepjafokfhnfaaDoor
theorem own : ownKnob Tryd.prog.godebug = none := by kernel_rfl
theorem laidOut : laidOutB Tryd.prog = true := by kernel_rfl
theorem reads (os : Os) {H : Type} (enc : TypeId × Value → H) : ∃ places, DataW.whole enc Tryd.prog ((World.laidAll Tryd.prog os laidL).forCall (fun _ _ => 0) ⟨#[], #[.int .i64 0, .agg #[.string ⟨#[]⟩, .slice none 0 0, .slice none 0 0, .slice none 0 0, .slice none 0 0, .slice none 0 0, .slice none 0 0, .slice none 0 0, .slice none 0 0]], []⟩).memory Tryd.f3.params.toList Rows.renameApartSpec.vars false #[Value.int .i64 0, .agg #[.string ⟨#[]⟩, .slice none 0 0, .slice none 0 0, .slice none 0 0, .slice none 0 0, .slice none 0 0, .slice none 0 0, .slice none 0 0, .slice none 0 0]].toList 8 = some ([.lit (.int .i64 0), .agg [.lit (.string []), .nil, .nil, .nil, .nil, .nil, .nil, .nil, .nil]], [], places) :=
  ⟨[], by kernel_rfl⟩
set_option maxRecDepth 100000 in
theorem lifted (os : Os) (started : os.Started) (H : Type) (enc : TypeId × Value → H) (F : Stop.Interp) :
    ReturnsInHanded {} Tryd.checked os 3 .any ((Rows.OpenSpec.upto Rows.renameApartSpec).preRow enc Tryd.prog Tryd.f3 Rows.renameApartUptoRow.domain false Rows.renameApartUptoRow.laid) (((Rows.OpenSpec.upto Rows.renameApartSpec).at F).post enc Tryd.prog Tryd.f3 false true false false) := by
  obtain ⟨places, hx⟩ := reads os enc
  refine returnsInHanded_of_row (C := Tryd.checked) (s := Rows.OpenSpec.upto Rows.renameApartSpec) own started (by kernel_rfl) Tryd.func3
    ⟨World.laidAll Tryd.prog os laidL, fun _ _ => 0, ⟨#[], #[.int .i64 0, .agg #[.string ⟨#[]⟩, .slice none 0 0, .slice none 0 0, .slice none 0 0, .slice none 0 0, .slice none 0 0, .slice none 0 0, .slice none 0 0, .slice none 0 0]], []⟩, World.laidAll_os _ _ _, World.shaped_of_ZipB (by kernel_rfl) (by kernel_rfl), rfl, (Input.okWide_of_okWideB (by kernel_rfl)).2,
      OpenSpec.preRow_of_cond 8 hx (by kernel_rfl) (fun k hk => by cases hk; kernel_rfl) (by kernel_rfl) (by show laidMetH Tryd.prog laidL _; rw [MakeChecks.laidMetH_plain _ _ _ (by kernel_rfl)]; exact laidMet_laidAll _ (by kernel_rfl) (by kernel_rfl)), by
        simp only [Assume.holds]
        exact ⟨by simp, by simp, fun _ => Modest.zero, by simp, by simp⟩⟩ ?_
  intro W base args ds gs before hval hW _ hcond _ hlaid hsh _
  have hL : EE.inv W := of_laid hlaid hsh
  have hW' := hW
  obtain ⟨p, q, hA0, hV, rfl, hfz, hnd⟩ := hW
  have hA : DataW.TrodAll enc Tryd.prog W 0 (fun _ => true) true Tryd.f3.params.toList args.toList ds p := hA0
  rw [Tryd.params3] at hA hval
  obtain ⟨v0, vs0, d0, ds0, p0, q0, hargs, rfl, rfl, h0, r0⟩ := trodAll_cons hA
  obtain ⟨v1, vs1, d1, ds1, p1, q1, rfl, rfl, rfl, h1, r1⟩ := trodAll_cons r0
  obtain ⟨rfl, rfl, rfl⟩ := trodAll_nil r1
  obtain rfl : args = #[v0, v1] := by cases args; simp_all
  obtain ⟨rfl, rfl⟩ := trodVars_none hV
  have hbulk := hcond _ rfl
  simp only [Rows.uptoSmall, decide_eq_true_eq, List.append_nil, List.cons_append, List.nil_append, bulkAll_eq, List.map_cons, List.map_nil, List.sum_cons, List.sum_nil] at hbulk
  have lt0 : ∀ x ∈ p0, x.block < W.heap.size := by obtain ⟨m, hm⟩ := h0; exact DataW.trod_lt m _ _ _ hm
  have lt1 : ∀ x ∈ p1, x.block < W.heap.size := by obtain ⟨m, hm⟩ := h1; exact DataW.trod_lt m _ _ _ hm
  obtain ⟨n0, e0, _, _, _⟩ := open_int Tryd.underlying3 (hval 0 3 v0 rfl rfl) h0
  have hcall : Calls Tryd.prog 3 #[v0, v1] W fun e W' => e = .returned (.bool true) ∧ Below W.heap.size W W' := by
    rw [e0]
    exact Go.Ev.renameApart n0 h1 (by omega) hL
  refine hcall.mono fun e W' ⟨he, bel⟩ => ?_
  subst he
  exact ⟨_, rfl, (⟨_, _, _, [], _, [], hW', trodAll_mk1 (shut_bool Tryd.underlying4 _), (trodAll_cons_mk (Below.trod laidOut (by kernel_rfl) (of_decide_eq_true (by kernel_rfl)) h0 bel lt0) (trodAll_cons_mk (Below.trod laidOut (by kernel_rfl) (of_decide_eq_true (by kernel_rfl)) h1 bel lt1) trodAll_mk0)), rfl, bel.frame _, fun h => by cases h⟩ : Rows.renameApartSpec.post enc Tryd.prog Tryd.f3 false true false false W _ _ W')⟩
theorem over : Rows.RenameApartUptoSaid :=
  OpenClaim.holds_of_cond 3 Tryd.f3 rfl rfl rfl rfl rfl rfl rfl ⟨rfl, rfl, rfl, rfl, rfl⟩ rfl rfl rfl rfl rfl (by kernel_rfl) Tryd.func3 (by kernel_rfl)
    (of_decide_eq_true (by kernel_rfl)) (by unfold Func.isWrapper; first | (rw [if_pos (by decide +kernel)]; kernel_rfl) | (rw [if_neg (by decide +kernel)]; exact ⟨rfl, rfl⟩))
    (fun os started H enc _ F => by rw [OpenClaim.pre_eq_preRow]; exact lifted os started H enc F)
theorem plain (f : FuncId) (fn : Func) (hf : Tryd.pinned.checked.prog.funcNamed "pantograph/pantographlaw16.RenameApart" = some f) (hfn : Tryd.pinned.checked.prog.funcs[f]? = some fn) :
    false = Tryd.pinned.checked.prog.looks [] ∧ ∀ (j : Nat) t, fn.params[j]? = some t → Tryd.pinned.checked.prog.wantsStandIn t = false := by
  obtain rfl : f = 3 := Option.some.inj ((show Tryd.prog.funcNamed "pantograph/pantographlaw16.RenameApart" = some 3 by kernel_rfl).symm.trans hf) |>.symm
  obtain rfl : fn = Tryd.f3 := (Option.some.inj (Tryd.func3.symm.trans hfn)).symm
  refine ⟨by kernel_rfl, fun j t ht => ?_⟩
  rw [Tryd.params3] at ht
  have hm : t ∈ [3, 28] := by simpa using Array.mem_of_getElem? ht
  have hall : ([3, 28].all fun u => !Tryd.prog.wantsStandIn u) = true := by kernel_rfl
  exact (show Tryd.prog.wantsStandIn t = false by simpa using List.all_eq_true.1 hall t hm)
theorem card : Rows.RenameApartUptoCardSaid :=
  Claim7.holds_tied_plain_at .later [] _ _ _ _ over (fun _ h => by cases h) (by kernel_rfl) (fun _ h => by cases h) renameApartUpto_row_tie rfl ⟨rfl, rfl⟩ (by kernel_rfl) rfl plain (by kernel_rfl)
end Go.Ev.renameApart
namespace Go.Proofs.YtlepjafokfhnfaaDoor
theorem renameApart_holds : Rows.RenameApartUptoCardSaid := Go.Ev.renameApart.card
end Go.Proofs.YtlepjafokfhnfaaDoor
end
