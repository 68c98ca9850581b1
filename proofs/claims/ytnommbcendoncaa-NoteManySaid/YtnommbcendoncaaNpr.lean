/- Plain laws about reading comments: the program's reader and the reference's are one, and what is printed is read back. -/
import Derived.Test.YtnommbcendoncaaNpl
import Derived.Lib.Bytealg
set_option linter.unusedVariables false
namespace Go.Proofs.Ytnommbcendoncaa.Npl
open Go.RowKit Go.Proofs.Ytnommbcendoncaa.L Go.Proofs.Ytnommbcendoncaa.B Go.Proofs.Ytnommbcendoncaa.Np Go.Proofs.Ytnommbcendoncaa.Fx Go.Proofs.YtnommbcendoncaaW.PrintWords Go.Proofs.YtnommbcendoncaaW.PrintLast

def isq (d : Int) (q : UInt8) : Bool := decide (q.toNat = 92) || (decide (d = 0) && decide (q.toNat = 125)) || (decide (d ≠ 0) && decide (q.toNat = 42))
def nrd (d : Int) (acc : List UInt8) (n : Nat) : List UInt8 → ByteArray × Int × Int
  | [] => (⟨#[]⟩, 0, 8)
  | c :: r =>
    if (nend d).isPrefixOf (c :: r) then (⟨acc.toArray⟩, ((n + (nend d).length : Nat) : Int), 0)
    else if c.toNat = 92 then
      match r with
      | [] => (⟨#[]⟩, 0, 8)
      | q :: r' => if isq d q then (if acc.length = 1024 then (⟨#[]⟩, 0, 3) else nrd d (acc ++ [q]) (n + 2) r') else (⟨#[]⟩, 0, 8)
    else if nright c then (if acc.length = 1024 then (⟨#[]⟩, 0, 3) else nrd d (acc ++ [c]) (n + 1) r) else (⟨#[]⟩, 0, 8)
def nread (d : Int) (s : ByteArray) : ByteArray × Int × Int :=
  if d = 0 ∨ d = 1 then (if (nopen d).isPrefixOf s.data.toList then nrd d [] (nopen d).length (s.data.toList.drop (nopen d).length) else (⟨#[]⟩, 0, 8)) else (⟨#[]⟩, 0, 1)

theorem nrd_nil (d : Int) (acc : List UInt8) (n : Nat) : nrd d acc n [] = (⟨#[]⟩, 0, 8) := by rw [nrd.eq_def]
theorem nrd_cons (d : Int) (acc : List UInt8) (n : Nat) (c : UInt8) (r : List UInt8) : nrd d acc n (c :: r) = if (nend d).isPrefixOf (c :: r) then (⟨acc.toArray⟩, ((n + (nend d).length : Nat) : Int), 0)
    else if c.toNat = 92 then
      match r with
      | [] => (⟨#[]⟩, 0, 8)
      | q :: r' => if isq d q then (if acc.length = 1024 then (⟨#[]⟩, 0, 3) else nrd d (acc ++ [q]) (n + 2) r') else (⟨#[]⟩, 0, 8)
    else if nright c then (if acc.length = 1024 then (⟨#[]⟩, 0, 3) else nrd d (acc ++ [c]) (n + 1) r) else (⟨#[]⟩, 0, 8) := by
  rw [nrd.eq_def]

theorem isq_right (d : Int) (q : UInt8) (h : isq d q = true) : nright q = true := by
  simp only [isq, nright, Bool.or_eq_true, Bool.and_eq_true, decide_eq_true_eq] at *
  omega

theorem begins_f (d : Int) (s : ByteArray) : note_Begins.f d s = some (decide (d = 0 ∨ d = 1) && (nopen d).isPrefixOf s.data.toList) := by
  unfold note_Begins.f note_of.f
  by_cases h0 : d = 0
  · subst h0
    simp only [if_true, Option.bind_some, prefix_f]
    rfl
  · by_cases h1 : d = 1
    · subst h1
      simp only [if_true, Option.bind_some, prefix_f]
      rfl
    · rw [if_neg h0, if_neg h1]
      simp [h0, h1]

theorem quoted_lt (d : Int) (op en qu : ByteArray) (hf : note_of.f d = some (op, en, qu, true)) (hd : d = 0 ∨ d = 1) (q : UInt8) :
    strings_IndexByte.f qu (q.toNat : Int) = some (Lib.indexByte qu.data.toList q) ∧ (Lib.indexByte qu.data.toList q < 0 ↔ isq d q = false) := by
  constructor
  · unfold strings_IndexByte.f
    congr 2
    simp
  · have e (n : Nat) (hn : n < 256) : (UInt8.ofNat n == q) = decide (q.toNat = n) := by
      rw [Bool.eq_iff_iff, beq_iff_eq, decide_eq_true_eq, ← UInt8.toNat_inj, UInt8.toNat_ofNat_of_lt' hn]
      exact eq_comm
    have e92 : ((92 : UInt8) == q) = decide (q.toNat = 92) := e 92 (by omega)
    have e125 : ((125 : UInt8) == q) = decide (q.toNat = 125) := e 125 (by omega)
    have e42 : ((42 : UInt8) == q) = decide (q.toNat = 42) := e 42 (by omega)
    rcases hd with rfl | rfl
    · have : qu = ⟨#[92, 125]⟩ := by unfold note_of.f at hf; simp at hf; exact hf.2.2.symm
      subst this
      simp only [Lib.indexByte, e92, e125, isq]
      by_cases h1 : q.toNat = 92 <;> by_cases h2 : q.toNat = 125 <;> simp [h1, h2]
    · have : qu = ⟨#[92, 42]⟩ := by unfold note_of.f at hf; simp at hf; exact hf.2.2.symm
      subst this
      simp only [Lib.indexByte, e92, e42, isq]
      by_cases h1 : q.toNat = 92 <;> by_cases h2 : q.toNat = 42 <;> simp [h1, h2]

theorem en_of (d : Int) (op en qu : ByteArray) (hf : note_of.f d = some (op, en, qu, true)) (hd : d = 0 ∨ d = 1) : en.data.toList = nend d ∧ op.data.toList = nopen d := by
  unfold note_of.f at hf
  rcases hd with rfl | rfl
  · simp at hf; obtain ⟨rfl, rfl, _⟩ := hf; exact ⟨rfl, rfl⟩
  · simp at hf; obtain ⟨rfl, rfl, _⟩ := hf; exact ⟨rfl, rfl⟩

theorem snoc_ints (acc : List UInt8) (c : UInt8) : ints acc ++ [(c.toNat : Int)] = ints (acc ++ [c]) := by simp [ints]

/-- The program's reader. -/
theorem read_l0 (d : Int) (op en qu : ByteArray) (hf : note_of.f d = some (op, en, qu, true)) (hd : d = 0 ∨ d = 1) (s : ByteArray) (hs : s.size ≤ 9223372036854775000) :
    ∀ (n i k : Nat) (acc : List UInt8), s.size ≤ i + n → i ≤ s.size → 2 * n + 1 < k → acc.length ≤ 1024 →
      note_Read.l0 k s (ints acc) (i : Int) op en qu = some (nrd d acc i (s.data.toList.drop i)) := by
  obtain ⟨hen, hop⟩ := en_of d op en qu hf hd
  have hel : (en.size : Int) = ((nend d).length : Nat) := by rw [← hen, data_length]
  have hel2 : (nend d).length ≤ 2 := by unfold nend; split <;> simp
  intro n
  induction n with
  | zero =>
    intro i k acc hi hi2 hk hl
    obtain ⟨k, rfl⟩ : ∃ m, k = m + 1 := ⟨k - 1, by omega⟩
    simp only [note_Read.l0]
    rw [if_neg (by omega), List.drop_eq_nil_of_le (by rw [data_length]; omega)]
    rfl
  | succ n ih =>
    intro i k acc hi hi2 hk hl
    obtain ⟨k, rfl⟩ : ∃ m, k = m + 1 := ⟨k - 1, by omega⟩
    simp only [note_Read.l0]
    by_cases hlt : i < s.size
    · have hd1 := nx_data s i hlt
      have e0 : ((i : Nat) : Int).toNat = i := by omega
      have hla := ints_length acc
      rw [if_pos (by omega), if_pos (by omega), if_pos (by omega), prefix_f, e0, ext_end, hen]
      simp only [Option.bind_some]
      by_cases hp : (nend d).isPrefixOf (s.data.toList.drop i) = true
      · rw [if_pos hp, hd1, nrd_cons, if_pos (by rw [← hd1]; exact hp), str_ints]
        congr 3
        rw [hel]; unfold wrap64; omega
      · rw [if_neg hp, bt_nat s i hlt]
        have hnp : ¬ (nend d).isPrefixOf (s[i]'hlt :: s.data.toList.drop (i + 1)) = true := by rw [← hd1]; exact hp
        have step : ∀ (c : UInt8) (j : Nat) (hj : j < s.size), s[j]'hj = c → nright c = true → i ≤ j →
            note_Read.j1 k s (ints acc) (j : Int) op en qu = some (if acc.length = 1024 then (⟨#[]⟩, 0, 3) else nrd d (acc ++ [c]) (j + 1) (s.data.toList.drop (j + 1))) := by
          intro c j hj hc hr hij
          obtain ⟨k, rfl⟩ : ∃ m, k = m + 1 := ⟨k - 1, by omega⟩
          simp only [note_Read.j1]
          rw [if_pos (by omega), if_pos (by omega), bt_nat s j hj, hc, right_f, hr]
          simp only [Option.bind_some, if_true]
          by_cases hfull : acc.length = 1024
          · rw [if_pos (by omega), if_pos hfull]
          · rw [if_neg (by omega), if_neg hfull, if_pos (by omega), snoc_ints, wr1 j s.size hj (by omega)]
            exact ih (j + 1) k (acc ++ [c]) (by omega) (by omega) (by omega) (by simp; omega)
        by_cases h92 : ((s[i]'hlt).toNat : Int) = 92
        · have h92' : (s[i]'hlt).toNat = 92 := by omega
          rw [if_pos h92, wr1 i s.size hlt (by omega)]
          by_cases hnx : i + 1 < s.size
          · have hd2 := nx_data s (i + 1) hnx
            obtain ⟨q1, q2⟩ := quoted_lt d op en qu hf hd (s[i + 1]'hnx)
            have er : nrd d acc i (s.data.toList.drop i) = if isq d (s[i + 1]'hnx) = true then (if acc.length = 1024 then (⟨#[]⟩, 0, 3) else nrd d (acc ++ [s[i + 1]'hnx]) (i + 2) (s.data.toList.drop (i + 1 + 1))) else (⟨#[]⟩, 0, 8) := by
              rw [hd1, nrd_cons, if_neg hnp, if_pos h92', hd2]
            rw [if_neg (by omega), if_pos (by omega), if_pos (by omega), bt_nat s (i + 1) hnx, q1, er]
            simp only [Option.bind_some]
            by_cases hq : isq d (s[i + 1]'hnx) = true
            · rw [if_neg (fun h => by rw [q2.mp h] at hq; cases hq), step _ (i + 1) hnx rfl (isq_right d _ hq) (by omega), if_pos hq]
            · rw [if_pos (q2.mpr (Bool.eq_false_iff.mpr hq)), if_neg hq]
          · have er : nrd d acc i (s.data.toList.drop i) = (⟨#[]⟩, 0, 8) := by
              rw [hd1, nrd_cons, if_neg hnp, if_pos h92', List.drop_eq_nil_of_le (by rw [data_length]; omega)]
            rw [if_pos (by omega), er]
        · have h92' : ¬ (s[i]'hlt).toNat = 92 := by omega
          have er : nrd d acc i (s.data.toList.drop i) = if nright (s[i]'hlt) = true then (if acc.length = 1024 then (⟨#[]⟩, 0, 3) else nrd d (acc ++ [s[i]'hlt]) (i + 1) (s.data.toList.drop (i + 1))) else (⟨#[]⟩, 0, 8) := by
            rw [hd1, nrd_cons, if_neg hnp, if_neg h92']
          rw [if_neg h92, er]
          by_cases hr : nright (s[i]'hlt) = true
          · rw [step _ i hlt rfl hr (by omega), if_pos hr]
          · rw [if_neg hr]
            obtain ⟨k, rfl⟩ : ∃ m, k = m + 1 := ⟨k - 1, by omega⟩
            simp only [note_Read.j1]
            rw [if_pos (by omega), if_pos (by omega), bt_nat s i hlt, right_f, Bool.eq_false_iff.mpr hr]
            rfl
    · rw [if_neg (by omega), List.drop_eq_nil_of_le (by rw [data_length]; omega)]
      rfl

theorem read_ev (d : Int) (s : ByteArray) (hs : s.size ≤ 9223372036854775000) : Ev (fun k => note_Read.f k d s) (nread d s) := by
  refine Ev.of (note_Read.mono d s) (k := 2 * s.size + 2) ?_
  unfold note_Read.f nread
  by_cases hd : d = 0 ∨ d = 1
  · obtain ⟨op, en, qu, hf⟩ : ∃ op en qu, note_of.f d = some (op, en, qu, true) := by
      rcases hd with rfl | rfl
      · exact ⟨_, _, _, rfl⟩
      · exact ⟨_, _, _, rfl⟩
    obtain ⟨hen, hop⟩ := en_of d op en qu hf hd
    rw [hf, begins_f, if_pos hd]
    simp only [Option.bind_some, if_true]
    by_cases hb : (nopen d).isPrefixOf s.data.toList = true
    · have hl : (nopen d).length ≤ s.size := by
        have := (List.isPrefixOf_iff_prefix.mp hb).length_le
        rw [data_length] at this; exact this
      have e : (op.size : Int) = ((nopen d).length : Nat) := by rw [← hop, data_length]
      rw [hb, if_pos (by simp [hd]), if_pos rfl, e]
      exact read_l0 d op en qu hf hd s hs s.size (nopen d).length (2 * s.size + 2) [] (by omega) hl (by omega) (by simp)
    · rw [if_neg (by simp [hb]), if_neg hb]
  · rw [of_wrong d (fun h => hd (.inl h)) (fun h => hd (.inr h)), if_neg hd]
    rfl

/-- The reference's reader. -/
theorem rbegins_f (d : Int) (s : ByteArray) : pantographref02_Begins.f d s = some (decide (d = 0 ∨ d = 1) && (nopen d).isPrefixOf s.data.toList) := by
  unfold pantographref02_Begins.f
  have e (c : UInt8) (n : Nat) (hn : n < 256) : (UInt8.ofNat n == c) = decide (c.toNat = n) := by
    rw [Bool.eq_iff_iff, beq_iff_eq, decide_eq_true_eq, ← UInt8.toNat_inj, UInt8.toNat_ofNat_of_lt' hn]
    exact eq_comm
  have e123 (c : UInt8) : ((123 : UInt8) == c) = decide (c.toNat = 123) := e c 123 (by omega)
  have e47 (c : UInt8) : ((47 : UInt8) == c) = decide (c.toNat = 47) := e c 47 (by omega)
  have e42 (c : UInt8) : ((42 : UInt8) == c) = decide (c.toNat = 42) := e c 42 (by omega)
  by_cases h0 : d = 0
  · subst h0
    rw [if_pos rfl]
    by_cases hs : 0 < s.size
    · have hdr := nx_data s 0 hs
      rw [List.drop_zero] at hdr
      rw [if_pos hs, hdr, show bt s 0 = _ from bt_nat s 0 hs]
      simp only [nopen, if_true, List.isPrefixOf, e123]
      by_cases hc : (s[0]'hs).toNat = 123
      · simp [hc]
      · have : ¬ ((s[0]'hs).toNat : Int) = 123 := by omega
        simp [hc, this]
    · rw [if_neg hs]
      have : s.data.toList = [] := List.eq_nil_of_length_eq_zero (by rw [data_length]; omega)
      rw [this]; rfl
  · rw [if_neg h0]
    by_cases h1 : d = 1
    · subst h1
      rw [if_pos rfl]
      by_cases hs : 1 < s.size
      · have hdr := nx_data s 0 (by omega)
        have hdr1 := nx_data s 1 hs
        rw [List.drop_zero] at hdr
        rw [if_pos hs, hdr, hdr1, show bt s 0 = _ from bt_nat s 0 (by omega), show bt s 1 = _ from bt_nat s 1 hs]
        rw [show nopen 1 = [47, 42] from rfl]
        simp only [List.isPrefixOf, e47, e42]
        by_cases hc : (s[0]'(by omega)).toNat = 47
        · have hc' : ((s[0]'(by omega)).toNat : Int) = 47 := by omega
          by_cases hc2 : (s[1]'hs).toNat = 42
          · simp [hc, hc2]
          · have : ¬ ((s[1]'hs).toNat : Int) = 42 := by omega
            simp [hc, hc2, this]
        · have : ¬ ((s[0]'(by omega)).toNat : Int) = 47 := by omega
          simp [hc, this]
      · rw [if_neg hs]
        have hl : s.data.toList.length ≤ 1 := by rw [data_length]; omega
        match hq : s.data.toList, hl with
        | [], _ => rfl
        | [x], _ => simp [nopen, List.isPrefixOf]
    · rw [if_neg h1]
      simp [h0, h1]

theorem nend_first (d : Int) (hd : d = 0 ∨ d = 1) (c : UInt8) (r : List UInt8) : (nend d).isPrefixOf (c :: r) = ((decide (d = 0) && decide ((c.toNat : Int) = 125)) || (decide (d = 1) && decide ((c.toNat : Int) = 42) && decide (r.head? = some 47))) := by
  have e (c : UInt8) (n : Nat) (hn : n < 256) : (UInt8.ofNat n == c) = decide (c.toNat = n) := by
    rw [Bool.eq_iff_iff, beq_iff_eq, decide_eq_true_eq, ← UInt8.toNat_inj, UInt8.toNat_ofNat_of_lt' hn]
    exact eq_comm
  have e125 (c : UInt8) : ((125 : UInt8) == c) = decide ((c.toNat : Int) = 125) := (e c 125 (by omega)).trans (by rw [decide_eq_decide]; omega)
  have e42 (c : UInt8) : ((42 : UInt8) == c) = decide ((c.toNat : Int) = 42) := (e c 42 (by omega)).trans (by rw [decide_eq_decide]; omega)
  rcases hd with rfl | rfl
  · simp [nend, List.isPrefixOf, e125]
  · cases r with
    | nil => simp [nend, List.isPrefixOf]
    | cons y r =>
      have h3 : ((47 : UInt8) == y) = decide (y = 47) := by rw [Bool.eq_iff_iff, beq_iff_eq, decide_eq_true_eq]; exact eq_comm
      simp [nend, List.isPrefixOf, e42, h3]

theorem rread_l0 (d : Int) (hd : d = 0 ∨ d = 1) (s : ByteArray) (hs : s.size ≤ 9223372036854775000) :
    ∀ (n i k : Nat) (acc : List UInt8), s.size ≤ i + n → i ≤ s.size → 5 * n + 1 < k → acc.length ≤ 1024 →
      pantographref02_Read.l0 k d s (ints acc) (i : Int) = some (nrd d acc i (s.data.toList.drop i)) := by
  have hel2 : (nend d).length ≤ 2 := by unfold nend; split <;> simp
  intro n
  induction n with
  | zero =>
    intro i k acc hi hi2 hk hl
    obtain ⟨k, rfl⟩ : ∃ m, k = m + 1 := ⟨k - 1, by omega⟩
    simp only [pantographref02_Read.l0]
    rw [if_neg (by omega), List.drop_eq_nil_of_le (by rw [data_length]; omega)]
    rfl
  | succ n ih =>
    intro i k acc hi hi2 hk hl
    have hla := ints_length acc
    by_cases hlt : i < s.size
    · have hd1 := nx_data s i hlt
      have j4 : ∀ (c : UInt8) (j k4 : Nat) (hj : j < s.size), s[j]'hj = c → i ≤ j → 5 * n + 2 < k4 →
          pantographref02_Read.j4 k4 d s (ints acc) (j : Int) (c.toNat : Int) = some (if nright c then (if acc.length = 1024 then (⟨#[]⟩, 0, 3) else nrd d (acc ++ [c]) (j + 1) (s.data.toList.drop (j + 1))) else (⟨#[]⟩, 0, 8)) := by
        intro c j k4 hj hc hij hk4
        obtain ⟨k4, rfl⟩ : ∃ m, k4 = m + 1 := ⟨k4 - 1, by omega⟩
        simp only [pantographref02_Read.j4]
        rw [rright_f]
        simp only [Option.bind_some]
        by_cases hr : nright c = true
        · rw [if_pos hr, if_pos hr]
          by_cases hfull : acc.length = 1024
          · rw [if_pos (by omega), if_pos hfull]
          · rw [if_neg (by omega), if_neg hfull, if_pos (by omega), snoc_ints, wr1 j s.size hj (by omega)]
            exact ih (j + 1) k4 (acc ++ [c]) (by omega) (by omega) (by omega) (by simp; omega)
        · rw [if_neg hr, if_neg hr]
      have j3 : ∀ (k3 : Nat), ¬ (nend d).isPrefixOf (s.data.toList.drop i) = true → 5 * n + 3 < k3 →
          pantographref02_Read.j3 k3 d s (ints acc) (i : Int) ((s[i]'hlt).toNat : Int) false = some (nrd d acc i (s.data.toList.drop i)) := by
        intro k3 hp hk3
        have hnp : ¬ (nend d).isPrefixOf (s[i]'hlt :: s.data.toList.drop (i + 1)) = true := by rw [← hd1]; exact hp
        obtain ⟨k3, rfl⟩ : ∃ m, k3 = m + 1 := ⟨k3 - 1, by omega⟩
        simp only [pantographref02_Read.j3]
        rw [if_neg (by simp)]
        by_cases h92 : ((s[i]'hlt).toNat : Int) = 92
        · have h92' : (s[i]'hlt).toNat = 92 := by omega
          rw [if_pos h92, wr1 i s.size hlt (by omega)]
          by_cases hnx : i + 1 < s.size
          · have hd2 := nx_data s (i + 1) hnx
            rw [if_neg (by omega), if_pos (by omega), if_pos (by omega), bt_nat s (i + 1) hnx]
            have hj4 := j4 (s[i + 1]'hnx) (i + 1) k3 hnx rfl (by omega) (by omega)
            have er : nrd d acc i (s.data.toList.drop i) = if isq d (s[i + 1]'hnx) = true then (if acc.length = 1024 then (⟨#[]⟩, 0, 3) else nrd d (acc ++ [s[i + 1]'hnx]) (i + 2) (s.data.toList.drop (i + 1 + 1))) else (⟨#[]⟩, 0, 8) := by
              rw [hd1, nrd_cons, if_neg hnp, if_pos h92', hd2]
            rw [er]
            have good : isq d (s[i + 1]'hnx) = true → pantographref02_Read.j4 k3 d s (ints acc) ((i + 1 : Nat) : Int) ((s[i + 1]'hnx).toNat : Int) = some (if isq d (s[i + 1]'hnx) = true then (if acc.length = 1024 then (⟨#[]⟩, 0, 3) else nrd d (acc ++ [s[i + 1]'hnx]) (i + 2) (s.data.toList.drop (i + 1 + 1))) else (⟨#[]⟩, 0, 8)) := by
              intro hq
              rw [hj4, if_pos (isq_right d _ hq), if_pos hq]
            have bad : ¬ isq d (s[i + 1]'hnx) = true → (some (⟨#[]⟩, 0, 8) : Option (ByteArray × Int × Int)) = some (if isq d (s[i + 1]'hnx) = true then (if acc.length = 1024 then (⟨#[]⟩, 0, 3) else nrd d (acc ++ [s[i + 1]'hnx]) (i + 2) (s.data.toList.drop (i + 1 + 1))) else (⟨#[]⟩, 0, 8)) := by
              intro hq
              rw [if_neg hq]
            have hiq : isq d (s[i + 1]'hnx) = true ↔ (((s[i + 1]'hnx).toNat : Int) = 92 ∨ (d = 0 ∧ ((s[i + 1]'hnx).toNat : Int) = 125) ∨ (d ≠ 0 ∧ ((s[i + 1]'hnx).toNat : Int) = 42)) := by
              simp only [isq, Bool.or_eq_true, Bool.and_eq_true, decide_eq_true_eq]
              omega
            by_cases c92 : ((s[i + 1]'hnx).toNat : Int) = 92
            · rw [if_pos c92]; exact good (hiq.mpr (.inl c92))
            · rw [if_neg c92]
              rcases hd with rfl | rfl
              · rw [if_pos rfl]
                by_cases c125 : ((s[i + 1]'hnx).toNat : Int) = 125
                · rw [if_pos c125]; exact good (hiq.mpr (.inr (.inl ⟨rfl, c125⟩)))
                · rw [if_neg c125, if_neg (by omega)]
                  exact bad (fun h => by rcases hiq.mp h with h | ⟨_, h⟩ | ⟨h, _⟩ <;> omega)
              · rw [if_neg (by omega), if_pos rfl]
                by_cases c42 : ((s[i + 1]'hnx).toNat : Int) = 42
                · rw [if_pos c42]; exact good (hiq.mpr (.inr (.inr ⟨by omega, c42⟩)))
                · rw [if_neg c42]
                  exact bad (fun h => by rcases hiq.mp h with h | ⟨h, _⟩ | ⟨_, h⟩ <;> omega)
          · have er : nrd d acc i (s.data.toList.drop i) = (⟨#[]⟩, 0, 8) := by
              rw [hd1, nrd_cons, if_neg hnp, if_pos h92', List.drop_eq_nil_of_le (by rw [data_length]; omega)]
            rw [if_pos (by omega), er]
        · have h92' : ¬ (s[i]'hlt).toNat = 92 := by omega
          have er : nrd d acc i (s.data.toList.drop i) = if nright (s[i]'hlt) = true then (if acc.length = 1024 then (⟨#[]⟩, 0, 3) else nrd d (acc ++ [s[i]'hlt]) (i + 1) (s.data.toList.drop (i + 1))) else (⟨#[]⟩, 0, 8) := by
            rw [hd1, nrd_cons, if_neg hnp, if_neg h92']
          rw [if_neg h92, j4 (s[i]'hlt) i k3 hlt rfl (by omega) (by omega), er]
      have hends : (nend d).isPrefixOf (s.data.toList.drop i) = true → ∀ m : Int, m = ((i + (nend d).length : Nat) : Int) → some (strOfNums (ints acc), m, (0 : Int)) = some (nrd d acc i (s.data.toList.drop i)) := by
        intro hp m hm
        rw [hd1, nrd_cons, if_pos (by rw [← hd1]; exact hp), str_ints, hm]
      have hpe := nend_first d hd (s[i]'hlt) (s.data.toList.drop (i + 1))
      rw [← hd1] at hpe
      obtain ⟨k, rfl⟩ : ∃ m, k = m + 1 := ⟨k - 1, by omega⟩
      obtain ⟨k, rfl⟩ : ∃ m, k = m + 1 := ⟨k - 1, by omega⟩
      simp only [pantographref02_Read.l0]
      rw [if_pos (by omega), if_pos (by omega), bt_nat s i hlt]
      rcases hd with rfl | rfl
      · rw [if_pos rfl]
        simp only [pantographref02_Read.j2]
        by_cases c125 : ((s[i]'hlt).toNat : Int) = 125
        · rw [if_pos (by simp [c125])]
          exact hends (by rw [hpe]; simp [c125]) _ (by rw [wr1 i s.size hlt (by omega)]; simp [nend])
        · rw [if_neg (by simp [c125]), if_neg (by omega)]
          exact j3 k (by rw [hpe]; simp [c125]) (by omega)
      · rw [if_neg (by omega)]
        simp only [pantographref02_Read.j2]
        rw [if_neg (by simp), if_pos trivial]
        by_cases c42 : ((s[i]'hlt).toNat : Int) = 42
        · rw [if_pos c42, wr1 i s.size hlt (by omega)]
          by_cases hnx : i + 1 < s.size
          · have hd2 := nx_data s (i + 1) hnx
            have hh : (s.data.toList.drop (i + 1)).head? = some (s[i + 1]'hnx) := by rw [hd2]; rfl
            rw [if_pos (by omega), if_pos (by omega), bt_nat s (i + 1) hnx]
            by_cases c47 : ((s[i + 1]'hnx).toNat : Int) = 47
            · obtain ⟨k, rfl⟩ : ∃ m, k = m + 1 := ⟨k - 1, by omega⟩
              simp only [pantographref02_Read.j3]
              rw [if_pos (by simp [c47])]
              have : s[i + 1]'hnx = 47 := by rw [← UInt8.toNat_inj]; show _ = 47; omega
              exact hends (by rw [hpe, hh, this]; simp [c42]) _ (by unfold wrap64; simp [nend]; omega)
            · have : ¬ s[i + 1]'hnx = 47 := fun h => c47 (by rw [h]; rfl)
              rw [show (((s[i + 1]'hnx).toNat : Int) == 47) = false from beq_eq_false_iff_ne.mpr c47]
              exact j3 k (by rw [hpe, hh]; simp [this]) (by omega)
          · rw [if_neg (by omega)]
            exact j3 k (by rw [hpe, List.drop_eq_nil_of_le (by rw [data_length]; omega)]; simp) (by omega)
        · rw [if_neg c42]
          exact j3 k (by rw [hpe]; simp [c42]) (by omega)
    · obtain ⟨k, rfl⟩ : ∃ m, k = m + 1 := ⟨k - 1, by omega⟩
      simp only [pantographref02_Read.l0]
      rw [if_neg (by omega), List.drop_eq_nil_of_le (by rw [data_length]; omega)]
      rfl

theorem rread_ev (d : Int) (s : ByteArray) (hs : s.size ≤ 9223372036854775000) : Ev (fun k => pantographref02_Read.f k d s) (nread d s) := by
  refine Ev.of (pantographref02_Read.mono d s) (k := 5 * s.size + 4) ?_
  unfold pantographref02_Read.f nread
  have main : (d = 0 ∨ d = 1) → pantographref02_Read.j0 (5 * s.size + 4) d s false = some (nread d s) := by
    intro hd
    show pantographref02_Read.j0 ((5 * s.size + 3) + 1) d s false = some (nread d s)
    simp only [pantographref02_Read.j0]
    rw [if_neg (by simp), rbegins_f]
    simp only [Option.bind_some]
    unfold nread
    rw [if_pos hd]
    by_cases hb : (nopen d).isPrefixOf s.data.toList = true
    · have hl : (nopen d).length ≤ s.size := by
        have := (List.isPrefixOf_iff_prefix.mp hb).length_le
        rw [data_length] at this; exact this
      have e : wrap64 (d + 1) = ((nopen d).length : Nat) := by rcases hd with rfl | rfl <;> (unfold wrap64; simp [nopen])
      rw [if_pos (by simp [hb, hd]), if_pos hb, e]
      exact rread_l0 d hd s hs s.size (nopen d).length (5 * s.size + 3) [] (by omega) hl (by omega) (by simp)
    · rw [if_neg (by simp [hb]), if_neg hb]
  by_cases h0 : d = 0
  · rw [if_pos h0, main (.inl h0)]; unfold nread; rfl
  · rw [if_neg h0]
    by_cases h1 : d = 1
    · rw [show (d != 1) = false from bne_eq_false_iff_eq.mpr h1, main (.inr h1)]; unfold nread; rfl
    · rw [show (d != 1) = true from bne_iff_ne.mpr h1, if_neg (fun h => h.elim h0 h1)]
      show pantographref02_Read.j0 ((5 * s.size + 3) + 1) d s true = _
      simp only [pantographref02_Read.j0]
      rw [if_pos trivial]

/-- What is printed is read back, whatever stands behind it. -/
theorem nrd_body (d : Int) (hd : d = 0 ∨ d = 1) (rest : List UInt8) : ∀ (a : List UInt8) (acc : List UInt8) (n : Nat), a.all nright = true → acc.length + a.length ≤ 1024 →
    nrd d acc n (nbody d a ++ nend d ++ rest) = (⟨(acc ++ a).toArray⟩, ((n + (nbody d a).length + (nend d).length : Nat) : Int), 0) := by
  intro a
  induction a with
  | nil =>
    intro acc n _ _
    have : nbody d [] ++ nend d ++ rest = nend d ++ rest := rfl
    rw [this]
    have hp : (nend d).isPrefixOf (nend d ++ rest) = true := List.isPrefixOf_iff_prefix.mpr (List.prefix_append _ _)
    match hn : nend d ++ rest, hp with
    | [], _ => rcases hd with rfl | rfl <;> simp [nend] at hn
    | c :: r, hp =>
      rw [nrd_cons, if_pos hp]
      simp [nbody]
  | cons c r ih =>
    intro acc n ha hl
    simp only [List.all_cons, Bool.and_eq_true] at ha
    have hfull : ¬ acc.length = 1024 := by simp at hl; omega
    have ih1 := fun m => ih (acc ++ [c]) m ha.2 (by simp at hl ⊢; omega)
    by_cases hm : nmark d c r = true
    · have e : nbody d (c :: r) ++ nend d ++ rest = 92 :: c :: (nbody d r ++ nend d ++ rest) := by simp [nbody, hm]
      have hq : isq d c = true := by
        rcases (mark_int d hd c r).mp hm with h | ⟨h0, h⟩ | ⟨h1, h, _⟩ <;> simp only [isq, Bool.or_eq_true, Bool.and_eq_true, decide_eq_true_eq] <;> omega
      have hnp : ¬ (nend d).isPrefixOf (92 :: c :: (nbody d r ++ nend d ++ rest)) = true := by
        rcases hd with rfl | rfl
        · simp [nend, List.isPrefixOf]
        · simp [nend, List.isPrefixOf]
      rw [e, nrd_cons, if_neg hnp, if_pos (by decide)]
      simp only
      rw [if_pos hq, if_neg hfull, ih1]
      simp [nbody, hm]
      omega
    · have hmf := Bool.eq_false_iff.mpr hm
      have e : nbody d (c :: r) ++ nend d ++ rest = c :: (nbody d r ++ nend d ++ rest) := by simp [nbody, hmf]
      have h92 : ¬ c.toNat = 92 := fun h => hm (mark_92 d c r h)
      have hnp : ¬ (nend d).isPrefixOf (c :: (nbody d r ++ nend d ++ rest)) = true := by
        intro hp
        rw [nend_first d hd] at hp
        simp only [Bool.or_eq_true, Bool.and_eq_true, decide_eq_true_eq] at hp
        rcases hp with ⟨h0, h⟩ | ⟨⟨h1, h⟩, hh⟩
        · exact hm ((mark_int d hd c r).mpr (.inr (.inl ⟨h0, h⟩)))
        · refine hm ((mark_int d hd c r).mpr (.inr (.inr ⟨h1, h, ?_⟩)))
          subst h1
          cases r with
          | nil => simp [nbody, nend] at hh
          | cons y r' =>
            by_cases hy : nmark 1 y r' = true
            · simp [nbody, hy] at hh
            · simpa [nbody, Bool.eq_false_iff.mpr hy] using hh
      rw [e, nrd_cons, if_neg hnp, if_neg h92, if_pos ha.1, if_neg hfull, ih1]
      simp [nbody, hmf]
      omega

theorem nread_form (d : Int) (hd : d = 0 ∨ d = 1) (a : ByteArray) (rest : ByteArray) (h : npr d a = (nform d a, 0)) (hr : a.data.toList.all nright = true) (hl : a.size ≤ 1024) :
    nread d (nform d a ++ rest) = (a, ((nform d a).size : Int), 0) := by
  have e : (nform d a ++ rest).data.toList = nopen d ++ (nbody d a.data.toList ++ nend d ++ rest.data.toList) := by
    rw [ByteArray.data_append, Array.toList_append]; simp [nform]
  unfold nread
  rw [if_pos hd, e, if_pos (List.isPrefixOf_iff_prefix.mpr (List.prefix_append _ _)), List.drop_left]
  rw [nrd_body d hd rest.data.toList a.data.toList [] (nopen d).length hr (by simp only [List.length_nil, data_length]; omega)]
  have hsz : (nform d a).size = (nopen d).length + (nbody d a.data.toList).length + (nend d).length := by
    show (nopen d ++ nbody d a.data.toList ++ nend d).toArray.size = _
    simp; omega
  rw [hsz]
  rfl

theorem npr_ok (d : Int) (s : ByteArray) (h : (npr d s).2 = 0) : (d = 0 ∨ d = 1) ∧ s.size ≤ 1024 ∧ s.data.toList.all nright = true ∧ npr d s = (nform d s, 0) := by
  unfold npr at h ⊢
  by_cases hd : d = 0 ∨ d = 1
  · rw [if_pos hd] at h ⊢
    by_cases h1 : 1024 < s.size
    · rw [if_pos h1] at h; cases h
    · rw [if_neg h1] at h ⊢
      by_cases h2 : s.data.toList.all nright = true
      · rw [if_pos h2]; exact ⟨hd, by omega, h2, rfl⟩
      · rw [if_neg h2] at h; cases h
  · rw [if_neg hd] at h; cases h

end Go.Proofs.Ytnommbcendoncaa.Npl
