/- The lexer on lists of bytes: plain. Comments' forms: plain. The lexer on lists of bytes: what stands behind a blank changes nothing ahead of it. The lexer on lists of bytes: tokens, their own texts. Each token's own text is read as it. What the lexer lays, and the lexer on lists of bytes. The contracts of pantographref05.Bare and CharText, by hand. The contract of pantographref05.CharText, by hand. Contracts in the printer's form: lexcee.All, pantographref05.Bare, CharText. -/
import Derived.Test.YtidicpngmildkaaDoorG2
import Derived.Test.YtidicpngmildkaaDoorG1
import Derived.Lib.Bytealg
import Derived.Deep.DeepCutAuto
import Derived.Outline
set_option linter.unusedVariables false
set_option linter.unusedSimpArgs false
namespace Go.Proofs.YtidicpngmildkaaDoor.Pl
open Go.RowKit Go.Proofs.YtidicpngmildkaaDoorW.PrintWords Go.Proofs.YtidicpngmildkaaDoorW.PrintLast Go.Proofs.YtidicpngmildkaaDoorW.PrintMore Go.Proofs.YtidicpngmildkaaDoor.R Go.Proofs.YtidicpngmildkaaDoor.Tx
open Go.Proofs.YtidicpngmildkaaDoor.Wd (mem lst is_any)
abbrev B := List UInt8
def mk (l : B) : ByteArray := ⟨l.toArray⟩
theorem mk_data (l : B) : (mk l).data.toList = l := by simp [mk]
theorem mk_of (s : ByteArray) : mk s.data.toList = s := by apply ByteArray.ext; simp [mk]
theorem mk_size (l : B) : (mk l).size = l.length := by show l.toArray.size = _; simp
theorem eq_mk {s : ByteArray} {l : B} (h : s.data.toList = l) : s = mk l := by rw [← h, mk_of]
theorem ext_mk (s : ByteArray) (a b : Nat) (hb : a ≤ b) : s.extract a b = mk ((s.data.toList.drop a).take (b - a)) := by
 apply eq_mk
 simp only [ByteArray.data_extract, Array.toList_extract, List.extract_eq_take_drop]
theorem ext_suf (s : ByteArray) (a : Nat) : s.extract a s.size = mk (s.data.toList.drop a) := by
 apply eq_mk
 simp only [ByteArray.data_extract, Array.toList_extract, List.extract_eq_take_drop]
 rw [List.take_of_length_le (by rw [List.length_drop, data_length]; omega)]
theorem bt_drop (s : ByteArray) (k : Nat) (hk : k < s.size) : ∃ c r, s.data.toList.drop k = c :: r ∧ bt s (k : Int) = (c.toNat : Int) ∧ s.data.toList.drop (k + 1) = r := by
 have hl : k < s.data.toList.length := by rw [data_length]; exact hk
 exact ⟨_, _, List.drop_eq_getElem_cons hl, bt_get s k hl, rfl⟩
theorem drop_past (s : ByteArray) (k : Nat) (hk : s.size ≤ k) : s.data.toList.drop k = [] := List.drop_eq_nil_of_le (by rw [data_length]; exact hk)
def inC (set : ByteArray) (c : UInt8) : Bool := inS set (c.toNat : Int)
def run (p : UInt8 → Bool) (u : B) : Nat := (u.takeWhile p).length
theorem run_le (p : UInt8 → Bool) (u : B) : run p u ≤ u.length := (List.takeWhile_prefix p).length_le
theorem run_cons (p : UInt8 → Bool) (c : UInt8) (u : B) : run p (c :: u) = if p c = true then run p u + 1 else 0 := by
 unfold run
 rw [List.takeWhile_cons]
 split <;> simp
theorem whF_run (s set : ByteArray) : ∀ (f k : Nat), s.size - k = f → whF s set f k = run (inC set) (s.data.toList.drop k)
 | 0, k, h => by rw [drop_past s k (by omega)]; rfl
 | f + 1, k, h => by
  obtain ⟨c, r, h1, h2, h3⟩ := bt_drop s k (by omega)
  rw [whF, h2, h1, run_cons, whF_run s set f (k + 1) (by omega), h3]
  rfl
theorem whN_run (s set : ByteArray) (k : Nat) : whN s set k = run (inC set) (s.data.toList.drop k) := whF_run s set _ k rfl
/-! ### Names -/
def folL : B → Bool
 | a :: b :: _ => decide (a.toNat = 36) && inC smallS b
 | _ => false
theorem folL_len {u : B} (h : folL u = true) : 2 ≤ u.length := by
 match u, h with
 | a :: b :: r, _ => simp
theorem fol_L (s : ByteArray) (k : Nat) : fol s k = folL (s.data.toList.drop k) := by
 by_cases h : k + 1 < s.size
 ·obtain ⟨a, r, h1, h2, h3⟩ := bt_drop s k (by omega)
  obtain ⟨b, r2, h4, h5, h6⟩ := bt_drop s (k + 1) h
  rw [h1, ← h3, h4]
  unfold fol folL
  rw [h2, h5]
  congr 1
  rw [decide_eq_decide]; omega
 ·have h1 : fol s k = false := by
   cases hf : fol s k with
   | false => rfl
   | true => exact absurd (fol_lt s k hf).1 h
  have h2 : folL (s.data.toList.drop k) = false := by
   cases hf : folL (s.data.toList.drop k) with
   | false => rfl
   | true =>
    have := folL_len hf
    rw [List.length_drop, data_length] at this
    omega
  rw [h1, h2]
def nmL : Nat → B → Bool → Nat × Bool
 | 0, _, b => (0, b)
 | f + 1, u, b => if folL u = true then (1 + run (inC restS) (u.drop 1) + (nmL f (u.drop (1 + run (inC restS) (u.drop 1))) (b || decide (32 < run (inC restS) (u.drop 1)))).1, (nmL f (u.drop (1 + run (inC restS) (u.drop 1))) (b || decide (32 < run (inC restS) (u.drop 1)))).2) else (0, b)
theorem nmG_L (s : ByteArray) : ∀ (f k : Nat) (b : Bool), nmG s f k b = (k + (nmL f (s.data.toList.drop k) b).1, (nmL f (s.data.toList.drop k) b).2) := by
 intro f
 induction f with
 | zero => intro k b; rfl
 | succ f ih =>
  intro k b
  rw [nmG, nmL, fol_L]
  by_cases h : folL (s.data.toList.drop k) = true
  ·rw [if_pos h, if_pos h, ih, whN_run]
   simp only [List.drop_drop, ← Nat.add_assoc]
  ·rw [if_neg h, if_neg h]; rfl
theorem nmL_fuel : ∀ (f g : Nat) (u : B) (b : Bool), u.length ≤ f → u.length ≤ g → nmL f u b = nmL g u b := by
 intro f
 induction f with
 | zero =>
  intro g u b hf hg
  obtain rfl : u = [] := List.eq_nil_of_length_eq_zero (by omega)
  cases g <;> rfl
 | succ f ih =>
  intro g u b hf hg
  cases g with
  | zero =>
   obtain rfl : u = [] := List.eq_nil_of_length_eq_zero (by omega)
   rfl
  | succ g =>
   rw [nmL, nmL]
   by_cases h : folL u = true
   ·have := folL_len h
    rw [if_pos h, if_pos h, ih g _ _ (by rw [List.length_drop]; omega) (by rw [List.length_drop]; omega)]
   ·rw [if_neg h, if_neg h]
theorem nmL_le : ∀ (f : Nat) (u : B) (b : Bool), (nmL f u b).1 ≤ u.length := by
 intro f
 induction f with
 | zero => intro u b; exact Nat.zero_le _
 | succ f ih =>
  intro u b
  rw [nmL]
  by_cases h : folL u = true
  ·rw [if_pos h]
   have h1 := folL_len h
   have h2 := run_le (inC restS) (u.drop 1)
   have h3 := ih (u.drop (1 + run (inC restS) (u.drop 1))) (b || decide (32 < run (inC restS) (u.drop 1)))
   rw [List.length_drop] at h2 h3
   show 1 + _ + _ ≤ _
   omega
  ·rw [if_neg h]; exact Nat.zero_le _
def nameL (u : B) : Nat × Bool := (run (inC restS) u + (nmL u.length (u.drop (run (inC restS) u)) (decide (32 < run (inC restS) u))).1, (nmL u.length (u.drop (run (inC restS) u)) (decide (32 < run (inC restS) u))).2)
theorem nmAt_L (s : ByteArray) (k : Nat) (hk : k ≤ s.size) : nmAt s k = (k + (nameL (s.data.toList.drop k)).1, (nameL (s.data.toList.drop k)).2) := by
 have hl : (s.data.toList.drop k).length = s.size - k := by rw [List.length_drop, data_length]
 unfold nmAt nameL
 rw [whN_run, nmG_L, List.drop_drop]
 have := nmL_fuel s.size (s.data.toList.drop k).length (s.data.toList.drop (k + run (inC restS) (s.data.toList.drop k))) (decide (32 < run (inC restS) (s.data.toList.drop k))) (by rw [List.length_drop, data_length]; omega) (by rw [List.length_drop, data_length, hl]; omega)
 rw [this, Nat.add_assoc]
theorem nameL_le (u : B) : (nameL u).1 ≤ u.length := by
 unfold nameL
 have h1 := run_le (inC restS) u
 have h2 := nmL_le u.length (u.drop (run (inC restS) u)) (decide (32 < run (inC restS) u))
 rw [List.length_drop] at h2
 show _ + _ ≤ _
 omega
/-! ### Prefixes, chars -/
theorem pre_L (u t : ByteArray) : pre u t = t.data.toList.isPrefixOf u.data.toList := by
 unfold pre
 by_cases h : t.size ≤ u.size
 ·rw [decide_eq_true h, Bool.true_and]
  have e : (u.extract 0 t.size).toList = u.data.toList.take t.data.toList.length := by
   rw [ByteArray.toList_eq]
   simp only [ByteArray.data_extract, Array.toList_extract, List.extract_eq_take_drop]
   rw [List.drop_zero, data_length, Nat.sub_zero]
  rw [e, ByteArray.toList_eq, Bool.eq_iff_iff, beq_iff_eq, List.isPrefixOf_iff_prefix, List.prefix_iff_eq_take]
  exact eq_comm
 ·rw [decide_eq_false h, Bool.false_and]
  symm
  rw [Bool.eq_false_iff]
  intro hp
  have := (List.isPrefixOf_iff_prefix.mp hp).length_le
  rw [data_length, data_length] at this
  omega
theorem u8_of (u : ByteArray) (i : Nat) (c : UInt8) (h : bt u (i : Int) = (c.toNat : Int)) : u8At u i = c := by
 unfold u8At
 rw [h]
 simp
theorem bt_mk0 (a : UInt8) (l : B) : bt (mk (a :: l)) ((0 : Nat) : Int) = (a.toNat : Int) := bt_get (mk (a :: l)) 0 (by simp [mk])
theorem bt_mkn (l : B) (i : Nat) (c : UInt8) (h : l[i]? = some c) : bt (mk l) (i : Int) = (c.toNat : Int) := by
 obtain ⟨hl, he⟩ := List.getElem?_eq_some_iff.1 h
 have := bt_get (mk l) i (by rw [mk_data]; exact hl)
 rw [this]
 simp only [mk_data]
 rw [he]
def qtL : B → Option (Int × Nat)
 | a :: b :: c :: d :: e :: f :: _ =>
  if a.toNat = 39 ∧ b.toNat = 92 ∧ (c.toNat = 39 ∨ c.toNat = 92) ∧ d.toNat = 39 then some ((c.toNat : Int), 4)
  else if a.toNat = 39 ∧ b.toNat = 92 ∧ c.toNat = 120 ∧ f.toNat = 39 ∧ hexB d = true ∧ hexB e = true then some (16 * hexv d.toNat + hexv e.toNat, 6)
  else if plainB b.toNat = true ∧ b.toNat ≠ 92 ∧ c.toNat = 39 then some ((b.toNat : Int), 3) else none
 | a :: b :: c :: d :: _ =>
  if a.toNat = 39 ∧ b.toNat = 92 ∧ (c.toNat = 39 ∨ c.toNat = 92) ∧ d.toNat = 39 then some ((c.toNat : Int), 4)
  else if plainB b.toNat = true ∧ b.toNat ≠ 92 ∧ c.toNat = 39 then some ((b.toNat : Int), 3) else none
 | a :: b :: c :: _ => if plainB b.toNat = true ∧ b.toNat ≠ 92 ∧ c.toNat = 39 then some ((b.toNat : Int), 3) else none
 | _ => none
theorem qt6 (a b c d e f : UInt8) (l : B) : qtL (a :: b :: c :: d :: e :: f :: l) = if a.toNat = 39 ∧ b.toNat = 92 ∧ (c.toNat = 39 ∨ c.toNat = 92) ∧ d.toNat = 39 then some ((c.toNat : Int), 4)
  else if a.toNat = 39 ∧ b.toNat = 92 ∧ c.toNat = 120 ∧ f.toNat = 39 ∧ hexB d = true ∧ hexB e = true then some (16 * hexv d.toNat + hexv e.toNat, 6)
  else if plainB b.toNat = true ∧ b.toNat ≠ 92 ∧ c.toNat = 39 then some ((b.toNat : Int), 3) else none := rfl
theorem qt5 (a b c d e : UInt8) : qtL [a, b, c, d, e] = if a.toNat = 39 ∧ b.toNat = 92 ∧ (c.toNat = 39 ∨ c.toNat = 92) ∧ d.toNat = 39 then some ((c.toNat : Int), 4)
  else if plainB b.toNat = true ∧ b.toNat ≠ 92 ∧ c.toNat = 39 then some ((b.toNat : Int), 3) else none := rfl
theorem qt4 (a b c d : UInt8) : qtL [a, b, c, d] = if a.toNat = 39 ∧ b.toNat = 92 ∧ (c.toNat = 39 ∨ c.toNat = 92) ∧ d.toNat = 39 then some ((c.toNat : Int), 4)
  else if plainB b.toNat = true ∧ b.toNat ≠ 92 ∧ c.toNat = 39 then some ((b.toNat : Int), 3) else none := rfl
theorem qt3 (a b c : UInt8) : qtL [a, b, c] = if plainB b.toNat = true ∧ b.toNat ≠ 92 ∧ c.toNat = 39 then some ((b.toNat : Int), 3) else none := rfl
theorem u8_eq (a : UInt8) (n : Nat) (hn : n < 256) : (UInt8.ofNat n == a) = decide (a.toNat = n) := by
 rw [Bool.eq_iff_iff, beq_iff_eq, decide_eq_true_eq, ← UInt8.toNat_inj, UInt8.toNat_ofNat_of_lt' hn]
 exact eq_comm
theorem e39 (a : UInt8) : ((39 : UInt8) == a) = decide (a.toNat = 39) := u8_eq a 39 (by omega)
theorem e92 (a : UInt8) : ((92 : UInt8) == a) = decide (a.toNat = 92) := u8_eq a 92 (by omega)
theorem e120 (a : UInt8) : ((120 : UInt8) == a) = decide (a.toNat = 120) := u8_eq a 120 (by omega)
theorem pq1 (a b c d : UInt8) (l : B) : pre (mk (a :: b :: c :: d :: l)) q1 = (decide (a.toNat = 39) && (decide (b.toNat = 92) && (decide (c.toNat = 39) && decide (d.toNat = 39)))) := by
 rw [pre_L, mk_data]
 simp [q1, List.isPrefixOf, e39, e92]
theorem pq2 (a b c d : UInt8) (l : B) : pre (mk (a :: b :: c :: d :: l)) q2 = (decide (a.toNat = 39) && (decide (b.toNat = 92) && (decide (c.toNat = 92) && decide (d.toNat = 39)))) := by
 rw [pre_L, mk_data]
 simp [q2, List.isPrefixOf, e39, e92]
theorem pq3 (a b c : UInt8) (l : B) : pre (mk (a :: b :: c :: l)) q3 = (decide (a.toNat = 39) && (decide (b.toNat = 92) && decide (c.toNat = 120))) := by
 rw [pre_L, mk_data]
 simp [q3, List.isPrefixOf, e39, e92, e120]
theorem pre_short (u t : ByteArray) (h : u.size < t.size) : pre u t = false := by
 unfold pre
 rw [decide_eq_false (by omega), Bool.false_and]
theorem q1_size : q1.size = 4 := rfl
theorem q2_size : q2.size = 4 := rfl
set_option maxHeartbeats 2000000 in
theorem qt_L (u : B) : qtAt (mk u) = qtL u := by
 match u with
 | [] => unfold qtAt; rw [if_neg (by rw [pre_short _ _ (by rw [mk_size, q1_size]; simp), pre_short _ _ (by rw [mk_size, q2_size]; simp)]; simp), if_neg (by rw [mk_size]; simp), if_neg (by rw [mk_size]; simp)]; rfl
 | [a] => unfold qtAt; rw [if_neg (by rw [pre_short _ _ (by rw [mk_size, q1_size]; simp), pre_short _ _ (by rw [mk_size, q2_size]; simp)]; simp), if_neg (by rw [mk_size]; simp), if_neg (by rw [mk_size]; simp)]; rfl
 | [a, b] => unfold qtAt; rw [if_neg (by rw [pre_short _ _ (by rw [mk_size, q1_size]; simp), pre_short _ _ (by rw [mk_size, q2_size]; simp)]; simp), if_neg (by rw [mk_size]; simp), if_neg (by rw [mk_size]; simp)]; rfl
 | [a, b, c] =>
  have h1 : bt (mk [a, b, c]) 1 = (b.toNat : Int) := bt_mkn _ 1 b rfl
  have h2 : bt (mk [a, b, c]) 2 = (c.toNat : Int) := bt_mkn _ 2 c rfl
  unfold qtAt
  rw [if_neg (by rw [pre_short _ _ (by rw [mk_size, q1_size]; simp), pre_short _ _ (by rw [mk_size, q2_size]; simp)]; simp), if_neg (by rw [mk_size]; simp), h1, h2]
  rw [qt3]
  have : 3 ≤ (mk [a, b, c]).size := by rw [mk_size]; simp
  by_cases h : plainB (b.toNat : Int) = true ∧ (b.toNat : Int) ≠ 92 ∧ (c.toNat : Int) = 39
  ·rw [if_pos ⟨this, h⟩, if_pos ⟨h.1, by omega, by omega⟩]
  ·rw [if_neg (fun x => h x.2), if_neg (fun x => h ⟨x.1, by omega, by omega⟩)]
 | a :: b :: c :: d :: l =>
  have h1 : bt (mk (a :: b :: c :: d :: l)) 1 = (b.toNat : Int) := bt_mkn _ 1 b rfl
  have h2 : bt (mk (a :: b :: c :: d :: l)) 2 = (c.toNat : Int) := bt_mkn _ 2 c rfl
  have h3 : u8At (mk (a :: b :: c :: d :: l)) 3 = d := u8_of _ _ _ (bt_mkn _ 3 d rfl)
  have hs3 : 3 ≤ (mk (a :: b :: c :: d :: l)).size := by rw [mk_size]; simp
  have c1 : (pre (mk (a :: b :: c :: d :: l)) q1 = true ∨ pre (mk (a :: b :: c :: d :: l)) q2 = true) ↔ (a.toNat = 39 ∧ b.toNat = 92 ∧ (c.toNat = 39 ∨ c.toNat = 92) ∧ d.toNat = 39) := by
   rw [pq1, pq2]
   simp only [Bool.and_eq_true, decide_eq_true_eq]
   constructor
   ·rintro (⟨x, y, z, t⟩ | ⟨x, y, z, t⟩)
    ·exact ⟨x, y, .inl z, t⟩
    ·exact ⟨x, y, .inr z, t⟩
   ·rintro ⟨x, y, z | z, t⟩
    ·exact .inl ⟨x, y, z, t⟩
    ·exact .inr ⟨x, y, z, t⟩
  have c3 : (3 ≤ (mk (a :: b :: c :: d :: l)).size ∧ plainB (b.toNat : Int) = true ∧ (b.toNat : Int) ≠ 92 ∧ (c.toNat : Int) = 39) ↔ (plainB (b.toNat : Int) = true ∧ b.toNat ≠ 92 ∧ c.toNat = 39) := by
   constructor
   ·rintro ⟨_, x, y, z⟩; exact ⟨x, by omega, by omega⟩
   ·rintro ⟨x, y, z⟩; exact ⟨hs3, x, by omega, by omega⟩
  unfold qtAt
  rw [h1, h2, h3]
  simp only [c1, c3]
  match l with
  | [] => rw [if_neg (c := 6 ≤ _ ∧ _) (by rw [mk_size]; simp), qt4]
  | [e] => rw [if_neg (c := 6 ≤ _ ∧ _) (by rw [mk_size]; simp), qt5]
  | e :: f :: l =>
   have h4 : u8At (mk (a :: b :: c :: d :: e :: f :: l)) 4 = e := u8_of _ _ _ (bt_mkn _ 4 e rfl)
   have h5 : bt (mk (a :: b :: c :: d :: e :: f :: l)) 5 = (f.toNat : Int) := bt_mkn _ 5 f rfl
   have c2 : (6 ≤ (mk (a :: b :: c :: d :: e :: f :: l)).size ∧ pre (mk (a :: b :: c :: d :: e :: f :: l)) q3 = true ∧ (f.toNat : Int) = 39 ∧ hexB d = true ∧ hexB e = true) ↔ (a.toNat = 39 ∧ b.toNat = 92 ∧ c.toNat = 120 ∧ f.toNat = 39 ∧ hexB d = true ∧ hexB e = true) := by
    rw [pq3]
    simp only [Bool.and_eq_true, decide_eq_true_eq]
    constructor
    ·rintro ⟨_, ⟨x, y, z⟩, t, p, q⟩; exact ⟨x, y, z, by omega, p, q⟩
    ·rintro ⟨x, y, z, t, p, q⟩; exact ⟨by rw [mk_size]; simp, ⟨x, y, z⟩, by omega, p, q⟩
   rw [h4, h5]
   simp only [c2]
   rw [qt6]
/-! ### What stands at the beginning -/
def openL : B := [47, 42]
def fdL (u : B) : Tx.Fd :=
 if openL.isPrefixOf u = true then ⟨(noteAt (mk u)).2.2, 6, (noteAt (mk u)).1, 0, (noteAt (mk u)).2.1.toNat⟩
 else match u with
  | [] => ⟨5, 0, ⟨#[]⟩, 0, 0⟩
  | c :: _ =>
   if inC smallS c = true then ⟨longE (nameL u).2, wordKind (mem (lst 1) (mk (u.take (nameL u).1))), mk (u.take (nameL u).1), 0, (nameL u).1⟩
   else if inC digSet c = true then ⟨(num (mk (u.take (run (inC digSet) u)))).2, 3, ⟨#[]⟩, (num (mk (u.take (run (inC digSet) u)))).1, run (inC digSet) u⟩
   else if c.toNat = 39 then qtFd 0 (qtL u)
   else sgFd 0 (signsL.find? (fun t => t.data.toList.isPrefixOf u))
def shift (k : Nat) (d : Tx.Fd) : Tx.Fd := ⟨d.e, d.kind, d.text, d.n, k + d.k⟩
theorem fd_L (s : ByteArray) (k : Nat) (hk : k < s.size) : fdAt s k = shift k (fdL (s.data.toList.drop k)) := by
 obtain ⟨c, r, h1, h2, h3⟩ := bt_drop s k hk
 unfold fdAt fdL
 rw [ext_suf, pre_L, mk_data]
 show (if openL.isPrefixOf (s.data.toList.drop k) = true then _ else _) = shift k (if openL.isPrefixOf (s.data.toList.drop k) = true then _ else _)
 by_cases hp : openL.isPrefixOf (s.data.toList.drop k) = true
 ·rw [if_pos hp, if_pos hp]; rfl
 ·rw [if_neg hp, if_neg hp]
  unfold nxAt
  rw [h2]
  show (if inC smallS c = true then _ else if inC digSet c = true then _ else _) = _
  have hu := h1
  generalize hv : s.data.toList.drop k = v at *
  subst hu
  show _ = shift k (if inC smallS c = true then _ else if inC digSet c = true then _ else _)
  by_cases c1 : inC smallS c = true
  ·rw [if_pos c1, if_pos c1, nmAt_L s k (by omega), hv]
   show Tx.Fd.mk _ _ (s.extract k (k + _)) _ _ = _
   rw [ext_mk s k _ (by omega), hv, Nat.add_sub_cancel_left]
   rfl
  ·rw [if_neg c1, if_neg c1]
   by_cases c2 : inC digSet c = true
   ·rw [if_pos c2, if_pos c2]
    unfold numAt
    rw [ext_mk s k _ (by omega), whN_run, hv, Nat.add_sub_cancel_left]
    rfl
   ·rw [if_neg c2, if_neg c2]
    by_cases c3 : c.toNat = 39
    ·rw [if_pos (by omega), if_pos c3, ext_suf, hv, qt_L]
     cases qtL (c :: r) with
     | none => rfl
     | some p => obtain ⟨n, j⟩ := p; show Tx.Fd.mk 0 4 ⟨#[]⟩ n (k + j) = Tx.Fd.mk 0 4 ⟨#[]⟩ n (k + (0 + j)); rw [Nat.zero_add]
    ·rw [if_neg (by omega), if_neg c3, ext_suf, hv]
     simp only [pre_L, mk_data]
     cases signsL.find? (fun t => t.data.toList.isPrefixOf (c :: r)) with
     | none => rfl
     | some t => show Tx.Fd.mk 0 5 t 0 (k + t.size) = Tx.Fd.mk 0 5 t 0 (k + (0 + t.size)); rw [Nat.zero_add]
end Go.Proofs.YtidicpngmildkaaDoor.Pl
set_option linter.unusedVariables false
set_option linter.unusedSimpArgs false
namespace Go.Proofs.YtidicpngmildkaaDoor.Pn
open Go.RowKit Go.Proofs.YtidicpngmildkaaDoor.R Go.Proofs.YtidicpngmildkaaDoor.Fy Go.Proofs.YtidicpngmildkaaDoorW.PrintWords Go.Proofs.YtidicpngmildkaaDoorW.PrintLast Go.Proofs.YtidicpngmildkaaDoorW.PrintMore
def nright (c : UInt8) : Bool := decide (c.toNat = 9) || decide (c.toNat = 10) || (decide (32 ≤ c.toNat) && decide (c.toNat ≤ 126))
def nmark (d : Int) (c : UInt8) (r : List UInt8) : Bool := decide (c.toNat = 92) || (decide (d = 0) && decide (c.toNat = 125)) || (decide (d ≠ 0) && decide (c.toNat = 42) && decide (r.head? = some 47))
def nbody (d : Int) : List UInt8 → List UInt8
 | [] => []
 | c :: r => (if nmark d c r then [92, c] else [c]) ++ nbody d r
def nopen (d : Int) : List UInt8 := if d = 0 then [123] else [47, 42]
def nend (d : Int) : List UInt8 := if d = 0 then [125] else [42, 47]
def nform (d : Int) (s : ByteArray) : ByteArray := ⟨(nopen d ++ nbody d s.data.toList ++ nend d).toArray⟩
theorem nbody_len (d : Int) (l : List UInt8) : (nbody d l).length ≤ 2 * l.length := by
 induction l with
 | nil => simp [nbody]
 | cons c r ih => simp only [nbody]; split <;> simp <;> omega

theorem right_f (c : UInt8) : note_right.f (c.toNat : Int) = some (nright c) := by
 have h : c.toNat < 256 := c.toNat_lt
 unfold note_right.f nright
 by_cases h1 : (c.toNat : Int) = 9
 ·have : c.toNat = 9 := by omega
  simp [this]
 by_cases h2 : (c.toNat : Int) = 10
 ·have : c.toNat = 10 := by omega
  simp [this]
 by_cases h3 : (c.toNat : Int) ≥ 32
 ·rw [if_neg h1, if_neg h2, if_pos h3]
  have a : c.toNat ≠ 9 := by omega
  have b : c.toNat ≠ 10 := by omega
  have g : 32 ≤ c.toNat := by omega
  have e : decide ((c.toNat : Int) ≤ 126) = decide (c.toNat ≤ 126) := by
   rw [decide_eq_decide]; omega
  simp [a, b, g, e]
 ·rw [if_neg h1, if_neg h2, if_neg h3]
  have a : c.toNat ≠ 9 := by omega
  have b : c.toNat ≠ 10 := by omega
  have g : ¬ 32 ≤ c.toNat := by omega
  simp [a, b, g]

theorem of_wrong (d : Int) (h0 : d ≠ 0) (h1 : d ≠ 1) : note_of.f d = some (⟨#[]⟩, ⟨#[]⟩, ⟨#[]⟩, false) := by
 unfold note_of.f; rw [if_neg h0, if_neg h1]

theorem nx_data (s : ByteArray) (p : Nat) (h : p < s.size) : s.data.toList.drop p = s[p] :: s.data.toList.drop (p + 1) := by
 have h' : p < s.data.toList.length := by simpa using h
 rw [List.drop_eq_getElem_cons h']; rfl

theorem prefix_f (a b : ByteArray) : strings_HasPrefix.f a b = some (b.data.toList.isPrefixOf a.data.toList) := by
 have h : stringslite_HasPrefix.f a b = some (b.data.toList.isPrefixOf a.data.toList) := by
  unfold stringslite_HasPrefix.f
  by_cases h : (a.size : Int) ≥ (b.size : Int)
  ·rw [if_pos h, if_pos (by omega), if_pos (by omega)]
   have e : (a.extract 0 b.size).toList = a.data.toList.take b.data.toList.length := by
    rw [Lib.extract_toList, List.drop_zero, data_length]; congr 1
   have e2 : (a.data.toList.take b.data.toList.length == b.data.toList) = b.data.toList.isPrefixOf a.data.toList := by
    rw [Bool.eq_iff_iff, beq_iff_eq, List.isPrefixOf_iff_prefix, List.prefix_iff_eq_take]
    exact eq_comm
   rw [e, Lib.toList_data, e2]
  ·rw [if_neg h]
   have : b.data.toList.isPrefixOf a.data.toList = false := by
    rw [Bool.eq_false_iff]; intro hp
    have := (List.isPrefixOf_iff_prefix.mp hp).length_le
    rw [data_length, data_length] at this; omega
   rw [this]
 unfold strings_HasPrefix.f; rw [h]; try rfl

theorem ext_end (s : ByteArray) (a : Nat) : (s.extract a s.size).data.toList = s.data.toList.drop a := by
 rw [Lib.extract_data, List.take_of_length_le (by rw [List.length_drop, data_length]; exact Nat.le_refl _)]

theorem end_mark (d : Int) (hd : d = 0 ∨ d = 1) (c : UInt8) (r : List UInt8) (h : c.toNat ≠ 92) : (nend d).isPrefixOf (c :: r) = nmark d c r := by
 have e (c : UInt8) (n : Nat) (hn : n < 256) : (c == UInt8.ofNat n) = decide (c.toNat = n) := by
  rw [Bool.eq_iff_iff, beq_iff_eq, decide_eq_true_eq, ← UInt8.toNat_inj, UInt8.toNat_ofNat_of_lt' hn]
 rcases hd with rfl | rfl
 ·have := e c 125 (by omega)
  have h2 : ((125 : UInt8) == c) = decide (c.toNat = 125) := by rw [← this, Bool.eq_iff_iff, beq_iff_eq, beq_iff_eq]; exact eq_comm
  simp [nend, nmark, List.isPrefixOf, h, h2]
 ·have h2 : ((42 : UInt8) == c) = decide (c.toNat = 42) := by rw [← e c 42 (by omega), Bool.eq_iff_iff, beq_iff_eq, beq_iff_eq]; exact eq_comm
  cases r with
  | nil => simp [nend, nmark, List.isPrefixOf, h]
  | cons y r =>
   have h3 : ((47 : UInt8) == y) = decide (y = 47) := by rw [Bool.eq_iff_iff, beq_iff_eq, decide_eq_true_eq]; exact eq_comm
   simp [nend, nmark, List.isPrefixOf, h, h2, h3]

theorem mark_92 (d : Int) (c : UInt8) (r : List UInt8) (h : c.toNat = 92) : nmark d c r = true := by simp [nmark, h]

theorem nopen_len (d : Int) : (nopen d).length ≤ 2 := by unfold nopen; split <;> simp
theorem bt_nat (s : ByteArray) (i : Nat) (h : i < s.size) : bt s (i : Int) = ((s[i]'h).toNat : Int) := by
 have h2 : (i : Int).toNat < s.size := by omega
 rw [← bt_at s (i : Int) h2]
 congr 1
theorem wr1 (i n : Nat) (h : i < n) (hn : n ≤ 9223372036854775807) : wrap64 ((i : Int) + 1) = ((i + 1 : Nat) : Int) := by
 unfold wrap64; omega
/-- The bytes as numbers. -/
def ints (l : List UInt8) : List Int := l.map fun c => (c.toNat : Int)
theorem str_ints (l : List UInt8) : strOfNums (ints l) = ⟨l.toArray⟩ := by
 unfold strOfNums ints
 congr 1
 rw [List.map_map]
 congr 1
 conv => rhs; rw [← List.map_id l]
 apply List.map_congr_left
 intro c _
 simp
theorem ints_append (a b : List UInt8) : ints (a ++ b) = ints a ++ ints b := by simp [ints]
theorem ints_length (a : List UInt8) : (ints a).length = a.length := by simp [ints]

theorem mark_int (d : Int) (hd : d = 0 ∨ d = 1) (c : UInt8) (r : List UInt8) :
  nmark d c r = true ↔ ((c.toNat : Int) = 92 ∨ (d = 0 ∧ (c.toNat : Int) = 125) ∨ (d = 1 ∧ (c.toNat : Int) = 42 ∧ r.head? = some 47)) := by
 simp only [nmark, Bool.or_eq_true, Bool.and_eq_true, decide_eq_true_eq]
 by_cases hh : r.head? = some 47
 ·rcases hd with rfl | rfl <;> simp [hh] <;> omega
 ·rcases hd with rfl | rfl <;> simp [hh] <;> omega

def isq (d : Int) (q : UInt8) : Bool := decide (q.toNat = 92) || (decide (d = 0) && decide (q.toNat = 125)) || (decide (d ≠ 0) && decide (q.toNat = 42))
def nrd (d : Int) (acc : List UInt8) (n : Nat) : List UInt8 → ByteArray × Int × Int
 | [] => (⟨#[]⟩, 0, 8)
 | c :: r =>
  if (nend d).isPrefixOf (c :: r) then (⟨acc.toArray⟩, ((n + (nend d).length : Nat) : Int), 0)
  else if c.toNat = 92 then
   match r with
   | [] => (⟨#[]⟩, 0, 8)
   | q :: r' => if isq d q then (if acc.length = 1024 then (⟨#[]⟩, 0, 3) else nrd d (acc ++ [q]) (n + 2) r') else (⟨#[]⟩, 0, 8)
  else if nright c then (if acc.length = 1024 then (⟨#[]⟩, 0, 3) else nrd d (acc ++ [c]) (n + 1) r) else (⟨#[]⟩, 0, 8)
def nread (d : Int) (s : ByteArray) : ByteArray × Int × Int :=
 if d = 0 ∨ d = 1 then (if (nopen d).isPrefixOf s.data.toList then nrd d [] (nopen d).length (s.data.toList.drop (nopen d).length) else (⟨#[]⟩, 0, 8)) else (⟨#[]⟩, 0, 1)

theorem nrd_nil (d : Int) (acc : List UInt8) (n : Nat) : nrd d acc n [] = (⟨#[]⟩, 0, 8) := by rw [nrd.eq_def]
theorem nrd_cons (d : Int) (acc : List UInt8) (n : Nat) (c : UInt8) (r : List UInt8) : nrd d acc n (c :: r) = if (nend d).isPrefixOf (c :: r) then (⟨acc.toArray⟩, ((n + (nend d).length : Nat) : Int), 0)
  else if c.toNat = 92 then
   match r with
   | [] => (⟨#[]⟩, 0, 8)
   | q :: r' => if isq d q then (if acc.length = 1024 then (⟨#[]⟩, 0, 3) else nrd d (acc ++ [q]) (n + 2) r') else (⟨#[]⟩, 0, 8)
  else if nright c then (if acc.length = 1024 then (⟨#[]⟩, 0, 3) else nrd d (acc ++ [c]) (n + 1) r) else (⟨#[]⟩, 0, 8) := by
 rw [nrd.eq_def]

theorem isq_right (d : Int) (q : UInt8) (h : isq d q = true) : nright q = true := by
 simp only [isq, nright, Bool.or_eq_true, Bool.and_eq_true, decide_eq_true_eq] at *
 omega

theorem begins_f (d : Int) (s : ByteArray) : note_Begins.f d s = some (decide (d = 0 ∨ d = 1) && (nopen d).isPrefixOf s.data.toList) := by
 unfold note_Begins.f note_of.f
 by_cases h0 : d = 0
 ·subst h0
  simp only [if_true, Option.bind_some, prefix_f]
  rfl
 ·by_cases h1 : d = 1
  ·subst h1
   simp only [if_true, Option.bind_some, prefix_f]
   rfl
  ·rw [if_neg h0, if_neg h1]
   simp [h0, h1]

theorem quoted_lt (d : Int) (op en qu : ByteArray) (hf : note_of.f d = some (op, en, qu, true)) (hd : d = 0 ∨ d = 1) (q : UInt8) :
  strings_IndexByte.f qu (q.toNat : Int) = some (Lib.indexByte qu.data.toList q) ∧ (Lib.indexByte qu.data.toList q < 0 ↔ isq d q = false) := by
 constructor
 ·unfold strings_IndexByte.f
  congr 2
  simp
 ·have e (n : Nat) (hn : n < 256) : (UInt8.ofNat n == q) = decide (q.toNat = n) := by
   rw [Bool.eq_iff_iff, beq_iff_eq, decide_eq_true_eq, ← UInt8.toNat_inj, UInt8.toNat_ofNat_of_lt' hn]
   exact eq_comm
  have e92 : ((92 : UInt8) == q) = decide (q.toNat = 92) := e 92 (by omega)
  have e125 : ((125 : UInt8) == q) = decide (q.toNat = 125) := e 125 (by omega)
  have e42 : ((42 : UInt8) == q) = decide (q.toNat = 42) := e 42 (by omega)
  rcases hd with rfl | rfl
  ·have : qu = ⟨#[92, 125]⟩ := by unfold note_of.f at hf; simp at hf; exact hf.2.2.symm
   subst this
   simp only [Lib.indexByte, e92, e125, isq]
   by_cases h1 : q.toNat = 92 <;> by_cases h2 : q.toNat = 125 <;> simp [h1, h2]
  ·have : qu = ⟨#[92, 42]⟩ := by unfold note_of.f at hf; simp at hf; exact hf.2.2.symm
   subst this
   simp only [Lib.indexByte, e92, e42, isq]
   by_cases h1 : q.toNat = 92 <;> by_cases h2 : q.toNat = 42 <;> simp [h1, h2]

theorem en_of (d : Int) (op en qu : ByteArray) (hf : note_of.f d = some (op, en, qu, true)) (hd : d = 0 ∨ d = 1) : en.data.toList = nend d ∧ op.data.toList = nopen d := by
 unfold note_of.f at hf
 rcases hd with rfl | rfl
 ·simp at hf; obtain ⟨rfl, rfl, _⟩ := hf; exact ⟨rfl, rfl⟩
 ·simp at hf; obtain ⟨rfl, rfl, _⟩ := hf; exact ⟨rfl, rfl⟩

theorem snoc_ints (acc : List UInt8) (c : UInt8) : ints acc ++ [(c.toNat : Int)] = ints (acc ++ [c]) := by simp [ints]

/-- The program's reader. -/
theorem read_l0 (d : Int) (op en qu : ByteArray) (hf : note_of.f d = some (op, en, qu, true)) (hd : d = 0 ∨ d = 1) (s : ByteArray) (hs : s.size ≤ 9223372036854775000) :
  ∀ (n i k : Nat) (acc : List UInt8), s.size ≤ i + n → i ≤ s.size → 2 * n + 1 < k → acc.length ≤ 1024 →
   note_Read.l0 k s (ints acc) (i : Int) op en qu = some (nrd d acc i (s.data.toList.drop i)) := by
 obtain ⟨hen, hop⟩ := en_of d op en qu hf hd
 have hel : (en.size : Int) = ((nend d).length : Nat) := by rw [← hen, data_length]
 have hel2 : (nend d).length ≤ 2 := by unfold nend; split <;> simp
 intro n
 induction n with
 | zero =>
  intro i k acc hi hi2 hk hl
  obtain ⟨k, rfl⟩ : ∃ m, k = m + 1 := ⟨k - 1, by omega⟩
  simp only [note_Read.l0]
  rw [if_neg (by omega), List.drop_eq_nil_of_le (by rw [data_length]; omega)]
  rfl
 | succ n ih =>
  intro i k acc hi hi2 hk hl
  obtain ⟨k, rfl⟩ : ∃ m, k = m + 1 := ⟨k - 1, by omega⟩
  simp only [note_Read.l0]
  by_cases hlt : i < s.size
  ·have hd1 := nx_data s i hlt
   have e0 : ((i : Nat) : Int).toNat = i := by omega
   have hla := ints_length acc
   rw [if_pos (by omega), if_pos (by omega), if_pos (by omega), prefix_f, e0, ext_end, hen]
   simp only [Option.bind_some]
   by_cases hp : (nend d).isPrefixOf (s.data.toList.drop i) = true
   ·rw [if_pos hp, hd1, nrd_cons, if_pos (by rw [← hd1]; exact hp), str_ints]
    congr 3
    rw [hel]; unfold wrap64; omega
   ·rw [if_neg hp, bt_nat s i hlt]
    have hnp : ¬ (nend d).isPrefixOf (s[i]'hlt :: s.data.toList.drop (i + 1)) = true := by rw [← hd1]; exact hp
    have step : ∀ (c : UInt8) (j : Nat) (hj : j < s.size), s[j]'hj = c → nright c = true → i ≤ j →
      note_Read.j1 k s (ints acc) (j : Int) op en qu = some (if acc.length = 1024 then (⟨#[]⟩, 0, 3) else nrd d (acc ++ [c]) (j + 1) (s.data.toList.drop (j + 1))) := by
     intro c j hj hc hr hij
     obtain ⟨k, rfl⟩ : ∃ m, k = m + 1 := ⟨k - 1, by omega⟩
     simp only [note_Read.j1]
     rw [if_pos (by omega), if_pos (by omega), bt_nat s j hj, hc, right_f, hr]
     simp only [Option.bind_some, if_true]
     by_cases hfull : acc.length = 1024
     ·rw [if_pos (by omega), if_pos hfull]
     ·rw [if_neg (by omega), if_neg hfull, if_pos (by omega), snoc_ints, wr1 j s.size hj (by omega)]
      exact ih (j + 1) k (acc ++ [c]) (by omega) (by omega) (by omega) (by simp; omega)
    by_cases h92 : ((s[i]'hlt).toNat : Int) = 92
    ·have h92' : (s[i]'hlt).toNat = 92 := by omega
     rw [if_pos h92, wr1 i s.size hlt (by omega)]
     by_cases hnx : i + 1 < s.size
     ·have hd2 := nx_data s (i + 1) hnx
      obtain ⟨q1, q2⟩ := quoted_lt d op en qu hf hd (s[i + 1]'hnx)
      have er : nrd d acc i (s.data.toList.drop i) = if isq d (s[i + 1]'hnx) = true then (if acc.length = 1024 then (⟨#[]⟩, 0, 3) else nrd d (acc ++ [s[i + 1]'hnx]) (i + 2) (s.data.toList.drop (i + 1 + 1))) else (⟨#[]⟩, 0, 8) := by
       rw [hd1, nrd_cons, if_neg hnp, if_pos h92', hd2]
      rw [if_neg (by omega), if_pos (by omega), if_pos (by omega), bt_nat s (i + 1) hnx, q1, er]
      simp only [Option.bind_some]
      by_cases hq : isq d (s[i + 1]'hnx) = true
      ·rw [if_neg (fun h => by rw [q2.mp h] at hq; cases hq), step _ (i + 1) hnx rfl (isq_right d _ hq) (by omega), if_pos hq]
      ·rw [if_pos (q2.mpr (Bool.eq_false_iff.mpr hq)), if_neg hq]
     ·have er : nrd d acc i (s.data.toList.drop i) = (⟨#[]⟩, 0, 8) := by
       rw [hd1, nrd_cons, if_neg hnp, if_pos h92', List.drop_eq_nil_of_le (by rw [data_length]; omega)]
      rw [if_pos (by omega), er]
    ·have h92' : ¬ (s[i]'hlt).toNat = 92 := by omega
     have er : nrd d acc i (s.data.toList.drop i) = if nright (s[i]'hlt) = true then (if acc.length = 1024 then (⟨#[]⟩, 0, 3) else nrd d (acc ++ [s[i]'hlt]) (i + 1) (s.data.toList.drop (i + 1))) else (⟨#[]⟩, 0, 8) := by
      rw [hd1, nrd_cons, if_neg hnp, if_neg h92']
     rw [if_neg h92, er]
     by_cases hr : nright (s[i]'hlt) = true
     ·rw [step _ i hlt rfl hr (by omega), if_pos hr]
     ·rw [if_neg hr]
      obtain ⟨k, rfl⟩ : ∃ m, k = m + 1 := ⟨k - 1, by omega⟩
      simp only [note_Read.j1]
      rw [if_pos (by omega), if_pos (by omega), bt_nat s i hlt, right_f, Bool.eq_false_iff.mpr hr]
      rfl
  ·rw [if_neg (by omega), List.drop_eq_nil_of_le (by rw [data_length]; omega)]
   rfl

theorem read_ev (d : Int) (s : ByteArray) (hs : s.size ≤ 9223372036854775000) : Ev (fun k => note_Read.f k d s) (nread d s) := by
 refine Ev.of (note_Read.mono d s) (k := 2 * s.size + 2) ?_
 unfold note_Read.f nread
 by_cases hd : d = 0 ∨ d = 1
 ·obtain ⟨op, en, qu, hf⟩ : ∃ op en qu, note_of.f d = some (op, en, qu, true) := by
   rcases hd with rfl | rfl
   ·exact ⟨_, _, _, rfl⟩
   ·exact ⟨_, _, _, rfl⟩
  obtain ⟨hen, hop⟩ := en_of d op en qu hf hd
  rw [hf, begins_f, if_pos hd]
  simp only [Option.bind_some, if_true]
  by_cases hb : (nopen d).isPrefixOf s.data.toList = true
  ·have hl : (nopen d).length ≤ s.size := by
    have := (List.isPrefixOf_iff_prefix.mp hb).length_le
    rw [data_length] at this; exact this
   have e : (op.size : Int) = ((nopen d).length : Nat) := by rw [← hop, data_length]
   rw [hb, if_pos (by simp [hd]), if_pos rfl, e]
   exact read_l0 d op en qu hf hd s hs s.size (nopen d).length (2 * s.size + 2) [] (by omega) hl (by omega) (by simp)
  ·rw [if_neg (by simp [hb]), if_neg hb]
 ·rw [of_wrong d (fun h => hd (.inl h)) (fun h => hd (.inr h)), if_neg hd]
  rfl

/-- The reference's reader. -/
theorem nend_first (d : Int) (hd : d = 0 ∨ d = 1) (c : UInt8) (r : List UInt8) : (nend d).isPrefixOf (c :: r) = ((decide (d = 0) && decide ((c.toNat : Int) = 125)) || (decide (d = 1) && decide ((c.toNat : Int) = 42) && decide (r.head? = some 47))) := by
 have e (c : UInt8) (n : Nat) (hn : n < 256) : (UInt8.ofNat n == c) = decide (c.toNat = n) := by
  rw [Bool.eq_iff_iff, beq_iff_eq, decide_eq_true_eq, ← UInt8.toNat_inj, UInt8.toNat_ofNat_of_lt' hn]
  exact eq_comm
 have e125 (c : UInt8) : ((125 : UInt8) == c) = decide ((c.toNat : Int) = 125) := (e c 125 (by omega)).trans (by rw [decide_eq_decide]; omega)
 have e42 (c : UInt8) : ((42 : UInt8) == c) = decide ((c.toNat : Int) = 42) := (e c 42 (by omega)).trans (by rw [decide_eq_decide]; omega)
 rcases hd with rfl | rfl
 ·simp [nend, List.isPrefixOf, e125]
 ·cases r with
  | nil => simp [nend, List.isPrefixOf]
  | cons y r =>
   have h3 : ((47 : UInt8) == y) = decide (y = 47) := by rw [Bool.eq_iff_iff, beq_iff_eq, decide_eq_true_eq]; exact eq_comm
   simp [nend, List.isPrefixOf, e42, h3]

/-- What is printed is read back, whatever stands behind it. -/
theorem nrd_body (d : Int) (hd : d = 0 ∨ d = 1) (rest : List UInt8) : ∀ (a : List UInt8) (acc : List UInt8) (n : Nat), a.all nright = true → acc.length + a.length ≤ 1024 →
  nrd d acc n (nbody d a ++ nend d ++ rest) = (⟨(acc ++ a).toArray⟩, ((n + (nbody d a).length + (nend d).length : Nat) : Int), 0) := by
 intro a
 induction a with
 | nil =>
  intro acc n _ _
  have : nbody d [] ++ nend d ++ rest = nend d ++ rest := rfl
  rw [this]
  have hp : (nend d).isPrefixOf (nend d ++ rest) = true := List.isPrefixOf_iff_prefix.mpr (List.prefix_append _ _)
  match hn : nend d ++ rest, hp with
  | [], _ => rcases hd with rfl | rfl <;> simp [nend] at hn
  | c :: r, hp =>
   rw [nrd_cons, if_pos hp]
   simp [nbody]
 | cons c r ih =>
  intro acc n ha hl
  simp only [List.all_cons, Bool.and_eq_true] at ha
  have hfull : ¬ acc.length = 1024 := by simp at hl; omega
  have ih1 := fun m => ih (acc ++ [c]) m ha.2 (by simp at hl ⊢; omega)
  by_cases hm : nmark d c r = true
  ·have e : nbody d (c :: r) ++ nend d ++ rest = 92 :: c :: (nbody d r ++ nend d ++ rest) := by simp [nbody, hm]
   have hq : isq d c = true := by
    rcases (mark_int d hd c r).mp hm with h | ⟨h0, h⟩ | ⟨h1, h, _⟩ <;> simp only [isq, Bool.or_eq_true, Bool.and_eq_true, decide_eq_true_eq] <;> omega
   have hnp : ¬ (nend d).isPrefixOf (92 :: c :: (nbody d r ++ nend d ++ rest)) = true := by
    rcases hd with rfl | rfl
    ·simp [nend, List.isPrefixOf]
    ·simp [nend, List.isPrefixOf]
   rw [e, nrd_cons, if_neg hnp, if_pos (by decide)]
   simp only
   rw [if_pos hq, if_neg hfull, ih1]
   simp [nbody, hm]
   omega
  ·have hmf := Bool.eq_false_iff.mpr hm
   have e : nbody d (c :: r) ++ nend d ++ rest = c :: (nbody d r ++ nend d ++ rest) := by simp [nbody, hmf]
   have h92 : ¬ c.toNat = 92 := fun h => hm (mark_92 d c r h)
   have hnp : ¬ (nend d).isPrefixOf (c :: (nbody d r ++ nend d ++ rest)) = true := by
    intro hp
    rw [nend_first d hd] at hp
    simp only [Bool.or_eq_true, Bool.and_eq_true, decide_eq_true_eq] at hp
    rcases hp with ⟨h0, h⟩ | ⟨⟨h1, h⟩, hh⟩
    ·exact hm ((mark_int d hd c r).mpr (.inr (.inl ⟨h0, h⟩)))
    ·refine hm ((mark_int d hd c r).mpr (.inr (.inr ⟨h1, h, ?_⟩)))
     subst h1
     cases r with
     | nil => simp [nbody, nend] at hh
     | cons y r' =>
      by_cases hy : nmark 1 y r' = true
      ·simp [nbody, hy] at hh
      ·simpa [nbody, Bool.eq_false_iff.mpr hy] using hh
   rw [e, nrd_cons, if_neg hnp, if_neg h92, if_pos ha.1, if_neg hfull, ih1]
   simp [nbody, hmf]
   omega

end Go.Proofs.YtidicpngmildkaaDoor.Pn
set_option linter.unusedVariables false
set_option linter.unusedSimpArgs false
namespace Go.Proofs.YtidicpngmildkaaDoor.Pl
open Go.RowKit Go.Proofs.YtidicpngmildkaaDoorW.PrintWords Go.Proofs.YtidicpngmildkaaDoorW.PrintLast Go.Proofs.YtidicpngmildkaaDoorW.PrintMore Go.Proofs.YtidicpngmildkaaDoor.R Go.Proofs.YtidicpngmildkaaDoor.Tx Go.Proofs.YtidicpngmildkaaDoor.Pn
open Go.Proofs.YtidicpngmildkaaDoor.Wd (mem lst is_any)
def blank (c : UInt8) : Bool := inC blankS c
def Sep (v : B) : Prop := v = [] ∨ ∃ c r, v = c :: r ∧ blank c = true
theorem u8_all {p : UInt8 → Prop} (h : ∀ n : Fin 256, p (UInt8.ofNat n.1)) (c : UInt8) : p c := by
 have := h ⟨c.toNat, UInt8.toNat_lt c⟩
 simpa using this
theorem blank_rest (c : UInt8) : blank c = true → inC restS c = false := by
 refine u8_all (p := fun c => blank c = true → inC restS c = false) ?_ c
 decide +kernel
theorem blank_dig (c : UInt8) : blank c = true → inC digSet c = false := by
 refine u8_all (p := fun c => blank c = true → inC digSet c = false) ?_ c
 decide +kernel
theorem blank_small (c : UInt8) : blank c = true → inC smallS c = false := by
 refine u8_all (p := fun c => blank c = true → inC smallS c = false) ?_ c
 decide +kernel
theorem blank_36 (c : UInt8) : blank c = true → c.toNat ≠ 36 := by
 refine u8_all (p := fun c => blank c = true → c.toNat ≠ 36) ?_ c
 decide +kernel
theorem small_restC (c : UInt8) : inC smallS c = true → inC restS c = true := small_rest _
theorem run_app (p : UInt8 → Bool) (hp : ∀ c, blank c = true → p c = false) (u v : B) (h : Sep v) : run p (u ++ v) = run p u := by
 induction u with
 | nil =>
  rcases h with rfl | ⟨c, r, rfl, hc⟩
  ·rfl
  ·rw [List.nil_append, run_cons, if_neg (by rw [hp c hc]; simp)]; rfl
 | cons c u ih => rw [List.cons_append, run_cons, run_cons, ih]
theorem run_take (p : UInt8 → Bool) : ∀ (u : B) (m : Nat), run p u ≤ m → run p (u.take m) = run p u := by
 intro u
 induction u with
 | nil => intro m _; simp
 | cons c u ih =>
  intro m hm
  rw [run_cons] at hm ⊢
  cases m with
  | zero =>
   split at hm
   ·omega
   ·rename_i h; rw [if_neg h]; rfl
  | succ m =>
   rw [List.take_succ_cons, run_cons]
   split at hm
   ·rename_i h; rw [if_pos h, if_pos h, ih m (by omega)]
   ·rename_i h; rw [if_neg h, if_neg h]
theorem folL_app (u v : B) (h : Sep v) : folL (u ++ v) = folL u := by
 match u with
 | [] =>
  rcases h with rfl | ⟨c, r, rfl, hc⟩
  ·rfl
  ·cases r with
   | nil => rfl
   | cons d r =>
    show (decide (c.toNat = 36) && inC smallS d) = false
    rw [decide_eq_false (blank_36 c hc), Bool.false_and]
 | [a] =>
  rcases h with rfl | ⟨c, r, rfl, hc⟩
  ·rfl
  ·show (decide (a.toNat = 36) && inC smallS c) = false
   rw [blank_small c hc, Bool.and_false]
 | a :: b :: r => rfl
theorem nmL_app : ∀ (f : Nat) (u v : B) (b : Bool), Sep v → nmL f (u ++ v) b = nmL f u b := by
 intro f
 induction f with
 | zero => intro u v b _; rfl
 | succ f ih =>
  intro u v b h
  rw [nmL, nmL, folL_app u v h]
  by_cases hf : folL u = true
  ·have hl := folL_len hf
   have e1 : (u ++ v).drop 1 = u.drop 1 ++ v := List.drop_append_of_le_length (by omega)
   have e2 := run_le (inC restS) (u.drop 1)
   rw [List.length_drop] at e2
   rw [if_pos hf, if_pos hf, e1, run_app _ blank_rest _ _ h, List.drop_append_of_le_length (by omega), ih _ _ _ h]
  ·rw [if_neg hf, if_neg hf]
theorem nameL_app (u v : B) (h : Sep v) : nameL (u ++ v) = nameL u := by
 have e2 := run_le (inC restS) u
 unfold nameL
 rw [run_app _ blank_rest _ _ h, List.drop_append_of_le_length e2, nmL_app _ _ _ _ h, nmL_fuel (u ++ v).length u.length _ _ (by rw [List.length_drop, List.length_append]; omega) (by rw [List.length_drop]; omega)]
theorem folL_take (u : B) (m : Nat) (h : folL u = true) (hm : 2 ≤ m) : folL (u.take m) = true := by
 match u, h, m, hm with
 | a :: b :: r, h, m + 2, _ => exact h
theorem folL_take0 (u : B) (m : Nat) (h : folL u = false) : folL (u.take m) = false := by
 match u, m with
 | [], m => simp [folL]
 | [a], m => cases m <;> simp [folL]
 | a :: b :: r, 0 => rfl
 | a :: b :: r, 1 => rfl
 | a :: b :: r, m + 2 => exact h
theorem folL_run {u : B} (h : folL u = true) : 1 ≤ run (inC restS) (u.drop 1) := by
 match u, h with
 | a :: b :: r, h =>
  unfold folL at h
  rw [Bool.and_eq_true] at h
  show 1 ≤ run (inC restS) (b :: r)
  rw [run_cons, if_pos (small_restC b h.2)]
  omega
theorem nmL_take : ∀ (f : Nat) (u : B) (b : Bool) (m : Nat), (nmL f u b).1 = m → nmL f (u.take m) b = nmL f u b := by
 intro f
 induction f with
 | zero => intro u b m _; rfl
 | succ f ih =>
  intro u b m hm
  rw [nmL] at hm ⊢
  rw [nmL]
  by_cases hf : folL u = true
  ·have h1 := folL_run hf
   rw [if_pos hf] at hm ⊢
   replace hm : 1 + run (inC restS) (u.drop 1) + (nmL f (u.drop (1 + run (inC restS) (u.drop 1))) (b || decide (32 < run (inC restS) (u.drop 1)))).1 = m := hm
   have e1 : (u.take m).drop 1 = (u.drop 1).take (m - 1) := by rw [List.drop_take]
   have e2 := run_take (inC restS) (u.drop 1) (m - 1) (by omega)
   rw [if_pos (folL_take u m hf (by omega)), e1, e2, List.drop_take, ih _ _ _ (by omega)]
  ·rw [if_neg hf, if_neg (by rw [folL_take0 u m (by simpa using hf)]; simp)]
theorem nameL_take (u : B) : nameL (u.take (nameL u).1) = nameL u := by
 obtain ⟨m, hm⟩ : ∃ m, (nameL u).1 = m := ⟨_, rfl⟩
 rw [hm]
 unfold nameL at hm ⊢
 replace hm : run (inC restS) u + (nmL u.length (u.drop (run (inC restS) u)) (decide (32 < run (inC restS) u))).1 = m := hm
 have e2 := run_take (inC restS) u m (by omega)
 rw [e2, List.drop_take, nmL_fuel (u.take m).length u.length _ _ (by rw [List.length_take, List.length_drop, List.length_take]; omega) (by rw [List.length_take, List.length_drop]; omega), nmL_take _ _ _ _ (by omega)]
/-! ### Chars -/
theorem qtL_app (u v : B) (x : Int × Nat) (h : qtL u = some x) : qtL (u ++ v) = some x := by
 match u, h with
 | a :: b :: c :: d :: e :: f :: l, h => exact h
 | [a, b, c, d, e], h =>
  cases v with
  | nil => exact h
  | cons f v =>
   rw [qt5] at h
   show qtL (a :: b :: c :: d :: e :: f :: v) = some x
   rw [qt6]
   by_cases c1 : a.toNat = 39 ∧ b.toNat = 92 ∧ (c.toNat = 39 ∨ c.toNat = 92) ∧ d.toNat = 39
   ·rw [if_pos c1] at h ⊢; exact h
   ·rw [if_neg c1] at h ⊢
    by_cases c3 : plainB b.toNat = true ∧ b.toNat ≠ 92 ∧ c.toNat = 39
    ·rw [if_pos c3] at h
     rw [if_neg (fun x => c3.2.1 x.2.1), if_pos c3]; exact h
    ·rw [if_neg c3] at h; cases h
 | [a, b, c, d], h =>
  cases v with
  | nil => exact h
  | cons e v =>
   cases v with
   | nil => exact h
   | cons f v =>
    rw [qt4] at h
    show qtL (a :: b :: c :: d :: e :: f :: v) = some x
    rw [qt6]
    by_cases c1 : a.toNat = 39 ∧ b.toNat = 92 ∧ (c.toNat = 39 ∨ c.toNat = 92) ∧ d.toNat = 39
    ·rw [if_pos c1] at h ⊢; exact h
    ·rw [if_neg c1] at h ⊢
     by_cases c3 : plainB b.toNat = true ∧ b.toNat ≠ 92 ∧ c.toNat = 39
     ·rw [if_pos c3] at h
      rw [if_neg (fun x => c3.2.1 x.2.1), if_pos c3]; exact h
     ·rw [if_neg c3] at h; cases h
 | [a, b, c], h =>
  rw [qt3] at h
  by_cases c3 : plainB b.toNat = true ∧ b.toNat ≠ 92 ∧ c.toNat = 39
  ·rw [if_pos c3] at h
   have n1 : ∀ P : Prop, ¬ (a.toNat = 39 ∧ b.toNat = 92 ∧ P) := fun P x => c3.2.1 x.2.1
   match v with
   | [] => show qtL [a, b, c] = _; rw [qt3]; rw [if_pos c3]; exact h
   | [d] => show qtL [a, b, c, d] = _; rw [qt4]; rw [if_neg (n1 _), if_pos c3]; exact h
   | [d, e] => show qtL [a, b, c, d, e] = _; rw [qt5]; rw [if_neg (n1 _), if_pos c3]; exact h
   | d :: e :: f :: v => show qtL (a :: b :: c :: d :: e :: f :: v) = _; rw [qt6]; rw [if_neg (n1 _), if_neg (n1 _), if_pos c3]; exact h
  ·rw [if_neg c3] at h; cases h
/-! ### Prefixes -/
theorem pfx_app (t : B) (ht : t.all (fun c => !blank c) = true) (v : B) (h : Sep v) : ∀ u : B, t.isPrefixOf (u ++ v) = t.isPrefixOf u := by
 induction t with
 | nil => intro u; simp [List.isPrefixOf]
 | cons x t ih =>
  intro u
  rw [List.all_cons, Bool.and_eq_true] at ht
  cases u with
  | nil =>
   rcases h with rfl | ⟨c, r, rfl, hc⟩
   ·rfl
   ·show (x == c && t.isPrefixOf r) = false
    have : (x == c) = false := by
     rw [beq_eq_false_iff_ne]
     rintro rfl
     rw [hc] at ht
     exact absurd ht.1 (by simp)
    rw [this, Bool.false_and]
  | cons y u =>
   show (x == y && t.isPrefixOf (u ++ v)) = (x == y && t.isPrefixOf u)
   rw [ih ht.2]
theorem find_congr {α : Type} (l : List α) (f g : α → Bool) (h : ∀ x ∈ l, f x = g x) : l.find? f = l.find? g := by
 induction l with
 | nil => rfl
 | cons x l ih =>
  rw [List.find?_cons, List.find?_cons, h x (List.mem_cons_self ..), ih (fun y hy => h y (List.mem_cons_of_mem _ hy))]
theorem signs_plain : ∀ t ∈ signsL, t.data.toList.all (fun c => !blank c) = true := by decide +kernel
theorem sign_app (u v : B) (h : Sep v) : signsL.find? (fun t => t.data.toList.isPrefixOf (u ++ v)) = signsL.find? (fun t => t.data.toList.isPrefixOf u) :=
 find_congr _ _ _ fun t ht => pfx_app _ (signs_plain t ht) v h u
theorem open_app (u v : B) (h : Sep v) : openL.isPrefixOf (u ++ v) = openL.isPrefixOf u := pfx_app _ (by decide +kernel) v h u
/-! ### Comments -/
theorem nrd_end (d : Int) (acc : B) (n : Nat) (c : UInt8) (r : B) (hp : (nend d).isPrefixOf (c :: r) = true) : nrd d acc n (c :: r) = (⟨acc.toArray⟩, ((n + (nend d).length : Nat) : Int), 0) := by
 rw [nrd_cons, if_pos hp]
theorem nrd_92nil (d : Int) (acc : B) (n : Nat) (c : UInt8) (hp : ¬ (nend d).isPrefixOf [c] = true) (h92 : c.toNat = 92) : nrd d acc n [c] = (⟨#[]⟩, 0, 8) := by
 rw [nrd_cons, if_neg hp, if_pos h92]
theorem nrd_92 (d : Int) (acc : B) (n : Nat) (c q : UInt8) (r : B) (hp : ¬ (nend d).isPrefixOf (c :: q :: r) = true) (h92 : c.toNat = 92) : nrd d acc n (c :: q :: r) = if isq d q = true then (if acc.length = 1024 then (⟨#[]⟩, 0, 3) else nrd d (acc ++ [q]) (n + 2) r) else (⟨#[]⟩, 0, 8) := by
 rw [nrd_cons, if_neg hp, if_pos h92]
theorem nrd_ch (d : Int) (acc : B) (n : Nat) (c : UInt8) (r : B) (hp : ¬ (nend d).isPrefixOf (c :: r) = true) (h92 : ¬ c.toNat = 92) : nrd d acc n (c :: r) = if nright c = true then (if acc.length = 1024 then (⟨#[]⟩, 0, 3) else nrd d (acc ++ [c]) (n + 1) r) else (⟨#[]⟩, 0, 8) := by
 rw [nrd_cons, if_neg hp, if_neg h92]
theorem no8 {P : Prop} (h : ((⟨#[]⟩, 0, 8) : ByteArray × Int × Int).2.2 = 0) : P := absurd h (by decide)
theorem no3 {P : Prop} (h : ((⟨#[]⟩, 0, 3) : ByteArray × Int × Int).2.2 = 0) : P := absurd h (by decide)
theorem nrd_app (v : B) : ∀ (n0 : Nat) (u : B) (acc : B) (n : Nat), u.length ≤ n0 → (nrd 1 acc n u).2.2 = 0 → nrd 1 acc n (u ++ v) = nrd 1 acc n u ∧ ∃ a : B, (nrd 1 acc n u).1 = mk a ∧ a.all nright = (acc.all nright) ∧ (acc.length ≤ 1024 → a.length ≤ 1024) := by
 intro n0
 induction n0 with
 | zero =>
  intro u acc n hu h
  obtain rfl : u = [] := List.eq_nil_of_length_eq_zero (by omega)
  rw [nrd_nil] at h
  exact no8 h
 | succ n0 ih =>
  intro u acc n hu h
  match u, hu, h with
  | [], _, h => rw [nrd_nil] at h; exact no8 h
  | [c], _, h =>
   by_cases hp : (nend 1).isPrefixOf [c] = true
   ·have : False := by simp [nend, List.isPrefixOf] at hp
    exact this.elim
   ·by_cases h92 : c.toNat = 92
    ·rw [nrd_92nil 1 acc n c hp h92] at h; exact no8 h
    ·rw [nrd_ch 1 acc n c [] hp h92] at h
     by_cases hn : nright c = true
     ·rw [if_pos hn] at h
      by_cases hl : acc.length = 1024
      ·rw [if_pos hl] at h; exact no3 h
      ·rw [if_neg hl, nrd_nil] at h; exact no8 h
     ·rw [if_neg hn] at h; exact no8 h
  | c :: q :: r, hu, h =>
   have e0 : c :: q :: r ++ v = c :: q :: (r ++ v) := rfl
   rw [e0]
   by_cases hp : (nend 1).isPrefixOf (c :: q :: r) = true
   ·have hp2 : (nend 1).isPrefixOf (c :: q :: (r ++ v)) = true := by
     rw [List.isPrefixOf_iff_prefix] at hp ⊢
     exact hp.trans (List.prefix_append (c :: q :: r) v)
    rw [nrd_end 1 acc n _ _ hp, nrd_end 1 acc n _ _ hp2]
    exact ⟨rfl, acc, rfl, rfl, fun h => h⟩
   ·have hp2 : ¬ (nend 1).isPrefixOf (c :: q :: (r ++ v)) = true := hp
    by_cases h92 : c.toNat = 92
    ·rw [nrd_92 1 acc n c q _ hp h92] at h ⊢
     rw [nrd_92 1 acc n c q _ hp2 h92]
     by_cases hq : isq 1 q = true
     ·rw [if_pos hq] at h ⊢
      rw [if_pos hq]
      by_cases hl : acc.length = 1024
      ·rw [if_pos hl] at h; exact no3 h
      ·rw [if_neg hl] at h ⊢
       rw [if_neg hl]
       obtain ⟨e1, a, e2, e3, e4⟩ := ih r (acc ++ [q]) (n + 2) (by simp at hu; omega) h
       refine ⟨e1, a, e2, ?_, fun h5 => e4 (by simp; omega)⟩
       rw [e3, List.all_append]
       simp [isq_right 1 q hq]
     ·rw [if_neg hq] at h; exact no8 h
    ·rw [nrd_ch 1 acc n c _ hp h92] at h ⊢
     rw [nrd_ch 1 acc n c _ hp2 h92]
     by_cases hn : nright c = true
     ·rw [if_pos hn] at h ⊢
      rw [if_pos hn]
      by_cases hl : acc.length = 1024
      ·rw [if_pos hl] at h; exact no3 h
      ·rw [if_neg hl] at h ⊢
       rw [if_neg hl]
       obtain ⟨e1, a, e2, e3, e4⟩ := ih (q :: r) (acc ++ [c]) (n + 1) (by simp at hu ⊢; omega) h
       refine ⟨e1, a, e2, ?_, fun h5 => e4 (by simp; omega)⟩
       rw [e3, List.all_append]
       simp [hn]
     ·rw [if_neg hn] at h; exact no8 h
theorem note_open (u : B) (h : openL.isPrefixOf u = true) : ∃ r, u = 47 :: 42 :: r := by
 obtain ⟨r, hr⟩ := List.isPrefixOf_iff_prefix.1 h
 exact ⟨r, hr.symm⟩
theorem noteAt_L (r : B) (hs : r.length ≤ 900000) : noteAt (mk (47 :: 42 :: r)) = nrd 1 [] 2 r := by
 have hb : pre (mk (47 :: 42 :: r)) ⟨#[47, 42]⟩ = true := by rw [pre_L, mk_data]; simp [List.isPrefixOf]
 have hz : (mk (47 :: 42 :: r)).size ≤ 1000000 := by rw [mk_size]; simp; omega
 have h1 := (noteAt_ok _ hz hb).1
 obtain ⟨K, hK⟩ := read_ev 1 (mk (47 :: 42 :: r)) (by omega)
 have h2 := at_rounds (note_Read.mono 1 (mk (47 :: 42 :: r))) (Nat.le_max_left _ K) h1
 have h3 := (hK _ (Nat.le_max_right (2 * (mk (47 :: 42 :: r)).size + 2) K)).symm.trans h2
 rw [← Option.some.inj h3]
 unfold nread
 rw [if_pos (.inr rfl), mk_data, if_pos (by simp [nopen, List.isPrefixOf])]
 rfl
end Go.Proofs.YtidicpngmildkaaDoor.Pl
set_option linter.unusedVariables false
set_option linter.unusedSimpArgs false
namespace Go.Proofs.YtidicpngmildkaaDoor.Pl
open Go.RowKit Go.Proofs.YtidicpngmildkaaDoorW.PrintWords Go.Proofs.YtidicpngmildkaaDoorW.PrintLast Go.Proofs.YtidicpngmildkaaDoorW.PrintMore Go.Proofs.YtidicpngmildkaaDoor.R Go.Proofs.YtidicpngmildkaaDoor.Tx Go.Proofs.YtidicpngmildkaaDoor.Pn
open Go.Proofs.YtidicpngmildkaaDoor.Wd (mem lst is_any)
theorem fdL_cons (c : UInt8) (r : B) (hp : ¬ openL.isPrefixOf (c :: r) = true) : fdL (c :: r) =
   if inC smallS c = true then ⟨longE (nameL (c :: r)).2, wordKind (mem (lst 1) (mk ((c :: r).take (nameL (c :: r)).1))), mk ((c :: r).take (nameL (c :: r)).1), 0, (nameL (c :: r)).1⟩
   else if inC digSet c = true then ⟨(num (mk ((c :: r).take (run (inC digSet) (c :: r))))).2, 3, ⟨#[]⟩, (num (mk ((c :: r).take (run (inC digSet) (c :: r))))).1, run (inC digSet) (c :: r)⟩
   else if c.toNat = 39 then qtFd 0 (qtL (c :: r))
   else sgFd 0 (signsL.find? (fun t => t.data.toList.isPrefixOf (c :: r))) := by
 unfold fdL
 rw [if_neg hp]
theorem fdL_note (r : B) : fdL (47 :: 42 :: r) = ⟨(noteAt (mk (47 :: 42 :: r))).2.2, 6, (noteAt (mk (47 :: 42 :: r))).1, 0, (noteAt (mk (47 :: 42 :: r))).2.1.toNat⟩ := by
 unfold fdL
 rw [if_pos (by simp [openL, List.isPrefixOf])]
theorem fdL_app (u v : B) (hu : u ≠ []) (h : Sep v) (hs : (u ++ v).length ≤ 900000) (h0 : (fdL u).e = 0) : fdL (u ++ v) = fdL u := by
 by_cases hp : openL.isPrefixOf u = true
 ·obtain ⟨r, rfl⟩ := note_open u hp
  have hr : (r ++ v).length ≤ 900000 := by simp at hs ⊢; omega
  have e1 := noteAt_L r (by simp at hr; omega)
  have e2 := noteAt_L (r ++ v) hr
  show fdL (47 :: 42 :: (r ++ v)) = _
  rw [fdL_note, e1] at h0
  rw [fdL_note, fdL_note, e1, e2, (nrd_app v r.length r [] 2 (Nat.le_refl _) h0).1]
 ·have hp2 : ¬ openL.isPrefixOf (u ++ v) = true := by rw [open_app u v h]; exact hp
  obtain ⟨c, r, rfl⟩ := List.exists_cons_of_ne_nil hu
  have eh : c :: r ++ v = c :: (r ++ v) := rfl
  rw [eh] at hp2 ⊢
  rw [fdL_cons c r hp] at h0 ⊢
  rw [fdL_cons c (r ++ v) hp2, ← eh]
  by_cases c1 : inC smallS c = true
  ·have e := nameL_le (c :: r)
   rw [if_pos c1, if_pos c1, nameL_app (c :: r) v h, List.take_append_of_le_length e]
  ·rw [if_neg c1] at h0 ⊢
   rw [if_neg c1]
   by_cases c2 : inC digSet c = true
   ·have e := run_le (inC digSet) (c :: r)
    rw [if_pos c2, if_pos c2, run_app _ blank_dig (c :: r) v h, List.take_append_of_le_length e]
   ·rw [if_neg c2] at h0 ⊢
    rw [if_neg c2]
    by_cases c3 : c.toNat = 39
    ·rw [if_pos c3] at h0 ⊢
     rw [if_pos c3]
     cases hq : qtL (c :: r) with
     | none => rw [hq] at h0; exact absurd h0 (show ¬ (7 : Int) = 0 by decide)
     | some p => rw [qtL_app (c :: r) v p hq]
    ·rw [if_neg c3, if_neg c3, sign_app (c :: r) v h]
theorem fdL_le (u : B) (hu : u ≠ []) (hs : u.length ≤ 900000) (h0 : (fdL u).e = 0) : 1 ≤ (fdL u).k ∧ (fdL u).k ≤ u.length := by
 have hz : (mk u).size = u.length := mk_size u
 have hlt : 0 < (mk u).size := by
  rw [hz]
  exact List.length_pos_iff.2 hu
 have e := fd_L (mk u) 0 hlt
 rw [List.drop_zero, mk_data] at e
 have := fd_le (mk u) 0 (by omega) hlt (by rw [e]; exact h0)
 rw [e, hz] at this
 unfold shift at this
 simp only [Nat.zero_add] at this
 exact this
/-! ### The lexer -/
abbrev Bt := Int × ByteArray × Int
inductive LR where
 | ok (l : List Bt)
 | bad (c : Int) (r : Nat)
def LR.pre (l0 : List Bt) : LR → LR
 | .ok l => .ok (l0 ++ l)
 | .bad c r => .bad c r
theorem LR.pre_pre (a b : List Bt) (r : LR) : (r.pre b).pre a = r.pre (a ++ b) := by cases r <;> simp [LR.pre]
theorem LR.pre_nil (r : LR) : r.pre [] = r := by cases r <;> rfl
def endT : Bt := (0, ⟨#[]⟩, 0)
def bare (d : Tx.Fd) : Bt := (d.kind, d.text, d.n)
def lexL : Nat → B → LR
 | 0, _ => .bad 0 0
 | f + 1, u => if u.dropWhile blank = [] then .ok [endT] else if (fdL (u.dropWhile blank)).e = 0 then (lexL f ((u.dropWhile blank).drop (fdL (u.dropWhile blank)).k)).pre [bare (fdL (u.dropWhile blank))] else .bad (fdL (u.dropWhile blank)).e (u.dropWhile blank).length
theorem dw_len (u : B) : (u.dropWhile blank).length ≤ u.length := by
 have := (List.dropWhile_suffix (p := blank) (l := u)).length_le
 exact this
theorem lexL_fuel : ∀ (f g : Nat) (u : B), u.length < f → u.length < g → u.length ≤ 900000 → lexL f u = lexL g u := by
 intro f
 induction f with
 | zero => intro g u h; omega
 | succ f ih =>
  intro g u hf hg hs
  cases g with
  | zero => omega
  | succ g =>
   have hl := dw_len u
   rw [lexL, lexL]
   by_cases h : u.dropWhile blank = []
   ·rw [if_pos h, if_pos h]
   ·rw [if_neg h, if_neg h]
    by_cases h0 : (fdL (u.dropWhile blank)).e = 0
    ·have := fdL_le _ h (by omega) h0
     rw [if_pos h0, if_pos h0, ih g _ (by rw [List.length_drop]; omega) (by rw [List.length_drop]; omega) (by rw [List.length_drop]; omega)]
    ·rw [if_neg h0, if_neg h0]
theorem lexL_blanks (f : Nat) (a u : B) (ha : a.all blank = true) : lexL f (a ++ u) = lexL f u := by
 have e : (a ++ u).dropWhile blank = u.dropWhile blank := by
  rw [List.dropWhile_append, if_pos]
  rw [List.isEmpty_iff, dropWhile_nil]
  exact ha
 cases f with
 | zero => rfl
 | succ f => rw [lexL, lexL, e]
/-- A text that has tokens, with a blank and more behind it. -/
theorem lexL_app (t : B) (b : UInt8) (hb : blank b = true) : ∀ (f : Nat) (u : B) (l : List Bt), u.length < f → lexL f u = .ok l → ∀ g g', (u ++ b :: t).length < g → t.length < g' → (u ++ b :: t).length ≤ 900000 → ∃ l0, l = l0 ++ [endT] ∧ lexL g (u ++ b :: t) = (lexL g' t).pre l0 := by
 intro f
 induction f with
 | zero => intro u l h; omega
 | succ f ih =>
  intro u l hf h g g' hg hg' hs
  have hl := dw_len u
  have hsep : Sep (b :: t) := .inr ⟨b, t, rfl, hb⟩
  simp only [List.length_append, List.length_cons] at hs hg
  rw [lexL] at h
  by_cases hd : u.dropWhile blank = []
  ·rw [if_pos hd] at h
   injection h with h
   refine ⟨[], by rw [← h]; rfl, ?_⟩
   have hall : u.all blank = true := (dropWhile_nil _ _).1 hd
   rw [lexL_blanks g u (b :: t) hall, show b :: t = [b] ++ t from rfl, lexL_blanks g [b] t (by simp [hb]), LR.pre_nil]
   exact lexL_fuel g g' t (by omega) (by omega) (by omega)
  ·rw [if_neg hd] at h
   cases g with
   | zero => omega
   | succ g =>
    by_cases h0 : (fdL (u.dropWhile blank)).e = 0
    ·rw [if_pos h0] at h
     have hk := fdL_le _ hd (by omega) h0
     have ea : (u ++ b :: t).dropWhile blank = u.dropWhile blank ++ b :: t := by
      rw [List.dropWhile_append, if_neg]
      rw [List.isEmpty_iff]; exact hd
     have e1 := fdL_app (u.dropWhile blank) (b :: t) hd hsep (by simp only [List.length_append, List.length_cons]; omega) h0
     cases hr : lexL f ((u.dropWhile blank).drop (fdL (u.dropWhile blank)).k) with
     | bad c r => rw [hr] at h; cases h
     | ok l1 =>
      rw [hr] at h
      obtain ⟨l0, rfl, h2⟩ := ih _ l1 (by rw [List.length_drop]; omega) hr g g' (by simp only [List.length_append, List.length_drop, List.length_cons]; omega) hg' (by simp only [List.length_append, List.length_drop, List.length_cons]; omega)
      refine ⟨bare (fdL (u.dropWhile blank)) :: l0, ?_, ?_⟩
      ·injection h with h
       rw [← h]; rfl
      ·rw [lexL, ea, if_neg (by simp), e1, if_pos h0, List.drop_append_of_le_length hk.2, h2, LR.pre_pre]
       rfl
    ·rw [if_neg h0] at h; cases h
/-! ### Tokens' own texts -/
/-- A text that is read as a token, whatever stands behind a blank. -/
def okTok (x : Bt) (t : B) : Prop := (∃ c r, t = c :: r ∧ blank c = false) ∧ ∀ v, Sep v → (t ++ v).length ≤ 900000 → fdL (t ++ v) = ⟨0, x.1, x.2.1, x.2.2, t.length⟩
theorem lexL_tok (x : Bt) (t : B) (h : okTok x t) (v : B) (hv : Sep v) (hs : (t ++ v).length ≤ 900000) (f : Nat) : lexL (f + 1) (t ++ v) = (lexL f v).pre [x] := by
 obtain ⟨⟨c, r, rfl, hc⟩, h⟩ := h
 have e : (c :: r ++ v).dropWhile blank = c :: r ++ v := by
  rw [List.cons_append, List.dropWhile_cons, if_neg (by rw [hc]; simp)]
 have h1 := h v hv hs
 rw [lexL, e, if_neg (by simp), h1, if_pos rfl]
 show (lexL f ((c :: r ++ v).drop (c :: r).length)).pre _ = _
 rw [List.drop_left]
 rfl
/-- Tokens' own texts, each with blanks ahead of it. -/
def flat : List (B × Bt × B) → B
 | [] => []
 | p :: l => p.1 ++ p.2.2 ++ flat l
def okAll (l : List (B × Bt × B)) : Prop := ∀ p ∈ l, p.1 ≠ [] ∧ p.1.all blank = true ∧ okTok p.2.1 p.2.2
theorem sep_blank (b : B) (h : b ≠ []) (ha : b.all blank = true) (v : B) : Sep (b ++ v) := by
 obtain ⟨c, r, rfl⟩ := List.exists_cons_of_ne_nil h
 rw [List.all_cons, Bool.and_eq_true] at ha
 exact .inr ⟨c, r ++ v, rfl, ha.1⟩
theorem lex_flat (e : B) (he : e ≠ []) (hea : e.all blank = true) : ∀ (l : List (B × Bt × B)) (f : Nat), okAll l → l.length < f → (flat l ++ e).length ≤ 900000 → lexL f (flat l ++ e) = .ok (l.map (fun p => p.2.1) ++ [endT]) := by
 intro l
 induction l with
 | nil =>
  intro f _ hf _
  obtain ⟨f, rfl⟩ : ∃ g, f = g + 1 := ⟨f - 1, by simp at hf; omega⟩
  have hd : e.dropWhile blank = [] := (dropWhile_nil _ _).2 hea
  show lexL (f + 1) e = _
  rw [lexL, if_pos hd]; rfl
 | cons p l ih =>
  intro f ho hf hs
  obtain ⟨f, rfl⟩ : ∃ g, f = g + 1 := ⟨f - 1, by simp at hf; omega⟩
  obtain ⟨h1, h2, h3⟩ := ho p (List.mem_cons_self ..)
  have hol : okAll l := fun q hq => ho q (List.mem_cons_of_mem _ hq)
  have hsep : Sep (flat l ++ e) := by
   cases l with
   | nil => exact .inr (by obtain ⟨c, r, rfl⟩ := List.exists_cons_of_ne_nil he; rw [List.all_cons, Bool.and_eq_true] at hea; exact ⟨c, r, rfl, hea.1⟩)
   | cons q l =>
    obtain ⟨q1, q2, q3⟩ := ho q (by simp)
    show Sep (q.1 ++ q.2.2 ++ flat l ++ e)
    rw [List.append_assoc, List.append_assoc]
    exact sep_blank _ q1 q2 _
  have e1 : flat (p :: l) ++ e = p.1 ++ (p.2.2 ++ (flat l ++ e)) := by simp [flat, List.append_assoc]
  rw [e1] at hs ⊢
  rw [List.length_append] at hs
  rw [lexL_blanks _ _ _ h2, lexL_tok _ _ h3 _ hsep (by omega), ih f hol (by simp at hf; omega) (by rw [List.length_append] at hs; omega)]
  rfl
end Go.Proofs.YtidicpngmildkaaDoor.Pl
set_option linter.unusedVariables false
set_option linter.unusedSimpArgs false
namespace Go.Proofs.YtidicpngmildkaaDoor.Pl
open Go.RowKit Go.Proofs.YtidicpngmildkaaDoorW.PrintWords Go.Proofs.YtidicpngmildkaaDoorW.PrintLast Go.Proofs.YtidicpngmildkaaDoorW.PrintMore Go.Proofs.YtidicpngmildkaaDoor.R Go.Proofs.YtidicpngmildkaaDoor.Tx Go.Proofs.YtidicpngmildkaaDoor.Pn
open Go.Proofs.YtidicpngmildkaaDoor.Wd (mem lst is_any)
def hexd (d : Nat) : UInt8 := if d < 10 then UInt8.ofNat (48 + d) else UInt8.ofNat (87 + d)
/-- A char's own text. -/
def charT (c : Nat) : B := if c = 39 ∨ c = 92 then [39, 92, UInt8.ofNat c, 39] else if 32 ≤ c ∧ c ≤ 126 then [39, UInt8.ofNat c, 39] else [39, 92, 120, hexd (c / 16), hexd (c % 16), 39]
theorem qt_charT (c : Nat) (h : c < 256) : qtL (charT c) = some ((c : Int), (charT c).length) := by
 have : ∀ c : Fin 256, qtL (charT c.1) = some ((c.1 : Int), (charT c.1).length) := by decide +kernel
 exact this ⟨c, h⟩
theorem charT_head (c : Nat) (h : c < 256) : ∃ r, charT c = 39 :: r := by
 unfold charT
 split
 ·exact ⟨_, rfl⟩
 ·split
  ·exact ⟨_, rfl⟩
  ·exact ⟨_, rfl⟩
theorem charT_len (c : Nat) : (charT c).length ≤ 6 := by
 unfold charT
 split
 ·simp
 ·split <;> simp
def textOf (x : Bt) : B := if x.1 = 1 ∨ x.1 = 2 ∨ x.1 = 5 then x.2.1.data.toList else if x.1 = 3 then Lib.itoa x.2.2 else if x.1 = 4 then charT x.2.2.toNat else if x.1 = 6 then nopen 1 ++ nbody 1 x.2.1.data.toList ++ nend 1 else []
theorem textOf_3 (t : ByteArray) (n : Int) : textOf (3, t, n) = Lib.itoa n := by simp [textOf]
theorem textOf_4 (t : ByteArray) (n : Int) : textOf (4, t, n) = charT n.toNat := by simp [textOf]
theorem textOf_5 (t : ByteArray) (n : Int) : textOf (5, t, n) = t.data.toList := by simp [textOf]
theorem textOf_6 (t : ByteArray) (n : Int) : textOf (6, t, n) = nopen 1 ++ nbody 1 t.data.toList ++ nend 1 := by simp [textOf]
theorem hexv_rng (a : UInt8) (h : hexB a = true) : 0 ≤ hexv a.toNat ∧ hexv a.toNat ≤ 15 := by
 have := hexB_is a h
 unfold isHex at this
 unfold hexv; split <;> omega
theorem qtL_range (u : B) (n : Int) (j : Nat) (h : qtL u = some (n, j)) : 0 ≤ n ∧ n ≤ 255 ∧ 3 ≤ j := by
 have hu : ∀ c : UInt8, (c.toNat : Int) ≤ 255 := fun c => by have := UInt8.toNat_lt c; omega
 have done : ∀ (c : UInt8) (k : Nat), 3 ≤ k → some ((c.toNat : Int), k) = some (n, j) → 0 ≤ n ∧ n ≤ 255 ∧ 3 ≤ j := by
  intro c k hk e
  obtain ⟨rfl, rfl⟩ := Prod.mk.inj (Option.some.inj e)
  exact ⟨by omega, hu c, hk⟩
 match u, h with
 | a :: b :: c :: d :: e :: f :: l, h =>
  rw [qt6] at h
  split at h
  ·exact done _ _ (by omega) h
  ·split at h
   ·rename_i h2
    have := hexv_rng d h2.2.2.2.2.1
    have := hexv_rng e h2.2.2.2.2.2
    obtain ⟨rfl, rfl⟩ := Prod.mk.inj (Option.some.inj h)
    omega
   ·split at h
    ·exact done _ _ (by omega) h
    ·cases h
 | [a, b, c, d, e], h =>
  rw [qt5] at h
  split at h
  ·exact done _ _ (by omega) h
  ·split at h
   ·exact done _ _ (by omega) h
   ·cases h
 | [a, b, c, d], h =>
  rw [qt4] at h
  split at h
  ·exact done _ _ (by omega) h
  ·split at h
   ·exact done _ _ (by omega) h
   ·cases h
 | [a, b, c], h =>
  rw [qt3] at h
  split at h
  ·exact done _ _ (by omega) h
  ·cases h
theorem head_open (c : UInt8) (r : B) (h : c.toNat ≠ 47) : ¬ openL.isPrefixOf (c :: r) = true := by
 have : ((47 : UInt8) == c) = false := by
  rw [beq_eq_false_iff_ne]
  rintro rfl
  exact h rfl
 simp [openL, List.isPrefixOf, this]
theorem c39 : inC smallS 39 = false ∧ inC digSet 39 = false ∧ blank 39 = false := by decide +kernel
theorem tok_char (n : Nat) (h : n < 256) : okTok (4, ⟨#[]⟩, (n : Int)) (charT n) := by
 obtain ⟨r, hr⟩ := charT_head n h
 refine ⟨⟨39, r, hr, c39.2.2⟩, fun v hv hs => ?_⟩
 have hq := qtL_app (charT n) v _ (qt_charT n h)
 rw [hr] at hq ⊢
 rw [List.cons_append] at hq ⊢
 rw [fdL_cons 39 (r ++ v) (head_open 39 _ (by decide)), if_neg (by rw [c39.1]; simp), if_neg (by rw [c39.2.1]; simp), if_pos (by decide), hq]
 show Tx.Fd.mk 0 4 ⟨#[]⟩ n (0 + _) = _
 rw [Nat.zero_add]
theorem signs_ok : ∀ t ∈ signsL, (∃ c r, t.data.toList = c :: r ∧ blank c = false ∧ inC smallS c = false ∧ inC digSet c = false ∧ c.toNat ≠ 39) ∧ openL.isPrefixOf t.data.toList = false ∧ signsL.find? (fun x => x.data.toList.isPrefixOf t.data.toList) = some t := by
 have key : (signsL.all fun t => (match t.data.toList with | [] => false | c :: _ => !blank c && !inC smallS c && !inC digSet c && decide (c.toNat ≠ 39)) && !openL.isPrefixOf t.data.toList && decide (signsL.find? (fun x => x.data.toList.isPrefixOf t.data.toList) = some t)) = true := by decide +kernel
 intro t ht
 have := List.all_eq_true.1 key t ht
 rw [Bool.and_eq_true, Bool.and_eq_true] at this
 obtain ⟨⟨h1, h2⟩, h3⟩ := this
 refine ⟨?_, by simpa using h2, of_decide_eq_true h3⟩
 cases ht : t.data.toList with
 | nil => rw [ht] at h1; cases h1
 | cons c r =>
  rw [ht] at h1
  simp only [Bool.and_eq_true, Bool.not_eq_true', decide_eq_true_eq] at h1
  exact ⟨c, r, rfl, h1.1.1.1, h1.1.1.2, h1.1.2, h1.2⟩
theorem tok_sign (t : ByteArray) (ht : t ∈ signsL) : okTok (5, t, 0) t.data.toList := by
 obtain ⟨⟨c, r, e, h1, h2, h3, h4⟩, h5, h6⟩ := signs_ok t ht
 refine ⟨⟨c, r, e, h1⟩, fun v hv hs => ?_⟩
 have hf := sign_app t.data.toList v hv
 rw [h6] at hf
 have ho := open_app t.data.toList v hv
 rw [h5] at ho
 have hz : t.size = t.data.toList.length := (data_length t).symm
 rw [e] at hf ho ⊢
 rw [List.cons_append] at hf ho ⊢
 rw [fdL_cons c (r ++ v) (by rw [ho]; simp), if_neg (by rw [h2]; simp), if_neg (by rw [h3]; simp), if_neg h4, hf]
 show Tx.Fd.mk 0 5 t 0 (0 + t.size) = _
 rw [Nat.zero_add, hz, e]
theorem tok_note (a : B) (ha : a.all nright = true) (hl : a.length ≤ 1024) : okTok (6, mk a, 0) (nopen 1 ++ nbody 1 a ++ nend 1) := by
 have eo : nopen 1 = [47, 42] := rfl
 refine ⟨⟨47, 42 :: (nbody 1 a ++ nend 1), by rw [eo]; rfl, by decide +kernel⟩, fun v hv hs => ?_⟩
 have e1 : nopen 1 ++ nbody 1 a ++ nend 1 ++ v = 47 :: 42 :: (nbody 1 a ++ nend 1 ++ v) := by rw [eo]; simp [List.append_assoc]
 have e2 := nrd_body 1 (.inr rfl) v a [] 2 ha (by simpa using hl)
 rw [e1] at hs ⊢
 rw [fdL_note, noteAt_L _ (by simp only [List.length_cons] at hs; omega), e2]
 show Tx.Fd.mk 0 6 (mk a) 0 _ = Tx.Fd.mk 0 6 (mk a) 0 _
 congr 1
 show ((2 + (nbody 1 a).length + (nend 1).length : Nat) : Int).toNat = _
 rw [Int.toNat_natCast, List.length_append, List.length_append, eo]
 rfl
theorem digB (c : UInt8) : inC digSet c = (decide (48 ≤ c.toNat) && decide (c.toNat ≤ 57)) := by
 refine u8_all (p := fun c => inC digSet c = (decide (48 ≤ c.toNat) && decide (c.toNat ≤ 57))) ?_ c
 decide +kernel
theorem dig_facts (c : UInt8) : inC digSet c = true → inC smallS c = false ∧ blank c = false ∧ c.toNat ≠ 47 := by
 refine u8_all (p := fun c => inC digSet c = true → inC smallS c = false ∧ blank c = false ∧ c.toNat ≠ 47) ?_ c
 decide +kernel
theorem small_facts (c : UInt8) : inC smallS c = true → blank c = false ∧ c.toNat ≠ 47 := by
 refine u8_all (p := fun c => inC smallS c = true → blank c = false ∧ c.toNat ≠ 47) ?_ c
 decide +kernel
theorem run_all (p : UInt8 → Bool) (u : B) (h : ∀ c ∈ u, p c = true) : run p u = u.length := by
 induction u with
 | nil => rfl
 | cons c u ih => rw [run_cons, if_pos (h c (List.mem_cons_self ..)), ih (fun d hd => h d (List.mem_cons_of_mem _ hd))]; rfl
theorem tok_int (n : Int) (h0 : 0 ≤ n) (h1 : n ≤ 9223372036854775807) : okTok (3, ⟨#[]⟩, n) (Lib.itoa n) := by
 obtain ⟨m, rfl⟩ := Int.eq_ofNat_of_zero_le h0
 have hi : Lib.itoa (m : Int) = Lib.decDigits m := by
  unfold Lib.itoa
  rw [if_neg (by omega), Int.toNat_natCast]
 have hn := num_dec (m : Int) h0 h1
 unfold itoB at hn
 rw [hi] at hn ⊢
 have hd : ∀ c ∈ Lib.decDigits m, inC digSet c = true := by
  intro c hc
  have := dec_digit m c hc
  rw [digB]
  simp [this]
 obtain ⟨c, r, e⟩ := List.exists_cons_of_ne_nil (dec_ne m)
 have hc := hd c (by rw [e]; exact List.mem_cons_self ..)
 obtain ⟨f1, f2, f3⟩ := dig_facts c hc
 refine ⟨⟨c, r, e, f2⟩, fun v hv hs => ?_⟩
 have hr := run_app (inC digSet) blank_dig (Lib.decDigits m) v hv
 rw [run_all _ _ hd] at hr
 have ht : (Lib.decDigits m ++ v).take (Lib.decDigits m).length = Lib.decDigits m := List.take_left
 rw [e] at hr ht hn ⊢
 rw [List.cons_append] at hr ht ⊢
 rw [fdL_cons c (r ++ v) (head_open c _ f3), if_neg (by rw [f1]; simp), if_pos hc, hr, ht]
 show Tx.Fd.mk (num ⟨(c :: r).toArray⟩).2 3 ⟨#[]⟩ (num ⟨(c :: r).toArray⟩).1 _ = _
 rw [hn]
theorem tok_name (c : UInt8) (r : B) (h : inC smallS c = true) (hl : (nameL (c :: r)).2 = false) : okTok (wordKind (mem (lst 1) (mk ((c :: r).take (nameL (c :: r)).1))), mk ((c :: r).take (nameL (c :: r)).1), 0) ((c :: r).take (nameL (c :: r)).1) := by
 obtain ⟨f1, f2⟩ := small_facts c h
 have hle := nameL_le (c :: r)
 have h1 : 1 ≤ (nameL (c :: r)).1 := by
  unfold nameL
  have : 1 ≤ run (inC restS) (c :: r) := by rw [run_cons, if_pos (small_restC c h)]; omega
  show 1 ≤ _ + _
  omega
 have ht := nameL_take (c :: r)
 generalize hm : (nameL (c :: r)).1 = m at *
 obtain ⟨m, rfl⟩ : ∃ q, m = q + 1 := ⟨m - 1, by omega⟩
 rw [List.take_succ_cons] at ht ⊢
 refine ⟨⟨c, r.take m, rfl, f1⟩, fun v hv hs => ?_⟩
 have ha := nameL_app (c :: r.take m) v hv
 rw [ht] at ha
 have hlen : (c :: r.take m).length = m + 1 := by
  simp only [List.length_cons] at hle ⊢
  rw [List.length_take]; omega
 have htk : (c :: r.take m ++ v).take (m + 1) = c :: r.take m := by rw [← hlen]; exact List.take_left
 rw [List.cons_append] at ha htk ⊢
 rw [fdL_cons c (r.take m ++ v) (head_open c _ f2), if_pos h, ha, hm, htk, hl, hlen]
 rfl
theorem nrd_len (d : Int) : ∀ (n0 : Nat) (u : B) (acc : B) (n : Nat), u.length ≤ n0 → (nrd d acc n u).2.2 = 0 → ∃ K : Nat, (nrd d acc n u).2.1 = (K : Int) ∧ (nrd d acc n u).1.size + n + (nend d).length ≤ K + acc.length := by
 intro n0
 induction n0 with
 | zero =>
  intro u acc n hu h
  obtain rfl : u = [] := List.eq_nil_of_length_eq_zero (by omega)
  rw [nrd_nil] at h
  exact no8 h
 | succ n0 ih =>
  intro u acc n hu h
  have fin : ∀ (c : UInt8) (r : B), (nend d).isPrefixOf (c :: r) = true → ∃ K : Nat, (nrd d acc n (c :: r)).2.1 = (K : Int) ∧ (nrd d acc n (c :: r)).1.size + n + (nend d).length ≤ K + acc.length := by
   intro c r hp
   rw [nrd_end d acc n c r hp]
   refine ⟨n + (nend d).length, rfl, ?_⟩
   show acc.toArray.size + n + (nend d).length ≤ _
   simp; omega
  have chr : ∀ (c : UInt8) (r : B), r.length ≤ n0 → ¬ (nend d).isPrefixOf (c :: r) = true → ¬ c.toNat = 92 → (nrd d acc n (c :: r)).2.2 = 0 → ∃ K : Nat, (nrd d acc n (c :: r)).2.1 = (K : Int) ∧ (nrd d acc n (c :: r)).1.size + n + (nend d).length ≤ K + acc.length := by
   intro c r hr hp h92 h
   rw [nrd_ch d acc n c r hp h92] at h ⊢
   by_cases hn : nright c = true
   ·rw [if_pos hn] at h ⊢
    by_cases hl : acc.length = 1024
    ·rw [if_pos hl] at h; exact no3 h
    ·rw [if_neg hl] at h ⊢
     obtain ⟨K, e1, e2⟩ := ih r (acc ++ [c]) (n + 1) hr h
     rw [List.length_append, List.length_singleton] at e2
     exact ⟨K, e1, by omega⟩
   ·rw [if_neg hn] at h; exact no8 h
  match u, hu, h with
  | [], _, h => rw [nrd_nil] at h; exact no8 h
  | [c], hu, h =>
   by_cases hp : (nend d).isPrefixOf [c] = true
   ·exact fin c [] hp
   ·by_cases h92 : c.toNat = 92
    ·rw [nrd_92nil d acc n c hp h92] at h; exact no8 h
    ·exact chr c [] (by simp) hp h92 h
  | c :: q :: r, hu, h =>
   by_cases hp : (nend d).isPrefixOf (c :: q :: r) = true
   ·exact fin c (q :: r) hp
   ·by_cases h92 : c.toNat = 92
    ·rw [nrd_92 d acc n c q r hp h92] at h ⊢
     by_cases hq : isq d q = true
     ·rw [if_pos hq] at h ⊢
      by_cases hl : acc.length = 1024
      ·rw [if_pos hl] at h; exact no3 h
      ·rw [if_neg hl] at h ⊢
       obtain ⟨K, e1, e2⟩ := ih r (acc ++ [q]) (n + 2) (by simp at hu; omega) h
       rw [List.length_append, List.length_singleton] at e2
       exact ⟨K, e1, by omega⟩
     ·rw [if_neg hq] at h; exact no8 h
    ·exact chr c (q :: r) (by simp at hu ⊢; omega) hp h92 h
/-! ### All of them -/
theorem valI_lt (l : B) (h : ∀ b ∈ l, 48 ≤ b.toNat ∧ b.toNat ≤ 57) : 0 ≤ valI l ∧ valI l < (10 : Int) ^ l.length := by
 have key : ∀ (n : Nat) (l : B), l.length = n → (∀ b ∈ l, 48 ≤ b.toNat ∧ b.toNat ≤ 57) → 0 ≤ valI l ∧ valI l < (10 : Int) ^ n := by
  intro n
  induction n with
  | zero =>
   intro l hl _
   obtain rfl : l = [] := List.eq_nil_of_length_eq_zero hl
   decide
  | succ n ih =>
   intro l hl h
   have hne : l ≠ [] := by rintro rfl; simp at hl
   have e := (List.dropLast_concat_getLast hne).symm
   obtain ⟨h1, h2⟩ := ih l.dropLast (by rw [List.length_dropLast]; omega) (fun b hb => h b (List.dropLast_subset l hb))
   have h3 := h (l.getLast hne) (List.getLast_mem hne)
   rw [e, valI_snoc, Int.pow_succ]
   omega
 exact key _ l rfl h
theorem dec_len (k n : Nat) (hk : 1 ≤ k) (h : n < 10 ^ k) : (Lib.decDigits n).length ≤ k := by
 induction k generalizing n with
 | zero => omega
 | succ k ih =>
  rw [Lib.decDigits]
  by_cases h10 : n < 10
  ·rw [dif_pos h10]; simp
  ·rw [dif_neg h10]
   have hk1 : 1 ≤ k := by
    rcases k with _ | k
    ·simp at h; omega
    ·omega
   have := ih (n / 10) hk1 (by rw [Nat.pow_succ] at h; omega)
   simp; omega
theorem num_facts (l : B) (h0 : (num (mk l)).2 = 0) : 0 ≤ (num (mk l)).1 ∧ (num (mk l)).1 ≤ 9223372036854775807 ∧ (Lib.itoa (num (mk l)).1).length ≤ l.length := by
 unfold num at h0 ⊢
 by_cases c1 : (mk l).size = 0 ∨ digs (mk l) = false
 ·rw [if_pos c1] at h0; exact absurd h0 (by decide)
 ·rw [if_neg c1] at h0 ⊢
  have hs : l.length ≠ 0 := fun e => c1 (.inl (by rw [mk_size]; exact e))
  have hd : digs (mk l) = true := by
   cases hd : digs (mk l) with
   | true => rfl
   | false => exact absurd (.inr hd) c1
  by_cases c2 : vl (mk l) (mk l).size > 9223372036854775807
  ·rw [if_pos c2] at h0; exact absurd h0 (by decide)
  ·rw [if_neg c2]
   have hv := vl_take (mk l) (mk l).size (Nat.le_refl _)
   rw [mk_data, mk_size, List.take_length] at hv
   rw [mk_size] at c2 ⊢
   have hdig : ∀ b ∈ l, 48 ≤ b.toNat ∧ b.toNat ≤ 57 := by
    unfold digs at hd
    rw [mk_data, List.all_eq_true] at hd
    intro b hb
    have := hd b hb
    simpa using this
   obtain ⟨v0, v1⟩ := valI_lt l hdig
   rw [hv] at c2 ⊢
   refine ⟨v0, by omega, ?_⟩
   show (Lib.itoa (valI l)).length ≤ _
   obtain ⟨m, hm⟩ := Int.eq_ofNat_of_zero_le v0
   rw [hm] at v1 ⊢
   have hi : Lib.itoa (m : Int) = Lib.decDigits m := by
    unfold Lib.itoa
    rw [if_neg (by omega), Int.toNat_natCast]
   rw [hi]
   refine dec_len _ _ (by omega) ?_
   have : ((10 ^ l.length : Nat) : Int) = (10 : Int) ^ l.length := by simp
   omega
theorem wordKind_12 (b : Bool) : wordKind b = 1 ∨ wordKind b = 2 := by cases b <;> simp [wordKind]
theorem textOf_name (b : Bool) (t : ByteArray) (n : Int) : textOf (wordKind b, t, n) = t.data.toList := by
 unfold textOf
 rw [if_pos]
 rcases wordKind_12 b with h | h
 ·exact .inl h
 ·exact .inr (.inl h)
/-- Each token's text is read as it. -/
theorem tok_ok (c : UInt8) (r : B) (hs : (c :: r).length ≤ 900000) (h0 : (fdL (c :: r)).e = 0) :
  okTok (bare (fdL (c :: r))) (textOf (bare (fdL (c :: r)))) ∧ (textOf (bare (fdL (c :: r)))).length ≤ 2 * (fdL (c :: r)).k ∧ 1 ≤ (fdL (c :: r)).kind ∧ (fdL (c :: r)).kind ≤ 6 := by
 by_cases hp : openL.isPrefixOf (c :: r) = true
 ·obtain ⟨r2, hr⟩ := note_open _ hp
  rw [hr] at hs h0 ⊢
  have hn := noteAt_L r2 (by simp at hs; omega)
  rw [fdL_note, hn] at h0 ⊢
  obtain ⟨_, a, e1, e2, e3⟩ := nrd_app [] r2.length r2 [] 2 (Nat.le_refl _) h0
  obtain ⟨K, e4, e5⟩ := nrd_len 1 r2.length r2 [] 2 (Nat.le_refl _) h0
  rw [e1] at e5
  rw [mk_size] at e5
  have ht := tok_note a (by rw [e2]; rfl) (e3 (by simp))
  unfold bare
  rw [e1, e4]
  have et : textOf (6, mk a, 0) = nopen 1 ++ nbody 1 a ++ nend 1 := by
   rw [textOf_6, mk_data]
  have hb := nbody_len 1 a
  refine ⟨by show okTok (6, mk a, 0) (textOf (6, mk a, 0)); rw [et]; exact ht, ?_, by show (1 : Int) ≤ 6; decide, by show (6 : Int) ≤ 6; decide⟩
  show (textOf (6, mk a, 0)).length ≤ 2 * (K : Int).toNat
  rw [et, List.length_append, List.length_append, Int.toNat_natCast]
  have h2 : (nopen 1).length = 2 := rfl
  have h3 : (nend 1).length = 2 := rfl
  simp only [List.length_nil] at e5
  omega
 ·rw [fdL_cons c r hp] at h0 ⊢
  by_cases c1 : inC smallS c = true
  ·rw [if_pos c1] at h0 ⊢
   have hl : (nameL (c :: r)).2 = false := by
    cases h : (nameL (c :: r)).2 with
    | false => rfl
    | true => rw [h] at h0; exact absurd h0 (show ¬ (3 : Int) = 0 by decide)
   have ht := tok_name c r c1 hl
   have hle := nameL_le (c :: r)
   have hk := wordKind_12 (mem (lst 1) (mk ((c :: r).take (nameL (c :: r)).1)))
   unfold bare
   refine ⟨?_, ?_, ?_, ?_⟩
   ·show okTok (wordKind _, _, 0) (textOf (wordKind _, _, 0))
    rw [textOf_name, mk_data]
    exact ht
   ·show (textOf (wordKind _, _, 0)).length ≤ 2 * (nameL (c :: r)).1
    rw [textOf_name, mk_data, List.length_take]
    omega
   ·show 1 ≤ wordKind _
    rcases hk with h | h <;> rw [h] <;> decide
   ·show wordKind _ ≤ 6
    rcases hk with h | h <;> rw [h] <;> decide
  ·rw [if_neg c1] at h0 ⊢
   by_cases c2 : inC digSet c = true
   ·rw [if_pos c2] at h0 ⊢
    obtain ⟨n0, n1, n2⟩ := num_facts _ h0
    have hle := run_le (inC digSet) (c :: r)
    have ht := tok_int _ n0 n1
    unfold bare
    have et : ∀ n : Int, textOf (3, ⟨#[]⟩, n) = Lib.itoa n := fun n => textOf_3 _ n
    refine ⟨?_, ?_, by show (1 : Int) ≤ 3; decide, by show (3 : Int) ≤ 6; decide⟩
    ·show okTok (3, ⟨#[]⟩, _) (textOf (3, ⟨#[]⟩, _))
     rw [et]; exact ht
    ·show (textOf (3, ⟨#[]⟩, _)).length ≤ 2 * run (inC digSet) (c :: r)
     rw [et]
     rw [List.length_take] at n2
     refine Nat.le_trans n2 ?_
     omega
   ·rw [if_neg c2] at h0 ⊢
    by_cases c3 : c.toNat = 39
    ·rw [if_pos c3] at h0 ⊢
     cases hq : qtL (c :: r) with
     | none => rw [hq] at h0; exact absurd h0 (show ¬ (7 : Int) = 0 by decide)
     | some p =>
      obtain ⟨n, j⟩ := p
      obtain ⟨n0, n1, n2⟩ := qtL_range _ n j hq
      obtain ⟨m, rfl⟩ := Int.eq_ofNat_of_zero_le n0
      have ht := tok_char m (by omega)
      have et : textOf (4, ⟨#[]⟩, (m : Int)) = charT m := by
       rw [textOf_4, Int.toNat_natCast]
      have hc := charT_len m
      unfold bare
      refine ⟨?_, ?_, by show (1 : Int) ≤ 4; decide, by show (4 : Int) ≤ 6; decide⟩
      ·show okTok (4, ⟨#[]⟩, (m : Int)) (textOf (4, ⟨#[]⟩, (m : Int)))
       rw [et]; exact ht
      ·show (textOf (4, ⟨#[]⟩, (m : Int))).length ≤ 2 * (0 + j)
       rw [et]; omega
    ·rw [if_neg c3] at h0 ⊢
     cases hq : signsL.find? (fun t => t.data.toList.isPrefixOf (c :: r)) with
     | none => rw [hq] at h0; exact absurd h0 (show ¬ (5 : Int) = 0 by decide)
     | some t =>
      have hm := List.mem_of_find?_eq_some hq
      have ht := tok_sign t hm
      have et : textOf (5, t, 0) = t.data.toList := by
       exact textOf_5 _ _
      unfold bare
      refine ⟨?_, ?_, by show (1 : Int) ≤ 5; decide, by show (5 : Int) ≤ 6; decide⟩
      ·show okTok (5, t, 0) (textOf (5, t, 0))
       rw [et]; exact ht
      ·show (textOf (5, t, 0)).length ≤ 2 * (0 + t.size)
       rw [et, data_length]; omega
end Go.Proofs.YtidicpngmildkaaDoor.Pl
set_option linter.unusedVariables false
set_option linter.unusedSimpArgs false
namespace Go.Proofs.YtidicpngmildkaaDoor.Pl
open Go.RowKit Go.Proofs.YtidicpngmildkaaDoorW.PrintWords Go.Proofs.YtidicpngmildkaaDoorW.PrintLast Go.Proofs.YtidicpngmildkaaDoorW.PrintMore Go.Proofs.YtidicpngmildkaaDoor.R Go.Proofs.YtidicpngmildkaaDoor.Tx Go.Proofs.YtidicpngmildkaaDoor.Pn
open Go.Proofs.YtidicpngmildkaaDoor.Wd (mem lst is_any)
def bareT (t : Tok) : Bt := (t.f0, t.f1, t.f2)
theorem dw_run (u : B) : u.dropWhile blank = u.drop (run blank u) := by
 induction u with
 | nil => rfl
 | cons c u ih =>
  rw [List.dropWhile_cons, run_cons]
  by_cases h : blank c = true
  ·rw [if_pos h, if_pos h, ih]; rfl
  ·rw [if_neg h, if_neg h]; rfl
/-- Where tokens stand: from a byte on, the line in which the last one ended. -/
def Chain (s : ByteArray) : List Tok → Nat → Int → Prop
 | [], _, _ => False
 | t :: l, k, last => ∃ q, k ≤ q ∧ q ≤ s.size ∧ t.f4 = ⟨q, ln s q, cl s q⟩ ∧ t.f3 = (last == (ln s q : Int)) ∧ ((t.f0 = 0 ∧ q = s.size ∧ l = []) ∨ (t.f0 ≠ 0 ∧ ∃ k', q < k' ∧ k' ≤ s.size ∧ Chain s l k' (ln s k')))
theorem lexG_L (s : ByteArray) (hs : s.size ≤ 900000) : ∀ (f k : Nat) (l : List Tok) (last : Int), k ≤ s.size → s.size - k < f →
  (∃ l', lexL f (s.data.toList.drop k) = .ok (l'.map bareT) ∧ lexG s f k l last = .ok (l ++ l') ∧ Chain s l' k last ∧ l'.length ≤ s.size - k + 1) ∨ (∃ c r, lexL f (s.data.toList.drop k) = .bad c r ∧ r ≤ s.size - k ∧ lexG s f k l last = .bad c (s.size - r) ∧ c ≠ 0) := by
 intro f
 induction f with
 | zero => intro k l last _ h; omega
 | succ f ih =>
  intro k l last hk hf
  have hdl : (s.data.toList.drop k).length = s.size - k := by rw [List.length_drop, data_length]
  have hw : whN s blankS k = run blank (s.data.toList.drop k) := whN_run s blankS k
  have hrl := run_le blank (s.data.toList.drop k)
  obtain ⟨q, hq⟩ : ∃ q, q = k + run blank (s.data.toList.drop k) := ⟨_, rfl⟩
  have hdw : (s.data.toList.drop k).dropWhile blank = s.data.toList.drop q := by rw [dw_run, List.drop_drop, hq]
  have hqs : q ≤ s.size := by omega
  rw [lexL, lexG, hdw, hw, ← hq]
  by_cases hlt : q < s.size
  ·obtain ⟨c, r, h1, _, _⟩ := bt_drop s q hlt
   have hne : s.data.toList.drop q ≠ [] := by rw [h1]; simp
   have hfd := fd_L s q hlt
   have hql : (s.data.toList.drop q).length = s.size - q := by rw [List.length_drop, data_length]
   have htok := tok_ok c r (by rw [← h1, hql]; omega)
   rw [← h1] at htok
   rw [if_neg hne, if_pos hlt, hfd]
   have hse : (shift q (fdL (s.data.toList.drop q))).e = (fdL (s.data.toList.drop q)).e := rfl
   rw [hse]
   by_cases h0 : (fdL (s.data.toList.drop q)).e = 0
   ·obtain ⟨_, _, hk1, _⟩ := htok h0
    have hle := fdL_le _ hne (by omega) h0
    rw [if_pos h0, if_pos h0]
    have hd2 : (s.data.toList.drop q).drop (fdL (s.data.toList.drop q)).k = s.data.toList.drop (q + (fdL (s.data.toList.drop q)).k) := by rw [List.drop_drop]
    rw [hd2]
    generalize hD : fdL (s.data.toList.drop q) = D at *
    obtain ⟨k', hk'⟩ : ∃ k', k' = q + D.k := ⟨_, rfl⟩
    have hk2 : (shift q D).k = k' := by rw [hk']; rfl
    rw [hk2, ← hk']
    rcases ih k' (l ++ [tkAt (shift q D) last s q]) (ln s k') (by omega) (by omega) with ⟨l', e1, e2, e3, e4⟩ | ⟨c, r, e1, e2, e3, e4⟩
    ·left
     refine ⟨tkAt (shift q D) last s q :: l', ?_, ?_, ?_, by simp only [List.length_cons]; omega⟩
     ·rw [e1]; rfl
     ·rw [e2]; simp
     ·refine ⟨q, by omega, hqs, rfl, rfl, .inr ⟨?_, k', by omega, by omega, e3⟩⟩
      show D.kind ≠ 0
      omega
    ·right
     refine ⟨c, r, ?_, by omega, ?_, e4⟩
     ·rw [e1]; rfl
     ·exact e3
   ·right
    rw [if_neg h0, if_neg h0]
    refine ⟨_, _, rfl, by omega, ?_, h0⟩
    show LexR.bad _ q = LexR.bad _ (s.size - (s.data.toList.drop q).length)
    rw [hql, show s.size - (s.size - q) = q by omega]
  ·have hqe : q = s.size := by omega
   rw [if_pos (drop_past s q (by omega)), if_neg hlt]
   left
   refine ⟨[tkAt ⟨0, 0, ⟨#[]⟩, 0, 0⟩ last s q], rfl, rfl, ?_, by simp⟩
   exact ⟨q, by omega, hqs, rfl, rfl, .inl ⟨rfl, hqe, rfl⟩⟩
/-- What All lays: bare, and where. -/
theorem lexA_L (s : ByteArray) (hs : s.size ≤ 900000) (f : Nat) (hf : s.size < f) :
  (∃ l, lexL f s.data.toList = .ok (l.map bareT) ∧ lexA s = .ok l ∧ Chain s l 0 (-1) ∧ l.length ≤ s.size + 1) ∨ (∃ c r, lexL f s.data.toList = .bad c r ∧ r ≤ s.size ∧ lexA s = .bad c (s.size - r) ∧ c ≠ 0) := by
 have h := lexG_L s hs (s.size + 1) 0 [] (-1) (Nat.zero_le _) (by omega)
 rw [List.drop_zero] at h
 have e := lexL_fuel f (s.size + 1) s.data.toList (by rw [data_length]; exact hf) (by rw [data_length]; omega) (by rw [data_length]; exact hs)
 rw [e]
 simp only [List.nil_append, Nat.sub_zero] at h
 exact h
theorem ln_mono (s : ByteArray) (a : Nat) : ∀ b, a ≤ b → ln s a ≤ ln s b := by
 intro b
 induction b with
 | zero =>
  intro h
  have : a = 0 := by omega
  rw [this]
  exact Nat.le_refl _
 | succ b ih =>
  intro h
  rcases Nat.lt_or_ge b a with h1 | h1
  ·obtain rfl : a = b + 1 := by omega
   exact Nat.le_refl _
  ·refine Nat.le_trans (ih h1) ?_
   rw [ln]
   split <;> omega
end Go.Proofs.YtidicpngmildkaaDoor.Pl
set_option linter.unusedVariables false
set_option linter.unusedSimpArgs false
namespace Go.Proofs.YtidicpngmildkaaDoor.Fm
open Go.RowKit Go.Proofs.YtidicpngmildkaaDoorW.PrintWords Go.Proofs.YtidicpngmildkaaDoorW.PrintLast Go.Proofs.YtidicpngmildkaaDoorW.PrintMore Go.Proofs.YtidicpngmildkaaDoor.R Go.Proofs.YtidicpngmildkaaDoor.Tx
open Go.Proofs.YtidicpngmildkaaDoor.Wd (mem lst is_any)
theorem wp_gen {P : Program} {c : Code} {Q : Exit → Act → World → Prop} {a : Act} {w : World} (p : World → Prop) (h : p w) (k : ∀ w', p w' → c.wp P Q a w') : c.wp P Q a w := k w h
def bareS (t : Tok) : Tok := ⟨t.f0, t.f1, t.f2, false, ⟨0, 0, 0⟩⟩
def C7 (b : Nat) (t : Tok) (W : World) : Prop := W.heap[b]? = some (.cells #[.int .i64 t.f0, .string t.f1, .int .i64 t.f2, .bool t.f3, .int .i64 t.f4.f0, .int .i64 t.f4.f1, .int .i64 t.f4.f2] 35 (0, 0))
theorem C7.cells {b : Nat} {t : Tok} {W : World} (h : C7 b t W) : W.cell? ⟨b, 0, none⟩ = some (.int .i64 t.f0) ∧ W.cell? ⟨b, 1, none⟩ = some (.string t.f1) ∧ W.cell? ⟨b, 2, none⟩ = some (.int .i64 t.f2) ∧ W.cell? ⟨b, 3, none⟩ = some (.bool t.f3) ∧ W.cell? ⟨b, 4, none⟩ = some (.int .i64 t.f4.f0) ∧ W.cell? ⟨b, 5, none⟩ = some (.int .i64 t.f4.f1) ∧ W.cell? ⟨b, 6, none⟩ = some (.int .i64 t.f4.f2) :=
 ⟨(blk_cell h 0).trans rfl, (blk_cell h 1).trans rfl, (blk_cell h 2).trans rfl, (blk_cell h 3).trans rfl, (blk_cell h 4).trans rfl, (blk_cell h 5).trans rfl, (blk_cell h 6).trans rfl⟩
theorem rd_T_map (l : List Tok) (k : Nat) (hk : k < l.length) : rd_T35 l (k : Int) = l[k] := by
 show l.getD (k : Int).toNat _ = _
 simp [hk]
theorem take_map (l : List Tok) (k : Nat) (hk : k < l.length) : (l.take (k + 1)).map bareS = (l.take k).map bareS ++ [bareS l[k]] := by
 rw [List.take_succ_eq_append_getElem hk, List.map_append]; rfl
def BrRel (w : World) (l : List Tok) (v i : Value) (wr : World) : Prop :=
 ∃ k : Nat, i = .int .i64 k ∧ k ≤ l.length ∧ Kd.R kTok 35 wr w.heap.size (fun _ => True) v ((l.take k).map bareS) ∧ Below w.heap.size w wr
set_option maxHeartbeats 8000000 in
set_option maxRecDepth 1000000 in
theorem bare_any (A : Option Addr) (c : Nat) (l : List Tok) (w : World) (hr : Kd.C kTok w A l.length l) (hl : l.length ≤ 1000000) :
  Calls Tryd.prog 11 #[.slice A l.length c] w fun e w' => ∃ v, e = .returned v ∧ Kd.R kTok 35 w' w.heap.size (fun _ => True) v (l.map bareS) ∧ Below w.heap.size w w' := by
 have HR := Lib.hid hr
 clear hr
 go_enter Tryd.func11, Tryd.ntmps11
 go_wp2
 go_loopw [3, 4] (fun v i wr => BrRel w l v i wr) (fun _ i _ => l.length + 1 - (intOf i).toNat)
 case atStart => exact ⟨0, rfl, Nat.zero_le _, Kd.R_nil _ _ _ _ _, Below.refl _ _⟩
 case round =>
  obtain ⟨k, rfl, hk, hR, hB⟩ := hrel
  have HRow := Lib.hid hR
  have HB := Lib.hid hB
  clear hR hB
  by_cases hlt : k < l.length
  ·have hd1 : decide ((k : Int) < (l.length : Int)) = true := decide_eq_true (by omega)
   obtain ⟨t, ht⟩ : ∃ t, t = l[k] := ⟨_, rfl⟩
   have hrd := (rd_T_map l k hlt).trans ht.symm
   obtain ⟨ad, rfl, x0, x1, x2, x3, x4, x5, x6⟩ := at_T35 (Kd.C_below HR.out HB.out) (k : Int) (by omega) (by omega)
   rw [hrd, Int.toNat_natCast] at x0 x1 x2 x3 x4 x5 x6
   have HT := Lib.hid ht
   clear ht hrd
   have HTK := Lib.hid (take_map l k hlt)
   have HBA := Lib.hid (below_alloc HB.out (.cells #[.int .i64 t.f0, .string t.f1, .int .i64 t.f2, .bool false, .int .i64 0, .int .i64 0, .int .i64 0] 35))
   have hll : ((l.take k).map bareS).length ≤ 1000000 := by rw [List.length_map, List.length_take]; omega
   have HLL := Lib.hid hll
   clear hll
   go_wp2_with (first | ((with_reducible refine gate_builtin (b := .append) (xs := #[.tmp 19, .tmp 21]) rfl ?_); at_builtin; go_must (refine Kd.R_append kTok (w0 := w) w.heap.size rfl (.tmp 19) (.tmp 21) 24 35 (.agg #[.int .i64 0, .string ⟨#[]⟩, .int .i64 0, .bool false, .int .i64 0, .int .i64 0, .int .i64 0]) 64 rfl Tryd.underlying24 infoTok rfl (by decide) (by omega) u3 ((l.take k).map bareS) (bareS t) [.int .i64 t.f0, .string t.f1, .int .i64 t.f2, .bool false, .int .i64 0, .int .i64 0, .int .i64 0] (fun _ => True) (fun _ => False) rfl ?aZ ?aP (fun _ hk => hk.elim) (fun _ _ => trivial) ?aO ?aB ?aS ?aL ?_); (case aZ => first | (go_simp; done) | (go_simp; rfl)); (case aO => exact (Kd.R_alloc HRow.out _)); (case aB => exact HBA.out); (case aS => exact HBA.out.size); (case aP => exact k35_mkM _ _ _ (bareS t)); (case aL => have := HLL.out; omega); intro v7 w7 hR7 hb7 hg7 hat7; have HR7 := Lib.hid hR7; have HB7 := Lib.hid hb7; clear hR7 hb7 hg7 hat7))
   go_round
   ·exact ⟨k + 1, by simp, hlt, by rw [HTK.out, ← HT.out]; exact HR7.out, HB7.out⟩
   ·simp only [intOf]; omega
  ·obtain rfl : k = l.length := by omega
   have HTL := Lib.hid (show (l.take l.length).map bareS = l.map bareS from by rw [List.take_length])
   go_wp2
   go_ret
   exact ⟨_, rfl, by rw [← HTL.out]; exact HRow.out, HB.out⟩
end Go.Proofs.YtidicpngmildkaaDoor.Fm
set_option linter.unusedVariables false
set_option linter.unusedSimpArgs false
namespace Go.Proofs.YtidicpngmildkaaDoor.Fm
open Go.RowKit Go.Proofs.YtidicpngmildkaaDoorW.PrintWords Go.Proofs.YtidicpngmildkaaDoorW.PrintLast Go.Proofs.YtidicpngmildkaaDoorW.PrintMore Go.Proofs.YtidicpngmildkaaDoor.R Go.Proofs.YtidicpngmildkaaDoor.Tx Go.Proofs.YtidicpngmildkaaDoor.Pl
def u8c (b : UInt8) : Value := .int .u8 (b.toNat : Int)
theorem convL (W : World) (l : List UInt8) (hl : 0 < l.length) : (convert 22 9 (.slice (some ⟨W.heap.size, 0, none⟩) l.length l.length)).run Tryd.prog (W.alloc (.cells (l.map u8c).toArray 5)) = .ok (.string ⟨l.toArray⟩) (W.alloc (.cells (l.map u8c).toArray 5)) := by
 refine run_convert_bytes_back (W.alloc (.cells (l.map u8c).toArray 5)) 22 9 5 ⟨W.heap.size, 0, none⟩ l.length l Tryd.underlying22 Tryd.underlying5 Tryd.underlying9 ?_
 intro j hj
 have hb := alloc_new W (.cells (l.map u8c).toArray 5)
 have := (blk_cell hb (0 + j))
 have e : (⟨W.heap.size, 0, none⟩ : Addr).add j = ⟨W.heap.size, 0 + j, none⟩ := by simp [Addr.add]; omega
 rw [e, this, Nat.zero_add]
 simp [hj, u8c]
theorem hexd_at (a : Nat) (h : a < 16) : ((⟨#[48, 49, 50, 51, 52, 53, 54, 55, 56, 57, 97, 98, 99, 100, 101, 102]⟩ : ByteArray)[a]'h) = hexd a := by
 have : ∀ a : Fin 16, ((⟨#[48, 49, 50, 51, 52, 53, 54, 55, 56, 57, 97, 98, 99, 100, 101, 102]⟩ : ByteArray)[a.1]'a.2) = hexd a.1 := by decide
 exact this ⟨a, h⟩
def CtTo (l : List UInt8) (w : World) (e : Ending) (w' : World) : Prop := e = .returned (.string ⟨l.toArray⟩) ∧ Below w.heap.size w w'
theorem wr8 (c : Nat) (h : c < 256) : IntKind.u8.wrap (c : Int) = (c : Int) := by simp only [IntKind.wrap, IntKind.bits, IntKind.signed]; simp <;> omega
theorem u8n (c : Nat) (h : c < 256) : ((UInt8.ofNat c).toNat : Int) = (c : Int) := by rw [UInt8.toNat_ofNat']; omega
set_option maxHeartbeats 8000000 in
set_option maxRecDepth 1000000 in
theorem chartext_q1 (w : World) : Calls Tryd.prog 12 #[.int .i64 1, .int .i64 39] w (CtTo [39, 92, 39, 39] w) := by
 have hcv : (convert 22 9 (.slice (some ⟨w.heap.size, 0, none⟩) 2 2)).run Tryd.prog (w.alloc (.cells #[.int .u8 92, .int .u8 39] 5)) = .ok (.string ⟨#[92, 39]⟩) (w.alloc (.cells #[.int .u8 92, .int .u8 39] 5)) := convL w [92, 39] (by decide)
 have HB := Lib.hid (below_alloc (Below.refl w.heap.size w) (.cells #[.int .u8 92, .int .u8 39] 5))
 go_enter Tryd.func12, Tryd.ntmps12
 go_wp2
 go_ret
 exact ⟨rfl, HB.out⟩
set_option maxHeartbeats 8000000 in
set_option maxRecDepth 1000000 in
theorem chartext_q2 (w : World) : Calls Tryd.prog 12 #[.int .i64 1, .int .i64 92] w (CtTo [39, 92, 92, 39] w) := by
 have hcv : (convert 22 9 (.slice (some ⟨w.heap.size, 0, none⟩) 2 2)).run Tryd.prog (w.alloc (.cells #[.int .u8 92, .int .u8 92] 5)) = .ok (.string ⟨#[92, 92]⟩) (w.alloc (.cells #[.int .u8 92, .int .u8 92] 5)) := convL w [92, 92] (by decide)
 have HB := Lib.hid (below_alloc (Below.refl w.heap.size w) (.cells #[.int .u8 92, .int .u8 92] 5))
 go_enter Tryd.func12, Tryd.ntmps12
 go_wp2
 go_ret
 exact ⟨rfl, HB.out⟩
set_option maxHeartbeats 8000000 in
set_option maxRecDepth 1000000 in
theorem chartext_plain (c : Nat) (w : World) (h1 : 32 ≤ c) (h2 : c ≤ 126) (h3 : c ≠ 39) (h4 : c ≠ 92) : Calls Tryd.prog 12 #[.int .i64 1, .int .i64 (c : Int)] w (CtTo [39, UInt8.ofNat c, 39] w) := by
 have hc : c < 256 := by omega
 have hcv : (convert 22 9 (.slice (some ⟨w.heap.size, 0, none⟩) 1 1)).run Tryd.prog (w.alloc (.cells #[.int .u8 (c : Int)] 5)) = .ok (.string ⟨#[UInt8.ofNat c]⟩) (w.alloc (.cells #[.int .u8 (c : Int)] 5)) := by
  have := convL w [UInt8.ofNat c] (by simp)
  unfold u8c at this
  simp only [List.map_cons, List.map_nil, u8n c hc] at this
  exact this
 have hwr := wr8 c hc
 have b3 : ((c : Int) == 39) = false := by simp; omega
 have b4 : ((c : Int) == 92) = false := by simp; omega
 have d1 : decide (32 ≤ (c : Int)) = true := decide_eq_true (by omega)
 have d2 : decide ((c : Int) ≤ 126) = true := decide_eq_true (by omega)
 have HB := Lib.hid (below_alloc (Below.refl w.heap.size w) (.cells #[.int .u8 (c : Int)] 5))
 have HC := Lib.hid hc
 clear h3 h4 hc
 go_enter Tryd.func12, Tryd.ntmps12
 go_wp2
 go_ret
 exact ⟨rfl, HB.out⟩
set_option maxHeartbeats 8000000 in
set_option maxRecDepth 1000000 in
theorem chartext_hex (c : Nat) (w : World) (h0 : c < 256) (h1 : c < 32 ∨ 126 < c) : Calls Tryd.prog 12 #[.int .i64 1, .int .i64 (c : Int)] w (CtTo [39, 92, 120, hexd (c / 16), hexd (c % 16), 39] w) := by
 have b3 : ((c : Int) == 39) = false := by simp; omega
 have b4 : ((c : Int) == 92) = false := by simp; omega
 have hwr := wr8 c h0
 obtain ⟨a, ha⟩ : ∃ a, a = c / 16 := ⟨_, rfl⟩
 obtain ⟨b, hb⟩ : ∃ b, b = c % 16 := ⟨_, rfl⟩
 have a16 : a < 16 := by omega
 have b16 : b < 16 := by omega
 have hq : Int.tdiv (c : Int) 16 = (a : Int) := by rw [ha]; rfl
 have hr : Int.tmod (c : Int) 16 = (b : Int) := by rw [hb]; rfl
 have hq2 : (c : Int) / 16 = (a : Int) := by rw [ha]; rfl
 have hr2 : (c : Int) % 16 = (b : Int) := by rw [hb]; rfl
 have hwa := wr8 a (by omega)
 have hwb := wr8 b (by omega)
 rw [← ha, ← hb]
 have hxa := hexd_at a a16
 have hxb := hexd_at b b16
 have ia : (a : Int) < 16 := by omega
 have ib : (b : Int) < 16 := by omega
 have HHA := Lib.hid hxa
 have HHB := Lib.hid hxb
 have HA := Lib.hid ha
 have HBB := Lib.hid hb
 clear ha hb
 rcases h1 with h1 | h1
 ·have d1 : decide (32 ≤ (c : Int)) = false := decide_eq_false (by omega)
  go_enter Tryd.func12, Tryd.ntmps12
  go_wp2
  have HB0 := Lib.hid (below_drew (Below.refl w.heap.size w))
  clear hwr b3 b4 d1 h1 h0
  refine start_ (n := 11) (S := fun w' => True) (ds := []) #[ZZ,ZZ,ZZ,ZZ,ZZ,ZZ,ZZ,ZZ,ZZ,ZZ,ZZ] (by kernel_rfl) rfl rfl trivial (fun hHeld => ?_)
  generalize hwd : World.drew _ = wd at *
  refine pure_ (i := 0) (N := some 49) (v := ?_) (a' := ?_) #[YY,ZZ,ZZ,ZZ,ZZ,ZZ,ZZ,ZZ,ZZ,ZZ,ZZ] rfl rfl (by kernel_rfl) (fun _ _ _ h => h) (Or.inl ⟨by rfl, ?_⟩) ?_ ?_
  rotate_left
  ·intro w'
   go_simp
   with_reducible rfl
  rotate_left
  ·simp only [Act.put, List.setIfInBounds_toArray, List.set_cons_zero, List.set_cons_succ, i64_w, i32_w]
   rfl
  refine pure_ (i := 1) (N := some 50) (v := ?_) (a' := ?_) #[YY,YY,ZZ,ZZ,ZZ,ZZ,ZZ,ZZ,ZZ,ZZ,ZZ] rfl rfl (by kernel_rfl) (fun _ _ _ h => h) (Or.inl ⟨by rfl, ?_⟩) ?_ ?_
  rotate_left
  ·intro w'
   go_simp
   with_reducible rfl
  rotate_left
  ·simp only [Act.put, List.setIfInBounds_toArray, List.set_cons_zero, List.set_cons_succ, i64_w, i32_w]
   rfl
  refine pure_ (i := 3) (N := some 52) (v := ?_) (a' := ?_) #[YY,YY,ZZ,YY,ZZ,ZZ,ZZ,ZZ,ZZ,ZZ,ZZ] rfl rfl (by kernel_rfl) (fun _ _ _ h => h) (Or.inl ⟨by rfl, ?_⟩) ?_ ?_
  rotate_left
  ·intro w'
   go_simp
   with_reducible rfl
  rotate_left
  ·simp only [Act.put, List.setIfInBounds_toArray, List.set_cons_zero, List.set_cons_succ, i64_w, i32_w]
   rfl
  refine pure_ (i := 4) (N := some 53) (v := ?_) (a' := ?_) #[YY,YY,ZZ,YY,YY,ZZ,ZZ,ZZ,ZZ,ZZ,ZZ] rfl rfl (by kernel_rfl) (fun _ _ _ h => h) (Or.inl ⟨by rfl, ?_⟩) ?_ ?_
  rotate_left
  ·intro w'
   go_simp
   with_reducible rfl
  rotate_left
  ·simp only [Act.put, List.setIfInBounds_toArray, List.set_cons_zero, List.set_cons_succ, i64_w, i32_w]
   rfl
  refine take_ (i := 2) (N := some 51) (v := ?_) (a' := ?_) #[YY,YY,YY,YY,YY,ZZ,ZZ,ZZ,ZZ,ZZ,ZZ] rfl rfl (by kernel_rfl) (fun _ _ _ h => h) (Or.inl ⟨by rfl, ?_⟩) hHeld ?_ ?_
  rotate_left
  ·intro w' _
   go_simp
   with_reducible rfl
  rotate_left
  ·simp only [Act.put, List.setIfInBounds_toArray, List.set_cons_zero, List.set_cons_succ, i64_w, i32_w]
   rfl
  refine take_ (i := 5) (N := some 54) (v := ?_) (a' := ?_) #[YY,YY,YY,YY,YY,YY,ZZ,ZZ,ZZ,ZZ,ZZ] rfl rfl (by kernel_rfl) (fun _ _ _ h => h) (Or.inl ⟨by rfl, ?_⟩) hHeld ?_ ?_
  rotate_left
  ·intro w' _
   go_simp
   with_reducible rfl
  rotate_left
  ·simp only [Act.put, List.setIfInBounds_toArray, List.set_cons_zero, List.set_cons_succ, i64_w, i32_w]
   rfl
  refine one_ (i := 6) (N := some 55) #[YY,YY,YY,YY,YY,YY,YY,ZZ,ZZ,ZZ,ZZ] rfl rfl (by kernel_rfl) (by decide) (fun K hK => ?_)
  refine value_ (w1 := ?_) (v := ?_) (by rfl) rfl ?_ ?_
  rotate_left 2
  ·go_simp
   constructor
   ·rfl
   ·rfl
  have HB6 := Lib.hid (below_alloc HB0.out (.cells #[.int .u8 92, .int .u8 120, .int .u8 ((hexd a).toNat : Int), .int .u8 ((hexd b).toNat : Int)] 5))
  refine hK.out _ _ trivial (fun hHeld => ?_)
  clear hK K
  refine norm_ (a' := ?_) ?_ ?_
  rotate_left
  ·show Act.put _ (some 55) _ = _
   simp only [Act.put, List.setIfInBounds_toArray, List.set_cons_zero, List.set_cons_succ, i64_w, i32_w]
   rfl
  refine one_ (i := 7) (N := some 56) #[YY,YY,YY,YY,YY,YY,YY,YY,ZZ,ZZ,ZZ] rfl rfl (by kernel_rfl) (by decide) (fun K hK => ?_)
  have hcv : (convert 22 9 (.slice (some ⟨wd.heap.size, 0, none⟩) 4 4)).run Tryd.prog (wd.alloc (.cells #[.int .u8 92, .int .u8 120, .int .u8 ((hexd a).toNat : Int), .int .u8 ((hexd b).toNat : Int)] 5)) = .ok (.string ⟨#[92, 120, hexd a, hexd b]⟩) (wd.alloc (.cells #[.int .u8 92, .int .u8 120, .int .u8 ((hexd a).toNat : Int), .int .u8 ((hexd b).toNat : Int)] 5)) := convL wd [92, 120, hexd a, hexd b] (by simp)
  refine value_ (w1 := ?_) (v := ?_) (by rfl) rfl ?_ ?_
  rotate_left 2
  ·go_simp
   constructor
   ·rfl
   ·rfl
  clear hcv
  refine hK.out _ _ trivial (fun hHeld => ?_)
  clear hK K
  refine norm_ (a' := ?_) ?_ ?_
  rotate_left
  ·show Act.put _ (some 56) _ = _
   simp only [Act.put, List.setIfInBounds_toArray, List.set_cons_zero, List.set_cons_succ, i64_w, i32_w]
   rfl
  refine pure_ (i := 8) (N := some 57) (v := ?_) (a' := ?_) #[YY,YY,YY,YY,YY,YY,YY,YY,YY,ZZ,ZZ] rfl rfl (by kernel_rfl) (fun _ _ _ h => h) (Or.inl ⟨by rfl, ?_⟩) ?_ ?_
  rotate_left
  ·intro w'
   go_simp
   with_reducible rfl
  rotate_left
  ·simp only [Act.put, List.setIfInBounds_toArray, List.set_cons_zero, List.set_cons_succ, i64_w, i32_w]
   rfl
  refine pure_ (i := 9) (N := some 58) (v := ?_) (a' := ?_) #[YY,YY,YY,YY,YY,YY,YY,YY,YY,YY,ZZ] rfl rfl (by kernel_rfl) (fun _ _ _ h => h) (Or.inl ⟨by rfl, ?_⟩) ?_ ?_
  rotate_left
  ·intro w'
   go_simp
   with_reducible rfl
  rotate_left
  ·simp only [Act.put, List.setIfInBounds_toArray, List.set_cons_zero, List.set_cons_succ, i64_w, i32_w]
   rfl
  refine pure_ (i := 10) (N := some 4) (v := ?_) (a' := ?_) #[YY,YY,YY,YY,YY,YY,YY,YY,YY,YY,YY] rfl rfl (by kernel_rfl) (fun _ _ _ h => h) (Or.inl ⟨by rfl, ?_⟩) ?_ ?_
  rotate_left
  ·intro w'
   go_simp
   with_reducible rfl
  rotate_left
  ·simp only [Act.put, List.setIfInBounds_toArray, List.set_cons_zero, List.set_cons_succ, i64_w, i32_w]
   rfl
  refine done_ (by kernel_rfl) ?_
  go_wp2
  go_ret
  exact ⟨rfl, HB6.out⟩
 ·have d1 : decide (32 ≤ (c : Int)) = true := decide_eq_true (by omega)
  have d2 : decide ((c : Int) ≤ 126) = false := decide_eq_false (by omega)
  go_enter Tryd.func12, Tryd.ntmps12
  go_wp2
  have HB0 := Lib.hid (below_drew (Below.refl w.heap.size w))
  clear hwr b3 b4 d1 d2 h1 h0
  refine start_ (n := 11) (S := fun w' => True) (ds := []) #[ZZ,ZZ,ZZ,ZZ,ZZ,ZZ,ZZ,ZZ,ZZ,ZZ,ZZ] (by kernel_rfl) rfl rfl trivial (fun hHeld => ?_)
  generalize hwd : World.drew _ = wd at *
  refine pure_ (i := 0) (N := some 49) (v := ?_) (a' := ?_) #[YY,ZZ,ZZ,ZZ,ZZ,ZZ,ZZ,ZZ,ZZ,ZZ,ZZ] rfl rfl (by kernel_rfl) (fun _ _ _ h => h) (Or.inl ⟨by rfl, ?_⟩) ?_ ?_
  rotate_left
  ·intro w'
   go_simp
   with_reducible rfl
  rotate_left
  ·simp only [Act.put, List.setIfInBounds_toArray, List.set_cons_zero, List.set_cons_succ, i64_w, i32_w]
   rfl
  refine pure_ (i := 1) (N := some 50) (v := ?_) (a' := ?_) #[YY,YY,ZZ,ZZ,ZZ,ZZ,ZZ,ZZ,ZZ,ZZ,ZZ] rfl rfl (by kernel_rfl) (fun _ _ _ h => h) (Or.inl ⟨by rfl, ?_⟩) ?_ ?_
  rotate_left
  ·intro w'
   go_simp
   with_reducible rfl
  rotate_left
  ·simp only [Act.put, List.setIfInBounds_toArray, List.set_cons_zero, List.set_cons_succ, i64_w, i32_w]
   rfl
  refine pure_ (i := 3) (N := some 52) (v := ?_) (a' := ?_) #[YY,YY,ZZ,YY,ZZ,ZZ,ZZ,ZZ,ZZ,ZZ,ZZ] rfl rfl (by kernel_rfl) (fun _ _ _ h => h) (Or.inl ⟨by rfl, ?_⟩) ?_ ?_
  rotate_left
  ·intro w'
   go_simp
   with_reducible rfl
  rotate_left
  ·simp only [Act.put, List.setIfInBounds_toArray, List.set_cons_zero, List.set_cons_succ, i64_w, i32_w]
   rfl
  refine pure_ (i := 4) (N := some 53) (v := ?_) (a' := ?_) #[YY,YY,ZZ,YY,YY,ZZ,ZZ,ZZ,ZZ,ZZ,ZZ] rfl rfl (by kernel_rfl) (fun _ _ _ h => h) (Or.inl ⟨by rfl, ?_⟩) ?_ ?_
  rotate_left
  ·intro w'
   go_simp
   with_reducible rfl
  rotate_left
  ·simp only [Act.put, List.setIfInBounds_toArray, List.set_cons_zero, List.set_cons_succ, i64_w, i32_w]
   rfl
  refine take_ (i := 2) (N := some 51) (v := ?_) (a' := ?_) #[YY,YY,YY,YY,YY,ZZ,ZZ,ZZ,ZZ,ZZ,ZZ] rfl rfl (by kernel_rfl) (fun _ _ _ h => h) (Or.inl ⟨by rfl, ?_⟩) hHeld ?_ ?_
  rotate_left
  ·intro w' _
   go_simp
   with_reducible rfl
  rotate_left
  ·simp only [Act.put, List.setIfInBounds_toArray, List.set_cons_zero, List.set_cons_succ, i64_w, i32_w]
   rfl
  refine take_ (i := 5) (N := some 54) (v := ?_) (a' := ?_) #[YY,YY,YY,YY,YY,YY,ZZ,ZZ,ZZ,ZZ,ZZ] rfl rfl (by kernel_rfl) (fun _ _ _ h => h) (Or.inl ⟨by rfl, ?_⟩) hHeld ?_ ?_
  rotate_left
  ·intro w' _
   go_simp
   with_reducible rfl
  rotate_left
  ·simp only [Act.put, List.setIfInBounds_toArray, List.set_cons_zero, List.set_cons_succ, i64_w, i32_w]
   rfl
  refine one_ (i := 6) (N := some 55) #[YY,YY,YY,YY,YY,YY,YY,ZZ,ZZ,ZZ,ZZ] rfl rfl (by kernel_rfl) (by decide) (fun K hK => ?_)
  refine value_ (w1 := ?_) (v := ?_) (by rfl) rfl ?_ ?_
  rotate_left 2
  ·go_simp
   constructor
   ·rfl
   ·rfl
  have HB6 := Lib.hid (below_alloc HB0.out (.cells #[.int .u8 92, .int .u8 120, .int .u8 ((hexd a).toNat : Int), .int .u8 ((hexd b).toNat : Int)] 5))
  refine hK.out _ _ trivial (fun hHeld => ?_)
  clear hK K
  refine norm_ (a' := ?_) ?_ ?_
  rotate_left
  ·show Act.put _ (some 55) _ = _
   simp only [Act.put, List.setIfInBounds_toArray, List.set_cons_zero, List.set_cons_succ, i64_w, i32_w]
   rfl
  refine one_ (i := 7) (N := some 56) #[YY,YY,YY,YY,YY,YY,YY,YY,ZZ,ZZ,ZZ] rfl rfl (by kernel_rfl) (by decide) (fun K hK => ?_)
  have hcv : (convert 22 9 (.slice (some ⟨wd.heap.size, 0, none⟩) 4 4)).run Tryd.prog (wd.alloc (.cells #[.int .u8 92, .int .u8 120, .int .u8 ((hexd a).toNat : Int), .int .u8 ((hexd b).toNat : Int)] 5)) = .ok (.string ⟨#[92, 120, hexd a, hexd b]⟩) (wd.alloc (.cells #[.int .u8 92, .int .u8 120, .int .u8 ((hexd a).toNat : Int), .int .u8 ((hexd b).toNat : Int)] 5)) := convL wd [92, 120, hexd a, hexd b] (by simp)
  refine value_ (w1 := ?_) (v := ?_) (by rfl) rfl ?_ ?_
  rotate_left 2
  ·go_simp
   constructor
   ·rfl
   ·rfl
  clear hcv
  refine hK.out _ _ trivial (fun hHeld => ?_)
  clear hK K
  refine norm_ (a' := ?_) ?_ ?_
  rotate_left
  ·show Act.put _ (some 56) _ = _
   simp only [Act.put, List.setIfInBounds_toArray, List.set_cons_zero, List.set_cons_succ, i64_w, i32_w]
   rfl
  refine pure_ (i := 8) (N := some 57) (v := ?_) (a' := ?_) #[YY,YY,YY,YY,YY,YY,YY,YY,YY,ZZ,ZZ] rfl rfl (by kernel_rfl) (fun _ _ _ h => h) (Or.inl ⟨by rfl, ?_⟩) ?_ ?_
  rotate_left
  ·intro w'
   go_simp
   with_reducible rfl
  rotate_left
  ·simp only [Act.put, List.setIfInBounds_toArray, List.set_cons_zero, List.set_cons_succ, i64_w, i32_w]
   rfl
  refine pure_ (i := 9) (N := some 58) (v := ?_) (a' := ?_) #[YY,YY,YY,YY,YY,YY,YY,YY,YY,YY,ZZ] rfl rfl (by kernel_rfl) (fun _ _ _ h => h) (Or.inl ⟨by rfl, ?_⟩) ?_ ?_
  rotate_left
  ·intro w'
   go_simp
   with_reducible rfl
  rotate_left
  ·simp only [Act.put, List.setIfInBounds_toArray, List.set_cons_zero, List.set_cons_succ, i64_w, i32_w]
   rfl
  refine pure_ (i := 10) (N := some 4) (v := ?_) (a' := ?_) #[YY,YY,YY,YY,YY,YY,YY,YY,YY,YY,YY] rfl rfl (by kernel_rfl) (fun _ _ _ h => h) (Or.inl ⟨by rfl, ?_⟩) ?_ ?_
  rotate_left
  ·intro w'
   go_simp
   with_reducible rfl
  rotate_left
  ·simp only [Act.put, List.setIfInBounds_toArray, List.set_cons_zero, List.set_cons_succ, i64_w, i32_w]
   rfl
  refine done_ (by kernel_rfl) ?_
  go_wp2
  go_ret
  exact ⟨rfl, HB6.out⟩
end Go.Proofs.YtidicpngmildkaaDoor.Fm
set_option linter.unusedVariables false
set_option linter.unusedSimpArgs false
namespace Go.Proofs.YtidicpngmildkaaDoor.Fl
open Go.RowKit Go.Proofs.YtidicpngmildkaaDoorW.PrintWords Go.Proofs.YtidicpngmildkaaDoorW.PrintLast Go.Proofs.YtidicpngmildkaaDoorW.PrintMore Go.Proofs.YtidicpngmildkaaDoor.R Go.Proofs.YtidicpngmildkaaDoor.Tx Go.Proofs.YtidicpngmildkaaDoor.Pl Go.Proofs.YtidicpngmildkaaDoor.Fm
def TabW (w : World) : Prop := Wd.Tab w
theorem tabW_below {w w' : World} (h : TabW w) (hb : Below w.heap.size w w') : TabW w' := Wd.tab_below h hb
/-- What All answers. -/
def lexRes (s : ByteArray) : List Tok × Int × Int × Int × Int :=
 if 65536 < s.size then ([], 3, 0, 0, 0) else match lexA s with
  | .ok l => (l, 0, 0, 0, 0)
  | .bad c k => ([], c, k, ln s k, cl s k)
def lexcee_All.f (a0 : ByteArray) : Option (List Tok × Int × Int × Int × Int) := some (lexRes a0)
set_option maxHeartbeats 8000000 in
set_option maxRecDepth 1000000 in
theorem all_long (s : ByteArray) (w : World) (hs : 65536 < s.size) : Calls Tryd.prog 8 #[.string s] w fun e w' => e = .returned (.tuple #[.slice none 0 0, .agg #[.int .i64 3, .int .i64 0, .int .i64 0, .int .i64 0]]) ∧ Below w.heap.size w w' := by
 have hgt : decide ((s.size : Int) > 65536) = true := decide_eq_true (by omega)
 have hgt2 : ((65536 : Int) < (s.size : Int)) = True := eq_true (by omega)
 have hgt3 : (65536 < s.size) = True := eq_true hs
 have HB := Lib.hid (below_alloc (Below.refl w.heap.size w) (.cells #[.int .i64 3, .int .i64 0, .int .i64 0, .int .i64 0] 29))
 have HN := Lib.hid (alloc_new w (.cells #[.int .i64 3, .int .i64 0, .int .i64 0, .int .i64 0] 29))
 clear hs
 go_enter Tryd.func8, Tryd.ntmps8
 go_wp2
 refine bodyPost_ret (results_tmp_cell rfl _ _ (.slice none 0 0) rfl w.heap.size 29 #[.int .i64 3, .int .i64 0, .int .i64 0, .int .i64 0] (0, 0) _ rfl HN.out Tryd.underlying29 rfl (by kernel_rfl)) rfl ?_
 exact ⟨rfl, HB.out⟩
theorem lexcee_All.calls (a0 : ByteArray) (r1 : List Tok) (r2 r3 r4 r5 : Int) (w : World) (hT : TabW w) (h : lexcee_All.f a0 = some (r1, r2, r3, r4, r5)) :
  Calls Tryd.prog 8 #[.string a0] w fun e w' => ∃ v0_ : Value, e = .returned (.tuple #[v0_, .agg #[.int .i64 r2, .int .i64 r3, .int .i64 r4, .int .i64 r5]]) ∧ Kd.R kTok 35 w' w.heap.size (fun _ => True) v0_ r1 ∧ Below w.heap.size w w' := by
 unfold lexcee_All.f lexRes at h
 replace h := Option.some.inj h
 by_cases hs : 65536 < a0.size
 ·rw [if_pos hs] at h
  cases h
  refine (all_long a0 w hs).mono ?_
  rintro e w' ⟨rfl, hb⟩
  exact ⟨_, rfl, Kd.R_nil _ _ _ _ _, hb⟩
 ·rw [if_neg hs] at h
  refine (all_lex a0 w hT (by omega)).mono ?_
  intro e w' ha
  cases hx : lexA a0 with
  | ok l =>
   rw [hx] at h ha
   cases h
   exact ha
  | bad c k =>
   rw [hx] at h ha
   cases h
   obtain ⟨he, hb⟩ := ha
   exact ⟨_, he, Kd.R_nil _ _ _ _ _, hb⟩
def pantographref05_Bare.f (l0 : List Tok) : Option (List Tok) := if l0.length ≤ 1000000 then some (l0.map bareS) else none
theorem pantographref05_Bare.calls (A0 : Option Addr) (c0 : Nat) (l0 : List Tok) (r : List Tok) (w : World) (hr0 : Kd.C kTok w A0 l0.length l0) (hc0 : l0.length ≤ c0) (h : pantographref05_Bare.f l0 = some r) :
  Calls Tryd.prog 11 #[.slice A0 l0.length c0] w fun e w' => ∃ v0_ : Value, e = .returned (v0_) ∧ Kd.R kTok 35 w' w.heap.size (fun _ => True) v0_ r ∧ Below w.heap.size w w' := by
 unfold pantographref05_Bare.f at h
 by_cases hl : l0.length ≤ 1000000
 ·rw [if_pos hl] at h
  obtain rfl := Option.some.inj h
  exact bare_any A0 c0 l0 w hr0 hl
 ·rw [if_neg hl] at h; cases h
def pantographref05_CharText.f (k : Nat) (a0 a1 : Int) : Option ByteArray := if a0 = 1 ∧ 0 ≤ a1 ∧ a1 < 256 then some (mk (charT a1.toNat)) else none
theorem pantographref05_CharText.mono : ∀ a0 a1 k, LeO (pantographref05_CharText.f k a0 a1) (pantographref05_CharText.f (k + 1) a0 a1) := fun _ _ _ _ h => h
theorem pantographref05_CharText.calls (k : Nat) (a0 a1 : Int) (r : ByteArray) (w : World) (h : pantographref05_CharText.f k a0 a1 = some r) :
  Calls Tryd.prog 12 #[.int .i64 a0, .int .i64 a1] w fun e w' => e = .returned (.string r) ∧ Below w.heap.size w w' := by
 unfold pantographref05_CharText.f at h
 by_cases hc : a0 = 1 ∧ 0 ≤ a1 ∧ a1 < 256
 ·rw [if_pos hc] at h
  obtain rfl := Option.some.inj h
  obtain ⟨rfl, h0, h1⟩ := hc
  obtain ⟨c, rfl⟩ := Int.eq_ofNat_of_zero_le h0
  rw [Int.toNat_natCast]
  have hc : c < 256 := by omega
  unfold charT
  by_cases c1 : c = 39 ∨ c = 92
  ·rw [if_pos c1]
   rcases c1 with rfl | rfl
   ·exact chartext_q1 w
   ·exact chartext_q2 w
  ·rw [if_neg c1]
   by_cases c2 : 32 ≤ c ∧ c ≤ 126
   ·rw [if_pos c2]
    exact chartext_plain c w c2.1 c2.2 (fun e => c1 (.inl e)) (fun e => c1 (.inr e))
   ·rw [if_neg c2]
    exact chartext_hex c w hc (by omega)
 ·rw [if_neg hc] at h; cases h
end Go.Proofs.YtidicpngmildkaaDoor.Fl
