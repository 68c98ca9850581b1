/- A part of the proof of TreeBackUpto (a program whose names are turned into others and back is the program that it was): a reckoner of the code over data, shown right, and what it gives; conditions stand with each theorem. -/
import Derived.Test.YtokkfbkbnocnoaaGreatDoorA3
import Derived.Below
import Derived.Deep.Draws
import Derived.Deep.AppendLies
import Derived.Maps.AppendAt
import Derived.OwnWalk
import Derived.Laws.BytesArg
import Derived.Laws.MakeOwn
import Derived.Laws.OwnMore
import Derived.Deep.OwnRows
import Derived.Tactics
import Derived.Lib.ConvBytes
import Derived.Laws.Slices
import Derived.WalkKit
import Derived.KernelRfl
import Derived.RowKit3
import Derived.Deep.LoopGhost
import Derived.Deep.QuietTactic
import Derived.BigQuiet
import Derived.WideLaws
import Derived.Deep.DeepCutAuto
import Derived.Deep.CutBlock
import Derived.Deep.RegionHeld3
import Derived.Laws.Rows
import Derived.Lib.AppendStr
import Derived.ArgAppend
import Derived.Laws.IdiomCopy
import Derived.RowKit
import Derived.OrdersHeld
import Derived.Laws.BitsLemmas
import Derived.Shelf.Spec.SearchS
import Derived.Test.YtokkfbkbnocnoaaGreatDoorProg
import Derived.Lib.Hide
import Derived.Deep.DeepMust
import Derived.RangeFuncNested
import Derived.RangeFuncBound
import Derived.RangeFuncCalls
import Derived.RangeFuncLeaves
import Derived.Shelf.Abstract
import Derived.Shelf.RegionOpen
import Derived.OwnWalkIn
import Derived.TacticsInMore
import Derived.LoopNIn
import Derived.LoopIn
import Derived.IntWalk
import Derived.Shelf.Strings.Builder1
import Derived.Shelf.Strings.BuilderF
import Derived.Shelf.Strings.BuilderK
import Derived.Lib.UnsafeStr
import Derived.Lib.OthersKept
import Derived.Lib.FrozenHead
import Derived.BigCall
import Derived.Outline
import Derived.Test.YtokkfbkbnocnoaaGreatDoorRows
import Derived.Test.YtokkfbkbnocnoaaGreatDoorCards
import Derived.Test.YtokkfbkbnocnoaaGreatDoorTie
import Derived.ProofKit
import Derived.LaidMore
import Derived.SevenTiedAt
import Derived.Stop.Joined
import Derived.Lay
import Derived.OpenShut
import Derived.ShutString
import Derived.ChangeOld
import Derived.SizedLaws
namespace Go.Proofs.YtokkfbkbnocnoaaGreatDoorW.PrintWords
end Go.Proofs.YtokkfbkbnocnoaaGreatDoorW.PrintWords
namespace Go.Proofs.YtokkfbkbnocnoaaGreatDoorW.PrintLast
end Go.Proofs.YtokkfbkbnocnoaaGreatDoorW.PrintLast
namespace Go.Proofs.YtokkfbkbnocnoaaGreatDoorW.PrintMore
end Go.Proofs.YtokkfbkbnocnoaaGreatDoorW.PrintMore
section
open Go
namespace Go.Ev
set_option maxRecDepth 100000
set_option maxHeartbeats 4000000
set_option linter.unusedVariables false
set_option linter.unusedSimpArgs false
variable (h : Fam)
theorem int_ndc (a b : Int) : (a != b) = dc (¬ a = b) := by rw [← not_dc, ← int_dc]; rfl
theorem getD_at {α : Type} (l : List α) (i : Nat) (d : α) (hi : i < l.length) : l.getD (i : Int).toNat d = l[i] := by
  simp [List.getD_eq_getElem?_getD, List.getElem?_eq_getElem hi]
theorem drop_iff {α : Type} (a b : List α) (i : Nat) (hi : i < a.length) (h' : i < b.length) : a.drop i = b.drop i ↔ a[i] = b[i] ∧ a.drop (i + 1) = b.drop (i + 1) := by
  rw [List.drop_eq_getElem_cons hi, List.drop_eq_getElem_cons h']
  simp only [List.cons.injEq]
theorem TMarks.eq_iff (x y : TMarks) : x = y ↔ x.Before = y.Before ∧ x.Trail = y.Trail := by cases x; cases y; simp
theorem marks_ok (k : Nat) (a b : TMarks) (h1 : a.Before.length < k) (h2 : a.Before.length ≤ maxLen) (h3 : a.Trail.length < k) (h4 : a.Trail.length ≤ maxLen) : (FF h (k + 2)).f_tree_marks (a, b, ()) = some (dc (a = b)) := by
  show B_tree_marks (FF h (k + 1)) (k + 1) a b = _
  simp only [B_tree_marks, Equal_string_ok h k _ _ h1 h2, Equal_string_ok h k _ _ h3 h4, Option.bind_some, Bool.true_and, if_dc]
  exact congrArg some (dc_eq (TMarks.eq_iff a b).symm)
theorem sameMarks_ok (k : Nat) (a b : TMarks) (h1 : a.Before.length < k) (h2 : a.Before.length ≤ maxLen) (h3 : a.Trail.length < k) (h4 : a.Trail.length ≤ maxLen) : (FF h (k + 2)).f_r07_sameMarks (a, b, ()) = some (dc (a = b)) := by
  show B_r07_sameMarks (FF h (k + 1)) (k + 1) a b = _
  simp only [B_r07_sameMarks, SameTexts_ok h k _ _ h1 h2, SameTexts_ok h k _ _ h3 h4, Option.bind_some, Bool.true_and, if_dc]
  exact congrArg some (dc_eq (TMarks.eq_iff a b).symm)
theorem bk_v9_pos (x : ByteArray) : 1 ≤ bk_v9 x := by simp [bk_v9]
theorem bks_v9_len (l : List ByteArray) : l.length ≤ bks_v9 l := by rw [bks_v9_eq]; exact len_sum _ bk_v9_pos l
theorem TStmt.eq_iff (x y : TStmt) : x = y ↔ x.sub_Marks = y.sub_Marks ∧ x.Op = y.Op ∧ x.Name = y.Name ∧ x.sub_P = y.sub_P ∧ x.E = y.E ∧ x.Down = y.Down ∧ x.More = y.More ∧ x.Body = y.Body ∧ x.Else = y.Else ∧ x.End = y.End ∧ x.End2 = y.End2 := by
  cases x; cases y; simp [TStmt.sub_Marks, TStmt.sub_P]; simp only [and_assoc]
theorem bk_Stmt_pos (x : TStmt) : 1 ≤ bk_TStmt x := by cases x; simp [bk_TStmt]
theorem bks_Stmt_len (l : List TStmt) : l.length ≤ bks_TStmt l := by rw [bks_TStmt_eq]; exact len_sum _ bk_Stmt_pos l
theorem bks_Stmt_mem (l : List TStmt) (i : Nat) (hi : i < l.length) : bk_TStmt l[i] ≤ bks_TStmt l := by rw [bks_TStmt_eq]; exact mem_sum _ l i hi
theorem fts_Stmt_mem (l : List TStmt) (hl : fts_TStmt l) (i : Nat) (hi : i < l.length) : ft_TStmt l[i] := (fts_TStmt_iff l).1 hl _ (List.getElem_mem hi)
theorem bk_Stmt (x : TStmt) : bks_v9 x.Marks_Before + bks_v9 x.Marks_Trail + bk_TExpr x.sub_P + bks_TExpr x.E + bks_TStmt x.Body + bks_TStmt x.Else + bks_v9 x.End + bks_v9 x.End2 + 10 ≤ bk_TStmt x := by
  cases x; simp [bk_TStmt, TStmt.sub_P, bk_TExpr]; omega
theorem ft_Stmt (x : TStmt) (hx : ft_TStmt x) : x.Marks_Before.length ≤ maxLen ∧ x.Marks_Trail.length ≤ maxLen ∧ ft_TExpr x.sub_P ∧ (x.E.length ≤ maxLen ∧ fts_TExpr x.E) ∧ (x.Body.length ≤ maxLen ∧ fts_TStmt x.Body) ∧ (x.Else.length ≤ maxLen ∧ fts_TStmt x.Else) ∧ x.End.length ≤ maxLen ∧ x.End2.length ≤ maxLen := by
  cases x; simp only [ft_TStmt] at hx; simp only [TStmt.sub_P, ft_TExpr]
  obtain ⟨⟨a1, _⟩, ⟨a2, _⟩, a3, a4, a5, a6, a7, a8, a9, a10, _, _, a11, a12, ⟨a13, _⟩, ⟨a14, _⟩⟩ := hx
  exact ⟨a1, a2, ⟨a5, a6, a7, a8, a9⟩, a10, a11, a12, a13, a14⟩
theorem L_EqualFunc_Stmt (s : Fam) (k : Nat) (x y : List TStmt) (u : Unit × Unit) : ∀ j v0 v1 v2 v3, Lslices_EqualFunc_Stmt_4 s k x y u j v0 v1 v2 v3 = eqG dd_TStmt (fun a b => s.f_tree_sameStmt (a.re, b.re, ())) j v0 v1 v2 v3 := by
  intro j
  induction j with
  | zero => intros; rfl
  | succ j ih => intros; simp only [Lslices_EqualFunc_Stmt_4, eqG, ih]
theorem Stmt_all : ∀ k, (∀ a b, ft_TStmt a → bk_TStmt a < k → (FF h k).f_tree_sameStmt (a, b, ()) = some (dc (a = b))) ∧
    (∀ l m, l.length ≤ maxLen → fts_TStmt l → bks_TStmt l + 1 < k → (FF h k).f_slices_EqualFunc_Stmt (l, m, ((), ()), ()) = some (dc (l = m))) ∧
    (∀ l m, l.length ≤ maxLen → fts_TStmt l → bks_TStmt l + 1 < k → (FF h k).f_r07_SameStmts (l, m, ()) = some (dc (l = m))) := by
  intro k
  induction k with
  | zero => exact ⟨fun _ _ _ h => absurd h (Nat.not_lt_zero _), fun _ _ _ _ h => absurd h (Nat.not_lt_zero _), fun _ _ _ _ h => absurd h (Nat.not_lt_zero _)⟩
  | succ k ih =>
    obtain ⟨i1, i2, i3⟩ := ih
    refine ⟨fun a b ha hk => ?_, fun l m hm hl hk => ?_, fun l m hm hl hk => ?_⟩
    · show B_tree_sameStmt (FF h k) k a b = _
      have hb := bk_Stmt a
      obtain ⟨a1, a2, a3, a4, a5, a6, a7, a8⟩ := ft_Stmt a ha
      have l1 := bks_v9_len a.Marks_Before
      have l2 := bks_v9_len a.Marks_Trail
      have l3 := bks_v9_len a.End
      have l4 := bks_v9_len a.End2
      obtain ⟨k', rfl⟩ : ∃ k', k = k' + 2 := ⟨k - 2, by omega⟩
      obtain ⟨e1, e2, _, _⟩ := SameExpr_all h (k' + 2)
      simp only [B_tree_sameStmt, marks_ok h k' a.sub_Marks b.sub_Marks (by show a.Marks_Before.length < _; omega) a1 (by show a.Marks_Trail.length < _; omega) a2, e1 a.sub_P b.sub_P a3 (by omega), e2 a.E b.E a4.1 a4.2 (by omega), i2 a.Body b.Body a5.1 a5.2 (by omega), i2 a.Else b.Else a6.1 a6.2 (by omega),
        Equal_string_ok h (k' + 1) a.End b.End (by omega) a7, Equal_string_ok h (k' + 1) a.End2 b.End2 (by omega) a8, Option.bind_some, Bool.true_and, int_dc, ba_dc, bool_dc, and_dc, if_dc]
      exact congrArg some (dc_eq (by rw [TStmt.eq_iff]; simp only [and_assoc]))
    · show B_slices_EqualFunc_Stmt (FF h k) k l m ((), ()) = _
      unfold B_slices_EqualFunc_Stmt
      rw [L_EqualFunc_Stmt]
      have := bks_Stmt_len l
      exact eqF _ _ l m k (by omega) hm fun i hi hi' => by
        have := bks_Stmt_mem l i hi
        rw [TStmt.re_eq, TStmt.re_eq]
        exact i1 _ _ (fts_Stmt_mem l hl i hi) (by omega)
    · show B_r07_SameStmts (FF h k) k l m = _
      unfold B_r07_SameStmts
      have hlen := bks_Stmt_len l
      by_cases hlm : l.length = m.length
      · have h1 : ((l.length : Int) != (m.length : Int)) = false := by simp [hlm]
        rw [if_neg (by rw [h1]; simp)]
        have key : ∀ j i, i ≤ l.length → l.length - i < j → Lr07_SameStmts_4 (FF h k) k l m j l m (i : Int) = some (dc (l.drop i = m.drop i)) := by
          refine up_ind l.length (fun j => ?_) (fun j i hi ihj => ?_)
          · simp only [Lr07_SameStmts_4]
            rw [if_neg (by simp), dc_true (by simp [hlm])]
          · have h' : i < m.length := by omega
            have c1 : decide ((i : Int) < (l.length : Int)) = true := by simpa using hi
            have c2 : (0 : Int) ≤ (i : Int) := by omega
            have c3 : (i : Int) < (l.length : Int) := by omega
            have c4 : (i : Int) < (m.length : Int) := by omega
            have hbi := bks_Stmt_mem l i hi
            have hb := bk_Stmt l[i]
            obtain ⟨a1, a2, a3, a4, a5, a6, a7, a8⟩ := ft_Stmt l[i] (fts_Stmt_mem l hl i hi)
            have l1 := bks_v9_len l[i].Marks_Before
            have l2 := bks_v9_len l[i].Marks_Trail
            have l3 := bks_v9_len l[i].End
            have l4 := bks_v9_len l[i].End2
            obtain ⟨k', rfl⟩ : ∃ k', k = k' + 2 := ⟨k - 2, by omega⟩
            obtain ⟨_, _, e3, e4⟩ := SameExpr_all h (k' + 2)
            simp only [Lr07_SameStmts_4, c1, c2, c3, c4, if_true, getD_at l i _ hi, getD_at m i _ h', wrap_succ hi hm, ihj,
              sameMarks_ok h k' l[i].sub_Marks m[i].sub_Marks (by show l[i].Marks_Before.length < _; omega) a1 (by show l[i].Marks_Trail.length < _; omega) a2, e3 l[i].sub_P m[i].sub_P a3 (by omega), e4 l[i].E m[i].E a4.1 a4.2 (by omega), i3 l[i].Body m[i].Body a5.1 a5.2 (by omega), i3 l[i].Else m[i].Else a6.1 a6.2 (by omega),
              SameTexts_ok h (k' + 1) l[i].End m[i].End (by omega) a7, SameTexts_ok h (k' + 1) l[i].End2 m[i].End2 (by omega) a8, Option.bind_some, Bool.false_or, int_ndc, ba_dc, bool_dc, not_dc, or_dc, ifn_dc, iff_dc]
            refine congrArg some (dc_eq ?_)
            rw [drop_iff l m i hi h', TStmt.eq_iff]
            simp only [not_or, Classical.not_not]
            constructor
            · rintro ⟨⟨⟨⟨⟨b1, b2⟩, b3⟩, b6⟩, b7⟩, b4, b5, b10, b11, b8, b9, b12⟩
              exact ⟨⟨b1, b2, b3, b4, b5, b6, b7, b8, b9, b10, b11⟩, b12⟩
            · rintro ⟨⟨b1, b2, b3, b4, b5, b6, b7, b8, b9, b10, b11⟩, b12⟩
              exact ⟨⟨⟨⟨⟨b1, b2⟩, b3⟩, b6⟩, b7⟩, b4, b5, b10, b11, b8, b9, b12⟩
        have := key k 0 (Nat.zero_le _) (by omega)
        simpa using this
      · have h1 : ((l.length : Int) != (m.length : Int)) = true := by simp; omega
        rw [if_pos h1]
        have : l ≠ m := fun e => hlm (by rw [e])
        rw [dc_false this]
end Go.Ev
end
section
-- PRINTED BY print.sh 35421559b90ae4d0a3588c463048766b98c2df88dd9212a6774a882060cdf62d: not written by this session
-- PRINTED WORDS (module Derived/Print/Words.lean): go-wishes' parts 1 to 38 and go-gate-2's additions: AI agents of Go's test side, Mon Nov 16 2026; no person has read them. Plain theorems and definitions: no macro, no elab, no axiom.
set_option linter.unusedVariables false
set_option linter.unusedSimpArgs false
namespace Go.Proofs.YtokkfbkbnocnoaaGreatDoorW.PrintWords
open Go.RowKit
structure Aside0 (p : Prop) : Prop where mk :: (out : p)
structure Drawn0 (w w' : World) : Prop where mk :: (out : ∃ n, w' = w.drewN n)
theorem Drawn0.refl (w : World) : Drawn0 w w := ⟨⟨0, rfl⟩⟩
theorem Drawn0.step {w w' : World} (h : Drawn0 w w') (n : Nat) : Drawn0 w (w'.drewN n) := by
  obtain ⟨m, rfl⟩ := h
  exact ⟨⟨m + n, World.drewN_drewN ..⟩⟩
theorem Drawn0.grown {w w' : World} (h : Drawn0 w w') : Grown w w' := by
  obtain ⟨n, rfl⟩ := h
  induction n with
  | zero => exact Grown.refl _
  | succ n ih => rw [← World.drew_drewN]; exact Grown.drew ih
theorem Drawn0.below {w w' : World} (h : Drawn0 w w') : Below w.heap.size w w' := by
  obtain ⟨n, rfl⟩ := h
  induction n with
  | zero => exact Below.refl _ _
  | succ n ih => rw [← World.drew_drewN]; exact ih.drew
def rd (xs : List Int) (i : Int) : Int := xs.getD i.toNat 0
def bt (s : ByteArray) (i : Int) : Int := if h : i.toNat < s.size then ((s[i.toNat]'h).toNat : Int) else 0
theorem below_alloc {w W : World} (h : Below w.heap.size w W) (o : Obj) : Below w.heap.size w (W.alloc o) := h.alloc h.size o
theorem pw_below_drewN {B : Nat} {w W : World} (h : Below B w W) (n : Nat) : Below B w (W.drewN n) := ⟨h.os, h.tape, h.output, h.size, h.block⟩
theorem below_then {B : Nat} {w w1 w2 : World} (h : Below B w w1) (hB : B ≤ w1.heap.size) (k : Below w1.heap.size w1 w2) : Below B w w2 :=
  h.trans ⟨k.os, k.tape, k.output, k.size, fun i hi => k.block i (Nat.lt_of_lt_of_le hi hB)⟩
theorem grown_of_below {w w1 : World} (h : Below w.heap.size w w1) (row : Option Nat) : w.grownBy w1 row := ⟨h.os, h.tape, h.output, h.size, fun i hi _ => h.block i hi⟩
theorem pw_cell_below {w w1 : World} (h : Below w.heap.size w w1) {a : Addr} {v : Value} (hc : w.cell? a = some v) : w1.cell? a = some v := (h.cell (World.block_lt_of_cell? w a hc)).trans hc
def ReadsInt (w : World) (k : IntKind) (A : Option Addr) (n : Nat) (xs : List Int) : Prop :=
  xs.length = n ∧ n ≤ 9223372036854775807 ∧ (0 < n → ∃ ad, A = some ad ∧ ∀ j, j < n → w.cell? (ad.add j) = some (.int k (xs.getD j 0)))
theorem ReadsInt.at_ {w : World} {k : IntKind} {A : Option Addr} {n : Nat} {xs : List Int} (h : ReadsInt w k A n xs) (i : Int) (h0 : 0 ≤ i) (h1 : i < n) : ∃ ad, A = some ad ∧ w.cell? (ad.add i.toNat) = some (.int k (rd xs i)) := by
  obtain ⟨ad, e, hc⟩ := h.2.2 (by omega)
  exact ⟨ad, e, hc _ (by omega)⟩
theorem ReadsInt.below {w w1 : World} {k : IntKind} {A : Option Addr} {n : Nat} {xs : List Int} (h : ReadsInt w k A n xs) (hb : Below w.heap.size w w1) : ReadsInt w1 k A n xs :=
  ⟨h.1, h.2.1, fun hn => by
    obtain ⟨ad, e, hc⟩ := h.2.2 hn
    exact ⟨ad, e, fun j hj => pw_cell_below hb (hc j hj)⟩⟩
theorem own_nil (W : World) (base : Nat) (e : TypeId) (size : Nat) : W.ownsRow base e size (.slice none 0 0) 0 [] := ⟨by simp, .inl ⟨rfl, rfl⟩⟩
theorem own_base {w : World} {base : Nat} {e : TypeId} {size n : Nat} {v : Value} {xs : List Value} (h : w.ownsRow base e size v n xs) (k : Nat) (hk : v.ownBlock = some k) : base ≤ k := by
  rcases h.2 with ⟨rfl, _⟩ | ⟨g, cap, cur, rfl, hb, _⟩
  · simp [Value.ownBlock] at hk
  · have : g = k := by simpa [Value.ownBlock] using hk
    omega
theorem own_lt {w : World} {base : Nat} {e : TypeId} {size n : Nat} {v : Value} {xs : List Value} (h : w.ownsRow base e size v n xs) (k : Nat) (hk : v.ownBlock = some k) : k < w.heap.size := by
  rcases h.2 with ⟨rfl, _⟩ | ⟨g, cap, cur, rfl, hb, hh, _⟩
  · simp [Value.ownBlock] at hk
  · have : g = k := by simpa [Value.ownBlock] using hk
    subst this
    exact (Array.getElem?_eq_some_iff.1 hh).1
theorem pw_own_below {w w1 : World} {base : Nat} {e : TypeId} {size n : Nat} {v : Value} {xs : List Value} (h : w.ownsRow base e size v n xs) (hb : Below w.heap.size w w1) : w1.ownsRow base e size v n xs :=
  h.kept (grown_of_below hb none) (by cases v.ownBlock <;> simp)
theorem own_other {w w1 : World} {base : Nat} {e : TypeId} {size n : Nat} {v : Value} {xs : List Value} (h : w.ownsRow base e size v n xs) {row : Option Nat} (hg : w.grownBy w1 row) (hne : v.ownBlock = none ∨ v.ownBlock ≠ row) : w1.ownsRow base e size v n xs := h.kept hg hne
section
variable {P : Program} {ops : Array Oper} {rest : List Oper} {o : Oper} {a : Act} {Q : Exit → Act → World → Prop}
end
section
variable {P : Program}
end
section
variable {P : Program} {ops : Array Oper} {rest : List Oper} {o : Oper} {a : Act} {Q : Exit → Act → World → Prop}
end
theorem data_length (s : ByteArray) : s.data.toList.length = s.size := by rw [Array.length_toList]; rfl
def LeO {α : Type} (a b : Option α) : Prop := ∀ r, a = some r → b = some r
theorem LeO.refl {α : Type} (a : Option α) : LeO a a := fun _ h => h
theorem LeO.none {α : Type} (b : Option α) : LeO Option.none b := fun _ h => by cases h
theorem LeO.trans {α : Type} {a b c : Option α} (h : LeO a b) (k : LeO b c) : LeO a c := fun r hr => k r (h r hr)
theorem LeO.ite {α : Type} {c : Prop} [Decidable c] {a a' b b' : Option α} (h : LeO a a') (k : LeO b b') : LeO (if c then a else b) (if c then a' else b') := by
  split
  · exact h
  · exact k
theorem LeO.bind {α β : Type} {a a' : Option α} {f f' : α → Option β} (h : LeO a a') (k : ∀ x, LeO (f x) (f' x)) : LeO (a.bind f) (a'.bind f') := by
  intro r hr
  obtain ⟨x, hx, hf⟩ := Option.bind_eq_some_iff.1 hr
  exact Option.bind_eq_some_iff.2 ⟨x, h x hx, k x r hf⟩
theorem LeO.map {α β : Type} {a a' : Option α} (f : α → β) (h : LeO a a') : LeO (a.map f) (a'.map f) := by
  intro r hr
  obtain ⟨x, hx, hf⟩ := Option.map_eq_some_iff.1 hr
  exact Option.map_eq_some_iff.2 ⟨x, h x hx, hf⟩
theorem more_rounds {α : Type} {g : Nat → Option α} (h : ∀ k, LeO (g k) (g (k + 1))) (k : Nat) : ∀ j, LeO (g k) (g (k + j))
  | 0 => LeO.refl _
  | j + 1 => (more_rounds h k j).trans (h (k + j))
theorem at_rounds {α : Type} {g : Nat → Option α} (h : ∀ k, LeO (g k) (g (k + 1))) {k k' : Nat} (hk : k ≤ k') {r : α} (hr : g k = some r) : g k' = some r := by
  have := more_rounds h k (k' - k) r hr
  rwa [Nat.add_sub_cancel' hk] at this
def Reps {α : Type} (R : α → List Value → Prop) (size : Nat) (ps : List α) (cs : List Value) : Prop :=
  cs.length = ps.length * size ∧ ∀ j p, ps[j]? = some p → R p ((cs.drop (j * size)).take size)
theorem Reps.none {α : Type} (R : α → List Value → Prop) (size : Nat) : Reps R size [] [] := ⟨by simp, fun j p h => by simp at h⟩
theorem Reps.snoc {α : Type} {R : α → List Value → Prop} {size : Nat} {ps : List α} {cs c : List Value} {p : α} (h : Reps R size ps cs) (hp : R p c) (hc : c.length = size) : Reps R size (ps ++ [p]) (cs ++ c) := by
  refine ⟨by rw [List.length_append, h.1, hc, List.length_append, List.length_singleton, Nat.add_mul, Nat.one_mul], fun j q hq => ?_⟩
  rcases Nat.lt_or_ge j ps.length with hj | hj
  · rw [List.getElem?_append_left hj] at hq
    have h1 : j * size + size ≤ cs.length := by rw [h.1, ← Nat.succ_mul]; exact Nat.mul_le_mul_right _ hj
    have h2 := h.2 j q hq
    rw [List.drop_append_of_le_length (by omega), List.take_append_of_le_length (by rw [List.length_drop]; omega)]
    exact h2
  · have hj' : j = ps.length := by
      have := (List.getElem?_eq_some_iff.1 hq).1
      rw [List.length_append, List.length_singleton] at this
      omega
    subst hj'
    have hq' : p = q := by simpa using hq
    subst hq'
    rw [← h.1, List.drop_left, ← hc, List.take_length]
    exact hp
theorem Reps.imp_ {α : Type} {R R' : α → List Value → Prop} {size : Nat} {ps : List α} {cs : List Value} (h : Reps R size ps cs) (hR : ∀ p c, R p c → R' p c) : Reps R' size ps cs := ⟨h.1, fun j p hj => hR _ _ (h.2 j p hj)⟩
def ReadsRow {α : Type} (R : α → List Value → Prop) (size : Nat) (w : World) (A : Option Addr) (n : Nat) (ps : List α) : Prop :=
  ps.length = n ∧ n ≤ 9223372036854775807 ∧ (0 < n → ∃ ad, A = some ad ∧ ∀ j p, ps[j]? = some p → ∃ c, c.length = size ∧ R p c ∧ ∀ i u, c[i]? = some u → w.cell? (ad.add (j * size + i)) = some u)
theorem ReadsRow.imp_ {α : Type} {R R' : α → List Value → Prop} {size : Nat} {w w1 : World} {A : Option Addr} {n : Nat} {ps : List α} (h : ReadsRow R size w A n ps) (hb : Below w.heap.size w w1) (hR : ∀ p c, R p c → R' p c) : ReadsRow R' size w1 A n ps :=
  ⟨h.1, h.2.1, fun hn => by
    obtain ⟨ad, e, hc⟩ := h.2.2 hn
    refine ⟨ad, e, fun j p hj => ?_⟩
    obtain ⟨c, hs, hr, hcell⟩ := hc j p hj
    exact ⟨c, hs, hR _ _ hr, fun i u hu => pw_cell_below hb (hcell i u hu)⟩⟩
theorem own_reads_row {α : Type} {R : α → List Value → Prop} {w : World} {base n size : Nat} {e : TypeId} {v : Value} {ps : List α} {cs : List Value} (h : w.ownsRow base e size v n cs) (hR : Reps R size ps cs) (hn : ps.length = n) :
    ∃ A c, v = .slice A n c ∧ ReadsRow R size w A n ps := by
  rcases Nat.eq_zero_or_pos n with h0 | h0
  · rcases h.2 with ⟨rfl, rfl⟩ | ⟨g, cap, cur, rfl, _⟩
    · exact ⟨none, 0, rfl, hn, by omega, fun hp => absurd hp (by omega)⟩
    · exact ⟨_, cap, rfl, hn, by omega, fun hp => absurd hp (by omega)⟩
  · obtain ⟨g, cap, rfl, _, _⟩ := h.form h0
    have hm : n ≤ 9223372036854775807 := by
      rcases h.2 with ⟨_, h1⟩ | ⟨g', cap', cur, he, _, _, h1, h2, _⟩
      · omega
      · simp only [maxLen] at h2
        omega
    refine ⟨_, cap, rfl, hn, hm, fun _ => ⟨_, rfl, fun j p hj => ⟨(cs.drop (j * size)).take size, ?_, hR.2 j p hj, fun i u hu => ?_⟩⟩⟩
    · have hjl := (List.getElem?_eq_some_iff.1 hj).1
      have h1 : j * size + size ≤ cs.length := by rw [hR.1, ← Nat.succ_mul]; exact Nat.mul_le_mul_right _ hjl
      rw [List.length_take, List.length_drop]
      omega
    · refine h.cells (g := g) rfl _ u ?_
      rw [List.getElem?_take] at hu
      split at hu
      · rw [List.getElem?_drop] at hu
        exact hu
      · cases hu
section
variable {P : Program} {ops : Array Oper} {rest : List Oper} {o : Oper} {a : Act} {Q : Exit → Act → World → Prop}
theorem print_append_cells {w0 W : World} (base : Nat) (hgd : o.guard = none) (s x : Operand) (t e : TypeId) (z : Value) (size bytes : Nat)
    (ho : o.op = .call { callee := .builtin .append, args := #[s, x], argTypes := #[t, t] })
    (ht : P.underlying t = some (.slice e)) (hinfo : (P.info? e).map (fun i => (i.zero, i.size, i.bytes)) = some (some z, size, bytes)) (hz : z.cells.size = size) (hs0 : 0 < size) (hb0 : 0 < bytes)
    (v : Value) (n : Nat) (xs ys : List Value) (hs : a.eval s = v) (hx : a.eval x = .slice (some ⟨W.heap.size, 0, none⟩) 1 1) (hys : ys.length = size) (h1 : ∀ u ∈ ys, u.oneCell' = true)
    (HO : W.ownsRow base e size v n xs) (HB : Below base w0 W) (hbase : base ≤ W.heap.size) (hl : (n + 1) * bytes ≤ 140737488355328)
    (h : ∀ v1 w1, w1.ownsRow base e size v1 (n + 1) (xs ++ ys) → Below base w0 w1 → W.grownBy w1 v.ownBlock → (v1.ownBlock = v.ownBlock ∨ ∃ b, v1.ownBlock = some b ∧ W.heap.size ≤ b) → wpList P ops Q rest (a.put o.dst v1) w1) :
    wpList P ops Q (o :: rest) a (W.alloc (.cells ys.toArray e)) := by
  obtain ⟨i0, hi, hzz⟩ := Option.map_eq_some_iff.1 hinfo
  simp only [Prod.mk.injEq] at hzz
  obtain ⟨hz0, hz1, hz2⟩ := hzz
  have hlen : n + 1 ≤ 140737488355328 := Nat.le_trans (Nat.le_mul_of_pos_right _ hb0) hl
  refine wpList_append_own_at (W.alloc (.cells ys.toArray e)) hgd s x t ho base e i0 z size bytes ht hi hz0 hz1 hz2 hz hs0 v n xs hs (HO.alloc _) ⟨W.heap.size, 0, none⟩ 1 1 ys hx (by rw [hys]; simp)
    (by simpa using World.news_of_block (cs := ys.toArray) (t := e) (fr := (0, 0)) (heap_alloc_new W (.cells ys.toArray e))) h1 (by simp only [maxLen]; omega) hl (by simp; omega) ?_
  intro v1 w1 hown hg _ hat
  refine h v1 w1 hown ((HB.alloc hbase _).grown hg (by simp; omega) (own_base HO)) (World.grownBy.trans (World.grownBy_alloc W _ _) hg) ?_
  rcases hat with hat | hat
  · exact .inl hat
  · exact .inr ⟨_, hat, by simp⟩
end
theorem own_ne {w : World} {base : Nat} {e t : TypeId} {size n g : Nat} {v : Value} {xs : List Value} {cs : Array Value} (h : w.ownsRow base e size v n xs) (hg : w.heap[g]? = some (.cells cs t (0, 0))) (hne : e ≠ t) : some g ≠ v.ownBlock := by
  rcases h.2 with ⟨rfl, _⟩ | ⟨g', cap, cur, rfl, _, hh, _⟩
  · simp [Value.ownBlock]
  · intro he
    have : g = g' := by simpa [Value.ownBlock] using he
    subst this
    rw [hg] at hh
    injection hh with hh
    injection hh with _ ht
    exact hne ht.symm
theorem blk_set {w : World} {g : Nat} {t : TypeId} {cs : Array Value} (h : w.heap[g]? = some (.cells cs t (0, 0))) (i : Nat) (u : Value) : (w.setCell ⟨g, i, none⟩ u).heap[g]? = some (.cells (cs.setIfInBounds i u) t (0, 0)) := by
  simp [World.setCell, Array.getElem?_modify, h]
theorem blk_lt {w : World} {g : Nat} {o : Obj} (h : w.heap[g]? = some o) : g < w.heap.size := (Array.getElem?_eq_some_iff.1 h).1
theorem blk_cell {w : World} {g : Nat} {t : TypeId} {cs : Array Value} (h : w.heap[g]? = some (.cells cs t (0, 0))) (i : Nat) : w.cell? ⟨g, i, none⟩ = cs[i]? := cell_of_row w g i cs t (0, 0) h
theorem blk_frozen {w : World} {g : Nat} {t : TypeId} {cs : Array Value} (h : w.heap[g]? = some (.cells cs t (0, 0))) (i : Nat) : w.frozen? ⟨g, i, none⟩ = false := by simp [World.frozen?, h]
def KeepBut (w w' : World) (g : Nat) (row : Option Nat) : Prop := w.heap.size ≤ w'.heap.size ∧ ∀ i, i < w.heap.size → i ≠ g → some i ≠ row → w'.heap[i]? = w.heap[i]?
theorem KeepBut.refl (w : World) (g : Nat) (row : Option Nat) : KeepBut w w g row := ⟨Nat.le_refl _, fun _ _ _ _ => rfl⟩
theorem KeepBut.trans {w w1 w2 : World} {g : Nat} {row row1 : Option Nat} (h : KeepBut w w1 g row) (k : KeepBut w1 w2 g row1) (hr : row1 = row ∨ ∃ b, row1 = some b ∧ w.heap.size ≤ b) : KeepBut w w2 g row :=
  ⟨Nat.le_trans h.1 k.1, fun i hi hg hn => by
    refine (k.2 i (Nat.lt_of_lt_of_le hi h.1) hg ?_).trans (h.2 i hi hg hn)
    rcases hr with rfl | ⟨b, rfl, hb⟩
    · exact hn
    · intro e
      injection e with e
      omega⟩
theorem KeepBut.blk {w w1 : World} {g g' : Nat} {row : Option Nat} {o : Obj} (h : KeepBut w w1 g row) (hb : w.heap[g']? = some o) (hg : g' ≠ g) (hr : some g' ≠ row) : w1.heap[g']? = some o := (h.2 g' (blk_lt hb) hg hr).trans hb
theorem KeepBut.own {w w1 : World} {g : Nat} {row : Option Nat} {base : Nat} {e : TypeId} {size n : Nat} {v : Value} {xs : List Value} (h : KeepBut w w1 g row) (ho : w.ownsRow base e size v n xs) (hg : v.ownBlock ≠ some g) (hr : v.ownBlock = none ∨ v.ownBlock ≠ row) : w1.ownsRow base e size v n xs := by
  obtain ⟨h1, h2⟩ := ho
  refine ⟨h1, ?_⟩
  rcases h2 with h2 | ⟨b, cap, cur, rfl, hb, hh, r⟩
  · exact .inl h2
  · refine .inr ⟨b, cap, cur, rfl, hb, h.blk hh ?_ ?_, r⟩
    · intro e
      exact hg (by rw [← e]; rfl)
    · rcases hr with hr | hr
      · simp [Value.ownBlock] at hr
      · exact hr
def Ev {α : Type} (g : Nat → Option α) (r : α) : Prop := ∃ K, ∀ k, K ≤ k → g k = some r
theorem Ev.of {α : Type} {g : Nat → Option α} {r : α} (hg : ∀ k, LeO (g k) (g (k + 1))) {k : Nat} (h : g k = some r) : Ev g r := ⟨k, fun _ hk => at_rounds hg hk h⟩
theorem Ev.now {α : Type} (r : α) : Ev (fun _ => some r) r := ⟨0, fun _ _ => rfl⟩
theorem Ev.rounds {α : Type} {g : Nat → Option α} {r : α} (h : Ev g r) : ∃ k, g k = some r := by
  obtain ⟨K, h⟩ := h
  exact ⟨K, h K (Nat.le_refl _)⟩
theorem Ev.bind {α β : Type} {g : Nat → Option α} {f : Nat → α → Option β} {a : α} {r : β} (h : Ev g a) (k : Ev (fun n => f n a) r) : Ev (fun n => (g n).bind (f n)) r := by
  obtain ⟨K, h⟩ := h
  obtain ⟨K', k⟩ := k
  refine ⟨max K K', fun n hn => ?_⟩
  have h1 := h n (by omega)
  have h2 := k n (by omega)
  simp only [h1, Option.bind_some]
  exact h2
theorem Ev.step {α : Type} {g f : Nat → Option α} {r : α} (h : ∀ k, g (k + 1) = f k) (k : Ev f r) : Ev g r := by
  obtain ⟨K, k⟩ := k
  refine ⟨K + 1, fun n hn => ?_⟩
  obtain ⟨m, rfl⟩ : ∃ m, n = m + 1 := ⟨n - 1, by omega⟩
  rw [h]
  exact k m (by omega)
theorem Ev.congr {α : Type} {g f : Nat → Option α} {r : α} (h : ∀ k, g k = f k) (k : Ev f r) : Ev g r := by
  obtain ⟨K, k⟩ := k
  exact ⟨K, fun n hn => (h n).trans (k n hn)⟩
section
variable {P : Program} {ops : Array Oper} {o : Oper} {a : Act} {Q : Exit → Act → World → Prop} {K : Act → World → Prop}
end
theorem own_weaken {w : World} {base base' : Nat} {e : TypeId} {size n : Nat} {v : Value} {xs : List Value} (h : w.ownsRow base e size v n xs) (hb : base' ≤ base) : w.ownsRow base' e size v n xs := by
  obtain ⟨h1, h2⟩ := h
  refine ⟨h1, ?_⟩
  rcases h2 with h2 | ⟨g, cap, cur, rfl, hg, r⟩
  · exact .inl h2
  · exact .inr ⟨g, cap, cur, rfl, Nat.le_trans hb hg, r⟩
section
variable {α : Type} {enc : α → Value} {d : α}
def rdOf (d : α) (xs : List α) (i : Int) : α := xs.getD i.toNat d
def ReadsOf (enc : α → Value) (d : α) (w : World) (A : Option Addr) (n : Nat) (xs : List α) : Prop :=
  xs.length = n ∧ n ≤ 9223372036854775807 ∧ (0 < n → ∃ ad, A = some ad ∧ ∀ j, j < n → w.cell? (ad.add j) = some (enc (xs.getD j d)))
theorem ReadsOf.at_ {w : World} {A : Option Addr} {n : Nat} {xs : List α} (h : ReadsOf enc d w A n xs) (i : Int) (h0 : 0 ≤ i) (h1 : i < n) : ∃ ad, A = some ad ∧ w.cell? (ad.add i.toNat) = some (enc (rdOf d xs i)) := by
  obtain ⟨ad, e, hc⟩ := h.2.2 (by omega)
  exact ⟨ad, e, hc _ (by omega)⟩
theorem ReadsOf.below {w w1 : World} {A : Option Addr} {n : Nat} {xs : List α} (h : ReadsOf enc d w A n xs) (hb : Below w.heap.size w w1) : ReadsOf enc d w1 A n xs :=
  ⟨h.1, h.2.1, fun hn => by
    obtain ⟨ad, e, hc⟩ := h.2.2 hn
    exact ⟨ad, e, fun j hj => pw_cell_below hb (hc j hj)⟩⟩
end
section
variable {α : Type} {P : Program} {ops : Array Oper} {rest : List Oper} {o : Oper} {a : Act} {Q : Exit → Act → World → Prop}
end
theorem blk_alloc {w : World} {g : Nat} {o : Obj} (h : w.heap[g]? = some o) (o' : Obj) : (w.alloc o').heap[g]? = some o := (Below.heap_alloc w o' g (blk_lt h)).trans h
theorem blk_drew {w : World} {g : Nat} {o : Obj} (h : w.heap[g]? = some o) : w.drew.heap[g]? = some o := h
theorem blk_drewN {w : World} {g : Nat} {o : Obj} (h : w.heap[g]? = some o) (n : Nat) : (w.drewN n).heap[g]? = some o := h
theorem blk_new (w : World) (o : Obj) : (w.alloc o).heap[w.heap.size]? = some o := heap_alloc_new w o
section
variable {P : Program}
theorem results_ct {fn : Func} {p u : Tmp} {ty : TypeId} (h : fn.results = #[.cell p ty, .tmp u]) (tmps : Array Value) (w : World) (g : Nat) (t : TypeId) (cs : Array Value) (fr : Nat × Nat) (d : TypeDesc)
    (hp : tmps.getD p undef = .pointer (some ⟨g, 0, none⟩)) (hg : w.heap[g]? = some (.cells cs t fr))
    (hu : P.underlying ty = some d) (hd : (match d with | .struct _ | .array _ _ => true | _ => false) = true) (hi : (P.info? ty).map (·.size) = some cs.size) :
    (results fn tmps).run P w = .ok (.tuple #[.agg cs, tmps.getD u undef]) w := by
  have hp' : tmps[p]?.getD undef = .pointer (some ⟨g, 0, none⟩) := by simpa using hp
  simp [results, h, hp', asAddr, run_loadVar_row w g t ty cs fr d hg hu hd hi]
end
theorem own_le {w : World} {base n m c size : Nat} {e : TypeId} {A : Option Addr} {xs : List Value} (h : w.ownsRow base e size (.slice A m c) n xs) : m ≤ c := by
  rcases h.2 with ⟨he, _⟩ | ⟨g, cap, cur, he, _, _, hnc, _⟩
  · injection he with _ h2 h3
    omega
  · injection he with _ h2 h3
    omega
def OwnRow {α : Type} (R : α → List Value → Prop) (e : TypeId) (size : Nat) (w : World) (base : Nat) (v : Value) (ps : List α) : Prop :=
  ∃ inner, w.ownsRow base e size v ps.length inner ∧ Reps R size ps inner
section
variable {α : Type} {R R' : α → List Value → Prop} {e : TypeId} {size : Nat} {w w1 : World} {base : Nat} {v : Value} {ps : List α}
theorem OwnRow.none_ (R : α → List Value → Prop) (e : TypeId) (size : Nat) (w : World) (base : Nat) : OwnRow R e size w base (.slice none 0 0) [] := ⟨[], own_nil _ _ _ _, Reps.none _ _⟩
theorem OwnRow.imp_ (h : OwnRow R e size w base v ps) (hR : ∀ p c, R p c → R' p c) : OwnRow R' e size w base v ps := by
  obtain ⟨inner, ho, hr⟩ := h
  exact ⟨inner, ho, hr.imp_ hR⟩
theorem OwnRow.below (h : OwnRow R e size w base v ps) (hb : Below w.heap.size w w1) : OwnRow R e size w1 base v ps := by
  obtain ⟨inner, ho, hr⟩ := h
  exact ⟨inner, pw_own_below ho hb, hr⟩
theorem OwnRow.other (h : OwnRow R e size w base v ps) {row : Option Nat} (hg : w.grownBy w1 row) (hne : v.ownBlock = none ∨ v.ownBlock ≠ row) : OwnRow R e size w1 base v ps := by
  obtain ⟨inner, ho, hr⟩ := h
  exact ⟨inner, own_other ho hg hne, hr⟩
theorem OwnRow.keep (h : OwnRow R e size w base v ps) {g : Nat} {t : TypeId} {cells : Array Value} (hb : w.heap[g]? = some (.cells cells t (0, 0))) (ht : e ≠ t) (hk : KeepBut w w1 g none) : OwnRow R e size w1 base v ps := by
  obtain ⟨inner, ho, hr⟩ := h
  exact ⟨inner, hk.own ho (Ne.symm (own_ne ho hb ht)) (by cases v.ownBlock <;> simp), hr⟩
theorem OwnRow.reads (h : OwnRow R e size w base v ps) : ∃ A c, v = .slice A ps.length c ∧ ps.length ≤ c ∧ ReadsRow R size w A ps.length ps := by
  obtain ⟨inner, ho, hr⟩ := h
  obtain ⟨A, c, rfl, hrow⟩ := own_reads_row ho hr rfl
  exact ⟨A, c, rfl, own_le ho, hrow⟩
theorem OwnRow.lit (W : World) (base : Nat) {inner : List Value} (hr : Reps R size ps inner) (hb : base ≤ W.heap.size) (hm : ps.length ≤ 9223372036854775807) :
    OwnRow R e size (W.alloc (.cells inner.toArray e)) base (.slice (some ⟨W.heap.size, 0, none⟩) ps.length ps.length) ps := by
  have h := World.ownsRow_lit (base := base) (e := e) (size := size) W inner.toArray ps.length hb (by simpa [maxLen] using hm) (by simpa using hr.1)
  exact ⟨inner, by simpa using h, hr⟩
end
section
variable {P : Program} {ops : Array Oper} {rest : List Oper} {o : Oper} {a : Act} {Q : Exit → Act → World → Prop} {α : Type} {R : α → List Value → Prop}
theorem OwnRow.append {w0 W : World} (base : Nat) (hgd : o.guard = none) (s x : Operand) (t e : TypeId) (z : Value) (size bytes : Nat)
    (ho : o.op = .call { callee := .builtin .append, args := #[s, x], argTypes := #[t, t] })
    (ht : P.underlying t = some (.slice e)) (hinfo : (P.info? e).map (fun i => (i.zero, i.size, i.bytes)) = some (some z, size, bytes)) (hz : z.cells.size = size) (hs0 : 0 < size) (hb0 : 0 < bytes)
    (v : Value) (ps : List α) (p : α) (cs : List Value) (hs : a.eval s = v) (hx : a.eval x = .slice (some ⟨W.heap.size, 0, none⟩) 1 1) (hp : R p cs) (hcs : cs.length = size) (h1 : ∀ u ∈ cs, u.oneCell' = true)
    (HO : OwnRow R e size W base v ps) (HB : Below base w0 W) (hbase : base ≤ W.heap.size) (hl : (ps.length + 1) * bytes ≤ 140737488355328)
    (h : ∀ v1 w1, OwnRow R e size w1 base v1 (ps ++ [p]) → Below base w0 w1 → W.grownBy w1 v.ownBlock → (v1.ownBlock = v.ownBlock ∨ ∃ b, v1.ownBlock = some b ∧ W.heap.size ≤ b) → wpList P ops Q rest (a.put o.dst v1) w1) :
    wpList P ops Q (o :: rest) a (W.alloc (.cells cs.toArray e)) := by
  obtain ⟨inner, hown, hr⟩ := HO
  refine print_append_cells base hgd s x t e z size bytes ho ht hinfo hz hs0 hb0 v ps.length inner cs hs hx hcs h1 hown HB hbase hl ?_
  intro v1 w1 hown1 hb1 hg1 hat1
  exact h v1 w1 ⟨inner ++ cs, by rw [List.length_append, List.length_singleton]; exact hown1, hr.snoc hp hcs⟩ hb1 hg1 hat1
end
section
variable {P : Program} {ops : Array Oper} {o : Oper} {a : Act} {Q : Exit → Act → World → Prop} {K : Act → World → Prop} {α : Type} {R : α → List Value → Prop}
end
section
variable {α : Type} {P : Program}
theorem ReadsOf.len_ {enc : α → Value} {d : α} {w : World} {A : Option Addr} {n : Nat} {xs : List α} (h : ReadsOf enc d w A n xs) : ReadsOf enc d w A xs.length xs := by rw [h.1]; exact h
end
section
variable {P : Program} {ops : Array Oper} {rest : List Oper} {o : Oper} {a : Act} {Q : Exit → Act → World → Prop}
end
structure Kd (α : Type) where
  sz : Nat
  E : List Nat
  K : World → α → List Value → Prop
  M : World → Nat → (Nat → Prop) → α → List Value → Prop
  K_len : ∀ {w x cs}, K w x cs → cs.length = sz
  K_one : ∀ {w x cs}, K w x cs → ∀ u ∈ cs, u.oneCell' = true
  K_below : ∀ {w w1 : World} {x cs}, Below w.heap.size w w1 → K w x cs → K w1 x cs
  K_of_M : ∀ {w base ok x cs}, M w base ok x cs → K w x cs
  M_mono : ∀ {w base ok ok' x cs}, (∀ k, ok k → ok' k) → M w base ok x cs → M w base ok' x cs
  M_bound : ∀ {w : World} {base ok x cs}, M w base ok x cs → M w base (fun k => ok k ∧ base ≤ k ∧ k < w.heap.size ∧ ∃ q, q ∈ E ∧ ∃ cells, w.heap[k]? = some (.cells cells q (0, 0))) x cs
  M_move : ∀ {w w1 : World} {base ok x cs}, (∀ k, ok k → w1.heap[k]? = w.heap[k]?) → M w base ok x cs → M w1 base ok x cs
  M_lower : ∀ {w base base' ok x cs}, base' ≤ base → M w base ok x cs → M w base' ok x cs
theorem own_move {w w1 : World} {base : Nat} {e : TypeId} {size n : Nat} {v : Value} {xs : List Value} (h : w.ownsRow base e size v n xs) (hm : ∀ k, v.ownBlock = some k → w1.heap[k]? = w.heap[k]?) : w1.ownsRow base e size v n xs := by
  obtain ⟨h1, h2⟩ := h
  refine ⟨h1, ?_⟩
  rcases h2 with h2 | ⟨g, cap, cur, rfl, hg, hh, r⟩
  · exact .inl h2
  · exact .inr ⟨g, cap, cur, rfl, hg, (hm g (by simp [Value.ownBlock])).trans hh, r⟩
theorem own_typed {w : World} {base : Nat} {e : TypeId} {size n : Nat} {v : Value} {xs : List Value} (h : w.ownsRow base e size v n xs) (k : Nat) (hk : v.ownBlock = some k) : ∃ cells, w.heap[k]? = some (.cells cells e (0, 0)) := by
  rcases h.2 with ⟨rfl, _⟩ | ⟨g, cap, cur, rfl, hg, hh, r⟩
  · simp [Value.ownBlock] at hk
  · have : g = k := by simpa [Value.ownBlock] using hk
    subst this
    exact ⟨cur, hh⟩
namespace Kd
def C {α : Type} (d : Kd α) (w : World) (A : Option Addr) (n : Nat) (xs : List α) : Prop := ReadsRow (d.K w) d.sz w A n xs
def R {α : Type} (d : Kd α) (e : Nat) (w : World) (base : Nat) (ok : Nat → Prop) (v : Value) (xs : List α) : Prop :=
  (∀ k, v.ownBlock = some k → ok k) ∧ OwnRow (d.M w base (fun k => ok k ∧ some k ≠ v.ownBlock)) e d.sz w base v xs
section
variable {α : Type} {d : Kd α} {e : Nat} {w w1 : World} {base : Nat} {ok ok' : Nat → Prop} {v : Value} {xs : List α}
theorem C_below {A : Option Addr} {n : Nat} (h : d.C w A n xs) (hb : Below w.heap.size w w1) : d.C w1 A n xs := ReadsRow.imp_ h hb (fun _ _ hp => d.K_below hb hp)
theorem R_nil (d : Kd α) (e : Nat) (w : World) (base : Nat) (ok : Nat → Prop) : d.R e w base ok (.slice none 0 0) [] := ⟨fun k hk => by simp [Value.ownBlock] at hk, OwnRow.none_ _ _ _ _ _⟩
theorem R_mono (h : d.R e w base ok v xs) (hok : ∀ k, ok k → ok' k) : d.R e w base ok' v xs := ⟨fun k hk => hok k (h.1 k hk), h.2.imp_ (fun _ _ hp => d.M_mono (fun k hk => ⟨hok k hk.1, hk.2⟩) hp)⟩
theorem R_bound (h : d.R e w base ok v xs) : d.R e w base (fun k => ok k ∧ base ≤ k ∧ k < w.heap.size ∧ ∃ q, q ∈ e :: d.E ∧ ∃ cells, w.heap[k]? = some (.cells cells q (0, 0))) v xs := by
  obtain ⟨h0, inner, ho, hr⟩ := h
  refine ⟨fun k hk => ?_, inner, ho, hr.imp_ (fun _ _ hp => d.M_mono (fun k hk => ?_) (d.M_bound hp))⟩
  · obtain ⟨cells, hc⟩ := own_typed ho k hk
    exact ⟨h0 k hk, own_base ho k hk, own_lt ho k hk, e, List.mem_cons_self, cells, hc⟩
  · obtain ⟨⟨h1, h2⟩, h3, h4, q, hq, hc⟩ := hk
    exact ⟨⟨h1, h3, h4, q, List.mem_cons_of_mem _ hq, hc⟩, h2⟩
theorem R_move (h : d.R e w base ok v xs) (hm : ∀ k, ok k → w1.heap[k]? = w.heap[k]?) : d.R e w1 base ok v xs := by
  obtain ⟨h0, inner, ho, hr⟩ := h
  exact ⟨h0, inner, own_move ho (fun k hk => hm k (h0 k hk)), hr.imp_ (fun _ _ hp => d.M_move (fun k hk => hm k hk.1) hp)⟩
theorem R_lower {base' : Nat} (h : d.R e w base ok v xs) (hb : base' ≤ base) : d.R e w base' ok v xs := by
  obtain ⟨h0, inner, ho, hr⟩ := h
  exact ⟨h0, inner, own_weaken ho hb, hr.imp_ (fun _ _ hp => d.M_lower hb hp)⟩
theorem R_reads (h : d.R e w base ok v xs) : ∃ A c, v = .slice A xs.length c ∧ xs.length ≤ c ∧ d.C w A xs.length xs := by
  obtain ⟨A, c, he, hl, hr⟩ := OwnRow.reads h.2
  exact ⟨A, c, he, hl, hr.imp_ (Below.refl _ _) (fun _ _ hp => d.K_of_M hp)⟩
theorem R_own (h : d.R e w base ok v xs) : ∃ inner, w.ownsRow base e d.sz v xs.length inner := by
  obtain ⟨_, inner, ho, _⟩ := h
  exact ⟨inner, ho⟩
end
def scalar {α : Type} (enc : α → Value) (h1 : ∀ x, (enc x).oneCell' = true) : Kd α where
  sz := 1
  E := []
  K := fun _ x cs => cs = [enc x]
  M := fun _ _ _ x cs => cs = [enc x]
  K_len := fun h => by rw [h]; rfl
  K_one := fun h u hu => by
    rw [h] at hu
    rw [List.mem_singleton.1 hu]
    exact h1 _
  K_below := fun _ h => h
  K_of_M := fun h => h
  M_mono := fun _ h => h
  M_bound := fun h => h
  M_move := fun _ h => h
  M_lower := fun _ h => h
def int (k : IntKind) : Kd Int := scalar (Value.int k) (fun _ => rfl)
def bool : Kd Bool := scalar Value.bool (fun _ => rfl)
def string : Kd ByteArray := scalar Value.string (fun _ => rfl)
def slice {α : Type} (e : Nat) (d : Kd α) : Kd (List α) where
  sz := 1
  E := e :: d.E
  K := fun w xs cs => ∃ A c, cs = [.slice A xs.length c] ∧ xs.length ≤ c ∧ d.C w A xs.length xs
  M := fun w base ok xs cs => ∃ v, cs = [v] ∧ d.R e w base ok v xs
  K_len := by
    rintro w x cs ⟨A, c, rfl, _⟩
    rfl
  K_one := by
    rintro w x cs ⟨A, c, rfl, _⟩ u hu
    rw [List.mem_singleton.1 hu]
    rfl
  K_below := by
    rintro w w1 x cs hb ⟨A, c, rfl, hl, hr⟩
    exact ⟨A, c, rfl, hl, C_below hr hb⟩
  K_of_M := by
    rintro w base ok x cs ⟨v, rfl, h⟩
    obtain ⟨A, c, rfl, hl, hr⟩ := R_reads h
    exact ⟨A, c, rfl, hl, hr⟩
  M_mono := by
    rintro w base ok ok' x cs hok ⟨v, rfl, h⟩
    exact ⟨v, rfl, R_mono h hok⟩
  M_bound := by
    rintro w base ok x cs ⟨v, rfl, h⟩
    exact ⟨v, rfl, R_bound h⟩
  M_move := by
    rintro w w1 base ok x cs hm ⟨v, rfl, h⟩
    exact ⟨v, rfl, R_move h hm⟩
  M_lower := by
    rintro w base base' ok x cs hb ⟨v, rfl, h⟩
    exact ⟨v, rfl, R_lower h hb⟩
def bot {α : Type} (sz : Nat) (E : List Nat) : Kd α where
  sz := sz
  E := E
  K := fun _ _ _ => False
  M := fun _ _ _ _ _ => False
  K_len := fun h => h.elim
  K_one := fun h => h.elim
  K_below := fun _ h => h
  K_of_M := fun h => h
  M_mono := fun _ h => h
  M_bound := fun h => h
  M_move := fun _ h => h
  M_lower := fun _ h => h
def upto {α : Type} (F : Kd α → Kd α) (sz : Nat) (E : List Nat) : Nat → Kd α
  | 0 => bot sz E
  | n + 1 => F (upto F sz E n)
section
variable {P : Program} {ops : Array Oper} {rest : List Oper} {o : Oper} {a : Act} {Q : Exit → Act → World → Prop} {α : Type}
end
section
variable {P : Program} {ops : Array Oper} {o : Oper} {a : Act} {Q : Exit → Act → World → Prop} {Kc : Act → World → Prop} {α : Type}
end
theorem reads_of_C {α : Type} {enc : α → Value} {d : α} {h1 : ∀ x, (enc x).oneCell' = true} {w : World} {A : Option Addr} {n : Nat} {xs : List α} (h : (scalar enc h1).C w A n xs) : ReadsOf enc d w A n xs := by
  refine ⟨h.1, h.2.1, fun hn => ?_⟩
  obtain ⟨ad, e, hc⟩ := h.2.2 hn
  refine ⟨ad, e, fun j hj => ?_⟩
  have hl : j < xs.length := by have := h.1; omega
  obtain ⟨c, _, hK, hcell⟩ := hc j _ (List.getElem?_eq_getElem hl)
  have hK' : c = [enc xs[j]] := hK
  subst hK'
  have := hcell 0 _ rfl
  simpa [scalar, List.getD_eq_getElem?_getD, List.getElem?_eq_getElem hl] using this
end Kd
namespace Kd
def Sub {α β : Type} (F : Kd α → Kd β) (E : List Nat) : Prop := ∀ d : Kd α, (∀ q, q ∈ d.E → q ∈ E) → ∀ q, q ∈ (F d).E → q ∈ E
section
variable {α : Type} {F : Kd α → Kd α} {sz : Nat} {E : List Nat} {hs : ∀ n, (upto F sz E n).sz = sz} {hE : ∀ n q, q ∈ (upto F sz E n).E → q ∈ E}
end
end Kd
namespace Kd
end Kd
namespace Kd
section
variable {α β : Type} {d : Kd α} {d' : Kd β} {e e' : Nat} {w w1 W : World} {base b b' : Nat} {ok ok' okv oku : Nat → Prop} {v u : Value} {xs : List α} {ys : List β}
end
section
variable {w W : World} {A : Option Addr} {n : Nat}
theorem at_string {xs : List ByteArray} (h : Kd.string.C w A n xs) (i : Int) (h0 : 0 ≤ i) (h1 : i < n) : ∃ ad, A = some ad ∧ w.cell? (ad.add i.toNat) = some (.string (rdOf ByteArray.empty xs i)) :=
  ReadsOf.at_ (reads_of_C (enc := Value.string) (d := ByteArray.empty) (h1 := fun _ => rfl) h) i h0 h1
variable {α : Type} {enc : α → Value} {h1 : ∀ x, (enc x).oneCell' = true} {e base g cap : Nat} {ok : Nat → Prop} {xs : List α}
end
section
variable {P : Program} {ops : Array Oper} {rest : List Oper} {o : Oper} {a : Act} {Q : Exit → Act → World → Prop}
theorem event_run {W w1 : World} {v : Value} (hgd : o.guard = none) (hrun : (execOp a.eval o).run P W = .ok (.value v) w1) (h : wpList P ops Q rest (a.put o.dst v) w1) : wpList P ops Q (o :: rest) a W := by
  refine wpList_plain hgd fun K hK => ?_
  unfold Oper.wp
  rw [hrun]
  exact hK _ _ h
variable {α : Type}
end
end Kd
section
variable {P : Program}
end
def QRow (w : World) (base : Nat) (e : TypeId) (size : Nat) (v : Value) (n : Nat) (xs : List Value) : Prop :=
  xs.length = n * size ∧
  ((n = 0 ∧ ∃ A, v = .slice A 0 0 ∧ ∀ a, A = some a → base ≤ a.block ∧ ∃ cur, w.heap[a.block]? = some (.cells cur e (0, 0))) ∨
   ∃ g off cap cur, v = .slice (some ⟨g, off * size, none⟩) n cap ∧ base ≤ g ∧ w.heap[g]? = some (.cells cur e (0, 0)) ∧ n ≤ cap ∧ off + cap ≤ maxLen ∧ cur.size = (off + cap) * size ∧ (cur.toList.drop (off * size)).take (n * size) = xs)
section
variable {w w1 : World} {base n size : Nat} {e : TypeId} {v : Value} {xs : List Value}
theorem add_at (g o j : Nat) : (⟨g, o, none⟩ : Addr).add j = ⟨g, o + j, none⟩ := by unfold Addr.add; split <;> simp_all
end
section
variable {P : Program}
end
namespace Kd
def Q {α : Type} (d : Kd α) (e : Nat) (w : World) (base : Nat) (ok : Nat → Prop) (v : Value) (xs : List α) : Prop :=
  (∀ k, v.ownBlock = some k → ok k) ∧ ∃ inner, QRow w base e d.sz v xs.length inner ∧ Reps (d.M w base (fun k => ok k ∧ some k ≠ v.ownBlock)) d.sz xs inner
section
variable {α : Type} {d : Kd α} {e : Nat} {w w1 W : World} {base : Nat} {ok ok' : Nat → Prop} {v : Value} {xs : List α}
end
section
variable {P : Program} {ops : Array Oper} {rest : List Oper} {o : Oper} {a : Act} {Q' : Exit → Act → World → Prop} {Kc : Act → World → Prop} {α : Type}
end
end Kd
namespace Kd
section
variable {α : Type} {d : Kd α} {e e' : Nat} {w w1 W : World} {base : Nat} {ok : Nat → Prop} {u v : Value} {xs : List α}
end
end Kd
namespace Kd
section
variable {α : Type} {d : Kd α} {e base g n cap : Nat} {ok okp : Nat → Prop} {W : World} {xs : List α}
end
end Kd
namespace Kd
section
variable {α : Type} {F : Kd α → Kd α} {sz : Nat} {E : List Nat} {hs : ∀ n, (upto F sz E n).sz = sz} {hE : ∀ n q, q ∈ (upto F sz E n).E → q ∈ E}
end
end Kd
namespace Kd
section
variable {P : Program} {ops : Array Oper} {rest : List Oper} {o : Oper} {a : Act} {Q : Exit → Act → World → Prop} {α : Type}
end
end Kd
namespace Kd
section
variable {P : Program} {ops : Array Oper} {rest : List Oper} {o : Oper} {a : Act} {Q : Exit → Act → World → Prop} {α : Type}
end
end Kd
theorem add_add (a : Addr) (i j : Nat) : (a.add i).add j = a.add (i + j) := by
  unfold Addr.add
  by_cases h1 : i = 0 <;> by_cases h2 : j = 0 <;> simp [h1, h2, Nat.add_assoc]
namespace Kd
section
variable {α : Type} {k : Kd α} {w : World} {A : Option Addr} {xs : List α} {m c : Nat}
end
end Kd
section
variable {P : Program}
end
theorem below_size {w W : World} (h : Below w.heap.size w W) : w.heap.size ≤ W.heap.size := h.size
theorem below_step {w W w2 : World} (h : Below w.heap.size w W) (k : Below W.heap.size W w2) : Below w.heap.size w w2 := below_then h h.size k
theorem ReadsInt.nil (W : World) (k : IntKind) : ReadsInt W k none ([] : List Int).length [] := ⟨rfl, by simp, fun h => absurd h (Nat.lt_irrefl 0)⟩
theorem ReadsInt.drewN {W : World} {k : IntKind} {A : Option Addr} {n : Nat} {xs : List Int} (h : ReadsInt W k A n xs) (m : Nat) : ReadsInt (W.drewN m) k A n xs := h
theorem below_set {w W : World} {g j : Nat} {v : Value} (h : Below w.heap.size w W) (hg : w.heap.size ≤ g) : Below w.heap.size w (W.setCell ⟨g, j, none⟩ v) := h.setCell hg _
theorem keep_cell {w W : World} {g : Nat} (h : KeepBut w W g none) {a : Addr} {v : Value} (hc : w.cell? a = some v) (hne : a.block ≠ g) : W.cell? a = some v := by
  have := h.2 a.block (World.block_lt_of_cell? w a hc) hne (by simp)
  simpa [World.cell?, this] using hc
theorem add_block (a : Addr) (i : Nat) : (a.add i).block = a.block := by unfold Addr.add; split <;> rfl
theorem ReadsOf.nil {α : Type} (enc : α → Value) (d : α) (W : World) : ReadsOf enc d W none ([] : List α).length [] := ⟨rfl, by simp, fun h => absurd h (Nat.lt_irrefl 0)⟩
theorem ReadsOf.drewN {α : Type} {enc : α → Value} {d : α} {W : World} {A : Option Addr} {n : Nat} {xs : List α} (h : ReadsOf enc d W A n xs) (m : Nat) : ReadsOf enc d (W.drewN m) A n xs := h
theorem ReadsInt.keep {w W : World} {k : IntKind} {A : Option Addr} {n g : Nat} {xs : List Int} (h : ReadsInt w k A n xs) (hk : KeepBut w W g none) (hf : ∀ ad, A = some ad → 0 < n → ad.block ≠ g) : ReadsInt W k A n xs :=
  ⟨h.1, h.2.1, fun hn => by
    obtain ⟨ad, e, hc⟩ := h.2.2 hn
    exact ⟨ad, e, fun j hj => keep_cell hk (hc j hj) (by rw [add_block]; exact hf ad e hn)⟩⟩
theorem ReadsOf.keep {α : Type} {enc : α → Value} {d : α} {w W : World} {A : Option Addr} {n g : Nat} {xs : List α} (h : ReadsOf enc d w A n xs) (hk : KeepBut w W g none) (hf : ∀ ad, A = some ad → 0 < n → ad.block ≠ g) : ReadsOf enc d W A n xs :=
  ⟨h.1, h.2.1, fun hn => by
    obtain ⟨ad, e, hc⟩ := h.2.2 hn
    exact ⟨ad, e, fun j hj => keep_cell hk (hc j hj) (by rw [add_block]; exact hf ad e hn)⟩⟩
theorem blk_put {w : World} {g : Nat} {t : TypeId} {cs cs' : Array Value} (h : w.heap[g]? = some (.cells cs t (0, 0))) (i : Nat) (u : Value) (e : cs.setIfInBounds i u = cs') : (w.setCell ⟨g, i, none⟩ u).heap[g]? = some (.cells cs' t (0, 0)) := e ▸ blk_set h i u
theorem below_drew1 {base : Nat} {w W : World} (h : Below base w W) : Below base w W.drew := h.drew
namespace Kd
section
variable {α β : Type} {d : Kd α} {d' : Kd β} {e e' base base' n : Nat} {ok ok' : Nat → Prop} {w W w1 W1 : World} {v u : Value} {xs : List α} {ys : List β} {A : Option Addr} {c : Nat}
end
section
variable {α : Type} {enc : α → Value} {h1 : ∀ x, (enc x).oneCell' = true} {w W : World} {A : Option Addr} {n g : Nat} {xs : List α}
end
end Kd
namespace Kd
section
variable {α : Type} {d : Kd α} {e base g : Nat} {ok : Nat → Prop} {w w1 : World} {v : Value} {xs : List α} {o : Obj}
end
end Kd
section
variable {P : Program} {ops : Array Oper} {rest : List Oper} {o : Oper} {a : Act} {Q : Exit → Act → World → Prop}
theorem box_event {W : World} (hgd : o.guard = none) {N : Tmp} (_hd : o.dst = some N) {cs : Array Value} {t : TypeId}
    (hrun : (execOp a.eval o).run P W = .ok (.value (.pointer (some ⟨W.heap.size, 0, none⟩))) (W.alloc (.cells cs t (0, 0))))
    (h : ∀ g, g = W.heap.size → ∀ w1, w1.heap[g]? = some (.cells cs t (0, 0)) → Below W.heap.size W w1 → wpList P ops Q rest (a.put o.dst (.pointer (some ⟨g, 0, none⟩))) w1) : wpList P ops Q (o :: rest) a W :=
  Kd.event_run hgd hrun (h _ rfl _ (blk_new W _) (below_alloc (Below.refl _ _) _))
end
namespace Kd
section
variable {α : Type} {enc : α → Value} {h1 : ∀ x, (enc x).oneCell' = true} {e base g n cap : Nat} {ok : Nat → Prop} {W : World} {xs : List α}
end
end Kd
section
variable {P : Program} {ops : Array Oper} {rest : List Oper} {o : Oper} {a : Act} {Q : Exit → Act → World → Prop}
end
namespace Kd
section
variable {α : Type} {enc : α → Value} {h1 : ∀ x, (enc x).oneCell' = true} {e base g n cap : Nat} {ok : Nat → Prop} {W : World} {xs : List α}
end
end Kd
section
variable {P : Program} {ops : Array Oper} {rest : List Oper} {o : Oper} {a : Act} {Q : Exit → Act → World → Prop} {W : World}
theorem gate_dst {N : Tmp} (_hN : o.dst = some N) (h : wpList P ops Q (o :: rest) a W) : wpList P ops Q (o :: rest) a W := h
end
section
variable {P : Program} {ops : Array Oper} {o : Oper} {a : Act} {Q : Exit → Act → World → Prop} {Kc : Act → World → Prop}
namespace Kd
variable {α : Type}
end Kd
end
section
variable {P : Program} {tmps : Array Value} {w : World}
end
namespace Kd
section
variable {P : Program} {α : Type}
end
section
variable {P : Program} {ops : Array Oper} {rest : List Oper} {o : Oper} {a : Act} {Q : Exit → Act → World → Prop} {Kc : Act → World → Prop} {α : Type}
end
end Kd
end Go.Proofs.YtokkfbkbnocnoaaGreatDoorW.PrintWords
end
section
-- PRINTED BY print.sh 35421559b90ae4d0a3588c463048766b98c2df88dd9212a6774a882060cdf62d: not written by this session
/-
  PRINTED WORDS, second file: A REGION THAT DRAWS ITS ORDER, WALKED BY HAND, where its last store writes what its own loads read ('x.f = append(x.f, f(i))'). Plain theorems; no macro, no elab. A claim may hold it (turn the namespace's name).
  A load may be taken first in every world that meets S; behind the operations of ds nothing is shown; sound because each of ds waits for what is taken (Region.lastB). The kernel checks it.
  By an AI agent of Go's test side, Mon Nov 16 2026. No person has read it.
-/
namespace Go.Proofs.YtokkfbkbnocnoaaGreatDoorW.PrintLast
section
variable {P : Program} {ops : Array Oper} {Q : Exit → Act → World → Prop} {md : Region.Mode} {S : World → Prop} {ds : List Nat}
def Region.reachB (md : Region.Mode) (ops : Array Oper) (i : Nat) : Nat → Nat → Bool
  | 0, _ => false
  | fuel + 1, d => match ops[d]? with
    | some o => o.after.any fun e => Region.binds md e && (e.on == i || Region.reachB md ops i fuel e.on)
    | none => false
def Region.lastB (md : Region.Mode) (ops : Array Oper) (listed : Array Bool) (ds : List Nat) (i : Nat) : Bool :=
  ds.all fun d => listed.getD d true || Region.reachB md ops i ops.size d
def ListedClosed (md : Region.Mode) (ops : Array Oper) (listed : Array Bool) : Prop :=
  ∀ j oj, ops[j]? = some oj → listed.getD j false = true → ∀ e ∈ oj.after, Region.binds md e = true → listed.getD e.on false = true
theorem ListedClosed.set {listed : Array Bool} {i : Nat} (h : ListedClosed md ops listed) (hi : i ∈ Region.ready md ops listed) : ListedClosed md ops (listed.setIfInBounds i true) := by
  obtain ⟨_, oi, hoi, hall⟩ := mem_ready.1 hi
  intro j oj hj hl e he hb
  by_cases hij : i = j
  · subst hij
    have : oj = oi := Option.some.inj (hj.symm.trans hoi)
    subst this
    exact getD_set_true (hall e he hb)
  · rw [getD_set_ne false hij] at hl
    exact getD_set_true (h j oj hj hl e he hb)
def wpAnyLast (P : Program) (md : Region.Mode) (ops : Array Oper) (Q : Exit → Act → World → Prop) (S : World → Prop) (ds : List Nat) : Nat → Array Bool → Act → World → Prop
  | 0, listed, a, w => Region.ready md ops listed = [] ∧ Q .normal a w
  | fuel + 1, listed, a, w =>
    (Region.ready md ops listed = [] → Q .normal a w) ∧
    ∀ i ∈ Region.ready md ops listed, wpOp P ops Q i (fun a' w' => (i ∉ ds → S w → S w') ∧ wpAnyLast P md ops Q S ds fuel (listed.setIfInBounds i true) a' w') a w
end
section
variable {P : Program} {ops : Array Oper} {Q : Exit → Act → World → Prop} {md : Region.Mode} {S : World → Prop} {ds : List Nat}
def AllReadyL (P : Program) (md : Region.Mode) (ops : Array Oper) (Q : Exit → Act → World → Prop) (S : World → Prop) (ds : List Nat) (fuel : Nat) (listed : Array Bool) (a : Act) (w : World) (rs : List Nat) : Prop :=
  ∀ i ∈ rs, wpOp P ops Q i (fun a' w' => (i ∉ ds → S w → S w') ∧ wpAnyLast P md ops Q S ds fuel (listed.setIfInBounds i true) a' w') a w
theorem AllReadyL.nil {fuel : Nat} {listed : Array Bool} {a : Act} {w : World} : AllReadyL P md ops Q S ds fuel listed a w [] := fun _ h => by cases h
theorem AllReadyL.cons {fuel : Nat} {listed : Array Bool} {a : Act} {w : World} {i : Nat} {o : Oper} {rs : List Nat} (ho : ops[i]? = some o) (hd : i ∉ ds)
    (h : ∀ K' : Act → World → Prop, Shut (∀ a w, S w → (S w → wpAnyLast P md ops Q S ds fuel (listed.setIfInBounds i true) a w) → K' a w) → if Region.wanted o (yielded ops a.tmps) = true then Oper.wp P o a w K' Q else K' (a.put o.dst undef) w)
    (hs : AllReadyL P md ops Q S ds fuel listed a w rs) : AllReadyL P md ops Q S ds fuel listed a w (i :: rs) := fun j hj => by
  rcases List.mem_cons.1 hj with rfl | hj
  · exact wpOp_step ho (fun K' hK => h K' (fun a w hS hW => hK a w ⟨fun _ _ => hS, hW hS⟩))
  · exact hs j hj
theorem enters_ {f : FuncId} {fn : Func} (hf : P.funcs[f]? = some fn) (hname : (fn.name == "runtime.NumGoroutine") = false) (hb : fn.body.isSome = true) (args : Array Value) (w : World) : (callFunc f args).run P w = .ok (.enter f args) w := by
  have h1 : fn.name ≠ "runtime.NumGoroutine" := by simpa using hname
  obtain ⟨c, hc⟩ := Option.isSome_iff_exists.1 hb
  simp [callFunc, hf, h1, hc]
theorem goesL_ {rest : List Oper} {oi : Oper} {a : Act} {w : World} (N : Option Tmp) (hd : oi.dst = N) (hg : oi.guard = none) {f : FuncId} {fn : Func} {az : Array Operand} {ts : Array TypeId} (hf : P.funcs[f]? = some fn) (hname : (fn.name == "runtime.NumGoroutine") = false) (hb : fn.body.isSome = true) (args : Array Value)
    (hop : oi.op = .call { callee := .value (.func f), args := az, argTypes := ts }) (hargs : az.map a.eval = args)
    (h : Calls P f args w fun e w' => ∃ v, e = .returned v ∧ wpList P ops Q rest (a.put N v) w') : wpList P ops Q (oi :: rest) a w := by
  refine wpList_plain hg fun K hK => ?_
  have he := enters_ hf hname hb args w
  have hrun : (execOp a.eval oi).run P w = .ok (.enter f args) w := by
    unfold execOp
    simp [hop, resolve, Deferred.ofValue, invoke, Act.eval, hargs, he]
  unfold Oper.wp
  rw [hrun, Oper.upon_enter]
  refine h.mono fun e w'' hh => ?_
  obtain ⟨v, rfl, hk⟩ := hh
  subst hd
  exact hK _ _ hk
end
end Go.Proofs.YtokkfbkbnocnoaaGreatDoorW.PrintLast
end
section
-- PRINTED BY print.sh 35421559b90ae4d0a3588c463048766b98c2df88dd9212a6774a882060cdf62d: not written by this session
-- PRINTED WORDS (module Derived/Print/More.lean): go-gate-2's additions: an AI agent of Go's test side, Tue Nov 17 2026; no person has read it. Lean checks it.
namespace Go.Proofs.YtokkfbkbnocnoaaGreatDoorW.PrintMore
open Go.RowKit Go.Proofs.YtokkfbkbnocnoaaGreatDoorW.PrintWords
namespace Kd
open Go.Proofs.YtokkfbkbnocnoaaGreatDoorW.PrintWords.Kd
end Kd
namespace Kd
open Go.Proofs.YtokkfbkbnocnoaaGreatDoorW.PrintWords.Kd
section
variable {α : Type} {d : Kd α} {e base g N : Nat} {ok : Nat → Prop} {W w1 : World} {u v : Value} {xs : List α}
end
end Kd
theorem max2_int (k k' : IntKind) (x y : Int) : Builtin.max2 (.int k x) (.int k' y) = pure (.int k (if x < y then y else x)) := by simp only [Builtin.max2, gt_iff_lt]
theorem min2_int (k k' : IntKind) (x y : Int) : Builtin.min2 (.int k x) (.int k' y) = pure (.int k (if y < x then y else x)) := by simp only [Builtin.min2]
theorem max_two (ats : Array TypeId) (ty : TypeId) (a b : Value) : Builtin.max_ ats ty #[a, b] = (Builtin.max2 a b >>= fun s => pure s) := by simp only [Builtin.max_, List.foldlM_cons, List.foldlM_nil]
theorem min_two (ats : Array TypeId) (ty : TypeId) (a b : Value) : Builtin.min_ ats ty #[a, b] = (Builtin.min2 a b >>= fun s => pure s) := by simp only [Builtin.min_, List.foldlM_cons, List.foldlM_nil]
theorem max_three (ats : Array TypeId) (ty : TypeId) (a b c : Value) : Builtin.max_ ats ty #[a, b, c] = (Builtin.max2 a b >>= fun s => Builtin.max2 s c >>= fun s => pure s) := by simp only [Builtin.max_, List.foldlM_cons, List.foldlM_nil]
theorem min_three (ats : Array TypeId) (ty : TypeId) (a b c : Value) : Builtin.min_ ats ty #[a, b, c] = (Builtin.min2 a b >>= fun s => Builtin.min2 s c >>= fun s => pure s) := by simp only [Builtin.min_, List.foldlM_cons, List.foldlM_nil]
theorem max_four (ats : Array TypeId) (ty : TypeId) (a b c d : Value) : Builtin.max_ ats ty #[a, b, c, d] = (Builtin.max2 a b >>= fun s => Builtin.max2 s c >>= fun s => Builtin.max2 s d >>= fun s => pure s) := by simp only [Builtin.max_, List.foldlM_cons, List.foldlM_nil]
theorem min_four (ats : Array TypeId) (ty : TypeId) (a b c d : Value) : Builtin.min_ ats ty #[a, b, c, d] = (Builtin.min2 a b >>= fun s => Builtin.min2 s c >>= fun s => Builtin.min2 s d >>= fun s => pure s) := by simp only [Builtin.min_, List.foldlM_cons, List.foldlM_nil]
end Go.Proofs.YtokkfbkbnocnoaaGreatDoorW.PrintMore
namespace Go.Proofs.YtokkfbkbnocnoaaGreatDoorW.PrintWords
open Go.RowKit
section
variable {P : Program} {ops : Array Oper} {rest : List Oper} {o : Oper} {a : Act} {Q : Exit → Act → World → Prop} {W : World}
theorem gate_callee {f : FuncId} {az : Array Operand} {ts : Array TypeId} (_ho : o.op = .call { callee := .value (.func f), args := az, argTypes := ts }) (h : wpList P ops Q (o :: rest) a W) : wpList P ops Q (o :: rest) a W := h
theorem gate_builtin {b : Builtin} {xs : Array Operand} {ts : Array TypeId} (_ho : o.op = .call { callee := .builtin b, args := xs, argTypes := ts }) (h : wpList P ops Q (o :: rest) a W) : wpList P ops Q (o :: rest) a W := h
end
def mx (a b : Int) : Int := if a < b then b else a
namespace Kd
section
variable {α : Type} {d : Kd α} {e base : Nat} {ok : Nat → Prop} {W w1 : World} {v : Value} {xs : List α}
end
section
variable {α : Type} {d : Kd α} {e base g n cap : Nat} {ok oki okp : Nat → Prop} {W : World} {xs : List α} {i : Int} {c : List Value}
end
section
variable {α : Type} {d : Kd α} {e base b b' g N : Nat} {ok ok1 : Nat → Prop} {W W2 w1 : World} {u v : Value} {xs ys : List α} {S : Nat → Prop}
end
end Kd
end Go.Proofs.YtokkfbkbnocnoaaGreatDoorW.PrintWords
namespace Go.Proofs.YtokkfbkbnocnoaaGreatDoorW.PrintWords
open Go.RowKit
namespace Kd
section
variable {α β : Type} {d : Kd α} {e base base' n m c g N' lo hi : Nat} {ok ok' S : Nat → Prop} {w W w1 : World} {A : Option Addr} {ad : Addr} {u v v1 : Value} {xs : List α}
end
end Kd
end Go.Proofs.YtokkfbkbnocnoaaGreatDoorW.PrintWords
end
section
set_option linter.unusedVariables false
namespace Go.Proofs.YtokkfbkbnocnoaaGreatDoor
end Go.Proofs.YtokkfbkbnocnoaaGreatDoor
namespace Go.Proofs.YtokkfbkbnocnoaaGreatDoor.Wd
open Go.Shelf
def ren26 : Ren := ⟨fun | 26 => 114 | 33 => 146 | 34 => 147 | 38 => 154 | n => n, fun | 24 => 22 | 40 => 194 | n => n, fun | n => n⟩
theorem lays26 : Go.Proofs.Lays2.n26 Tryz.prog ren26 := {
  mixed := by kernel_rfl
  f26 := Tryz.func114.trans (congrArg some (by kernel_rfl))
  f33 := Tryz.func146.trans (congrArg some (by kernel_rfl))
  f34 := Tryz.func147.trans (congrArg some (by kernel_rfl))
  f38 := Tryz.func154.trans (congrArg some (by kernel_rfl))
  t0 := Tryz.underlying0
  a0 := Tryz.isAgg0
  z0 := Tryz.sizeOf0
  v0 := Tryz.zeroValue0
  t3 := Tryz.underlying3
  a3 := Tryz.isAgg3
  z3 := Tryz.sizeOf3
  v3 := Tryz.zeroValue3
  t4 := Tryz.underlying4
  a4 := Tryz.isAgg4
  z4 := Tryz.sizeOf4
  v4 := Tryz.zeroValue4
  t9 := Tryz.underlying9
  a9 := Tryz.isAgg9
  z9 := Tryz.sizeOf9
  v9 := Tryz.zeroValue9
  t24 := Tryz.underlying22
  a24 := Tryz.isAgg22
  z24 := Tryz.sizeOf22
  v24 := Tryz.zeroValue22
  t40 := Tryz.underlying194
  a40 := Tryz.isAgg194
  z40 := Tryz.sizeOf194
  v40 := Tryz.zeroValue194 }
end Go.Proofs.YtokkfbkbnocnoaaGreatDoor.Wd
end
section
set_option linter.unusedVariables false
set_option linter.unusedSimpArgs false
namespace Go.Proofs.YtokkfbkbnocnoaaGreatDoor.Wd
open Go.RowKit Go.Proofs.YtokkfbkbnocnoaaGreatDoorW.PrintWords Go.Proofs.YtokkfbkbnocnoaaGreatDoorW.PrintLast Go.Proofs.YtokkfbkbnocnoaaGreatDoorW.PrintMore
def Tab (w : World) : Prop := Lib.TabIs Tryz.prog w "strings.asciiSpace" .u8 Lib.asciiSpaceTab
def pasS : ByteArray := ⟨#[97, 110, 100, 32, 97, 114, 114, 97, 121, 32, 98, 101, 103, 105, 110, 32, 98, 111, 111, 108, 101, 97, 110, 32, 99, 104, 97, 114, 32, 100, 105, 118, 32, 100, 111, 32, 100, 111, 119, 110, 116, 111, 32, 101, 108, 115, 101, 32, 101, 110, 100, 32, 102, 97, 108, 115, 101, 32, 102, 111, 114, 32, 102, 111, 114, 119, 97, 114, 100, 32, 102, 117, 110, 99, 116, 105, 111, 110, 32, 105, 102, 32, 105, 110, 116, 101, 103, 101, 114, 32, 109, 111, 100, 32, 110, 111, 116, 32, 111, 102, 32, 111, 114, 32, 112, 114, 111, 99, 101, 100, 117, 114, 101, 32, 112, 114, 111, 103, 114, 97, 109, 32, 114, 101, 97, 100, 32, 114, 101, 99, 111, 114, 100, 32, 114, 101, 112, 101, 97, 116, 32, 114, 101, 116, 117, 114, 110, 32, 116, 104, 101, 110, 32, 116, 111, 32, 116, 114, 117, 101, 32, 116, 121, 112, 101, 32, 117, 110, 116, 105, 108, 32, 118, 97, 114, 32, 119, 104, 105, 108, 101, 32, 119, 114, 105, 116, 101]⟩
def ceeS : ByteArray := ⟨#[98, 111, 111, 108, 32, 99, 104, 97, 114, 32, 100, 111, 32, 100, 111, 119, 110, 116, 111, 32, 101, 108, 115, 101, 32, 102, 97, 108, 115, 101, 32, 102, 111, 114, 32, 103, 101, 116, 32, 105, 102, 32, 105, 110, 116, 32, 109, 97, 105, 110, 32, 112, 114, 111, 103, 114, 97, 109, 32, 112, 117, 116, 32, 114, 101, 116, 117, 114, 110, 32, 115, 116, 114, 117, 99, 116, 32, 116, 111, 32, 116, 114, 117, 101, 32, 117, 110, 116, 105, 108, 32, 117, 112, 32, 118, 111, 105, 100, 32, 119, 104, 105, 108, 101]⟩
def lst (d : Int) : List ByteArray := if d = 0 then (Lib.fields pasS.data.toList).map (fun l => (⟨l.toArray⟩ : ByteArray)) else if d = 1 then (Lib.fields ceeS.data.toList).map (fun l => (⟨l.toArray⟩ : ByteArray)) else []
theorem lst_pas : (Lib.fields pasS.data.toList).map (fun l => (⟨l.toArray⟩ : ByteArray)) = lst 0 := by kernel_rfl
theorem lst_cee : (Lib.fields ceeS.data.toList).map (fun l => (⟨l.toArray⟩ : ByteArray)) = lst 1 := by kernel_rfl
theorem asciiP : ∀ (j : Nat) b, pasS.data.toList[j]? = some b → b.toNat < 128 := by
  have : (pasS.data.toList.all fun b => decide (b.toNat < 128)) = true := by kernel_rfl
  exact fun j b h => of_decide_eq_true (List.all_eq_true.1 this b (List.mem_of_getElem? h))
theorem asciiC : ∀ (j : Nat) b, ceeS.data.toList[j]? = some b → b.toNat < 128 := by
  have : (ceeS.data.toList.all fun b => decide (b.toNat < 128)) = true := by kernel_rfl
  exact fun j b h => of_decide_eq_true (List.all_eq_true.1 this b (List.mem_of_getElem? h))
def AllTo (d : Int) (w : World) (e : Ending) (w' : World) : Prop := ∃ r, e = .returned r ∧ Kd.string.R 9 w' w.heap.size (fun _ => True) r (lst d) ∧ Below w.heap.size w w'
theorem R_fields (w : World) (xs : List ByteArray) (hl : xs.length ≤ 1000) : Kd.string.R 9 (w.alloc (.cells (xs.map Value.string).toArray 9)) w.heap.size (fun _ => True) (.slice (some ⟨w.heap.size, 0, none⟩) xs.length xs.length) xs := by
  have hown := World.ownsRow_lit (base := w.heap.size) (e := 9) (size := 1) w (xs.map Value.string).toArray xs.length (Nat.le_refl _) (by simp [maxLen]; omega) (by simp)
  refine ⟨fun _ _ => trivial, xs.map Value.string, hown, ?_⟩
  refine ⟨by simp [Kd.string, Kd.scalar], fun j p hj => ?_⟩
  show ((xs.map Value.string).drop (j * 1)).take 1 = [.string p]
  obtain ⟨hjl, hp⟩ := List.getElem?_eq_some_iff.1 hj
  rw [Nat.mul_one, List.drop_eq_getElem_cons (by simpa using hjl)]
  simp [hp]
theorem fields_to (s : ByteArray) (d : Int) (w : World) (hs : s.size < 4294967281) (ha : ∀ (j : Nat) b, s.data.toList[j]? = some b → b.toNat < 128) (ht : Tab w) (hl : (Lib.fields s.data.toList).map (fun l => (⟨l.toArray⟩ : ByteArray)) = lst d) (hn : (lst d).length ≤ 1000) :
    Calls Tryz.prog 148 #[.string s] w (AllTo d w) := by
  refine (Tryz.strings_Fields s w hs ha ht).mono ?_
  rintro e w' ⟨he, hw⟩
  have h1 : (Lib.fields s.data.toList).map (fun l => Value.string ⟨l.toArray⟩) = (lst d).map Value.string := by rw [← hl, List.map_map]; rfl
  have h2 : (Lib.fields s.data.toList).length = (lst d).length := by rw [← hl, List.length_map]
  rw [h1] at hw
  rw [h2] at he
  subst hw
  exact ⟨_, he, R_fields w (lst d) hn, below_alloc (Below.refl _ _) _⟩
set_option maxHeartbeats 4000000 in
set_option maxRecDepth 100000 in
theorem all_any (d : Int) (w : World) (ht : Tab w) : Calls Tryz.prog 115 #[.int .i64 d] w (AllTo d w) := by
  have HT := Lib.hid ht
  clear ht
  by_cases h0 : d = 0
  · subst h0
    go_enter Tryz.func115, Tryz.ntmps115
    go_wp2_with (first | (go_at_call 148; go_must (refine (fields_to pasS 0 w (by decide) asciiP HT.out lst_pas (by decide)).mono ?_)))
    rintro e w1 ⟨r, rfl, hR, hb⟩
    have HR := Lib.hid hR
    have HB := Lib.hid hb
    clear hR hb
    go_wp2
    go_ret
    exact ⟨_, rfl, HR.out, HB.out⟩
  · by_cases h1 : d = 1
    · subst h1
      go_enter Tryz.func115, Tryz.ntmps115
      go_wp2_with (first | (go_at_call 148; go_must (refine (fields_to ceeS 1 w (by decide) asciiC HT.out lst_cee (by decide)).mono ?_)))
      rintro e w1 ⟨r, rfl, hR, hb⟩
      have HR := Lib.hid hR
      have HB := Lib.hid hb
      clear hR hb
      go_wp2
      go_ret
      exact ⟨_, rfl, HR.out, HB.out⟩
    · have hl : lst d = [] := by unfold lst; rw [if_neg h0, if_neg h1]
      go_enter Tryz.func115, Tryz.ntmps115
      go_wp2
      go_ret
      rw [AllTo, hl]
      exact ⟨_, rfl, Kd.R_nil _ _ _ _ _, Below.refl _ _⟩
def mem (l : List ByteArray) (x : ByteArray) : Bool := l.any fun y => decide (y = x)
theorem mem_iff (l : List ByteArray) (x : ByteArray) : mem l x = true ↔ x ∈ l := by
  unfold mem
  rw [List.any_eq_true]
  constructor
  · rintro ⟨y, hy, he⟩
    rw [← of_decide_eq_true he]; exact hy
  · intro h
    exact ⟨x, h, decide_eq_true rfl⟩
theorem bytesLess_lt : ∀ (x y : List UInt8), Op.bytesLess x y = decide (x < y)
  | [], [] => by simp [Op.bytesLess]
  | _ :: _, [] => by simp [Op.bytesLess]
  | [], _ :: _ => by simp [Op.bytesLess]
  | a :: x, b :: y => by
    rw [Op.bytesLess, bytesLess_lt x y, Bool.eq_iff_iff]
    simp [List.cons_lt_cons_iff]
abbrev less (a b : ByteArray) : Bool := Op.bytesLess a.toList b.toList
theorem less_irrefl (a : ByteArray) : less a a = false := by
  show Op.bytesLess a.toList a.toList = false
  rw [bytesLess_lt]
  exact decide_eq_false (List.lt_irrefl _)
theorem less_trans {a b c : ByteArray} (h1 : less a b = true) (h2 : less b c = true) : less a c = true := by
  have g1 : Op.bytesLess a.toList b.toList = true := h1
  have g2 : Op.bytesLess b.toList c.toList = true := h2
  show Op.bytesLess a.toList c.toList = true
  rw [bytesLess_lt] at g1 g2 ⊢
  exact decide_eq_true (List.lt_trans (of_decide_eq_true g1) (of_decide_eq_true g2))
def Sx (l : List ByteArray) (x : ByteArray) (t : Nat) : ByteArray := if h : t < l.length then l[t] else x
theorem bs_found (l : List ByteArray) (x : ByteArray) (hs : l.Pairwise (fun a b => less a b = true)) (inst : Decidable (Lib.bsGo (fun t => Op.bytesLess (Sx l x t).toList x.toList) l.length 0 l.length < l.length ∧ Sx l x (Lib.bsGo (fun t => Op.bytesLess (Sx l x t).toList x.toList) l.length 0 l.length) = x)) :
    decide (Lib.bsGo (fun t => Op.bytesLess (Sx l x t).toList x.toList) l.length 0 l.length < l.length ∧ Sx l x (Lib.bsGo (fun t => Op.bytesLess (Sx l x t).toList x.toList) l.length 0 l.length) = x) = mem l x := by
  have hk : Lib.bsGo (fun t => Op.bytesLess (Sx l x t).toList x.toList) l.length 0 l.length = l.findIdx (fun y => !less y x) := by
    refine Lib.bsGo_spec _ _ ?_ ?_ _ _ _ (by omega) (Nat.zero_le _) List.findIdx_le_length
    · intro t ht
      have hl : t < l.length := Nat.lt_of_lt_of_le ht List.findIdx_le_length
      have := List.not_of_lt_findIdx ht
      simp only [Sx, dif_pos hl]
      simpa [less] using this
    · intro t ht
      by_cases hl : t < l.length
      · simp only [Sx, dif_pos hl]
        have hkl : l.findIdx (fun y => !less y x) < l.length := by omega
        have h1 := List.findIdx_getElem (xs := l) (p := fun y => !less y x) (w := hkl)
        simp only [Bool.not_eq_true'] at h1
        cases hc : less l[t] x with
        | false => exact hc
        | true =>
          exfalso
          rcases Nat.lt_or_ge (l.findIdx (fun y => !less y x)) t with h2 | h2
          · have h3 := List.pairwise_iff_getElem.1 hs _ _ hkl hl h2
            rw [less_trans h3 hc] at h1
            cases h1
          · have h4 : l.findIdx (fun y => !less y x) = t := by omega
            simp only [h4] at h1
            rw [h1] at hc; cases hc
      · simp only [Sx, dif_neg hl]
        exact less_irrefl x
  rw [Bool.eq_iff_iff, decide_eq_true_iff, hk, mem_iff]
  constructor
  · rintro ⟨h1, h2⟩
    simp only [Sx, dif_pos h1] at h2
    rw [← h2]
    exact List.getElem_mem _
  · intro hx
    obtain ⟨i, hi, rfl⟩ := List.getElem_of_mem hx
    have hle : l.findIdx (fun y => !less y l[i]) ≤ i := by
      rcases Nat.lt_or_ge i (l.findIdx (fun y => !less y l[i])) with h | h
      · have := List.not_of_lt_findIdx h
        rw [less_irrefl] at this
        exact absurd this (by simp)
      · exact h
    have hkl : l.findIdx (fun y => !less y l[i]) < l.length := by omega
    refine ⟨hkl, ?_⟩
    simp only [Sx, dif_pos hkl]
    rcases Nat.lt_or_ge (l.findIdx (fun y => !less y l[i])) i with h | h
    · have h3 := List.pairwise_iff_getElem.1 hs _ _ hkl hi h
      have h1 := List.findIdx_getElem (xs := l) (p := fun y => !less y l[i]) (w := hkl)
      simp only [Bool.not_eq_true'] at h1
      rw [h3] at h1; cases h1
    · have h4 : l.findIdx (fun y => !less y l[i]) = i := by omega
      simp only [h4]
theorem sorted_lst (d : Int) : (lst d).Pairwise (fun a b => less a b = true) := by
  by_cases h0 : d = 0
  · subst h0
    exact of_decide_eq_true (by kernel_rfl)
  · by_cases h1 : d = 1
    · subst h1
      exact of_decide_eq_true (by kernel_rfl)
    · have hl : lst d = [] := by unfold lst; rw [if_neg h0, if_neg h1]
      rw [hl]
      exact List.Pairwise.nil
theorem lst_len (d : Int) : (lst d).length ≤ 1000 := by
  have h0 : (lst 0).length ≤ 1000 := of_decide_eq_true (by kernel_rfl)
  have h1 : (lst 1).length ≤ 1000 := of_decide_eq_true (by kernel_rfl)
  by_cases e0 : d = 0
  · subst e0; exact h0
  · by_cases e1 : d = 1
    · subst e1; exact h1
    · have hl : lst d = [] := by unfold lst; rw [if_neg e0, if_neg e1]
      rw [hl]; simp
theorem search_row (l : List ByteArray) (x : ByteArray) (w : World) {r : Value} {base : Nat} (hR : Kd.string.R 9 w base (fun _ => True) r l) (hs : l.Pairwise (fun a b => less a b = true)) (hl : l.length ≤ 1000) :
    Calls Tryz.prog 114 #[r, .string x] w fun e w' => ∃ i : Nat, e = .returned (.tuple #[.int .i64 i, .bool (mem l x)]) ∧ ∃ q, w' = w.drewN q := by
  obtain ⟨A, c, he, hlc, hC⟩ := Kd.R_reads hR
  obtain ⟨inner, hown⟩ := Kd.R_own hR
  rcases hown.2 with ⟨hv, h0⟩ | ⟨g, cap, cur, hv, _⟩
  · obtain rfl := List.eq_nil_of_length_eq_zero h0
    rw [hv]
    refine (Any2.slices_BinarySearch_string_empty lays26 none 0 x w).mono ?_
    rintro e w' ⟨he, hw⟩
    exact ⟨0, he, 0, hw⟩
  · rw [hv]
    have hA : A = some ⟨g, 0, none⟩ := by rw [hv] at he; injection he with h1 _ _; exact h1.symm
    subst hA
    have hcell : ∀ j, j < l.length → w.cell? ⟨g, 0 + j, none⟩ = some (.string (Sx l x j)) := by
      intro j hj
      obtain ⟨ad, h1, h2⟩ := Kd.at_string hC (j : Int) (by omega) (by omega)
      injection h1 with h1
      subst h1
      rw [show ((j : Int)).toNat = j from by omega] at h2
      rw [show (⟨g, 0 + j, none⟩ : Addr) = (⟨g, 0, none⟩ : Addr).add j from by simp [Addr.add], h2, show rdOf ByteArray.empty l (j : Int) = l.getD (j : Int).toNat ByteArray.empty from rfl]
      simp [Sx, hj]
    refine (Any2.slices_BinarySearch_string lays26 g 0 l.length cap (Sx l x) x w (by omega) hcell).mono ?_
    rintro e w' ⟨he, q, hw⟩
    rw [bs_found l x hs] at he
    exact ⟨_, he, q, hw⟩
set_option maxHeartbeats 4000000 in
set_option maxRecDepth 100000 in
theorem is_any (d : Int) (s : ByteArray) (w : World) (ht : Tab w) : Calls Tryz.prog 66 #[.int .i64 d, .string s] w fun e w' => e = .returned (.bool (mem (lst d) s)) ∧ Below w.heap.size w w' := by
  have HT := Lib.hid ht
  clear ht
  go_enter Tryz.func66, Tryz.ntmps66
  go_wp2_with (first | (go_at_call 115; go_must (refine (all_any d w HT.out).mono ?_)))
  rintro e w1 ⟨r, rfl, hR, hb⟩
  have HR := Lib.hid hR
  have HB := Lib.hid hb
  clear hR hb
  go_wp2_with (first | (go_at_call 114; go_must (refine (search_row (lst d) s _ HR.out (sorted_lst d) (lst_len d)).mono ?_)))
  rintro e w2 ⟨i, rfl, q, rfl⟩
  go_wp2
  go_ret
  exact ⟨rfl, pw_below_drewN HB.out q⟩
end Go.Proofs.YtokkfbkbnocnoaaGreatDoor.Wd
end
section
open Go Go.Proofs
namespace Go.Ev
open Go.RowKit Go.Proofs.YtokkfbkbnocnoaaGreatDoor Go.Proofs.YtokkfbkbnocnoaaGreatDoorW.PrintWords Go.Proofs.YtokkfbkbnocnoaaGreatDoorW.PrintLast Go.Proofs.YtokkfbkbnocnoaaGreatDoorW.PrintMore
set_option linter.unusedVariables false
set_option linter.unusedSimpArgs false
set_option maxHeartbeats 4000000
set_option maxRecDepth 100000
theorem ok_words_Is : SpecA Tryz.prog EE 66 (ansOf c_words_Is rc_words_Is.enc fun x => some (Wd.mem (Wd.lst x.1) x.2.1)) := by
  refine specA_by _ _ _ fun x y hy Sl w us fp rs hSl hargs hnd hlt hiv => ?_
  injection hy with hy
  subst hy
  obtain ⟨vs, rfl, h1⟩ := areps_lit hargs
  obtain ⟨vs', rfl, h2⟩ := areps_lit h1
  obtain ⟨rfl, rfl, rfl⟩ := areps_nil h2
  refine ⟨66, #[_, _], .inl ⟨by decide, rfl, rfl⟩, ⟨Tryz.f66, Tryz.func66, by kernel_rfl, by kernel_rfl⟩, ?_⟩
  exact (Wd.is_any x.1 x.2.1 w hiv.1).mono fun e w' ⟨he, hb⟩ => ⟨_, he, answers_lit hSl hb rfl⟩
theorem drep_lit {E : Env II} {Sl : Nat → Nat → Prop} {w : World} {v u : Value} (h : DRep E Sl w v (.lit u)) : v = u := by cases h; rfl
theorem ok_Clone : SpecA Tryz.prog EE 96 (ansOf c_slices_Clone_string rc_slices_Clone_string.enc fun x => if x.1.length * 16 ≤ 140737488355328 then some x.1 else none) := by
  refine specA_by _ _ _ fun x y hy Sl w us fp rs hSl hargs hnd hlt hiv => ?_
  obtain ⟨xs, _⟩ := x
  simp only at hy
  split at hy
  · rename_i hb
    injection hy with hy
    subst hy
    obtain ⟨v, vs, rfl, h1, h2⟩ := areps_d hargs
    obtain ⟨rfl, rfl, rfl⟩ := areps_nil h2
    refine ⟨96, #[_], .inl ⟨by decide, rfl, rfl⟩, ⟨Tryz.f96, Tryz.func96, by kernel_rfl, by kernel_rfl⟩, ?_⟩
    cases h1 with
    | sl _ _ A n c g o vals hn hcap hm hA hc hr =>
      have hn : xs.length = n := hn
      rcases Nat.eq_zero_or_pos n with rfl | hpos
      · have hxs : xs = [] := List.eq_nil_of_length_eq_zero hn
        subst hxs
        cases A with
        | none =>
          refine (Tryz.slices_Clone_string_nil 0 c w).mono fun e w' ⟨he, hw⟩ => ?_
          subst hw
          exact ⟨_, he, answers_row (t := 9) (xs := []) (vals := []) (ti := { size := 1, bytes := 16, zero := [.string ⟨#[]⟩], td := .string }) (by kernel_rfl) hSl (Below.refl _ _) ⟨rfl, .inl ⟨rfl, rfl⟩⟩ (fun i r j y hi => by simp at hi)⟩
        | some a =>
          refine (Tryz.slices_Clone_string_zero a c w).mono fun e w' ⟨u, he, ho, _, hb⟩ => ?_
          exact ⟨_, he, answers_row (t := 9) (xs := []) (vals := []) (ti := { size := 1, bytes := 16, zero := [.string ⟨#[]⟩], td := .string }) (by kernel_rfl) hSl hb ho (fun i r j y hi => by simp at hi)⟩
      · rw [hA hpos]
        have hcell : ∀ j, j < xs.length → w.cell? ⟨g, o + j, none⟩ = some (.string (xs.getD j ByteArray.empty)) := by
          intro j hj
          have hi : xs[j]? = some xs[j] := List.getElem?_eq_getElem hj
          have h3 := (hc j xs[j] 0 (.lit (.string xs[j])) hi rfl).1
          have h4 := hr j xs[j] 0 (.lit (.string xs[j])) hi rfl
          have h5 : (EE.row 9 xs[j]).length = 1 := rfl
          rw [h5, Nat.mul_one, Nat.add_zero] at h3 h4
          rw [h3, drep_lit h4, List.getD_eq_getElem?_getD, hi]; rfl
        refine (Tryz.slices_Clone_string g o n c xs w (by omega) (by omega) hcell).mono fun e w' ⟨u, he, ho, _, hb⟩ => ?_
        rw [← hn, List.take_length] at ho
        refine ⟨_, he, answers_row (E := EE) (w' := w') (u := u) (t := 9) (xs := xs) (vals := xs.map .string) (ti := { size := 1, bytes := 16, zero := [.string ⟨#[]⟩], td := .string }) (by kernel_rfl) hSl hb ho (fun i r j y hi hj => ?_)⟩
        have hj' : ([DV.lit (.string r)] : List (DV II))[j]? = some y := hj
        cases j with
        | zero =>
          simp at hj'
          subst hj'
          refine ⟨.string r, by simp [hi], fun Sl' _ => .lit _ rfl⟩
        | succ j => simp at hj'
  · cases hy
theorem ans_run {α β : Type} (c : CodL EE α) (conv : β → RV II) (F : α → Option β) {avs : List (AV II)} {x : α} {y : β} (h : c.dec avs = some x) (hF : F x = some y) : (ansOf c conv F avs).run = some (conv y) := by
  unfold ansOf
  rw [h]
  simp only [Tree.run, hF, Option.bind_some]
theorem drep_env {Sl : Nat → Nat → Prop} {w : World} {v : Value} {x : DV II} (h : DRep EE0 Sl w v x) : DRep EE Sl w v x := by
  induction h with
  | any v h => exact .any v h
  | lit v h => exact .lit v h
  | nils => exact .nils
  | sl t xs A n c g o vs hn hcap hm hA hcell _ ih => exact .sl t xs A n c g o vs hn hcap hm hA hcell ih
theorem drep_env' {Sl : Nat → Nat → Prop} {w : World} {v : Value} {x : DV II} (h : DRep EE Sl w v x) : DRep EE0 Sl w v x := by
  induction h with
  | any v h => exact .any v h
  | lit v h => exact .lit v h
  | nils => exact .nils
  | sl t xs A n c g o vs hn hcap hm hA hcell _ ih => exact .sl t xs A n c g o vs hn hcap hm hA hcell ih
theorem drep_len {Sl : Nat → Nat → Prop} {w : World} {v : Value} {t : Nat} {xs : List (II t)} (h : DRep EE Sl w v (.sl t xs)) : xs.length ≤ maxLen := by
  cases h with
  | sl _ _ A n c g o vals hn hcap hm hA hc hr => rw [hn]; exact hm
theorem find_drop (l : List TPair) (s : ByteArray) (hm : l.length ≤ maxLen) (s' : Fam) (k : Nat) (x0 : ByteArray) (x1 : List TPair) : ∀ j i, i ≤ l.length → l.length - i < j → Ltree_Rename_1_2 s' k x0 x1 j s l (l.length : Int) (i : Int) = some (match (l.drop i).find? (fun p => p.Old.toList == s.toList) with | some p => p.New | none => s) := by
  refine up_ind l.length (fun j => ?_) (fun j i hi ihj => ?_)
  · simp only [Ltree_Rename_1_2]
    rw [if_neg (by simp)]
    simp
  · have c1 : decide ((i : Int) < (l.length : Int)) = true := by simpa using hi
    have c2 : (0 : Int) ≤ (i : Int) := by omega
    have c3 : (i : Int) < (l.length : Int) := by omega
    simp only [Ltree_Rename_1_2, c1, c2, c3, if_true, getD_at l i _ hi, wrap_succ hi hm, ihj, decide_true]
    have hd : l.drop i = l[i] :: l.drop (i + 1) := (List.getElem_cons_drop hi).symm
    rw [hd, List.find?_cons]
    cases (l[i].Old.toList == s.toList) <;> rfl
theorem rename_1_ok (l : List TPair) (s : ByteArray) (hm : l.length ≤ maxLen) : B_tree_Rename_1 nilFam (l.length + 1) s l = some (match l.find? (fun p => p.Old.toList == s.toList) with | some p => p.New | none => s) := by
  have := find_drop l s hm nilFam (l.length + 1) s l (l.length + 1) 0 (Nat.zero_le _) (by omega)
  simp only [Int.ofNat_zero, List.drop_zero] at this
  exact this
theorem spec46 (k : Nat) : SpecA Tryz.prog EE 46 (ansOf c_tree_Rename_1 rc_tree_Rename_1.enc fun x => B_tree_Rename_1 nilFam k x.1 x.2.1) :=
  specA_of hEE (look_ok nil_ok) Tryz.func46 (by kernel_rfl) (by decide) c_tree_Rename_1 rc_tree_Rename_1.enc _ (fun x => e_tree_Rename_1 nilFam k x)
theorem keepX_mono {X X' : Nat → Prop} {B : Nat} {w w' : World} (h : KeepX X B w w') (hX : ∀ k, X k → X' k) : KeepX X' B w w' := ⟨h.os, h.tape, h.output, h.size, fun i hi hn => h.block i hi fun hx => hn (hX i hx)⟩
theorem ext_mono {Sl Sl' : Nat → Nat → Prop} {w w' : World} {fp fp' : List Nat} (h : Ext Sl Sl' w w' fp) (hs : ∀ k ∈ fp, k ∈ fp') : Ext Sl Sl' w w' fp' := ⟨h.s, fun g o hg => (h.n g o hg).imp id fun hx => ⟨hx.1.imp id (hs g), hx.2⟩, h.c⟩
theorem ren_calls {Sl : Nat → Nat → Prop} {w : World} {v : Value} {fp : List Nat} (l : List TPair) (s : ByteArray) (hSl : ∀ g o, Sl g o → g < w.heap.size) (h : EE.frep (Thing.ren l) Sl w v fp) (hk : ∀ k ∈ fp, k < w.heap.size ∧ ∀ j, ¬ Sl k j) (hiv : EE.inv w) :
    ∃ g args, Callee 1000003 [v, .string s] g args ∧ (∃ fn, Tryz.prog.funcs[g]? = some fn ∧ fn.body.isSome = true ∧ (fn.name == "runtime.NumGoroutine") = false) ∧ Calls Tryz.prog g args w fun e w' => ∃ u, e = .returned u ∧
      Answers EE Sl w fp [v] (.c (.d (.lit (.string (match l.find? (fun p => p.Old.toList == s.toList) with | some p => p.New | none => s)))), [.fd (Thing.ren l)]) u w' := by
  have h0 := h
  obtain ⟨g, sv, rfl, rfl, hb, hd⟩ := h
  have hd := drep_env hd
  have hcell : w.cell? ⟨g, 0, none⟩ = some sv := by simp [World.cell?, hb]
  obtain ⟨hg, hng⟩ := hk g (by simp)
  have hrp : PRep EE Sl w (· ∈ ([] : List Nat)) w.heap.size (.pointer (some ⟨g, 0, none⟩)) (.rp [.sl 39 l] 0) [] [] := PRep.rp (I := II) (E := EE) (Sl := Sl) ([.sl 39 l] : List (DV II)) 0 g 0 fun j y hj => by
    cases j with
    | zero => simp at hj; subst hj; exact ⟨sv, hcell, hd, .inl ⟨hg, by simp⟩⟩
    | succ j => simp at hj
  obtain ⟨g', args, hc, hfn, hcalls⟩ := spec46 (l.length + 1) (c_tree_Rename_1.enc (s, l, ())) _ (by
    exact ans_run _ _ _ (x := (s, l, ())) rfl (rename_1_ok l s (drep_len hd))) Sl w [.string s, .pointer (some ⟨g, 0, none⟩)] [] [] hSl
    (.cons _ _ _ _ [] [] [] [] (.c _ _ _ _ (.d _ _ (.lit _ rfl))) (.cons _ _ _ _ [] [] [] [] (.c _ _ _ _ hrp) .nil)) List.nodup_nil (fun k hk => by cases hk) hiv
  rcases hc with ⟨_, rfl, ha⟩ | ⟨hne, _⟩
  · refine ⟨46, args, .inr ⟨rfl, #[], #[.pointer (some ⟨g, 0, none⟩)], [.string s], rfl, by rw [ha]; rfl⟩, hfn, hcalls.mono fun e w' ⟨u, he, Sl', p1, p2, r1, r2, hkeep, hext, ha, hp, hnd, hlt⟩ => ⟨u, he, ?_⟩⟩
    obtain ⟨hu, rfl, rfl⟩ := arep_d ha
    cases hp
    have hnew : ∀ j, ¬ Sl' g j := fun j hj => by
      rcases hext.n g j hj with h1 | ⟨h1 | h1, _⟩
      · exact hng j h1
      · omega
      · cases h1
    have hsame : w'.heap[g]? = w.heap[g]? := hkeep.block g hg (by simp)
    refine ⟨Sl', [], [g], [], [.func (.func 46) #[] #[.pointer (some ⟨g, 0, none⟩)]], keepX_mono hkeep (by simp), ext_mono hext (by simp), .c _ _ _ _ (.d _ _ hu), ?_, by simp, fun k hk => ?_⟩
    · exact .cons _ _ _ _ [g] [] [_] [] (.fd _ _ [g] (EE.frame _ Sl Sl' w w' _ _ h0 hext.s hext.c (by simp [hsame])) rfl (fun k hk => by
        simp at hk; subst hk; exact ⟨Nat.lt_of_lt_of_le hg hkeep.size, hnew⟩)) .nil
    · simp at hk; subst hk; exact ⟨Nat.lt_of_lt_of_le hg hkeep.size, .inr (by simp)⟩
  · cases hne
open Go.Maps Go.ChangeMaps Go.WideMaps
theorem keyed9 : Go.Maps.Keyed Tryz.prog 9 := string_keyed Tryz.underlying9
theorem zero4 (w : World) : (zeroValue 4).run Tryz.prog w = .ok (.bool false) w := Tryz.zeroValue4 w
theorem key_ne {s t : ByteArray} (h : s ≠ t) : (Lit.string s.data.toList) ≠ Lit.string t.data.toList := by
  intro e
  injection e with e
  exact h (by apply ByteArray.ext; exact Array.toList_inj.1 e)
theorem map_lookup {w : World} {b n : Nat} {L : ByteArray → Bool} (h : MapAt w b n L) (s : ByteArray) (hs : s.size ≤ maxLen) : (Instr.lookup 73 (.map (some b)) (.string s) false).run Tryz.prog w = .ok (.bool (L s)) w := by
  obtain ⟨D, hD, hL⟩ := h
  obtain ⟨v, ps, hrun, hv⟩ := hD.lookup keyed9 Tryz.underlying73 (zero4 w) (plainElem_bool Tryz.underlying4 false) (keyOf_string_mk Tryz.underlying9 hs)
  rw [hL s hs] at hv
  rw [hrun]
  unfold plainElem at hv
  rw [Tryz.underlying4] at hv
  cases v <;> simp at hv
  rw [hv.1]
theorem map_put {w : World} {b n : Nat} {L : ByteArray → Bool} (h : MapAt w b n L) (hn : n < maxLen) (s : ByteArray) (hs : s.size ≤ maxLen) :
    ∃ w', (Instr.mapUpdate 73 (.map (some b)) (.string s) (.bool true)).run Tryz.prog w = .ok () w' ∧ MapAt w' b (n + 1) (fun x => decide (x = s) || L x) ∧ w.grownBy w' (some b) := by
  obtain ⟨D, hD, hL⟩ := h
  obtain ⟨w', hrun, hD', ht⟩ := hD.update keyed9 Tryz.underlying73 hn (keyOf_string_mk Tryz.underlying9 hs) (plainElem_bool Tryz.underlying4 true)
  have hm : Go.Maps.IsMap D := by obtain ⟨es, clock, _, _, _, rfl⟩ := hD; exact ⟨_, rfl⟩
  refine ⟨w', hrun, ⟨_, hD', fun x hx => ?_⟩, ht⟩
  by_cases e : x = s
  · subst e
    rw [Go.Maps.atKey_put_same hm (by simp [WideAt.IsKeyLit])]; simp
  · rw [Go.Maps.atKey_put_other (key_ne e), hL x hx]; simp [e]
theorem infoStr9 : (Tryz.prog.info? 9).map (fun i => (i.zero, i.size, i.bytes)) = some (some (.string ⟨#[]⟩), 1, 16) := by kernel_rfl
def NamesTo (w : World) (gm go : Nat) (sv : Value) (s : ByteArray) (l : List ByteArray) (e : Ending) (w' : World) : Prop := e = .returned (.string s) ∧ ∃ v1 n1, n1 ≤ l.length ∧ w'.os = w.os ∧ w'.tape = w.tape ∧ w'.output = w.output ∧ w.heap.size ≤ w'.heap.size ∧
  (∀ i, i < w.heap.size → i ≠ gm → i ≠ go → some i ≠ sv.ownBlock → w'.heap[i]? = w.heap[i]?) ∧ MapAt w' gm n1 (fun y => l.any fun z => z.toList == y.toList) ∧ w'.heap[go]? = some (.cells #[v1] 22 (0, 0)) ∧ w'.ownsRow 0 9 1 v1 l.length (l.map Value.string) ∧
  (v1.ownBlock = sv.ownBlock ∨ ∃ b, v1.ownBlock = some b ∧ w.heap.size ≤ b)
theorem names_in (w : World) (gs gm go n : Nat) (sv : Value) (l : List ByteArray) (s : ByteArray) (h1 : w.heap[gs]? = some (.cells #[.map (some gm)] 73 (0, 0))) (hM : MapAt w gm n (fun y => l.any fun z => z.toList == y.toList)) (hn : n ≤ l.length)
    (h3 : w.heap[go]? = some (.cells #[sv] 22 (0, 0))) (h4 : w.ownsRow 0 9 1 sv l.length (l.map Value.string)) (hs : s.size ≤ maxLen) (hin : (l.any fun z => z.toList == s.toList) = true) :
    Calls Tryz.prog 38 #[.string s, .pointer (some ⟨gs, 0, none⟩), .pointer (some ⟨go, 0, none⟩)] w fun e w' => NamesTo w gm go sv s l e w' := by
  have hlk := map_lookup hM s hs
  rw [hin] at hlk
  have c1 : w.cell? ⟨gs, 0, none⟩ = some (.map (some gm)) := by simp [World.cell?, h1]
  have c3 : w.cell? ⟨go, 0, none⟩ = some sv := by simp [World.cell?, h3]
  have H : Hid (NamesTo w gm go sv s l (.returned (.string s)) w) := Lib.hid ⟨rfl, sv, n, hn, rfl, rfl, rfl, Nat.le_refl _, fun _ _ _ _ _ => rfl, hM, h3, h4, .inl rfl⟩
  clear hM h1 h3 h4 hin
  go_enter Tryz.func38, Tryz.ntmps38
  go_wp2
  go_ret
  exact H.out
theorem cells1_set {w : World} {g t : Nat} {x y : Value} (h : w.heap[g]? = some (.cells #[x] t (0, 0))) : (w.setCell ⟨g, 0, none⟩ y).heap[g]? = some (.cells #[y] t (0, 0)) := by
  simp [World.setCell, Array.getElem?_modify, h]
theorem size_alloc (W : World) (o : Go.Obj) : (W.alloc o).heap.size = W.heap.size + 1 := by
  show (W.heap.push o).size = _
  rw [Array.size_push]
theorem owns_slice {w : World} {B e size n : Nat} {v : Value} {xs : List Value} (h : w.ownsRow B e size v n xs) : ∃ A c, v = .slice A n c := by
  obtain ⟨_, ⟨rfl, rfl⟩ | ⟨g, cap, cur, rfl, _⟩⟩ := h
  · exact ⟨none, 0, rfl⟩
  · exact ⟨_, cap, rfl⟩
theorem names_out (w : World) (gs gm go n : Nat) (sv : Value) (l : List ByteArray) (s : ByteArray) (h1 : w.heap[gs]? = some (.cells #[.map (some gm)] 73 (0, 0))) (hM : MapAt w gm n (fun y => l.any fun z => z.toList == y.toList)) (hn : n ≤ l.length)
    (h3 : w.heap[go]? = some (.cells #[sv] 22 (0, 0))) (h4 : w.ownsRow 0 9 1 sv l.length (l.map Value.string)) (hs : s.size ≤ maxLen) (hin : (l.any fun z => z.toList == s.toList) = false) (hlim : (l.length + 1) * 16 ≤ 140737488355328)
    (d1 : gs ≠ gm) (d2 : gs ≠ go) (d3 : gm ≠ go) (d4 : some gm ≠ sv.ownBlock) (d5 : some go ≠ sv.ownBlock) :
    Calls Tryz.prog 38 #[.string s, .pointer (some ⟨gs, 0, none⟩), .pointer (some ⟨go, 0, none⟩)] w fun e w' => NamesTo w gm go sv s (l ++ [s]) e w' := by
  have hlk := map_lookup hM s hs
  rw [hin] at hlk
  have c1 : w.cell? ⟨gs, 0, none⟩ = some (.map (some gm)) := by simp [World.cell?, h1]
  have hgs : gs < w.heap.size := (Array.getElem?_eq_some_iff.1 h1).1
  have hgo : go < w.heap.size := (Array.getElem?_eq_some_iff.1 h3).1
  obtain ⟨w5, hput, hM5, hg5⟩ := map_put hM (by simp [maxLen]; omega) s hs
  have b3 : w5.heap[go]? = some (.cells #[sv] 22 (0, 0)) := (hg5.block go hgo (fun e => d3 (Option.some.inj e).symm)).trans h3
  have c3 : w5.cell? ⟨go, 0, none⟩ = some sv := by simp [World.cell?, b3]
  have o5 : w5.ownsRow 0 9 1 sv l.length (l.map Value.string) := owns_same h4 fun k hk => by
    have hlt := (h4.lt (k := k) hk).2
    exact hg5.block k hlt fun e => d4 (e.symm.trans hk.symm)
  have O5 := Lib.hid o5
  have M5 := Lib.hid hM5
  have G5 := Lib.hid hg5
  have B3 := Lib.hid b3
  have H4 := Lib.hid h4
  have hgm : gm < w.heap.size := by obtain ⟨D, hD, _⟩ := hM; exact hD.lt
  clear hM h1 h3 h4 hin o5 hM5 hg5 b3
  go_enter Tryz.func38, Tryz.ntmps38
  go_wp2_with (first
    | ((with_reducible refine gate_builtin (b := .append) (xs := #[.tmp 11, .tmp 13]) rfl ?_); at_builtin; go_must ((refine print_append_cells (w0 := w5) 0 rfl (.tmp 11) (.tmp 13) 22 9 (.string ⟨#[]⟩) 1 16 rfl Tryz.underlying22 infoStr9 rfl (by decide) (by decide) sv l.length (l.map Value.string) [.string s] rfl rfl rfl (by simp; rfl) O5.out ⟨rfl, rfl, rfl, Nat.le_refl _, fun _ h => absurd h (Nat.not_lt_zero _)⟩ (Nat.zero_le _) hlim ?_)); go_must (intro v1 w9 ho9 hb hg hat; obtain ⟨A1, k1, rfl⟩ := owns_slice ho9; have O9 := Lib.hid ho9; have HG9 := Lib.hid hg; have HAT := Lib.hid hat; have b9 : w9.heap[go]? = some (.cells #[sv] 22 (0, 0)) := (hg.block go (Nat.lt_of_lt_of_le hgo G5.out.size) d5).trans B3.out; have c9 : w9.cell? ⟨go, 0, none⟩ = some sv := by { simp [World.cell?, b9] }; have f9 := Lib.frozen_of_heap b9 0; have B9 := Lib.hid b9; clear ho9 hb hg hat b9)))
  go_ret
  have hset : ∀ i, i ≠ go → (w9.setCell ⟨go, 0, none⟩ (.slice A1 (l.length + 1) k1)).heap[i]? = w9.heap[i]? := fun i hi => Below.heap_setCell _ _ _ i hi
  have hown : ∀ k, (Value.slice A1 (l.length + 1) k1).ownBlock = some k → k ≠ go := fun k hk e => by
    rcases HAT.out with h | ⟨b, h, hb⟩
    · exact d5 (by rw [← e, ← hk]; exact h)
    · have : b = k := Option.some.inj (h.symm.trans hk)
      have := G5.out.size
      omega
  have hne : some gm ≠ sv.ownBlock := d4
  refine ⟨rfl, _, n + 1, by simp; omega, ?_, ?_, ?_, ?_, fun i hi h1 h2 h3 => ?_, ?_, cells1_set B9.out, ?_, ?_⟩
  · exact HG9.out.os.trans G5.out.os
  · exact HG9.out.tape.trans G5.out.tape
  · exact HG9.out.output.trans G5.out.output
  · have h1 := G5.out.size
    have h2 := HG9.out.size
    simp only [World.setCell, Array.size_modify]
    omega
  · rw [hset i h2, HG9.out.block i (Nat.lt_of_lt_of_le hi G5.out.size) h3, G5.out.block i hi (fun e => h1 (Option.some.inj e))]
  · have := (M5.out.same (w' := w9) (HG9.out.block gm (Nat.lt_of_lt_of_le hgm G5.out.size) d4)).same (w' := w9.setCell ⟨go, 0, none⟩ (.slice A1 (l.length + 1) k1)) (hset gm d3)
    obtain ⟨D, h1, h2⟩ := this
    refine ⟨D, h1, fun x hx => (h2 x hx).trans ?_⟩
    have e : decide (x = s) = (s.toList == x.toList) := by
      rw [ba_dc]
      by_cases e : x = s
      · subst e; rw [dc_true rfl]; simp
      · rw [dc_false (fun e' => e e'.symm)]; simp [e]
    refine congrArg (fun b => DataW.lit (Lit.bool b)) ?_
    simp only [List.any_append, List.any_cons, List.any_nil, Bool.or_false]
    rw [e, Bool.or_comm]
  · have := owns_same (w' := w9.setCell ⟨go, 0, none⟩ (.slice A1 (l.length + 1) k1)) O9.out fun k hk => hset k (hown k hk)
    simpa using this
  · rcases HAT.out with h | ⟨b, h, hb⟩
    · exact .inl h
    · exact .inr ⟨b, h, Nat.le_trans G5.out.size hb⟩
theorem names_answers {Sl : Nat → Nat → Prop} {w w' : World} {gs gm go : Nat} {sv : Value} {n : Nat} {l l' : List ByteArray} {s : ByteArray} {e : Ending} (hSl : ∀ g o, Sl g o → g < w.heap.size)
    (h1 : w.heap[gs]? = some (.cells #[.map (some gm)] 73 (0, 0))) (hk : ∀ k ∈ gs :: gm :: go :: sv.ownBlock.toList, k < w.heap.size ∧ ∀ j, ¬ Sl k j) (hnd : (gs :: gm :: go :: sv.ownBlock.toList).Nodup) (h : NamesTo w gm go sv s l' e w') :
    ∃ u, e = .returned u ∧ Answers EE Sl w (gs :: gm :: go :: sv.ownBlock.toList) [.func (.func 38) #[] #[.pointer (some ⟨gs, 0, none⟩), .pointer (some ⟨go, 0, none⟩)]] (.c (.d (.lit (.string s))), [.fd (Thing.names l')]) u w' := by
  obtain ⟨rfl, v1, n1, hn1, e1, e2, e3, hsz, hkeep, hM, hgo, hown, hblk⟩ := h
  have hsvm : ∀ k, some k = sv.ownBlock ↔ k ∈ sv.ownBlock.toList := fun k => by cases sv.ownBlock <;> simp [eq_comm]
  simp only [List.nodup_cons, List.mem_cons, not_or] at hnd
  obtain ⟨⟨d1, d2, d3⟩, ⟨d4, d5⟩, d6, d7⟩ := hnd
  have kgs := hk gs (by simp)
  have kgm := hk gm (by simp)
  have kgo := hk go (by simp)
  have hsame : ∀ i, i < w.heap.size → ¬ i ∈ gs :: gm :: go :: sv.ownBlock.toList → w'.heap[i]? = w.heap[i]? := fun i hi hn => by
    simp only [List.mem_cons, not_or] at hn
    exact hkeep i hi hn.2.1 hn.2.2.1 fun e => hn.2.2.2 ((hsvm i).1 e)
  have hb : ∀ k, k ∈ v1.ownBlock.toList → k < w'.heap.size ∧ (∀ j, ¬ Sl k j) ∧ (k ∈ sv.ownBlock.toList ∨ w.heap.size ≤ k) := fun k hk' => by
    have hk' : v1.ownBlock = some k := by cases h : v1.ownBlock with
      | none => rw [h] at hk'; simp at hk'
      | some b => rw [h] at hk'; simp at hk'; rw [hk']
    have hlt := (hown.lt k hk').2
    rcases hblk with h | ⟨b, h, hb⟩
    · have hm := (hsvm k).1 (hk'.symm.trans h)
      exact ⟨hlt, (hk k (by simp [hm])).2, .inl hm⟩
    · have : b = k := Option.some.inj (h.symm.trans hk')
      subst this
      exact ⟨hlt, fun j hj => by have := hSl b j hj; omega, .inr hb⟩
  have hall : ∀ k ∈ gs :: gm :: go :: v1.ownBlock.toList, (k < w'.heap.size ∧ ∀ j, ¬ Sl k j) ∧ (w.heap.size ≤ k ∨ k ∈ gs :: gm :: go :: sv.ownBlock.toList) := fun k hk' => by
    simp only [List.mem_cons] at hk'
    rcases hk' with rfl | rfl | rfl | hk'
    · exact ⟨⟨Nat.lt_of_lt_of_le kgs.1 hsz, kgs.2⟩, .inr (by simp)⟩
    · exact ⟨⟨Nat.lt_of_lt_of_le kgm.1 hsz, kgm.2⟩, .inr (by simp)⟩
    · exact ⟨⟨Nat.lt_of_lt_of_le kgo.1 hsz, kgo.2⟩, .inr (by simp)⟩
    · obtain ⟨q1, q2, q3⟩ := hb k hk'
      exact ⟨⟨q1, q2⟩, q3.elim (fun h => .inr (by simp [h])) .inl⟩
  have hfrep : EE.frep (Thing.names l') Sl w' (.func (.func 38) #[] #[.pointer (some ⟨gs, 0, none⟩), .pointer (some ⟨go, 0, none⟩)]) (gs :: gm :: go :: v1.ownBlock.toList) :=
    ⟨gs, gm, go, v1, n1, rfl, rfl, hn1, (hkeep gs kgs.1 d1 d2 (fun e => d3 ((hsvm gs).1 e))).trans h1, hM, hgo, hown⟩
  have hnd' : (gs :: gm :: go :: v1.ownBlock.toList).Nodup := by
    have hno : ∀ k, k ∈ v1.ownBlock.toList → k ≠ gs ∧ k ≠ gm ∧ k ≠ go := fun k hk' => by
      obtain ⟨_, _, h | h⟩ := hb k hk'
      · exact ⟨fun e => d3 (e ▸ h), fun e => d5 (e ▸ h), fun e => d6 (e ▸ h)⟩
      · exact ⟨fun e => by omega, fun e => by omega, fun e => by omega⟩
    simp only [List.nodup_cons, List.mem_cons, not_or]
    refine ⟨⟨d1, d2, fun h => (hno _ h).1 rfl⟩, ⟨d4, fun h => (hno _ h).2.1 rfl⟩, fun h => (hno _ h).2.2 rfl, ?_⟩
    cases v1.ownBlock <;> simp
  refine ⟨_, rfl, Sl, [], gs :: gm :: go :: v1.ownBlock.toList, [], [.func (.func 38) #[] #[.pointer (some ⟨gs, 0, none⟩), .pointer (some ⟨go, 0, none⟩)]], ⟨e1, e2, e3, hsz, fun i hi hn => hsame i hi hn⟩,
    ⟨fun _ _ h => h, fun _ _ h => .inl h, fun g o u hs hu => (cell_same (hsame g (hSl g o hs) fun hm => (hk g hm).2 o hs)).trans hu⟩, .c _ _ _ _ (.d _ _ (.lit _ rfl)), ?_, by simpa using hnd', fun k hk' => ?_⟩
  · have := PReps.cons (E := EE) (Sl := Sl) (w := w') (X0 := fun _ => True) (B0 := 0) _ [] _ [] (gs :: gm :: go :: v1.ownBlock.toList) [] [_] [] (.fd _ _ _ hfrep rfl fun k hk' => (hall k hk').1) .nil
    simpa using this
  · have := hall k (by simpa using hk')
    exact ⟨this.1.1, this.2⟩
theorem arep_fd {Sl : Nat → Nat → Prop} {w : World} {X0 : Nat → Prop} {B0 : Nat} {v : Value} {th : Thing} {p : List Nat} {r : List Value} (h : ARep EE Sl w X0 B0 v (.c (.fd th)) p r) :
    EE.frep th Sl w v p ∧ v.oneCell' = true ∧ (∀ k ∈ p, k < w.heap.size ∧ ∀ j, ¬ Sl k j) ∧ r = [v] := by
  cases h with
  | c _ _ _ _ h => cases h with | fd _ _ _ h h1 hk => exact ⟨h, h1, hk, rfl⟩
theorem by_calls {Sl : Nat → Nat → Prop} {w : World} {v : Value} {th : Thing} {fp : List Nat} {s : ByteArray} {y : b_by} (hy : stepT (th, s, ()) = some y) (hSl : ∀ g o, Sl g o → g < w.heap.size) (hf : EE.frep th Sl w v fp) (hk : ∀ k ∈ fp, k < w.heap.size ∧ ∀ j, ¬ Sl k j) (hnd : fp.Nodup) (hiv : EE.inv w) :
    ∃ g args, Callee 1000003 [v, .string s] g args ∧ (∃ fn, Tryz.prog.funcs[g]? = some fn ∧ fn.body.isSome = true ∧ (fn.name == "runtime.NumGoroutine") = false) ∧ Calls Tryz.prog g args w fun e w' => ∃ u, e = .returned u ∧ Answers EE Sl w fp [v] (rc_by.enc y) u w' := by
  cases th with
  | ren l =>
    simp only [stepT, Option.some.injEq] at hy
    subst hy
    exact ren_calls l s hSl hf hk hiv
  | names l =>
    simp only [stepT] at hy
    split at hy
    · rename_i hs
      obtain ⟨gs, gm, go, sv, n, rfl, rfl, hn, h1, hM, h3, h4⟩ := hf
      have hnd0 := hnd
      simp only [List.nodup_cons, List.mem_cons, not_or] at hnd
      obtain ⟨⟨d1, d2, d3⟩, ⟨d4, d5⟩, d6, d7⟩ := hnd
      have hsvm : ∀ k, some k = sv.ownBlock → k ∈ sv.ownBlock.toList := fun k e => by rw [← e]; simp
      refine ⟨38, #[_, _, _], .inr ⟨rfl, #[], #[_, _], [.string s], rfl, rfl⟩, ⟨Tryz.f38, Tryz.func38, by kernel_rfl, by kernel_rfl⟩, ?_⟩
      split at hy
      · rename_i hin
        injection hy with hy
        subst hy
        exact (names_in w gs gm go n sv l s h1 hM hn h3 h4 hs hin).mono fun e w' h => names_answers (n := n) (l := l) hSl h1 hk hnd0 h
      · rename_i hin
        split at hy
        · rename_i hlim
          injection hy with hy
          subst hy
          exact (names_out w gs gm go n sv l s h1 hM hn h3 h4 hs (by simpa using hin) hlim d1 d2 d4 (fun e => d5 (hsvm _ e)) (fun e => d6 (hsvm _ e))).mono fun e w' h => names_answers (n := n) (l := l) hSl h1 hk hnd0 h
        · cases hy
    · cases hy
theorem ok_by : SpecA Tryz.prog EE 1000003 (ansOf c_by rc_by.enc stepT) := by
  refine specA_by _ _ _ fun x y hy Sl w us fp rs hSl hargs hnd hlt hiv => ?_
  obtain ⟨th, s, _⟩ := x
  obtain ⟨v, vs, p, q, r, t, rfl, rfl, rfl, h1, h2⟩ := areps_cons hargs
  obtain ⟨vs', rfl, h3⟩ := areps_lit h2
  obtain ⟨rfl, rfl, rfl⟩ := areps_nil h3
  obtain ⟨hf, _, hk, rfl⟩ := arep_fd h1
  simp only [List.append_nil] at hnd ⊢
  exact by_calls hy hSl hf hk hnd hiv
theorem dreps_of {Sl : Nat → Nat → Prop} {w : World} {X0 : Nat → Prop} {B0 : Nat} : ∀ {ds : List (DV II)} {us : List Value} {fp : List Nat} {rs : List Value}, PReps EE Sl w X0 B0 us (ds.map .d) fp rs → us.length = ds.length ∧ fp = [] ∧ rs = []
  | [], us, fp, rs, h => by cases h; exact ⟨rfl, rfl, rfl⟩
  | d :: ds, us, fp, rs, h => by
    cases h with
    | cons v vs x xs p q r t h hs =>
      cases h with
      | d =>
        obtain ⟨h1, rfl, rfl⟩ := dreps_of hs
        exact ⟨by simp [h1], rfl, rfl⟩
theorem dreps_move {Sl Sl' : Nat → Nat → Prop} {w w' : World} {X0 X0' : Nat → Prop} {B0 B0' : Nat} (hS : ∀ g o, Sl g o → Sl' g o) (hc : ∀ g o u, Sl g o → w.cell? ⟨g, o, none⟩ = some u → w'.cell? ⟨g, o, none⟩ = some u) :
    ∀ {ds : List (DV II)} {us : List Value} {fp : List Nat} {rs : List Value}, PReps EE Sl w X0 B0 us (ds.map .d) fp rs → PReps EE Sl' w' X0' B0' us (ds.map .d) [] []
  | [], us, fp, rs, h => by cases h; exact .nil
  | d :: ds, us, fp, rs, h => by
    cases h with
    | cons v vs x xs p q r t h hs =>
      cases h with
      | d _ _ h => exact .cons _ _ _ _ [] [] [] [] (.d _ _ (h.move hS hc)) (dreps_move hS hc hs)
theorem sp39 (s : Fam) : sp s 39 = ansOf c_tree_mapper_program rc_tree_mapper_program.enc s.f_tree_mapper_program := by kernel_rfl
def ProgR (Sl : Nat → Nat → Prop) (w : World) (u : Value) (p : TProgram) : Prop := ∃ us : Array Value, u = .agg us ∧ PReps EE Sl w (fun _ => True) 0 us.toList ((row_TProgram p).map .d) [] []
theorem enc_prog (p : TProgram) : c_TProgram.enc p = .agg ((row_TProgram p).map .d) := rfl
theorem arep_prog {Sl : Nat → Nat → Prop} {w : World} {X0 : Nat → Prop} {B0 : Nat} {v : Value} {p : TProgram} {fp : List Nat} {rs : List Value} (h : ARep EE Sl w X0 B0 v (c_TProgram.enc p) fp rs) : ProgR Sl w v p ∧ fp = [] ∧ rs = [] := by
  rw [enc_prog] at h
  cases h with
  | agg us _ _ _ h =>
    have := dreps_of h
    exact ⟨⟨us, rfl, dreps_move (fun _ _ h => h) (fun _ _ _ _ h => h) h⟩, this.2.1, this.2.2⟩
theorem drep_slice {Sl : Nat → Nat → Prop} {w : World} {v : Value} {t : Nat} {xs : List (II t)} (h : DRep EE Sl w v (.sl t xs)) : ∃ A n c, v = .slice A n c := by
  cases h with
  | sl _ _ A n c => exact ⟨A, n, c, rfl⟩
theorem preps_d {Sl : Nat → Nat → Prop} {w : World} {X0 : Nat → Prop} {B0 : Nat} {d : DV II} {ds : List (CV II)} {us : List Value} {fp : List Nat} {rs : List Value} (h : PReps EE Sl w X0 B0 us (.d d :: ds) fp rs) : ∃ v vs, us = v :: vs ∧ DRep EE Sl w v d ∧ PReps EE Sl w X0 B0 vs ds fp rs := by
  cases h with
  | cons v vs x xs p q r t h hs => cases h with | d _ _ h => exact ⟨v, vs, rfl, h, hs⟩
theorem ProgR.nine {Sl : Nat → Nat → Prop} {w : World} {u : Value} {p : TProgram} (h : ProgR Sl w u p) : ∃ s0 A1 n1 c1 A2 n2 c2 A3 n3 c3 A4 n4 c4 A5 n5 c5 A6 n6 c6 A7 n7 c7 A8 n8 c8, u = .agg #[.string s0, .slice A1 n1 c1, .slice A2 n2 c2, .slice A3 n3 c3, .slice A4 n4 c4, .slice A5 n5 c5, .slice A6 n6 c6, .slice A7 n7 c7, .slice A8 n8 c8] := by
  obtain ⟨us, rfl, h⟩ := h
  have h : PReps EE Sl w (fun _ => True) 0 us.toList [.d (.lit (.string p.Name)), .d (.sl 9 p.Before), .d (.sl 9 p.Mid), .d (.sl 9 p.After), .d (.sl 59 p.Recs), .d (.sl 98 p.Vars), .d (.sl 103 p.Routines), .d (.sl 107 p.Body), .d (.sl 9 p.End)] [] [] := h
  obtain ⟨l⟩ := us
  obtain ⟨v0, l0, e0, h0, z0⟩ := preps_d h
  have x0 := drep_lit h0
  obtain ⟨v1, l1, e1, h1, z1⟩ := preps_d z0
  obtain ⟨A1, n1, c1, x1⟩ := drep_slice h1
  obtain ⟨v2, l2, e2, h2, z2⟩ := preps_d z1
  obtain ⟨A2, n2, c2, x2⟩ := drep_slice h2
  obtain ⟨v3, l3, e3, h3, z3⟩ := preps_d z2
  obtain ⟨A3, n3, c3, x3⟩ := drep_slice h3
  obtain ⟨v4, l4, e4, h4, z4⟩ := preps_d z3
  obtain ⟨A4, n4, c4, x4⟩ := drep_slice h4
  obtain ⟨v5, l5, e5, h5, z5⟩ := preps_d z4
  obtain ⟨A5, n5, c5, x5⟩ := drep_slice h5
  obtain ⟨v6, l6, e6, h6, z6⟩ := preps_d z5
  obtain ⟨A6, n6, c6, x6⟩ := drep_slice h6
  obtain ⟨v7, l7, e7, h7, z7⟩ := preps_d z6
  obtain ⟨A7, n7, c7, x7⟩ := drep_slice h7
  obtain ⟨v8, l8, e8, h8, z8⟩ := preps_d z7
  obtain ⟨A8, n8, c8, x8⟩ := drep_slice h8
  cases z8
  subst e8 e7 e6 e5 e4 e3 e2 e1
  have e0 : l = _ := e0
  subst x0 x1 x2 x3 x4 x5 x6 x7 x8 e0
  exact ⟨_, _, _, _, _, _, _, _, _, _, _, _, _, _, _, _, _, _, _, _, _, _, _, _, _, rfl⟩
theorem ProgR.move {Sl Sl' : Nat → Nat → Prop} {w w' : World} {u : Value} {p : TProgram} (h : ProgR Sl w u p) (hS : ∀ g o, Sl g o → Sl' g o) (hc : ∀ g o u, Sl g o → w.cell? ⟨g, o, none⟩ = some u → w'.cell? ⟨g, o, none⟩ = some u) : ProgR Sl' w' u p := by
  obtain ⟨us, rfl, h⟩ := h
  exact ⟨us, rfl, dreps_move hS hc h⟩
structure ProgTo (Sl : Nat → Nat → Prop) (w0 W : World) (v : Value) (fp : List Nat) (q : TProgram) (th : Thing) (u : Value) (w' : World) : Prop where
  ex : ∃ Sl' p2, KeepX (fun _ => False) w0.heap.size w0 w' ∧ Ext Sl Sl' w0 w' [] ∧ (∀ g o, Sl' g o → Sl g o ∨ W.heap.size ≤ g ∨ g ∈ fp) ∧ ProgR Sl' w' u q ∧ EE.frep th Sl' w' v p2 ∧ p2.Nodup ∧ ∀ k ∈ p2, w0.heap.size ≤ k ∧ k < w'.heap.size ∧ ∀ j, ¬ Sl' k j
  size : W.heap.size ≤ w'.heap.size
  same : ∀ k, k < W.heap.size → ¬ k ∈ fp → w'.heap[k]? = W.heap[k]?
theorem inv_below {w W : World} (h : EE.inv w) (hb : Below w.heap.size w W) : EE.inv W := EE.invKeep w W h fun k hk => hb.block k (EE.invLt w k h hk)
theorem prog_calls {s : Fam} (hS : ∀ f, SpecOK Tryz.prog EE (sp s) f) {th : Thing} {p : TProgram} {r : b_tree_mapper_program} (hr : s.f_tree_mapper_program ((th, ()), p, ()) = some r) {Sl : Nat → Nat → Prop} {w0 W : World} {v u : Value} {fp : List Nat}
    (hSl : ∀ g o, Sl g o → g < w0.heap.size) (hb : Below w0.heap.size w0 W) (hiv : EE.inv w0) (hp : ProgR Sl w0 u p) (hf : EE.frep th Sl W v fp) (h1 : v.oneCell' = true) (hk : ∀ k ∈ fp, w0.heap.size ≤ k ∧ k < W.heap.size) (hnd : fp.Nodup) :
    Calls Tryz.prog 39 #[.agg #[v], u] W fun e w' => ∃ u', e = .returned u' ∧ ProgTo Sl w0 W v fp r.1 r.2.1 u' w' := by
  have hcell : ∀ g o u, Sl g o → w0.cell? ⟨g, o, none⟩ = some u → W.cell? ⟨g, o, none⟩ = some u := fun g o u hs hu => (cell_same (hb.block g (hSl g o hs))).trans hu
  have hno : ∀ k ∈ fp, ∀ j, ¬ Sl k j := fun k hk' j hj => by have := hSl k j hj; have := (hk k hk').1; omega
  obtain ⟨us, rfl, hp⟩ := hp
  have hSl' : ∀ g o, Sl g o → g < W.heap.size := fun g o h => Nat.lt_of_lt_of_le (hSl g o h) hb.size
  have hm : PReps EE Sl W (· ∈ fp) W.heap.size [v] [.fd th] fp [v] := by
    have := PReps.cons (E := EE) (Sl := Sl) (w := W) (X0 := (· ∈ fp)) (B0 := W.heap.size) v [] (.fd th) [] fp [] [v] [] (.fd _ _ _ hf h1 fun k hk' => ⟨(hk k hk').2, hno k hk'⟩) .nil
    simpa using this
  have ha : AReps EE Sl W (· ∈ fp) W.heap.size [.agg #[v], .agg us] (c_tree_mapper_program.enc ((th, ()), p, ())) fp [v] := by
    have := AReps.cons (E := EE) (Sl := Sl) (w := W) (X0 := (· ∈ fp)) (B0 := W.heap.size) (.agg #[v]) [.agg us] (.agg [.fd th]) [c_TProgram.enc p] fp [] [v] [] (.agg _ _ _ _ hm) (.cons _ _ _ _ [] [] [] [] (.agg us _ [] [] (dreps_move (fun _ _ h => h) hcell hp)) .nil)
    rw [List.append_nil] at this
    exact this
  obtain ⟨g', args, hc, hfn, hcalls⟩ := hS 39 (c_tree_mapper_program.enc ((th, ()), p, ())) (rc_tree_mapper_program.enc r) (by rw [sp39]; exact ans_run _ _ _ rfl hr) Sl W _ fp [v] hSl' ha hnd
    (fun k hk' => ⟨(hk k hk').2, fun hg => by have := EE.invLt w0 k hiv hg; have := (hk k hk').1; omega⟩) (inv_below hiv hb)
  rcases hc with ⟨_, rfl, hargs⟩ | ⟨hne, _⟩
  · have : args = #[.agg #[v], .agg us] := by cases args; simpa using hargs
    subst this
    refine hcalls.mono fun e w' ⟨u', he, Sl', p1, p2, r1, r2, hkeep, hext, hu, hps, hnd', hlt⟩ => ⟨u', he, ?_⟩
    obtain ⟨hq, rfl, rfl⟩ := arep_prog hu
    refine ⟨⟨Sl', p2, ⟨hkeep.os.trans hb.os, hkeep.tape.trans hb.tape, hkeep.output.trans hb.output, Nat.le_trans hb.size hkeep.size, fun i hi _ => (hkeep.block i (Nat.lt_of_lt_of_le hi hb.size) fun hm => by have := (hk i hm).1; omega).trans (hb.block i hi)⟩,
      ⟨hext.s, fun g o hg => (hext.n g o hg).imp id fun hx => ⟨.inl (hx.1.elim (fun h => Nat.le_trans hb.size h) fun h => (hk g h).1), hx.2⟩, fun g o u hs hu => hext.c g o u hs (hcell g o u hs hu)⟩, fun g o hg => (hext.n g o hg).imp id fun hx => hx.1, hq, ?_⟩, hkeep.size, fun k h1 h2 => hkeep.block k h1 h2⟩
    have hps : PReps EE Sl' w' (fun _ => True) 0 [v] [.fd r.2.1] p2 r2 := hps
    cases hps with
    | cons _ _ _ _ p' q' r' t' h hs =>
      cases hs
      cases h with
      | fd _ _ _ h _ hk2 =>
        simp only [List.append_nil, List.nil_append] at hnd' hlt hk2 ⊢
        exact ⟨h, hnd', fun k hk' => ⟨(hlt k hk').2.elim (fun h => Nat.le_trans hb.size h) fun h => (hk k h).1, hk2 k hk'⟩⟩
  · cases hne
end Go.Ev
end
section
open Go Go.Proofs
namespace Go.Ev
open Go.RowKit Go.Shelf
attribute [local go_sem] Oper.semAt_some
set_option linter.unusedVariables false
set_option linter.unusedSimpArgs false
set_option maxHeartbeats 4000000
set_option maxRecDepth 100000
theorem range_at {F : Fence} {n : Nat} {P : Program} {g : Operand} {ps : Array Tmp} {assign body : Code} {Q : Exit → Act → World → Prop} {a : Act} {w : World} (hro : F.round = none) (h1 : 1 ≤ n) {gf : Nat} {lb : Array Value}
    (hg : a.eval g = .func (.func gf) #[] lb) (hFg : F.fn gf) (eg : ∀ args w, (callFunc gf args).run P w = .ok (.enter gf args) w)
    (h : ∀ fn W1 rc, F.fn fn → rc = (fun st pe => ({ state := st, pending := pe, fn := fn, tmps := a.tmps, params := ps, assign := assign, body := body, defers := w.heap.size } : Loop)) → W1 = (w.alloc (.deferred (some []))).alloc (.loop (rc .ready none)) →
      CallsIn F (n - 1) P gf (#[.func (.yield (w.heap.size + 1)) #[] #[]] ++ lb) W1 (rangePost F n P (w.heap.size + 1) Q { a with defers := { target := .collected w.heap.size, args := #[] } :: a.defers })) :
    (Code.rangeFunc g ps assign body).wpIn F n P Q a w := by
  refine wpIn_rangeFunc ?_
  intro fn hfn
  rw [hro]
  obtain ⟨W1, hW1⟩ : ∃ W1, (w.alloc (.deferred (some []))).alloc (.loop { state := .ready, pending := none, fn := fn, tmps := a.tmps, params := ps, assign := assign, body := body, defers := w.heap.size }) = W1 := ⟨_, rfl⟩
  refine ⟨w.heap.size + 1, [{ target := .collected w.heap.size, args := #[] }], W1, { target := .fn (.func gf) lb, args := #[.func (.yield (w.heap.size + 1)) #[] #[]] }, W1, gf,
    #[.func (.yield (w.heap.size + 1)) #[] #[]] ++ lb, W1, ?_, ?_, ?_, ?_, fun _ => h1, ?_⟩
  · rw [← hW1]; exact run_enterLoop_outer _ _ _ _ _
  · simp only [resolve, hg]
    simp [go_sem]
  · intro f' hf'
    simp [Target.leads] at hf'
    subst hf'
    exact hFg
  · simp [invoke, go_sem, eg]
  · exact h fn W1 _ hfn rfl hW1.symm
theorem splitSeq_calls (s t : ByteArray) (w : World) : Calls Tryz.prog 125 #[.string s, .string t] w fun e w' =>
    e = .returned (.func (.func 158) #[] #[.pointer (some ⟨w.heap.size + 1, 0, none⟩), .pointer (some ⟨w.heap.size, 0, none⟩), .pointer (some ⟨w.heap.size + 1 + 1, 0, none⟩)]) ∧
      w' = ((w.alloc (.cells #[.string s] 9)).alloc (.cells #[.string t] 9)).alloc (.cells #[.int .i64 0] 3) := by
  have h151 : Calls Tryz.prog 151 #[.string s, .string t, .int .i64 0] w fun e w' =>
    e = .returned (.func (.func 158) #[] #[.pointer (some ⟨w.heap.size + 1, 0, none⟩), .pointer (some ⟨w.heap.size, 0, none⟩), .pointer (some ⟨w.heap.size + 1 + 1, 0, none⟩)]) ∧
      w' = ((w.alloc (.cells #[.string s] 9)).alloc (.cells #[.string t] 9)).alloc (.cells #[.int .i64 0] 3) := by
    go_enter Tryz.func151, Tryz.ntmps151
    go_wp2
    go_ret
    try exact ⟨rfl, rfl⟩
  go_enter Tryz.func125, Tryz.ntmps125
  go_wp2_with (go_at_call 151; refine h151.mono ?_; rintro e w' ⟨rfl, rfl⟩)
  go_ret
  try exact ⟨rfl, rfl⟩
theorem split_iter {n : Nat} (l bs bp bv : Nat) (J : ByteArray → World → Prop) (Je Jx : World → Prop)
    (hcell : ∀ r W, J r W → W.cell? ⟨bs, 0, none⟩ = some (.string r) ∧ W.frozen? ⟨bs, 0, none⟩ = false ∧ W.cell? ⟨bp, 0, none⟩ = some (.string ⟨#[36]⟩) ∧ W.cell? ⟨bv, 0, none⟩ = some (.int .i64 0) ∧ r.size ≤ maxLen)
    (hY : ∀ (r : ByteArray) W (i : Nat), J r W → Lib.indexByte r.data.toList 36 = i → i < r.size → YieldAt Fence.wide (n - 1) Tryz.prog l #[.string (r.extract 0 i)] W fun e W' =>
      (e = .returned (.bool true) ∧ J r W' ∧ J (r.extract (i + 1) r.size) (W'.setCell ⟨bs, 0, none⟩ (.string (r.extract (i + 1) r.size)))) ∨ (e = .returned (.bool false) ∧ Jx W'))
    (hL : ∀ (r : ByteArray) W, J r W → Lib.indexByte r.data.toList 36 = -1 → YieldAt Fence.wide (n - 1) Tryz.prog l #[.string r] W fun e W' => (e = .returned (.bool true) ∧ Je W') ∨ (e = .returned (.bool false) ∧ Jx W'))
    (r0 : ByteArray) (W0 : World) (h0 : J r0 W0) :
    CallsIn Fence.wide n Tryz.prog 158 #[.func (.yield l) #[] #[], .pointer (some ⟨bp, 0, none⟩), .pointer (some ⟨bs, 0, none⟩), .pointer (some ⟨bv, 0, none⟩)] W0 fun e W' => (∃ v, e = .returned v) ∧ (Je W' ∨ Jx W') := by
  obtain ⟨c1, c2, c3, c4, c5⟩ := hcell r0 W0 h0
  refine callsIn_of_wp Tryz.func158 rfl trivial ?_ rfl
  simp only [Tryz.ntmps158, List.size_toArray, List.length_cons, List.length_nil, Nat.reduceAdd, Nat.reduceSub, Array.replicate_succ, Array.replicate_zero, List.push_toArray, List.append_toArray, List.nil_append, List.cons_append]
  gi_wp2
  clear c1 c2 c3 c4 c5
  gi_loopw [29] (fun p wr => ∃ r, J r wr)
    (fun p wr => match wr.cell? ⟨bs, 0, none⟩ with | some (.string r) => r.size | _ => 0)
  case atStart => exact ⟨r0, h0⟩
  case round =>
    obtain ⟨r, hJ⟩ := hrel
    obtain ⟨c1, c2, c3, c4, c5⟩ := hcell r wr hJ
    rcases Int.lt_or_le (Lib.indexByte r.data.toList 36) 0 with hi | hi
    · have hi' : Lib.indexByte r.data.toList 36 = -1 := by have := Lib.indexByte_ge r.data.toList 36; omega
      obtain ⟨fn, tmps, assign, body, hy, hR⟩ := hL r wr hJ hi'
      have hidx : Calls Tryz.prog 160 #[.string r, .string ⟨#[36]⟩] wr fun e w' => e = .returned (.int .i64 (-1)) ∧ w' = wr := by
        have := Tryz.strings_Index_one r 36 wr
        rwa [hi'] at this
      gi_wp2_with (refine ⟨trivial, fun h => (by cases h), ?_⟩; gi_at_call 160; refine (callsIn_wide.2 hidx).mono ?_; rintro e w' ⟨rfl, rfl⟩)
      refine ⟨fun h => (by cases h), ?_⟩
      refine hR.mono ?_
      rintro e W3 (⟨rfl, h3⟩ | ⟨rfl, h3⟩)
      · gi_wp2
        go_end0
        exact ⟨⟨_, rfl⟩, .inl h3⟩
      · gi_wp2
        go_end0
        exact ⟨⟨_, rfl⟩, .inr h3⟩
    · obtain ⟨i, hi'⟩ := Int.eq_ofNat_of_zero_le hi
      have hlt : i < r.size := by
        have h1 := (Lib.indexByte_some hi').1
        have h2 := (List.getElem?_eq_some_iff.1 h1).1
        simpa using h2
      obtain ⟨fn, tmps, assign, body, hy, hR⟩ := hY r wr i hJ hi' hlt
      have hidx : Calls Tryz.prog 160 #[.string r, .string ⟨#[36]⟩] wr fun e w' => e = .returned (.int .i64 (i : Int)) ∧ w' = wr := by
        have := Tryz.strings_Index_one r 36 wr
        rwa [hi'] at this
      have hm := c5
      simp only [maxLen] at hm
      have hw0 : wrap64 ((i : Int) + 0) = (i : Int) := by have := Go.IntWalk.wrap64_in (i : Int) (by omega); simpa using this
      have hw1 : wrap64 ((i : Int) + 1) = ((i + 1 : Nat) : Int) := by have := Go.IntWalk.wrap64_in ((i : Int) + 1) (by omega); simpa using this
      gi_wp2_with (refine ⟨trivial, fun h => (by cases h), ?_⟩; gi_at_call 160; refine (callsIn_wide.2 hidx).mono ?_; rintro e w' ⟨rfl, rfl⟩)
      refine ⟨fun h => (by cases h), ?_⟩
      refine hR.mono ?_
      rintro e W3 (⟨rfl, h3, h4⟩ | ⟨rfl, h3⟩)
      · obtain ⟨d1, d2, d3, d4, d5⟩ := hcell r W3 h3
        gi_wp2
        go_roundw
        case rel => exact ⟨_, h4⟩
        case measure =>
          rw [(hcell _ _ h4).1, c1]
          simp only [ByteArray.size_extract]
          omega
      · gi_wp2
        refine bodyPost_ret (results_none rfl _ _ _) rfl ?_
        exact ⟨⟨_, rfl⟩, .inr h3⟩
end Go.Ev
end
section
open Go Go.Proofs
namespace Go.Ev
open Go.RowKit Go.Shelf
attribute [local go_sem] Oper.semAt_some
set_option linter.unusedVariables false
set_option linter.unusedSimpArgs false
set_option maxHeartbeats 4000000
set_option maxRecDepth 100000
theorem cutL_none : ∀ l : List UInt8, Lib.indexByte l 36 = -1 → cutL l = [l]
  | [], _ => rfl
  | c :: r, h => by
    have hc := Lib.indexByte_none h 0
    have hne : c ≠ 36 := fun e => hc (by simp [e])
    have hr : Lib.indexByte r 36 = -1 := by
      have hge := Lib.indexByte_ge r 36
      unfold Lib.indexByte at h
      split at h
      · cases h
      · split at h
        · rename_i h2; simpa using h2
        · omega
    rw [cutL, if_neg hne, cutL_none r hr]
theorem cutL_some : ∀ (l : List UInt8) (i : Nat), Lib.indexByte l 36 = i → cutL l = l.take i :: cutL (l.drop (i + 1))
  | [], i, h => by simp [Lib.indexByte] at h
  | c :: r, 0, h => by
    have := (Lib.indexByte_some h).1
    simp at this
    rw [cutL, if_pos this]
    rfl
  | c :: r, i + 1, h => by
    have hne : c ≠ 36 := fun e => (Lib.indexByte_some h).2 0 (by omega) (by simp [e])
    have hr : Lib.indexByte r 36 = i := by
      unfold Lib.indexByte at h
      split at h
      · omega
      · split at h
        · omega
        · push_cast at h; omega
    rw [cutL, if_neg hne, cutL_some r i hr]
    rfl
theorem cutP_none (s : ByteArray) (h : Lib.indexByte s.data.toList 36 = -1) : cutP s = [s] := by
  unfold cutP
  rw [cutL_none _ h]
  simp
theorem cutP_some (s : ByteArray) (i : Nat) (h : Lib.indexByte s.data.toList 36 = i) : cutP s = s.extract 0 i :: cutP (s.extract (i + 1) s.size) := by
  unfold cutP
  rw [cutL_some _ i h]
  simp only [List.map_cons, List.cons.injEq]
  constructor
  · apply ByteArray.ext
    apply Array.toList_inj.1
    rw [Lib.extract_data]
    simp
  · congr 2
    rw [Lib.extract_data, List.take_of_length_le (by simp)]
theorem sp23 (s : Fam) : sp s 23 = ansOf c_tree_checker_name rc_tree_checker_name.enc s.f_tree_checker_name := by kernel_rfl
theorem bool_of {w w' : World} {b : Bool} {u : Value} (h : Answers EE (allS w) w [] [] (.c (.d (.lit (.bool b))), []) u w') : u = .bool b ∧ Below w.heap.size w w' := by
  obtain ⟨Sl', p1, p2, r1, r2, hkeep, hext, hu, hps, hnd, hlt⟩ := h
  obtain ⟨hu1, rfl, rfl⟩ := arep_d hu
  exact ⟨drep_lit hu1, ⟨hkeep.os, hkeep.tape, hkeep.output, hkeep.size, fun i hi => hkeep.block i hi (by simp)⟩⟩
theorem name_calls {s : Fam} (hS : ∀ f, SpecOK Tryz.prog EE (sp s) f) {d : Int} {p : ByteArray} {t : Bool} (hr : s.f_tree_checker_name ({ dialect := d }, p, ()) = some t) {W : World} (hi : EE.inv W) :
    Calls Tryz.prog 23 #[.agg #[.int .i64 d], .string p] W fun e W' => e = .returned (.bool t) ∧ Below W.heap.size W W' := by
  obtain ⟨g, args', hc, hfn, hcalls⟩ := hS 23 (c_tree_checker_name.enc ({ dialect := d }, p, ())) (rc_tree_checker_name.enc t) (by
    rw [sp23]; exact ans_run _ _ _ (x := ({ dialect := d }, p, ())) rfl hr) (allS W) W [.agg #[.int .i64 d], .string p] [] [] (fun _ _ h => h)
    (.cons _ _ _ _ [] [] [] [] (.agg _ _ _ _ (.cons _ _ _ _ [] [] [] [] (.d _ _ (.lit _ rfl)) .nil)) (.cons _ _ _ _ [] [] [] [] (.c _ _ _ _ (.d _ _ (.lit _ rfl))) .nil)) List.nodup_nil (fun k hk => by cases hk) hi
  rcases hc with ⟨_, rfl, he⟩ | ⟨h, _⟩
  · have : args' = #[.agg #[.int .i64 d], .string p] := Array.toList_inj.1 he
    subst this
    refine hcalls.mono fun e w' ⟨u, he, h⟩ => ?_
    obtain ⟨rfl, hb⟩ := bool_of h
    exact ⟨he, hb⟩
  · exact absurd h (by decide)
structure RAt (w : World) (rc : LoopState → Option Code → Loop) (r : ByteArray) (res : Bool) (st : LoopState) (pe : Option Code) (W : World) : Prop where
  bel : Below w.heap.size w W
  hc : W.heap[w.heap.size]? = some (.cells #[.int .i64 1] 51 (0, 0))
  hr : W.heap[w.heap.size + 1]? = some (.cells #[.bool res] 4 (0, 0))
  hs : W.heap[w.heap.size + 2]? = some (.cells #[.string r] 9 (0, 0))
  hp : W.heap[w.heap.size + 3]? = some (.cells #[.string ⟨#[36]⟩] 9 (0, 0))
  hv : W.heap[w.heap.size + 4]? = some (.cells #[.int .i64 0] 3 (0, 0))
  hD : W.heap[w.heap.size + 5]? = some (.deferred (some []))
  hL : W.heap[w.heap.size + 6]? = some (.loop (rc st pe))
theorem some_lt {w : World} {k : Nat} {o : Go.Obj} (h : w.heap[k]? = some o) : k < w.heap.size := (Array.getElem?_eq_some_iff.1 h).1
theorem RAt.later {w : World} {rc : LoopState → Option Code → Loop} {r : ByteArray} {res : Bool} {st : LoopState} {pe : Option Code} {W W' : World} (h : RAt w rc r res st pe W) (hb : Below W.heap.size W W') : RAt w rc r res st pe W' :=
  ⟨h.bel.trans (hb.mono h.bel.size), (hb.block _ (some_lt h.hc)).trans h.hc, (hb.block _ (some_lt h.hr)).trans h.hr, (hb.block _ (some_lt h.hs)).trans h.hs, (hb.block _ (some_lt h.hp)).trans h.hp, (hb.block _ (some_lt h.hv)).trans h.hv,
    (hb.block _ (some_lt h.hD)).trans h.hD, (hb.block _ (some_lt h.hL)).trans h.hL⟩
theorem below_put {n : Nat} {w W : World} (h : Below n w W) (hn : n ≤ w.heap.size) (l : Nat) (hl : n ≤ l) (hlt : l < W.heap.size) (o : Go.Obj) : Below n w (W.putObj l o) :=
  h.trans ((Below.refl n W).grown (grownBy_putObj' W l o) (by have := h.size; omega) (fun k e => by cases e; exact hl))
theorem RAt.put {w : World} {rc : LoopState → Option Code → Loop} {r : ByteArray} {res : Bool} {st : LoopState} {pe : Option Code} {W : World} (h : RAt w rc r res st pe W) (rc' : LoopState → Option Code → Loop) (st' : LoopState) (pe' : Option Code) :
    RAt w rc' r res st' pe' (W.putObj (w.heap.size + 6) (.loop (rc' st' pe'))) :=
  ⟨below_put h.bel (Nat.le_refl _) _ (by omega) (some_lt h.hL) _, (World.putObj_heap_other (by omega)).trans h.hc, (World.putObj_heap_other (by omega)).trans h.hr, (World.putObj_heap_other (by omega)).trans h.hs, (World.putObj_heap_other (by omega)).trans h.hp,
    (World.putObj_heap_other (by omega)).trans h.hv, (World.putObj_heap_other (by omega)).trans h.hD, World.putObj_heap_same (some_lt h.hL)⟩
theorem set_same {W : World} {g t : Nat} {v u : Value} (h : W.heap[g]? = some (.cells #[v] t (0, 0))) : (W.setCell ⟨g, 0, none⟩ u).heap[g]? = some (.cells #[u] t (0, 0)) := by
  simp [World.setCell, Array.getElem?_modify, h]
theorem RAt.setr {w : World} {rc : LoopState → Option Code → Loop} {r : ByteArray} {res : Bool} {st : LoopState} {pe : Option Code} {W : World} (h : RAt w rc r res st pe W) (res' : Bool) :
    RAt w rc r res' st pe (W.setCell ⟨w.heap.size + 1, 0, none⟩ (.bool res')) := by
  have hk : ∀ k, k ≠ w.heap.size + 1 → (W.setCell ⟨w.heap.size + 1, 0, none⟩ (.bool res')).heap[k]? = W.heap[k]? := fun k hk => Below.heap_setCell _ _ _ k hk
  exact ⟨h.bel.setCell (p := ⟨w.heap.size + 1, 0, none⟩) (by simp) _, (hk _ (by omega)).trans h.hc, set_same h.hr, (hk _ (by omega)).trans h.hs, (hk _ (by omega)).trans h.hp, (hk _ (by omega)).trans h.hv, (hk _ (by omega)).trans h.hD, (hk _ (by omega)).trans h.hL⟩
theorem RAt.sets {w : World} {rc : LoopState → Option Code → Loop} {r : ByteArray} {res : Bool} {st : LoopState} {pe : Option Code} {W : World} (h : RAt w rc r res st pe W) (r' : ByteArray) :
    RAt w rc r' res st pe (W.setCell ⟨w.heap.size + 2, 0, none⟩ (.string r')) := by
  have hk : ∀ k, k ≠ w.heap.size + 2 → (W.setCell ⟨w.heap.size + 2, 0, none⟩ (.string r')).heap[k]? = W.heap[k]? := fun k hk => Below.heap_setCell _ _ _ k hk
  exact ⟨h.bel.setCell (p := ⟨w.heap.size + 2, 0, none⟩) (by simp) _, (hk _ (by omega)).trans h.hc, (hk _ (by omega)).trans h.hr, set_same h.hs, (hk _ (by omega)).trans h.hp, (hk _ (by omega)).trans h.hv, (hk _ (by omega)).trans h.hD, (hk _ (by omega)).trans h.hL⟩
theorem RAt.inv {w : World} {rc : LoopState → Option Code → Loop} {r : ByteArray} {res : Bool} {st : LoopState} {pe : Option Code} {W : World} (h : RAt w rc r res st pe W) (hi : EE.inv w) : EE.inv W :=
  EE.invKeep w W hi fun k hk => h.bel.block k (EE.invLt w k hi hk)
theorem cell_of1 {W : World} {g t : Nat} {v : Value} (h : W.heap[g]? = some (.cells #[v] t (0, 0))) : W.cell? ⟨g, 0, none⟩ = some v ∧ W.frozen? ⟨g, 0, none⟩ = false := by
  constructor <;> simp [World.cell?, World.frozen?, h]
theorem heap7 (w : World) (a0 a1 a2 a3 a4 a5 a6 : Go.Obj) (W : World) (hW : W = ((((((w.alloc a0).alloc a1).alloc a2).alloc a3).alloc a4).alloc a5).alloc a6) :
    Below w.heap.size w W ∧ W.heap[w.heap.size]? = some a0 ∧ W.heap[w.heap.size + 1]? = some a1 ∧ W.heap[w.heap.size + 2]? = some a2 ∧ W.heap[w.heap.size + 3]? = some a3 ∧ W.heap[w.heap.size + 4]? = some a4 ∧
      W.heap[w.heap.size + 5]? = some a5 ∧ W.heap[w.heap.size + 6]? = some a6 := by
  subst hW
  refine ⟨?_, ?_, ?_, ?_, ?_, ?_, ?_, ?_⟩
  · repeat (first | exact Below.refl _ _ | (refine Below.alloc ?_ (by first | exact Nat.le_refl _ | (simp only [World.size_alloc]; omega)) _))
  all_goals (simp only [World.alloc, Array.getElem?_push, Array.size_push]; repeat (first | rw [if_pos trivial] | rw [if_pos (by omega)] | rw [if_neg (by omega)]))
end Go.Ev
end
section
open Go Go.Proofs
namespace Go.Ev
open Go.RowKit Go.Shelf Go.Proofs.YtokkfbkbnocnoaaGreatDoor Go.Proofs.YtokkfbkbnocnoaaGreatDoorW.PrintWords Go.Proofs.YtokkfbkbnocnoaaGreatDoorW.PrintLast Go.Proofs.YtokkfbkbnocnoaaGreatDoorW.PrintMore
attribute [local go_sem] Oper.semAt_some
set_option linter.unusedVariables false
set_option linter.unusedSimpArgs false
set_option maxHeartbeats 4000000
set_option maxRecDepth 100000
theorem routine_cee {s : Fam} (hS : ∀ f, SpecOK Tryz.prog EE (sp s) f) {x : ByteArray} {b : Bool} (hr : allO (fun p => s.f_tree_checker_name ({ dialect := 1 }, p, ())) (cutP x) = some b) (hx : x.size ≤ maxLen) {w : World} (hi : EE.inv w) :
    CallsIn Fence.wide 9 Tryz.prog 82 #[.agg #[.int .i64 1], .string x] w fun e W' => e = .returned (.bool b) ∧ Below w.heap.size w W' := by
  refine callsIn_of_wp_marks Tryz.func82 rfl trivial ?_ rfl
  simp only [Tryz.ntmps82, List.size_toArray, List.length_cons, List.length_nil, Nat.reduceAdd, Nat.reduceSub, Array.replicate_succ, Array.replicate_zero, List.push_toArray, List.append_toArray, List.nil_append, List.cons_append]
  gi_wp2_with (refine ⟨trivial, ?_⟩; gi_at_call 125; refine (callsIn_wide.2 (splitSeq_calls x _ _)).mono ?_; rintro e w' ⟨rfl, rfl⟩)
  refine range_at rfl (by decide) (gf := 158) rfl trivial (enters_of Tryz.func158 (by kernel_rfl) rfl) ?_
  intro fn W1 rc hfn hrc hW1
  have hround : ∀ (p r : ByteArray) (t : Bool) (W : World) (R : Ending → World → Prop), RAt w rc r false .ready none W → s.f_tree_checker_name ({ dialect := 1 }, p, ()) = some t →
      (∀ W', t = true → RAt w rc r false .ready none W' → R (.returned (.bool true)) W') → (∀ W', t = false → RAt w rc r false .done (some .ret) W' → R (.returned (.bool false)) W') →
      YieldAt Fence.wide 7 Tryz.prog (w.heap.size + 6) #[.string p] W R := by
    intro p r t W R hA hn hT hF
    have hy := run_yield (P := Tryz.prog) (args := #[.string p]) hA.hL (by rw [hrc]; rfl)
    rw [hrc] at hy
    refine ⟨fn, _, _, _, hy, roundIn_of_wpIn hfn ?_⟩
    have hb := run_beginRound (P := Tryz.prog) hA.hL (by rw [hrc])
    have hA2 : RAt w (fun st pe => { rc st pe with state := .busy }) r false .ready none (W.putObj (w.heap.size + 6) (.loop { rc .ready none with state := .busy })) := hA.put (fun st pe => { rc st pe with state := .busy }) .ready none
    generalize W.putObj (w.heap.size + 6) (.loop { rc .ready none with state := .busy }) = W2 at hb hA2
    gi_wp2
    refine ⟨W2, hb, ?_⟩
    have hc := (cell_of1 hA2.hc).1
    obtain ⟨hc2, hf2⟩ := cell_of1 hA2.hr
    have hcall := callsIn_wide (n := 6).2 (name_calls hS hn (hA2.inv hi))
    cases t with
    | true =>
      gi_wp2_with (refine ⟨trivial, ?_⟩; gi_at_call 23; refine (CallsIn.inRound _ hcall).mono ?_; rintro e w' ⟨rfl, hb3⟩)
      have hA3 := hA2.later hb3
      refine ⟨_, _, run_endRound none hA3.hL, hT _ (by trivial) ?_⟩
      have := hA3.put rc .ready none
      rw [hrc] at this ⊢
      exact this
    | false =>
      gi_wp2_with (first | (refine ⟨trivial, ?_⟩; gi_at_call 23; refine (CallsIn.inRound _ hcall).mono ?_; rintro e w' ⟨rfl, hb3⟩; have hA3 := hA2.later hb3; obtain ⟨hc3, hf3⟩ := cell_of1 hA3.hr))
      have hA4 := hA3.setr false
      refine ⟨_, _, run_endRound (some .ret) hA4.hL, hF _ (by trivial) ?_⟩
      have := hA4.put rc .done (some .ret)
      rw [hrc] at this ⊢
      exact this
  have hA1 : RAt w rc x false .ready none W1 := by
    obtain ⟨g, g0, g1, g2, g3, g4, g5, g6⟩ := heap7 _ _ _ _ _ _ _ _ _ hW1
    exact ⟨g, g0, g1, g2, g3, g4, g5, g6⟩
  have hsplit := split_iter (n := 8) (w.heap.size + 6) (w.heap.size + 2) (w.heap.size + 3) (w.heap.size + 4)
    (fun r W => RAt w rc r false .ready none W ∧ allO (fun p => s.f_tree_checker_name ({ dialect := 1 }, p, ())) (cutP r) = some b ∧ r.size ≤ maxLen)
    (fun W => b = true ∧ ∃ r, RAt w rc r false .ready none W) (fun W => b = false ∧ ∃ r, RAt w rc r false .done (some .ret) W)
    (fun r W ⟨hA, _, hsz⟩ => ⟨(cell_of1 hA.hs).1, (cell_of1 hA.hs).2, (cell_of1 hA.hp).1, (cell_of1 hA.hv).1, hsz⟩)
    (fun r W i ⟨hA, hal, hsz⟩ hidx hlt => by
      rw [cutP_some r i hidx, allO] at hal
      obtain ⟨t, ht, hal⟩ := Option.bind_eq_some_iff.1 hal
      refine hround _ r t W _ hA ht (fun W' e hA' => ?_) (fun W' e hA' => ?_)
      · rw [if_pos e] at hal
        refine .inl ⟨rfl, ⟨hA', ?_, hsz⟩, hA'.sets _, hal, by simp only [ByteArray.size_extract]; omega⟩
        rw [cutP_some r i hidx, allO, ht, Option.bind_some, if_pos e]
        exact hal
      · rw [if_neg (by rw [e]; simp)] at hal
        injection hal with hal
        exact .inr ⟨rfl, hal.symm, r, hA'⟩)
    (fun r W ⟨hA, hal, hsz⟩ hidx => by
      rw [cutP_none r hidx, allO] at hal
      obtain ⟨t, ht, hal⟩ := Option.bind_eq_some_iff.1 hal
      refine hround _ r t W _ hA ht (fun W' e hA' => ?_) (fun W' e hA' => ?_)
      · rw [if_pos e] at hal
        injection hal with hal
        exact .inl ⟨rfl, hal.symm, r, hA'⟩
      · rw [if_neg (by rw [e]; simp)] at hal
        injection hal with hal
        exact .inr ⟨rfl, hal.symm, r, hA'⟩) x W1 ⟨hA1, hr, hx⟩
  have hpe0 : (rc .ready none).pending = none := by rw [hrc]
  have hpe1 : (rc .done (some .ret)).pending = some .ret := by rw [hrc]
  have hst0 : (rc .ready none).state ≠ .busy := by rw [hrc]; simp
  have hst1 : (rc .done (some .ret)).state ≠ .busy := by rw [hrc]; simp
  clear hround hA1 hW1 hrc
  simp only [World.size_alloc]
  refine hsplit.mono ?_
  rintro e W2 ⟨⟨v, rfl⟩, (⟨hb, r, h2⟩ | ⟨hb, r, h2⟩)⟩
  · have hend := run_endLoop (P := Tryz.prog) h2.hL hst0
    have h3 := h2.put (fun st pe => { rc st pe with state := .exhausted }) .ready none
    generalize W2.putObj (w.heap.size + 6) (.loop { rc .ready none with state := .exhausted }) = W3 at hend h3
    rw [hpe0] at hend
    refine ⟨none, W3, hend, ?_⟩
    clear hend hsplit
    obtain ⟨hc3, hf3⟩ := cell_of1 h3.hr
    gi_wp2
    have h4 := h3.setr true
    have hK : (W3.setCell ⟨w.heap.size + 1, 0, none⟩ (.bool true)).heap[w.heap.size + 1 + 1 + 1 + 1 + 1]? = some (.deferred (some [])) := h4.hD
    refine ⟨by simp, .inl ⟨_, _, rfl, run_takeDeferred hK, ?_⟩⟩
    have hc5 := (cell_of1 ((World.putObj_heap_other (by omega)).trans h4.hr : ((W3.setCell ⟨w.heap.size + 1, 0, none⟩ (.bool true)).putObj (w.heap.size + 1 + 1 + 1 + 1 + 1) (.deferred none)).heap[w.heap.size + 1]? = _)).1
    refine ⟨.bool true, ?_, by rw [hb], below_put h4.bel (Nat.le_refl _) _ (by omega) (some_lt hK) _⟩
    simp [results, Tryz.f82, go_sem, hc5]
  · have hend := run_endLoop (P := Tryz.prog) h2.hL hst1
    have h3 := h2.put (fun st pe => { rc st pe with state := .exhausted }) .done (some .ret)
    generalize W2.putObj (w.heap.size + 6) (.loop { rc .done (some .ret) with state := .exhausted }) = W3 at hend h3
    rw [hpe1] at hend
    refine ⟨some .ret, W3, hend, ?_⟩
    clear hend hsplit
    gi_wp2
    have hK : W3.heap[w.heap.size + 1 + 1 + 1 + 1 + 1]? = some (.deferred (some [])) := h3.hD
    refine ⟨by simp, .inl ⟨_, _, rfl, run_takeDeferred hK, ?_⟩⟩
    have hc5 := (cell_of1 ((World.putObj_heap_other (by omega)).trans h3.hr : (W3.putObj (w.heap.size + 1 + 1 + 1 + 1 + 1) (.deferred none)).heap[w.heap.size + 1]? = _)).1
    refine ⟨.bool false, ?_, by rw [hb], below_put h3.bel (Nat.le_refl _) _ (by omega) (some_lt hK) _⟩
    simp [results, Tryz.f82, go_sem, hc5]
theorem routine_else {s : Fam} (hS : ∀ f, SpecOK Tryz.prog EE (sp s) f) {d : Int} (hd : d ≠ 1) {x : ByteArray} {b : Bool} (hr : s.f_tree_checker_name ({ dialect := d }, x, ()) = some b) {w : World} (hi : EE.inv w) :
    Calls Tryz.prog 82 #[.agg #[.int .i64 d], .string x] w fun e W' => e = .returned (.bool b) ∧ Below w.heap.size w W' := by
  have hbn : (d != 1) = true := by simpa using hd
  have HI := Lib.hid hi
  have HS := Lib.hid hS
  have HR := Lib.hid hr
  have HB := Lib.hid (below_alloc (below_alloc (Below.refl w.heap.size w) (.cells #[.int .i64 d] 51)) (.cells #[.bool false] 4))
  have H1 := Lib.hid (show ((w.alloc (.cells #[.int .i64 d] 51)).alloc (.cells #[.bool false] 4)).heap[w.heap.size + 1]? = some (.cells #[.bool false] 4) by
    have := (MapKept.heap_alloc (w.alloc (.cells #[.int .i64 d] 51)) (.cells #[.bool false] 4)).1
    rwa [World.size_alloc] at this)
  clear hi hS hr
  go_enter Tryz.func82, Tryz.ntmps82
  go_wp2_with (go_at_call 23; refine (name_calls HS.out HR.out (EE.invKeep _ _ HI.out fun k hk => HB.out.block k (EE.invLt _ k HI.out hk))).mono ?_; rintro e w' ⟨rfl, hb3⟩; have H3 := Lib.hid ((hb3.block (w.heap.size + 1) (by simp)).trans H1.out); have hB3 := Lib.hid (HB.out.trans (hb3.mono (by simp; omega))); clear hb3; obtain ⟨hc3, hf3⟩ := cell_of1 H3.out)
  have h4 := set_same (u := .bool b) H3.out
  refine bodyPost_ret (v := .bool b) ?_ rfl ⟨rfl, hB3.out.setCell (p := ⟨w.heap.size + 1, 0, none⟩) (by simp) _⟩
  simp [results, Tryz.f82, go_sem, (cell_of1 h4).1]
theorem ok_tree_checker_routine (s : Fam) (k : Nat) (hS : ∀ f, SpecOK Tryz.prog EE (sp s) f) : SpecA Tryz.prog EE 82 (ansOf c_tree_checker_routine rc_tree_checker_routine.enc fun x => B_tree_checker_routine s k x.1 x.2.1) := by
  refine specA_by _ _ _ fun x y hy Sl w us fp rs hSl hargs hnd hlt hiv => ?_
  obtain ⟨⟨d⟩, t, _⟩ := x
  obtain ⟨v, vs, fp1, fp2, rs1, rs2, rfl, rfl, rfl, h1, h2⟩ := areps_cons hargs
  obtain ⟨vs', rfl, h3⟩ := areps_lit h2
  obtain ⟨rfl, rfl, rfl⟩ := areps_nil h3
  obtain ⟨us, rfl, h4⟩ : ∃ us : Array Value, v = .agg us ∧ PReps EE Sl w (· ∈ fp1 ++ []) w.heap.size us.toList [.d (.lit (.int .i64 d))] fp1 rs1 := by
    cases h1 with
    | agg vs xs p r h => exact ⟨vs, rfl, h⟩
  obtain ⟨rfl, rfl, rfl⟩ : us = #[.int .i64 d] ∧ fp1 = [] ∧ rs1 = [] := by
    generalize hl : us.toList = l at h4
    cases h4 with
    | cons v vs x xs p q r t h hs =>
      cases hs
      cases h with
      | d v x h => 
        cases h
        exact ⟨by apply Array.toList_inj.1; rw [hl], rfl, rfl⟩
  refine ⟨82, #[_, _], .inl ⟨by decide, rfl, rfl⟩, ⟨Tryz.f82, Tryz.func82, by kernel_rfl, by kernel_rfl⟩, ?_⟩
  simp only [B_tree_checker_routine] at hy
  by_cases hd : d = 1
  · subst hd
    rw [if_pos rfl] at hy
    split at hy
    · rename_i hx
      exact (callsIn_wide.1 (routine_cee hS hy hx hiv)).mono fun e w' ⟨he, hb⟩ => ⟨_, he, answers_lit hSl hb rfl⟩
    · cases hy
  · rw [if_neg hd] at hy
    exact (routine_else hS hd hy hiv).mono fun e w' ⟨he, hb⟩ => ⟨_, he, answers_lit hSl hb rfl⟩
end Go.Ev
end
section
open Go Go.Proofs
namespace Go.Ev
open Go.RowKit Go.Proofs.YtokkfbkbnocnoaaGreatDoor Go.Proofs.YtokkfbkbnocnoaaGreatDoorW.PrintWords Go.Proofs.YtokkfbkbnocnoaaGreatDoorW.PrintLast Go.Proofs.YtokkfbkbnocnoaaGreatDoorW.PrintMore
set_option linter.unusedVariables false
set_option linter.unusedSimpArgs false
set_option maxHeartbeats 4000000
set_option maxRecDepth 100000
theorem heap_top (w : World) (a : Go.Obj) : (w.alloc a).heap[w.heap.size]? = some a := (MapKept.heap_alloc w a).1
theorem heap_mid (w : World) (a b c : Go.Obj) : (((w.alloc a).alloc b).alloc c).heap[w.heap.size + 1]? = some b := by
  rw [Below.heap_alloc _ _ _ (by simp only [size_alloc]; omega)]
  have := heap_top (w.alloc a) b
  rwa [size_alloc] at this
theorem heap_three (w : World) (a b c : Go.Obj) : (((w.alloc a).alloc b).alloc c).heap[w.heap.size + 1 + 1]? = some c := by
  have := heap_top ((w.alloc a).alloc b) c
  rwa [size_alloc, size_alloc] at this
theorem cells_set {w : World} {g t : Nat} {cs : Array Value} (h : w.heap[g]? = some (.cells cs t (0, 0))) (j : Nat) (v : Value) : (w.setCell ⟨g, j, none⟩ v).heap[g]? = some (.cells (cs.setIfInBounds j v) t (0, 0)) := by
  simp [World.setCell, Array.getElem?_modify, h]
theorem so (w : World) (a : Addr) (v : Value) : (w.setCell a v).os = w.os := by simp only [World.setCell]
theorem st (w : World) (a : Addr) (v : Value) : (w.setCell a v).tape = w.tape := by simp only [World.setCell]
theorem su (w : World) (a : Addr) (v : Value) : (w.setCell a v).output = w.output := by simp only [World.setCell]
theorem sz (w : World) (a : Addr) (v : Value) : (w.setCell a v).heap.size = w.heap.size := by simp only [World.setCell, Array.size_modify]
def set9 (w : World) (g : Nat) (b0 b1 b2 b3 b4 b5 b6 b7 b8 : Value) : World := (((((((((w.setCell ⟨g, 0, none⟩ b0).setCell ⟨g, 1, none⟩ b1).setCell ⟨g, 2, none⟩ b2).setCell ⟨g, 3, none⟩ b3).setCell ⟨g, 4, none⟩ b4).setCell ⟨g, 5, none⟩ b5).setCell ⟨g, 6, none⟩ b6).setCell ⟨g, 7, none⟩ b7).setCell ⟨g, 8, none⟩ b8)
theorem set9_at {w : World} {g t : Nat} {a0 a1 a2 a3 a4 a5 a6 a7 a8 b0 b1 b2 b3 b4 b5 b6 b7 b8 : Value} (h : w.heap[g]? = some (.cells #[a0, a1, a2, a3, a4, a5, a6, a7, a8] t (0, 0))) : (set9 w g b0 b1 b2 b3 b4 b5 b6 b7 b8).heap[g]? = some (.cells #[b0, b1, b2, b3, b4, b5, b6, b7, b8] t (0, 0)) := by
  have h0 := cells_set h 0 b0
  have h1 := cells_set h0 1 b1
  have h2 := cells_set h1 2 b2
  have h3 := cells_set h2 3 b3
  have h4 := cells_set h3 4 b4
  have h5 := cells_set h4 5 b5
  have h6 := cells_set h5 6 b6
  have h7 := cells_set h6 7 b7
  have h8 := cells_set h7 8 b8
  simp only [List.setIfInBounds_toArray, List.set_cons_zero, List.set_cons_succ] at h8
  exact h8
theorem set9_ne {w : World} {g : Nat} {b0 b1 b2 b3 b4 b5 b6 b7 b8 : Value} (k : Nat) (hk : k ≠ g) : (set9 w g b0 b1 b2 b3 b4 b5 b6 b7 b8).heap[k]? = w.heap[k]? := by
  exact (Below.heap_setCell _ ⟨g, 8, none⟩ _ k hk).trans ((Below.heap_setCell _ ⟨g, 7, none⟩ _ k hk).trans ((Below.heap_setCell _ ⟨g, 6, none⟩ _ k hk).trans ((Below.heap_setCell _ ⟨g, 5, none⟩ _ k hk).trans ((Below.heap_setCell _ ⟨g, 4, none⟩ _ k hk).trans ((Below.heap_setCell _ ⟨g, 3, none⟩ _ k hk).trans ((Below.heap_setCell _ ⟨g, 2, none⟩ _ k hk).trans ((Below.heap_setCell _ ⟨g, 1, none⟩ _ k hk).trans ((Below.heap_setCell _ ⟨g, 0, none⟩ _ k hk)))))))))
theorem set9_size {w : World} {g : Nat} {b0 b1 b2 b3 b4 b5 b6 b7 b8 : Value} : (set9 w g b0 b1 b2 b3 b4 b5 b6 b7 b8).heap.size = w.heap.size := by
  exact (sz _ _ _).trans ((sz _ _ _).trans ((sz _ _ _).trans ((sz _ _ _).trans ((sz _ _ _).trans ((sz _ _ _).trans ((sz _ _ _).trans ((sz _ _ _).trans (sz _ _ _))))))))
theorem set9_all (w : World) (g : Nat) (b0 b1 b2 b3 b4 b5 b6 b7 b8 : Value) : (set9 w g b0 b1 b2 b3 b4 b5 b6 b7 b8).os = w.os ∧ (set9 w g b0 b1 b2 b3 b4 b5 b6 b7 b8).tape = w.tape ∧ (set9 w g b0 b1 b2 b3 b4 b5 b6 b7 b8).output = w.output ∧ (set9 w g b0 b1 b2 b3 b4 b5 b6 b7 b8).heap.size = w.heap.size ∧ ∀ k, k ≠ g → (set9 w g b0 b1 b2 b3 b4 b5 b6 b7 b8).heap[k]? = w.heap[k]? :=
  ⟨(so _ _ _).trans ((so _ _ _).trans ((so _ _ _).trans ((so _ _ _).trans ((so _ _ _).trans ((so _ _ _).trans ((so _ _ _).trans ((so _ _ _).trans (so _ _ _)))))))), (st _ _ _).trans ((st _ _ _).trans ((st _ _ _).trans ((st _ _ _).trans ((st _ _ _).trans ((st _ _ _).trans ((st _ _ _).trans ((st _ _ _).trans (st _ _ _)))))))), (su _ _ _).trans ((su _ _ _).trans ((su _ _ _).trans ((su _ _ _).trans ((su _ _ _).trans ((su _ _ _).trans ((su _ _ _).trans ((su _ _ _).trans (su _ _ _)))))))), set9_size, fun k hk => set9_ne k hk⟩
theorem res16 (tmps : Array Value) (g : Nat) (w : World) (cs : Array Value) (h4 : tmps.getD 4 undef = .pointer (some ⟨g, 0, none⟩)) (hg : w.heap[g]? = some (.cells cs 28 (0, 0))) (hs : cs.size = 9) : (results Tryz.f16 tmps).run Tryz.prog w = .ok (.agg cs) w :=
  results_cell_row rfl tmps w g 28 cs (0, 0) _ h4 hg Tryz.underlying28 rfl (by rw [hs]; kernel_rfl)
theorem rename_walk {s : Fam} (hS : ∀ f, SpecOK Tryz.prog EE (sp s) f) {p : TProgram} {l : List TPair} {r : b_tree_mapper_program} (hr : s.f_tree_mapper_program ((Thing.ren l, ()), p, ()) = some r) {Sl : Nat → Nat → Prop} {w : World} {sv : Value} {s0 : ByteArray} {A1 A2 A3 A4 A5 A6 A7 A8 : Option Addr} {n1 n2 n3 n4 n5 n6 n7 n8 c1 c2 c3 c4 c5 c6 c7 c8 : Nat}
    (hSl : ∀ g o, Sl g o → g < w.heap.size) (hiv : EE.inv w) (hp : ProgR Sl w (.agg #[.string s0, .slice A1 n1 c1, .slice A2 n2 c2, .slice A3 n3 c3, .slice A4 n4 c4, .slice A5 n5 c5, .slice A6 n6 c6, .slice A7 n7 c7, .slice A8 n8 c8]) p) (hd : DRep EE0 Sl w sv (.sl 39 l)) (A : Option Addr) (n c : Nat) (hsv : sv = .slice A n c) :
    Calls Tryz.prog 16 #[.agg #[.string s0, .slice A1 n1 c1, .slice A2 n2 c2, .slice A3 n3 c3, .slice A4 n4 c4, .slice A5 n5 c5, .slice A6 n6 c6, .slice A7 n7 c7, .slice A8 n8 c8], sv] w fun e w' => ∃ u', e = .returned u' ∧ Answers EE Sl w [] [] (rc_tree_Rename.enc r.1) u' w' := by
  subst hsv
  have HP := Lib.hid hp
  have HD := Lib.hid hd
  have HR := Lib.hid hr
  have HS := Lib.hid hS
  have HSL := Lib.hid hSl
  have HI := Lib.hid hiv
  clear hp hd hr hS hSl hiv
  go_enter Tryz.func16, Tryz.ntmps16
  go_wp2_with (first | (go_at_call 39; go_must (refine (prog_calls HS.out HR.out HSL.out (below_alloc (below_alloc (below_alloc (Below.refl _ _) _) _) _) HI.out HP.out (fp := [w.heap.size + 1]) ?hf rfl ?hk (by simp)).mono ?_; (case hf => exact ⟨w.heap.size + 1, .slice A n c, rfl, rfl, heap_mid _ _ _ _, HD.out.move (fun _ _ h => h) (fun g o u hs hu => (cell_same ((below_alloc (below_alloc (below_alloc (Below.refl _ w) _) _) _).block g (HSL.out g o hs))).trans hu)⟩); (case hk => intro k hk; simp only [List.mem_singleton] at hk; subst hk; simp only [size_alloc]; omega)); go_must (rintro e w5 ⟨u', rfl, H5⟩; have H := Lib.hid H5; obtain ⟨⟨Sl5, p2, _, _, _, hq, _⟩, _, hsame⟩ := H5; obtain ⟨t0, D1, m1, e1, D2, m2, e2, D3, m3, e3, D4, m4, e4, D5, m5, e5, D6, m6, e6, D7, m7, e7, D8, m8, e8, rfl⟩ := hq.nine; have hb := hsame (w.heap.size + 1 + 1) (by simp only [size_alloc]; omega) (by simp); rw [heap_three] at hb; have f0 := Lib.frozen_of_heap hb 0; have c0 : w5.cell? ⟨w.heap.size + 1 + 1, 0, none⟩ = some (.string ⟨#[]⟩) := by { simp [World.cell?, hb] }; have f1 := Lib.frozen_of_heap hb 1; have c1 : w5.cell? ⟨w.heap.size + 1 + 1, 1, none⟩ = some (.slice none 0 0) := by { simp [World.cell?, hb] }; have f2 := Lib.frozen_of_heap hb 2; have c2 : w5.cell? ⟨w.heap.size + 1 + 1, 2, none⟩ = some (.slice none 0 0) := by { simp [World.cell?, hb] }; have f3 := Lib.frozen_of_heap hb 3; have c3 : w5.cell? ⟨w.heap.size + 1 + 1, 3, none⟩ = some (.slice none 0 0) := by { simp [World.cell?, hb] }; have f4 := Lib.frozen_of_heap hb 4; have c4 : w5.cell? ⟨w.heap.size + 1 + 1, 4, none⟩ = some (.slice none 0 0) := by { simp [World.cell?, hb] }; have f5 := Lib.frozen_of_heap hb 5; have c5 : w5.cell? ⟨w.heap.size + 1 + 1, 5, none⟩ = some (.slice none 0 0) := by { simp [World.cell?, hb] }; have f6 := Lib.frozen_of_heap hb 6; have c6 : w5.cell? ⟨w.heap.size + 1 + 1, 6, none⟩ = some (.slice none 0 0) := by { simp [World.cell?, hb] }; have f7 := Lib.frozen_of_heap hb 7; have c7 : w5.cell? ⟨w.heap.size + 1 + 1, 7, none⟩ = some (.slice none 0 0) := by { simp [World.cell?, hb] }; have f8 := Lib.frozen_of_heap hb 8; have c8 : w5.cell? ⟨w.heap.size + 1 + 1, 8, none⟩ = some (.slice none 0 0) := by { simp [World.cell?, hb] }; have HB := Lib.hid hb; clear hb hq hsame)))
  go_wp2
  have hset := set9_at (b0 := .string t0) (b1 := .slice D1 m1 e1) (b2 := .slice D2 m2 e2) (b3 := .slice D3 m3 e3) (b4 := .slice D4 m4 e4) (b5 := .slice D5 m5 e5) (b6 := .slice D6 m6 e6) (b7 := .slice D7 m7 e7) (b8 := .slice D8 m8 e8) HB.out
  change bodyPost _ _ _ _ _ (set9 w5 (w.heap.size + 1 + 1) (.string t0) (.slice D1 m1 e1) (.slice D2 m2 e2) (.slice D3 m3 e3) (.slice D4 m4 e4) (.slice D5 m5 e5) (.slice D6 m6 e6) (.slice D7 m7 e7) (.slice D8 m8 e8))
  obtain ⟨k1, k2, k3, k4, k5⟩ := set9_all w5 (w.heap.size + 1 + 1) (.string t0) (.slice D1 m1 e1) (.slice D2 m2 e2) (.slice D3 m3 e3) (.slice D4 m4 e4) (.slice D5 m5 e5) (.slice D6 m6 e6) (.slice D7 m7 e7) (.slice D8 m8 e8)
  generalize set9 w5 (w.heap.size + 1 + 1) (.string t0) (.slice D1 m1 e1) (.slice D2 m2 e2) (.slice D3 m3 e3) (.slice D4 m4 e4) (.slice D5 m5 e5) (.slice D6 m6 e6) (.slice D7 m7 e7) (.slice D8 m8 e8) = w9 at hset k1 k2 k3 k4 k5 ⊢
  refine bodyPost_ret (res16 _ (w.heap.size + 1 + 1) w9 _ rfl hset rfl) rfl ?_
  obtain ⟨⟨Sl5, p2, hkeep, hext, hnew, hq, hf5, hnd5, hk5⟩, hsize, hsame⟩ := H.out
  have hne : ∀ g o, Sl5 g o → g ≠ w.heap.size + 1 + 1 := fun g o hg e => by
    rcases hnew g o hg with h | h | h
    · have := HSL.out g o h; omega
    · simp only [size_alloc] at h; omega
    · simp at h; omega
  have hq' := hq.move (w' := w9) (fun _ _ h => h) fun g o u hs hu => (cell_same (k5 g (hne g o hs))).trans hu
  refine ⟨_, rfl, Sl5, [], [], [], [], ?_, ?_, ?_, .nil, List.nodup_nil, fun k hk => by cases hk⟩
  · exact ⟨k1.trans hkeep.os, k2.trans hkeep.tape, k3.trans hkeep.output, Nat.le_trans hkeep.size (Nat.le_of_eq k4.symm), fun i hi _ => (k5 i (by omega)).trans (hkeep.block i hi (fun h => h))⟩
  · exact ⟨hext.s, fun g o hg => (hext.n g o hg).imp id fun hx => ⟨hx.1, Nat.lt_of_lt_of_le hx.2 (Nat.le_of_eq k4.symm)⟩, fun g o u hs hu => (cell_same (k5 g (by have := HSL.out g o hs; omega))).trans (hext.c g o u hs hu)⟩
  · obtain ⟨us, he, hps⟩ := hq'
    injection he with he
    subst he
    exact .agg _ _ [] [] hps
theorem ok_tree_Rename (s : Fam) (k : Nat) (hS : ∀ f, SpecOK Tryz.prog EE (sp s) f) : SpecA Tryz.prog EE 16 (ansOf c_tree_Rename rc_tree_Rename.enc fun x => B_tree_Rename s k x.1 x.2.1) := by
  refine specA_by _ _ _ fun x y hy Sl w us fp rs hSl hargs hnd hlt hiv => ?_
  obtain ⟨p, l, _⟩ := x
  obtain ⟨r, hr, rfl⟩ := Option.map_eq_some_iff.1 hy
  obtain ⟨v, vs, fp1, fp2, rs1, rs2, rfl, rfl, rfl, h1, h2⟩ := areps_cons hargs
  obtain ⟨hp, rfl, rfl⟩ := arep_prog h1
  obtain ⟨sv, vs', rfl, hd, h3⟩ := areps_d h2
  obtain ⟨rfl, rfl, rfl⟩ := areps_nil h3
  obtain ⟨A, n, c, hsv⟩ := drep_slice hd
  refine ⟨16, #[_, _], .inl ⟨by decide, rfl, rfl⟩, ⟨Tryz.f16, Tryz.func16, by kernel_rfl, by kernel_rfl⟩, ?_⟩
  obtain ⟨s0, A1, n1, c1, A2, n2, c2, A3, n3, c3, A4, n4, c4, A5, n5, c5, A6, n6, c6, A7, n7, c7, A8, n8, c8, rfl⟩ := hp.nine
  exact rename_walk hS hr hSl hiv hp (drep_env' hd) A n c hsv
end Go.Ev
end
section
open Go Go.Proofs
namespace Go.Ev
open Go.RowKit Go.Proofs.YtokkfbkbnocnoaaGreatDoor Go.Proofs.YtokkfbkbnocnoaaGreatDoorW.PrintWords Go.Proofs.YtokkfbkbnocnoaaGreatDoorW.PrintLast Go.Proofs.YtokkfbkbnocnoaaGreatDoorW.PrintMore
set_option linter.unusedVariables false
set_option linter.unusedSimpArgs false
set_option maxHeartbeats 4000000
set_option maxRecDepth 100000
theorem make_run73 (w : World) : (Instr.makeMap 73 none).run Tryz.prog w = .ok (.map (some w.heap.size)) (w.alloc (.map #[] 0)) := by
  simp [Instr.makeMap, run_underlying Tryz.underlying73]
  try rfl
theorem apart_nil (A : Option Addr) (c : Nat) (w : World) : Calls Tryz.prog 79 #[.slice A 0 c] w fun e w' => e = .returned (.bool true) ∧ Below w.heap.size w w' := by
  have hmk := make_run73 w
  have HB := Lib.hid (below_alloc (Below.refl w.heap.size w) (.map #[] 0))
  go_enter Tryz.func79, Tryz.ntmps79
  go_wp2
  go_loopw [9] (fun i wr => i = .int .i64 0 ∧ Below w.heap.size w wr) (fun _ _ => 0)
  case atStart => exact ⟨rfl, HB.out⟩
  case round =>
    obtain ⟨rfl, hb⟩ := hrel
    have HBB := Lib.hid hb
    clear hb
    go_wp2
    go_ret
    exact ⟨rfl, HBB.out⟩
theorem heap4_1 (w : World) (a b c d : Go.Obj) : ((((w.alloc a).alloc b).alloc c).alloc d).heap[w.heap.size + 1]? = some b := by
  rw [Below.heap_alloc _ _ _ (by simp only [size_alloc]; omega)]
  exact heap_mid w a b c
theorem heap4_2 (w : World) (a b c d : Go.Obj) : ((((w.alloc a).alloc b).alloc c).alloc d).heap[w.heap.size + 1 + 1]? = some c := by
  rw [Below.heap_alloc _ _ _ (by simp only [size_alloc]; omega)]
  exact heap_three w a b c
theorem heap4_3 (w : World) (a b c d : Go.Obj) : ((((w.alloc a).alloc b).alloc c).alloc d).heap[w.heap.size + 1 + 1 + 1]? = some d := by
  have := heap_top (((w.alloc a).alloc b).alloc c) d
  rwa [size_alloc, size_alloc, size_alloc] at this
theorem map_made (w : World) (a b d : Go.Obj) : MapAt ((((w.alloc a).alloc b).alloc (.map #[] 0)).alloc d) (w.heap.size + 1 + 1) 0 (fun y => ([] : List ByteArray).any fun z => z.toList == y.toList) := by
  refine MapAt.same (w := ((w.alloc a).alloc b).alloc (.map #[] 0)) ?_ (Below.heap_alloc _ _ _ (by simp only [size_alloc]; omega))
  have := World.ownsMap_made (H := Unit) ((w.alloc a).alloc b) Tryz.prog 9 (plainElem Tryz.prog 4)
  rw [size_alloc, size_alloc] at this
  exact ⟨_, this, fun s _ => rfl⟩
theorem names_row {Sl : Nat → Nat → Prop} {w : World} {gs go : Nat} {l : List ByteArray} {fp : List Nat} (h : EE.frep (Thing.names l) Sl w (.func (.func 38) #[] #[.pointer (some ⟨gs, 0, none⟩), .pointer (some ⟨go, 0, none⟩)]) fp) :
    ∃ sv, w.heap[go]? = some (.cells #[sv] 22 (0, 0)) ∧ w.ownsRow 0 9 1 sv l.length (l.map Value.string) ∧ ∀ k, sv.ownBlock = some k → k ∈ fp := by
  obtain ⟨gs', gm, go', sv, n, hv, rfl, _, _, _, h3, h4⟩ := h
  simp at hv
  obtain ⟨rfl, rfl⟩ := hv
  exact ⟨sv, h3, h4, fun k hk => by simp [hk]⟩
theorem names_walk {s : Fam} (hS : ∀ f, SpecOK Tryz.prog EE (sp s) f) {p : TProgram} {l : List ByteArray} {r : b_tree_mapper_program} (hr : s.f_tree_mapper_program ((Thing.names [], ()), p, ()) = some r) (hrl : r.2.1 = .names l) {Sl : Nat → Nat → Prop} {w : World} {s0 : ByteArray} {A1 A2 A3 A4 A5 A6 A7 A8 : Option Addr} {n1 n2 n3 n4 n5 n6 n7 n8 c1 c2 c3 c4 c5 c6 c7 c8 : Nat}
    (hSl : ∀ g o, Sl g o → g < w.heap.size) (hiv : EE.inv w) (hp : ProgR Sl w (.agg #[.string s0, .slice A1 n1 c1, .slice A2 n2 c2, .slice A3 n3 c3, .slice A4 n4 c4, .slice A5 n5 c5, .slice A6 n6 c6, .slice A7 n7 c7, .slice A8 n8 c8]) p) :
    Calls Tryz.prog 13 #[.agg #[.string s0, .slice A1 n1 c1, .slice A2 n2 c2, .slice A3 n3 c3, .slice A4 n4 c4, .slice A5 n5 c5, .slice A6 n6 c6, .slice A7 n7 c7, .slice A8 n8 c8]] w fun e w' => ∃ u', e = .returned u' ∧ Answers EE Sl w [] [] (rc_tree_Names.enc l) u' w' := by
  have HP := Lib.hid hp
  have HR := Lib.hid hr
  have HS := Lib.hid hS
  have HSL := Lib.hid hSl
  have HI := Lib.hid hiv
  have hmk := make_run73
  clear hp hr hS hSl hiv
  go_enter Tryz.func13, Tryz.ntmps13
  go_wp2_with (first | (go_at_call 39; go_must (refine (prog_calls HS.out HR.out HSL.out (below_alloc (below_alloc (below_alloc (below_alloc (Below.refl _ _) _) _) _) _) HI.out HP.out (fp := [w.heap.size + 1 + 1 + 1, w.heap.size + 1 + 1, w.heap.size + 1]) ?hf rfl ?hk (by simp; omega)).mono ?_; (case hf => exact ⟨w.heap.size + 1 + 1 + 1, w.heap.size + 1 + 1, w.heap.size + 1, .slice none 0 0, 0, rfl, rfl, Nat.zero_le _, heap4_3 _ _ _ _ _, (map_made w _ _ _).same rfl, heap4_1 _ _ _ _ _, rfl, .inl ⟨rfl, rfl⟩⟩); (case hk => intro k hk; simp only [List.mem_cons, List.not_mem_nil, or_false] at hk; simp only [size_alloc]; omega)); go_must (rintro e w5 ⟨u', rfl, H5⟩; have H := Lib.hid H5; obtain ⟨⟨Sl5, p2, _, _, _, _, hf5, _⟩, _, _⟩ := H5; rw [hrl] at hf5; obtain ⟨sv, hgo, hown, _⟩ := names_row hf5; obtain ⟨A9, c9, rfl⟩ := owns_slice hown; have hc9 : w5.cell? ⟨w.heap.size + 1, 0, none⟩ = some (.slice A9 l.length c9) := by { simp [World.cell?, hgo] }; clear hf5 hgo hown)))
  go_ret
  obtain ⟨⟨Sl5, p2, hkeep, hext, hnew, hq, hf5, hnd5, hk5⟩, _, _⟩ := H.out
  rw [hrl] at hf5
  obtain ⟨sv, hgo, hown, hin⟩ := names_row hf5
  obtain rfl : sv = .slice A9 l.length c9 := by
    simp only [World.cell?, hgo] at hc9
    simpa using hc9
  refine ⟨_, rfl, fun g j => Sl5 g j ∨ ((Value.slice A9 l.length c9).ownBlock = some g ∧ j < l.length), [], [], [], [], keepX_mono hkeep (fun _ h => h.elim), ⟨fun g o h => .inl (hext.s g o h), fun g o h => ?_, hext.c⟩, .c _ _ _ _ (.d _ _ ?_), .nil, List.nodup_nil, fun k hk => by cases hk⟩
  · rcases h with h | ⟨h, _⟩
    · exact hext.n g o h
    · have := hk5 g (hin g h)
      exact .inr ⟨.inl this.1, this.2.1⟩
  · refine own_sl hEE (ti := { size := 1, bytes := 16, zero := [.string ⟨#[]⟩], td := .string }) (by kernel_rfl) hown (fun i r j y hi hj => ?_) (fun k hk j => ?_)
    · have hj' : ([DV.lit (.string r)] : List (DV II))[j]? = some y := hj
      cases j with
      | zero =>
        simp at hj'
        subst hj'
        exact ⟨.string r, by simp [hi], .lit _ rfl⟩
      | succ j => simp at hj'
    · constructor
      · rintro (h | ⟨_, h⟩)
        · exact absurd h ((hk5 k (hin k hk)).2.2 j)
        · simpa using h
      · intro h
        exact .inr ⟨hk, by simpa using h⟩
theorem ok_tree_Names (s : Fam) (k : Nat) (hS : ∀ f, SpecOK Tryz.prog EE (sp s) f) : SpecA Tryz.prog EE 13 (ansOf c_tree_Names rc_tree_Names.enc fun x => B_tree_Names s k x.1) := by
  refine specA_by _ _ _ fun x y hy Sl w us fp rs hSl hargs hnd hlt hiv => ?_
  obtain ⟨p, _⟩ := x
  obtain ⟨r, hr, hy⟩ := Option.bind_eq_some_iff.1 hy
  obtain ⟨v, vs, fp1, fp2, rs1, rs2, rfl, rfl, rfl, h1, h2⟩ := areps_cons hargs
  obtain ⟨hp, rfl, rfl⟩ := arep_prog h1
  obtain ⟨rfl, rfl, rfl⟩ := areps_nil h2
  refine ⟨13, #[_], .inl ⟨by decide, rfl, rfl⟩, ⟨Tryz.f13, Tryz.func13, by kernel_rfl, by kernel_rfl⟩, ?_⟩
  obtain ⟨s0, A1, n1, c1, A2, n2, c2, A3, n3, c3, A4, n4, c4, A5, n5, c5, A6, n6, c6, A7, n7, c7, A8, n8, c8, rfl⟩ := hp.nine
  cases hrl : r.2.1 with
  | ren => rw [hrl] at hy; cases hy
  | names l =>
    rw [hrl] at hy
    injection hy with hy
    subst hy
    exact names_walk hS hr hrl hSl hiv hp
end Go.Ev
end
section
open Go Go.Proofs
namespace Go.Ev
open Go.RowKit Go.Proofs.YtokkfbkbnocnoaaGreatDoor Go.Proofs.YtokkfbkbnocnoaaGreatDoorW.PrintWords Go.Proofs.YtokkfbkbnocnoaaGreatDoorW.PrintLast Go.Proofs.YtokkfbkbnocnoaaGreatDoorW.PrintMore
set_option linter.unusedVariables false
set_option linter.unusedSimpArgs false
set_option maxHeartbeats 4000000
set_option maxRecDepth 100000
def apartB : List ByteArray → List ByteArray → Bool
  | _, [] => true
  | pre, x :: r => if (pre.any fun z => z.toList == x.toList) = true then false else apartB (pre ++ [x]) r
theorem apart_walk (g o c : Nat) (l : List ByteArray) (hm : l.length ≤ maxLen) (hs : ∀ x ∈ l, x.size ≤ maxLen) (w : World)
    (hrow : ∀ i (h : i < l.length), ∃ a0 n0 c0 a1 n1 c1 a4 n4 c4 a5 n5 c5 a6 n6 c6 a7 n7 c7 a8 n8 c8 r3, w.cell? ⟨g, o + i * 9, none⟩ = some (.slice a0 n0 c0) ∧ w.cell? ⟨g, o + i * 9 + 1, none⟩ = some (.slice a1 n1 c1) ∧ w.cell? ⟨g, o + i * 9 + 2, none⟩ = some (.string l[i]) ∧ w.cell? ⟨g, o + i * 9 + 3, none⟩ = some (.int .i64 r3) ∧ w.cell? ⟨g, o + i * 9 + 4, none⟩ = some (.slice a4 n4 c4) ∧ w.cell? ⟨g, o + i * 9 + 5, none⟩ = some (.slice a5 n5 c5) ∧ w.cell? ⟨g, o + i * 9 + 6, none⟩ = some (.slice a6 n6 c6) ∧ w.cell? ⟨g, o + i * 9 + 7, none⟩ = some (.slice a7 n7 c7) ∧ w.cell? ⟨g, o + i * 9 + 8, none⟩ = some (.slice a8 n8 c8)) :
    Calls Tryz.prog 79 #[.slice (some ⟨g, o, none⟩) l.length c] w fun e w' => e = .returned (.bool (apartB [] l)) ∧ Below w.heap.size w w' := by
  have hmk := make_run73 w
  have HB := Lib.hid (below_alloc (Below.refl w.heap.size w) (.map #[] 0))
  have HR := Lib.hid hrow
  clear hrow
  go_enter Tryz.func79, Tryz.ntmps79
  go_wp2
  go_loopw [9] (fun iv wr => ∃ i : Nat, iv = .int .i64 (i : Int) ∧ i ≤ l.length ∧ Below w.heap.size w wr ∧ (∃ n, n ≤ i ∧ MapAt wr w.heap.size n (fun y => (l.take i).any fun z => z.toList == y.toList)) ∧ apartB [] l = apartB (l.take i) (l.drop i)) (fun iv _ => match iv with | .int _ i => l.length - i.toNat | _ => 0)
  case atStart =>
    refine ⟨0, rfl, Nat.zero_le _, HB.out, ⟨0, Nat.le_refl _, ?_⟩, rfl⟩
    have := World.ownsMap_made (H := Unit) w Tryz.prog 9 (plainElem Tryz.prog 4)
    exact ⟨_, this, fun s _ => rfl⟩
  case round =>
    obtain ⟨i, rfl, hi, hb, ⟨n, hn, hM⟩, hA⟩ := hrel
    have HBB := Lib.hid hb
    have HM := Lib.hid hM
    have HA := Lib.hid hA
    clear hb hM hA
    rcases Nat.lt_or_ge i l.length with h | h
    · obtain ⟨a0, n0, c0, a1, n1, c1, a4, n4, c4, a5, n5, c5, a6, n6, c6, a7, n7, c7, a8, n8, c8, r3, e0, e1, e2, e3, e4, e5, e6, e7, e8⟩ := HR.out i h
      have up : ∀ {j : Nat} {v : Value}, w.cell? ⟨g, j, none⟩ = some v → wr.cell? ⟨g, j, none⟩ = some v := fun {j v} hv => by
        have hlt := cell_lt hv
        simp only [World.cell?, HBB.out.block g hlt]
        exact hv
      have f0 := up e0
      have f1 := up e1
      have f2 := up e2
      have f3 := up e3
      have f4 := up e4
      have f5 := up e5
      have f6 := up e6
      have f7 := up e7
      have f8 := up e8
      clear e0 e1 e2 e3 e4 e5 e6 e7 e8 up
      have hMa : ∀ ob : Go.Obj, MapAt (wr.alloc ob) w.heap.size n (fun y => (l.take i).any fun z => z.toList == y.toList) := fun ob => HM.out.same (Below.heap_alloc _ _ _ (by obtain ⟨D, ⟨es, clock, h1, _⟩, _⟩ := HM.out; exact some_lt h1))
      have hsz := hs l[i] (List.getElem_mem h)
      have hlk : ∀ ob : Go.Obj, (Instr.lookup 73 (.map (some w.heap.size)) (.string l[i]) false).run Tryz.prog (wr.alloc ob) = .ok (.bool ((l.take i).any fun z => z.toList == l[i].toList)) (wr.alloc ob) := fun ob => map_lookup (hMa ob) l[i] hsz
      have hput := fun ob => map_put (hMa ob) (by simp only [maxLen] at hm ⊢; omega) l[i] hsz
      have HMA := Lib.hid hMa
      clear hMa
      cases hany : (l.take i).any fun z => z.toList == l[i].toList with
      | true =>
        rw [hany] at hlk
        clear hput
        go_wp2
        go_ret
        refine ⟨?_, below_alloc HBB.out _⟩
        rw [HA.out, List.drop_eq_getElem_cons h, apartB, if_pos hany]
        rfl
      | false => 
        rw [hany] at hlk
        obtain ⟨w5, hp5, hM5, hg5⟩ := hput (.cells #[(.slice a0 n0 c0), (.slice a1 n1 c1), (.string l[i]), (.int .i64 r3), (.slice a4 n4 c4), (.slice a5 n5 c5), (.slice a6 n6 c6), (.slice a7 n7 c7), (.slice a8 n8 c8)] 103 (0, 0))
        clear hput
        have hw1 : wrap64 ((i : Int) + 1) = ((i + 1 : Nat) : Int) := by
          have := Go.IntWalk.wrap64_in ((i : Int) + 1) (by simp only [maxLen] at hm; omega)
          simpa using this
        go_wp2
        refine ⟨⟨i + 1, by rw [hw1], by omega, ?_, ⟨n + 1, by omega, ?_⟩, ?_⟩, ?_⟩
        · exact (below_alloc HBB.out _).trans ((Below.refl _ _).grown hg5 (by have := HBB.out.size; simp only [World.size_alloc]; omega) (fun k e => by cases e; exact Nat.le_refl _))
        · have heq : (fun y : ByteArray => decide (y = l[i]) || (l.take i).any fun z => z.toList == y.toList) = fun y => (l.take (i + 1)).any fun z => z.toList == y.toList := ?_
          · rw [← heq]; exact hM5
          funext y
          rw [List.take_succ_eq_append_getElem h, List.any_append]
          simp only [List.any_cons, List.any_nil, Bool.or_false, ba_beq]
          rw [Bool.or_comm]
          congr 1
          exact decide_eq_decide.2 eq_comm
        · rw [HA.out, List.drop_eq_getElem_cons h, apartB, if_neg (by rw [hany]; simp), List.take_succ_eq_append_getElem h]
        · rw [hw1]
          simp only [Int.toNat_natCast]
          omega
    · have hi' : i = l.length := by omega
      subst hi'
      go_wp2
      go_ret
      refine ⟨?_, HBB.out⟩
      rw [HA.out, List.drop_eq_nil_of_le (Nat.le_refl _)]
      rfl
end Go.Ev
end
section
open Go Go.Proofs
namespace Go.Ev
open Go.RowKit Go.Proofs.YtokkfbkbnocnoaaGreatDoor Go.Proofs.YtokkfbkbnocnoaaGreatDoorW.PrintWords Go.Proofs.YtokkfbkbnocnoaaGreatDoorW.PrintLast Go.Proofs.YtokkfbkbnocnoaaGreatDoorW.PrintMore
set_option linter.unusedVariables false
set_option linter.unusedSimpArgs false
set_option maxHeartbeats 4000000
set_option maxRecDepth 100000
theorem ok_apartB : SpecA Tryz.prog EE 79 (ansOf c_tree_apart rc_tree_apart.enc fun x => if x.1.all (fun r => decide (r.Name.size ≤ maxLen)) = true then some (apartB [] (x.1.map (·.Name))) else none) := by
  refine specA_by _ _ _ fun x y hy Sl w us fp rs hSl hargs hnd hlt hiv => ?_
  obtain ⟨l, _⟩ := x
  simp only at hy
  split at hy
  · rename_i hall
    injection hy with hy
    subst hy
    obtain ⟨v, vs, rfl, h1, h2⟩ := areps_d hargs
    obtain ⟨rfl, rfl, rfl⟩ := areps_nil h2
    refine ⟨79, #[_], .inl ⟨by decide, rfl, rfl⟩, ⟨Tryz.f79, Tryz.func79, by kernel_rfl, by kernel_rfl⟩, ?_⟩
    cases h1 with
    | sl _ _ A n c g o vals hn hcap hm hA hc hr =>
      have hn : l.length = n := hn
      subst hn
      rcases Nat.eq_zero_or_pos l.length with hz | hpos
      · obtain rfl := List.eq_nil_of_length_eq_zero hz
        exact (apart_nil A c w).mono fun e w' ⟨he, hb⟩ => ⟨_, he, answers_lit hSl hb rfl⟩
      · rw [hA hpos]
        have hmm : (l.map (·.Name)).length ≤ maxLen := by rw [List.length_map]; exact hm
        have key := apart_walk g o c (l.map (·.Name)) hmm (fun x hx => ?_) w fun i hi => ?_
        · rw [List.length_map] at key
          exact key.mono fun e w' ⟨he, hb⟩ => ⟨_, he, answers_lit hSl hb rfl⟩
        · obtain ⟨r, hr', rfl⟩ := List.mem_map.1 hx
          simpa using List.all_eq_true.1 hall r hr'
        · rw [List.length_map] at hi
          have hget : l[i]? = some l[i] := List.getElem?_eq_getElem hi
          have h5 : (EE.row 103 l[i]).length = 9 := rfl
          have cell : ∀ j y, (EE.row 103 l[i])[j]? = some y → ∃ u, w.cell? ⟨g, o + i * 9 + j, none⟩ = some u ∧ DRep EE Sl w u y := fun j y hj => by
            have h3 := (hc i l[i] j y hget hj).1
            have h4 := hr i l[i] j y hget hj
            rw [h5] at h3 h4
            exact ⟨_, by rw [Nat.add_assoc]; exact h3, h4⟩
          obtain ⟨u0, p0, q0⟩ := cell 0 (.sl 9 l[i].Marks_Before) rfl
          obtain ⟨u1, p1, q1⟩ := cell 1 (.sl 9 l[i].Marks_Trail) rfl
          obtain ⟨u2, p2, q2⟩ := cell 2 (.lit (.string l[i].Name)) rfl
          obtain ⟨u3, p3, q3⟩ := cell 3 (.lit (.int .i64 l[i].Result)) rfl
          obtain ⟨u4, p4, q4⟩ := cell 4 (.sl 145 l[i].Params) rfl
          obtain ⟨u5, p5, q5⟩ := cell 5 (.sl 98 l[i].Vars) rfl
          obtain ⟨u6, p6, q6⟩ := cell 6 (.sl 103 l[i].Inner) rfl
          obtain ⟨u7, p7, q7⟩ := cell 7 (.sl 107 l[i].Body) rfl
          obtain ⟨u8, p8, q8⟩ := cell 8 (.sl 9 l[i].End) rfl
          obtain ⟨a0, m0, d0, rfl⟩ := drep_slice q0
          obtain ⟨a1, m1, d1, rfl⟩ := drep_slice q1
          obtain rfl := drep_lit q2
          obtain rfl := drep_lit q3
          obtain ⟨a4, m4, d4, rfl⟩ := drep_slice q4
          obtain ⟨a5, m5, d5, rfl⟩ := drep_slice q5
          obtain ⟨a6, m6, d6, rfl⟩ := drep_slice q6
          obtain ⟨a7, m7, d7, rfl⟩ := drep_slice q7
          obtain ⟨a8, m8, d8, rfl⟩ := drep_slice q8
          simp only [List.getElem_map]
          exact ⟨_, _, _, _, _, _, _, _, _, _, _, _, _, _, _, _, _, _, _, _, _, _, p0, p1, p2, p3, p4, p5, p6, p7, p8⟩
  · cases hy
end Go.Ev
end
section
open Go Go.Proofs
namespace Go.Ev
open Go.RowKit Go.Proofs.YtokkfbkbnocnoaaGreatDoor Go.Proofs.YtokkfbkbnocnoaaGreatDoorW.PrintWords Go.Proofs.YtokkfbkbnocnoaaGreatDoorW.PrintLast Go.Proofs.YtokkfbkbnocnoaaGreatDoorW.PrintMore
set_option linter.unusedVariables false
set_option linter.unusedSimpArgs false
set_option maxHeartbeats 4000000
set_option maxRecDepth 100000
structure PIn (Sl : Nat → Nat → Prop) (w : World) (v : Value) (fp : List Nat) (th : Thing) (wr : World) (fp' : List Nat) (Slr : Nat → Nat → Prop) : Prop where
  rep : EE.frep th Slr wr v fp'
  nd : fp'.Nodup
  at_ : ∀ k ∈ fp', k < wr.heap.size ∧ (∀ j, ¬ Slr k j) ∧ (k ∈ fp ∨ w.heap.size + 2 ≤ k)
  keep : KeepX (· ∈ fp) w.heap.size w wr
  size : w.heap.size + 2 ≤ wr.heap.size
  ext : Ext Sl Slr w wr fp
  news : ∀ g o, Slr g o → Sl g o ∨ g ∈ fp ∨ w.heap.size + 2 ≤ g
def PMid (Sl : Nat → Nat → Prop) (w : World) (v : Value) (fp : List Nat) (th : Thing) (wr : World) : Prop := ∃ fp' Slr, PIn Sl w v fp th wr fp' Slr
theorem sp_by (s : Fam) : sp s 1000003 = ansOf c_by rc_by.enc s.f_by := by kernel_rfl
section
variable {s : Fam} {Sl : Nat → Nat → Prop} {w wr : World} {v : Value} {fp : List Nat} {th : Thing}
theorem by_step (hS : ∀ f, SpecOK Tryz.prog EE (sp s) f) (hSl : ∀ g o, Sl g o → g < w.heap.size) (hiv : EE.inv w) (hfp : ∀ k ∈ fp, k < w.heap.size ∧ ¬ EE.glob k) (h1 : v.oneCell' = true) {g : Nat} {cs : Array Value} (hv : v = .func (.func g) #[] cs)
    (hm : PMid Sl w v fp th wr) {p : ByteArray} {t : b_by} (ht : s.f_by (th, p, ()) = some t) {args : Array Value} (ha : args.toList = .string p :: cs.toList) :
    Calls Tryz.prog g args wr fun e w' => e = .returned (.string t.1) ∧ PMid Sl w v fp t.2.1 w' ∧ w'.heap[w.heap.size]? = wr.heap[w.heap.size]? ∧ w'.heap[w.heap.size + 1]? = wr.heap[w.heap.size + 1]? := by
  obtain ⟨fp', Slr, hp⟩ := hm
  have hlt : ∀ g o, Slr g o → g < wr.heap.size := fun g o h => by
    rcases hp.ext.n g o h with h | ⟨_, h⟩
    · exact Nat.lt_of_lt_of_le (hSl g o h) hp.keep.size
    · exact h
  have hinv : EE.inv wr := EE.invKeep w wr hiv fun k hk => hp.keep.block k (EE.invLt w k hiv hk) fun hm => (hfp k hm).2 hk
  have hpp : PReps EE Slr wr (· ∈ fp') wr.heap.size [v] [.fd th] fp' [v] := by
    have := PReps.cons (E := EE) (Sl := Slr) (w := wr) (X0 := (· ∈ fp')) (B0 := wr.heap.size) v [] (.fd th) [] fp' [] [v] [] (.fd _ _ _ hp.rep h1 fun k hk => ⟨(hp.at_ k hk).1, (hp.at_ k hk).2.1⟩) .nil
    simpa using this
  have hargs : AReps EE Slr wr (· ∈ fp') wr.heap.size [v, .string p] (c_by.enc (th, p, ())) fp' [v] := by
    have := AReps.cons (E := EE) (Sl := Slr) (w := wr) (X0 := (· ∈ fp')) (B0 := wr.heap.size) v [.string p] (.c (.fd th)) [.c (.d (.lit (.string p)))] fp' [] [v] [] (.c _ _ _ _ (.fd _ _ _ hp.rep h1 fun k hk => ⟨(hp.at_ k hk).1, (hp.at_ k hk).2.1⟩)) (.cons _ _ _ _ [] [] [] [] (.c _ _ _ _ (.d _ _ (.lit _ rfl))) .nil)
    rw [List.append_nil] at this
    exact this
  obtain ⟨g', args', hc, hfn, hcalls⟩ := hS 1000003 (c_by.enc (th, p, ())) (rc_by.enc t) (by rw [sp_by]; exact ans_run _ _ _ rfl ht) Slr wr [v, .string p] fp' [v] hlt hargs hp.nd
    (fun k hk => ⟨(hp.at_ k hk).1, fun hg => by
      rcases (hp.at_ k hk).2.2 with h | h
      · exact (hfp k h).2 hg
      · have := EE.invLt w k hiv hg; omega⟩) hinv
  rcases hc with ⟨h, _⟩ | ⟨_, fs, cs', rest, he, hargs'⟩
  · exact absurd rfl h
  · rw [hv] at he
    injection he with he1 he2
    injection he1 with e1 e2 e3
    injection e1 with e1
    subst e1 e2 e3
    have : args = args' := by
      apply Array.toList_inj.1
      rw [ha, hargs', ← he2]
      simp
    subst this
    refine hcalls.mono fun e w' ⟨u, he, Sl', p1, p2, r1, r2, hkeep, hext, hu, hps, hnd', hb⟩ => ?_
    obtain ⟨hu1, rfl, rfl⟩ := arep_d hu
    have := drep_lit hu1
    subst this
    have hps : PReps EE Sl' w' (fun _ => True) 0 [v] [.fd t.2.1] p2 r2 := hps
    have hno : ∀ i, i < w.heap.size + 2 → ¬ i ∈ fp → ¬ i ∈ fp' := fun i hi hn hm => by
      rcases (hp.at_ i hm).2.2 with h | h
      · exact hn h
      · omega
    cases hps with
    | cons _ _ _ _ p' q' r' t' h hs =>
      cases hs
      cases h with
      | fd _ _ _ hf _ hk2 =>
        simp only [List.append_nil, List.nil_append] at hnd' hb hk2
        refine ⟨he, ⟨p', Sl', hf, hnd', fun k hk => ⟨(hb k hk).1, (hk2 k hk).2, ?_⟩, ⟨hkeep.os.trans hp.keep.os, hkeep.tape.trans hp.keep.tape, hkeep.output.trans hp.keep.output, Nat.le_trans hp.keep.size hkeep.size, fun i hi hn => (hkeep.block i (Nat.lt_of_lt_of_le hi hp.keep.size) (hno i (by omega) hn)).trans (hp.keep.block i hi hn)⟩, Nat.le_trans hp.size hkeep.size,
          ⟨fun g o h => hext.s g o (hp.ext.s g o h), fun g o h => ?_, fun g o u hs hu => hext.c g o u (hp.ext.s g o hs) (hp.ext.c g o u hs hu)⟩, fun g o h => ?_⟩, hkeep.block _ (by have := hp.size; omega) (hno _ (by omega) fun h => by have := (hfp _ h).1; omega), hkeep.block _ (by have := hp.size; omega) (hno _ (by omega) fun h => by have := (hfp _ h).1; omega)⟩
        · rcases (hb k hk).2 with h | h
          · exact .inr (Nat.le_trans hp.size h)
          · exact (hp.at_ k h).2.2
        · rcases hext.n g o h with h | ⟨h | h, h2⟩
          · rcases hp.ext.n g o h with h | ⟨h, h3⟩
            · exact .inl h
            · exact .inr ⟨h, Nat.lt_of_lt_of_le h3 hkeep.size⟩
          · exact .inr ⟨.inl (Nat.le_trans hp.keep.size h), h2⟩
          · rcases (hp.at_ g h).2.2 with h | h
            · exact .inr ⟨.inr h, h2⟩
            · exact .inr ⟨.inl (by omega), h2⟩
        · rcases hext.n g o h with h | ⟨h | h, h2⟩
          · exact hp.news g o h
          · exact .inr (.inr (Nat.le_trans hp.size h))
          · exact .inr ((hp.at_ g h).2.2)
theorem PMid.set (hSl : ∀ g o, Sl g o → g < w.heap.size) (hfp : ∀ k ∈ fp, k < w.heap.size ∧ ¬ EE.glob k) (hm : PMid Sl w v fp th wr) (j : Nat) (x : Value) : PMid Sl w v fp th (wr.setCell ⟨w.heap.size + 1, j, none⟩ x) := by
  obtain ⟨fp', Slr, hp⟩ := hm
  have hs : ∀ i, i ≠ w.heap.size + 1 → (wr.setCell ⟨w.heap.size + 1, j, none⟩ x).heap[i]? = wr.heap[i]? := fun i hi => Below.heap_setCell _ ⟨w.heap.size + 1, j, none⟩ x i hi
  have hz := sz wr ⟨w.heap.size + 1, j, none⟩ x
  have h1 : ∀ k ∈ fp', k ≠ w.heap.size + 1 := fun k hk e => by
    rcases (hp.at_ k hk).2.2 with h | h
    · have := (hfp k h).1; omega
    · omega
  have h2 : ∀ g o, Slr g o → g ≠ w.heap.size + 1 := fun g o h e => by
    rcases hp.news g o h with h | h | h
    · have := hSl g o h; omega
    · have := (hfp g h).1; omega
    · omega
  refine ⟨fp', Slr, EE.frame _ Slr Slr wr _ _ _ hp.rep (fun _ _ h => h) (fun g o u hg hu => (cell_same (hs g (h2 g o hg))).trans hu) (fun k hk => hs k (h1 k hk)), hp.nd, fun k hk => ⟨by rw [hz]; exact (hp.at_ k hk).1, (hp.at_ k hk).2⟩,
    ⟨(so _ _ _).trans hp.keep.os, (st _ _ _).trans hp.keep.tape, (su _ _ _).trans hp.keep.output, Nat.le_trans hp.keep.size (Nat.le_of_eq hz.symm), fun i hi hn => (hs i (by omega)).trans (hp.keep.block i hi hn)⟩, Nat.le_trans hp.size (Nat.le_of_eq hz.symm),
    ⟨hp.ext.s, fun g o h => (hp.ext.n g o h).imp id fun h => ⟨h.1, by rw [hz]; exact h.2⟩, fun g o u hg hu => (cell_same (hs g (by have := hSl g o hg; omega))).trans (hp.ext.c g o u hg hu)⟩, hp.news⟩
theorem PMid.start (hSl : ∀ g o, Sl g o → g < w.heap.size) (hf : EE.frep th Sl w v fp) (hk : ∀ k ∈ fp, k < w.heap.size ∧ ∀ j, ¬ Sl k j) (hnd : fp.Nodup) (a b : Go.Obj) : PMid Sl w v fp th ((w.alloc a).alloc b) := by
  have hb : Below w.heap.size w ((w.alloc a).alloc b) := below_alloc (below_alloc (Below.refl _ _) _) _
  have hc : ∀ g o u, Sl g o → w.cell? ⟨g, o, none⟩ = some u → ((w.alloc a).alloc b).cell? ⟨g, o, none⟩ = some u := fun g o u hg hu => (cell_same (hb.block g (hSl g o hg))).trans hu
  refine ⟨fp, Sl, EE.frame _ Sl Sl w _ _ _ hf (fun _ _ h => h) hc (fun k hk' => hb.block k (hk k hk').1), hnd, fun k hk' => ⟨Nat.lt_of_lt_of_le (hk k hk').1 hb.size, (hk k hk').2, .inl hk'⟩, keepX_of_below hb _, by simp only [size_alloc]; omega, ⟨fun _ _ h => h, fun _ _ h => .inl h, hc⟩, fun g o h => .inl h⟩
end
end Go.Ev
end
section
open Go Go.Proofs
namespace Go.Ev
open Go.RowKit Go.Proofs.YtokkfbkbnocnoaaGreatDoor Go.Proofs.YtokkfbkbnocnoaaGreatDoorW.PrintWords Go.Proofs.YtokkfbkbnocnoaaGreatDoorW.PrintLast Go.Proofs.YtokkfbkbnocnoaaGreatDoorW.PrintMore
set_option linter.unusedVariables false
set_option linter.unusedSimpArgs false
set_option maxHeartbeats 4000000
set_option maxRecDepth 100000
def PRel (s : Fam) (Sl : Nat → Nat → Prop) (w : World) (v : Value) (fp : List Nat) (L : List ByteArray) (Q : List ByteArray × Thing) (i : Value) (wr : World) : Prop := ∃ (k : Nat) (done : List ByteArray) (th : Thing) (q : List ByteArray × Thing), i = .int .i64 k ∧ k ≤ L.length ∧ done.length = k ∧ partsT s th (L.drop k) = some q ∧ Q = (done ++ q.1, q.2) ∧
  wr.heap[w.heap.size]? = some (.cells #[v] 76 (0, 0)) ∧ wr.heap[w.heap.size + 1]? = some (.cells ((done ++ L.drop k).map Value.string).toArray 9 (0, 0)) ∧ PMid Sl w v fp th wr
theorem split_calls {w W : World} (hiv : EE.inv W) {x : ByteArray} (hx : x.size ≤ 4294967280) :
    Calls Tryz.prog 136 #[.string x, .string ⟨#[36]⟩] W fun e w' => e = .returned (.slice (some ⟨W.heap.size, 0, none⟩) (cutD x).length (cutD x).length) ∧ w' = W.alloc (.cells ((cutD x).map Value.string).toArray 9) := by
  obtain ⟨_, m, hm⟩ := hiv
  have hlen : (cutD x).length = Lib.countB x sep36 + 1 := Lib.splitB_all sep36 (by decide) 0 _ x rfl
  rw [hlen]
  exact Tryz.strings_Split x sep36 m W (by omega) hm (by decide)
section
variable {s : Fam} {Sl : Nat → Nat → Prop} {w : World} {v : Value} {fp : List Nat} {th : Thing}
theorem empty_size (p : ByteArray) : p.toList.isEmpty = true ↔ p.size = 0 := by
  have h0 : (⟨#[]⟩ : ByteArray).toList = [] := by first | rfl | simp | kernel_rfl
  constructor
  · intro h
    have h1 : (p.toList == (⟨#[]⟩ : ByteArray).toList) = true := by rw [h0, List.isEmpty_iff.1 h]; rfl
    rw [ba_dc] at h1
    by_cases e : p = ⟨#[]⟩
    · rw [e]; rfl
    · rw [dc_false e] at h1; cases h1
  · intro h
    have : p = ⟨#[]⟩ := by
      obtain ⟨⟨l⟩⟩ := p
      have : l.length = 0 := h
      rw [List.eq_nil_of_length_eq_zero this]
    rw [this, h0]; rfl
theorem join_calls {wr : World} {b n : Nat} {l : List ByteArray} (hn : l.length = n) (hl : n ≤ 1000000000000) (hb : wr.heap[b]? = some (.cells (l.map Value.string).toArray 9 (0, 0))) (hj : (Lib.join (l.map (·.data.toList)) sep36.data.toList).length ≤ 140737488355328) :
    Calls Tryz.prog 137 #[.slice (some ⟨b, 0, none⟩) n n, .string ⟨#[36]⟩] wr fun e w' => e = .returned (.string (joinD l)) ∧ Below wr.heap.size wr w' := by
  subst hn
  refine Tryz.strings_Join b 0 l.length l sep36 wr (fun j x hx => ?_) (Array.getElem?_eq_some_iff.1 hb).1 (by omega) (Nat.le_refl _) hj
  rw [Nat.zero_add]
  simp only [World.cell?, hb]
  rw [List.getElem?_toArray, List.getElem?_map, hx]
  rfl
theorem PMid.below {wr w' : World} (hm : PMid Sl w v fp th wr) (hSl : ∀ g o, Sl g o → g < w.heap.size) (hb : Below wr.heap.size wr w') : PMid Sl w v fp th w' := by
  obtain ⟨fp', Slr, hp⟩ := hm
  have hlt : ∀ g o, Slr g o → g < wr.heap.size := fun g o h => by
    rcases hp.ext.n g o h with h | ⟨_, h⟩
    · exact Nat.lt_of_lt_of_le (hSl g o h) hp.keep.size
    · exact h
  exact ⟨fp', Slr, EE.frame _ Slr Slr wr _ _ _ hp.rep (fun _ _ h => h) (fun g o u hg hu => (cell_same (hb.block g (hlt g o hg))).trans hu) (fun k hk => hb.block k (hp.at_ k hk).1), hp.nd, fun k hk => ⟨Nat.lt_of_lt_of_le (hp.at_ k hk).1 hb.size, (hp.at_ k hk).2⟩,
    ⟨hb.os.trans hp.keep.os, hb.tape.trans hp.keep.tape, hb.output.trans hp.keep.output, Nat.le_trans hp.keep.size hb.size, fun i hi hn => (hb.block i (Nat.lt_of_lt_of_le hi hp.keep.size)).trans (hp.keep.block i hi hn)⟩, Nat.le_trans hp.size hb.size,
    ⟨hp.ext.s, fun g o h => (hp.ext.n g o h).imp id fun h => ⟨h.1, Nat.lt_of_lt_of_le h.2 hb.size⟩, fun g o u hg hu => (cell_same (hb.block g (Nat.lt_of_lt_of_le (hSl g o hg) hp.keep.size))).trans (hp.ext.c g o u hg hu)⟩, hp.news⟩
theorem prel_next {L : List ByteArray} {Q q2 : List ByteArray × Thing} {k : Nat} {done : List ByteArray} {th : Thing} {x y : ByteArray} {w5 : World} (hlt : k < L.length) (hd : done.length = k) (hdrop : L.drop k = x :: L.drop (k + 1)) (hQ : Q = (done ++ (y :: q2.1, q2.2).1, (y :: q2.1, q2.2).2))
    (hSl : ∀ g o, Sl g o → g < w.heap.size) (hfp : ∀ k ∈ fp, k < w.heap.size ∧ ¬ EE.glob k) (hq : partsT s th (L.drop (k + 1)) = some q2) (hm : PMid Sl w v fp th w5) (h1 : w5.heap[w.heap.size]? = some (.cells #[v] 76 (0, 0)))
    (h2 : w5.heap[w.heap.size + 1]? = some (.cells ((done ++ L.drop k).map Value.string).toArray 9 (0, 0))) : PRel s Sl w v fp L Q (.int .i64 ((k : Int) + 1)) (w5.setCell ⟨w.heap.size + 1, k, none⟩ (.string y)) := by
  refine ⟨k + 1, done ++ [y], th, q2, by simp, hlt, by simp [hd], hq, by rw [hQ]; simp, (Below.heap_setCell _ ⟨w.heap.size + 1, k, none⟩ _ _ (by show w.heap.size ≠ w.heap.size + 1; omega)).trans h1, ?_, hm.set hSl hfp k _⟩
  rw [cells_set h2]
  congr 2
  rw [hdrop]
  subst hd
  simp
theorem parts_walk (hS : ∀ f, SpecOK Tryz.prog EE (sp s) f) (hSl : ∀ g o, Sl g o → g < w.heap.size) (hiv : EE.inv w) (hfp : ∀ k ∈ fp, k < w.heap.size ∧ ¬ EE.glob k) (hf : EE.frep th Sl w v fp) (hk : ∀ k ∈ fp, k < w.heap.size ∧ ∀ j, ¬ Sl k j) (hnd : fp.Nodup)
    {x : ByteArray} {q : List ByteArray × Thing} (hx0 : x.toList.isEmpty = false) (hx : x.size ≤ 4294967280) (hL : (cutD x).length ≤ 1000000000000) (hq : partsT s th (cutD x) = some q) (hj : (Lib.join (q.1.map (·.data.toList)) sep36.data.toList).length ≤ 140737488355328)
    (g : Nat) (cs : Array Value) (hv : v = .func (.func g) #[] cs) (hcs : (g = 46 ∧ ∃ a, cs = #[.pointer a]) ∨ (g = 38 ∧ ∃ a b, cs = #[.pointer a, .pointer b])) :
    Calls Tryz.prog 95 #[.agg #[v], .string x] w fun e w' => e = .returned (.string (joinD q.1)) ∧ PMid Sl w v fp q.2 w' := by
  have hst := PMid.start (th := th) hSl hf hk hnd (.cells #[v] 76) (.cells ((cutD x).map Value.string).toArray 9)
  have HST := Lib.hid hst
  have HS := Lib.hid hS
  have HSL := Lib.hid hSl
  have HI := Lib.hid (inv_below hiv (below_alloc (Below.refl w.heap.size w) (.cells #[v] 76)))
  have HI0 := Lib.hid hiv
  have HFP := Lib.hid hfp
  have HQ := Lib.hid hq
  have HJ := Lib.hid hj
  clear hst hS hSl hiv hfp hf hk hnd hq hj
  subst hv
  go_enter Tryz.func95, Tryz.ntmps95
  go_wp2_with (first | (go_at_call 136; go_must (refine (split_calls (w := w) HI.out hx).mono ?_); go_must (rintro e w1 ⟨rfl, rfl⟩)))
  go_loopw [14] (fun i wr => PRel s Sl w (.func (.func g) #[] cs) fp (cutD x) q i wr) (fun i _ => (cutD x).length - (RowKit.intOf i).toNat)
  case atStart =>
    refine ⟨0, [], th, q, rfl, Nat.zero_le _, rfl, HQ.out, rfl, ?_, ?_, HST.out⟩
    · rw [Below.heap_alloc _ _ _ (by simp only [size_alloc]; omega)]
      exact heap_top _ _
    · have := heap_top (w.alloc (.cells #[.func (.func g) #[] cs] 76)) (.cells ((cutD x).map Value.string).toArray 9)
      rw [size_alloc] at this
      simpa using this
  case round =>
    obtain ⟨k, done, th', q', rfl, hk, hd, hq', hQ, h1, h2, hm⟩ := hrel
    have H2 := Lib.hid h2
    have H1 := Lib.hid h1
    have HM := Lib.hid hm
    have HQ' := Lib.hid hq'
    by_cases hlt : k < (cutD x).length
    · have c1 : wr.cell? ⟨w.heap.size, 0, none⟩ = some (.func (.func g) #[] cs) := by simp [World.cell?, h1]
      have hget : (done ++ (cutD x).drop k)[k]? = some (cutD x)[k] := by
        rw [List.getElem?_append_right (by omega), hd, Nat.sub_self, List.getElem?_drop, Nat.add_zero, List.getElem?_eq_getElem hlt]
      have c2 : wr.cell? ⟨w.heap.size + 1, k, none⟩ = some (.string (cutD x)[k]) := by
        have e : ((done ++ (cutD x).drop k).map Value.string)[k]? = some (.string (cutD x)[k]) := by rw [List.getElem?_map, hget]; rfl
        simp only [World.cell?, h2]
        rw [List.getElem?_toArray]
        exact e
      have hdrop : (cutD x).drop k = (cutD x)[k] :: (cutD x).drop (k + 1) := (List.getElem_cons_drop hlt).symm
      have f2 := Lib.frozen_of_heap h2 k
      clear h1 h2 hm hq'
      cases hemp : (cutD x)[k].toList.isEmpty with
      | true =>
        have hsz := (empty_size (cutD x)[k]).1 hemp
        have hpt := HQ'.out
        rw [hdrop] at hpt
        simp only [partsT, hsz, if_true] at hpt
        obtain ⟨q2, hq2, hqq⟩ := Option.map_eq_some_iff.1 hpt
        have HQ2 := Lib.hid hq2
        subst hqq
        clear hpt hq2
        go_wp2
        go_round
        · refine ⟨k + 1, done ++ [(cutD x)[k]], th', q2, by simp, hlt, by simp [hd], HQ2.out, by rw [hQ]; simp, H1.out, ?_, HM.out⟩
          rw [H2.out, hdrop]
          simp
        · simp only [RowKit.intOf]; omega
      | false =>
        have hsz : ¬ (cutD x)[k].size = 0 := fun h => by rw [(empty_size _).2 h] at hemp; cases hemp
        have hpt := HQ'.out
        rw [hdrop] at hpt
        simp only [partsT, hsz, if_false] at hpt
        obtain ⟨t, ht, hpt⟩ := Option.bind_eq_some_iff.1 hpt
        obtain ⟨q2, hq2, hqq⟩ := Option.map_eq_some_iff.1 hpt
        have HQ2 := Lib.hid hq2
        have HT := Lib.hid ht
        subst hqq
        clear hpt hq2 ht
        rcases hcs with ⟨rfl, a, rfl⟩ | ⟨rfl, a, b, rfl⟩
        · go_wp2_with (first | (go_at_call 46; go_must (refine (by_step HS.out HSL.out HI0.out HFP.out rfl rfl HM.out HT.out rfl).mono ?_); go_must (rintro e w5 ⟨rfl, hm5, e1, e2⟩; have HM5 := Lib.hid hm5; have b5 := e2.trans H2.out; have B5 := Lib.hid b5; have B1 := Lib.hid (e1.trans H1.out); have c5 : w5.cell? ⟨w.heap.size + 1, k, none⟩ = some (.string (cutD x)[k]) := (cell_same e2).trans c2; have f5 := Lib.frozen_of_heap b5 k; clear hm5 e1 e2 b5)))
          go_round
          · exact (prel_next hlt hd hdrop hQ HSL.out HFP.out HQ2.out HM5.out B1.out B5.out)
          · simp only [RowKit.intOf]; omega
        · go_wp2_with (first | (go_at_call 38; go_must (refine (by_step HS.out HSL.out HI0.out HFP.out rfl rfl HM.out HT.out rfl).mono ?_); go_must (rintro e w5 ⟨rfl, hm5, e1, e2⟩; have HM5 := Lib.hid hm5; have b5 := e2.trans H2.out; have B5 := Lib.hid b5; have B1 := Lib.hid (e1.trans H1.out); have c5 : w5.cell? ⟨w.heap.size + 1, k, none⟩ = some (.string (cutD x)[k]) := (cell_same e2).trans c2; have f5 := Lib.frozen_of_heap b5 k; clear hm5 e1 e2 b5)))
          go_round
          · exact (prel_next hlt hd hdrop hQ HSL.out HFP.out HQ2.out HM5.out B1.out B5.out)
          · simp only [RowKit.intOf]; omega
    · have hkl : k = (cutD x).length := by omega
      have hpt := HQ'.out
      rw [hkl, List.drop_length] at hpt
      simp only [partsT, Option.some.injEq] at hpt
      subst hpt
      have hrow : wr.heap[w.heap.size + 1]? = some (.cells (done.map Value.string).toArray 9 (0, 0)) := by
        rw [h2, hkl, List.drop_length, List.append_nil]
      have HROW := Lib.hid hrow
      have hq1 : q.1 = done := by rw [hQ]; simp
      have hq2 : q.2 = th' := by rw [hQ]
      have HJ2 : Hid ((Lib.join (done.map (·.data.toList)) sep36.data.toList).length ≤ 140737488355328) := Lib.hid (by rw [← hq1]; exact HJ.out)
      clear h1 h2 hm hq' hrow
      go_wp2_with (first | (go_at_call 137; go_must (refine (join_calls (hd.trans hkl) hL HROW.out HJ2.out).mono ?_); go_must (rintro e w9 ⟨rfl, hb9⟩; have HB9 := Lib.hid hb9; clear hb9)))
      go_ret
      exact ⟨by rw [hq1]; rfl, by rw [hq2]; exact HM.out.below HSL.out HB9.out⟩
end
theorem walk_empty (w : World) (v : Value) (hv : v.oneCell' = true) (h2 : ∃ g cs, v = .func (.func g) #[] cs) : Calls Tryz.prog 95 #[.agg #[v], .string ⟨#[]⟩] w fun e w' => e = .returned (.string ⟨#[]⟩) ∧ Below w.heap.size w w' := by
  obtain ⟨g, cs, rfl⟩ := h2
  have HB := Lib.hid (below_alloc (Below.refl w.heap.size w) (.cells #[.func (.func g) #[] cs] 76))
  go_enter Tryz.func95, Tryz.ntmps95
  go_wp2
  go_ret
  exact ⟨rfl, HB.out⟩
theorem frep_func {Sl : Nat → Nat → Prop} {w : World} {v : Value} {fp : List Nat} {th : Thing} (h : EE.frep th Sl w v fp) : ∃ g cs, v = .func (.func g) #[] cs ∧ ((g = 46 ∧ ∃ a, cs = #[.pointer a]) ∨ (g = 38 ∧ ∃ a b, cs = #[.pointer a, .pointer b])) := by
  cases th with
  | ren l => obtain ⟨g, sv, rfl, _⟩ := h; exact ⟨46, _, rfl, .inl ⟨rfl, _, rfl⟩⟩
  | names l => obtain ⟨gs, gm, go, sv, n, rfl, _⟩ := h; exact ⟨38, _, rfl, .inr ⟨rfl, _, _, rfl⟩⟩
theorem answers_parts {Sl : Nat → Nat → Prop} {w w' : World} {v : Value} {fp : List Nat} {th : Thing} {y : ByteArray} (h1 : v.oneCell' = true) (hm : PMid Sl w v fp th w') : Answers EE Sl w fp [v] (rc_tree_mapper_parts.enc (y, th, ())) (.string y) w' := by
  obtain ⟨fp', Slr, hp⟩ := hm
  refine ⟨Slr, [], fp', [], [v], hp.keep, hp.ext, .c _ _ _ _ (.d _ _ (.lit _ rfl)), ?_, by simpa using hp.nd, fun k hk => ?_⟩
  · have := PReps.cons (E := EE) (Sl := Slr) (w := w') (X0 := fun _ => True) (B0 := 0) v [] (.fd th) [] fp' [] [v] [] (.fd _ _ _ hp.rep h1 fun k hk => ⟨(hp.at_ k hk).1, (hp.at_ k hk).2.1⟩) .nil
    rw [List.append_nil] at this
    exact this
  · have := hp.at_ k (by simpa using hk)
    exact ⟨this.1, this.2.2.elim .inr fun h => .inl (by omega)⟩
theorem preps_fd {Sl : Nat → Nat → Prop} {w : World} {X0 : Nat → Prop} {B0 : Nat} {us : List Value} {th : Thing} {fp : List Nat} {rs : List Value} (h : PReps EE Sl w X0 B0 us [.fd th] fp rs) : ∃ v, us = [v] ∧ EE.frep th Sl w v fp ∧ v.oneCell' = true ∧ (∀ k ∈ fp, k < w.heap.size ∧ ∀ j, ¬ Sl k j) ∧ rs = [v] := by
  cases h with
  | cons v us x xs p q r t h1 hs =>
    cases hs
    cases h1 with
    | fd _ _ _ hf ho hk =>
      rw [List.append_nil]
      exact ⟨v, rfl, hf, ho, hk, rfl⟩
theorem ok_tree_mapper_parts (s : Fam) (k : Nat) (hS : ∀ f, SpecOK Tryz.prog EE (sp s) f) : SpecA Tryz.prog EE 95 (ansOf c_tree_mapper_parts rc_tree_mapper_parts.enc fun x => B_tree_mapper_parts s k x.1 x.2.1) := by
  refine specA_by _ _ _ fun x y hy Sl w us fp rs hSl hargs hnd hlt hiv => ?_
  obtain ⟨⟨th, _⟩, x, _⟩ := x
  obtain ⟨m, vs, fp1, fp2, rs1, rs2, rfl, rfl, rfl, h1, h2⟩ := areps_cons hargs
  obtain ⟨vs', rfl, h3⟩ := areps_lit h2
  obtain ⟨rfl, rfl, rfl⟩ := areps_nil h3
  obtain ⟨v, hmv, hf, ho, hk, hrs⟩ : ∃ v, m = .agg #[v] ∧ EE.frep th Sl w v fp1 ∧ v.oneCell' = true ∧ (∀ k ∈ fp1, k < w.heap.size ∧ ∀ j, ¬ Sl k j) ∧ rs1 = [v] := by
    cases h1 with
    | agg vs _ _ _ h =>
      obtain ⟨l⟩ := vs
      obtain ⟨v, hl, hf, ho, hk, hr⟩ := preps_fd h
      exact ⟨v, by rw [show l = [v] from hl], hf, ho, hk, hr⟩
  subst hmv hrs
  simp only [List.append_nil] at hnd hlt ⊢
  refine ⟨95, #[_, _], .inl ⟨by decide, rfl, rfl⟩, ⟨Tryz.f95, Tryz.func95, by kernel_rfl, by kernel_rfl⟩, ?_⟩
  obtain ⟨g, cs, hv, hcs⟩ := frep_func hf
  have hy : B_tree_mapper_parts s k (th, ()) x = some y := hy
  unfold B_tree_mapper_parts at hy
  split at hy
  · rename_i hx
    injection hy with hy
    subst hy
    have : x = ⟨#[]⟩ := by
      obtain ⟨⟨l⟩⟩ := x
      have : l.length = 0 := hx
      rw [List.eq_nil_of_length_eq_zero this]
    subst this
    refine (walk_empty w v ho ⟨g, cs, hv⟩).mono fun e w' ⟨he, hb⟩ => ⟨_, he, ?_⟩
    have hc : ∀ g o u, Sl g o → w.cell? ⟨g, o, none⟩ = some u → w'.cell? ⟨g, o, none⟩ = some u := fun g o u hg hu => (cell_same (hb.block g (hSl g o hg))).trans hu
    refine ⟨Sl, [], fp1, [], [v], keepX_of_below hb _, ⟨fun _ _ h => h, fun _ _ h => .inl h, hc⟩, .c _ _ _ _ (.d _ _ (.lit _ rfl)), ?_, by simpa using hnd, fun k hk' => ?_⟩
    · have := PReps.cons (E := EE) (Sl := Sl) (w := w') (X0 := fun _ => True) (B0 := 0) v [] (.fd th) [] fp1 [] [v] [] (.fd _ _ _ (EE.frame _ Sl Sl w _ _ _ hf (fun _ _ h => h) hc fun k hk' => hb.block k (hk k hk').1) ho fun k hk' => ⟨Nat.lt_of_lt_of_le (hk k hk').1 hb.size, (hk k hk').2⟩) .nil
      rw [List.append_nil] at this
      exact this
    · have := hk k (by simpa using hk')
      exact ⟨Nat.lt_of_lt_of_le this.1 hb.size, .inr (by simpa using hk')⟩
  · rename_i hx
    split at hy
    · cases hy
    · rename_i hx2
      split at hy
      · cases hy
      · rename_i hx3
        obtain ⟨q, hq, hy⟩ := Option.bind_eq_some_iff.1 hy
        split at hy
        · rename_i hj
          injection hy with hy
          subst hy
          have hx0 : x.toList.isEmpty = false := by
            cases h : x.toList.isEmpty with
            | true => exact absurd ((empty_size x).1 h) hx
            | false => rfl
          exact (parts_walk hS hSl hiv hlt hf hk hnd hx0 (by omega) (by omega) hq hj g cs hv hcs).mono fun e w' ⟨he, hm⟩ => ⟨_, he, answers_parts ho hm⟩
        · cases hy
end Go.Ev
end
section
open Go
namespace Go.Ev
set_option maxRecDepth 100000
set_option maxHeartbeats 4000000
set_option linter.unusedVariables false
set_option linter.unusedSimpArgs false
variable (h : Fam)
theorem lens_ne {α : Type} (l m : List α) (hlm : ¬ l.length = m.length) : ((l.length : Int) != (m.length : Int)) = true := by simp; omega
theorem lens_eq {α : Type} (l m : List α) (hlm : l.length = m.length) : ((l.length : Int) != (m.length : Int)) = false := by simp [hlm]
theorem lens_dc {α : Type} (l m : List α) : ((l.length : Int) != (m.length : Int)) = dc (¬ l.length = m.length) := by
  rw [int_ndc]; exact dc_eq (by omega)
theorem by_lens {α : Type} (l m : List α) (X : Option Bool) (hX : l.length = m.length → X = some (dc (l = m))) : (if ((l.length : Int) != (m.length : Int)) = true then some false else X) = some (dc (l = m)) := by
  by_cases hlm : l.length = m.length
  · rw [lens_eq l m hlm, if_neg (by simp), hX hlm]
  · rw [lens_ne l m hlm, if_pos rfl]
    have : l ≠ m := fun e => hlm (by rw [e])
    rw [dc_false this]
theorem TVar.eq_iff (x y : TVar) : x = y ↔ x.sub_Marks = y.sub_Marks ∧ x.Name = y.Name ∧ x.T_Kind = y.T_Kind ∧ x.T_Size = y.T_Size ∧ x.T_Name = y.T_Name := by
  cases x; cases y; simp [TVar.sub_Marks]; simp only [and_assoc]
theorem bk_Var_pos (x : TVar) : 1 ≤ bk_TVar x := by cases x; simp [bk_TVar]
theorem bks_Var_len (l : List TVar) : l.length ≤ bks_TVar l := by rw [bks_TVar_eq]; exact len_sum _ bk_Var_pos l
theorem bks_Var_mem (l : List TVar) (i : Nat) (hi : i < l.length) : bk_TVar l[i] ≤ bks_TVar l := by rw [bks_TVar_eq]; exact mem_sum _ l i hi
theorem fts_Var_mem (l : List TVar) (hl : fts_TVar l) (i : Nat) (hi : i < l.length) : ft_TVar l[i] := (fts_TVar_iff l).1 hl _ (List.getElem_mem hi)
theorem bk_Var (x : TVar) : bks_v9 x.Marks_Before + bks_v9 x.Marks_Trail + 5 ≤ bk_TVar x := by cases x; simp [bk_TVar]; omega
theorem ft_Var (x : TVar) (hx : ft_TVar x) : x.Marks_Before.length ≤ maxLen ∧ x.Marks_Trail.length ≤ maxLen := by cases x; simp only [ft_TVar] at hx; exact ⟨hx.1.1, hx.2.1.1⟩
theorem L_EqualFunc_Var (s : Fam) (k : Nat) (x y : List TVar) (u : Unit × Unit) : ∀ j v0 v1 v2 v3, Lslices_EqualFunc_Var_4 s k x y u j v0 v1 v2 v3 = eqG dd_TVar (fun a b => s.f_tree_sameVar (a, b, ())) j v0 v1 v2 v3 := by
  intro j
  induction j with
  | zero => intros; rfl
  | succ j ih => intros; simp only [Lslices_EqualFunc_Var_4, eqG, ih]
theorem sameVar_ok (k : Nat) (a b : TVar) (ha : ft_TVar a) (hk : bk_TVar a ≤ k) : (FF h (k + 3)).f_tree_sameVar (a, b, ()) = some (dc (a = b)) := by
  show B_tree_sameVar (FF h (k + 2)) (k + 2) a b = _
  have hb := bk_Var a
  obtain ⟨a1, a2⟩ := ft_Var a ha
  have l1 := bks_v9_len a.Marks_Before
  have l2 := bks_v9_len a.Marks_Trail
  simp only [B_tree_sameVar, marks_ok h k a.sub_Marks b.sub_Marks (by show a.Marks_Before.length < _; omega) a1 (by show a.Marks_Trail.length < _; omega) a2, Option.bind_some, Bool.true_and, Bool.and_true, int_dc, ba_dc, and_dc]
  exact congrArg some (dc_eq (by rw [TVar.eq_iff]; simp only [and_assoc]))
theorem EqualFunc_Var_ok (k : Nat) (l m : List TVar) (hm : l.length ≤ maxLen) (hl : fts_TVar l) (hk : bks_TVar l ≤ k) : (FF h (k + 4)).f_slices_EqualFunc_Var (l, m, ((), ()), ()) = some (dc (l = m)) := by
  show B_slices_EqualFunc_Var (FF h (k + 3)) (k + 3) l m ((), ()) = _
  unfold B_slices_EqualFunc_Var
  rw [L_EqualFunc_Var]
  have := bks_Var_len l
  exact eqF _ _ l m (k + 3) (by omega) hm fun i hi hi' => sameVar_ok h k _ _ (fts_Var_mem l hl i hi) (by have := bks_Var_mem l i hi; omega)
theorem sameVars_ok (k : Nat) (l m : List TVar) (hm : l.length ≤ maxLen) (hl : fts_TVar l) (hk : bks_TVar l ≤ k) : (FF h (k + 3)).f_r07_sameVars (l, m, ()) = some (dc (l = m)) := by
  show B_r07_sameVars (FF h (k + 2)) (k + 2) l m = _
  unfold B_r07_sameVars
  refine by_lens l m _ fun hlm => ?_
  have hlen := bks_Var_len l
  have key : ∀ j i, i ≤ l.length → l.length - i < j → Lr07_sameVars_4 (FF h (k + 2)) (k + 2) l m j l m (i : Int) = some (dc (l.drop i = m.drop i)) := by
    refine up_ind l.length (fun j => ?_) (fun j i hi ihj => ?_)
    · simp only [Lr07_sameVars_4]
      rw [if_neg (by simp), dc_true (by simp [hlm])]
    · have h' : i < m.length := by omega
      have c1 : decide ((i : Int) < (l.length : Int)) = true := by simpa using hi
      have c2 : (0 : Int) ≤ (i : Int) := by omega
      have c3 : (i : Int) < (l.length : Int) := by omega
      have c4 : (i : Int) < (m.length : Int) := by omega
      have hbi := bks_Var_mem l i hi
      have hb := bk_Var l[i]
      obtain ⟨a1, a2⟩ := ft_Var l[i] (fts_Var_mem l hl i hi)
      have l1 := bks_v9_len l[i].Marks_Before
      have l2 := bks_v9_len l[i].Marks_Trail
      simp only [Lr07_sameVars_4, c1, c2, c3, c4, if_true, getD_at l i _ hi, getD_at m i _ h', wrap_succ hi hm, ihj,
        sameMarks_ok h k l[i].sub_Marks m[i].sub_Marks (by show l[i].Marks_Before.length < _; omega) a1 (by show l[i].Marks_Trail.length < _; omega) a2, Option.bind_some, Bool.false_or, Bool.and_true, int_dc, ba_dc, and_dc, not_dc, or_dc, ifn_dc, iff_dc]
      refine congrArg some (dc_eq ?_)
      rw [drop_iff l m i hi h', TVar.eq_iff]
      simp only [not_or, Classical.not_not, and_assoc]
  have := key (k + 2) 0 (Nat.zero_le _) (by omega)
  simpa using this
theorem TField.eq_iff (x y : TField) : x = y ↔ x.sub_Marks = y.sub_Marks ∧ x.Name = y.Name ∧ x.Kind = y.Kind := by
  cases x; cases y; simp [TField.sub_Marks]; simp only [and_assoc]
theorem bk_Field_pos (x : TField) : 1 ≤ bk_TField x := by cases x; simp [bk_TField]
theorem bks_Field_len (l : List TField) : l.length ≤ bks_TField l := by rw [bks_TField_eq]; exact len_sum _ bk_Field_pos l
theorem bks_Field_mem (l : List TField) (i : Nat) (hi : i < l.length) : bk_TField l[i] ≤ bks_TField l := by rw [bks_TField_eq]; exact mem_sum _ l i hi
theorem fts_Field_mem (l : List TField) (hl : fts_TField l) (i : Nat) (hi : i < l.length) : ft_TField l[i] := (fts_TField_iff l).1 hl _ (List.getElem_mem hi)
theorem bk_Field (x : TField) : bks_v9 x.Marks_Before + bks_v9 x.Marks_Trail + 4 ≤ bk_TField x := by cases x; simp [bk_TField]; omega
theorem ft_Field (x : TField) (hx : ft_TField x) : x.Marks_Before.length ≤ maxLen ∧ x.Marks_Trail.length ≤ maxLen := by cases x; simp only [ft_TField] at hx; exact ⟨hx.1.1, hx.2.1.1⟩
theorem TRec.eq_iff (x y : TRec) : x = y ↔ x.sub_Marks = y.sub_Marks ∧ x.Name = y.Name ∧ x.End = y.End ∧ x.Fields = y.Fields := by
  cases x; cases y; simp [TRec.sub_Marks]
  constructor
  · rintro ⟨a, b, c, d, e⟩; exact ⟨⟨a, b⟩, c, e, d⟩
  · rintro ⟨⟨a, b⟩, c, e, d⟩; exact ⟨a, b, c, d, e⟩
theorem bk_Rec_pos (x : TRec) : 1 ≤ bk_TRec x := by cases x; simp [bk_TRec]
theorem bks_Rec_len (l : List TRec) : l.length ≤ bks_TRec l := by rw [bks_TRec_eq]; exact len_sum _ bk_Rec_pos l
theorem bks_Rec_mem (l : List TRec) (i : Nat) (hi : i < l.length) : bk_TRec l[i] ≤ bks_TRec l := by rw [bks_TRec_eq]; exact mem_sum _ l i hi
theorem fts_Rec_mem (l : List TRec) (hl : fts_TRec l) (i : Nat) (hi : i < l.length) : ft_TRec l[i] := (fts_TRec_iff l).1 hl _ (List.getElem_mem hi)
theorem bk_Rec (x : TRec) : bks_v9 x.Marks_Before + bks_v9 x.Marks_Trail + bks_TField x.Fields + bks_v9 x.End + 5 ≤ bk_TRec x := by cases x; simp [bk_TRec]; omega
theorem ft_Rec (x : TRec) (hx : ft_TRec x) : x.Marks_Before.length ≤ maxLen ∧ x.Marks_Trail.length ≤ maxLen ∧ (x.Fields.length ≤ maxLen ∧ fts_TField x.Fields) ∧ x.End.length ≤ maxLen := by cases x; simp only [ft_TRec] at hx; exact ⟨hx.1.1, hx.2.1.1, hx.2.2.2.1, hx.2.2.2.2.1⟩
theorem TRoutine.eq_iff (x y : TRoutine) : x = y ↔ x.sub_Marks = y.sub_Marks ∧ x.Name = y.Name ∧ x.Result = y.Result ∧ x.Params = y.Params ∧ x.Vars = y.Vars ∧ x.Inner = y.Inner ∧ x.Body = y.Body ∧ x.End = y.End := by
  cases x; cases y; simp [TRoutine.sub_Marks]; simp only [and_assoc]
theorem bk_Routine_pos (x : TRoutine) : 1 ≤ bk_TRoutine x := by cases x; simp [bk_TRoutine]
theorem bk_Param_pos (x : TParam) : 1 ≤ bk_TParam x := by cases x; simp [bk_TParam]
theorem bks_Param_len (l : List TParam) : l.length ≤ bks_TParam l := by rw [bks_TParam_eq]; exact len_sum _ bk_Param_pos l
theorem bks_Routine_len (l : List TRoutine) : l.length ≤ bks_TRoutine l := by rw [bks_TRoutine_eq]; exact len_sum _ bk_Routine_pos l
theorem bks_Routine_mem (l : List TRoutine) (i : Nat) (hi : i < l.length) : bk_TRoutine l[i] ≤ bks_TRoutine l := by rw [bks_TRoutine_eq]; exact mem_sum _ l i hi
theorem fts_Routine_mem (l : List TRoutine) (hl : fts_TRoutine l) (i : Nat) (hi : i < l.length) : ft_TRoutine l[i] := (fts_TRoutine_iff l).1 hl _ (List.getElem_mem hi)
theorem bk_Routine (x : TRoutine) : bks_v9 x.Marks_Before + bks_v9 x.Marks_Trail + bks_TParam x.Params + bks_TVar x.Vars + bks_TRoutine x.Inner + bks_TStmt x.Body + bks_v9 x.End + 9 ≤ bk_TRoutine x := by cases x; simp [bk_TRoutine]; omega
theorem ft_Routine (x : TRoutine) (hx : ft_TRoutine x) : x.Marks_Before.length ≤ maxLen ∧ x.Marks_Trail.length ≤ maxLen ∧ x.Params.length ≤ maxLen ∧ (x.Vars.length ≤ maxLen ∧ fts_TVar x.Vars) ∧ (x.Inner.length ≤ maxLen ∧ fts_TRoutine x.Inner) ∧ (x.Body.length ≤ maxLen ∧ fts_TStmt x.Body) ∧ x.End.length ≤ maxLen := by
  cases x; simp only [ft_TRoutine] at hx
  obtain ⟨⟨a1, _⟩, ⟨a2, _⟩, a3, _, ⟨a4, _⟩, a5, a6, a7, ⟨a8, _⟩⟩ := hx
  exact ⟨a1, a2, a4, a5, a6, a7, a8⟩
theorem L_EqualFunc_Routine (s : Fam) (k : Nat) (x y : List TRoutine) (u : Unit × Unit) : ∀ j v0 v1 v2 v3, Lslices_EqualFunc_Routine_4 s k x y u j v0 v1 v2 v3 = eqG dd_TRoutine (fun a b => s.f_tree_sameRoutine (a.re, b.re, ())) j v0 v1 v2 v3 := by
  intro j
  induction j with
  | zero => intros; rfl
  | succ j ih => intros; simp only [Lslices_EqualFunc_Routine_4, eqG, ih]
theorem SameRoutines_10_ok (s : Fam) (k : Nat) (x y : List TRoutine) (r4 : List TRoutine → List TRoutine → Int → Option Bool) (u0 u1 : List TRoutine) (u2 : Int) (u4 u5 : List ByteArray) (u6 : ByteArray) (u7 : Int) (P : List TParam) (u9 : List TVar) (u10 : List TRoutine) (u11 : List TStmt) (u12 u13 u14 : List ByteArray) (u15 : ByteArray) (u16 : Int) (R : List TParam) (u18 : List TVar) (u19 : List TRoutine) (u20 : List TStmt) (u21 : List ByteArray)
    (hl : P.length = R.length) (hm : P.length ≤ maxLen) {p1 p2 p3 p4 : Prop} (h1 : s.f_r07_sameVars (u9, u18, ()) = some (dc p1)) (h2 : s.f_r07_SameRoutines (u10, u19, ()) = some (dc p2)) (h3 : s.f_r07_SameStmts (u11, u20, ()) = some (dc p3)) (h4 : r4 u0 u1 (IntKind.i64.wrap (u2 + 1)) = some (dc p4)) :
    ∀ j i, i ≤ P.length → P.length - i < j → Lr07_SameRoutines_10 s k x y r4 j u0 u1 u2 (i : Int) u4 u5 u6 u7 P u9 u10 u11 u12 u13 u14 u15 u16 R u18 u19 u20 u21 = some (dc (P.drop i = R.drop i ∧ p1 ∧ p2 ∧ p3 ∧ p4)) := by
  refine up_ind P.length (fun j => ?_) (fun j i hi ihj => ?_)
  · simp only [Lr07_SameRoutines_10]
    rw [if_neg (by simp)]
    simp only [h1, h2, h3, h4, Option.bind_some, Bool.false_or, not_dc, ifn_dc, iff_dc, Classical.not_not]
    exact congrArg some (dc_eq (by simp [hl]))
  · have h' : i < R.length := by omega
    have c1 : decide ((i : Int) < (P.length : Int)) = true := by simpa using hi
    have c2 : (0 : Int) ≤ (i : Int) := by omega
    have c3 : (i : Int) < (P.length : Int) := by omega
    have c4 : (i : Int) < (R.length : Int) := by omega
    simp only [Lr07_SameRoutines_10, c1, c2, c3, c4, if_true, getD_at P i _ hi, getD_at R i _ h', wrap_succ hi hm, ihj, Bool.and_true, int_dc, ba_dc, and_dc, not_dc, ifn_dc]
    refine congrArg some (dc_eq ?_)
    rw [drop_iff P R i hi h', TParam.eq_iff]
    simp only [Classical.not_not, and_assoc]
theorem Routine_all : ∀ k, (∀ a b, ft_TRoutine a → bk_TRoutine a < k → (FF h k).f_tree_sameRoutine (a, b, ()) = some (dc (a = b))) ∧
    (∀ l m, l.length ≤ maxLen → fts_TRoutine l → bks_TRoutine l + 1 < k → (FF h k).f_slices_EqualFunc_Routine (l, m, ((), ()), ()) = some (dc (l = m))) ∧
    (∀ l m, l.length ≤ maxLen → fts_TRoutine l → bks_TRoutine l + 1 < k → (FF h k).f_r07_SameRoutines (l, m, ()) = some (dc (l = m))) := by
  intro k
  induction k with
  | zero => exact ⟨fun _ _ _ h => absurd h (Nat.not_lt_zero _), fun _ _ _ _ h => absurd h (Nat.not_lt_zero _), fun _ _ _ _ h => absurd h (Nat.not_lt_zero _)⟩
  | succ k ih =>
    obtain ⟨i1, i2, i3⟩ := ih
    refine ⟨fun a b ha hk => ?_, fun l m hm hl hk => ?_, fun l m hm hl hk => ?_⟩
    · show B_tree_sameRoutine (FF h k) k a b = _
      have hb := bk_Routine a
      obtain ⟨a1, a2, a3, a4, a5, a6, a7⟩ := ft_Routine a ha
      have l1 := bks_v9_len a.Marks_Before
      have l2 := bks_v9_len a.Marks_Trail
      have l3 := bks_v9_len a.End
      have l4 := bks_Param_len a.Params
      obtain ⟨k', rfl⟩ : ∃ k', k = k' + 4 := ⟨k - 4, by omega⟩
      obtain ⟨_, e2, _⟩ := Stmt_all h (k' + 4)
      simp only [B_tree_sameRoutine, marks_ok h (k' + 2) a.sub_Marks b.sub_Marks (by show a.Marks_Before.length < _; omega) a1 (by show a.Marks_Trail.length < _; omega) a2, Equal_Param_ok h (k' + 3) a.Params b.Params (by omega) a3, EqualFunc_Var_ok h k' a.Vars b.Vars a4.1 a4.2 (by omega), i2 a.Inner b.Inner a5.1 a5.2 (by omega), e2 a.Body b.Body a6.1 a6.2 (by omega), Equal_string_ok h (k' + 3) a.End b.End (by omega) a7, Option.bind_some, Bool.true_and, int_dc, ba_dc, and_dc, if_dc]
      exact congrArg some (dc_eq (by rw [TRoutine.eq_iff]; simp only [and_assoc]))
    · show B_slices_EqualFunc_Routine (FF h k) k l m ((), ()) = _
      unfold B_slices_EqualFunc_Routine
      rw [L_EqualFunc_Routine]
      have := bks_Routine_len l
      exact eqF _ _ l m k (by omega) hm fun i hi hi' => by
        have := bks_Routine_mem l i hi
        rw [TRoutine.re_eq, TRoutine.re_eq]
        exact i1 _ _ (fts_Routine_mem l hl i hi) (by omega)
    · show B_r07_SameRoutines (FF h k) k l m = _
      unfold B_r07_SameRoutines
      refine by_lens l m _ fun hlm => ?_
      have hlen := bks_Routine_len l
      have key : ∀ j i, i ≤ l.length → l.length - i < j → Lr07_SameRoutines_4 (FF h k) k l m j l m (i : Int) = some (dc (l.drop i = m.drop i)) := by
        refine up_ind l.length (fun j => ?_) (fun j i hi ihj => ?_)
        · simp only [Lr07_SameRoutines_4]
          rw [if_neg (by simp), dc_true (by simp [hlm])]
        · have h' : i < m.length := by omega
          have c1 : decide ((i : Int) < (l.length : Int)) = true := by simpa using hi
          have c2 : (0 : Int) ≤ (i : Int) := by omega
          have c3 : (i : Int) < (l.length : Int) := by omega
          have c4 : (i : Int) < (m.length : Int) := by omega
          have hbi := bks_Routine_mem l i hi
          have hb := bk_Routine l[i]
          obtain ⟨a1, a2, a3, a4, a5, a6, a7⟩ := ft_Routine l[i] (fts_Routine_mem l hl i hi)
          have l1 := bks_v9_len l[i].Marks_Before
          have l2 := bks_v9_len l[i].Marks_Trail
          have l3 := bks_v9_len l[i].End
          have l4 := bks_Param_len l[i].Params
          obtain ⟨k', rfl⟩ : ∃ k', k = k' + 3 := ⟨k - 3, by omega⟩
          obtain ⟨_, _, e3⟩ := Stmt_all h (k' + 3)
          have w4 : Lr07_SameRoutines_4 (FF h (k' + 3)) (k' + 3) l m j l m (IntKind.i64.wrap ((i : Int) + 1)) = some (dc (l.drop (i + 1) = m.drop (i + 1))) := by rw [wrap_succ hi hm]; exact ihj
          simp only [Lr07_SameRoutines_4, c1, c2, c3, c4, if_true, getD_at l i _ hi, getD_at m i _ h',
            sameMarks_ok h (k' + 1) l[i].sub_Marks m[i].sub_Marks (by show l[i].Marks_Before.length < _; omega) a1 (by show l[i].Marks_Trail.length < _; omega) a2, SameTexts_ok h (k' + 2) l[i].End m[i].End (by omega) a7, Option.bind_some, Bool.false_or, lens_dc, int_ndc, ba_dc, not_dc, or_dc, decide_true]
          by_cases hpl : l[i].Params.length = m[i].Params.length
          · have := SameRoutines_10_ok (FF h (k' + 3)) (k' + 3) l m (Lr07_SameRoutines_4 (FF h (k' + 3)) (k' + 3) l m j) l m (i : Int) l[i].Marks_Before l[i].Marks_Trail l[i].Name l[i].Result l[i].Params l[i].Vars l[i].Inner l[i].Body l[i].End m[i].Marks_Before m[i].Marks_Trail m[i].Name m[i].Result m[i].Params m[i].Vars m[i].Inner m[i].Body m[i].End hpl a3 (sameVars_ok h k' l[i].Vars m[i].Vars a4.1 a4.2 (by omega)) (i3 l[i].Inner m[i].Inner a5.1 a5.2 (by omega)) (e3 l[i].Body m[i].Body a6.1 a6.2 (by omega)) w4 (k' + 3) 0 (Nat.zero_le _) (by omega)
            simp only [Int.ofNat_zero, List.drop_zero] at this
            rw [this, ifn_dc, iff_dc]
            refine congrArg some (dc_eq ?_)
            rw [drop_iff l m i hi h', TRoutine.eq_iff]
            simp only [not_or, Classical.not_not, hpl, and_true]
            constructor
            · rintro ⟨⟨⟨b1, b2⟩, b3⟩, b8, b4, b5, b6, b7, b9⟩
              exact ⟨⟨b1, b2, b3, b4, b5, b6, b7, b8⟩, b9⟩
            · rintro ⟨⟨b1, b2, b3, b4, b5, b6, b7, b8⟩, b9⟩
              exact ⟨⟨⟨b1, b2⟩, b3⟩, b8, b4, b5, b6, b7, b9⟩
          · rw [if_neg (by rw [dc_true (Or.inr (by omega))]; simp)]
            have : ¬ l.drop i = m.drop i := by
              rw [drop_iff l m i hi h', TRoutine.eq_iff]
              rintro ⟨⟨_, _, _, b4, _⟩, _⟩
              exact hpl (by rw [b4])
            rw [dc_false this]
      have := key k 0 (Nat.zero_le _) (by omega)
      simpa using this
end Go.Ev
end
section
open Go
namespace Go.Ev
set_option maxRecDepth 100000
set_option maxHeartbeats 4000000
set_option linter.unusedVariables false
set_option linter.unusedSimpArgs false
variable (h : Fam)
theorem TProgram.eq_iff (x y : TProgram) : x = y ↔ x.Name = y.Name ∧ x.Before = y.Before ∧ x.Mid = y.Mid ∧ x.After = y.After ∧ x.Recs = y.Recs ∧ x.Vars = y.Vars ∧ x.Routines = y.Routines ∧ x.Body = y.Body ∧ x.End = y.End := by
  cases x; cases y; simp
theorem bk_Program (x : TProgram) : bks_v9 x.Before + bks_v9 x.Mid + bks_v9 x.After + bks_TRec x.Recs + bks_TVar x.Vars + bks_TRoutine x.Routines + bks_TStmt x.Body + bks_v9 x.End + 9 ≤ bk_TProgram x := by cases x; simp [bk_TProgram]; omega
theorem ft_Program (x : TProgram) (hx : ft_TProgram x) : x.Before.length ≤ maxLen ∧ x.Mid.length ≤ maxLen ∧ x.After.length ≤ maxLen ∧ (x.Recs.length ≤ maxLen ∧ fts_TRec x.Recs) ∧ (x.Vars.length ≤ maxLen ∧ fts_TVar x.Vars) ∧ (x.Routines.length ≤ maxLen ∧ fts_TRoutine x.Routines) ∧ (x.Body.length ≤ maxLen ∧ fts_TStmt x.Body) ∧ x.End.length ≤ maxLen := by
  cases x; simp only [ft_TProgram] at hx
  obtain ⟨_, ⟨a1, _⟩, ⟨a2, _⟩, ⟨a3, _⟩, a4, a5, a6, a7, a8, _⟩ := hx
  exact ⟨a1, a2, a3, a4, a5, a6, a7, a8⟩
theorem Same_10_ok (k : Nat) (x y : TProgram) (r4 : Int → ByteArray → List ByteArray → List ByteArray → List ByteArray → List TRec → List TVar → List TRoutine → List TStmt → List ByteArray → ByteArray → List ByteArray → List ByteArray → List ByteArray → List TRec → List TVar → List TRoutine → List TStmt → List ByteArray → Option (Bool)) (u0 : Int) (u2 : ByteArray) (u3 u4 u5 : List ByteArray) (u6 : List TRec) (u7 : List TVar) (u8 : List TRoutine) (u9 : List TStmt) (u10 : List ByteArray) (u11 : ByteArray) (u12 u13 u14 : List ByteArray) (u15 : List TRec) (u16 : List TVar) (u17 : List TRoutine) (u18 : List TStmt) (u19 u20 u21 : List ByteArray) (u22 : ByteArray) (P : List TField) (u24 u25 u26 : List ByteArray) (u27 : ByteArray) (R : List TField) (u29 : List ByteArray)
    (hl : P.length = R.length) (hm : P.length ≤ maxLen) (hf : fts_TField P) (hk : bks_TField P ≤ k) {p4 : Prop} (h4 : r4 (IntKind.i64.wrap (u0 + 1)) u2 u3 u4 u5 u6 u7 u8 u9 u10 u11 u12 u13 u14 u15 u16 u17 u18 u19 = some (dc p4)) :
    ∀ j i, i ≤ P.length → P.length - i < j → Lr07_Same_10 (FF h (k + 2)) (k + 2) x y r4 j u0 (i : Int) u2 u3 u4 u5 u6 u7 u8 u9 u10 u11 u12 u13 u14 u15 u16 u17 u18 u19 u20 u21 u22 P u24 u25 u26 u27 R u29 = some (dc (P.drop i = R.drop i ∧ p4)) := by
  refine up_ind P.length (fun j => ?_) (fun j i hi ihj => ?_)
  · simp only [Lr07_Same_10]
    rw [if_neg (by simp), h4]
    exact congrArg some (dc_eq (by simp [hl]))
  · have h' : i < R.length := by omega
    have c1 : decide ((i : Int) < (P.length : Int)) = true := by simpa using hi
    have c2 : (0 : Int) ≤ (i : Int) := by omega
    have c3 : (i : Int) < (P.length : Int) := by omega
    have c4 : (i : Int) < (R.length : Int) := by omega
    have hbi := bks_Field_mem P i hi
    have hb := bk_Field P[i]
    obtain ⟨a1, a2⟩ := ft_Field P[i] (fts_Field_mem P hf i hi)
    have l1 := bks_v9_len P[i].Marks_Before
    have l2 := bks_v9_len P[i].Marks_Trail
    simp only [Lr07_Same_10, c1, c2, c3, c4, if_true, getD_at P i _ hi, getD_at R i _ h', wrap_succ hi hm, ihj,
      sameMarks_ok h k P[i].sub_Marks R[i].sub_Marks (by show P[i].Marks_Before.length < _; omega) a1 (by show P[i].Marks_Trail.length < _; omega) a2, Option.bind_some, Bool.false_or, int_ndc, ba_dc, not_dc, or_dc, ifn_dc, iff_dc]
    refine congrArg some (dc_eq ?_)
    rw [drop_iff P R i hi h', TField.eq_iff]
    simp only [Classical.not_not, and_assoc]
theorem r07_Same_ok (k : Nat) (a b : TProgram) (ha : ft_TProgram a) (hk : bk_TProgram a < k) : (FF h (k + 6)).f_r07_Same (a, b, ()) = some (dc (a = b)) := by
  show B_r07_Same (FF h (k + 5)) (k + 5) a b = _
  have hb := bk_Program a
  obtain ⟨a1, a2, a3, a4, a5, a6, a7, a8⟩ := ft_Program a ha
  have l1 := bks_v9_len a.Before
  have l2 := bks_v9_len a.Mid
  have l3 := bks_v9_len a.After
  have l4 := bks_v9_len a.End
  obtain ⟨_, _, e3⟩ := Stmt_all h (k + 5)
  obtain ⟨_, _, i3⟩ := Routine_all h (k + 5)
  have hlen := bks_Rec_len a.Recs
  have key : ∀ (hlm : a.Recs.length = b.Recs.length), ∀ j i, i ≤ a.Recs.length → a.Recs.length - i < j → Lr07_Same_4 (FF h (k + 5)) (k + 5) a b j (i : Int) a.Name a.Before a.Mid a.After a.Recs a.Vars a.Routines a.Body a.End b.Name b.Before b.Mid b.After b.Recs b.Vars b.Routines b.Body b.End = some (dc (a.Recs.drop i = b.Recs.drop i ∧ a.Vars = b.Vars ∧ a.Routines = b.Routines ∧ a.Body = b.Body)) := by
    intro hlm
    refine up_ind a.Recs.length (fun j => ?_) (fun j i hi ihj => ?_)
    · simp only [Lr07_Same_4]
      rw [if_neg (by simp)]
      simp only [sameVars_ok h (k + 2) a.Vars b.Vars a5.1 a5.2 (by omega), i3 a.Routines b.Routines a6.1 a6.2 (by omega), e3 a.Body b.Body a7.1 a7.2 (by omega), Option.bind_some, Bool.true_and, if_dc]
      exact congrArg some (dc_eq (by simp [hlm]))
    · have h' : i < b.Recs.length := by omega
      have c1 : decide ((i : Int) < (a.Recs.length : Int)) = true := by simpa using hi
      have c2 : (0 : Int) ≤ (i : Int) := by omega
      have c3 : (i : Int) < (a.Recs.length : Int) := by omega
      have c4 : (i : Int) < (b.Recs.length : Int) := by omega
      have hbi := bks_Rec_mem a.Recs i hi
      have hb := bk_Rec a.Recs[i]
      obtain ⟨r1, r2, r3, r4⟩ := ft_Rec a.Recs[i] (fts_Rec_mem a.Recs a4.2 i hi)
      have q1 := bks_v9_len a.Recs[i].Marks_Before
      have q2 := bks_v9_len a.Recs[i].Marks_Trail
      have q3 := bks_v9_len a.Recs[i].End
      have q4 := bks_Field_len a.Recs[i].Fields
      have w4 : Lr07_Same_4 (FF h (k + 5)) (k + 5) a b j (IntKind.i64.wrap ((i : Int) + 1)) a.Name a.Before a.Mid a.After a.Recs a.Vars a.Routines a.Body a.End b.Name b.Before b.Mid b.After b.Recs b.Vars b.Routines b.Body b.End = some (dc (a.Recs.drop (i + 1) = b.Recs.drop (i + 1) ∧ a.Vars = b.Vars ∧ a.Routines = b.Routines ∧ a.Body = b.Body)) := by rw [wrap_succ hi a4.1]; exact ihj
      simp only [Lr07_Same_4, c1, c2, c3, c4, if_true, getD_at a.Recs i _ hi, getD_at b.Recs i _ h',
        sameMarks_ok h (k + 3) a.Recs[i].sub_Marks b.Recs[i].sub_Marks (by show a.Recs[i].Marks_Before.length < _; omega) r1 (by show a.Recs[i].Marks_Trail.length < _; omega) r2, SameTexts_ok h (k + 4) a.Recs[i].End b.Recs[i].End (by omega) r4, Option.bind_some, Bool.false_or, lens_dc, int_ndc, ba_dc, not_dc, or_dc, decide_true]
      by_cases hpl : a.Recs[i].Fields.length = b.Recs[i].Fields.length
      · have := Same_10_ok h (k + 3) a b (Lr07_Same_4 (FF h (k + 5)) (k + 5) a b j) (i : Int) a.Name a.Before a.Mid a.After a.Recs a.Vars a.Routines a.Body a.End b.Name b.Before b.Mid b.After b.Recs b.Vars b.Routines b.Body b.End a.Recs[i].Marks_Before a.Recs[i].Marks_Trail a.Recs[i].Name a.Recs[i].Fields a.Recs[i].End b.Recs[i].Marks_Before b.Recs[i].Marks_Trail b.Recs[i].Name b.Recs[i].Fields b.Recs[i].End hpl r3.1 r3.2 (by omega) w4 (k + 5) 0 (Nat.zero_le _) (by omega)
        simp only [Int.ofNat_zero, List.drop_zero] at this
        rw [this]
        simp only [ifn_dc, iff_dc]
        refine congrArg some (dc_eq ?_)
        rw [drop_iff a.Recs b.Recs i hi h', TRec.eq_iff]
        simp only [not_or, Classical.not_not, hpl, and_true]
        constructor
        · rintro ⟨⟨b1, b2⟩, b3, b4, b5, b6⟩
          exact ⟨⟨⟨b1, b2, b3, b4⟩, b5⟩, b6⟩
        · rintro ⟨⟨⟨b1, b2, b3, b4⟩, b5⟩, b6⟩
          exact ⟨⟨b1, b2⟩, b3, b4, b5, b6⟩
      · have hne : ¬ (a.Recs.drop i = b.Recs.drop i ∧ a.Vars = b.Vars ∧ a.Routines = b.Routines ∧ a.Body = b.Body) := by
          rintro ⟨e, -⟩
          rw [drop_iff a.Recs b.Recs i hi h', TRec.eq_iff] at e
          exact hpl (by rw [e.1.2.2.2])
        rw [dc_false hne, dc_true (p := ¬ a.Recs[i].End = b.Recs[i].End ∨ ¬ (a.Recs[i].Fields.length : Int) = (b.Recs[i].Fields.length : Int)) (Or.inr (by omega))]
        rw [if_pos rfl]
        exact ite_self _
  simp only [B_r07_Same, SameTexts_ok h (k + 4) a.Before b.Before (by omega) a1, SameTexts_ok h (k + 4) a.Mid b.Mid (by omega) a2, SameTexts_ok h (k + 4) a.After b.After (by omega) a3, SameTexts_ok h (k + 4) a.End b.End (by omega) a8, Option.bind_some, Bool.false_or, lens_dc, ba_dc, not_dc, or_dc]
  by_cases hpl : a.Recs.length = b.Recs.length
  · have := key hpl (k + 5) 0 (Nat.zero_le _) (by omega)
    simp only [Int.ofNat_zero, List.drop_zero] at this
    rw [this]
    simp only [ifn_dc, iff_dc]
    refine congrArg some (dc_eq ?_)
    rw [TProgram.eq_iff]
    simp only [not_or, Classical.not_not, hpl, and_true, lens_dc]
    constructor
    · rintro ⟨b1, b2, b3, b4, b9, b5, b6, b7, b8⟩
      exact ⟨b1, b2, b3, b4, b5, b6, b7, b8, b9⟩
    · rintro ⟨b1, b2, b3, b4, b5, b6, b7, b8, b9⟩
      exact ⟨b1, b2, b3, b4, b9, b5, b6, b7, b8⟩
  · have hne : ¬ a = b := fun e => hpl (by rw [e])
    rw [dc_false hne, dc_true (p := ¬ a.End = b.End ∨ ¬ a.Recs.length = b.Recs.length) (Or.inr hpl)]
    rw [if_pos rfl]
    simp only [ite_self]
end Go.Ev
end
section
-- Printed by this session's own program over the printer of the kit (wip/tools/xprint.py); not by print.sh. Lean checks it.
namespace Go.Proofs.YtokkfbkbnocnoaaGreatDoor.B
open Go.RowKit Go.Proofs.YtokkfbkbnocnoaaGreatDoorW.PrintWords Go.Proofs.YtokkfbkbnocnoaaGreatDoorW.PrintLast Go.Proofs.YtokkfbkbnocnoaaGreatDoorW.PrintMore
attribute [local go_sem] max2_int min2_int max_two min_two max_three min_three max_four min_four   -- for this text's walks alone
set_option linter.unusedVariables false
set_option linter.unusedSimpArgs false
def note_of.f (a0 : Int) : Option (ByteArray × ByteArray × ByteArray × Bool) := if a0 = 0 then (some ((⟨#[123]⟩ : ByteArray), (⟨#[125]⟩ : ByteArray), (⟨#[92, 125]⟩ : ByteArray), true)) else (if a0 = 1 then (some ((⟨#[47, 42]⟩ : ByteArray), (⟨#[42, 47]⟩ : ByteArray), (⟨#[92, 42]⟩ : ByteArray), true)) else (some ((⟨#[]⟩ : ByteArray), (⟨#[]⟩ : ByteArray), (⟨#[]⟩ : ByteArray), false)))
set_option maxHeartbeats 8000000 in
set_option maxRecDepth 100000 in
theorem note_of.calls (a0 : Int) (r1 : ByteArray) (r2 : ByteArray) (r3 : ByteArray) (r4 : Bool) (w : World) (h : note_of.f a0 = some (r1, r2, r3, r4)) :
    Calls Tryz.prog 116 #[.int .i64 a0] w fun e w' => e = .returned (.tuple #[.agg #[.string r1, .string r2, .string r3], .bool r4]) ∧ Below w.heap.size w w' := by
  have hu157 := Tryz.underlying157
  have HB := Aside0.mk (Below.refl w.heap.size w)
  have H : (if a0 = 0 then (some ((⟨#[123]⟩ : ByteArray), (⟨#[125]⟩ : ByteArray), (⟨#[92, 125]⟩ : ByteArray), true)) else (if a0 = 1 then (some ((⟨#[47, 42]⟩ : ByteArray), (⟨#[42, 47]⟩ : ByteArray), (⟨#[92, 42]⟩ : ByteArray), true)) else (some ((⟨#[]⟩ : ByteArray), (⟨#[]⟩ : ByteArray), (⟨#[]⟩ : ByteArray), false)))) = some (r1, r2, r3, r4) := h
  clear h
  by_cases c2 : a0 = 0
  · rw [if_pos c2] at H
    have c2b0 : (a0 == 0) = true := beq_iff_eq.mpr c2
    have c2b1 : (a0 != 0) = false := bne_eq_false_iff_eq.mpr c2
    clear c2
    simp only [Option.some.injEq, Prod.mk.injEq] at H
    obtain ⟨rfl, rfl, rfl, rfl⟩ := H
    go_enter Tryz.func116, Tryz.ntmps116
    go_wp2_with (first | ((with_reducible refine gate_dst (N := 2) rfl ?_); refine box_event ?hg (N := 2) ?hd (cs := #[.string (⟨#[]⟩ : ByteArray), .string (⟨#[]⟩ : ByteArray), .string (⟨#[]⟩ : ByteArray)]) (t := 157) ?hr ?_; (case hd => rfl); (case hg => rfl); (case hr => first | (go_simp; done) | (go_simp; rfl)); intro gb101 hg w3 hbox hb; have n0_ := Aside0.mk (below_step (by repeat (first | (with_reducible first | exact HB.out | apply below_alloc | apply pw_below_drewN | apply below_drew1) | exact HB.out)) hb); have n1_ := Aside0.mk (hbox); have n2_ := Aside0.mk ((by rw [hg]; exact (below_size (by repeat (first | (with_reducible first | exact HB.out | apply below_alloc | apply pw_below_drewN | apply below_drew1) | exact HB.out))) : w.heap.size ≤ gb101)); have n3_ := Aside0.mk ((by rw [hg]; exact (below_size (by repeat (first | (with_reducible first | exact HB.out | apply below_alloc | apply pw_below_drewN | apply below_drew1) | exact HB.out))) : w.heap.size ≤ gb101)); clear HB; have HB := n0_; have BK101 := n1_; have GW101 := n2_; have GE101 := n3_; clear n0_ n1_ n2_ n3_; clear hb hbox hg; have hcz4_0 : w3.cell? ⟨gb101, 0, none⟩ = some (.string (⟨#[]⟩ : ByteArray)) := (blk_cell BK101.out 0).trans rfl; have hcz4_1 : w3.cell? ⟨gb101, 1, none⟩ = some (.string (⟨#[]⟩ : ByteArray)) := (blk_cell BK101.out 1).trans rfl; have hcz4_2 : w3.cell? ⟨gb101, 2, none⟩ = some (.string (⟨#[]⟩ : ByteArray)) := (blk_cell BK101.out 2).trans rfl; have hfz4_0 := blk_frozen BK101.out 0; have hfz4_1 := blk_frozen BK101.out 1; have hfz4_2 := blk_frozen BK101.out 2))
    refine bodyPost_ret (results_ct rfl _ _ gb101 157 #[.string (⟨#[123]⟩ : ByteArray), .string (⟨#[125]⟩ : ByteArray), .string (⟨#[92, 125]⟩ : ByteArray)] (0, 0) _ rfl (by (with_reducible repeat (first | refine blk_drewN ?_ _ | refine blk_drew ?_ | refine blk_alloc ?_ _)); refine blk_put (cs := #[.string (⟨#[123]⟩ : ByteArray), .string (⟨#[125]⟩ : ByteArray), .string (⟨#[]⟩ : ByteArray)]) ?_ 2 _ rfl; (with_reducible repeat (first | refine blk_drewN ?_ _ | refine blk_drew ?_ | refine blk_alloc ?_ _)); refine blk_put (cs := #[.string (⟨#[123]⟩ : ByteArray), .string (⟨#[]⟩ : ByteArray), .string (⟨#[]⟩ : ByteArray)]) ?_ 1 _ rfl; (with_reducible repeat (first | refine blk_drewN ?_ _ | refine blk_drew ?_ | refine blk_alloc ?_ _)); refine blk_put (cs := #[.string (⟨#[]⟩ : ByteArray), .string (⟨#[]⟩ : ByteArray), .string (⟨#[]⟩ : ByteArray)]) ?_ 0 _ rfl; (with_reducible repeat (first | refine blk_drewN ?_ _ | refine blk_drew ?_ | refine blk_alloc ?_ _)); exact BK101.out) Tryz.underlying157 rfl (by kernel_rfl)) rfl ?_
    exact ⟨by first | rfl | (simp [errW_none, errW_some] <;> rfl) | (simp [*, errW_none, errW_some] <;> rfl), by repeat (first | (with_reducible first | exact HB.out | apply below_alloc | apply pw_below_drewN | apply below_drew1 | refine below_set ?_ GE101.out) | exact HB.out)⟩
  · rw [if_neg c2] at H
    have c2b0 : (a0 == 0) = false := beq_eq_false_iff_ne.mpr c2
    have c2b1 : (a0 != 0) = true := bne_iff_ne.mpr c2
    by_cases c5 : a0 = 1
    · rw [if_pos c5] at H
      have c5b0 : (a0 == 1) = true := beq_iff_eq.mpr c5
      have c5b1 : (a0 != 1) = false := bne_eq_false_iff_eq.mpr c5
      clear c5
      simp only [Option.some.injEq, Prod.mk.injEq] at H
      obtain ⟨rfl, rfl, rfl, rfl⟩ := H
      go_enter Tryz.func116, Tryz.ntmps116
      go_wp2_with (first | ((with_reducible refine gate_dst (N := 2) rfl ?_); refine box_event ?hg (N := 2) ?hd (cs := #[.string (⟨#[]⟩ : ByteArray), .string (⟨#[]⟩ : ByteArray), .string (⟨#[]⟩ : ByteArray)]) (t := 157) ?hr ?_; (case hd => rfl); (case hg => rfl); (case hr => first | (go_simp; done) | (go_simp; rfl)); intro gb101 hg w6 hbox hb; have n0_ := Aside0.mk (below_step (by repeat (first | (with_reducible first | exact HB.out | apply below_alloc | apply pw_below_drewN | apply below_drew1) | exact HB.out)) hb); have n1_ := Aside0.mk (hbox); have n2_ := Aside0.mk ((by rw [hg]; exact (below_size (by repeat (first | (with_reducible first | exact HB.out | apply below_alloc | apply pw_below_drewN | apply below_drew1) | exact HB.out))) : w.heap.size ≤ gb101)); have n3_ := Aside0.mk ((by rw [hg]; exact (below_size (by repeat (first | (with_reducible first | exact HB.out | apply below_alloc | apply pw_below_drewN | apply below_drew1) | exact HB.out))) : w.heap.size ≤ gb101)); clear HB; have HB := n0_; have BK101 := n1_; have GW101 := n2_; have GE101 := n3_; clear n0_ n1_ n2_ n3_; clear hb hbox hg; have hcz7_0 : w6.cell? ⟨gb101, 0, none⟩ = some (.string (⟨#[]⟩ : ByteArray)) := (blk_cell BK101.out 0).trans rfl; have hcz7_1 : w6.cell? ⟨gb101, 1, none⟩ = some (.string (⟨#[]⟩ : ByteArray)) := (blk_cell BK101.out 1).trans rfl; have hcz7_2 : w6.cell? ⟨gb101, 2, none⟩ = some (.string (⟨#[]⟩ : ByteArray)) := (blk_cell BK101.out 2).trans rfl; have hfz7_0 := blk_frozen BK101.out 0; have hfz7_1 := blk_frozen BK101.out 1; have hfz7_2 := blk_frozen BK101.out 2))
      refine bodyPost_ret (results_ct rfl _ _ gb101 157 #[.string (⟨#[47, 42]⟩ : ByteArray), .string (⟨#[42, 47]⟩ : ByteArray), .string (⟨#[92, 42]⟩ : ByteArray)] (0, 0) _ rfl (by (with_reducible repeat (first | refine blk_drewN ?_ _ | refine blk_drew ?_ | refine blk_alloc ?_ _)); refine blk_put (cs := #[.string (⟨#[47, 42]⟩ : ByteArray), .string (⟨#[42, 47]⟩ : ByteArray), .string (⟨#[]⟩ : ByteArray)]) ?_ 2 _ rfl; (with_reducible repeat (first | refine blk_drewN ?_ _ | refine blk_drew ?_ | refine blk_alloc ?_ _)); refine blk_put (cs := #[.string (⟨#[47, 42]⟩ : ByteArray), .string (⟨#[]⟩ : ByteArray), .string (⟨#[]⟩ : ByteArray)]) ?_ 1 _ rfl; (with_reducible repeat (first | refine blk_drewN ?_ _ | refine blk_drew ?_ | refine blk_alloc ?_ _)); refine blk_put (cs := #[.string (⟨#[]⟩ : ByteArray), .string (⟨#[]⟩ : ByteArray), .string (⟨#[]⟩ : ByteArray)]) ?_ 0 _ rfl; (with_reducible repeat (first | refine blk_drewN ?_ _ | refine blk_drew ?_ | refine blk_alloc ?_ _)); exact BK101.out) Tryz.underlying157 rfl (by kernel_rfl)) rfl ?_
      exact ⟨by first | rfl | (simp [errW_none, errW_some] <;> rfl) | (simp [*, errW_none, errW_some] <;> rfl), by repeat (first | (with_reducible first | exact HB.out | apply below_alloc | apply pw_below_drewN | apply below_drew1 | refine below_set ?_ GE101.out) | exact HB.out)⟩
    · rw [if_neg c5] at H
      have c5b0 : (a0 == 1) = false := beq_eq_false_iff_ne.mpr c5
      have c5b1 : (a0 != 1) = true := bne_iff_ne.mpr c5
      simp only [Option.some.injEq, Prod.mk.injEq] at H
      obtain ⟨rfl, rfl, rfl, rfl⟩ := H
      go_enter Tryz.func116, Tryz.ntmps116
      go_wp2_with (first | ((with_reducible refine gate_dst (N := 2) rfl ?_); refine box_event ?hg (N := 2) ?hd (cs := #[.string (⟨#[]⟩ : ByteArray), .string (⟨#[]⟩ : ByteArray), .string (⟨#[]⟩ : ByteArray)]) (t := 157) ?hr ?_; (case hd => rfl); (case hg => rfl); (case hr => first | (go_simp; done) | (go_simp; rfl)); intro gb101 hg w8 hbox hb; have n0_ := Aside0.mk (below_step (by repeat (first | (with_reducible first | exact HB.out | apply below_alloc | apply pw_below_drewN | apply below_drew1) | exact HB.out)) hb); have n1_ := Aside0.mk (hbox); have n2_ := Aside0.mk ((by rw [hg]; exact (below_size (by repeat (first | (with_reducible first | exact HB.out | apply below_alloc | apply pw_below_drewN | apply below_drew1) | exact HB.out))) : w.heap.size ≤ gb101)); have n3_ := Aside0.mk ((by rw [hg]; exact (below_size (by repeat (first | (with_reducible first | exact HB.out | apply below_alloc | apply pw_below_drewN | apply below_drew1) | exact HB.out))) : w.heap.size ≤ gb101)); clear HB; have HB := n0_; have BK101 := n1_; have GW101 := n2_; have GE101 := n3_; clear n0_ n1_ n2_ n3_; clear hb hbox hg; have hcz9_0 : w8.cell? ⟨gb101, 0, none⟩ = some (.string (⟨#[]⟩ : ByteArray)) := (blk_cell BK101.out 0).trans rfl; have hcz9_1 : w8.cell? ⟨gb101, 1, none⟩ = some (.string (⟨#[]⟩ : ByteArray)) := (blk_cell BK101.out 1).trans rfl; have hcz9_2 : w8.cell? ⟨gb101, 2, none⟩ = some (.string (⟨#[]⟩ : ByteArray)) := (blk_cell BK101.out 2).trans rfl; have hfz9_0 := blk_frozen BK101.out 0; have hfz9_1 := blk_frozen BK101.out 1; have hfz9_2 := blk_frozen BK101.out 2))
      refine bodyPost_ret (results_ct rfl _ _ gb101 157 #[.string (⟨#[]⟩ : ByteArray), .string (⟨#[]⟩ : ByteArray), .string (⟨#[]⟩ : ByteArray)] (0, 0) _ rfl (by (with_reducible repeat (first | refine blk_drewN ?_ _ | refine blk_drew ?_ | refine blk_alloc ?_ _)); refine blk_put (cs := #[.string (⟨#[]⟩ : ByteArray), .string (⟨#[]⟩ : ByteArray), .string (⟨#[]⟩ : ByteArray)]) ?_ 2 _ rfl; (with_reducible repeat (first | refine blk_drewN ?_ _ | refine blk_drew ?_ | refine blk_alloc ?_ _)); refine blk_put (cs := #[.string (⟨#[]⟩ : ByteArray), .string (⟨#[]⟩ : ByteArray), .string (⟨#[]⟩ : ByteArray)]) ?_ 1 _ rfl; (with_reducible repeat (first | refine blk_drewN ?_ _ | refine blk_drew ?_ | refine blk_alloc ?_ _)); refine blk_put (cs := #[.string (⟨#[]⟩ : ByteArray), .string (⟨#[]⟩ : ByteArray), .string (⟨#[]⟩ : ByteArray)]) ?_ 0 _ rfl; (with_reducible repeat (first | refine blk_drewN ?_ _ | refine blk_drew ?_ | refine blk_alloc ?_ _)); exact BK101.out) Tryz.underlying157 rfl (by kernel_rfl)) rfl ?_
      exact ⟨by first | rfl | (simp [errW_none, errW_some] <;> rfl) | (simp [*, errW_none, errW_some] <;> rfl), by repeat (first | (with_reducible first | exact HB.out | apply below_alloc | apply pw_below_drewN | apply below_drew1 | refine below_set ?_ GE101.out) | exact HB.out)⟩
def note_right.f (a0 : Int) : Option (Bool) := if a0 = 9 then (some true) else (if a0 = 10 then (some true) else (if a0 ≥ 32 then (some (decide (a0 ≤ 126))) else (some false)))
set_option maxHeartbeats 8000000 in
set_option maxRecDepth 100000 in
theorem note_right.calls (a0 : Int) (r : Bool) (w : World) (h : note_right.f a0 = some r) :
    Calls Tryz.prog 118 #[.int .u8 a0] w fun e w' => e = .returned (.bool r) ∧ Drawn0 w w' := by
  have H : (if a0 = 9 then (some true) else (if a0 = 10 then (some true) else (if a0 ≥ 32 then (some (decide (a0 ≤ 126))) else (some false)))) = some r := h
  clear h
  by_cases c2 : a0 = 9
  · rw [if_pos c2] at H
    have c2b0 : (a0 == 9) = true := beq_iff_eq.mpr c2
    have c2b1 : (a0 != 9) = false := bne_eq_false_iff_eq.mpr c2
    clear c2
    obtain rfl := Option.some.inj H
    go_enter Tryz.func118, Tryz.ntmps118
    go_wp2
    go_ret
    exact ⟨by first | rfl | (simp; done) | (simp [*]; done), by repeat (first | exact Drawn0.refl _ | apply Drawn0.step)⟩
  · rw [if_neg c2] at H
    have c2b0 : (a0 == 9) = false := beq_eq_false_iff_ne.mpr c2
    have c2b1 : (a0 != 9) = true := bne_iff_ne.mpr c2
    by_cases c3 : a0 = 10
    · rw [if_pos c3] at H
      have c3b0 : (a0 == 10) = true := beq_iff_eq.mpr c3
      have c3b1 : (a0 != 10) = false := bne_eq_false_iff_eq.mpr c3
      clear c3
      obtain rfl := Option.some.inj H
      go_enter Tryz.func118, Tryz.ntmps118
      go_wp2
      go_ret
      exact ⟨by first | rfl | (simp; done) | (simp [*]; done), by repeat (first | exact Drawn0.refl _ | apply Drawn0.step)⟩
    · rw [if_neg c3] at H
      have c3b0 : (a0 == 10) = false := beq_eq_false_iff_ne.mpr c3
      have c3b1 : (a0 != 10) = true := bne_iff_ne.mpr c3
      by_cases c4 : a0 ≥ 32
      · rw [if_pos c4] at H
        have c4b0 : decide (32 ≤ a0) = true := decide_eq_true c4
        clear c4
        obtain rfl := Option.some.inj H
        go_enter Tryz.func118, Tryz.ntmps118
        go_wp2
        go_ret
        exact ⟨by first | rfl | (simp; done) | (simp [*]; done), by repeat (first | exact Drawn0.refl _ | apply Drawn0.step)⟩
      · rw [if_neg c4] at H
        have c4b0 : decide (32 ≤ a0) = false := decide_eq_false c4
        clear c4
        obtain rfl := Option.some.inj H
        go_enter Tryz.func118, Tryz.ntmps118
        go_wp2
        go_ret
        exact ⟨by first | rfl | (simp; done) | (simp [*]; done), by repeat (first | exact Drawn0.refl _ | apply Drawn0.step)⟩
def stringslite_HasPrefix.f (a0 : ByteArray) (a1 : ByteArray) : Option (Bool) := if (a0.size : Int) ≥ (a1.size : Int) then (if 0 ≤ (a1.size : Int) then (if (a1.size : Int) ≤ (a0.size : Int) then (some ((a0.extract 0 a1.size).toList == a1.toList)) else (none)) else (none)) else (some false)
set_option maxHeartbeats 8000000 in
set_option maxRecDepth 100000 in
theorem stringslite_HasPrefix.calls (a0 : ByteArray) (a1 : ByteArray) (r : Bool) (w : World) (h : stringslite_HasPrefix.f a0 a1 = some r) :
    Calls Tryz.prog 150 #[.string a0, .string a1] w fun e w' => e = .returned (.bool r) ∧ Drawn0 w w' := by
  have H : (if (a0.size : Int) ≥ (a1.size : Int) then (if 0 ≤ (a1.size : Int) then (if (a1.size : Int) ≤ (a0.size : Int) then (some ((a0.extract 0 a1.size).toList == a1.toList)) else (none)) else (none)) else (some false)) = some r := h
  clear h
  by_cases c3 : (a0.size : Int) ≥ (a1.size : Int)
  · rw [if_pos c3] at H
    have c3b0 : decide ((a1.size : Int) ≤ (a0.size : Int)) = true := decide_eq_true c3
    have c3b1 : decide (a1.size ≤ a0.size) = true := decide_eq_true (Int.ofNat_le.mp c3)
    clear c3
    by_cases c4 : 0 ≤ (a1.size : Int)
    · rw [if_pos c4] at H
      have c4b0 := eq_true c4
      have c4b1 : decide (0 ≤ (a1.size : Int)) = true := decide_eq_true c4
      clear c4
      by_cases c5 : (a1.size : Int) ≤ (a0.size : Int)
      · rw [if_pos c5] at H
        have c5b0 := eq_true c5
        have c5b1 : decide ((a1.size : Int) ≤ (a0.size : Int)) = true := decide_eq_true c5
        clear c5
        obtain rfl := Option.some.inj H
        go_enter Tryz.func150, Tryz.ntmps150
        go_wp2
        go_ret
        exact ⟨by first | rfl | (simp; done) | (simp [*]; done), by repeat (first | exact Drawn0.refl _ | apply Drawn0.step)⟩
      · rw [if_neg c5] at H
        exact absurd H (by simp)
    · rw [if_neg c4] at H
      exact absurd H (by simp)
  · rw [if_neg c3] at H
    have c3b0 : decide ((a1.size : Int) ≤ (a0.size : Int)) = false := decide_eq_false c3
    have c3b1 : decide (a1.size ≤ a0.size) = false := decide_eq_false (fun h => c3 (Int.ofNat_le.mpr h))
    clear c3
    obtain rfl := Option.some.inj H
    go_enter Tryz.func150, Tryz.ntmps150
    go_wp2
    go_ret
    exact ⟨by first | rfl | (simp; done) | (simp [*]; done), by repeat (first | exact Drawn0.refl _ | apply Drawn0.step)⟩
def strings_HasPrefix.f (a0 : ByteArray) (a1 : ByteArray) : Option (Bool) := (stringslite_HasPrefix.f a0 a1).bind fun t102 => (some t102)
set_option maxHeartbeats 8000000 in
set_option maxRecDepth 100000 in
theorem strings_HasPrefix.calls (a0 : ByteArray) (a1 : ByteArray) (r : Bool) (w : World) (h : strings_HasPrefix.f a0 a1 = some r) :
    Calls Tryz.prog 119 #[.string a0, .string a1] w fun e w' => e = .returned (.bool r) ∧ Drawn0 w w' := by
  have H : ((stringslite_HasPrefix.f a0 a1).bind fun t102 => (some t102)) = some r := h
  clear h
  replace H := Option.bind_eq_some_iff.mp H
  obtain ⟨t102, A30, H⟩ := H
  replace H : (some t102) = some r := H
  have A3 := Aside0.mk A30
  clear A30
  obtain rfl := Option.some.inj H
  go_enter Tryz.func119, Tryz.ntmps119
  go_wp2_with (first | ((with_reducible refine gate_callee (f := 150) rfl ?_); refine goesL_ (some 7) rfl rfl Tryz.func150 (by kernel_rfl) rfl #[.string a0, .string a1] rfl (by (try simp only [List.map_toArray, List.map_cons, List.map_nil]); first | done | rfl | (simp only [List.length_drop, List.length_take]; rfl)) ?_; (with_reducible refine (stringslite_HasPrefix.calls a0 a1 t102 _ A3.out).mono ?_); rintro e w' ⟨rfl, ⟨nd, rfl⟩⟩; refine ⟨_, rfl, ?_⟩))
  go_ret
  exact ⟨by first | rfl | (simp; done) | (simp [*]; done), by repeat (first | exact Drawn0.refl _ | apply Drawn0.step)⟩
end Go.Proofs.YtokkfbkbnocnoaaGreatDoor.B
end
section
namespace Go.Proofs.YtokkfbkbnocnoaaGreatDoor.Bld
open Go.Shelf Go.RowKit
def ren : Go.Shelf.Ren := ⟨fun | 166 => 117 | 167 => 120 | 169 => 121 | 240 => 149 | 276 => 157 | n => n, fun | 0 => 0 | 3 => 3 | 4 => 4 | 5 => 5 | 9 => 9 | 20 => 20 | 37 => 161 | 70 => 160 | 72 => 163 | 75 => 165 | 80 => 171 | 127 => 195 | 164 => 202 | n => n, fun | n => n⟩
theorem lays167 : Go.Proofs.Lays.n167 Tryz.prog ren := {
  mixed := by kernel_rfl
  f167 := Tryz.func120.trans (congrArg some (by kernel_rfl))
  f240 := Tryz.func149.trans (congrArg some (by kernel_rfl))
  f276 := Tryz.func157.trans (congrArg some (by kernel_rfl))
  t0 := Tryz.underlying0
  a0 := Tryz.isAgg0
  z0 := Tryz.sizeOf0
  v0 := Tryz.zeroValue0
  t4 := Tryz.underlying4
  a4 := Tryz.isAgg4
  z4 := Tryz.sizeOf4
  v4 := Tryz.zeroValue4
  t5 := Tryz.underlying5
  a5 := Tryz.isAgg5
  z5 := Tryz.sizeOf5
  v5 := Tryz.zeroValue5
  t9 := Tryz.underlying9
  a9 := Tryz.isAgg9
  z9 := Tryz.sizeOf9
  v9 := Tryz.zeroValue9
  t20 := Tryz.underlying20
  a20 := Tryz.isAgg20
  z20 := Tryz.sizeOf20
  v20 := Tryz.zeroValue20
  t37 := Tryz.underlying161
  a37 := Tryz.isAgg161
  z37 := Tryz.sizeOf161
  v37 := Tryz.zeroValue161
  t70 := Tryz.underlying160
  a70 := Tryz.isAgg160
  z70 := Tryz.sizeOf160
  v70 := Tryz.zeroValue160
  t72 := Tryz.underlying163
  a72 := Tryz.isAgg163
  z72 := Tryz.sizeOf163
  v72 := Tryz.zeroValue163
  t75 := Tryz.underlying165
  a75 := Tryz.isAgg165
  z75 := Tryz.sizeOf165
  v75 := Tryz.zeroValue165
  t164 := Tryz.underlying202
  a164 := Tryz.isAgg202
  z164 := Tryz.sizeOf202
  v164 := Tryz.zeroValue202 }
theorem lays166 : Go.Proofs.Lays.n166 Tryz.prog ren := {
  mixed := by kernel_rfl
  f166 := Tryz.func117.trans (congrArg some (by kernel_rfl))
  f240 := Tryz.func149.trans (congrArg some (by kernel_rfl))
  f276 := Tryz.func157.trans (congrArg some (by kernel_rfl))
  t0 := Tryz.underlying0
  a0 := Tryz.isAgg0
  z0 := Tryz.sizeOf0
  v0 := Tryz.zeroValue0
  t3 := Tryz.underlying3
  a3 := Tryz.isAgg3
  z3 := Tryz.sizeOf3
  v3 := Tryz.zeroValue3
  t4 := Tryz.underlying4
  a4 := Tryz.isAgg4
  z4 := Tryz.sizeOf4
  v4 := Tryz.zeroValue4
  t9 := Tryz.underlying9
  a9 := Tryz.isAgg9
  z9 := Tryz.sizeOf9
  v9 := Tryz.zeroValue9
  t20 := Tryz.underlying20
  a20 := Tryz.isAgg20
  z20 := Tryz.sizeOf20
  v20 := Tryz.zeroValue20
  t37 := Tryz.underlying161
  a37 := Tryz.isAgg161
  z37 := Tryz.sizeOf161
  v37 := Tryz.zeroValue161
  t70 := Tryz.underlying160
  a70 := Tryz.isAgg160
  z70 := Tryz.sizeOf160
  v70 := Tryz.zeroValue160
  t72 := Tryz.underlying163
  a72 := Tryz.isAgg163
  z72 := Tryz.sizeOf163
  v72 := Tryz.zeroValue163
  t75 := Tryz.underlying165
  a75 := Tryz.isAgg165
  z75 := Tryz.sizeOf165
  v75 := Tryz.zeroValue165
  t164 := Tryz.underlying202
  a164 := Tryz.isAgg202
  z164 := Tryz.sizeOf202
  v164 := Tryz.zeroValue202 }
theorem lays169 : Go.Proofs.Lays.n169 Tryz.prog ren := {
  mixed := by kernel_rfl
  f169 := Tryz.func121.trans (congrArg some (by kernel_rfl))
  t0 := Tryz.underlying0
  a0 := Tryz.isAgg0
  z0 := Tryz.sizeOf0
  v0 := Tryz.zeroValue0
  t3 := Tryz.underlying3
  a3 := Tryz.isAgg3
  z3 := Tryz.sizeOf3
  v3 := Tryz.zeroValue3
  t9 := Tryz.underlying9
  a9 := Tryz.isAgg9
  z9 := Tryz.sizeOf9
  v9 := Tryz.zeroValue9
  t37 := Tryz.underlying161
  a37 := Tryz.isAgg161
  z37 := Tryz.sizeOf161
  v37 := Tryz.zeroValue161
  t70 := Tryz.underlying160
  a70 := Tryz.isAgg160
  z70 := Tryz.sizeOf160
  v70 := Tryz.zeroValue160
  t72 := Tryz.underlying163
  a72 := Tryz.isAgg163
  z72 := Tryz.sizeOf163
  v72 := Tryz.zeroValue163
  t127 := Tryz.underlying195
  a127 := Tryz.isAgg195
  z127 := Tryz.sizeOf195
  v127 := Tryz.zeroValue195 }
theorem extra : Builder.Extra Tryz.prog ren := {
  sizeBuilder := by kernel_rfl
  liesBuilder := by kernel_rfl
  t5 := Tryz.underlying5
  a5 := Tryz.isAgg5
  z5 := Tryz.sizeOf5
  v5 := Tryz.zeroValue5
  infoByte := by kernel_rfl
  cellsByte := by kernel_rfl
  sizeByte := by kernel_rfl
  neB5 := by decide }
theorem writeByte (B b : Nat) (bs : List Value) (c : Int) (w : World) (h : Lib.IsBuilderF 163 5 B b bs w) (hlen : bs.length + 1 ≤ 140737488355328) (hBw : B ≤ w.heap.size) :
    Calls Tryz.prog 120 #[.pointer (some ⟨b, 0, none⟩), .int .u8 c] w fun e w' => e = .returned .nilIface ∧ (Lib.BuilderAtF 163 5 B b (.pointer (some ⟨b, 0, none⟩)) (bs ++ [.int .u8 c]) w' ∧ Below B w w' ∧ Lib.OthersKept 5 (some b) w w') := Any.Builder_WriteByte_k lays167 extra B b bs c w h hlen hBw
theorem writeString (B b : Nat) (bs : List Value) (s : ByteArray) (w : World) (h : Lib.IsBuilderF 163 5 B b bs w) (hlen : bs.length + s.size ≤ 140737488355328) (hBw : B ≤ w.heap.size) :
    Calls Tryz.prog 117 #[.pointer (some ⟨b, 0, none⟩), .string s] w fun e w' => e = .returned (.tuple #[.int .i64 s.size, .nilIface]) ∧ (Lib.BuilderAtF 163 5 B b (.pointer (some ⟨b, 0, none⟩)) (bs ++ Lib.strCells s) w' ∧ Below B w w' ∧ Lib.OthersKept 5 (some b) w w') := Any.Builder_WriteString_k lays166 extra B b bs s w h hlen hBw
theorem string (B b : Nat) (l : List UInt8) (w : World) (h : Lib.IsBuilderF 163 5 B b (Lib.byteCells l) w) (hBw : B ≤ w.heap.size) :
    Calls Tryz.prog 121 #[.pointer (some ⟨b, 0, none⟩)] w fun e w' => e = .returned (.string ⟨l.toArray⟩) ∧ (Lib.IsBuilderF 163 5 B b (Lib.byteCells l) w' ∧ Below B w w' ∧ Lib.OthersKept 5 (some b) w w') := Any.Builder_String_any_k lays169 extra B b l w h hBw
end Go.Proofs.YtokkfbkbnocnoaaGreatDoor.Bld
end
section
namespace Go.Proofs.YtokkfbkbnocnoaaGreatDoor.Np
open Go.RowKit Go.Proofs.YtokkfbkbnocnoaaGreatDoor.B Go.Proofs.YtokkfbkbnocnoaaGreatDoorW.PrintWords Go.Proofs.YtokkfbkbnocnoaaGreatDoorW.PrintLast Go.Proofs.YtokkfbkbnocnoaaGreatDoorW.PrintMore
def nright (c : UInt8) : Bool := decide (c.toNat = 9) || decide (c.toNat = 10) || (decide (32 ≤ c.toNat) && decide (c.toNat ≤ 126))
def nmark (d : Int) (c : UInt8) (r : List UInt8) : Bool := decide (c.toNat = 92) || (decide (d = 0) && decide (c.toNat = 125)) || (decide (d ≠ 0) && decide (c.toNat = 42) && decide (r.head? = some 47))
def nbody (d : Int) : List UInt8 → List UInt8
  | [] => []
  | c :: r => (if nmark d c r then [92, c] else [c]) ++ nbody d r
def nopen (d : Int) : List UInt8 := if d = 0 then [123] else [47, 42]
def nend (d : Int) : List UInt8 := if d = 0 then [125] else [42, 47]
def nform (d : Int) (s : ByteArray) : ByteArray := ⟨(nopen d ++ nbody d s.data.toList ++ nend d).toArray⟩
def npr (d : Int) (s : ByteArray) : ByteArray × Int :=
  if d = 0 ∨ d = 1 then (if 1024 < s.size then (⟨#[]⟩, 3) else if s.data.toList.all nright then (nform d s, 0) else (⟨#[]⟩, 8)) else (⟨#[]⟩, 1)
def note_Print.f (a0 : Int) (a1 : ByteArray) : Option (ByteArray × Int) := some (npr a0 a1)
def Res (d : Int) (s : ByteArray) (e : Ending) : Prop := e = .returned (.tuple #[.string (npr d s).1, .int .i64 (npr d s).2])
theorem right_f (c : UInt8) : note_right.f (c.toNat : Int) = some (nright c) := by
  have h : c.toNat < 256 := c.toNat_lt
  unfold note_right.f nright
  by_cases h1 : (c.toNat : Int) = 9
  · have : c.toNat = 9 := by omega
    simp [this]
  by_cases h2 : (c.toNat : Int) = 10
  · have : c.toNat = 10 := by omega
    simp [this]
  by_cases h3 : (c.toNat : Int) ≥ 32
  · rw [if_neg h1, if_neg h2, if_pos h3]
    have a : c.toNat ≠ 9 := by omega
    have b : c.toNat ≠ 10 := by omega
    have g : 32 ≤ c.toNat := by omega
    have e : decide ((c.toNat : Int) ≤ 126) = decide (c.toNat ≤ 126) := by
      rw [decide_eq_decide]; omega
    simp [a, b, g, e]
  · rw [if_neg h1, if_neg h2, if_neg h3]
    have a : c.toNat ≠ 9 := by omega
    have b : c.toNat ≠ 10 := by omega
    have g : ¬ 32 ≤ c.toNat := by omega
    simp [a, b, g]
theorem of_wrong (d : Int) (h0 : d ≠ 0) (h1 : d ≠ 1) : note_of.f d = some (⟨#[]⟩, ⟨#[]⟩, ⟨#[]⟩, false) := by
  unfold note_of.f; rw [if_neg h0, if_neg h1]
set_option maxHeartbeats 4000000 in
set_option maxRecDepth 1000000 in
theorem walk_wrong (d : Int) (s : ByteArray) (w : World) (h0 : d ≠ 0) (h1 : d ≠ 1) :
    Calls Tryz.prog 68 #[.int .i64 d, .string s] w fun e w' => Res d s e ∧ Below w.heap.size w w' := by
  have hf := Lib.hid (of_wrong d h0 h1)
  have hr : Hid (npr d s = (⟨#[]⟩, 1)) := Lib.hid (by unfold npr; rw [if_neg (by omega)])
  clear h0 h1
  go_enter Tryz.func68, Tryz.ntmps68
  go_wp2_with (go_at_call 116; refine (note_of.calls _ _ _ _ _ _ hf.out).mono ?_; rintro e w1 ⟨rfl, hb1⟩)
  go_ret2
  exact ⟨by unfold Res; rw [hr.out]; rfl, hb1.alloc hb1.size _⟩
theorem byteCells_str (s : ByteArray) : Lib.strCells s = Lib.byteCells s.data.toList := rfl
theorem nx_data (s : ByteArray) (p : Nat) (h : p < s.size) : s.data.toList.drop p = s[p] :: s.data.toList.drop (p + 1) := by
  have h' : p < s.data.toList.length := by simpa using h
  rw [List.drop_eq_getElem_cons h']; rfl
theorem prefix_f (a b : ByteArray) : strings_HasPrefix.f a b = some (b.data.toList.isPrefixOf a.data.toList) := by
  have h : stringslite_HasPrefix.f a b = some (b.data.toList.isPrefixOf a.data.toList) := by
    unfold stringslite_HasPrefix.f
    by_cases h : (a.size : Int) ≥ (b.size : Int)
    · rw [if_pos h, if_pos (by omega), if_pos (by omega)]
      have e : (a.extract 0 ((b.size : Int) : Int).toNat).toList = a.data.toList.take b.data.toList.length := by
        rw [Lib.extract_toList, List.drop_zero, data_length]; congr 1
      have e2 : (a.data.toList.take b.data.toList.length == b.data.toList) = b.data.toList.isPrefixOf a.data.toList := by
        rw [Bool.eq_iff_iff, beq_iff_eq, List.isPrefixOf_iff_prefix, List.prefix_iff_eq_take]
        exact eq_comm
      first
        | rw [e, Lib.toList_data, e2]
        | rw [show (a.extract 0 b.size).toList = a.data.toList.take b.data.toList.length from e, Lib.toList_data, e2]
    · rw [if_neg h]
      have : b.data.toList.isPrefixOf a.data.toList = false := by
        rw [Bool.eq_false_iff]; intro hp
        have := (List.isPrefixOf_iff_prefix.mp hp).length_le
        rw [data_length, data_length] at this; omega
      rw [this]
  unfold strings_HasPrefix.f; rw [h]; try rfl
theorem ext_end (s : ByteArray) (a : Nat) : (s.extract a s.size).data.toList = s.data.toList.drop a := by
  rw [Lib.extract_data, List.take_of_length_le (by rw [List.length_drop, data_length]; exact Nat.le_refl _)]
theorem end_mark (d : Int) (hd : d = 0 ∨ d = 1) (c : UInt8) (r : List UInt8) (h : c.toNat ≠ 92) : (nend d).isPrefixOf (c :: r) = nmark d c r := by
  have e (c : UInt8) (n : Nat) (hn : n < 256) : (c == UInt8.ofNat n) = decide (c.toNat = n) := by
    rw [Bool.eq_iff_iff, beq_iff_eq, decide_eq_true_eq, ← UInt8.toNat_inj, UInt8.toNat_ofNat_of_lt' hn]
  rcases hd with rfl | rfl
  · have := e c 125 (by omega)
    have h2 : ((125 : UInt8) == c) = decide (c.toNat = 125) := by rw [← this, Bool.eq_iff_iff, beq_iff_eq, beq_iff_eq]; exact eq_comm
    simp [nend, nmark, List.isPrefixOf, h, h2]
  · have h2 : ((42 : UInt8) == c) = decide (c.toNat = 42) := by rw [← e c 42 (by omega), Bool.eq_iff_iff, beq_iff_eq, beq_iff_eq]; exact eq_comm
    cases r with
    | nil => simp [nend, nmark, List.isPrefixOf, h]
    | cons y r =>
      have h3 : ((47 : UInt8) == y) = decide (y = 47) := by rw [Bool.eq_iff_iff, beq_iff_eq, decide_eq_true_eq]; exact eq_comm
      simp [nend, nmark, List.isPrefixOf, h, h2, h3]
theorem mark_92 (d : Int) (c : UInt8) (r : List UInt8) (h : c.toNat = 92) : nmark d c r = true := by simp [nmark, h]
theorem res_wrong (d : Int) (hd : d = 0 ∨ d = 1) (s : ByteArray) (hs : s.size ≤ 1024) (pos : Nat) (hp : pos < s.size) (h : ¬ nright s[pos] = true) : npr d s = (⟨#[]⟩, 8) := by
  unfold npr
  rw [if_pos hd, if_neg (by omega), if_neg ?_]
  intro ha
  rw [List.all_eq_true] at ha
  exact h (ha _ (by
    have : s[pos] = s.data.toList[pos]'(by simpa using hp) := rfl
    rw [this]; exact List.getElem_mem _))
theorem res_right (d : Int) (hd : d = 0 ∨ d = 1) (s : ByteArray) (hs : s.size ≤ 1024) (h : s.data.toList.all nright = true) : npr d s = (nform d s, 0) := by
  unfold npr
  rw [if_pos hd, if_neg (by omega), if_pos h]
theorem nopen_len (d : Int) : (nopen d).length ≤ 2 := by unfold nopen; split <;> simp
theorem res_end (d : Int) (hd : d = 0 ∨ d = 1) (s : ByteArray) (hs : s.size ≤ 1024) (pos : Nat) (acc : List UInt8) (hp : ¬ pos < s.size) (hall : (s.data.toList.take pos).all nright = true) (hacc : acc ++ nbody d (s.data.toList.drop pos) = nbody d s.data.toList) :
    Res d s (.returned (.tuple #[.string ⟨(nopen d ++ (acc ++ nend d)).toArray⟩, .int .i64 0])) := by
  have hl : s.data.toList.length ≤ pos := by rw [data_length]; omega
  rw [List.take_of_length_le hl] at hall
  rw [List.drop_eq_nil_of_le hl] at hacc
  simp only [nbody, List.append_nil] at hacc
  unfold Res; rw [res_right d hd s hs hall, hacc, ← List.append_assoc]; rfl
def Rel (d : Int) (op en qu s : ByteArray) (w : World) (g k : Nat) (wr : World) : Prop :=
  ∃ (pos : Nat) (acc : List UInt8), pos ≤ s.size ∧ (s.data.toList.take pos).all nright = true ∧ Lib.IsBuilderF 163 5 (g + 1) (g + 1) (Lib.byteCells (nopen d ++ acc)) wr ∧ wr.heap[k]? = some (.stringIter s pos) ∧
    wr.heap[g]? = some (.cells #[.string op, .string en, .string qu] 157 (0, 0)) ∧ Below w.heap.size w wr ∧ g + 1 ≤ wr.heap.size ∧ acc ++ nbody d (s.data.toList.drop pos) = nbody d s.data.toList ∧ acc.length ≤ 2 * pos
theorem byteCells_snoc (l : List UInt8) (c : UInt8) : Lib.byteCells (l ++ [c]) = Lib.byteCells l ++ [.int .u8 (c.toNat : Int)] := by rw [Lib.byteCells_append]; rfl
theorem take_snoc (s : ByteArray) (p : Nat) (h : p < s.size) : s.data.toList.take (p + 1) = s.data.toList.take p ++ [s[p]] := by
  rw [List.take_succ_eq_append_getElem (by simpa using h)]; rfl
theorem rel_step (d : Int) (op en qu s : ByteArray) (w : World) (g k pos : Nat) (acc : List UInt8) (w8 : World) (mk : Bool) (hp : pos < s.size) (hc : nright s[pos] = true) (hall : (s.data.toList.take pos).all nright = true)
    (hacc : acc ++ nbody d (s.data.toList.drop pos) = nbody d s.data.toList) (hlen : acc.length ≤ 2 * pos) (hmk : nmark d s[pos] (s.data.toList.drop (pos + 1)) = mk)
    (hI : Lib.IsBuilderF 163 5 (g + 1) (g + 1) (Lib.byteCells ((nopen d ++ (if mk then acc ++ [92] else acc)) ++ [s[pos]])) w8) (hit : w8.heap[k]? = some (.stringIter s (pos + 1)))
    (hm : w8.heap[g]? = some (.cells #[.string op, .string en, .string qu] 157 (0, 0))) (hb : Below w.heap.size w w8) (hz : g + 1 ≤ w8.heap.size) : Rel d op en qu s w g k w8 := by
  refine ⟨pos + 1, (if mk then acc ++ [92] else acc) ++ [s[pos]], hp, ?_, by rw [List.append_assoc] at hI; exact hI, hit, hm, hb, hz, ?_, ?_⟩
  · rw [take_snoc s pos hp, List.all_append, hall]; simp [hc]
  · rw [← hacc, nx_data s pos hp]
    simp only [nbody, hmk]
    cases mk <;> simp
  · cases mk <;> simp <;> omega
set_option maxHeartbeats 8000000 in
set_option maxRecDepth 1000000 in
theorem walk_right (d : Int) (op en qu : ByteArray) (s : ByteArray) (w : World) (hf0 : note_of.f d = some (op, en, qu, true)) (hop0 : op.data.toList = nopen d) (hop1 : op.size ≤ 2) (hen0 : en.data.toList = nend d) (hen1 : en.size ≤ 2) (hs : s.size ≤ 1024) (hd0 : d = 0 ∨ d = 1) :
    Calls Tryz.prog 68 #[.int .i64 d, .string s] w fun e w' => Res d s e ∧ Below w.heap.size w w' := by
  have hd' := Lib.hid hd0; clear hd0
  have hf := Lib.hid hf0; clear hf0
  have hop := Lib.hid hop0; clear hop0
  have hen := Lib.hid hen0; clear hen0
  go_enter Tryz.func68, Tryz.ntmps68
  go_wp2_with (go_at_call 116; refine (note_of.calls _ _ _ _ _ _ hf.out).mono ?_; rintro e w1 ⟨rfl, hb1⟩)
  have hI0 : Lib.IsBuilderF 163 5 (w1.heap.size + 1) (w1.heap.size + 1) [] ((w1.alloc (.cells #[.string op, .string en, .string qu] 157)).alloc (.cells #[.pointer none, .slice none 0 0] 163)) := by
    have h := Lib.IsBuilderF.of (Lib.fresh_isBuilder 163 5 (w1.alloc (.cells #[.string op, .string en, .string qu] 157)))
    simpa using h
  refine (Bld.writeString (w1.heap.size + 1) (w1.heap.size + 1) [] op _ hI0 (by simp; omega) (by simp)).mono ?_
  rintro e w2 ⟨rfl, hI2, hb2, hk2⟩
  have hm2 : w2.heap[w1.heap.size]? = some (.cells #[.string op, .string en, .string qu] 157 (0, 0)) := by
    rw [hb2.block _ (by omega)]
    exact (Lib.alloc_old _ _ _ (by simp)).trans (heap_alloc_new w1 _)
  have hI2' : Lib.IsBuilderF 163 5 (w1.heap.size + 1) (w1.heap.size + 1) (Lib.byteCells (nopen d)) w2 := by
    rw [List.nil_append, byteCells_str, hop.out] at hI2
    exact .inr hI2
  have hw2 : Below w.heap.size w w2 := ((hb1.alloc hb1.size _).alloc (by have := hb1.size; simp; omega) _).trans (hb2.mono (by have := hb1.size; omega))
  have hz2 : w1.heap.size + 1 < w2.heap.size := hI2.lt
  have hwg : w.heap.size ≤ w1.heap.size + 1 := by have := hb1.size; omega
  clear hI0 hI2 hb2 hk2 hb1
  generalize w1.heap.size = g at *
  clear w1
  go_wp2
  have hkw0 : w.heap.size ≤ w2.heap.size := hw2.size
  generalize hk : w2.heap.size = k at *
  go_loopw [] (fun wr => Rel d op en qu s w g k wr) (fun wr => s.size - wr.iterPos k)
  case atStart =>
    refine ⟨0, [], Nat.zero_le _, by simp, ?_, ?_, ?_, ?_, ?_, ?_, by simp⟩
    · rw [List.append_nil]; exact hI2'.alloc _
    · rw [← hk]; exact World.iter_heap w2 s 0
    · exact (Lib.alloc_old _ _ _ (by omega)).trans hm2
    · exact hw2.alloc (by have := hw2.size; omega) _
    · show g + 1 ≤ (w2.alloc _).heap.size
      simp; omega
    · simp
  case round =>
    obtain ⟨pos, acc, hp0, hall, hI, hit, hm, hbw, hgz, hacc, hlen⟩ := hrel
    have hkw := hkw0
    clear hI2' hm2 hw2 hz2 hk hkw0
    clear w2
    have Hall := Lib.hid hall; clear hall
    have Hacc := Lib.hid hacc; clear hacc
    by_cases hp : pos < s.size
    · have hdrop := Lib.hid (nx_data s pos hp)
      by_cases hc0 : nright s[pos] = true
      · have ha : (s[pos]'hp).toNat < 128 := by
          have h := hc0
          simp only [nright, Bool.or_eq_true, Bool.and_eq_true, decide_eq_true_eq] at h
          omega
        have hnx : ∀ ty, (Instr.next (.pointer (some ⟨k, 0, none⟩)) true ty).run Tryz.prog wr = _ := fun ty => Lib.run_next_ascii_at wr k s pos ty hit hp ha
        have hI3 := hI.iterAt hit (pos + 1)
        have hit3 := Lib.iterAt_heap wr k s pos (pos + 1) hit
        have hkg : k ≠ g := by intro h; rw [h, hm] at hit; cases hit
        have hkb : k ≠ g + 1 := by
          rcases hI with h | h
          · obtain ⟨_, v, hb, _⟩ := h
            intro e; rw [e, hb] at hit; cases hit
          · obtain ⟨_, v, hb, _⟩ := h
            intro e; rw [e, hb] at hit; cases hit
        have hm3 : (wr.iterAt k s (pos + 1)).heap[g]? = some (.cells #[.string op, .string en, .string qu] 157 (0, 0)) := by rw [Lib.iterAt_other _ _ _ _ _ (Ne.symm hkg)]; exact hm
        have hbw3 : Below w.heap.size w (wr.iterAt k s (pos + 1)) := Lib.below_iterAt hbw hkw s (pos + 1)
        have hz3 : g + 1 ≤ (wr.iterAt k s (pos + 1)).heap.size := by rw [Lib.iterAt_size]; exact hgz
        have hkg1 : k ≠ g + 1 := hkb
        have hit0 := Lib.hid hit
        clear hit hm hI hbw hgz
        go_wp2_with (go_at_call 118; refine (note_right.calls _ _ _ (right_f _)).mono ?_; rintro e w3 ⟨rfl, ⟨⟨n3, rfl⟩⟩⟩)
        clear hnx
        have hI4 : Lib.IsBuilderF 163 5 (g + 1) (g + 1) (Lib.byteCells (nopen d ++ acc)) ((wr.iterAt k s (pos + 1)).drewN n3) := hI3
        have hit4 : ((wr.iterAt k s (pos + 1)).drewN n3).heap[k]? = some (.stringIter s (pos + 1)) := hit3
        have hm4 : ((wr.iterAt k s (pos + 1)).drewN n3).heap[g]? = some (.cells #[.string op, .string en, .string qu] 157 (0, 0)) := hm3
        have hb4 : Below w.heap.size w ((wr.iterAt k s (pos + 1)).drewN n3) := pw_below_drewN hbw3 n3
        have hz4 : g + 1 ≤ ((wr.iterAt k s (pos + 1)).drewN n3).heap.size := hz3
        clear hI3 hit3 hm3 hbw3 hz3
        generalize (wr.iterAt k s (pos + 1)).drewN n3 = w4 at *
        have hc1 : w4.cell? ⟨g, 1, none⟩ = some (.string en) := (blk_cell hm4 1).trans rfl
        have hlt : (pos : Int) < (s.size : Int) := by omega
        by_cases hq : (s[pos]'hp).toNat = 92
        · have hq1 : (((s[pos]'hp).toNat : Int) == 92) = true := beq_iff_eq.mpr (by omega)
          have hmk := Lib.hid (mark_92 d s[pos] (s.data.toList.drop (pos + 1)) hq)
          clear hq
          go_quiet (fail)
          have hI5 : Lib.IsBuilderF 163 5 (g + 1) (g + 1) (Lib.byteCells (nopen d ++ acc)) (w4.drewN nq) := hI4
          have hit5 : (w4.drewN nq).heap[k]? = some (.stringIter s (pos + 1)) := hit4
          have hm5 : (w4.drewN nq).heap[g]? = some (.cells #[.string op, .string en, .string qu] 157 (0, 0)) := hm4
          have hb5 : Below w.heap.size w (w4.drewN nq) := pw_below_drewN hb4 nq
          have hz5 : g + 1 ≤ (w4.drewN nq).heap.size := hz4
          clear hI4 hit4 hm4 hb4 hz4 hc1
          generalize w4.drewN nq = w5 at *
          go_wp2_with (go_at_call 120; refine (Bld.writeByte (g + 1) (g + 1) _ 92 _ hI5 (by rw [Lib.byteCells_length, List.length_append]; have := nopen_len d; omega) hz5).mono ?_)
          rintro e w6 ⟨rfl, hI6, hb6, hk6⟩
          have hI7 : Lib.IsBuilderF 163 5 (g + 1) (g + 1) (Lib.byteCells (nopen d ++ (acc ++ [92]))) w6 := by rw [← List.append_assoc, Lib.byteCells_append]; exact .inr hI6
          have hit7 := hk6.iter hit5 hkg1
          have hm7 := (hb6.block g (by omega)).trans hm5
          have hb7 := hb5.trans (hb6.mono hwg)
          have hz7 : g + 1 ≤ w6.heap.size := by have := hb6.size; omega
          clear hI5 hit5 hm5 hb5 hI6 hk6 hb6 hz5
          go_wp2_with (go_at_call 120; refine (Bld.writeByte (g + 1) (g + 1) _ (s[pos]'hp).toNat _ hI7 (by rw [Lib.byteCells_length, List.length_append]; have := nopen_len d; simp; omega) hz7).mono ?_)
          rintro e w8 ⟨rfl, hI8, hb8, hk8⟩
          have hrel := Lib.hid (rel_step d op en qu s w g k pos acc w8 true hp hc0 Hall.out Hacc.out hlen hmk.out (by rw [byteCells_snoc]; exact .inr hI8) (hk8.iter hit7 hkg1) ((hb8.block g (by omega)).trans hm7) (hb7.trans (hb8.mono hwg)) (by have := hb8.size; omega))
          have hmeas : w8.iterPos k = pos + 1 := by unfold World.iterPos; rw [hk8.iter hit7 hkg1]
          have hmeas0 : wr.iterPos k = pos := by unfold World.iterPos; rw [hit0.out]
          have HM := Lib.hid hmeas; have HM0 := Lib.hid hmeas0
          clear hI7 hit7 hm7 hb7 hI8 hb8 hk8 hmeas hmeas0
          go_wp2
          go_roundw
          case rel => exact hrel.out
          case measure => rw [HM.out, HM0.out]; omega
        · have hq1 : (((s[pos]'hp).toNat : Int) == 92) = false := beq_eq_false_iff_ne.mpr (by omega)
          have hpf := Lib.hid ((prefix_f (s.extract pos s.size) en).trans (by rw [ext_end, nx_data s pos hp, hen.out, end_mark d hd'.out _ _ hq]))
          clear hq
          generalize hmk0 : nmark d s[pos] (s.data.toList.drop (pos + 1)) = mk at hpf
          have hmk := Lib.hid hmk0; clear hmk0
          cases mk with
          | true =>
            go_quiet ((go_at_call 119; exact Calls.quiet_of ((strings_HasPrefix.calls _ _ _ _ hpf.out).mono fun _ _ ⟨he, hd⟩ => ⟨he, hd.out⟩)))
            have hI5 : Lib.IsBuilderF 163 5 (g + 1) (g + 1) (Lib.byteCells (nopen d ++ acc)) (w4.drewN nq) := hI4
            have hit5 : (w4.drewN nq).heap[k]? = some (.stringIter s (pos + 1)) := hit4
            have hm5 : (w4.drewN nq).heap[g]? = some (.cells #[.string op, .string en, .string qu] 157 (0, 0)) := hm4
            have hb5 : Below w.heap.size w (w4.drewN nq) := pw_below_drewN hb4 nq
            have hz5 : g + 1 ≤ (w4.drewN nq).heap.size := hz4
            clear hI4 hit4 hm4 hb4 hz4 hc1
            generalize w4.drewN nq = w5 at *
            go_wp2_with (go_at_call 120; refine (Bld.writeByte (g + 1) (g + 1) _ 92 _ hI5 (by rw [Lib.byteCells_length, List.length_append]; have := nopen_len d; omega) hz5).mono ?_)
            rintro e w6 ⟨rfl, hI6, hb6, hk6⟩
            have hI7 : Lib.IsBuilderF 163 5 (g + 1) (g + 1) (Lib.byteCells (nopen d ++ (acc ++ [92]))) w6 := by rw [← List.append_assoc, Lib.byteCells_append]; exact .inr hI6
            have hit7 := hk6.iter hit5 hkg1
            have hm7 := (hb6.block g (by omega)).trans hm5
            have hb7 := hb5.trans (hb6.mono hwg)
            have hz7 : g + 1 ≤ w6.heap.size := by have := hb6.size; omega
            clear hI5 hit5 hm5 hb5 hI6 hk6 hb6 hz5
            go_wp2_with (go_at_call 120; refine (Bld.writeByte (g + 1) (g + 1) _ (s[pos]'hp).toNat _ hI7 (by rw [Lib.byteCells_length, List.length_append]; have := nopen_len d; simp; omega) hz7).mono ?_)
            rintro e w8 ⟨rfl, hI8, hb8, hk8⟩
            have hrel := Lib.hid (rel_step d op en qu s w g k pos acc w8 true hp hc0 Hall.out Hacc.out hlen hmk.out (by rw [byteCells_snoc]; exact .inr hI8) (hk8.iter hit7 hkg1) ((hb8.block g (by omega)).trans hm7) (hb7.trans (hb8.mono hwg)) (by have := hb8.size; omega))
            have hmeas : w8.iterPos k = pos + 1 := by unfold World.iterPos; rw [hk8.iter hit7 hkg1]
            have hmeas0 : wr.iterPos k = pos := by unfold World.iterPos; rw [hit0.out]
            have HM := Lib.hid hmeas; have HM0 := Lib.hid hmeas0
            clear hI7 hit7 hm7 hb7 hI8 hb8 hk8 hmeas hmeas0
            go_wp2
            go_roundw
            case rel => exact hrel.out
            case measure => rw [HM.out, HM0.out]; omega
          | false =>
            go_quiet ((go_at_call 119; exact Calls.quiet_of ((strings_HasPrefix.calls _ _ _ _ hpf.out).mono fun _ _ ⟨he, hd⟩ => ⟨he, hd.out⟩)))
            have hI5 : Lib.IsBuilderF 163 5 (g + 1) (g + 1) (Lib.byteCells (nopen d ++ acc)) (w4.drewN nq) := hI4
            have hit5 : (w4.drewN nq).heap[k]? = some (.stringIter s (pos + 1)) := hit4
            have hm5 : (w4.drewN nq).heap[g]? = some (.cells #[.string op, .string en, .string qu] 157 (0, 0)) := hm4
            have hb5 : Below w.heap.size w (w4.drewN nq) := pw_below_drewN hb4 nq
            have hz5 : g + 1 ≤ (w4.drewN nq).heap.size := hz4
            clear hI4 hit4 hm4 hb4 hz4 hc1
            generalize w4.drewN nq = w5 at *
            have hI7 : Lib.IsBuilderF 163 5 (g + 1) (g + 1) (Lib.byteCells (nopen d ++ acc)) w5 := hI5
            have hit7 := hit5
            have hm7 := hm5
            have hb7 := hb5
            have hz7 := hz5
            clear hI5 hit5 hm5 hb5 hz5
            go_wp2_with (go_at_call 120; refine (Bld.writeByte (g + 1) (g + 1) _ (s[pos]'hp).toNat _ hI7 (by rw [Lib.byteCells_length, List.length_append]; have := nopen_len d; simp; omega) hz7).mono ?_)
            rintro e w8 ⟨rfl, hI8, hb8, hk8⟩
            have hrel := Lib.hid (rel_step d op en qu s w g k pos acc w8 false hp hc0 Hall.out Hacc.out hlen hmk.out (by rw [byteCells_snoc]; exact .inr hI8) (hk8.iter hit7 hkg1) ((hb8.block g (by omega)).trans hm7) (hb7.trans (hb8.mono hwg)) (by have := hb8.size; omega))
            have hmeas : w8.iterPos k = pos + 1 := by unfold World.iterPos; rw [hk8.iter hit7 hkg1]
            have hmeas0 : wr.iterPos k = pos := by unfold World.iterPos; rw [hit0.out]
            have HM := Lib.hid hmeas; have HM0 := Lib.hid hmeas0
            clear hI7 hit7 hm7 hb7 hI8 hb8 hk8 hmeas hmeas0
            go_wp2
            go_roundw
            case rel => exact hrel.out
            case measure => rw [HM.out, HM0.out]; omega
      · have hnx : ∀ ty, (Instr.next (.pointer (some ⟨k, 0, none⟩)) true ty).run Tryz.prog wr = _ := fun ty => Lib.run_next_any_at wr k s pos ty hit hp
        have hbw3 : Below w.heap.size w (wr.iterAt k s (pos + (Utf8.decode s pos).2)) := Lib.below_iterAt hbw hkw s _
        have hRes := Lib.hid (res_wrong d hd'.out s hs pos hp hc0)
        go_wp2_with (go_at_call 118; refine (note_right.calls _ _ _ (right_f _)).mono ?_; rintro e w3 ⟨rfl, ⟨⟨n3, rfl⟩⟩⟩)
        go_ret2
        exact ⟨by unfold Res; rw [hRes.out]; rfl, pw_below_drewN hbw3 n3⟩
    · have hnx : ∀ ty, (Instr.next (.pointer (some ⟨k, 0, none⟩)) true ty).run Tryz.prog wr = _ := fun ty => Lib.run_next_end_at wr k s pos ty hit hp
      have hc1 : wr.cell? ⟨g, 1, none⟩ = some (.string en) := (blk_cell hm 1).trans rfl
      go_wp2_with (go_at_call 117; refine (Bld.writeString (g + 1) (g + 1) _ en _ hI (by rw [Lib.byteCells_length, List.length_append]; have := nopen_len d; omega) hgz).mono ?_)
      rintro e w3 ⟨rfl, hI3, hb3, hk3⟩
      have hI4 : Lib.IsBuilderF 163 5 (g + 1) (g + 1) (Lib.byteCells (nopen d ++ acc ++ nend d)) w3 := by
        rw [byteCells_str, hen.out, ← Lib.byteCells_append] at hI3
        exact .inr hI3
      have hb4 := hbw.trans (hb3.mono hwg)
      have hz4 : g + 1 ≤ w3.heap.size := by have := hb3.size; omega
      clear hI3 hI hc1 hb3 hk3 hbw hm hit hnx
      go_wp2_with (go_at_call 121; refine (Bld.string (g + 1) (g + 1) _ _ hI4 hz4).mono ?_)
      rintro e w5 ⟨rfl, _, hb5, _⟩
      go_wp2
      go_ret2
      exact ⟨res_end d hd'.out s hs pos acc hp Hall.out Hacc.out, hb4.trans (hb5.mono hwg)⟩
set_option maxHeartbeats 4000000 in
set_option maxRecDepth 1000000 in
theorem walk_long (d : Int) (op en qu : ByteArray) (s : ByteArray) (w : World) (hf0 : note_of.f d = some (op, en, qu, true)) (hs : 1024 < s.size) (hd : d = 0 ∨ d = 1) :
    Calls Tryz.prog 68 #[.int .i64 d, .string s] w fun e w' => Res d s e ∧ Below w.heap.size w w' := by
  have hf := Lib.hid hf0; clear hf0
  have hr : Hid (npr d s = (⟨#[]⟩, 3)) := Lib.hid (by unfold npr; rw [if_pos hd, if_pos hs])
  clear hd
  go_enter Tryz.func68, Tryz.ntmps68
  go_wp2_with (go_at_call 116; refine (note_of.calls _ _ _ _ _ _ hf.out).mono ?_; rintro e w1 ⟨rfl, hb1⟩)
  go_ret2
  exact ⟨by unfold Res; rw [hr.out]; rfl, hb1.alloc hb1.size _⟩
theorem note_Print.any (d : Int) (s : ByteArray) (w : World) :
    Calls Tryz.prog 68 #[.int .i64 d, .string s] w fun e w' => Res d s e ∧ Below w.heap.size w w' := by
  by_cases hd : d = 0 ∨ d = 1
  · by_cases hs : 1024 < s.size
    · rcases hd with rfl | rfl
      · exact walk_long 0 _ _ _ s w rfl hs (.inl rfl)
      · exact walk_long 1 _ _ _ s w rfl hs (.inr rfl)
    · rcases hd with rfl | rfl
      · exact walk_right 0 _ _ _ s w rfl rfl (by decide) rfl (by decide) (by omega) (.inl rfl)
      · exact walk_right 1 _ _ _ s w rfl rfl (by decide) rfl (by decide) (by omega) (.inr rfl)
  · exact walk_wrong d s w (fun h => hd (.inl h)) (fun h => hd (.inr h))
theorem note_Print.calls (a0 : Int) (a1 : ByteArray) (r1 : ByteArray) (r2 : Int) (w : World) (h : note_Print.f a0 a1 = some (r1, r2)) :
    Calls Tryz.prog 68 #[.int .i64 a0, .string a1] w fun e w' => e = .returned (.tuple #[.string r1, .int .i64 r2]) ∧ Below w.heap.size w w' := by
  have h' : npr a0 a1 = (r1, r2) := Option.some.inj h
  refine (note_Print.any a0 a1 w).mono ?_
  rintro e w' ⟨he, hb⟩
  unfold Res at he
  rw [h'] at he
  exact ⟨he, hb⟩
end Go.Proofs.YtokkfbkbnocnoaaGreatDoor.Np
end
section
open Go Go.Proofs
namespace Go.Ev
open Go.Proofs.YtokkfbkbnocnoaaGreatDoor
set_option linter.unusedVariables false
set_option maxHeartbeats 4000000
set_option maxRecDepth 100000
theorem ok_note_Print : SpecA Tryz.prog EE 68 (ansOf c_note_Print rc_note_Print.enc fun x => some ((Np.npr x.1 x.2.1).1, (Np.npr x.1 x.2.1).2, ())) := by
  refine specA_by _ _ _ fun x y hy Sl w us fp rs hSl hargs hnd hlt hiv => ?_
  injection hy with hy
  subst hy
  obtain ⟨vs, rfl, h1⟩ := areps_lit hargs
  obtain ⟨vs', rfl, h2⟩ := areps_lit h1
  obtain ⟨rfl, rfl, rfl⟩ := areps_nil h2
  refine ⟨68, #[_, _], .inl ⟨by decide, rfl, rfl⟩, ⟨Tryz.f68, Tryz.func68, by kernel_rfl, by kernel_rfl⟩, ?_⟩
  exact (Np.note_Print.any x.1 x.2.1 w).mono fun e w' ⟨he, hb⟩ => ⟨_, he, answers_two hSl hb rfl rfl⟩
def hFam : Fam := { nilFam with
  f_words_Is := fun x => some (Wd.mem (Wd.lst x.1) x.2.1)
  f_slices_Clone_string := fun x => if x.1.length * 16 ≤ 140737488355328 then some x.1 else none
  f_note_Print := fun x => some ((Np.npr x.1 x.2.1).1, (Np.npr x.1 x.2.1).2, ())
  f_tree_apart := fun x => if x.1.all (fun r => decide (r.Name.size ≤ maxLen)) = true then some (apartB [] (x.1.map (·.Name))) else none
  f_by := stepT }
theorem hand : HandOK hFam where
  o_tree_Names := ok_tree_Names
  o_tree_Rename := ok_tree_Rename
  o_words_Is := ok_words_Is
  o_note_Print := ok_note_Print
  o_tree_apart := ok_apartB
  o_tree_checker_routine := ok_tree_checker_routine
  o_tree_mapper_parts := ok_tree_mapper_parts
  o_slices_Clone_string := ok_Clone
  o_by := ok_by
theorem awake_ok (k : Nat) : (FF hFam (k + 12)).f_w07_awake () = some true := by kernel_rfl
end Go.Ev
end
section
open Go Go.Proofs
namespace Go.Ev
open Go.RowKit Go.Proofs.YtokkfbkbnocnoaaGreatDoor
set_option linter.unusedVariables false
set_option linter.unusedSimpArgs false
set_option maxHeartbeats 4000000
set_option maxRecDepth 100000
section
variable {H : Type} {enc : TypeId × Value → H} {W : World} {base : Nat} {spare : Nat → Bool} {held : Bool}
def tyOfN (t : Nat) : TI := match EE.ty t with | some ti => ti | none => ⟨0, 0, [], .other, true⟩
theorem below_of {w w' : World} {u : Value} (h : Answers EE (allS w) w [] [] (rc_w07_TreeSame.enc true) u w') : u = .bool true ∧ Below w.heap.size w w' := by
  obtain ⟨Sl', p1, p2, r1, r2, hkeep, hext, hu, hps, hnd, hlt⟩ := h
  obtain ⟨hu1, rfl, rfl⟩ := arep_d hu
  exact ⟨drep_lit hu1, ⟨hkeep.os, hkeep.tape, hkeep.output, hkeep.size, fun i hi => hkeep.block i hi (by simp)⟩⟩
theorem call_law {f : Nat} (hf : f ≠ 1000003) {s : Fam} (hS : ∀ f, SpecOK Tryz.prog EE (sp s) f) {avs : List (AV II)} (hr : (sp s f avs).run = some (rc_w07_TreeSame.enc true)) {args : Array Value} (ha : AReps EE (allS W) W (· ∈ ([] : List Nat)) W.heap.size args.toList avs [] []) (hi : EE.inv W) :
    Calls Tryz.prog f args W fun e W' => e = .returned (.bool true) ∧ Below W.heap.size W W' := by
  obtain ⟨g, args', hc, hfn, hcalls⟩ := hS f avs _ hr (allS W) W args.toList [] [] (fun _ _ h => h) ha List.nodup_nil (fun k hk => by cases hk) hi
  rcases hc with ⟨_, rfl, he⟩ | ⟨h, _⟩
  · have : args' = args := Array.toList_inj.1 he
    subst this
    refine hcalls.mono fun e w' ⟨u, he, h⟩ => ?_
    obtain ⟨rfl, hb⟩ := below_of h
    exact ⟨he, hb⟩
  · exact absurd h hf
end
end Go.Ev
end
section
open Go Go.Proofs
namespace Go.Ev
open Go.RowKit Go.Proofs.YtokkfbkbnocnoaaGreatDoor
set_option linter.unusedVariables false
def laidL : List (String × DataW Unit) := [("unicode/utf8.acceptRanges", Rows.laid_unicode_utf8_acceptRanges), ("unicode.White_Space", Rows.laid_unicode_White_Space), ("strings.asciiSpace", Rows.laid_strings_asciiSpace), ("unicode/utf8.first", Rows.laid_unicode_utf8_first)]
theorem tab_datum : (Rows.laid_strings_asciiSpace : DataW Unit) = Lib.tabData .u8 Lib.asciiSpaceTab := by kernel_rfl
theorem of_laid {W : World} (h : laidMetH Tryz.prog laidL W) (hs : W.ShapedOpen Tryz.prog) : EE.inv W := by
  rw [MakeChecks.laidMetH_plain _ _ _ (by kernel_rfl)] at h
  obtain ⟨ps, ⟨g0, t0, cs0, f0, p0, q0, hg0, ht0, hv0, hd0, ⟨g1, t1, cs1, f1, p1, q1, hg1, ht1, hv1, hd1, ⟨g, t, cs, f, p, q, hg, ht, hvar, hd, _⟩, _⟩, _⟩, _⟩ := h
  rw [tab_datum] at hd
  obtain rfl := Option.some.inj ((show Tryz.prog.globalNamed "strings.asciiSpace" = some 0 by kernel_rfl).symm.trans hg)
  obtain rfl := Option.some.inj ((show (Tryz.prog.globals[0]?).map (·.type) = some 199 by kernel_rfl).symm.trans ht)
  refine ⟨?_, Tryz.laysM146.s1_3 W hs⟩
  unfold Lib.TabIs
  rw [hvar, ← Lib.cells_of_tab Tryz.underlying199 Tryz.underlying5 (by kernel_rfl) (by kernel_rfl) hd]
end Go.Ev
end
section
open Go
namespace Go.Ev
open Go.Proofs.YtokkfbkbnocnoaaGreatDoor
set_option maxRecDepth 100000
set_option maxHeartbeats 4000000
set_option linter.unusedVariables false
set_option linter.unusedSimpArgs false
theorem lt_dec {i n : Nat} (h : i < n) : decide ((i : Int) < (n : Int)) = true := by simpa using h
end Go.Ev
end
section
open Go
namespace Go.Ev
open Go.Proofs.YtokkfbkbnocnoaaGreatDoor
set_option maxRecDepth 100000
set_option maxHeartbeats 4000000
set_option linter.unusedVariables false
set_option linter.unusedSimpArgs false
theorem lst_len (d : Int) : (Wd.lst d).length ≤ 34 := by
  by_cases h0 : d = 0
  · subst h0; exact of_decide_eq_true (by kernel_rfl)
  · by_cases h1 : d = 1
    · subst h1; exact of_decide_eq_true (by kernel_rfl)
    · unfold Wd.lst; rw [if_neg h0, if_neg h1]; simp
theorem cutL_len : ∀ l : List UInt8, (cutL l).length ≤ l.length + 1
  | [] => by simp [cutL]
  | c :: r => by
    have := cutL_len r
    rw [cutL]
    split
    · simp; omega
    · split
      · simp
      · rename_i h; rw [h] at this; simp at this ⊢; omega
theorem cutL_free : ∀ l : List UInt8, (∀ x ∈ l, x ≠ 36) → cutL l = [l]
  | [], _ => rfl
  | c :: r, h => by rw [cutL, if_neg (h c List.mem_cons_self), cutL_free r fun x hx => h x (List.mem_cons_of_mem _ hx)]
theorem cutL_at : ∀ (l r : List UInt8), (∀ x ∈ l, x ≠ 36) → cutL (l ++ 36 :: r) = l :: cutL r
  | [], r, _ => by rw [List.nil_append, cutL, if_pos rfl]
  | c :: l, r, h => by rw [List.cons_append, cutL, if_neg (h c List.mem_cons_self), cutL_at l r fun x hx => h x (List.mem_cons_of_mem _ hx)]
theorem cutP_len (s : ByteArray) : (cutP s).length ≤ s.size + 1 := by
  unfold cutP
  rw [List.length_map]
  have := cutL_len s.data.toList
  simpa using this
theorem cutL_mem : ∀ (l : List UInt8), ∀ p ∈ cutL l, p.length ≤ l.length
  | [], p, h => by simp [cutL] at h; subst h; simp
  | c :: r, p, h => by
    have ih := cutL_mem r
    rw [cutL] at h
    split at h
    · rcases List.mem_cons.1 h with rfl | h
      · simp
      · have := ih p h; simp; omega
    · split at h
      · simp at h; subst h; simp
      · rename_i q t hq
        rcases List.mem_cons.1 h with rfl | h
        · have := ih q (by rw [hq]; exact List.mem_cons_self); simp; omega
        · have := ih p (by rw [hq]; exact List.mem_cons_of_mem _ h); simp; omega
theorem cutP_mem (s p : ByteArray) (h : p ∈ cutP s) : p.size ≤ s.size := by
  unfold cutP at h
  obtain ⟨l, hl, rfl⟩ := List.mem_map.1 h
  have := cutL_mem _ l hl
  show l.toArray.size ≤ _
  simpa using this
end Go.Ev
end
section
open Go
namespace Go.Ev
open Go.Proofs.YtokkfbkbnocnoaaGreatDoor
set_option maxRecDepth 100000
set_option maxHeartbeats 4000000
set_option linter.unusedVariables false
set_option linter.unusedSimpArgs false
theorem bk_name (e : TExpr) : e.Name.size + e.Field.size + bks_TExpr e.L + 6 ≤ bk_TExpr e := by cases e; simp [bk_TExpr]; omega
end Go.Ev
end
section
open Go Go.Proofs
namespace Go.Ev
open Go.RowKit Go.Proofs.YtokkfbkbnocnoaaGreatDoor
set_option linter.unusedVariables false
set_option linter.unusedSimpArgs false
set_option maxHeartbeats 4000000
set_option maxRecDepth 100000
theorem bulkAll_eq {H : Type} : ∀ l : List (DataW H), Rows.uptoBulkAll l = (l.map Rows.uptoBulk).sum
  | [] => rfl
  | d :: r => by rw [Rows.uptoBulkAll, bulkAll_eq r]; rfl
theorem bulk_pos {H : Type} (d : DataW H) : 1 ≤ Rows.uptoBulk d := by
  cases d with
  | lit l => cases l <;> simp [Rows.uptoBulk]
  | _ => simp [Rows.uptoBulk]
theorem measB (H : Type) : Meas EE ftt bkk (fun d : DataW H => Rows.uptoBulk d) rowsL :=
  meas EE rfl rfl _ (bulk_pos _) (fun l => bulk_pos _) (fun l => Nat.le_refl _) (fun a b => by show (a.map Rows.uptoBulk).sum + 1 ≤ Rows.uptoBulkAll a + Rows.uptoBulkAll b + 1; rw [bulkAll_eq a]; omega)
    (fun a => by show (a.map Rows.uptoBulk).sum + 1 ≤ Rows.uptoBulkAll a + 1; rw [bulkAll_eq a]; exact Nat.le_refl _)
section
variable {H : Type} {enc : TypeId × Value → H} {W : World} {base : Nat} {spare : Nat → Bool} {held : Bool}
theorem read_anyB {t : Nat} {ti : TI} {l : List KD} (ht : EE.ty t = some ti) (hs : (match ti.td with | .struct _ => true | _ => false) = true) (hl : flatK EE.ty 9 t = some l) (hn : Nat.beq ti.size 1 = false) {v : Value} {d : DataW H} {ps : List MemPlace} (h : DataW.Trod enc Tryz.prog W base spare held t v d ps) :
    ∃ vs : Array Value, v = .agg vs ∧ ∃ ds, DReps EE (allS W) W vs.toList ds ∧ ds.map kd = l ∧ (∀ d ∈ ds, QD ftt d) ∧ (ds.map (bkD bkk)).sum + 1 ≤ Rows.uptoBulk d := by
  obtain ⟨fuel, h⟩ := h
  obtain ⟨⟨ds, h1, h2, h3, h4⟩, h5, hlen⟩ := rd hEE (measB H) fuel t ti _ (d, ps) l ht hl h
  cases htd : ti.td with
  | struct fs =>
    rw [htd] at h4 h5
    simp only at h4 h5
    cases v with
    | agg vs => exact ⟨vs, rfl, ds, h1, h2, h3, by omega⟩
    | _ =>
      have h1 : 1 = ti.size := hlen
      simp only [← h1] at hn
      cases hn
  | _ => rw [htd] at hs; cases hs
end
end Go.Ev
end
section
open Go
namespace Go.Ev
open Go.Proofs.YtokkfbkbnocnoaaGreatDoor
set_option maxRecDepth 100000
set_option maxHeartbeats 4000000
set_option linter.unusedVariables false
set_option linter.unusedSimpArgs false
theorem bk_VarN (v : TVar) : bks_v9 v.Marks_Before + bks_v9 v.Marks_Trail + v.Name.size + v.T_Name.size + 6 ≤ bk_TVar v := by cases v; simp only [bk_TVar]; omega
end Go.Ev
end
section
open Go
namespace Go.Ev
open Go.Proofs.YtokkfbkbnocnoaaGreatDoor
set_option maxRecDepth 100000
set_option maxHeartbeats 4000000
set_option linter.unusedVariables false
set_option linter.unusedSimpArgs false
theorem bk_ParamN (p : TParam) : p.Name.size + p.T_Name.size + 6 ≤ bk_TParam p := by cases p; simp only [bk_TParam]; omega
theorem bks_Param_mem' (l : List TParam) (i : Nat) (hi : i < l.length) : bk_TParam l[i] ≤ bks_TParam l := by rw [bks_TParam_eq]; exact mem_sum _ l i hi
end Go.Ev
end
section
open Go
namespace Go.Ev
open Go.Proofs.YtokkfbkbnocnoaaGreatDoor
set_option maxRecDepth 100000
set_option maxHeartbeats 4000000
set_option linter.unusedVariables false
set_option linter.unusedSimpArgs false
theorem bk_StmtN (x : TStmt) : bks_v9 x.Marks_Before + bks_v9 x.Marks_Trail + x.Name.size + bk_TExpr x.sub_P + bks_TExpr x.E + bks_TStmt x.Body + bks_TStmt x.Else + bks_v9 x.End + bks_v9 x.End2 + 10 ≤ bk_TStmt x := by
  cases x; simp only [bk_TStmt, TStmt.sub_P, bk_TExpr]; omega
end Go.Ev
end
section
open Go
namespace Go.Ev
open Go.Proofs.YtokkfbkbnocnoaaGreatDoor
set_option maxRecDepth 100000
set_option maxHeartbeats 8000000
set_option linter.unusedVariables false
set_option linter.unusedSimpArgs false
theorem bk_RoutineN (x : TRoutine) : bks_v9 x.Marks_Before + bks_v9 x.Marks_Trail + x.Name.size + bks_TParam x.Params + bks_TVar x.Vars + bks_TRoutine x.Inner + bks_TStmt x.Body + bks_v9 x.End + 9 ≤ bk_TRoutine x := by
  cases x; simp only [bk_TRoutine]; omega
end Go.Ev
end
section
open Go
namespace Go.Ev
open Go.Proofs.YtokkfbkbnocnoaaGreatDoor
set_option maxRecDepth 100000
set_option maxHeartbeats 8000000
set_option linter.unusedVariables false
set_option linter.unusedSimpArgs false
theorem bk_FieldN (x : TField) : bks_v9 x.Marks_Before + bks_v9 x.Marks_Trail + x.Name.size + 4 ≤ bk_TField x := by cases x; simp only [bk_TField]; omega
theorem bk_RecN (x : TRec) : bks_v9 x.Marks_Before + bks_v9 x.Marks_Trail + x.Name.size + bks_TField x.Fields + bks_v9 x.End + 5 ≤ bk_TRec x := by cases x; simp only [bk_TRec]; omega
theorem bk_ProgramN (x : TProgram) : x.Name.size + bks_v9 x.Before + bks_v9 x.Mid + bks_v9 x.After + bks_TRec x.Recs + bks_TVar x.Vars + bks_TRoutine x.Routines + bks_TStmt x.Body + bks_v9 x.End + 9 ≤ bk_TProgram x := by cases x; simp only [bk_TProgram]; omega
end Go.Ev
end
