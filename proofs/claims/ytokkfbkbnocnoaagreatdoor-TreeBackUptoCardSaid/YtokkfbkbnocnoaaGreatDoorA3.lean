/- A part of the proof of TreeBackUpto (a program whose names are turned into others and back is the program that it was): a reckoner of the code over data, shown right, and what it gives; conditions stand with each theorem. -/
import Derived.Test.YtokkfbkbnocnoaaGreatDoorA2
import Derived.Lib.SplitLaws
import Derived.IntWalk
import Derived.ChangeArms
import Derived.ChangeSame
import Derived.DataReads
import Derived.DataElems
import Derived.ProofKit
section
open Go Go.Proofs
namespace Go.Ev
set_option linter.unusedVariables false
set_option linter.unusedSimpArgs false
set_option maxHeartbeats 4000000
set_option maxRecDepth 100000
def B_tree_checker_expr (s : Fam) (k : Nat) (x0 : Ttree_checker) (x1 : TExpr) : Option (Int) := (if (!x1.Field.toList == { data := #[] : ByteArray }.toList && x1.Op != 6 || !x1.Name.toList == { data := #[] : ByteArray }.toList && !(decide (x1.Op ≥ 4) && decide (x1.Op ≤ 7)) || x1.N != 0 && !(decide (x1.Op ≥ 1) && decide (x1.Op ≤ 3))) = Bool.false then ((s.f_tree_few_Expr (x1.L, ())).bind fun t2 => (if (Bool.false || !t2) = Bool.true then some (0) else (if (x1.Op == 1) = Bool.true then (if (!decide (x1.N ≥ 0) || (↑x1.L.length : Int) != 0) = Bool.true then some (0) else ((s.f_tree_checker_deepest (x0, x1.L, ())).bind fun t8 => some (t8))) else (if (x1.Op == 2) = Bool.true then (if (!(x1.N == 0 || x1.N == 1) || (↑x1.L.length : Int) != 0) = Bool.true then some (0) else ((s.f_tree_checker_deepest (x0, x1.L, ())).bind fun t13 => some (t13))) else (if (x1.Op == 3) = Bool.true then (if (!(decide (x1.N ≥ 0) && decide (x1.N ≤ 255)) || (↑x1.L.length : Int) != 0) = Bool.true then some (0) else ((s.f_tree_checker_deepest (x0, x1.L, ())).bind fun t18 => some (t18))) else (if (x1.Op == 4) = Bool.true then ((s.f_tree_checker_name (x0, x1.Name, ())).bind fun t21 => (if (!t21 || (↑x1.L.length : Int) != 0) = Bool.true then some (0) else ((s.f_tree_checker_deepest (x0, x1.L, ())).bind fun t24 => some (t24)))) else (if (x1.Op == 5) = Bool.true then ((s.f_tree_checker_name (x0, x1.Name, ())).bind fun t27 => (if (!t27 || (↑x1.L.length : Int) != 1) = Bool.true then some (0) else ((s.f_tree_checker_deepest (x0, x1.L, ())).bind fun t30 => some (t30)))) else (if (x1.Op == 6) = Bool.true then ((s.f_tree_checker_name (x0, x1.Name, ())).bind fun t33 => (if t33 = Bool.true then ((s.f_tree_checker_name (x0, x1.Field, ())).bind fun t35 => (if (!(Bool.true && t35) || (↑x1.L.length : Int) != 0) = Bool.true then some (0) else ((s.f_tree_checker_deepest (x0, x1.L, ())).bind fun t38 => some (t38)))) else some (0))) else (if (x1.Op == 7) = Bool.true then ((s.f_tree_checker_call (x0, x1.re, ())).bind fun t44 => some (t44)) else (if (x1.Op == 8 || x1.Op == 9) = Bool.true then (if (!Bool.true || (↑x1.L.length : Int) != 1) = Bool.true then some (0) else ((s.f_tree_checker_deepest (x0, x1.L, ())).bind fun t49 => some (t49))) else (if (decide (x1.Op ≥ 10) && decide (x1.Op ≤ 24)) = Bool.true then (if (!Bool.true || (↑x1.L.length : Int) != 2) = Bool.true then some (0) else ((s.f_tree_checker_deepest (x0, x1.L, ())).bind fun t54 => some (t54))) else some (0)))))))))))) else some (0))
theorem e_tree_checker_expr (s : Fam) (k : Nat) (x : a_tree_checker_expr) : (evFunC EE (sp s) h_tree_checker_expr co_tree_checker_expr k Tryz.f51 (c_tree_checker_expr.enc x)).run = (B_tree_checker_expr s k x.1 x.2.1).map rc_tree_checker_expr.enc := by
  simp only [B_tree_checker_expr, map_ite, map_bindO, map_someO, map_noneO]
  kernel_rfl
-- 60 nodes
def Lr07_form_47 (s : Fam) (k : Nat) (x0 : Int) (x1 : TExpr) (x2 : Int) : Nat → Int → Int → Bool → Int → Int → Int → ByteArray → ByteArray → List TExpr → Option (Bool)
  | 0, _, _, _, _, _, _, _, _, _ => none
  | j47 + 1, v0, v1, v2, v3, v4, v5, v6, v7, v8 => (if decide (v3 < (↑v8.length : Int)) = Bool.true then (if 0 ≤ v3 then (if v3 < (↑v8.length : Int) then (if ((v8.getD v3.toNat dd_TExpr).Op == 25) = Bool.true then (if (v0 != 1 || v4 != 7) = Bool.false then ((s.f_r07_Name (1, (v8.getD v3.toNat dd_TExpr).Name, ())).bind fun t12 => (if (Bool.false || !t12 || (v8.getD v3.toNat dd_TExpr).N != 0 || !(v8.getD v3.toNat dd_TExpr).Field.toList == { data := #[] : ByteArray }.toList || (↑(v8.getD v3.toNat dd_TExpr).L.length : Int) != 0) = Bool.true then some (Bool.false) else Lr07_form_47 s k x0 x1 x2 j47 (v0) (v1) (Bool.true) (Go.IntKind.i64.wrap (v3 + 1)) (v4) (v5) (v6) (v7) (v8))) else some (Bool.false)) else (if v2 = Bool.false then ((s.f_r07_form (v0, (v8.getD v3.toNat dd_TExpr).re, Go.IntKind.i64.wrap (v1 - 1), ())).bind fun t21 => (if (Bool.false || !t21) = Bool.true then some (Bool.false) else Lr07_form_47 s k x0 x1 x2 j47 (v0) (v1) (v2) (Go.IntKind.i64.wrap (v3 + 1)) (v4) (v5) (v6) (v7) (v8))) else some (Bool.false))) else none) else none) else some (Bool.true))
def B_r07_form (s : Fam) (k : Nat) (x0 : Int) (x1 : TExpr) (x2 : Int) : Option (Bool) := (if (x2 == 0 || decide ((↑x1.L.length : Int) > 512)) = Bool.true then some (Bool.false) else (if (x1.Op == 1) = Bool.true then (if (!decide (x1.N ≥ 0) || !x1.Name.toList == { data := #[] : ByteArray }.toList || !x1.Field.toList == { data := #[] : ByteArray }.toList || (↑x1.L.length : Int) != 0) = Bool.true then some (Bool.false) else Lr07_form_47 s k x0 x1 x2 k (x0) (x2) (Bool.false) (0) (x1.Op) (x1.N) (x1.Name) (x1.Field) (x1.L)) else (if (x1.Op == 2) = Bool.true then (if (!(x1.N == 0 || x1.N == 1) || !x1.Name.toList == { data := #[] : ByteArray }.toList || !x1.Field.toList == { data := #[] : ByteArray }.toList || (↑x1.L.length : Int) != 0) = Bool.true then some (Bool.false) else Lr07_form_47 s k x0 x1 x2 k (x0) (x2) (Bool.false) (0) (x1.Op) (x1.N) (x1.Name) (x1.Field) (x1.L)) else (if (x1.Op == 3) = Bool.true then (if (!(decide (x1.N ≥ 0) && decide (x1.N ≤ 255)) || !x1.Name.toList == { data := #[] : ByteArray }.toList || !x1.Field.toList == { data := #[] : ByteArray }.toList || (↑x1.L.length : Int) != 0) = Bool.true then some (Bool.false) else Lr07_form_47 s k x0 x1 x2 k (x0) (x2) (Bool.false) (0) (x1.Op) (x1.N) (x1.Name) (x1.Field) (x1.L)) else (if (x1.Op == 4) = Bool.true then ((s.f_r07_Name (x0, x1.Name, ())).bind fun t41 => (if (!x1.N == 0 || !t41 || !x1.Field.toList == { data := #[] : ByteArray }.toList || (↑x1.L.length : Int) != 0) = Bool.true then some (Bool.false) else Lr07_form_47 s k x0 x1 x2 k (x0) (x2) (Bool.false) (0) (x1.Op) (x1.N) (x1.Name) (x1.Field) (x1.L))) else (if (x1.Op == 5) = Bool.true then ((s.f_r07_Name (x0, x1.Name, ())).bind fun t46 => (if (!x1.N == 0 || !t46 || !x1.Field.toList == { data := #[] : ByteArray }.toList || (↑x1.L.length : Int) != 1) = Bool.true then some (Bool.false) else Lr07_form_47 s k x0 x1 x2 k (x0) (x2) (Bool.false) (0) (x1.Op) (x1.N) (x1.Name) (x1.Field) (x1.L))) else (if (x1.Op == 6) = Bool.true then ((s.f_r07_Name (x0, x1.Name, ())).bind fun t51 => ((s.f_r07_Name (x0, x1.Field, ())).bind fun t52 => (if (!x1.N == 0 || !t51 || !t52 || (↑x1.L.length : Int) != 0) = Bool.true then some (Bool.false) else Lr07_form_47 s k x0 x1 x2 k (x0) (x2) (Bool.false) (0) (x1.Op) (x1.N) (x1.Name) (x1.Field) (x1.L)))) else (if (x1.Op == 7) = Bool.true then ((s.f_r07_Routine (x0, x1.Name, ())).bind fun t57 => (if (!x1.N == 0 || !t57 || !x1.Field.toList == { data := #[] : ByteArray }.toList || (↑x1.L.length : Int) != (↑x1.L.length : Int)) = Bool.true then some (Bool.false) else Lr07_form_47 s k x0 x1 x2 k (x0) (x2) (Bool.false) (0) (x1.Op) (x1.N) (x1.Name) (x1.Field) (x1.L))) else (if (x1.Op == 8) = Bool.true then (if (x1.Op == 8) = Bool.true then (if (!x1.N == 0 || !x1.Name.toList == { data := #[] : ByteArray }.toList || !x1.Field.toList == { data := #[] : ByteArray }.toList || (↑x1.L.length : Int) != 1) = Bool.true then some (Bool.false) else Lr07_form_47 s k x0 x1 x2 k (x0) (x2) (Bool.false) (0) (x1.Op) (x1.N) (x1.Name) (x1.Field) (x1.L)) else (if (x1.Op == 10) = Bool.true then (if (x1.Op == 10) = Bool.true then (if (!x1.N == 0 || !x1.Name.toList == { data := #[] : ByteArray }.toList || !x1.Field.toList == { data := #[] : ByteArray }.toList || (↑x1.L.length : Int) != 2) = Bool.true then some (Bool.false) else Lr07_form_47 s k x0 x1 x2 k (x0) (x2) (Bool.false) (0) (x1.Op) (x1.N) (x1.Name) (x1.Field) (x1.L)) else some (Bool.false)) else (if (x1.Op == 11) = Bool.true then (if (x1.Op == 11) = Bool.true then (if (!x1.N == 0 || !x1.Name.toList == { data := #[] : ByteArray }.toList || !x1.Field.toList == { data := #[] : ByteArray }.toList || (↑x1.L.length : Int) != 2) = Bool.true then some (Bool.false) else Lr07_form_47 s k x0 x1 x2 k (x0) (x2) (Bool.false) (0) (x1.Op) (x1.N) (x1.Name) (x1.Field) (x1.L)) else some (Bool.false)) else (if (x1.Op == 12) = Bool.true then (if (x1.Op == 12) = Bool.true then (if (!x1.N == 0 || !x1.Name.toList == { data := #[] : ByteArray }.toList || !x1.Field.toList == { data := #[] : ByteArray }.toList || (↑x1.L.length : Int) != 2) = Bool.true then some (Bool.false) else Lr07_form_47 s k x0 x1 x2 k (x0) (x2) (Bool.false) (0) (x1.Op) (x1.N) (x1.Name) (x1.Field) (x1.L)) else some (Bool.false)) else (if (x1.Op == 13) = Bool.true then (if (x1.Op == 13) = Bool.true then (if (!x1.N == 0 || !x1.Name.toList == { data := #[] : ByteArray }.toList || !x1.Field.toList == { data := #[] : ByteArray }.toList || (↑x1.L.length : Int) != 2) = Bool.true then some (Bool.false) else Lr07_form_47 s k x0 x1 x2 k (x0) (x2) (Bool.false) (0) (x1.Op) (x1.N) (x1.Name) (x1.Field) (x1.L)) else some (Bool.false)) else (if (x1.Op == 14) = Bool.true then (if (x1.Op == 14) = Bool.true then (if (!x1.N == 0 || !x1.Name.toList == { data := #[] : ByteArray }.toList || !x1.Field.toList == { data := #[] : ByteArray }.toList || (↑x1.L.length : Int) != 2) = Bool.true then some (Bool.false) else Lr07_form_47 s k x0 x1 x2 k (x0) (x2) (Bool.false) (0) (x1.Op) (x1.N) (x1.Name) (x1.Field) (x1.L)) else some (Bool.false)) else (if (x1.Op == 15) = Bool.true then (if (x1.Op == 15) = Bool.true then (if (!x1.N == 0 || !x1.Name.toList == { data := #[] : ByteArray }.toList || !x1.Field.toList == { data := #[] : ByteArray }.toList || (↑x1.L.length : Int) != 2) = Bool.true then some (Bool.false) else Lr07_form_47 s k x0 x1 x2 k (x0) (x2) (Bool.false) (0) (x1.Op) (x1.N) (x1.Name) (x1.Field) (x1.L)) else some (Bool.false)) else (if (x1.Op == 16) = Bool.true then (if (x1.Op == 16) = Bool.true then (if (!x1.N == 0 || !x1.Name.toList == { data := #[] : ByteArray }.toList || !x1.Field.toList == { data := #[] : ByteArray }.toList || (↑x1.L.length : Int) != 2) = Bool.true then some (Bool.false) else Lr07_form_47 s k x0 x1 x2 k (x0) (x2) (Bool.false) (0) (x1.Op) (x1.N) (x1.Name) (x1.Field) (x1.L)) else some (Bool.false)) else (if (x1.Op == 17) = Bool.true then (if (x1.Op == 17) = Bool.true then (if (!x1.N == 0 || !x1.Name.toList == { data := #[] : ByteArray }.toList || !x1.Field.toList == { data := #[] : ByteArray }.toList || (↑x1.L.length : Int) != 2) = Bool.true then some (Bool.false) else Lr07_form_47 s k x0 x1 x2 k (x0) (x2) (Bool.false) (0) (x1.Op) (x1.N) (x1.Name) (x1.Field) (x1.L)) else some (Bool.false)) else (if (x1.Op == 18) = Bool.true then (if (x1.Op == 18) = Bool.true then (if (!x1.N == 0 || !x1.Name.toList == { data := #[] : ByteArray }.toList || !x1.Field.toList == { data := #[] : ByteArray }.toList || (↑x1.L.length : Int) != 2) = Bool.true then some (Bool.false) else Lr07_form_47 s k x0 x1 x2 k (x0) (x2) (Bool.false) (0) (x1.Op) (x1.N) (x1.Name) (x1.Field) (x1.L)) else some (Bool.false)) else (if (x1.Op == 19) = Bool.true then (if (x1.Op == 19) = Bool.true then (if (!x1.N == 0 || !x1.Name.toList == { data := #[] : ByteArray }.toList || !x1.Field.toList == { data := #[] : ByteArray }.toList || (↑x1.L.length : Int) != 2) = Bool.true then some (Bool.false) else Lr07_form_47 s k x0 x1 x2 k (x0) (x2) (Bool.false) (0) (x1.Op) (x1.N) (x1.Name) (x1.Field) (x1.L)) else some (Bool.false)) else (if (x1.Op == 20) = Bool.true then (if (x1.Op == 20) = Bool.true then (if (!x1.N == 0 || !x1.Name.toList == { data := #[] : ByteArray }.toList || !x1.Field.toList == { data := #[] : ByteArray }.toList || (↑x1.L.length : Int) != 2) = Bool.true then some (Bool.false) else Lr07_form_47 s k x0 x1 x2 k (x0) (x2) (Bool.false) (0) (x1.Op) (x1.N) (x1.Name) (x1.Field) (x1.L)) else some (Bool.false)) else (if (x1.Op == 21) = Bool.true then (if (x1.Op == 21) = Bool.true then (if (!x1.N == 0 || !x1.Name.toList == { data := #[] : ByteArray }.toList || !x1.Field.toList == { data := #[] : ByteArray }.toList || (↑x1.L.length : Int) != 2) = Bool.true then some (Bool.false) else Lr07_form_47 s k x0 x1 x2 k (x0) (x2) (Bool.false) (0) (x1.Op) (x1.N) (x1.Name) (x1.Field) (x1.L)) else some (Bool.false)) else (if (x1.Op == 22) = Bool.true then (if (x1.Op == 22) = Bool.true then (if (!x1.N == 0 || !x1.Name.toList == { data := #[] : ByteArray }.toList || !x1.Field.toList == { data := #[] : ByteArray }.toList || (↑x1.L.length : Int) != 2) = Bool.true then some (Bool.false) else Lr07_form_47 s k x0 x1 x2 k (x0) (x2) (Bool.false) (0) (x1.Op) (x1.N) (x1.Name) (x1.Field) (x1.L)) else some (Bool.false)) else (if (x1.Op == 23) = Bool.true then (if (x1.Op == 23) = Bool.true then (if (!x1.N == 0 || !x1.Name.toList == { data := #[] : ByteArray }.toList || !x1.Field.toList == { data := #[] : ByteArray }.toList || (↑x1.L.length : Int) != 2) = Bool.true then some (Bool.false) else Lr07_form_47 s k x0 x1 x2 k (x0) (x2) (Bool.false) (0) (x1.Op) (x1.N) (x1.Name) (x1.Field) (x1.L)) else some (Bool.false)) else (if (x1.Op == 24) = Bool.true then (if (!x1.N == 0 || !x1.Name.toList == { data := #[] : ByteArray }.toList || !x1.Field.toList == { data := #[] : ByteArray }.toList || (↑x1.L.length : Int) != 2) = Bool.true then some (Bool.false) else Lr07_form_47 s k x0 x1 x2 k (x0) (x2) (Bool.false) (0) (x1.Op) (x1.N) (x1.Name) (x1.Field) (x1.L)) else some (Bool.false))))))))))))))))) else (if (x1.Op == 9) = Bool.true then (if (!x1.N == 0 || !x1.Name.toList == { data := #[] : ByteArray }.toList || !x1.Field.toList == { data := #[] : ByteArray }.toList || (↑x1.L.length : Int) != 1) = Bool.true then some (Bool.false) else Lr07_form_47 s k x0 x1 x2 k (x0) (x2) (Bool.false) (0) (x1.Op) (x1.N) (x1.Name) (x1.Field) (x1.L)) else (if (x1.Op == 10) = Bool.true then (if (x1.Op == 10) = Bool.true then (if (!x1.N == 0 || !x1.Name.toList == { data := #[] : ByteArray }.toList || !x1.Field.toList == { data := #[] : ByteArray }.toList || (↑x1.L.length : Int) != 2) = Bool.true then some (Bool.false) else Lr07_form_47 s k x0 x1 x2 k (x0) (x2) (Bool.false) (0) (x1.Op) (x1.N) (x1.Name) (x1.Field) (x1.L)) else some (Bool.false)) else (if (x1.Op == 11) = Bool.true then (if (x1.Op == 11) = Bool.true then (if (!x1.N == 0 || !x1.Name.toList == { data := #[] : ByteArray }.toList || !x1.Field.toList == { data := #[] : ByteArray }.toList || (↑x1.L.length : Int) != 2) = Bool.true then some (Bool.false) else Lr07_form_47 s k x0 x1 x2 k (x0) (x2) (Bool.false) (0) (x1.Op) (x1.N) (x1.Name) (x1.Field) (x1.L)) else some (Bool.false)) else (if (x1.Op == 12) = Bool.true then (if (x1.Op == 12) = Bool.true then (if (!x1.N == 0 || !x1.Name.toList == { data := #[] : ByteArray }.toList || !x1.Field.toList == { data := #[] : ByteArray }.toList || (↑x1.L.length : Int) != 2) = Bool.true then some (Bool.false) else Lr07_form_47 s k x0 x1 x2 k (x0) (x2) (Bool.false) (0) (x1.Op) (x1.N) (x1.Name) (x1.Field) (x1.L)) else some (Bool.false)) else (if (x1.Op == 13) = Bool.true then (if (x1.Op == 13) = Bool.true then (if (!x1.N == 0 || !x1.Name.toList == { data := #[] : ByteArray }.toList || !x1.Field.toList == { data := #[] : ByteArray }.toList || (↑x1.L.length : Int) != 2) = Bool.true then some (Bool.false) else Lr07_form_47 s k x0 x1 x2 k (x0) (x2) (Bool.false) (0) (x1.Op) (x1.N) (x1.Name) (x1.Field) (x1.L)) else some (Bool.false)) else (if (x1.Op == 14) = Bool.true then (if (x1.Op == 14) = Bool.true then (if (!x1.N == 0 || !x1.Name.toList == { data := #[] : ByteArray }.toList || !x1.Field.toList == { data := #[] : ByteArray }.toList || (↑x1.L.length : Int) != 2) = Bool.true then some (Bool.false) else Lr07_form_47 s k x0 x1 x2 k (x0) (x2) (Bool.false) (0) (x1.Op) (x1.N) (x1.Name) (x1.Field) (x1.L)) else some (Bool.false)) else (if (x1.Op == 15) = Bool.true then (if (x1.Op == 15) = Bool.true then (if (!x1.N == 0 || !x1.Name.toList == { data := #[] : ByteArray }.toList || !x1.Field.toList == { data := #[] : ByteArray }.toList || (↑x1.L.length : Int) != 2) = Bool.true then some (Bool.false) else Lr07_form_47 s k x0 x1 x2 k (x0) (x2) (Bool.false) (0) (x1.Op) (x1.N) (x1.Name) (x1.Field) (x1.L)) else some (Bool.false)) else (if (x1.Op == 16) = Bool.true then (if (x1.Op == 16) = Bool.true then (if (!x1.N == 0 || !x1.Name.toList == { data := #[] : ByteArray }.toList || !x1.Field.toList == { data := #[] : ByteArray }.toList || (↑x1.L.length : Int) != 2) = Bool.true then some (Bool.false) else Lr07_form_47 s k x0 x1 x2 k (x0) (x2) (Bool.false) (0) (x1.Op) (x1.N) (x1.Name) (x1.Field) (x1.L)) else some (Bool.false)) else (if (x1.Op == 17) = Bool.true then (if (x1.Op == 17) = Bool.true then (if (!x1.N == 0 || !x1.Name.toList == { data := #[] : ByteArray }.toList || !x1.Field.toList == { data := #[] : ByteArray }.toList || (↑x1.L.length : Int) != 2) = Bool.true then some (Bool.false) else Lr07_form_47 s k x0 x1 x2 k (x0) (x2) (Bool.false) (0) (x1.Op) (x1.N) (x1.Name) (x1.Field) (x1.L)) else some (Bool.false)) else (if (x1.Op == 18) = Bool.true then (if (x1.Op == 18) = Bool.true then (if (!x1.N == 0 || !x1.Name.toList == { data := #[] : ByteArray }.toList || !x1.Field.toList == { data := #[] : ByteArray }.toList || (↑x1.L.length : Int) != 2) = Bool.true then some (Bool.false) else Lr07_form_47 s k x0 x1 x2 k (x0) (x2) (Bool.false) (0) (x1.Op) (x1.N) (x1.Name) (x1.Field) (x1.L)) else some (Bool.false)) else (if (x1.Op == 19) = Bool.true then (if (x1.Op == 19) = Bool.true then (if (!x1.N == 0 || !x1.Name.toList == { data := #[] : ByteArray }.toList || !x1.Field.toList == { data := #[] : ByteArray }.toList || (↑x1.L.length : Int) != 2) = Bool.true then some (Bool.false) else Lr07_form_47 s k x0 x1 x2 k (x0) (x2) (Bool.false) (0) (x1.Op) (x1.N) (x1.Name) (x1.Field) (x1.L)) else some (Bool.false)) else (if (x1.Op == 20) = Bool.true then (if (x1.Op == 20) = Bool.true then (if (!x1.N == 0 || !x1.Name.toList == { data := #[] : ByteArray }.toList || !x1.Field.toList == { data := #[] : ByteArray }.toList || (↑x1.L.length : Int) != 2) = Bool.true then some (Bool.false) else Lr07_form_47 s k x0 x1 x2 k (x0) (x2) (Bool.false) (0) (x1.Op) (x1.N) (x1.Name) (x1.Field) (x1.L)) else some (Bool.false)) else (if (x1.Op == 21) = Bool.true then (if (x1.Op == 21) = Bool.true then (if (!x1.N == 0 || !x1.Name.toList == { data := #[] : ByteArray }.toList || !x1.Field.toList == { data := #[] : ByteArray }.toList || (↑x1.L.length : Int) != 2) = Bool.true then some (Bool.false) else Lr07_form_47 s k x0 x1 x2 k (x0) (x2) (Bool.false) (0) (x1.Op) (x1.N) (x1.Name) (x1.Field) (x1.L)) else some (Bool.false)) else (if (x1.Op == 22) = Bool.true then (if (x1.Op == 22) = Bool.true then (if (!x1.N == 0 || !x1.Name.toList == { data := #[] : ByteArray }.toList || !x1.Field.toList == { data := #[] : ByteArray }.toList || (↑x1.L.length : Int) != 2) = Bool.true then some (Bool.false) else Lr07_form_47 s k x0 x1 x2 k (x0) (x2) (Bool.false) (0) (x1.Op) (x1.N) (x1.Name) (x1.Field) (x1.L)) else some (Bool.false)) else (if (x1.Op == 23) = Bool.true then (if (x1.Op == 23) = Bool.true then (if (!x1.N == 0 || !x1.Name.toList == { data := #[] : ByteArray }.toList || !x1.Field.toList == { data := #[] : ByteArray }.toList || (↑x1.L.length : Int) != 2) = Bool.true then some (Bool.false) else Lr07_form_47 s k x0 x1 x2 k (x0) (x2) (Bool.false) (0) (x1.Op) (x1.N) (x1.Name) (x1.Field) (x1.L)) else some (Bool.false)) else (if (x1.Op == 24) = Bool.true then (if (!x1.N == 0 || !x1.Name.toList == { data := #[] : ByteArray }.toList || !x1.Field.toList == { data := #[] : ByteArray }.toList || (↑x1.L.length : Int) != 2) = Bool.true then some (Bool.false) else Lr07_form_47 s k x0 x1 x2 k (x0) (x2) (Bool.false) (0) (x1.Op) (x1.N) (x1.Name) (x1.Field) (x1.L)) else some (Bool.false))))))))))))))))))))))))))
theorem Lr07_form_47_eq (s : Fam) (k : Nat) (x0 : Int) (x1 : TExpr) (x2 : Int) : ∀ (j47 : Nat) (v0 : Int) (v1 : Int) (v2 : Bool) (v3 : Int) (v4 : Int) (v5 : Int) (v6 : ByteArray) (v7 : ByteArray) (v8 : List TExpr), (loopGo EE (sp s) h_r07_form co_r07_form [] k Tryz.f52 47 [] j47 ({ tmps := ofL AV.any [(0, AV.c (CV.d (DV.lit (Go.Value.int Go.IntKind.i64 v0)))), (2, AV.c (CV.d (DV.lit (Go.Value.int Go.IntKind.i64 v1)))), (4, AV.c (CV.ptr 4 0)), (11, AV.c (CV.d (DV.lit (Go.Value.bool v2)))), (12, AV.c (CV.d (DV.lit (Go.Value.int Go.IntKind.i64 v3))))], boxes := ofL Option.none [(4, Option.some [CV.d (DV.lit (Go.Value.int Go.IntKind.i64 v4)), CV.d (DV.lit (Go.Value.int Go.IntKind.i64 v5)), CV.d (DV.lit (Go.Value.string v6)), CV.d (DV.lit (Go.Value.string v7)), CV.d (DV.sl 44 v8)])], objs := ofL Option.none [(1099511644164, Option.none)], fxs := ofL Option.none [(4, Option.none)] : AS II })).run = (Lr07_form_47 s k x0 x1 x2 j47 v0 v1 v2 v3 v4 v5 v6 v7 v8).map rc_r07_form.enc := by
  intro j47
  induction j47 with
  | zero => intros; rfl
  | succ j47 ih =>
    intros
    simp only [Lr07_form_47, map_ite, map_bindO, map_someO, map_noneO, ← ih]
    kernel_rfl
theorem e_r07_form (s : Fam) (k : Nat) (x : a_r07_form) : (evFunC EE (sp s) h_r07_form co_r07_form k Tryz.f52 (c_r07_form.enc x)).run = (B_r07_form s k x.1 x.2.1 x.2.2.1).map rc_r07_form.enc := by
  simp only [B_r07_form, map_ite, map_bindO, map_someO, map_noneO, ← Lr07_form_47_eq]
  kernel_rfl
-- 247 nodes
def Lr07_Deep_3 (s : Fam) (k : Nat) (x0 : TExpr) (x1 : Int) : Nat → Int → Int → Int → Int → Int → ByteArray → ByteArray → List TExpr → Option (Int)
  | 0, _, _, _, _, _, _, _, _ => none
  | j3 + 1, v0, v1, v2, v3, v4, v5, v6, v7 => (if (decide (v2 < (↑v7.length : Int)) && decide (v0 > 0)) = Bool.true then (if 0 ≤ v2 then (if v2 < (↑v7.length : Int) then (if ((v7.getD v2.toNat dd_TExpr).Op != 25) = Bool.true then (if 0 ≤ v2 then (if v2 < (↑v7.length : Int) then ((s.f_r07_Deep ((v7.getD v2.toNat dd_TExpr).re, Go.IntKind.i64.wrap (v0 - 1), ())).bind fun t8 => Lr07_Deep_3 s k x0 x1 j3 (v0) (if t8 > v1 then t8 else v1) (Go.IntKind.i64.wrap (v2 + 1)) (v3) (v4) (v5) (v6) (v7)) else none) else none) else Lr07_Deep_3 s k x0 x1 j3 (v0) (v1) (Go.IntKind.i64.wrap (v2 + 1)) (v3) (v4) (v5) (v6) (v7)) else none) else none) else some (Go.IntKind.i64.wrap (v1 + 1)))
def B_r07_Deep (s : Fam) (k : Nat) (x0 : TExpr) (x1 : Int) : Option (Int) := Lr07_Deep_3 s k x0 x1 k (x1) (0) (0) (x0.Op) (x0.N) (x0.Name) (x0.Field) (x0.L)
theorem Lr07_Deep_3_eq (s : Fam) (k : Nat) (x0 : TExpr) (x1 : Int) : ∀ (j3 : Nat) (v0 : Int) (v1 : Int) (v2 : Int) (v3 : Int) (v4 : Int) (v5 : ByteArray) (v6 : ByteArray) (v7 : List TExpr), (loopGo EE (sp s) h_r07_Deep co_r07_Deep [] k Tryz.f53 3 [] j3 ({ tmps := ofL AV.any [(1, AV.c (CV.d (DV.lit (Go.Value.int Go.IntKind.i64 v0)))), (2, AV.c (CV.ptr 2 0)), (5, AV.c (CV.d (DV.lit (Go.Value.int Go.IntKind.i64 v1)))), (6, AV.c (CV.d (DV.lit (Go.Value.int Go.IntKind.i64 v2))))], boxes := ofL Option.none [(2, Option.some [CV.d (DV.lit (Go.Value.int Go.IntKind.i64 v3)), CV.d (DV.lit (Go.Value.int Go.IntKind.i64 v4)), CV.d (DV.lit (Go.Value.string v5)), CV.d (DV.lit (Go.Value.string v6)), CV.d (DV.sl 44 v7)])], objs := ofL Option.none [(1099511635972, Option.none)], fxs := ofL Option.none [(2, Option.none)] : AS II })).run = (Lr07_Deep_3 s k x0 x1 j3 v0 v1 v2 v3 v4 v5 v6 v7).map rc_r07_Deep.enc := by
  intro j3
  induction j3 with
  | zero => intros; rfl
  | succ j3 ih =>
    intros
    simp only [Lr07_Deep_3, map_ite, map_bindO, map_someO, map_noneO, ← ih]
    kernel_rfl
theorem e_r07_Deep (s : Fam) (k : Nat) (x : a_r07_Deep) : (evFunC EE (sp s) h_r07_Deep co_r07_Deep k Tryz.f53 (c_r07_Deep.enc x)).run = (B_r07_Deep s k x.1 x.2.1).map rc_r07_Deep.enc := by
  simp only [B_r07_Deep, map_ite, map_bindO, map_someO, map_noneO, ← Lr07_Deep_3_eq]
  kernel_rfl
-- 15 nodes
def Lslices_Equal_string_4 (s : Fam) (k : Nat) (x0 : List ByteArray) (x1 : List ByteArray) : Nat → List ByteArray → List ByteArray → Int → Int → Option (Bool)
  | 0, _, _, _, _ => none
  | j4 + 1, v0, v1, v2, v3 => (if decide (v3 < v2) = Bool.true then (if 0 ≤ v3 then (if v3 < (↑v0.length : Int) then (if 0 ≤ v3 then (if v3 < (↑v1.length : Int) then (if (!(v0.getD v3.toNat { data := #[] : ByteArray }).toList == (v1.getD v3.toNat { data := #[] : ByteArray }).toList) = Bool.true then some (Bool.false) else Lslices_Equal_string_4 s k x0 x1 j4 (v0) (v1) (v2) (Go.IntKind.i64.wrap (v3 + 1))) else none) else none) else none) else none) else some (Bool.true))
def B_slices_Equal_string (s : Fam) (k : Nat) (x0 : List ByteArray) (x1 : List ByteArray) : Option (Bool) := (if ((↑x0.length : Int) != (↑x1.length : Int)) = Bool.true then some (Bool.false) else Lslices_Equal_string_4 s k x0 x1 k (x0) (x1) ((↑x0.length : Int)) (0))
theorem Lslices_Equal_string_4_eq (s : Fam) (k : Nat) (x0 : List ByteArray) (x1 : List ByteArray) : ∀ (j4 : Nat) (v0 : List ByteArray) (v1 : List ByteArray) (v2 : Int) (v3 : Int), (loopGo EE (sp s) h_slices_Equal_string co_slices_Equal_string [] k Tryz.f54 4 [] j4 ({ tmps := ofL AV.any [(0, AV.c (CV.d (DV.sl 9 v0))), (1, AV.c (CV.d (DV.sl 9 v1))), (12, AV.c (CV.d (DV.lit (Go.Value.int Go.IntKind.i64 v2)))), (13, AV.c (CV.d (DV.lit (Go.Value.int Go.IntKind.i64 v3))))], boxes := ofL Option.none [], objs := ofL Option.none [], fxs := ofL Option.none [] : AS II })).run = (Lslices_Equal_string_4 s k x0 x1 j4 v0 v1 v2 v3).map rc_slices_Equal_string.enc := by
  intro j4
  induction j4 with
  | zero => intros; rfl
  | succ j4 ih =>
    intros
    simp only [Lslices_Equal_string_4, map_ite, map_bindO, map_someO, map_noneO, ← ih]
    kernel_rfl
theorem e_slices_Equal_string (s : Fam) (k : Nat) (x : a_slices_Equal_string) : (evFunC EE (sp s) h_slices_Equal_string co_slices_Equal_string k Tryz.f54 (c_slices_Equal_string.enc x)).run = (B_slices_Equal_string s k x.1 x.2.1).map rc_slices_Equal_string.enc := by
  simp only [B_slices_Equal_string, map_ite, map_bindO, map_someO, map_noneO, ← Lslices_Equal_string_4_eq]
  kernel_rfl
-- 16 nodes
def Lslices_EqualFunc_Rec_4 (s : Fam) (k : Nat) (x0 : List TRec) (x1 : List TRec) (x2 : Unit × Unit) : Nat → List TRec → List TRec → Int → Int → Option (Bool)
  | 0, _, _, _, _ => none
  | j4 + 1, v0, v1, v2, v3 => (if decide (v3 < v2) = Bool.true then (if 0 ≤ v3 then (if v3 < (↑v1.length : Int) then (if 0 ≤ v3 then (if v3 < (↑v0.length : Int) then ((s.f_tree_sameRec (v1.getD v3.toNat dd_TRec, v0.getD v3.toNat dd_TRec, ())).bind fun t9 => (if (!t9) = Bool.true then some (Bool.false) else Lslices_EqualFunc_Rec_4 s k x0 x1 x2 j4 (v0) (v1) (v2) (Go.IntKind.i64.wrap (v3 + 1)))) else none) else none) else none) else none) else some (Bool.true))
def B_slices_EqualFunc_Rec (s : Fam) (k : Nat) (x0 : List TRec) (x1 : List TRec) (x2 : Unit × Unit) : Option (Bool) := (if ((↑x0.length : Int) != (↑x1.length : Int)) = Bool.true then some (Bool.false) else Lslices_EqualFunc_Rec_4 s k x0 x1 x2 k (x1) (x0) ((↑x0.length : Int)) (0))
theorem Lslices_EqualFunc_Rec_4_eq (s : Fam) (k : Nat) (x0 : List TRec) (x1 : List TRec) (x2 : Unit × Unit) : ∀ (j4 : Nat) (v0 : List TRec) (v1 : List TRec) (v2 : Int) (v3 : Int), (loopGo EE (sp s) h_slices_EqualFunc_Rec co_slices_EqualFunc_Rec [] k Tryz.f55 4 [] j4 ({ tmps := ofL AV.any [(1, AV.c (CV.d (DV.sl 59 v0))), (2, AV.c (CV.clo 56 [] [])), (15, AV.c (CV.d (DV.sl 59 v1))), (16, AV.c (CV.d (DV.lit (Go.Value.int Go.IntKind.i64 v2)))), (17, AV.c (CV.d (DV.lit (Go.Value.int Go.IntKind.i64 v3))))], boxes := ofL Option.none [], objs := ofL Option.none [(15, Option.none)], fxs := ofL Option.none [] : AS II })).run = (Lslices_EqualFunc_Rec_4 s k x0 x1 x2 j4 v0 v1 v2 v3).map rc_slices_EqualFunc_Rec.enc := by
  intro j4
  induction j4 with
  | zero => intros; rfl
  | succ j4 ih =>
    intros
    simp only [Lslices_EqualFunc_Rec_4, map_ite, map_bindO, map_someO, map_noneO, ← ih]
    kernel_rfl
theorem e_slices_EqualFunc_Rec (s : Fam) (k : Nat) (x : a_slices_EqualFunc_Rec) : (evFunC EE (sp s) h_slices_EqualFunc_Rec co_slices_EqualFunc_Rec k Tryz.f55 (c_slices_EqualFunc_Rec.enc x)).run = (B_slices_EqualFunc_Rec s k x.1 x.2.1 x.2.2.1).map rc_slices_EqualFunc_Rec.enc := by
  simp only [B_slices_EqualFunc_Rec, map_ite, map_bindO, map_someO, map_noneO, ← Lslices_EqualFunc_Rec_4_eq]
  kernel_rfl
-- 17 nodes
def B_tree_sameRec (s : Fam) (k : Nat) (x0 : TRec) (x1 : TRec) : Option (Bool) := ((s.f_tree_marks (x0.sub_Marks, x1.sub_Marks, ())).bind fun t1 => (if (t1 && x0.Name.toList == x1.Name.toList) = Bool.true then ((s.f_slices_Equal_string (x0.End, x1.End, ())).bind fun t3 => (if (Bool.true && t3) = Bool.true then ((s.f_slices_EqualFunc_Field (x0.Fields, x1.Fields, ((), ()), ())).bind fun t5 => some (Bool.true && t5)) else some (Bool.false))) else some (Bool.false)))
theorem e_tree_sameRec (s : Fam) (k : Nat) (x : a_tree_sameRec) : (evFunC EE (sp s) h_tree_sameRec co_tree_sameRec k Tryz.f56 (c_tree_sameRec.enc x)).run = (B_tree_sameRec s k x.1 x.2.1).map rc_tree_sameRec.enc := by
  simp only [B_tree_sameRec, map_ite, map_bindO, map_someO, map_noneO]
  kernel_rfl
-- 12 nodes
def Lslices_EqualFunc_Var_4 (s : Fam) (k : Nat) (x0 : List TVar) (x1 : List TVar) (x2 : Unit × Unit) : Nat → List TVar → List TVar → Int → Int → Option (Bool)
  | 0, _, _, _, _ => none
  | j4 + 1, v0, v1, v2, v3 => (if decide (v3 < v2) = Bool.true then (if 0 ≤ v3 then (if v3 < (↑v1.length : Int) then (if 0 ≤ v3 then (if v3 < (↑v0.length : Int) then ((s.f_tree_sameVar (v1.getD v3.toNat dd_TVar, v0.getD v3.toNat dd_TVar, ())).bind fun t9 => (if (!t9) = Bool.true then some (Bool.false) else Lslices_EqualFunc_Var_4 s k x0 x1 x2 j4 (v0) (v1) (v2) (Go.IntKind.i64.wrap (v3 + 1)))) else none) else none) else none) else none) else some (Bool.true))
def B_slices_EqualFunc_Var (s : Fam) (k : Nat) (x0 : List TVar) (x1 : List TVar) (x2 : Unit × Unit) : Option (Bool) := (if ((↑x0.length : Int) != (↑x1.length : Int)) = Bool.true then some (Bool.false) else Lslices_EqualFunc_Var_4 s k x0 x1 x2 k (x1) (x0) ((↑x0.length : Int)) (0))
theorem Lslices_EqualFunc_Var_4_eq (s : Fam) (k : Nat) (x0 : List TVar) (x1 : List TVar) (x2 : Unit × Unit) : ∀ (j4 : Nat) (v0 : List TVar) (v1 : List TVar) (v2 : Int) (v3 : Int), (loopGo EE (sp s) h_slices_EqualFunc_Var co_slices_EqualFunc_Var [] k Tryz.f57 4 [] j4 ({ tmps := ofL AV.any [(1, AV.c (CV.d (DV.sl 98 v0))), (2, AV.c (CV.clo 58 [] [])), (15, AV.c (CV.d (DV.sl 98 v1))), (16, AV.c (CV.d (DV.lit (Go.Value.int Go.IntKind.i64 v2)))), (17, AV.c (CV.d (DV.lit (Go.Value.int Go.IntKind.i64 v3))))], boxes := ofL Option.none [], objs := ofL Option.none [(15, Option.none)], fxs := ofL Option.none [] : AS II })).run = (Lslices_EqualFunc_Var_4 s k x0 x1 x2 j4 v0 v1 v2 v3).map rc_slices_EqualFunc_Var.enc := by
  intro j4
  induction j4 with
  | zero => intros; rfl
  | succ j4 ih =>
    intros
    simp only [Lslices_EqualFunc_Var_4, map_ite, map_bindO, map_someO, map_noneO, ← ih]
    kernel_rfl
theorem e_slices_EqualFunc_Var (s : Fam) (k : Nat) (x : a_slices_EqualFunc_Var) : (evFunC EE (sp s) h_slices_EqualFunc_Var co_slices_EqualFunc_Var k Tryz.f57 (c_slices_EqualFunc_Var.enc x)).run = (B_slices_EqualFunc_Var s k x.1 x.2.1 x.2.2.1).map rc_slices_EqualFunc_Var.enc := by
  simp only [B_slices_EqualFunc_Var, map_ite, map_bindO, map_someO, map_noneO, ← Lslices_EqualFunc_Var_4_eq]
  kernel_rfl
-- 17 nodes
def B_tree_sameVar (s : Fam) (k : Nat) (x0 : TVar) (x1 : TVar) : Option (Bool) := ((s.f_tree_marks (x0.sub_Marks, x1.sub_Marks, ())).bind fun t1 => some (t1 && x0.Name.toList == x1.Name.toList && (x0.T_Kind == x1.T_Kind && (x0.T_Size == x1.T_Size && (x0.T_Name.toList == x1.T_Name.toList && Bool.true)))))
theorem e_tree_sameVar (s : Fam) (k : Nat) (x : a_tree_sameVar) : (evFunC EE (sp s) h_tree_sameVar co_tree_sameVar k Tryz.f58 (c_tree_sameVar.enc x)).run = (B_tree_sameVar s k x.1 x.2.1).map rc_tree_sameVar.enc := by
  simp only [B_tree_sameVar, map_ite, map_bindO, map_someO, map_noneO]
  kernel_rfl
-- 2 nodes
def Lslices_EqualFunc_Routine_4 (s : Fam) (k : Nat) (x0 : List TRoutine) (x1 : List TRoutine) (x2 : Unit × Unit) : Nat → List TRoutine → List TRoutine → Int → Int → Option (Bool)
  | 0, _, _, _, _ => none
  | j4 + 1, v0, v1, v2, v3 => (if decide (v3 < v2) = Bool.true then (if 0 ≤ v3 then (if v3 < (↑v1.length : Int) then (if 0 ≤ v3 then (if v3 < (↑v0.length : Int) then ((s.f_tree_sameRoutine ((v1.getD v3.toNat dd_TRoutine).re, (v0.getD v3.toNat dd_TRoutine).re, ())).bind fun t9 => (if (!t9) = Bool.true then some (Bool.false) else Lslices_EqualFunc_Routine_4 s k x0 x1 x2 j4 (v0) (v1) (v2) (Go.IntKind.i64.wrap (v3 + 1)))) else none) else none) else none) else none) else some (Bool.true))
def B_slices_EqualFunc_Routine (s : Fam) (k : Nat) (x0 : List TRoutine) (x1 : List TRoutine) (x2 : Unit × Unit) : Option (Bool) := (if ((↑x0.length : Int) != (↑x1.length : Int)) = Bool.true then some (Bool.false) else Lslices_EqualFunc_Routine_4 s k x0 x1 x2 k (x1) (x0) ((↑x0.length : Int)) (0))
theorem Lslices_EqualFunc_Routine_4_eq (s : Fam) (k : Nat) (x0 : List TRoutine) (x1 : List TRoutine) (x2 : Unit × Unit) : ∀ (j4 : Nat) (v0 : List TRoutine) (v1 : List TRoutine) (v2 : Int) (v3 : Int), (loopGo EE (sp s) h_slices_EqualFunc_Routine co_slices_EqualFunc_Routine [] k Tryz.f59 4 [] j4 ({ tmps := ofL AV.any [(1, AV.c (CV.d (DV.sl 103 v0))), (2, AV.c (CV.clo 60 [] [])), (15, AV.c (CV.d (DV.sl 103 v1))), (16, AV.c (CV.d (DV.lit (Go.Value.int Go.IntKind.i64 v2)))), (17, AV.c (CV.d (DV.lit (Go.Value.int Go.IntKind.i64 v3))))], boxes := ofL Option.none [], objs := ofL Option.none [(15, Option.none)], fxs := ofL Option.none [] : AS II })).run = (Lslices_EqualFunc_Routine_4 s k x0 x1 x2 j4 v0 v1 v2 v3).map rc_slices_EqualFunc_Routine.enc := by
  intro j4
  induction j4 with
  | zero => intros; rfl
  | succ j4 ih =>
    intros
    simp only [Lslices_EqualFunc_Routine_4, map_ite, map_bindO, map_someO, map_noneO, ← ih]
    kernel_rfl
theorem e_slices_EqualFunc_Routine (s : Fam) (k : Nat) (x : a_slices_EqualFunc_Routine) : (evFunC EE (sp s) h_slices_EqualFunc_Routine co_slices_EqualFunc_Routine k Tryz.f59 (c_slices_EqualFunc_Routine.enc x)).run = (B_slices_EqualFunc_Routine s k x.1 x.2.1 x.2.2.1).map rc_slices_EqualFunc_Routine.enc := by
  simp only [B_slices_EqualFunc_Routine, map_ite, map_bindO, map_someO, map_noneO, ← Lslices_EqualFunc_Routine_4_eq]
  kernel_rfl
-- 17 nodes
def B_tree_sameRoutine (s : Fam) (k : Nat) (x0 : TRoutine) (x1 : TRoutine) : Option (Bool) := ((s.f_tree_marks (x0.sub_Marks, x1.sub_Marks, ())).bind fun t1 => (if (t1 && x0.Name.toList == x1.Name.toList && x0.Result == x1.Result) = Bool.true then ((s.f_slices_Equal_Param (x0.Params, x1.Params, ())).bind fun t3 => (if (Bool.true && t3) = Bool.true then ((s.f_slices_EqualFunc_Var (x0.Vars, x1.Vars, ((), ()), ())).bind fun t5 => (if (Bool.true && t5) = Bool.true then ((s.f_slices_EqualFunc_Routine (x0.Inner, x1.Inner, ((), ()), ())).bind fun t7 => (if (Bool.true && t7) = Bool.true then ((s.f_slices_EqualFunc_Stmt (x0.Body, x1.Body, ((), ()), ())).bind fun t9 => (if (Bool.true && t9) = Bool.true then ((s.f_slices_Equal_string (x0.End, x1.End, ())).bind fun t11 => some (Bool.true && t11)) else some (Bool.false))) else some (Bool.false))) else some (Bool.false))) else some (Bool.false))) else some (Bool.false)))
theorem e_tree_sameRoutine (s : Fam) (k : Nat) (x : a_tree_sameRoutine) : (evFunC EE (sp s) h_tree_sameRoutine co_tree_sameRoutine k Tryz.f60 (c_tree_sameRoutine.enc x)).run = (B_tree_sameRoutine s k x.1 x.2.1).map rc_tree_sameRoutine.enc := by
  simp only [B_tree_sameRoutine, map_ite, map_bindO, map_someO, map_noneO]
  kernel_rfl
-- 42 nodes
def Lslices_EqualFunc_Stmt_4 (s : Fam) (k : Nat) (x0 : List TStmt) (x1 : List TStmt) (x2 : Unit × Unit) : Nat → List TStmt → List TStmt → Int → Int → Option (Bool)
  | 0, _, _, _, _ => none
  | j4 + 1, v0, v1, v2, v3 => (if decide (v3 < v2) = Bool.true then (if 0 ≤ v3 then (if v3 < (↑v1.length : Int) then (if 0 ≤ v3 then (if v3 < (↑v0.length : Int) then ((s.f_tree_sameStmt ((v1.getD v3.toNat dd_TStmt).re, (v0.getD v3.toNat dd_TStmt).re, ())).bind fun t9 => (if (!t9) = Bool.true then some (Bool.false) else Lslices_EqualFunc_Stmt_4 s k x0 x1 x2 j4 (v0) (v1) (v2) (Go.IntKind.i64.wrap (v3 + 1)))) else none) else none) else none) else none) else some (Bool.true))
def B_slices_EqualFunc_Stmt (s : Fam) (k : Nat) (x0 : List TStmt) (x1 : List TStmt) (x2 : Unit × Unit) : Option (Bool) := (if ((↑x0.length : Int) != (↑x1.length : Int)) = Bool.true then some (Bool.false) else Lslices_EqualFunc_Stmt_4 s k x0 x1 x2 k (x1) (x0) ((↑x0.length : Int)) (0))
theorem Lslices_EqualFunc_Stmt_4_eq (s : Fam) (k : Nat) (x0 : List TStmt) (x1 : List TStmt) (x2 : Unit × Unit) : ∀ (j4 : Nat) (v0 : List TStmt) (v1 : List TStmt) (v2 : Int) (v3 : Int), (loopGo EE (sp s) h_slices_EqualFunc_Stmt co_slices_EqualFunc_Stmt [] k Tryz.f61 4 [] j4 ({ tmps := ofL AV.any [(1, AV.c (CV.d (DV.sl 107 v0))), (2, AV.c (CV.clo 62 [] [])), (15, AV.c (CV.d (DV.sl 107 v1))), (16, AV.c (CV.d (DV.lit (Go.Value.int Go.IntKind.i64 v2)))), (17, AV.c (CV.d (DV.lit (Go.Value.int Go.IntKind.i64 v3))))], boxes := ofL Option.none [], objs := ofL Option.none [(15, Option.none)], fxs := ofL Option.none [] : AS II })).run = (Lslices_EqualFunc_Stmt_4 s k x0 x1 x2 j4 v0 v1 v2 v3).map rc_slices_EqualFunc_Stmt.enc := by
  intro j4
  induction j4 with
  | zero => intros; rfl
  | succ j4 ih =>
    intros
    simp only [Lslices_EqualFunc_Stmt_4, map_ite, map_bindO, map_someO, map_noneO, ← ih]
    kernel_rfl
theorem e_slices_EqualFunc_Stmt (s : Fam) (k : Nat) (x : a_slices_EqualFunc_Stmt) : (evFunC EE (sp s) h_slices_EqualFunc_Stmt co_slices_EqualFunc_Stmt k Tryz.f61 (c_slices_EqualFunc_Stmt.enc x)).run = (B_slices_EqualFunc_Stmt s k x.1 x.2.1 x.2.2.1).map rc_slices_EqualFunc_Stmt.enc := by
  simp only [B_slices_EqualFunc_Stmt, map_ite, map_bindO, map_someO, map_noneO, ← Lslices_EqualFunc_Stmt_4_eq]
  kernel_rfl
-- 17 nodes
def B_tree_sameStmt (s : Fam) (k : Nat) (x0 : TStmt) (x1 : TStmt) : Option (Bool) := ((s.f_tree_marks (x0.sub_Marks, x1.sub_Marks, ())).bind fun t1 => (if (t1 && x0.Op == x1.Op && x0.Name.toList == x1.Name.toList) = Bool.true then ((s.f_tree_SameExpr (x0.sub_P, x1.sub_P, ())).bind fun t3 => (if (Bool.true && t3) = Bool.true then ((s.f_slices_EqualFunc_Expr (x0.E, x1.E, ((), ()), ())).bind fun t5 => (if (Bool.true && t5 && x0.Down == x1.Down && x0.More == x1.More) = Bool.true then ((s.f_slices_EqualFunc_Stmt (x0.Body, x1.Body, ((), ()), ())).bind fun t7 => (if (Bool.true && t7) = Bool.true then ((s.f_slices_EqualFunc_Stmt (x0.Else, x1.Else, ((), ()), ())).bind fun t9 => (if (Bool.true && t9) = Bool.true then ((s.f_slices_Equal_string (x0.End, x1.End, ())).bind fun t11 => (if (Bool.true && t11) = Bool.true then ((s.f_slices_Equal_string (x0.End2, x1.End2, ())).bind fun t13 => some (Bool.true && t13)) else some (Bool.false))) else some (Bool.false))) else some (Bool.false))) else some (Bool.false))) else some (Bool.false))) else some (Bool.false)))
theorem e_tree_sameStmt (s : Fam) (k : Nat) (x : a_tree_sameStmt) : (evFunC EE (sp s) h_tree_sameStmt co_tree_sameStmt k Tryz.f62 (c_tree_sameStmt.enc x)).run = (B_tree_sameStmt s k x.1 x.2.1).map rc_tree_sameStmt.enc := by
  simp only [B_tree_sameStmt, map_ite, map_bindO, map_someO, map_noneO]
  kernel_rfl
-- 56 nodes
def Lslices_EqualFunc_Expr_4 (s : Fam) (k : Nat) (x0 : List TExpr) (x1 : List TExpr) (x2 : Unit × Unit) : Nat → List TExpr → List TExpr → Int → Int → Option (Bool)
  | 0, _, _, _, _ => none
  | j4 + 1, v0, v1, v2, v3 => (if decide (v3 < v2) = Bool.true then (if 0 ≤ v3 then (if v3 < (↑v1.length : Int) then (if 0 ≤ v3 then (if v3 < (↑v0.length : Int) then ((s.f_tree_SameExpr ((v1.getD v3.toNat dd_TExpr).re, (v0.getD v3.toNat dd_TExpr).re, ())).bind fun t9 => (if (!t9) = Bool.true then some (Bool.false) else Lslices_EqualFunc_Expr_4 s k x0 x1 x2 j4 (v0) (v1) (v2) (Go.IntKind.i64.wrap (v3 + 1)))) else none) else none) else none) else none) else some (Bool.true))
def B_slices_EqualFunc_Expr (s : Fam) (k : Nat) (x0 : List TExpr) (x1 : List TExpr) (x2 : Unit × Unit) : Option (Bool) := (if ((↑x0.length : Int) != (↑x1.length : Int)) = Bool.true then some (Bool.false) else Lslices_EqualFunc_Expr_4 s k x0 x1 x2 k (x1) (x0) ((↑x0.length : Int)) (0))
theorem Lslices_EqualFunc_Expr_4_eq (s : Fam) (k : Nat) (x0 : List TExpr) (x1 : List TExpr) (x2 : Unit × Unit) : ∀ (j4 : Nat) (v0 : List TExpr) (v1 : List TExpr) (v2 : Int) (v3 : Int), (loopGo EE (sp s) h_slices_EqualFunc_Expr co_slices_EqualFunc_Expr [] k Tryz.f63 4 [] j4 ({ tmps := ofL AV.any [(1, AV.c (CV.d (DV.sl 44 v0))), (2, AV.c (CV.clo 21 [] [])), (15, AV.c (CV.d (DV.sl 44 v1))), (16, AV.c (CV.d (DV.lit (Go.Value.int Go.IntKind.i64 v2)))), (17, AV.c (CV.d (DV.lit (Go.Value.int Go.IntKind.i64 v3))))], boxes := ofL Option.none [], objs := ofL Option.none [(15, Option.none)], fxs := ofL Option.none [] : AS II })).run = (Lslices_EqualFunc_Expr_4 s k x0 x1 x2 j4 v0 v1 v2 v3).map rc_slices_EqualFunc_Expr.enc := by
  intro j4
  induction j4 with
  | zero => intros; rfl
  | succ j4 ih =>
    intros
    simp only [Lslices_EqualFunc_Expr_4, map_ite, map_bindO, map_someO, map_noneO, ← ih]
    kernel_rfl
theorem e_slices_EqualFunc_Expr (s : Fam) (k : Nat) (x : a_slices_EqualFunc_Expr) : (evFunC EE (sp s) h_slices_EqualFunc_Expr co_slices_EqualFunc_Expr k Tryz.f63 (c_slices_EqualFunc_Expr.enc x)).run = (B_slices_EqualFunc_Expr s k x.1 x.2.1 x.2.2.1).map rc_slices_EqualFunc_Expr.enc := by
  simp only [B_slices_EqualFunc_Expr, map_ite, map_bindO, map_someO, map_noneO, ← Lslices_EqualFunc_Expr_4_eq]
  kernel_rfl
-- 17 nodes
def Lr07_SameExprs_4 (s : Fam) (k : Nat) (x0 : List TExpr) (x1 : List TExpr) : Nat → List TExpr → List TExpr → Int → Option (Bool)
  | 0, _, _, _ => none
  | j4 + 1, v0, v1, v2 => (if decide (v2 < (↑v0.length : Int)) = Bool.true then (if 0 ≤ v2 then (if v2 < (↑v0.length : Int) then (if 0 ≤ v2 then (if v2 < (↑v1.length : Int) then ((s.f_r07_SameExpr ((v0.getD v2.toNat dd_TExpr).re, (v1.getD v2.toNat dd_TExpr).re, ())).bind fun t9 => (if (!t9) = Bool.true then some (Bool.false) else Lr07_SameExprs_4 s k x0 x1 j4 (v0) (v1) (Go.IntKind.i64.wrap (v2 + 1)))) else none) else none) else none) else none) else some (Bool.true))
def B_r07_SameExprs (s : Fam) (k : Nat) (x0 : List TExpr) (x1 : List TExpr) : Option (Bool) := (if ((↑x0.length : Int) != (↑x1.length : Int)) = Bool.true then some (Bool.false) else Lr07_SameExprs_4 s k x0 x1 k (x0) (x1) (0))
theorem Lr07_SameExprs_4_eq (s : Fam) (k : Nat) (x0 : List TExpr) (x1 : List TExpr) : ∀ (j4 : Nat) (v0 : List TExpr) (v1 : List TExpr) (v2 : Int), (loopGo EE (sp s) h_r07_SameExprs co_r07_SameExprs [] k Tryz.f64 4 [] j4 ({ tmps := ofL AV.any [(0, AV.c (CV.d (DV.sl 44 v0))), (1, AV.c (CV.d (DV.sl 44 v1))), (5, AV.c (CV.d (DV.lit (Go.Value.int Go.IntKind.i64 v2))))], boxes := ofL Option.none [], objs := ofL Option.none [], fxs := ofL Option.none [] : AS II })).run = (Lr07_SameExprs_4 s k x0 x1 j4 v0 v1 v2).map rc_r07_SameExprs.enc := by
  intro j4
  induction j4 with
  | zero => intros; rfl
  | succ j4 ih =>
    intros
    simp only [Lr07_SameExprs_4, map_ite, map_bindO, map_someO, map_noneO, ← ih]
    kernel_rfl
theorem e_r07_SameExprs (s : Fam) (k : Nat) (x : a_r07_SameExprs) : (evFunC EE (sp s) h_r07_SameExprs co_r07_SameExprs k Tryz.f64 (c_r07_SameExprs.enc x)).run = (B_r07_SameExprs s k x.1 x.2.1).map rc_r07_SameExprs.enc := by
  simp only [B_r07_SameExprs, map_ite, map_bindO, map_someO, map_noneO, ← Lr07_SameExprs_4_eq]
  kernel_rfl
-- 17 nodes
def Lwords_Check_2 (s : Fam) (k : Nat) (x0 : ByteArray) : Nat → ByteArray → Int → Int → Option (Int)
  | 0, _, _, _ => none
  | j2 + 1, v0, v1, v2 => (if decide (v2 < v1) = Bool.true then (if 0 ≤ v2 then (if v2 < (↑v0.size : Int) then ((s.f_words_letter (bt v0 v2, v2 == 0, ())).bind fun t5 => (if (!t5) = Bool.true then some (11) else Lwords_Check_2 s k x0 j2 (v0) (v1) (Go.IntKind.i64.wrap (v2 + 1)))) else none) else none) else (if (v0.toList == { data := #[] : ByteArray }.toList) = Bool.true then some (11) else (if decide ((↑v0.size : Int) > 32) = Bool.true then some (3) else some (0))))
def B_words_Check (s : Fam) (k : Nat) (x0 : ByteArray) : Option (Int) := Lwords_Check_2 s k x0 k (x0) ((↑x0.size : Int)) (0)
theorem Lwords_Check_2_eq (s : Fam) (k : Nat) (x0 : ByteArray) : ∀ (j2 : Nat) (v0 : ByteArray) (v1 : Int) (v2 : Int), (loopGo EE (sp s) h_words_Check co_words_Check [] k Tryz.f65 2 [] j2 ({ tmps := ofL AV.any [(0, AV.c (CV.d (DV.lit (Go.Value.string v0)))), (5, AV.c (CV.d (DV.lit (Go.Value.int Go.IntKind.i64 v1)))), (6, AV.c (CV.d (DV.lit (Go.Value.int Go.IntKind.i64 v2))))], boxes := ofL Option.none [], objs := ofL Option.none [], fxs := ofL Option.none [] : AS II })).run = (Lwords_Check_2 s k x0 j2 v0 v1 v2).map rc_words_Check.enc := by
  intro j2
  induction j2 with
  | zero => intros; rfl
  | succ j2 ih =>
    intros
    simp only [Lwords_Check_2, map_ite, map_bindO, map_someO, map_noneO, ← ih]
    kernel_rfl
theorem e_words_Check (s : Fam) (k : Nat) (x : a_words_Check) : (evFunC EE (sp s) h_words_Check co_words_Check k Tryz.f65 (c_words_Check.enc x)).run = (B_words_Check s k x.1).map rc_words_Check.enc := by
  simp only [B_words_Check, map_ite, map_bindO, map_someO, map_noneO, ← Lwords_Check_2_eq]
  kernel_rfl
-- 15 nodes
def B_tree_few_string (s : Fam) (k : Nat) (x0 : List ByteArray) : Option (Bool) := some (decide ((↑x0.length : Int) ≤ 512))
theorem e_tree_few_string (s : Fam) (k : Nat) (x : a_tree_few_string) : (evFunC EE (sp s) h_tree_few_string co_tree_few_string k Tryz.f67 (c_tree_few_string.enc x)).run = (B_tree_few_string s k x.1).map rc_tree_few_string.enc := by
  simp only [B_tree_few_string, map_ite, map_bindO, map_someO, map_noneO]
  kernel_rfl
-- 1 nodes
def Lslices_IndexFunc_Rec_2 (s : Fam) (k : Nat) (x0 : List TRec) (x1 : Unit × Ttree_checker × Unit) : Nat → List TRec → Int → Int → Int → Option (Int)
  | 0, _, _, _, _ => none
  | j2 + 1, v0, v1, v2, v3 => (if decide (v3 < v2) = Bool.true then (if 0 ≤ v3 then (if v3 < (↑v0.length : Int) then ((s.f_tree_Check_1 (v0.getD v3.toNat dd_TRec, { dialect := v1 : Ttree_checker }, ())).bind fun t5 => (if t5 = Bool.true then some (v3) else Lslices_IndexFunc_Rec_2 s k x0 x1 j2 (v0) (v1) (v2) (Go.IntKind.i64.wrap (v3 + 1)))) else none) else none) else some (-1))
def B_slices_IndexFunc_Rec (s : Fam) (k : Nat) (x0 : List TRec) (x1 : Unit × Ttree_checker × Unit) : Option (Int) := Lslices_IndexFunc_Rec_2 s k x0 x1 k (x0) (x1.snd.fst.dialect) ((↑x0.length : Int)) (0)
theorem Lslices_IndexFunc_Rec_2_eq (s : Fam) (k : Nat) (x0 : List TRec) (x1 : Unit × Ttree_checker × Unit) : ∀ (j2 : Nat) (v0 : List TRec) (v1 : Int) (v2 : Int) (v3 : Int), (loopGo EE (sp s) h_slices_IndexFunc_Rec co_slices_IndexFunc_Rec [] k Tryz.f69 2 [] j2 ({ tmps := ofL AV.any [(0, AV.c (CV.d (DV.sl 59 v0))), (1, AV.c (CV.clo 27 [] [CV.rp [DV.lit (Go.Value.int Go.IntKind.i64 v1)] 0])), (7, AV.c (CV.d (DV.lit (Go.Value.int Go.IntKind.i64 v2)))), (8, AV.c (CV.d (DV.lit (Go.Value.int Go.IntKind.i64 v3))))], boxes := ofL Option.none [], objs := ofL Option.none [], fxs := ofL Option.none [] : AS II })).run = (Lslices_IndexFunc_Rec_2 s k x0 x1 j2 v0 v1 v2 v3).map rc_slices_IndexFunc_Rec.enc := by
  intro j2
  induction j2 with
  | zero => intros; rfl
  | succ j2 ih =>
    intros
    simp only [Lslices_IndexFunc_Rec_2, map_ite, map_bindO, map_someO, map_noneO, ← ih]
    kernel_rfl
theorem e_slices_IndexFunc_Rec (s : Fam) (k : Nat) (x : a_slices_IndexFunc_Rec) : (evFunC EE (sp s) h_slices_IndexFunc_Rec co_slices_IndexFunc_Rec k Tryz.f69 (c_slices_IndexFunc_Rec.enc x)).run = (B_slices_IndexFunc_Rec s k x.1 x.2.1).map rc_slices_IndexFunc_Rec.enc := by
  simp only [B_slices_IndexFunc_Rec, map_ite, map_bindO, map_someO, map_noneO, ← Lslices_IndexFunc_Rec_2_eq]
  kernel_rfl
-- 11 nodes
def B_tree_few_Field (s : Fam) (k : Nat) (x0 : List TField) : Option (Bool) := some (decide ((↑x0.length : Int) ≤ 512))
theorem e_tree_few_Field (s : Fam) (k : Nat) (x : a_tree_few_Field) : (evFunC EE (sp s) h_tree_few_Field co_tree_few_Field k Tryz.f70 (c_tree_few_Field.enc x)).run = (B_tree_few_Field s k x.1).map rc_tree_few_Field.enc := by
  simp only [B_tree_few_Field, map_ite, map_bindO, map_someO, map_noneO]
  kernel_rfl
-- 1 nodes
def B_slices_ContainsFunc_Field (s : Fam) (k : Nat) (x0 : List TField) (x1 : Unit × Ttree_checker × Unit) : Option (Bool) := ((s.f_slices_IndexFunc_Field (x0, ((), x1.snd.fst, ()), ())).bind fun t1 => some (decide (t1 ≥ 0)))
theorem e_slices_ContainsFunc_Field (s : Fam) (k : Nat) (x : a_slices_ContainsFunc_Field) : (evFunC EE (sp s) h_slices_ContainsFunc_Field co_slices_ContainsFunc_Field k Tryz.f71 (c_slices_ContainsFunc_Field.enc x)).run = (B_slices_ContainsFunc_Field s k x.1 x.2.1).map rc_slices_ContainsFunc_Field.enc := by
  simp only [B_slices_ContainsFunc_Field, map_ite, map_bindO, map_someO, map_noneO]
  kernel_rfl
-- 2 nodes
def B_tree_checker_rec_1 (s : Fam) (k : Nat) (x0 : TField) (x1 : Ttree_checker) : Option (Bool) := ((s.f_tree_notes ([x0.Marks_Before, x0.Marks_Trail], ())).bind fun t1 => (if (!t1) = Bool.false then ((s.f_tree_checker_name (x1, x0.Name, ())).bind fun t3 => (if (Bool.false || !t3) = Bool.false then ((s.f_tree_kind (x0.Kind, ())).bind fun t5 => some (Bool.false || !t5)) else some (Bool.true))) else some (Bool.true)))
theorem e_tree_checker_rec_1 (s : Fam) (k : Nat) (x : a_tree_checker_rec_1) : (evFunC EE (sp s) h_tree_checker_rec_1 co_tree_checker_rec_1 k Tryz.f72 (c_tree_checker_rec_1.enc x)).run = (B_tree_checker_rec_1 s k x.1 x.2.1).map rc_tree_checker_rec_1.enc := by
  simp only [B_tree_checker_rec_1, map_ite, map_bindO, map_someO, map_noneO]
  kernel_rfl
-- 15 nodes
def B_tree_kind (s : Fam) (k : Nat) (x0 : Int) : Option (Bool) := some (decide (x0 ≥ 1) && decide (x0 ≤ 3))
theorem e_tree_kind (s : Fam) (k : Nat) (x : a_tree_kind) : (evFunC EE (sp s) h_tree_kind co_tree_kind k Tryz.f73 (c_tree_kind.enc x)).run = (B_tree_kind s k x.1).map rc_tree_kind.enc := by
  simp only [B_tree_kind, map_ite, map_bindO, map_someO, map_noneO]
  kernel_rfl
-- 1 nodes
def B_tree_few_Var (s : Fam) (k : Nat) (x0 : List TVar) : Option (Bool) := some (decide ((↑x0.length : Int) ≤ 512))
theorem e_tree_few_Var (s : Fam) (k : Nat) (x : a_tree_few_Var) : (evFunC EE (sp s) h_tree_few_Var co_tree_few_Var k Tryz.f74 (c_tree_few_Var.enc x)).run = (B_tree_few_Var s k x.1).map rc_tree_few_Var.enc := by
  simp only [B_tree_few_Var, map_ite, map_bindO, map_someO, map_noneO]
  kernel_rfl
-- 1 nodes
def B_slices_ContainsFunc_Var (s : Fam) (k : Nat) (x0 : List TVar) (x1 : Unit × Ttree_checker × Unit) : Option (Bool) := ((s.f_slices_IndexFunc_Var (x0, ((), x1.snd.fst, ()), ())).bind fun t1 => some (decide (t1 ≥ 0)))
theorem e_slices_ContainsFunc_Var (s : Fam) (k : Nat) (x : a_slices_ContainsFunc_Var) : (evFunC EE (sp s) h_slices_ContainsFunc_Var co_slices_ContainsFunc_Var k Tryz.f75 (c_slices_ContainsFunc_Var.enc x)).run = (B_slices_ContainsFunc_Var s k x.1 x.2.1).map rc_slices_ContainsFunc_Var.enc := by
  simp only [B_slices_ContainsFunc_Var, map_ite, map_bindO, map_someO, map_noneO]
  kernel_rfl
-- 2 nodes
def B_tree_checker_vars_1 (s : Fam) (k : Nat) (x0 : TVar) (x1 : Ttree_checker) : Option (Bool) := ((s.f_tree_notes ([x0.Marks_Before, x0.Marks_Trail], ())).bind fun t1 => (if (!t1) = Bool.false then ((s.f_tree_checker_name (x1, x0.Name, ())).bind fun t3 => (if (Bool.false || !t3) = Bool.false then ((s.f_tree_checker_typ (x1, x0.sub_T, ())).bind fun t5 => some (Bool.false || !t5)) else some (Bool.true))) else some (Bool.true)))
theorem e_tree_checker_vars_1 (s : Fam) (k : Nat) (x : a_tree_checker_vars_1) : (evFunC EE (sp s) h_tree_checker_vars_1 co_tree_checker_vars_1 k Tryz.f76 (c_tree_checker_vars_1.enc x)).run = (B_tree_checker_vars_1 s k x.1 x.2.1).map rc_tree_checker_vars_1.enc := by
  simp only [B_tree_checker_vars_1, map_ite, map_bindO, map_someO, map_noneO]
  kernel_rfl
-- 15 nodes
def B_tree_checker_typ (s : Fam) (k : Nat) (x0 : Ttree_checker) (x1 : TType) : Option (Bool) := (if (x1.Kind == 4) = Bool.true then (if (x1.Size == 0) = Bool.true then ((s.f_tree_checker_name (x0, x1.Name, ())).bind fun t3 => some (Bool.true && t3)) else some (Bool.false)) else ((s.f_tree_kind (x1.Kind, ())).bind fun t7 => some (t7 && decide (x1.Size ≥ 0) && decide (x1.Size ≤ 64) && x1.Name.toList == { data := #[] : ByteArray }.toList)))
theorem e_tree_checker_typ (s : Fam) (k : Nat) (x : a_tree_checker_typ) : (evFunC EE (sp s) h_tree_checker_typ co_tree_checker_typ k Tryz.f77 (c_tree_checker_typ.enc x)).run = (B_tree_checker_typ s k x.1 x.2.1).map rc_tree_checker_typ.enc := by
  simp only [B_tree_checker_typ, map_ite, map_bindO, map_someO, map_noneO]
  kernel_rfl
-- 8 nodes
def B_tree_few_Routine (s : Fam) (k : Nat) (x0 : List TRoutine) : Option (Bool) := some (decide ((↑x0.length : Int) ≤ 512))
theorem e_tree_few_Routine (s : Fam) (k : Nat) (x : a_tree_few_Routine) : (evFunC EE (sp s) h_tree_few_Routine co_tree_few_Routine k Tryz.f78 (c_tree_few_Routine.enc x)).run = (B_tree_few_Routine s k x.1).map rc_tree_few_Routine.enc := by
  simp only [B_tree_few_Routine, map_ite, map_bindO, map_someO, map_noneO]
  kernel_rfl
-- 1 nodes
def B_slices_ContainsFunc_Routine (s : Fam) (k : Nat) (x0 : List TRoutine) (x1 : Unit × Int × Ttree_checker × Unit) : Option (Bool) := ((s.f_slices_IndexFunc_Routine (x0, ((), x1.snd.fst, x1.snd.snd.fst, ()), ())).bind fun t1 => some (decide (t1 ≥ 0)))
theorem e_slices_ContainsFunc_Routine (s : Fam) (k : Nat) (x : a_slices_ContainsFunc_Routine) : (evFunC EE (sp s) h_slices_ContainsFunc_Routine co_slices_ContainsFunc_Routine k Tryz.f80 (c_slices_ContainsFunc_Routine.enc x)).run = (B_slices_ContainsFunc_Routine s k x.1 x.2.1).map rc_slices_ContainsFunc_Routine.enc := by
  simp only [B_slices_ContainsFunc_Routine, map_ite, map_bindO, map_someO, map_noneO]
  kernel_rfl
-- 2 nodes
def B_tree_checker_routines_1 (s : Fam) (k : Nat) (x0 : TRoutine) (x1 : Int) (x2 : Ttree_checker) : Option (Bool) := (if decide (x1 > 48) = Bool.false then ((s.f_tree_notes ([x0.Marks_Before, x0.Marks_Trail, x0.End], ())).bind fun t3 => (if (Bool.false || !t3) = Bool.false then ((s.f_tree_checker_routine (x2, x0.Name, ())).bind fun t5 => (if (Bool.false || !t5) = Bool.false then (if (x0.Result != 0) = Bool.true then ((s.f_tree_kind (x0.Result, ())).bind fun t8 => (if (Bool.false || Bool.true && !t8) = Bool.false then ((s.f_tree_checker_params (x2, x0.Params, ())).bind fun t10 => (if (Bool.false || !t10) = Bool.false then ((s.f_tree_checker_vars (x2, x0.Vars, ())).bind fun t12 => (if (Bool.false || !t12) = Bool.false then (if (Bool.false || x2.dialect != 0 && decide ((↑x0.Inner.length : Int) > 0)) = Bool.false then ((s.f_tree_checker_routines (x2, x0.Inner, Go.IntKind.i64.wrap (x1 + 1), ())).bind fun t15 => (if (Bool.false || !t15) = Bool.false then ((s.f_tree_checker_stmts (x2, x0.Body, 1, ())).bind fun t17 => some (Bool.false || !t17)) else some (Bool.true))) else some (Bool.true)) else some (Bool.true))) else some (Bool.true))) else some (Bool.true))) else ((s.f_tree_checker_params (x2, x0.Params, ())).bind fun t68 => (if (Bool.false || !t68) = Bool.false then ((s.f_tree_checker_vars (x2, x0.Vars, ())).bind fun t70 => (if (Bool.false || !t70) = Bool.false then (if (Bool.false || x2.dialect != 0 && decide ((↑x0.Inner.length : Int) > 0)) = Bool.false then ((s.f_tree_checker_routines (x2, x0.Inner, Go.IntKind.i64.wrap (x1 + 1), ())).bind fun t73 => (if (Bool.false || !t73) = Bool.false then ((s.f_tree_checker_stmts (x2, x0.Body, 1, ())).bind fun t75 => some (Bool.false || !t75)) else some (Bool.true))) else some (Bool.true)) else some (Bool.true))) else some (Bool.true)))) else some (Bool.true))) else some (Bool.true))) else some (Bool.true))
theorem e_tree_checker_routines_1 (s : Fam) (k : Nat) (x : a_tree_checker_routines_1) : (evFunC EE (sp s) h_tree_checker_routines_1 co_tree_checker_routines_1 k Tryz.f81 (c_tree_checker_routines_1.enc x)).run = (B_tree_checker_routines_1 s k x.1 x.2.1 x.2.2.1).map rc_tree_checker_routines_1.enc := by
  simp only [B_tree_checker_routines_1, map_ite, map_bindO, map_someO, map_noneO]
  kernel_rfl
-- 170 nodes
end Go.Ev
end
section
open Go Go.Proofs
namespace Go.Ev
set_option linter.unusedVariables false
set_option linter.unusedSimpArgs false
set_option maxHeartbeats 4000000
set_option maxRecDepth 100000
def Ltree_checker_params_3 (s : Fam) (k : Nat) (x0 : Ttree_checker) (x1 : List TParam) : Nat → List TParam → Bool → List TParam → Int → Int → Int → Option (Bool)
  | 0, _, _, _, _, _, _ => none
  | j3 + 1, v0, v1, v2, v3, v4, v5 => (if decide (v4 < v3) = Bool.true then (if 0 ≤ v4 then (if v4 < (↑v2.length : Int) then ((s.f_tree_checker_name ({ dialect := v5 : Ttree_checker }, (v2.getD v4.toNat dd_TParam).Name, ())).bind fun t5 => (if (!t5) = Bool.false then ((s.f_tree_checker_typ ({ dialect := v5 : Ttree_checker }, (v2.getD v4.toNat dd_TParam).sub_T, ())).bind fun t7 => (if (Bool.false || !t7 || decide ((v2.getD v4.toNat dd_TParam).Mode < 0) || decide ((v2.getD v4.toNat dd_TParam).Mode > 2)) = Bool.true then some (Bool.false) else (if ((v2.getD v4.toNat dd_TParam).Mode == 0 && (decide ((v2.getD v4.toNat dd_TParam).T_Size > 0) || (v2.getD v4.toNat dd_TParam).T_Kind == 4)) = Bool.true then some (Bool.false) else (if (v1 && (v2.getD v4.toNat dd_TParam).Mode != 2 || (v2.getD v4.toNat dd_TParam).Mode == 2 && v5 != 1) = Bool.true then some (Bool.false) else Ltree_checker_params_3 s k x0 x1 j3 (v0) ((v2.getD v4.toNat dd_TParam).Mode == 2) (v2) (v3) (Go.IntKind.i64.wrap (v4 + 1)) (v5))))) else some (Bool.false))) else none) else none) else ((s.f_tree_few_Param (v0, ())).bind fun t21 => some (t21)))
def B_tree_checker_params (s : Fam) (k : Nat) (x0 : Ttree_checker) (x1 : List TParam) : Option (Bool) := Ltree_checker_params_3 s k x0 x1 k (x1) (Bool.false) (x1) ((↑x1.length : Int)) (0) (x0.dialect)
theorem Ltree_checker_params_3_eq (s : Fam) (k : Nat) (x0 : Ttree_checker) (x1 : List TParam) : ∀ (j3 : Nat) (v0 : List TParam) (v1 : Bool) (v2 : List TParam) (v3 : Int) (v4 : Int) (v5 : Int), (loopGo EE (sp s) h_tree_checker_params co_tree_checker_params [] k Tryz.f83 3 [] j3 ({ tmps := ofL AV.any [(1, AV.c (CV.d (DV.sl 145 v0))), (2, AV.c (CV.ptr 2 0)), (5, AV.c (CV.d (DV.lit (Go.Value.bool v1)))), (8, AV.c (CV.d (DV.sl 145 v2))), (9, AV.c (CV.d (DV.lit (Go.Value.int Go.IntKind.i64 v3)))), (10, AV.c (CV.d (DV.lit (Go.Value.int Go.IntKind.i64 v4))))], boxes := ofL Option.none [(2, Option.some [CV.d (DV.lit (Go.Value.int Go.IntKind.i64 v5))])], objs := ofL Option.none [(8, Option.none)], fxs := ofL Option.none [(2, Option.none)] : AS II })).run = (Ltree_checker_params_3 s k x0 x1 j3 v0 v1 v2 v3 v4 v5).map rc_tree_checker_params.enc := by
  intro j3
  induction j3 with
  | zero => intros; rfl
  | succ j3 ih =>
    intros
    simp only [Ltree_checker_params_3, map_ite, map_bindO, map_someO, map_noneO, ← ih]
    kernel_rfl
theorem e_tree_checker_params (s : Fam) (k : Nat) (x : a_tree_checker_params) : (evFunC EE (sp s) h_tree_checker_params co_tree_checker_params k Tryz.f83 (c_tree_checker_params.enc x)).run = (B_tree_checker_params s k x.1 x.2.1).map rc_tree_checker_params.enc := by
  simp only [B_tree_checker_params, map_ite, map_bindO, map_someO, map_noneO, ← Ltree_checker_params_3_eq]
  kernel_rfl
-- 22 nodes
def B_tree_few_Stmt (s : Fam) (k : Nat) (x0 : List TStmt) : Option (Bool) := some (decide ((↑x0.length : Int) ≤ 512))
theorem e_tree_few_Stmt (s : Fam) (k : Nat) (x : a_tree_few_Stmt) : (evFunC EE (sp s) h_tree_few_Stmt co_tree_few_Stmt k Tryz.f84 (c_tree_few_Stmt.enc x)).run = (B_tree_few_Stmt s k x.1).map rc_tree_few_Stmt.enc := by
  simp only [B_tree_few_Stmt, map_ite, map_bindO, map_someO, map_noneO]
  kernel_rfl
-- 1 nodes
def B_slices_ContainsFunc_Stmt (s : Fam) (k : Nat) (x0 : List TStmt) (x1 : Unit × Ttree_checker × Int × Unit) : Option (Bool) := ((s.f_slices_IndexFunc_Stmt (x0, ((), x1.snd.fst, x1.snd.snd.fst, ()), ())).bind fun t1 => some (decide (t1 ≥ 0)))
theorem e_slices_ContainsFunc_Stmt (s : Fam) (k : Nat) (x : a_slices_ContainsFunc_Stmt) : (evFunC EE (sp s) h_slices_ContainsFunc_Stmt co_slices_ContainsFunc_Stmt k Tryz.f85 (c_slices_ContainsFunc_Stmt.enc x)).run = (B_slices_ContainsFunc_Stmt s k x.1 x.2.1).map rc_slices_ContainsFunc_Stmt.enc := by
  simp only [B_slices_ContainsFunc_Stmt, map_ite, map_bindO, map_someO, map_noneO]
  kernel_rfl
-- 2 nodes
def B_tree_checker_stmts_1 (s : Fam) (k : Nat) (x0 : TStmt) (x1 : Ttree_checker) (x2 : Int) : Option (Bool) := ((s.f_tree_checker_stmt (x1, x0.re, x2, ())).bind fun t1 => some (!t1))
theorem e_tree_checker_stmts_1 (s : Fam) (k : Nat) (x : a_tree_checker_stmts_1) : (evFunC EE (sp s) h_tree_checker_stmts_1 co_tree_checker_stmts_1 k Tryz.f86 (c_tree_checker_stmts_1.enc x)).run = (B_tree_checker_stmts_1 s k x.1 x.2.1 x.2.2.1).map rc_tree_checker_stmts_1.enc := by
  simp only [B_tree_checker_stmts_1, map_ite, map_bindO, map_someO, map_noneO]
  kernel_rfl
-- 2 nodes
def Ltree_checker_stmt_17 (s : Fam) (k : Nat) (x0 : Ttree_checker) (x1 : TStmt) (x2 : Int) : Nat → Int → List TExpr → Int → Int → Int → List ByteArray → List ByteArray → Int → ByteArray → Int → Int → ByteArray → ByteArray → List TExpr → List TExpr → Bool → Bool → List TStmt → List TStmt → List ByteArray → List ByteArray → Option (Bool)
  | 0, _, _, _, _, _, _, _, _, _, _, _, _, _, _, _, _, _, _, _, _, _ => none
  | j17 + 1, v0, v1, v2, v3, v4, v5, v6, v7, v8, v9, v10, v11, v12, v13, v14, v15, v16, v17, v18, v19, v20 => (if decide (v3 < v2) = Bool.true then (if 0 ≤ v3 then (if v3 < (↑v1.length : Int) then ((s.f_tree_checker_expr ({ dialect := v4 : Ttree_checker }, (v1.getD v3.toNat dd_TExpr).re, ())).bind fun t32 => (if (t32 == 0 || v7 == 2 && (v1.getD v3.toNat dd_TExpr).Op != 7) = Bool.true then some (Bool.false) else Ltree_checker_stmt_17 s k x0 x1 x2 j17 (v0) (v1) (v2) (Go.IntKind.i64.wrap (v3 + 1)) (v4) (v5) (v6) (v7) (v8) (v9) (v10) (v11) (v12) (v13) (v14) (v15) (v16) (v17) (v18) (v19) (v20))) else none) else none) else ((s.f_tree_checker_stmts ({ dialect := v4 : Ttree_checker }, v17, Go.IntKind.i64.wrap (v0 + 1), ())).bind fun t38 => (if t38 = Bool.true then ((s.f_tree_checker_stmts ({ dialect := v4 : Ttree_checker }, v18, Go.IntKind.i64.wrap (v0 + 1), ())).bind fun t40 => some (Bool.true && t40)) else some (Bool.false))))
def B_tree_checker_stmt (s : Fam) (k : Nat) (x0 : Ttree_checker) (x1 : TStmt) (x2 : Int) : Option (Bool) := ((s.f_tree_shapeOf (x1.Op, ())).bind fun t1 => (if (!t1.snd.fst || decide (x2 > 48)) = Bool.false then ((s.f_tree_notes ([x1.Marks_Before, x1.Marks_Trail, x1.End, x1.End2], ())).bind fun t4 => (if (Bool.false || !t4) = Bool.true then some (Bool.false) else (if t1.fst.place = Bool.true then ((s.f_tree_checker_place (x0, x1.sub_P, ())).bind fun t8 => (if (Bool.true && !t8) = Bool.false then (if (!t1.fst.place) = Bool.true then ((s.f_tree_none (x1.sub_P, ())).bind fun t11 => (if (Bool.false || Bool.true && !t11) = Bool.true then some (Bool.false) else (if t1.fst.name_ = Bool.true then ((s.f_tree_checker_name (x0, x1.Name, ())).bind fun t15 => (if (Bool.true && !t15 || !t1.fst.name_ && !x1.Name.toList == { data := #[] : ByteArray }.toList) = Bool.true then some (Bool.false) else (if (decide ((↑x1.E.length : Int) < t1.fst.least) || decide ((↑x1.E.length : Int) > t1.fst.most)) = Bool.true then some (Bool.false) else (if (!t1.fst.body) = Bool.true then (if (Bool.true && (decide ((↑x1.Body.length : Int) > 0) || decide ((↑x1.End.length : Int) > 0))) = Bool.true then some (Bool.false) else (if (x1.More && x1.Op != 3 || x1.Down && x1.Op != 6) = Bool.true then some (Bool.false) else (if (!x1.More) = Bool.true then (if (Bool.true && (decide ((↑x1.Else.length : Int) > 0) || decide ((↑x1.End2.length : Int) > 0))) = Bool.true then some (Bool.false) else Ltree_checker_stmt_17 s k x0 x1 x2 k (x2) (x1.E) ((↑x1.E.length : Int)) (0) (x0.dialect) (x1.Marks_Before) (x1.Marks_Trail) (x1.Op) (x1.Name) (x1.P_Op) (x1.P_N) (x1.P_Name) (x1.P_Field) (x1.P_L) (x1.E) (x1.Down) (x1.More) (x1.Body) (x1.Else) (x1.End) (x1.End2)) else Ltree_checker_stmt_17 s k x0 x1 x2 k (x2) (x1.E) ((↑x1.E.length : Int)) (0) (x0.dialect) (x1.Marks_Before) (x1.Marks_Trail) (x1.Op) (x1.Name) (x1.P_Op) (x1.P_N) (x1.P_Name) (x1.P_Field) (x1.P_L) (x1.E) (x1.Down) (x1.More) (x1.Body) (x1.Else) (x1.End) (x1.End2)))) else (if (x1.More && x1.Op != 3 || x1.Down && x1.Op != 6) = Bool.true then some (Bool.false) else (if (!x1.More) = Bool.true then (if (Bool.true && (decide ((↑x1.Else.length : Int) > 0) || decide ((↑x1.End2.length : Int) > 0))) = Bool.true then some (Bool.false) else Ltree_checker_stmt_17 s k x0 x1 x2 k (x2) (x1.E) ((↑x1.E.length : Int)) (0) (x0.dialect) (x1.Marks_Before) (x1.Marks_Trail) (x1.Op) (x1.Name) (x1.P_Op) (x1.P_N) (x1.P_Name) (x1.P_Field) (x1.P_L) (x1.E) (x1.Down) (x1.More) (x1.Body) (x1.Else) (x1.End) (x1.End2)) else Ltree_checker_stmt_17 s k x0 x1 x2 k (x2) (x1.E) ((↑x1.E.length : Int)) (0) (x0.dialect) (x1.Marks_Before) (x1.Marks_Trail) (x1.Op) (x1.Name) (x1.P_Op) (x1.P_N) (x1.P_Name) (x1.P_Field) (x1.P_L) (x1.E) (x1.Down) (x1.More) (x1.Body) (x1.Else) (x1.End) (x1.End2))))))) else (if (Bool.false || !t1.fst.name_ && !x1.Name.toList == { data := #[] : ByteArray }.toList) = Bool.true then some (Bool.false) else (if (decide ((↑x1.E.length : Int) < t1.fst.least) || decide ((↑x1.E.length : Int) > t1.fst.most)) = Bool.true then some (Bool.false) else (if (!t1.fst.body) = Bool.true then (if (Bool.true && (decide ((↑x1.Body.length : Int) > 0) || decide ((↑x1.End.length : Int) > 0))) = Bool.true then some (Bool.false) else (if (x1.More && x1.Op != 3 || x1.Down && x1.Op != 6) = Bool.true then some (Bool.false) else (if (!x1.More) = Bool.true then (if (Bool.true && (decide ((↑x1.Else.length : Int) > 0) || decide ((↑x1.End2.length : Int) > 0))) = Bool.true then some (Bool.false) else Ltree_checker_stmt_17 s k x0 x1 x2 k (x2) (x1.E) ((↑x1.E.length : Int)) (0) (x0.dialect) (x1.Marks_Before) (x1.Marks_Trail) (x1.Op) (x1.Name) (x1.P_Op) (x1.P_N) (x1.P_Name) (x1.P_Field) (x1.P_L) (x1.E) (x1.Down) (x1.More) (x1.Body) (x1.Else) (x1.End) (x1.End2)) else Ltree_checker_stmt_17 s k x0 x1 x2 k (x2) (x1.E) ((↑x1.E.length : Int)) (0) (x0.dialect) (x1.Marks_Before) (x1.Marks_Trail) (x1.Op) (x1.Name) (x1.P_Op) (x1.P_N) (x1.P_Name) (x1.P_Field) (x1.P_L) (x1.E) (x1.Down) (x1.More) (x1.Body) (x1.Else) (x1.End) (x1.End2)))) else (if (x1.More && x1.Op != 3 || x1.Down && x1.Op != 6) = Bool.true then some (Bool.false) else (if (!x1.More) = Bool.true then (if (Bool.true && (decide ((↑x1.Else.length : Int) > 0) || decide ((↑x1.End2.length : Int) > 0))) = Bool.true then some (Bool.false) else Ltree_checker_stmt_17 s k x0 x1 x2 k (x2) (x1.E) ((↑x1.E.length : Int)) (0) (x0.dialect) (x1.Marks_Before) (x1.Marks_Trail) (x1.Op) (x1.Name) (x1.P_Op) (x1.P_N) (x1.P_Name) (x1.P_Field) (x1.P_L) (x1.E) (x1.Down) (x1.More) (x1.Body) (x1.Else) (x1.End) (x1.End2)) else Ltree_checker_stmt_17 s k x0 x1 x2 k (x2) (x1.E) ((↑x1.E.length : Int)) (0) (x0.dialect) (x1.Marks_Before) (x1.Marks_Trail) (x1.Op) (x1.Name) (x1.P_Op) (x1.P_N) (x1.P_Name) (x1.P_Field) (x1.P_L) (x1.E) (x1.Down) (x1.More) (x1.Body) (x1.Else) (x1.End) (x1.End2))))))))) else (if t1.fst.name_ = Bool.true then ((s.f_tree_checker_name (x0, x1.Name, ())).bind fun t98 => (if (Bool.true && !t98 || !t1.fst.name_ && !x1.Name.toList == { data := #[] : ByteArray }.toList) = Bool.true then some (Bool.false) else (if (decide ((↑x1.E.length : Int) < t1.fst.least) || decide ((↑x1.E.length : Int) > t1.fst.most)) = Bool.true then some (Bool.false) else (if (!t1.fst.body) = Bool.true then (if (Bool.true && (decide ((↑x1.Body.length : Int) > 0) || decide ((↑x1.End.length : Int) > 0))) = Bool.true then some (Bool.false) else (if (x1.More && x1.Op != 3 || x1.Down && x1.Op != 6) = Bool.true then some (Bool.false) else (if (!x1.More) = Bool.true then (if (Bool.true && (decide ((↑x1.Else.length : Int) > 0) || decide ((↑x1.End2.length : Int) > 0))) = Bool.true then some (Bool.false) else Ltree_checker_stmt_17 s k x0 x1 x2 k (x2) (x1.E) ((↑x1.E.length : Int)) (0) (x0.dialect) (x1.Marks_Before) (x1.Marks_Trail) (x1.Op) (x1.Name) (x1.P_Op) (x1.P_N) (x1.P_Name) (x1.P_Field) (x1.P_L) (x1.E) (x1.Down) (x1.More) (x1.Body) (x1.Else) (x1.End) (x1.End2)) else Ltree_checker_stmt_17 s k x0 x1 x2 k (x2) (x1.E) ((↑x1.E.length : Int)) (0) (x0.dialect) (x1.Marks_Before) (x1.Marks_Trail) (x1.Op) (x1.Name) (x1.P_Op) (x1.P_N) (x1.P_Name) (x1.P_Field) (x1.P_L) (x1.E) (x1.Down) (x1.More) (x1.Body) (x1.Else) (x1.End) (x1.End2)))) else (if (x1.More && x1.Op != 3 || x1.Down && x1.Op != 6) = Bool.true then some (Bool.false) else (if (!x1.More) = Bool.true then (if (Bool.true && (decide ((↑x1.Else.length : Int) > 0) || decide ((↑x1.End2.length : Int) > 0))) = Bool.true then some (Bool.false) else Ltree_checker_stmt_17 s k x0 x1 x2 k (x2) (x1.E) ((↑x1.E.length : Int)) (0) (x0.dialect) (x1.Marks_Before) (x1.Marks_Trail) (x1.Op) (x1.Name) (x1.P_Op) (x1.P_N) (x1.P_Name) (x1.P_Field) (x1.P_L) (x1.E) (x1.Down) (x1.More) (x1.Body) (x1.Else) (x1.End) (x1.End2)) else Ltree_checker_stmt_17 s k x0 x1 x2 k (x2) (x1.E) ((↑x1.E.length : Int)) (0) (x0.dialect) (x1.Marks_Before) (x1.Marks_Trail) (x1.Op) (x1.Name) (x1.P_Op) (x1.P_N) (x1.P_Name) (x1.P_Field) (x1.P_L) (x1.E) (x1.Down) (x1.More) (x1.Body) (x1.Else) (x1.End) (x1.End2))))))) else (if (Bool.false || !t1.fst.name_ && !x1.Name.toList == { data := #[] : ByteArray }.toList) = Bool.true then some (Bool.false) else (if (decide ((↑x1.E.length : Int) < t1.fst.least) || decide ((↑x1.E.length : Int) > t1.fst.most)) = Bool.true then some (Bool.false) else (if (!t1.fst.body) = Bool.true then (if (Bool.true && (decide ((↑x1.Body.length : Int) > 0) || decide ((↑x1.End.length : Int) > 0))) = Bool.true then some (Bool.false) else (if (x1.More && x1.Op != 3 || x1.Down && x1.Op != 6) = Bool.true then some (Bool.false) else (if (!x1.More) = Bool.true then (if (Bool.true && (decide ((↑x1.Else.length : Int) > 0) || decide ((↑x1.End2.length : Int) > 0))) = Bool.true then some (Bool.false) else Ltree_checker_stmt_17 s k x0 x1 x2 k (x2) (x1.E) ((↑x1.E.length : Int)) (0) (x0.dialect) (x1.Marks_Before) (x1.Marks_Trail) (x1.Op) (x1.Name) (x1.P_Op) (x1.P_N) (x1.P_Name) (x1.P_Field) (x1.P_L) (x1.E) (x1.Down) (x1.More) (x1.Body) (x1.Else) (x1.End) (x1.End2)) else Ltree_checker_stmt_17 s k x0 x1 x2 k (x2) (x1.E) ((↑x1.E.length : Int)) (0) (x0.dialect) (x1.Marks_Before) (x1.Marks_Trail) (x1.Op) (x1.Name) (x1.P_Op) (x1.P_N) (x1.P_Name) (x1.P_Field) (x1.P_L) (x1.E) (x1.Down) (x1.More) (x1.Body) (x1.Else) (x1.End) (x1.End2)))) else (if (x1.More && x1.Op != 3 || x1.Down && x1.Op != 6) = Bool.true then some (Bool.false) else (if (!x1.More) = Bool.true then (if (Bool.true && (decide ((↑x1.Else.length : Int) > 0) || decide ((↑x1.End2.length : Int) > 0))) = Bool.true then some (Bool.false) else Ltree_checker_stmt_17 s k x0 x1 x2 k (x2) (x1.E) ((↑x1.E.length : Int)) (0) (x0.dialect) (x1.Marks_Before) (x1.Marks_Trail) (x1.Op) (x1.Name) (x1.P_Op) (x1.P_N) (x1.P_Name) (x1.P_Field) (x1.P_L) (x1.E) (x1.Down) (x1.More) (x1.Body) (x1.Else) (x1.End) (x1.End2)) else Ltree_checker_stmt_17 s k x0 x1 x2 k (x2) (x1.E) ((↑x1.E.length : Int)) (0) (x0.dialect) (x1.Marks_Before) (x1.Marks_Trail) (x1.Op) (x1.Name) (x1.P_Op) (x1.P_N) (x1.P_Name) (x1.P_Field) (x1.P_L) (x1.E) (x1.Down) (x1.More) (x1.Body) (x1.Else) (x1.End) (x1.End2)))))))) else some (Bool.false))) else (if (!t1.fst.place) = Bool.true then ((s.f_tree_none (x1.sub_P, ())).bind fun t169 => (if (Bool.false || Bool.true && !t169) = Bool.true then some (Bool.false) else (if t1.fst.name_ = Bool.true then ((s.f_tree_checker_name (x0, x1.Name, ())).bind fun t173 => (if (Bool.true && !t173 || !t1.fst.name_ && !x1.Name.toList == { data := #[] : ByteArray }.toList) = Bool.true then some (Bool.false) else (if (decide ((↑x1.E.length : Int) < t1.fst.least) || decide ((↑x1.E.length : Int) > t1.fst.most)) = Bool.true then some (Bool.false) else (if (!t1.fst.body) = Bool.true then (if (Bool.true && (decide ((↑x1.Body.length : Int) > 0) || decide ((↑x1.End.length : Int) > 0))) = Bool.true then some (Bool.false) else (if (x1.More && x1.Op != 3 || x1.Down && x1.Op != 6) = Bool.true then some (Bool.false) else (if (!x1.More) = Bool.true then (if (Bool.true && (decide ((↑x1.Else.length : Int) > 0) || decide ((↑x1.End2.length : Int) > 0))) = Bool.true then some (Bool.false) else Ltree_checker_stmt_17 s k x0 x1 x2 k (x2) (x1.E) ((↑x1.E.length : Int)) (0) (x0.dialect) (x1.Marks_Before) (x1.Marks_Trail) (x1.Op) (x1.Name) (x1.P_Op) (x1.P_N) (x1.P_Name) (x1.P_Field) (x1.P_L) (x1.E) (x1.Down) (x1.More) (x1.Body) (x1.Else) (x1.End) (x1.End2)) else Ltree_checker_stmt_17 s k x0 x1 x2 k (x2) (x1.E) ((↑x1.E.length : Int)) (0) (x0.dialect) (x1.Marks_Before) (x1.Marks_Trail) (x1.Op) (x1.Name) (x1.P_Op) (x1.P_N) (x1.P_Name) (x1.P_Field) (x1.P_L) (x1.E) (x1.Down) (x1.More) (x1.Body) (x1.Else) (x1.End) (x1.End2)))) else (if (x1.More && x1.Op != 3 || x1.Down && x1.Op != 6) = Bool.true then some (Bool.false) else (if (!x1.More) = Bool.true then (if (Bool.true && (decide ((↑x1.Else.length : Int) > 0) || decide ((↑x1.End2.length : Int) > 0))) = Bool.true then some (Bool.false) else Ltree_checker_stmt_17 s k x0 x1 x2 k (x2) (x1.E) ((↑x1.E.length : Int)) (0) (x0.dialect) (x1.Marks_Before) (x1.Marks_Trail) (x1.Op) (x1.Name) (x1.P_Op) (x1.P_N) (x1.P_Name) (x1.P_Field) (x1.P_L) (x1.E) (x1.Down) (x1.More) (x1.Body) (x1.Else) (x1.End) (x1.End2)) else Ltree_checker_stmt_17 s k x0 x1 x2 k (x2) (x1.E) ((↑x1.E.length : Int)) (0) (x0.dialect) (x1.Marks_Before) (x1.Marks_Trail) (x1.Op) (x1.Name) (x1.P_Op) (x1.P_N) (x1.P_Name) (x1.P_Field) (x1.P_L) (x1.E) (x1.Down) (x1.More) (x1.Body) (x1.Else) (x1.End) (x1.End2))))))) else (if (Bool.false || !t1.fst.name_ && !x1.Name.toList == { data := #[] : ByteArray }.toList) = Bool.true then some (Bool.false) else (if (decide ((↑x1.E.length : Int) < t1.fst.least) || decide ((↑x1.E.length : Int) > t1.fst.most)) = Bool.true then some (Bool.false) else (if (!t1.fst.body) = Bool.true then (if (Bool.true && (decide ((↑x1.Body.length : Int) > 0) || decide ((↑x1.End.length : Int) > 0))) = Bool.true then some (Bool.false) else (if (x1.More && x1.Op != 3 || x1.Down && x1.Op != 6) = Bool.true then some (Bool.false) else (if (!x1.More) = Bool.true then (if (Bool.true && (decide ((↑x1.Else.length : Int) > 0) || decide ((↑x1.End2.length : Int) > 0))) = Bool.true then some (Bool.false) else Ltree_checker_stmt_17 s k x0 x1 x2 k (x2) (x1.E) ((↑x1.E.length : Int)) (0) (x0.dialect) (x1.Marks_Before) (x1.Marks_Trail) (x1.Op) (x1.Name) (x1.P_Op) (x1.P_N) (x1.P_Name) (x1.P_Field) (x1.P_L) (x1.E) (x1.Down) (x1.More) (x1.Body) (x1.Else) (x1.End) (x1.End2)) else Ltree_checker_stmt_17 s k x0 x1 x2 k (x2) (x1.E) ((↑x1.E.length : Int)) (0) (x0.dialect) (x1.Marks_Before) (x1.Marks_Trail) (x1.Op) (x1.Name) (x1.P_Op) (x1.P_N) (x1.P_Name) (x1.P_Field) (x1.P_L) (x1.E) (x1.Down) (x1.More) (x1.Body) (x1.Else) (x1.End) (x1.End2)))) else (if (x1.More && x1.Op != 3 || x1.Down && x1.Op != 6) = Bool.true then some (Bool.false) else (if (!x1.More) = Bool.true then (if (Bool.true && (decide ((↑x1.Else.length : Int) > 0) || decide ((↑x1.End2.length : Int) > 0))) = Bool.true then some (Bool.false) else Ltree_checker_stmt_17 s k x0 x1 x2 k (x2) (x1.E) ((↑x1.E.length : Int)) (0) (x0.dialect) (x1.Marks_Before) (x1.Marks_Trail) (x1.Op) (x1.Name) (x1.P_Op) (x1.P_N) (x1.P_Name) (x1.P_Field) (x1.P_L) (x1.E) (x1.Down) (x1.More) (x1.Body) (x1.Else) (x1.End) (x1.End2)) else Ltree_checker_stmt_17 s k x0 x1 x2 k (x2) (x1.E) ((↑x1.E.length : Int)) (0) (x0.dialect) (x1.Marks_Before) (x1.Marks_Trail) (x1.Op) (x1.Name) (x1.P_Op) (x1.P_N) (x1.P_Name) (x1.P_Field) (x1.P_L) (x1.E) (x1.Down) (x1.More) (x1.Body) (x1.Else) (x1.End) (x1.End2))))))))) else (if t1.fst.name_ = Bool.true then ((s.f_tree_checker_name (x0, x1.Name, ())).bind fun t241 => (if (Bool.true && !t241 || !t1.fst.name_ && !x1.Name.toList == { data := #[] : ByteArray }.toList) = Bool.true then some (Bool.false) else (if (decide ((↑x1.E.length : Int) < t1.fst.least) || decide ((↑x1.E.length : Int) > t1.fst.most)) = Bool.true then some (Bool.false) else (if (!t1.fst.body) = Bool.true then (if (Bool.true && (decide ((↑x1.Body.length : Int) > 0) || decide ((↑x1.End.length : Int) > 0))) = Bool.true then some (Bool.false) else (if (x1.More && x1.Op != 3 || x1.Down && x1.Op != 6) = Bool.true then some (Bool.false) else (if (!x1.More) = Bool.true then (if (Bool.true && (decide ((↑x1.Else.length : Int) > 0) || decide ((↑x1.End2.length : Int) > 0))) = Bool.true then some (Bool.false) else Ltree_checker_stmt_17 s k x0 x1 x2 k (x2) (x1.E) ((↑x1.E.length : Int)) (0) (x0.dialect) (x1.Marks_Before) (x1.Marks_Trail) (x1.Op) (x1.Name) (x1.P_Op) (x1.P_N) (x1.P_Name) (x1.P_Field) (x1.P_L) (x1.E) (x1.Down) (x1.More) (x1.Body) (x1.Else) (x1.End) (x1.End2)) else Ltree_checker_stmt_17 s k x0 x1 x2 k (x2) (x1.E) ((↑x1.E.length : Int)) (0) (x0.dialect) (x1.Marks_Before) (x1.Marks_Trail) (x1.Op) (x1.Name) (x1.P_Op) (x1.P_N) (x1.P_Name) (x1.P_Field) (x1.P_L) (x1.E) (x1.Down) (x1.More) (x1.Body) (x1.Else) (x1.End) (x1.End2)))) else (if (x1.More && x1.Op != 3 || x1.Down && x1.Op != 6) = Bool.true then some (Bool.false) else (if (!x1.More) = Bool.true then (if (Bool.true && (decide ((↑x1.Else.length : Int) > 0) || decide ((↑x1.End2.length : Int) > 0))) = Bool.true then some (Bool.false) else Ltree_checker_stmt_17 s k x0 x1 x2 k (x2) (x1.E) ((↑x1.E.length : Int)) (0) (x0.dialect) (x1.Marks_Before) (x1.Marks_Trail) (x1.Op) (x1.Name) (x1.P_Op) (x1.P_N) (x1.P_Name) (x1.P_Field) (x1.P_L) (x1.E) (x1.Down) (x1.More) (x1.Body) (x1.Else) (x1.End) (x1.End2)) else Ltree_checker_stmt_17 s k x0 x1 x2 k (x2) (x1.E) ((↑x1.E.length : Int)) (0) (x0.dialect) (x1.Marks_Before) (x1.Marks_Trail) (x1.Op) (x1.Name) (x1.P_Op) (x1.P_N) (x1.P_Name) (x1.P_Field) (x1.P_L) (x1.E) (x1.Down) (x1.More) (x1.Body) (x1.Else) (x1.End) (x1.End2))))))) else (if (Bool.false || !t1.fst.name_ && !x1.Name.toList == { data := #[] : ByteArray }.toList) = Bool.true then some (Bool.false) else (if (decide ((↑x1.E.length : Int) < t1.fst.least) || decide ((↑x1.E.length : Int) > t1.fst.most)) = Bool.true then some (Bool.false) else (if (!t1.fst.body) = Bool.true then (if (Bool.true && (decide ((↑x1.Body.length : Int) > 0) || decide ((↑x1.End.length : Int) > 0))) = Bool.true then some (Bool.false) else (if (x1.More && x1.Op != 3 || x1.Down && x1.Op != 6) = Bool.true then some (Bool.false) else (if (!x1.More) = Bool.true then (if (Bool.true && (decide ((↑x1.Else.length : Int) > 0) || decide ((↑x1.End2.length : Int) > 0))) = Bool.true then some (Bool.false) else Ltree_checker_stmt_17 s k x0 x1 x2 k (x2) (x1.E) ((↑x1.E.length : Int)) (0) (x0.dialect) (x1.Marks_Before) (x1.Marks_Trail) (x1.Op) (x1.Name) (x1.P_Op) (x1.P_N) (x1.P_Name) (x1.P_Field) (x1.P_L) (x1.E) (x1.Down) (x1.More) (x1.Body) (x1.Else) (x1.End) (x1.End2)) else Ltree_checker_stmt_17 s k x0 x1 x2 k (x2) (x1.E) ((↑x1.E.length : Int)) (0) (x0.dialect) (x1.Marks_Before) (x1.Marks_Trail) (x1.Op) (x1.Name) (x1.P_Op) (x1.P_N) (x1.P_Name) (x1.P_Field) (x1.P_L) (x1.E) (x1.Down) (x1.More) (x1.Body) (x1.Else) (x1.End) (x1.End2)))) else (if (x1.More && x1.Op != 3 || x1.Down && x1.Op != 6) = Bool.true then some (Bool.false) else (if (!x1.More) = Bool.true then (if (Bool.true && (decide ((↑x1.Else.length : Int) > 0) || decide ((↑x1.End2.length : Int) > 0))) = Bool.true then some (Bool.false) else Ltree_checker_stmt_17 s k x0 x1 x2 k (x2) (x1.E) ((↑x1.E.length : Int)) (0) (x0.dialect) (x1.Marks_Before) (x1.Marks_Trail) (x1.Op) (x1.Name) (x1.P_Op) (x1.P_N) (x1.P_Name) (x1.P_Field) (x1.P_L) (x1.E) (x1.Down) (x1.More) (x1.Body) (x1.Else) (x1.End) (x1.End2)) else Ltree_checker_stmt_17 s k x0 x1 x2 k (x2) (x1.E) ((↑x1.E.length : Int)) (0) (x0.dialect) (x1.Marks_Before) (x1.Marks_Trail) (x1.Op) (x1.Name) (x1.P_Op) (x1.P_N) (x1.P_Name) (x1.P_Field) (x1.P_L) (x1.E) (x1.Down) (x1.More) (x1.Body) (x1.Else) (x1.End) (x1.End2))))))))))) else some (Bool.false)))
theorem Ltree_checker_stmt_17_eq (s : Fam) (k : Nat) (x0 : Ttree_checker) (x1 : TStmt) (x2 : Int) : ∀ (j17 : Nat) (v0 : Int) (v1 : List TExpr) (v2 : Int) (v3 : Int) (v4 : Int) (v5 : List ByteArray) (v6 : List ByteArray) (v7 : Int) (v8 : ByteArray) (v9 : Int) (v10 : Int) (v11 : ByteArray) (v12 : ByteArray) (v13 : List TExpr) (v14 : List TExpr) (v15 : Bool) (v16 : Bool) (v17 : List TStmt) (v18 : List TStmt) (v19 : List ByteArray) (v20 : List ByteArray), (loopGo EE (sp s) h_tree_checker_stmt co_tree_checker_stmt [] k Tryz.f87 17 [] j17 ({ tmps := ofL AV.any [(2, AV.c (CV.d (DV.lit (Go.Value.int Go.IntKind.i64 v0)))), (3, AV.c (CV.ptr 3 0)), (4, AV.c (CV.ptr 4 0)), (145, AV.c (CV.d (DV.sl 44 v1))), (146, AV.c (CV.d (DV.lit (Go.Value.int Go.IntKind.i64 v2)))), (147, AV.c (CV.d (DV.lit (Go.Value.int Go.IntKind.i64 v3))))], boxes := ofL Option.none [(3, Option.some [CV.d (DV.lit (Go.Value.int Go.IntKind.i64 v4))]), (4, Option.some [CV.d (DV.sl 9 v5), CV.d (DV.sl 9 v6), CV.d (DV.lit (Go.Value.int Go.IntKind.i64 v7)), CV.d (DV.lit (Go.Value.string v8)), CV.d (DV.lit (Go.Value.int Go.IntKind.i64 v9)), CV.d (DV.lit (Go.Value.int Go.IntKind.i64 v10)), CV.d (DV.lit (Go.Value.string v11)), CV.d (DV.lit (Go.Value.string v12)), CV.d (DV.sl 44 v13), CV.d (DV.sl 44 v14), CV.d (DV.lit (Go.Value.bool v15)), CV.d (DV.lit (Go.Value.bool v16)), CV.d (DV.sl 107 v17), CV.d (DV.sl 107 v18), CV.d (DV.sl 9 v19), CV.d (DV.sl 9 v20)])], objs := ofL Option.none [(145, Option.none), (1099511644160, Option.none), (1099511644161, Option.none), (1099511644168, Option.none), (1099511644169, Option.none), (1099511644172, Option.none), (1099511644173, Option.none), (1099511644174, Option.none), (1099511644175, Option.none)], fxs := ofL Option.none [(3, Option.none), (4, Option.none)] : AS II })).run = (Ltree_checker_stmt_17 s k x0 x1 x2 j17 v0 v1 v2 v3 v4 v5 v6 v7 v8 v9 v10 v11 v12 v13 v14 v15 v16 v17 v18 v19 v20).map rc_tree_checker_stmt.enc := by
  intro j17
  induction j17 with
  | zero => intros; rfl
  | succ j17 ih =>
    intros
    simp only [Ltree_checker_stmt_17, map_ite, map_bindO, map_someO, map_noneO, ← ih]
    kernel_rfl
theorem e_tree_checker_stmt (s : Fam) (k : Nat) (x : a_tree_checker_stmt) : (evFunC EE (sp s) h_tree_checker_stmt co_tree_checker_stmt k Tryz.f87 (c_tree_checker_stmt.enc x)).run = (B_tree_checker_stmt s k x.1 x.2.1 x.2.2.1).map rc_tree_checker_stmt.enc := by
  simp only [B_tree_checker_stmt, map_ite, map_bindO, map_someO, map_noneO, ← Ltree_checker_stmt_17_eq]
  kernel_rfl
-- 308 nodes
def Lr04_Check_4 (s : Fam) (k : Nat) (x0 : ByteArray) : Nat → ByteArray → Int → Option (Int)
  | 0, _, _ => none
  | j4 + 1, v0, v1 => (if decide (v1 < (↑v0.size : Int)) = Bool.true then (if 0 ≤ v1 then (if v1 < (↑v0.size : Int) then ((s.f_r04_Letter (bt v0 v1, v1 == 0, ())).bind fun t7 => (if (!t7) = Bool.true then some (11) else Lr04_Check_4 s k x0 j4 (v0) (Go.IntKind.i64.wrap (v1 + 1)))) else none) else none) else (if decide ((↑v0.size : Int) > 32) = Bool.true then some (3) else some (0)))
def B_r04_Check (s : Fam) (k : Nat) (x0 : ByteArray) : Option (Int) := (if (x0.toList == { data := #[] : ByteArray }.toList) = Bool.true then some (11) else Lr04_Check_4 s k x0 k (x0) (0))
theorem Lr04_Check_4_eq (s : Fam) (k : Nat) (x0 : ByteArray) : ∀ (j4 : Nat) (v0 : ByteArray) (v1 : Int), (loopGo EE (sp s) h_r04_Check co_r04_Check [] k Tryz.f88 4 [] j4 ({ tmps := ofL AV.any [(0, AV.c (CV.d (DV.lit (Go.Value.string v0)))), (3, AV.c (CV.d (DV.lit (Go.Value.int Go.IntKind.i64 v1))))], boxes := ofL Option.none [], objs := ofL Option.none [], fxs := ofL Option.none [] : AS II })).run = (Lr04_Check_4 s k x0 j4 v0 v1).map rc_r04_Check.enc := by
  intro j4
  induction j4 with
  | zero => intros; rfl
  | succ j4 ih =>
    intros
    simp only [Lr04_Check_4, map_ite, map_bindO, map_someO, map_noneO, ← ih]
    kernel_rfl
theorem e_r04_Check (s : Fam) (k : Nat) (x : a_r04_Check) : (evFunC EE (sp s) h_r04_Check co_r04_Check k Tryz.f88 (c_r04_Check.enc x)).run = (B_r04_Check s k x.1).map rc_r04_Check.enc := by
  simp only [B_r04_Check, map_ite, map_bindO, map_someO, map_noneO, ← Lr04_Check_4_eq]
  kernel_rfl
-- 15 nodes
def B_r04_Is (s : Fam) (k : Nat) (x0 : Int) (x1 : ByteArray) : Option (Bool) := ((s.f_r04_All (x0, ())).bind fun t1 => ((s.f_r04_Among (t1, x1, ())).bind fun t2 => some (t2)))
theorem e_r04_Is (s : Fam) (k : Nat) (x : a_r04_Is) : (evFunC EE (sp s) h_r04_Is co_r04_Is k Tryz.f89 (c_r04_Is.enc x)).run = (B_r04_Is s k x.1 x.2.1).map rc_r04_Is.enc := by
  simp only [B_r04_Is, map_ite, map_bindO, map_someO, map_noneO]
  kernel_rfl
-- 3 nodes
def Lr02_Check_4 (s : Fam) (k : Nat) (x0 : ByteArray) : Nat → ByteArray → Int → Option (Int)
  | 0, _, _ => none
  | j4 + 1, v0, v1 => (if decide (v1 < (↑v0.size : Int)) = Bool.true then (if 0 ≤ v1 then (if v1 < (↑v0.size : Int) then ((s.f_r02_right (bt v0 v1, ())).bind fun t7 => (if (!t7) = Bool.true then some (8) else Lr02_Check_4 s k x0 j4 (v0) (Go.IntKind.i64.wrap (v1 + 1)))) else none) else none) else some (0))
def B_r02_Check (s : Fam) (k : Nat) (x0 : ByteArray) : Option (Int) := (if decide ((↑x0.size : Int) > 1024) = Bool.true then some (3) else Lr02_Check_4 s k x0 k (x0) (0))
theorem Lr02_Check_4_eq (s : Fam) (k : Nat) (x0 : ByteArray) : ∀ (j4 : Nat) (v0 : ByteArray) (v1 : Int), (loopGo EE (sp s) h_r02_Check co_r02_Check [] k Tryz.f90 4 [] j4 ({ tmps := ofL AV.any [(0, AV.c (CV.d (DV.lit (Go.Value.string v0)))), (3, AV.c (CV.d (DV.lit (Go.Value.int Go.IntKind.i64 v1))))], boxes := ofL Option.none [], objs := ofL Option.none [], fxs := ofL Option.none [] : AS II })).run = (Lr02_Check_4 s k x0 j4 v0 v1).map rc_r02_Check.enc := by
  intro j4
  induction j4 with
  | zero => intros; rfl
  | succ j4 ih =>
    intros
    simp only [Lr02_Check_4, map_ite, map_bindO, map_someO, map_noneO, ← ih]
    kernel_rfl
theorem e_r02_Check (s : Fam) (k : Nat) (x : a_r02_Check) : (evFunC EE (sp s) h_r02_Check co_r02_Check k Tryz.f90 (c_r02_Check.enc x)).run = (B_r02_Check s k x.1).map rc_r02_Check.enc := by
  simp only [B_r02_Check, map_ite, map_bindO, map_someO, map_noneO, ← Lr02_Check_4_eq]
  kernel_rfl
-- 13 nodes
def B_r07_Type (s : Fam) (k : Nat) (x0 : Int) (x1 : TType) : Option (Bool) := (if (x1.Kind == 4) = Bool.true then (if (x1.Size == 0) = Bool.true then ((s.f_r07_Name (x0, x1.Name, ())).bind fun t3 => some (Bool.true && t3)) else some (Bool.false)) else some (decide (x1.Kind ≥ 1) && decide (x1.Kind ≤ 3) && decide (x1.Size ≥ 0) && decide (x1.Size ≤ 64) && x1.Name.toList == { data := #[] : ByteArray }.toList))
theorem e_r07_Type (s : Fam) (k : Nat) (x : a_r07_Type) : (evFunC EE (sp s) h_r07_Type co_r07_Type k Tryz.f91 (c_r07_Type.enc x)).run = (B_r07_Type s k x.1 x.2.1).map rc_r07_Type.enc := by
  simp only [B_r07_Type, map_ite, map_bindO, map_someO, map_noneO]
  kernel_rfl
-- 7 nodes
def Lr07_Routine_5 (s : Fam) (k : Nat) (x0 : Int) (x1 : ByteArray) : Nat → Int → List ByteArray → Option (Bool)
  | 0, _, _ => none
  | j5 + 1, v0, v1 => (if decide (v0 < (↑v1.length : Int)) = Bool.true then (if 0 ≤ v0 then (if v0 < (↑v1.length : Int) then ((s.f_r07_Name (1, v1.getD v0.toNat { data := #[] : ByteArray }, ())).bind fun t9 => (if (!t9) = Bool.true then some (Bool.false) else Lr07_Routine_5 s k x0 x1 j5 (Go.IntKind.i64.wrap (v0 + 1)) (v1))) else none) else none) else some (Bool.true))
def B_r07_Routine (s : Fam) (k : Nat) (x0 : Int) (x1 : ByteArray) : Option (Bool) := (if (x0 == 0) = Bool.true then ((s.f_r07_Name (0, x1, ())).bind fun t2 => some (t2)) else ((s.f_r07_Parts (x1, ())).bind fun t4 => Lr07_Routine_5 s k x0 x1 k (0) (t4)))
theorem Lr07_Routine_5_eq (s : Fam) (k : Nat) (x0 : Int) (x1 : ByteArray) : ∀ (j5 : Nat) (v0 : Int) (v1 : List ByteArray), (loopGo EE (sp s) h_r07_Routine co_r07_Routine [] k Tryz.f92 5 [] j5 ({ tmps := ofL AV.any [(5, AV.c (CV.own 5 0)), (6, AV.c (CV.d (DV.lit (Go.Value.int Go.IntKind.i64 v0))))], boxes := ofL Option.none [], objs := ofL Option.none [(5, Option.some { ver := 0, t := 9, xs := v1 : Obj II })], fxs := ofL Option.none [] : AS II })).run = (Lr07_Routine_5 s k x0 x1 j5 v0 v1).map rc_r07_Routine.enc := by
  intro j5
  induction j5 with
  | zero => intros; rfl
  | succ j5 ih =>
    intros
    simp only [Lr07_Routine_5, map_ite, map_bindO, map_someO, map_noneO, ← ih]
    kernel_rfl
theorem e_r07_Routine (s : Fam) (k : Nat) (x : a_r07_Routine) : (evFunC EE (sp s) h_r07_Routine co_r07_Routine k Tryz.f92 (c_r07_Routine.enc x)).run = (B_r07_Routine s k x.1 x.2.1).map rc_r07_Routine.enc := by
  simp only [B_r07_Routine, map_ite, map_bindO, map_someO, map_noneO, ← Lr07_Routine_5_eq]
  kernel_rfl
-- 15 nodes
def Lr07_params_2 (s : Fam) (k : Nat) (x0 : Int) (x1 : List TParam) : Nat → Int → List TParam → Int → Option (Bool)
  | 0, _, _, _ => none
  | j2 + 1, v0, v1, v2 => (if decide (v2 < (↑v1.length : Int)) = Bool.true then (if 0 ≤ v2 then (if v2 < (↑v1.length : Int) then ((s.f_r07_Name (v0, (v1.getD v2.toNat dd_TParam).Name, ())).bind fun t5 => (if (!t5) = Bool.false then ((s.f_r07_Type (v0, (v1.getD v2.toNat dd_TParam).sub_T, ())).bind fun t7 => (if (Bool.false || !t7 || decide ((v1.getD v2.toNat dd_TParam).Mode < 0) || decide ((v1.getD v2.toNat dd_TParam).Mode > 2) || (v1.getD v2.toNat dd_TParam).Mode == 2 && v0 == 0) = Bool.true then some (Bool.false) else (if ((v1.getD v2.toNat dd_TParam).Mode == 0 && ((v1.getD v2.toNat dd_TParam).T_Size != 0 || (v1.getD v2.toNat dd_TParam).T_Kind == 4)) = Bool.false then (if ((v1.getD v2.toNat dd_TParam).Mode != 2 && decide (v2 > 0)) = Bool.true then (if 0 ≤ Go.IntKind.i64.wrap (v2 - 1) then (if Go.IntKind.i64.wrap (v2 - 1) < (↑v1.length : Int) then (if (Bool.false || Bool.true && (v1.getD (Go.IntKind.i64.wrap (v2 - 1)).toNat dd_TParam).Mode == 2) = Bool.true then some (Bool.false) else Lr07_params_2 s k x0 x1 j2 (v0) (v1) (Go.IntKind.i64.wrap (v2 + 1))) else none) else none) else Lr07_params_2 s k x0 x1 j2 (v0) (v1) (Go.IntKind.i64.wrap (v2 + 1))) else some (Bool.false)))) else some (Bool.false))) else none) else none) else some (decide ((↑v1.length : Int) ≤ 512)))
def B_r07_params (s : Fam) (k : Nat) (x0 : Int) (x1 : List TParam) : Option (Bool) := Lr07_params_2 s k x0 x1 k (x0) (x1) (0)
theorem Lr07_params_2_eq (s : Fam) (k : Nat) (x0 : Int) (x1 : List TParam) : ∀ (j2 : Nat) (v0 : Int) (v1 : List TParam) (v2 : Int), (loopGo EE (sp s) h_r07_params co_r07_params [] k Tryz.f93 2 [] j2 ({ tmps := ofL AV.any [(0, AV.c (CV.d (DV.lit (Go.Value.int Go.IntKind.i64 v0)))), (1, AV.c (CV.d (DV.sl 145 v1))), (5, AV.c (CV.d (DV.lit (Go.Value.int Go.IntKind.i64 v2))))], boxes := ofL Option.none [], objs := ofL Option.none [], fxs := ofL Option.none [] : AS II })).run = (Lr07_params_2 s k x0 x1 j2 v0 v1 v2).map rc_r07_params.enc := by
  intro j2
  induction j2 with
  | zero => intros; rfl
  | succ j2 ih =>
    intros
    simp only [Lr07_params_2, map_ite, map_bindO, map_someO, map_noneO, ← ih]
    kernel_rfl
theorem e_r07_params (s : Fam) (k : Nat) (x : a_r07_params) : (evFunC EE (sp s) h_r07_params co_r07_params k Tryz.f93 (c_r07_params.enc x)).run = (B_r07_params s k x.1 x.2.1).map rc_r07_params.enc := by
  simp only [B_r07_params, map_ite, map_bindO, map_someO, map_noneO, ← Lr07_params_2_eq]
  kernel_rfl
-- 36 nodes
def Lr07_Stmt_14 (s : Fam) (k : Nat) (x0 : Int) (x1 : TStmt) (x2 : Int) : Nat → Int → Int → Int → List ByteArray → List ByteArray → Int → ByteArray → Int → Int → ByteArray → ByteArray → List TExpr → List TExpr → Bool → Bool → List TStmt → List TStmt → List ByteArray → List ByteArray → Option (Bool)
  | 0, _, _, _, _, _, _, _, _, _, _, _, _, _, _, _, _, _, _, _ => none
  | j14 + 1, v0, v1, v2, v3, v4, v5, v6, v7, v8, v9, v10, v11, v12, v13, v14, v15, v16, v17, v18 => (if decide (v2 < (↑v12.length : Int)) = Bool.true then (if 0 ≤ v2 then (if v2 < (↑v12.length : Int) then ((s.f_r07_Expr (v0, (v12.getD v2.toNat dd_TExpr).re, ())).bind fun t16 => (if (!t16) = Bool.false then (if (v5 == 2) = Bool.true then (if 0 ≤ v2 then (if v2 < (↑v12.length : Int) then (if (Bool.false || Bool.true && (v12.getD v2.toNat dd_TExpr).Op != 7) = Bool.true then some (Bool.false) else Lr07_Stmt_14 s k x0 x1 x2 j14 (v0) (v1) (Go.IntKind.i64.wrap (v2 + 1)) (v3) (v4) (v5) (v6) (v7) (v8) (v9) (v10) (v11) (v12) (v13) (v14) (v15) (v16) (v17) (v18)) else none) else none) else Lr07_Stmt_14 s k x0 x1 x2 j14 (v0) (v1) (Go.IntKind.i64.wrap (v2 + 1)) (v3) (v4) (v5) (v6) (v7) (v8) (v9) (v10) (v11) (v12) (v13) (v14) (v15) (v16) (v17) (v18)) else some (Bool.false))) else none) else none) else (if (v5 == 1 || v5 == 7) = Bool.true then ((s.f_r07_place (v0, { Op := v7, N := v8, Name := v9, Field := v10, L := v11 : TExpr }, ())).bind fun t40 => (if (!t40) = Bool.true then some (Bool.false) else (if (v5 == 6) = Bool.true then ((s.f_r07_Name (v0, v6, ())).bind fun t44 => (if (!t44) = Bool.true then some (Bool.false) else (if (v14 && v5 != 3) = Bool.false then (if (!v14) = Bool.true then (if (Bool.false || Bool.true && (decide ((↑v16.length : Int) > 0) || decide ((↑v18.length : Int) > 0))) = Bool.true then some (Bool.false) else (if (decide (v5 < 3) || decide (v5 > 6)) = Bool.true then (if (Bool.true && (decide ((↑v15.length : Int) > 0) || decide ((↑v17.length : Int) > 0))) = Bool.true then some (Bool.false) else ((s.f_r07_Stmts (v0, v15, Go.IntKind.i64.wrap (v1 + 1), ())).bind fun t54 => (if t54 = Bool.true then ((s.f_r07_Stmts (v0, v16, Go.IntKind.i64.wrap (v1 + 1), ())).bind fun t56 => some (Bool.true && t56)) else some (Bool.false)))) else ((s.f_r07_Stmts (v0, v15, Go.IntKind.i64.wrap (v1 + 1), ())).bind fun t63 => (if t63 = Bool.true then ((s.f_r07_Stmts (v0, v16, Go.IntKind.i64.wrap (v1 + 1), ())).bind fun t65 => some (Bool.true && t65)) else some (Bool.false))))) else (if (decide (v5 < 3) || decide (v5 > 6)) = Bool.true then (if (Bool.true && (decide ((↑v15.length : Int) > 0) || decide ((↑v17.length : Int) > 0))) = Bool.true then some (Bool.false) else ((s.f_r07_Stmts (v0, v15, Go.IntKind.i64.wrap (v1 + 1), ())).bind fun t76 => (if t76 = Bool.true then ((s.f_r07_Stmts (v0, v16, Go.IntKind.i64.wrap (v1 + 1), ())).bind fun t78 => some (Bool.true && t78)) else some (Bool.false)))) else ((s.f_r07_Stmts (v0, v15, Go.IntKind.i64.wrap (v1 + 1), ())).bind fun t85 => (if t85 = Bool.true then ((s.f_r07_Stmts (v0, v16, Go.IntKind.i64.wrap (v1 + 1), ())).bind fun t87 => some (Bool.true && t87)) else some (Bool.false))))) else some (Bool.false)))) else (if (!v6.toList == { data := #[] : ByteArray }.toList || v13) = Bool.true then some (Bool.false) else (if (v14 && v5 != 3) = Bool.false then (if (!v14) = Bool.true then (if (Bool.false || Bool.true && (decide ((↑v16.length : Int) > 0) || decide ((↑v18.length : Int) > 0))) = Bool.true then some (Bool.false) else (if (decide (v5 < 3) || decide (v5 > 6)) = Bool.true then (if (Bool.true && (decide ((↑v15.length : Int) > 0) || decide ((↑v17.length : Int) > 0))) = Bool.true then some (Bool.false) else ((s.f_r07_Stmts (v0, v15, Go.IntKind.i64.wrap (v1 + 1), ())).bind fun t104 => (if t104 = Bool.true then ((s.f_r07_Stmts (v0, v16, Go.IntKind.i64.wrap (v1 + 1), ())).bind fun t106 => some (Bool.true && t106)) else some (Bool.false)))) else ((s.f_r07_Stmts (v0, v15, Go.IntKind.i64.wrap (v1 + 1), ())).bind fun t113 => (if t113 = Bool.true then ((s.f_r07_Stmts (v0, v16, Go.IntKind.i64.wrap (v1 + 1), ())).bind fun t115 => some (Bool.true && t115)) else some (Bool.false))))) else (if (decide (v5 < 3) || decide (v5 > 6)) = Bool.true then (if (Bool.true && (decide ((↑v15.length : Int) > 0) || decide ((↑v17.length : Int) > 0))) = Bool.true then some (Bool.false) else ((s.f_r07_Stmts (v0, v15, Go.IntKind.i64.wrap (v1 + 1), ())).bind fun t126 => (if t126 = Bool.true then ((s.f_r07_Stmts (v0, v16, Go.IntKind.i64.wrap (v1 + 1), ())).bind fun t128 => some (Bool.true && t128)) else some (Bool.false)))) else ((s.f_r07_Stmts (v0, v15, Go.IntKind.i64.wrap (v1 + 1), ())).bind fun t135 => (if t135 = Bool.true then ((s.f_r07_Stmts (v0, v16, Go.IntKind.i64.wrap (v1 + 1), ())).bind fun t137 => some (Bool.true && t137)) else some (Bool.false))))) else some (Bool.false)))))) else ((s.f_r07_none ({ Op := v7, N := v8, Name := v9, Field := v10, L := v11 : TExpr }, ())).bind fun t145 => (if (!t145) = Bool.true then some (Bool.false) else (if (v5 == 6) = Bool.true then ((s.f_r07_Name (v0, v6, ())).bind fun t149 => (if (!t149) = Bool.true then some (Bool.false) else (if (v14 && v5 != 3) = Bool.false then (if (!v14) = Bool.true then (if (Bool.false || Bool.true && (decide ((↑v16.length : Int) > 0) || decide ((↑v18.length : Int) > 0))) = Bool.true then some (Bool.false) else (if (decide (v5 < 3) || decide (v5 > 6)) = Bool.true then (if (Bool.true && (decide ((↑v15.length : Int) > 0) || decide ((↑v17.length : Int) > 0))) = Bool.true then some (Bool.false) else ((s.f_r07_Stmts (v0, v15, Go.IntKind.i64.wrap (v1 + 1), ())).bind fun t159 => (if t159 = Bool.true then ((s.f_r07_Stmts (v0, v16, Go.IntKind.i64.wrap (v1 + 1), ())).bind fun t161 => some (Bool.true && t161)) else some (Bool.false)))) else ((s.f_r07_Stmts (v0, v15, Go.IntKind.i64.wrap (v1 + 1), ())).bind fun t168 => (if t168 = Bool.true then ((s.f_r07_Stmts (v0, v16, Go.IntKind.i64.wrap (v1 + 1), ())).bind fun t170 => some (Bool.true && t170)) else some (Bool.false))))) else (if (decide (v5 < 3) || decide (v5 > 6)) = Bool.true then (if (Bool.true && (decide ((↑v15.length : Int) > 0) || decide ((↑v17.length : Int) > 0))) = Bool.true then some (Bool.false) else ((s.f_r07_Stmts (v0, v15, Go.IntKind.i64.wrap (v1 + 1), ())).bind fun t181 => (if t181 = Bool.true then ((s.f_r07_Stmts (v0, v16, Go.IntKind.i64.wrap (v1 + 1), ())).bind fun t183 => some (Bool.true && t183)) else some (Bool.false)))) else ((s.f_r07_Stmts (v0, v15, Go.IntKind.i64.wrap (v1 + 1), ())).bind fun t190 => (if t190 = Bool.true then ((s.f_r07_Stmts (v0, v16, Go.IntKind.i64.wrap (v1 + 1), ())).bind fun t192 => some (Bool.true && t192)) else some (Bool.false))))) else some (Bool.false)))) else (if (!v6.toList == { data := #[] : ByteArray }.toList || v13) = Bool.true then some (Bool.false) else (if (v14 && v5 != 3) = Bool.false then (if (!v14) = Bool.true then (if (Bool.false || Bool.true && (decide ((↑v16.length : Int) > 0) || decide ((↑v18.length : Int) > 0))) = Bool.true then some (Bool.false) else (if (decide (v5 < 3) || decide (v5 > 6)) = Bool.true then (if (Bool.true && (decide ((↑v15.length : Int) > 0) || decide ((↑v17.length : Int) > 0))) = Bool.true then some (Bool.false) else ((s.f_r07_Stmts (v0, v15, Go.IntKind.i64.wrap (v1 + 1), ())).bind fun t209 => (if t209 = Bool.true then ((s.f_r07_Stmts (v0, v16, Go.IntKind.i64.wrap (v1 + 1), ())).bind fun t211 => some (Bool.true && t211)) else some (Bool.false)))) else ((s.f_r07_Stmts (v0, v15, Go.IntKind.i64.wrap (v1 + 1), ())).bind fun t218 => (if t218 = Bool.true then ((s.f_r07_Stmts (v0, v16, Go.IntKind.i64.wrap (v1 + 1), ())).bind fun t220 => some (Bool.true && t220)) else some (Bool.false))))) else (if (decide (v5 < 3) || decide (v5 > 6)) = Bool.true then (if (Bool.true && (decide ((↑v15.length : Int) > 0) || decide ((↑v17.length : Int) > 0))) = Bool.true then some (Bool.false) else ((s.f_r07_Stmts (v0, v15, Go.IntKind.i64.wrap (v1 + 1), ())).bind fun t231 => (if t231 = Bool.true then ((s.f_r07_Stmts (v0, v16, Go.IntKind.i64.wrap (v1 + 1), ())).bind fun t233 => some (Bool.true && t233)) else some (Bool.false)))) else ((s.f_r07_Stmts (v0, v15, Go.IntKind.i64.wrap (v1 + 1), ())).bind fun t240 => (if t240 = Bool.true then ((s.f_r07_Stmts (v0, v16, Go.IntKind.i64.wrap (v1 + 1), ())).bind fun t242 => some (Bool.true && t242)) else some (Bool.false))))) else some (Bool.false))))))))
def B_r07_Stmt (s : Fam) (k : Nat) (x0 : Int) (x1 : TStmt) (x2 : Int) : Option (Bool) := (if decide (x2 > 48) = Bool.false then ((s.f_r07_marks (x1.sub_Marks, ())).bind fun t2 => (if (Bool.false || !t2) = Bool.false then ((s.f_r07_notes (x1.End, ())).bind fun t4 => (if (Bool.false || !t4) = Bool.false then ((s.f_r07_notes (x1.End2, ())).bind fun t6 => (if (Bool.false || !t6 || decide (x1.Op < 1) || decide (x1.Op > 9)) = Bool.true then some (Bool.false) else (if (x1.Op == 6) = Bool.true then (if (decide ((↑x1.E.length : Int) < 2) || decide ((↑x1.E.length : Int) > 2)) = Bool.true then some (Bool.false) else Lr07_Stmt_14 s k x0 x1 x2 k (x0) (x2) (0) (x1.Marks_Before) (x1.Marks_Trail) (x1.Op) (x1.Name) (x1.P_Op) (x1.P_N) (x1.P_Name) (x1.P_Field) (x1.P_L) (x1.E) (x1.Down) (x1.More) (x1.Body) (x1.Else) (x1.End) (x1.End2)) else (if (x1.Op == 7) = Bool.true then (if (decide ((↑x1.E.length : Int) < 0) || decide ((↑x1.E.length : Int) > 0)) = Bool.true then some (Bool.false) else Lr07_Stmt_14 s k x0 x1 x2 k (x0) (x2) (0) (x1.Marks_Before) (x1.Marks_Trail) (x1.Op) (x1.Name) (x1.P_Op) (x1.P_N) (x1.P_Name) (x1.P_Field) (x1.P_L) (x1.E) (x1.Down) (x1.More) (x1.Body) (x1.Else) (x1.End) (x1.End2)) else (if (x1.Op == 9) = Bool.true then (if (decide ((↑x1.E.length : Int) < 0) || decide ((↑x1.E.length : Int) > 1)) = Bool.true then some (Bool.false) else Lr07_Stmt_14 s k x0 x1 x2 k (x0) (x2) (0) (x1.Marks_Before) (x1.Marks_Trail) (x1.Op) (x1.Name) (x1.P_Op) (x1.P_N) (x1.P_Name) (x1.P_Field) (x1.P_L) (x1.E) (x1.Down) (x1.More) (x1.Body) (x1.Else) (x1.End) (x1.End2)) else (if (decide ((↑x1.E.length : Int) < 1) || decide ((↑x1.E.length : Int) > 1)) = Bool.true then some (Bool.false) else Lr07_Stmt_14 s k x0 x1 x2 k (x0) (x2) (0) (x1.Marks_Before) (x1.Marks_Trail) (x1.Op) (x1.Name) (x1.P_Op) (x1.P_N) (x1.P_Name) (x1.P_Field) (x1.P_L) (x1.E) (x1.Down) (x1.More) (x1.Body) (x1.Else) (x1.End) (x1.End2))))))) else some (Bool.false))) else some (Bool.false))) else some (Bool.false))
theorem Lr07_Stmt_14_eq (s : Fam) (k : Nat) (x0 : Int) (x1 : TStmt) (x2 : Int) : ∀ (j14 : Nat) (v0 : Int) (v1 : Int) (v2 : Int) (v3 : List ByteArray) (v4 : List ByteArray) (v5 : Int) (v6 : ByteArray) (v7 : Int) (v8 : Int) (v9 : ByteArray) (v10 : ByteArray) (v11 : List TExpr) (v12 : List TExpr) (v13 : Bool) (v14 : Bool) (v15 : List TStmt) (v16 : List TStmt) (v17 : List ByteArray) (v18 : List ByteArray), (loopGo EE (sp s) h_r07_Stmt co_r07_Stmt [] k Tryz.f94 14 [] j14 ({ tmps := ofL AV.any [(0, AV.c (CV.d (DV.lit (Go.Value.int Go.IntKind.i64 v0)))), (2, AV.c (CV.d (DV.lit (Go.Value.int Go.IntKind.i64 v1)))), (4, AV.c (CV.ptr 4 0)), (9, AV.c (CV.d (DV.lit (Go.Value.int Go.IntKind.i64 v2))))], boxes := ofL Option.none [(4, Option.some [CV.d (DV.sl 9 v3), CV.d (DV.sl 9 v4), CV.d (DV.lit (Go.Value.int Go.IntKind.i64 v5)), CV.d (DV.lit (Go.Value.string v6)), CV.d (DV.lit (Go.Value.int Go.IntKind.i64 v7)), CV.d (DV.lit (Go.Value.int Go.IntKind.i64 v8)), CV.d (DV.lit (Go.Value.string v9)), CV.d (DV.lit (Go.Value.string v10)), CV.d (DV.sl 44 v11), CV.d (DV.sl 44 v12), CV.d (DV.lit (Go.Value.bool v13)), CV.d (DV.lit (Go.Value.bool v14)), CV.d (DV.sl 107 v15), CV.d (DV.sl 107 v16), CV.d (DV.sl 9 v17), CV.d (DV.sl 9 v18)])], objs := ofL Option.none [(1099511644160, Option.none), (1099511644161, Option.none), (1099511644168, Option.none), (1099511644169, Option.none), (1099511644172, Option.none), (1099511644173, Option.none), (1099511644174, Option.none), (1099511644175, Option.none)], fxs := ofL Option.none [(4, Option.none)] : AS II })).run = (Lr07_Stmt_14 s k x0 x1 x2 j14 v0 v1 v2 v3 v4 v5 v6 v7 v8 v9 v10 v11 v12 v13 v14 v15 v16 v17 v18).map rc_r07_Stmt.enc := by
  intro j14
  induction j14 with
  | zero => intros; rfl
  | succ j14 ih =>
    intros
    simp only [Lr07_Stmt_14, map_ite, map_bindO, map_someO, map_noneO, ← ih]
    kernel_rfl
theorem e_r07_Stmt (s : Fam) (k : Nat) (x : a_r07_Stmt) : (evFunC EE (sp s) h_r07_Stmt co_r07_Stmt k Tryz.f94 (c_r07_Stmt.enc x)).run = (B_r07_Stmt s k x.1 x.2.1 x.2.2.1).map rc_r07_Stmt.enc := by
  simp only [B_r07_Stmt, map_ite, map_bindO, map_someO, map_noneO, ← Lr07_Stmt_14_eq]
  kernel_rfl
-- 281 nodes
def Ltree_each_Rec_3 (s : Fam) (k : Nat) (x0 : List TRec) (x1 : Thing × Unit) : Nat → List TRec → Int → Int → List TRec → Thing → Option (List TRec × Thing × Unit)
  | 0, _, _, _, _, _ => none
  | j3 + 1, v0, v1, v2, v3, v4 => (if decide (v2 < v1) = Bool.true then (if 0 ≤ v2 then (if v2 < (↑v0.length : Int) then ((s.f_tree_mapper_rec ((v4, ()), v0.getD v2.toNat dd_TRec, ())).bind fun t5 => (if (v3 ++ [t5.fst]).length * 112 ≤ 140737488355328 then Ltree_each_Rec_3 s k x0 x1 j3 (v0) (v1) (Go.IntKind.i64.wrap (v2 + 1)) (v3 ++ [t5.fst]) (t5.snd.fst) else none)) else none) else none) else some ((v3, v4, ())))
def B_tree_each_Rec (s : Fam) (k : Nat) (x0 : List TRec) (x1 : Thing × Unit) : Option (List TRec × Thing × Unit) := Ltree_each_Rec_3 s k x0 x1 k (x0) ((↑x0.length : Int)) (0) ([]) (x1.fst)
theorem Ltree_each_Rec_3_eq (s : Fam) (k : Nat) (x0 : List TRec) (x1 : Thing × Unit) : ∀ (j3 : Nat) (v0 : List TRec) (v1 : Int) (v2 : Int) (v3 : List TRec) (v4 : Thing), (loopGo EE (sp s) h_tree_each_Rec co_tree_each_Rec (rootAs (unAs 1000004 (c_tree_each_Rec.enc (x0, x1, ()))).1) k Tryz.f97 3 [] j3 ({ tmps := ofL AV.any [(1, AV.c (CV.mth 98 [CV.fx 1000004])), (5, AV.c (CV.own 5 0)), (8, AV.c (CV.d (DV.sl 59 v0))), (9, AV.c (CV.d (DV.lit (Go.Value.int Go.IntKind.i64 v1)))), (10, AV.c (CV.d (DV.lit (Go.Value.int Go.IntKind.i64 v2))))], boxes := ofL Option.none [(1000004, Option.none)], objs := ofL Option.none [(5, Option.some { ver := 0, t := 59, xs := v3 : Obj II }), (8, Option.none)], fxs := ofL Option.none [(1000004, Option.some v4)] : AS II })).run = (Ltree_each_Rec_3 s k x0 x1 j3 v0 v1 v2 v3 v4).map rc_tree_each_Rec.enc := by
  intro j3
  induction j3 with
  | zero => intros; rfl
  | succ j3 ih =>
    intros
    simp only [Ltree_each_Rec_3, map_ite, map_bindO, map_someO, map_noneO, ← ih]
    kernel_rfl
theorem e_tree_each_Rec (s : Fam) (k : Nat) (x : a_tree_each_Rec) : (evFunC EE (sp s) h_tree_each_Rec co_tree_each_Rec k Tryz.f97 (c_tree_each_Rec.enc x)).run = (B_tree_each_Rec s k x.1 x.2.1).map rc_tree_each_Rec.enc := by
  simp only [B_tree_each_Rec, map_ite, map_bindO, map_someO, map_noneO, ← Ltree_each_Rec_3_eq]
  kernel_rfl
-- 11 nodes
def B_tree_mapper_rec (s : Fam) (k : Nat) (x0 : Thing × Unit) (x1 : TRec) : Option (TRec × Thing × Unit) := ((s.f_tree_mapper_marks ((x0.fst, ()), x1.sub_Marks, ())).bind fun t1 => ((s.f_tree_mapper_parts ((t1.snd.fst, ()), x1.Name, ())).bind fun t2 => ((s.f_tree_each_Field (x1.Fields, ((), (t2.snd.fst, ()), ()), ())).bind fun t3 => ((s.f_slices_Clone_string (x1.End, ())).bind fun t4 => some (({ Marks_Before := t1.fst.Before, Marks_Trail := t1.fst.Trail, Name := t2.fst, Fields := t3.fst, End := t4 : TRec }, t3.snd.fst, ()))))))
theorem e_tree_mapper_rec (s : Fam) (k : Nat) (x : a_tree_mapper_rec) : (evFunC EE (sp s) h_tree_mapper_rec co_tree_mapper_rec k Tryz.f98 (c_tree_mapper_rec.enc x)).run = (B_tree_mapper_rec s k x.1 x.2.1).map rc_tree_mapper_rec.enc := by
  simp only [B_tree_mapper_rec, map_ite, map_bindO, map_someO, map_noneO]
  kernel_rfl
-- 5 nodes
def Ltree_each_Var_3 (s : Fam) (k : Nat) (x0 : List TVar) (x1 : Thing × Unit) : Nat → List TVar → Int → Int → List TVar → Thing → Option (List TVar × Thing × Unit)
  | 0, _, _, _, _, _ => none
  | j3 + 1, v0, v1, v2, v3, v4 => (if decide (v2 < v1) = Bool.true then (if 0 ≤ v2 then (if v2 < (↑v0.length : Int) then ((s.f_tree_mapper_variable ((v4, ()), v0.getD v2.toNat dd_TVar, ())).bind fun t5 => (if (v3 ++ [t5.fst]).length * 96 ≤ 140737488355328 then Ltree_each_Var_3 s k x0 x1 j3 (v0) (v1) (Go.IntKind.i64.wrap (v2 + 1)) (v3 ++ [t5.fst]) (t5.snd.fst) else none)) else none) else none) else some ((v3, v4, ())))
def B_tree_each_Var (s : Fam) (k : Nat) (x0 : List TVar) (x1 : Thing × Unit) : Option (List TVar × Thing × Unit) := Ltree_each_Var_3 s k x0 x1 k (x0) ((↑x0.length : Int)) (0) ([]) (x1.fst)
theorem Ltree_each_Var_3_eq (s : Fam) (k : Nat) (x0 : List TVar) (x1 : Thing × Unit) : ∀ (j3 : Nat) (v0 : List TVar) (v1 : Int) (v2 : Int) (v3 : List TVar) (v4 : Thing), (loopGo EE (sp s) h_tree_each_Var co_tree_each_Var (rootAs (unAs 1000004 (c_tree_each_Var.enc (x0, x1, ()))).1) k Tryz.f99 3 [] j3 ({ tmps := ofL AV.any [(1, AV.c (CV.mth 100 [CV.fx 1000004])), (5, AV.c (CV.own 5 0)), (8, AV.c (CV.d (DV.sl 98 v0))), (9, AV.c (CV.d (DV.lit (Go.Value.int Go.IntKind.i64 v1)))), (10, AV.c (CV.d (DV.lit (Go.Value.int Go.IntKind.i64 v2))))], boxes := ofL Option.none [(1000004, Option.none)], objs := ofL Option.none [(5, Option.some { ver := 0, t := 98, xs := v3 : Obj II }), (8, Option.none)], fxs := ofL Option.none [(1000004, Option.some v4)] : AS II })).run = (Ltree_each_Var_3 s k x0 x1 j3 v0 v1 v2 v3 v4).map rc_tree_each_Var.enc := by
  intro j3
  induction j3 with
  | zero => intros; rfl
  | succ j3 ih =>
    intros
    simp only [Ltree_each_Var_3, map_ite, map_bindO, map_someO, map_noneO, ← ih]
    kernel_rfl
theorem e_tree_each_Var (s : Fam) (k : Nat) (x : a_tree_each_Var) : (evFunC EE (sp s) h_tree_each_Var co_tree_each_Var k Tryz.f99 (c_tree_each_Var.enc x)).run = (B_tree_each_Var s k x.1 x.2.1).map rc_tree_each_Var.enc := by
  simp only [B_tree_each_Var, map_ite, map_bindO, map_someO, map_noneO, ← Ltree_each_Var_3_eq]
  kernel_rfl
-- 11 nodes
def B_tree_mapper_variable (s : Fam) (k : Nat) (x0 : Thing × Unit) (x1 : TVar) : Option (TVar × Thing × Unit) := ((s.f_tree_mapper_marks ((x0.fst, ()), x1.sub_Marks, ())).bind fun t1 => ((s.f_tree_mapper_parts ((t1.snd.fst, ()), x1.Name, ())).bind fun t2 => ((s.f_tree_mapper_typ ((t2.snd.fst, ()), x1.sub_T, ())).bind fun t3 => some (({ Marks_Before := t1.fst.Before, Marks_Trail := t1.fst.Trail, Name := t2.fst, T_Kind := t3.fst.Kind, T_Size := t3.fst.Size, T_Name := t3.fst.Name : TVar }, t3.snd.fst, ())))))
theorem e_tree_mapper_variable (s : Fam) (k : Nat) (x : a_tree_mapper_variable) : (evFunC EE (sp s) h_tree_mapper_variable co_tree_mapper_variable k Tryz.f100 (c_tree_mapper_variable.enc x)).run = (B_tree_mapper_variable s k x.1 x.2.1).map rc_tree_mapper_variable.enc := by
  simp only [B_tree_mapper_variable, map_ite, map_bindO, map_someO, map_noneO]
  kernel_rfl
-- 4 nodes
def Ltree_each_Routine_3 (s : Fam) (k : Nat) (x0 : List TRoutine) (x1 : Thing × Unit) : Nat → List TRoutine → Int → Int → List TRoutine → Thing → Option (List TRoutine × Thing × Unit)
  | 0, _, _, _, _, _ => none
  | j3 + 1, v0, v1, v2, v3, v4 => (if decide (v2 < v1) = Bool.true then (if 0 ≤ v2 then (if v2 < (↑v0.length : Int) then ((s.f_tree_mapper_routine ((v4, ()), (v0.getD v2.toNat dd_TRoutine).re, ())).bind fun t5 => (if (v3 ++ [t5.fst.re]).length * 192 ≤ 140737488355328 then Ltree_each_Routine_3 s k x0 x1 j3 (v0) (v1) (Go.IntKind.i64.wrap (v2 + 1)) (v3 ++ [t5.fst.re]) (t5.snd.fst) else none)) else none) else none) else some ((v3, v4, ())))
def B_tree_each_Routine (s : Fam) (k : Nat) (x0 : List TRoutine) (x1 : Thing × Unit) : Option (List TRoutine × Thing × Unit) := Ltree_each_Routine_3 s k x0 x1 k (x0) ((↑x0.length : Int)) (0) ([]) (x1.fst)
theorem Ltree_each_Routine_3_eq (s : Fam) (k : Nat) (x0 : List TRoutine) (x1 : Thing × Unit) : ∀ (j3 : Nat) (v0 : List TRoutine) (v1 : Int) (v2 : Int) (v3 : List TRoutine) (v4 : Thing), (loopGo EE (sp s) h_tree_each_Routine co_tree_each_Routine (rootAs (unAs 1000004 (c_tree_each_Routine.enc (x0, x1, ()))).1) k Tryz.f101 3 [] j3 ({ tmps := ofL AV.any [(1, AV.c (CV.mth 102 [CV.fx 1000004])), (5, AV.c (CV.own 5 0)), (8, AV.c (CV.d (DV.sl 103 v0))), (9, AV.c (CV.d (DV.lit (Go.Value.int Go.IntKind.i64 v1)))), (10, AV.c (CV.d (DV.lit (Go.Value.int Go.IntKind.i64 v2))))], boxes := ofL Option.none [(1000004, Option.none)], objs := ofL Option.none [(5, Option.some { ver := 0, t := 103, xs := v3 : Obj II }), (8, Option.none)], fxs := ofL Option.none [(1000004, Option.some v4)] : AS II })).run = (Ltree_each_Routine_3 s k x0 x1 j3 v0 v1 v2 v3 v4).map rc_tree_each_Routine.enc := by
  intro j3
  induction j3 with
  | zero => intros; rfl
  | succ j3 ih =>
    intros
    simp only [Ltree_each_Routine_3, map_ite, map_bindO, map_someO, map_noneO, ← ih]
    kernel_rfl
theorem e_tree_each_Routine (s : Fam) (k : Nat) (x : a_tree_each_Routine) : (evFunC EE (sp s) h_tree_each_Routine co_tree_each_Routine k Tryz.f101 (c_tree_each_Routine.enc x)).run = (B_tree_each_Routine s k x.1 x.2.1).map rc_tree_each_Routine.enc := by
  simp only [B_tree_each_Routine, map_ite, map_bindO, map_someO, map_noneO, ← Ltree_each_Routine_3_eq]
  kernel_rfl
-- 11 nodes
def B_tree_mapper_routine (s : Fam) (k : Nat) (x0 : Thing × Unit) (x1 : TRoutine) : Option (TRoutine × Thing × Unit) := ((s.f_tree_mapper_marks ((x0.fst, ()), x1.sub_Marks, ())).bind fun t1 => ((s.f_tree_mapper_parts ((t1.snd.fst, ()), x1.Name, ())).bind fun t2 => ((s.f_tree_each_Param (x1.Params, ((), (t2.snd.fst, ()), ()), ())).bind fun t3 => ((s.f_tree_each_Var (x1.Vars, (t3.snd.fst, ()), ())).bind fun t4 => ((s.f_tree_each_Routine (x1.Inner, (t4.snd.fst, ()), ())).bind fun t5 => ((s.f_tree_each_Stmt (x1.Body, (t5.snd.fst, ()), ())).bind fun t6 => ((s.f_slices_Clone_string (x1.End, ())).bind fun t7 => some (({ Marks_Before := t1.fst.Before, Marks_Trail := t1.fst.Trail, Name := t2.fst, Result := x1.Result, Params := t3.fst, Vars := t4.fst, Inner := t5.fst, Body := t6.fst, End := t7 : TRoutine }, t6.snd.fst, ())))))))))
theorem e_tree_mapper_routine (s : Fam) (k : Nat) (x : a_tree_mapper_routine) : (evFunC EE (sp s) h_tree_mapper_routine co_tree_mapper_routine k Tryz.f102 (c_tree_mapper_routine.enc x)).run = (B_tree_mapper_routine s k x.1 x.2.1).map rc_tree_mapper_routine.enc := by
  simp only [B_tree_mapper_routine, map_ite, map_bindO, map_someO, map_noneO]
  kernel_rfl
-- 8 nodes
def Ltree_each_Stmt_3 (s : Fam) (k : Nat) (x0 : List TStmt) (x1 : Thing × Unit) : Nat → List TStmt → Int → Int → List TStmt → Thing → Option (List TStmt × Thing × Unit)
  | 0, _, _, _, _, _ => none
  | j3 + 1, v0, v1, v2, v3, v4 => (if decide (v2 < v1) = Bool.true then (if 0 ≤ v2 then (if v2 < (↑v0.length : Int) then ((s.f_tree_mapper_stmt ((v4, ()), (v0.getD v2.toNat dd_TStmt).re, ())).bind fun t5 => (if (v3 ++ [t5.fst.re]).length * 272 ≤ 140737488355328 then Ltree_each_Stmt_3 s k x0 x1 j3 (v0) (v1) (Go.IntKind.i64.wrap (v2 + 1)) (v3 ++ [t5.fst.re]) (t5.snd.fst) else none)) else none) else none) else some ((v3, v4, ())))
def B_tree_each_Stmt (s : Fam) (k : Nat) (x0 : List TStmt) (x1 : Thing × Unit) : Option (List TStmt × Thing × Unit) := Ltree_each_Stmt_3 s k x0 x1 k (x0) ((↑x0.length : Int)) (0) ([]) (x1.fst)
theorem Ltree_each_Stmt_3_eq (s : Fam) (k : Nat) (x0 : List TStmt) (x1 : Thing × Unit) : ∀ (j3 : Nat) (v0 : List TStmt) (v1 : Int) (v2 : Int) (v3 : List TStmt) (v4 : Thing), (loopGo EE (sp s) h_tree_each_Stmt co_tree_each_Stmt (rootAs (unAs 1000004 (c_tree_each_Stmt.enc (x0, x1, ()))).1) k Tryz.f103 3 [] j3 ({ tmps := ofL AV.any [(1, AV.c (CV.mth 104 [CV.fx 1000004])), (5, AV.c (CV.own 5 0)), (8, AV.c (CV.d (DV.sl 107 v0))), (9, AV.c (CV.d (DV.lit (Go.Value.int Go.IntKind.i64 v1)))), (10, AV.c (CV.d (DV.lit (Go.Value.int Go.IntKind.i64 v2))))], boxes := ofL Option.none [(1000004, Option.none)], objs := ofL Option.none [(5, Option.some { ver := 0, t := 107, xs := v3 : Obj II }), (8, Option.none)], fxs := ofL Option.none [(1000004, Option.some v4)] : AS II })).run = (Ltree_each_Stmt_3 s k x0 x1 j3 v0 v1 v2 v3 v4).map rc_tree_each_Stmt.enc := by
  intro j3
  induction j3 with
  | zero => intros; rfl
  | succ j3 ih =>
    intros
    simp only [Ltree_each_Stmt_3, map_ite, map_bindO, map_someO, map_noneO, ← ih]
    kernel_rfl
theorem e_tree_each_Stmt (s : Fam) (k : Nat) (x : a_tree_each_Stmt) : (evFunC EE (sp s) h_tree_each_Stmt co_tree_each_Stmt k Tryz.f103 (c_tree_each_Stmt.enc x)).run = (B_tree_each_Stmt s k x.1 x.2.1).map rc_tree_each_Stmt.enc := by
  simp only [B_tree_each_Stmt, map_ite, map_bindO, map_someO, map_noneO, ← Ltree_each_Stmt_3_eq]
  kernel_rfl
-- 11 nodes
end Go.Ev
end
section
open Go Go.Proofs
namespace Go.Ev
set_option linter.unusedVariables false
set_option linter.unusedSimpArgs false
set_option maxHeartbeats 4000000
set_option maxRecDepth 100000
def B_tree_mapper_stmt (s : Fam) (k : Nat) (x0 : Thing × Unit) (x1 : TStmt) : Option (TStmt × Thing × Unit) := ((s.f_tree_mapper_marks ((x0.fst, ()), x1.sub_Marks, ())).bind fun t1 => ((s.f_tree_mapper_parts ((t1.snd.fst, ()), x1.Name, ())).bind fun t2 => ((s.f_tree_mapper_expr ((t2.snd.fst, ()), x1.sub_P, ())).bind fun t3 => ((s.f_tree_each_Expr (x1.E, (t3.snd.fst, ()), ())).bind fun t4 => ((s.f_tree_each_Stmt (x1.Body, (t4.snd.fst, ()), ())).bind fun t5 => ((s.f_tree_each_Stmt (x1.Else, (t5.snd.fst, ()), ())).bind fun t6 => ((s.f_slices_Clone_string (x1.End, ())).bind fun t7 => ((s.f_slices_Clone_string (x1.End2, ())).bind fun t8 => some (({ Marks_Before := t1.fst.Before, Marks_Trail := t1.fst.Trail, Op := x1.Op, Name := t2.fst, P_Op := t3.fst.Op, P_N := t3.fst.N, P_Name := t3.fst.Name, P_Field := t3.fst.Field, P_L := t3.fst.L, E := t4.fst, Down := x1.Down, More := x1.More, Body := t5.fst, Else := t6.fst, End := t7, End2 := t8 : TStmt }, t6.snd.fst, ()))))))))))
theorem e_tree_mapper_stmt (s : Fam) (k : Nat) (x : a_tree_mapper_stmt) : (evFunC EE (sp s) h_tree_mapper_stmt co_tree_mapper_stmt k Tryz.f104 (c_tree_mapper_stmt.enc x)).run = (B_tree_mapper_stmt s k x.1 x.2.1).map rc_tree_mapper_stmt.enc := by
  simp only [B_tree_mapper_stmt, map_ite, map_bindO, map_someO, map_noneO]
  kernel_rfl
-- 9 nodes
def Lr07_ExprNames_3 (s : Fam) (k : Nat) (x0 : TExpr) : Nat → Int → Int → Int → ByteArray → ByteArray → List TExpr → List ByteArray → Option (List ByteArray)
  | 0, _, _, _, _, _, _, _ => none
  | j3 + 1, v0, v1, v2, v3, v4, v5, v6 => (if decide (v0 < (↑v5.length : Int)) = Bool.true then (if 0 ≤ v0 then (if v0 < (↑v5.length : Int) then ((s.f_r07_ExprNames ((v5.getD v0.toNat dd_TExpr).re, ())).bind fun t8 => (if (v6 ++ t8).length * 16 ≤ 140737488355328 then Lr07_ExprNames_3 s k x0 j3 (Go.IntKind.i64.wrap (v0 + 1)) (v1) (v2) (v3) (v4) (v5) (v6 ++ t8) else none)) else none) else none) else some (v6))
def B_r07_ExprNames (s : Fam) (k : Nat) (x0 : TExpr) : Option (List ByteArray) := ((s.f_r07_Parts (x0.Name, ())).bind fun t1 => ((s.f_r07_Parts (x0.Field, ())).bind fun t2 => (if (t1 ++ t2).length * 16 ≤ 140737488355328 then Lr07_ExprNames_3 s k x0 k (0) (x0.Op) (x0.N) (x0.Name) (x0.Field) (x0.L) (t1 ++ t2) else none)))
theorem Lr07_ExprNames_3_eq (s : Fam) (k : Nat) (x0 : TExpr) : ∀ (j3 : Nat) (v0 : Int) (v1 : Int) (v2 : Int) (v3 : ByteArray) (v4 : ByteArray) (v5 : List TExpr) (v6 : List ByteArray), (loopGo EE (sp s) h_r07_ExprNames co_r07_ExprNames [] k Tryz.f105 3 [] j3 ({ tmps := ofL AV.any [(1, AV.c (CV.ptr 1 0)), (3, AV.c (CV.own 3 0)), (4, AV.c (CV.d (DV.lit (Go.Value.int Go.IntKind.i64 v0))))], boxes := ofL Option.none [(1, Option.some [CV.d (DV.lit (Go.Value.int Go.IntKind.i64 v1)), CV.d (DV.lit (Go.Value.int Go.IntKind.i64 v2)), CV.d (DV.lit (Go.Value.string v3)), CV.d (DV.lit (Go.Value.string v4)), CV.d (DV.sl 44 v5)])], objs := ofL Option.none [(3, Option.some { ver := 0, t := 9, xs := v6 : Obj II }), (1099511631876, Option.none)], fxs := ofL Option.none [(1, Option.none)] : AS II })).run = (Lr07_ExprNames_3 s k x0 j3 v0 v1 v2 v3 v4 v5 v6).map rc_r07_ExprNames.enc := by
  intro j3
  induction j3 with
  | zero => intros; rfl
  | succ j3 ih =>
    intros
    simp only [Lr07_ExprNames_3, map_ite, map_bindO, map_someO, map_noneO, ← ih]
    kernel_rfl
theorem e_r07_ExprNames (s : Fam) (k : Nat) (x : a_r07_ExprNames) : (evFunC EE (sp s) h_r07_ExprNames co_r07_ExprNames k Tryz.f105 (c_r07_ExprNames.enc x)).run = (B_r07_ExprNames s k x.1).map rc_r07_ExprNames.enc := by
  simp only [B_r07_ExprNames, map_ite, map_bindO, map_someO, map_noneO, ← Lr07_ExprNames_3_eq]
  kernel_rfl
-- 15 nodes
def B_tree_few_Expr (s : Fam) (k : Nat) (x0 : List TExpr) : Option (Bool) := some (decide ((↑x0.length : Int) ≤ 512))
theorem e_tree_few_Expr (s : Fam) (k : Nat) (x : a_tree_few_Expr) : (evFunC EE (sp s) h_tree_few_Expr co_tree_few_Expr k Tryz.f106 (c_tree_few_Expr.enc x)).run = (B_tree_few_Expr s k x.1).map rc_tree_few_Expr.enc := by
  simp only [B_tree_few_Expr, map_ite, map_bindO, map_someO, map_noneO]
  kernel_rfl
-- 1 nodes
def Ltree_checker_call_4 (s : Fam) (k : Nat) (x0 : Ttree_checker) (x1 : TExpr) : Nat → Int → Int → Int → Int → ByteArray → ByteArray → List TExpr → Option (Int)
  | 0, _, _, _, _, _, _, _ => none
  | j4 + 1, v0, v1, v2, v3, v4, v5, v6 => (if decide (v0 > 0) = Bool.true then (if 0 ≤ Go.IntKind.i64.wrap (v0 - 1) then (if Go.IntKind.i64.wrap (v0 - 1) < (↑v6.length : Int) then (if (Bool.true && (v6.getD (Go.IntKind.i64.wrap (v0 - 1)).toNat dd_TExpr).Op == 25) = Bool.true then (if 0 ≤ Go.IntKind.i64.wrap (v0 - 1) then (if Go.IntKind.i64.wrap (v0 - 1) < (↑v6.length : Int) then (if (v1 != 1) = Bool.false then ((s.f_tree_checker_name ({ dialect := v1 : Ttree_checker }, (v6.getD (Go.IntKind.i64.wrap (v0 - 1)).toNat dd_TExpr).Name, ())).bind fun t12 => (if (Bool.false || !t12 || (v6.getD (Go.IntKind.i64.wrap (v0 - 1)).toNat dd_TExpr).N != 0 || !(v6.getD (Go.IntKind.i64.wrap (v0 - 1)).toNat dd_TExpr).Field.toList == { data := #[] : ByteArray }.toList || (↑(v6.getD (Go.IntKind.i64.wrap (v0 - 1)).toNat dd_TExpr).L.length : Int) != 0) = Bool.true then some (0) else Ltree_checker_call_4 s k x0 x1 j4 (Go.IntKind.i64.wrap (v0 - 1)) (v1) (v2) (v3) (v4) (v5) (v6))) else some (0)) else none) else none) else (if (↑0 : Int) ≤ v0 then (if v0 ≤ (↑v6.length : Int) then ((s.f_tree_checker_deepest ({ dialect := v1 : Ttree_checker }, List.take (v0.toNat - (↑0 : Int).toNat) (List.drop (↑0 : Int).toNat v6), ())).bind fun t25 => some (t25)) else none) else none)) else none) else none) else (if (↑0 : Int) ≤ v0 then (if v0 ≤ (↑v6.length : Int) then ((s.f_tree_checker_deepest ({ dialect := v1 : Ttree_checker }, List.take (v0.toNat - (↑0 : Int).toNat) (List.drop (↑0 : Int).toNat v6), ())).bind fun t39 => some (t39)) else none) else none))
def B_tree_checker_call (s : Fam) (k : Nat) (x0 : Ttree_checker) (x1 : TExpr) : Option (Int) := ((s.f_tree_checker_routine (x0, x1.Name, ())).bind fun t1 => (if (!t1) = Bool.true then some (0) else Ltree_checker_call_4 s k x0 x1 k ((↑x1.L.length : Int)) (x0.dialect) (x1.Op) (x1.N) (x1.Name) (x1.Field) (x1.L)))
theorem Ltree_checker_call_4_eq (s : Fam) (k : Nat) (x0 : Ttree_checker) (x1 : TExpr) : ∀ (j4 : Nat) (v0 : Int) (v1 : Int) (v2 : Int) (v3 : Int) (v4 : ByteArray) (v5 : ByteArray) (v6 : List TExpr), (loopGo EE (sp s) h_tree_checker_call co_tree_checker_call [] k Tryz.f107 4 [] j4 ({ tmps := ofL AV.any [(2, AV.c (CV.ptr 2 0)), (3, AV.c (CV.ptr 3 0)), (5, AV.c (CV.d (DV.lit (Go.Value.int Go.IntKind.i64 v0))))], boxes := ofL Option.none [(2, Option.some [CV.d (DV.lit (Go.Value.int Go.IntKind.i64 v1))]), (3, Option.some [CV.d (DV.lit (Go.Value.int Go.IntKind.i64 v2)), CV.d (DV.lit (Go.Value.int Go.IntKind.i64 v3)), CV.d (DV.lit (Go.Value.string v4)), CV.d (DV.lit (Go.Value.string v5)), CV.d (DV.sl 44 v6)])], objs := ofL Option.none [(1099511640068, Option.none)], fxs := ofL Option.none [(2, Option.none), (3, Option.none)] : AS II })).run = (Ltree_checker_call_4 s k x0 x1 j4 v0 v1 v2 v3 v4 v5 v6).map rc_tree_checker_call.enc := by
  intro j4
  induction j4 with
  | zero => intros; rfl
  | succ j4 ih =>
    intros
    simp only [Ltree_checker_call_4, map_ite, map_bindO, map_someO, map_noneO, ← ih]
    kernel_rfl
theorem e_tree_checker_call (s : Fam) (k : Nat) (x : a_tree_checker_call) : (evFunC EE (sp s) h_tree_checker_call co_tree_checker_call k Tryz.f107 (c_tree_checker_call.enc x)).run = (B_tree_checker_call s k x.1 x.2.1).map rc_tree_checker_call.enc := by
  simp only [B_tree_checker_call, map_ite, map_bindO, map_someO, map_noneO, ← Ltree_checker_call_4_eq]
  kernel_rfl
-- 42 nodes
def Ltree_checker_deepest_3 (s : Fam) (k : Nat) (x0 : Ttree_checker) (x1 : List TExpr) : Nat → Int → List TExpr → Int → Int → Int → Option (Int)
  | 0, _, _, _, _, _ => none
  | j3 + 1, v0, v1, v2, v3, v4 => (if decide (v3 < v2) = Bool.true then (if 0 ≤ v3 then (if v3 < (↑v1.length : Int) then ((s.f_tree_checker_expr ({ dialect := v4 : Ttree_checker }, (v1.getD v3.toNat dd_TExpr).re, ())).bind fun t5 => (if (t5 == 0) = Bool.true then some (0) else Ltree_checker_deepest_3 s k x0 x1 j3 (if t5 > v0 then t5 else v0) (v1) (v2) (Go.IntKind.i64.wrap (v3 + 1)) (v4))) else none) else none) else (if decide (v0 ≥ 48) = Bool.true then some (0) else some (Go.IntKind.i64.wrap (v0 + 1))))
def B_tree_checker_deepest (s : Fam) (k : Nat) (x0 : Ttree_checker) (x1 : List TExpr) : Option (Int) := Ltree_checker_deepest_3 s k x0 x1 k (0) (x1) ((↑x1.length : Int)) (0) (x0.dialect)
theorem Ltree_checker_deepest_3_eq (s : Fam) (k : Nat) (x0 : Ttree_checker) (x1 : List TExpr) : ∀ (j3 : Nat) (v0 : Int) (v1 : List TExpr) (v2 : Int) (v3 : Int) (v4 : Int), (loopGo EE (sp s) h_tree_checker_deepest co_tree_checker_deepest [] k Tryz.f108 3 [] j3 ({ tmps := ofL AV.any [(2, AV.c (CV.ptr 2 0)), (5, AV.c (CV.d (DV.lit (Go.Value.int Go.IntKind.i64 v0)))), (9, AV.c (CV.d (DV.sl 44 v1))), (10, AV.c (CV.d (DV.lit (Go.Value.int Go.IntKind.i64 v2)))), (11, AV.c (CV.d (DV.lit (Go.Value.int Go.IntKind.i64 v3))))], boxes := ofL Option.none [(2, Option.some [CV.d (DV.lit (Go.Value.int Go.IntKind.i64 v4))])], objs := ofL Option.none [(9, Option.none)], fxs := ofL Option.none [(2, Option.none)] : AS II })).run = (Ltree_checker_deepest_3 s k x0 x1 j3 v0 v1 v2 v3 v4).map rc_tree_checker_deepest.enc := by
  intro j3
  induction j3 with
  | zero => intros; rfl
  | succ j3 ih =>
    intros
    simp only [Ltree_checker_deepest_3, map_ite, map_bindO, map_someO, map_noneO, ← ih]
    kernel_rfl
theorem e_tree_checker_deepest (s : Fam) (k : Nat) (x : a_tree_checker_deepest) : (evFunC EE (sp s) h_tree_checker_deepest co_tree_checker_deepest k Tryz.f108 (c_tree_checker_deepest.enc x)).run = (B_tree_checker_deepest s k x.1 x.2.1).map rc_tree_checker_deepest.enc := by
  simp only [B_tree_checker_deepest, map_ite, map_bindO, map_someO, map_noneO, ← Ltree_checker_deepest_3_eq]
  kernel_rfl
-- 13 nodes
def B_tree_marks (s : Fam) (k : Nat) (x0 : TMarks) (x1 : TMarks) : Option (Bool) := ((s.f_slices_Equal_string (x0.Before, x1.Before, ())).bind fun t1 => (if t1 = Bool.true then ((s.f_slices_Equal_string (x0.Trail, x1.Trail, ())).bind fun t3 => some (Bool.true && t3)) else some (Bool.false)))
theorem e_tree_marks (s : Fam) (k : Nat) (x : a_tree_marks) : (evFunC EE (sp s) h_tree_marks co_tree_marks k Tryz.f109 (c_tree_marks.enc x)).run = (B_tree_marks s k x.1 x.2.1).map rc_tree_marks.enc := by
  simp only [B_tree_marks, map_ite, map_bindO, map_someO, map_noneO]
  kernel_rfl
-- 6 nodes
def Lslices_EqualFunc_Field_4 (s : Fam) (k : Nat) (x0 : List TField) (x1 : List TField) (x2 : Unit × Unit) : Nat → List TField → List TField → Int → Int → Option (Bool)
  | 0, _, _, _, _ => none
  | j4 + 1, v0, v1, v2, v3 => (if decide (v3 < v2) = Bool.true then (if 0 ≤ v3 then (if v3 < (↑v1.length : Int) then (if 0 ≤ v3 then (if v3 < (↑v0.length : Int) then ((s.f_tree_sameRec_1 (v1.getD v3.toNat dd_TField, v0.getD v3.toNat dd_TField, ())).bind fun t9 => (if (!t9) = Bool.true then some (Bool.false) else Lslices_EqualFunc_Field_4 s k x0 x1 x2 j4 (v0) (v1) (v2) (Go.IntKind.i64.wrap (v3 + 1)))) else none) else none) else none) else none) else some (Bool.true))
def B_slices_EqualFunc_Field (s : Fam) (k : Nat) (x0 : List TField) (x1 : List TField) (x2 : Unit × Unit) : Option (Bool) := (if ((↑x0.length : Int) != (↑x1.length : Int)) = Bool.true then some (Bool.false) else Lslices_EqualFunc_Field_4 s k x0 x1 x2 k (x1) (x0) ((↑x0.length : Int)) (0))
theorem Lslices_EqualFunc_Field_4_eq (s : Fam) (k : Nat) (x0 : List TField) (x1 : List TField) (x2 : Unit × Unit) : ∀ (j4 : Nat) (v0 : List TField) (v1 : List TField) (v2 : Int) (v3 : Int), (loopGo EE (sp s) h_slices_EqualFunc_Field co_slices_EqualFunc_Field [] k Tryz.f110 4 [] j4 ({ tmps := ofL AV.any [(1, AV.c (CV.d (DV.sl 69 v0))), (2, AV.c (CV.clo 111 [] [])), (15, AV.c (CV.d (DV.sl 69 v1))), (16, AV.c (CV.d (DV.lit (Go.Value.int Go.IntKind.i64 v2)))), (17, AV.c (CV.d (DV.lit (Go.Value.int Go.IntKind.i64 v3))))], boxes := ofL Option.none [], objs := ofL Option.none [(15, Option.none)], fxs := ofL Option.none [] : AS II })).run = (Lslices_EqualFunc_Field_4 s k x0 x1 x2 j4 v0 v1 v2 v3).map rc_slices_EqualFunc_Field.enc := by
  intro j4
  induction j4 with
  | zero => intros; rfl
  | succ j4 ih =>
    intros
    simp only [Lslices_EqualFunc_Field_4, map_ite, map_bindO, map_someO, map_noneO, ← ih]
    kernel_rfl
theorem e_slices_EqualFunc_Field (s : Fam) (k : Nat) (x : a_slices_EqualFunc_Field) : (evFunC EE (sp s) h_slices_EqualFunc_Field co_slices_EqualFunc_Field k Tryz.f110 (c_slices_EqualFunc_Field.enc x)).run = (B_slices_EqualFunc_Field s k x.1 x.2.1 x.2.2.1).map rc_slices_EqualFunc_Field.enc := by
  simp only [B_slices_EqualFunc_Field, map_ite, map_bindO, map_someO, map_noneO, ← Lslices_EqualFunc_Field_4_eq]
  kernel_rfl
-- 17 nodes
def B_tree_sameRec_1 (s : Fam) (k : Nat) (x0 : TField) (x1 : TField) : Option (Bool) := ((s.f_tree_marks (x0.sub_Marks, x1.sub_Marks, ())).bind fun t1 => some (t1 && x0.Name.toList == x1.Name.toList && x0.Kind == x1.Kind))
theorem e_tree_sameRec_1 (s : Fam) (k : Nat) (x : a_tree_sameRec_1) : (evFunC EE (sp s) h_tree_sameRec_1 co_tree_sameRec_1 k Tryz.f111 (c_tree_sameRec_1.enc x)).run = (B_tree_sameRec_1 s k x.1 x.2.1).map rc_tree_sameRec_1.enc := by
  simp only [B_tree_sameRec_1, map_ite, map_bindO, map_someO, map_noneO]
  kernel_rfl
-- 2 nodes
def Lslices_Equal_Param_4 (s : Fam) (k : Nat) (x0 : List TParam) (x1 : List TParam) : Nat → List TParam → List TParam → Int → Int → Option (Bool)
  | 0, _, _, _, _ => none
  | j4 + 1, v0, v1, v2, v3 => (if decide (v3 < v2) = Bool.true then (if 0 ≤ v3 then (if v3 < (↑v0.length : Int) then (if 0 ≤ v3 then (if v3 < (↑v1.length : Int) then (if (!((v0.getD v3.toNat dd_TParam).Name.toList == (v1.getD v3.toNat dd_TParam).Name.toList && ((v0.getD v3.toNat dd_TParam).T_Kind == (v1.getD v3.toNat dd_TParam).T_Kind && ((v0.getD v3.toNat dd_TParam).T_Size == (v1.getD v3.toNat dd_TParam).T_Size && ((v0.getD v3.toNat dd_TParam).T_Name.toList == (v1.getD v3.toNat dd_TParam).T_Name.toList && Bool.true)) && ((v0.getD v3.toNat dd_TParam).Mode == (v1.getD v3.toNat dd_TParam).Mode && Bool.true)))) = Bool.true then some (Bool.false) else Lslices_Equal_Param_4 s k x0 x1 j4 (v0) (v1) (v2) (Go.IntKind.i64.wrap (v3 + 1))) else none) else none) else none) else none) else some (Bool.true))
def B_slices_Equal_Param (s : Fam) (k : Nat) (x0 : List TParam) (x1 : List TParam) : Option (Bool) := (if ((↑x0.length : Int) != (↑x1.length : Int)) = Bool.true then some (Bool.false) else Lslices_Equal_Param_4 s k x0 x1 k (x0) (x1) ((↑x0.length : Int)) (0))
theorem Lslices_Equal_Param_4_eq (s : Fam) (k : Nat) (x0 : List TParam) (x1 : List TParam) : ∀ (j4 : Nat) (v0 : List TParam) (v1 : List TParam) (v2 : Int) (v3 : Int), (loopGo EE (sp s) h_slices_Equal_Param co_slices_Equal_Param [] k Tryz.f112 4 [] j4 ({ tmps := ofL AV.any [(0, AV.c (CV.d (DV.sl 145 v0))), (1, AV.c (CV.d (DV.sl 145 v1))), (12, AV.c (CV.d (DV.lit (Go.Value.int Go.IntKind.i64 v2)))), (13, AV.c (CV.d (DV.lit (Go.Value.int Go.IntKind.i64 v3))))], boxes := ofL Option.none [], objs := ofL Option.none [], fxs := ofL Option.none [] : AS II })).run = (Lslices_Equal_Param_4 s k x0 x1 j4 v0 v1 v2 v3).map rc_slices_Equal_Param.enc := by
  intro j4
  induction j4 with
  | zero => intros; rfl
  | succ j4 ih =>
    intros
    simp only [Lslices_Equal_Param_4, map_ite, map_bindO, map_someO, map_noneO, ← ih]
    kernel_rfl
theorem e_slices_Equal_Param (s : Fam) (k : Nat) (x : a_slices_Equal_Param) : (evFunC EE (sp s) h_slices_Equal_Param co_slices_Equal_Param k Tryz.f112 (c_slices_Equal_Param.enc x)).run = (B_slices_Equal_Param s k x.1 x.2.1).map rc_slices_Equal_Param.enc := by
  simp only [B_slices_Equal_Param, map_ite, map_bindO, map_someO, map_noneO, ← Lslices_Equal_Param_4_eq]
  kernel_rfl
-- 16 nodes
def B_words_letter (s : Fam) (k : Nat) (x0 : Int) (x1 : Bool) : Option (Bool) := some (decide (x0 ≥ 97) && decide (x0 ≤ 122) || !x1 && (x0 == 95 || decide (x0 ≥ 48) && decide (x0 ≤ 57)))
theorem e_words_letter (s : Fam) (k : Nat) (x : a_words_letter) : (evFunC EE (sp s) h_words_letter co_words_letter k Tryz.f113 (c_words_letter.enc x)).run = (B_words_letter s k x.1 x.2.1).map rc_words_letter.enc := by
  simp only [B_words_letter, map_ite, map_bindO, map_someO, map_noneO]
  kernel_rfl
-- 1 nodes
def Lslices_IndexFunc_Field_2 (s : Fam) (k : Nat) (x0 : List TField) (x1 : Unit × Ttree_checker × Unit) : Nat → List TField → Int → Int → Int → Option (Int)
  | 0, _, _, _, _ => none
  | j2 + 1, v0, v1, v2, v3 => (if decide (v3 < v2) = Bool.true then (if 0 ≤ v3 then (if v3 < (↑v0.length : Int) then ((s.f_tree_checker_rec_1 (v0.getD v3.toNat dd_TField, { dialect := v1 : Ttree_checker }, ())).bind fun t5 => (if t5 = Bool.true then some (v3) else Lslices_IndexFunc_Field_2 s k x0 x1 j2 (v0) (v1) (v2) (Go.IntKind.i64.wrap (v3 + 1)))) else none) else none) else some (-1))
def B_slices_IndexFunc_Field (s : Fam) (k : Nat) (x0 : List TField) (x1 : Unit × Ttree_checker × Unit) : Option (Int) := Lslices_IndexFunc_Field_2 s k x0 x1 k (x0) (x1.snd.fst.dialect) ((↑x0.length : Int)) (0)
theorem Lslices_IndexFunc_Field_2_eq (s : Fam) (k : Nat) (x0 : List TField) (x1 : Unit × Ttree_checker × Unit) : ∀ (j2 : Nat) (v0 : List TField) (v1 : Int) (v2 : Int) (v3 : Int), (loopGo EE (sp s) h_slices_IndexFunc_Field co_slices_IndexFunc_Field [] k Tryz.f122 2 [] j2 ({ tmps := ofL AV.any [(0, AV.c (CV.d (DV.sl 69 v0))), (1, AV.c (CV.clo 72 [] [CV.rp [DV.lit (Go.Value.int Go.IntKind.i64 v1)] 0])), (7, AV.c (CV.d (DV.lit (Go.Value.int Go.IntKind.i64 v2)))), (8, AV.c (CV.d (DV.lit (Go.Value.int Go.IntKind.i64 v3))))], boxes := ofL Option.none [], objs := ofL Option.none [], fxs := ofL Option.none [] : AS II })).run = (Lslices_IndexFunc_Field_2 s k x0 x1 j2 v0 v1 v2 v3).map rc_slices_IndexFunc_Field.enc := by
  intro j2
  induction j2 with
  | zero => intros; rfl
  | succ j2 ih =>
    intros
    simp only [Lslices_IndexFunc_Field_2, map_ite, map_bindO, map_someO, map_noneO, ← ih]
    kernel_rfl
theorem e_slices_IndexFunc_Field (s : Fam) (k : Nat) (x : a_slices_IndexFunc_Field) : (evFunC EE (sp s) h_slices_IndexFunc_Field co_slices_IndexFunc_Field k Tryz.f122 (c_slices_IndexFunc_Field.enc x)).run = (B_slices_IndexFunc_Field s k x.1 x.2.1).map rc_slices_IndexFunc_Field.enc := by
  simp only [B_slices_IndexFunc_Field, map_ite, map_bindO, map_someO, map_noneO, ← Lslices_IndexFunc_Field_2_eq]
  kernel_rfl
-- 11 nodes
def Lslices_IndexFunc_Var_2 (s : Fam) (k : Nat) (x0 : List TVar) (x1 : Unit × Ttree_checker × Unit) : Nat → List TVar → Int → Int → Int → Option (Int)
  | 0, _, _, _, _ => none
  | j2 + 1, v0, v1, v2, v3 => (if decide (v3 < v2) = Bool.true then (if 0 ≤ v3 then (if v3 < (↑v0.length : Int) then ((s.f_tree_checker_vars_1 (v0.getD v3.toNat dd_TVar, { dialect := v1 : Ttree_checker }, ())).bind fun t5 => (if t5 = Bool.true then some (v3) else Lslices_IndexFunc_Var_2 s k x0 x1 j2 (v0) (v1) (v2) (Go.IntKind.i64.wrap (v3 + 1)))) else none) else none) else some (-1))
def B_slices_IndexFunc_Var (s : Fam) (k : Nat) (x0 : List TVar) (x1 : Unit × Ttree_checker × Unit) : Option (Int) := Lslices_IndexFunc_Var_2 s k x0 x1 k (x0) (x1.snd.fst.dialect) ((↑x0.length : Int)) (0)
theorem Lslices_IndexFunc_Var_2_eq (s : Fam) (k : Nat) (x0 : List TVar) (x1 : Unit × Ttree_checker × Unit) : ∀ (j2 : Nat) (v0 : List TVar) (v1 : Int) (v2 : Int) (v3 : Int), (loopGo EE (sp s) h_slices_IndexFunc_Var co_slices_IndexFunc_Var [] k Tryz.f123 2 [] j2 ({ tmps := ofL AV.any [(0, AV.c (CV.d (DV.sl 98 v0))), (1, AV.c (CV.clo 76 [] [CV.rp [DV.lit (Go.Value.int Go.IntKind.i64 v1)] 0])), (7, AV.c (CV.d (DV.lit (Go.Value.int Go.IntKind.i64 v2)))), (8, AV.c (CV.d (DV.lit (Go.Value.int Go.IntKind.i64 v3))))], boxes := ofL Option.none [], objs := ofL Option.none [], fxs := ofL Option.none [] : AS II })).run = (Lslices_IndexFunc_Var_2 s k x0 x1 j2 v0 v1 v2 v3).map rc_slices_IndexFunc_Var.enc := by
  intro j2
  induction j2 with
  | zero => intros; rfl
  | succ j2 ih =>
    intros
    simp only [Lslices_IndexFunc_Var_2, map_ite, map_bindO, map_someO, map_noneO, ← ih]
    kernel_rfl
theorem e_slices_IndexFunc_Var (s : Fam) (k : Nat) (x : a_slices_IndexFunc_Var) : (evFunC EE (sp s) h_slices_IndexFunc_Var co_slices_IndexFunc_Var k Tryz.f123 (c_slices_IndexFunc_Var.enc x)).run = (B_slices_IndexFunc_Var s k x.1 x.2.1).map rc_slices_IndexFunc_Var.enc := by
  simp only [B_slices_IndexFunc_Var, map_ite, map_bindO, map_someO, map_noneO, ← Lslices_IndexFunc_Var_2_eq]
  kernel_rfl
-- 11 nodes
def Lslices_IndexFunc_Routine_2 (s : Fam) (k : Nat) (x0 : List TRoutine) (x1 : Unit × Int × Ttree_checker × Unit) : Nat → List TRoutine → Int → Int → Int → Int → Option (Int)
  | 0, _, _, _, _, _ => none
  | j2 + 1, v0, v1, v2, v3, v4 => (if decide (v4 < v3) = Bool.true then (if 0 ≤ v4 then (if v4 < (↑v0.length : Int) then ((s.f_tree_checker_routines_1 ((v0.getD v4.toNat dd_TRoutine).re, v1, { dialect := v2 : Ttree_checker }, ())).bind fun t5 => (if t5 = Bool.true then some (v4) else Lslices_IndexFunc_Routine_2 s k x0 x1 j2 (v0) (v1) (v2) (v3) (Go.IntKind.i64.wrap (v4 + 1)))) else none) else none) else some (-1))
def B_slices_IndexFunc_Routine (s : Fam) (k : Nat) (x0 : List TRoutine) (x1 : Unit × Int × Ttree_checker × Unit) : Option (Int) := Lslices_IndexFunc_Routine_2 s k x0 x1 k (x0) (x1.snd.fst) (x1.snd.snd.fst.dialect) ((↑x0.length : Int)) (0)
theorem Lslices_IndexFunc_Routine_2_eq (s : Fam) (k : Nat) (x0 : List TRoutine) (x1 : Unit × Int × Ttree_checker × Unit) : ∀ (j2 : Nat) (v0 : List TRoutine) (v1 : Int) (v2 : Int) (v3 : Int) (v4 : Int), (loopGo EE (sp s) h_slices_IndexFunc_Routine co_slices_IndexFunc_Routine [] k Tryz.f124 2 [] j2 ({ tmps := ofL AV.any [(0, AV.c (CV.d (DV.sl 103 v0))), (1, AV.c (CV.clo 81 [] [CV.rp [DV.lit (Go.Value.int Go.IntKind.i64 v1)] 0, CV.rp [DV.lit (Go.Value.int Go.IntKind.i64 v2)] 0])), (7, AV.c (CV.d (DV.lit (Go.Value.int Go.IntKind.i64 v3)))), (8, AV.c (CV.d (DV.lit (Go.Value.int Go.IntKind.i64 v4))))], boxes := ofL Option.none [], objs := ofL Option.none [], fxs := ofL Option.none [] : AS II })).run = (Lslices_IndexFunc_Routine_2 s k x0 x1 j2 v0 v1 v2 v3 v4).map rc_slices_IndexFunc_Routine.enc := by
  intro j2
  induction j2 with
  | zero => intros; rfl
  | succ j2 ih =>
    intros
    simp only [Lslices_IndexFunc_Routine_2, map_ite, map_bindO, map_someO, map_noneO, ← ih]
    kernel_rfl
theorem e_slices_IndexFunc_Routine (s : Fam) (k : Nat) (x : a_slices_IndexFunc_Routine) : (evFunC EE (sp s) h_slices_IndexFunc_Routine co_slices_IndexFunc_Routine k Tryz.f124 (c_slices_IndexFunc_Routine.enc x)).run = (B_slices_IndexFunc_Routine s k x.1 x.2.1).map rc_slices_IndexFunc_Routine.enc := by
  simp only [B_slices_IndexFunc_Routine, map_ite, map_bindO, map_someO, map_noneO, ← Lslices_IndexFunc_Routine_2_eq]
  kernel_rfl
-- 11 nodes
def B_tree_few_Param (s : Fam) (k : Nat) (x0 : List TParam) : Option (Bool) := some (decide ((↑x0.length : Int) ≤ 512))
theorem e_tree_few_Param (s : Fam) (k : Nat) (x : a_tree_few_Param) : (evFunC EE (sp s) h_tree_few_Param co_tree_few_Param k Tryz.f126 (c_tree_few_Param.enc x)).run = (B_tree_few_Param s k x.1).map rc_tree_few_Param.enc := by
  simp only [B_tree_few_Param, map_ite, map_bindO, map_someO, map_noneO]
  kernel_rfl
-- 1 nodes
def Lslices_IndexFunc_Stmt_2 (s : Fam) (k : Nat) (x0 : List TStmt) (x1 : Unit × Ttree_checker × Int × Unit) : Nat → List TStmt → Int → Int → Int → Int → Option (Int)
  | 0, _, _, _, _, _ => none
  | j2 + 1, v0, v1, v2, v3, v4 => (if decide (v4 < v3) = Bool.true then (if 0 ≤ v4 then (if v4 < (↑v0.length : Int) then ((s.f_tree_checker_stmts_1 ((v0.getD v4.toNat dd_TStmt).re, { dialect := v1 : Ttree_checker }, v2, ())).bind fun t5 => (if t5 = Bool.true then some (v4) else Lslices_IndexFunc_Stmt_2 s k x0 x1 j2 (v0) (v1) (v2) (v3) (Go.IntKind.i64.wrap (v4 + 1)))) else none) else none) else some (-1))
def B_slices_IndexFunc_Stmt (s : Fam) (k : Nat) (x0 : List TStmt) (x1 : Unit × Ttree_checker × Int × Unit) : Option (Int) := Lslices_IndexFunc_Stmt_2 s k x0 x1 k (x0) (x1.snd.fst.dialect) (x1.snd.snd.fst) ((↑x0.length : Int)) (0)
theorem Lslices_IndexFunc_Stmt_2_eq (s : Fam) (k : Nat) (x0 : List TStmt) (x1 : Unit × Ttree_checker × Int × Unit) : ∀ (j2 : Nat) (v0 : List TStmt) (v1 : Int) (v2 : Int) (v3 : Int) (v4 : Int), (loopGo EE (sp s) h_slices_IndexFunc_Stmt co_slices_IndexFunc_Stmt [] k Tryz.f127 2 [] j2 ({ tmps := ofL AV.any [(0, AV.c (CV.d (DV.sl 107 v0))), (1, AV.c (CV.clo 86 [] [CV.rp [DV.lit (Go.Value.int Go.IntKind.i64 v1)] 0, CV.rp [DV.lit (Go.Value.int Go.IntKind.i64 v2)] 0])), (7, AV.c (CV.d (DV.lit (Go.Value.int Go.IntKind.i64 v3)))), (8, AV.c (CV.d (DV.lit (Go.Value.int Go.IntKind.i64 v4))))], boxes := ofL Option.none [], objs := ofL Option.none [], fxs := ofL Option.none [] : AS II })).run = (Lslices_IndexFunc_Stmt_2 s k x0 x1 j2 v0 v1 v2 v3 v4).map rc_slices_IndexFunc_Stmt.enc := by
  intro j2
  induction j2 with
  | zero => intros; rfl
  | succ j2 ih =>
    intros
    simp only [Lslices_IndexFunc_Stmt_2, map_ite, map_bindO, map_someO, map_noneO, ← ih]
    kernel_rfl
theorem e_slices_IndexFunc_Stmt (s : Fam) (k : Nat) (x : a_slices_IndexFunc_Stmt) : (evFunC EE (sp s) h_slices_IndexFunc_Stmt co_slices_IndexFunc_Stmt k Tryz.f127 (c_slices_IndexFunc_Stmt.enc x)).run = (B_slices_IndexFunc_Stmt s k x.1 x.2.1).map rc_slices_IndexFunc_Stmt.enc := by
  simp only [B_slices_IndexFunc_Stmt, map_ite, map_bindO, map_someO, map_noneO, ← Lslices_IndexFunc_Stmt_2_eq]
  kernel_rfl
-- 11 nodes
def B_tree_shapeOf (s : Fam) (k : Nat) (x0 : Int) : Option (Ttree_shape × Bool × Unit) := (if (x0 == 1) = Bool.true then some (({ place := Bool.true, name_ := Bool.false, body := Bool.false, least := 1, most := 1 : Ttree_shape }, Bool.true, ())) else (if (x0 == 2) = Bool.true then (if (x0 == 2) = Bool.true then some (({ place := Bool.false, name_ := Bool.false, body := Bool.false, least := 1, most := 1 : Ttree_shape }, Bool.true, ())) else (if (x0 == 3) = Bool.true then (if (x0 == 3) = Bool.true then some (({ place := Bool.false, name_ := Bool.false, body := Bool.true, least := 1, most := 1 : Ttree_shape }, Bool.true, ())) else (if (x0 == 6) = Bool.true then some (({ place := Bool.false, name_ := Bool.true, body := Bool.true, least := 2, most := 2 : Ttree_shape }, Bool.true, ())) else (if (x0 == 7) = Bool.true then some (({ place := Bool.true, name_ := Bool.false, body := Bool.false, least := 0, most := 0 : Ttree_shape }, Bool.true, ())) else (if (x0 == 9) = Bool.true then some (({ place := Bool.false, name_ := Bool.false, body := Bool.false, least := 0, most := 1 : Ttree_shape }, Bool.true, ())) else some ((dd_Ttree_shape, Bool.false, ())))))) else (if (x0 == 4) = Bool.true then (if (x0 == 4) = Bool.true then some (({ place := Bool.false, name_ := Bool.false, body := Bool.true, least := 1, most := 1 : Ttree_shape }, Bool.true, ())) else (if (x0 == 6) = Bool.true then some (({ place := Bool.false, name_ := Bool.true, body := Bool.true, least := 2, most := 2 : Ttree_shape }, Bool.true, ())) else (if (x0 == 7) = Bool.true then some (({ place := Bool.true, name_ := Bool.false, body := Bool.false, least := 0, most := 0 : Ttree_shape }, Bool.true, ())) else (if (x0 == 9) = Bool.true then some (({ place := Bool.false, name_ := Bool.false, body := Bool.false, least := 0, most := 1 : Ttree_shape }, Bool.true, ())) else some ((dd_Ttree_shape, Bool.false, ())))))) else (if (x0 == 5) = Bool.true then some (({ place := Bool.false, name_ := Bool.false, body := Bool.true, least := 1, most := 1 : Ttree_shape }, Bool.true, ())) else (if (x0 == 6) = Bool.true then some (({ place := Bool.false, name_ := Bool.true, body := Bool.true, least := 2, most := 2 : Ttree_shape }, Bool.true, ())) else (if (x0 == 7) = Bool.true then some (({ place := Bool.true, name_ := Bool.false, body := Bool.false, least := 0, most := 0 : Ttree_shape }, Bool.true, ())) else (if (x0 == 9) = Bool.true then some (({ place := Bool.false, name_ := Bool.false, body := Bool.false, least := 0, most := 1 : Ttree_shape }, Bool.true, ())) else some ((dd_Ttree_shape, Bool.false, ()))))))))) else (if (x0 == 8) = Bool.true then some (({ place := Bool.false, name_ := Bool.false, body := Bool.false, least := 1, most := 1 : Ttree_shape }, Bool.true, ())) else (if (x0 == 3) = Bool.true then (if (x0 == 3) = Bool.true then some (({ place := Bool.false, name_ := Bool.false, body := Bool.true, least := 1, most := 1 : Ttree_shape }, Bool.true, ())) else (if (x0 == 6) = Bool.true then some (({ place := Bool.false, name_ := Bool.true, body := Bool.true, least := 2, most := 2 : Ttree_shape }, Bool.true, ())) else (if (x0 == 7) = Bool.true then some (({ place := Bool.true, name_ := Bool.false, body := Bool.false, least := 0, most := 0 : Ttree_shape }, Bool.true, ())) else (if (x0 == 9) = Bool.true then some (({ place := Bool.false, name_ := Bool.false, body := Bool.false, least := 0, most := 1 : Ttree_shape }, Bool.true, ())) else some ((dd_Ttree_shape, Bool.false, ())))))) else (if (x0 == 4) = Bool.true then (if (x0 == 4) = Bool.true then some (({ place := Bool.false, name_ := Bool.false, body := Bool.true, least := 1, most := 1 : Ttree_shape }, Bool.true, ())) else (if (x0 == 6) = Bool.true then some (({ place := Bool.false, name_ := Bool.true, body := Bool.true, least := 2, most := 2 : Ttree_shape }, Bool.true, ())) else (if (x0 == 7) = Bool.true then some (({ place := Bool.true, name_ := Bool.false, body := Bool.false, least := 0, most := 0 : Ttree_shape }, Bool.true, ())) else (if (x0 == 9) = Bool.true then some (({ place := Bool.false, name_ := Bool.false, body := Bool.false, least := 0, most := 1 : Ttree_shape }, Bool.true, ())) else some ((dd_Ttree_shape, Bool.false, ())))))) else (if (x0 == 5) = Bool.true then some (({ place := Bool.false, name_ := Bool.false, body := Bool.true, least := 1, most := 1 : Ttree_shape }, Bool.true, ())) else (if (x0 == 6) = Bool.true then some (({ place := Bool.false, name_ := Bool.true, body := Bool.true, least := 2, most := 2 : Ttree_shape }, Bool.true, ())) else (if (x0 == 7) = Bool.true then some (({ place := Bool.true, name_ := Bool.false, body := Bool.false, least := 0, most := 0 : Ttree_shape }, Bool.true, ())) else (if (x0 == 9) = Bool.true then some (({ place := Bool.false, name_ := Bool.false, body := Bool.false, least := 0, most := 1 : Ttree_shape }, Bool.true, ())) else some ((dd_Ttree_shape, Bool.false, ())))))))))))
theorem e_tree_shapeOf (s : Fam) (k : Nat) (x : a_tree_shapeOf) : (evFunC EE (sp s) h_tree_shapeOf co_tree_shapeOf k Tryz.f128 (c_tree_shapeOf.enc x)).run = (B_tree_shapeOf s k x.1).map rc_tree_shapeOf.enc := by
  simp only [B_tree_shapeOf, map_ite, map_bindO, map_someO, map_noneO]
  kernel_rfl
-- 65 nodes
def B_tree_checker_place (s : Fam) (k : Nat) (x0 : Ttree_checker) (x1 : TExpr) : Option (Bool) := (if (x1.Op == 4 || x1.Op == 5 || x1.Op == 6) = Bool.true then ((s.f_tree_checker_expr (x0, x1.re, ())).bind fun t2 => some (Bool.true && decide (t2 > 0))) else some (Bool.false))
theorem e_tree_checker_place (s : Fam) (k : Nat) (x : a_tree_checker_place) : (evFunC EE (sp s) h_tree_checker_place co_tree_checker_place k Tryz.f129 (c_tree_checker_place.enc x)).run = (B_tree_checker_place s k x.1 x.2.1).map rc_tree_checker_place.enc := by
  simp only [B_tree_checker_place, map_ite, map_bindO, map_someO, map_noneO]
  kernel_rfl
-- 6 nodes
def B_tree_none (s : Fam) (k : Nat) (x0 : TExpr) : Option (Bool) := ((s.f_tree_SameExpr (x0.re, { Op := 0, N := 0, Name := { data := #[] : ByteArray }, Field := { data := #[] : ByteArray }, L := [] : TExpr }, ())).bind fun t1 => some (t1))
theorem e_tree_none (s : Fam) (k : Nat) (x : a_tree_none) : (evFunC EE (sp s) h_tree_none co_tree_none k Tryz.f130 (c_tree_none.enc x)).run = (B_tree_none s k x.1).map rc_tree_none.enc := by
  simp only [B_tree_none, map_ite, map_bindO, map_someO, map_noneO]
  kernel_rfl
-- 2 nodes
def B_r04_Letter (s : Fam) (k : Nat) (x0 : Int) (x1 : Bool) : Option (Bool) := (if (decide (x0 ≥ 97) && decide (x0 ≤ 122)) = Bool.true then some (Bool.true) else some (!x1 && (x0 == 95 || decide (x0 ≥ 48) && decide (x0 ≤ 57))))
theorem e_r04_Letter (s : Fam) (k : Nat) (x : a_r04_Letter) : (evFunC EE (sp s) h_r04_Letter co_r04_Letter k Tryz.f131 (c_r04_Letter.enc x)).run = (B_r04_Letter s k x.1 x.2.1).map rc_r04_Letter.enc := by
  simp only [B_r04_Letter, map_ite, map_bindO, map_someO, map_noneO]
  kernel_rfl
-- 3 nodes
def B_r04_All (s : Fam) (k : Nat) (x0 : Int) : Option (List ByteArray) := (if (x0 == 0) = Bool.true then some ([{ data := #[97, 110, 100] : ByteArray }, { data := #[97, 114, 114, 97, 121] : ByteArray }, { data := #[98, 101, 103, 105, 110] : ByteArray }, { data := #[98, 111, 111, 108, 101, 97, 110] : ByteArray }, { data := #[99, 104, 97, 114] : ByteArray }, { data := #[100, 105, 118] : ByteArray }, { data := #[100, 111] : ByteArray }, { data := #[100, 111, 119, 110, 116, 111] : ByteArray }, { data := #[101, 108, 115, 101] : ByteArray }, { data := #[101, 110, 100] : ByteArray }, { data := #[102, 97, 108, 115, 101] : ByteArray }, { data := #[102, 111, 114] : ByteArray }, { data := #[102, 111, 114, 119, 97, 114, 100] : ByteArray }, { data := #[102, 117, 110, 99, 116, 105, 111, 110] : ByteArray }, { data := #[105, 102] : ByteArray }, { data := #[105, 110, 116, 101, 103, 101, 114] : ByteArray }, { data := #[109, 111, 100] : ByteArray }, { data := #[110, 111, 116] : ByteArray }, { data := #[111, 102] : ByteArray }, { data := #[111, 114] : ByteArray }, { data := #[112, 114, 111, 99, 101, 100, 117, 114, 101] : ByteArray }, { data := #[112, 114, 111, 103, 114, 97, 109] : ByteArray }, { data := #[114, 101, 97, 100] : ByteArray }, { data := #[114, 101, 99, 111, 114, 100] : ByteArray }, { data := #[114, 101, 112, 101, 97, 116] : ByteArray }, { data := #[114, 101, 116, 117, 114, 110] : ByteArray }, { data := #[116, 104, 101, 110] : ByteArray }, { data := #[116, 111] : ByteArray }, { data := #[116, 114, 117, 101] : ByteArray }, { data := #[116, 121, 112, 101] : ByteArray }, { data := #[117, 110, 116, 105, 108] : ByteArray }, { data := #[118, 97, 114] : ByteArray }, { data := #[119, 104, 105, 108, 101] : ByteArray }, { data := #[119, 114, 105, 116, 101] : ByteArray }]) else (if (x0 == 1) = Bool.true then some ([{ data := #[98, 111, 111, 108] : ByteArray }, { data := #[99, 104, 97, 114] : ByteArray }, { data := #[100, 111] : ByteArray }, { data := #[100, 111, 119, 110, 116, 111] : ByteArray }, { data := #[101, 108, 115, 101] : ByteArray }, { data := #[102, 97, 108, 115, 101] : ByteArray }, { data := #[102, 111, 114] : ByteArray }, { data := #[103, 101, 116] : ByteArray }, { data := #[105, 102] : ByteArray }, { data := #[105, 110, 116] : ByteArray }, { data := #[109, 97, 105, 110] : ByteArray }, { data := #[112, 114, 111, 103, 114, 97, 109] : ByteArray }, { data := #[112, 117, 116] : ByteArray }, { data := #[114, 101, 116, 117, 114, 110] : ByteArray }, { data := #[115, 116, 114, 117, 99, 116] : ByteArray }, { data := #[116, 111] : ByteArray }, { data := #[116, 114, 117, 101] : ByteArray }, { data := #[117, 110, 116, 105, 108] : ByteArray }, { data := #[117, 112] : ByteArray }, { data := #[118, 111, 105, 100] : ByteArray }, { data := #[119, 104, 105, 108, 101] : ByteArray }]) else some ([])))
theorem e_r04_All (s : Fam) (k : Nat) (x : a_r04_All) : (evFunC EE (sp s) h_r04_All co_r04_All k Tryz.f132 (c_r04_All.enc x)).run = (B_r04_All s k x.1).map rc_r04_All.enc := by
  simp only [B_r04_All, map_ite, map_bindO, map_someO, map_noneO]
  kernel_rfl
-- 5 nodes
def B_r02_right (s : Fam) (k : Nat) (x0 : Int) : Option (Bool) := some (x0 == 9 || x0 == 10 || decide (x0 ≥ 32) && decide (x0 ≤ 126))
theorem e_r02_right (s : Fam) (k : Nat) (x : a_r02_right) : (evFunC EE (sp s) h_r02_right co_r02_right k Tryz.f133 (c_r02_right.enc x)).run = (B_r02_right s k x.1).map rc_r02_right.enc := by
  simp only [B_r02_right, map_ite, map_bindO, map_someO, map_noneO]
  kernel_rfl
-- 1 nodes
def B_r07_place (s : Fam) (k : Nat) (x0 : Int) (x1 : TExpr) : Option (Bool) := (if (decide (x1.Op ≥ 4) && decide (x1.Op ≤ 6)) = Bool.true then ((s.f_r07_Expr (x0, x1.re, ())).bind fun t2 => some (Bool.true && t2)) else some (Bool.false))
theorem e_r07_place (s : Fam) (k : Nat) (x : a_r07_place) : (evFunC EE (sp s) h_r07_place co_r07_place k Tryz.f134 (c_r07_place.enc x)).run = (B_r07_place s k x.1 x.2.1).map rc_r07_place.enc := by
  simp only [B_r07_place, map_ite, map_bindO, map_someO, map_noneO]
  kernel_rfl
-- 5 nodes
def B_r07_none (s : Fam) (k : Nat) (x0 : TExpr) : Option (Bool) := some (x0.Op == 0 && x0.N == 0 && x0.Name.toList == { data := #[] : ByteArray }.toList && x0.Field.toList == { data := #[] : ByteArray }.toList && (↑x0.L.length : Int) == 0)
theorem e_r07_none (s : Fam) (k : Nat) (x : a_r07_none) : (evFunC EE (sp s) h_r07_none co_r07_none k Tryz.f135 (c_r07_none.enc x)).run = (B_r07_none s k x.1).map rc_r07_none.enc := by
  simp only [B_r07_none, map_ite, map_bindO, map_someO, map_noneO]
  kernel_rfl
-- 1 nodes
def B_tree_mapper_marks (s : Fam) (k : Nat) (x0 : Thing × Unit) (x1 : TMarks) : Option (TMarks × Thing × Unit) := ((s.f_slices_Clone_string (x1.Before, ())).bind fun t1 => ((s.f_slices_Clone_string (x1.Trail, ())).bind fun t2 => some (({ Before := t1, Trail := t2 : TMarks }, x0.fst, ()))))
theorem e_tree_mapper_marks (s : Fam) (k : Nat) (x : a_tree_mapper_marks) : (evFunC EE (sp s) h_tree_mapper_marks co_tree_mapper_marks k Tryz.f138 (c_tree_mapper_marks.enc x)).run = (B_tree_mapper_marks s k x.1 x.2.1).map rc_tree_mapper_marks.enc := by
  simp only [B_tree_mapper_marks, map_ite, map_bindO, map_someO, map_noneO]
  kernel_rfl
-- 3 nodes
def Ltree_each_Field_3 (s : Fam) (k : Nat) (x0 : List TField) (x1 : Unit × (Thing × Unit) × Unit) : Nat → List TField → Int → Int → List TField → Thing → Option (List TField × Thing × Unit)
  | 0, _, _, _, _, _ => none
  | j3 + 1, v0, v1, v2, v3, v4 => (if decide (v2 < v1) = Bool.true then (if 0 ≤ v2 then (if v2 < (↑v0.length : Int) then ((s.f_tree_mapper_rec_1 (v0.getD v2.toNat dd_TField, (v4, ()), ())).bind fun t5 => (if (v3 ++ [t5.fst]).length * 72 ≤ 140737488355328 then Ltree_each_Field_3 s k x0 x1 j3 (v0) (v1) (Go.IntKind.i64.wrap (v2 + 1)) (v3 ++ [t5.fst]) (t5.snd.fst) else none)) else none) else none) else some ((v3, v4, ())))
def B_tree_each_Field (s : Fam) (k : Nat) (x0 : List TField) (x1 : Unit × (Thing × Unit) × Unit) : Option (List TField × Thing × Unit) := Ltree_each_Field_3 s k x0 x1 k (x0) ((↑x0.length : Int)) (0) ([]) (x1.snd.fst.fst)
theorem Ltree_each_Field_3_eq (s : Fam) (k : Nat) (x0 : List TField) (x1 : Unit × (Thing × Unit) × Unit) : ∀ (j3 : Nat) (v0 : List TField) (v1 : Int) (v2 : Int) (v3 : List TField) (v4 : Thing), (loopGo EE (sp s) h_tree_each_Field co_tree_each_Field (rootAs (unAs 1000004 (c_tree_each_Field.enc (x0, x1, ()))).1) k Tryz.f139 3 [] j3 ({ tmps := ofL AV.any [(1, AV.c (CV.clo 140 [] [CV.rq [CV.fx 1000004] 0])), (5, AV.c (CV.own 5 0)), (8, AV.c (CV.d (DV.sl 69 v0))), (9, AV.c (CV.d (DV.lit (Go.Value.int Go.IntKind.i64 v1)))), (10, AV.c (CV.d (DV.lit (Go.Value.int Go.IntKind.i64 v2))))], boxes := ofL Option.none [(1000004, Option.none)], objs := ofL Option.none [(5, Option.some { ver := 0, t := 69, xs := v3 : Obj II }), (8, Option.none)], fxs := ofL Option.none [(1000004, Option.some v4)] : AS II })).run = (Ltree_each_Field_3 s k x0 x1 j3 v0 v1 v2 v3 v4).map rc_tree_each_Field.enc := by
  intro j3
  induction j3 with
  | zero => intros; rfl
  | succ j3 ih =>
    intros
    simp only [Ltree_each_Field_3, map_ite, map_bindO, map_someO, map_noneO, ← ih]
    kernel_rfl
theorem e_tree_each_Field (s : Fam) (k : Nat) (x : a_tree_each_Field) : (evFunC EE (sp s) h_tree_each_Field co_tree_each_Field k Tryz.f139 (c_tree_each_Field.enc x)).run = (B_tree_each_Field s k x.1 x.2.1).map rc_tree_each_Field.enc := by
  simp only [B_tree_each_Field, map_ite, map_bindO, map_someO, map_noneO, ← Ltree_each_Field_3_eq]
  kernel_rfl
-- 11 nodes
def B_tree_mapper_rec_1 (s : Fam) (k : Nat) (x0 : TField) (x1 : Thing × Unit) : Option (TField × Thing × Unit) := ((s.f_tree_mapper_marks ((x1.fst, ()), x0.sub_Marks, ())).bind fun t1 => ((s.f_tree_mapper_parts ((t1.snd.fst, ()), x0.Name, ())).bind fun t2 => some (({ Marks_Before := t1.fst.Before, Marks_Trail := t1.fst.Trail, Name := t2.fst, Kind := x0.Kind : TField }, t2.snd.fst, ()))))
theorem e_tree_mapper_rec_1 (s : Fam) (k : Nat) (x : a_tree_mapper_rec_1) : (evFunC EE (sp s) h_tree_mapper_rec_1 co_tree_mapper_rec_1 k Tryz.f140 (c_tree_mapper_rec_1.enc x)).run = (B_tree_mapper_rec_1 s k x.1 x.2.1).map rc_tree_mapper_rec_1.enc := by
  simp only [B_tree_mapper_rec_1, map_ite, map_bindO, map_someO, map_noneO]
  kernel_rfl
-- 3 nodes
def B_tree_mapper_typ (s : Fam) (k : Nat) (x0 : Thing × Unit) (x1 : TType) : Option (TType × Thing × Unit) := ((s.f_tree_mapper_parts ((x0.fst, ()), x1.Name, ())).bind fun t1 => some (({ Kind := x1.Kind, Size := x1.Size, Name := t1.fst : TType }, t1.snd.fst, ())))
theorem e_tree_mapper_typ (s : Fam) (k : Nat) (x : a_tree_mapper_typ) : (evFunC EE (sp s) h_tree_mapper_typ co_tree_mapper_typ k Tryz.f141 (c_tree_mapper_typ.enc x)).run = (B_tree_mapper_typ s k x.1 x.2.1).map rc_tree_mapper_typ.enc := by
  simp only [B_tree_mapper_typ, map_ite, map_bindO, map_someO, map_noneO]
  kernel_rfl
-- 2 nodes
def Ltree_each_Param_3 (s : Fam) (k : Nat) (x0 : List TParam) (x1 : Unit × (Thing × Unit) × Unit) : Nat → List TParam → Int → Int → List TParam → Thing → Option (List TParam × Thing × Unit)
  | 0, _, _, _, _, _ => none
  | j3 + 1, v0, v1, v2, v3, v4 => (if decide (v2 < v1) = Bool.true then (if 0 ≤ v2 then (if v2 < (↑v0.length : Int) then ((s.f_tree_mapper_routine_1 (v0.getD v2.toNat dd_TParam, (v4, ()), ())).bind fun t5 => (if (v3 ++ [t5.fst]).length * 56 ≤ 140737488355328 then Ltree_each_Param_3 s k x0 x1 j3 (v0) (v1) (Go.IntKind.i64.wrap (v2 + 1)) (v3 ++ [t5.fst]) (t5.snd.fst) else none)) else none) else none) else some ((v3, v4, ())))
def B_tree_each_Param (s : Fam) (k : Nat) (x0 : List TParam) (x1 : Unit × (Thing × Unit) × Unit) : Option (List TParam × Thing × Unit) := Ltree_each_Param_3 s k x0 x1 k (x0) ((↑x0.length : Int)) (0) ([]) (x1.snd.fst.fst)
theorem Ltree_each_Param_3_eq (s : Fam) (k : Nat) (x0 : List TParam) (x1 : Unit × (Thing × Unit) × Unit) : ∀ (j3 : Nat) (v0 : List TParam) (v1 : Int) (v2 : Int) (v3 : List TParam) (v4 : Thing), (loopGo EE (sp s) h_tree_each_Param co_tree_each_Param (rootAs (unAs 1000004 (c_tree_each_Param.enc (x0, x1, ()))).1) k Tryz.f142 3 [] j3 ({ tmps := ofL AV.any [(1, AV.c (CV.clo 143 [] [CV.rq [CV.fx 1000004] 0])), (5, AV.c (CV.own 5 0)), (8, AV.c (CV.d (DV.sl 145 v0))), (9, AV.c (CV.d (DV.lit (Go.Value.int Go.IntKind.i64 v1)))), (10, AV.c (CV.d (DV.lit (Go.Value.int Go.IntKind.i64 v2))))], boxes := ofL Option.none [(1000004, Option.none)], objs := ofL Option.none [(5, Option.some { ver := 0, t := 145, xs := v3 : Obj II }), (8, Option.none)], fxs := ofL Option.none [(1000004, Option.some v4)] : AS II })).run = (Ltree_each_Param_3 s k x0 x1 j3 v0 v1 v2 v3 v4).map rc_tree_each_Param.enc := by
  intro j3
  induction j3 with
  | zero => intros; rfl
  | succ j3 ih =>
    intros
    simp only [Ltree_each_Param_3, map_ite, map_bindO, map_someO, map_noneO, ← ih]
    kernel_rfl
theorem e_tree_each_Param (s : Fam) (k : Nat) (x : a_tree_each_Param) : (evFunC EE (sp s) h_tree_each_Param co_tree_each_Param k Tryz.f142 (c_tree_each_Param.enc x)).run = (B_tree_each_Param s k x.1 x.2.1).map rc_tree_each_Param.enc := by
  simp only [B_tree_each_Param, map_ite, map_bindO, map_someO, map_noneO, ← Ltree_each_Param_3_eq]
  kernel_rfl
-- 11 nodes
def B_tree_mapper_routine_1 (s : Fam) (k : Nat) (x0 : TParam) (x1 : Thing × Unit) : Option (TParam × Thing × Unit) := ((s.f_tree_mapper_parts ((x1.fst, ()), x0.Name, ())).bind fun t1 => ((s.f_tree_mapper_typ ((t1.snd.fst, ()), x0.sub_T, ())).bind fun t2 => some (({ Name := t1.fst, T_Kind := t2.fst.Kind, T_Size := t2.fst.Size, T_Name := t2.fst.Name, Mode := x0.Mode : TParam }, t2.snd.fst, ()))))
theorem e_tree_mapper_routine_1 (s : Fam) (k : Nat) (x : a_tree_mapper_routine_1) : (evFunC EE (sp s) h_tree_mapper_routine_1 co_tree_mapper_routine_1 k Tryz.f143 (c_tree_mapper_routine_1.enc x)).run = (B_tree_mapper_routine_1 s k x.1 x.2.1).map rc_tree_mapper_routine_1.enc := by
  simp only [B_tree_mapper_routine_1, map_ite, map_bindO, map_someO, map_noneO]
  kernel_rfl
-- 3 nodes
def B_tree_mapper_expr (s : Fam) (k : Nat) (x0 : Thing × Unit) (x1 : TExpr) : Option (TExpr × Thing × Unit) := ((s.f_tree_mapper_parts ((x0.fst, ()), x1.Name, ())).bind fun t1 => ((s.f_tree_mapper_parts ((t1.snd.fst, ()), x1.Field, ())).bind fun t2 => ((s.f_tree_each_Expr (x1.L, (t2.snd.fst, ()), ())).bind fun t3 => some (({ Op := x1.Op, N := x1.N, Name := t1.fst, Field := t2.fst, L := t3.fst : TExpr }, t3.snd.fst, ())))))
theorem e_tree_mapper_expr (s : Fam) (k : Nat) (x : a_tree_mapper_expr) : (evFunC EE (sp s) h_tree_mapper_expr co_tree_mapper_expr k Tryz.f144 (c_tree_mapper_expr.enc x)).run = (B_tree_mapper_expr s k x.1 x.2.1).map rc_tree_mapper_expr.enc := by
  simp only [B_tree_mapper_expr, map_ite, map_bindO, map_someO, map_noneO]
  kernel_rfl
-- 4 nodes
def Ltree_each_Expr_3 (s : Fam) (k : Nat) (x0 : List TExpr) (x1 : Thing × Unit) : Nat → List TExpr → Int → Int → List TExpr → Thing → Option (List TExpr × Thing × Unit)
  | 0, _, _, _, _, _ => none
  | j3 + 1, v0, v1, v2, v3, v4 => (if decide (v2 < v1) = Bool.true then (if 0 ≤ v2 then (if v2 < (↑v0.length : Int) then ((s.f_tree_mapper_expr ((v4, ()), (v0.getD v2.toNat dd_TExpr).re, ())).bind fun t5 => (if (v3 ++ [t5.fst.re]).length * 72 ≤ 140737488355328 then Ltree_each_Expr_3 s k x0 x1 j3 (v0) (v1) (Go.IntKind.i64.wrap (v2 + 1)) (v3 ++ [t5.fst.re]) (t5.snd.fst) else none)) else none) else none) else some ((v3, v4, ())))
def B_tree_each_Expr (s : Fam) (k : Nat) (x0 : List TExpr) (x1 : Thing × Unit) : Option (List TExpr × Thing × Unit) := Ltree_each_Expr_3 s k x0 x1 k (x0) ((↑x0.length : Int)) (0) ([]) (x1.fst)
theorem Ltree_each_Expr_3_eq (s : Fam) (k : Nat) (x0 : List TExpr) (x1 : Thing × Unit) : ∀ (j3 : Nat) (v0 : List TExpr) (v1 : Int) (v2 : Int) (v3 : List TExpr) (v4 : Thing), (loopGo EE (sp s) h_tree_each_Expr co_tree_each_Expr (rootAs (unAs 1000004 (c_tree_each_Expr.enc (x0, x1, ()))).1) k Tryz.f145 3 [] j3 ({ tmps := ofL AV.any [(1, AV.c (CV.mth 144 [CV.fx 1000004])), (5, AV.c (CV.own 5 0)), (8, AV.c (CV.d (DV.sl 44 v0))), (9, AV.c (CV.d (DV.lit (Go.Value.int Go.IntKind.i64 v1)))), (10, AV.c (CV.d (DV.lit (Go.Value.int Go.IntKind.i64 v2))))], boxes := ofL Option.none [(1000004, Option.none)], objs := ofL Option.none [(5, Option.some { ver := 0, t := 44, xs := v3 : Obj II }), (8, Option.none)], fxs := ofL Option.none [(1000004, Option.some v4)] : AS II })).run = (Ltree_each_Expr_3 s k x0 x1 j3 v0 v1 v2 v3 v4).map rc_tree_each_Expr.enc := by
  intro j3
  induction j3 with
  | zero => intros; rfl
  | succ j3 ih =>
    intros
    simp only [Ltree_each_Expr_3, map_ite, map_bindO, map_someO, map_noneO, ← ih]
    kernel_rfl
theorem e_tree_each_Expr (s : Fam) (k : Nat) (x : a_tree_each_Expr) : (evFunC EE (sp s) h_tree_each_Expr co_tree_each_Expr k Tryz.f145 (c_tree_each_Expr.enc x)).run = (B_tree_each_Expr s k x.1 x.2.1).map rc_tree_each_Expr.enc := by
  simp only [B_tree_each_Expr, map_ite, map_bindO, map_someO, map_noneO, ← Ltree_each_Expr_3_eq]
  kernel_rfl
-- 11 nodes
end Go.Ev
end
section
open Go
namespace Go.Ev
def sep36 : ByteArray := ⟨#[36]⟩
def cutD (s : ByteArray) : List ByteArray := Lib.splitB sep36 0 (Lib.countB s sep36) s
def joinD (l : List ByteArray) : ByteArray := ⟨(Lib.join (l.map (·.data.toList)) sep36.data.toList).toArray⟩
def stepT (x : a_by) : Option b_by := match x.1 with
  | .ren l => some ((match l.find? fun p => p.Old.toList == x.2.1.toList with | some p => p.New | none => x.2.1), .ren l, ())
  | .names l => if x.2.1.size ≤ maxLen then (if (l.any fun z => z.toList == x.2.1.toList) = true then some (x.2.1, .names l, ()) else if (l.length + 1) * 16 ≤ 140737488355328 then some (x.2.1, .names (l ++ [x.2.1]), ()) else none) else none
def partsT (s : Fam) (th : Thing) : List ByteArray → Option (List ByteArray × Thing)
  | [] => some ([], th)
  | p :: r => if p.size = 0 then (partsT s th r).map fun q => (p :: q.1, q.2) else (s.f_by (th, p, ())).bind fun t => (partsT s t.2.1 r).map fun q => (t.1 :: q.1, q.2)
def B_tree_mapper_parts (s : Fam) (_ : Nat) (m : Thing × Unit) (x : ByteArray) : Option b_tree_mapper_parts :=
  if x.size = 0 then some (ByteArray.empty, m.1, ()) else if 4294967280 < x.size then none else if 1000000000000 < (cutD x).length then none else
    (partsT s m.1 (cutD x)).bind fun q => if (Lib.join (q.1.map (·.data.toList)) sep36.data.toList).length ≤ 140737488355328 then some (joinD q.1, q.2, ()) else none
def B_tree_Names (s : Fam) (_ : Nat) (p : TProgram) : Option (List ByteArray) :=
  (s.f_tree_mapper_program ((.names [], ()), p, ())).bind fun r => match r.2.1 with
    | .names l => some l
    | _ => none
def B_tree_Rename (s : Fam) (_ : Nat) (p : TProgram) (l : List TPair) : Option TProgram := (s.f_tree_mapper_program ((.ren l, ()), p, ())).map (·.1)
def cutL : List UInt8 → List (List UInt8)
  | [] => [[]]
  | c :: r => if c = 36 then [] :: cutL r else match cutL r with
    | [] => [[c]]
    | p :: q => (c :: p) :: q
def cutP (s : ByteArray) : List ByteArray := (cutL s.data.toList).map fun l => ⟨l.toArray⟩
def allO {α : Type} (f : α → Option Bool) : List α → Option Bool
  | [] => some true
  | p :: r => (f p).bind fun t => if t = true then allO f r else some false
def B_tree_checker_routine (s : Fam) (_ : Nat) (c : Ttree_checker) (x : ByteArray) : Option Bool :=
  if c.dialect = 1 then (if x.size ≤ maxLen then allO (fun p => s.f_tree_checker_name ({ dialect := 1 }, p, ())) (cutP x) else none) else s.f_tree_checker_name (c, x, ())
end Go.Ev
end
section
open Go Go.Proofs
namespace Go.Ev
set_option linter.unusedVariables false
set_option maxHeartbeats 4000000
set_option maxRecDepth 100000
def mkFam (h : Fam) (s : Fam) (k : Nat) : Fam where
  f_w07_TreeChecks x := B_w07_TreeChecks s k x.1 x.2.1
  f_w07_TreeNames x := B_w07_TreeNames s k x.1
  f_w07_TreeBack x := B_w07_TreeBack s k x.1
  f_w07_TreeExprs x := B_w07_TreeExprs s k x.1 x.2.1
  f_w07_TreeSame x := B_w07_TreeSame s k x.1 x.2.1 x.2.2.1 x.2.2.2.1
  f_w07_TreeAlike x := B_w07_TreeAlike s k x.1 x.2.1 x.2.2.1
  f_tree_Check x := B_tree_Check s k x.1 x.2.1
  f_r07_Check x := B_r07_Check s k x.1 x.2.1
  f_w07_awake x := B_w07_awake s k
  f_r01_SameTexts x := B_r01_SameTexts s k x.1 x.2.1
  f_tree_Names x := B_tree_Names s k x.1
  f_r07_Names x := B_r07_Names s k x.1
  f_r01_Digits x := B_r01_Digits s k x.1
  f_tree_Rename x := B_tree_Rename s k x.1 x.2.1
  f_r07_Same x := B_r07_Same s k x.1 x.2.1
  f_tree_CheckExpr x := B_tree_CheckExpr s k x.1 x.2.1
  f_r07_Expr x := B_r07_Expr s k x.1 x.2.1
  f_tree_Same x := B_tree_Same s k x.1 x.2.1
  f_tree_SameExpr x := B_tree_SameExpr s k x.1 x.2.1
  f_r07_SameExpr x := B_r07_SameExpr s k x.1 x.2.1
  f_tree_checker_name x := B_tree_checker_name s k x.1 x.2.1
  f_tree_notes x := B_tree_notes s k x.1
  f_tree_few_Rec x := B_tree_few_Rec s k x.1
  f_slices_ContainsFunc_Rec x := B_slices_ContainsFunc_Rec s k x.1 x.2.1
  f_tree_Check_1 x := B_tree_Check_1 s k x.1 x.2.1
  f_tree_checker_rec x := B_tree_checker_rec s k x.1 x.2.1
  f_tree_checker_vars x := B_tree_checker_vars s k x.1 x.2.1
  f_tree_checker_routines x := B_tree_checker_routines s k x.1 x.2.1 x.2.2.1
  f_tree_checker_stmts x := B_tree_checker_stmts s k x.1 x.2.1 x.2.2.1
  f_r07_Name x := B_r07_Name s k x.1 x.2.1
  f_r07_notes x := B_r07_notes s k x.1
  f_r07_marks x := B_r07_marks s k x.1
  f_r07_vars x := B_r07_vars s k x.1 x.2.1
  f_r07_routines x := B_r07_routines s k x.1 x.2.1 x.2.2.1
  f_r07_Stmts x := B_r07_Stmts s k x.1 x.2.1 x.2.2.1
  f_tree_mapper_program x := B_tree_mapper_program s k x.1 x.2.1
  f_r07_Parts x := B_r07_Parts s k x.1
  f_r07_varNames x := B_r07_varNames s k x.1
  f_r07_routineNames x := B_r07_routineNames s k x.1
  f_r07_stmtNames x := B_r07_stmtNames s k x.1
  f_r04_Among x := B_r04_Among s k x.1 x.2.1
  f_r01_long x := B_r01_long s k x.1
  f_tree_Rename_1 x := B_tree_Rename_1 s k x.1 x.2.1
  f_r07_sameMarks x := B_r07_sameMarks s k x.1 x.2.1
  f_r07_sameVars x := B_r07_sameVars s k x.1 x.2.1
  f_r07_SameRoutines x := B_r07_SameRoutines s k x.1 x.2.1
  f_r07_SameStmts x := B_r07_SameStmts s k x.1 x.2.1
  f_tree_checker_expr x := B_tree_checker_expr s k x.1 x.2.1
  f_r07_form x := B_r07_form s k x.1 x.2.1 x.2.2.1
  f_r07_Deep x := B_r07_Deep s k x.1 x.2.1
  f_slices_Equal_string x := B_slices_Equal_string s k x.1 x.2.1
  f_slices_EqualFunc_Rec x := B_slices_EqualFunc_Rec s k x.1 x.2.1 x.2.2.1
  f_tree_sameRec x := B_tree_sameRec s k x.1 x.2.1
  f_slices_EqualFunc_Var x := B_slices_EqualFunc_Var s k x.1 x.2.1 x.2.2.1
  f_tree_sameVar x := B_tree_sameVar s k x.1 x.2.1
  f_slices_EqualFunc_Routine x := B_slices_EqualFunc_Routine s k x.1 x.2.1 x.2.2.1
  f_tree_sameRoutine x := B_tree_sameRoutine s k x.1 x.2.1
  f_slices_EqualFunc_Stmt x := B_slices_EqualFunc_Stmt s k x.1 x.2.1 x.2.2.1
  f_tree_sameStmt x := B_tree_sameStmt s k x.1 x.2.1
  f_slices_EqualFunc_Expr x := B_slices_EqualFunc_Expr s k x.1 x.2.1 x.2.2.1
  f_r07_SameExprs x := B_r07_SameExprs s k x.1 x.2.1
  f_words_Check x := B_words_Check s k x.1
  f_words_Is := h.f_words_Is
  f_tree_few_string x := B_tree_few_string s k x.1
  f_note_Print := h.f_note_Print
  f_slices_IndexFunc_Rec x := B_slices_IndexFunc_Rec s k x.1 x.2.1
  f_tree_few_Field x := B_tree_few_Field s k x.1
  f_slices_ContainsFunc_Field x := B_slices_ContainsFunc_Field s k x.1 x.2.1
  f_tree_checker_rec_1 x := B_tree_checker_rec_1 s k x.1 x.2.1
  f_tree_kind x := B_tree_kind s k x.1
  f_tree_few_Var x := B_tree_few_Var s k x.1
  f_slices_ContainsFunc_Var x := B_slices_ContainsFunc_Var s k x.1 x.2.1
  f_tree_checker_vars_1 x := B_tree_checker_vars_1 s k x.1 x.2.1
  f_tree_checker_typ x := B_tree_checker_typ s k x.1 x.2.1
  f_tree_few_Routine x := B_tree_few_Routine s k x.1
  f_tree_apart := h.f_tree_apart
  f_slices_ContainsFunc_Routine x := B_slices_ContainsFunc_Routine s k x.1 x.2.1
  f_tree_checker_routines_1 x := B_tree_checker_routines_1 s k x.1 x.2.1 x.2.2.1
  f_tree_checker_routine x := B_tree_checker_routine s k x.1 x.2.1
  f_tree_checker_params x := B_tree_checker_params s k x.1 x.2.1
  f_tree_few_Stmt x := B_tree_few_Stmt s k x.1
  f_slices_ContainsFunc_Stmt x := B_slices_ContainsFunc_Stmt s k x.1 x.2.1
  f_tree_checker_stmts_1 x := B_tree_checker_stmts_1 s k x.1 x.2.1 x.2.2.1
  f_tree_checker_stmt x := B_tree_checker_stmt s k x.1 x.2.1 x.2.2.1
  f_r04_Check x := B_r04_Check s k x.1
  f_r04_Is x := B_r04_Is s k x.1 x.2.1
  f_r02_Check x := B_r02_Check s k x.1
  f_r07_Type x := B_r07_Type s k x.1 x.2.1
  f_r07_Routine x := B_r07_Routine s k x.1 x.2.1
  f_r07_params x := B_r07_params s k x.1 x.2.1
  f_r07_Stmt x := B_r07_Stmt s k x.1 x.2.1 x.2.2.1
  f_tree_mapper_parts x := B_tree_mapper_parts s k x.1 x.2.1
  f_slices_Clone_string := h.f_slices_Clone_string
  f_tree_each_Rec x := B_tree_each_Rec s k x.1 x.2.1
  f_tree_mapper_rec x := B_tree_mapper_rec s k x.1 x.2.1
  f_tree_each_Var x := B_tree_each_Var s k x.1 x.2.1
  f_tree_mapper_variable x := B_tree_mapper_variable s k x.1 x.2.1
  f_tree_each_Routine x := B_tree_each_Routine s k x.1 x.2.1
  f_tree_mapper_routine x := B_tree_mapper_routine s k x.1 x.2.1
  f_tree_each_Stmt x := B_tree_each_Stmt s k x.1 x.2.1
  f_tree_mapper_stmt x := B_tree_mapper_stmt s k x.1 x.2.1
  f_r07_ExprNames x := B_r07_ExprNames s k x.1
  f_tree_few_Expr x := B_tree_few_Expr s k x.1
  f_tree_checker_call x := B_tree_checker_call s k x.1 x.2.1
  f_tree_checker_deepest x := B_tree_checker_deepest s k x.1 x.2.1
  f_tree_marks x := B_tree_marks s k x.1 x.2.1
  f_slices_EqualFunc_Field x := B_slices_EqualFunc_Field s k x.1 x.2.1 x.2.2.1
  f_tree_sameRec_1 x := B_tree_sameRec_1 s k x.1 x.2.1
  f_slices_Equal_Param x := B_slices_Equal_Param s k x.1 x.2.1
  f_words_letter x := B_words_letter s k x.1 x.2.1
  f_slices_IndexFunc_Field x := B_slices_IndexFunc_Field s k x.1 x.2.1
  f_slices_IndexFunc_Var x := B_slices_IndexFunc_Var s k x.1 x.2.1
  f_slices_IndexFunc_Routine x := B_slices_IndexFunc_Routine s k x.1 x.2.1
  f_tree_few_Param x := B_tree_few_Param s k x.1
  f_slices_IndexFunc_Stmt x := B_slices_IndexFunc_Stmt s k x.1 x.2.1
  f_tree_shapeOf x := B_tree_shapeOf s k x.1
  f_tree_checker_place x := B_tree_checker_place s k x.1 x.2.1
  f_tree_none x := B_tree_none s k x.1
  f_r04_Letter x := B_r04_Letter s k x.1 x.2.1
  f_r04_All x := B_r04_All s k x.1
  f_r02_right x := B_r02_right s k x.1
  f_r07_place x := B_r07_place s k x.1 x.2.1
  f_r07_none x := B_r07_none s k x.1
  f_tree_mapper_marks x := B_tree_mapper_marks s k x.1 x.2.1
  f_tree_each_Field x := B_tree_each_Field s k x.1 x.2.1
  f_tree_mapper_rec_1 x := B_tree_mapper_rec_1 s k x.1 x.2.1
  f_tree_mapper_typ x := B_tree_mapper_typ s k x.1 x.2.1
  f_tree_each_Param x := B_tree_each_Param s k x.1 x.2.1
  f_tree_mapper_routine_1 x := B_tree_mapper_routine_1 s k x.1 x.2.1
  f_tree_mapper_expr x := B_tree_mapper_expr s k x.1 x.2.1
  f_tree_each_Expr x := B_tree_each_Expr s k x.1 x.2.1
  f_by := h.f_by
def noFam (h : Fam) : Fam where
  f_w07_TreeChecks _ := none
  f_w07_TreeNames _ := none
  f_w07_TreeBack _ := none
  f_w07_TreeExprs _ := none
  f_w07_TreeSame _ := none
  f_w07_TreeAlike _ := none
  f_tree_Check _ := none
  f_r07_Check _ := none
  f_w07_awake _ := none
  f_r01_SameTexts _ := none
  f_tree_Names _ := none
  f_r07_Names _ := none
  f_r01_Digits _ := none
  f_tree_Rename _ := none
  f_r07_Same _ := none
  f_tree_CheckExpr _ := none
  f_r07_Expr _ := none
  f_tree_Same _ := none
  f_tree_SameExpr _ := none
  f_r07_SameExpr _ := none
  f_tree_checker_name _ := none
  f_tree_notes _ := none
  f_tree_few_Rec _ := none
  f_slices_ContainsFunc_Rec _ := none
  f_tree_Check_1 _ := none
  f_tree_checker_rec _ := none
  f_tree_checker_vars _ := none
  f_tree_checker_routines _ := none
  f_tree_checker_stmts _ := none
  f_r07_Name _ := none
  f_r07_notes _ := none
  f_r07_marks _ := none
  f_r07_vars _ := none
  f_r07_routines _ := none
  f_r07_Stmts _ := none
  f_tree_mapper_program _ := none
  f_r07_Parts _ := none
  f_r07_varNames _ := none
  f_r07_routineNames _ := none
  f_r07_stmtNames _ := none
  f_r04_Among _ := none
  f_r01_long _ := none
  f_tree_Rename_1 _ := none
  f_r07_sameMarks _ := none
  f_r07_sameVars _ := none
  f_r07_SameRoutines _ := none
  f_r07_SameStmts _ := none
  f_tree_checker_expr _ := none
  f_r07_form _ := none
  f_r07_Deep _ := none
  f_slices_Equal_string _ := none
  f_slices_EqualFunc_Rec _ := none
  f_tree_sameRec _ := none
  f_slices_EqualFunc_Var _ := none
  f_tree_sameVar _ := none
  f_slices_EqualFunc_Routine _ := none
  f_tree_sameRoutine _ := none
  f_slices_EqualFunc_Stmt _ := none
  f_tree_sameStmt _ := none
  f_slices_EqualFunc_Expr _ := none
  f_r07_SameExprs _ := none
  f_words_Check _ := none
  f_words_Is := h.f_words_Is
  f_tree_few_string _ := none
  f_note_Print := h.f_note_Print
  f_slices_IndexFunc_Rec _ := none
  f_tree_few_Field _ := none
  f_slices_ContainsFunc_Field _ := none
  f_tree_checker_rec_1 _ := none
  f_tree_kind _ := none
  f_tree_few_Var _ := none
  f_slices_ContainsFunc_Var _ := none
  f_tree_checker_vars_1 _ := none
  f_tree_checker_typ _ := none
  f_tree_few_Routine _ := none
  f_tree_apart := h.f_tree_apart
  f_slices_ContainsFunc_Routine _ := none
  f_tree_checker_routines_1 _ := none
  f_tree_checker_routine _ := none
  f_tree_checker_params _ := none
  f_tree_few_Stmt _ := none
  f_slices_ContainsFunc_Stmt _ := none
  f_tree_checker_stmts_1 _ := none
  f_tree_checker_stmt _ := none
  f_r04_Check _ := none
  f_r04_Is _ := none
  f_r02_Check _ := none
  f_r07_Type _ := none
  f_r07_Routine _ := none
  f_r07_params _ := none
  f_r07_Stmt _ := none
  f_tree_mapper_parts _ := none
  f_slices_Clone_string := h.f_slices_Clone_string
  f_tree_each_Rec _ := none
  f_tree_mapper_rec _ := none
  f_tree_each_Var _ := none
  f_tree_mapper_variable _ := none
  f_tree_each_Routine _ := none
  f_tree_mapper_routine _ := none
  f_tree_each_Stmt _ := none
  f_tree_mapper_stmt _ := none
  f_r07_ExprNames _ := none
  f_tree_few_Expr _ := none
  f_tree_checker_call _ := none
  f_tree_checker_deepest _ := none
  f_tree_marks _ := none
  f_slices_EqualFunc_Field _ := none
  f_tree_sameRec_1 _ := none
  f_slices_Equal_Param _ := none
  f_words_letter _ := none
  f_slices_IndexFunc_Field _ := none
  f_slices_IndexFunc_Var _ := none
  f_slices_IndexFunc_Routine _ := none
  f_tree_few_Param _ := none
  f_slices_IndexFunc_Stmt _ := none
  f_tree_shapeOf _ := none
  f_tree_checker_place _ := none
  f_tree_none _ := none
  f_r04_Letter _ := none
  f_r04_All _ := none
  f_r02_right _ := none
  f_r07_place _ := none
  f_r07_none _ := none
  f_tree_mapper_marks _ := none
  f_tree_each_Field _ := none
  f_tree_mapper_rec_1 _ := none
  f_tree_mapper_typ _ := none
  f_tree_each_Param _ := none
  f_tree_mapper_routine_1 _ := none
  f_tree_mapper_expr _ := none
  f_tree_each_Expr _ := none
  f_by := h.f_by
def FF (h : Fam) : Nat → Fam
  | 0 => noFam h
  | k + 1 => mkFam h (FF h k) k
structure HandOK (h : Fam) : Prop where
  o_tree_Names : ∀ (s : Fam) (k : Nat), (∀ f, SpecOK Tryz.prog EE (sp s) f) → SpecA Tryz.prog EE 13 (ansOf c_tree_Names rc_tree_Names.enc fun x => B_tree_Names s k x.1)
  o_tree_Rename : ∀ (s : Fam) (k : Nat), (∀ f, SpecOK Tryz.prog EE (sp s) f) → SpecA Tryz.prog EE 16 (ansOf c_tree_Rename rc_tree_Rename.enc fun x => B_tree_Rename s k x.1 x.2.1)
  o_words_Is : SpecA Tryz.prog EE 66 (ansOf c_words_Is rc_words_Is.enc h.f_words_Is)
  o_note_Print : SpecA Tryz.prog EE 68 (ansOf c_note_Print rc_note_Print.enc h.f_note_Print)
  o_tree_apart : SpecA Tryz.prog EE 79 (ansOf c_tree_apart rc_tree_apart.enc h.f_tree_apart)
  o_tree_checker_routine : ∀ (s : Fam) (k : Nat), (∀ f, SpecOK Tryz.prog EE (sp s) f) → SpecA Tryz.prog EE 82 (ansOf c_tree_checker_routine rc_tree_checker_routine.enc fun x => B_tree_checker_routine s k x.1 x.2.1)
  o_tree_mapper_parts : ∀ (s : Fam) (k : Nat), (∀ f, SpecOK Tryz.prog EE (sp s) f) → SpecA Tryz.prog EE 95 (ansOf c_tree_mapper_parts rc_tree_mapper_parts.enc fun x => B_tree_mapper_parts s k x.1 x.2.1)
  o_slices_Clone_string : SpecA Tryz.prog EE 96 (ansOf c_slices_Clone_string rc_slices_Clone_string.enc h.f_slices_Clone_string)
  o_by : SpecA Tryz.prog EE 1000003 (ansOf c_by rc_by.enc h.f_by)
theorem hEE : EnvOK Tryz.prog EE := envOK EE rfl rfl rfl
def nilFam : Fam where
  f_w07_TreeChecks _ := none
  f_w07_TreeNames _ := none
  f_w07_TreeBack _ := none
  f_w07_TreeExprs _ := none
  f_w07_TreeSame _ := none
  f_w07_TreeAlike _ := none
  f_tree_Check _ := none
  f_r07_Check _ := none
  f_w07_awake _ := none
  f_r01_SameTexts _ := none
  f_tree_Names _ := none
  f_r07_Names _ := none
  f_r01_Digits _ := none
  f_tree_Rename _ := none
  f_r07_Same _ := none
  f_tree_CheckExpr _ := none
  f_r07_Expr _ := none
  f_tree_Same _ := none
  f_tree_SameExpr _ := none
  f_r07_SameExpr _ := none
  f_tree_checker_name _ := none
  f_tree_notes _ := none
  f_tree_few_Rec _ := none
  f_slices_ContainsFunc_Rec _ := none
  f_tree_Check_1 _ := none
  f_tree_checker_rec _ := none
  f_tree_checker_vars _ := none
  f_tree_checker_routines _ := none
  f_tree_checker_stmts _ := none
  f_r07_Name _ := none
  f_r07_notes _ := none
  f_r07_marks _ := none
  f_r07_vars _ := none
  f_r07_routines _ := none
  f_r07_Stmts _ := none
  f_tree_mapper_program _ := none
  f_r07_Parts _ := none
  f_r07_varNames _ := none
  f_r07_routineNames _ := none
  f_r07_stmtNames _ := none
  f_r04_Among _ := none
  f_r01_long _ := none
  f_tree_Rename_1 _ := none
  f_r07_sameMarks _ := none
  f_r07_sameVars _ := none
  f_r07_SameRoutines _ := none
  f_r07_SameStmts _ := none
  f_tree_checker_expr _ := none
  f_r07_form _ := none
  f_r07_Deep _ := none
  f_slices_Equal_string _ := none
  f_slices_EqualFunc_Rec _ := none
  f_tree_sameRec _ := none
  f_slices_EqualFunc_Var _ := none
  f_tree_sameVar _ := none
  f_slices_EqualFunc_Routine _ := none
  f_tree_sameRoutine _ := none
  f_slices_EqualFunc_Stmt _ := none
  f_tree_sameStmt _ := none
  f_slices_EqualFunc_Expr _ := none
  f_r07_SameExprs _ := none
  f_words_Check _ := none
  f_words_Is _ := none
  f_tree_few_string _ := none
  f_note_Print _ := none
  f_slices_IndexFunc_Rec _ := none
  f_tree_few_Field _ := none
  f_slices_ContainsFunc_Field _ := none
  f_tree_checker_rec_1 _ := none
  f_tree_kind _ := none
  f_tree_few_Var _ := none
  f_slices_ContainsFunc_Var _ := none
  f_tree_checker_vars_1 _ := none
  f_tree_checker_typ _ := none
  f_tree_few_Routine _ := none
  f_tree_apart _ := none
  f_slices_ContainsFunc_Routine _ := none
  f_tree_checker_routines_1 _ := none
  f_tree_checker_routine _ := none
  f_tree_checker_params _ := none
  f_tree_few_Stmt _ := none
  f_slices_ContainsFunc_Stmt _ := none
  f_tree_checker_stmts_1 _ := none
  f_tree_checker_stmt _ := none
  f_r04_Check _ := none
  f_r04_Is _ := none
  f_r02_Check _ := none
  f_r07_Type _ := none
  f_r07_Routine _ := none
  f_r07_params _ := none
  f_r07_Stmt _ := none
  f_tree_mapper_parts _ := none
  f_slices_Clone_string _ := none
  f_tree_each_Rec _ := none
  f_tree_mapper_rec _ := none
  f_tree_each_Var _ := none
  f_tree_mapper_variable _ := none
  f_tree_each_Routine _ := none
  f_tree_mapper_routine _ := none
  f_tree_each_Stmt _ := none
  f_tree_mapper_stmt _ := none
  f_r07_ExprNames _ := none
  f_tree_few_Expr _ := none
  f_tree_checker_call _ := none
  f_tree_checker_deepest _ := none
  f_tree_marks _ := none
  f_slices_EqualFunc_Field _ := none
  f_tree_sameRec_1 _ := none
  f_slices_Equal_Param _ := none
  f_words_letter _ := none
  f_slices_IndexFunc_Field _ := none
  f_slices_IndexFunc_Var _ := none
  f_slices_IndexFunc_Routine _ := none
  f_tree_few_Param _ := none
  f_slices_IndexFunc_Stmt _ := none
  f_tree_shapeOf _ := none
  f_tree_checker_place _ := none
  f_tree_none _ := none
  f_r04_Letter _ := none
  f_r04_All _ := none
  f_r02_right _ := none
  f_r07_place _ := none
  f_r07_none _ := none
  f_tree_mapper_marks _ := none
  f_tree_each_Field _ := none
  f_tree_mapper_rec_1 _ := none
  f_tree_mapper_typ _ := none
  f_tree_each_Param _ := none
  f_tree_mapper_routine_1 _ := none
  f_tree_mapper_expr _ := none
  f_tree_each_Expr _ := none
  f_by _ := none
theorem nil_ok : AllA Tryz.prog EE (table nilFam) :=
  .cons (specA_none _ _) <|
  .cons (specA_none _ _) <|
  .cons (specA_none _ _) <|
  .cons (specA_none _ _) <|
  .cons (specA_none _ _) <|
  .cons (specA_none _ _) <|
  .cons (specA_none _ _) <|
  .cons (specA_none _ _) <|
  .cons (specA_none _ _) <|
  .cons (specA_none _ _) <|
  .cons (specA_none _ _) <|
  .cons (specA_none _ _) <|
  .cons (specA_none _ _) <|
  .cons (specA_none _ _) <|
  .cons (specA_none _ _) <|
  .cons (specA_none _ _) <|
  .cons (specA_none _ _) <|
  .cons (specA_none _ _) <|
  .cons (specA_none _ _) <|
  .cons (specA_none _ _) <|
  .cons (specA_none _ _) <|
  .cons (specA_none _ _) <|
  .cons (specA_none _ _) <|
  .cons (specA_none _ _) <|
  .cons (specA_none _ _) <|
  .cons (specA_none _ _) <|
  .cons (specA_none _ _) <|
  .cons (specA_none _ _) <|
  .cons (specA_none _ _) <|
  .cons (specA_none _ _) <|
  .cons (specA_none _ _) <|
  .cons (specA_none _ _) <|
  .cons (specA_none _ _) <|
  .cons (specA_none _ _) <|
  .cons (specA_none _ _) <|
  .cons (specA_none _ _) <|
  .cons (specA_none _ _) <|
  .cons (specA_none _ _) <|
  .cons (specA_none _ _) <|
  .cons (specA_none _ _) <|
  .cons (specA_none _ _) <|
  .cons (specA_none _ _) <|
  .cons (specA_none _ _) <|
  .cons (specA_none _ _) <|
  .cons (specA_none _ _) <|
  .cons (specA_none _ _) <|
  .cons (specA_none _ _) <|
  .cons (specA_none _ _) <|
  .cons (specA_none _ _) <|
  .cons (specA_none _ _) <|
  .cons (specA_none _ _) <|
  .cons (specA_none _ _) <|
  .cons (specA_none _ _) <|
  .cons (specA_none _ _) <|
  .cons (specA_none _ _) <|
  .cons (specA_none _ _) <|
  .cons (specA_none _ _) <|
  .cons (specA_none _ _) <|
  .cons (specA_none _ _) <|
  .cons (specA_none _ _) <|
  .cons (specA_none _ _) <|
  .cons (specA_none _ _) <|
  .cons (specA_none _ _) <|
  .cons (specA_none _ _) <|
  .cons (specA_none _ _) <|
  .cons (specA_none _ _) <|
  .cons (specA_none _ _) <|
  .cons (specA_none _ _) <|
  .cons (specA_none _ _) <|
  .cons (specA_none _ _) <|
  .cons (specA_none _ _) <|
  .cons (specA_none _ _) <|
  .cons (specA_none _ _) <|
  .cons (specA_none _ _) <|
  .cons (specA_none _ _) <|
  .cons (specA_none _ _) <|
  .cons (specA_none _ _) <|
  .cons (specA_none _ _) <|
  .cons (specA_none _ _) <|
  .cons (specA_none _ _) <|
  .cons (specA_none _ _) <|
  .cons (specA_none _ _) <|
  .cons (specA_none _ _) <|
  .cons (specA_none _ _) <|
  .cons (specA_none _ _) <|
  .cons (specA_none _ _) <|
  .cons (specA_none _ _) <|
  .cons (specA_none _ _) <|
  .cons (specA_none _ _) <|
  .cons (specA_none _ _) <|
  .cons (specA_none _ _) <|
  .cons (specA_none _ _) <|
  .cons (specA_none _ _) <|
  .cons (specA_none _ _) <|
  .cons (specA_none _ _) <|
  .cons (specA_none _ _) <|
  .cons (specA_none _ _) <|
  .cons (specA_none _ _) <|
  .cons (specA_none _ _) <|
  .cons (specA_none _ _) <|
  .cons (specA_none _ _) <|
  .cons (specA_none _ _) <|
  .cons (specA_none _ _) <|
  .cons (specA_none _ _) <|
  .cons (specA_none _ _) <|
  .cons (specA_none _ _) <|
  .cons (specA_none _ _) <|
  .cons (specA_none _ _) <|
  .cons (specA_none _ _) <|
  .cons (specA_none _ _) <|
  .cons (specA_none _ _) <|
  .cons (specA_none _ _) <|
  .cons (specA_none _ _) <|
  .cons (specA_none _ _) <|
  .cons (specA_none _ _) <|
  .cons (specA_none _ _) <|
  .cons (specA_none _ _) <|
  .cons (specA_none _ _) <|
  .cons (specA_none _ _) <|
  .cons (specA_none _ _) <|
  .cons (specA_none _ _) <|
  .cons (specA_none _ _) <|
  .cons (specA_none _ _) <|
  .cons (specA_none _ _) <|
  .cons (specA_none _ _) <|
  .cons (specA_none _ _) <|
  .cons (specA_none _ _) <|
  .cons (specA_none _ _) <|
  .cons (specA_none _ _) <|
  .cons (specA_none _ _) <|
  .cons (specA_none _ _) <|
  .cons (specA_none _ _) <|
  .nil
theorem specs0 {h : Fam} (hh : HandOK h) : AllA Tryz.prog EE (table (noFam h)) :=
  .cons (specA_none _ _) <|
  .cons (specA_none _ _) <|
  .cons (specA_none _ _) <|
  .cons (specA_none _ _) <|
  .cons (specA_none _ _) <|
  .cons (specA_none _ _) <|
  .cons (specA_none _ _) <|
  .cons (specA_none _ _) <|
  .cons (specA_none _ _) <|
  .cons (specA_none _ _) <|
  .cons (specA_none _ _) <|
  .cons (specA_none _ _) <|
  .cons (specA_none _ _) <|
  .cons (specA_none _ _) <|
  .cons (specA_none _ _) <|
  .cons (specA_none _ _) <|
  .cons (specA_none _ _) <|
  .cons (specA_none _ _) <|
  .cons (specA_none _ _) <|
  .cons (specA_none _ _) <|
  .cons (specA_none _ _) <|
  .cons (specA_none _ _) <|
  .cons (specA_none _ _) <|
  .cons (specA_none _ _) <|
  .cons (specA_none _ _) <|
  .cons (specA_none _ _) <|
  .cons (specA_none _ _) <|
  .cons (specA_none _ _) <|
  .cons (specA_none _ _) <|
  .cons (specA_none _ _) <|
  .cons (specA_none _ _) <|
  .cons (specA_none _ _) <|
  .cons (specA_none _ _) <|
  .cons (specA_none _ _) <|
  .cons (specA_none _ _) <|
  .cons (specA_none _ _) <|
  .cons (specA_none _ _) <|
  .cons (specA_none _ _) <|
  .cons (specA_none _ _) <|
  .cons (specA_none _ _) <|
  .cons (specA_none _ _) <|
  .cons (specA_none _ _) <|
  .cons (specA_none _ _) <|
  .cons (specA_none _ _) <|
  .cons (specA_none _ _) <|
  .cons (specA_none _ _) <|
  .cons (specA_none _ _) <|
  .cons (specA_none _ _) <|
  .cons (specA_none _ _) <|
  .cons (specA_none _ _) <|
  .cons (specA_none _ _) <|
  .cons (specA_none _ _) <|
  .cons (specA_none _ _) <|
  .cons (specA_none _ _) <|
  .cons (specA_none _ _) <|
  .cons (specA_none _ _) <|
  .cons (specA_none _ _) <|
  .cons (specA_none _ _) <|
  .cons (specA_none _ _) <|
  .cons (specA_none _ _) <|
  .cons (specA_none _ _) <|
  .cons (specA_none _ _) <|
  .cons (hh.o_words_Is) <|
  .cons (specA_none _ _) <|
  .cons (hh.o_note_Print) <|
  .cons (specA_none _ _) <|
  .cons (specA_none _ _) <|
  .cons (specA_none _ _) <|
  .cons (specA_none _ _) <|
  .cons (specA_none _ _) <|
  .cons (specA_none _ _) <|
  .cons (specA_none _ _) <|
  .cons (specA_none _ _) <|
  .cons (specA_none _ _) <|
  .cons (specA_none _ _) <|
  .cons (hh.o_tree_apart) <|
  .cons (specA_none _ _) <|
  .cons (specA_none _ _) <|
  .cons (specA_none _ _) <|
  .cons (specA_none _ _) <|
  .cons (specA_none _ _) <|
  .cons (specA_none _ _) <|
  .cons (specA_none _ _) <|
  .cons (specA_none _ _) <|
  .cons (specA_none _ _) <|
  .cons (specA_none _ _) <|
  .cons (specA_none _ _) <|
  .cons (specA_none _ _) <|
  .cons (specA_none _ _) <|
  .cons (specA_none _ _) <|
  .cons (specA_none _ _) <|
  .cons (specA_none _ _) <|
  .cons (hh.o_slices_Clone_string) <|
  .cons (specA_none _ _) <|
  .cons (specA_none _ _) <|
  .cons (specA_none _ _) <|
  .cons (specA_none _ _) <|
  .cons (specA_none _ _) <|
  .cons (specA_none _ _) <|
  .cons (specA_none _ _) <|
  .cons (specA_none _ _) <|
  .cons (specA_none _ _) <|
  .cons (specA_none _ _) <|
  .cons (specA_none _ _) <|
  .cons (specA_none _ _) <|
  .cons (specA_none _ _) <|
  .cons (specA_none _ _) <|
  .cons (specA_none _ _) <|
  .cons (specA_none _ _) <|
  .cons (specA_none _ _) <|
  .cons (specA_none _ _) <|
  .cons (specA_none _ _) <|
  .cons (specA_none _ _) <|
  .cons (specA_none _ _) <|
  .cons (specA_none _ _) <|
  .cons (specA_none _ _) <|
  .cons (specA_none _ _) <|
  .cons (specA_none _ _) <|
  .cons (specA_none _ _) <|
  .cons (specA_none _ _) <|
  .cons (specA_none _ _) <|
  .cons (specA_none _ _) <|
  .cons (specA_none _ _) <|
  .cons (specA_none _ _) <|
  .cons (specA_none _ _) <|
  .cons (specA_none _ _) <|
  .cons (specA_none _ _) <|
  .cons (specA_none _ _) <|
  .cons (specA_none _ _) <|
  .cons (specA_none _ _) <|
  .cons (specA_none _ _) <|
  .cons (hh.o_by) <|
  .nil
theorem specsS {h : Fam} (hh : HandOK h) (k : Nat) (ih : ∀ f, SpecOK Tryz.prog EE (sp (FF h k)) f) : AllA Tryz.prog EE (table (FF h (k + 1))) :=
  .cons (specA_of hEE ih Tryz.func3 (by kernel_rfl) (by decide) c_w07_TreeChecks rc_w07_TreeChecks.enc _ (fun x => e_w07_TreeChecks (FF h k) k x)) <|
  .cons (specA_of hEE ih Tryz.func4 (by kernel_rfl) (by decide) c_w07_TreeNames rc_w07_TreeNames.enc _ (fun x => e_w07_TreeNames (FF h k) k x)) <|
  .cons (specA_of hEE ih Tryz.func5 (by kernel_rfl) (by decide) c_w07_TreeBack rc_w07_TreeBack.enc _ (fun x => e_w07_TreeBack (FF h k) k x)) <|
  .cons (specA_of hEE ih Tryz.func6 (by kernel_rfl) (by decide) c_w07_TreeExprs rc_w07_TreeExprs.enc _ (fun x => e_w07_TreeExprs (FF h k) k x)) <|
  .cons (specA_of hEE ih Tryz.func7 (by kernel_rfl) (by decide) c_w07_TreeSame rc_w07_TreeSame.enc _ (fun x => e_w07_TreeSame (FF h k) k x)) <|
  .cons (specA_of hEE ih Tryz.func8 (by kernel_rfl) (by decide) c_w07_TreeAlike rc_w07_TreeAlike.enc _ (fun x => e_w07_TreeAlike (FF h k) k x)) <|
  .cons (specA_of hEE ih Tryz.func9 (by kernel_rfl) (by decide) c_tree_Check rc_tree_Check.enc _ (fun x => e_tree_Check (FF h k) k x)) <|
  .cons (specA_of hEE ih Tryz.func10 (by kernel_rfl) (by decide) c_r07_Check rc_r07_Check.enc _ (fun x => e_r07_Check (FF h k) k x)) <|
  .cons (specA_of hEE ih Tryz.func11 (by kernel_rfl) (by decide) c_w07_awake rc_w07_awake.enc _ (fun x => e_w07_awake (FF h k) k x)) <|
  .cons (specA_of hEE ih Tryz.func12 (by kernel_rfl) (by decide) c_r01_SameTexts rc_r01_SameTexts.enc _ (fun x => e_r01_SameTexts (FF h k) k x)) <|
  .cons (hh.o_tree_Names _ k ih) <|
  .cons (specA_of hEE ih Tryz.func14 (by kernel_rfl) (by decide) c_r07_Names rc_r07_Names.enc _ (fun x => e_r07_Names (FF h k) k x)) <|
  .cons (specA_of hEE ih Tryz.func15 (by kernel_rfl) (by decide) c_r01_Digits rc_r01_Digits.enc _ (fun x => e_r01_Digits (FF h k) k x)) <|
  .cons (hh.o_tree_Rename _ k ih) <|
  .cons (specA_of hEE ih Tryz.func17 (by kernel_rfl) (by decide) c_r07_Same rc_r07_Same.enc _ (fun x => e_r07_Same (FF h k) k x)) <|
  .cons (specA_of hEE ih Tryz.func18 (by kernel_rfl) (by decide) c_tree_CheckExpr rc_tree_CheckExpr.enc _ (fun x => e_tree_CheckExpr (FF h k) k x)) <|
  .cons (specA_of hEE ih Tryz.func19 (by kernel_rfl) (by decide) c_r07_Expr rc_r07_Expr.enc _ (fun x => e_r07_Expr (FF h k) k x)) <|
  .cons (specA_of hEE ih Tryz.func20 (by kernel_rfl) (by decide) c_tree_Same rc_tree_Same.enc _ (fun x => e_tree_Same (FF h k) k x)) <|
  .cons (specA_of hEE ih Tryz.func21 (by kernel_rfl) (by decide) c_tree_SameExpr rc_tree_SameExpr.enc _ (fun x => e_tree_SameExpr (FF h k) k x)) <|
  .cons (specA_of hEE ih Tryz.func22 (by kernel_rfl) (by decide) c_r07_SameExpr rc_r07_SameExpr.enc _ (fun x => e_r07_SameExpr (FF h k) k x)) <|
  .cons (specA_of hEE ih Tryz.func23 (by kernel_rfl) (by decide) c_tree_checker_name rc_tree_checker_name.enc _ (fun x => e_tree_checker_name (FF h k) k x)) <|
  .cons (specA_of hEE ih Tryz.func24 (by kernel_rfl) (by decide) c_tree_notes rc_tree_notes.enc _ (fun x => e_tree_notes (FF h k) k x)) <|
  .cons (specA_of hEE ih Tryz.func25 (by kernel_rfl) (by decide) c_tree_few_Rec rc_tree_few_Rec.enc _ (fun x => e_tree_few_Rec (FF h k) k x)) <|
  .cons (specA_of hEE ih Tryz.func26 (by kernel_rfl) (by decide) c_slices_ContainsFunc_Rec rc_slices_ContainsFunc_Rec.enc _ (fun x => e_slices_ContainsFunc_Rec (FF h k) k x)) <|
  .cons (specA_of hEE ih Tryz.func27 (by kernel_rfl) (by decide) c_tree_Check_1 rc_tree_Check_1.enc _ (fun x => e_tree_Check_1 (FF h k) k x)) <|
  .cons (specA_of hEE ih Tryz.func28 (by kernel_rfl) (by decide) c_tree_checker_rec rc_tree_checker_rec.enc _ (fun x => e_tree_checker_rec (FF h k) k x)) <|
  .cons (specA_of hEE ih Tryz.func29 (by kernel_rfl) (by decide) c_tree_checker_vars rc_tree_checker_vars.enc _ (fun x => e_tree_checker_vars (FF h k) k x)) <|
  .cons (specA_of hEE ih Tryz.func30 (by kernel_rfl) (by decide) c_tree_checker_routines rc_tree_checker_routines.enc _ (fun x => e_tree_checker_routines (FF h k) k x)) <|
  .cons (specA_of hEE ih Tryz.func31 (by kernel_rfl) (by decide) c_tree_checker_stmts rc_tree_checker_stmts.enc _ (fun x => e_tree_checker_stmts (FF h k) k x)) <|
  .cons (specA_of hEE ih Tryz.func32 (by kernel_rfl) (by decide) c_r07_Name rc_r07_Name.enc _ (fun x => e_r07_Name (FF h k) k x)) <|
  .cons (specA_of hEE ih Tryz.func33 (by kernel_rfl) (by decide) c_r07_notes rc_r07_notes.enc _ (fun x => e_r07_notes (FF h k) k x)) <|
  .cons (specA_of hEE ih Tryz.func34 (by kernel_rfl) (by decide) c_r07_marks rc_r07_marks.enc _ (fun x => e_r07_marks (FF h k) k x)) <|
  .cons (specA_of hEE ih Tryz.func35 (by kernel_rfl) (by decide) c_r07_vars rc_r07_vars.enc _ (fun x => e_r07_vars (FF h k) k x)) <|
  .cons (specA_of hEE ih Tryz.func36 (by kernel_rfl) (by decide) c_r07_routines rc_r07_routines.enc _ (fun x => e_r07_routines (FF h k) k x)) <|
  .cons (specA_of hEE ih Tryz.func37 (by kernel_rfl) (by decide) c_r07_Stmts rc_r07_Stmts.enc _ (fun x => e_r07_Stmts (FF h k) k x)) <|
  .cons (specA_of hEE ih Tryz.func39 (by kernel_rfl) (by decide) c_tree_mapper_program rc_tree_mapper_program.enc _ (fun x => e_tree_mapper_program (FF h k) k x)) <|
  .cons (specA_of hEE ih Tryz.func40 (by kernel_rfl) (by decide) c_r07_Parts rc_r07_Parts.enc _ (fun x => e_r07_Parts (FF h k) k x)) <|
  .cons (specA_of hEE ih Tryz.func41 (by kernel_rfl) (by decide) c_r07_varNames rc_r07_varNames.enc _ (fun x => e_r07_varNames (FF h k) k x)) <|
  .cons (specA_of hEE ih Tryz.func42 (by kernel_rfl) (by decide) c_r07_routineNames rc_r07_routineNames.enc _ (fun x => e_r07_routineNames (FF h k) k x)) <|
  .cons (specA_of hEE ih Tryz.func43 (by kernel_rfl) (by decide) c_r07_stmtNames rc_r07_stmtNames.enc _ (fun x => e_r07_stmtNames (FF h k) k x)) <|
  .cons (specA_of hEE ih Tryz.func44 (by kernel_rfl) (by decide) c_r04_Among rc_r04_Among.enc _ (fun x => e_r04_Among (FF h k) k x)) <|
  .cons (specA_of hEE ih Tryz.func45 (by kernel_rfl) (by decide) c_r01_long rc_r01_long.enc _ (fun x => e_r01_long (FF h k) k x)) <|
  .cons (specA_of hEE ih Tryz.func46 (by kernel_rfl) (by decide) c_tree_Rename_1 rc_tree_Rename_1.enc _ (fun x => e_tree_Rename_1 (FF h k) k x)) <|
  .cons (specA_of hEE ih Tryz.func47 (by kernel_rfl) (by decide) c_r07_sameMarks rc_r07_sameMarks.enc _ (fun x => e_r07_sameMarks (FF h k) k x)) <|
  .cons (specA_of hEE ih Tryz.func48 (by kernel_rfl) (by decide) c_r07_sameVars rc_r07_sameVars.enc _ (fun x => e_r07_sameVars (FF h k) k x)) <|
  .cons (specA_of hEE ih Tryz.func49 (by kernel_rfl) (by decide) c_r07_SameRoutines rc_r07_SameRoutines.enc _ (fun x => e_r07_SameRoutines (FF h k) k x)) <|
  .cons (specA_of hEE ih Tryz.func50 (by kernel_rfl) (by decide) c_r07_SameStmts rc_r07_SameStmts.enc _ (fun x => e_r07_SameStmts (FF h k) k x)) <|
  .cons (specA_of hEE ih Tryz.func51 (by kernel_rfl) (by decide) c_tree_checker_expr rc_tree_checker_expr.enc _ (fun x => e_tree_checker_expr (FF h k) k x)) <|
  .cons (specA_of hEE ih Tryz.func52 (by kernel_rfl) (by decide) c_r07_form rc_r07_form.enc _ (fun x => e_r07_form (FF h k) k x)) <|
  .cons (specA_of hEE ih Tryz.func53 (by kernel_rfl) (by decide) c_r07_Deep rc_r07_Deep.enc _ (fun x => e_r07_Deep (FF h k) k x)) <|
  .cons (specA_of hEE ih Tryz.func54 (by kernel_rfl) (by decide) c_slices_Equal_string rc_slices_Equal_string.enc _ (fun x => e_slices_Equal_string (FF h k) k x)) <|
  .cons (specA_of hEE ih Tryz.func55 (by kernel_rfl) (by decide) c_slices_EqualFunc_Rec rc_slices_EqualFunc_Rec.enc _ (fun x => e_slices_EqualFunc_Rec (FF h k) k x)) <|
  .cons (specA_of hEE ih Tryz.func56 (by kernel_rfl) (by decide) c_tree_sameRec rc_tree_sameRec.enc _ (fun x => e_tree_sameRec (FF h k) k x)) <|
  .cons (specA_of hEE ih Tryz.func57 (by kernel_rfl) (by decide) c_slices_EqualFunc_Var rc_slices_EqualFunc_Var.enc _ (fun x => e_slices_EqualFunc_Var (FF h k) k x)) <|
  .cons (specA_of hEE ih Tryz.func58 (by kernel_rfl) (by decide) c_tree_sameVar rc_tree_sameVar.enc _ (fun x => e_tree_sameVar (FF h k) k x)) <|
  .cons (specA_of hEE ih Tryz.func59 (by kernel_rfl) (by decide) c_slices_EqualFunc_Routine rc_slices_EqualFunc_Routine.enc _ (fun x => e_slices_EqualFunc_Routine (FF h k) k x)) <|
  .cons (specA_of hEE ih Tryz.func60 (by kernel_rfl) (by decide) c_tree_sameRoutine rc_tree_sameRoutine.enc _ (fun x => e_tree_sameRoutine (FF h k) k x)) <|
  .cons (specA_of hEE ih Tryz.func61 (by kernel_rfl) (by decide) c_slices_EqualFunc_Stmt rc_slices_EqualFunc_Stmt.enc _ (fun x => e_slices_EqualFunc_Stmt (FF h k) k x)) <|
  .cons (specA_of hEE ih Tryz.func62 (by kernel_rfl) (by decide) c_tree_sameStmt rc_tree_sameStmt.enc _ (fun x => e_tree_sameStmt (FF h k) k x)) <|
  .cons (specA_of hEE ih Tryz.func63 (by kernel_rfl) (by decide) c_slices_EqualFunc_Expr rc_slices_EqualFunc_Expr.enc _ (fun x => e_slices_EqualFunc_Expr (FF h k) k x)) <|
  .cons (specA_of hEE ih Tryz.func64 (by kernel_rfl) (by decide) c_r07_SameExprs rc_r07_SameExprs.enc _ (fun x => e_r07_SameExprs (FF h k) k x)) <|
  .cons (specA_of hEE ih Tryz.func65 (by kernel_rfl) (by decide) c_words_Check rc_words_Check.enc _ (fun x => e_words_Check (FF h k) k x)) <|
  .cons (hh.o_words_Is) <|
  .cons (specA_of hEE ih Tryz.func67 (by kernel_rfl) (by decide) c_tree_few_string rc_tree_few_string.enc _ (fun x => e_tree_few_string (FF h k) k x)) <|
  .cons (hh.o_note_Print) <|
  .cons (specA_of hEE ih Tryz.func69 (by kernel_rfl) (by decide) c_slices_IndexFunc_Rec rc_slices_IndexFunc_Rec.enc _ (fun x => e_slices_IndexFunc_Rec (FF h k) k x)) <|
  .cons (specA_of hEE ih Tryz.func70 (by kernel_rfl) (by decide) c_tree_few_Field rc_tree_few_Field.enc _ (fun x => e_tree_few_Field (FF h k) k x)) <|
  .cons (specA_of hEE ih Tryz.func71 (by kernel_rfl) (by decide) c_slices_ContainsFunc_Field rc_slices_ContainsFunc_Field.enc _ (fun x => e_slices_ContainsFunc_Field (FF h k) k x)) <|
  .cons (specA_of hEE ih Tryz.func72 (by kernel_rfl) (by decide) c_tree_checker_rec_1 rc_tree_checker_rec_1.enc _ (fun x => e_tree_checker_rec_1 (FF h k) k x)) <|
  .cons (specA_of hEE ih Tryz.func73 (by kernel_rfl) (by decide) c_tree_kind rc_tree_kind.enc _ (fun x => e_tree_kind (FF h k) k x)) <|
  .cons (specA_of hEE ih Tryz.func74 (by kernel_rfl) (by decide) c_tree_few_Var rc_tree_few_Var.enc _ (fun x => e_tree_few_Var (FF h k) k x)) <|
  .cons (specA_of hEE ih Tryz.func75 (by kernel_rfl) (by decide) c_slices_ContainsFunc_Var rc_slices_ContainsFunc_Var.enc _ (fun x => e_slices_ContainsFunc_Var (FF h k) k x)) <|
  .cons (specA_of hEE ih Tryz.func76 (by kernel_rfl) (by decide) c_tree_checker_vars_1 rc_tree_checker_vars_1.enc _ (fun x => e_tree_checker_vars_1 (FF h k) k x)) <|
  .cons (specA_of hEE ih Tryz.func77 (by kernel_rfl) (by decide) c_tree_checker_typ rc_tree_checker_typ.enc _ (fun x => e_tree_checker_typ (FF h k) k x)) <|
  .cons (specA_of hEE ih Tryz.func78 (by kernel_rfl) (by decide) c_tree_few_Routine rc_tree_few_Routine.enc _ (fun x => e_tree_few_Routine (FF h k) k x)) <|
  .cons (hh.o_tree_apart) <|
  .cons (specA_of hEE ih Tryz.func80 (by kernel_rfl) (by decide) c_slices_ContainsFunc_Routine rc_slices_ContainsFunc_Routine.enc _ (fun x => e_slices_ContainsFunc_Routine (FF h k) k x)) <|
  .cons (specA_of hEE ih Tryz.func81 (by kernel_rfl) (by decide) c_tree_checker_routines_1 rc_tree_checker_routines_1.enc _ (fun x => e_tree_checker_routines_1 (FF h k) k x)) <|
  .cons (hh.o_tree_checker_routine _ k ih) <|
  .cons (specA_of hEE ih Tryz.func83 (by kernel_rfl) (by decide) c_tree_checker_params rc_tree_checker_params.enc _ (fun x => e_tree_checker_params (FF h k) k x)) <|
  .cons (specA_of hEE ih Tryz.func84 (by kernel_rfl) (by decide) c_tree_few_Stmt rc_tree_few_Stmt.enc _ (fun x => e_tree_few_Stmt (FF h k) k x)) <|
  .cons (specA_of hEE ih Tryz.func85 (by kernel_rfl) (by decide) c_slices_ContainsFunc_Stmt rc_slices_ContainsFunc_Stmt.enc _ (fun x => e_slices_ContainsFunc_Stmt (FF h k) k x)) <|
  .cons (specA_of hEE ih Tryz.func86 (by kernel_rfl) (by decide) c_tree_checker_stmts_1 rc_tree_checker_stmts_1.enc _ (fun x => e_tree_checker_stmts_1 (FF h k) k x)) <|
  .cons (specA_of hEE ih Tryz.func87 (by kernel_rfl) (by decide) c_tree_checker_stmt rc_tree_checker_stmt.enc _ (fun x => e_tree_checker_stmt (FF h k) k x)) <|
  .cons (specA_of hEE ih Tryz.func88 (by kernel_rfl) (by decide) c_r04_Check rc_r04_Check.enc _ (fun x => e_r04_Check (FF h k) k x)) <|
  .cons (specA_of hEE ih Tryz.func89 (by kernel_rfl) (by decide) c_r04_Is rc_r04_Is.enc _ (fun x => e_r04_Is (FF h k) k x)) <|
  .cons (specA_of hEE ih Tryz.func90 (by kernel_rfl) (by decide) c_r02_Check rc_r02_Check.enc _ (fun x => e_r02_Check (FF h k) k x)) <|
  .cons (specA_of hEE ih Tryz.func91 (by kernel_rfl) (by decide) c_r07_Type rc_r07_Type.enc _ (fun x => e_r07_Type (FF h k) k x)) <|
  .cons (specA_of hEE ih Tryz.func92 (by kernel_rfl) (by decide) c_r07_Routine rc_r07_Routine.enc _ (fun x => e_r07_Routine (FF h k) k x)) <|
  .cons (specA_of hEE ih Tryz.func93 (by kernel_rfl) (by decide) c_r07_params rc_r07_params.enc _ (fun x => e_r07_params (FF h k) k x)) <|
  .cons (specA_of hEE ih Tryz.func94 (by kernel_rfl) (by decide) c_r07_Stmt rc_r07_Stmt.enc _ (fun x => e_r07_Stmt (FF h k) k x)) <|
  .cons (hh.o_tree_mapper_parts _ k ih) <|
  .cons (hh.o_slices_Clone_string) <|
  .cons (specA_of hEE ih Tryz.func97 (by kernel_rfl) (by decide) c_tree_each_Rec rc_tree_each_Rec.enc _ (fun x => e_tree_each_Rec (FF h k) k x)) <|
  .cons (specA_of hEE ih Tryz.func98 (by kernel_rfl) (by decide) c_tree_mapper_rec rc_tree_mapper_rec.enc _ (fun x => e_tree_mapper_rec (FF h k) k x)) <|
  .cons (specA_of hEE ih Tryz.func99 (by kernel_rfl) (by decide) c_tree_each_Var rc_tree_each_Var.enc _ (fun x => e_tree_each_Var (FF h k) k x)) <|
  .cons (specA_of hEE ih Tryz.func100 (by kernel_rfl) (by decide) c_tree_mapper_variable rc_tree_mapper_variable.enc _ (fun x => e_tree_mapper_variable (FF h k) k x)) <|
  .cons (specA_of hEE ih Tryz.func101 (by kernel_rfl) (by decide) c_tree_each_Routine rc_tree_each_Routine.enc _ (fun x => e_tree_each_Routine (FF h k) k x)) <|
  .cons (specA_of hEE ih Tryz.func102 (by kernel_rfl) (by decide) c_tree_mapper_routine rc_tree_mapper_routine.enc _ (fun x => e_tree_mapper_routine (FF h k) k x)) <|
  .cons (specA_of hEE ih Tryz.func103 (by kernel_rfl) (by decide) c_tree_each_Stmt rc_tree_each_Stmt.enc _ (fun x => e_tree_each_Stmt (FF h k) k x)) <|
  .cons (specA_of hEE ih Tryz.func104 (by kernel_rfl) (by decide) c_tree_mapper_stmt rc_tree_mapper_stmt.enc _ (fun x => e_tree_mapper_stmt (FF h k) k x)) <|
  .cons (specA_of hEE ih Tryz.func105 (by kernel_rfl) (by decide) c_r07_ExprNames rc_r07_ExprNames.enc _ (fun x => e_r07_ExprNames (FF h k) k x)) <|
  .cons (specA_of hEE ih Tryz.func106 (by kernel_rfl) (by decide) c_tree_few_Expr rc_tree_few_Expr.enc _ (fun x => e_tree_few_Expr (FF h k) k x)) <|
  .cons (specA_of hEE ih Tryz.func107 (by kernel_rfl) (by decide) c_tree_checker_call rc_tree_checker_call.enc _ (fun x => e_tree_checker_call (FF h k) k x)) <|
  .cons (specA_of hEE ih Tryz.func108 (by kernel_rfl) (by decide) c_tree_checker_deepest rc_tree_checker_deepest.enc _ (fun x => e_tree_checker_deepest (FF h k) k x)) <|
  .cons (specA_of hEE ih Tryz.func109 (by kernel_rfl) (by decide) c_tree_marks rc_tree_marks.enc _ (fun x => e_tree_marks (FF h k) k x)) <|
  .cons (specA_of hEE ih Tryz.func110 (by kernel_rfl) (by decide) c_slices_EqualFunc_Field rc_slices_EqualFunc_Field.enc _ (fun x => e_slices_EqualFunc_Field (FF h k) k x)) <|
  .cons (specA_of hEE ih Tryz.func111 (by kernel_rfl) (by decide) c_tree_sameRec_1 rc_tree_sameRec_1.enc _ (fun x => e_tree_sameRec_1 (FF h k) k x)) <|
  .cons (specA_of hEE ih Tryz.func112 (by kernel_rfl) (by decide) c_slices_Equal_Param rc_slices_Equal_Param.enc _ (fun x => e_slices_Equal_Param (FF h k) k x)) <|
  .cons (specA_of hEE ih Tryz.func113 (by kernel_rfl) (by decide) c_words_letter rc_words_letter.enc _ (fun x => e_words_letter (FF h k) k x)) <|
  .cons (specA_of hEE ih Tryz.func122 (by kernel_rfl) (by decide) c_slices_IndexFunc_Field rc_slices_IndexFunc_Field.enc _ (fun x => e_slices_IndexFunc_Field (FF h k) k x)) <|
  .cons (specA_of hEE ih Tryz.func123 (by kernel_rfl) (by decide) c_slices_IndexFunc_Var rc_slices_IndexFunc_Var.enc _ (fun x => e_slices_IndexFunc_Var (FF h k) k x)) <|
  .cons (specA_of hEE ih Tryz.func124 (by kernel_rfl) (by decide) c_slices_IndexFunc_Routine rc_slices_IndexFunc_Routine.enc _ (fun x => e_slices_IndexFunc_Routine (FF h k) k x)) <|
  .cons (specA_of hEE ih Tryz.func126 (by kernel_rfl) (by decide) c_tree_few_Param rc_tree_few_Param.enc _ (fun x => e_tree_few_Param (FF h k) k x)) <|
  .cons (specA_of hEE ih Tryz.func127 (by kernel_rfl) (by decide) c_slices_IndexFunc_Stmt rc_slices_IndexFunc_Stmt.enc _ (fun x => e_slices_IndexFunc_Stmt (FF h k) k x)) <|
  .cons (specA_of hEE ih Tryz.func128 (by kernel_rfl) (by decide) c_tree_shapeOf rc_tree_shapeOf.enc _ (fun x => e_tree_shapeOf (FF h k) k x)) <|
  .cons (specA_of hEE ih Tryz.func129 (by kernel_rfl) (by decide) c_tree_checker_place rc_tree_checker_place.enc _ (fun x => e_tree_checker_place (FF h k) k x)) <|
  .cons (specA_of hEE ih Tryz.func130 (by kernel_rfl) (by decide) c_tree_none rc_tree_none.enc _ (fun x => e_tree_none (FF h k) k x)) <|
  .cons (specA_of hEE ih Tryz.func131 (by kernel_rfl) (by decide) c_r04_Letter rc_r04_Letter.enc _ (fun x => e_r04_Letter (FF h k) k x)) <|
  .cons (specA_of hEE ih Tryz.func132 (by kernel_rfl) (by decide) c_r04_All rc_r04_All.enc _ (fun x => e_r04_All (FF h k) k x)) <|
  .cons (specA_of hEE ih Tryz.func133 (by kernel_rfl) (by decide) c_r02_right rc_r02_right.enc _ (fun x => e_r02_right (FF h k) k x)) <|
  .cons (specA_of hEE ih Tryz.func134 (by kernel_rfl) (by decide) c_r07_place rc_r07_place.enc _ (fun x => e_r07_place (FF h k) k x)) <|
  .cons (specA_of hEE ih Tryz.func135 (by kernel_rfl) (by decide) c_r07_none rc_r07_none.enc _ (fun x => e_r07_none (FF h k) k x)) <|
  .cons (specA_of hEE ih Tryz.func138 (by kernel_rfl) (by decide) c_tree_mapper_marks rc_tree_mapper_marks.enc _ (fun x => e_tree_mapper_marks (FF h k) k x)) <|
  .cons (specA_of hEE ih Tryz.func139 (by kernel_rfl) (by decide) c_tree_each_Field rc_tree_each_Field.enc _ (fun x => e_tree_each_Field (FF h k) k x)) <|
  .cons (specA_of hEE ih Tryz.func140 (by kernel_rfl) (by decide) c_tree_mapper_rec_1 rc_tree_mapper_rec_1.enc _ (fun x => e_tree_mapper_rec_1 (FF h k) k x)) <|
  .cons (specA_of hEE ih Tryz.func141 (by kernel_rfl) (by decide) c_tree_mapper_typ rc_tree_mapper_typ.enc _ (fun x => e_tree_mapper_typ (FF h k) k x)) <|
  .cons (specA_of hEE ih Tryz.func142 (by kernel_rfl) (by decide) c_tree_each_Param rc_tree_each_Param.enc _ (fun x => e_tree_each_Param (FF h k) k x)) <|
  .cons (specA_of hEE ih Tryz.func143 (by kernel_rfl) (by decide) c_tree_mapper_routine_1 rc_tree_mapper_routine_1.enc _ (fun x => e_tree_mapper_routine_1 (FF h k) k x)) <|
  .cons (specA_of hEE ih Tryz.func144 (by kernel_rfl) (by decide) c_tree_mapper_expr rc_tree_mapper_expr.enc _ (fun x => e_tree_mapper_expr (FF h k) k x)) <|
  .cons (specA_of hEE ih Tryz.func145 (by kernel_rfl) (by decide) c_tree_each_Expr rc_tree_each_Expr.enc _ (fun x => e_tree_each_Expr (FF h k) k x)) <|
  .cons (hh.o_by) <|
  .nil
theorem specs {h : Fam} (hh : HandOK h) : ∀ k f, SpecOK Tryz.prog EE (sp (FF h k)) f
  | 0 => look_ok (specs0 hh)
  | k + 1 => look_ok (specsS hh k (specs hh k))
end Go.Ev
end
section
open Go
namespace Go.Ev
theorem wrap_ok {n : Int} (h0 : -9223372036854775808 ≤ n) (h1 : n ≤ 9223372036854775807) : IntKind.i64.wrap n = n := by rw [IntKind.wrap_i64]; omega
theorem wrap_succ {i n : Nat} (h : i < n) (hn : n ≤ maxLen) : IntKind.i64.wrap ((i : Int) + 1) = ((i + 1 : Nat) : Int) := by
  simp only [maxLen] at hn
  rw [wrap_ok (by omega) (by omega)]
  rfl
theorem ba_beq (a b : ByteArray) : (a.toList == b.toList) = decide (a = b) := by
  rw [ByteArray.toList_eq, ByteArray.toList_eq]
  by_cases h : a = b
  · subst h; simp
  · have : a.data.toList ≠ b.data.toList := fun he => h (by cases a; cases b; simp at he; simp [he])
    have h2 : (a.data.toList == b.data.toList) = false := by simpa using this
    rw [h2, decide_eq_false h]
theorem up_ind {C : Nat → Nat → Prop} (n : Nat) (h0 : ∀ j, C (j + 1) n) (hs : ∀ j i, i < n → C j (i + 1) → C (j + 1) i) : ∀ j i, i ≤ n → n - i < j → C j i := by
  intro j
  induction j with
  | zero => intro i _ h; omega
  | succ j ih =>
    intro i hi hj
    rcases Nat.lt_or_ge i n with h | h
    · exact hs j i h (ih (i + 1) (by omega) (by omega))
    · have : i = n := by omega
      subst this
      exact h0 j
def eqG {α : Type} (d : α) (f : α → α → Option Bool) : Nat → List α → List α → Int → Int → Option Bool
  | 0, _, _, _, _ => none
  | j + 1, v0, v1, v2, v3 => (if decide (v3 < v2) = true then (if 0 ≤ v3 then (if v3 < (v1.length : Int) then (if 0 ≤ v3 then (if v3 < (v0.length : Int) then ((f (v1.getD v3.toNat d) (v0.getD v3.toNat d)).bind fun t9 => (if (!t9) = true then some false else eqG d f j v0 v1 v2 (IntKind.i64.wrap (v3 + 1)))) else none) else none) else none) else none) else some true)
end Go.Ev
end
section
namespace Go.Ev
open Go.RowKit
variable {I : Nat → Type}
inductive KD where
  | bool | str | int (k : IntKind) | sl (e : Nat) | no
  deriving DecidableEq
def kd : DV I → KD
  | .lit (.bool _) => .bool
  | .lit (.string _) => .str
  | .lit (.int k _) => .int k
  | .sl e _ => .sl e
  | _ => .no
theorem kd_bool {d : DV I} (h : kd d = .bool) : ∃ b, d = .lit (.bool b) := by
  unfold kd at h
  split at h <;> first | exact ⟨_, rfl⟩ | cases h
theorem kd_str {d : DV I} (h : kd d = .str) : ∃ b, d = .lit (.string b) := by
  unfold kd at h
  split at h <;> first | exact ⟨_, rfl⟩ | cases h
theorem kd_int {d : DV I} {k : IntKind} (h : kd d = .int k) : ∃ b, d = .lit (.int k b) := by
  unfold kd at h
  split at h <;> first | (injection h with h; subst h; exact ⟨_, rfl⟩) | cases h
theorem kd_sl {d : DV I} {e : Nat} (h : kd d = .sl e) : ∃ b, d = .sl e b := by
  unfold kd at h
  split at h <;> first | (injection h with h; subst h; exact ⟨_, rfl⟩) | cases h
def flatK (ty : Nat → Option TI) : Nat → Nat → Option (List KD)
  | 0, _ => none
  | n + 1, t => match ty t with
    | none => none
    | some ti => match ti.td with
      | .bool => some [.bool]
      | .string => some [.str]
      | .int k => some [.int k]
      | .slice e => some [.sl e]
      | .struct fs => (fs.mapM fun p => flatK ty n p.2).map List.flatten
      | _ => none
def contig (ty : Nat → Option TI) : Nat → List (Nat × Nat) → Option Nat
  | o, [] => some o
  | o, (off, t) :: r => match Nat.beq off o, ty t with
    | true, some ti => contig ty (o + ti.size) r
    | _, _ => none
def contigOk (ty : Nat → Option TI) (p : Nat × TI) : Bool := match p.2.td with
  | .struct fs => match contig ty 0 fs with
    | some o => Nat.beq o p.2.size
    | none => false
  | .slice e => match ty e with
    | some ei => Nat.blt 0 ei.size && Nat.beq p.2.size 1
    | none => false
  | .bool | .string | .int _ => Nat.beq p.2.size 1
  | _ => true
def QD (Q : (t : Nat) → I t → Prop) : DV I → Prop
  | .sl t xs => xs.length ≤ maxLen ∧ ∀ x ∈ xs, Q t x
  | .lit (.string s) => s.size ≤ maxLen
  | .lit (.int k n) => (Lit.int k n).wf = true
  | _ => True
def bkD (bk : (t : Nat) → I t → Nat) : DV I → Nat
  | .sl t xs => (xs.map (bk t)).sum + 1
  | .lit (.string s) => s.size + 1
  | _ => 1
section
variable {P : Program} {E : Env I} {H : Type} {enc : TypeId × Value → H} {w : World} {base : Nat} {spare : Nat → Bool} {held : Bool}
def allS (w : World) : Nat → Nat → Prop := fun g _ => g < w.heap.size
inductive DReps (E : Env I) (Sl : Nat → Nat → Prop) (w : World) : List Value → List (DV I) → Prop
  | nil : DReps E Sl w [] []
  | cons {v : Value} {vs : List Value} {x : DV I} {xs : List (DV I)} (h : DRep E Sl w v x) (hs : DReps E Sl w vs xs) : DReps E Sl w (v :: vs) (x :: xs)
theorem DReps.append {Sl : Nat → Nat → Prop} {us vs : List Value} {xs ys : List (DV I)} (h : DReps E Sl w us xs) (k : DReps E Sl w vs ys) : DReps E Sl w (us ++ vs) (xs ++ ys) := by
  induction h with
  | nil => exact k
  | cons h _ ih => exact .cons h ih
theorem DReps.len {Sl : Nat → Nat → Prop} {us : List Value} {xs : List (DV I)} (h : DReps E Sl w us xs) : us.length = xs.length := by
  induction h with
  | nil => rfl
  | cons _ _ ih => simp [ih]
theorem DReps.get {Sl : Nat → Nat → Prop} {us : List Value} {xs : List (DV I)} (h : DReps E Sl w us xs) : ∀ (j : Nat) (y : DV I), xs[j]? = some y → ∃ u, us[j]? = some u ∧ DRep E Sl w u y := by
  induction h with
  | nil => intro j y h; simp at h
  | cons h _ ih =>
    intro j y hj
    cases j with
    | zero => simp at hj; subst hj; exact ⟨_, by simp, h⟩
    | succ j => simp at hj; simpa using ih j y hj
theorem DReps.preps {Sl : Nat → Nat → Prop} {X0 : Nat → Prop} {B0 : Nat} {us : List Value} {xs : List (DV I)} (h : DReps E Sl w us xs) : PReps E Sl w X0 B0 us (xs.map .d) [] [] := by
  induction h with
  | nil => exact .nil
  | cons h _ ih => exact .cons _ _ _ _ [] [] [] [] (.d _ _ h) ih
structure Meas (E : Env I) (Q : (t : Nat) → I t → Prop) (bk : (t : Nat) → I t → Nat) (ub : DataW H → Nat) (rows : List Nat) : Prop where
  contig : ∀ t ti, E.ty t = some ti → contigOk E.ty (t, ti) = true
  rowsIn : ∀ t ti e, E.ty t = some ti → ti.td = .slice e → flatK E.ty 9 t ≠ none → e ∈ rows
  rowsK : ∀ e ∈ rows, ∃ l, flatK E.ty 9 e = some l
  full : ∀ e ∈ rows, ∀ ds, flatK E.ty 9 e = some (ds.map kd) → ∃ x : I e, E.row e x = ds
  q : ∀ e ∈ rows, ∀ (x : I e), (∀ d ∈ E.row e x, QD Q d) → Q e x
  b : ∀ e ∈ rows, ∀ (x : I e) ti, E.ty e = some ti → bk e x ≤ ((E.row e x).map (bkD bk)).sum + (match ti.td with | .struct _ => 1 | _ => 0)
  nil : 1 ≤ ub .nil
  lit : ∀ l, 1 ≤ ub (.lit l)
  str : ∀ l, l.length + 1 ≤ ub (.lit (.string l))
  sl : ∀ a b, (a.map ub).sum + 1 ≤ ub (.slice a b)
  agg : ∀ a, (a.map ub).sum + 1 ≤ ub (.agg a)
theorem mapM_mono {α β : Type} {f g : α → Option β} : ∀ {l : List α} {r : List β}, l.mapM f = some r → (∀ a ∈ l, ∀ b, f a = some b → g a = some b) → l.mapM g = some r
  | [], r, h, _ => by simpa using h
  | a :: l, r, h, hg => by
    simp only [List.mapM_cons, Option.bind_eq_bind, Option.pure_def] at h ⊢
    obtain ⟨b, h1, h⟩ := Option.bind_eq_some_iff.1 h
    obtain ⟨bs, h2, h3⟩ := Option.bind_eq_some_iff.1 h
    rw [hg a List.mem_cons_self b h1, mapM_mono h2 (fun x hx => hg x (List.mem_cons_of_mem _ hx))]
    exact h3
theorem flatK_mono {ty : Nat → Option TI} : ∀ (n t : Nat) (l : List KD), flatK ty n t = some l → flatK ty (n + 1) t = some l
  | 0, t, l, h => by cases h
  | n + 1, t, l, h => by
    unfold flatK at h ⊢
    cases ht : ty t with
    | none => rw [ht] at h; cases h
    | some ti =>
      rw [ht] at h
      simp only at h ⊢
      cases htd : ti.td with
      | struct fs =>
        rw [htd] at h
        simp only at h ⊢
        obtain ⟨ls, h1, h2⟩ := Option.map_eq_some_iff.1 h
        rw [mapM_mono h1 (fun p _ b hb => flatK_mono n p.2 b hb)]
        simp [h2]
      | _ => rw [htd] at h; exact h
theorem cellsOf_size (hE : EnvOK P E) {t : Nat} {ti : TI} (h : E.ty t = some ti) : P.cellsOf t = ti.size := by
  have := hE.size h
  unfold Program.cellsOf
  cases hq : P.info? t with
  | none => rw [hq] at this; cases this
  | some i => rw [hq] at this; simpa using this
def Rdd (E : Env I) (Q : (t : Nat) → I t → Prop) (bk : (t : Nat) → I t → Nat) (w : World) (cs : List Value) (n : Nat) (l : List KD) : Prop :=
  ∃ ds, DReps E (allS w) w cs ds ∧ ds.map kd = l ∧ (∀ d ∈ ds, QD Q d) ∧ (ds.map (bkD bk)).sum ≤ n
theorem rd_fields (hE : EnvOK P E) {Q : (t : Nat) → I t → Prop} {bk : (t : Nat) → I t → Nat} {ub : DataW H → Nat}
    (f : Nat → List Value → Option (DataW H × List MemPlace)) (hf : ∀ t ti cs y l, E.ty t = some ti → flatK E.ty 9 t = some l → f t cs = some y → Rdd E Q bk w cs (ub y.1) l) :
    ∀ (fs : List (Nat × Nat)) (o : Nat) (cs : List Value) (ys : List (DataW H × List MemPlace)) (ls : List (List KD)) (e : Nat), contig E.ty o fs = some e → cs.length = e →
      fs.mapM (fun p => f p.2 ((cs.drop p.1).take (P.cellsOf p.2))) = some ys → fs.mapM (fun p => flatK E.ty 9 p.2) = some ls → Rdd E Q bk w (cs.drop o) ((ys.map fun y => ub y.1).sum) ls.flatten
  | [], o, cs, ys, ls, e, hc, hl, h1, h2 => by
    simp only [contig, Option.some.injEq] at hc
    simp only [List.mapM_nil, Option.pure_def, Option.some.injEq] at h1 h2
    subst h1; subst h2
    refine ⟨[], ?_, rfl, fun d hd => (by cases hd), Nat.le_refl _⟩
    rw [List.drop_eq_nil_of_le (by omega)]
    exact .nil
  | (off, t) :: fs, o, cs, ys, ls, e, hc, hl, h1, h2 => by
    simp only [contig] at hc
    split at hc
    · rename_i ti hoff ht
      have hoff := Nat.eq_of_beq_eq_true hoff
      subst hoff
      simp only [List.mapM_cons, Option.bind_eq_bind, Option.pure_def] at h1 h2
      obtain ⟨y, h11, h1⟩ := Option.bind_eq_some_iff.1 h1
      obtain ⟨ys', h12, h13⟩ := Option.bind_eq_some_iff.1 h1
      obtain ⟨l, h21, h2⟩ := Option.bind_eq_some_iff.1 h2
      obtain ⟨ls', h22, h23⟩ := Option.bind_eq_some_iff.1 h2
      injection h13 with h13
      injection h23 with h23
      subst h13; subst h23
      obtain ⟨ds, a1, a2, a3, a4⟩ := hf t ti _ y l ht h21 h11
      obtain ⟨es, b1, b2, b3, b4⟩ := rd_fields hE f hf fs (off + ti.size) cs ys' ls' e hc hl h12 h22
      rw [cellsOf_size hE ht] at a1
      refine ⟨ds ++ es, ?_, by simp [a2, b2], fun d hd => ?_, ?_⟩
      · have := a1.append b1
        rwa [← List.drop_drop, List.take_append_drop] at this
      · rcases List.mem_append.1 hd with hd | hd
        · exact a3 d hd
        · exact b3 d hd
      · simp only [List.map_append, List.sum_append, List.map_cons, List.sum_cons]
        omega
    · cases hc
theorem trod_bool {t : TypeId} {fuel : Nat} {cs : List Value} {x : DataW H × List MemPlace} (ht : P.underlying t = some .bool) (h : DataW.trod enc P w base spare held fuel t cs = some x) : ∃ b, cs = [.bool b] ∧ x = (.lit (.bool b), []) := by
  cases fuel with
  | zero => simp [DataW.trod] at h
  | succ n =>
    unfold DataW.trod at h
    rw [ht] at h
    split at h <;> simp_all
theorem trod_struct {t : TypeId} {fuel : Nat} {fs : Array Field} {cs : List Value} {x : DataW H × List MemPlace} (ht : P.underlying t = some (.struct fs)) (h : DataW.trod enc P w base spare held fuel t cs = some x) :
    ∃ n xs, fuel = n + 1 ∧ cs.length = P.cellsOf t ∧ (fs.toList.mapM fun f => DataW.trod enc P w base spare held n f.type ((cs.drop f.offset).take (P.cellsOf f.type))) = some xs ∧ x.1 = .agg (xs.map (·.1)) := by
  cases fuel with
  | zero => simp [DataW.trod] at h
  | succ n =>
    unfold DataW.trod at h
    rw [ht] at h
    simp only at h
    split at h
    · rename_i hl
      obtain ⟨xs, h1, h2⟩ := Option.map_eq_some_iff.1 h
      exact ⟨n, xs, rfl, hl, h1, by rw [← h2]⟩
    · cases h
theorem add_spot {a : Addr} {u : Value} (h : w.cell? a = some u) : a = ⟨a.block, a.off, none⟩ := by
  obtain ⟨b, o, sp⟩ := a
  cases sp with
  | none => rfl
  | some q =>
    exfalso
    unfold World.cell? at h
    split at h
    · simp at h
    · cases h
theorem rd (hE : EnvOK P E) {Q : (t : Nat) → I t → Prop} {bk : (t : Nat) → I t → Nat} {ub : DataW H → Nat} {rows : List Nat} (m : Meas E Q bk ub rows) :
    ∀ (n t : Nat) (ti : TI) (cs : List Value) (y : DataW H × List MemPlace) (l : List KD), E.ty t = some ti → flatK E.ty 9 t = some l → DataW.trod enc P w base spare held n t cs = some y →
      Rdd E Q bk w cs (ub y.1 - (match ti.td with | .struct _ => 1 | _ => 0)) l ∧ (match ti.td with | .struct _ => 1 | _ => 0) ≤ ub y.1 ∧ cs.length = ti.size
  | 0, t, ti, cs, y, l, ht, hl, h => by simp [DataW.trod] at h
  | n + 1, t, ti, cs, y, l, ht, hl, h => by
    obtain ⟨d, hd, hdt⟩ := hE.desc ht
    have hcont := m.contig t ti ht
    have hl0 := hl
    unfold flatK at hl
    rw [ht] at hl
    simp only at hl
    have one : ∀ {v : Value} {x : DV I}, cs = [v] → DRep E (allS w) w v x → QD Q x → bkD bk x ≤ ub y.1 → l = [kd x] → ti.size = 1 → Rdd E Q bk w cs (ub y.1 - 0) l ∧ 0 ≤ ub y.1 ∧ cs.length = ti.size := by
      intro v x hcs hr hq hb hk hs
      refine ⟨⟨[x], ?_, ?_, ?_, ?_⟩, Nat.zero_le _, ?_⟩
      · rw [hcs]; exact .cons hr .nil
      · rw [hk]; rfl
      · intro d hd; rw [List.mem_singleton] at hd; rw [hd]; exact hq
      · simpa using hb
      · rw [hcs, hs]; rfl
    cases htd : ti.td with
    | bool =>
      rw [htd] at hl hdt
      simp only [Option.some.injEq] at hl
      have hsz : ti.size = 1 := by simp only [contigOk, htd] at hcont; exact Nat.eq_of_beq_eq_true hcont
      have hd' : P.underlying t = some .bool := by rw [hd]; cases d <;> simp [tdOf] at hdt; rfl
      obtain ⟨b, rfl, rfl⟩ := trod_bool hd' h
      exact one (x := .lit (.bool b)) rfl (.lit _ rfl) trivial (m.lit _) hl.symm hsz
    | string =>
      rw [htd] at hl hdt
      simp only [Option.some.injEq] at hl
      have hsz : ti.size = 1 := by simp only [contigOk, htd] at hcont; exact Nat.eq_of_beq_eq_true hcont
      have hd' : P.underlying t = some .string := by rw [hd]; cases d <;> simp [tdOf] at hdt; rfl
      obtain ⟨b, rfl, rfl, hb⟩ := DataW.trod_string hd' h
      exact one (x := .lit (.string b)) rfl (.lit _ rfl) hb (by have := m.str b.data.toList; simpa [bkD] using this) hl.symm hsz
    | int k =>
      rw [htd] at hl hdt
      simp only [Option.some.injEq] at hl
      have hsz : ti.size = 1 := by simp only [contigOk, htd] at hcont; exact Nat.eq_of_beq_eq_true hcont
      have hd' : P.underlying t = some (.int k) := by
        rw [hd]
        cases d <;> simp [tdOf] at hdt
        rw [hdt]
      obtain ⟨b, rfl, rfl, hb⟩ := DataW.trod_int hd' h
      exact one (x := .lit (.int k b)) rfl (.lit _ rfl) hb (m.lit _) hl.symm hsz
    | other => rw [htd] at hl; cases hl
    | array a b => rw [htd] at hl; cases hl
    | struct fs =>
      rw [htd] at hl hdt
      simp only at hl
      obtain ⟨ls, h1, h2⟩ := Option.map_eq_some_iff.1 hl
      have : ∃ fa : Array Field, d = .struct fa ∧ fa.toList.map (fun f => (f.offset, f.type)) = fs := by
        cases d <;> simp [tdOf] at hdt
        exact ⟨_, rfl, hdt⟩
      obtain ⟨fa, rfl, hfs⟩ := this
      obtain ⟨n', xs, hn, hcl, hm, hy⟩ := trod_struct hd h
      have hn : n = n' := by omega
      subst hn
      rw [cellsOf_size hE ht] at hcl
      simp only [contigOk, htd] at hcont
      split at hcont
      · rename_i e he
        have he' := Nat.eq_of_beq_eq_true hcont
        have hmm : fs.mapM (fun p => (fun t cs => DataW.trod enc P w base spare held n t cs) p.2 ((cs.drop p.1).take (P.cellsOf p.2))) = some xs := by
          rw [← hfs, List.mapM_map]
          exact hm
        have h9 : fs.mapM (fun p => flatK E.ty 9 p.2) = some ls := mapM_mono h1 fun p _ b hb => flatK_mono 8 p.2 b hb
        have key := rd_fields (Q := Q) (bk := bk) (ub := ub) (w := w) hE (fun t cs => DataW.trod enc P w base spare held n t cs) (fun t ti cs y l ht hl h => by
          obtain ⟨⟨ds, a1, a2, a3, a4⟩, _, _⟩ := rd hE m n t ti cs y l ht hl h
          exact ⟨ds, a1, a2, a3, by omega⟩) fs 0 cs xs ls e he (by rw [hcl, he']) hmm h9
        obtain ⟨ds, b1, b2, b3, b4⟩ := key
        have hub := m.agg (xs.map (·.1))
        rw [List.map_map] at hub
        rw [hy]
        refine ⟨⟨ds, by simpa using b1, by rw [b2, h2], b3, ?_⟩, by simp only; omega, hcl⟩
        have : (xs.map (ub ∘ fun x => x.1)) = xs.map fun y => ub y.1 := rfl
        rw [this] at hub
        simp only
        omega
      · cases hcont
    | slice e =>
      rw [htd] at hl hdt
      simp only [Option.some.injEq] at hl
      have hd' : P.underlying t = some (.slice e) := by
        rw [hd]
        cases d <;> simp [tdOf] at hdt
        rw [hdt]
      have her : e ∈ rows := m.rowsIn t ti e ht htd (by rw [hl0]; simp)
      obtain ⟨le, hle⟩ := m.rowsK e her
      simp only [contigOk, htd] at hcont
      split at hcont
      · rename_i ei hei
        rw [Bool.and_eq_true] at hcont
        have hpos : 0 < ei.size := by have := hcont.1; simp [Nat.blt] at this; omega
        have hcof := cellsOf_size hE hei
        have hsz : ti.size = 1 := Nat.eq_of_beq_eq_true hcont.2
        rcases DataW.trod_slice hd' h with ⟨rfl, rfl⟩ | ⟨a, len, cap, elems, rest, n', hn, rfl, rfl, hb, hlc, hcm, hel, hget, _, _⟩
        · exact one (x := .sl e []) rfl (.sl e [] none 0 0 0 0 (fun _ => undef) rfl (Nat.le_refl _) (by omega) (by omega) (by simp) (by simp)) ⟨Nat.zero_le _, by simp⟩ (by simpa [bkD] using m.nil) hl.symm hsz
        · have hn : n = n' := by omega
          subst hn
          have each : ∀ i, i < len → ∃ (x : I e) (cs' : List Value), DReps E (allS w) w cs' (E.row e x) ∧ Q e x ∧ cs'.length = ei.size ∧ (∀ j u, cs'[j]? = some u → w.cell? (a.add (i * ei.size + j)) = some u) ∧ ∃ y', elems[i]? = some y' ∧ bk e x ≤ ub y'.1 := by
            intro i hi
            have h1 := hget i hi
            rw [List.getElem?_eq_getElem (by omega)] at h1
            obtain ⟨cs', hc, ht'⟩ := Option.bind_eq_some_iff.1 h1
            obtain ⟨⟨ds, a1, a2, a3, a4⟩, a5, a6⟩ := rd hE m n e ei cs' _ le hei hle ht'
            obtain ⟨x, hx⟩ := m.full e her ds (by rw [hle, a2])
            obtain ⟨_, hcl, hcell⟩ := World.cells?_some hc
            refine ⟨x, cs', by rw [hx]; exact a1, m.q e her x (by rw [hx]; exact a3), a6, fun j u hu => ?_, _, List.getElem?_eq_getElem (by omega), ?_⟩
            · have hj : j < P.cellsOf e := by rw [← hcl]; exact (List.getElem?_eq_some_iff.1 hu).1
              rw [← hu, ← hcell j hj, Addr.add_add, hcof]
            · have := m.b e her x ei hei
              rw [hx] at this
              omega
          have pick : ∀ q, q ≤ len → ∃ xs : List (I e), xs.length = q ∧ (∀ x ∈ xs, Q e x) ∧ (xs.map (bk e)).sum ≤ ((elems.take q).map fun y => ub y.1).sum ∧
              ∀ i x, xs[i]? = some x → ∃ cs', DReps E (allS w) w cs' (E.row e x) ∧ cs'.length = ei.size ∧ ∀ j u, cs'[j]? = some u → w.cell? (a.add (i * ei.size + j)) = some u := by
            intro q
            induction q with
            | zero => intro _; exact ⟨[], rfl, by simp, by simp, fun j p hj => by simp at hj⟩
            | succ q ih =>
              intro hq
              obtain ⟨xs, hxl, hxo, hxs, hx⟩ := ih (by omega)
              obtain ⟨x, cs', k1, k2, k3, k4, y', k5, k6⟩ := each q (by omega)
              refine ⟨xs ++ [x], by simp [hxl], ?_, ?_, fun j p hj => ?_⟩
              · intro z hz
                rcases List.mem_append.1 hz with hz | hz
                · exact hxo z hz
                · rw [List.mem_singleton.1 hz]; exact k2
              · rw [List.take_add_one, k5]
                simp only [Option.toList_some, List.map_append, List.sum_append, List.map_cons, List.map_nil, List.sum_cons, List.sum_nil]
                omega
              · rcases Nat.lt_or_ge j xs.length with hlt | hge
                · rw [List.getElem?_append_left hlt] at hj
                  exact hx j p hj
                · have hj' : j = xs.length := by
                    have := (List.getElem?_eq_some_iff.1 hj).1
                    rw [List.length_append, List.length_singleton] at this
                    omega
                  subst hj'
                  have : x = p := by simpa using hj
                  subst this
                  rw [hxl]
                  exact ⟨cs', k1, k3, k4⟩
          obtain ⟨xs, hxl, hxo, hxs, hx⟩ := pick len (Nat.le_refl _)
          have htk : elems.take len = elems := List.take_of_length_le (by omega)
          rw [htk] at hxs
          have hsp : 0 < len → a = ⟨a.block, a.off, none⟩ := by
            intro h0
            obtain ⟨x, cs', _, _, k3, k4, _⟩ := each 0 h0
            have : 0 < cs'.length := by rw [k3]; exact hpos
            have h0 := k4 0 cs'[0] (List.getElem?_eq_getElem this)
            rw [Nat.zero_mul, Nat.zero_add] at h0
            exact add_spot (by simpa [Addr.add] using h0)
          have cellAt : ∀ i x j y, xs[i]? = some x → (E.row e x)[j]? = some y → ∃ u, w.cell? ⟨a.block, a.off + (i * (E.row e x).length + j), none⟩ = some u ∧ DRep E (allS w) w u y := by
            intro i x j y hi hj
            obtain ⟨cs', k1, k2, k3⟩ := hx i x hi
            obtain ⟨u, hu, hr⟩ := k1.get j y hj
            have h0 : 0 < len := by have := (List.getElem?_eq_some_iff.1 hi).1; omega
            have hc := k3 j u hu
            rw [hsp h0, add_at] at hc
            refine ⟨u, ?_, hr⟩
            rw [← k1.len, k2]
            exact hc
          refine one (x := .sl e xs) rfl (.sl e xs (some a) len cap a.block a.off (fun q => (w.cell? ⟨a.block, a.off + q, none⟩).getD undef) hxl hlc (by simp only [maxLen] at hcm; omega) (fun h0 => by rw [← hsp h0]) (fun i x j y hi hj => ?_) (fun i x j y hi hj => ?_)) ⟨by omega, hxo⟩ ?_ hl.symm hsz
          · obtain ⟨u, hu, _⟩ := cellAt i x j y hi hj
            exact ⟨by rw [hu]; rfl, cell_block hu⟩
          · obtain ⟨u, hu, hr⟩ := cellAt i x j y hi hj
            simp only [hu, Option.getD_some]
            exact hr
          · have := m.sl (elems.map (·.1)) (rest.map (·.1))
            rw [List.map_map] at this
            simp only [bkD]
            have h2 : (elems.map (ub ∘ fun x => x.1)) = elems.map fun y => ub y.1 := rfl
            rw [h2] at this
            omega
      · cases hcont
end
end Go.Ev
end
section
open Go Go.Proofs
namespace Go.Ev
set_option maxRecDepth 100000
set_option maxHeartbeats 4000000
set_option linter.unusedVariables false
def bk_v9 (x : ByteArray) : Nat := (x.size + 1) + 0
def ft_v9 (x : ByteArray) : Prop := x.size ≤ maxLen
def bks_v9 : List ByteArray → Nat
  | [] => 0
  | x :: r => bk_v9 x + bks_v9 r
def fts_v9 : List ByteArray → Prop
  | [] => True
  | x :: r => ft_v9 x ∧ fts_v9 r
theorem bks_v9_eq : ∀ l : List ByteArray, bks_v9 l = (l.map bk_v9).sum
  | [] => rfl
  | x :: r => by simp [bks_v9, bks_v9_eq r]
theorem fts_v9_iff : ∀ l : List ByteArray, fts_v9 l ↔ ∀ x ∈ l, ft_v9 x
  | [] => by simp [fts_v9]
  | x :: r => by simp [fts_v9, fts_v9_iff r]
def bk_v22 (x : (List ByteArray)) : Nat := (bks_v9 x + 1) + 0
def ft_v22 (x : (List ByteArray)) : Prop := (x.length ≤ maxLen ∧ fts_v9 x)
def bk_TPair : TPair → Nat
  | ⟨x0, x1⟩ => (x0.size + 1) + ((x1.size + 1) + 0 ) + 1
def ft_TPair : TPair → Prop
  | ⟨x0, x1⟩ => x0.size ≤ maxLen ∧ x1.size ≤ maxLen
mutual
def bk_TExpr : TExpr → Nat
  | ⟨x0, x1, x2, x3, x4⟩ => 1 + (1 + ((x2.size + 1) + ((x3.size + 1) + ((bks_TExpr x4 + 1) + 0 )))) + 1
def bks_TExpr : List TExpr → Nat
  | [] => 0
  | x :: r => bk_TExpr x + bks_TExpr r
end
mutual
def ft_TExpr : TExpr → Prop
  | ⟨x0, x1, x2, x3, x4⟩ => (Lit.int .i64 x0).wf = true ∧ (Lit.int .i64 x1).wf = true ∧ x2.size ≤ maxLen ∧ x3.size ≤ maxLen ∧ (x4.length ≤ maxLen ∧ fts_TExpr x4)
def fts_TExpr : List TExpr → Prop
  | [] => True
  | x :: r => ft_TExpr x ∧ fts_TExpr r
end
theorem bks_TExpr_eq : ∀ l : List TExpr, bks_TExpr l = (l.map bk_TExpr).sum
  | [] => rfl
  | x :: r => by simp [bks_TExpr, bks_TExpr_eq r]
theorem fts_TExpr_iff : ∀ l : List TExpr, fts_TExpr l ↔ ∀ x ∈ l, ft_TExpr x
  | [] => by simp [fts_TExpr]
  | x :: r => by simp [fts_TExpr, fts_TExpr_iff r]
def bk_TField : TField → Nat
  | ⟨x0, x1, x2, x3⟩ => (bks_v9 x0 + 1) + ((bks_v9 x1 + 1) + ((x2.size + 1) + (1 + 0 ))) + 1
def bks_TField : List TField → Nat
  | [] => 0
  | x :: r => bk_TField x + bks_TField r
def ft_TField : TField → Prop
  | ⟨x0, x1, x2, x3⟩ => (x0.length ≤ maxLen ∧ fts_v9 x0) ∧ (x1.length ≤ maxLen ∧ fts_v9 x1) ∧ x2.size ≤ maxLen ∧ (Lit.int .i64 x3).wf = true
def fts_TField : List TField → Prop
  | [] => True
  | x :: r => ft_TField x ∧ fts_TField r
theorem bks_TField_eq : ∀ l : List TField, bks_TField l = (l.map bk_TField).sum
  | [] => rfl
  | x :: r => by simp [bks_TField, bks_TField_eq r]
theorem fts_TField_iff : ∀ l : List TField, fts_TField l ↔ ∀ x ∈ l, ft_TField x
  | [] => by simp [fts_TField]
  | x :: r => by simp [fts_TField, fts_TField_iff r]
def bk_TVar : TVar → Nat
  | ⟨x0, x1, x2, x3, x4, x5⟩ => (bks_v9 x0 + 1) + ((bks_v9 x1 + 1) + ((x2.size + 1) + (1 + (1 + ((x5.size + 1) + 0 ))))) + 1
def bks_TVar : List TVar → Nat
  | [] => 0
  | x :: r => bk_TVar x + bks_TVar r
def ft_TVar : TVar → Prop
  | ⟨x0, x1, x2, x3, x4, x5⟩ => (x0.length ≤ maxLen ∧ fts_v9 x0) ∧ (x1.length ≤ maxLen ∧ fts_v9 x1) ∧ x2.size ≤ maxLen ∧ (Lit.int .i64 x3).wf = true ∧ (Lit.int .i64 x4).wf = true ∧ x5.size ≤ maxLen
def fts_TVar : List TVar → Prop
  | [] => True
  | x :: r => ft_TVar x ∧ fts_TVar r
theorem bks_TVar_eq : ∀ l : List TVar, bks_TVar l = (l.map bk_TVar).sum
  | [] => rfl
  | x :: r => by simp [bks_TVar, bks_TVar_eq r]
theorem fts_TVar_iff : ∀ l : List TVar, fts_TVar l ↔ ∀ x ∈ l, ft_TVar x
  | [] => by simp [fts_TVar]
  | x :: r => by simp [fts_TVar, fts_TVar_iff r]
mutual
def bk_TStmt : TStmt → Nat
  | ⟨x0, x1, x2, x3, x4, x5, x6, x7, x8, x9, x10, x11, x12, x13, x14, x15⟩ => (bks_v9 x0 + 1) + ((bks_v9 x1 + 1) + (1 + ((x3.size + 1) + (1 + (1 + ((x6.size + 1) + ((x7.size + 1) + ((bks_TExpr x8 + 1) + ((bks_TExpr x9 + 1) + (1 + (1 + ((bks_TStmt x12 + 1) + ((bks_TStmt x13 + 1) + ((bks_v9 x14 + 1) + ((bks_v9 x15 + 1) + 0 ))))))))))))))) + 1
def bks_TStmt : List TStmt → Nat
  | [] => 0
  | x :: r => bk_TStmt x + bks_TStmt r
end
mutual
def ft_TStmt : TStmt → Prop
  | ⟨x0, x1, x2, x3, x4, x5, x6, x7, x8, x9, x10, x11, x12, x13, x14, x15⟩ => (x0.length ≤ maxLen ∧ fts_v9 x0) ∧ (x1.length ≤ maxLen ∧ fts_v9 x1) ∧ (Lit.int .i64 x2).wf = true ∧ x3.size ≤ maxLen ∧ (Lit.int .i64 x4).wf = true ∧ (Lit.int .i64 x5).wf = true ∧ x6.size ≤ maxLen ∧ x7.size ≤ maxLen ∧ (x8.length ≤ maxLen ∧ fts_TExpr x8) ∧ (x9.length ≤ maxLen ∧ fts_TExpr x9) ∧ True ∧ True ∧ (x12.length ≤ maxLen ∧ fts_TStmt x12) ∧ (x13.length ≤ maxLen ∧ fts_TStmt x13) ∧ (x14.length ≤ maxLen ∧ fts_v9 x14) ∧ (x15.length ≤ maxLen ∧ fts_v9 x15)
def fts_TStmt : List TStmt → Prop
  | [] => True
  | x :: r => ft_TStmt x ∧ fts_TStmt r
end
theorem bks_TStmt_eq : ∀ l : List TStmt, bks_TStmt l = (l.map bk_TStmt).sum
  | [] => rfl
  | x :: r => by simp [bks_TStmt, bks_TStmt_eq r]
theorem fts_TStmt_iff : ∀ l : List TStmt, fts_TStmt l ↔ ∀ x ∈ l, ft_TStmt x
  | [] => by simp [fts_TStmt]
  | x :: r => by simp [fts_TStmt, fts_TStmt_iff r]
def bk_TParam : TParam → Nat
  | ⟨x0, x1, x2, x3, x4⟩ => (x0.size + 1) + (1 + (1 + ((x3.size + 1) + (1 + 0 )))) + 1
def bks_TParam : List TParam → Nat
  | [] => 0
  | x :: r => bk_TParam x + bks_TParam r
def ft_TParam : TParam → Prop
  | ⟨x0, x1, x2, x3, x4⟩ => x0.size ≤ maxLen ∧ (Lit.int .i64 x1).wf = true ∧ (Lit.int .i64 x2).wf = true ∧ x3.size ≤ maxLen ∧ (Lit.int .i64 x4).wf = true
def fts_TParam : List TParam → Prop
  | [] => True
  | x :: r => ft_TParam x ∧ fts_TParam r
theorem bks_TParam_eq : ∀ l : List TParam, bks_TParam l = (l.map bk_TParam).sum
  | [] => rfl
  | x :: r => by simp [bks_TParam, bks_TParam_eq r]
theorem fts_TParam_iff : ∀ l : List TParam, fts_TParam l ↔ ∀ x ∈ l, ft_TParam x
  | [] => by simp [fts_TParam]
  | x :: r => by simp [fts_TParam, fts_TParam_iff r]
def bk_TRec : TRec → Nat
  | ⟨x0, x1, x2, x3, x4⟩ => (bks_v9 x0 + 1) + ((bks_v9 x1 + 1) + ((x2.size + 1) + ((bks_TField x3 + 1) + ((bks_v9 x4 + 1) + 0 )))) + 1
def bks_TRec : List TRec → Nat
  | [] => 0
  | x :: r => bk_TRec x + bks_TRec r
def ft_TRec : TRec → Prop
  | ⟨x0, x1, x2, x3, x4⟩ => (x0.length ≤ maxLen ∧ fts_v9 x0) ∧ (x1.length ≤ maxLen ∧ fts_v9 x1) ∧ x2.size ≤ maxLen ∧ (x3.length ≤ maxLen ∧ fts_TField x3) ∧ (x4.length ≤ maxLen ∧ fts_v9 x4)
def fts_TRec : List TRec → Prop
  | [] => True
  | x :: r => ft_TRec x ∧ fts_TRec r
theorem bks_TRec_eq : ∀ l : List TRec, bks_TRec l = (l.map bk_TRec).sum
  | [] => rfl
  | x :: r => by simp [bks_TRec, bks_TRec_eq r]
theorem fts_TRec_iff : ∀ l : List TRec, fts_TRec l ↔ ∀ x ∈ l, ft_TRec x
  | [] => by simp [fts_TRec]
  | x :: r => by simp [fts_TRec, fts_TRec_iff r]
mutual
def bk_TRoutine : TRoutine → Nat
  | ⟨x0, x1, x2, x3, x4, x5, x6, x7, x8⟩ => (bks_v9 x0 + 1) + ((bks_v9 x1 + 1) + ((x2.size + 1) + (1 + ((bks_TParam x4 + 1) + ((bks_TVar x5 + 1) + ((bks_TRoutine x6 + 1) + ((bks_TStmt x7 + 1) + ((bks_v9 x8 + 1) + 0 )))))))) + 1
def bks_TRoutine : List TRoutine → Nat
  | [] => 0
  | x :: r => bk_TRoutine x + bks_TRoutine r
end
mutual
def ft_TRoutine : TRoutine → Prop
  | ⟨x0, x1, x2, x3, x4, x5, x6, x7, x8⟩ => (x0.length ≤ maxLen ∧ fts_v9 x0) ∧ (x1.length ≤ maxLen ∧ fts_v9 x1) ∧ x2.size ≤ maxLen ∧ (Lit.int .i64 x3).wf = true ∧ (x4.length ≤ maxLen ∧ fts_TParam x4) ∧ (x5.length ≤ maxLen ∧ fts_TVar x5) ∧ (x6.length ≤ maxLen ∧ fts_TRoutine x6) ∧ (x7.length ≤ maxLen ∧ fts_TStmt x7) ∧ (x8.length ≤ maxLen ∧ fts_v9 x8)
def fts_TRoutine : List TRoutine → Prop
  | [] => True
  | x :: r => ft_TRoutine x ∧ fts_TRoutine r
end
theorem bks_TRoutine_eq : ∀ l : List TRoutine, bks_TRoutine l = (l.map bk_TRoutine).sum
  | [] => rfl
  | x :: r => by simp [bks_TRoutine, bks_TRoutine_eq r]
theorem fts_TRoutine_iff : ∀ l : List TRoutine, fts_TRoutine l ↔ ∀ x ∈ l, ft_TRoutine x
  | [] => by simp [fts_TRoutine]
  | x :: r => by simp [fts_TRoutine, fts_TRoutine_iff r]
def bk_TProgram : TProgram → Nat
  | ⟨x0, x1, x2, x3, x4, x5, x6, x7, x8⟩ => (x0.size + 1) + ((bks_v9 x1 + 1) + ((bks_v9 x2 + 1) + ((bks_v9 x3 + 1) + ((bks_TRec x4 + 1) + ((bks_TVar x5 + 1) + ((bks_TRoutine x6 + 1) + ((bks_TStmt x7 + 1) + ((bks_v9 x8 + 1) + 0 )))))))) + 1
def ft_TProgram : TProgram → Prop
  | ⟨x0, x1, x2, x3, x4, x5, x6, x7, x8⟩ => x0.size ≤ maxLen ∧ (x1.length ≤ maxLen ∧ fts_v9 x1) ∧ (x2.length ≤ maxLen ∧ fts_v9 x2) ∧ (x3.length ≤ maxLen ∧ fts_v9 x3) ∧ (x4.length ≤ maxLen ∧ fts_TRec x4) ∧ (x5.length ≤ maxLen ∧ fts_TVar x5) ∧ (x6.length ≤ maxLen ∧ fts_TRoutine x6) ∧ (x7.length ≤ maxLen ∧ fts_TStmt x7) ∧ (x8.length ≤ maxLen ∧ fts_v9 x8)
def bkk : (t : Nat) → II t → Nat
  | 9, x => bk_v9 x
  | 22, x => bk_v22 x
  | 39, x => bk_TPair x
  | 44, x => bk_TExpr x
  | 59, x => bk_TRec x
  | 69, x => bk_TField x
  | 98, x => bk_TVar x
  | 103, x => bk_TRoutine x
  | 107, x => bk_TStmt x
  | 145, x => bk_TParam x
  | _, _ => 0
def ftt : (t : Nat) → II t → Prop
  | 9, x => ft_v9 x
  | 22, x => ft_v22 x
  | 39, x => ft_TPair x
  | 44, x => ft_TExpr x
  | 59, x => ft_TRec x
  | 69, x => ft_TField x
  | 98, x => ft_TVar x
  | 103, x => ft_TRoutine x
  | 107, x => ft_TStmt x
  | 145, x => ft_TParam x
  | _, _ => True
def rowsL : List Nat := [9, 22, 39, 44, 59, 69, 98, 103, 107, 145]
theorem full_v9 (ds : List (DV II)) (h : some [.str] = some (ds.map kd)) : ∃ x : ByteArray, row_v9 x = ds := by
  injection h with h
  symm at h
  obtain ⟨d0, ds, rfl, e0, h⟩ := List.map_eq_cons_iff.1 h
  obtain rfl := List.map_eq_nil_iff.1 h
  obtain ⟨y0, rfl⟩ := kd_str e0
  exact ⟨y0, rfl⟩
theorem full_v22 (ds : List (DV II)) (h : some [.sl 9] = some (ds.map kd)) : ∃ x : (List ByteArray), row_v22 x = ds := by
  injection h with h
  symm at h
  obtain ⟨d0, ds, rfl, e0, h⟩ := List.map_eq_cons_iff.1 h
  obtain rfl := List.map_eq_nil_iff.1 h
  obtain ⟨y0, rfl⟩ := kd_sl e0
  exact ⟨y0, rfl⟩
theorem full_TPair (ds : List (DV II)) (h : some [.str, .str] = some (ds.map kd)) : ∃ x : TPair, row_TPair x = ds := by
  injection h with h
  symm at h
  obtain ⟨d0, ds, rfl, e0, h⟩ := List.map_eq_cons_iff.1 h
  obtain ⟨d1, ds, rfl, e1, h⟩ := List.map_eq_cons_iff.1 h
  obtain rfl := List.map_eq_nil_iff.1 h
  obtain ⟨y0, rfl⟩ := kd_str e0
  obtain ⟨y1, rfl⟩ := kd_str e1
  exact ⟨⟨y0, y1⟩, rfl⟩
theorem full_TExpr (ds : List (DV II)) (h : some [.int .i64, .int .i64, .str, .str, .sl 44] = some (ds.map kd)) : ∃ x : TExpr, row_TExpr x = ds := by
  injection h with h
  symm at h
  obtain ⟨d0, ds, rfl, e0, h⟩ := List.map_eq_cons_iff.1 h
  obtain ⟨d1, ds, rfl, e1, h⟩ := List.map_eq_cons_iff.1 h
  obtain ⟨d2, ds, rfl, e2, h⟩ := List.map_eq_cons_iff.1 h
  obtain ⟨d3, ds, rfl, e3, h⟩ := List.map_eq_cons_iff.1 h
  obtain ⟨d4, ds, rfl, e4, h⟩ := List.map_eq_cons_iff.1 h
  obtain rfl := List.map_eq_nil_iff.1 h
  obtain ⟨y0, rfl⟩ := kd_int e0
  obtain ⟨y1, rfl⟩ := kd_int e1
  obtain ⟨y2, rfl⟩ := kd_str e2
  obtain ⟨y3, rfl⟩ := kd_str e3
  obtain ⟨y4, rfl⟩ := kd_sl e4
  exact ⟨⟨y0, y1, y2, y3, y4⟩, rfl⟩
theorem full_TRec (ds : List (DV II)) (h : some [.sl 9, .sl 9, .str, .sl 69, .sl 9] = some (ds.map kd)) : ∃ x : TRec, row_TRec x = ds := by
  injection h with h
  symm at h
  obtain ⟨d0, ds, rfl, e0, h⟩ := List.map_eq_cons_iff.1 h
  obtain ⟨d1, ds, rfl, e1, h⟩ := List.map_eq_cons_iff.1 h
  obtain ⟨d2, ds, rfl, e2, h⟩ := List.map_eq_cons_iff.1 h
  obtain ⟨d3, ds, rfl, e3, h⟩ := List.map_eq_cons_iff.1 h
  obtain ⟨d4, ds, rfl, e4, h⟩ := List.map_eq_cons_iff.1 h
  obtain rfl := List.map_eq_nil_iff.1 h
  obtain ⟨y0, rfl⟩ := kd_sl e0
  obtain ⟨y1, rfl⟩ := kd_sl e1
  obtain ⟨y2, rfl⟩ := kd_str e2
  obtain ⟨y3, rfl⟩ := kd_sl e3
  obtain ⟨y4, rfl⟩ := kd_sl e4
  exact ⟨⟨y0, y1, y2, y3, y4⟩, rfl⟩
theorem full_TField (ds : List (DV II)) (h : some [.sl 9, .sl 9, .str, .int .i64] = some (ds.map kd)) : ∃ x : TField, row_TField x = ds := by
  injection h with h
  symm at h
  obtain ⟨d0, ds, rfl, e0, h⟩ := List.map_eq_cons_iff.1 h
  obtain ⟨d1, ds, rfl, e1, h⟩ := List.map_eq_cons_iff.1 h
  obtain ⟨d2, ds, rfl, e2, h⟩ := List.map_eq_cons_iff.1 h
  obtain ⟨d3, ds, rfl, e3, h⟩ := List.map_eq_cons_iff.1 h
  obtain rfl := List.map_eq_nil_iff.1 h
  obtain ⟨y0, rfl⟩ := kd_sl e0
  obtain ⟨y1, rfl⟩ := kd_sl e1
  obtain ⟨y2, rfl⟩ := kd_str e2
  obtain ⟨y3, rfl⟩ := kd_int e3
  exact ⟨⟨y0, y1, y2, y3⟩, rfl⟩
theorem full_TVar (ds : List (DV II)) (h : some [.sl 9, .sl 9, .str, .int .i64, .int .i64, .str] = some (ds.map kd)) : ∃ x : TVar, row_TVar x = ds := by
  injection h with h
  symm at h
  obtain ⟨d0, ds, rfl, e0, h⟩ := List.map_eq_cons_iff.1 h
  obtain ⟨d1, ds, rfl, e1, h⟩ := List.map_eq_cons_iff.1 h
  obtain ⟨d2, ds, rfl, e2, h⟩ := List.map_eq_cons_iff.1 h
  obtain ⟨d3, ds, rfl, e3, h⟩ := List.map_eq_cons_iff.1 h
  obtain ⟨d4, ds, rfl, e4, h⟩ := List.map_eq_cons_iff.1 h
  obtain ⟨d5, ds, rfl, e5, h⟩ := List.map_eq_cons_iff.1 h
  obtain rfl := List.map_eq_nil_iff.1 h
  obtain ⟨y0, rfl⟩ := kd_sl e0
  obtain ⟨y1, rfl⟩ := kd_sl e1
  obtain ⟨y2, rfl⟩ := kd_str e2
  obtain ⟨y3, rfl⟩ := kd_int e3
  obtain ⟨y4, rfl⟩ := kd_int e4
  obtain ⟨y5, rfl⟩ := kd_str e5
  exact ⟨⟨y0, y1, y2, y3, y4, y5⟩, rfl⟩
theorem full_TRoutine (ds : List (DV II)) (h : some [.sl 9, .sl 9, .str, .int .i64, .sl 145, .sl 98, .sl 103, .sl 107, .sl 9] = some (ds.map kd)) : ∃ x : TRoutine, row_TRoutine x = ds := by
  injection h with h
  symm at h
  obtain ⟨d0, ds, rfl, e0, h⟩ := List.map_eq_cons_iff.1 h
  obtain ⟨d1, ds, rfl, e1, h⟩ := List.map_eq_cons_iff.1 h
  obtain ⟨d2, ds, rfl, e2, h⟩ := List.map_eq_cons_iff.1 h
  obtain ⟨d3, ds, rfl, e3, h⟩ := List.map_eq_cons_iff.1 h
  obtain ⟨d4, ds, rfl, e4, h⟩ := List.map_eq_cons_iff.1 h
  obtain ⟨d5, ds, rfl, e5, h⟩ := List.map_eq_cons_iff.1 h
  obtain ⟨d6, ds, rfl, e6, h⟩ := List.map_eq_cons_iff.1 h
  obtain ⟨d7, ds, rfl, e7, h⟩ := List.map_eq_cons_iff.1 h
  obtain ⟨d8, ds, rfl, e8, h⟩ := List.map_eq_cons_iff.1 h
  obtain rfl := List.map_eq_nil_iff.1 h
  obtain ⟨y0, rfl⟩ := kd_sl e0
  obtain ⟨y1, rfl⟩ := kd_sl e1
  obtain ⟨y2, rfl⟩ := kd_str e2
  obtain ⟨y3, rfl⟩ := kd_int e3
  obtain ⟨y4, rfl⟩ := kd_sl e4
  obtain ⟨y5, rfl⟩ := kd_sl e5
  obtain ⟨y6, rfl⟩ := kd_sl e6
  obtain ⟨y7, rfl⟩ := kd_sl e7
  obtain ⟨y8, rfl⟩ := kd_sl e8
  exact ⟨⟨y0, y1, y2, y3, y4, y5, y6, y7, y8⟩, rfl⟩
theorem full_TStmt (ds : List (DV II)) (h : some [.sl 9, .sl 9, .int .i64, .str, .int .i64, .int .i64, .str, .str, .sl 44, .sl 44, .bool, .bool, .sl 107, .sl 107, .sl 9, .sl 9] = some (ds.map kd)) : ∃ x : TStmt, row_TStmt x = ds := by
  injection h with h
  symm at h
  obtain ⟨d0, ds, rfl, e0, h⟩ := List.map_eq_cons_iff.1 h
  obtain ⟨d1, ds, rfl, e1, h⟩ := List.map_eq_cons_iff.1 h
  obtain ⟨d2, ds, rfl, e2, h⟩ := List.map_eq_cons_iff.1 h
  obtain ⟨d3, ds, rfl, e3, h⟩ := List.map_eq_cons_iff.1 h
  obtain ⟨d4, ds, rfl, e4, h⟩ := List.map_eq_cons_iff.1 h
  obtain ⟨d5, ds, rfl, e5, h⟩ := List.map_eq_cons_iff.1 h
  obtain ⟨d6, ds, rfl, e6, h⟩ := List.map_eq_cons_iff.1 h
  obtain ⟨d7, ds, rfl, e7, h⟩ := List.map_eq_cons_iff.1 h
  obtain ⟨d8, ds, rfl, e8, h⟩ := List.map_eq_cons_iff.1 h
  obtain ⟨d9, ds, rfl, e9, h⟩ := List.map_eq_cons_iff.1 h
  obtain ⟨d10, ds, rfl, e10, h⟩ := List.map_eq_cons_iff.1 h
  obtain ⟨d11, ds, rfl, e11, h⟩ := List.map_eq_cons_iff.1 h
  obtain ⟨d12, ds, rfl, e12, h⟩ := List.map_eq_cons_iff.1 h
  obtain ⟨d13, ds, rfl, e13, h⟩ := List.map_eq_cons_iff.1 h
  obtain ⟨d14, ds, rfl, e14, h⟩ := List.map_eq_cons_iff.1 h
  obtain ⟨d15, ds, rfl, e15, h⟩ := List.map_eq_cons_iff.1 h
  obtain rfl := List.map_eq_nil_iff.1 h
  obtain ⟨y0, rfl⟩ := kd_sl e0
  obtain ⟨y1, rfl⟩ := kd_sl e1
  obtain ⟨y2, rfl⟩ := kd_int e2
  obtain ⟨y3, rfl⟩ := kd_str e3
  obtain ⟨y4, rfl⟩ := kd_int e4
  obtain ⟨y5, rfl⟩ := kd_int e5
  obtain ⟨y6, rfl⟩ := kd_str e6
  obtain ⟨y7, rfl⟩ := kd_str e7
  obtain ⟨y8, rfl⟩ := kd_sl e8
  obtain ⟨y9, rfl⟩ := kd_sl e9
  obtain ⟨y10, rfl⟩ := kd_bool e10
  obtain ⟨y11, rfl⟩ := kd_bool e11
  obtain ⟨y12, rfl⟩ := kd_sl e12
  obtain ⟨y13, rfl⟩ := kd_sl e13
  obtain ⟨y14, rfl⟩ := kd_sl e14
  obtain ⟨y15, rfl⟩ := kd_sl e15
  exact ⟨⟨y0, y1, y2, y3, y4, y5, y6, y7, y8, y9, y10, y11, y12, y13, y14, y15⟩, rfl⟩
theorem full_TParam (ds : List (DV II)) (h : some [.str, .int .i64, .int .i64, .str, .int .i64] = some (ds.map kd)) : ∃ x : TParam, row_TParam x = ds := by
  injection h with h
  symm at h
  obtain ⟨d0, ds, rfl, e0, h⟩ := List.map_eq_cons_iff.1 h
  obtain ⟨d1, ds, rfl, e1, h⟩ := List.map_eq_cons_iff.1 h
  obtain ⟨d2, ds, rfl, e2, h⟩ := List.map_eq_cons_iff.1 h
  obtain ⟨d3, ds, rfl, e3, h⟩ := List.map_eq_cons_iff.1 h
  obtain ⟨d4, ds, rfl, e4, h⟩ := List.map_eq_cons_iff.1 h
  obtain rfl := List.map_eq_nil_iff.1 h
  obtain ⟨y0, rfl⟩ := kd_str e0
  obtain ⟨y1, rfl⟩ := kd_int e1
  obtain ⟨y2, rfl⟩ := kd_int e2
  obtain ⟨y3, rfl⟩ := kd_str e3
  obtain ⟨y4, rfl⟩ := kd_int e4
  exact ⟨⟨y0, y1, y2, y3, y4⟩, rfl⟩
theorem bkk_v9 : bkk 9 = bk_v9 := rfl
theorem bkk_TExpr : bkk 44 = bk_TExpr := rfl
theorem bkk_TField : bkk 69 = bk_TField := rfl
theorem bkk_TVar : bkk 98 = bk_TVar := rfl
theorem bkk_TRoutine : bkk 103 = bk_TRoutine := rfl
theorem bkk_TStmt : bkk 107 = bk_TStmt := rfl
theorem bkk_TParam : bkk 145 = bk_TParam := rfl
theorem meas (E : Env II) (h1 : E.ty = tyy) (h2 : E.row = roww) {H : Type} (ub : DataW H → Nat) (nil : 1 ≤ ub .nil) (lit : ∀ l, 1 ≤ ub (.lit l)) (str : ∀ l, l.length + 1 ≤ ub (.lit (.string l))) (sl : ∀ a b, (a.map ub).sum + 1 ≤ ub (.slice a b)) (agg : ∀ a, (a.map ub).sum + 1 ≤ ub (.agg a)) : Meas E ftt bkk ub rowsL where
  contig t ti ht := by
    rw [h1] at ht ⊢
    exact List.all_eq_true.1 (show (tyL.all (contigOk tyy)) = true by kernel_rfl) (t, ti) (tyOf_mem tyL t ti ht)
  rowsIn t ti e ht hs hk := by
    rw [h1] at ht hk
    have := List.all_eq_true.1 (show (tyL.all fun p => match p.2.td with | .slice e => rowsL.contains e | _ => true) = true by kernel_rfl) (t, ti) (tyOf_mem tyL t ti ht)
    rw [hs] at this
    simpa using this
  rowsK e he := by
    rw [h1]
    have := List.all_eq_true.1 (show (rowsL.all fun e => (flatK tyy 9 e).isSome) = true by kernel_rfl) e he
    exact Option.isSome_iff_exists.1 this
  full e he ds hk := by
    rw [h1] at hk
    rw [h2]
    simp only [rowsL, List.mem_cons, List.not_mem_nil, or_false] at he
    rcases he with rfl | rfl | rfl | rfl | rfl | rfl | rfl | rfl | rfl | rfl
    · exact full_v9 ds hk
    · exact full_v22 ds hk
    · exact full_TPair ds hk
    · exact full_TExpr ds hk
    · exact full_TRec ds hk
    · exact full_TField ds hk
    · exact full_TVar ds hk
    · exact full_TRoutine ds hk
    · exact full_TStmt ds hk
    · exact full_TParam ds hk
  q e he x hx := by
    rw [h2] at hx
    simp only [rowsL, List.mem_cons, List.not_mem_nil, or_false] at he
    rcases he with rfl | rfl | rfl | rfl | rfl | rfl | rfl | rfl | rfl | rfl
    · simp [roww, row_v9, QD, ftt, ft_v9] at hx ⊢; exact hx
    · simp [roww, row_v22, QD, ftt, ft_v22, fts_v9_iff] at hx ⊢; exact hx
    · cases x; simp [roww, row_TPair, QD, ftt, ft_TPair] at hx ⊢; exact hx
    · cases x; simp [roww, row_TExpr, QD, ftt, ft_TExpr, fts_TExpr_iff] at hx ⊢; exact hx
    · cases x; simp [roww, row_TRec, QD, ftt, ft_TRec, fts_v9_iff, fts_TField_iff] at hx ⊢; exact hx
    · cases x; simp [roww, row_TField, QD, ftt, ft_TField, fts_v9_iff] at hx ⊢; exact hx
    · cases x; simp [roww, row_TVar, QD, ftt, ft_TVar, fts_v9_iff] at hx ⊢; exact hx
    · cases x; simp [roww, row_TRoutine, QD, ftt, ft_TRoutine, fts_v9_iff, fts_TVar_iff, fts_TRoutine_iff, fts_TStmt_iff, fts_TParam_iff] at hx ⊢; exact hx
    · cases x; simp [roww, row_TStmt, QD, ftt, ft_TStmt, fts_v9_iff, fts_TExpr_iff, fts_TStmt_iff] at hx ⊢; exact hx
    · cases x; simp [roww, row_TParam, QD, ftt, ft_TParam] at hx ⊢; exact hx
  b e he x ti ht := by
    rw [h1] at ht
    rw [h2]
    simp only [rowsL, List.mem_cons, List.not_mem_nil, or_false] at he
    rcases he with rfl | rfl | rfl | rfl | rfl | rfl | rfl | rfl | rfl | rfl
    · have : tyy 9 = some _ := rfl
      rw [this] at ht; injection ht with ht; subst ht
      simp [roww, row_v9, bkD, bkk, bk_v9]
    · have : tyy 22 = some _ := rfl
      rw [this] at ht; injection ht with ht; subst ht
      simp [roww, row_v22, bkD, bkk, bk_v22, bks_v9_eq, bkk_v9]
    · have : tyy 39 = some _ := rfl
      rw [this] at ht; injection ht with ht; subst ht
      cases x; simp [roww, row_TPair, bkD, bkk, bk_TPair]
    · have : tyy 44 = some _ := rfl
      rw [this] at ht; injection ht with ht; subst ht
      cases x; simp [roww, row_TExpr, bkD, bkk, bk_TExpr, bks_TExpr_eq, bkk_TExpr]
    · have : tyy 59 = some _ := rfl
      rw [this] at ht; injection ht with ht; subst ht
      cases x; simp [roww, row_TRec, bkD, bkk, bk_TRec, bks_v9_eq, bkk_v9, bks_TField_eq, bkk_TField]
    · have : tyy 69 = some _ := rfl
      rw [this] at ht; injection ht with ht; subst ht
      cases x; simp [roww, row_TField, bkD, bkk, bk_TField, bks_v9_eq, bkk_v9]
    · have : tyy 98 = some _ := rfl
      rw [this] at ht; injection ht with ht; subst ht
      cases x; simp [roww, row_TVar, bkD, bkk, bk_TVar, bks_v9_eq, bkk_v9]
    · have : tyy 103 = some _ := rfl
      rw [this] at ht; injection ht with ht; subst ht
      cases x; simp [roww, row_TRoutine, bkD, bkk, bk_TRoutine, bks_v9_eq, bkk_v9, bks_TVar_eq, bkk_TVar, bks_TRoutine_eq, bkk_TRoutine, bks_TStmt_eq, bkk_TStmt, bks_TParam_eq, bkk_TParam]
    · have : tyy 107 = some _ := rfl
      rw [this] at ht; injection ht with ht; subst ht
      cases x; simp [roww, row_TStmt, bkD, bkk, bk_TStmt, bks_v9_eq, bkk_v9, bks_TExpr_eq, bkk_TExpr, bks_TStmt_eq, bkk_TStmt]
    · have : tyy 145 = some _ := rfl
      rw [this] at ht; injection ht with ht; subst ht
      cases x; simp [roww, row_TParam, bkD, bkk, bk_TParam]
  nil := nil
  lit := lit
  str := str
  sl := sl
  agg := agg
end Go.Ev
end
section
open Go
namespace Go.Ev
set_option maxRecDepth 100000
set_option linter.unusedVariables false
variable {h : Fam}
noncomputable def dc (p : Prop) : Bool := @decide p (Classical.propDecidable p)
theorem dc_iff (p : Prop) : dc p = true ↔ p := by unfold dc; exact @decide_eq_true_iff p (Classical.propDecidable p)
theorem dc_true {p : Prop} (h : p) : dc p = true := (dc_iff p).2 h
theorem dc_false {p : Prop} (h : ¬ p) : dc p = false := by
  cases hd : dc p with
  | false => rfl
  | true => exact absurd ((dc_iff p).1 hd) h
theorem dc_eq {p q : Prop} (h : p ↔ q) : dc p = dc q := by rw [propext h]
theorem dc_dec (p : Prop) [Decidable p] : dc p = decide p := by
  by_cases h : p
  · rw [dc_true h, decide_eq_true h]
  · rw [dc_false h, decide_eq_false h]
theorem ba_dc (a b : ByteArray) : (a.toList == b.toList) = dc (a = b) := by rw [ba_beq, ← dc_dec]
theorem int_dc (a b : Int) : (a == b) = dc (a = b) := by rw [dc_dec]; rfl
theorem bool_dc (a b : Bool) : (a == b) = dc (a = b) := by rw [dc_dec]; cases a <;> cases b <;> rfl
theorem if_dc (p q : Prop) : (if dc p = true then some (dc q) else some false) = some (dc (p ∧ q)) := by
  by_cases h : p
  · rw [if_pos (dc_true h)]; exact congrArg some (dc_eq (by simp [h]))
  · rw [if_neg (by rw [dc_false h]; simp), dc_false (p := p ∧ q) (by simp [h])]
theorem and_dc (p q : Prop) : (dc p && dc q) = dc (p ∧ q) := by
  by_cases h : p
  · rw [dc_true h, Bool.true_and]; exact dc_eq (by simp [h])
  · rw [dc_false h, dc_false (p := p ∧ q) (by simp [h]), Bool.false_and]
theorem not_dc (p : Prop) : (!dc p) = dc (¬ p) := by
  by_cases h : p
  · rw [dc_true h, dc_false (p := ¬ p) (by simp [h])]; rfl
  · rw [dc_false h, dc_true (p := ¬ p) h]; rfl
theorem or_dc (p q : Prop) : (dc p || dc q) = dc (p ∨ q) := by
  by_cases h : p
  · rw [dc_true h, dc_true (p := p ∨ q) (.inl h), Bool.true_or]
  · rw [dc_false h, Bool.false_or]; exact dc_eq (by simp [h])
theorem ifn_dc (p q : Prop) : (if dc p = true then some false else some (dc q)) = some (dc (¬ p ∧ q)) := by
  by_cases h : p
  · rw [if_pos (dc_true h), dc_false (p := ¬ p ∧ q) (by simp [h])]
  · rw [if_neg (by rw [dc_false h]; simp)]; exact congrArg some (dc_eq (by simp [h]))
theorem iff_dc (p q : Prop) : (if dc p = false then some (dc q) else some false) = some (dc (¬ p ∧ q)) := by
  by_cases h : p
  · rw [if_neg (by rw [dc_true h]; simp), dc_false (p := ¬ p ∧ q) (by simp [h])]
  · rw [if_pos (dc_false h)]; exact congrArg some (dc_eq (by simp [h]))
theorem eqG_dc {α : Type} (d : α) (f : α → α → Option Bool) (a b : List α) (hl : a.length = b.length) (hm : a.length ≤ maxLen)
    (hf : ∀ i (h : i < a.length) (h' : i < b.length), f a[i] b[i] = some (dc (a[i] = b[i]))) :
    ∀ j i, i ≤ a.length → a.length - i < j → eqG d f j b a (a.length : Int) (i : Int) = some (dc (a.drop i = b.drop i)) := by
  refine up_ind a.length (fun j => ?_) (fun j i hi ih => ?_)
  · simp only [eqG]
    rw [if_neg (by simp), dc_true (by simp [hl])]
  · have h' : i < b.length := by omega
    simp only [eqG]
    rw [if_pos (by simpa using hi), if_pos (by omega), if_pos (by omega), if_pos (by omega), if_pos (by omega)]
    simp only [Int.toNat_natCast, List.getD_eq_getElem?_getD, List.getElem?_eq_getElem hi, List.getElem?_eq_getElem h', Option.getD_some]
    rw [hf i hi h', Option.bind_some, wrap_succ hi hm, ih, not_dc, ifn_dc]
    refine congrArg some (dc_eq ?_)
    rw [List.drop_eq_getElem_cons hi, List.drop_eq_getElem_cons h']
    simp only [List.cons.injEq, Classical.not_not]
theorem eqF {α : Type} (d : α) (f : α → α → Option Bool) (a b : List α) (k : Nat) (hk : a.length < k) (hm : a.length ≤ maxLen)
    (hf : ∀ i (h : i < a.length) (h' : i < b.length), f a[i] b[i] = some (dc (a[i] = b[i]))) :
    (if ((a.length : Int) != (b.length : Int)) = true then some false else eqG d f k b a (a.length : Int) 0) = some (dc (a = b)) := by
  by_cases hl : a.length = b.length
  · have h1 : ((a.length : Int) != (b.length : Int)) = false := by simp [hl]
    rw [if_neg (by rw [h1]; simp)]
    have := eqG_dc d f a b hl hm hf k 0 (Nat.zero_le _) (by omega)
    simpa using this
  · have h1 : ((a.length : Int) != (b.length : Int)) = true := by simp; omega
    rw [if_pos h1]
    have : a ≠ b := fun e => hl (by rw [e])
    rw [dc_false this]
def eqH {α : Type} (d : α) (f : α → α → Option Bool) : Nat → List α → List α → Int → Option Bool
  | 0, _, _, _ => none
  | j + 1, v0, v1, v2 => (if decide (v2 < (v0.length : Int)) = true then (if 0 ≤ v2 then (if v2 < (v0.length : Int) then (if 0 ≤ v2 then (if v2 < (v1.length : Int) then ((f (v0.getD v2.toNat d) (v1.getD v2.toNat d)).bind fun t9 => (if (!t9) = true then some false else eqH d f j v0 v1 (IntKind.i64.wrap (v2 + 1)))) else none) else none) else none) else none) else some true)
theorem eqH_is {α : Type} (d : α) (f : α → α → Option Bool) (a b : List α) (hl : a.length = b.length) (hm : a.length ≤ maxLen)
    (hf : ∀ i (h : i < a.length) (h' : i < b.length), f a[i] b[i] = some (dc (a[i] = b[i]))) :
    ∀ j i, i ≤ a.length → a.length - i < j → eqH d f j a b (i : Int) = some (dc (a.drop i = b.drop i)) := by
  refine up_ind a.length (fun j => ?_) (fun j i hi ih => ?_)
  · simp only [eqH]
    rw [if_neg (by simp), dc_true (by simp [hl])]
  · have h' : i < b.length := by omega
    simp only [eqH]
    rw [if_pos (by simpa using hi), if_pos (by omega), if_pos (by omega), if_pos (by omega), if_pos (by omega)]
    simp only [Int.toNat_natCast, List.getD_eq_getElem?_getD, List.getElem?_eq_getElem hi, List.getElem?_eq_getElem h', Option.getD_some]
    rw [hf i hi h', Option.bind_some, wrap_succ hi hm, ih, not_dc, ifn_dc]
    refine congrArg some (dc_eq ?_)
    rw [List.drop_eq_getElem_cons hi, List.drop_eq_getElem_cons h']
    simp only [List.cons.injEq, Classical.not_not]
theorem eqI {α : Type} (d : α) (f : α → α → Option Bool) (a b : List α) (k : Nat) (hk : a.length < k) (hm : a.length ≤ maxLen)
    (hf : ∀ i (h : i < a.length) (h' : i < b.length), f a[i] b[i] = some (dc (a[i] = b[i]))) :
    (if ((a.length : Int) != (b.length : Int)) = true then some false else eqH d f k a b 0) = some (dc (a = b)) := by
  by_cases hl : a.length = b.length
  · have h1 : ((a.length : Int) != (b.length : Int)) = false := by simp [hl]
    rw [if_neg (by rw [h1]; simp)]
    have := eqH_is d f a b hl hm hf k 0 (Nat.zero_le _) (by omega)
    simpa using this
  · have h1 : ((a.length : Int) != (b.length : Int)) = true := by simp; omega
    rw [if_pos h1]
    have : a ≠ b := fun e => hl (by rw [e])
    rw [dc_false this]
end Go.Ev
end
section
open Go
namespace Go.Ev
set_option maxRecDepth 100000
set_option maxHeartbeats 4000000
set_option linter.unusedVariables false
set_option linter.unusedSimpArgs false
variable (h : Fam)
theorem len_sum {α : Type} (f : α → Nat) (hf : ∀ x, 1 ≤ f x) : ∀ l : List α, l.length ≤ (l.map f).sum
  | [] => Nat.le_refl _
  | x :: l => by
    have := hf x; have := len_sum f hf l
    simp only [List.length_cons, List.map_cons, List.sum_cons]; omega
theorem mem_sum {α : Type} (f : α → Nat) : ∀ (l : List α) (i : Nat) (hi : i < l.length), f l[i] ≤ (l.map f).sum
  | [], i, hi => by simp at hi
  | x :: l, 0, hi => by simp
  | x :: l, i + 1, hi => by
    have := mem_sum f l i (by simpa using hi)
    simp only [List.getElem_cons_succ, List.map_cons, List.sum_cons]; omega
theorem L_SameTexts (s : Fam) (k : Nat) (x y : List ByteArray) : ∀ j v0 v1 v2, Lr01_SameTexts_4 s k x y j v0 v1 v2 = eqH ⟨#[]⟩ (fun a b => some (a.toList == b.toList)) j v0 v1 v2 := by
  intro j
  induction j with
  | zero => intros; rfl
  | succ j ih => intros; simp only [Lr01_SameTexts_4, eqH, ih, Option.bind_some]
theorem SameTexts_ok (k : Nat) (a b : List ByteArray) (hk : a.length < k) (hm : a.length ≤ maxLen) : (FF h (k + 1)).f_r01_SameTexts (a, b, ()) = some (dc (a = b)) := by
  show B_r01_SameTexts (FF h k) k a b = _
  unfold B_r01_SameTexts
  rw [L_SameTexts]
  exact eqI _ _ a b k hk hm fun i _ _ => congrArg some (ba_dc _ _)
def eqK {α : Type} (d : α) (f : α → α → Option Bool) : Nat → List α → List α → Int → Int → Option Bool
  | 0, _, _, _, _ => none
  | j + 1, v0, v1, v2, v3 => (if decide (v3 < v2) = true then (if 0 ≤ v3 then (if v3 < (v0.length : Int) then (if 0 ≤ v3 then (if v3 < (v1.length : Int) then ((f (v0.getD v3.toNat d) (v1.getD v3.toNat d)).bind fun t9 => (if (!t9) = true then some false else eqK d f j v0 v1 v2 (IntKind.i64.wrap (v3 + 1)))) else none) else none) else none) else none) else some true)
theorem eqK_is {α : Type} (d : α) (f : α → α → Option Bool) (a b : List α) (hl : a.length = b.length) (hm : a.length ≤ maxLen)
    (hf : ∀ i (h : i < a.length) (h' : i < b.length), f a[i] b[i] = some (dc (a[i] = b[i]))) :
    ∀ j i, i ≤ a.length → a.length - i < j → eqK d f j a b (a.length : Int) (i : Int) = some (dc (a.drop i = b.drop i)) := by
  refine up_ind a.length (fun j => ?_) (fun j i hi ih => ?_)
  · simp only [eqK]
    rw [if_neg (by simp), dc_true (by simp [hl])]
  · have h' : i < b.length := by omega
    simp only [eqK]
    rw [if_pos (by simpa using hi), if_pos (by omega), if_pos (by omega), if_pos (by omega), if_pos (by omega)]
    simp only [Int.toNat_natCast, List.getD_eq_getElem?_getD, List.getElem?_eq_getElem hi, List.getElem?_eq_getElem h', Option.getD_some]
    rw [hf i hi h', Option.bind_some, wrap_succ hi hm, ih, not_dc, ifn_dc]
    refine congrArg some (dc_eq ?_)
    rw [List.drop_eq_getElem_cons hi, List.drop_eq_getElem_cons h']
    simp only [List.cons.injEq, Classical.not_not]
theorem eqL {α : Type} (d : α) (f : α → α → Option Bool) (a b : List α) (k : Nat) (hk : a.length < k) (hm : a.length ≤ maxLen)
    (hf : ∀ i (h : i < a.length) (h' : i < b.length), f a[i] b[i] = some (dc (a[i] = b[i]))) :
    (if ((a.length : Int) != (b.length : Int)) = true then some false else eqK d f k a b (a.length : Int) 0) = some (dc (a = b)) := by
  by_cases hl : a.length = b.length
  · have h1 : ((a.length : Int) != (b.length : Int)) = false := by simp [hl]
    rw [if_neg (by rw [h1]; simp)]
    have := eqK_is d f a b hl hm hf k 0 (Nat.zero_le _) (by omega)
    simpa using this
  · have h1 : ((a.length : Int) != (b.length : Int)) = true := by simp; omega
    rw [if_pos h1]
    have : a ≠ b := fun e => hl (by rw [e])
    rw [dc_false this]
theorem L_Equal_string (s : Fam) (k : Nat) (x y : List ByteArray) : ∀ j v0 v1 v2 v3, Lslices_Equal_string_4 s k x y j v0 v1 v2 v3 = eqK ⟨#[]⟩ (fun a b => some (a.toList == b.toList)) j v0 v1 v2 v3 := by
  intro j
  induction j with
  | zero => intros; rfl
  | succ j ih => intros; simp only [Lslices_Equal_string_4, eqK, ih, Option.bind_some]
theorem Equal_string_ok (k : Nat) (a b : List ByteArray) (hk : a.length < k) (hm : a.length ≤ maxLen) : (FF h (k + 1)).f_slices_Equal_string (a, b, ()) = some (dc (a = b)) := by
  show B_slices_Equal_string (FF h k) k a b = _
  unfold B_slices_Equal_string
  rw [L_Equal_string]
  exact eqL _ _ a b k hk hm fun i _ _ => congrArg some (ba_dc _ _)
theorem TParam.eq_iff (x y : TParam) : x = y ↔ x.Name = y.Name ∧ x.T_Kind = y.T_Kind ∧ x.T_Size = y.T_Size ∧ x.T_Name = y.T_Name ∧ x.Mode = y.Mode := by cases x; cases y; simp
theorem L_Equal_Param (s : Fam) (k : Nat) (x y : List TParam) : ∀ j v0 v1 v2 v3, Lslices_Equal_Param_4 s k x y j v0 v1 v2 v3 = eqK dd_TParam (fun a b => some (a.Name.toList == b.Name.toList && (a.T_Kind == b.T_Kind && (a.T_Size == b.T_Size && (a.T_Name.toList == b.T_Name.toList && true)) && (a.Mode == b.Mode && true)))) j v0 v1 v2 v3 := by
  intro j
  induction j with
  | zero => intros; rfl
  | succ j ih => intros; simp only [Lslices_Equal_Param_4, eqK, ih, Option.bind_some]
theorem Equal_Param_ok (k : Nat) (a b : List TParam) (hk : a.length < k) (hm : a.length ≤ maxLen) : (FF h (k + 1)).f_slices_Equal_Param (a, b, ()) = some (dc (a = b)) := by
  show B_slices_Equal_Param (FF h k) k a b = _
  unfold B_slices_Equal_Param
  rw [L_Equal_Param]
  exact eqL _ _ a b k hk hm fun i _ _ => congrArg some (by
    simp only [ba_dc, int_dc, Bool.and_true, and_dc]
    exact dc_eq (by rw [TParam.eq_iff]; simp only [and_assoc]))
theorem bk_Expr_pos (x : TExpr) : 1 ≤ bk_TExpr x := by cases x; simp [bk_TExpr]; 
theorem TExpr.eq_iff (x y : TExpr) : x = y ↔ x.Op = y.Op ∧ x.N = y.N ∧ x.Name = y.Name ∧ x.Field = y.Field ∧ x.L = y.L := by cases x; cases y; simp
theorem bk_Expr_L (x : TExpr) : bks_TExpr x.L + 6 ≤ bk_TExpr x := by cases x; simp [bk_TExpr]; omega
theorem ft_Expr_L (x : TExpr) (hx : ft_TExpr x) : x.L.length ≤ maxLen ∧ fts_TExpr x.L := by cases x; simp [ft_TExpr] at hx; exact hx.2.2.2.2
theorem bks_Expr_len (l : List TExpr) : l.length ≤ bks_TExpr l := by rw [bks_TExpr_eq]; exact len_sum _ bk_Expr_pos l
theorem bks_Expr_mem (l : List TExpr) (i : Nat) (hi : i < l.length) : bk_TExpr l[i] ≤ bks_TExpr l := by rw [bks_TExpr_eq]; exact mem_sum _ l i hi
theorem fts_Expr_mem (l : List TExpr) (hl : fts_TExpr l) (i : Nat) (hi : i < l.length) : ft_TExpr l[i] := (fts_TExpr_iff l).1 hl _ (List.getElem_mem hi)
theorem L_EqualFunc_Expr (s : Fam) (k : Nat) (x y : List TExpr) (u : Unit × Unit) : ∀ j v0 v1 v2 v3, Lslices_EqualFunc_Expr_4 s k x y u j v0 v1 v2 v3 = eqG dd_TExpr (fun a b => s.f_tree_SameExpr (a.re, b.re, ())) j v0 v1 v2 v3 := by
  intro j
  induction j with
  | zero => intros; rfl
  | succ j ih => intros; simp only [Lslices_EqualFunc_Expr_4, eqG, ih]
theorem L_SameExprs (s : Fam) (k : Nat) (x y : List TExpr) : ∀ j v0 v1 v2, Lr07_SameExprs_4 s k x y j v0 v1 v2 = eqH dd_TExpr (fun a b => s.f_r07_SameExpr (a.re, b.re, ())) j v0 v1 v2 := by
  intro j
  induction j with
  | zero => intros; rfl
  | succ j ih => intros; simp only [Lr07_SameExprs_4, eqH, ih]
theorem SameExpr_all : ∀ k, (∀ a b, ft_TExpr a → bk_TExpr a < k → (FF h k).f_tree_SameExpr (a, b, ()) = some (dc (a = b))) ∧
    (∀ l m, l.length ≤ maxLen → fts_TExpr l → bks_TExpr l + 1 < k → (FF h k).f_slices_EqualFunc_Expr (l, m, ((), ()), ()) = some (dc (l = m))) ∧
    (∀ a b, ft_TExpr a → bk_TExpr a < k → (FF h k).f_r07_SameExpr (a, b, ()) = some (dc (a = b))) ∧
    (∀ l m, l.length ≤ maxLen → fts_TExpr l → bks_TExpr l + 1 < k → (FF h k).f_r07_SameExprs (l, m, ()) = some (dc (l = m))) := by
  intro k
  induction k with
  | zero => exact ⟨fun _ _ _ h => absurd h (Nat.not_lt_zero _), fun _ _ _ _ h => absurd h (Nat.not_lt_zero _), fun _ _ _ h => absurd h (Nat.not_lt_zero _), fun _ _ _ _ h => absurd h (Nat.not_lt_zero _)⟩
  | succ k ih =>
    obtain ⟨i1, i2, i3, i4⟩ := ih
    refine ⟨fun a b ha hk => ?_, fun l m hm hl hk => ?_, fun a b ha hk => ?_, fun l m hm hl hk => ?_⟩
    · show B_tree_SameExpr (FF h k) k a b = _
      have h1 := bk_Expr_L a
      obtain ⟨h2, h3⟩ := ft_Expr_L a ha
      simp only [B_tree_SameExpr, i2 a.L b.L h2 h3 (by omega), Option.bind_some, Bool.true_and, int_dc, ba_dc, and_dc, if_dc]
      exact congrArg some (dc_eq (by rw [TExpr.eq_iff]; simp only [and_assoc]))
    · show B_slices_EqualFunc_Expr (FF h k) k l m ((), ()) = _
      unfold B_slices_EqualFunc_Expr
      rw [L_EqualFunc_Expr]
      have := bks_Expr_len l
      exact eqF _ _ l m k (by omega) hm fun i hi hi' => by
        have := bks_Expr_mem l i hi
        rw [TExpr.re_eq, TExpr.re_eq]
        exact i1 _ _ (fts_Expr_mem l hl i hi) (by omega)
    · show B_r07_SameExpr (FF h k) k a b = _
      have h1 := bk_Expr_L a
      obtain ⟨h2, h3⟩ := ft_Expr_L a ha
      simp only [B_r07_SameExpr, i4 a.L b.L h2 h3 (by omega), Option.bind_some, Bool.true_and, int_dc, ba_dc, and_dc, if_dc]
      exact congrArg some (dc_eq (by rw [TExpr.eq_iff]; simp only [and_assoc]))
    · show B_r07_SameExprs (FF h k) k l m = _
      unfold B_r07_SameExprs
      rw [L_SameExprs]
      have := bks_Expr_len l
      exact eqI _ _ l m k (by omega) hm fun i hi hi' => by
        have := bks_Expr_mem l i hi
        rw [TExpr.re_eq, TExpr.re_eq]
        exact i3 _ _ (fts_Expr_mem l hl i hi) (by omega)
end Go.Ev
end
