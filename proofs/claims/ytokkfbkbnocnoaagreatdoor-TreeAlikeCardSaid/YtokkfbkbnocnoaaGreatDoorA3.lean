/- A part of the proof of TreeAlike (to be the same goes both ways, and on from one to the next): a reckoner of the code over data, shown right, and what it gives; conditions stand with each theorem. -/
import Derived.Test.YtokkfbkbnocnoaaGreatDoorA2
import Derived.Lib.SplitLaws
import Derived.IntWalk
import Derived.ChangeArms
import Derived.ChangeSame
import Derived.DataReads
import Derived.DataElems
import Derived.ProofKit
import Derived.Below
import Derived.Deep.Draws
import Derived.Deep.AppendLies
import Derived.Maps.AppendAt
import Derived.OwnWalk
import Derived.Laws.BytesArg
import Derived.Laws.MakeOwn
import Derived.Laws.OwnMore
import Derived.Deep.OwnRows
import Derived.Tactics
import Derived.Lib.ConvBytes
import Derived.Laws.Slices
import Derived.WalkKit
import Derived.KernelRfl
import Derived.RowKit3
import Derived.Deep.LoopGhost
import Derived.Deep.QuietTactic
import Derived.BigQuiet
import Derived.WideLaws
import Derived.Deep.DeepCutAuto
import Derived.Deep.CutBlock
import Derived.Deep.RegionHeld3
import Derived.Laws.Rows
import Derived.Lib.AppendStr
import Derived.ArgAppend
import Derived.Laws.IdiomCopy
import Derived.RowKit
import Derived.Shelf.Spec.SearchS
import Derived.Test.YtokkfbkbnocnoaaGreatDoorProg
import Derived.Lib.Hide
import Derived.Deep.DeepMust
namespace Go.Proofs.YtokkfbkbnocnoaaGreatDoorW.PrintWords
end Go.Proofs.YtokkfbkbnocnoaaGreatDoorW.PrintWords
namespace Go.Proofs.YtokkfbkbnocnoaaGreatDoorW.PrintLast
end Go.Proofs.YtokkfbkbnocnoaaGreatDoorW.PrintLast
namespace Go.Proofs.YtokkfbkbnocnoaaGreatDoorW.PrintMore
end Go.Proofs.YtokkfbkbnocnoaaGreatDoorW.PrintMore
section
open Go Go.Proofs
namespace Go.Ev
set_option linter.unusedVariables false
set_option linter.unusedSimpArgs false
set_option maxHeartbeats 4000000
set_option maxRecDepth 100000
def Ltree_checker_params_3 (s : Fam) (k : Nat) (x0 : Ttree_checker) (x1 : List TParam) : Nat → List TParam → Bool → List TParam → Int → Int → Int → Option (Bool)
  | 0, _, _, _, _, _, _ => none
  | j3 + 1, v0, v1, v2, v3, v4, v5 => (if decide (v4 < v3) = Bool.true then (if 0 ≤ v4 then (if v4 < (↑v2.length : Int) then ((s.f_tree_checker_name ({ dialect := v5 : Ttree_checker }, (v2.getD v4.toNat dd_TParam).Name, ())).bind fun t5 => (if (!t5) = Bool.false then ((s.f_tree_checker_typ ({ dialect := v5 : Ttree_checker }, (v2.getD v4.toNat dd_TParam).sub_T, ())).bind fun t7 => (if (Bool.false || !t7 || decide ((v2.getD v4.toNat dd_TParam).Mode < 0) || decide ((v2.getD v4.toNat dd_TParam).Mode > 2)) = Bool.true then some (Bool.false) else (if ((v2.getD v4.toNat dd_TParam).Mode == 0 && (decide ((v2.getD v4.toNat dd_TParam).T_Size > 0) || (v2.getD v4.toNat dd_TParam).T_Kind == 4)) = Bool.true then some (Bool.false) else (if (v1 && (v2.getD v4.toNat dd_TParam).Mode != 2 || (v2.getD v4.toNat dd_TParam).Mode == 2 && v5 != 1) = Bool.true then some (Bool.false) else Ltree_checker_params_3 s k x0 x1 j3 (v0) ((v2.getD v4.toNat dd_TParam).Mode == 2) (v2) (v3) (Go.IntKind.i64.wrap (v4 + 1)) (v5))))) else some (Bool.false))) else none) else none) else ((s.f_tree_few_Param (v0, ())).bind fun t21 => some (t21)))
def B_tree_checker_params (s : Fam) (k : Nat) (x0 : Ttree_checker) (x1 : List TParam) : Option (Bool) := Ltree_checker_params_3 s k x0 x1 k (x1) (Bool.false) (x1) ((↑x1.length : Int)) (0) (x0.dialect)
theorem Ltree_checker_params_3_eq (s : Fam) (k : Nat) (x0 : Ttree_checker) (x1 : List TParam) : ∀ (j3 : Nat) (v0 : List TParam) (v1 : Bool) (v2 : List TParam) (v3 : Int) (v4 : Int) (v5 : Int), (loopGo EE (sp s) h_tree_checker_params co_tree_checker_params [] k Tryz.f83 3 [] j3 ({ tmps := ofL AV.any [(1, AV.c (CV.d (DV.sl 145 v0))), (2, AV.c (CV.ptr 2 0)), (5, AV.c (CV.d (DV.lit (Go.Value.bool v1)))), (8, AV.c (CV.d (DV.sl 145 v2))), (9, AV.c (CV.d (DV.lit (Go.Value.int Go.IntKind.i64 v3)))), (10, AV.c (CV.d (DV.lit (Go.Value.int Go.IntKind.i64 v4))))], boxes := ofL Option.none [(2, Option.some [CV.d (DV.lit (Go.Value.int Go.IntKind.i64 v5))])], objs := ofL Option.none [(8, Option.none)], fxs := ofL Option.none [(2, Option.none)] : AS II })).run = (Ltree_checker_params_3 s k x0 x1 j3 v0 v1 v2 v3 v4 v5).map rc_tree_checker_params.enc := by
  intro j3
  induction j3 with
  | zero => intros; rfl
  | succ j3 ih =>
    intros
    simp only [Ltree_checker_params_3, map_ite, map_bindO, map_someO, map_noneO, ← ih]
    kernel_rfl
theorem e_tree_checker_params (s : Fam) (k : Nat) (x : a_tree_checker_params) : (evFunC EE (sp s) h_tree_checker_params co_tree_checker_params k Tryz.f83 (c_tree_checker_params.enc x)).run = (B_tree_checker_params s k x.1 x.2.1).map rc_tree_checker_params.enc := by
  simp only [B_tree_checker_params, map_ite, map_bindO, map_someO, map_noneO, ← Ltree_checker_params_3_eq]
  kernel_rfl
-- 22 nodes
def B_tree_few_Stmt (s : Fam) (k : Nat) (x0 : List TStmt) : Option (Bool) := some (decide ((↑x0.length : Int) ≤ 512))
theorem e_tree_few_Stmt (s : Fam) (k : Nat) (x : a_tree_few_Stmt) : (evFunC EE (sp s) h_tree_few_Stmt co_tree_few_Stmt k Tryz.f84 (c_tree_few_Stmt.enc x)).run = (B_tree_few_Stmt s k x.1).map rc_tree_few_Stmt.enc := by
  simp only [B_tree_few_Stmt, map_ite, map_bindO, map_someO, map_noneO]
  kernel_rfl
-- 1 nodes
def B_slices_ContainsFunc_Stmt (s : Fam) (k : Nat) (x0 : List TStmt) (x1 : Unit × Ttree_checker × Int × Unit) : Option (Bool) := ((s.f_slices_IndexFunc_Stmt (x0, ((), x1.snd.fst, x1.snd.snd.fst, ()), ())).bind fun t1 => some (decide (t1 ≥ 0)))
theorem e_slices_ContainsFunc_Stmt (s : Fam) (k : Nat) (x : a_slices_ContainsFunc_Stmt) : (evFunC EE (sp s) h_slices_ContainsFunc_Stmt co_slices_ContainsFunc_Stmt k Tryz.f85 (c_slices_ContainsFunc_Stmt.enc x)).run = (B_slices_ContainsFunc_Stmt s k x.1 x.2.1).map rc_slices_ContainsFunc_Stmt.enc := by
  simp only [B_slices_ContainsFunc_Stmt, map_ite, map_bindO, map_someO, map_noneO]
  kernel_rfl
-- 2 nodes
def B_tree_checker_stmts_1 (s : Fam) (k : Nat) (x0 : TStmt) (x1 : Ttree_checker) (x2 : Int) : Option (Bool) := ((s.f_tree_checker_stmt (x1, x0.re, x2, ())).bind fun t1 => some (!t1))
theorem e_tree_checker_stmts_1 (s : Fam) (k : Nat) (x : a_tree_checker_stmts_1) : (evFunC EE (sp s) h_tree_checker_stmts_1 co_tree_checker_stmts_1 k Tryz.f86 (c_tree_checker_stmts_1.enc x)).run = (B_tree_checker_stmts_1 s k x.1 x.2.1 x.2.2.1).map rc_tree_checker_stmts_1.enc := by
  simp only [B_tree_checker_stmts_1, map_ite, map_bindO, map_someO, map_noneO]
  kernel_rfl
-- 2 nodes
def Ltree_checker_stmt_17 (s : Fam) (k : Nat) (x0 : Ttree_checker) (x1 : TStmt) (x2 : Int) : Nat → Int → List TExpr → Int → Int → Int → List ByteArray → List ByteArray → Int → ByteArray → Int → Int → ByteArray → ByteArray → List TExpr → List TExpr → Bool → Bool → List TStmt → List TStmt → List ByteArray → List ByteArray → Option (Bool)
  | 0, _, _, _, _, _, _, _, _, _, _, _, _, _, _, _, _, _, _, _, _, _ => none
  | j17 + 1, v0, v1, v2, v3, v4, v5, v6, v7, v8, v9, v10, v11, v12, v13, v14, v15, v16, v17, v18, v19, v20 => (if decide (v3 < v2) = Bool.true then (if 0 ≤ v3 then (if v3 < (↑v1.length : Int) then ((s.f_tree_checker_expr ({ dialect := v4 : Ttree_checker }, (v1.getD v3.toNat dd_TExpr).re, ())).bind fun t32 => (if (t32 == 0 || v7 == 2 && (v1.getD v3.toNat dd_TExpr).Op != 7) = Bool.true then some (Bool.false) else Ltree_checker_stmt_17 s k x0 x1 x2 j17 (v0) (v1) (v2) (Go.IntKind.i64.wrap (v3 + 1)) (v4) (v5) (v6) (v7) (v8) (v9) (v10) (v11) (v12) (v13) (v14) (v15) (v16) (v17) (v18) (v19) (v20))) else none) else none) else ((s.f_tree_checker_stmts ({ dialect := v4 : Ttree_checker }, v17, Go.IntKind.i64.wrap (v0 + 1), ())).bind fun t38 => (if t38 = Bool.true then ((s.f_tree_checker_stmts ({ dialect := v4 : Ttree_checker }, v18, Go.IntKind.i64.wrap (v0 + 1), ())).bind fun t40 => some (Bool.true && t40)) else some (Bool.false))))
def B_tree_checker_stmt (s : Fam) (k : Nat) (x0 : Ttree_checker) (x1 : TStmt) (x2 : Int) : Option (Bool) := ((s.f_tree_shapeOf (x1.Op, ())).bind fun t1 => (if (!t1.snd.fst || decide (x2 > 48)) = Bool.false then ((s.f_tree_notes ([x1.Marks_Before, x1.Marks_Trail, x1.End, x1.End2], ())).bind fun t4 => (if (Bool.false || !t4) = Bool.true then some (Bool.false) else (if t1.fst.place = Bool.true then ((s.f_tree_checker_place (x0, x1.sub_P, ())).bind fun t8 => (if (Bool.true && !t8) = Bool.false then (if (!t1.fst.place) = Bool.true then ((s.f_tree_none (x1.sub_P, ())).bind fun t11 => (if (Bool.false || Bool.true && !t11) = Bool.true then some (Bool.false) else (if t1.fst.name_ = Bool.true then ((s.f_tree_checker_name (x0, x1.Name, ())).bind fun t15 => (if (Bool.true && !t15 || !t1.fst.name_ && !x1.Name.toList == { data := #[] : ByteArray }.toList) = Bool.true then some (Bool.false) else (if (decide ((↑x1.E.length : Int) < t1.fst.least) || decide ((↑x1.E.length : Int) > t1.fst.most)) = Bool.true then some (Bool.false) else (if (!t1.fst.body) = Bool.true then (if (Bool.true && (decide ((↑x1.Body.length : Int) > 0) || decide ((↑x1.End.length : Int) > 0))) = Bool.true then some (Bool.false) else (if (x1.More && x1.Op != 3 || x1.Down && x1.Op != 6) = Bool.true then some (Bool.false) else (if (!x1.More) = Bool.true then (if (Bool.true && (decide ((↑x1.Else.length : Int) > 0) || decide ((↑x1.End2.length : Int) > 0))) = Bool.true then some (Bool.false) else Ltree_checker_stmt_17 s k x0 x1 x2 k (x2) (x1.E) ((↑x1.E.length : Int)) (0) (x0.dialect) (x1.Marks_Before) (x1.Marks_Trail) (x1.Op) (x1.Name) (x1.P_Op) (x1.P_N) (x1.P_Name) (x1.P_Field) (x1.P_L) (x1.E) (x1.Down) (x1.More) (x1.Body) (x1.Else) (x1.End) (x1.End2)) else Ltree_checker_stmt_17 s k x0 x1 x2 k (x2) (x1.E) ((↑x1.E.length : Int)) (0) (x0.dialect) (x1.Marks_Before) (x1.Marks_Trail) (x1.Op) (x1.Name) (x1.P_Op) (x1.P_N) (x1.P_Name) (x1.P_Field) (x1.P_L) (x1.E) (x1.Down) (x1.More) (x1.Body) (x1.Else) (x1.End) (x1.End2)))) else (if (x1.More && x1.Op != 3 || x1.Down && x1.Op != 6) = Bool.true then some (Bool.false) else (if (!x1.More) = Bool.true then (if (Bool.true && (decide ((↑x1.Else.length : Int) > 0) || decide ((↑x1.End2.length : Int) > 0))) = Bool.true then some (Bool.false) else Ltree_checker_stmt_17 s k x0 x1 x2 k (x2) (x1.E) ((↑x1.E.length : Int)) (0) (x0.dialect) (x1.Marks_Before) (x1.Marks_Trail) (x1.Op) (x1.Name) (x1.P_Op) (x1.P_N) (x1.P_Name) (x1.P_Field) (x1.P_L) (x1.E) (x1.Down) (x1.More) (x1.Body) (x1.Else) (x1.End) (x1.End2)) else Ltree_checker_stmt_17 s k x0 x1 x2 k (x2) (x1.E) ((↑x1.E.length : Int)) (0) (x0.dialect) (x1.Marks_Before) (x1.Marks_Trail) (x1.Op) (x1.Name) (x1.P_Op) (x1.P_N) (x1.P_Name) (x1.P_Field) (x1.P_L) (x1.E) (x1.Down) (x1.More) (x1.Body) (x1.Else) (x1.End) (x1.End2))))))) else (if (Bool.false || !t1.fst.name_ && !x1.Name.toList == { data := #[] : ByteArray }.toList) = Bool.true then some (Bool.false) else (if (decide ((↑x1.E.length : Int) < t1.fst.least) || decide ((↑x1.E.length : Int) > t1.fst.most)) = Bool.true then some (Bool.false) else (if (!t1.fst.body) = Bool.true then (if (Bool.true && (decide ((↑x1.Body.length : Int) > 0) || decide ((↑x1.End.length : Int) > 0))) = Bool.true then some (Bool.false) else (if (x1.More && x1.Op != 3 || x1.Down && x1.Op != 6) = Bool.true then some (Bool.false) else (if (!x1.More) = Bool.true then (if (Bool.true && (decide ((↑x1.Else.length : Int) > 0) || decide ((↑x1.End2.length : Int) > 0))) = Bool.true then some (Bool.false) else Ltree_checker_stmt_17 s k x0 x1 x2 k (x2) (x1.E) ((↑x1.E.length : Int)) (0) (x0.dialect) (x1.Marks_Before) (x1.Marks_Trail) (x1.Op) (x1.Name) (x1.P_Op) (x1.P_N) (x1.P_Name) (x1.P_Field) (x1.P_L) (x1.E) (x1.Down) (x1.More) (x1.Body) (x1.Else) (x1.End) (x1.End2)) else Ltree_checker_stmt_17 s k x0 x1 x2 k (x2) (x1.E) ((↑x1.E.length : Int)) (0) (x0.dialect) (x1.Marks_Before) (x1.Marks_Trail) (x1.Op) (x1.Name) (x1.P_Op) (x1.P_N) (x1.P_Name) (x1.P_Field) (x1.P_L) (x1.E) (x1.Down) (x1.More) (x1.Body) (x1.Else) (x1.End) (x1.End2)))) else (if (x1.More && x1.Op != 3 || x1.Down && x1.Op != 6) = Bool.true then some (Bool.false) else (if (!x1.More) = Bool.true then (if (Bool.true && (decide ((↑x1.Else.length : Int) > 0) || decide ((↑x1.End2.length : Int) > 0))) = Bool.true then some (Bool.false) else Ltree_checker_stmt_17 s k x0 x1 x2 k (x2) (x1.E) ((↑x1.E.length : Int)) (0) (x0.dialect) (x1.Marks_Before) (x1.Marks_Trail) (x1.Op) (x1.Name) (x1.P_Op) (x1.P_N) (x1.P_Name) (x1.P_Field) (x1.P_L) (x1.E) (x1.Down) (x1.More) (x1.Body) (x1.Else) (x1.End) (x1.End2)) else Ltree_checker_stmt_17 s k x0 x1 x2 k (x2) (x1.E) ((↑x1.E.length : Int)) (0) (x0.dialect) (x1.Marks_Before) (x1.Marks_Trail) (x1.Op) (x1.Name) (x1.P_Op) (x1.P_N) (x1.P_Name) (x1.P_Field) (x1.P_L) (x1.E) (x1.Down) (x1.More) (x1.Body) (x1.Else) (x1.End) (x1.End2))))))))) else (if t1.fst.name_ = Bool.true then ((s.f_tree_checker_name (x0, x1.Name, ())).bind fun t98 => (if (Bool.true && !t98 || !t1.fst.name_ && !x1.Name.toList == { data := #[] : ByteArray }.toList) = Bool.true then some (Bool.false) else (if (decide ((↑x1.E.length : Int) < t1.fst.least) || decide ((↑x1.E.length : Int) > t1.fst.most)) = Bool.true then some (Bool.false) else (if (!t1.fst.body) = Bool.true then (if (Bool.true && (decide ((↑x1.Body.length : Int) > 0) || decide ((↑x1.End.length : Int) > 0))) = Bool.true then some (Bool.false) else (if (x1.More && x1.Op != 3 || x1.Down && x1.Op != 6) = Bool.true then some (Bool.false) else (if (!x1.More) = Bool.true then (if (Bool.true && (decide ((↑x1.Else.length : Int) > 0) || decide ((↑x1.End2.length : Int) > 0))) = Bool.true then some (Bool.false) else Ltree_checker_stmt_17 s k x0 x1 x2 k (x2) (x1.E) ((↑x1.E.length : Int)) (0) (x0.dialect) (x1.Marks_Before) (x1.Marks_Trail) (x1.Op) (x1.Name) (x1.P_Op) (x1.P_N) (x1.P_Name) (x1.P_Field) (x1.P_L) (x1.E) (x1.Down) (x1.More) (x1.Body) (x1.Else) (x1.End) (x1.End2)) else Ltree_checker_stmt_17 s k x0 x1 x2 k (x2) (x1.E) ((↑x1.E.length : Int)) (0) (x0.dialect) (x1.Marks_Before) (x1.Marks_Trail) (x1.Op) (x1.Name) (x1.P_Op) (x1.P_N) (x1.P_Name) (x1.P_Field) (x1.P_L) (x1.E) (x1.Down) (x1.More) (x1.Body) (x1.Else) (x1.End) (x1.End2)))) else (if (x1.More && x1.Op != 3 || x1.Down && x1.Op != 6) = Bool.true then some (Bool.false) else (if (!x1.More) = Bool.true then (if (Bool.true && (decide ((↑x1.Else.length : Int) > 0) || decide ((↑x1.End2.length : Int) > 0))) = Bool.true then some (Bool.false) else Ltree_checker_stmt_17 s k x0 x1 x2 k (x2) (x1.E) ((↑x1.E.length : Int)) (0) (x0.dialect) (x1.Marks_Before) (x1.Marks_Trail) (x1.Op) (x1.Name) (x1.P_Op) (x1.P_N) (x1.P_Name) (x1.P_Field) (x1.P_L) (x1.E) (x1.Down) (x1.More) (x1.Body) (x1.Else) (x1.End) (x1.End2)) else Ltree_checker_stmt_17 s k x0 x1 x2 k (x2) (x1.E) ((↑x1.E.length : Int)) (0) (x0.dialect) (x1.Marks_Before) (x1.Marks_Trail) (x1.Op) (x1.Name) (x1.P_Op) (x1.P_N) (x1.P_Name) (x1.P_Field) (x1.P_L) (x1.E) (x1.Down) (x1.More) (x1.Body) (x1.Else) (x1.End) (x1.End2))))))) else (if (Bool.false || !t1.fst.name_ && !x1.Name.toList == { data := #[] : ByteArray }.toList) = Bool.true then some (Bool.false) else (if (decide ((↑x1.E.length : Int) < t1.fst.least) || decide ((↑x1.E.length : Int) > t1.fst.most)) = Bool.true then some (Bool.false) else (if (!t1.fst.body) = Bool.true then (if (Bool.true && (decide ((↑x1.Body.length : Int) > 0) || decide ((↑x1.End.length : Int) > 0))) = Bool.true then some (Bool.false) else (if (x1.More && x1.Op != 3 || x1.Down && x1.Op != 6) = Bool.true then some (Bool.false) else (if (!x1.More) = Bool.true then (if (Bool.true && (decide ((↑x1.Else.length : Int) > 0) || decide ((↑x1.End2.length : Int) > 0))) = Bool.true then some (Bool.false) else Ltree_checker_stmt_17 s k x0 x1 x2 k (x2) (x1.E) ((↑x1.E.length : Int)) (0) (x0.dialect) (x1.Marks_Before) (x1.Marks_Trail) (x1.Op) (x1.Name) (x1.P_Op) (x1.P_N) (x1.P_Name) (x1.P_Field) (x1.P_L) (x1.E) (x1.Down) (x1.More) (x1.Body) (x1.Else) (x1.End) (x1.End2)) else Ltree_checker_stmt_17 s k x0 x1 x2 k (x2) (x1.E) ((↑x1.E.length : Int)) (0) (x0.dialect) (x1.Marks_Before) (x1.Marks_Trail) (x1.Op) (x1.Name) (x1.P_Op) (x1.P_N) (x1.P_Name) (x1.P_Field) (x1.P_L) (x1.E) (x1.Down) (x1.More) (x1.Body) (x1.Else) (x1.End) (x1.End2)))) else (if (x1.More && x1.Op != 3 || x1.Down && x1.Op != 6) = Bool.true then some (Bool.false) else (if (!x1.More) = Bool.true then (if (Bool.true && (decide ((↑x1.Else.length : Int) > 0) || decide ((↑x1.End2.length : Int) > 0))) = Bool.true then some (Bool.false) else Ltree_checker_stmt_17 s k x0 x1 x2 k (x2) (x1.E) ((↑x1.E.length : Int)) (0) (x0.dialect) (x1.Marks_Before) (x1.Marks_Trail) (x1.Op) (x1.Name) (x1.P_Op) (x1.P_N) (x1.P_Name) (x1.P_Field) (x1.P_L) (x1.E) (x1.Down) (x1.More) (x1.Body) (x1.Else) (x1.End) (x1.End2)) else Ltree_checker_stmt_17 s k x0 x1 x2 k (x2) (x1.E) ((↑x1.E.length : Int)) (0) (x0.dialect) (x1.Marks_Before) (x1.Marks_Trail) (x1.Op) (x1.Name) (x1.P_Op) (x1.P_N) (x1.P_Name) (x1.P_Field) (x1.P_L) (x1.E) (x1.Down) (x1.More) (x1.Body) (x1.Else) (x1.End) (x1.End2)))))))) else some (Bool.false))) else (if (!t1.fst.place) = Bool.true then ((s.f_tree_none (x1.sub_P, ())).bind fun t169 => (if (Bool.false || Bool.true && !t169) = Bool.true then some (Bool.false) else (if t1.fst.name_ = Bool.true then ((s.f_tree_checker_name (x0, x1.Name, ())).bind fun t173 => (if (Bool.true && !t173 || !t1.fst.name_ && !x1.Name.toList == { data := #[] : ByteArray }.toList) = Bool.true then some (Bool.false) else (if (decide ((↑x1.E.length : Int) < t1.fst.least) || decide ((↑x1.E.length : Int) > t1.fst.most)) = Bool.true then some (Bool.false) else (if (!t1.fst.body) = Bool.true then (if (Bool.true && (decide ((↑x1.Body.length : Int) > 0) || decide ((↑x1.End.length : Int) > 0))) = Bool.true then some (Bool.false) else (if (x1.More && x1.Op != 3 || x1.Down && x1.Op != 6) = Bool.true then some (Bool.false) else (if (!x1.More) = Bool.true then (if (Bool.true && (decide ((↑x1.Else.length : Int) > 0) || decide ((↑x1.End2.length : Int) > 0))) = Bool.true then some (Bool.false) else Ltree_checker_stmt_17 s k x0 x1 x2 k (x2) (x1.E) ((↑x1.E.length : Int)) (0) (x0.dialect) (x1.Marks_Before) (x1.Marks_Trail) (x1.Op) (x1.Name) (x1.P_Op) (x1.P_N) (x1.P_Name) (x1.P_Field) (x1.P_L) (x1.E) (x1.Down) (x1.More) (x1.Body) (x1.Else) (x1.End) (x1.End2)) else Ltree_checker_stmt_17 s k x0 x1 x2 k (x2) (x1.E) ((↑x1.E.length : Int)) (0) (x0.dialect) (x1.Marks_Before) (x1.Marks_Trail) (x1.Op) (x1.Name) (x1.P_Op) (x1.P_N) (x1.P_Name) (x1.P_Field) (x1.P_L) (x1.E) (x1.Down) (x1.More) (x1.Body) (x1.Else) (x1.End) (x1.End2)))) else (if (x1.More && x1.Op != 3 || x1.Down && x1.Op != 6) = Bool.true then some (Bool.false) else (if (!x1.More) = Bool.true then (if (Bool.true && (decide ((↑x1.Else.length : Int) > 0) || decide ((↑x1.End2.length : Int) > 0))) = Bool.true then some (Bool.false) else Ltree_checker_stmt_17 s k x0 x1 x2 k (x2) (x1.E) ((↑x1.E.length : Int)) (0) (x0.dialect) (x1.Marks_Before) (x1.Marks_Trail) (x1.Op) (x1.Name) (x1.P_Op) (x1.P_N) (x1.P_Name) (x1.P_Field) (x1.P_L) (x1.E) (x1.Down) (x1.More) (x1.Body) (x1.Else) (x1.End) (x1.End2)) else Ltree_checker_stmt_17 s k x0 x1 x2 k (x2) (x1.E) ((↑x1.E.length : Int)) (0) (x0.dialect) (x1.Marks_Before) (x1.Marks_Trail) (x1.Op) (x1.Name) (x1.P_Op) (x1.P_N) (x1.P_Name) (x1.P_Field) (x1.P_L) (x1.E) (x1.Down) (x1.More) (x1.Body) (x1.Else) (x1.End) (x1.End2))))))) else (if (Bool.false || !t1.fst.name_ && !x1.Name.toList == { data := #[] : ByteArray }.toList) = Bool.true then some (Bool.false) else (if (decide ((↑x1.E.length : Int) < t1.fst.least) || decide ((↑x1.E.length : Int) > t1.fst.most)) = Bool.true then some (Bool.false) else (if (!t1.fst.body) = Bool.true then (if (Bool.true && (decide ((↑x1.Body.length : Int) > 0) || decide ((↑x1.End.length : Int) > 0))) = Bool.true then some (Bool.false) else (if (x1.More && x1.Op != 3 || x1.Down && x1.Op != 6) = Bool.true then some (Bool.false) else (if (!x1.More) = Bool.true then (if (Bool.true && (decide ((↑x1.Else.length : Int) > 0) || decide ((↑x1.End2.length : Int) > 0))) = Bool.true then some (Bool.false) else Ltree_checker_stmt_17 s k x0 x1 x2 k (x2) (x1.E) ((↑x1.E.length : Int)) (0) (x0.dialect) (x1.Marks_Before) (x1.Marks_Trail) (x1.Op) (x1.Name) (x1.P_Op) (x1.P_N) (x1.P_Name) (x1.P_Field) (x1.P_L) (x1.E) (x1.Down) (x1.More) (x1.Body) (x1.Else) (x1.End) (x1.End2)) else Ltree_checker_stmt_17 s k x0 x1 x2 k (x2) (x1.E) ((↑x1.E.length : Int)) (0) (x0.dialect) (x1.Marks_Before) (x1.Marks_Trail) (x1.Op) (x1.Name) (x1.P_Op) (x1.P_N) (x1.P_Name) (x1.P_Field) (x1.P_L) (x1.E) (x1.Down) (x1.More) (x1.Body) (x1.Else) (x1.End) (x1.End2)))) else (if (x1.More && x1.Op != 3 || x1.Down && x1.Op != 6) = Bool.true then some (Bool.false) else (if (!x1.More) = Bool.true then (if (Bool.true && (decide ((↑x1.Else.length : Int) > 0) || decide ((↑x1.End2.length : Int) > 0))) = Bool.true then some (Bool.false) else Ltree_checker_stmt_17 s k x0 x1 x2 k (x2) (x1.E) ((↑x1.E.length : Int)) (0) (x0.dialect) (x1.Marks_Before) (x1.Marks_Trail) (x1.Op) (x1.Name) (x1.P_Op) (x1.P_N) (x1.P_Name) (x1.P_Field) (x1.P_L) (x1.E) (x1.Down) (x1.More) (x1.Body) (x1.Else) (x1.End) (x1.End2)) else Ltree_checker_stmt_17 s k x0 x1 x2 k (x2) (x1.E) ((↑x1.E.length : Int)) (0) (x0.dialect) (x1.Marks_Before) (x1.Marks_Trail) (x1.Op) (x1.Name) (x1.P_Op) (x1.P_N) (x1.P_Name) (x1.P_Field) (x1.P_L) (x1.E) (x1.Down) (x1.More) (x1.Body) (x1.Else) (x1.End) (x1.End2))))))))) else (if t1.fst.name_ = Bool.true then ((s.f_tree_checker_name (x0, x1.Name, ())).bind fun t241 => (if (Bool.true && !t241 || !t1.fst.name_ && !x1.Name.toList == { data := #[] : ByteArray }.toList) = Bool.true then some (Bool.false) else (if (decide ((↑x1.E.length : Int) < t1.fst.least) || decide ((↑x1.E.length : Int) > t1.fst.most)) = Bool.true then some (Bool.false) else (if (!t1.fst.body) = Bool.true then (if (Bool.true && (decide ((↑x1.Body.length : Int) > 0) || decide ((↑x1.End.length : Int) > 0))) = Bool.true then some (Bool.false) else (if (x1.More && x1.Op != 3 || x1.Down && x1.Op != 6) = Bool.true then some (Bool.false) else (if (!x1.More) = Bool.true then (if (Bool.true && (decide ((↑x1.Else.length : Int) > 0) || decide ((↑x1.End2.length : Int) > 0))) = Bool.true then some (Bool.false) else Ltree_checker_stmt_17 s k x0 x1 x2 k (x2) (x1.E) ((↑x1.E.length : Int)) (0) (x0.dialect) (x1.Marks_Before) (x1.Marks_Trail) (x1.Op) (x1.Name) (x1.P_Op) (x1.P_N) (x1.P_Name) (x1.P_Field) (x1.P_L) (x1.E) (x1.Down) (x1.More) (x1.Body) (x1.Else) (x1.End) (x1.End2)) else Ltree_checker_stmt_17 s k x0 x1 x2 k (x2) (x1.E) ((↑x1.E.length : Int)) (0) (x0.dialect) (x1.Marks_Before) (x1.Marks_Trail) (x1.Op) (x1.Name) (x1.P_Op) (x1.P_N) (x1.P_Name) (x1.P_Field) (x1.P_L) (x1.E) (x1.Down) (x1.More) (x1.Body) (x1.Else) (x1.End) (x1.End2)))) else (if (x1.More && x1.Op != 3 || x1.Down && x1.Op != 6) = Bool.true then some (Bool.false) else (if (!x1.More) = Bool.true then (if (Bool.true && (decide ((↑x1.Else.length : Int) > 0) || decide ((↑x1.End2.length : Int) > 0))) = Bool.true then some (Bool.false) else Ltree_checker_stmt_17 s k x0 x1 x2 k (x2) (x1.E) ((↑x1.E.length : Int)) (0) (x0.dialect) (x1.Marks_Before) (x1.Marks_Trail) (x1.Op) (x1.Name) (x1.P_Op) (x1.P_N) (x1.P_Name) (x1.P_Field) (x1.P_L) (x1.E) (x1.Down) (x1.More) (x1.Body) (x1.Else) (x1.End) (x1.End2)) else Ltree_checker_stmt_17 s k x0 x1 x2 k (x2) (x1.E) ((↑x1.E.length : Int)) (0) (x0.dialect) (x1.Marks_Before) (x1.Marks_Trail) (x1.Op) (x1.Name) (x1.P_Op) (x1.P_N) (x1.P_Name) (x1.P_Field) (x1.P_L) (x1.E) (x1.Down) (x1.More) (x1.Body) (x1.Else) (x1.End) (x1.End2))))))) else (if (Bool.false || !t1.fst.name_ && !x1.Name.toList == { data := #[] : ByteArray }.toList) = Bool.true then some (Bool.false) else (if (decide ((↑x1.E.length : Int) < t1.fst.least) || decide ((↑x1.E.length : Int) > t1.fst.most)) = Bool.true then some (Bool.false) else (if (!t1.fst.body) = Bool.true then (if (Bool.true && (decide ((↑x1.Body.length : Int) > 0) || decide ((↑x1.End.length : Int) > 0))) = Bool.true then some (Bool.false) else (if (x1.More && x1.Op != 3 || x1.Down && x1.Op != 6) = Bool.true then some (Bool.false) else (if (!x1.More) = Bool.true then (if (Bool.true && (decide ((↑x1.Else.length : Int) > 0) || decide ((↑x1.End2.length : Int) > 0))) = Bool.true then some (Bool.false) else Ltree_checker_stmt_17 s k x0 x1 x2 k (x2) (x1.E) ((↑x1.E.length : Int)) (0) (x0.dialect) (x1.Marks_Before) (x1.Marks_Trail) (x1.Op) (x1.Name) (x1.P_Op) (x1.P_N) (x1.P_Name) (x1.P_Field) (x1.P_L) (x1.E) (x1.Down) (x1.More) (x1.Body) (x1.Else) (x1.End) (x1.End2)) else Ltree_checker_stmt_17 s k x0 x1 x2 k (x2) (x1.E) ((↑x1.E.length : Int)) (0) (x0.dialect) (x1.Marks_Before) (x1.Marks_Trail) (x1.Op) (x1.Name) (x1.P_Op) (x1.P_N) (x1.P_Name) (x1.P_Field) (x1.P_L) (x1.E) (x1.Down) (x1.More) (x1.Body) (x1.Else) (x1.End) (x1.End2)))) else (if (x1.More && x1.Op != 3 || x1.Down && x1.Op != 6) = Bool.true then some (Bool.false) else (if (!x1.More) = Bool.true then (if (Bool.true && (decide ((↑x1.Else.length : Int) > 0) || decide ((↑x1.End2.length : Int) > 0))) = Bool.true then some (Bool.false) else Ltree_checker_stmt_17 s k x0 x1 x2 k (x2) (x1.E) ((↑x1.E.length : Int)) (0) (x0.dialect) (x1.Marks_Before) (x1.Marks_Trail) (x1.Op) (x1.Name) (x1.P_Op) (x1.P_N) (x1.P_Name) (x1.P_Field) (x1.P_L) (x1.E) (x1.Down) (x1.More) (x1.Body) (x1.Else) (x1.End) (x1.End2)) else Ltree_checker_stmt_17 s k x0 x1 x2 k (x2) (x1.E) ((↑x1.E.length : Int)) (0) (x0.dialect) (x1.Marks_Before) (x1.Marks_Trail) (x1.Op) (x1.Name) (x1.P_Op) (x1.P_N) (x1.P_Name) (x1.P_Field) (x1.P_L) (x1.E) (x1.Down) (x1.More) (x1.Body) (x1.Else) (x1.End) (x1.End2))))))))))) else some (Bool.false)))
theorem Ltree_checker_stmt_17_eq (s : Fam) (k : Nat) (x0 : Ttree_checker) (x1 : TStmt) (x2 : Int) : ∀ (j17 : Nat) (v0 : Int) (v1 : List TExpr) (v2 : Int) (v3 : Int) (v4 : Int) (v5 : List ByteArray) (v6 : List ByteArray) (v7 : Int) (v8 : ByteArray) (v9 : Int) (v10 : Int) (v11 : ByteArray) (v12 : ByteArray) (v13 : List TExpr) (v14 : List TExpr) (v15 : Bool) (v16 : Bool) (v17 : List TStmt) (v18 : List TStmt) (v19 : List ByteArray) (v20 : List ByteArray), (loopGo EE (sp s) h_tree_checker_stmt co_tree_checker_stmt [] k Tryz.f87 17 [] j17 ({ tmps := ofL AV.any [(2, AV.c (CV.d (DV.lit (Go.Value.int Go.IntKind.i64 v0)))), (3, AV.c (CV.ptr 3 0)), (4, AV.c (CV.ptr 4 0)), (145, AV.c (CV.d (DV.sl 44 v1))), (146, AV.c (CV.d (DV.lit (Go.Value.int Go.IntKind.i64 v2)))), (147, AV.c (CV.d (DV.lit (Go.Value.int Go.IntKind.i64 v3))))], boxes := ofL Option.none [(3, Option.some [CV.d (DV.lit (Go.Value.int Go.IntKind.i64 v4))]), (4, Option.some [CV.d (DV.sl 9 v5), CV.d (DV.sl 9 v6), CV.d (DV.lit (Go.Value.int Go.IntKind.i64 v7)), CV.d (DV.lit (Go.Value.string v8)), CV.d (DV.lit (Go.Value.int Go.IntKind.i64 v9)), CV.d (DV.lit (Go.Value.int Go.IntKind.i64 v10)), CV.d (DV.lit (Go.Value.string v11)), CV.d (DV.lit (Go.Value.string v12)), CV.d (DV.sl 44 v13), CV.d (DV.sl 44 v14), CV.d (DV.lit (Go.Value.bool v15)), CV.d (DV.lit (Go.Value.bool v16)), CV.d (DV.sl 107 v17), CV.d (DV.sl 107 v18), CV.d (DV.sl 9 v19), CV.d (DV.sl 9 v20)])], objs := ofL Option.none [(145, Option.none), (1099511644160, Option.none), (1099511644161, Option.none), (1099511644168, Option.none), (1099511644169, Option.none), (1099511644172, Option.none), (1099511644173, Option.none), (1099511644174, Option.none), (1099511644175, Option.none)], fxs := ofL Option.none [(3, Option.none), (4, Option.none)] : AS II })).run = (Ltree_checker_stmt_17 s k x0 x1 x2 j17 v0 v1 v2 v3 v4 v5 v6 v7 v8 v9 v10 v11 v12 v13 v14 v15 v16 v17 v18 v19 v20).map rc_tree_checker_stmt.enc := by
  intro j17
  induction j17 with
  | zero => intros; rfl
  | succ j17 ih =>
    intros
    simp only [Ltree_checker_stmt_17, map_ite, map_bindO, map_someO, map_noneO, ← ih]
    kernel_rfl
theorem e_tree_checker_stmt (s : Fam) (k : Nat) (x : a_tree_checker_stmt) : (evFunC EE (sp s) h_tree_checker_stmt co_tree_checker_stmt k Tryz.f87 (c_tree_checker_stmt.enc x)).run = (B_tree_checker_stmt s k x.1 x.2.1 x.2.2.1).map rc_tree_checker_stmt.enc := by
  simp only [B_tree_checker_stmt, map_ite, map_bindO, map_someO, map_noneO, ← Ltree_checker_stmt_17_eq]
  kernel_rfl
-- 308 nodes
def Lr04_Check_4 (s : Fam) (k : Nat) (x0 : ByteArray) : Nat → ByteArray → Int → Option (Int)
  | 0, _, _ => none
  | j4 + 1, v0, v1 => (if decide (v1 < (↑v0.size : Int)) = Bool.true then (if 0 ≤ v1 then (if v1 < (↑v0.size : Int) then ((s.f_r04_Letter (bt v0 v1, v1 == 0, ())).bind fun t7 => (if (!t7) = Bool.true then some (11) else Lr04_Check_4 s k x0 j4 (v0) (Go.IntKind.i64.wrap (v1 + 1)))) else none) else none) else (if decide ((↑v0.size : Int) > 32) = Bool.true then some (3) else some (0)))
def B_r04_Check (s : Fam) (k : Nat) (x0 : ByteArray) : Option (Int) := (if (x0.toList == { data := #[] : ByteArray }.toList) = Bool.true then some (11) else Lr04_Check_4 s k x0 k (x0) (0))
theorem Lr04_Check_4_eq (s : Fam) (k : Nat) (x0 : ByteArray) : ∀ (j4 : Nat) (v0 : ByteArray) (v1 : Int), (loopGo EE (sp s) h_r04_Check co_r04_Check [] k Tryz.f88 4 [] j4 ({ tmps := ofL AV.any [(0, AV.c (CV.d (DV.lit (Go.Value.string v0)))), (3, AV.c (CV.d (DV.lit (Go.Value.int Go.IntKind.i64 v1))))], boxes := ofL Option.none [], objs := ofL Option.none [], fxs := ofL Option.none [] : AS II })).run = (Lr04_Check_4 s k x0 j4 v0 v1).map rc_r04_Check.enc := by
  intro j4
  induction j4 with
  | zero => intros; rfl
  | succ j4 ih =>
    intros
    simp only [Lr04_Check_4, map_ite, map_bindO, map_someO, map_noneO, ← ih]
    kernel_rfl
theorem e_r04_Check (s : Fam) (k : Nat) (x : a_r04_Check) : (evFunC EE (sp s) h_r04_Check co_r04_Check k Tryz.f88 (c_r04_Check.enc x)).run = (B_r04_Check s k x.1).map rc_r04_Check.enc := by
  simp only [B_r04_Check, map_ite, map_bindO, map_someO, map_noneO, ← Lr04_Check_4_eq]
  kernel_rfl
-- 15 nodes
def B_r04_Is (s : Fam) (k : Nat) (x0 : Int) (x1 : ByteArray) : Option (Bool) := ((s.f_r04_All (x0, ())).bind fun t1 => ((s.f_r04_Among (t1, x1, ())).bind fun t2 => some (t2)))
theorem e_r04_Is (s : Fam) (k : Nat) (x : a_r04_Is) : (evFunC EE (sp s) h_r04_Is co_r04_Is k Tryz.f89 (c_r04_Is.enc x)).run = (B_r04_Is s k x.1 x.2.1).map rc_r04_Is.enc := by
  simp only [B_r04_Is, map_ite, map_bindO, map_someO, map_noneO]
  kernel_rfl
-- 3 nodes
def Lr02_Check_4 (s : Fam) (k : Nat) (x0 : ByteArray) : Nat → ByteArray → Int → Option (Int)
  | 0, _, _ => none
  | j4 + 1, v0, v1 => (if decide (v1 < (↑v0.size : Int)) = Bool.true then (if 0 ≤ v1 then (if v1 < (↑v0.size : Int) then ((s.f_r02_right (bt v0 v1, ())).bind fun t7 => (if (!t7) = Bool.true then some (8) else Lr02_Check_4 s k x0 j4 (v0) (Go.IntKind.i64.wrap (v1 + 1)))) else none) else none) else some (0))
def B_r02_Check (s : Fam) (k : Nat) (x0 : ByteArray) : Option (Int) := (if decide ((↑x0.size : Int) > 1024) = Bool.true then some (3) else Lr02_Check_4 s k x0 k (x0) (0))
theorem Lr02_Check_4_eq (s : Fam) (k : Nat) (x0 : ByteArray) : ∀ (j4 : Nat) (v0 : ByteArray) (v1 : Int), (loopGo EE (sp s) h_r02_Check co_r02_Check [] k Tryz.f90 4 [] j4 ({ tmps := ofL AV.any [(0, AV.c (CV.d (DV.lit (Go.Value.string v0)))), (3, AV.c (CV.d (DV.lit (Go.Value.int Go.IntKind.i64 v1))))], boxes := ofL Option.none [], objs := ofL Option.none [], fxs := ofL Option.none [] : AS II })).run = (Lr02_Check_4 s k x0 j4 v0 v1).map rc_r02_Check.enc := by
  intro j4
  induction j4 with
  | zero => intros; rfl
  | succ j4 ih =>
    intros
    simp only [Lr02_Check_4, map_ite, map_bindO, map_someO, map_noneO, ← ih]
    kernel_rfl
theorem e_r02_Check (s : Fam) (k : Nat) (x : a_r02_Check) : (evFunC EE (sp s) h_r02_Check co_r02_Check k Tryz.f90 (c_r02_Check.enc x)).run = (B_r02_Check s k x.1).map rc_r02_Check.enc := by
  simp only [B_r02_Check, map_ite, map_bindO, map_someO, map_noneO, ← Lr02_Check_4_eq]
  kernel_rfl
-- 13 nodes
def B_r07_Type (s : Fam) (k : Nat) (x0 : Int) (x1 : TType) : Option (Bool) := (if (x1.Kind == 4) = Bool.true then (if (x1.Size == 0) = Bool.true then ((s.f_r07_Name (x0, x1.Name, ())).bind fun t3 => some (Bool.true && t3)) else some (Bool.false)) else some (decide (x1.Kind ≥ 1) && decide (x1.Kind ≤ 3) && decide (x1.Size ≥ 0) && decide (x1.Size ≤ 64) && x1.Name.toList == { data := #[] : ByteArray }.toList))
theorem e_r07_Type (s : Fam) (k : Nat) (x : a_r07_Type) : (evFunC EE (sp s) h_r07_Type co_r07_Type k Tryz.f91 (c_r07_Type.enc x)).run = (B_r07_Type s k x.1 x.2.1).map rc_r07_Type.enc := by
  simp only [B_r07_Type, map_ite, map_bindO, map_someO, map_noneO]
  kernel_rfl
-- 7 nodes
def Lr07_Routine_5 (s : Fam) (k : Nat) (x0 : Int) (x1 : ByteArray) : Nat → Int → List ByteArray → Option (Bool)
  | 0, _, _ => none
  | j5 + 1, v0, v1 => (if decide (v0 < (↑v1.length : Int)) = Bool.true then (if 0 ≤ v0 then (if v0 < (↑v1.length : Int) then ((s.f_r07_Name (1, v1.getD v0.toNat { data := #[] : ByteArray }, ())).bind fun t9 => (if (!t9) = Bool.true then some (Bool.false) else Lr07_Routine_5 s k x0 x1 j5 (Go.IntKind.i64.wrap (v0 + 1)) (v1))) else none) else none) else some (Bool.true))
def B_r07_Routine (s : Fam) (k : Nat) (x0 : Int) (x1 : ByteArray) : Option (Bool) := (if (x0 == 0) = Bool.true then ((s.f_r07_Name (0, x1, ())).bind fun t2 => some (t2)) else ((s.f_r07_Parts (x1, ())).bind fun t4 => Lr07_Routine_5 s k x0 x1 k (0) (t4)))
theorem Lr07_Routine_5_eq (s : Fam) (k : Nat) (x0 : Int) (x1 : ByteArray) : ∀ (j5 : Nat) (v0 : Int) (v1 : List ByteArray), (loopGo EE (sp s) h_r07_Routine co_r07_Routine [] k Tryz.f92 5 [] j5 ({ tmps := ofL AV.any [(5, AV.c (CV.own 5 0)), (6, AV.c (CV.d (DV.lit (Go.Value.int Go.IntKind.i64 v0))))], boxes := ofL Option.none [], objs := ofL Option.none [(5, Option.some { ver := 0, t := 9, xs := v1 : Obj II })], fxs := ofL Option.none [] : AS II })).run = (Lr07_Routine_5 s k x0 x1 j5 v0 v1).map rc_r07_Routine.enc := by
  intro j5
  induction j5 with
  | zero => intros; rfl
  | succ j5 ih =>
    intros
    simp only [Lr07_Routine_5, map_ite, map_bindO, map_someO, map_noneO, ← ih]
    kernel_rfl
theorem e_r07_Routine (s : Fam) (k : Nat) (x : a_r07_Routine) : (evFunC EE (sp s) h_r07_Routine co_r07_Routine k Tryz.f92 (c_r07_Routine.enc x)).run = (B_r07_Routine s k x.1 x.2.1).map rc_r07_Routine.enc := by
  simp only [B_r07_Routine, map_ite, map_bindO, map_someO, map_noneO, ← Lr07_Routine_5_eq]
  kernel_rfl
-- 15 nodes
def Lr07_params_2 (s : Fam) (k : Nat) (x0 : Int) (x1 : List TParam) : Nat → Int → List TParam → Int → Option (Bool)
  | 0, _, _, _ => none
  | j2 + 1, v0, v1, v2 => (if decide (v2 < (↑v1.length : Int)) = Bool.true then (if 0 ≤ v2 then (if v2 < (↑v1.length : Int) then ((s.f_r07_Name (v0, (v1.getD v2.toNat dd_TParam).Name, ())).bind fun t5 => (if (!t5) = Bool.false then ((s.f_r07_Type (v0, (v1.getD v2.toNat dd_TParam).sub_T, ())).bind fun t7 => (if (Bool.false || !t7 || decide ((v1.getD v2.toNat dd_TParam).Mode < 0) || decide ((v1.getD v2.toNat dd_TParam).Mode > 2) || (v1.getD v2.toNat dd_TParam).Mode == 2 && v0 == 0) = Bool.true then some (Bool.false) else (if ((v1.getD v2.toNat dd_TParam).Mode == 0 && ((v1.getD v2.toNat dd_TParam).T_Size != 0 || (v1.getD v2.toNat dd_TParam).T_Kind == 4)) = Bool.false then (if ((v1.getD v2.toNat dd_TParam).Mode != 2 && decide (v2 > 0)) = Bool.true then (if 0 ≤ Go.IntKind.i64.wrap (v2 - 1) then (if Go.IntKind.i64.wrap (v2 - 1) < (↑v1.length : Int) then (if (Bool.false || Bool.true && (v1.getD (Go.IntKind.i64.wrap (v2 - 1)).toNat dd_TParam).Mode == 2) = Bool.true then some (Bool.false) else Lr07_params_2 s k x0 x1 j2 (v0) (v1) (Go.IntKind.i64.wrap (v2 + 1))) else none) else none) else Lr07_params_2 s k x0 x1 j2 (v0) (v1) (Go.IntKind.i64.wrap (v2 + 1))) else some (Bool.false)))) else some (Bool.false))) else none) else none) else some (decide ((↑v1.length : Int) ≤ 512)))
def B_r07_params (s : Fam) (k : Nat) (x0 : Int) (x1 : List TParam) : Option (Bool) := Lr07_params_2 s k x0 x1 k (x0) (x1) (0)
theorem Lr07_params_2_eq (s : Fam) (k : Nat) (x0 : Int) (x1 : List TParam) : ∀ (j2 : Nat) (v0 : Int) (v1 : List TParam) (v2 : Int), (loopGo EE (sp s) h_r07_params co_r07_params [] k Tryz.f93 2 [] j2 ({ tmps := ofL AV.any [(0, AV.c (CV.d (DV.lit (Go.Value.int Go.IntKind.i64 v0)))), (1, AV.c (CV.d (DV.sl 145 v1))), (5, AV.c (CV.d (DV.lit (Go.Value.int Go.IntKind.i64 v2))))], boxes := ofL Option.none [], objs := ofL Option.none [], fxs := ofL Option.none [] : AS II })).run = (Lr07_params_2 s k x0 x1 j2 v0 v1 v2).map rc_r07_params.enc := by
  intro j2
  induction j2 with
  | zero => intros; rfl
  | succ j2 ih =>
    intros
    simp only [Lr07_params_2, map_ite, map_bindO, map_someO, map_noneO, ← ih]
    kernel_rfl
theorem e_r07_params (s : Fam) (k : Nat) (x : a_r07_params) : (evFunC EE (sp s) h_r07_params co_r07_params k Tryz.f93 (c_r07_params.enc x)).run = (B_r07_params s k x.1 x.2.1).map rc_r07_params.enc := by
  simp only [B_r07_params, map_ite, map_bindO, map_someO, map_noneO, ← Lr07_params_2_eq]
  kernel_rfl
-- 36 nodes
def Lr07_Stmt_14 (s : Fam) (k : Nat) (x0 : Int) (x1 : TStmt) (x2 : Int) : Nat → Int → Int → Int → List ByteArray → List ByteArray → Int → ByteArray → Int → Int → ByteArray → ByteArray → List TExpr → List TExpr → Bool → Bool → List TStmt → List TStmt → List ByteArray → List ByteArray → Option (Bool)
  | 0, _, _, _, _, _, _, _, _, _, _, _, _, _, _, _, _, _, _, _ => none
  | j14 + 1, v0, v1, v2, v3, v4, v5, v6, v7, v8, v9, v10, v11, v12, v13, v14, v15, v16, v17, v18 => (if decide (v2 < (↑v12.length : Int)) = Bool.true then (if 0 ≤ v2 then (if v2 < (↑v12.length : Int) then ((s.f_r07_Expr (v0, (v12.getD v2.toNat dd_TExpr).re, ())).bind fun t16 => (if (!t16) = Bool.false then (if (v5 == 2) = Bool.true then (if 0 ≤ v2 then (if v2 < (↑v12.length : Int) then (if (Bool.false || Bool.true && (v12.getD v2.toNat dd_TExpr).Op != 7) = Bool.true then some (Bool.false) else Lr07_Stmt_14 s k x0 x1 x2 j14 (v0) (v1) (Go.IntKind.i64.wrap (v2 + 1)) (v3) (v4) (v5) (v6) (v7) (v8) (v9) (v10) (v11) (v12) (v13) (v14) (v15) (v16) (v17) (v18)) else none) else none) else Lr07_Stmt_14 s k x0 x1 x2 j14 (v0) (v1) (Go.IntKind.i64.wrap (v2 + 1)) (v3) (v4) (v5) (v6) (v7) (v8) (v9) (v10) (v11) (v12) (v13) (v14) (v15) (v16) (v17) (v18)) else some (Bool.false))) else none) else none) else (if (v5 == 1 || v5 == 7) = Bool.true then ((s.f_r07_place (v0, { Op := v7, N := v8, Name := v9, Field := v10, L := v11 : TExpr }, ())).bind fun t40 => (if (!t40) = Bool.true then some (Bool.false) else (if (v5 == 6) = Bool.true then ((s.f_r07_Name (v0, v6, ())).bind fun t44 => (if (!t44) = Bool.true then some (Bool.false) else (if (v14 && v5 != 3) = Bool.false then (if (!v14) = Bool.true then (if (Bool.false || Bool.true && (decide ((↑v16.length : Int) > 0) || decide ((↑v18.length : Int) > 0))) = Bool.true then some (Bool.false) else (if (decide (v5 < 3) || decide (v5 > 6)) = Bool.true then (if (Bool.true && (decide ((↑v15.length : Int) > 0) || decide ((↑v17.length : Int) > 0))) = Bool.true then some (Bool.false) else ((s.f_r07_Stmts (v0, v15, Go.IntKind.i64.wrap (v1 + 1), ())).bind fun t54 => (if t54 = Bool.true then ((s.f_r07_Stmts (v0, v16, Go.IntKind.i64.wrap (v1 + 1), ())).bind fun t56 => some (Bool.true && t56)) else some (Bool.false)))) else ((s.f_r07_Stmts (v0, v15, Go.IntKind.i64.wrap (v1 + 1), ())).bind fun t63 => (if t63 = Bool.true then ((s.f_r07_Stmts (v0, v16, Go.IntKind.i64.wrap (v1 + 1), ())).bind fun t65 => some (Bool.true && t65)) else some (Bool.false))))) else (if (decide (v5 < 3) || decide (v5 > 6)) = Bool.true then (if (Bool.true && (decide ((↑v15.length : Int) > 0) || decide ((↑v17.length : Int) > 0))) = Bool.true then some (Bool.false) else ((s.f_r07_Stmts (v0, v15, Go.IntKind.i64.wrap (v1 + 1), ())).bind fun t76 => (if t76 = Bool.true then ((s.f_r07_Stmts (v0, v16, Go.IntKind.i64.wrap (v1 + 1), ())).bind fun t78 => some (Bool.true && t78)) else some (Bool.false)))) else ((s.f_r07_Stmts (v0, v15, Go.IntKind.i64.wrap (v1 + 1), ())).bind fun t85 => (if t85 = Bool.true then ((s.f_r07_Stmts (v0, v16, Go.IntKind.i64.wrap (v1 + 1), ())).bind fun t87 => some (Bool.true && t87)) else some (Bool.false))))) else some (Bool.false)))) else (if (!v6.toList == { data := #[] : ByteArray }.toList || v13) = Bool.true then some (Bool.false) else (if (v14 && v5 != 3) = Bool.false then (if (!v14) = Bool.true then (if (Bool.false || Bool.true && (decide ((↑v16.length : Int) > 0) || decide ((↑v18.length : Int) > 0))) = Bool.true then some (Bool.false) else (if (decide (v5 < 3) || decide (v5 > 6)) = Bool.true then (if (Bool.true && (decide ((↑v15.length : Int) > 0) || decide ((↑v17.length : Int) > 0))) = Bool.true then some (Bool.false) else ((s.f_r07_Stmts (v0, v15, Go.IntKind.i64.wrap (v1 + 1), ())).bind fun t104 => (if t104 = Bool.true then ((s.f_r07_Stmts (v0, v16, Go.IntKind.i64.wrap (v1 + 1), ())).bind fun t106 => some (Bool.true && t106)) else some (Bool.false)))) else ((s.f_r07_Stmts (v0, v15, Go.IntKind.i64.wrap (v1 + 1), ())).bind fun t113 => (if t113 = Bool.true then ((s.f_r07_Stmts (v0, v16, Go.IntKind.i64.wrap (v1 + 1), ())).bind fun t115 => some (Bool.true && t115)) else some (Bool.false))))) else (if (decide (v5 < 3) || decide (v5 > 6)) = Bool.true then (if (Bool.true && (decide ((↑v15.length : Int) > 0) || decide ((↑v17.length : Int) > 0))) = Bool.true then some (Bool.false) else ((s.f_r07_Stmts (v0, v15, Go.IntKind.i64.wrap (v1 + 1), ())).bind fun t126 => (if t126 = Bool.true then ((s.f_r07_Stmts (v0, v16, Go.IntKind.i64.wrap (v1 + 1), ())).bind fun t128 => some (Bool.true && t128)) else some (Bool.false)))) else ((s.f_r07_Stmts (v0, v15, Go.IntKind.i64.wrap (v1 + 1), ())).bind fun t135 => (if t135 = Bool.true then ((s.f_r07_Stmts (v0, v16, Go.IntKind.i64.wrap (v1 + 1), ())).bind fun t137 => some (Bool.true && t137)) else some (Bool.false))))) else some (Bool.false)))))) else ((s.f_r07_none ({ Op := v7, N := v8, Name := v9, Field := v10, L := v11 : TExpr }, ())).bind fun t145 => (if (!t145) = Bool.true then some (Bool.false) else (if (v5 == 6) = Bool.true then ((s.f_r07_Name (v0, v6, ())).bind fun t149 => (if (!t149) = Bool.true then some (Bool.false) else (if (v14 && v5 != 3) = Bool.false then (if (!v14) = Bool.true then (if (Bool.false || Bool.true && (decide ((↑v16.length : Int) > 0) || decide ((↑v18.length : Int) > 0))) = Bool.true then some (Bool.false) else (if (decide (v5 < 3) || decide (v5 > 6)) = Bool.true then (if (Bool.true && (decide ((↑v15.length : Int) > 0) || decide ((↑v17.length : Int) > 0))) = Bool.true then some (Bool.false) else ((s.f_r07_Stmts (v0, v15, Go.IntKind.i64.wrap (v1 + 1), ())).bind fun t159 => (if t159 = Bool.true then ((s.f_r07_Stmts (v0, v16, Go.IntKind.i64.wrap (v1 + 1), ())).bind fun t161 => some (Bool.true && t161)) else some (Bool.false)))) else ((s.f_r07_Stmts (v0, v15, Go.IntKind.i64.wrap (v1 + 1), ())).bind fun t168 => (if t168 = Bool.true then ((s.f_r07_Stmts (v0, v16, Go.IntKind.i64.wrap (v1 + 1), ())).bind fun t170 => some (Bool.true && t170)) else some (Bool.false))))) else (if (decide (v5 < 3) || decide (v5 > 6)) = Bool.true then (if (Bool.true && (decide ((↑v15.length : Int) > 0) || decide ((↑v17.length : Int) > 0))) = Bool.true then some (Bool.false) else ((s.f_r07_Stmts (v0, v15, Go.IntKind.i64.wrap (v1 + 1), ())).bind fun t181 => (if t181 = Bool.true then ((s.f_r07_Stmts (v0, v16, Go.IntKind.i64.wrap (v1 + 1), ())).bind fun t183 => some (Bool.true && t183)) else some (Bool.false)))) else ((s.f_r07_Stmts (v0, v15, Go.IntKind.i64.wrap (v1 + 1), ())).bind fun t190 => (if t190 = Bool.true then ((s.f_r07_Stmts (v0, v16, Go.IntKind.i64.wrap (v1 + 1), ())).bind fun t192 => some (Bool.true && t192)) else some (Bool.false))))) else some (Bool.false)))) else (if (!v6.toList == { data := #[] : ByteArray }.toList || v13) = Bool.true then some (Bool.false) else (if (v14 && v5 != 3) = Bool.false then (if (!v14) = Bool.true then (if (Bool.false || Bool.true && (decide ((↑v16.length : Int) > 0) || decide ((↑v18.length : Int) > 0))) = Bool.true then some (Bool.false) else (if (decide (v5 < 3) || decide (v5 > 6)) = Bool.true then (if (Bool.true && (decide ((↑v15.length : Int) > 0) || decide ((↑v17.length : Int) > 0))) = Bool.true then some (Bool.false) else ((s.f_r07_Stmts (v0, v15, Go.IntKind.i64.wrap (v1 + 1), ())).bind fun t209 => (if t209 = Bool.true then ((s.f_r07_Stmts (v0, v16, Go.IntKind.i64.wrap (v1 + 1), ())).bind fun t211 => some (Bool.true && t211)) else some (Bool.false)))) else ((s.f_r07_Stmts (v0, v15, Go.IntKind.i64.wrap (v1 + 1), ())).bind fun t218 => (if t218 = Bool.true then ((s.f_r07_Stmts (v0, v16, Go.IntKind.i64.wrap (v1 + 1), ())).bind fun t220 => some (Bool.true && t220)) else some (Bool.false))))) else (if (decide (v5 < 3) || decide (v5 > 6)) = Bool.true then (if (Bool.true && (decide ((↑v15.length : Int) > 0) || decide ((↑v17.length : Int) > 0))) = Bool.true then some (Bool.false) else ((s.f_r07_Stmts (v0, v15, Go.IntKind.i64.wrap (v1 + 1), ())).bind fun t231 => (if t231 = Bool.true then ((s.f_r07_Stmts (v0, v16, Go.IntKind.i64.wrap (v1 + 1), ())).bind fun t233 => some (Bool.true && t233)) else some (Bool.false)))) else ((s.f_r07_Stmts (v0, v15, Go.IntKind.i64.wrap (v1 + 1), ())).bind fun t240 => (if t240 = Bool.true then ((s.f_r07_Stmts (v0, v16, Go.IntKind.i64.wrap (v1 + 1), ())).bind fun t242 => some (Bool.true && t242)) else some (Bool.false))))) else some (Bool.false))))))))
def B_r07_Stmt (s : Fam) (k : Nat) (x0 : Int) (x1 : TStmt) (x2 : Int) : Option (Bool) := (if decide (x2 > 48) = Bool.false then ((s.f_r07_marks (x1.sub_Marks, ())).bind fun t2 => (if (Bool.false || !t2) = Bool.false then ((s.f_r07_notes (x1.End, ())).bind fun t4 => (if (Bool.false || !t4) = Bool.false then ((s.f_r07_notes (x1.End2, ())).bind fun t6 => (if (Bool.false || !t6 || decide (x1.Op < 1) || decide (x1.Op > 9)) = Bool.true then some (Bool.false) else (if (x1.Op == 6) = Bool.true then (if (decide ((↑x1.E.length : Int) < 2) || decide ((↑x1.E.length : Int) > 2)) = Bool.true then some (Bool.false) else Lr07_Stmt_14 s k x0 x1 x2 k (x0) (x2) (0) (x1.Marks_Before) (x1.Marks_Trail) (x1.Op) (x1.Name) (x1.P_Op) (x1.P_N) (x1.P_Name) (x1.P_Field) (x1.P_L) (x1.E) (x1.Down) (x1.More) (x1.Body) (x1.Else) (x1.End) (x1.End2)) else (if (x1.Op == 7) = Bool.true then (if (decide ((↑x1.E.length : Int) < 0) || decide ((↑x1.E.length : Int) > 0)) = Bool.true then some (Bool.false) else Lr07_Stmt_14 s k x0 x1 x2 k (x0) (x2) (0) (x1.Marks_Before) (x1.Marks_Trail) (x1.Op) (x1.Name) (x1.P_Op) (x1.P_N) (x1.P_Name) (x1.P_Field) (x1.P_L) (x1.E) (x1.Down) (x1.More) (x1.Body) (x1.Else) (x1.End) (x1.End2)) else (if (x1.Op == 9) = Bool.true then (if (decide ((↑x1.E.length : Int) < 0) || decide ((↑x1.E.length : Int) > 1)) = Bool.true then some (Bool.false) else Lr07_Stmt_14 s k x0 x1 x2 k (x0) (x2) (0) (x1.Marks_Before) (x1.Marks_Trail) (x1.Op) (x1.Name) (x1.P_Op) (x1.P_N) (x1.P_Name) (x1.P_Field) (x1.P_L) (x1.E) (x1.Down) (x1.More) (x1.Body) (x1.Else) (x1.End) (x1.End2)) else (if (decide ((↑x1.E.length : Int) < 1) || decide ((↑x1.E.length : Int) > 1)) = Bool.true then some (Bool.false) else Lr07_Stmt_14 s k x0 x1 x2 k (x0) (x2) (0) (x1.Marks_Before) (x1.Marks_Trail) (x1.Op) (x1.Name) (x1.P_Op) (x1.P_N) (x1.P_Name) (x1.P_Field) (x1.P_L) (x1.E) (x1.Down) (x1.More) (x1.Body) (x1.Else) (x1.End) (x1.End2))))))) else some (Bool.false))) else some (Bool.false))) else some (Bool.false))
theorem Lr07_Stmt_14_eq (s : Fam) (k : Nat) (x0 : Int) (x1 : TStmt) (x2 : Int) : ∀ (j14 : Nat) (v0 : Int) (v1 : Int) (v2 : Int) (v3 : List ByteArray) (v4 : List ByteArray) (v5 : Int) (v6 : ByteArray) (v7 : Int) (v8 : Int) (v9 : ByteArray) (v10 : ByteArray) (v11 : List TExpr) (v12 : List TExpr) (v13 : Bool) (v14 : Bool) (v15 : List TStmt) (v16 : List TStmt) (v17 : List ByteArray) (v18 : List ByteArray), (loopGo EE (sp s) h_r07_Stmt co_r07_Stmt [] k Tryz.f94 14 [] j14 ({ tmps := ofL AV.any [(0, AV.c (CV.d (DV.lit (Go.Value.int Go.IntKind.i64 v0)))), (2, AV.c (CV.d (DV.lit (Go.Value.int Go.IntKind.i64 v1)))), (4, AV.c (CV.ptr 4 0)), (9, AV.c (CV.d (DV.lit (Go.Value.int Go.IntKind.i64 v2))))], boxes := ofL Option.none [(4, Option.some [CV.d (DV.sl 9 v3), CV.d (DV.sl 9 v4), CV.d (DV.lit (Go.Value.int Go.IntKind.i64 v5)), CV.d (DV.lit (Go.Value.string v6)), CV.d (DV.lit (Go.Value.int Go.IntKind.i64 v7)), CV.d (DV.lit (Go.Value.int Go.IntKind.i64 v8)), CV.d (DV.lit (Go.Value.string v9)), CV.d (DV.lit (Go.Value.string v10)), CV.d (DV.sl 44 v11), CV.d (DV.sl 44 v12), CV.d (DV.lit (Go.Value.bool v13)), CV.d (DV.lit (Go.Value.bool v14)), CV.d (DV.sl 107 v15), CV.d (DV.sl 107 v16), CV.d (DV.sl 9 v17), CV.d (DV.sl 9 v18)])], objs := ofL Option.none [(1099511644160, Option.none), (1099511644161, Option.none), (1099511644168, Option.none), (1099511644169, Option.none), (1099511644172, Option.none), (1099511644173, Option.none), (1099511644174, Option.none), (1099511644175, Option.none)], fxs := ofL Option.none [(4, Option.none)] : AS II })).run = (Lr07_Stmt_14 s k x0 x1 x2 j14 v0 v1 v2 v3 v4 v5 v6 v7 v8 v9 v10 v11 v12 v13 v14 v15 v16 v17 v18).map rc_r07_Stmt.enc := by
  intro j14
  induction j14 with
  | zero => intros; rfl
  | succ j14 ih =>
    intros
    simp only [Lr07_Stmt_14, map_ite, map_bindO, map_someO, map_noneO, ← ih]
    kernel_rfl
theorem e_r07_Stmt (s : Fam) (k : Nat) (x : a_r07_Stmt) : (evFunC EE (sp s) h_r07_Stmt co_r07_Stmt k Tryz.f94 (c_r07_Stmt.enc x)).run = (B_r07_Stmt s k x.1 x.2.1 x.2.2.1).map rc_r07_Stmt.enc := by
  simp only [B_r07_Stmt, map_ite, map_bindO, map_someO, map_noneO, ← Lr07_Stmt_14_eq]
  kernel_rfl
-- 281 nodes
def Ltree_each_Rec_3 (s : Fam) (k : Nat) (x0 : List TRec) (x1 : Thing × Unit) : Nat → List TRec → Int → Int → List TRec → Thing → Option (List TRec × Thing × Unit)
  | 0, _, _, _, _, _ => none
  | j3 + 1, v0, v1, v2, v3, v4 => (if decide (v2 < v1) = Bool.true then (if 0 ≤ v2 then (if v2 < (↑v0.length : Int) then ((s.f_tree_mapper_rec ((v4, ()), v0.getD v2.toNat dd_TRec, ())).bind fun t5 => (if (v3 ++ [t5.fst]).length * 112 ≤ 140737488355328 then Ltree_each_Rec_3 s k x0 x1 j3 (v0) (v1) (Go.IntKind.i64.wrap (v2 + 1)) (v3 ++ [t5.fst]) (t5.snd.fst) else none)) else none) else none) else some ((v3, v4, ())))
def B_tree_each_Rec (s : Fam) (k : Nat) (x0 : List TRec) (x1 : Thing × Unit) : Option (List TRec × Thing × Unit) := Ltree_each_Rec_3 s k x0 x1 k (x0) ((↑x0.length : Int)) (0) ([]) (x1.fst)
theorem Ltree_each_Rec_3_eq (s : Fam) (k : Nat) (x0 : List TRec) (x1 : Thing × Unit) : ∀ (j3 : Nat) (v0 : List TRec) (v1 : Int) (v2 : Int) (v3 : List TRec) (v4 : Thing), (loopGo EE (sp s) h_tree_each_Rec co_tree_each_Rec (rootAs (unAs 1000004 (c_tree_each_Rec.enc (x0, x1, ()))).1) k Tryz.f97 3 [] j3 ({ tmps := ofL AV.any [(1, AV.c (CV.mth 98 [CV.fx 1000004])), (5, AV.c (CV.own 5 0)), (8, AV.c (CV.d (DV.sl 59 v0))), (9, AV.c (CV.d (DV.lit (Go.Value.int Go.IntKind.i64 v1)))), (10, AV.c (CV.d (DV.lit (Go.Value.int Go.IntKind.i64 v2))))], boxes := ofL Option.none [(1000004, Option.none)], objs := ofL Option.none [(5, Option.some { ver := 0, t := 59, xs := v3 : Obj II }), (8, Option.none)], fxs := ofL Option.none [(1000004, Option.some v4)] : AS II })).run = (Ltree_each_Rec_3 s k x0 x1 j3 v0 v1 v2 v3 v4).map rc_tree_each_Rec.enc := by
  intro j3
  induction j3 with
  | zero => intros; rfl
  | succ j3 ih =>
    intros
    simp only [Ltree_each_Rec_3, map_ite, map_bindO, map_someO, map_noneO, ← ih]
    kernel_rfl
theorem e_tree_each_Rec (s : Fam) (k : Nat) (x : a_tree_each_Rec) : (evFunC EE (sp s) h_tree_each_Rec co_tree_each_Rec k Tryz.f97 (c_tree_each_Rec.enc x)).run = (B_tree_each_Rec s k x.1 x.2.1).map rc_tree_each_Rec.enc := by
  simp only [B_tree_each_Rec, map_ite, map_bindO, map_someO, map_noneO, ← Ltree_each_Rec_3_eq]
  kernel_rfl
-- 11 nodes
def B_tree_mapper_rec (s : Fam) (k : Nat) (x0 : Thing × Unit) (x1 : TRec) : Option (TRec × Thing × Unit) := ((s.f_tree_mapper_marks ((x0.fst, ()), x1.sub_Marks, ())).bind fun t1 => ((s.f_tree_mapper_parts ((t1.snd.fst, ()), x1.Name, ())).bind fun t2 => ((s.f_tree_each_Field (x1.Fields, ((), (t2.snd.fst, ()), ()), ())).bind fun t3 => ((s.f_slices_Clone_string (x1.End, ())).bind fun t4 => some (({ Marks_Before := t1.fst.Before, Marks_Trail := t1.fst.Trail, Name := t2.fst, Fields := t3.fst, End := t4 : TRec }, t3.snd.fst, ()))))))
theorem e_tree_mapper_rec (s : Fam) (k : Nat) (x : a_tree_mapper_rec) : (evFunC EE (sp s) h_tree_mapper_rec co_tree_mapper_rec k Tryz.f98 (c_tree_mapper_rec.enc x)).run = (B_tree_mapper_rec s k x.1 x.2.1).map rc_tree_mapper_rec.enc := by
  simp only [B_tree_mapper_rec, map_ite, map_bindO, map_someO, map_noneO]
  kernel_rfl
-- 5 nodes
def Ltree_each_Var_3 (s : Fam) (k : Nat) (x0 : List TVar) (x1 : Thing × Unit) : Nat → List TVar → Int → Int → List TVar → Thing → Option (List TVar × Thing × Unit)
  | 0, _, _, _, _, _ => none
  | j3 + 1, v0, v1, v2, v3, v4 => (if decide (v2 < v1) = Bool.true then (if 0 ≤ v2 then (if v2 < (↑v0.length : Int) then ((s.f_tree_mapper_variable ((v4, ()), v0.getD v2.toNat dd_TVar, ())).bind fun t5 => (if (v3 ++ [t5.fst]).length * 96 ≤ 140737488355328 then Ltree_each_Var_3 s k x0 x1 j3 (v0) (v1) (Go.IntKind.i64.wrap (v2 + 1)) (v3 ++ [t5.fst]) (t5.snd.fst) else none)) else none) else none) else some ((v3, v4, ())))
def B_tree_each_Var (s : Fam) (k : Nat) (x0 : List TVar) (x1 : Thing × Unit) : Option (List TVar × Thing × Unit) := Ltree_each_Var_3 s k x0 x1 k (x0) ((↑x0.length : Int)) (0) ([]) (x1.fst)
theorem Ltree_each_Var_3_eq (s : Fam) (k : Nat) (x0 : List TVar) (x1 : Thing × Unit) : ∀ (j3 : Nat) (v0 : List TVar) (v1 : Int) (v2 : Int) (v3 : List TVar) (v4 : Thing), (loopGo EE (sp s) h_tree_each_Var co_tree_each_Var (rootAs (unAs 1000004 (c_tree_each_Var.enc (x0, x1, ()))).1) k Tryz.f99 3 [] j3 ({ tmps := ofL AV.any [(1, AV.c (CV.mth 100 [CV.fx 1000004])), (5, AV.c (CV.own 5 0)), (8, AV.c (CV.d (DV.sl 98 v0))), (9, AV.c (CV.d (DV.lit (Go.Value.int Go.IntKind.i64 v1)))), (10, AV.c (CV.d (DV.lit (Go.Value.int Go.IntKind.i64 v2))))], boxes := ofL Option.none [(1000004, Option.none)], objs := ofL Option.none [(5, Option.some { ver := 0, t := 98, xs := v3 : Obj II }), (8, Option.none)], fxs := ofL Option.none [(1000004, Option.some v4)] : AS II })).run = (Ltree_each_Var_3 s k x0 x1 j3 v0 v1 v2 v3 v4).map rc_tree_each_Var.enc := by
  intro j3
  induction j3 with
  | zero => intros; rfl
  | succ j3 ih =>
    intros
    simp only [Ltree_each_Var_3, map_ite, map_bindO, map_someO, map_noneO, ← ih]
    kernel_rfl
theorem e_tree_each_Var (s : Fam) (k : Nat) (x : a_tree_each_Var) : (evFunC EE (sp s) h_tree_each_Var co_tree_each_Var k Tryz.f99 (c_tree_each_Var.enc x)).run = (B_tree_each_Var s k x.1 x.2.1).map rc_tree_each_Var.enc := by
  simp only [B_tree_each_Var, map_ite, map_bindO, map_someO, map_noneO, ← Ltree_each_Var_3_eq]
  kernel_rfl
-- 11 nodes
def B_tree_mapper_variable (s : Fam) (k : Nat) (x0 : Thing × Unit) (x1 : TVar) : Option (TVar × Thing × Unit) := ((s.f_tree_mapper_marks ((x0.fst, ()), x1.sub_Marks, ())).bind fun t1 => ((s.f_tree_mapper_parts ((t1.snd.fst, ()), x1.Name, ())).bind fun t2 => ((s.f_tree_mapper_typ ((t2.snd.fst, ()), x1.sub_T, ())).bind fun t3 => some (({ Marks_Before := t1.fst.Before, Marks_Trail := t1.fst.Trail, Name := t2.fst, T_Kind := t3.fst.Kind, T_Size := t3.fst.Size, T_Name := t3.fst.Name : TVar }, t3.snd.fst, ())))))
theorem e_tree_mapper_variable (s : Fam) (k : Nat) (x : a_tree_mapper_variable) : (evFunC EE (sp s) h_tree_mapper_variable co_tree_mapper_variable k Tryz.f100 (c_tree_mapper_variable.enc x)).run = (B_tree_mapper_variable s k x.1 x.2.1).map rc_tree_mapper_variable.enc := by
  simp only [B_tree_mapper_variable, map_ite, map_bindO, map_someO, map_noneO]
  kernel_rfl
-- 4 nodes
def Ltree_each_Routine_3 (s : Fam) (k : Nat) (x0 : List TRoutine) (x1 : Thing × Unit) : Nat → List TRoutine → Int → Int → List TRoutine → Thing → Option (List TRoutine × Thing × Unit)
  | 0, _, _, _, _, _ => none
  | j3 + 1, v0, v1, v2, v3, v4 => (if decide (v2 < v1) = Bool.true then (if 0 ≤ v2 then (if v2 < (↑v0.length : Int) then ((s.f_tree_mapper_routine ((v4, ()), (v0.getD v2.toNat dd_TRoutine).re, ())).bind fun t5 => (if (v3 ++ [t5.fst.re]).length * 192 ≤ 140737488355328 then Ltree_each_Routine_3 s k x0 x1 j3 (v0) (v1) (Go.IntKind.i64.wrap (v2 + 1)) (v3 ++ [t5.fst.re]) (t5.snd.fst) else none)) else none) else none) else some ((v3, v4, ())))
def B_tree_each_Routine (s : Fam) (k : Nat) (x0 : List TRoutine) (x1 : Thing × Unit) : Option (List TRoutine × Thing × Unit) := Ltree_each_Routine_3 s k x0 x1 k (x0) ((↑x0.length : Int)) (0) ([]) (x1.fst)
theorem Ltree_each_Routine_3_eq (s : Fam) (k : Nat) (x0 : List TRoutine) (x1 : Thing × Unit) : ∀ (j3 : Nat) (v0 : List TRoutine) (v1 : Int) (v2 : Int) (v3 : List TRoutine) (v4 : Thing), (loopGo EE (sp s) h_tree_each_Routine co_tree_each_Routine (rootAs (unAs 1000004 (c_tree_each_Routine.enc (x0, x1, ()))).1) k Tryz.f101 3 [] j3 ({ tmps := ofL AV.any [(1, AV.c (CV.mth 102 [CV.fx 1000004])), (5, AV.c (CV.own 5 0)), (8, AV.c (CV.d (DV.sl 103 v0))), (9, AV.c (CV.d (DV.lit (Go.Value.int Go.IntKind.i64 v1)))), (10, AV.c (CV.d (DV.lit (Go.Value.int Go.IntKind.i64 v2))))], boxes := ofL Option.none [(1000004, Option.none)], objs := ofL Option.none [(5, Option.some { ver := 0, t := 103, xs := v3 : Obj II }), (8, Option.none)], fxs := ofL Option.none [(1000004, Option.some v4)] : AS II })).run = (Ltree_each_Routine_3 s k x0 x1 j3 v0 v1 v2 v3 v4).map rc_tree_each_Routine.enc := by
  intro j3
  induction j3 with
  | zero => intros; rfl
  | succ j3 ih =>
    intros
    simp only [Ltree_each_Routine_3, map_ite, map_bindO, map_someO, map_noneO, ← ih]
    kernel_rfl
theorem e_tree_each_Routine (s : Fam) (k : Nat) (x : a_tree_each_Routine) : (evFunC EE (sp s) h_tree_each_Routine co_tree_each_Routine k Tryz.f101 (c_tree_each_Routine.enc x)).run = (B_tree_each_Routine s k x.1 x.2.1).map rc_tree_each_Routine.enc := by
  simp only [B_tree_each_Routine, map_ite, map_bindO, map_someO, map_noneO, ← Ltree_each_Routine_3_eq]
  kernel_rfl
-- 11 nodes
def B_tree_mapper_routine (s : Fam) (k : Nat) (x0 : Thing × Unit) (x1 : TRoutine) : Option (TRoutine × Thing × Unit) := ((s.f_tree_mapper_marks ((x0.fst, ()), x1.sub_Marks, ())).bind fun t1 => ((s.f_tree_mapper_parts ((t1.snd.fst, ()), x1.Name, ())).bind fun t2 => ((s.f_tree_each_Param (x1.Params, ((), (t2.snd.fst, ()), ()), ())).bind fun t3 => ((s.f_tree_each_Var (x1.Vars, (t3.snd.fst, ()), ())).bind fun t4 => ((s.f_tree_each_Routine (x1.Inner, (t4.snd.fst, ()), ())).bind fun t5 => ((s.f_tree_each_Stmt (x1.Body, (t5.snd.fst, ()), ())).bind fun t6 => ((s.f_slices_Clone_string (x1.End, ())).bind fun t7 => some (({ Marks_Before := t1.fst.Before, Marks_Trail := t1.fst.Trail, Name := t2.fst, Result := x1.Result, Params := t3.fst, Vars := t4.fst, Inner := t5.fst, Body := t6.fst, End := t7 : TRoutine }, t6.snd.fst, ())))))))))
theorem e_tree_mapper_routine (s : Fam) (k : Nat) (x : a_tree_mapper_routine) : (evFunC EE (sp s) h_tree_mapper_routine co_tree_mapper_routine k Tryz.f102 (c_tree_mapper_routine.enc x)).run = (B_tree_mapper_routine s k x.1 x.2.1).map rc_tree_mapper_routine.enc := by
  simp only [B_tree_mapper_routine, map_ite, map_bindO, map_someO, map_noneO]
  kernel_rfl
-- 8 nodes
def Ltree_each_Stmt_3 (s : Fam) (k : Nat) (x0 : List TStmt) (x1 : Thing × Unit) : Nat → List TStmt → Int → Int → List TStmt → Thing → Option (List TStmt × Thing × Unit)
  | 0, _, _, _, _, _ => none
  | j3 + 1, v0, v1, v2, v3, v4 => (if decide (v2 < v1) = Bool.true then (if 0 ≤ v2 then (if v2 < (↑v0.length : Int) then ((s.f_tree_mapper_stmt ((v4, ()), (v0.getD v2.toNat dd_TStmt).re, ())).bind fun t5 => (if (v3 ++ [t5.fst.re]).length * 272 ≤ 140737488355328 then Ltree_each_Stmt_3 s k x0 x1 j3 (v0) (v1) (Go.IntKind.i64.wrap (v2 + 1)) (v3 ++ [t5.fst.re]) (t5.snd.fst) else none)) else none) else none) else some ((v3, v4, ())))
def B_tree_each_Stmt (s : Fam) (k : Nat) (x0 : List TStmt) (x1 : Thing × Unit) : Option (List TStmt × Thing × Unit) := Ltree_each_Stmt_3 s k x0 x1 k (x0) ((↑x0.length : Int)) (0) ([]) (x1.fst)
theorem Ltree_each_Stmt_3_eq (s : Fam) (k : Nat) (x0 : List TStmt) (x1 : Thing × Unit) : ∀ (j3 : Nat) (v0 : List TStmt) (v1 : Int) (v2 : Int) (v3 : List TStmt) (v4 : Thing), (loopGo EE (sp s) h_tree_each_Stmt co_tree_each_Stmt (rootAs (unAs 1000004 (c_tree_each_Stmt.enc (x0, x1, ()))).1) k Tryz.f103 3 [] j3 ({ tmps := ofL AV.any [(1, AV.c (CV.mth 104 [CV.fx 1000004])), (5, AV.c (CV.own 5 0)), (8, AV.c (CV.d (DV.sl 107 v0))), (9, AV.c (CV.d (DV.lit (Go.Value.int Go.IntKind.i64 v1)))), (10, AV.c (CV.d (DV.lit (Go.Value.int Go.IntKind.i64 v2))))], boxes := ofL Option.none [(1000004, Option.none)], objs := ofL Option.none [(5, Option.some { ver := 0, t := 107, xs := v3 : Obj II }), (8, Option.none)], fxs := ofL Option.none [(1000004, Option.some v4)] : AS II })).run = (Ltree_each_Stmt_3 s k x0 x1 j3 v0 v1 v2 v3 v4).map rc_tree_each_Stmt.enc := by
  intro j3
  induction j3 with
  | zero => intros; rfl
  | succ j3 ih =>
    intros
    simp only [Ltree_each_Stmt_3, map_ite, map_bindO, map_someO, map_noneO, ← ih]
    kernel_rfl
theorem e_tree_each_Stmt (s : Fam) (k : Nat) (x : a_tree_each_Stmt) : (evFunC EE (sp s) h_tree_each_Stmt co_tree_each_Stmt k Tryz.f103 (c_tree_each_Stmt.enc x)).run = (B_tree_each_Stmt s k x.1 x.2.1).map rc_tree_each_Stmt.enc := by
  simp only [B_tree_each_Stmt, map_ite, map_bindO, map_someO, map_noneO, ← Ltree_each_Stmt_3_eq]
  kernel_rfl
-- 11 nodes
end Go.Ev
end
section
open Go Go.Proofs
namespace Go.Ev
set_option linter.unusedVariables false
set_option linter.unusedSimpArgs false
set_option maxHeartbeats 4000000
set_option maxRecDepth 100000
def B_tree_mapper_stmt (s : Fam) (k : Nat) (x0 : Thing × Unit) (x1 : TStmt) : Option (TStmt × Thing × Unit) := ((s.f_tree_mapper_marks ((x0.fst, ()), x1.sub_Marks, ())).bind fun t1 => ((s.f_tree_mapper_parts ((t1.snd.fst, ()), x1.Name, ())).bind fun t2 => ((s.f_tree_mapper_expr ((t2.snd.fst, ()), x1.sub_P, ())).bind fun t3 => ((s.f_tree_each_Expr (x1.E, (t3.snd.fst, ()), ())).bind fun t4 => ((s.f_tree_each_Stmt (x1.Body, (t4.snd.fst, ()), ())).bind fun t5 => ((s.f_tree_each_Stmt (x1.Else, (t5.snd.fst, ()), ())).bind fun t6 => ((s.f_slices_Clone_string (x1.End, ())).bind fun t7 => ((s.f_slices_Clone_string (x1.End2, ())).bind fun t8 => some (({ Marks_Before := t1.fst.Before, Marks_Trail := t1.fst.Trail, Op := x1.Op, Name := t2.fst, P_Op := t3.fst.Op, P_N := t3.fst.N, P_Name := t3.fst.Name, P_Field := t3.fst.Field, P_L := t3.fst.L, E := t4.fst, Down := x1.Down, More := x1.More, Body := t5.fst, Else := t6.fst, End := t7, End2 := t8 : TStmt }, t6.snd.fst, ()))))))))))
theorem e_tree_mapper_stmt (s : Fam) (k : Nat) (x : a_tree_mapper_stmt) : (evFunC EE (sp s) h_tree_mapper_stmt co_tree_mapper_stmt k Tryz.f104 (c_tree_mapper_stmt.enc x)).run = (B_tree_mapper_stmt s k x.1 x.2.1).map rc_tree_mapper_stmt.enc := by
  simp only [B_tree_mapper_stmt, map_ite, map_bindO, map_someO, map_noneO]
  kernel_rfl
-- 9 nodes
def Lr07_ExprNames_3 (s : Fam) (k : Nat) (x0 : TExpr) : Nat → Int → Int → Int → ByteArray → ByteArray → List TExpr → List ByteArray → Option (List ByteArray)
  | 0, _, _, _, _, _, _, _ => none
  | j3 + 1, v0, v1, v2, v3, v4, v5, v6 => (if decide (v0 < (↑v5.length : Int)) = Bool.true then (if 0 ≤ v0 then (if v0 < (↑v5.length : Int) then ((s.f_r07_ExprNames ((v5.getD v0.toNat dd_TExpr).re, ())).bind fun t8 => (if (v6 ++ t8).length * 16 ≤ 140737488355328 then Lr07_ExprNames_3 s k x0 j3 (Go.IntKind.i64.wrap (v0 + 1)) (v1) (v2) (v3) (v4) (v5) (v6 ++ t8) else none)) else none) else none) else some (v6))
def B_r07_ExprNames (s : Fam) (k : Nat) (x0 : TExpr) : Option (List ByteArray) := ((s.f_r07_Parts (x0.Name, ())).bind fun t1 => ((s.f_r07_Parts (x0.Field, ())).bind fun t2 => (if (t1 ++ t2).length * 16 ≤ 140737488355328 then Lr07_ExprNames_3 s k x0 k (0) (x0.Op) (x0.N) (x0.Name) (x0.Field) (x0.L) (t1 ++ t2) else none)))
theorem Lr07_ExprNames_3_eq (s : Fam) (k : Nat) (x0 : TExpr) : ∀ (j3 : Nat) (v0 : Int) (v1 : Int) (v2 : Int) (v3 : ByteArray) (v4 : ByteArray) (v5 : List TExpr) (v6 : List ByteArray), (loopGo EE (sp s) h_r07_ExprNames co_r07_ExprNames [] k Tryz.f105 3 [] j3 ({ tmps := ofL AV.any [(1, AV.c (CV.ptr 1 0)), (3, AV.c (CV.own 3 0)), (4, AV.c (CV.d (DV.lit (Go.Value.int Go.IntKind.i64 v0))))], boxes := ofL Option.none [(1, Option.some [CV.d (DV.lit (Go.Value.int Go.IntKind.i64 v1)), CV.d (DV.lit (Go.Value.int Go.IntKind.i64 v2)), CV.d (DV.lit (Go.Value.string v3)), CV.d (DV.lit (Go.Value.string v4)), CV.d (DV.sl 44 v5)])], objs := ofL Option.none [(3, Option.some { ver := 0, t := 9, xs := v6 : Obj II }), (1099511631876, Option.none)], fxs := ofL Option.none [(1, Option.none)] : AS II })).run = (Lr07_ExprNames_3 s k x0 j3 v0 v1 v2 v3 v4 v5 v6).map rc_r07_ExprNames.enc := by
  intro j3
  induction j3 with
  | zero => intros; rfl
  | succ j3 ih =>
    intros
    simp only [Lr07_ExprNames_3, map_ite, map_bindO, map_someO, map_noneO, ← ih]
    kernel_rfl
theorem e_r07_ExprNames (s : Fam) (k : Nat) (x : a_r07_ExprNames) : (evFunC EE (sp s) h_r07_ExprNames co_r07_ExprNames k Tryz.f105 (c_r07_ExprNames.enc x)).run = (B_r07_ExprNames s k x.1).map rc_r07_ExprNames.enc := by
  simp only [B_r07_ExprNames, map_ite, map_bindO, map_someO, map_noneO, ← Lr07_ExprNames_3_eq]
  kernel_rfl
-- 15 nodes
def B_tree_few_Expr (s : Fam) (k : Nat) (x0 : List TExpr) : Option (Bool) := some (decide ((↑x0.length : Int) ≤ 512))
theorem e_tree_few_Expr (s : Fam) (k : Nat) (x : a_tree_few_Expr) : (evFunC EE (sp s) h_tree_few_Expr co_tree_few_Expr k Tryz.f106 (c_tree_few_Expr.enc x)).run = (B_tree_few_Expr s k x.1).map rc_tree_few_Expr.enc := by
  simp only [B_tree_few_Expr, map_ite, map_bindO, map_someO, map_noneO]
  kernel_rfl
-- 1 nodes
def Ltree_checker_call_4 (s : Fam) (k : Nat) (x0 : Ttree_checker) (x1 : TExpr) : Nat → Int → Int → Int → Int → ByteArray → ByteArray → List TExpr → Option (Int)
  | 0, _, _, _, _, _, _, _ => none
  | j4 + 1, v0, v1, v2, v3, v4, v5, v6 => (if decide (v0 > 0) = Bool.true then (if 0 ≤ Go.IntKind.i64.wrap (v0 - 1) then (if Go.IntKind.i64.wrap (v0 - 1) < (↑v6.length : Int) then (if (Bool.true && (v6.getD (Go.IntKind.i64.wrap (v0 - 1)).toNat dd_TExpr).Op == 25) = Bool.true then (if 0 ≤ Go.IntKind.i64.wrap (v0 - 1) then (if Go.IntKind.i64.wrap (v0 - 1) < (↑v6.length : Int) then (if (v1 != 1) = Bool.false then ((s.f_tree_checker_name ({ dialect := v1 : Ttree_checker }, (v6.getD (Go.IntKind.i64.wrap (v0 - 1)).toNat dd_TExpr).Name, ())).bind fun t12 => (if (Bool.false || !t12 || (v6.getD (Go.IntKind.i64.wrap (v0 - 1)).toNat dd_TExpr).N != 0 || !(v6.getD (Go.IntKind.i64.wrap (v0 - 1)).toNat dd_TExpr).Field.toList == { data := #[] : ByteArray }.toList || (↑(v6.getD (Go.IntKind.i64.wrap (v0 - 1)).toNat dd_TExpr).L.length : Int) != 0) = Bool.true then some (0) else Ltree_checker_call_4 s k x0 x1 j4 (Go.IntKind.i64.wrap (v0 - 1)) (v1) (v2) (v3) (v4) (v5) (v6))) else some (0)) else none) else none) else (if (↑0 : Int) ≤ v0 then (if v0 ≤ (↑v6.length : Int) then ((s.f_tree_checker_deepest ({ dialect := v1 : Ttree_checker }, List.take (v0.toNat - (↑0 : Int).toNat) (List.drop (↑0 : Int).toNat v6), ())).bind fun t25 => some (t25)) else none) else none)) else none) else none) else (if (↑0 : Int) ≤ v0 then (if v0 ≤ (↑v6.length : Int) then ((s.f_tree_checker_deepest ({ dialect := v1 : Ttree_checker }, List.take (v0.toNat - (↑0 : Int).toNat) (List.drop (↑0 : Int).toNat v6), ())).bind fun t39 => some (t39)) else none) else none))
def B_tree_checker_call (s : Fam) (k : Nat) (x0 : Ttree_checker) (x1 : TExpr) : Option (Int) := ((s.f_tree_checker_routine (x0, x1.Name, ())).bind fun t1 => (if (!t1) = Bool.true then some (0) else Ltree_checker_call_4 s k x0 x1 k ((↑x1.L.length : Int)) (x0.dialect) (x1.Op) (x1.N) (x1.Name) (x1.Field) (x1.L)))
theorem Ltree_checker_call_4_eq (s : Fam) (k : Nat) (x0 : Ttree_checker) (x1 : TExpr) : ∀ (j4 : Nat) (v0 : Int) (v1 : Int) (v2 : Int) (v3 : Int) (v4 : ByteArray) (v5 : ByteArray) (v6 : List TExpr), (loopGo EE (sp s) h_tree_checker_call co_tree_checker_call [] k Tryz.f107 4 [] j4 ({ tmps := ofL AV.any [(2, AV.c (CV.ptr 2 0)), (3, AV.c (CV.ptr 3 0)), (5, AV.c (CV.d (DV.lit (Go.Value.int Go.IntKind.i64 v0))))], boxes := ofL Option.none [(2, Option.some [CV.d (DV.lit (Go.Value.int Go.IntKind.i64 v1))]), (3, Option.some [CV.d (DV.lit (Go.Value.int Go.IntKind.i64 v2)), CV.d (DV.lit (Go.Value.int Go.IntKind.i64 v3)), CV.d (DV.lit (Go.Value.string v4)), CV.d (DV.lit (Go.Value.string v5)), CV.d (DV.sl 44 v6)])], objs := ofL Option.none [(1099511640068, Option.none)], fxs := ofL Option.none [(2, Option.none), (3, Option.none)] : AS II })).run = (Ltree_checker_call_4 s k x0 x1 j4 v0 v1 v2 v3 v4 v5 v6).map rc_tree_checker_call.enc := by
  intro j4
  induction j4 with
  | zero => intros; rfl
  | succ j4 ih =>
    intros
    simp only [Ltree_checker_call_4, map_ite, map_bindO, map_someO, map_noneO, ← ih]
    kernel_rfl
theorem e_tree_checker_call (s : Fam) (k : Nat) (x : a_tree_checker_call) : (evFunC EE (sp s) h_tree_checker_call co_tree_checker_call k Tryz.f107 (c_tree_checker_call.enc x)).run = (B_tree_checker_call s k x.1 x.2.1).map rc_tree_checker_call.enc := by
  simp only [B_tree_checker_call, map_ite, map_bindO, map_someO, map_noneO, ← Ltree_checker_call_4_eq]
  kernel_rfl
-- 42 nodes
def Ltree_checker_deepest_3 (s : Fam) (k : Nat) (x0 : Ttree_checker) (x1 : List TExpr) : Nat → Int → List TExpr → Int → Int → Int → Option (Int)
  | 0, _, _, _, _, _ => none
  | j3 + 1, v0, v1, v2, v3, v4 => (if decide (v3 < v2) = Bool.true then (if 0 ≤ v3 then (if v3 < (↑v1.length : Int) then ((s.f_tree_checker_expr ({ dialect := v4 : Ttree_checker }, (v1.getD v3.toNat dd_TExpr).re, ())).bind fun t5 => (if (t5 == 0) = Bool.true then some (0) else Ltree_checker_deepest_3 s k x0 x1 j3 (if t5 > v0 then t5 else v0) (v1) (v2) (Go.IntKind.i64.wrap (v3 + 1)) (v4))) else none) else none) else (if decide (v0 ≥ 48) = Bool.true then some (0) else some (Go.IntKind.i64.wrap (v0 + 1))))
def B_tree_checker_deepest (s : Fam) (k : Nat) (x0 : Ttree_checker) (x1 : List TExpr) : Option (Int) := Ltree_checker_deepest_3 s k x0 x1 k (0) (x1) ((↑x1.length : Int)) (0) (x0.dialect)
theorem Ltree_checker_deepest_3_eq (s : Fam) (k : Nat) (x0 : Ttree_checker) (x1 : List TExpr) : ∀ (j3 : Nat) (v0 : Int) (v1 : List TExpr) (v2 : Int) (v3 : Int) (v4 : Int), (loopGo EE (sp s) h_tree_checker_deepest co_tree_checker_deepest [] k Tryz.f108 3 [] j3 ({ tmps := ofL AV.any [(2, AV.c (CV.ptr 2 0)), (5, AV.c (CV.d (DV.lit (Go.Value.int Go.IntKind.i64 v0)))), (9, AV.c (CV.d (DV.sl 44 v1))), (10, AV.c (CV.d (DV.lit (Go.Value.int Go.IntKind.i64 v2)))), (11, AV.c (CV.d (DV.lit (Go.Value.int Go.IntKind.i64 v3))))], boxes := ofL Option.none [(2, Option.some [CV.d (DV.lit (Go.Value.int Go.IntKind.i64 v4))])], objs := ofL Option.none [(9, Option.none)], fxs := ofL Option.none [(2, Option.none)] : AS II })).run = (Ltree_checker_deepest_3 s k x0 x1 j3 v0 v1 v2 v3 v4).map rc_tree_checker_deepest.enc := by
  intro j3
  induction j3 with
  | zero => intros; rfl
  | succ j3 ih =>
    intros
    simp only [Ltree_checker_deepest_3, map_ite, map_bindO, map_someO, map_noneO, ← ih]
    kernel_rfl
theorem e_tree_checker_deepest (s : Fam) (k : Nat) (x : a_tree_checker_deepest) : (evFunC EE (sp s) h_tree_checker_deepest co_tree_checker_deepest k Tryz.f108 (c_tree_checker_deepest.enc x)).run = (B_tree_checker_deepest s k x.1 x.2.1).map rc_tree_checker_deepest.enc := by
  simp only [B_tree_checker_deepest, map_ite, map_bindO, map_someO, map_noneO, ← Ltree_checker_deepest_3_eq]
  kernel_rfl
-- 13 nodes
def B_tree_marks (s : Fam) (k : Nat) (x0 : TMarks) (x1 : TMarks) : Option (Bool) := ((s.f_slices_Equal_string (x0.Before, x1.Before, ())).bind fun t1 => (if t1 = Bool.true then ((s.f_slices_Equal_string (x0.Trail, x1.Trail, ())).bind fun t3 => some (Bool.true && t3)) else some (Bool.false)))
theorem e_tree_marks (s : Fam) (k : Nat) (x : a_tree_marks) : (evFunC EE (sp s) h_tree_marks co_tree_marks k Tryz.f109 (c_tree_marks.enc x)).run = (B_tree_marks s k x.1 x.2.1).map rc_tree_marks.enc := by
  simp only [B_tree_marks, map_ite, map_bindO, map_someO, map_noneO]
  kernel_rfl
-- 6 nodes
def Lslices_EqualFunc_Field_4 (s : Fam) (k : Nat) (x0 : List TField) (x1 : List TField) (x2 : Unit × Unit) : Nat → List TField → List TField → Int → Int → Option (Bool)
  | 0, _, _, _, _ => none
  | j4 + 1, v0, v1, v2, v3 => (if decide (v3 < v2) = Bool.true then (if 0 ≤ v3 then (if v3 < (↑v1.length : Int) then (if 0 ≤ v3 then (if v3 < (↑v0.length : Int) then ((s.f_tree_sameRec_1 (v1.getD v3.toNat dd_TField, v0.getD v3.toNat dd_TField, ())).bind fun t9 => (if (!t9) = Bool.true then some (Bool.false) else Lslices_EqualFunc_Field_4 s k x0 x1 x2 j4 (v0) (v1) (v2) (Go.IntKind.i64.wrap (v3 + 1)))) else none) else none) else none) else none) else some (Bool.true))
def B_slices_EqualFunc_Field (s : Fam) (k : Nat) (x0 : List TField) (x1 : List TField) (x2 : Unit × Unit) : Option (Bool) := (if ((↑x0.length : Int) != (↑x1.length : Int)) = Bool.true then some (Bool.false) else Lslices_EqualFunc_Field_4 s k x0 x1 x2 k (x1) (x0) ((↑x0.length : Int)) (0))
theorem Lslices_EqualFunc_Field_4_eq (s : Fam) (k : Nat) (x0 : List TField) (x1 : List TField) (x2 : Unit × Unit) : ∀ (j4 : Nat) (v0 : List TField) (v1 : List TField) (v2 : Int) (v3 : Int), (loopGo EE (sp s) h_slices_EqualFunc_Field co_slices_EqualFunc_Field [] k Tryz.f110 4 [] j4 ({ tmps := ofL AV.any [(1, AV.c (CV.d (DV.sl 69 v0))), (2, AV.c (CV.clo 111 [] [])), (15, AV.c (CV.d (DV.sl 69 v1))), (16, AV.c (CV.d (DV.lit (Go.Value.int Go.IntKind.i64 v2)))), (17, AV.c (CV.d (DV.lit (Go.Value.int Go.IntKind.i64 v3))))], boxes := ofL Option.none [], objs := ofL Option.none [(15, Option.none)], fxs := ofL Option.none [] : AS II })).run = (Lslices_EqualFunc_Field_4 s k x0 x1 x2 j4 v0 v1 v2 v3).map rc_slices_EqualFunc_Field.enc := by
  intro j4
  induction j4 with
  | zero => intros; rfl
  | succ j4 ih =>
    intros
    simp only [Lslices_EqualFunc_Field_4, map_ite, map_bindO, map_someO, map_noneO, ← ih]
    kernel_rfl
theorem e_slices_EqualFunc_Field (s : Fam) (k : Nat) (x : a_slices_EqualFunc_Field) : (evFunC EE (sp s) h_slices_EqualFunc_Field co_slices_EqualFunc_Field k Tryz.f110 (c_slices_EqualFunc_Field.enc x)).run = (B_slices_EqualFunc_Field s k x.1 x.2.1 x.2.2.1).map rc_slices_EqualFunc_Field.enc := by
  simp only [B_slices_EqualFunc_Field, map_ite, map_bindO, map_someO, map_noneO, ← Lslices_EqualFunc_Field_4_eq]
  kernel_rfl
-- 17 nodes
def B_tree_sameRec_1 (s : Fam) (k : Nat) (x0 : TField) (x1 : TField) : Option (Bool) := ((s.f_tree_marks (x0.sub_Marks, x1.sub_Marks, ())).bind fun t1 => some (t1 && x0.Name.toList == x1.Name.toList && x0.Kind == x1.Kind))
theorem e_tree_sameRec_1 (s : Fam) (k : Nat) (x : a_tree_sameRec_1) : (evFunC EE (sp s) h_tree_sameRec_1 co_tree_sameRec_1 k Tryz.f111 (c_tree_sameRec_1.enc x)).run = (B_tree_sameRec_1 s k x.1 x.2.1).map rc_tree_sameRec_1.enc := by
  simp only [B_tree_sameRec_1, map_ite, map_bindO, map_someO, map_noneO]
  kernel_rfl
-- 2 nodes
def Lslices_Equal_Param_4 (s : Fam) (k : Nat) (x0 : List TParam) (x1 : List TParam) : Nat → List TParam → List TParam → Int → Int → Option (Bool)
  | 0, _, _, _, _ => none
  | j4 + 1, v0, v1, v2, v3 => (if decide (v3 < v2) = Bool.true then (if 0 ≤ v3 then (if v3 < (↑v0.length : Int) then (if 0 ≤ v3 then (if v3 < (↑v1.length : Int) then (if (!((v0.getD v3.toNat dd_TParam).Name.toList == (v1.getD v3.toNat dd_TParam).Name.toList && ((v0.getD v3.toNat dd_TParam).T_Kind == (v1.getD v3.toNat dd_TParam).T_Kind && ((v0.getD v3.toNat dd_TParam).T_Size == (v1.getD v3.toNat dd_TParam).T_Size && ((v0.getD v3.toNat dd_TParam).T_Name.toList == (v1.getD v3.toNat dd_TParam).T_Name.toList && Bool.true)) && ((v0.getD v3.toNat dd_TParam).Mode == (v1.getD v3.toNat dd_TParam).Mode && Bool.true)))) = Bool.true then some (Bool.false) else Lslices_Equal_Param_4 s k x0 x1 j4 (v0) (v1) (v2) (Go.IntKind.i64.wrap (v3 + 1))) else none) else none) else none) else none) else some (Bool.true))
def B_slices_Equal_Param (s : Fam) (k : Nat) (x0 : List TParam) (x1 : List TParam) : Option (Bool) := (if ((↑x0.length : Int) != (↑x1.length : Int)) = Bool.true then some (Bool.false) else Lslices_Equal_Param_4 s k x0 x1 k (x0) (x1) ((↑x0.length : Int)) (0))
theorem Lslices_Equal_Param_4_eq (s : Fam) (k : Nat) (x0 : List TParam) (x1 : List TParam) : ∀ (j4 : Nat) (v0 : List TParam) (v1 : List TParam) (v2 : Int) (v3 : Int), (loopGo EE (sp s) h_slices_Equal_Param co_slices_Equal_Param [] k Tryz.f112 4 [] j4 ({ tmps := ofL AV.any [(0, AV.c (CV.d (DV.sl 145 v0))), (1, AV.c (CV.d (DV.sl 145 v1))), (12, AV.c (CV.d (DV.lit (Go.Value.int Go.IntKind.i64 v2)))), (13, AV.c (CV.d (DV.lit (Go.Value.int Go.IntKind.i64 v3))))], boxes := ofL Option.none [], objs := ofL Option.none [], fxs := ofL Option.none [] : AS II })).run = (Lslices_Equal_Param_4 s k x0 x1 j4 v0 v1 v2 v3).map rc_slices_Equal_Param.enc := by
  intro j4
  induction j4 with
  | zero => intros; rfl
  | succ j4 ih =>
    intros
    simp only [Lslices_Equal_Param_4, map_ite, map_bindO, map_someO, map_noneO, ← ih]
    kernel_rfl
theorem e_slices_Equal_Param (s : Fam) (k : Nat) (x : a_slices_Equal_Param) : (evFunC EE (sp s) h_slices_Equal_Param co_slices_Equal_Param k Tryz.f112 (c_slices_Equal_Param.enc x)).run = (B_slices_Equal_Param s k x.1 x.2.1).map rc_slices_Equal_Param.enc := by
  simp only [B_slices_Equal_Param, map_ite, map_bindO, map_someO, map_noneO, ← Lslices_Equal_Param_4_eq]
  kernel_rfl
-- 16 nodes
def B_words_letter (s : Fam) (k : Nat) (x0 : Int) (x1 : Bool) : Option (Bool) := some (decide (x0 ≥ 97) && decide (x0 ≤ 122) || !x1 && (x0 == 95 || decide (x0 ≥ 48) && decide (x0 ≤ 57)))
theorem e_words_letter (s : Fam) (k : Nat) (x : a_words_letter) : (evFunC EE (sp s) h_words_letter co_words_letter k Tryz.f113 (c_words_letter.enc x)).run = (B_words_letter s k x.1 x.2.1).map rc_words_letter.enc := by
  simp only [B_words_letter, map_ite, map_bindO, map_someO, map_noneO]
  kernel_rfl
-- 1 nodes
def Lslices_IndexFunc_Field_2 (s : Fam) (k : Nat) (x0 : List TField) (x1 : Unit × Ttree_checker × Unit) : Nat → List TField → Int → Int → Int → Option (Int)
  | 0, _, _, _, _ => none
  | j2 + 1, v0, v1, v2, v3 => (if decide (v3 < v2) = Bool.true then (if 0 ≤ v3 then (if v3 < (↑v0.length : Int) then ((s.f_tree_checker_rec_1 (v0.getD v3.toNat dd_TField, { dialect := v1 : Ttree_checker }, ())).bind fun t5 => (if t5 = Bool.true then some (v3) else Lslices_IndexFunc_Field_2 s k x0 x1 j2 (v0) (v1) (v2) (Go.IntKind.i64.wrap (v3 + 1)))) else none) else none) else some (-1))
def B_slices_IndexFunc_Field (s : Fam) (k : Nat) (x0 : List TField) (x1 : Unit × Ttree_checker × Unit) : Option (Int) := Lslices_IndexFunc_Field_2 s k x0 x1 k (x0) (x1.snd.fst.dialect) ((↑x0.length : Int)) (0)
theorem Lslices_IndexFunc_Field_2_eq (s : Fam) (k : Nat) (x0 : List TField) (x1 : Unit × Ttree_checker × Unit) : ∀ (j2 : Nat) (v0 : List TField) (v1 : Int) (v2 : Int) (v3 : Int), (loopGo EE (sp s) h_slices_IndexFunc_Field co_slices_IndexFunc_Field [] k Tryz.f122 2 [] j2 ({ tmps := ofL AV.any [(0, AV.c (CV.d (DV.sl 69 v0))), (1, AV.c (CV.clo 72 [] [CV.rp [DV.lit (Go.Value.int Go.IntKind.i64 v1)] 0])), (7, AV.c (CV.d (DV.lit (Go.Value.int Go.IntKind.i64 v2)))), (8, AV.c (CV.d (DV.lit (Go.Value.int Go.IntKind.i64 v3))))], boxes := ofL Option.none [], objs := ofL Option.none [], fxs := ofL Option.none [] : AS II })).run = (Lslices_IndexFunc_Field_2 s k x0 x1 j2 v0 v1 v2 v3).map rc_slices_IndexFunc_Field.enc := by
  intro j2
  induction j2 with
  | zero => intros; rfl
  | succ j2 ih =>
    intros
    simp only [Lslices_IndexFunc_Field_2, map_ite, map_bindO, map_someO, map_noneO, ← ih]
    kernel_rfl
theorem e_slices_IndexFunc_Field (s : Fam) (k : Nat) (x : a_slices_IndexFunc_Field) : (evFunC EE (sp s) h_slices_IndexFunc_Field co_slices_IndexFunc_Field k Tryz.f122 (c_slices_IndexFunc_Field.enc x)).run = (B_slices_IndexFunc_Field s k x.1 x.2.1).map rc_slices_IndexFunc_Field.enc := by
  simp only [B_slices_IndexFunc_Field, map_ite, map_bindO, map_someO, map_noneO, ← Lslices_IndexFunc_Field_2_eq]
  kernel_rfl
-- 11 nodes
def Lslices_IndexFunc_Var_2 (s : Fam) (k : Nat) (x0 : List TVar) (x1 : Unit × Ttree_checker × Unit) : Nat → List TVar → Int → Int → Int → Option (Int)
  | 0, _, _, _, _ => none
  | j2 + 1, v0, v1, v2, v3 => (if decide (v3 < v2) = Bool.true then (if 0 ≤ v3 then (if v3 < (↑v0.length : Int) then ((s.f_tree_checker_vars_1 (v0.getD v3.toNat dd_TVar, { dialect := v1 : Ttree_checker }, ())).bind fun t5 => (if t5 = Bool.true then some (v3) else Lslices_IndexFunc_Var_2 s k x0 x1 j2 (v0) (v1) (v2) (Go.IntKind.i64.wrap (v3 + 1)))) else none) else none) else some (-1))
def B_slices_IndexFunc_Var (s : Fam) (k : Nat) (x0 : List TVar) (x1 : Unit × Ttree_checker × Unit) : Option (Int) := Lslices_IndexFunc_Var_2 s k x0 x1 k (x0) (x1.snd.fst.dialect) ((↑x0.length : Int)) (0)
theorem Lslices_IndexFunc_Var_2_eq (s : Fam) (k : Nat) (x0 : List TVar) (x1 : Unit × Ttree_checker × Unit) : ∀ (j2 : Nat) (v0 : List TVar) (v1 : Int) (v2 : Int) (v3 : Int), (loopGo EE (sp s) h_slices_IndexFunc_Var co_slices_IndexFunc_Var [] k Tryz.f123 2 [] j2 ({ tmps := ofL AV.any [(0, AV.c (CV.d (DV.sl 98 v0))), (1, AV.c (CV.clo 76 [] [CV.rp [DV.lit (Go.Value.int Go.IntKind.i64 v1)] 0])), (7, AV.c (CV.d (DV.lit (Go.Value.int Go.IntKind.i64 v2)))), (8, AV.c (CV.d (DV.lit (Go.Value.int Go.IntKind.i64 v3))))], boxes := ofL Option.none [], objs := ofL Option.none [], fxs := ofL Option.none [] : AS II })).run = (Lslices_IndexFunc_Var_2 s k x0 x1 j2 v0 v1 v2 v3).map rc_slices_IndexFunc_Var.enc := by
  intro j2
  induction j2 with
  | zero => intros; rfl
  | succ j2 ih =>
    intros
    simp only [Lslices_IndexFunc_Var_2, map_ite, map_bindO, map_someO, map_noneO, ← ih]
    kernel_rfl
theorem e_slices_IndexFunc_Var (s : Fam) (k : Nat) (x : a_slices_IndexFunc_Var) : (evFunC EE (sp s) h_slices_IndexFunc_Var co_slices_IndexFunc_Var k Tryz.f123 (c_slices_IndexFunc_Var.enc x)).run = (B_slices_IndexFunc_Var s k x.1 x.2.1).map rc_slices_IndexFunc_Var.enc := by
  simp only [B_slices_IndexFunc_Var, map_ite, map_bindO, map_someO, map_noneO, ← Lslices_IndexFunc_Var_2_eq]
  kernel_rfl
-- 11 nodes
def Lslices_IndexFunc_Routine_2 (s : Fam) (k : Nat) (x0 : List TRoutine) (x1 : Unit × Int × Ttree_checker × Unit) : Nat → List TRoutine → Int → Int → Int → Int → Option (Int)
  | 0, _, _, _, _, _ => none
  | j2 + 1, v0, v1, v2, v3, v4 => (if decide (v4 < v3) = Bool.true then (if 0 ≤ v4 then (if v4 < (↑v0.length : Int) then ((s.f_tree_checker_routines_1 ((v0.getD v4.toNat dd_TRoutine).re, v1, { dialect := v2 : Ttree_checker }, ())).bind fun t5 => (if t5 = Bool.true then some (v4) else Lslices_IndexFunc_Routine_2 s k x0 x1 j2 (v0) (v1) (v2) (v3) (Go.IntKind.i64.wrap (v4 + 1)))) else none) else none) else some (-1))
def B_slices_IndexFunc_Routine (s : Fam) (k : Nat) (x0 : List TRoutine) (x1 : Unit × Int × Ttree_checker × Unit) : Option (Int) := Lslices_IndexFunc_Routine_2 s k x0 x1 k (x0) (x1.snd.fst) (x1.snd.snd.fst.dialect) ((↑x0.length : Int)) (0)
theorem Lslices_IndexFunc_Routine_2_eq (s : Fam) (k : Nat) (x0 : List TRoutine) (x1 : Unit × Int × Ttree_checker × Unit) : ∀ (j2 : Nat) (v0 : List TRoutine) (v1 : Int) (v2 : Int) (v3 : Int) (v4 : Int), (loopGo EE (sp s) h_slices_IndexFunc_Routine co_slices_IndexFunc_Routine [] k Tryz.f124 2 [] j2 ({ tmps := ofL AV.any [(0, AV.c (CV.d (DV.sl 103 v0))), (1, AV.c (CV.clo 81 [] [CV.rp [DV.lit (Go.Value.int Go.IntKind.i64 v1)] 0, CV.rp [DV.lit (Go.Value.int Go.IntKind.i64 v2)] 0])), (7, AV.c (CV.d (DV.lit (Go.Value.int Go.IntKind.i64 v3)))), (8, AV.c (CV.d (DV.lit (Go.Value.int Go.IntKind.i64 v4))))], boxes := ofL Option.none [], objs := ofL Option.none [], fxs := ofL Option.none [] : AS II })).run = (Lslices_IndexFunc_Routine_2 s k x0 x1 j2 v0 v1 v2 v3 v4).map rc_slices_IndexFunc_Routine.enc := by
  intro j2
  induction j2 with
  | zero => intros; rfl
  | succ j2 ih =>
    intros
    simp only [Lslices_IndexFunc_Routine_2, map_ite, map_bindO, map_someO, map_noneO, ← ih]
    kernel_rfl
theorem e_slices_IndexFunc_Routine (s : Fam) (k : Nat) (x : a_slices_IndexFunc_Routine) : (evFunC EE (sp s) h_slices_IndexFunc_Routine co_slices_IndexFunc_Routine k Tryz.f124 (c_slices_IndexFunc_Routine.enc x)).run = (B_slices_IndexFunc_Routine s k x.1 x.2.1).map rc_slices_IndexFunc_Routine.enc := by
  simp only [B_slices_IndexFunc_Routine, map_ite, map_bindO, map_someO, map_noneO, ← Lslices_IndexFunc_Routine_2_eq]
  kernel_rfl
-- 11 nodes
def B_tree_few_Param (s : Fam) (k : Nat) (x0 : List TParam) : Option (Bool) := some (decide ((↑x0.length : Int) ≤ 512))
theorem e_tree_few_Param (s : Fam) (k : Nat) (x : a_tree_few_Param) : (evFunC EE (sp s) h_tree_few_Param co_tree_few_Param k Tryz.f126 (c_tree_few_Param.enc x)).run = (B_tree_few_Param s k x.1).map rc_tree_few_Param.enc := by
  simp only [B_tree_few_Param, map_ite, map_bindO, map_someO, map_noneO]
  kernel_rfl
-- 1 nodes
def Lslices_IndexFunc_Stmt_2 (s : Fam) (k : Nat) (x0 : List TStmt) (x1 : Unit × Ttree_checker × Int × Unit) : Nat → List TStmt → Int → Int → Int → Int → Option (Int)
  | 0, _, _, _, _, _ => none
  | j2 + 1, v0, v1, v2, v3, v4 => (if decide (v4 < v3) = Bool.true then (if 0 ≤ v4 then (if v4 < (↑v0.length : Int) then ((s.f_tree_checker_stmts_1 ((v0.getD v4.toNat dd_TStmt).re, { dialect := v1 : Ttree_checker }, v2, ())).bind fun t5 => (if t5 = Bool.true then some (v4) else Lslices_IndexFunc_Stmt_2 s k x0 x1 j2 (v0) (v1) (v2) (v3) (Go.IntKind.i64.wrap (v4 + 1)))) else none) else none) else some (-1))
def B_slices_IndexFunc_Stmt (s : Fam) (k : Nat) (x0 : List TStmt) (x1 : Unit × Ttree_checker × Int × Unit) : Option (Int) := Lslices_IndexFunc_Stmt_2 s k x0 x1 k (x0) (x1.snd.fst.dialect) (x1.snd.snd.fst) ((↑x0.length : Int)) (0)
theorem Lslices_IndexFunc_Stmt_2_eq (s : Fam) (k : Nat) (x0 : List TStmt) (x1 : Unit × Ttree_checker × Int × Unit) : ∀ (j2 : Nat) (v0 : List TStmt) (v1 : Int) (v2 : Int) (v3 : Int) (v4 : Int), (loopGo EE (sp s) h_slices_IndexFunc_Stmt co_slices_IndexFunc_Stmt [] k Tryz.f127 2 [] j2 ({ tmps := ofL AV.any [(0, AV.c (CV.d (DV.sl 107 v0))), (1, AV.c (CV.clo 86 [] [CV.rp [DV.lit (Go.Value.int Go.IntKind.i64 v1)] 0, CV.rp [DV.lit (Go.Value.int Go.IntKind.i64 v2)] 0])), (7, AV.c (CV.d (DV.lit (Go.Value.int Go.IntKind.i64 v3)))), (8, AV.c (CV.d (DV.lit (Go.Value.int Go.IntKind.i64 v4))))], boxes := ofL Option.none [], objs := ofL Option.none [], fxs := ofL Option.none [] : AS II })).run = (Lslices_IndexFunc_Stmt_2 s k x0 x1 j2 v0 v1 v2 v3 v4).map rc_slices_IndexFunc_Stmt.enc := by
  intro j2
  induction j2 with
  | zero => intros; rfl
  | succ j2 ih =>
    intros
    simp only [Lslices_IndexFunc_Stmt_2, map_ite, map_bindO, map_someO, map_noneO, ← ih]
    kernel_rfl
theorem e_slices_IndexFunc_Stmt (s : Fam) (k : Nat) (x : a_slices_IndexFunc_Stmt) : (evFunC EE (sp s) h_slices_IndexFunc_Stmt co_slices_IndexFunc_Stmt k Tryz.f127 (c_slices_IndexFunc_Stmt.enc x)).run = (B_slices_IndexFunc_Stmt s k x.1 x.2.1).map rc_slices_IndexFunc_Stmt.enc := by
  simp only [B_slices_IndexFunc_Stmt, map_ite, map_bindO, map_someO, map_noneO, ← Lslices_IndexFunc_Stmt_2_eq]
  kernel_rfl
-- 11 nodes
def B_tree_shapeOf (s : Fam) (k : Nat) (x0 : Int) : Option (Ttree_shape × Bool × Unit) := (if (x0 == 1) = Bool.true then some (({ place := Bool.true, name_ := Bool.false, body := Bool.false, least := 1, most := 1 : Ttree_shape }, Bool.true, ())) else (if (x0 == 2) = Bool.true then (if (x0 == 2) = Bool.true then some (({ place := Bool.false, name_ := Bool.false, body := Bool.false, least := 1, most := 1 : Ttree_shape }, Bool.true, ())) else (if (x0 == 3) = Bool.true then (if (x0 == 3) = Bool.true then some (({ place := Bool.false, name_ := Bool.false, body := Bool.true, least := 1, most := 1 : Ttree_shape }, Bool.true, ())) else (if (x0 == 6) = Bool.true then some (({ place := Bool.false, name_ := Bool.true, body := Bool.true, least := 2, most := 2 : Ttree_shape }, Bool.true, ())) else (if (x0 == 7) = Bool.true then some (({ place := Bool.true, name_ := Bool.false, body := Bool.false, least := 0, most := 0 : Ttree_shape }, Bool.true, ())) else (if (x0 == 9) = Bool.true then some (({ place := Bool.false, name_ := Bool.false, body := Bool.false, least := 0, most := 1 : Ttree_shape }, Bool.true, ())) else some ((dd_Ttree_shape, Bool.false, ())))))) else (if (x0 == 4) = Bool.true then (if (x0 == 4) = Bool.true then some (({ place := Bool.false, name_ := Bool.false, body := Bool.true, least := 1, most := 1 : Ttree_shape }, Bool.true, ())) else (if (x0 == 6) = Bool.true then some (({ place := Bool.false, name_ := Bool.true, body := Bool.true, least := 2, most := 2 : Ttree_shape }, Bool.true, ())) else (if (x0 == 7) = Bool.true then some (({ place := Bool.true, name_ := Bool.false, body := Bool.false, least := 0, most := 0 : Ttree_shape }, Bool.true, ())) else (if (x0 == 9) = Bool.true then some (({ place := Bool.false, name_ := Bool.false, body := Bool.false, least := 0, most := 1 : Ttree_shape }, Bool.true, ())) else some ((dd_Ttree_shape, Bool.false, ())))))) else (if (x0 == 5) = Bool.true then some (({ place := Bool.false, name_ := Bool.false, body := Bool.true, least := 1, most := 1 : Ttree_shape }, Bool.true, ())) else (if (x0 == 6) = Bool.true then some (({ place := Bool.false, name_ := Bool.true, body := Bool.true, least := 2, most := 2 : Ttree_shape }, Bool.true, ())) else (if (x0 == 7) = Bool.true then some (({ place := Bool.true, name_ := Bool.false, body := Bool.false, least := 0, most := 0 : Ttree_shape }, Bool.true, ())) else (if (x0 == 9) = Bool.true then some (({ place := Bool.false, name_ := Bool.false, body := Bool.false, least := 0, most := 1 : Ttree_shape }, Bool.true, ())) else some ((dd_Ttree_shape, Bool.false, ()))))))))) else (if (x0 == 8) = Bool.true then some (({ place := Bool.false, name_ := Bool.false, body := Bool.false, least := 1, most := 1 : Ttree_shape }, Bool.true, ())) else (if (x0 == 3) = Bool.true then (if (x0 == 3) = Bool.true then some (({ place := Bool.false, name_ := Bool.false, body := Bool.true, least := 1, most := 1 : Ttree_shape }, Bool.true, ())) else (if (x0 == 6) = Bool.true then some (({ place := Bool.false, name_ := Bool.true, body := Bool.true, least := 2, most := 2 : Ttree_shape }, Bool.true, ())) else (if (x0 == 7) = Bool.true then some (({ place := Bool.true, name_ := Bool.false, body := Bool.false, least := 0, most := 0 : Ttree_shape }, Bool.true, ())) else (if (x0 == 9) = Bool.true then some (({ place := Bool.false, name_ := Bool.false, body := Bool.false, least := 0, most := 1 : Ttree_shape }, Bool.true, ())) else some ((dd_Ttree_shape, Bool.false, ())))))) else (if (x0 == 4) = Bool.true then (if (x0 == 4) = Bool.true then some (({ place := Bool.false, name_ := Bool.false, body := Bool.true, least := 1, most := 1 : Ttree_shape }, Bool.true, ())) else (if (x0 == 6) = Bool.true then some (({ place := Bool.false, name_ := Bool.true, body := Bool.true, least := 2, most := 2 : Ttree_shape }, Bool.true, ())) else (if (x0 == 7) = Bool.true then some (({ place := Bool.true, name_ := Bool.false, body := Bool.false, least := 0, most := 0 : Ttree_shape }, Bool.true, ())) else (if (x0 == 9) = Bool.true then some (({ place := Bool.false, name_ := Bool.false, body := Bool.false, least := 0, most := 1 : Ttree_shape }, Bool.true, ())) else some ((dd_Ttree_shape, Bool.false, ())))))) else (if (x0 == 5) = Bool.true then some (({ place := Bool.false, name_ := Bool.false, body := Bool.true, least := 1, most := 1 : Ttree_shape }, Bool.true, ())) else (if (x0 == 6) = Bool.true then some (({ place := Bool.false, name_ := Bool.true, body := Bool.true, least := 2, most := 2 : Ttree_shape }, Bool.true, ())) else (if (x0 == 7) = Bool.true then some (({ place := Bool.true, name_ := Bool.false, body := Bool.false, least := 0, most := 0 : Ttree_shape }, Bool.true, ())) else (if (x0 == 9) = Bool.true then some (({ place := Bool.false, name_ := Bool.false, body := Bool.false, least := 0, most := 1 : Ttree_shape }, Bool.true, ())) else some ((dd_Ttree_shape, Bool.false, ())))))))))))
theorem e_tree_shapeOf (s : Fam) (k : Nat) (x : a_tree_shapeOf) : (evFunC EE (sp s) h_tree_shapeOf co_tree_shapeOf k Tryz.f128 (c_tree_shapeOf.enc x)).run = (B_tree_shapeOf s k x.1).map rc_tree_shapeOf.enc := by
  simp only [B_tree_shapeOf, map_ite, map_bindO, map_someO, map_noneO]
  kernel_rfl
-- 65 nodes
def B_tree_checker_place (s : Fam) (k : Nat) (x0 : Ttree_checker) (x1 : TExpr) : Option (Bool) := (if (x1.Op == 4 || x1.Op == 5 || x1.Op == 6) = Bool.true then ((s.f_tree_checker_expr (x0, x1.re, ())).bind fun t2 => some (Bool.true && decide (t2 > 0))) else some (Bool.false))
theorem e_tree_checker_place (s : Fam) (k : Nat) (x : a_tree_checker_place) : (evFunC EE (sp s) h_tree_checker_place co_tree_checker_place k Tryz.f129 (c_tree_checker_place.enc x)).run = (B_tree_checker_place s k x.1 x.2.1).map rc_tree_checker_place.enc := by
  simp only [B_tree_checker_place, map_ite, map_bindO, map_someO, map_noneO]
  kernel_rfl
-- 6 nodes
def B_tree_none (s : Fam) (k : Nat) (x0 : TExpr) : Option (Bool) := ((s.f_tree_SameExpr (x0.re, { Op := 0, N := 0, Name := { data := #[] : ByteArray }, Field := { data := #[] : ByteArray }, L := [] : TExpr }, ())).bind fun t1 => some (t1))
theorem e_tree_none (s : Fam) (k : Nat) (x : a_tree_none) : (evFunC EE (sp s) h_tree_none co_tree_none k Tryz.f130 (c_tree_none.enc x)).run = (B_tree_none s k x.1).map rc_tree_none.enc := by
  simp only [B_tree_none, map_ite, map_bindO, map_someO, map_noneO]
  kernel_rfl
-- 2 nodes
def B_r04_Letter (s : Fam) (k : Nat) (x0 : Int) (x1 : Bool) : Option (Bool) := (if (decide (x0 ≥ 97) && decide (x0 ≤ 122)) = Bool.true then some (Bool.true) else some (!x1 && (x0 == 95 || decide (x0 ≥ 48) && decide (x0 ≤ 57))))
theorem e_r04_Letter (s : Fam) (k : Nat) (x : a_r04_Letter) : (evFunC EE (sp s) h_r04_Letter co_r04_Letter k Tryz.f131 (c_r04_Letter.enc x)).run = (B_r04_Letter s k x.1 x.2.1).map rc_r04_Letter.enc := by
  simp only [B_r04_Letter, map_ite, map_bindO, map_someO, map_noneO]
  kernel_rfl
-- 3 nodes
def B_r04_All (s : Fam) (k : Nat) (x0 : Int) : Option (List ByteArray) := (if (x0 == 0) = Bool.true then some ([{ data := #[97, 110, 100] : ByteArray }, { data := #[97, 114, 114, 97, 121] : ByteArray }, { data := #[98, 101, 103, 105, 110] : ByteArray }, { data := #[98, 111, 111, 108, 101, 97, 110] : ByteArray }, { data := #[99, 104, 97, 114] : ByteArray }, { data := #[100, 105, 118] : ByteArray }, { data := #[100, 111] : ByteArray }, { data := #[100, 111, 119, 110, 116, 111] : ByteArray }, { data := #[101, 108, 115, 101] : ByteArray }, { data := #[101, 110, 100] : ByteArray }, { data := #[102, 97, 108, 115, 101] : ByteArray }, { data := #[102, 111, 114] : ByteArray }, { data := #[102, 111, 114, 119, 97, 114, 100] : ByteArray }, { data := #[102, 117, 110, 99, 116, 105, 111, 110] : ByteArray }, { data := #[105, 102] : ByteArray }, { data := #[105, 110, 116, 101, 103, 101, 114] : ByteArray }, { data := #[109, 111, 100] : ByteArray }, { data := #[110, 111, 116] : ByteArray }, { data := #[111, 102] : ByteArray }, { data := #[111, 114] : ByteArray }, { data := #[112, 114, 111, 99, 101, 100, 117, 114, 101] : ByteArray }, { data := #[112, 114, 111, 103, 114, 97, 109] : ByteArray }, { data := #[114, 101, 97, 100] : ByteArray }, { data := #[114, 101, 99, 111, 114, 100] : ByteArray }, { data := #[114, 101, 112, 101, 97, 116] : ByteArray }, { data := #[114, 101, 116, 117, 114, 110] : ByteArray }, { data := #[116, 104, 101, 110] : ByteArray }, { data := #[116, 111] : ByteArray }, { data := #[116, 114, 117, 101] : ByteArray }, { data := #[116, 121, 112, 101] : ByteArray }, { data := #[117, 110, 116, 105, 108] : ByteArray }, { data := #[118, 97, 114] : ByteArray }, { data := #[119, 104, 105, 108, 101] : ByteArray }, { data := #[119, 114, 105, 116, 101] : ByteArray }]) else (if (x0 == 1) = Bool.true then some ([{ data := #[98, 111, 111, 108] : ByteArray }, { data := #[99, 104, 97, 114] : ByteArray }, { data := #[100, 111] : ByteArray }, { data := #[100, 111, 119, 110, 116, 111] : ByteArray }, { data := #[101, 108, 115, 101] : ByteArray }, { data := #[102, 97, 108, 115, 101] : ByteArray }, { data := #[102, 111, 114] : ByteArray }, { data := #[103, 101, 116] : ByteArray }, { data := #[105, 102] : ByteArray }, { data := #[105, 110, 116] : ByteArray }, { data := #[109, 97, 105, 110] : ByteArray }, { data := #[112, 114, 111, 103, 114, 97, 109] : ByteArray }, { data := #[112, 117, 116] : ByteArray }, { data := #[114, 101, 116, 117, 114, 110] : ByteArray }, { data := #[115, 116, 114, 117, 99, 116] : ByteArray }, { data := #[116, 111] : ByteArray }, { data := #[116, 114, 117, 101] : ByteArray }, { data := #[117, 110, 116, 105, 108] : ByteArray }, { data := #[117, 112] : ByteArray }, { data := #[118, 111, 105, 100] : ByteArray }, { data := #[119, 104, 105, 108, 101] : ByteArray }]) else some ([])))
theorem e_r04_All (s : Fam) (k : Nat) (x : a_r04_All) : (evFunC EE (sp s) h_r04_All co_r04_All k Tryz.f132 (c_r04_All.enc x)).run = (B_r04_All s k x.1).map rc_r04_All.enc := by
  simp only [B_r04_All, map_ite, map_bindO, map_someO, map_noneO]
  kernel_rfl
-- 5 nodes
def B_r02_right (s : Fam) (k : Nat) (x0 : Int) : Option (Bool) := some (x0 == 9 || x0 == 10 || decide (x0 ≥ 32) && decide (x0 ≤ 126))
theorem e_r02_right (s : Fam) (k : Nat) (x : a_r02_right) : (evFunC EE (sp s) h_r02_right co_r02_right k Tryz.f133 (c_r02_right.enc x)).run = (B_r02_right s k x.1).map rc_r02_right.enc := by
  simp only [B_r02_right, map_ite, map_bindO, map_someO, map_noneO]
  kernel_rfl
-- 1 nodes
def B_r07_place (s : Fam) (k : Nat) (x0 : Int) (x1 : TExpr) : Option (Bool) := (if (decide (x1.Op ≥ 4) && decide (x1.Op ≤ 6)) = Bool.true then ((s.f_r07_Expr (x0, x1.re, ())).bind fun t2 => some (Bool.true && t2)) else some (Bool.false))
theorem e_r07_place (s : Fam) (k : Nat) (x : a_r07_place) : (evFunC EE (sp s) h_r07_place co_r07_place k Tryz.f134 (c_r07_place.enc x)).run = (B_r07_place s k x.1 x.2.1).map rc_r07_place.enc := by
  simp only [B_r07_place, map_ite, map_bindO, map_someO, map_noneO]
  kernel_rfl
-- 5 nodes
def B_r07_none (s : Fam) (k : Nat) (x0 : TExpr) : Option (Bool) := some (x0.Op == 0 && x0.N == 0 && x0.Name.toList == { data := #[] : ByteArray }.toList && x0.Field.toList == { data := #[] : ByteArray }.toList && (↑x0.L.length : Int) == 0)
theorem e_r07_none (s : Fam) (k : Nat) (x : a_r07_none) : (evFunC EE (sp s) h_r07_none co_r07_none k Tryz.f135 (c_r07_none.enc x)).run = (B_r07_none s k x.1).map rc_r07_none.enc := by
  simp only [B_r07_none, map_ite, map_bindO, map_someO, map_noneO]
  kernel_rfl
-- 1 nodes
def B_tree_mapper_marks (s : Fam) (k : Nat) (x0 : Thing × Unit) (x1 : TMarks) : Option (TMarks × Thing × Unit) := ((s.f_slices_Clone_string (x1.Before, ())).bind fun t1 => ((s.f_slices_Clone_string (x1.Trail, ())).bind fun t2 => some (({ Before := t1, Trail := t2 : TMarks }, x0.fst, ()))))
theorem e_tree_mapper_marks (s : Fam) (k : Nat) (x : a_tree_mapper_marks) : (evFunC EE (sp s) h_tree_mapper_marks co_tree_mapper_marks k Tryz.f138 (c_tree_mapper_marks.enc x)).run = (B_tree_mapper_marks s k x.1 x.2.1).map rc_tree_mapper_marks.enc := by
  simp only [B_tree_mapper_marks, map_ite, map_bindO, map_someO, map_noneO]
  kernel_rfl
-- 3 nodes
def Ltree_each_Field_3 (s : Fam) (k : Nat) (x0 : List TField) (x1 : Unit × (Thing × Unit) × Unit) : Nat → List TField → Int → Int → List TField → Thing → Option (List TField × Thing × Unit)
  | 0, _, _, _, _, _ => none
  | j3 + 1, v0, v1, v2, v3, v4 => (if decide (v2 < v1) = Bool.true then (if 0 ≤ v2 then (if v2 < (↑v0.length : Int) then ((s.f_tree_mapper_rec_1 (v0.getD v2.toNat dd_TField, (v4, ()), ())).bind fun t5 => (if (v3 ++ [t5.fst]).length * 72 ≤ 140737488355328 then Ltree_each_Field_3 s k x0 x1 j3 (v0) (v1) (Go.IntKind.i64.wrap (v2 + 1)) (v3 ++ [t5.fst]) (t5.snd.fst) else none)) else none) else none) else some ((v3, v4, ())))
def B_tree_each_Field (s : Fam) (k : Nat) (x0 : List TField) (x1 : Unit × (Thing × Unit) × Unit) : Option (List TField × Thing × Unit) := Ltree_each_Field_3 s k x0 x1 k (x0) ((↑x0.length : Int)) (0) ([]) (x1.snd.fst.fst)
theorem Ltree_each_Field_3_eq (s : Fam) (k : Nat) (x0 : List TField) (x1 : Unit × (Thing × Unit) × Unit) : ∀ (j3 : Nat) (v0 : List TField) (v1 : Int) (v2 : Int) (v3 : List TField) (v4 : Thing), (loopGo EE (sp s) h_tree_each_Field co_tree_each_Field (rootAs (unAs 1000004 (c_tree_each_Field.enc (x0, x1, ()))).1) k Tryz.f139 3 [] j3 ({ tmps := ofL AV.any [(1, AV.c (CV.clo 140 [] [CV.rq [CV.fx 1000004] 0])), (5, AV.c (CV.own 5 0)), (8, AV.c (CV.d (DV.sl 69 v0))), (9, AV.c (CV.d (DV.lit (Go.Value.int Go.IntKind.i64 v1)))), (10, AV.c (CV.d (DV.lit (Go.Value.int Go.IntKind.i64 v2))))], boxes := ofL Option.none [(1000004, Option.none)], objs := ofL Option.none [(5, Option.some { ver := 0, t := 69, xs := v3 : Obj II }), (8, Option.none)], fxs := ofL Option.none [(1000004, Option.some v4)] : AS II })).run = (Ltree_each_Field_3 s k x0 x1 j3 v0 v1 v2 v3 v4).map rc_tree_each_Field.enc := by
  intro j3
  induction j3 with
  | zero => intros; rfl
  | succ j3 ih =>
    intros
    simp only [Ltree_each_Field_3, map_ite, map_bindO, map_someO, map_noneO, ← ih]
    kernel_rfl
theorem e_tree_each_Field (s : Fam) (k : Nat) (x : a_tree_each_Field) : (evFunC EE (sp s) h_tree_each_Field co_tree_each_Field k Tryz.f139 (c_tree_each_Field.enc x)).run = (B_tree_each_Field s k x.1 x.2.1).map rc_tree_each_Field.enc := by
  simp only [B_tree_each_Field, map_ite, map_bindO, map_someO, map_noneO, ← Ltree_each_Field_3_eq]
  kernel_rfl
-- 11 nodes
def B_tree_mapper_rec_1 (s : Fam) (k : Nat) (x0 : TField) (x1 : Thing × Unit) : Option (TField × Thing × Unit) := ((s.f_tree_mapper_marks ((x1.fst, ()), x0.sub_Marks, ())).bind fun t1 => ((s.f_tree_mapper_parts ((t1.snd.fst, ()), x0.Name, ())).bind fun t2 => some (({ Marks_Before := t1.fst.Before, Marks_Trail := t1.fst.Trail, Name := t2.fst, Kind := x0.Kind : TField }, t2.snd.fst, ()))))
theorem e_tree_mapper_rec_1 (s : Fam) (k : Nat) (x : a_tree_mapper_rec_1) : (evFunC EE (sp s) h_tree_mapper_rec_1 co_tree_mapper_rec_1 k Tryz.f140 (c_tree_mapper_rec_1.enc x)).run = (B_tree_mapper_rec_1 s k x.1 x.2.1).map rc_tree_mapper_rec_1.enc := by
  simp only [B_tree_mapper_rec_1, map_ite, map_bindO, map_someO, map_noneO]
  kernel_rfl
-- 3 nodes
def B_tree_mapper_typ (s : Fam) (k : Nat) (x0 : Thing × Unit) (x1 : TType) : Option (TType × Thing × Unit) := ((s.f_tree_mapper_parts ((x0.fst, ()), x1.Name, ())).bind fun t1 => some (({ Kind := x1.Kind, Size := x1.Size, Name := t1.fst : TType }, t1.snd.fst, ())))
theorem e_tree_mapper_typ (s : Fam) (k : Nat) (x : a_tree_mapper_typ) : (evFunC EE (sp s) h_tree_mapper_typ co_tree_mapper_typ k Tryz.f141 (c_tree_mapper_typ.enc x)).run = (B_tree_mapper_typ s k x.1 x.2.1).map rc_tree_mapper_typ.enc := by
  simp only [B_tree_mapper_typ, map_ite, map_bindO, map_someO, map_noneO]
  kernel_rfl
-- 2 nodes
def Ltree_each_Param_3 (s : Fam) (k : Nat) (x0 : List TParam) (x1 : Unit × (Thing × Unit) × Unit) : Nat → List TParam → Int → Int → List TParam → Thing → Option (List TParam × Thing × Unit)
  | 0, _, _, _, _, _ => none
  | j3 + 1, v0, v1, v2, v3, v4 => (if decide (v2 < v1) = Bool.true then (if 0 ≤ v2 then (if v2 < (↑v0.length : Int) then ((s.f_tree_mapper_routine_1 (v0.getD v2.toNat dd_TParam, (v4, ()), ())).bind fun t5 => (if (v3 ++ [t5.fst]).length * 56 ≤ 140737488355328 then Ltree_each_Param_3 s k x0 x1 j3 (v0) (v1) (Go.IntKind.i64.wrap (v2 + 1)) (v3 ++ [t5.fst]) (t5.snd.fst) else none)) else none) else none) else some ((v3, v4, ())))
def B_tree_each_Param (s : Fam) (k : Nat) (x0 : List TParam) (x1 : Unit × (Thing × Unit) × Unit) : Option (List TParam × Thing × Unit) := Ltree_each_Param_3 s k x0 x1 k (x0) ((↑x0.length : Int)) (0) ([]) (x1.snd.fst.fst)
theorem Ltree_each_Param_3_eq (s : Fam) (k : Nat) (x0 : List TParam) (x1 : Unit × (Thing × Unit) × Unit) : ∀ (j3 : Nat) (v0 : List TParam) (v1 : Int) (v2 : Int) (v3 : List TParam) (v4 : Thing), (loopGo EE (sp s) h_tree_each_Param co_tree_each_Param (rootAs (unAs 1000004 (c_tree_each_Param.enc (x0, x1, ()))).1) k Tryz.f142 3 [] j3 ({ tmps := ofL AV.any [(1, AV.c (CV.clo 143 [] [CV.rq [CV.fx 1000004] 0])), (5, AV.c (CV.own 5 0)), (8, AV.c (CV.d (DV.sl 145 v0))), (9, AV.c (CV.d (DV.lit (Go.Value.int Go.IntKind.i64 v1)))), (10, AV.c (CV.d (DV.lit (Go.Value.int Go.IntKind.i64 v2))))], boxes := ofL Option.none [(1000004, Option.none)], objs := ofL Option.none [(5, Option.some { ver := 0, t := 145, xs := v3 : Obj II }), (8, Option.none)], fxs := ofL Option.none [(1000004, Option.some v4)] : AS II })).run = (Ltree_each_Param_3 s k x0 x1 j3 v0 v1 v2 v3 v4).map rc_tree_each_Param.enc := by
  intro j3
  induction j3 with
  | zero => intros; rfl
  | succ j3 ih =>
    intros
    simp only [Ltree_each_Param_3, map_ite, map_bindO, map_someO, map_noneO, ← ih]
    kernel_rfl
theorem e_tree_each_Param (s : Fam) (k : Nat) (x : a_tree_each_Param) : (evFunC EE (sp s) h_tree_each_Param co_tree_each_Param k Tryz.f142 (c_tree_each_Param.enc x)).run = (B_tree_each_Param s k x.1 x.2.1).map rc_tree_each_Param.enc := by
  simp only [B_tree_each_Param, map_ite, map_bindO, map_someO, map_noneO, ← Ltree_each_Param_3_eq]
  kernel_rfl
-- 11 nodes
def B_tree_mapper_routine_1 (s : Fam) (k : Nat) (x0 : TParam) (x1 : Thing × Unit) : Option (TParam × Thing × Unit) := ((s.f_tree_mapper_parts ((x1.fst, ()), x0.Name, ())).bind fun t1 => ((s.f_tree_mapper_typ ((t1.snd.fst, ()), x0.sub_T, ())).bind fun t2 => some (({ Name := t1.fst, T_Kind := t2.fst.Kind, T_Size := t2.fst.Size, T_Name := t2.fst.Name, Mode := x0.Mode : TParam }, t2.snd.fst, ()))))
theorem e_tree_mapper_routine_1 (s : Fam) (k : Nat) (x : a_tree_mapper_routine_1) : (evFunC EE (sp s) h_tree_mapper_routine_1 co_tree_mapper_routine_1 k Tryz.f143 (c_tree_mapper_routine_1.enc x)).run = (B_tree_mapper_routine_1 s k x.1 x.2.1).map rc_tree_mapper_routine_1.enc := by
  simp only [B_tree_mapper_routine_1, map_ite, map_bindO, map_someO, map_noneO]
  kernel_rfl
-- 3 nodes
def B_tree_mapper_expr (s : Fam) (k : Nat) (x0 : Thing × Unit) (x1 : TExpr) : Option (TExpr × Thing × Unit) := ((s.f_tree_mapper_parts ((x0.fst, ()), x1.Name, ())).bind fun t1 => ((s.f_tree_mapper_parts ((t1.snd.fst, ()), x1.Field, ())).bind fun t2 => ((s.f_tree_each_Expr (x1.L, (t2.snd.fst, ()), ())).bind fun t3 => some (({ Op := x1.Op, N := x1.N, Name := t1.fst, Field := t2.fst, L := t3.fst : TExpr }, t3.snd.fst, ())))))
theorem e_tree_mapper_expr (s : Fam) (k : Nat) (x : a_tree_mapper_expr) : (evFunC EE (sp s) h_tree_mapper_expr co_tree_mapper_expr k Tryz.f144 (c_tree_mapper_expr.enc x)).run = (B_tree_mapper_expr s k x.1 x.2.1).map rc_tree_mapper_expr.enc := by
  simp only [B_tree_mapper_expr, map_ite, map_bindO, map_someO, map_noneO]
  kernel_rfl
-- 4 nodes
def Ltree_each_Expr_3 (s : Fam) (k : Nat) (x0 : List TExpr) (x1 : Thing × Unit) : Nat → List TExpr → Int → Int → List TExpr → Thing → Option (List TExpr × Thing × Unit)
  | 0, _, _, _, _, _ => none
  | j3 + 1, v0, v1, v2, v3, v4 => (if decide (v2 < v1) = Bool.true then (if 0 ≤ v2 then (if v2 < (↑v0.length : Int) then ((s.f_tree_mapper_expr ((v4, ()), (v0.getD v2.toNat dd_TExpr).re, ())).bind fun t5 => (if (v3 ++ [t5.fst.re]).length * 72 ≤ 140737488355328 then Ltree_each_Expr_3 s k x0 x1 j3 (v0) (v1) (Go.IntKind.i64.wrap (v2 + 1)) (v3 ++ [t5.fst.re]) (t5.snd.fst) else none)) else none) else none) else some ((v3, v4, ())))
def B_tree_each_Expr (s : Fam) (k : Nat) (x0 : List TExpr) (x1 : Thing × Unit) : Option (List TExpr × Thing × Unit) := Ltree_each_Expr_3 s k x0 x1 k (x0) ((↑x0.length : Int)) (0) ([]) (x1.fst)
theorem Ltree_each_Expr_3_eq (s : Fam) (k : Nat) (x0 : List TExpr) (x1 : Thing × Unit) : ∀ (j3 : Nat) (v0 : List TExpr) (v1 : Int) (v2 : Int) (v3 : List TExpr) (v4 : Thing), (loopGo EE (sp s) h_tree_each_Expr co_tree_each_Expr (rootAs (unAs 1000004 (c_tree_each_Expr.enc (x0, x1, ()))).1) k Tryz.f145 3 [] j3 ({ tmps := ofL AV.any [(1, AV.c (CV.mth 144 [CV.fx 1000004])), (5, AV.c (CV.own 5 0)), (8, AV.c (CV.d (DV.sl 44 v0))), (9, AV.c (CV.d (DV.lit (Go.Value.int Go.IntKind.i64 v1)))), (10, AV.c (CV.d (DV.lit (Go.Value.int Go.IntKind.i64 v2))))], boxes := ofL Option.none [(1000004, Option.none)], objs := ofL Option.none [(5, Option.some { ver := 0, t := 44, xs := v3 : Obj II }), (8, Option.none)], fxs := ofL Option.none [(1000004, Option.some v4)] : AS II })).run = (Ltree_each_Expr_3 s k x0 x1 j3 v0 v1 v2 v3 v4).map rc_tree_each_Expr.enc := by
  intro j3
  induction j3 with
  | zero => intros; rfl
  | succ j3 ih =>
    intros
    simp only [Ltree_each_Expr_3, map_ite, map_bindO, map_someO, map_noneO, ← ih]
    kernel_rfl
theorem e_tree_each_Expr (s : Fam) (k : Nat) (x : a_tree_each_Expr) : (evFunC EE (sp s) h_tree_each_Expr co_tree_each_Expr k Tryz.f145 (c_tree_each_Expr.enc x)).run = (B_tree_each_Expr s k x.1 x.2.1).map rc_tree_each_Expr.enc := by
  simp only [B_tree_each_Expr, map_ite, map_bindO, map_someO, map_noneO, ← Ltree_each_Expr_3_eq]
  kernel_rfl
-- 11 nodes
end Go.Ev
end
section
open Go
namespace Go.Ev
def sep36 : ByteArray := ⟨#[36]⟩
def cutD (s : ByteArray) : List ByteArray := Lib.splitB sep36 0 (Lib.countB s sep36) s
def joinD (l : List ByteArray) : ByteArray := ⟨(Lib.join (l.map (·.data.toList)) sep36.data.toList).toArray⟩
def stepT (x : a_by) : Option b_by := match x.1 with
  | .ren l => some ((match l.find? fun p => p.Old.toList == x.2.1.toList with | some p => p.New | none => x.2.1), .ren l, ())
  | .names l => if x.2.1.size ≤ maxLen then (if (l.any fun z => z.toList == x.2.1.toList) = true then some (x.2.1, .names l, ()) else if (l.length + 1) * 16 ≤ 140737488355328 then some (x.2.1, .names (l ++ [x.2.1]), ()) else none) else none
def partsT (s : Fam) (th : Thing) : List ByteArray → Option (List ByteArray × Thing)
  | [] => some ([], th)
  | p :: r => if p.size = 0 then (partsT s th r).map fun q => (p :: q.1, q.2) else (s.f_by (th, p, ())).bind fun t => (partsT s t.2.1 r).map fun q => (t.1 :: q.1, q.2)
def B_tree_mapper_parts (s : Fam) (_ : Nat) (m : Thing × Unit) (x : ByteArray) : Option b_tree_mapper_parts :=
  if x.size = 0 then some (ByteArray.empty, m.1, ()) else if 4294967280 < x.size then none else if 1000000000000 < (cutD x).length then none else
    (partsT s m.1 (cutD x)).bind fun q => if (Lib.join (q.1.map (·.data.toList)) sep36.data.toList).length ≤ 140737488355328 then some (joinD q.1, q.2, ()) else none
def B_tree_Names (s : Fam) (_ : Nat) (p : TProgram) : Option (List ByteArray) :=
  (s.f_tree_mapper_program ((.names [], ()), p, ())).bind fun r => match r.2.1 with
    | .names l => some l
    | _ => none
def B_tree_Rename (s : Fam) (_ : Nat) (p : TProgram) (l : List TPair) : Option TProgram := (s.f_tree_mapper_program ((.ren l, ()), p, ())).map (·.1)
end Go.Ev
end
section
open Go Go.Proofs
namespace Go.Ev
set_option linter.unusedVariables false
set_option maxHeartbeats 4000000
set_option maxRecDepth 100000
def mkFam (h : Fam) (s : Fam) (k : Nat) : Fam where
  f_w07_TreeChecks x := B_w07_TreeChecks s k x.1 x.2.1
  f_w07_TreeNames x := B_w07_TreeNames s k x.1
  f_w07_TreeBack x := B_w07_TreeBack s k x.1
  f_w07_TreeExprs x := B_w07_TreeExprs s k x.1 x.2.1
  f_w07_TreeSame x := B_w07_TreeSame s k x.1 x.2.1 x.2.2.1 x.2.2.2.1
  f_w07_TreeAlike x := B_w07_TreeAlike s k x.1 x.2.1 x.2.2.1
  f_tree_Check x := B_tree_Check s k x.1 x.2.1
  f_r07_Check x := B_r07_Check s k x.1 x.2.1
  f_w07_awake x := B_w07_awake s k
  f_r01_SameTexts x := B_r01_SameTexts s k x.1 x.2.1
  f_tree_Names x := B_tree_Names s k x.1
  f_r07_Names x := B_r07_Names s k x.1
  f_r01_Digits x := B_r01_Digits s k x.1
  f_tree_Rename x := B_tree_Rename s k x.1 x.2.1
  f_r07_Same x := B_r07_Same s k x.1 x.2.1
  f_tree_CheckExpr x := B_tree_CheckExpr s k x.1 x.2.1
  f_r07_Expr x := B_r07_Expr s k x.1 x.2.1
  f_tree_Same x := B_tree_Same s k x.1 x.2.1
  f_tree_SameExpr x := B_tree_SameExpr s k x.1 x.2.1
  f_r07_SameExpr x := B_r07_SameExpr s k x.1 x.2.1
  f_tree_checker_name x := B_tree_checker_name s k x.1 x.2.1
  f_tree_notes x := B_tree_notes s k x.1
  f_tree_few_Rec x := B_tree_few_Rec s k x.1
  f_slices_ContainsFunc_Rec x := B_slices_ContainsFunc_Rec s k x.1 x.2.1
  f_tree_Check_1 x := B_tree_Check_1 s k x.1 x.2.1
  f_tree_checker_rec x := B_tree_checker_rec s k x.1 x.2.1
  f_tree_checker_vars x := B_tree_checker_vars s k x.1 x.2.1
  f_tree_checker_routines x := B_tree_checker_routines s k x.1 x.2.1 x.2.2.1
  f_tree_checker_stmts x := B_tree_checker_stmts s k x.1 x.2.1 x.2.2.1
  f_r07_Name x := B_r07_Name s k x.1 x.2.1
  f_r07_notes x := B_r07_notes s k x.1
  f_r07_marks x := B_r07_marks s k x.1
  f_r07_vars x := B_r07_vars s k x.1 x.2.1
  f_r07_routines x := B_r07_routines s k x.1 x.2.1 x.2.2.1
  f_r07_Stmts x := B_r07_Stmts s k x.1 x.2.1 x.2.2.1
  f_tree_mapper_program x := B_tree_mapper_program s k x.1 x.2.1
  f_r07_Parts x := B_r07_Parts s k x.1
  f_r07_varNames x := B_r07_varNames s k x.1
  f_r07_routineNames x := B_r07_routineNames s k x.1
  f_r07_stmtNames x := B_r07_stmtNames s k x.1
  f_r04_Among x := B_r04_Among s k x.1 x.2.1
  f_r01_long x := B_r01_long s k x.1
  f_tree_Rename_1 x := B_tree_Rename_1 s k x.1 x.2.1
  f_r07_sameMarks x := B_r07_sameMarks s k x.1 x.2.1
  f_r07_sameVars x := B_r07_sameVars s k x.1 x.2.1
  f_r07_SameRoutines x := B_r07_SameRoutines s k x.1 x.2.1
  f_r07_SameStmts x := B_r07_SameStmts s k x.1 x.2.1
  f_tree_checker_expr x := B_tree_checker_expr s k x.1 x.2.1
  f_r07_form x := B_r07_form s k x.1 x.2.1 x.2.2.1
  f_r07_Deep x := B_r07_Deep s k x.1 x.2.1
  f_slices_Equal_string x := B_slices_Equal_string s k x.1 x.2.1
  f_slices_EqualFunc_Rec x := B_slices_EqualFunc_Rec s k x.1 x.2.1 x.2.2.1
  f_tree_sameRec x := B_tree_sameRec s k x.1 x.2.1
  f_slices_EqualFunc_Var x := B_slices_EqualFunc_Var s k x.1 x.2.1 x.2.2.1
  f_tree_sameVar x := B_tree_sameVar s k x.1 x.2.1
  f_slices_EqualFunc_Routine x := B_slices_EqualFunc_Routine s k x.1 x.2.1 x.2.2.1
  f_tree_sameRoutine x := B_tree_sameRoutine s k x.1 x.2.1
  f_slices_EqualFunc_Stmt x := B_slices_EqualFunc_Stmt s k x.1 x.2.1 x.2.2.1
  f_tree_sameStmt x := B_tree_sameStmt s k x.1 x.2.1
  f_slices_EqualFunc_Expr x := B_slices_EqualFunc_Expr s k x.1 x.2.1 x.2.2.1
  f_r07_SameExprs x := B_r07_SameExprs s k x.1 x.2.1
  f_words_Check x := B_words_Check s k x.1
  f_words_Is := h.f_words_Is
  f_tree_few_string x := B_tree_few_string s k x.1
  f_note_Print := h.f_note_Print
  f_slices_IndexFunc_Rec x := B_slices_IndexFunc_Rec s k x.1 x.2.1
  f_tree_few_Field x := B_tree_few_Field s k x.1
  f_slices_ContainsFunc_Field x := B_slices_ContainsFunc_Field s k x.1 x.2.1
  f_tree_checker_rec_1 x := B_tree_checker_rec_1 s k x.1 x.2.1
  f_tree_kind x := B_tree_kind s k x.1
  f_tree_few_Var x := B_tree_few_Var s k x.1
  f_slices_ContainsFunc_Var x := B_slices_ContainsFunc_Var s k x.1 x.2.1
  f_tree_checker_vars_1 x := B_tree_checker_vars_1 s k x.1 x.2.1
  f_tree_checker_typ x := B_tree_checker_typ s k x.1 x.2.1
  f_tree_few_Routine x := B_tree_few_Routine s k x.1
  f_tree_apart := h.f_tree_apart
  f_slices_ContainsFunc_Routine x := B_slices_ContainsFunc_Routine s k x.1 x.2.1
  f_tree_checker_routines_1 x := B_tree_checker_routines_1 s k x.1 x.2.1 x.2.2.1
  f_tree_checker_routine := h.f_tree_checker_routine
  f_tree_checker_params x := B_tree_checker_params s k x.1 x.2.1
  f_tree_few_Stmt x := B_tree_few_Stmt s k x.1
  f_slices_ContainsFunc_Stmt x := B_slices_ContainsFunc_Stmt s k x.1 x.2.1
  f_tree_checker_stmts_1 x := B_tree_checker_stmts_1 s k x.1 x.2.1 x.2.2.1
  f_tree_checker_stmt x := B_tree_checker_stmt s k x.1 x.2.1 x.2.2.1
  f_r04_Check x := B_r04_Check s k x.1
  f_r04_Is x := B_r04_Is s k x.1 x.2.1
  f_r02_Check x := B_r02_Check s k x.1
  f_r07_Type x := B_r07_Type s k x.1 x.2.1
  f_r07_Routine x := B_r07_Routine s k x.1 x.2.1
  f_r07_params x := B_r07_params s k x.1 x.2.1
  f_r07_Stmt x := B_r07_Stmt s k x.1 x.2.1 x.2.2.1
  f_tree_mapper_parts x := B_tree_mapper_parts s k x.1 x.2.1
  f_slices_Clone_string := h.f_slices_Clone_string
  f_tree_each_Rec x := B_tree_each_Rec s k x.1 x.2.1
  f_tree_mapper_rec x := B_tree_mapper_rec s k x.1 x.2.1
  f_tree_each_Var x := B_tree_each_Var s k x.1 x.2.1
  f_tree_mapper_variable x := B_tree_mapper_variable s k x.1 x.2.1
  f_tree_each_Routine x := B_tree_each_Routine s k x.1 x.2.1
  f_tree_mapper_routine x := B_tree_mapper_routine s k x.1 x.2.1
  f_tree_each_Stmt x := B_tree_each_Stmt s k x.1 x.2.1
  f_tree_mapper_stmt x := B_tree_mapper_stmt s k x.1 x.2.1
  f_r07_ExprNames x := B_r07_ExprNames s k x.1
  f_tree_few_Expr x := B_tree_few_Expr s k x.1
  f_tree_checker_call x := B_tree_checker_call s k x.1 x.2.1
  f_tree_checker_deepest x := B_tree_checker_deepest s k x.1 x.2.1
  f_tree_marks x := B_tree_marks s k x.1 x.2.1
  f_slices_EqualFunc_Field x := B_slices_EqualFunc_Field s k x.1 x.2.1 x.2.2.1
  f_tree_sameRec_1 x := B_tree_sameRec_1 s k x.1 x.2.1
  f_slices_Equal_Param x := B_slices_Equal_Param s k x.1 x.2.1
  f_words_letter x := B_words_letter s k x.1 x.2.1
  f_slices_IndexFunc_Field x := B_slices_IndexFunc_Field s k x.1 x.2.1
  f_slices_IndexFunc_Var x := B_slices_IndexFunc_Var s k x.1 x.2.1
  f_slices_IndexFunc_Routine x := B_slices_IndexFunc_Routine s k x.1 x.2.1
  f_tree_few_Param x := B_tree_few_Param s k x.1
  f_slices_IndexFunc_Stmt x := B_slices_IndexFunc_Stmt s k x.1 x.2.1
  f_tree_shapeOf x := B_tree_shapeOf s k x.1
  f_tree_checker_place x := B_tree_checker_place s k x.1 x.2.1
  f_tree_none x := B_tree_none s k x.1
  f_r04_Letter x := B_r04_Letter s k x.1 x.2.1
  f_r04_All x := B_r04_All s k x.1
  f_r02_right x := B_r02_right s k x.1
  f_r07_place x := B_r07_place s k x.1 x.2.1
  f_r07_none x := B_r07_none s k x.1
  f_tree_mapper_marks x := B_tree_mapper_marks s k x.1 x.2.1
  f_tree_each_Field x := B_tree_each_Field s k x.1 x.2.1
  f_tree_mapper_rec_1 x := B_tree_mapper_rec_1 s k x.1 x.2.1
  f_tree_mapper_typ x := B_tree_mapper_typ s k x.1 x.2.1
  f_tree_each_Param x := B_tree_each_Param s k x.1 x.2.1
  f_tree_mapper_routine_1 x := B_tree_mapper_routine_1 s k x.1 x.2.1
  f_tree_mapper_expr x := B_tree_mapper_expr s k x.1 x.2.1
  f_tree_each_Expr x := B_tree_each_Expr s k x.1 x.2.1
  f_by := h.f_by
def noFam (h : Fam) : Fam where
  f_w07_TreeChecks _ := none
  f_w07_TreeNames _ := none
  f_w07_TreeBack _ := none
  f_w07_TreeExprs _ := none
  f_w07_TreeSame _ := none
  f_w07_TreeAlike _ := none
  f_tree_Check _ := none
  f_r07_Check _ := none
  f_w07_awake _ := none
  f_r01_SameTexts _ := none
  f_tree_Names _ := none
  f_r07_Names _ := none
  f_r01_Digits _ := none
  f_tree_Rename _ := none
  f_r07_Same _ := none
  f_tree_CheckExpr _ := none
  f_r07_Expr _ := none
  f_tree_Same _ := none
  f_tree_SameExpr _ := none
  f_r07_SameExpr _ := none
  f_tree_checker_name _ := none
  f_tree_notes _ := none
  f_tree_few_Rec _ := none
  f_slices_ContainsFunc_Rec _ := none
  f_tree_Check_1 _ := none
  f_tree_checker_rec _ := none
  f_tree_checker_vars _ := none
  f_tree_checker_routines _ := none
  f_tree_checker_stmts _ := none
  f_r07_Name _ := none
  f_r07_notes _ := none
  f_r07_marks _ := none
  f_r07_vars _ := none
  f_r07_routines _ := none
  f_r07_Stmts _ := none
  f_tree_mapper_program _ := none
  f_r07_Parts _ := none
  f_r07_varNames _ := none
  f_r07_routineNames _ := none
  f_r07_stmtNames _ := none
  f_r04_Among _ := none
  f_r01_long _ := none
  f_tree_Rename_1 _ := none
  f_r07_sameMarks _ := none
  f_r07_sameVars _ := none
  f_r07_SameRoutines _ := none
  f_r07_SameStmts _ := none
  f_tree_checker_expr _ := none
  f_r07_form _ := none
  f_r07_Deep _ := none
  f_slices_Equal_string _ := none
  f_slices_EqualFunc_Rec _ := none
  f_tree_sameRec _ := none
  f_slices_EqualFunc_Var _ := none
  f_tree_sameVar _ := none
  f_slices_EqualFunc_Routine _ := none
  f_tree_sameRoutine _ := none
  f_slices_EqualFunc_Stmt _ := none
  f_tree_sameStmt _ := none
  f_slices_EqualFunc_Expr _ := none
  f_r07_SameExprs _ := none
  f_words_Check _ := none
  f_words_Is := h.f_words_Is
  f_tree_few_string _ := none
  f_note_Print := h.f_note_Print
  f_slices_IndexFunc_Rec _ := none
  f_tree_few_Field _ := none
  f_slices_ContainsFunc_Field _ := none
  f_tree_checker_rec_1 _ := none
  f_tree_kind _ := none
  f_tree_few_Var _ := none
  f_slices_ContainsFunc_Var _ := none
  f_tree_checker_vars_1 _ := none
  f_tree_checker_typ _ := none
  f_tree_few_Routine _ := none
  f_tree_apart := h.f_tree_apart
  f_slices_ContainsFunc_Routine _ := none
  f_tree_checker_routines_1 _ := none
  f_tree_checker_routine := h.f_tree_checker_routine
  f_tree_checker_params _ := none
  f_tree_few_Stmt _ := none
  f_slices_ContainsFunc_Stmt _ := none
  f_tree_checker_stmts_1 _ := none
  f_tree_checker_stmt _ := none
  f_r04_Check _ := none
  f_r04_Is _ := none
  f_r02_Check _ := none
  f_r07_Type _ := none
  f_r07_Routine _ := none
  f_r07_params _ := none
  f_r07_Stmt _ := none
  f_tree_mapper_parts _ := none
  f_slices_Clone_string := h.f_slices_Clone_string
  f_tree_each_Rec _ := none
  f_tree_mapper_rec _ := none
  f_tree_each_Var _ := none
  f_tree_mapper_variable _ := none
  f_tree_each_Routine _ := none
  f_tree_mapper_routine _ := none
  f_tree_each_Stmt _ := none
  f_tree_mapper_stmt _ := none
  f_r07_ExprNames _ := none
  f_tree_few_Expr _ := none
  f_tree_checker_call _ := none
  f_tree_checker_deepest _ := none
  f_tree_marks _ := none
  f_slices_EqualFunc_Field _ := none
  f_tree_sameRec_1 _ := none
  f_slices_Equal_Param _ := none
  f_words_letter _ := none
  f_slices_IndexFunc_Field _ := none
  f_slices_IndexFunc_Var _ := none
  f_slices_IndexFunc_Routine _ := none
  f_tree_few_Param _ := none
  f_slices_IndexFunc_Stmt _ := none
  f_tree_shapeOf _ := none
  f_tree_checker_place _ := none
  f_tree_none _ := none
  f_r04_Letter _ := none
  f_r04_All _ := none
  f_r02_right _ := none
  f_r07_place _ := none
  f_r07_none _ := none
  f_tree_mapper_marks _ := none
  f_tree_each_Field _ := none
  f_tree_mapper_rec_1 _ := none
  f_tree_mapper_typ _ := none
  f_tree_each_Param _ := none
  f_tree_mapper_routine_1 _ := none
  f_tree_mapper_expr _ := none
  f_tree_each_Expr _ := none
  f_by := h.f_by
def FF (h : Fam) : Nat → Fam
  | 0 => noFam h
  | k + 1 => mkFam h (FF h k) k
structure HandOK (h : Fam) : Prop where
  o_tree_Names : ∀ (s : Fam) (k : Nat), (∀ f, SpecOK Tryz.prog EE (sp s) f) → SpecA Tryz.prog EE 13 (ansOf c_tree_Names rc_tree_Names.enc fun x => B_tree_Names s k x.1)
  o_tree_Rename : ∀ (s : Fam) (k : Nat), (∀ f, SpecOK Tryz.prog EE (sp s) f) → SpecA Tryz.prog EE 16 (ansOf c_tree_Rename rc_tree_Rename.enc fun x => B_tree_Rename s k x.1 x.2.1)
  o_words_Is : SpecA Tryz.prog EE 66 (ansOf c_words_Is rc_words_Is.enc h.f_words_Is)
  o_note_Print : SpecA Tryz.prog EE 68 (ansOf c_note_Print rc_note_Print.enc h.f_note_Print)
  o_tree_apart : SpecA Tryz.prog EE 79 (ansOf c_tree_apart rc_tree_apart.enc h.f_tree_apart)
  o_tree_checker_routine : SpecA Tryz.prog EE 82 (ansOf c_tree_checker_routine rc_tree_checker_routine.enc h.f_tree_checker_routine)
  o_tree_mapper_parts : ∀ (s : Fam) (k : Nat), (∀ f, SpecOK Tryz.prog EE (sp s) f) → SpecA Tryz.prog EE 95 (ansOf c_tree_mapper_parts rc_tree_mapper_parts.enc fun x => B_tree_mapper_parts s k x.1 x.2.1)
  o_slices_Clone_string : SpecA Tryz.prog EE 96 (ansOf c_slices_Clone_string rc_slices_Clone_string.enc h.f_slices_Clone_string)
  o_by : SpecA Tryz.prog EE 1000003 (ansOf c_by rc_by.enc h.f_by)
theorem hEE : EnvOK Tryz.prog EE := envOK EE rfl rfl rfl
def nilFam : Fam where
  f_w07_TreeChecks _ := none
  f_w07_TreeNames _ := none
  f_w07_TreeBack _ := none
  f_w07_TreeExprs _ := none
  f_w07_TreeSame _ := none
  f_w07_TreeAlike _ := none
  f_tree_Check _ := none
  f_r07_Check _ := none
  f_w07_awake _ := none
  f_r01_SameTexts _ := none
  f_tree_Names _ := none
  f_r07_Names _ := none
  f_r01_Digits _ := none
  f_tree_Rename _ := none
  f_r07_Same _ := none
  f_tree_CheckExpr _ := none
  f_r07_Expr _ := none
  f_tree_Same _ := none
  f_tree_SameExpr _ := none
  f_r07_SameExpr _ := none
  f_tree_checker_name _ := none
  f_tree_notes _ := none
  f_tree_few_Rec _ := none
  f_slices_ContainsFunc_Rec _ := none
  f_tree_Check_1 _ := none
  f_tree_checker_rec _ := none
  f_tree_checker_vars _ := none
  f_tree_checker_routines _ := none
  f_tree_checker_stmts _ := none
  f_r07_Name _ := none
  f_r07_notes _ := none
  f_r07_marks _ := none
  f_r07_vars _ := none
  f_r07_routines _ := none
  f_r07_Stmts _ := none
  f_tree_mapper_program _ := none
  f_r07_Parts _ := none
  f_r07_varNames _ := none
  f_r07_routineNames _ := none
  f_r07_stmtNames _ := none
  f_r04_Among _ := none
  f_r01_long _ := none
  f_tree_Rename_1 _ := none
  f_r07_sameMarks _ := none
  f_r07_sameVars _ := none
  f_r07_SameRoutines _ := none
  f_r07_SameStmts _ := none
  f_tree_checker_expr _ := none
  f_r07_form _ := none
  f_r07_Deep _ := none
  f_slices_Equal_string _ := none
  f_slices_EqualFunc_Rec _ := none
  f_tree_sameRec _ := none
  f_slices_EqualFunc_Var _ := none
  f_tree_sameVar _ := none
  f_slices_EqualFunc_Routine _ := none
  f_tree_sameRoutine _ := none
  f_slices_EqualFunc_Stmt _ := none
  f_tree_sameStmt _ := none
  f_slices_EqualFunc_Expr _ := none
  f_r07_SameExprs _ := none
  f_words_Check _ := none
  f_words_Is _ := none
  f_tree_few_string _ := none
  f_note_Print _ := none
  f_slices_IndexFunc_Rec _ := none
  f_tree_few_Field _ := none
  f_slices_ContainsFunc_Field _ := none
  f_tree_checker_rec_1 _ := none
  f_tree_kind _ := none
  f_tree_few_Var _ := none
  f_slices_ContainsFunc_Var _ := none
  f_tree_checker_vars_1 _ := none
  f_tree_checker_typ _ := none
  f_tree_few_Routine _ := none
  f_tree_apart _ := none
  f_slices_ContainsFunc_Routine _ := none
  f_tree_checker_routines_1 _ := none
  f_tree_checker_routine _ := none
  f_tree_checker_params _ := none
  f_tree_few_Stmt _ := none
  f_slices_ContainsFunc_Stmt _ := none
  f_tree_checker_stmts_1 _ := none
  f_tree_checker_stmt _ := none
  f_r04_Check _ := none
  f_r04_Is _ := none
  f_r02_Check _ := none
  f_r07_Type _ := none
  f_r07_Routine _ := none
  f_r07_params _ := none
  f_r07_Stmt _ := none
  f_tree_mapper_parts _ := none
  f_slices_Clone_string _ := none
  f_tree_each_Rec _ := none
  f_tree_mapper_rec _ := none
  f_tree_each_Var _ := none
  f_tree_mapper_variable _ := none
  f_tree_each_Routine _ := none
  f_tree_mapper_routine _ := none
  f_tree_each_Stmt _ := none
  f_tree_mapper_stmt _ := none
  f_r07_ExprNames _ := none
  f_tree_few_Expr _ := none
  f_tree_checker_call _ := none
  f_tree_checker_deepest _ := none
  f_tree_marks _ := none
  f_slices_EqualFunc_Field _ := none
  f_tree_sameRec_1 _ := none
  f_slices_Equal_Param _ := none
  f_words_letter _ := none
  f_slices_IndexFunc_Field _ := none
  f_slices_IndexFunc_Var _ := none
  f_slices_IndexFunc_Routine _ := none
  f_tree_few_Param _ := none
  f_slices_IndexFunc_Stmt _ := none
  f_tree_shapeOf _ := none
  f_tree_checker_place _ := none
  f_tree_none _ := none
  f_r04_Letter _ := none
  f_r04_All _ := none
  f_r02_right _ := none
  f_r07_place _ := none
  f_r07_none _ := none
  f_tree_mapper_marks _ := none
  f_tree_each_Field _ := none
  f_tree_mapper_rec_1 _ := none
  f_tree_mapper_typ _ := none
  f_tree_each_Param _ := none
  f_tree_mapper_routine_1 _ := none
  f_tree_mapper_expr _ := none
  f_tree_each_Expr _ := none
  f_by _ := none
theorem nil_ok : AllA Tryz.prog EE (table nilFam) :=
  .cons (specA_none _ _) <|
  .cons (specA_none _ _) <|
  .cons (specA_none _ _) <|
  .cons (specA_none _ _) <|
  .cons (specA_none _ _) <|
  .cons (specA_none _ _) <|
  .cons (specA_none _ _) <|
  .cons (specA_none _ _) <|
  .cons (specA_none _ _) <|
  .cons (specA_none _ _) <|
  .cons (specA_none _ _) <|
  .cons (specA_none _ _) <|
  .cons (specA_none _ _) <|
  .cons (specA_none _ _) <|
  .cons (specA_none _ _) <|
  .cons (specA_none _ _) <|
  .cons (specA_none _ _) <|
  .cons (specA_none _ _) <|
  .cons (specA_none _ _) <|
  .cons (specA_none _ _) <|
  .cons (specA_none _ _) <|
  .cons (specA_none _ _) <|
  .cons (specA_none _ _) <|
  .cons (specA_none _ _) <|
  .cons (specA_none _ _) <|
  .cons (specA_none _ _) <|
  .cons (specA_none _ _) <|
  .cons (specA_none _ _) <|
  .cons (specA_none _ _) <|
  .cons (specA_none _ _) <|
  .cons (specA_none _ _) <|
  .cons (specA_none _ _) <|
  .cons (specA_none _ _) <|
  .cons (specA_none _ _) <|
  .cons (specA_none _ _) <|
  .cons (specA_none _ _) <|
  .cons (specA_none _ _) <|
  .cons (specA_none _ _) <|
  .cons (specA_none _ _) <|
  .cons (specA_none _ _) <|
  .cons (specA_none _ _) <|
  .cons (specA_none _ _) <|
  .cons (specA_none _ _) <|
  .cons (specA_none _ _) <|
  .cons (specA_none _ _) <|
  .cons (specA_none _ _) <|
  .cons (specA_none _ _) <|
  .cons (specA_none _ _) <|
  .cons (specA_none _ _) <|
  .cons (specA_none _ _) <|
  .cons (specA_none _ _) <|
  .cons (specA_none _ _) <|
  .cons (specA_none _ _) <|
  .cons (specA_none _ _) <|
  .cons (specA_none _ _) <|
  .cons (specA_none _ _) <|
  .cons (specA_none _ _) <|
  .cons (specA_none _ _) <|
  .cons (specA_none _ _) <|
  .cons (specA_none _ _) <|
  .cons (specA_none _ _) <|
  .cons (specA_none _ _) <|
  .cons (specA_none _ _) <|
  .cons (specA_none _ _) <|
  .cons (specA_none _ _) <|
  .cons (specA_none _ _) <|
  .cons (specA_none _ _) <|
  .cons (specA_none _ _) <|
  .cons (specA_none _ _) <|
  .cons (specA_none _ _) <|
  .cons (specA_none _ _) <|
  .cons (specA_none _ _) <|
  .cons (specA_none _ _) <|
  .cons (specA_none _ _) <|
  .cons (specA_none _ _) <|
  .cons (specA_none _ _) <|
  .cons (specA_none _ _) <|
  .cons (specA_none _ _) <|
  .cons (specA_none _ _) <|
  .cons (specA_none _ _) <|
  .cons (specA_none _ _) <|
  .cons (specA_none _ _) <|
  .cons (specA_none _ _) <|
  .cons (specA_none _ _) <|
  .cons (specA_none _ _) <|
  .cons (specA_none _ _) <|
  .cons (specA_none _ _) <|
  .cons (specA_none _ _) <|
  .cons (specA_none _ _) <|
  .cons (specA_none _ _) <|
  .cons (specA_none _ _) <|
  .cons (specA_none _ _) <|
  .cons (specA_none _ _) <|
  .cons (specA_none _ _) <|
  .cons (specA_none _ _) <|
  .cons (specA_none _ _) <|
  .cons (specA_none _ _) <|
  .cons (specA_none _ _) <|
  .cons (specA_none _ _) <|
  .cons (specA_none _ _) <|
  .cons (specA_none _ _) <|
  .cons (specA_none _ _) <|
  .cons (specA_none _ _) <|
  .cons (specA_none _ _) <|
  .cons (specA_none _ _) <|
  .cons (specA_none _ _) <|
  .cons (specA_none _ _) <|
  .cons (specA_none _ _) <|
  .cons (specA_none _ _) <|
  .cons (specA_none _ _) <|
  .cons (specA_none _ _) <|
  .cons (specA_none _ _) <|
  .cons (specA_none _ _) <|
  .cons (specA_none _ _) <|
  .cons (specA_none _ _) <|
  .cons (specA_none _ _) <|
  .cons (specA_none _ _) <|
  .cons (specA_none _ _) <|
  .cons (specA_none _ _) <|
  .cons (specA_none _ _) <|
  .cons (specA_none _ _) <|
  .cons (specA_none _ _) <|
  .cons (specA_none _ _) <|
  .cons (specA_none _ _) <|
  .cons (specA_none _ _) <|
  .cons (specA_none _ _) <|
  .cons (specA_none _ _) <|
  .cons (specA_none _ _) <|
  .cons (specA_none _ _) <|
  .cons (specA_none _ _) <|
  .cons (specA_none _ _) <|
  .cons (specA_none _ _) <|
  .nil
theorem specs0 {h : Fam} (hh : HandOK h) : AllA Tryz.prog EE (table (noFam h)) :=
  .cons (specA_none _ _) <|
  .cons (specA_none _ _) <|
  .cons (specA_none _ _) <|
  .cons (specA_none _ _) <|
  .cons (specA_none _ _) <|
  .cons (specA_none _ _) <|
  .cons (specA_none _ _) <|
  .cons (specA_none _ _) <|
  .cons (specA_none _ _) <|
  .cons (specA_none _ _) <|
  .cons (specA_none _ _) <|
  .cons (specA_none _ _) <|
  .cons (specA_none _ _) <|
  .cons (specA_none _ _) <|
  .cons (specA_none _ _) <|
  .cons (specA_none _ _) <|
  .cons (specA_none _ _) <|
  .cons (specA_none _ _) <|
  .cons (specA_none _ _) <|
  .cons (specA_none _ _) <|
  .cons (specA_none _ _) <|
  .cons (specA_none _ _) <|
  .cons (specA_none _ _) <|
  .cons (specA_none _ _) <|
  .cons (specA_none _ _) <|
  .cons (specA_none _ _) <|
  .cons (specA_none _ _) <|
  .cons (specA_none _ _) <|
  .cons (specA_none _ _) <|
  .cons (specA_none _ _) <|
  .cons (specA_none _ _) <|
  .cons (specA_none _ _) <|
  .cons (specA_none _ _) <|
  .cons (specA_none _ _) <|
  .cons (specA_none _ _) <|
  .cons (specA_none _ _) <|
  .cons (specA_none _ _) <|
  .cons (specA_none _ _) <|
  .cons (specA_none _ _) <|
  .cons (specA_none _ _) <|
  .cons (specA_none _ _) <|
  .cons (specA_none _ _) <|
  .cons (specA_none _ _) <|
  .cons (specA_none _ _) <|
  .cons (specA_none _ _) <|
  .cons (specA_none _ _) <|
  .cons (specA_none _ _) <|
  .cons (specA_none _ _) <|
  .cons (specA_none _ _) <|
  .cons (specA_none _ _) <|
  .cons (specA_none _ _) <|
  .cons (specA_none _ _) <|
  .cons (specA_none _ _) <|
  .cons (specA_none _ _) <|
  .cons (specA_none _ _) <|
  .cons (specA_none _ _) <|
  .cons (specA_none _ _) <|
  .cons (specA_none _ _) <|
  .cons (specA_none _ _) <|
  .cons (specA_none _ _) <|
  .cons (specA_none _ _) <|
  .cons (specA_none _ _) <|
  .cons (hh.o_words_Is) <|
  .cons (specA_none _ _) <|
  .cons (hh.o_note_Print) <|
  .cons (specA_none _ _) <|
  .cons (specA_none _ _) <|
  .cons (specA_none _ _) <|
  .cons (specA_none _ _) <|
  .cons (specA_none _ _) <|
  .cons (specA_none _ _) <|
  .cons (specA_none _ _) <|
  .cons (specA_none _ _) <|
  .cons (specA_none _ _) <|
  .cons (specA_none _ _) <|
  .cons (hh.o_tree_apart) <|
  .cons (specA_none _ _) <|
  .cons (specA_none _ _) <|
  .cons (hh.o_tree_checker_routine) <|
  .cons (specA_none _ _) <|
  .cons (specA_none _ _) <|
  .cons (specA_none _ _) <|
  .cons (specA_none _ _) <|
  .cons (specA_none _ _) <|
  .cons (specA_none _ _) <|
  .cons (specA_none _ _) <|
  .cons (specA_none _ _) <|
  .cons (specA_none _ _) <|
  .cons (specA_none _ _) <|
  .cons (specA_none _ _) <|
  .cons (specA_none _ _) <|
  .cons (specA_none _ _) <|
  .cons (hh.o_slices_Clone_string) <|
  .cons (specA_none _ _) <|
  .cons (specA_none _ _) <|
  .cons (specA_none _ _) <|
  .cons (specA_none _ _) <|
  .cons (specA_none _ _) <|
  .cons (specA_none _ _) <|
  .cons (specA_none _ _) <|
  .cons (specA_none _ _) <|
  .cons (specA_none _ _) <|
  .cons (specA_none _ _) <|
  .cons (specA_none _ _) <|
  .cons (specA_none _ _) <|
  .cons (specA_none _ _) <|
  .cons (specA_none _ _) <|
  .cons (specA_none _ _) <|
  .cons (specA_none _ _) <|
  .cons (specA_none _ _) <|
  .cons (specA_none _ _) <|
  .cons (specA_none _ _) <|
  .cons (specA_none _ _) <|
  .cons (specA_none _ _) <|
  .cons (specA_none _ _) <|
  .cons (specA_none _ _) <|
  .cons (specA_none _ _) <|
  .cons (specA_none _ _) <|
  .cons (specA_none _ _) <|
  .cons (specA_none _ _) <|
  .cons (specA_none _ _) <|
  .cons (specA_none _ _) <|
  .cons (specA_none _ _) <|
  .cons (specA_none _ _) <|
  .cons (specA_none _ _) <|
  .cons (specA_none _ _) <|
  .cons (specA_none _ _) <|
  .cons (specA_none _ _) <|
  .cons (specA_none _ _) <|
  .cons (specA_none _ _) <|
  .cons (specA_none _ _) <|
  .cons (hh.o_by) <|
  .nil
theorem specsS {h : Fam} (hh : HandOK h) (k : Nat) (ih : ∀ f, SpecOK Tryz.prog EE (sp (FF h k)) f) : AllA Tryz.prog EE (table (FF h (k + 1))) :=
  .cons (specA_of hEE ih Tryz.func3 (by kernel_rfl) (by decide) c_w07_TreeChecks rc_w07_TreeChecks.enc _ (fun x => e_w07_TreeChecks (FF h k) k x)) <|
  .cons (specA_of hEE ih Tryz.func4 (by kernel_rfl) (by decide) c_w07_TreeNames rc_w07_TreeNames.enc _ (fun x => e_w07_TreeNames (FF h k) k x)) <|
  .cons (specA_of hEE ih Tryz.func5 (by kernel_rfl) (by decide) c_w07_TreeBack rc_w07_TreeBack.enc _ (fun x => e_w07_TreeBack (FF h k) k x)) <|
  .cons (specA_of hEE ih Tryz.func6 (by kernel_rfl) (by decide) c_w07_TreeExprs rc_w07_TreeExprs.enc _ (fun x => e_w07_TreeExprs (FF h k) k x)) <|
  .cons (specA_of hEE ih Tryz.func7 (by kernel_rfl) (by decide) c_w07_TreeSame rc_w07_TreeSame.enc _ (fun x => e_w07_TreeSame (FF h k) k x)) <|
  .cons (specA_of hEE ih Tryz.func8 (by kernel_rfl) (by decide) c_w07_TreeAlike rc_w07_TreeAlike.enc _ (fun x => e_w07_TreeAlike (FF h k) k x)) <|
  .cons (specA_of hEE ih Tryz.func9 (by kernel_rfl) (by decide) c_tree_Check rc_tree_Check.enc _ (fun x => e_tree_Check (FF h k) k x)) <|
  .cons (specA_of hEE ih Tryz.func10 (by kernel_rfl) (by decide) c_r07_Check rc_r07_Check.enc _ (fun x => e_r07_Check (FF h k) k x)) <|
  .cons (specA_of hEE ih Tryz.func11 (by kernel_rfl) (by decide) c_w07_awake rc_w07_awake.enc _ (fun x => e_w07_awake (FF h k) k x)) <|
  .cons (specA_of hEE ih Tryz.func12 (by kernel_rfl) (by decide) c_r01_SameTexts rc_r01_SameTexts.enc _ (fun x => e_r01_SameTexts (FF h k) k x)) <|
  .cons (hh.o_tree_Names _ k ih) <|
  .cons (specA_of hEE ih Tryz.func14 (by kernel_rfl) (by decide) c_r07_Names rc_r07_Names.enc _ (fun x => e_r07_Names (FF h k) k x)) <|
  .cons (specA_of hEE ih Tryz.func15 (by kernel_rfl) (by decide) c_r01_Digits rc_r01_Digits.enc _ (fun x => e_r01_Digits (FF h k) k x)) <|
  .cons (hh.o_tree_Rename _ k ih) <|
  .cons (specA_of hEE ih Tryz.func17 (by kernel_rfl) (by decide) c_r07_Same rc_r07_Same.enc _ (fun x => e_r07_Same (FF h k) k x)) <|
  .cons (specA_of hEE ih Tryz.func18 (by kernel_rfl) (by decide) c_tree_CheckExpr rc_tree_CheckExpr.enc _ (fun x => e_tree_CheckExpr (FF h k) k x)) <|
  .cons (specA_of hEE ih Tryz.func19 (by kernel_rfl) (by decide) c_r07_Expr rc_r07_Expr.enc _ (fun x => e_r07_Expr (FF h k) k x)) <|
  .cons (specA_of hEE ih Tryz.func20 (by kernel_rfl) (by decide) c_tree_Same rc_tree_Same.enc _ (fun x => e_tree_Same (FF h k) k x)) <|
  .cons (specA_of hEE ih Tryz.func21 (by kernel_rfl) (by decide) c_tree_SameExpr rc_tree_SameExpr.enc _ (fun x => e_tree_SameExpr (FF h k) k x)) <|
  .cons (specA_of hEE ih Tryz.func22 (by kernel_rfl) (by decide) c_r07_SameExpr rc_r07_SameExpr.enc _ (fun x => e_r07_SameExpr (FF h k) k x)) <|
  .cons (specA_of hEE ih Tryz.func23 (by kernel_rfl) (by decide) c_tree_checker_name rc_tree_checker_name.enc _ (fun x => e_tree_checker_name (FF h k) k x)) <|
  .cons (specA_of hEE ih Tryz.func24 (by kernel_rfl) (by decide) c_tree_notes rc_tree_notes.enc _ (fun x => e_tree_notes (FF h k) k x)) <|
  .cons (specA_of hEE ih Tryz.func25 (by kernel_rfl) (by decide) c_tree_few_Rec rc_tree_few_Rec.enc _ (fun x => e_tree_few_Rec (FF h k) k x)) <|
  .cons (specA_of hEE ih Tryz.func26 (by kernel_rfl) (by decide) c_slices_ContainsFunc_Rec rc_slices_ContainsFunc_Rec.enc _ (fun x => e_slices_ContainsFunc_Rec (FF h k) k x)) <|
  .cons (specA_of hEE ih Tryz.func27 (by kernel_rfl) (by decide) c_tree_Check_1 rc_tree_Check_1.enc _ (fun x => e_tree_Check_1 (FF h k) k x)) <|
  .cons (specA_of hEE ih Tryz.func28 (by kernel_rfl) (by decide) c_tree_checker_rec rc_tree_checker_rec.enc _ (fun x => e_tree_checker_rec (FF h k) k x)) <|
  .cons (specA_of hEE ih Tryz.func29 (by kernel_rfl) (by decide) c_tree_checker_vars rc_tree_checker_vars.enc _ (fun x => e_tree_checker_vars (FF h k) k x)) <|
  .cons (specA_of hEE ih Tryz.func30 (by kernel_rfl) (by decide) c_tree_checker_routines rc_tree_checker_routines.enc _ (fun x => e_tree_checker_routines (FF h k) k x)) <|
  .cons (specA_of hEE ih Tryz.func31 (by kernel_rfl) (by decide) c_tree_checker_stmts rc_tree_checker_stmts.enc _ (fun x => e_tree_checker_stmts (FF h k) k x)) <|
  .cons (specA_of hEE ih Tryz.func32 (by kernel_rfl) (by decide) c_r07_Name rc_r07_Name.enc _ (fun x => e_r07_Name (FF h k) k x)) <|
  .cons (specA_of hEE ih Tryz.func33 (by kernel_rfl) (by decide) c_r07_notes rc_r07_notes.enc _ (fun x => e_r07_notes (FF h k) k x)) <|
  .cons (specA_of hEE ih Tryz.func34 (by kernel_rfl) (by decide) c_r07_marks rc_r07_marks.enc _ (fun x => e_r07_marks (FF h k) k x)) <|
  .cons (specA_of hEE ih Tryz.func35 (by kernel_rfl) (by decide) c_r07_vars rc_r07_vars.enc _ (fun x => e_r07_vars (FF h k) k x)) <|
  .cons (specA_of hEE ih Tryz.func36 (by kernel_rfl) (by decide) c_r07_routines rc_r07_routines.enc _ (fun x => e_r07_routines (FF h k) k x)) <|
  .cons (specA_of hEE ih Tryz.func37 (by kernel_rfl) (by decide) c_r07_Stmts rc_r07_Stmts.enc _ (fun x => e_r07_Stmts (FF h k) k x)) <|
  .cons (specA_of hEE ih Tryz.func39 (by kernel_rfl) (by decide) c_tree_mapper_program rc_tree_mapper_program.enc _ (fun x => e_tree_mapper_program (FF h k) k x)) <|
  .cons (specA_of hEE ih Tryz.func40 (by kernel_rfl) (by decide) c_r07_Parts rc_r07_Parts.enc _ (fun x => e_r07_Parts (FF h k) k x)) <|
  .cons (specA_of hEE ih Tryz.func41 (by kernel_rfl) (by decide) c_r07_varNames rc_r07_varNames.enc _ (fun x => e_r07_varNames (FF h k) k x)) <|
  .cons (specA_of hEE ih Tryz.func42 (by kernel_rfl) (by decide) c_r07_routineNames rc_r07_routineNames.enc _ (fun x => e_r07_routineNames (FF h k) k x)) <|
  .cons (specA_of hEE ih Tryz.func43 (by kernel_rfl) (by decide) c_r07_stmtNames rc_r07_stmtNames.enc _ (fun x => e_r07_stmtNames (FF h k) k x)) <|
  .cons (specA_of hEE ih Tryz.func44 (by kernel_rfl) (by decide) c_r04_Among rc_r04_Among.enc _ (fun x => e_r04_Among (FF h k) k x)) <|
  .cons (specA_of hEE ih Tryz.func45 (by kernel_rfl) (by decide) c_r01_long rc_r01_long.enc _ (fun x => e_r01_long (FF h k) k x)) <|
  .cons (specA_of hEE ih Tryz.func46 (by kernel_rfl) (by decide) c_tree_Rename_1 rc_tree_Rename_1.enc _ (fun x => e_tree_Rename_1 (FF h k) k x)) <|
  .cons (specA_of hEE ih Tryz.func47 (by kernel_rfl) (by decide) c_r07_sameMarks rc_r07_sameMarks.enc _ (fun x => e_r07_sameMarks (FF h k) k x)) <|
  .cons (specA_of hEE ih Tryz.func48 (by kernel_rfl) (by decide) c_r07_sameVars rc_r07_sameVars.enc _ (fun x => e_r07_sameVars (FF h k) k x)) <|
  .cons (specA_of hEE ih Tryz.func49 (by kernel_rfl) (by decide) c_r07_SameRoutines rc_r07_SameRoutines.enc _ (fun x => e_r07_SameRoutines (FF h k) k x)) <|
  .cons (specA_of hEE ih Tryz.func50 (by kernel_rfl) (by decide) c_r07_SameStmts rc_r07_SameStmts.enc _ (fun x => e_r07_SameStmts (FF h k) k x)) <|
  .cons (specA_of hEE ih Tryz.func51 (by kernel_rfl) (by decide) c_tree_checker_expr rc_tree_checker_expr.enc _ (fun x => e_tree_checker_expr (FF h k) k x)) <|
  .cons (specA_of hEE ih Tryz.func52 (by kernel_rfl) (by decide) c_r07_form rc_r07_form.enc _ (fun x => e_r07_form (FF h k) k x)) <|
  .cons (specA_of hEE ih Tryz.func53 (by kernel_rfl) (by decide) c_r07_Deep rc_r07_Deep.enc _ (fun x => e_r07_Deep (FF h k) k x)) <|
  .cons (specA_of hEE ih Tryz.func54 (by kernel_rfl) (by decide) c_slices_Equal_string rc_slices_Equal_string.enc _ (fun x => e_slices_Equal_string (FF h k) k x)) <|
  .cons (specA_of hEE ih Tryz.func55 (by kernel_rfl) (by decide) c_slices_EqualFunc_Rec rc_slices_EqualFunc_Rec.enc _ (fun x => e_slices_EqualFunc_Rec (FF h k) k x)) <|
  .cons (specA_of hEE ih Tryz.func56 (by kernel_rfl) (by decide) c_tree_sameRec rc_tree_sameRec.enc _ (fun x => e_tree_sameRec (FF h k) k x)) <|
  .cons (specA_of hEE ih Tryz.func57 (by kernel_rfl) (by decide) c_slices_EqualFunc_Var rc_slices_EqualFunc_Var.enc _ (fun x => e_slices_EqualFunc_Var (FF h k) k x)) <|
  .cons (specA_of hEE ih Tryz.func58 (by kernel_rfl) (by decide) c_tree_sameVar rc_tree_sameVar.enc _ (fun x => e_tree_sameVar (FF h k) k x)) <|
  .cons (specA_of hEE ih Tryz.func59 (by kernel_rfl) (by decide) c_slices_EqualFunc_Routine rc_slices_EqualFunc_Routine.enc _ (fun x => e_slices_EqualFunc_Routine (FF h k) k x)) <|
  .cons (specA_of hEE ih Tryz.func60 (by kernel_rfl) (by decide) c_tree_sameRoutine rc_tree_sameRoutine.enc _ (fun x => e_tree_sameRoutine (FF h k) k x)) <|
  .cons (specA_of hEE ih Tryz.func61 (by kernel_rfl) (by decide) c_slices_EqualFunc_Stmt rc_slices_EqualFunc_Stmt.enc _ (fun x => e_slices_EqualFunc_Stmt (FF h k) k x)) <|
  .cons (specA_of hEE ih Tryz.func62 (by kernel_rfl) (by decide) c_tree_sameStmt rc_tree_sameStmt.enc _ (fun x => e_tree_sameStmt (FF h k) k x)) <|
  .cons (specA_of hEE ih Tryz.func63 (by kernel_rfl) (by decide) c_slices_EqualFunc_Expr rc_slices_EqualFunc_Expr.enc _ (fun x => e_slices_EqualFunc_Expr (FF h k) k x)) <|
  .cons (specA_of hEE ih Tryz.func64 (by kernel_rfl) (by decide) c_r07_SameExprs rc_r07_SameExprs.enc _ (fun x => e_r07_SameExprs (FF h k) k x)) <|
  .cons (specA_of hEE ih Tryz.func65 (by kernel_rfl) (by decide) c_words_Check rc_words_Check.enc _ (fun x => e_words_Check (FF h k) k x)) <|
  .cons (hh.o_words_Is) <|
  .cons (specA_of hEE ih Tryz.func67 (by kernel_rfl) (by decide) c_tree_few_string rc_tree_few_string.enc _ (fun x => e_tree_few_string (FF h k) k x)) <|
  .cons (hh.o_note_Print) <|
  .cons (specA_of hEE ih Tryz.func69 (by kernel_rfl) (by decide) c_slices_IndexFunc_Rec rc_slices_IndexFunc_Rec.enc _ (fun x => e_slices_IndexFunc_Rec (FF h k) k x)) <|
  .cons (specA_of hEE ih Tryz.func70 (by kernel_rfl) (by decide) c_tree_few_Field rc_tree_few_Field.enc _ (fun x => e_tree_few_Field (FF h k) k x)) <|
  .cons (specA_of hEE ih Tryz.func71 (by kernel_rfl) (by decide) c_slices_ContainsFunc_Field rc_slices_ContainsFunc_Field.enc _ (fun x => e_slices_ContainsFunc_Field (FF h k) k x)) <|
  .cons (specA_of hEE ih Tryz.func72 (by kernel_rfl) (by decide) c_tree_checker_rec_1 rc_tree_checker_rec_1.enc _ (fun x => e_tree_checker_rec_1 (FF h k) k x)) <|
  .cons (specA_of hEE ih Tryz.func73 (by kernel_rfl) (by decide) c_tree_kind rc_tree_kind.enc _ (fun x => e_tree_kind (FF h k) k x)) <|
  .cons (specA_of hEE ih Tryz.func74 (by kernel_rfl) (by decide) c_tree_few_Var rc_tree_few_Var.enc _ (fun x => e_tree_few_Var (FF h k) k x)) <|
  .cons (specA_of hEE ih Tryz.func75 (by kernel_rfl) (by decide) c_slices_ContainsFunc_Var rc_slices_ContainsFunc_Var.enc _ (fun x => e_slices_ContainsFunc_Var (FF h k) k x)) <|
  .cons (specA_of hEE ih Tryz.func76 (by kernel_rfl) (by decide) c_tree_checker_vars_1 rc_tree_checker_vars_1.enc _ (fun x => e_tree_checker_vars_1 (FF h k) k x)) <|
  .cons (specA_of hEE ih Tryz.func77 (by kernel_rfl) (by decide) c_tree_checker_typ rc_tree_checker_typ.enc _ (fun x => e_tree_checker_typ (FF h k) k x)) <|
  .cons (specA_of hEE ih Tryz.func78 (by kernel_rfl) (by decide) c_tree_few_Routine rc_tree_few_Routine.enc _ (fun x => e_tree_few_Routine (FF h k) k x)) <|
  .cons (hh.o_tree_apart) <|
  .cons (specA_of hEE ih Tryz.func80 (by kernel_rfl) (by decide) c_slices_ContainsFunc_Routine rc_slices_ContainsFunc_Routine.enc _ (fun x => e_slices_ContainsFunc_Routine (FF h k) k x)) <|
  .cons (specA_of hEE ih Tryz.func81 (by kernel_rfl) (by decide) c_tree_checker_routines_1 rc_tree_checker_routines_1.enc _ (fun x => e_tree_checker_routines_1 (FF h k) k x)) <|
  .cons (hh.o_tree_checker_routine) <|
  .cons (specA_of hEE ih Tryz.func83 (by kernel_rfl) (by decide) c_tree_checker_params rc_tree_checker_params.enc _ (fun x => e_tree_checker_params (FF h k) k x)) <|
  .cons (specA_of hEE ih Tryz.func84 (by kernel_rfl) (by decide) c_tree_few_Stmt rc_tree_few_Stmt.enc _ (fun x => e_tree_few_Stmt (FF h k) k x)) <|
  .cons (specA_of hEE ih Tryz.func85 (by kernel_rfl) (by decide) c_slices_ContainsFunc_Stmt rc_slices_ContainsFunc_Stmt.enc _ (fun x => e_slices_ContainsFunc_Stmt (FF h k) k x)) <|
  .cons (specA_of hEE ih Tryz.func86 (by kernel_rfl) (by decide) c_tree_checker_stmts_1 rc_tree_checker_stmts_1.enc _ (fun x => e_tree_checker_stmts_1 (FF h k) k x)) <|
  .cons (specA_of hEE ih Tryz.func87 (by kernel_rfl) (by decide) c_tree_checker_stmt rc_tree_checker_stmt.enc _ (fun x => e_tree_checker_stmt (FF h k) k x)) <|
  .cons (specA_of hEE ih Tryz.func88 (by kernel_rfl) (by decide) c_r04_Check rc_r04_Check.enc _ (fun x => e_r04_Check (FF h k) k x)) <|
  .cons (specA_of hEE ih Tryz.func89 (by kernel_rfl) (by decide) c_r04_Is rc_r04_Is.enc _ (fun x => e_r04_Is (FF h k) k x)) <|
  .cons (specA_of hEE ih Tryz.func90 (by kernel_rfl) (by decide) c_r02_Check rc_r02_Check.enc _ (fun x => e_r02_Check (FF h k) k x)) <|
  .cons (specA_of hEE ih Tryz.func91 (by kernel_rfl) (by decide) c_r07_Type rc_r07_Type.enc _ (fun x => e_r07_Type (FF h k) k x)) <|
  .cons (specA_of hEE ih Tryz.func92 (by kernel_rfl) (by decide) c_r07_Routine rc_r07_Routine.enc _ (fun x => e_r07_Routine (FF h k) k x)) <|
  .cons (specA_of hEE ih Tryz.func93 (by kernel_rfl) (by decide) c_r07_params rc_r07_params.enc _ (fun x => e_r07_params (FF h k) k x)) <|
  .cons (specA_of hEE ih Tryz.func94 (by kernel_rfl) (by decide) c_r07_Stmt rc_r07_Stmt.enc _ (fun x => e_r07_Stmt (FF h k) k x)) <|
  .cons (hh.o_tree_mapper_parts _ k ih) <|
  .cons (hh.o_slices_Clone_string) <|
  .cons (specA_of hEE ih Tryz.func97 (by kernel_rfl) (by decide) c_tree_each_Rec rc_tree_each_Rec.enc _ (fun x => e_tree_each_Rec (FF h k) k x)) <|
  .cons (specA_of hEE ih Tryz.func98 (by kernel_rfl) (by decide) c_tree_mapper_rec rc_tree_mapper_rec.enc _ (fun x => e_tree_mapper_rec (FF h k) k x)) <|
  .cons (specA_of hEE ih Tryz.func99 (by kernel_rfl) (by decide) c_tree_each_Var rc_tree_each_Var.enc _ (fun x => e_tree_each_Var (FF h k) k x)) <|
  .cons (specA_of hEE ih Tryz.func100 (by kernel_rfl) (by decide) c_tree_mapper_variable rc_tree_mapper_variable.enc _ (fun x => e_tree_mapper_variable (FF h k) k x)) <|
  .cons (specA_of hEE ih Tryz.func101 (by kernel_rfl) (by decide) c_tree_each_Routine rc_tree_each_Routine.enc _ (fun x => e_tree_each_Routine (FF h k) k x)) <|
  .cons (specA_of hEE ih Tryz.func102 (by kernel_rfl) (by decide) c_tree_mapper_routine rc_tree_mapper_routine.enc _ (fun x => e_tree_mapper_routine (FF h k) k x)) <|
  .cons (specA_of hEE ih Tryz.func103 (by kernel_rfl) (by decide) c_tree_each_Stmt rc_tree_each_Stmt.enc _ (fun x => e_tree_each_Stmt (FF h k) k x)) <|
  .cons (specA_of hEE ih Tryz.func104 (by kernel_rfl) (by decide) c_tree_mapper_stmt rc_tree_mapper_stmt.enc _ (fun x => e_tree_mapper_stmt (FF h k) k x)) <|
  .cons (specA_of hEE ih Tryz.func105 (by kernel_rfl) (by decide) c_r07_ExprNames rc_r07_ExprNames.enc _ (fun x => e_r07_ExprNames (FF h k) k x)) <|
  .cons (specA_of hEE ih Tryz.func106 (by kernel_rfl) (by decide) c_tree_few_Expr rc_tree_few_Expr.enc _ (fun x => e_tree_few_Expr (FF h k) k x)) <|
  .cons (specA_of hEE ih Tryz.func107 (by kernel_rfl) (by decide) c_tree_checker_call rc_tree_checker_call.enc _ (fun x => e_tree_checker_call (FF h k) k x)) <|
  .cons (specA_of hEE ih Tryz.func108 (by kernel_rfl) (by decide) c_tree_checker_deepest rc_tree_checker_deepest.enc _ (fun x => e_tree_checker_deepest (FF h k) k x)) <|
  .cons (specA_of hEE ih Tryz.func109 (by kernel_rfl) (by decide) c_tree_marks rc_tree_marks.enc _ (fun x => e_tree_marks (FF h k) k x)) <|
  .cons (specA_of hEE ih Tryz.func110 (by kernel_rfl) (by decide) c_slices_EqualFunc_Field rc_slices_EqualFunc_Field.enc _ (fun x => e_slices_EqualFunc_Field (FF h k) k x)) <|
  .cons (specA_of hEE ih Tryz.func111 (by kernel_rfl) (by decide) c_tree_sameRec_1 rc_tree_sameRec_1.enc _ (fun x => e_tree_sameRec_1 (FF h k) k x)) <|
  .cons (specA_of hEE ih Tryz.func112 (by kernel_rfl) (by decide) c_slices_Equal_Param rc_slices_Equal_Param.enc _ (fun x => e_slices_Equal_Param (FF h k) k x)) <|
  .cons (specA_of hEE ih Tryz.func113 (by kernel_rfl) (by decide) c_words_letter rc_words_letter.enc _ (fun x => e_words_letter (FF h k) k x)) <|
  .cons (specA_of hEE ih Tryz.func122 (by kernel_rfl) (by decide) c_slices_IndexFunc_Field rc_slices_IndexFunc_Field.enc _ (fun x => e_slices_IndexFunc_Field (FF h k) k x)) <|
  .cons (specA_of hEE ih Tryz.func123 (by kernel_rfl) (by decide) c_slices_IndexFunc_Var rc_slices_IndexFunc_Var.enc _ (fun x => e_slices_IndexFunc_Var (FF h k) k x)) <|
  .cons (specA_of hEE ih Tryz.func124 (by kernel_rfl) (by decide) c_slices_IndexFunc_Routine rc_slices_IndexFunc_Routine.enc _ (fun x => e_slices_IndexFunc_Routine (FF h k) k x)) <|
  .cons (specA_of hEE ih Tryz.func126 (by kernel_rfl) (by decide) c_tree_few_Param rc_tree_few_Param.enc _ (fun x => e_tree_few_Param (FF h k) k x)) <|
  .cons (specA_of hEE ih Tryz.func127 (by kernel_rfl) (by decide) c_slices_IndexFunc_Stmt rc_slices_IndexFunc_Stmt.enc _ (fun x => e_slices_IndexFunc_Stmt (FF h k) k x)) <|
  .cons (specA_of hEE ih Tryz.func128 (by kernel_rfl) (by decide) c_tree_shapeOf rc_tree_shapeOf.enc _ (fun x => e_tree_shapeOf (FF h k) k x)) <|
  .cons (specA_of hEE ih Tryz.func129 (by kernel_rfl) (by decide) c_tree_checker_place rc_tree_checker_place.enc _ (fun x => e_tree_checker_place (FF h k) k x)) <|
  .cons (specA_of hEE ih Tryz.func130 (by kernel_rfl) (by decide) c_tree_none rc_tree_none.enc _ (fun x => e_tree_none (FF h k) k x)) <|
  .cons (specA_of hEE ih Tryz.func131 (by kernel_rfl) (by decide) c_r04_Letter rc_r04_Letter.enc _ (fun x => e_r04_Letter (FF h k) k x)) <|
  .cons (specA_of hEE ih Tryz.func132 (by kernel_rfl) (by decide) c_r04_All rc_r04_All.enc _ (fun x => e_r04_All (FF h k) k x)) <|
  .cons (specA_of hEE ih Tryz.func133 (by kernel_rfl) (by decide) c_r02_right rc_r02_right.enc _ (fun x => e_r02_right (FF h k) k x)) <|
  .cons (specA_of hEE ih Tryz.func134 (by kernel_rfl) (by decide) c_r07_place rc_r07_place.enc _ (fun x => e_r07_place (FF h k) k x)) <|
  .cons (specA_of hEE ih Tryz.func135 (by kernel_rfl) (by decide) c_r07_none rc_r07_none.enc _ (fun x => e_r07_none (FF h k) k x)) <|
  .cons (specA_of hEE ih Tryz.func138 (by kernel_rfl) (by decide) c_tree_mapper_marks rc_tree_mapper_marks.enc _ (fun x => e_tree_mapper_marks (FF h k) k x)) <|
  .cons (specA_of hEE ih Tryz.func139 (by kernel_rfl) (by decide) c_tree_each_Field rc_tree_each_Field.enc _ (fun x => e_tree_each_Field (FF h k) k x)) <|
  .cons (specA_of hEE ih Tryz.func140 (by kernel_rfl) (by decide) c_tree_mapper_rec_1 rc_tree_mapper_rec_1.enc _ (fun x => e_tree_mapper_rec_1 (FF h k) k x)) <|
  .cons (specA_of hEE ih Tryz.func141 (by kernel_rfl) (by decide) c_tree_mapper_typ rc_tree_mapper_typ.enc _ (fun x => e_tree_mapper_typ (FF h k) k x)) <|
  .cons (specA_of hEE ih Tryz.func142 (by kernel_rfl) (by decide) c_tree_each_Param rc_tree_each_Param.enc _ (fun x => e_tree_each_Param (FF h k) k x)) <|
  .cons (specA_of hEE ih Tryz.func143 (by kernel_rfl) (by decide) c_tree_mapper_routine_1 rc_tree_mapper_routine_1.enc _ (fun x => e_tree_mapper_routine_1 (FF h k) k x)) <|
  .cons (specA_of hEE ih Tryz.func144 (by kernel_rfl) (by decide) c_tree_mapper_expr rc_tree_mapper_expr.enc _ (fun x => e_tree_mapper_expr (FF h k) k x)) <|
  .cons (specA_of hEE ih Tryz.func145 (by kernel_rfl) (by decide) c_tree_each_Expr rc_tree_each_Expr.enc _ (fun x => e_tree_each_Expr (FF h k) k x)) <|
  .cons (hh.o_by) <|
  .nil
theorem specs {h : Fam} (hh : HandOK h) : ∀ k f, SpecOK Tryz.prog EE (sp (FF h k)) f
  | 0 => look_ok (specs0 hh)
  | k + 1 => look_ok (specsS hh k (specs hh k))
end Go.Ev
end
section
open Go
namespace Go.Ev
theorem wrap_ok {n : Int} (h0 : -9223372036854775808 ≤ n) (h1 : n ≤ 9223372036854775807) : IntKind.i64.wrap n = n := by rw [IntKind.wrap_i64]; omega
theorem wrap_succ {i n : Nat} (h : i < n) (hn : n ≤ maxLen) : IntKind.i64.wrap ((i : Int) + 1) = ((i + 1 : Nat) : Int) := by
  simp only [maxLen] at hn
  rw [wrap_ok (by omega) (by omega)]
  rfl
theorem ba_beq (a b : ByteArray) : (a.toList == b.toList) = decide (a = b) := by
  rw [ByteArray.toList_eq, ByteArray.toList_eq]
  by_cases h : a = b
  · subst h; simp
  · have : a.data.toList ≠ b.data.toList := fun he => h (by cases a; cases b; simp at he; simp [he])
    have h2 : (a.data.toList == b.data.toList) = false := by simpa using this
    rw [h2, decide_eq_false h]
theorem up_ind {C : Nat → Nat → Prop} (n : Nat) (h0 : ∀ j, C (j + 1) n) (hs : ∀ j i, i < n → C j (i + 1) → C (j + 1) i) : ∀ j i, i ≤ n → n - i < j → C j i := by
  intro j
  induction j with
  | zero => intro i _ h; omega
  | succ j ih =>
    intro i hi hj
    rcases Nat.lt_or_ge i n with h | h
    · exact hs j i h (ih (i + 1) (by omega) (by omega))
    · have : i = n := by omega
      subst this
      exact h0 j
def eqG {α : Type} (d : α) (f : α → α → Option Bool) : Nat → List α → List α → Int → Int → Option Bool
  | 0, _, _, _, _ => none
  | j + 1, v0, v1, v2, v3 => (if decide (v3 < v2) = true then (if 0 ≤ v3 then (if v3 < (v1.length : Int) then (if 0 ≤ v3 then (if v3 < (v0.length : Int) then ((f (v1.getD v3.toNat d) (v0.getD v3.toNat d)).bind fun t9 => (if (!t9) = true then some false else eqG d f j v0 v1 v2 (IntKind.i64.wrap (v3 + 1)))) else none) else none) else none) else none) else some true)
end Go.Ev
end
section
namespace Go.Ev
open Go.RowKit
variable {I : Nat → Type}
inductive KD where
  | bool | str | int (k : IntKind) | sl (e : Nat) | no
  deriving DecidableEq
def kd : DV I → KD
  | .lit (.bool _) => .bool
  | .lit (.string _) => .str
  | .lit (.int k _) => .int k
  | .sl e _ => .sl e
  | _ => .no
theorem kd_bool {d : DV I} (h : kd d = .bool) : ∃ b, d = .lit (.bool b) := by
  unfold kd at h
  split at h <;> first | exact ⟨_, rfl⟩ | cases h
theorem kd_str {d : DV I} (h : kd d = .str) : ∃ b, d = .lit (.string b) := by
  unfold kd at h
  split at h <;> first | exact ⟨_, rfl⟩ | cases h
theorem kd_int {d : DV I} {k : IntKind} (h : kd d = .int k) : ∃ b, d = .lit (.int k b) := by
  unfold kd at h
  split at h <;> first | (injection h with h; subst h; exact ⟨_, rfl⟩) | cases h
theorem kd_sl {d : DV I} {e : Nat} (h : kd d = .sl e) : ∃ b, d = .sl e b := by
  unfold kd at h
  split at h <;> first | (injection h with h; subst h; exact ⟨_, rfl⟩) | cases h
def flatK (ty : Nat → Option TI) : Nat → Nat → Option (List KD)
  | 0, _ => none
  | n + 1, t => match ty t with
    | none => none
    | some ti => match ti.td with
      | .bool => some [.bool]
      | .string => some [.str]
      | .int k => some [.int k]
      | .slice e => some [.sl e]
      | .struct fs => (fs.mapM fun p => flatK ty n p.2).map List.flatten
      | _ => none
def contig (ty : Nat → Option TI) : Nat → List (Nat × Nat) → Option Nat
  | o, [] => some o
  | o, (off, t) :: r => match Nat.beq off o, ty t with
    | true, some ti => contig ty (o + ti.size) r
    | _, _ => none
def contigOk (ty : Nat → Option TI) (p : Nat × TI) : Bool := match p.2.td with
  | .struct fs => match contig ty 0 fs with
    | some o => Nat.beq o p.2.size
    | none => false
  | .slice e => match ty e with
    | some ei => Nat.blt 0 ei.size && Nat.beq p.2.size 1
    | none => false
  | .bool | .string | .int _ => Nat.beq p.2.size 1
  | _ => true
def QD (Q : (t : Nat) → I t → Prop) : DV I → Prop
  | .sl t xs => xs.length ≤ maxLen ∧ ∀ x ∈ xs, Q t x
  | .lit (.string s) => s.size ≤ maxLen
  | .lit (.int k n) => (Lit.int k n).wf = true
  | _ => True
def bkD (bk : (t : Nat) → I t → Nat) : DV I → Nat
  | .sl t xs => (xs.map (bk t)).sum + 1
  | .lit (.string s) => s.size + 1
  | _ => 1
section
variable {P : Program} {E : Env I} {H : Type} {enc : TypeId × Value → H} {w : World} {base : Nat} {spare : Nat → Bool} {held : Bool}
def allS (w : World) : Nat → Nat → Prop := fun g _ => g < w.heap.size
inductive DReps (E : Env I) (Sl : Nat → Nat → Prop) (w : World) : List Value → List (DV I) → Prop
  | nil : DReps E Sl w [] []
  | cons {v : Value} {vs : List Value} {x : DV I} {xs : List (DV I)} (h : DRep E Sl w v x) (hs : DReps E Sl w vs xs) : DReps E Sl w (v :: vs) (x :: xs)
theorem DReps.append {Sl : Nat → Nat → Prop} {us vs : List Value} {xs ys : List (DV I)} (h : DReps E Sl w us xs) (k : DReps E Sl w vs ys) : DReps E Sl w (us ++ vs) (xs ++ ys) := by
  induction h with
  | nil => exact k
  | cons h _ ih => exact .cons h ih
theorem DReps.len {Sl : Nat → Nat → Prop} {us : List Value} {xs : List (DV I)} (h : DReps E Sl w us xs) : us.length = xs.length := by
  induction h with
  | nil => rfl
  | cons _ _ ih => simp [ih]
theorem DReps.get {Sl : Nat → Nat → Prop} {us : List Value} {xs : List (DV I)} (h : DReps E Sl w us xs) : ∀ (j : Nat) (y : DV I), xs[j]? = some y → ∃ u, us[j]? = some u ∧ DRep E Sl w u y := by
  induction h with
  | nil => intro j y h; simp at h
  | cons h _ ih =>
    intro j y hj
    cases j with
    | zero => simp at hj; subst hj; exact ⟨_, by simp, h⟩
    | succ j => simp at hj; simpa using ih j y hj
theorem DReps.preps {Sl : Nat → Nat → Prop} {X0 : Nat → Prop} {B0 : Nat} {us : List Value} {xs : List (DV I)} (h : DReps E Sl w us xs) : PReps E Sl w X0 B0 us (xs.map .d) [] [] := by
  induction h with
  | nil => exact .nil
  | cons h _ ih => exact .cons _ _ _ _ [] [] [] [] (.d _ _ h) ih
structure Meas (E : Env I) (Q : (t : Nat) → I t → Prop) (bk : (t : Nat) → I t → Nat) (ub : DataW H → Nat) (rows : List Nat) : Prop where
  contig : ∀ t ti, E.ty t = some ti → contigOk E.ty (t, ti) = true
  rowsIn : ∀ t ti e, E.ty t = some ti → ti.td = .slice e → flatK E.ty 9 t ≠ none → e ∈ rows
  rowsK : ∀ e ∈ rows, ∃ l, flatK E.ty 9 e = some l
  full : ∀ e ∈ rows, ∀ ds, flatK E.ty 9 e = some (ds.map kd) → ∃ x : I e, E.row e x = ds
  q : ∀ e ∈ rows, ∀ (x : I e), (∀ d ∈ E.row e x, QD Q d) → Q e x
  b : ∀ e ∈ rows, ∀ (x : I e) ti, E.ty e = some ti → bk e x ≤ ((E.row e x).map (bkD bk)).sum + (match ti.td with | .struct _ => 1 | _ => 0)
  nil : 1 ≤ ub .nil
  lit : ∀ l, 1 ≤ ub (.lit l)
  str : ∀ l, l.length + 1 ≤ ub (.lit (.string l))
  sl : ∀ a b, (a.map ub).sum + 1 ≤ ub (.slice a b)
  agg : ∀ a, (a.map ub).sum + 1 ≤ ub (.agg a)
theorem mapM_mono {α β : Type} {f g : α → Option β} : ∀ {l : List α} {r : List β}, l.mapM f = some r → (∀ a ∈ l, ∀ b, f a = some b → g a = some b) → l.mapM g = some r
  | [], r, h, _ => by simpa using h
  | a :: l, r, h, hg => by
    simp only [List.mapM_cons, Option.bind_eq_bind, Option.pure_def] at h ⊢
    obtain ⟨b, h1, h⟩ := Option.bind_eq_some_iff.1 h
    obtain ⟨bs, h2, h3⟩ := Option.bind_eq_some_iff.1 h
    rw [hg a List.mem_cons_self b h1, mapM_mono h2 (fun x hx => hg x (List.mem_cons_of_mem _ hx))]
    exact h3
theorem flatK_mono {ty : Nat → Option TI} : ∀ (n t : Nat) (l : List KD), flatK ty n t = some l → flatK ty (n + 1) t = some l
  | 0, t, l, h => by cases h
  | n + 1, t, l, h => by
    unfold flatK at h ⊢
    cases ht : ty t with
    | none => rw [ht] at h; cases h
    | some ti =>
      rw [ht] at h
      simp only at h ⊢
      cases htd : ti.td with
      | struct fs =>
        rw [htd] at h
        simp only at h ⊢
        obtain ⟨ls, h1, h2⟩ := Option.map_eq_some_iff.1 h
        rw [mapM_mono h1 (fun p _ b hb => flatK_mono n p.2 b hb)]
        simp [h2]
      | _ => rw [htd] at h; exact h
theorem cellsOf_size (hE : EnvOK P E) {t : Nat} {ti : TI} (h : E.ty t = some ti) : P.cellsOf t = ti.size := by
  have := hE.size h
  unfold Program.cellsOf
  cases hq : P.info? t with
  | none => rw [hq] at this; cases this
  | some i => rw [hq] at this; simpa using this
def Rdd (E : Env I) (Q : (t : Nat) → I t → Prop) (bk : (t : Nat) → I t → Nat) (w : World) (cs : List Value) (n : Nat) (l : List KD) : Prop :=
  ∃ ds, DReps E (allS w) w cs ds ∧ ds.map kd = l ∧ (∀ d ∈ ds, QD Q d) ∧ (ds.map (bkD bk)).sum ≤ n
theorem rd_fields (hE : EnvOK P E) {Q : (t : Nat) → I t → Prop} {bk : (t : Nat) → I t → Nat} {ub : DataW H → Nat}
    (f : Nat → List Value → Option (DataW H × List MemPlace)) (hf : ∀ t ti cs y l, E.ty t = some ti → flatK E.ty 9 t = some l → f t cs = some y → Rdd E Q bk w cs (ub y.1) l) :
    ∀ (fs : List (Nat × Nat)) (o : Nat) (cs : List Value) (ys : List (DataW H × List MemPlace)) (ls : List (List KD)) (e : Nat), contig E.ty o fs = some e → cs.length = e →
      fs.mapM (fun p => f p.2 ((cs.drop p.1).take (P.cellsOf p.2))) = some ys → fs.mapM (fun p => flatK E.ty 9 p.2) = some ls → Rdd E Q bk w (cs.drop o) ((ys.map fun y => ub y.1).sum) ls.flatten
  | [], o, cs, ys, ls, e, hc, hl, h1, h2 => by
    simp only [contig, Option.some.injEq] at hc
    simp only [List.mapM_nil, Option.pure_def, Option.some.injEq] at h1 h2
    subst h1; subst h2
    refine ⟨[], ?_, rfl, fun d hd => (by cases hd), Nat.le_refl _⟩
    rw [List.drop_eq_nil_of_le (by omega)]
    exact .nil
  | (off, t) :: fs, o, cs, ys, ls, e, hc, hl, h1, h2 => by
    simp only [contig] at hc
    split at hc
    · rename_i ti hoff ht
      have hoff := Nat.eq_of_beq_eq_true hoff
      subst hoff
      simp only [List.mapM_cons, Option.bind_eq_bind, Option.pure_def] at h1 h2
      obtain ⟨y, h11, h1⟩ := Option.bind_eq_some_iff.1 h1
      obtain ⟨ys', h12, h13⟩ := Option.bind_eq_some_iff.1 h1
      obtain ⟨l, h21, h2⟩ := Option.bind_eq_some_iff.1 h2
      obtain ⟨ls', h22, h23⟩ := Option.bind_eq_some_iff.1 h2
      injection h13 with h13
      injection h23 with h23
      subst h13; subst h23
      obtain ⟨ds, a1, a2, a3, a4⟩ := hf t ti _ y l ht h21 h11
      obtain ⟨es, b1, b2, b3, b4⟩ := rd_fields hE f hf fs (off + ti.size) cs ys' ls' e hc hl h12 h22
      rw [cellsOf_size hE ht] at a1
      refine ⟨ds ++ es, ?_, by simp [a2, b2], fun d hd => ?_, ?_⟩
      · have := a1.append b1
        rwa [← List.drop_drop, List.take_append_drop] at this
      · rcases List.mem_append.1 hd with hd | hd
        · exact a3 d hd
        · exact b3 d hd
      · simp only [List.map_append, List.sum_append, List.map_cons, List.sum_cons]
        omega
    · cases hc
theorem trod_bool {t : TypeId} {fuel : Nat} {cs : List Value} {x : DataW H × List MemPlace} (ht : P.underlying t = some .bool) (h : DataW.trod enc P w base spare held fuel t cs = some x) : ∃ b, cs = [.bool b] ∧ x = (.lit (.bool b), []) := by
  cases fuel with
  | zero => simp [DataW.trod] at h
  | succ n =>
    unfold DataW.trod at h
    rw [ht] at h
    split at h <;> simp_all
theorem trod_struct {t : TypeId} {fuel : Nat} {fs : Array Field} {cs : List Value} {x : DataW H × List MemPlace} (ht : P.underlying t = some (.struct fs)) (h : DataW.trod enc P w base spare held fuel t cs = some x) :
    ∃ n xs, fuel = n + 1 ∧ cs.length = P.cellsOf t ∧ (fs.toList.mapM fun f => DataW.trod enc P w base spare held n f.type ((cs.drop f.offset).take (P.cellsOf f.type))) = some xs ∧ x.1 = .agg (xs.map (·.1)) := by
  cases fuel with
  | zero => simp [DataW.trod] at h
  | succ n =>
    unfold DataW.trod at h
    rw [ht] at h
    simp only at h
    split at h
    · rename_i hl
      obtain ⟨xs, h1, h2⟩ := Option.map_eq_some_iff.1 h
      exact ⟨n, xs, rfl, hl, h1, by rw [← h2]⟩
    · cases h
theorem add_spot {a : Addr} {u : Value} (h : w.cell? a = some u) : a = ⟨a.block, a.off, none⟩ := by
  obtain ⟨b, o, sp⟩ := a
  cases sp with
  | none => rfl
  | some q =>
    exfalso
    unfold World.cell? at h
    split at h
    · simp at h
    · cases h
theorem rd (hE : EnvOK P E) {Q : (t : Nat) → I t → Prop} {bk : (t : Nat) → I t → Nat} {ub : DataW H → Nat} {rows : List Nat} (m : Meas E Q bk ub rows) :
    ∀ (n t : Nat) (ti : TI) (cs : List Value) (y : DataW H × List MemPlace) (l : List KD), E.ty t = some ti → flatK E.ty 9 t = some l → DataW.trod enc P w base spare held n t cs = some y →
      Rdd E Q bk w cs (ub y.1 - (match ti.td with | .struct _ => 1 | _ => 0)) l ∧ (match ti.td with | .struct _ => 1 | _ => 0) ≤ ub y.1 ∧ cs.length = ti.size
  | 0, t, ti, cs, y, l, ht, hl, h => by simp [DataW.trod] at h
  | n + 1, t, ti, cs, y, l, ht, hl, h => by
    obtain ⟨d, hd, hdt⟩ := hE.desc ht
    have hcont := m.contig t ti ht
    have hl0 := hl
    unfold flatK at hl
    rw [ht] at hl
    simp only at hl
    have one : ∀ {v : Value} {x : DV I}, cs = [v] → DRep E (allS w) w v x → QD Q x → bkD bk x ≤ ub y.1 → l = [kd x] → ti.size = 1 → Rdd E Q bk w cs (ub y.1 - 0) l ∧ 0 ≤ ub y.1 ∧ cs.length = ti.size := by
      intro v x hcs hr hq hb hk hs
      refine ⟨⟨[x], ?_, ?_, ?_, ?_⟩, Nat.zero_le _, ?_⟩
      · rw [hcs]; exact .cons hr .nil
      · rw [hk]; rfl
      · intro d hd; rw [List.mem_singleton] at hd; rw [hd]; exact hq
      · simpa using hb
      · rw [hcs, hs]; rfl
    cases htd : ti.td with
    | bool =>
      rw [htd] at hl hdt
      simp only [Option.some.injEq] at hl
      have hsz : ti.size = 1 := by simp only [contigOk, htd] at hcont; exact Nat.eq_of_beq_eq_true hcont
      have hd' : P.underlying t = some .bool := by rw [hd]; cases d <;> simp [tdOf] at hdt; rfl
      obtain ⟨b, rfl, rfl⟩ := trod_bool hd' h
      exact one (x := .lit (.bool b)) rfl (.lit _ rfl) trivial (m.lit _) hl.symm hsz
    | string =>
      rw [htd] at hl hdt
      simp only [Option.some.injEq] at hl
      have hsz : ti.size = 1 := by simp only [contigOk, htd] at hcont; exact Nat.eq_of_beq_eq_true hcont
      have hd' : P.underlying t = some .string := by rw [hd]; cases d <;> simp [tdOf] at hdt; rfl
      obtain ⟨b, rfl, rfl, hb⟩ := DataW.trod_string hd' h
      exact one (x := .lit (.string b)) rfl (.lit _ rfl) hb (by have := m.str b.data.toList; simpa [bkD] using this) hl.symm hsz
    | int k =>
      rw [htd] at hl hdt
      simp only [Option.some.injEq] at hl
      have hsz : ti.size = 1 := by simp only [contigOk, htd] at hcont; exact Nat.eq_of_beq_eq_true hcont
      have hd' : P.underlying t = some (.int k) := by
        rw [hd]
        cases d <;> simp [tdOf] at hdt
        rw [hdt]
      obtain ⟨b, rfl, rfl, hb⟩ := DataW.trod_int hd' h
      exact one (x := .lit (.int k b)) rfl (.lit _ rfl) hb (m.lit _) hl.symm hsz
    | other => rw [htd] at hl; cases hl
    | array a b => rw [htd] at hl; cases hl
    | struct fs =>
      rw [htd] at hl hdt
      simp only at hl
      obtain ⟨ls, h1, h2⟩ := Option.map_eq_some_iff.1 hl
      have : ∃ fa : Array Field, d = .struct fa ∧ fa.toList.map (fun f => (f.offset, f.type)) = fs := by
        cases d <;> simp [tdOf] at hdt
        exact ⟨_, rfl, hdt⟩
      obtain ⟨fa, rfl, hfs⟩ := this
      obtain ⟨n', xs, hn, hcl, hm, hy⟩ := trod_struct hd h
      have hn : n = n' := by omega
      subst hn
      rw [cellsOf_size hE ht] at hcl
      simp only [contigOk, htd] at hcont
      split at hcont
      · rename_i e he
        have he' := Nat.eq_of_beq_eq_true hcont
        have hmm : fs.mapM (fun p => (fun t cs => DataW.trod enc P w base spare held n t cs) p.2 ((cs.drop p.1).take (P.cellsOf p.2))) = some xs := by
          rw [← hfs, List.mapM_map]
          exact hm
        have h9 : fs.mapM (fun p => flatK E.ty 9 p.2) = some ls := mapM_mono h1 fun p _ b hb => flatK_mono 8 p.2 b hb
        have key := rd_fields (Q := Q) (bk := bk) (ub := ub) (w := w) hE (fun t cs => DataW.trod enc P w base spare held n t cs) (fun t ti cs y l ht hl h => by
          obtain ⟨⟨ds, a1, a2, a3, a4⟩, _, _⟩ := rd hE m n t ti cs y l ht hl h
          exact ⟨ds, a1, a2, a3, by omega⟩) fs 0 cs xs ls e he (by rw [hcl, he']) hmm h9
        obtain ⟨ds, b1, b2, b3, b4⟩ := key
        have hub := m.agg (xs.map (·.1))
        rw [List.map_map] at hub
        rw [hy]
        refine ⟨⟨ds, by simpa using b1, by rw [b2, h2], b3, ?_⟩, by simp only; omega, hcl⟩
        have : (xs.map (ub ∘ fun x => x.1)) = xs.map fun y => ub y.1 := rfl
        rw [this] at hub
        simp only
        omega
      · cases hcont
    | slice e =>
      rw [htd] at hl hdt
      simp only [Option.some.injEq] at hl
      have hd' : P.underlying t = some (.slice e) := by
        rw [hd]
        cases d <;> simp [tdOf] at hdt
        rw [hdt]
      have her : e ∈ rows := m.rowsIn t ti e ht htd (by rw [hl0]; simp)
      obtain ⟨le, hle⟩ := m.rowsK e her
      simp only [contigOk, htd] at hcont
      split at hcont
      · rename_i ei hei
        rw [Bool.and_eq_true] at hcont
        have hpos : 0 < ei.size := by have := hcont.1; simp [Nat.blt] at this; omega
        have hcof := cellsOf_size hE hei
        have hsz : ti.size = 1 := Nat.eq_of_beq_eq_true hcont.2
        rcases DataW.trod_slice hd' h with ⟨rfl, rfl⟩ | ⟨a, len, cap, elems, rest, n', hn, rfl, rfl, hb, hlc, hcm, hel, hget, _, _⟩
        · exact one (x := .sl e []) rfl (.sl e [] none 0 0 0 0 (fun _ => undef) rfl (Nat.le_refl _) (by omega) (by omega) (by simp) (by simp)) ⟨Nat.zero_le _, by simp⟩ (by simpa [bkD] using m.nil) hl.symm hsz
        · have hn : n = n' := by omega
          subst hn
          have each : ∀ i, i < len → ∃ (x : I e) (cs' : List Value), DReps E (allS w) w cs' (E.row e x) ∧ Q e x ∧ cs'.length = ei.size ∧ (∀ j u, cs'[j]? = some u → w.cell? (a.add (i * ei.size + j)) = some u) ∧ ∃ y', elems[i]? = some y' ∧ bk e x ≤ ub y'.1 := by
            intro i hi
            have h1 := hget i hi
            rw [List.getElem?_eq_getElem (by omega)] at h1
            obtain ⟨cs', hc, ht'⟩ := Option.bind_eq_some_iff.1 h1
            obtain ⟨⟨ds, a1, a2, a3, a4⟩, a5, a6⟩ := rd hE m n e ei cs' _ le hei hle ht'
            obtain ⟨x, hx⟩ := m.full e her ds (by rw [hle, a2])
            obtain ⟨_, hcl, hcell⟩ := World.cells?_some hc
            refine ⟨x, cs', by rw [hx]; exact a1, m.q e her x (by rw [hx]; exact a3), a6, fun j u hu => ?_, _, List.getElem?_eq_getElem (by omega), ?_⟩
            · have hj : j < P.cellsOf e := by rw [← hcl]; exact (List.getElem?_eq_some_iff.1 hu).1
              rw [← hu, ← hcell j hj, Addr.add_add, hcof]
            · have := m.b e her x ei hei
              rw [hx] at this
              omega
          have pick : ∀ q, q ≤ len → ∃ xs : List (I e), xs.length = q ∧ (∀ x ∈ xs, Q e x) ∧ (xs.map (bk e)).sum ≤ ((elems.take q).map fun y => ub y.1).sum ∧
              ∀ i x, xs[i]? = some x → ∃ cs', DReps E (allS w) w cs' (E.row e x) ∧ cs'.length = ei.size ∧ ∀ j u, cs'[j]? = some u → w.cell? (a.add (i * ei.size + j)) = some u := by
            intro q
            induction q with
            | zero => intro _; exact ⟨[], rfl, by simp, by simp, fun j p hj => by simp at hj⟩
            | succ q ih =>
              intro hq
              obtain ⟨xs, hxl, hxo, hxs, hx⟩ := ih (by omega)
              obtain ⟨x, cs', k1, k2, k3, k4, y', k5, k6⟩ := each q (by omega)
              refine ⟨xs ++ [x], by simp [hxl], ?_, ?_, fun j p hj => ?_⟩
              · intro z hz
                rcases List.mem_append.1 hz with hz | hz
                · exact hxo z hz
                · rw [List.mem_singleton.1 hz]; exact k2
              · rw [List.take_add_one, k5]
                simp only [Option.toList_some, List.map_append, List.sum_append, List.map_cons, List.map_nil, List.sum_cons, List.sum_nil]
                omega
              · rcases Nat.lt_or_ge j xs.length with hlt | hge
                · rw [List.getElem?_append_left hlt] at hj
                  exact hx j p hj
                · have hj' : j = xs.length := by
                    have := (List.getElem?_eq_some_iff.1 hj).1
                    rw [List.length_append, List.length_singleton] at this
                    omega
                  subst hj'
                  have : x = p := by simpa using hj
                  subst this
                  rw [hxl]
                  exact ⟨cs', k1, k3, k4⟩
          obtain ⟨xs, hxl, hxo, hxs, hx⟩ := pick len (Nat.le_refl _)
          have htk : elems.take len = elems := List.take_of_length_le (by omega)
          rw [htk] at hxs
          have hsp : 0 < len → a = ⟨a.block, a.off, none⟩ := by
            intro h0
            obtain ⟨x, cs', _, _, k3, k4, _⟩ := each 0 h0
            have : 0 < cs'.length := by rw [k3]; exact hpos
            have h0 := k4 0 cs'[0] (List.getElem?_eq_getElem this)
            rw [Nat.zero_mul, Nat.zero_add] at h0
            exact add_spot (by simpa [Addr.add] using h0)
          have cellAt : ∀ i x j y, xs[i]? = some x → (E.row e x)[j]? = some y → ∃ u, w.cell? ⟨a.block, a.off + (i * (E.row e x).length + j), none⟩ = some u ∧ DRep E (allS w) w u y := by
            intro i x j y hi hj
            obtain ⟨cs', k1, k2, k3⟩ := hx i x hi
            obtain ⟨u, hu, hr⟩ := k1.get j y hj
            have h0 : 0 < len := by have := (List.getElem?_eq_some_iff.1 hi).1; omega
            have hc := k3 j u hu
            rw [hsp h0, add_at] at hc
            refine ⟨u, ?_, hr⟩
            rw [← k1.len, k2]
            exact hc
          refine one (x := .sl e xs) rfl (.sl e xs (some a) len cap a.block a.off (fun q => (w.cell? ⟨a.block, a.off + q, none⟩).getD undef) hxl hlc (by simp only [maxLen] at hcm; omega) (fun h0 => by rw [← hsp h0]) (fun i x j y hi hj => ?_) (fun i x j y hi hj => ?_)) ⟨by omega, hxo⟩ ?_ hl.symm hsz
          · obtain ⟨u, hu, _⟩ := cellAt i x j y hi hj
            exact ⟨by rw [hu]; rfl, cell_block hu⟩
          · obtain ⟨u, hu, hr⟩ := cellAt i x j y hi hj
            simp only [hu, Option.getD_some]
            exact hr
          · have := m.sl (elems.map (·.1)) (rest.map (·.1))
            rw [List.map_map] at this
            simp only [bkD]
            have h2 : (elems.map (ub ∘ fun x => x.1)) = elems.map fun y => ub y.1 := rfl
            rw [h2] at this
            omega
      · cases hcont
end
end Go.Ev
end
section
open Go Go.Proofs
namespace Go.Ev
set_option maxRecDepth 100000
set_option maxHeartbeats 4000000
set_option linter.unusedVariables false
def bk_v9 (x : ByteArray) : Nat := (x.size + 1) + 0
def ft_v9 (x : ByteArray) : Prop := x.size ≤ maxLen
def bks_v9 : List ByteArray → Nat
  | [] => 0
  | x :: r => bk_v9 x + bks_v9 r
def fts_v9 : List ByteArray → Prop
  | [] => True
  | x :: r => ft_v9 x ∧ fts_v9 r
theorem bks_v9_eq : ∀ l : List ByteArray, bks_v9 l = (l.map bk_v9).sum
  | [] => rfl
  | x :: r => by simp [bks_v9, bks_v9_eq r]
theorem fts_v9_iff : ∀ l : List ByteArray, fts_v9 l ↔ ∀ x ∈ l, ft_v9 x
  | [] => by simp [fts_v9]
  | x :: r => by simp [fts_v9, fts_v9_iff r]
def bk_v22 (x : (List ByteArray)) : Nat := (bks_v9 x + 1) + 0
def ft_v22 (x : (List ByteArray)) : Prop := (x.length ≤ maxLen ∧ fts_v9 x)
def bk_TPair : TPair → Nat
  | ⟨x0, x1⟩ => (x0.size + 1) + ((x1.size + 1) + 0 ) + 1
def ft_TPair : TPair → Prop
  | ⟨x0, x1⟩ => x0.size ≤ maxLen ∧ x1.size ≤ maxLen
mutual
def bk_TExpr : TExpr → Nat
  | ⟨x0, x1, x2, x3, x4⟩ => 1 + (1 + ((x2.size + 1) + ((x3.size + 1) + ((bks_TExpr x4 + 1) + 0 )))) + 1
def bks_TExpr : List TExpr → Nat
  | [] => 0
  | x :: r => bk_TExpr x + bks_TExpr r
end
mutual
def ft_TExpr : TExpr → Prop
  | ⟨x0, x1, x2, x3, x4⟩ => (Lit.int .i64 x0).wf = true ∧ (Lit.int .i64 x1).wf = true ∧ x2.size ≤ maxLen ∧ x3.size ≤ maxLen ∧ (x4.length ≤ maxLen ∧ fts_TExpr x4)
def fts_TExpr : List TExpr → Prop
  | [] => True
  | x :: r => ft_TExpr x ∧ fts_TExpr r
end
theorem bks_TExpr_eq : ∀ l : List TExpr, bks_TExpr l = (l.map bk_TExpr).sum
  | [] => rfl
  | x :: r => by simp [bks_TExpr, bks_TExpr_eq r]
theorem fts_TExpr_iff : ∀ l : List TExpr, fts_TExpr l ↔ ∀ x ∈ l, ft_TExpr x
  | [] => by simp [fts_TExpr]
  | x :: r => by simp [fts_TExpr, fts_TExpr_iff r]
def bk_TField : TField → Nat
  | ⟨x0, x1, x2, x3⟩ => (bks_v9 x0 + 1) + ((bks_v9 x1 + 1) + ((x2.size + 1) + (1 + 0 ))) + 1
def bks_TField : List TField → Nat
  | [] => 0
  | x :: r => bk_TField x + bks_TField r
def ft_TField : TField → Prop
  | ⟨x0, x1, x2, x3⟩ => (x0.length ≤ maxLen ∧ fts_v9 x0) ∧ (x1.length ≤ maxLen ∧ fts_v9 x1) ∧ x2.size ≤ maxLen ∧ (Lit.int .i64 x3).wf = true
def fts_TField : List TField → Prop
  | [] => True
  | x :: r => ft_TField x ∧ fts_TField r
theorem bks_TField_eq : ∀ l : List TField, bks_TField l = (l.map bk_TField).sum
  | [] => rfl
  | x :: r => by simp [bks_TField, bks_TField_eq r]
theorem fts_TField_iff : ∀ l : List TField, fts_TField l ↔ ∀ x ∈ l, ft_TField x
  | [] => by simp [fts_TField]
  | x :: r => by simp [fts_TField, fts_TField_iff r]
def bk_TVar : TVar → Nat
  | ⟨x0, x1, x2, x3, x4, x5⟩ => (bks_v9 x0 + 1) + ((bks_v9 x1 + 1) + ((x2.size + 1) + (1 + (1 + ((x5.size + 1) + 0 ))))) + 1
def bks_TVar : List TVar → Nat
  | [] => 0
  | x :: r => bk_TVar x + bks_TVar r
def ft_TVar : TVar → Prop
  | ⟨x0, x1, x2, x3, x4, x5⟩ => (x0.length ≤ maxLen ∧ fts_v9 x0) ∧ (x1.length ≤ maxLen ∧ fts_v9 x1) ∧ x2.size ≤ maxLen ∧ (Lit.int .i64 x3).wf = true ∧ (Lit.int .i64 x4).wf = true ∧ x5.size ≤ maxLen
def fts_TVar : List TVar → Prop
  | [] => True
  | x :: r => ft_TVar x ∧ fts_TVar r
theorem bks_TVar_eq : ∀ l : List TVar, bks_TVar l = (l.map bk_TVar).sum
  | [] => rfl
  | x :: r => by simp [bks_TVar, bks_TVar_eq r]
theorem fts_TVar_iff : ∀ l : List TVar, fts_TVar l ↔ ∀ x ∈ l, ft_TVar x
  | [] => by simp [fts_TVar]
  | x :: r => by simp [fts_TVar, fts_TVar_iff r]
mutual
def bk_TStmt : TStmt → Nat
  | ⟨x0, x1, x2, x3, x4, x5, x6, x7, x8, x9, x10, x11, x12, x13, x14, x15⟩ => (bks_v9 x0 + 1) + ((bks_v9 x1 + 1) + (1 + ((x3.size + 1) + (1 + (1 + ((x6.size + 1) + ((x7.size + 1) + ((bks_TExpr x8 + 1) + ((bks_TExpr x9 + 1) + (1 + (1 + ((bks_TStmt x12 + 1) + ((bks_TStmt x13 + 1) + ((bks_v9 x14 + 1) + ((bks_v9 x15 + 1) + 0 ))))))))))))))) + 1
def bks_TStmt : List TStmt → Nat
  | [] => 0
  | x :: r => bk_TStmt x + bks_TStmt r
end
mutual
def ft_TStmt : TStmt → Prop
  | ⟨x0, x1, x2, x3, x4, x5, x6, x7, x8, x9, x10, x11, x12, x13, x14, x15⟩ => (x0.length ≤ maxLen ∧ fts_v9 x0) ∧ (x1.length ≤ maxLen ∧ fts_v9 x1) ∧ (Lit.int .i64 x2).wf = true ∧ x3.size ≤ maxLen ∧ (Lit.int .i64 x4).wf = true ∧ (Lit.int .i64 x5).wf = true ∧ x6.size ≤ maxLen ∧ x7.size ≤ maxLen ∧ (x8.length ≤ maxLen ∧ fts_TExpr x8) ∧ (x9.length ≤ maxLen ∧ fts_TExpr x9) ∧ True ∧ True ∧ (x12.length ≤ maxLen ∧ fts_TStmt x12) ∧ (x13.length ≤ maxLen ∧ fts_TStmt x13) ∧ (x14.length ≤ maxLen ∧ fts_v9 x14) ∧ (x15.length ≤ maxLen ∧ fts_v9 x15)
def fts_TStmt : List TStmt → Prop
  | [] => True
  | x :: r => ft_TStmt x ∧ fts_TStmt r
end
theorem bks_TStmt_eq : ∀ l : List TStmt, bks_TStmt l = (l.map bk_TStmt).sum
  | [] => rfl
  | x :: r => by simp [bks_TStmt, bks_TStmt_eq r]
theorem fts_TStmt_iff : ∀ l : List TStmt, fts_TStmt l ↔ ∀ x ∈ l, ft_TStmt x
  | [] => by simp [fts_TStmt]
  | x :: r => by simp [fts_TStmt, fts_TStmt_iff r]
def bk_TParam : TParam → Nat
  | ⟨x0, x1, x2, x3, x4⟩ => (x0.size + 1) + (1 + (1 + ((x3.size + 1) + (1 + 0 )))) + 1
def bks_TParam : List TParam → Nat
  | [] => 0
  | x :: r => bk_TParam x + bks_TParam r
def ft_TParam : TParam → Prop
  | ⟨x0, x1, x2, x3, x4⟩ => x0.size ≤ maxLen ∧ (Lit.int .i64 x1).wf = true ∧ (Lit.int .i64 x2).wf = true ∧ x3.size ≤ maxLen ∧ (Lit.int .i64 x4).wf = true
def fts_TParam : List TParam → Prop
  | [] => True
  | x :: r => ft_TParam x ∧ fts_TParam r
theorem bks_TParam_eq : ∀ l : List TParam, bks_TParam l = (l.map bk_TParam).sum
  | [] => rfl
  | x :: r => by simp [bks_TParam, bks_TParam_eq r]
theorem fts_TParam_iff : ∀ l : List TParam, fts_TParam l ↔ ∀ x ∈ l, ft_TParam x
  | [] => by simp [fts_TParam]
  | x :: r => by simp [fts_TParam, fts_TParam_iff r]
def bk_TRec : TRec → Nat
  | ⟨x0, x1, x2, x3, x4⟩ => (bks_v9 x0 + 1) + ((bks_v9 x1 + 1) + ((x2.size + 1) + ((bks_TField x3 + 1) + ((bks_v9 x4 + 1) + 0 )))) + 1
def bks_TRec : List TRec → Nat
  | [] => 0
  | x :: r => bk_TRec x + bks_TRec r
def ft_TRec : TRec → Prop
  | ⟨x0, x1, x2, x3, x4⟩ => (x0.length ≤ maxLen ∧ fts_v9 x0) ∧ (x1.length ≤ maxLen ∧ fts_v9 x1) ∧ x2.size ≤ maxLen ∧ (x3.length ≤ maxLen ∧ fts_TField x3) ∧ (x4.length ≤ maxLen ∧ fts_v9 x4)
def fts_TRec : List TRec → Prop
  | [] => True
  | x :: r => ft_TRec x ∧ fts_TRec r
theorem bks_TRec_eq : ∀ l : List TRec, bks_TRec l = (l.map bk_TRec).sum
  | [] => rfl
  | x :: r => by simp [bks_TRec, bks_TRec_eq r]
theorem fts_TRec_iff : ∀ l : List TRec, fts_TRec l ↔ ∀ x ∈ l, ft_TRec x
  | [] => by simp [fts_TRec]
  | x :: r => by simp [fts_TRec, fts_TRec_iff r]
mutual
def bk_TRoutine : TRoutine → Nat
  | ⟨x0, x1, x2, x3, x4, x5, x6, x7, x8⟩ => (bks_v9 x0 + 1) + ((bks_v9 x1 + 1) + ((x2.size + 1) + (1 + ((bks_TParam x4 + 1) + ((bks_TVar x5 + 1) + ((bks_TRoutine x6 + 1) + ((bks_TStmt x7 + 1) + ((bks_v9 x8 + 1) + 0 )))))))) + 1
def bks_TRoutine : List TRoutine → Nat
  | [] => 0
  | x :: r => bk_TRoutine x + bks_TRoutine r
end
mutual
def ft_TRoutine : TRoutine → Prop
  | ⟨x0, x1, x2, x3, x4, x5, x6, x7, x8⟩ => (x0.length ≤ maxLen ∧ fts_v9 x0) ∧ (x1.length ≤ maxLen ∧ fts_v9 x1) ∧ x2.size ≤ maxLen ∧ (Lit.int .i64 x3).wf = true ∧ (x4.length ≤ maxLen ∧ fts_TParam x4) ∧ (x5.length ≤ maxLen ∧ fts_TVar x5) ∧ (x6.length ≤ maxLen ∧ fts_TRoutine x6) ∧ (x7.length ≤ maxLen ∧ fts_TStmt x7) ∧ (x8.length ≤ maxLen ∧ fts_v9 x8)
def fts_TRoutine : List TRoutine → Prop
  | [] => True
  | x :: r => ft_TRoutine x ∧ fts_TRoutine r
end
theorem bks_TRoutine_eq : ∀ l : List TRoutine, bks_TRoutine l = (l.map bk_TRoutine).sum
  | [] => rfl
  | x :: r => by simp [bks_TRoutine, bks_TRoutine_eq r]
theorem fts_TRoutine_iff : ∀ l : List TRoutine, fts_TRoutine l ↔ ∀ x ∈ l, ft_TRoutine x
  | [] => by simp [fts_TRoutine]
  | x :: r => by simp [fts_TRoutine, fts_TRoutine_iff r]
def bk_TProgram : TProgram → Nat
  | ⟨x0, x1, x2, x3, x4, x5, x6, x7, x8⟩ => (x0.size + 1) + ((bks_v9 x1 + 1) + ((bks_v9 x2 + 1) + ((bks_v9 x3 + 1) + ((bks_TRec x4 + 1) + ((bks_TVar x5 + 1) + ((bks_TRoutine x6 + 1) + ((bks_TStmt x7 + 1) + ((bks_v9 x8 + 1) + 0 )))))))) + 1
def ft_TProgram : TProgram → Prop
  | ⟨x0, x1, x2, x3, x4, x5, x6, x7, x8⟩ => x0.size ≤ maxLen ∧ (x1.length ≤ maxLen ∧ fts_v9 x1) ∧ (x2.length ≤ maxLen ∧ fts_v9 x2) ∧ (x3.length ≤ maxLen ∧ fts_v9 x3) ∧ (x4.length ≤ maxLen ∧ fts_TRec x4) ∧ (x5.length ≤ maxLen ∧ fts_TVar x5) ∧ (x6.length ≤ maxLen ∧ fts_TRoutine x6) ∧ (x7.length ≤ maxLen ∧ fts_TStmt x7) ∧ (x8.length ≤ maxLen ∧ fts_v9 x8)
def bkk : (t : Nat) → II t → Nat
  | 9, x => bk_v9 x
  | 22, x => bk_v22 x
  | 39, x => bk_TPair x
  | 44, x => bk_TExpr x
  | 59, x => bk_TRec x
  | 69, x => bk_TField x
  | 98, x => bk_TVar x
  | 103, x => bk_TRoutine x
  | 107, x => bk_TStmt x
  | 145, x => bk_TParam x
  | _, _ => 0
def ftt : (t : Nat) → II t → Prop
  | 9, x => ft_v9 x
  | 22, x => ft_v22 x
  | 39, x => ft_TPair x
  | 44, x => ft_TExpr x
  | 59, x => ft_TRec x
  | 69, x => ft_TField x
  | 98, x => ft_TVar x
  | 103, x => ft_TRoutine x
  | 107, x => ft_TStmt x
  | 145, x => ft_TParam x
  | _, _ => True
def rowsL : List Nat := [9, 22, 39, 44, 59, 69, 98, 103, 107, 145]
theorem full_v9 (ds : List (DV II)) (h : some [.str] = some (ds.map kd)) : ∃ x : ByteArray, row_v9 x = ds := by
  injection h with h
  symm at h
  obtain ⟨d0, ds, rfl, e0, h⟩ := List.map_eq_cons_iff.1 h
  obtain rfl := List.map_eq_nil_iff.1 h
  obtain ⟨y0, rfl⟩ := kd_str e0
  exact ⟨y0, rfl⟩
theorem full_v22 (ds : List (DV II)) (h : some [.sl 9] = some (ds.map kd)) : ∃ x : (List ByteArray), row_v22 x = ds := by
  injection h with h
  symm at h
  obtain ⟨d0, ds, rfl, e0, h⟩ := List.map_eq_cons_iff.1 h
  obtain rfl := List.map_eq_nil_iff.1 h
  obtain ⟨y0, rfl⟩ := kd_sl e0
  exact ⟨y0, rfl⟩
theorem full_TPair (ds : List (DV II)) (h : some [.str, .str] = some (ds.map kd)) : ∃ x : TPair, row_TPair x = ds := by
  injection h with h
  symm at h
  obtain ⟨d0, ds, rfl, e0, h⟩ := List.map_eq_cons_iff.1 h
  obtain ⟨d1, ds, rfl, e1, h⟩ := List.map_eq_cons_iff.1 h
  obtain rfl := List.map_eq_nil_iff.1 h
  obtain ⟨y0, rfl⟩ := kd_str e0
  obtain ⟨y1, rfl⟩ := kd_str e1
  exact ⟨⟨y0, y1⟩, rfl⟩
theorem full_TExpr (ds : List (DV II)) (h : some [.int .i64, .int .i64, .str, .str, .sl 44] = some (ds.map kd)) : ∃ x : TExpr, row_TExpr x = ds := by
  injection h with h
  symm at h
  obtain ⟨d0, ds, rfl, e0, h⟩ := List.map_eq_cons_iff.1 h
  obtain ⟨d1, ds, rfl, e1, h⟩ := List.map_eq_cons_iff.1 h
  obtain ⟨d2, ds, rfl, e2, h⟩ := List.map_eq_cons_iff.1 h
  obtain ⟨d3, ds, rfl, e3, h⟩ := List.map_eq_cons_iff.1 h
  obtain ⟨d4, ds, rfl, e4, h⟩ := List.map_eq_cons_iff.1 h
  obtain rfl := List.map_eq_nil_iff.1 h
  obtain ⟨y0, rfl⟩ := kd_int e0
  obtain ⟨y1, rfl⟩ := kd_int e1
  obtain ⟨y2, rfl⟩ := kd_str e2
  obtain ⟨y3, rfl⟩ := kd_str e3
  obtain ⟨y4, rfl⟩ := kd_sl e4
  exact ⟨⟨y0, y1, y2, y3, y4⟩, rfl⟩
theorem full_TRec (ds : List (DV II)) (h : some [.sl 9, .sl 9, .str, .sl 69, .sl 9] = some (ds.map kd)) : ∃ x : TRec, row_TRec x = ds := by
  injection h with h
  symm at h
  obtain ⟨d0, ds, rfl, e0, h⟩ := List.map_eq_cons_iff.1 h
  obtain ⟨d1, ds, rfl, e1, h⟩ := List.map_eq_cons_iff.1 h
  obtain ⟨d2, ds, rfl, e2, h⟩ := List.map_eq_cons_iff.1 h
  obtain ⟨d3, ds, rfl, e3, h⟩ := List.map_eq_cons_iff.1 h
  obtain ⟨d4, ds, rfl, e4, h⟩ := List.map_eq_cons_iff.1 h
  obtain rfl := List.map_eq_nil_iff.1 h
  obtain ⟨y0, rfl⟩ := kd_sl e0
  obtain ⟨y1, rfl⟩ := kd_sl e1
  obtain ⟨y2, rfl⟩ := kd_str e2
  obtain ⟨y3, rfl⟩ := kd_sl e3
  obtain ⟨y4, rfl⟩ := kd_sl e4
  exact ⟨⟨y0, y1, y2, y3, y4⟩, rfl⟩
theorem full_TField (ds : List (DV II)) (h : some [.sl 9, .sl 9, .str, .int .i64] = some (ds.map kd)) : ∃ x : TField, row_TField x = ds := by
  injection h with h
  symm at h
  obtain ⟨d0, ds, rfl, e0, h⟩ := List.map_eq_cons_iff.1 h
  obtain ⟨d1, ds, rfl, e1, h⟩ := List.map_eq_cons_iff.1 h
  obtain ⟨d2, ds, rfl, e2, h⟩ := List.map_eq_cons_iff.1 h
  obtain ⟨d3, ds, rfl, e3, h⟩ := List.map_eq_cons_iff.1 h
  obtain rfl := List.map_eq_nil_iff.1 h
  obtain ⟨y0, rfl⟩ := kd_sl e0
  obtain ⟨y1, rfl⟩ := kd_sl e1
  obtain ⟨y2, rfl⟩ := kd_str e2
  obtain ⟨y3, rfl⟩ := kd_int e3
  exact ⟨⟨y0, y1, y2, y3⟩, rfl⟩
theorem full_TVar (ds : List (DV II)) (h : some [.sl 9, .sl 9, .str, .int .i64, .int .i64, .str] = some (ds.map kd)) : ∃ x : TVar, row_TVar x = ds := by
  injection h with h
  symm at h
  obtain ⟨d0, ds, rfl, e0, h⟩ := List.map_eq_cons_iff.1 h
  obtain ⟨d1, ds, rfl, e1, h⟩ := List.map_eq_cons_iff.1 h
  obtain ⟨d2, ds, rfl, e2, h⟩ := List.map_eq_cons_iff.1 h
  obtain ⟨d3, ds, rfl, e3, h⟩ := List.map_eq_cons_iff.1 h
  obtain ⟨d4, ds, rfl, e4, h⟩ := List.map_eq_cons_iff.1 h
  obtain ⟨d5, ds, rfl, e5, h⟩ := List.map_eq_cons_iff.1 h
  obtain rfl := List.map_eq_nil_iff.1 h
  obtain ⟨y0, rfl⟩ := kd_sl e0
  obtain ⟨y1, rfl⟩ := kd_sl e1
  obtain ⟨y2, rfl⟩ := kd_str e2
  obtain ⟨y3, rfl⟩ := kd_int e3
  obtain ⟨y4, rfl⟩ := kd_int e4
  obtain ⟨y5, rfl⟩ := kd_str e5
  exact ⟨⟨y0, y1, y2, y3, y4, y5⟩, rfl⟩
theorem full_TRoutine (ds : List (DV II)) (h : some [.sl 9, .sl 9, .str, .int .i64, .sl 145, .sl 98, .sl 103, .sl 107, .sl 9] = some (ds.map kd)) : ∃ x : TRoutine, row_TRoutine x = ds := by
  injection h with h
  symm at h
  obtain ⟨d0, ds, rfl, e0, h⟩ := List.map_eq_cons_iff.1 h
  obtain ⟨d1, ds, rfl, e1, h⟩ := List.map_eq_cons_iff.1 h
  obtain ⟨d2, ds, rfl, e2, h⟩ := List.map_eq_cons_iff.1 h
  obtain ⟨d3, ds, rfl, e3, h⟩ := List.map_eq_cons_iff.1 h
  obtain ⟨d4, ds, rfl, e4, h⟩ := List.map_eq_cons_iff.1 h
  obtain ⟨d5, ds, rfl, e5, h⟩ := List.map_eq_cons_iff.1 h
  obtain ⟨d6, ds, rfl, e6, h⟩ := List.map_eq_cons_iff.1 h
  obtain ⟨d7, ds, rfl, e7, h⟩ := List.map_eq_cons_iff.1 h
  obtain ⟨d8, ds, rfl, e8, h⟩ := List.map_eq_cons_iff.1 h
  obtain rfl := List.map_eq_nil_iff.1 h
  obtain ⟨y0, rfl⟩ := kd_sl e0
  obtain ⟨y1, rfl⟩ := kd_sl e1
  obtain ⟨y2, rfl⟩ := kd_str e2
  obtain ⟨y3, rfl⟩ := kd_int e3
  obtain ⟨y4, rfl⟩ := kd_sl e4
  obtain ⟨y5, rfl⟩ := kd_sl e5
  obtain ⟨y6, rfl⟩ := kd_sl e6
  obtain ⟨y7, rfl⟩ := kd_sl e7
  obtain ⟨y8, rfl⟩ := kd_sl e8
  exact ⟨⟨y0, y1, y2, y3, y4, y5, y6, y7, y8⟩, rfl⟩
theorem full_TStmt (ds : List (DV II)) (h : some [.sl 9, .sl 9, .int .i64, .str, .int .i64, .int .i64, .str, .str, .sl 44, .sl 44, .bool, .bool, .sl 107, .sl 107, .sl 9, .sl 9] = some (ds.map kd)) : ∃ x : TStmt, row_TStmt x = ds := by
  injection h with h
  symm at h
  obtain ⟨d0, ds, rfl, e0, h⟩ := List.map_eq_cons_iff.1 h
  obtain ⟨d1, ds, rfl, e1, h⟩ := List.map_eq_cons_iff.1 h
  obtain ⟨d2, ds, rfl, e2, h⟩ := List.map_eq_cons_iff.1 h
  obtain ⟨d3, ds, rfl, e3, h⟩ := List.map_eq_cons_iff.1 h
  obtain ⟨d4, ds, rfl, e4, h⟩ := List.map_eq_cons_iff.1 h
  obtain ⟨d5, ds, rfl, e5, h⟩ := List.map_eq_cons_iff.1 h
  obtain ⟨d6, ds, rfl, e6, h⟩ := List.map_eq_cons_iff.1 h
  obtain ⟨d7, ds, rfl, e7, h⟩ := List.map_eq_cons_iff.1 h
  obtain ⟨d8, ds, rfl, e8, h⟩ := List.map_eq_cons_iff.1 h
  obtain ⟨d9, ds, rfl, e9, h⟩ := List.map_eq_cons_iff.1 h
  obtain ⟨d10, ds, rfl, e10, h⟩ := List.map_eq_cons_iff.1 h
  obtain ⟨d11, ds, rfl, e11, h⟩ := List.map_eq_cons_iff.1 h
  obtain ⟨d12, ds, rfl, e12, h⟩ := List.map_eq_cons_iff.1 h
  obtain ⟨d13, ds, rfl, e13, h⟩ := List.map_eq_cons_iff.1 h
  obtain ⟨d14, ds, rfl, e14, h⟩ := List.map_eq_cons_iff.1 h
  obtain ⟨d15, ds, rfl, e15, h⟩ := List.map_eq_cons_iff.1 h
  obtain rfl := List.map_eq_nil_iff.1 h
  obtain ⟨y0, rfl⟩ := kd_sl e0
  obtain ⟨y1, rfl⟩ := kd_sl e1
  obtain ⟨y2, rfl⟩ := kd_int e2
  obtain ⟨y3, rfl⟩ := kd_str e3
  obtain ⟨y4, rfl⟩ := kd_int e4
  obtain ⟨y5, rfl⟩ := kd_int e5
  obtain ⟨y6, rfl⟩ := kd_str e6
  obtain ⟨y7, rfl⟩ := kd_str e7
  obtain ⟨y8, rfl⟩ := kd_sl e8
  obtain ⟨y9, rfl⟩ := kd_sl e9
  obtain ⟨y10, rfl⟩ := kd_bool e10
  obtain ⟨y11, rfl⟩ := kd_bool e11
  obtain ⟨y12, rfl⟩ := kd_sl e12
  obtain ⟨y13, rfl⟩ := kd_sl e13
  obtain ⟨y14, rfl⟩ := kd_sl e14
  obtain ⟨y15, rfl⟩ := kd_sl e15
  exact ⟨⟨y0, y1, y2, y3, y4, y5, y6, y7, y8, y9, y10, y11, y12, y13, y14, y15⟩, rfl⟩
theorem full_TParam (ds : List (DV II)) (h : some [.str, .int .i64, .int .i64, .str, .int .i64] = some (ds.map kd)) : ∃ x : TParam, row_TParam x = ds := by
  injection h with h
  symm at h
  obtain ⟨d0, ds, rfl, e0, h⟩ := List.map_eq_cons_iff.1 h
  obtain ⟨d1, ds, rfl, e1, h⟩ := List.map_eq_cons_iff.1 h
  obtain ⟨d2, ds, rfl, e2, h⟩ := List.map_eq_cons_iff.1 h
  obtain ⟨d3, ds, rfl, e3, h⟩ := List.map_eq_cons_iff.1 h
  obtain ⟨d4, ds, rfl, e4, h⟩ := List.map_eq_cons_iff.1 h
  obtain rfl := List.map_eq_nil_iff.1 h
  obtain ⟨y0, rfl⟩ := kd_str e0
  obtain ⟨y1, rfl⟩ := kd_int e1
  obtain ⟨y2, rfl⟩ := kd_int e2
  obtain ⟨y3, rfl⟩ := kd_str e3
  obtain ⟨y4, rfl⟩ := kd_int e4
  exact ⟨⟨y0, y1, y2, y3, y4⟩, rfl⟩
theorem bkk_v9 : bkk 9 = bk_v9 := rfl
theorem bkk_TExpr : bkk 44 = bk_TExpr := rfl
theorem bkk_TField : bkk 69 = bk_TField := rfl
theorem bkk_TVar : bkk 98 = bk_TVar := rfl
theorem bkk_TRoutine : bkk 103 = bk_TRoutine := rfl
theorem bkk_TStmt : bkk 107 = bk_TStmt := rfl
theorem bkk_TParam : bkk 145 = bk_TParam := rfl
theorem meas (E : Env II) (h1 : E.ty = tyy) (h2 : E.row = roww) {H : Type} (ub : DataW H → Nat) (nil : 1 ≤ ub .nil) (lit : ∀ l, 1 ≤ ub (.lit l)) (str : ∀ l, l.length + 1 ≤ ub (.lit (.string l))) (sl : ∀ a b, (a.map ub).sum + 1 ≤ ub (.slice a b)) (agg : ∀ a, (a.map ub).sum + 1 ≤ ub (.agg a)) : Meas E ftt bkk ub rowsL where
  contig t ti ht := by
    rw [h1] at ht ⊢
    exact List.all_eq_true.1 (show (tyL.all (contigOk tyy)) = true by kernel_rfl) (t, ti) (tyOf_mem tyL t ti ht)
  rowsIn t ti e ht hs hk := by
    rw [h1] at ht hk
    have := List.all_eq_true.1 (show (tyL.all fun p => match p.2.td with | .slice e => rowsL.contains e | _ => true) = true by kernel_rfl) (t, ti) (tyOf_mem tyL t ti ht)
    rw [hs] at this
    simpa using this
  rowsK e he := by
    rw [h1]
    have := List.all_eq_true.1 (show (rowsL.all fun e => (flatK tyy 9 e).isSome) = true by kernel_rfl) e he
    exact Option.isSome_iff_exists.1 this
  full e he ds hk := by
    rw [h1] at hk
    rw [h2]
    simp only [rowsL, List.mem_cons, List.not_mem_nil, or_false] at he
    rcases he with rfl | rfl | rfl | rfl | rfl | rfl | rfl | rfl | rfl | rfl
    · exact full_v9 ds hk
    · exact full_v22 ds hk
    · exact full_TPair ds hk
    · exact full_TExpr ds hk
    · exact full_TRec ds hk
    · exact full_TField ds hk
    · exact full_TVar ds hk
    · exact full_TRoutine ds hk
    · exact full_TStmt ds hk
    · exact full_TParam ds hk
  q e he x hx := by
    rw [h2] at hx
    simp only [rowsL, List.mem_cons, List.not_mem_nil, or_false] at he
    rcases he with rfl | rfl | rfl | rfl | rfl | rfl | rfl | rfl | rfl | rfl
    · simp [roww, row_v9, QD, ftt, ft_v9] at hx ⊢; exact hx
    · simp [roww, row_v22, QD, ftt, ft_v22, fts_v9_iff] at hx ⊢; exact hx
    · cases x; simp [roww, row_TPair, QD, ftt, ft_TPair] at hx ⊢; exact hx
    · cases x; simp [roww, row_TExpr, QD, ftt, ft_TExpr, fts_TExpr_iff] at hx ⊢; exact hx
    · cases x; simp [roww, row_TRec, QD, ftt, ft_TRec, fts_v9_iff, fts_TField_iff] at hx ⊢; exact hx
    · cases x; simp [roww, row_TField, QD, ftt, ft_TField, fts_v9_iff] at hx ⊢; exact hx
    · cases x; simp [roww, row_TVar, QD, ftt, ft_TVar, fts_v9_iff] at hx ⊢; exact hx
    · cases x; simp [roww, row_TRoutine, QD, ftt, ft_TRoutine, fts_v9_iff, fts_TVar_iff, fts_TRoutine_iff, fts_TStmt_iff, fts_TParam_iff] at hx ⊢; exact hx
    · cases x; simp [roww, row_TStmt, QD, ftt, ft_TStmt, fts_v9_iff, fts_TExpr_iff, fts_TStmt_iff] at hx ⊢; exact hx
    · cases x; simp [roww, row_TParam, QD, ftt, ft_TParam] at hx ⊢; exact hx
  b e he x ti ht := by
    rw [h1] at ht
    rw [h2]
    simp only [rowsL, List.mem_cons, List.not_mem_nil, or_false] at he
    rcases he with rfl | rfl | rfl | rfl | rfl | rfl | rfl | rfl | rfl | rfl
    · have : tyy 9 = some _ := rfl
      rw [this] at ht; injection ht with ht; subst ht
      simp [roww, row_v9, bkD, bkk, bk_v9]
    · have : tyy 22 = some _ := rfl
      rw [this] at ht; injection ht with ht; subst ht
      simp [roww, row_v22, bkD, bkk, bk_v22, bks_v9_eq, bkk_v9]
    · have : tyy 39 = some _ := rfl
      rw [this] at ht; injection ht with ht; subst ht
      cases x; simp [roww, row_TPair, bkD, bkk, bk_TPair]
    · have : tyy 44 = some _ := rfl
      rw [this] at ht; injection ht with ht; subst ht
      cases x; simp [roww, row_TExpr, bkD, bkk, bk_TExpr, bks_TExpr_eq, bkk_TExpr]
    · have : tyy 59 = some _ := rfl
      rw [this] at ht; injection ht with ht; subst ht
      cases x; simp [roww, row_TRec, bkD, bkk, bk_TRec, bks_v9_eq, bkk_v9, bks_TField_eq, bkk_TField]
    · have : tyy 69 = some _ := rfl
      rw [this] at ht; injection ht with ht; subst ht
      cases x; simp [roww, row_TField, bkD, bkk, bk_TField, bks_v9_eq, bkk_v9]
    · have : tyy 98 = some _ := rfl
      rw [this] at ht; injection ht with ht; subst ht
      cases x; simp [roww, row_TVar, bkD, bkk, bk_TVar, bks_v9_eq, bkk_v9]
    · have : tyy 103 = some _ := rfl
      rw [this] at ht; injection ht with ht; subst ht
      cases x; simp [roww, row_TRoutine, bkD, bkk, bk_TRoutine, bks_v9_eq, bkk_v9, bks_TVar_eq, bkk_TVar, bks_TRoutine_eq, bkk_TRoutine, bks_TStmt_eq, bkk_TStmt, bks_TParam_eq, bkk_TParam]
    · have : tyy 107 = some _ := rfl
      rw [this] at ht; injection ht with ht; subst ht
      cases x; simp [roww, row_TStmt, bkD, bkk, bk_TStmt, bks_v9_eq, bkk_v9, bks_TExpr_eq, bkk_TExpr, bks_TStmt_eq, bkk_TStmt]
    · have : tyy 145 = some _ := rfl
      rw [this] at ht; injection ht with ht; subst ht
      cases x; simp [roww, row_TParam, bkD, bkk, bk_TParam]
  nil := nil
  lit := lit
  str := str
  sl := sl
  agg := agg
end Go.Ev
end
section
open Go
namespace Go.Ev
set_option maxRecDepth 100000
set_option linter.unusedVariables false
variable {h : Fam}
noncomputable def dc (p : Prop) : Bool := @decide p (Classical.propDecidable p)
theorem dc_iff (p : Prop) : dc p = true ↔ p := by unfold dc; exact @decide_eq_true_iff p (Classical.propDecidable p)
theorem dc_true {p : Prop} (h : p) : dc p = true := (dc_iff p).2 h
theorem dc_false {p : Prop} (h : ¬ p) : dc p = false := by
  cases hd : dc p with
  | false => rfl
  | true => exact absurd ((dc_iff p).1 hd) h
theorem dc_eq {p q : Prop} (h : p ↔ q) : dc p = dc q := by rw [propext h]
theorem dc_dec (p : Prop) [Decidable p] : dc p = decide p := by
  by_cases h : p
  · rw [dc_true h, decide_eq_true h]
  · rw [dc_false h, decide_eq_false h]
theorem ba_dc (a b : ByteArray) : (a.toList == b.toList) = dc (a = b) := by rw [ba_beq, ← dc_dec]
theorem int_dc (a b : Int) : (a == b) = dc (a = b) := by rw [dc_dec]; rfl
theorem bool_dc (a b : Bool) : (a == b) = dc (a = b) := by rw [dc_dec]; cases a <;> cases b <;> rfl
theorem if_dc (p q : Prop) : (if dc p = true then some (dc q) else some false) = some (dc (p ∧ q)) := by
  by_cases h : p
  · rw [if_pos (dc_true h)]; exact congrArg some (dc_eq (by simp [h]))
  · rw [if_neg (by rw [dc_false h]; simp), dc_false (p := p ∧ q) (by simp [h])]
theorem and_dc (p q : Prop) : (dc p && dc q) = dc (p ∧ q) := by
  by_cases h : p
  · rw [dc_true h, Bool.true_and]; exact dc_eq (by simp [h])
  · rw [dc_false h, dc_false (p := p ∧ q) (by simp [h]), Bool.false_and]
theorem not_dc (p : Prop) : (!dc p) = dc (¬ p) := by
  by_cases h : p
  · rw [dc_true h, dc_false (p := ¬ p) (by simp [h])]; rfl
  · rw [dc_false h, dc_true (p := ¬ p) h]; rfl
theorem or_dc (p q : Prop) : (dc p || dc q) = dc (p ∨ q) := by
  by_cases h : p
  · rw [dc_true h, dc_true (p := p ∨ q) (.inl h), Bool.true_or]
  · rw [dc_false h, Bool.false_or]; exact dc_eq (by simp [h])
theorem ifn_dc (p q : Prop) : (if dc p = true then some false else some (dc q)) = some (dc (¬ p ∧ q)) := by
  by_cases h : p
  · rw [if_pos (dc_true h), dc_false (p := ¬ p ∧ q) (by simp [h])]
  · rw [if_neg (by rw [dc_false h]; simp)]; exact congrArg some (dc_eq (by simp [h]))
theorem iff_dc (p q : Prop) : (if dc p = false then some (dc q) else some false) = some (dc (¬ p ∧ q)) := by
  by_cases h : p
  · rw [if_neg (by rw [dc_true h]; simp), dc_false (p := ¬ p ∧ q) (by simp [h])]
  · rw [if_pos (dc_false h)]; exact congrArg some (dc_eq (by simp [h]))
theorem eqG_dc {α : Type} (d : α) (f : α → α → Option Bool) (a b : List α) (hl : a.length = b.length) (hm : a.length ≤ maxLen)
    (hf : ∀ i (h : i < a.length) (h' : i < b.length), f a[i] b[i] = some (dc (a[i] = b[i]))) :
    ∀ j i, i ≤ a.length → a.length - i < j → eqG d f j b a (a.length : Int) (i : Int) = some (dc (a.drop i = b.drop i)) := by
  refine up_ind a.length (fun j => ?_) (fun j i hi ih => ?_)
  · simp only [eqG]
    rw [if_neg (by simp), dc_true (by simp [hl])]
  · have h' : i < b.length := by omega
    simp only [eqG]
    rw [if_pos (by simpa using hi), if_pos (by omega), if_pos (by omega), if_pos (by omega), if_pos (by omega)]
    simp only [Int.toNat_natCast, List.getD_eq_getElem?_getD, List.getElem?_eq_getElem hi, List.getElem?_eq_getElem h', Option.getD_some]
    rw [hf i hi h', Option.bind_some, wrap_succ hi hm, ih, not_dc, ifn_dc]
    refine congrArg some (dc_eq ?_)
    rw [List.drop_eq_getElem_cons hi, List.drop_eq_getElem_cons h']
    simp only [List.cons.injEq, Classical.not_not]
theorem eqF {α : Type} (d : α) (f : α → α → Option Bool) (a b : List α) (k : Nat) (hk : a.length < k) (hm : a.length ≤ maxLen)
    (hf : ∀ i (h : i < a.length) (h' : i < b.length), f a[i] b[i] = some (dc (a[i] = b[i]))) :
    (if ((a.length : Int) != (b.length : Int)) = true then some false else eqG d f k b a (a.length : Int) 0) = some (dc (a = b)) := by
  by_cases hl : a.length = b.length
  · have h1 : ((a.length : Int) != (b.length : Int)) = false := by simp [hl]
    rw [if_neg (by rw [h1]; simp)]
    have := eqG_dc d f a b hl hm hf k 0 (Nat.zero_le _) (by omega)
    simpa using this
  · have h1 : ((a.length : Int) != (b.length : Int)) = true := by simp; omega
    rw [if_pos h1]
    have : a ≠ b := fun e => hl (by rw [e])
    rw [dc_false this]
def eqH {α : Type} (d : α) (f : α → α → Option Bool) : Nat → List α → List α → Int → Option Bool
  | 0, _, _, _ => none
  | j + 1, v0, v1, v2 => (if decide (v2 < (v0.length : Int)) = true then (if 0 ≤ v2 then (if v2 < (v0.length : Int) then (if 0 ≤ v2 then (if v2 < (v1.length : Int) then ((f (v0.getD v2.toNat d) (v1.getD v2.toNat d)).bind fun t9 => (if (!t9) = true then some false else eqH d f j v0 v1 (IntKind.i64.wrap (v2 + 1)))) else none) else none) else none) else none) else some true)
theorem eqH_is {α : Type} (d : α) (f : α → α → Option Bool) (a b : List α) (hl : a.length = b.length) (hm : a.length ≤ maxLen)
    (hf : ∀ i (h : i < a.length) (h' : i < b.length), f a[i] b[i] = some (dc (a[i] = b[i]))) :
    ∀ j i, i ≤ a.length → a.length - i < j → eqH d f j a b (i : Int) = some (dc (a.drop i = b.drop i)) := by
  refine up_ind a.length (fun j => ?_) (fun j i hi ih => ?_)
  · simp only [eqH]
    rw [if_neg (by simp), dc_true (by simp [hl])]
  · have h' : i < b.length := by omega
    simp only [eqH]
    rw [if_pos (by simpa using hi), if_pos (by omega), if_pos (by omega), if_pos (by omega), if_pos (by omega)]
    simp only [Int.toNat_natCast, List.getD_eq_getElem?_getD, List.getElem?_eq_getElem hi, List.getElem?_eq_getElem h', Option.getD_some]
    rw [hf i hi h', Option.bind_some, wrap_succ hi hm, ih, not_dc, ifn_dc]
    refine congrArg some (dc_eq ?_)
    rw [List.drop_eq_getElem_cons hi, List.drop_eq_getElem_cons h']
    simp only [List.cons.injEq, Classical.not_not]
theorem eqI {α : Type} (d : α) (f : α → α → Option Bool) (a b : List α) (k : Nat) (hk : a.length < k) (hm : a.length ≤ maxLen)
    (hf : ∀ i (h : i < a.length) (h' : i < b.length), f a[i] b[i] = some (dc (a[i] = b[i]))) :
    (if ((a.length : Int) != (b.length : Int)) = true then some false else eqH d f k a b 0) = some (dc (a = b)) := by
  by_cases hl : a.length = b.length
  · have h1 : ((a.length : Int) != (b.length : Int)) = false := by simp [hl]
    rw [if_neg (by rw [h1]; simp)]
    have := eqH_is d f a b hl hm hf k 0 (Nat.zero_le _) (by omega)
    simpa using this
  · have h1 : ((a.length : Int) != (b.length : Int)) = true := by simp; omega
    rw [if_pos h1]
    have : a ≠ b := fun e => hl (by rw [e])
    rw [dc_false this]
end Go.Ev
end
section
open Go
namespace Go.Ev
set_option maxRecDepth 100000
set_option maxHeartbeats 4000000
set_option linter.unusedVariables false
set_option linter.unusedSimpArgs false
variable (h : Fam)
theorem len_sum {α : Type} (f : α → Nat) (hf : ∀ x, 1 ≤ f x) : ∀ l : List α, l.length ≤ (l.map f).sum
  | [] => Nat.le_refl _
  | x :: l => by
    have := hf x; have := len_sum f hf l
    simp only [List.length_cons, List.map_cons, List.sum_cons]; omega
theorem mem_sum {α : Type} (f : α → Nat) : ∀ (l : List α) (i : Nat) (hi : i < l.length), f l[i] ≤ (l.map f).sum
  | [], i, hi => by simp at hi
  | x :: l, 0, hi => by simp
  | x :: l, i + 1, hi => by
    have := mem_sum f l i (by simpa using hi)
    simp only [List.getElem_cons_succ, List.map_cons, List.sum_cons]; omega
theorem L_SameTexts (s : Fam) (k : Nat) (x y : List ByteArray) : ∀ j v0 v1 v2, Lr01_SameTexts_4 s k x y j v0 v1 v2 = eqH ⟨#[]⟩ (fun a b => some (a.toList == b.toList)) j v0 v1 v2 := by
  intro j
  induction j with
  | zero => intros; rfl
  | succ j ih => intros; simp only [Lr01_SameTexts_4, eqH, ih, Option.bind_some]
theorem SameTexts_ok (k : Nat) (a b : List ByteArray) (hk : a.length < k) (hm : a.length ≤ maxLen) : (FF h (k + 1)).f_r01_SameTexts (a, b, ()) = some (dc (a = b)) := by
  show B_r01_SameTexts (FF h k) k a b = _
  unfold B_r01_SameTexts
  rw [L_SameTexts]
  exact eqI _ _ a b k hk hm fun i _ _ => congrArg some (ba_dc _ _)
def eqK {α : Type} (d : α) (f : α → α → Option Bool) : Nat → List α → List α → Int → Int → Option Bool
  | 0, _, _, _, _ => none
  | j + 1, v0, v1, v2, v3 => (if decide (v3 < v2) = true then (if 0 ≤ v3 then (if v3 < (v0.length : Int) then (if 0 ≤ v3 then (if v3 < (v1.length : Int) then ((f (v0.getD v3.toNat d) (v1.getD v3.toNat d)).bind fun t9 => (if (!t9) = true then some false else eqK d f j v0 v1 v2 (IntKind.i64.wrap (v3 + 1)))) else none) else none) else none) else none) else some true)
theorem eqK_is {α : Type} (d : α) (f : α → α → Option Bool) (a b : List α) (hl : a.length = b.length) (hm : a.length ≤ maxLen)
    (hf : ∀ i (h : i < a.length) (h' : i < b.length), f a[i] b[i] = some (dc (a[i] = b[i]))) :
    ∀ j i, i ≤ a.length → a.length - i < j → eqK d f j a b (a.length : Int) (i : Int) = some (dc (a.drop i = b.drop i)) := by
  refine up_ind a.length (fun j => ?_) (fun j i hi ih => ?_)
  · simp only [eqK]
    rw [if_neg (by simp), dc_true (by simp [hl])]
  · have h' : i < b.length := by omega
    simp only [eqK]
    rw [if_pos (by simpa using hi), if_pos (by omega), if_pos (by omega), if_pos (by omega), if_pos (by omega)]
    simp only [Int.toNat_natCast, List.getD_eq_getElem?_getD, List.getElem?_eq_getElem hi, List.getElem?_eq_getElem h', Option.getD_some]
    rw [hf i hi h', Option.bind_some, wrap_succ hi hm, ih, not_dc, ifn_dc]
    refine congrArg some (dc_eq ?_)
    rw [List.drop_eq_getElem_cons hi, List.drop_eq_getElem_cons h']
    simp only [List.cons.injEq, Classical.not_not]
theorem eqL {α : Type} (d : α) (f : α → α → Option Bool) (a b : List α) (k : Nat) (hk : a.length < k) (hm : a.length ≤ maxLen)
    (hf : ∀ i (h : i < a.length) (h' : i < b.length), f a[i] b[i] = some (dc (a[i] = b[i]))) :
    (if ((a.length : Int) != (b.length : Int)) = true then some false else eqK d f k a b (a.length : Int) 0) = some (dc (a = b)) := by
  by_cases hl : a.length = b.length
  · have h1 : ((a.length : Int) != (b.length : Int)) = false := by simp [hl]
    rw [if_neg (by rw [h1]; simp)]
    have := eqK_is d f a b hl hm hf k 0 (Nat.zero_le _) (by omega)
    simpa using this
  · have h1 : ((a.length : Int) != (b.length : Int)) = true := by simp; omega
    rw [if_pos h1]
    have : a ≠ b := fun e => hl (by rw [e])
    rw [dc_false this]
theorem L_Equal_string (s : Fam) (k : Nat) (x y : List ByteArray) : ∀ j v0 v1 v2 v3, Lslices_Equal_string_4 s k x y j v0 v1 v2 v3 = eqK ⟨#[]⟩ (fun a b => some (a.toList == b.toList)) j v0 v1 v2 v3 := by
  intro j
  induction j with
  | zero => intros; rfl
  | succ j ih => intros; simp only [Lslices_Equal_string_4, eqK, ih, Option.bind_some]
theorem Equal_string_ok (k : Nat) (a b : List ByteArray) (hk : a.length < k) (hm : a.length ≤ maxLen) : (FF h (k + 1)).f_slices_Equal_string (a, b, ()) = some (dc (a = b)) := by
  show B_slices_Equal_string (FF h k) k a b = _
  unfold B_slices_Equal_string
  rw [L_Equal_string]
  exact eqL _ _ a b k hk hm fun i _ _ => congrArg some (ba_dc _ _)
theorem TParam.eq_iff (x y : TParam) : x = y ↔ x.Name = y.Name ∧ x.T_Kind = y.T_Kind ∧ x.T_Size = y.T_Size ∧ x.T_Name = y.T_Name ∧ x.Mode = y.Mode := by cases x; cases y; simp
theorem L_Equal_Param (s : Fam) (k : Nat) (x y : List TParam) : ∀ j v0 v1 v2 v3, Lslices_Equal_Param_4 s k x y j v0 v1 v2 v3 = eqK dd_TParam (fun a b => some (a.Name.toList == b.Name.toList && (a.T_Kind == b.T_Kind && (a.T_Size == b.T_Size && (a.T_Name.toList == b.T_Name.toList && true)) && (a.Mode == b.Mode && true)))) j v0 v1 v2 v3 := by
  intro j
  induction j with
  | zero => intros; rfl
  | succ j ih => intros; simp only [Lslices_Equal_Param_4, eqK, ih, Option.bind_some]
theorem Equal_Param_ok (k : Nat) (a b : List TParam) (hk : a.length < k) (hm : a.length ≤ maxLen) : (FF h (k + 1)).f_slices_Equal_Param (a, b, ()) = some (dc (a = b)) := by
  show B_slices_Equal_Param (FF h k) k a b = _
  unfold B_slices_Equal_Param
  rw [L_Equal_Param]
  exact eqL _ _ a b k hk hm fun i _ _ => congrArg some (by
    simp only [ba_dc, int_dc, Bool.and_true, and_dc]
    exact dc_eq (by rw [TParam.eq_iff]; simp only [and_assoc]))
theorem bk_Expr_pos (x : TExpr) : 1 ≤ bk_TExpr x := by cases x; simp [bk_TExpr]; 
theorem TExpr.eq_iff (x y : TExpr) : x = y ↔ x.Op = y.Op ∧ x.N = y.N ∧ x.Name = y.Name ∧ x.Field = y.Field ∧ x.L = y.L := by cases x; cases y; simp
theorem bk_Expr_L (x : TExpr) : bks_TExpr x.L + 6 ≤ bk_TExpr x := by cases x; simp [bk_TExpr]; omega
theorem ft_Expr_L (x : TExpr) (hx : ft_TExpr x) : x.L.length ≤ maxLen ∧ fts_TExpr x.L := by cases x; simp [ft_TExpr] at hx; exact hx.2.2.2.2
theorem bks_Expr_len (l : List TExpr) : l.length ≤ bks_TExpr l := by rw [bks_TExpr_eq]; exact len_sum _ bk_Expr_pos l
theorem bks_Expr_mem (l : List TExpr) (i : Nat) (hi : i < l.length) : bk_TExpr l[i] ≤ bks_TExpr l := by rw [bks_TExpr_eq]; exact mem_sum _ l i hi
theorem fts_Expr_mem (l : List TExpr) (hl : fts_TExpr l) (i : Nat) (hi : i < l.length) : ft_TExpr l[i] := (fts_TExpr_iff l).1 hl _ (List.getElem_mem hi)
theorem L_EqualFunc_Expr (s : Fam) (k : Nat) (x y : List TExpr) (u : Unit × Unit) : ∀ j v0 v1 v2 v3, Lslices_EqualFunc_Expr_4 s k x y u j v0 v1 v2 v3 = eqG dd_TExpr (fun a b => s.f_tree_SameExpr (a.re, b.re, ())) j v0 v1 v2 v3 := by
  intro j
  induction j with
  | zero => intros; rfl
  | succ j ih => intros; simp only [Lslices_EqualFunc_Expr_4, eqG, ih]
theorem L_SameExprs (s : Fam) (k : Nat) (x y : List TExpr) : ∀ j v0 v1 v2, Lr07_SameExprs_4 s k x y j v0 v1 v2 = eqH dd_TExpr (fun a b => s.f_r07_SameExpr (a.re, b.re, ())) j v0 v1 v2 := by
  intro j
  induction j with
  | zero => intros; rfl
  | succ j ih => intros; simp only [Lr07_SameExprs_4, eqH, ih]
theorem SameExpr_all : ∀ k, (∀ a b, ft_TExpr a → bk_TExpr a < k → (FF h k).f_tree_SameExpr (a, b, ()) = some (dc (a = b))) ∧
    (∀ l m, l.length ≤ maxLen → fts_TExpr l → bks_TExpr l + 1 < k → (FF h k).f_slices_EqualFunc_Expr (l, m, ((), ()), ()) = some (dc (l = m))) ∧
    (∀ a b, ft_TExpr a → bk_TExpr a < k → (FF h k).f_r07_SameExpr (a, b, ()) = some (dc (a = b))) ∧
    (∀ l m, l.length ≤ maxLen → fts_TExpr l → bks_TExpr l + 1 < k → (FF h k).f_r07_SameExprs (l, m, ()) = some (dc (l = m))) := by
  intro k
  induction k with
  | zero => exact ⟨fun _ _ _ h => absurd h (Nat.not_lt_zero _), fun _ _ _ _ h => absurd h (Nat.not_lt_zero _), fun _ _ _ h => absurd h (Nat.not_lt_zero _), fun _ _ _ _ h => absurd h (Nat.not_lt_zero _)⟩
  | succ k ih =>
    obtain ⟨i1, i2, i3, i4⟩ := ih
    refine ⟨fun a b ha hk => ?_, fun l m hm hl hk => ?_, fun a b ha hk => ?_, fun l m hm hl hk => ?_⟩
    · show B_tree_SameExpr (FF h k) k a b = _
      have h1 := bk_Expr_L a
      obtain ⟨h2, h3⟩ := ft_Expr_L a ha
      simp only [B_tree_SameExpr, i2 a.L b.L h2 h3 (by omega), Option.bind_some, Bool.true_and, int_dc, ba_dc, and_dc, if_dc]
      exact congrArg some (dc_eq (by rw [TExpr.eq_iff]; simp only [and_assoc]))
    · show B_slices_EqualFunc_Expr (FF h k) k l m ((), ()) = _
      unfold B_slices_EqualFunc_Expr
      rw [L_EqualFunc_Expr]
      have := bks_Expr_len l
      exact eqF _ _ l m k (by omega) hm fun i hi hi' => by
        have := bks_Expr_mem l i hi
        rw [TExpr.re_eq, TExpr.re_eq]
        exact i1 _ _ (fts_Expr_mem l hl i hi) (by omega)
    · show B_r07_SameExpr (FF h k) k a b = _
      have h1 := bk_Expr_L a
      obtain ⟨h2, h3⟩ := ft_Expr_L a ha
      simp only [B_r07_SameExpr, i4 a.L b.L h2 h3 (by omega), Option.bind_some, Bool.true_and, int_dc, ba_dc, and_dc, if_dc]
      exact congrArg some (dc_eq (by rw [TExpr.eq_iff]; simp only [and_assoc]))
    · show B_r07_SameExprs (FF h k) k l m = _
      unfold B_r07_SameExprs
      rw [L_SameExprs]
      have := bks_Expr_len l
      exact eqI _ _ l m k (by omega) hm fun i hi hi' => by
        have := bks_Expr_mem l i hi
        rw [TExpr.re_eq, TExpr.re_eq]
        exact i3 _ _ (fts_Expr_mem l hl i hi) (by omega)
end Go.Ev
end
section
open Go
namespace Go.Ev
set_option maxRecDepth 100000
set_option maxHeartbeats 4000000
set_option linter.unusedVariables false
set_option linter.unusedSimpArgs false
variable (h : Fam)
theorem int_ndc (a b : Int) : (a != b) = dc (¬ a = b) := by rw [← not_dc, ← int_dc]; rfl
theorem getD_at {α : Type} (l : List α) (i : Nat) (d : α) (hi : i < l.length) : l.getD (i : Int).toNat d = l[i] := by
  simp [List.getD_eq_getElem?_getD, List.getElem?_eq_getElem hi]
theorem drop_iff {α : Type} (a b : List α) (i : Nat) (hi : i < a.length) (h' : i < b.length) : a.drop i = b.drop i ↔ a[i] = b[i] ∧ a.drop (i + 1) = b.drop (i + 1) := by
  rw [List.drop_eq_getElem_cons hi, List.drop_eq_getElem_cons h']
  simp only [List.cons.injEq]
theorem TMarks.eq_iff (x y : TMarks) : x = y ↔ x.Before = y.Before ∧ x.Trail = y.Trail := by cases x; cases y; simp
theorem marks_ok (k : Nat) (a b : TMarks) (h1 : a.Before.length < k) (h2 : a.Before.length ≤ maxLen) (h3 : a.Trail.length < k) (h4 : a.Trail.length ≤ maxLen) : (FF h (k + 2)).f_tree_marks (a, b, ()) = some (dc (a = b)) := by
  show B_tree_marks (FF h (k + 1)) (k + 1) a b = _
  simp only [B_tree_marks, Equal_string_ok h k _ _ h1 h2, Equal_string_ok h k _ _ h3 h4, Option.bind_some, Bool.true_and, if_dc]
  exact congrArg some (dc_eq (TMarks.eq_iff a b).symm)
theorem sameMarks_ok (k : Nat) (a b : TMarks) (h1 : a.Before.length < k) (h2 : a.Before.length ≤ maxLen) (h3 : a.Trail.length < k) (h4 : a.Trail.length ≤ maxLen) : (FF h (k + 2)).f_r07_sameMarks (a, b, ()) = some (dc (a = b)) := by
  show B_r07_sameMarks (FF h (k + 1)) (k + 1) a b = _
  simp only [B_r07_sameMarks, SameTexts_ok h k _ _ h1 h2, SameTexts_ok h k _ _ h3 h4, Option.bind_some, Bool.true_and, if_dc]
  exact congrArg some (dc_eq (TMarks.eq_iff a b).symm)
theorem bk_v9_pos (x : ByteArray) : 1 ≤ bk_v9 x := by simp [bk_v9]
theorem bks_v9_len (l : List ByteArray) : l.length ≤ bks_v9 l := by rw [bks_v9_eq]; exact len_sum _ bk_v9_pos l
theorem TStmt.eq_iff (x y : TStmt) : x = y ↔ x.sub_Marks = y.sub_Marks ∧ x.Op = y.Op ∧ x.Name = y.Name ∧ x.sub_P = y.sub_P ∧ x.E = y.E ∧ x.Down = y.Down ∧ x.More = y.More ∧ x.Body = y.Body ∧ x.Else = y.Else ∧ x.End = y.End ∧ x.End2 = y.End2 := by
  cases x; cases y; simp [TStmt.sub_Marks, TStmt.sub_P]; simp only [and_assoc]
theorem bk_Stmt_pos (x : TStmt) : 1 ≤ bk_TStmt x := by cases x; simp [bk_TStmt]
theorem bks_Stmt_len (l : List TStmt) : l.length ≤ bks_TStmt l := by rw [bks_TStmt_eq]; exact len_sum _ bk_Stmt_pos l
theorem bks_Stmt_mem (l : List TStmt) (i : Nat) (hi : i < l.length) : bk_TStmt l[i] ≤ bks_TStmt l := by rw [bks_TStmt_eq]; exact mem_sum _ l i hi
theorem fts_Stmt_mem (l : List TStmt) (hl : fts_TStmt l) (i : Nat) (hi : i < l.length) : ft_TStmt l[i] := (fts_TStmt_iff l).1 hl _ (List.getElem_mem hi)
theorem bk_Stmt (x : TStmt) : bks_v9 x.Marks_Before + bks_v9 x.Marks_Trail + bk_TExpr x.sub_P + bks_TExpr x.E + bks_TStmt x.Body + bks_TStmt x.Else + bks_v9 x.End + bks_v9 x.End2 + 10 ≤ bk_TStmt x := by
  cases x; simp [bk_TStmt, TStmt.sub_P, bk_TExpr]; omega
theorem ft_Stmt (x : TStmt) (hx : ft_TStmt x) : x.Marks_Before.length ≤ maxLen ∧ x.Marks_Trail.length ≤ maxLen ∧ ft_TExpr x.sub_P ∧ (x.E.length ≤ maxLen ∧ fts_TExpr x.E) ∧ (x.Body.length ≤ maxLen ∧ fts_TStmt x.Body) ∧ (x.Else.length ≤ maxLen ∧ fts_TStmt x.Else) ∧ x.End.length ≤ maxLen ∧ x.End2.length ≤ maxLen := by
  cases x; simp only [ft_TStmt] at hx; simp only [TStmt.sub_P, ft_TExpr]
  obtain ⟨⟨a1, _⟩, ⟨a2, _⟩, a3, a4, a5, a6, a7, a8, a9, a10, _, _, a11, a12, ⟨a13, _⟩, ⟨a14, _⟩⟩ := hx
  exact ⟨a1, a2, ⟨a5, a6, a7, a8, a9⟩, a10, a11, a12, a13, a14⟩
theorem L_EqualFunc_Stmt (s : Fam) (k : Nat) (x y : List TStmt) (u : Unit × Unit) : ∀ j v0 v1 v2 v3, Lslices_EqualFunc_Stmt_4 s k x y u j v0 v1 v2 v3 = eqG dd_TStmt (fun a b => s.f_tree_sameStmt (a.re, b.re, ())) j v0 v1 v2 v3 := by
  intro j
  induction j with
  | zero => intros; rfl
  | succ j ih => intros; simp only [Lslices_EqualFunc_Stmt_4, eqG, ih]
theorem Stmt_all : ∀ k, (∀ a b, ft_TStmt a → bk_TStmt a < k → (FF h k).f_tree_sameStmt (a, b, ()) = some (dc (a = b))) ∧
    (∀ l m, l.length ≤ maxLen → fts_TStmt l → bks_TStmt l + 1 < k → (FF h k).f_slices_EqualFunc_Stmt (l, m, ((), ()), ()) = some (dc (l = m))) ∧
    (∀ l m, l.length ≤ maxLen → fts_TStmt l → bks_TStmt l + 1 < k → (FF h k).f_r07_SameStmts (l, m, ()) = some (dc (l = m))) := by
  intro k
  induction k with
  | zero => exact ⟨fun _ _ _ h => absurd h (Nat.not_lt_zero _), fun _ _ _ _ h => absurd h (Nat.not_lt_zero _), fun _ _ _ _ h => absurd h (Nat.not_lt_zero _)⟩
  | succ k ih =>
    obtain ⟨i1, i2, i3⟩ := ih
    refine ⟨fun a b ha hk => ?_, fun l m hm hl hk => ?_, fun l m hm hl hk => ?_⟩
    · show B_tree_sameStmt (FF h k) k a b = _
      have hb := bk_Stmt a
      obtain ⟨a1, a2, a3, a4, a5, a6, a7, a8⟩ := ft_Stmt a ha
      have l1 := bks_v9_len a.Marks_Before
      have l2 := bks_v9_len a.Marks_Trail
      have l3 := bks_v9_len a.End
      have l4 := bks_v9_len a.End2
      obtain ⟨k', rfl⟩ : ∃ k', k = k' + 2 := ⟨k - 2, by omega⟩
      obtain ⟨e1, e2, _, _⟩ := SameExpr_all h (k' + 2)
      simp only [B_tree_sameStmt, marks_ok h k' a.sub_Marks b.sub_Marks (by show a.Marks_Before.length < _; omega) a1 (by show a.Marks_Trail.length < _; omega) a2, e1 a.sub_P b.sub_P a3 (by omega), e2 a.E b.E a4.1 a4.2 (by omega), i2 a.Body b.Body a5.1 a5.2 (by omega), i2 a.Else b.Else a6.1 a6.2 (by omega),
        Equal_string_ok h (k' + 1) a.End b.End (by omega) a7, Equal_string_ok h (k' + 1) a.End2 b.End2 (by omega) a8, Option.bind_some, Bool.true_and, int_dc, ba_dc, bool_dc, and_dc, if_dc]
      exact congrArg some (dc_eq (by rw [TStmt.eq_iff]; simp only [and_assoc]))
    · show B_slices_EqualFunc_Stmt (FF h k) k l m ((), ()) = _
      unfold B_slices_EqualFunc_Stmt
      rw [L_EqualFunc_Stmt]
      have := bks_Stmt_len l
      exact eqF _ _ l m k (by omega) hm fun i hi hi' => by
        have := bks_Stmt_mem l i hi
        rw [TStmt.re_eq, TStmt.re_eq]
        exact i1 _ _ (fts_Stmt_mem l hl i hi) (by omega)
    · show B_r07_SameStmts (FF h k) k l m = _
      unfold B_r07_SameStmts
      have hlen := bks_Stmt_len l
      by_cases hlm : l.length = m.length
      · have h1 : ((l.length : Int) != (m.length : Int)) = false := by simp [hlm]
        rw [if_neg (by rw [h1]; simp)]
        have key : ∀ j i, i ≤ l.length → l.length - i < j → Lr07_SameStmts_4 (FF h k) k l m j l m (i : Int) = some (dc (l.drop i = m.drop i)) := by
          refine up_ind l.length (fun j => ?_) (fun j i hi ihj => ?_)
          · simp only [Lr07_SameStmts_4]
            rw [if_neg (by simp), dc_true (by simp [hlm])]
          · have h' : i < m.length := by omega
            have c1 : decide ((i : Int) < (l.length : Int)) = true := by simpa using hi
            have c2 : (0 : Int) ≤ (i : Int) := by omega
            have c3 : (i : Int) < (l.length : Int) := by omega
            have c4 : (i : Int) < (m.length : Int) := by omega
            have hbi := bks_Stmt_mem l i hi
            have hb := bk_Stmt l[i]
            obtain ⟨a1, a2, a3, a4, a5, a6, a7, a8⟩ := ft_Stmt l[i] (fts_Stmt_mem l hl i hi)
            have l1 := bks_v9_len l[i].Marks_Before
            have l2 := bks_v9_len l[i].Marks_Trail
            have l3 := bks_v9_len l[i].End
            have l4 := bks_v9_len l[i].End2
            obtain ⟨k', rfl⟩ : ∃ k', k = k' + 2 := ⟨k - 2, by omega⟩
            obtain ⟨_, _, e3, e4⟩ := SameExpr_all h (k' + 2)
            simp only [Lr07_SameStmts_4, c1, c2, c3, c4, if_true, getD_at l i _ hi, getD_at m i _ h', wrap_succ hi hm, ihj,
              sameMarks_ok h k' l[i].sub_Marks m[i].sub_Marks (by show l[i].Marks_Before.length < _; omega) a1 (by show l[i].Marks_Trail.length < _; omega) a2, e3 l[i].sub_P m[i].sub_P a3 (by omega), e4 l[i].E m[i].E a4.1 a4.2 (by omega), i3 l[i].Body m[i].Body a5.1 a5.2 (by omega), i3 l[i].Else m[i].Else a6.1 a6.2 (by omega),
              SameTexts_ok h (k' + 1) l[i].End m[i].End (by omega) a7, SameTexts_ok h (k' + 1) l[i].End2 m[i].End2 (by omega) a8, Option.bind_some, Bool.false_or, int_ndc, ba_dc, bool_dc, not_dc, or_dc, ifn_dc, iff_dc]
            refine congrArg some (dc_eq ?_)
            rw [drop_iff l m i hi h', TStmt.eq_iff]
            simp only [not_or, Classical.not_not]
            constructor
            · rintro ⟨⟨⟨⟨⟨b1, b2⟩, b3⟩, b6⟩, b7⟩, b4, b5, b10, b11, b8, b9, b12⟩
              exact ⟨⟨b1, b2, b3, b4, b5, b6, b7, b8, b9, b10, b11⟩, b12⟩
            · rintro ⟨⟨b1, b2, b3, b4, b5, b6, b7, b8, b9, b10, b11⟩, b12⟩
              exact ⟨⟨⟨⟨⟨b1, b2⟩, b3⟩, b6⟩, b7⟩, b4, b5, b10, b11, b8, b9, b12⟩
        have := key k 0 (Nat.zero_le _) (by omega)
        simpa using this
      · have h1 : ((l.length : Int) != (m.length : Int)) = true := by simp; omega
        rw [if_pos h1]
        have : l ≠ m := fun e => hlm (by rw [e])
        rw [dc_false this]
end Go.Ev
end
section
-- PRINTED BY print.sh 35421559b90ae4d0a3588c463048766b98c2df88dd9212a6774a882060cdf62d: not written by this session
-- PRINTED WORDS (module Derived/Print/Words.lean): go-wishes' parts 1 to 38 and go-gate-2's additions: AI agents of Go's test side, Mon Nov 16 2026; no person has read them. Plain theorems and definitions: no macro, no elab, no axiom.
set_option linter.unusedVariables false
set_option linter.unusedSimpArgs false
namespace Go.Proofs.YtokkfbkbnocnoaaGreatDoorW.PrintWords
open Go.RowKit
structure Drawn0 (w w' : World) : Prop where mk :: (out : ∃ n, w' = w.drewN n)
theorem Drawn0.refl (w : World) : Drawn0 w w := ⟨⟨0, rfl⟩⟩
theorem Drawn0.step {w w' : World} (h : Drawn0 w w') (n : Nat) : Drawn0 w (w'.drewN n) := by
  obtain ⟨m, rfl⟩ := h
  exact ⟨⟨m + n, World.drewN_drewN ..⟩⟩
theorem Drawn0.grown {w w' : World} (h : Drawn0 w w') : Grown w w' := by
  obtain ⟨n, rfl⟩ := h
  induction n with
  | zero => exact Grown.refl _
  | succ n ih => rw [← World.drew_drewN]; exact Grown.drew ih
theorem Drawn0.below {w w' : World} (h : Drawn0 w w') : Below w.heap.size w w' := by
  obtain ⟨n, rfl⟩ := h
  induction n with
  | zero => exact Below.refl _ _
  | succ n ih => rw [← World.drew_drewN]; exact ih.drew
def rd (xs : List Int) (i : Int) : Int := xs.getD i.toNat 0
def bt (s : ByteArray) (i : Int) : Int := if h : i.toNat < s.size then ((s[i.toNat]'h).toNat : Int) else 0
theorem below_alloc {w W : World} (h : Below w.heap.size w W) (o : Obj) : Below w.heap.size w (W.alloc o) := h.alloc h.size o
theorem pw_below_drewN {B : Nat} {w W : World} (h : Below B w W) (n : Nat) : Below B w (W.drewN n) := ⟨h.os, h.tape, h.output, h.size, h.block⟩
theorem grown_of_below {w w1 : World} (h : Below w.heap.size w w1) (row : Option Nat) : w.grownBy w1 row := ⟨h.os, h.tape, h.output, h.size, fun i hi _ => h.block i hi⟩
theorem pw_cell_below {w w1 : World} (h : Below w.heap.size w w1) {a : Addr} {v : Value} (hc : w.cell? a = some v) : w1.cell? a = some v := (h.cell (World.block_lt_of_cell? w a hc)).trans hc
def ReadsInt (w : World) (k : IntKind) (A : Option Addr) (n : Nat) (xs : List Int) : Prop :=
  xs.length = n ∧ n ≤ 9223372036854775807 ∧ (0 < n → ∃ ad, A = some ad ∧ ∀ j, j < n → w.cell? (ad.add j) = some (.int k (xs.getD j 0)))
theorem ReadsInt.at_ {w : World} {k : IntKind} {A : Option Addr} {n : Nat} {xs : List Int} (h : ReadsInt w k A n xs) (i : Int) (h0 : 0 ≤ i) (h1 : i < n) : ∃ ad, A = some ad ∧ w.cell? (ad.add i.toNat) = some (.int k (rd xs i)) := by
  obtain ⟨ad, e, hc⟩ := h.2.2 (by omega)
  exact ⟨ad, e, hc _ (by omega)⟩
theorem ReadsInt.below {w w1 : World} {k : IntKind} {A : Option Addr} {n : Nat} {xs : List Int} (h : ReadsInt w k A n xs) (hb : Below w.heap.size w w1) : ReadsInt w1 k A n xs :=
  ⟨h.1, h.2.1, fun hn => by
    obtain ⟨ad, e, hc⟩ := h.2.2 hn
    exact ⟨ad, e, fun j hj => pw_cell_below hb (hc j hj)⟩⟩
theorem own_nil (W : World) (base : Nat) (e : TypeId) (size : Nat) : W.ownsRow base e size (.slice none 0 0) 0 [] := ⟨by simp, .inl ⟨rfl, rfl⟩⟩
theorem own_base {w : World} {base : Nat} {e : TypeId} {size n : Nat} {v : Value} {xs : List Value} (h : w.ownsRow base e size v n xs) (k : Nat) (hk : v.ownBlock = some k) : base ≤ k := by
  rcases h.2 with ⟨rfl, _⟩ | ⟨g, cap, cur, rfl, hb, _⟩
  · simp [Value.ownBlock] at hk
  · have : g = k := by simpa [Value.ownBlock] using hk
    omega
theorem own_lt {w : World} {base : Nat} {e : TypeId} {size n : Nat} {v : Value} {xs : List Value} (h : w.ownsRow base e size v n xs) (k : Nat) (hk : v.ownBlock = some k) : k < w.heap.size := by
  rcases h.2 with ⟨rfl, _⟩ | ⟨g, cap, cur, rfl, hb, hh, _⟩
  · simp [Value.ownBlock] at hk
  · have : g = k := by simpa [Value.ownBlock] using hk
    subst this
    exact (Array.getElem?_eq_some_iff.1 hh).1
theorem pw_own_below {w w1 : World} {base : Nat} {e : TypeId} {size n : Nat} {v : Value} {xs : List Value} (h : w.ownsRow base e size v n xs) (hb : Below w.heap.size w w1) : w1.ownsRow base e size v n xs :=
  h.kept (grown_of_below hb none) (by cases v.ownBlock <;> simp)
theorem own_other {w w1 : World} {base : Nat} {e : TypeId} {size n : Nat} {v : Value} {xs : List Value} (h : w.ownsRow base e size v n xs) {row : Option Nat} (hg : w.grownBy w1 row) (hne : v.ownBlock = none ∨ v.ownBlock ≠ row) : w1.ownsRow base e size v n xs := h.kept hg hne
section
variable {P : Program} {ops : Array Oper} {rest : List Oper} {o : Oper} {a : Act} {Q : Exit → Act → World → Prop}
end
section
variable {P : Program}
end
section
variable {P : Program} {ops : Array Oper} {rest : List Oper} {o : Oper} {a : Act} {Q : Exit → Act → World → Prop}
end
def LeO {α : Type} (a b : Option α) : Prop := ∀ r, a = some r → b = some r
theorem LeO.refl {α : Type} (a : Option α) : LeO a a := fun _ h => h
theorem LeO.none {α : Type} (b : Option α) : LeO Option.none b := fun _ h => by cases h
theorem LeO.trans {α : Type} {a b c : Option α} (h : LeO a b) (k : LeO b c) : LeO a c := fun r hr => k r (h r hr)
theorem LeO.ite {α : Type} {c : Prop} [Decidable c] {a a' b b' : Option α} (h : LeO a a') (k : LeO b b') : LeO (if c then a else b) (if c then a' else b') := by
  split
  · exact h
  · exact k
theorem LeO.bind {α β : Type} {a a' : Option α} {f f' : α → Option β} (h : LeO a a') (k : ∀ x, LeO (f x) (f' x)) : LeO (a.bind f) (a'.bind f') := by
  intro r hr
  obtain ⟨x, hx, hf⟩ := Option.bind_eq_some_iff.1 hr
  exact Option.bind_eq_some_iff.2 ⟨x, h x hx, k x r hf⟩
theorem LeO.map {α β : Type} {a a' : Option α} (f : α → β) (h : LeO a a') : LeO (a.map f) (a'.map f) := by
  intro r hr
  obtain ⟨x, hx, hf⟩ := Option.map_eq_some_iff.1 hr
  exact Option.map_eq_some_iff.2 ⟨x, h x hx, hf⟩
theorem more_rounds {α : Type} {g : Nat → Option α} (h : ∀ k, LeO (g k) (g (k + 1))) (k : Nat) : ∀ j, LeO (g k) (g (k + j))
  | 0 => LeO.refl _
  | j + 1 => (more_rounds h k j).trans (h (k + j))
theorem at_rounds {α : Type} {g : Nat → Option α} (h : ∀ k, LeO (g k) (g (k + 1))) {k k' : Nat} (hk : k ≤ k') {r : α} (hr : g k = some r) : g k' = some r := by
  have := more_rounds h k (k' - k) r hr
  rwa [Nat.add_sub_cancel' hk] at this
def Reps {α : Type} (R : α → List Value → Prop) (size : Nat) (ps : List α) (cs : List Value) : Prop :=
  cs.length = ps.length * size ∧ ∀ j p, ps[j]? = some p → R p ((cs.drop (j * size)).take size)
theorem Reps.none {α : Type} (R : α → List Value → Prop) (size : Nat) : Reps R size [] [] := ⟨by simp, fun j p h => by simp at h⟩
theorem Reps.snoc {α : Type} {R : α → List Value → Prop} {size : Nat} {ps : List α} {cs c : List Value} {p : α} (h : Reps R size ps cs) (hp : R p c) (hc : c.length = size) : Reps R size (ps ++ [p]) (cs ++ c) := by
  refine ⟨by rw [List.length_append, h.1, hc, List.length_append, List.length_singleton, Nat.add_mul, Nat.one_mul], fun j q hq => ?_⟩
  rcases Nat.lt_or_ge j ps.length with hj | hj
  · rw [List.getElem?_append_left hj] at hq
    have h1 : j * size + size ≤ cs.length := by rw [h.1, ← Nat.succ_mul]; exact Nat.mul_le_mul_right _ hj
    have h2 := h.2 j q hq
    rw [List.drop_append_of_le_length (by omega), List.take_append_of_le_length (by rw [List.length_drop]; omega)]
    exact h2
  · have hj' : j = ps.length := by
      have := (List.getElem?_eq_some_iff.1 hq).1
      rw [List.length_append, List.length_singleton] at this
      omega
    subst hj'
    have hq' : p = q := by simpa using hq
    subst hq'
    rw [← h.1, List.drop_left, ← hc, List.take_length]
    exact hp
theorem Reps.imp_ {α : Type} {R R' : α → List Value → Prop} {size : Nat} {ps : List α} {cs : List Value} (h : Reps R size ps cs) (hR : ∀ p c, R p c → R' p c) : Reps R' size ps cs := ⟨h.1, fun j p hj => hR _ _ (h.2 j p hj)⟩
def ReadsRow {α : Type} (R : α → List Value → Prop) (size : Nat) (w : World) (A : Option Addr) (n : Nat) (ps : List α) : Prop :=
  ps.length = n ∧ n ≤ 9223372036854775807 ∧ (0 < n → ∃ ad, A = some ad ∧ ∀ j p, ps[j]? = some p → ∃ c, c.length = size ∧ R p c ∧ ∀ i u, c[i]? = some u → w.cell? (ad.add (j * size + i)) = some u)
theorem ReadsRow.imp_ {α : Type} {R R' : α → List Value → Prop} {size : Nat} {w w1 : World} {A : Option Addr} {n : Nat} {ps : List α} (h : ReadsRow R size w A n ps) (hb : Below w.heap.size w w1) (hR : ∀ p c, R p c → R' p c) : ReadsRow R' size w1 A n ps :=
  ⟨h.1, h.2.1, fun hn => by
    obtain ⟨ad, e, hc⟩ := h.2.2 hn
    refine ⟨ad, e, fun j p hj => ?_⟩
    obtain ⟨c, hs, hr, hcell⟩ := hc j p hj
    exact ⟨c, hs, hR _ _ hr, fun i u hu => pw_cell_below hb (hcell i u hu)⟩⟩
theorem own_reads_row {α : Type} {R : α → List Value → Prop} {w : World} {base n size : Nat} {e : TypeId} {v : Value} {ps : List α} {cs : List Value} (h : w.ownsRow base e size v n cs) (hR : Reps R size ps cs) (hn : ps.length = n) :
    ∃ A c, v = .slice A n c ∧ ReadsRow R size w A n ps := by
  rcases Nat.eq_zero_or_pos n with h0 | h0
  · rcases h.2 with ⟨rfl, rfl⟩ | ⟨g, cap, cur, rfl, _⟩
    · exact ⟨none, 0, rfl, hn, by omega, fun hp => absurd hp (by omega)⟩
    · exact ⟨_, cap, rfl, hn, by omega, fun hp => absurd hp (by omega)⟩
  · obtain ⟨g, cap, rfl, _, _⟩ := h.form h0
    have hm : n ≤ 9223372036854775807 := by
      rcases h.2 with ⟨_, h1⟩ | ⟨g', cap', cur, he, _, _, h1, h2, _⟩
      · omega
      · simp only [maxLen] at h2
        omega
    refine ⟨_, cap, rfl, hn, hm, fun _ => ⟨_, rfl, fun j p hj => ⟨(cs.drop (j * size)).take size, ?_, hR.2 j p hj, fun i u hu => ?_⟩⟩⟩
    · have hjl := (List.getElem?_eq_some_iff.1 hj).1
      have h1 : j * size + size ≤ cs.length := by rw [hR.1, ← Nat.succ_mul]; exact Nat.mul_le_mul_right _ hjl
      rw [List.length_take, List.length_drop]
      omega
    · refine h.cells (g := g) rfl _ u ?_
      rw [List.getElem?_take] at hu
      split at hu
      · rw [List.getElem?_drop] at hu
        exact hu
      · cases hu
section
variable {P : Program} {ops : Array Oper} {rest : List Oper} {o : Oper} {a : Act} {Q : Exit → Act → World → Prop}
theorem print_append_cells {w0 W : World} (base : Nat) (hgd : o.guard = none) (s x : Operand) (t e : TypeId) (z : Value) (size bytes : Nat)
    (ho : o.op = .call { callee := .builtin .append, args := #[s, x], argTypes := #[t, t] })
    (ht : P.underlying t = some (.slice e)) (hinfo : (P.info? e).map (fun i => (i.zero, i.size, i.bytes)) = some (some z, size, bytes)) (hz : z.cells.size = size) (hs0 : 0 < size) (hb0 : 0 < bytes)
    (v : Value) (n : Nat) (xs ys : List Value) (hs : a.eval s = v) (hx : a.eval x = .slice (some ⟨W.heap.size, 0, none⟩) 1 1) (hys : ys.length = size) (h1 : ∀ u ∈ ys, u.oneCell' = true)
    (HO : W.ownsRow base e size v n xs) (HB : Below base w0 W) (hbase : base ≤ W.heap.size) (hl : (n + 1) * bytes ≤ 140737488355328)
    (h : ∀ v1 w1, w1.ownsRow base e size v1 (n + 1) (xs ++ ys) → Below base w0 w1 → W.grownBy w1 v.ownBlock → (v1.ownBlock = v.ownBlock ∨ ∃ b, v1.ownBlock = some b ∧ W.heap.size ≤ b) → wpList P ops Q rest (a.put o.dst v1) w1) :
    wpList P ops Q (o :: rest) a (W.alloc (.cells ys.toArray e)) := by
  obtain ⟨i0, hi, hzz⟩ := Option.map_eq_some_iff.1 hinfo
  simp only [Prod.mk.injEq] at hzz
  obtain ⟨hz0, hz1, hz2⟩ := hzz
  have hlen : n + 1 ≤ 140737488355328 := Nat.le_trans (Nat.le_mul_of_pos_right _ hb0) hl
  refine wpList_append_own_at (W.alloc (.cells ys.toArray e)) hgd s x t ho base e i0 z size bytes ht hi hz0 hz1 hz2 hz hs0 v n xs hs (HO.alloc _) ⟨W.heap.size, 0, none⟩ 1 1 ys hx (by rw [hys]; simp)
    (by simpa using World.news_of_block (cs := ys.toArray) (t := e) (fr := (0, 0)) (heap_alloc_new W (.cells ys.toArray e))) h1 (by simp only [maxLen]; omega) hl (by simp; omega) ?_
  intro v1 w1 hown hg _ hat
  refine h v1 w1 hown ((HB.alloc hbase _).grown hg (by simp; omega) (own_base HO)) (World.grownBy.trans (World.grownBy_alloc W _ _) hg) ?_
  rcases hat with hat | hat
  · exact .inl hat
  · exact .inr ⟨_, hat, by simp⟩
end
theorem own_ne {w : World} {base : Nat} {e t : TypeId} {size n g : Nat} {v : Value} {xs : List Value} {cs : Array Value} (h : w.ownsRow base e size v n xs) (hg : w.heap[g]? = some (.cells cs t (0, 0))) (hne : e ≠ t) : some g ≠ v.ownBlock := by
  rcases h.2 with ⟨rfl, _⟩ | ⟨g', cap, cur, rfl, _, hh, _⟩
  · simp [Value.ownBlock]
  · intro he
    have : g = g' := by simpa [Value.ownBlock] using he
    subst this
    rw [hg] at hh
    injection hh with hh
    injection hh with _ ht
    exact hne ht.symm
theorem blk_lt {w : World} {g : Nat} {o : Obj} (h : w.heap[g]? = some o) : g < w.heap.size := (Array.getElem?_eq_some_iff.1 h).1
def KeepBut (w w' : World) (g : Nat) (row : Option Nat) : Prop := w.heap.size ≤ w'.heap.size ∧ ∀ i, i < w.heap.size → i ≠ g → some i ≠ row → w'.heap[i]? = w.heap[i]?
theorem KeepBut.refl (w : World) (g : Nat) (row : Option Nat) : KeepBut w w g row := ⟨Nat.le_refl _, fun _ _ _ _ => rfl⟩
theorem KeepBut.trans {w w1 w2 : World} {g : Nat} {row row1 : Option Nat} (h : KeepBut w w1 g row) (k : KeepBut w1 w2 g row1) (hr : row1 = row ∨ ∃ b, row1 = some b ∧ w.heap.size ≤ b) : KeepBut w w2 g row :=
  ⟨Nat.le_trans h.1 k.1, fun i hi hg hn => by
    refine (k.2 i (Nat.lt_of_lt_of_le hi h.1) hg ?_).trans (h.2 i hi hg hn)
    rcases hr with rfl | ⟨b, rfl, hb⟩
    · exact hn
    · intro e
      injection e with e
      omega⟩
theorem KeepBut.blk {w w1 : World} {g g' : Nat} {row : Option Nat} {o : Obj} (h : KeepBut w w1 g row) (hb : w.heap[g']? = some o) (hg : g' ≠ g) (hr : some g' ≠ row) : w1.heap[g']? = some o := (h.2 g' (blk_lt hb) hg hr).trans hb
theorem KeepBut.own {w w1 : World} {g : Nat} {row : Option Nat} {base : Nat} {e : TypeId} {size n : Nat} {v : Value} {xs : List Value} (h : KeepBut w w1 g row) (ho : w.ownsRow base e size v n xs) (hg : v.ownBlock ≠ some g) (hr : v.ownBlock = none ∨ v.ownBlock ≠ row) : w1.ownsRow base e size v n xs := by
  obtain ⟨h1, h2⟩ := ho
  refine ⟨h1, ?_⟩
  rcases h2 with h2 | ⟨b, cap, cur, rfl, hb, hh, r⟩
  · exact .inl h2
  · refine .inr ⟨b, cap, cur, rfl, hb, h.blk hh ?_ ?_, r⟩
    · intro e
      exact hg (by rw [← e]; rfl)
    · rcases hr with hr | hr
      · simp [Value.ownBlock] at hr
      · exact hr
def Ev {α : Type} (g : Nat → Option α) (r : α) : Prop := ∃ K, ∀ k, K ≤ k → g k = some r
theorem Ev.of {α : Type} {g : Nat → Option α} {r : α} (hg : ∀ k, LeO (g k) (g (k + 1))) {k : Nat} (h : g k = some r) : Ev g r := ⟨k, fun _ hk => at_rounds hg hk h⟩
theorem Ev.now {α : Type} (r : α) : Ev (fun _ => some r) r := ⟨0, fun _ _ => rfl⟩
theorem Ev.rounds {α : Type} {g : Nat → Option α} {r : α} (h : Ev g r) : ∃ k, g k = some r := by
  obtain ⟨K, h⟩ := h
  exact ⟨K, h K (Nat.le_refl _)⟩
theorem Ev.bind {α β : Type} {g : Nat → Option α} {f : Nat → α → Option β} {a : α} {r : β} (h : Ev g a) (k : Ev (fun n => f n a) r) : Ev (fun n => (g n).bind (f n)) r := by
  obtain ⟨K, h⟩ := h
  obtain ⟨K', k⟩ := k
  refine ⟨max K K', fun n hn => ?_⟩
  have h1 := h n (by omega)
  have h2 := k n (by omega)
  simp only [h1, Option.bind_some]
  exact h2
theorem Ev.step {α : Type} {g f : Nat → Option α} {r : α} (h : ∀ k, g (k + 1) = f k) (k : Ev f r) : Ev g r := by
  obtain ⟨K, k⟩ := k
  refine ⟨K + 1, fun n hn => ?_⟩
  obtain ⟨m, rfl⟩ : ∃ m, n = m + 1 := ⟨n - 1, by omega⟩
  rw [h]
  exact k m (by omega)
theorem Ev.congr {α : Type} {g f : Nat → Option α} {r : α} (h : ∀ k, g k = f k) (k : Ev f r) : Ev g r := by
  obtain ⟨K, k⟩ := k
  exact ⟨K, fun n hn => (h n).trans (k n hn)⟩
section
variable {P : Program} {ops : Array Oper} {o : Oper} {a : Act} {Q : Exit → Act → World → Prop} {K : Act → World → Prop}
end
theorem own_weaken {w : World} {base base' : Nat} {e : TypeId} {size n : Nat} {v : Value} {xs : List Value} (h : w.ownsRow base e size v n xs) (hb : base' ≤ base) : w.ownsRow base' e size v n xs := by
  obtain ⟨h1, h2⟩ := h
  refine ⟨h1, ?_⟩
  rcases h2 with h2 | ⟨g, cap, cur, rfl, hg, r⟩
  · exact .inl h2
  · exact .inr ⟨g, cap, cur, rfl, Nat.le_trans hb hg, r⟩
section
variable {α : Type} {enc : α → Value} {d : α}
def rdOf (d : α) (xs : List α) (i : Int) : α := xs.getD i.toNat d
def ReadsOf (enc : α → Value) (d : α) (w : World) (A : Option Addr) (n : Nat) (xs : List α) : Prop :=
  xs.length = n ∧ n ≤ 9223372036854775807 ∧ (0 < n → ∃ ad, A = some ad ∧ ∀ j, j < n → w.cell? (ad.add j) = some (enc (xs.getD j d)))
theorem ReadsOf.at_ {w : World} {A : Option Addr} {n : Nat} {xs : List α} (h : ReadsOf enc d w A n xs) (i : Int) (h0 : 0 ≤ i) (h1 : i < n) : ∃ ad, A = some ad ∧ w.cell? (ad.add i.toNat) = some (enc (rdOf d xs i)) := by
  obtain ⟨ad, e, hc⟩ := h.2.2 (by omega)
  exact ⟨ad, e, hc _ (by omega)⟩
theorem ReadsOf.below {w w1 : World} {A : Option Addr} {n : Nat} {xs : List α} (h : ReadsOf enc d w A n xs) (hb : Below w.heap.size w w1) : ReadsOf enc d w1 A n xs :=
  ⟨h.1, h.2.1, fun hn => by
    obtain ⟨ad, e, hc⟩ := h.2.2 hn
    exact ⟨ad, e, fun j hj => pw_cell_below hb (hc j hj)⟩⟩
end
section
variable {α : Type} {P : Program} {ops : Array Oper} {rest : List Oper} {o : Oper} {a : Act} {Q : Exit → Act → World → Prop}
end
section
variable {P : Program}
end
theorem own_le {w : World} {base n m c size : Nat} {e : TypeId} {A : Option Addr} {xs : List Value} (h : w.ownsRow base e size (.slice A m c) n xs) : m ≤ c := by
  rcases h.2 with ⟨he, _⟩ | ⟨g, cap, cur, he, _, _, hnc, _⟩
  · injection he with _ h2 h3
    omega
  · injection he with _ h2 h3
    omega
def OwnRow {α : Type} (R : α → List Value → Prop) (e : TypeId) (size : Nat) (w : World) (base : Nat) (v : Value) (ps : List α) : Prop :=
  ∃ inner, w.ownsRow base e size v ps.length inner ∧ Reps R size ps inner
section
variable {α : Type} {R R' : α → List Value → Prop} {e : TypeId} {size : Nat} {w w1 : World} {base : Nat} {v : Value} {ps : List α}
theorem OwnRow.none_ (R : α → List Value → Prop) (e : TypeId) (size : Nat) (w : World) (base : Nat) : OwnRow R e size w base (.slice none 0 0) [] := ⟨[], own_nil _ _ _ _, Reps.none _ _⟩
theorem OwnRow.imp_ (h : OwnRow R e size w base v ps) (hR : ∀ p c, R p c → R' p c) : OwnRow R' e size w base v ps := by
  obtain ⟨inner, ho, hr⟩ := h
  exact ⟨inner, ho, hr.imp_ hR⟩
theorem OwnRow.below (h : OwnRow R e size w base v ps) (hb : Below w.heap.size w w1) : OwnRow R e size w1 base v ps := by
  obtain ⟨inner, ho, hr⟩ := h
  exact ⟨inner, pw_own_below ho hb, hr⟩
theorem OwnRow.other (h : OwnRow R e size w base v ps) {row : Option Nat} (hg : w.grownBy w1 row) (hne : v.ownBlock = none ∨ v.ownBlock ≠ row) : OwnRow R e size w1 base v ps := by
  obtain ⟨inner, ho, hr⟩ := h
  exact ⟨inner, own_other ho hg hne, hr⟩
theorem OwnRow.keep (h : OwnRow R e size w base v ps) {g : Nat} {t : TypeId} {cells : Array Value} (hb : w.heap[g]? = some (.cells cells t (0, 0))) (ht : e ≠ t) (hk : KeepBut w w1 g none) : OwnRow R e size w1 base v ps := by
  obtain ⟨inner, ho, hr⟩ := h
  exact ⟨inner, hk.own ho (Ne.symm (own_ne ho hb ht)) (by cases v.ownBlock <;> simp), hr⟩
theorem OwnRow.reads (h : OwnRow R e size w base v ps) : ∃ A c, v = .slice A ps.length c ∧ ps.length ≤ c ∧ ReadsRow R size w A ps.length ps := by
  obtain ⟨inner, ho, hr⟩ := h
  obtain ⟨A, c, rfl, hrow⟩ := own_reads_row ho hr rfl
  exact ⟨A, c, rfl, own_le ho, hrow⟩
theorem OwnRow.lit (W : World) (base : Nat) {inner : List Value} (hr : Reps R size ps inner) (hb : base ≤ W.heap.size) (hm : ps.length ≤ 9223372036854775807) :
    OwnRow R e size (W.alloc (.cells inner.toArray e)) base (.slice (some ⟨W.heap.size, 0, none⟩) ps.length ps.length) ps := by
  have h := World.ownsRow_lit (base := base) (e := e) (size := size) W inner.toArray ps.length hb (by simpa [maxLen] using hm) (by simpa using hr.1)
  exact ⟨inner, by simpa using h, hr⟩
end
section
variable {P : Program} {ops : Array Oper} {rest : List Oper} {o : Oper} {a : Act} {Q : Exit → Act → World → Prop} {α : Type} {R : α → List Value → Prop}
theorem OwnRow.append {w0 W : World} (base : Nat) (hgd : o.guard = none) (s x : Operand) (t e : TypeId) (z : Value) (size bytes : Nat)
    (ho : o.op = .call { callee := .builtin .append, args := #[s, x], argTypes := #[t, t] })
    (ht : P.underlying t = some (.slice e)) (hinfo : (P.info? e).map (fun i => (i.zero, i.size, i.bytes)) = some (some z, size, bytes)) (hz : z.cells.size = size) (hs0 : 0 < size) (hb0 : 0 < bytes)
    (v : Value) (ps : List α) (p : α) (cs : List Value) (hs : a.eval s = v) (hx : a.eval x = .slice (some ⟨W.heap.size, 0, none⟩) 1 1) (hp : R p cs) (hcs : cs.length = size) (h1 : ∀ u ∈ cs, u.oneCell' = true)
    (HO : OwnRow R e size W base v ps) (HB : Below base w0 W) (hbase : base ≤ W.heap.size) (hl : (ps.length + 1) * bytes ≤ 140737488355328)
    (h : ∀ v1 w1, OwnRow R e size w1 base v1 (ps ++ [p]) → Below base w0 w1 → W.grownBy w1 v.ownBlock → (v1.ownBlock = v.ownBlock ∨ ∃ b, v1.ownBlock = some b ∧ W.heap.size ≤ b) → wpList P ops Q rest (a.put o.dst v1) w1) :
    wpList P ops Q (o :: rest) a (W.alloc (.cells cs.toArray e)) := by
  obtain ⟨inner, hown, hr⟩ := HO
  refine print_append_cells base hgd s x t e z size bytes ho ht hinfo hz hs0 hb0 v ps.length inner cs hs hx hcs h1 hown HB hbase hl ?_
  intro v1 w1 hown1 hb1 hg1 hat1
  exact h v1 w1 ⟨inner ++ cs, by rw [List.length_append, List.length_singleton]; exact hown1, hr.snoc hp hcs⟩ hb1 hg1 hat1
end
section
variable {P : Program} {ops : Array Oper} {o : Oper} {a : Act} {Q : Exit → Act → World → Prop} {K : Act → World → Prop} {α : Type} {R : α → List Value → Prop}
end
section
variable {α : Type} {P : Program}
theorem ReadsOf.len_ {enc : α → Value} {d : α} {w : World} {A : Option Addr} {n : Nat} {xs : List α} (h : ReadsOf enc d w A n xs) : ReadsOf enc d w A xs.length xs := by rw [h.1]; exact h
end
section
variable {P : Program} {ops : Array Oper} {rest : List Oper} {o : Oper} {a : Act} {Q : Exit → Act → World → Prop}
end
structure Kd (α : Type) where
  sz : Nat
  E : List Nat
  K : World → α → List Value → Prop
  M : World → Nat → (Nat → Prop) → α → List Value → Prop
  K_len : ∀ {w x cs}, K w x cs → cs.length = sz
  K_one : ∀ {w x cs}, K w x cs → ∀ u ∈ cs, u.oneCell' = true
  K_below : ∀ {w w1 : World} {x cs}, Below w.heap.size w w1 → K w x cs → K w1 x cs
  K_of_M : ∀ {w base ok x cs}, M w base ok x cs → K w x cs
  M_mono : ∀ {w base ok ok' x cs}, (∀ k, ok k → ok' k) → M w base ok x cs → M w base ok' x cs
  M_bound : ∀ {w : World} {base ok x cs}, M w base ok x cs → M w base (fun k => ok k ∧ base ≤ k ∧ k < w.heap.size ∧ ∃ q, q ∈ E ∧ ∃ cells, w.heap[k]? = some (.cells cells q (0, 0))) x cs
  M_move : ∀ {w w1 : World} {base ok x cs}, (∀ k, ok k → w1.heap[k]? = w.heap[k]?) → M w base ok x cs → M w1 base ok x cs
  M_lower : ∀ {w base base' ok x cs}, base' ≤ base → M w base ok x cs → M w base' ok x cs
theorem own_move {w w1 : World} {base : Nat} {e : TypeId} {size n : Nat} {v : Value} {xs : List Value} (h : w.ownsRow base e size v n xs) (hm : ∀ k, v.ownBlock = some k → w1.heap[k]? = w.heap[k]?) : w1.ownsRow base e size v n xs := by
  obtain ⟨h1, h2⟩ := h
  refine ⟨h1, ?_⟩
  rcases h2 with h2 | ⟨g, cap, cur, rfl, hg, hh, r⟩
  · exact .inl h2
  · exact .inr ⟨g, cap, cur, rfl, hg, (hm g (by simp [Value.ownBlock])).trans hh, r⟩
theorem own_typed {w : World} {base : Nat} {e : TypeId} {size n : Nat} {v : Value} {xs : List Value} (h : w.ownsRow base e size v n xs) (k : Nat) (hk : v.ownBlock = some k) : ∃ cells, w.heap[k]? = some (.cells cells e (0, 0)) := by
  rcases h.2 with ⟨rfl, _⟩ | ⟨g, cap, cur, rfl, hg, hh, r⟩
  · simp [Value.ownBlock] at hk
  · have : g = k := by simpa [Value.ownBlock] using hk
    subst this
    exact ⟨cur, hh⟩
namespace Kd
def C {α : Type} (d : Kd α) (w : World) (A : Option Addr) (n : Nat) (xs : List α) : Prop := ReadsRow (d.K w) d.sz w A n xs
def R {α : Type} (d : Kd α) (e : Nat) (w : World) (base : Nat) (ok : Nat → Prop) (v : Value) (xs : List α) : Prop :=
  (∀ k, v.ownBlock = some k → ok k) ∧ OwnRow (d.M w base (fun k => ok k ∧ some k ≠ v.ownBlock)) e d.sz w base v xs
section
variable {α : Type} {d : Kd α} {e : Nat} {w w1 : World} {base : Nat} {ok ok' : Nat → Prop} {v : Value} {xs : List α}
theorem C_below {A : Option Addr} {n : Nat} (h : d.C w A n xs) (hb : Below w.heap.size w w1) : d.C w1 A n xs := ReadsRow.imp_ h hb (fun _ _ hp => d.K_below hb hp)
theorem R_nil (d : Kd α) (e : Nat) (w : World) (base : Nat) (ok : Nat → Prop) : d.R e w base ok (.slice none 0 0) [] := ⟨fun k hk => by simp [Value.ownBlock] at hk, OwnRow.none_ _ _ _ _ _⟩
theorem R_mono (h : d.R e w base ok v xs) (hok : ∀ k, ok k → ok' k) : d.R e w base ok' v xs := ⟨fun k hk => hok k (h.1 k hk), h.2.imp_ (fun _ _ hp => d.M_mono (fun k hk => ⟨hok k hk.1, hk.2⟩) hp)⟩
theorem R_bound (h : d.R e w base ok v xs) : d.R e w base (fun k => ok k ∧ base ≤ k ∧ k < w.heap.size ∧ ∃ q, q ∈ e :: d.E ∧ ∃ cells, w.heap[k]? = some (.cells cells q (0, 0))) v xs := by
  obtain ⟨h0, inner, ho, hr⟩ := h
  refine ⟨fun k hk => ?_, inner, ho, hr.imp_ (fun _ _ hp => d.M_mono (fun k hk => ?_) (d.M_bound hp))⟩
  · obtain ⟨cells, hc⟩ := own_typed ho k hk
    exact ⟨h0 k hk, own_base ho k hk, own_lt ho k hk, e, List.mem_cons_self, cells, hc⟩
  · obtain ⟨⟨h1, h2⟩, h3, h4, q, hq, hc⟩ := hk
    exact ⟨⟨h1, h3, h4, q, List.mem_cons_of_mem _ hq, hc⟩, h2⟩
theorem R_move (h : d.R e w base ok v xs) (hm : ∀ k, ok k → w1.heap[k]? = w.heap[k]?) : d.R e w1 base ok v xs := by
  obtain ⟨h0, inner, ho, hr⟩ := h
  exact ⟨h0, inner, own_move ho (fun k hk => hm k (h0 k hk)), hr.imp_ (fun _ _ hp => d.M_move (fun k hk => hm k hk.1) hp)⟩
theorem R_lower {base' : Nat} (h : d.R e w base ok v xs) (hb : base' ≤ base) : d.R e w base' ok v xs := by
  obtain ⟨h0, inner, ho, hr⟩ := h
  exact ⟨h0, inner, own_weaken ho hb, hr.imp_ (fun _ _ hp => d.M_lower hb hp)⟩
theorem R_reads (h : d.R e w base ok v xs) : ∃ A c, v = .slice A xs.length c ∧ xs.length ≤ c ∧ d.C w A xs.length xs := by
  obtain ⟨A, c, he, hl, hr⟩ := OwnRow.reads h.2
  exact ⟨A, c, he, hl, hr.imp_ (Below.refl _ _) (fun _ _ hp => d.K_of_M hp)⟩
theorem R_own (h : d.R e w base ok v xs) : ∃ inner, w.ownsRow base e d.sz v xs.length inner := by
  obtain ⟨_, inner, ho, _⟩ := h
  exact ⟨inner, ho⟩
end
def scalar {α : Type} (enc : α → Value) (h1 : ∀ x, (enc x).oneCell' = true) : Kd α where
  sz := 1
  E := []
  K := fun _ x cs => cs = [enc x]
  M := fun _ _ _ x cs => cs = [enc x]
  K_len := fun h => by rw [h]; rfl
  K_one := fun h u hu => by
    rw [h] at hu
    rw [List.mem_singleton.1 hu]
    exact h1 _
  K_below := fun _ h => h
  K_of_M := fun h => h
  M_mono := fun _ h => h
  M_bound := fun h => h
  M_move := fun _ h => h
  M_lower := fun _ h => h
def int (k : IntKind) : Kd Int := scalar (Value.int k) (fun _ => rfl)
def bool : Kd Bool := scalar Value.bool (fun _ => rfl)
def string : Kd ByteArray := scalar Value.string (fun _ => rfl)
def slice {α : Type} (e : Nat) (d : Kd α) : Kd (List α) where
  sz := 1
  E := e :: d.E
  K := fun w xs cs => ∃ A c, cs = [.slice A xs.length c] ∧ xs.length ≤ c ∧ d.C w A xs.length xs
  M := fun w base ok xs cs => ∃ v, cs = [v] ∧ d.R e w base ok v xs
  K_len := by
    rintro w x cs ⟨A, c, rfl, _⟩
    rfl
  K_one := by
    rintro w x cs ⟨A, c, rfl, _⟩ u hu
    rw [List.mem_singleton.1 hu]
    rfl
  K_below := by
    rintro w w1 x cs hb ⟨A, c, rfl, hl, hr⟩
    exact ⟨A, c, rfl, hl, C_below hr hb⟩
  K_of_M := by
    rintro w base ok x cs ⟨v, rfl, h⟩
    obtain ⟨A, c, rfl, hl, hr⟩ := R_reads h
    exact ⟨A, c, rfl, hl, hr⟩
  M_mono := by
    rintro w base ok ok' x cs hok ⟨v, rfl, h⟩
    exact ⟨v, rfl, R_mono h hok⟩
  M_bound := by
    rintro w base ok x cs ⟨v, rfl, h⟩
    exact ⟨v, rfl, R_bound h⟩
  M_move := by
    rintro w w1 base ok x cs hm ⟨v, rfl, h⟩
    exact ⟨v, rfl, R_move h hm⟩
  M_lower := by
    rintro w base base' ok x cs hb ⟨v, rfl, h⟩
    exact ⟨v, rfl, R_lower h hb⟩
def bot {α : Type} (sz : Nat) (E : List Nat) : Kd α where
  sz := sz
  E := E
  K := fun _ _ _ => False
  M := fun _ _ _ _ _ => False
  K_len := fun h => h.elim
  K_one := fun h => h.elim
  K_below := fun _ h => h
  K_of_M := fun h => h
  M_mono := fun _ h => h
  M_bound := fun h => h
  M_move := fun _ h => h
  M_lower := fun _ h => h
def upto {α : Type} (F : Kd α → Kd α) (sz : Nat) (E : List Nat) : Nat → Kd α
  | 0 => bot sz E
  | n + 1 => F (upto F sz E n)
section
variable {P : Program} {ops : Array Oper} {rest : List Oper} {o : Oper} {a : Act} {Q : Exit → Act → World → Prop} {α : Type}
end
section
variable {P : Program} {ops : Array Oper} {o : Oper} {a : Act} {Q : Exit → Act → World → Prop} {Kc : Act → World → Prop} {α : Type}
end
theorem reads_of_C {α : Type} {enc : α → Value} {d : α} {h1 : ∀ x, (enc x).oneCell' = true} {w : World} {A : Option Addr} {n : Nat} {xs : List α} (h : (scalar enc h1).C w A n xs) : ReadsOf enc d w A n xs := by
  refine ⟨h.1, h.2.1, fun hn => ?_⟩
  obtain ⟨ad, e, hc⟩ := h.2.2 hn
  refine ⟨ad, e, fun j hj => ?_⟩
  have hl : j < xs.length := by have := h.1; omega
  obtain ⟨c, _, hK, hcell⟩ := hc j _ (List.getElem?_eq_getElem hl)
  have hK' : c = [enc xs[j]] := hK
  subst hK'
  have := hcell 0 _ rfl
  simpa [scalar, List.getD_eq_getElem?_getD, List.getElem?_eq_getElem hl] using this
end Kd
namespace Kd
def Sub {α β : Type} (F : Kd α → Kd β) (E : List Nat) : Prop := ∀ d : Kd α, (∀ q, q ∈ d.E → q ∈ E) → ∀ q, q ∈ (F d).E → q ∈ E
section
variable {α : Type} {F : Kd α → Kd α} {sz : Nat} {E : List Nat} {hs : ∀ n, (upto F sz E n).sz = sz} {hE : ∀ n q, q ∈ (upto F sz E n).E → q ∈ E}
end
end Kd
namespace Kd
end Kd
namespace Kd
section
variable {α β : Type} {d : Kd α} {d' : Kd β} {e e' : Nat} {w w1 W : World} {base b b' : Nat} {ok ok' okv oku : Nat → Prop} {v u : Value} {xs : List α} {ys : List β}
end
section
variable {w W : World} {A : Option Addr} {n : Nat}
theorem at_string {xs : List ByteArray} (h : Kd.string.C w A n xs) (i : Int) (h0 : 0 ≤ i) (h1 : i < n) : ∃ ad, A = some ad ∧ w.cell? (ad.add i.toNat) = some (.string (rdOf ByteArray.empty xs i)) :=
  ReadsOf.at_ (reads_of_C (enc := Value.string) (d := ByteArray.empty) (h1 := fun _ => rfl) h) i h0 h1
variable {α : Type} {enc : α → Value} {h1 : ∀ x, (enc x).oneCell' = true} {e base g cap : Nat} {ok : Nat → Prop} {xs : List α}
end
section
variable {P : Program} {ops : Array Oper} {rest : List Oper} {o : Oper} {a : Act} {Q : Exit → Act → World → Prop}
variable {α : Type}
end
end Kd
section
variable {P : Program}
end
def QRow (w : World) (base : Nat) (e : TypeId) (size : Nat) (v : Value) (n : Nat) (xs : List Value) : Prop :=
  xs.length = n * size ∧
  ((n = 0 ∧ ∃ A, v = .slice A 0 0 ∧ ∀ a, A = some a → base ≤ a.block ∧ ∃ cur, w.heap[a.block]? = some (.cells cur e (0, 0))) ∨
   ∃ g off cap cur, v = .slice (some ⟨g, off * size, none⟩) n cap ∧ base ≤ g ∧ w.heap[g]? = some (.cells cur e (0, 0)) ∧ n ≤ cap ∧ off + cap ≤ maxLen ∧ cur.size = (off + cap) * size ∧ (cur.toList.drop (off * size)).take (n * size) = xs)
section
variable {w w1 : World} {base n size : Nat} {e : TypeId} {v : Value} {xs : List Value}
theorem add_at (g o j : Nat) : (⟨g, o, none⟩ : Addr).add j = ⟨g, o + j, none⟩ := by unfold Addr.add; split <;> simp_all
end
section
variable {P : Program}
end
namespace Kd
def Q {α : Type} (d : Kd α) (e : Nat) (w : World) (base : Nat) (ok : Nat → Prop) (v : Value) (xs : List α) : Prop :=
  (∀ k, v.ownBlock = some k → ok k) ∧ ∃ inner, QRow w base e d.sz v xs.length inner ∧ Reps (d.M w base (fun k => ok k ∧ some k ≠ v.ownBlock)) d.sz xs inner
section
variable {α : Type} {d : Kd α} {e : Nat} {w w1 W : World} {base : Nat} {ok ok' : Nat → Prop} {v : Value} {xs : List α}
end
section
variable {P : Program} {ops : Array Oper} {rest : List Oper} {o : Oper} {a : Act} {Q' : Exit → Act → World → Prop} {Kc : Act → World → Prop} {α : Type}
end
end Kd
namespace Kd
section
variable {α : Type} {d : Kd α} {e e' : Nat} {w w1 W : World} {base : Nat} {ok : Nat → Prop} {u v : Value} {xs : List α}
end
end Kd
namespace Kd
section
variable {α : Type} {d : Kd α} {e base g n cap : Nat} {ok okp : Nat → Prop} {W : World} {xs : List α}
end
end Kd
namespace Kd
section
variable {α : Type} {F : Kd α → Kd α} {sz : Nat} {E : List Nat} {hs : ∀ n, (upto F sz E n).sz = sz} {hE : ∀ n q, q ∈ (upto F sz E n).E → q ∈ E}
end
end Kd
namespace Kd
section
variable {P : Program} {ops : Array Oper} {rest : List Oper} {o : Oper} {a : Act} {Q : Exit → Act → World → Prop} {α : Type}
end
end Kd
namespace Kd
section
variable {P : Program} {ops : Array Oper} {rest : List Oper} {o : Oper} {a : Act} {Q : Exit → Act → World → Prop} {α : Type}
end
end Kd
theorem add_add (a : Addr) (i j : Nat) : (a.add i).add j = a.add (i + j) := by
  unfold Addr.add
  by_cases h1 : i = 0 <;> by_cases h2 : j = 0 <;> simp [h1, h2, Nat.add_assoc]
namespace Kd
section
variable {α : Type} {k : Kd α} {w : World} {A : Option Addr} {xs : List α} {m c : Nat}
end
end Kd
section
variable {P : Program}
end
theorem ReadsInt.nil (W : World) (k : IntKind) : ReadsInt W k none ([] : List Int).length [] := ⟨rfl, by simp, fun h => absurd h (Nat.lt_irrefl 0)⟩
theorem ReadsInt.drewN {W : World} {k : IntKind} {A : Option Addr} {n : Nat} {xs : List Int} (h : ReadsInt W k A n xs) (m : Nat) : ReadsInt (W.drewN m) k A n xs := h
theorem keep_cell {w W : World} {g : Nat} (h : KeepBut w W g none) {a : Addr} {v : Value} (hc : w.cell? a = some v) (hne : a.block ≠ g) : W.cell? a = some v := by
  have := h.2 a.block (World.block_lt_of_cell? w a hc) hne (by simp)
  simpa [World.cell?, this] using hc
theorem add_block (a : Addr) (i : Nat) : (a.add i).block = a.block := by unfold Addr.add; split <;> rfl
theorem ReadsOf.nil {α : Type} (enc : α → Value) (d : α) (W : World) : ReadsOf enc d W none ([] : List α).length [] := ⟨rfl, by simp, fun h => absurd h (Nat.lt_irrefl 0)⟩
theorem ReadsOf.drewN {α : Type} {enc : α → Value} {d : α} {W : World} {A : Option Addr} {n : Nat} {xs : List α} (h : ReadsOf enc d W A n xs) (m : Nat) : ReadsOf enc d (W.drewN m) A n xs := h
theorem ReadsInt.keep {w W : World} {k : IntKind} {A : Option Addr} {n g : Nat} {xs : List Int} (h : ReadsInt w k A n xs) (hk : KeepBut w W g none) (hf : ∀ ad, A = some ad → 0 < n → ad.block ≠ g) : ReadsInt W k A n xs :=
  ⟨h.1, h.2.1, fun hn => by
    obtain ⟨ad, e, hc⟩ := h.2.2 hn
    exact ⟨ad, e, fun j hj => keep_cell hk (hc j hj) (by rw [add_block]; exact hf ad e hn)⟩⟩
theorem ReadsOf.keep {α : Type} {enc : α → Value} {d : α} {w W : World} {A : Option Addr} {n g : Nat} {xs : List α} (h : ReadsOf enc d w A n xs) (hk : KeepBut w W g none) (hf : ∀ ad, A = some ad → 0 < n → ad.block ≠ g) : ReadsOf enc d W A n xs :=
  ⟨h.1, h.2.1, fun hn => by
    obtain ⟨ad, e, hc⟩ := h.2.2 hn
    exact ⟨ad, e, fun j hj => keep_cell hk (hc j hj) (by rw [add_block]; exact hf ad e hn)⟩⟩
namespace Kd
section
variable {α β : Type} {d : Kd α} {d' : Kd β} {e e' base base' n : Nat} {ok ok' : Nat → Prop} {w W w1 W1 : World} {v u : Value} {xs : List α} {ys : List β} {A : Option Addr} {c : Nat}
end
section
variable {α : Type} {enc : α → Value} {h1 : ∀ x, (enc x).oneCell' = true} {w W : World} {A : Option Addr} {n g : Nat} {xs : List α}
end
end Kd
namespace Kd
section
variable {α : Type} {d : Kd α} {e base g : Nat} {ok : Nat → Prop} {w w1 : World} {v : Value} {xs : List α} {o : Obj}
end
end Kd
section
variable {P : Program} {ops : Array Oper} {rest : List Oper} {o : Oper} {a : Act} {Q : Exit → Act → World → Prop}
end
namespace Kd
section
variable {α : Type} {enc : α → Value} {h1 : ∀ x, (enc x).oneCell' = true} {e base g n cap : Nat} {ok : Nat → Prop} {W : World} {xs : List α}
end
end Kd
section
variable {P : Program} {ops : Array Oper} {rest : List Oper} {o : Oper} {a : Act} {Q : Exit → Act → World → Prop}
end
namespace Kd
section
variable {α : Type} {enc : α → Value} {h1 : ∀ x, (enc x).oneCell' = true} {e base g n cap : Nat} {ok : Nat → Prop} {W : World} {xs : List α}
end
end Kd
section
variable {P : Program} {ops : Array Oper} {rest : List Oper} {o : Oper} {a : Act} {Q : Exit → Act → World → Prop} {W : World}
end
section
variable {P : Program} {ops : Array Oper} {o : Oper} {a : Act} {Q : Exit → Act → World → Prop} {Kc : Act → World → Prop}
namespace Kd
variable {α : Type}
end Kd
end
section
variable {P : Program} {tmps : Array Value} {w : World}
end
namespace Kd
section
variable {P : Program} {α : Type}
end
section
variable {P : Program} {ops : Array Oper} {rest : List Oper} {o : Oper} {a : Act} {Q : Exit → Act → World → Prop} {Kc : Act → World → Prop} {α : Type}
end
end Kd
end Go.Proofs.YtokkfbkbnocnoaaGreatDoorW.PrintWords
end
section
-- PRINTED BY print.sh 35421559b90ae4d0a3588c463048766b98c2df88dd9212a6774a882060cdf62d: not written by this session
-- PRINTED WORDS (module Derived/Print/More.lean): go-gate-2's additions: an AI agent of Go's test side, Tue Nov 17 2026; no person has read it. Lean checks it.
namespace Go.Proofs.YtokkfbkbnocnoaaGreatDoorW.PrintMore
open Go.RowKit Go.Proofs.YtokkfbkbnocnoaaGreatDoorW.PrintWords
namespace Kd
open Go.Proofs.YtokkfbkbnocnoaaGreatDoorW.PrintWords.Kd
end Kd
namespace Kd
open Go.Proofs.YtokkfbkbnocnoaaGreatDoorW.PrintWords.Kd
section
variable {α : Type} {d : Kd α} {e base g N : Nat} {ok : Nat → Prop} {W w1 : World} {u v : Value} {xs : List α}
end
end Kd
end Go.Proofs.YtokkfbkbnocnoaaGreatDoorW.PrintMore
namespace Go.Proofs.YtokkfbkbnocnoaaGreatDoorW.PrintWords
open Go.RowKit
section
variable {P : Program} {ops : Array Oper} {rest : List Oper} {o : Oper} {a : Act} {Q : Exit → Act → World → Prop} {W : World}
theorem gate_builtin {b : Builtin} {xs : Array Operand} {ts : Array TypeId} (_ho : o.op = .call { callee := .builtin b, args := xs, argTypes := ts }) (h : wpList P ops Q (o :: rest) a W) : wpList P ops Q (o :: rest) a W := h
end
def mx (a b : Int) : Int := if a < b then b else a
namespace Kd
section
variable {α : Type} {d : Kd α} {e base : Nat} {ok : Nat → Prop} {W w1 : World} {v : Value} {xs : List α}
end
section
variable {α : Type} {d : Kd α} {e base g n cap : Nat} {ok oki okp : Nat → Prop} {W : World} {xs : List α} {i : Int} {c : List Value}
end
section
variable {α : Type} {d : Kd α} {e base b b' g N : Nat} {ok ok1 : Nat → Prop} {W W2 w1 : World} {u v : Value} {xs ys : List α} {S : Nat → Prop}
end
end Kd
end Go.Proofs.YtokkfbkbnocnoaaGreatDoorW.PrintWords
namespace Go.Proofs.YtokkfbkbnocnoaaGreatDoorW.PrintWords
open Go.RowKit
namespace Kd
section
variable {α β : Type} {d : Kd α} {e base base' n m c g N' lo hi : Nat} {ok ok' S : Nat → Prop} {w W w1 : World} {A : Option Addr} {ad : Addr} {u v v1 : Value} {xs : List α}
end
end Kd
end Go.Proofs.YtokkfbkbnocnoaaGreatDoorW.PrintWords
end
section
set_option linter.unusedVariables false
namespace Go.Proofs.YtokkfbkbnocnoaaGreatDoor
end Go.Proofs.YtokkfbkbnocnoaaGreatDoor
namespace Go.Proofs.YtokkfbkbnocnoaaGreatDoor.Wd
open Go.Shelf
def ren26 : Ren := ⟨fun | 26 => 114 | 33 => 146 | 34 => 147 | 38 => 154 | n => n, fun | 24 => 22 | 40 => 194 | n => n, fun | n => n⟩
theorem lays26 : Go.Proofs.Lays2.n26 Tryz.prog ren26 := {
  mixed := by kernel_rfl
  f26 := Tryz.func114.trans (congrArg some (by kernel_rfl))
  f33 := Tryz.func146.trans (congrArg some (by kernel_rfl))
  f34 := Tryz.func147.trans (congrArg some (by kernel_rfl))
  f38 := Tryz.func154.trans (congrArg some (by kernel_rfl))
  t0 := Tryz.underlying0
  a0 := Tryz.isAgg0
  z0 := Tryz.sizeOf0
  v0 := Tryz.zeroValue0
  t3 := Tryz.underlying3
  a3 := Tryz.isAgg3
  z3 := Tryz.sizeOf3
  v3 := Tryz.zeroValue3
  t4 := Tryz.underlying4
  a4 := Tryz.isAgg4
  z4 := Tryz.sizeOf4
  v4 := Tryz.zeroValue4
  t9 := Tryz.underlying9
  a9 := Tryz.isAgg9
  z9 := Tryz.sizeOf9
  v9 := Tryz.zeroValue9
  t24 := Tryz.underlying22
  a24 := Tryz.isAgg22
  z24 := Tryz.sizeOf22
  v24 := Tryz.zeroValue22
  t40 := Tryz.underlying194
  a40 := Tryz.isAgg194
  z40 := Tryz.sizeOf194
  v40 := Tryz.zeroValue194 }
end Go.Proofs.YtokkfbkbnocnoaaGreatDoor.Wd
end
section
set_option linter.unusedVariables false
set_option linter.unusedSimpArgs false
namespace Go.Proofs.YtokkfbkbnocnoaaGreatDoor.Wd
open Go.RowKit Go.Proofs.YtokkfbkbnocnoaaGreatDoorW.PrintWords Go.Proofs.YtokkfbkbnocnoaaGreatDoorW.PrintLast Go.Proofs.YtokkfbkbnocnoaaGreatDoorW.PrintMore
def Tab (w : World) : Prop := Lib.TabIs Tryz.prog w "strings.asciiSpace" .u8 Lib.asciiSpaceTab
def pasS : ByteArray := ⟨#[97, 110, 100, 32, 97, 114, 114, 97, 121, 32, 98, 101, 103, 105, 110, 32, 98, 111, 111, 108, 101, 97, 110, 32, 99, 104, 97, 114, 32, 100, 105, 118, 32, 100, 111, 32, 100, 111, 119, 110, 116, 111, 32, 101, 108, 115, 101, 32, 101, 110, 100, 32, 102, 97, 108, 115, 101, 32, 102, 111, 114, 32, 102, 111, 114, 119, 97, 114, 100, 32, 102, 117, 110, 99, 116, 105, 111, 110, 32, 105, 102, 32, 105, 110, 116, 101, 103, 101, 114, 32, 109, 111, 100, 32, 110, 111, 116, 32, 111, 102, 32, 111, 114, 32, 112, 114, 111, 99, 101, 100, 117, 114, 101, 32, 112, 114, 111, 103, 114, 97, 109, 32, 114, 101, 97, 100, 32, 114, 101, 99, 111, 114, 100, 32, 114, 101, 112, 101, 97, 116, 32, 114, 101, 116, 117, 114, 110, 32, 116, 104, 101, 110, 32, 116, 111, 32, 116, 114, 117, 101, 32, 116, 121, 112, 101, 32, 117, 110, 116, 105, 108, 32, 118, 97, 114, 32, 119, 104, 105, 108, 101, 32, 119, 114, 105, 116, 101]⟩
def ceeS : ByteArray := ⟨#[98, 111, 111, 108, 32, 99, 104, 97, 114, 32, 100, 111, 32, 100, 111, 119, 110, 116, 111, 32, 101, 108, 115, 101, 32, 102, 97, 108, 115, 101, 32, 102, 111, 114, 32, 103, 101, 116, 32, 105, 102, 32, 105, 110, 116, 32, 109, 97, 105, 110, 32, 112, 114, 111, 103, 114, 97, 109, 32, 112, 117, 116, 32, 114, 101, 116, 117, 114, 110, 32, 115, 116, 114, 117, 99, 116, 32, 116, 111, 32, 116, 114, 117, 101, 32, 117, 110, 116, 105, 108, 32, 117, 112, 32, 118, 111, 105, 100, 32, 119, 104, 105, 108, 101]⟩
def lst (d : Int) : List ByteArray := if d = 0 then (Lib.fields pasS.data.toList).map (fun l => (⟨l.toArray⟩ : ByteArray)) else if d = 1 then (Lib.fields ceeS.data.toList).map (fun l => (⟨l.toArray⟩ : ByteArray)) else []
theorem lst_pas : (Lib.fields pasS.data.toList).map (fun l => (⟨l.toArray⟩ : ByteArray)) = lst 0 := by kernel_rfl
theorem lst_cee : (Lib.fields ceeS.data.toList).map (fun l => (⟨l.toArray⟩ : ByteArray)) = lst 1 := by kernel_rfl
theorem asciiP : ∀ (j : Nat) b, pasS.data.toList[j]? = some b → b.toNat < 128 := by
  have : (pasS.data.toList.all fun b => decide (b.toNat < 128)) = true := by kernel_rfl
  exact fun j b h => of_decide_eq_true (List.all_eq_true.1 this b (List.mem_of_getElem? h))
theorem asciiC : ∀ (j : Nat) b, ceeS.data.toList[j]? = some b → b.toNat < 128 := by
  have : (ceeS.data.toList.all fun b => decide (b.toNat < 128)) = true := by kernel_rfl
  exact fun j b h => of_decide_eq_true (List.all_eq_true.1 this b (List.mem_of_getElem? h))
def AllTo (d : Int) (w : World) (e : Ending) (w' : World) : Prop := ∃ r, e = .returned r ∧ Kd.string.R 9 w' w.heap.size (fun _ => True) r (lst d) ∧ Below w.heap.size w w'
theorem R_fields (w : World) (xs : List ByteArray) (hl : xs.length ≤ 1000) : Kd.string.R 9 (w.alloc (.cells (xs.map Value.string).toArray 9)) w.heap.size (fun _ => True) (.slice (some ⟨w.heap.size, 0, none⟩) xs.length xs.length) xs := by
  have hown := World.ownsRow_lit (base := w.heap.size) (e := 9) (size := 1) w (xs.map Value.string).toArray xs.length (Nat.le_refl _) (by simp [maxLen]; omega) (by simp)
  refine ⟨fun _ _ => trivial, xs.map Value.string, hown, ?_⟩
  refine ⟨by simp [Kd.string, Kd.scalar], fun j p hj => ?_⟩
  show ((xs.map Value.string).drop (j * 1)).take 1 = [.string p]
  obtain ⟨hjl, hp⟩ := List.getElem?_eq_some_iff.1 hj
  rw [Nat.mul_one, List.drop_eq_getElem_cons (by simpa using hjl)]
  simp [hp]
theorem fields_to (s : ByteArray) (d : Int) (w : World) (hs : s.size < 4294967281) (ha : ∀ (j : Nat) b, s.data.toList[j]? = some b → b.toNat < 128) (ht : Tab w) (hl : (Lib.fields s.data.toList).map (fun l => (⟨l.toArray⟩ : ByteArray)) = lst d) (hn : (lst d).length ≤ 1000) :
    Calls Tryz.prog 148 #[.string s] w (AllTo d w) := by
  refine (Tryz.strings_Fields s w hs ha ht).mono ?_
  rintro e w' ⟨he, hw⟩
  have h1 : (Lib.fields s.data.toList).map (fun l => Value.string ⟨l.toArray⟩) = (lst d).map Value.string := by rw [← hl, List.map_map]; rfl
  have h2 : (Lib.fields s.data.toList).length = (lst d).length := by rw [← hl, List.length_map]
  rw [h1] at hw
  rw [h2] at he
  subst hw
  exact ⟨_, he, R_fields w (lst d) hn, below_alloc (Below.refl _ _) _⟩
set_option maxHeartbeats 4000000 in
set_option maxRecDepth 100000 in
theorem all_any (d : Int) (w : World) (ht : Tab w) : Calls Tryz.prog 115 #[.int .i64 d] w (AllTo d w) := by
  have HT := Lib.hid ht
  clear ht
  by_cases h0 : d = 0
  · subst h0
    go_enter Tryz.func115, Tryz.ntmps115
    go_wp2_with (first | (go_at_call 148; go_must (refine (fields_to pasS 0 w (by decide) asciiP HT.out lst_pas (by decide)).mono ?_)))
    rintro e w1 ⟨r, rfl, hR, hb⟩
    have HR := Lib.hid hR
    have HB := Lib.hid hb
    clear hR hb
    go_wp2
    go_ret
    exact ⟨_, rfl, HR.out, HB.out⟩
  · by_cases h1 : d = 1
    · subst h1
      go_enter Tryz.func115, Tryz.ntmps115
      go_wp2_with (first | (go_at_call 148; go_must (refine (fields_to ceeS 1 w (by decide) asciiC HT.out lst_cee (by decide)).mono ?_)))
      rintro e w1 ⟨r, rfl, hR, hb⟩
      have HR := Lib.hid hR
      have HB := Lib.hid hb
      clear hR hb
      go_wp2
      go_ret
      exact ⟨_, rfl, HR.out, HB.out⟩
    · have hl : lst d = [] := by unfold lst; rw [if_neg h0, if_neg h1]
      go_enter Tryz.func115, Tryz.ntmps115
      go_wp2
      go_ret
      rw [AllTo, hl]
      exact ⟨_, rfl, Kd.R_nil _ _ _ _ _, Below.refl _ _⟩
def mem (l : List ByteArray) (x : ByteArray) : Bool := l.any fun y => decide (y = x)
theorem mem_iff (l : List ByteArray) (x : ByteArray) : mem l x = true ↔ x ∈ l := by
  unfold mem
  rw [List.any_eq_true]
  constructor
  · rintro ⟨y, hy, he⟩
    rw [← of_decide_eq_true he]; exact hy
  · intro h
    exact ⟨x, h, decide_eq_true rfl⟩
theorem bytesLess_lt : ∀ (x y : List UInt8), Op.bytesLess x y = decide (x < y)
  | [], [] => by simp [Op.bytesLess]
  | _ :: _, [] => by simp [Op.bytesLess]
  | [], _ :: _ => by simp [Op.bytesLess]
  | a :: x, b :: y => by
    rw [Op.bytesLess, bytesLess_lt x y, Bool.eq_iff_iff]
    simp [List.cons_lt_cons_iff]
abbrev less (a b : ByteArray) : Bool := Op.bytesLess a.toList b.toList
theorem less_irrefl (a : ByteArray) : less a a = false := by
  show Op.bytesLess a.toList a.toList = false
  rw [bytesLess_lt]
  exact decide_eq_false (List.lt_irrefl _)
theorem less_trans {a b c : ByteArray} (h1 : less a b = true) (h2 : less b c = true) : less a c = true := by
  have g1 : Op.bytesLess a.toList b.toList = true := h1
  have g2 : Op.bytesLess b.toList c.toList = true := h2
  show Op.bytesLess a.toList c.toList = true
  rw [bytesLess_lt] at g1 g2 ⊢
  exact decide_eq_true (List.lt_trans (of_decide_eq_true g1) (of_decide_eq_true g2))
def Sx (l : List ByteArray) (x : ByteArray) (t : Nat) : ByteArray := if h : t < l.length then l[t] else x
theorem bs_found (l : List ByteArray) (x : ByteArray) (hs : l.Pairwise (fun a b => less a b = true)) (inst : Decidable (Lib.bsGo (fun t => Op.bytesLess (Sx l x t).toList x.toList) l.length 0 l.length < l.length ∧ Sx l x (Lib.bsGo (fun t => Op.bytesLess (Sx l x t).toList x.toList) l.length 0 l.length) = x)) :
    decide (Lib.bsGo (fun t => Op.bytesLess (Sx l x t).toList x.toList) l.length 0 l.length < l.length ∧ Sx l x (Lib.bsGo (fun t => Op.bytesLess (Sx l x t).toList x.toList) l.length 0 l.length) = x) = mem l x := by
  have hk : Lib.bsGo (fun t => Op.bytesLess (Sx l x t).toList x.toList) l.length 0 l.length = l.findIdx (fun y => !less y x) := by
    refine Lib.bsGo_spec _ _ ?_ ?_ _ _ _ (by omega) (Nat.zero_le _) List.findIdx_le_length
    · intro t ht
      have hl : t < l.length := Nat.lt_of_lt_of_le ht List.findIdx_le_length
      have := List.not_of_lt_findIdx ht
      simp only [Sx, dif_pos hl]
      simpa [less] using this
    · intro t ht
      by_cases hl : t < l.length
      · simp only [Sx, dif_pos hl]
        have hkl : l.findIdx (fun y => !less y x) < l.length := by omega
        have h1 := List.findIdx_getElem (xs := l) (p := fun y => !less y x) (w := hkl)
        simp only [Bool.not_eq_true'] at h1
        cases hc : less l[t] x with
        | false => exact hc
        | true =>
          exfalso
          rcases Nat.lt_or_ge (l.findIdx (fun y => !less y x)) t with h2 | h2
          · have h3 := List.pairwise_iff_getElem.1 hs _ _ hkl hl h2
            rw [less_trans h3 hc] at h1
            cases h1
          · have h4 : l.findIdx (fun y => !less y x) = t := by omega
            simp only [h4] at h1
            rw [h1] at hc; cases hc
      · simp only [Sx, dif_neg hl]
        exact less_irrefl x
  rw [Bool.eq_iff_iff, decide_eq_true_iff, hk, mem_iff]
  constructor
  · rintro ⟨h1, h2⟩
    simp only [Sx, dif_pos h1] at h2
    rw [← h2]
    exact List.getElem_mem _
  · intro hx
    obtain ⟨i, hi, rfl⟩ := List.getElem_of_mem hx
    have hle : l.findIdx (fun y => !less y l[i]) ≤ i := by
      rcases Nat.lt_or_ge i (l.findIdx (fun y => !less y l[i])) with h | h
      · have := List.not_of_lt_findIdx h
        rw [less_irrefl] at this
        exact absurd this (by simp)
      · exact h
    have hkl : l.findIdx (fun y => !less y l[i]) < l.length := by omega
    refine ⟨hkl, ?_⟩
    simp only [Sx, dif_pos hkl]
    rcases Nat.lt_or_ge (l.findIdx (fun y => !less y l[i])) i with h | h
    · have h3 := List.pairwise_iff_getElem.1 hs _ _ hkl hi h
      have h1 := List.findIdx_getElem (xs := l) (p := fun y => !less y l[i]) (w := hkl)
      simp only [Bool.not_eq_true'] at h1
      rw [h3] at h1; cases h1
    · have h4 : l.findIdx (fun y => !less y l[i]) = i := by omega
      simp only [h4]
theorem sorted_lst (d : Int) : (lst d).Pairwise (fun a b => less a b = true) := by
  by_cases h0 : d = 0
  · subst h0
    exact of_decide_eq_true (by kernel_rfl)
  · by_cases h1 : d = 1
    · subst h1
      exact of_decide_eq_true (by kernel_rfl)
    · have hl : lst d = [] := by unfold lst; rw [if_neg h0, if_neg h1]
      rw [hl]
      exact List.Pairwise.nil
theorem lst_len (d : Int) : (lst d).length ≤ 1000 := by
  have h0 : (lst 0).length ≤ 1000 := of_decide_eq_true (by kernel_rfl)
  have h1 : (lst 1).length ≤ 1000 := of_decide_eq_true (by kernel_rfl)
  by_cases e0 : d = 0
  · subst e0; exact h0
  · by_cases e1 : d = 1
    · subst e1; exact h1
    · have hl : lst d = [] := by unfold lst; rw [if_neg e0, if_neg e1]
      rw [hl]; simp
theorem search_row (l : List ByteArray) (x : ByteArray) (w : World) {r : Value} {base : Nat} (hR : Kd.string.R 9 w base (fun _ => True) r l) (hs : l.Pairwise (fun a b => less a b = true)) (hl : l.length ≤ 1000) :
    Calls Tryz.prog 114 #[r, .string x] w fun e w' => ∃ i : Nat, e = .returned (.tuple #[.int .i64 i, .bool (mem l x)]) ∧ ∃ q, w' = w.drewN q := by
  obtain ⟨A, c, he, hlc, hC⟩ := Kd.R_reads hR
  obtain ⟨inner, hown⟩ := Kd.R_own hR
  rcases hown.2 with ⟨hv, h0⟩ | ⟨g, cap, cur, hv, _⟩
  · obtain rfl := List.eq_nil_of_length_eq_zero h0
    rw [hv]
    refine (Any2.slices_BinarySearch_string_empty lays26 none 0 x w).mono ?_
    rintro e w' ⟨he, hw⟩
    exact ⟨0, he, 0, hw⟩
  · rw [hv]
    have hA : A = some ⟨g, 0, none⟩ := by rw [hv] at he; injection he with h1 _ _; exact h1.symm
    subst hA
    have hcell : ∀ j, j < l.length → w.cell? ⟨g, 0 + j, none⟩ = some (.string (Sx l x j)) := by
      intro j hj
      obtain ⟨ad, h1, h2⟩ := Kd.at_string hC (j : Int) (by omega) (by omega)
      injection h1 with h1
      subst h1
      rw [show ((j : Int)).toNat = j from by omega] at h2
      rw [show (⟨g, 0 + j, none⟩ : Addr) = (⟨g, 0, none⟩ : Addr).add j from by simp [Addr.add], h2, show rdOf ByteArray.empty l (j : Int) = l.getD (j : Int).toNat ByteArray.empty from rfl]
      simp [Sx, hj]
    refine (Any2.slices_BinarySearch_string lays26 g 0 l.length cap (Sx l x) x w (by omega) hcell).mono ?_
    rintro e w' ⟨he, q, hw⟩
    rw [bs_found l x hs] at he
    exact ⟨_, he, q, hw⟩
set_option maxHeartbeats 4000000 in
set_option maxRecDepth 100000 in
theorem is_any (d : Int) (s : ByteArray) (w : World) (ht : Tab w) : Calls Tryz.prog 66 #[.int .i64 d, .string s] w fun e w' => e = .returned (.bool (mem (lst d) s)) ∧ Below w.heap.size w w' := by
  have HT := Lib.hid ht
  clear ht
  go_enter Tryz.func66, Tryz.ntmps66
  go_wp2_with (first | (go_at_call 115; go_must (refine (all_any d w HT.out).mono ?_)))
  rintro e w1 ⟨r, rfl, hR, hb⟩
  have HR := Lib.hid hR
  have HB := Lib.hid hb
  clear hR hb
  go_wp2_with (first | (go_at_call 114; go_must (refine (search_row (lst d) s _ HR.out (sorted_lst d) (lst_len d)).mono ?_)))
  rintro e w2 ⟨i, rfl, q, rfl⟩
  go_wp2
  go_ret
  exact ⟨rfl, pw_below_drewN HB.out q⟩
end Go.Proofs.YtokkfbkbnocnoaaGreatDoor.Wd
end
