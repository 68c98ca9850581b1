/- A part of the proof of RenameSenseUpto (a program makes as much sense as it did, at the same item): a reckoner of the code over data, shown right, and what it gives; conditions stand with each theorem. -/
import Derived.Test.YtlepjafokfhnfaaGreatDoorA2
import Derived.Lib.SplitLaws
import Derived.IntWalk
import Derived.ChangeArms
import Derived.ChangeSame
import Derived.DataReads
import Derived.DataElems
import Derived.ProofKit
import Derived.Below
import Derived.Deep.Draws
import Derived.Deep.AppendLies
import Derived.Maps.AppendAt
import Derived.OwnWalk
import Derived.Laws.BytesArg
import Derived.Laws.MakeOwn
import Derived.Laws.OwnMore
import Derived.Deep.OwnRows
import Derived.Tactics
import Derived.Lib.ConvBytes
import Derived.Laws.Slices
import Derived.WalkKit
import Derived.KernelRfl
import Derived.RowKit3
import Derived.Deep.LoopGhost
import Derived.Deep.QuietTactic
import Derived.BigQuiet
import Derived.WideLaws
import Derived.Deep.DeepCutAuto
import Derived.Deep.CutBlock
import Derived.Deep.RegionHeld3
import Derived.Laws.Rows
import Derived.Lib.AppendStr
import Derived.ArgAppend
import Derived.Laws.IdiomCopy
import Derived.RowKit
import Derived.Shelf.Spec.SearchS
import Derived.Test.YtlepjafokfhnfaaGreatDoorProg
import Derived.Lib.Hide
import Derived.Deep.DeepMust
namespace Go.Proofs.YtlepjafokfhnfaaGreatDoorW.PrintWords
end Go.Proofs.YtlepjafokfhnfaaGreatDoorW.PrintWords
namespace Go.Proofs.YtlepjafokfhnfaaGreatDoorW.PrintLast
end Go.Proofs.YtlepjafokfhnfaaGreatDoorW.PrintLast
namespace Go.Proofs.YtlepjafokfhnfaaGreatDoorW.PrintMore
end Go.Proofs.YtlepjafokfhnfaaGreatDoorW.PrintMore
section
open Go Go.Proofs
namespace Go.Ev
set_option linter.unusedVariables false
set_option linter.unusedSimpArgs false
set_option maxHeartbeats 4000000
set_option maxRecDepth 100000
def Lr12_Look_expr_23 (s : Fam) (k : Nat) (x0 : Int × Int × Unit) (x1 : List Tr12_Thing) (x2 : TExpr) (x3 : Bool) : Nat → Int → Int → Int → Int → Int → ByteArray → ByteArray → List TExpr → Int → Int → ByteArray → List ByteArray → List ByteArray → ByteArray → List TField → List ByteArray → Option (TType × (Int × Int × Unit) × Unit)
  | 0, _, _, _, _, _, _, _, _, _, _, _, _, _, _, _, _ => none
  | j23 + 1, v0, v1, v2, v3, v4, v5, v6, v7, v8, v9, v10, v11, v12, v13, v14, v15 => (if decide (v0 < (↑v14.length : Int)) = Bool.true then (if 0 ≤ v0 then (if v0 < (↑v14.length : Int) then (if ((v14.getD v0.toNat dd_TField).Name.toList == v6.toList) = Bool.true then (if 0 ≤ v0 then (if v0 < (↑v14.length : Int) then some (({ Kind := (v14.getD v0.toNat dd_TField).Kind, Size := 0, Name := { data := #[] : ByteArray } : TType }, (v1, v2, ()), ())) else none) else none) else Lr12_Look_expr_23 s k x0 x1 x2 x3 j23 (Go.IntKind.i64.wrap (v0 + 1)) (v1) (v2) (v3) (v4) (v5) (v6) (v7) (v8) (v9) (v10) (v11) (v12) (v13) (v14) (v15)) else none) else none) else ((s.f_r12_Look_fail ((v1, v2, ()), 13, ())).bind fun t42 => some (({ Kind := 0, Size := 0, Name := { data := #[] : ByteArray } : TType }, (t42.snd.fst.fst, t42.snd.fst.snd.fst, ()), ()))))
def Lr12_Look_expr_37 (s : Fam) (k : Nat) (x0 : Int × Int × Unit) (x1 : List Tr12_Thing) (x2 : TExpr) (x3 : Bool) : Nat → List Tr12_Thing → Int → Int → Int → Int → Int → ByteArray → ByteArray → List TExpr → Int → Int → ByteArray → Option (TType × (Int × Int × Unit) × Unit)
  | 0, _, _, _, _, _, _, _, _, _, _, _, _ => none
  | j37 + 1, v0, v1, v2, v3, v4, v5, v6, v7, v8, v9, v10, v11 => (if decide (v1 < (↑v8.length : Int)) = Bool.true then (if 0 ≤ v1 then (if v1 < (↑v8.length : Int) then ((s.f_r12_Look_value ((v2, v3, ()), v0, (v8.getD v1.toNat dd_TExpr).re, 2, ())).bind fun t53 => Lr12_Look_expr_37 s k x0 x1 x2 x3 j37 (v0) (Go.IntKind.i64.wrap (v1 + 1)) (t53.snd.fst.fst) (t53.snd.fst.snd.fst) (v4) (v5) (v6) (v7) (v8) (v9) (v10) (v11)) else none) else none) else some (({ Kind := 2, Size := 0, Name := { data := #[] : ByteArray } : TType }, (v2, v3, ()), ())))
def Lr12_Look_expr_53 (s : Fam) (k : Nat) (x0 : Int × Int × Unit) (x1 : List Tr12_Thing) (x2 : TExpr) (x3 : Bool) : Nat → List Tr12_Thing → Int → Int → Int → Int → Int → ByteArray → ByteArray → List TExpr → Int → Int → ByteArray → Option (TType × (Int × Int × Unit) × Unit)
  | 0, _, _, _, _, _, _, _, _, _, _, _, _ => none
  | j53 + 1, v0, v1, v2, v3, v4, v5, v6, v7, v8, v9, v10, v11 => (if decide (v1 < (↑v8.length : Int)) = Bool.true then (if 0 ≤ v1 then (if v1 < (↑v8.length : Int) then ((s.f_r12_Look_value ((v2, v3, ()), v0, (v8.getD v1.toNat dd_TExpr).re, 1, ())).bind fun t80 => Lr12_Look_expr_53 s k x0 x1 x2 x3 j53 (v0) (Go.IntKind.i64.wrap (v1 + 1)) (t80.snd.fst.fst) (t80.snd.fst.snd.fst) (v4) (v5) (v6) (v7) (v8) (v9) (v10) (v11)) else none) else none) else some (({ Kind := 1, Size := 0, Name := { data := #[] : ByteArray } : TType }, (v2, v3, ()), ())))
def B_r12_Look_expr_h2 (s : Fam) (k : Nat) (x0 : Int × Int × Unit) (x1 : List Tr12_Thing) (x2 : TExpr) (x3 : Bool) : Option (TType × (Int × Int × Unit) × Unit) := (if 0 < (↑x2.L.length : Int) then ((s.f_r12_Look_value ((x0.fst, x0.snd.fst, ()), x1, (x2.L.getD (Int.toNat 0) dd_TExpr).re, 0, ())).bind fun t62 => (if (decide (x2.Op > 20) && t62.fst == 2) = Bool.true then ((s.f_r12_Look_fail ((t62.snd.fst.fst, t62.snd.fst.snd.fst, ()), 14, ())).bind fun t64 => (if 1 < (↑x2.L.length : Int) then ((s.f_r12_Look_value ((t64.snd.fst.fst, t64.snd.fst.snd.fst, ()), x1, (x2.L.getD (Int.toNat 1) dd_TExpr).re, t62.fst, ())).bind fun t67 => some (({ Kind := 2, Size := 0, Name := { data := #[] : ByteArray } : TType }, (t67.snd.fst.fst, t67.snd.fst.snd.fst, ()), ()))) else none)) else (if 1 < (↑x2.L.length : Int) then ((s.f_r12_Look_value ((t62.snd.fst.fst, t62.snd.fst.snd.fst, ()), x1, (x2.L.getD (Int.toNat 1) dd_TExpr).re, t62.fst, ())).bind fun t72 => some (({ Kind := 2, Size := 0, Name := { data := #[] : ByteArray } : TType }, (t72.snd.fst.fst, t72.snd.fst.snd.fst, ()), ()))) else none))) else none)
def B_r12_Look_expr_h0 (s : Fam) (k : Nat) (x0 : Int × Int × Unit) (x1 : List Tr12_Thing) (x2 : TExpr) (x3 : Bool) : Option (TType × (Int × Int × Unit) × Unit) := (if (x2.Op == 19) = Bool.true then (if (x2.Op == 19) = Bool.true then (B_r12_Look_expr_h2 s k x0 x1 x2 x3) else Lr12_Look_expr_53 s k x0 x1 x2 x3 k (x1) (0) (x0.fst) (x0.snd.fst) (x2.Op) (x2.N) (x2.Name) (x2.Field) (x2.L) (0) (0) ({ data := #[] : ByteArray })) else (if (x2.Op == 20) = Bool.true then (if (x2.Op == 20) = Bool.true then (B_r12_Look_expr_h2 s k x0 x1 x2 x3) else Lr12_Look_expr_53 s k x0 x1 x2 x3 k (x1) (0) (x0.fst) (x0.snd.fst) (x2.Op) (x2.N) (x2.Name) (x2.Field) (x2.L) (0) (0) ({ data := #[] : ByteArray })) else (if (x2.Op == 21) = Bool.true then (if (x2.Op == 21) = Bool.true then (B_r12_Look_expr_h2 s k x0 x1 x2 x3) else Lr12_Look_expr_53 s k x0 x1 x2 x3 k (x1) (0) (x0.fst) (x0.snd.fst) (x2.Op) (x2.N) (x2.Name) (x2.Field) (x2.L) (0) (0) ({ data := #[] : ByteArray })) else (if (x2.Op == 22) = Bool.true then (if (x2.Op == 22) = Bool.true then (B_r12_Look_expr_h2 s k x0 x1 x2 x3) else Lr12_Look_expr_53 s k x0 x1 x2 x3 k (x1) (0) (x0.fst) (x0.snd.fst) (x2.Op) (x2.N) (x2.Name) (x2.Field) (x2.L) (0) (0) ({ data := #[] : ByteArray })) else (if (x2.Op == 23) = Bool.true then (if (x2.Op == 23) = Bool.true then (B_r12_Look_expr_h2 s k x0 x1 x2 x3) else Lr12_Look_expr_53 s k x0 x1 x2 x3 k (x1) (0) (x0.fst) (x0.snd.fst) (x2.Op) (x2.N) (x2.Name) (x2.Field) (x2.L) (0) (0) ({ data := #[] : ByteArray })) else (if (x2.Op == 24) = Bool.true then (B_r12_Look_expr_h2 s k x0 x1 x2 x3) else Lr12_Look_expr_53 s k x0 x1 x2 x3 k (x1) (0) (x0.fst) (x0.snd.fst) (x2.Op) (x2.N) (x2.Name) (x2.Field) (x2.L) (0) (0) ({ data := #[] : ByteArray })))))))
def B_r12_Look_expr_h1 (s : Fam) (k : Nat) (x0 : Int × Int × Unit) (x1 : List Tr12_Thing) (x2 : TExpr) (x3 : Bool) : Option (TType × (Int × Int × Unit) × Unit) := (if (x2.Op == 4) = Bool.true then ((s.f_r12_Look_variable ((x0.fst, x0.snd.fst, ()), x1, x2.Name, ())).bind fun t7 => some ((t7.fst, (t7.snd.fst.fst, t7.snd.fst.snd.fst, ()), ()))) else (if (x2.Op == 5) = Bool.true then ((s.f_r12_Look_variable ((x0.fst, x0.snd.fst, ()), x1, x2.Name, ())).bind fun t10 => (if (t10.fst.Size == 0) = Bool.true then ((s.f_r12_Look_fail ((t10.snd.fst.fst, t10.snd.fst.snd.fst, ()), 14, ())).bind fun t12 => (if 0 < (↑x2.L.length : Int) then ((s.f_r12_Look_value ((t12.snd.fst.fst, t12.snd.fst.snd.fst, ()), x1, (x2.L.getD (Int.toNat 0) dd_TExpr).re, 1, ())).bind fun t15 => some (({ Kind := t10.fst.Kind, Size := 0, Name := { data := #[] : ByteArray } : TType }, (t15.snd.fst.fst, t15.snd.fst.snd.fst, ()), ()))) else none)) else (if 0 < (↑x2.L.length : Int) then ((s.f_r12_Look_value ((t10.snd.fst.fst, t10.snd.fst.snd.fst, ()), x1, (x2.L.getD (Int.toNat 0) dd_TExpr).re, 1, ())).bind fun t20 => some (({ Kind := t10.fst.Kind, Size := 0, Name := { data := #[] : ByteArray } : TType }, (t20.snd.fst.fst, t20.snd.fst.snd.fst, ()), ()))) else none))) else (if (x2.Op == 6) = Bool.true then ((s.f_r12_Look_variable ((x0.fst, x0.snd.fst, ()), x1, x2.Name, ())).bind fun t24 => (if (t24.fst.Kind != 4) = Bool.true then ((s.f_r12_Look_fail ((t24.snd.fst.fst, t24.snd.fst.snd.fst, ()), 14, ())).bind fun t26 => some (({ Kind := 0, Size := 0, Name := { data := #[] : ByteArray } : TType }, (t26.snd.fst.fst, t26.snd.fst.snd.fst, ()), ()))) else ((s.f_r12_find (x1, t24.fst.Name, ())).bind fun t28 => Lr12_Look_expr_23 s k x0 x1 x2 x3 k (0) (t24.snd.fst.fst) (t24.snd.fst.snd.fst) (x2.Op) (x2.N) (x2.Name) (x2.Field) (x2.L) (0) (0) ({ data := #[] : ByteArray }) (t28.Rec_Marks_Before) (t28.Rec_Marks_Trail) (t28.Rec_Name) (t28.Rec_Fields) (t28.Rec_End)))) else (if (x2.Op == 7) = Bool.true then ((s.f_r12_Look_call ((x0.fst, x0.snd.fst, ()), x1, x2.re, x3, ())).bind fun t45 => some ((t45.fst, (t45.snd.fst.fst, t45.snd.fst.snd.fst, ()), ()))) else (if (x2.Op == 9) = Bool.true then (if (x2.Op == 9) = Bool.true then Lr12_Look_expr_37 s k x0 x1 x2 x3 k (x1) (0) (x0.fst) (x0.snd.fst) (x2.Op) (x2.N) (x2.Name) (x2.Field) (x2.L) (0) (0) ({ data := #[] : ByteArray }) else (B_r12_Look_expr_h0 s k x0 x1 x2 x3)) else (if (x2.Op == 13) = Bool.true then (if (x2.Op == 13) = Bool.true then Lr12_Look_expr_37 s k x0 x1 x2 x3 k (x1) (0) (x0.fst) (x0.snd.fst) (x2.Op) (x2.N) (x2.Name) (x2.Field) (x2.L) (0) (0) ({ data := #[] : ByteArray }) else (B_r12_Look_expr_h0 s k x0 x1 x2 x3)) else (if (x2.Op == 14) = Bool.true then (if (x2.Op == 14) = Bool.true then Lr12_Look_expr_37 s k x0 x1 x2 x3 k (x1) (0) (x0.fst) (x0.snd.fst) (x2.Op) (x2.N) (x2.Name) (x2.Field) (x2.L) (0) (0) ({ data := #[] : ByteArray }) else (B_r12_Look_expr_h0 s k x0 x1 x2 x3)) else (if (x2.Op == 17) = Bool.true then (if (x2.Op == 17) = Bool.true then Lr12_Look_expr_37 s k x0 x1 x2 x3 k (x1) (0) (x0.fst) (x0.snd.fst) (x2.Op) (x2.N) (x2.Name) (x2.Field) (x2.L) (0) (0) ({ data := #[] : ByteArray }) else (B_r12_Look_expr_h0 s k x0 x1 x2 x3)) else (if (x2.Op == 18) = Bool.true then Lr12_Look_expr_37 s k x0 x1 x2 x3 k (x1) (0) (x0.fst) (x0.snd.fst) (x2.Op) (x2.N) (x2.Name) (x2.Field) (x2.L) (0) (0) ({ data := #[] : ByteArray }) else (B_r12_Look_expr_h0 s k x0 x1 x2 x3))))))))))
def B_r12_Look_expr (s : Fam) (k : Nat) (x0 : Int × Int × Unit) (x1 : List Tr12_Thing) (x2 : TExpr) (x3 : Bool) : Option (TType × (Int × Int × Unit) × Unit) := (if (x0.snd.fst != 0) = Bool.true then some (({ Kind := 0, Size := 0, Name := { data := #[] : ByteArray } : TType }, (x0.fst, x0.snd.fst, ()), ())) else (if (x2.Op == 1) = Bool.true then (if (x2.Op == 1) = Bool.true then some (({ Kind := x2.Op, Size := 0, Name := { data := #[] : ByteArray } : TType }, (x0.fst, x0.snd.fst, ()), ())) else (B_r12_Look_expr_h1 s k x0 x1 x2 x3)) else (if (x2.Op == 2) = Bool.true then (if (x2.Op == 2) = Bool.true then some (({ Kind := x2.Op, Size := 0, Name := { data := #[] : ByteArray } : TType }, (x0.fst, x0.snd.fst, ()), ())) else (B_r12_Look_expr_h1 s k x0 x1 x2 x3)) else (if (x2.Op == 3) = Bool.true then some (({ Kind := x2.Op, Size := 0, Name := { data := #[] : ByteArray } : TType }, (x0.fst, x0.snd.fst, ()), ())) else (B_r12_Look_expr_h1 s k x0 x1 x2 x3)))))
theorem Lr12_Look_expr_23_eq (s : Fam) (k : Nat) (x0 : Int × Int × Unit) (x1 : List Tr12_Thing) (x2 : TExpr) (x3 : Bool) : ∀ (j23 : Nat) (v0 : Int) (v1 : Int) (v2 : Int) (v3 : Int) (v4 : Int) (v5 : ByteArray) (v6 : ByteArray) (v7 : List TExpr) (v8 : Int) (v9 : Int) (v10 : ByteArray) (v11 : List ByteArray) (v12 : List ByteArray) (v13 : ByteArray) (v14 : List TField) (v15 : List ByteArray), (loopGo EE (sp s) h_r12_Look_expr co_r12_Look_expr (rootAs (unAs 1000004 (c_r12_Look_expr.enc (x0, x1, x2, x3, ()))).1) k Tryz.f73 23 [] j23 ({ tmps := ofL AV.any [(0, AV.c (CV.ptr 1000004 0)), (6, AV.c (CV.ptr 6 0)), (8, AV.c (CV.ptr 8 0)), (11, AV.c (CV.ptr 11 0)), (12, AV.c (CV.d (DV.lit (Go.Value.int Go.IntKind.i64 v0))))], boxes := ofL Option.none [(1000004, Option.some [CV.d (DV.lit (Go.Value.int Go.IntKind.i64 v1)), CV.d (DV.lit (Go.Value.int Go.IntKind.i64 v2))]), (6, Option.some [CV.d (DV.lit (Go.Value.int Go.IntKind.i64 v3)), CV.d (DV.lit (Go.Value.int Go.IntKind.i64 v4)), CV.d (DV.lit (Go.Value.string v5)), CV.d (DV.lit (Go.Value.string v6)), CV.d (DV.sl 95 v7)]), (8, Option.some [CV.d (DV.lit (Go.Value.int Go.IntKind.i64 v8)), CV.d (DV.lit (Go.Value.int Go.IntKind.i64 v9)), CV.d (DV.lit (Go.Value.string v10))]), (11, Option.some [CV.d (DV.sl 9 v11), CV.d (DV.sl 9 v12), CV.d (DV.lit (Go.Value.string v13)), CV.d (DV.sl 48 v14), CV.d (DV.sl 9 v15)])], objs := ofL Option.none [(1099511652356, Option.none), (1099511672832, Option.none), (1099511672833, Option.none), (1099511672835, Option.none), (1099511672836, Option.none)], fxs := ofL Option.none [(1000004, Option.none), (6, Option.none), (8, Option.none), (11, Option.none)] : AS II })).run = (Lr12_Look_expr_23 s k x0 x1 x2 x3 j23 v0 v1 v2 v3 v4 v5 v6 v7 v8 v9 v10 v11 v12 v13 v14 v15).map rc_r12_Look_expr.enc := by
  intro j23
  induction j23 with
  | zero => intros; rfl
  | succ j23 ih =>
    intros
    simp only [Lr12_Look_expr_23, map_ite, map_bindO, map_someO, map_noneO, ← ih]
    kernel_rfl
theorem Lr12_Look_expr_37_eq (s : Fam) (k : Nat) (x0 : Int × Int × Unit) (x1 : List Tr12_Thing) (x2 : TExpr) (x3 : Bool) : ∀ (j37 : Nat) (v0 : List Tr12_Thing) (v1 : Int) (v2 : Int) (v3 : Int) (v4 : Int) (v5 : Int) (v6 : ByteArray) (v7 : ByteArray) (v8 : List TExpr) (v9 : Int) (v10 : Int) (v11 : ByteArray), (loopGo EE (sp s) h_r12_Look_expr co_r12_Look_expr (rootAs (unAs 1000004 (c_r12_Look_expr.enc (x0, x1, x2, x3, ()))).1) k Tryz.f73 37 [] j37 ({ tmps := ofL AV.any [(0, AV.c (CV.ptr 1000004 0)), (1, AV.c (CV.d (DV.sl 118 v0))), (6, AV.c (CV.ptr 6 0)), (8, AV.c (CV.ptr 8 0)), (13, AV.c (CV.d (DV.lit (Go.Value.int Go.IntKind.i64 v1))))], boxes := ofL Option.none [(1000004, Option.some [CV.d (DV.lit (Go.Value.int Go.IntKind.i64 v2)), CV.d (DV.lit (Go.Value.int Go.IntKind.i64 v3))]), (6, Option.some [CV.d (DV.lit (Go.Value.int Go.IntKind.i64 v4)), CV.d (DV.lit (Go.Value.int Go.IntKind.i64 v5)), CV.d (DV.lit (Go.Value.string v6)), CV.d (DV.lit (Go.Value.string v7)), CV.d (DV.sl 95 v8)]), (8, Option.some [CV.d (DV.lit (Go.Value.int Go.IntKind.i64 v9)), CV.d (DV.lit (Go.Value.int Go.IntKind.i64 v10)), CV.d (DV.lit (Go.Value.string v11))])], objs := ofL Option.none [(1099511652356, Option.none)], fxs := ofL Option.none [(1000004, Option.none), (6, Option.none), (8, Option.none)] : AS II })).run = (Lr12_Look_expr_37 s k x0 x1 x2 x3 j37 v0 v1 v2 v3 v4 v5 v6 v7 v8 v9 v10 v11).map rc_r12_Look_expr.enc := by
  intro j37
  induction j37 with
  | zero => intros; rfl
  | succ j37 ih =>
    intros
    simp only [Lr12_Look_expr_37, map_ite, map_bindO, map_someO, map_noneO, ← ih]
    kernel_rfl
theorem Lr12_Look_expr_53_eq (s : Fam) (k : Nat) (x0 : Int × Int × Unit) (x1 : List Tr12_Thing) (x2 : TExpr) (x3 : Bool) : ∀ (j53 : Nat) (v0 : List Tr12_Thing) (v1 : Int) (v2 : Int) (v3 : Int) (v4 : Int) (v5 : Int) (v6 : ByteArray) (v7 : ByteArray) (v8 : List TExpr) (v9 : Int) (v10 : Int) (v11 : ByteArray), (loopGo EE (sp s) h_r12_Look_expr co_r12_Look_expr (rootAs (unAs 1000004 (c_r12_Look_expr.enc (x0, x1, x2, x3, ()))).1) k Tryz.f73 53 [] j53 ({ tmps := ofL AV.any [(0, AV.c (CV.ptr 1000004 0)), (1, AV.c (CV.d (DV.sl 118 v0))), (6, AV.c (CV.ptr 6 0)), (8, AV.c (CV.ptr 8 0)), (15, AV.c (CV.d (DV.lit (Go.Value.int Go.IntKind.i64 v1))))], boxes := ofL Option.none [(1000004, Option.some [CV.d (DV.lit (Go.Value.int Go.IntKind.i64 v2)), CV.d (DV.lit (Go.Value.int Go.IntKind.i64 v3))]), (6, Option.some [CV.d (DV.lit (Go.Value.int Go.IntKind.i64 v4)), CV.d (DV.lit (Go.Value.int Go.IntKind.i64 v5)), CV.d (DV.lit (Go.Value.string v6)), CV.d (DV.lit (Go.Value.string v7)), CV.d (DV.sl 95 v8)]), (8, Option.some [CV.d (DV.lit (Go.Value.int Go.IntKind.i64 v9)), CV.d (DV.lit (Go.Value.int Go.IntKind.i64 v10)), CV.d (DV.lit (Go.Value.string v11))])], objs := ofL Option.none [(1099511652356, Option.none)], fxs := ofL Option.none [(1000004, Option.none), (6, Option.none), (8, Option.none)] : AS II })).run = (Lr12_Look_expr_53 s k x0 x1 x2 x3 j53 v0 v1 v2 v3 v4 v5 v6 v7 v8 v9 v10 v11).map rc_r12_Look_expr.enc := by
  intro j53
  induction j53 with
  | zero => intros; rfl
  | succ j53 ih =>
    intros
    simp only [Lr12_Look_expr_53, map_ite, map_bindO, map_someO, map_noneO, ← ih]
    kernel_rfl
theorem e_r12_Look_expr (s : Fam) (k : Nat) (x : a_r12_Look_expr) : (evFunC EE (sp s) h_r12_Look_expr co_r12_Look_expr k Tryz.f73 (c_r12_Look_expr.enc x)).run = (B_r12_Look_expr s k x.1 x.2.1 x.2.2.1 x.2.2.2.1).map rc_r12_Look_expr.enc := by
  simp only [B_r12_Look_expr, B_r12_Look_expr_h1, B_r12_Look_expr_h0, B_r12_Look_expr_h2, map_ite, map_bindO, map_someO, map_noneO, ← Lr12_Look_expr_23_eq, ← Lr12_Look_expr_37_eq, ← Lr12_Look_expr_53_eq]
  kernel_rfl
-- 1858 nodes
end Go.Ev
end
section
open Go Go.Proofs
namespace Go.Ev
set_option linter.unusedVariables false
set_option linter.unusedSimpArgs false
set_option maxHeartbeats 4000000
set_option maxRecDepth 100000
def B_r12_Look_variable (s : Fam) (k : Nat) (x0 : Int × Int × Unit) (x1 : List Tr12_Thing) (x2 : ByteArray) : Option (TType × (Int × Int × Unit) × Unit) := ((s.f_r12_find (x1, x2, ())).bind fun t1 => (if (t1.Kind != 3) = Bool.true then ((s.f_r12_Look_fail ((x0.fst, x0.snd.fst, ()), 13, ())).bind fun t3 => some (({ Kind := 0, Size := 0, Name := { data := #[] : ByteArray } : TType }, (t3.snd.fst.fst, t3.snd.fst.snd.fst, ()), ()))) else some ((Tr12_Thing.sub_T t1, (x0.fst, x0.snd.fst, ()), ()))))
theorem e_r12_Look_variable (s : Fam) (k : Nat) (x : a_r12_Look_variable) : (evFunC EE (sp s) h_r12_Look_variable co_r12_Look_variable k Tryz.f74 (c_r12_Look_variable.enc x)).run = (B_r12_Look_variable s k x.1 x.2.1 x.2.2.1).map rc_r12_Look_variable.enc := by
  simp only [B_r12_Look_variable, map_ite, map_bindO, map_someO, map_noneO]
  kernel_rfl
-- 5 nodes
def Ltree_each_Rec_3 (s : Fam) (k : Nat) (x0 : List TRec) (x1 : Thing × Unit) : Nat → List TRec → Int → Int → List TRec → Thing → Option (List TRec × Thing × Unit)
  | 0, _, _, _, _, _ => none
  | j3 + 1, v0, v1, v2, v3, v4 => (if decide (v2 < v1) = Bool.true then (if 0 ≤ v2 then (if v2 < (↑v0.length : Int) then ((s.f_tree_mapper_rec ((v4, ()), v0.getD v2.toNat dd_TRec, ())).bind fun t5 => (if (v3 ++ [t5.fst]).length * 112 ≤ 140737488355328 then Ltree_each_Rec_3 s k x0 x1 j3 (v0) (v1) (Go.IntKind.i64.wrap (v2 + 1)) (v3 ++ [t5.fst]) (t5.snd.fst) else none)) else none) else none) else some ((v3, v4, ())))
def B_tree_each_Rec (s : Fam) (k : Nat) (x0 : List TRec) (x1 : Thing × Unit) : Option (List TRec × Thing × Unit) := Ltree_each_Rec_3 s k x0 x1 k (x0) ((↑x0.length : Int)) (0) ([]) (x1.fst)
theorem Ltree_each_Rec_3_eq (s : Fam) (k : Nat) (x0 : List TRec) (x1 : Thing × Unit) : ∀ (j3 : Nat) (v0 : List TRec) (v1 : Int) (v2 : Int) (v3 : List TRec) (v4 : Thing), (loopGo EE (sp s) h_tree_each_Rec co_tree_each_Rec (rootAs (unAs 1000004 (c_tree_each_Rec.enc (x0, x1, ()))).1) k Tryz.f76 3 [] j3 ({ tmps := ofL AV.any [(1, AV.c (CV.mth 77 [CV.fx 1000004])), (5, AV.c (CV.own 5 0)), (8, AV.c (CV.d (DV.sl 46 v0))), (9, AV.c (CV.d (DV.lit (Go.Value.int Go.IntKind.i64 v1)))), (10, AV.c (CV.d (DV.lit (Go.Value.int Go.IntKind.i64 v2))))], boxes := ofL Option.none [(1000004, Option.none)], objs := ofL Option.none [(5, Option.some { ver := 0, t := 46, xs := v3 : Obj II }), (8, Option.none)], fxs := ofL Option.none [(1000004, Option.some v4)] : AS II })).run = (Ltree_each_Rec_3 s k x0 x1 j3 v0 v1 v2 v3 v4).map rc_tree_each_Rec.enc := by
  intro j3
  induction j3 with
  | zero => intros; rfl
  | succ j3 ih =>
    intros
    simp only [Ltree_each_Rec_3, map_ite, map_bindO, map_someO, map_noneO, ← ih]
    kernel_rfl
theorem e_tree_each_Rec (s : Fam) (k : Nat) (x : a_tree_each_Rec) : (evFunC EE (sp s) h_tree_each_Rec co_tree_each_Rec k Tryz.f76 (c_tree_each_Rec.enc x)).run = (B_tree_each_Rec s k x.1 x.2.1).map rc_tree_each_Rec.enc := by
  simp only [B_tree_each_Rec, map_ite, map_bindO, map_someO, map_noneO, ← Ltree_each_Rec_3_eq]
  kernel_rfl
-- 11 nodes
def B_tree_mapper_rec (s : Fam) (k : Nat) (x0 : Thing × Unit) (x1 : TRec) : Option (TRec × Thing × Unit) := ((s.f_tree_mapper_marks ((x0.fst, ()), x1.sub_Marks, ())).bind fun t1 => ((s.f_tree_mapper_parts ((t1.snd.fst, ()), x1.Name, ())).bind fun t2 => ((s.f_tree_each_Field (x1.Fields, ((), (t2.snd.fst, ()), ()), ())).bind fun t3 => ((s.f_slices_Clone_string (x1.End, ())).bind fun t4 => some (({ Marks_Before := t1.fst.Before, Marks_Trail := t1.fst.Trail, Name := t2.fst, Fields := t3.fst, End := t4 : TRec }, t3.snd.fst, ()))))))
theorem e_tree_mapper_rec (s : Fam) (k : Nat) (x : a_tree_mapper_rec) : (evFunC EE (sp s) h_tree_mapper_rec co_tree_mapper_rec k Tryz.f77 (c_tree_mapper_rec.enc x)).run = (B_tree_mapper_rec s k x.1 x.2.1).map rc_tree_mapper_rec.enc := by
  simp only [B_tree_mapper_rec, map_ite, map_bindO, map_someO, map_noneO]
  kernel_rfl
-- 5 nodes
def Ltree_each_Var_3 (s : Fam) (k : Nat) (x0 : List TVar) (x1 : Thing × Unit) : Nat → List TVar → Int → Int → List TVar → Thing → Option (List TVar × Thing × Unit)
  | 0, _, _, _, _, _ => none
  | j3 + 1, v0, v1, v2, v3, v4 => (if decide (v2 < v1) = Bool.true then (if 0 ≤ v2 then (if v2 < (↑v0.length : Int) then ((s.f_tree_mapper_variable ((v4, ()), v0.getD v2.toNat dd_TVar, ())).bind fun t5 => (if (v3 ++ [t5.fst]).length * 96 ≤ 140737488355328 then Ltree_each_Var_3 s k x0 x1 j3 (v0) (v1) (Go.IntKind.i64.wrap (v2 + 1)) (v3 ++ [t5.fst]) (t5.snd.fst) else none)) else none) else none) else some ((v3, v4, ())))
def B_tree_each_Var (s : Fam) (k : Nat) (x0 : List TVar) (x1 : Thing × Unit) : Option (List TVar × Thing × Unit) := Ltree_each_Var_3 s k x0 x1 k (x0) ((↑x0.length : Int)) (0) ([]) (x1.fst)
theorem Ltree_each_Var_3_eq (s : Fam) (k : Nat) (x0 : List TVar) (x1 : Thing × Unit) : ∀ (j3 : Nat) (v0 : List TVar) (v1 : Int) (v2 : Int) (v3 : List TVar) (v4 : Thing), (loopGo EE (sp s) h_tree_each_Var co_tree_each_Var (rootAs (unAs 1000004 (c_tree_each_Var.enc (x0, x1, ()))).1) k Tryz.f78 3 [] j3 ({ tmps := ofL AV.any [(1, AV.c (CV.mth 79 [CV.fx 1000004])), (5, AV.c (CV.own 5 0)), (8, AV.c (CV.d (DV.sl 56 v0))), (9, AV.c (CV.d (DV.lit (Go.Value.int Go.IntKind.i64 v1)))), (10, AV.c (CV.d (DV.lit (Go.Value.int Go.IntKind.i64 v2))))], boxes := ofL Option.none [(1000004, Option.none)], objs := ofL Option.none [(5, Option.some { ver := 0, t := 56, xs := v3 : Obj II }), (8, Option.none)], fxs := ofL Option.none [(1000004, Option.some v4)] : AS II })).run = (Ltree_each_Var_3 s k x0 x1 j3 v0 v1 v2 v3 v4).map rc_tree_each_Var.enc := by
  intro j3
  induction j3 with
  | zero => intros; rfl
  | succ j3 ih =>
    intros
    simp only [Ltree_each_Var_3, map_ite, map_bindO, map_someO, map_noneO, ← ih]
    kernel_rfl
theorem e_tree_each_Var (s : Fam) (k : Nat) (x : a_tree_each_Var) : (evFunC EE (sp s) h_tree_each_Var co_tree_each_Var k Tryz.f78 (c_tree_each_Var.enc x)).run = (B_tree_each_Var s k x.1 x.2.1).map rc_tree_each_Var.enc := by
  simp only [B_tree_each_Var, map_ite, map_bindO, map_someO, map_noneO, ← Ltree_each_Var_3_eq]
  kernel_rfl
-- 11 nodes
def B_tree_mapper_variable (s : Fam) (k : Nat) (x0 : Thing × Unit) (x1 : TVar) : Option (TVar × Thing × Unit) := ((s.f_tree_mapper_marks ((x0.fst, ()), x1.sub_Marks, ())).bind fun t1 => ((s.f_tree_mapper_parts ((t1.snd.fst, ()), x1.Name, ())).bind fun t2 => ((s.f_tree_mapper_typ ((t2.snd.fst, ()), x1.sub_T, ())).bind fun t3 => some (({ Marks_Before := t1.fst.Before, Marks_Trail := t1.fst.Trail, Name := t2.fst, T_Kind := t3.fst.Kind, T_Size := t3.fst.Size, T_Name := t3.fst.Name : TVar }, t3.snd.fst, ())))))
theorem e_tree_mapper_variable (s : Fam) (k : Nat) (x : a_tree_mapper_variable) : (evFunC EE (sp s) h_tree_mapper_variable co_tree_mapper_variable k Tryz.f79 (c_tree_mapper_variable.enc x)).run = (B_tree_mapper_variable s k x.1 x.2.1).map rc_tree_mapper_variable.enc := by
  simp only [B_tree_mapper_variable, map_ite, map_bindO, map_someO, map_noneO]
  kernel_rfl
-- 4 nodes
def Ltree_each_Routine_3 (s : Fam) (k : Nat) (x0 : List TRoutine) (x1 : Thing × Unit) : Nat → List TRoutine → Int → Int → List TRoutine → Thing → Option (List TRoutine × Thing × Unit)
  | 0, _, _, _, _, _ => none
  | j3 + 1, v0, v1, v2, v3, v4 => (if decide (v2 < v1) = Bool.true then (if 0 ≤ v2 then (if v2 < (↑v0.length : Int) then ((s.f_tree_mapper_routine ((v4, ()), (v0.getD v2.toNat dd_TRoutine).re, ())).bind fun t5 => (if (v3 ++ [t5.fst.re]).length * 192 ≤ 140737488355328 then Ltree_each_Routine_3 s k x0 x1 j3 (v0) (v1) (Go.IntKind.i64.wrap (v2 + 1)) (v3 ++ [t5.fst.re]) (t5.snd.fst) else none)) else none) else none) else some ((v3, v4, ())))
def B_tree_each_Routine (s : Fam) (k : Nat) (x0 : List TRoutine) (x1 : Thing × Unit) : Option (List TRoutine × Thing × Unit) := Ltree_each_Routine_3 s k x0 x1 k (x0) ((↑x0.length : Int)) (0) ([]) (x1.fst)
theorem Ltree_each_Routine_3_eq (s : Fam) (k : Nat) (x0 : List TRoutine) (x1 : Thing × Unit) : ∀ (j3 : Nat) (v0 : List TRoutine) (v1 : Int) (v2 : Int) (v3 : List TRoutine) (v4 : Thing), (loopGo EE (sp s) h_tree_each_Routine co_tree_each_Routine (rootAs (unAs 1000004 (c_tree_each_Routine.enc (x0, x1, ()))).1) k Tryz.f80 3 [] j3 ({ tmps := ofL AV.any [(1, AV.c (CV.mth 81 [CV.fx 1000004])), (5, AV.c (CV.own 5 0)), (8, AV.c (CV.d (DV.sl 90 v0))), (9, AV.c (CV.d (DV.lit (Go.Value.int Go.IntKind.i64 v1)))), (10, AV.c (CV.d (DV.lit (Go.Value.int Go.IntKind.i64 v2))))], boxes := ofL Option.none [(1000004, Option.none)], objs := ofL Option.none [(5, Option.some { ver := 0, t := 90, xs := v3 : Obj II }), (8, Option.none)], fxs := ofL Option.none [(1000004, Option.some v4)] : AS II })).run = (Ltree_each_Routine_3 s k x0 x1 j3 v0 v1 v2 v3 v4).map rc_tree_each_Routine.enc := by
  intro j3
  induction j3 with
  | zero => intros; rfl
  | succ j3 ih =>
    intros
    simp only [Ltree_each_Routine_3, map_ite, map_bindO, map_someO, map_noneO, ← ih]
    kernel_rfl
theorem e_tree_each_Routine (s : Fam) (k : Nat) (x : a_tree_each_Routine) : (evFunC EE (sp s) h_tree_each_Routine co_tree_each_Routine k Tryz.f80 (c_tree_each_Routine.enc x)).run = (B_tree_each_Routine s k x.1 x.2.1).map rc_tree_each_Routine.enc := by
  simp only [B_tree_each_Routine, map_ite, map_bindO, map_someO, map_noneO, ← Ltree_each_Routine_3_eq]
  kernel_rfl
-- 11 nodes
def B_tree_mapper_routine (s : Fam) (k : Nat) (x0 : Thing × Unit) (x1 : TRoutine) : Option (TRoutine × Thing × Unit) := ((s.f_tree_mapper_marks ((x0.fst, ()), x1.sub_Marks, ())).bind fun t1 => ((s.f_tree_mapper_parts ((t1.snd.fst, ()), x1.Name, ())).bind fun t2 => ((s.f_tree_each_Param (x1.Params, ((), (t2.snd.fst, ()), ()), ())).bind fun t3 => ((s.f_tree_each_Var (x1.Vars, (t3.snd.fst, ()), ())).bind fun t4 => ((s.f_tree_each_Routine (x1.Inner, (t4.snd.fst, ()), ())).bind fun t5 => ((s.f_tree_each_Stmt (x1.Body, (t5.snd.fst, ()), ())).bind fun t6 => ((s.f_slices_Clone_string (x1.End, ())).bind fun t7 => some (({ Marks_Before := t1.fst.Before, Marks_Trail := t1.fst.Trail, Name := t2.fst, Result := x1.Result, Params := t3.fst, Vars := t4.fst, Inner := t5.fst, Body := t6.fst, End := t7 : TRoutine }, t6.snd.fst, ())))))))))
theorem e_tree_mapper_routine (s : Fam) (k : Nat) (x : a_tree_mapper_routine) : (evFunC EE (sp s) h_tree_mapper_routine co_tree_mapper_routine k Tryz.f81 (c_tree_mapper_routine.enc x)).run = (B_tree_mapper_routine s k x.1 x.2.1).map rc_tree_mapper_routine.enc := by
  simp only [B_tree_mapper_routine, map_ite, map_bindO, map_someO, map_noneO]
  kernel_rfl
-- 8 nodes
def Ltree_each_Stmt_3 (s : Fam) (k : Nat) (x0 : List TStmt) (x1 : Thing × Unit) : Nat → List TStmt → Int → Int → List TStmt → Thing → Option (List TStmt × Thing × Unit)
  | 0, _, _, _, _, _ => none
  | j3 + 1, v0, v1, v2, v3, v4 => (if decide (v2 < v1) = Bool.true then (if 0 ≤ v2 then (if v2 < (↑v0.length : Int) then ((s.f_tree_mapper_stmt ((v4, ()), (v0.getD v2.toNat dd_TStmt).re, ())).bind fun t5 => (if (v3 ++ [t5.fst.re]).length * 272 ≤ 140737488355328 then Ltree_each_Stmt_3 s k x0 x1 j3 (v0) (v1) (Go.IntKind.i64.wrap (v2 + 1)) (v3 ++ [t5.fst.re]) (t5.snd.fst) else none)) else none) else none) else some ((v3, v4, ())))
def B_tree_each_Stmt (s : Fam) (k : Nat) (x0 : List TStmt) (x1 : Thing × Unit) : Option (List TStmt × Thing × Unit) := Ltree_each_Stmt_3 s k x0 x1 k (x0) ((↑x0.length : Int)) (0) ([]) (x1.fst)
theorem Ltree_each_Stmt_3_eq (s : Fam) (k : Nat) (x0 : List TStmt) (x1 : Thing × Unit) : ∀ (j3 : Nat) (v0 : List TStmt) (v1 : Int) (v2 : Int) (v3 : List TStmt) (v4 : Thing), (loopGo EE (sp s) h_tree_each_Stmt co_tree_each_Stmt (rootAs (unAs 1000004 (c_tree_each_Stmt.enc (x0, x1, ()))).1) k Tryz.f82 3 [] j3 ({ tmps := ofL AV.any [(1, AV.c (CV.mth 83 [CV.fx 1000004])), (5, AV.c (CV.own 5 0)), (8, AV.c (CV.d (DV.sl 97 v0))), (9, AV.c (CV.d (DV.lit (Go.Value.int Go.IntKind.i64 v1)))), (10, AV.c (CV.d (DV.lit (Go.Value.int Go.IntKind.i64 v2))))], boxes := ofL Option.none [(1000004, Option.none)], objs := ofL Option.none [(5, Option.some { ver := 0, t := 97, xs := v3 : Obj II }), (8, Option.none)], fxs := ofL Option.none [(1000004, Option.some v4)] : AS II })).run = (Ltree_each_Stmt_3 s k x0 x1 j3 v0 v1 v2 v3 v4).map rc_tree_each_Stmt.enc := by
  intro j3
  induction j3 with
  | zero => intros; rfl
  | succ j3 ih =>
    intros
    simp only [Ltree_each_Stmt_3, map_ite, map_bindO, map_someO, map_noneO, ← ih]
    kernel_rfl
theorem e_tree_each_Stmt (s : Fam) (k : Nat) (x : a_tree_each_Stmt) : (evFunC EE (sp s) h_tree_each_Stmt co_tree_each_Stmt k Tryz.f82 (c_tree_each_Stmt.enc x)).run = (B_tree_each_Stmt s k x.1 x.2.1).map rc_tree_each_Stmt.enc := by
  simp only [B_tree_each_Stmt, map_ite, map_bindO, map_someO, map_noneO, ← Ltree_each_Stmt_3_eq]
  kernel_rfl
-- 11 nodes
def B_tree_mapper_stmt (s : Fam) (k : Nat) (x0 : Thing × Unit) (x1 : TStmt) : Option (TStmt × Thing × Unit) := ((s.f_tree_mapper_marks ((x0.fst, ()), x1.sub_Marks, ())).bind fun t1 => ((s.f_tree_mapper_parts ((t1.snd.fst, ()), x1.Name, ())).bind fun t2 => ((s.f_tree_mapper_expr ((t2.snd.fst, ()), x1.sub_P, ())).bind fun t3 => ((s.f_tree_each_Expr (x1.E, (t3.snd.fst, ()), ())).bind fun t4 => ((s.f_tree_each_Stmt (x1.Body, (t4.snd.fst, ()), ())).bind fun t5 => ((s.f_tree_each_Stmt (x1.Else, (t5.snd.fst, ()), ())).bind fun t6 => ((s.f_slices_Clone_string (x1.End, ())).bind fun t7 => ((s.f_slices_Clone_string (x1.End2, ())).bind fun t8 => some (({ Marks_Before := t1.fst.Before, Marks_Trail := t1.fst.Trail, Op := x1.Op, Name := t2.fst, P_Op := t3.fst.Op, P_N := t3.fst.N, P_Name := t3.fst.Name, P_Field := t3.fst.Field, P_L := t3.fst.L, E := t4.fst, Down := x1.Down, More := x1.More, Body := t5.fst, Else := t6.fst, End := t7, End2 := t8 : TStmt }, t6.snd.fst, ()))))))))))
theorem e_tree_mapper_stmt (s : Fam) (k : Nat) (x : a_tree_mapper_stmt) : (evFunC EE (sp s) h_tree_mapper_stmt co_tree_mapper_stmt k Tryz.f83 (c_tree_mapper_stmt.enc x)).run = (B_tree_mapper_stmt s k x.1 x.2.1).map rc_tree_mapper_stmt.enc := by
  simp only [B_tree_mapper_stmt, map_ite, map_bindO, map_someO, map_noneO]
  kernel_rfl
-- 9 nodes
def Lslices_Index_string_2 (s : Fam) (k : Nat) (x0 : List ByteArray) (x1 : ByteArray) : Nat → List ByteArray → ByteArray → Int → Int → Option (Int)
  | 0, _, _, _, _ => none
  | j2 + 1, v0, v1, v2, v3 => (if decide (v3 < v2) = Bool.true then (if 0 ≤ v3 then (if v3 < (↑v0.length : Int) then (if (v1.toList == (v0.getD v3.toNat { data := #[] : ByteArray }).toList) = Bool.true then some (v3) else Lslices_Index_string_2 s k x0 x1 j2 (v0) (v1) (v2) (Go.IntKind.i64.wrap (v3 + 1))) else none) else none) else some (-1))
def B_slices_Index_string (s : Fam) (k : Nat) (x0 : List ByteArray) (x1 : ByteArray) : Option (Int) := Lslices_Index_string_2 s k x0 x1 k (x0) (x1) ((↑x0.length : Int)) (0)
theorem Lslices_Index_string_2_eq (s : Fam) (k : Nat) (x0 : List ByteArray) (x1 : ByteArray) : ∀ (j2 : Nat) (v0 : List ByteArray) (v1 : ByteArray) (v2 : Int) (v3 : Int), (loopGo EE (sp s) h_slices_Index_string co_slices_Index_string [] k Tryz.f86 2 [] j2 ({ tmps := ofL AV.any [(0, AV.c (CV.d (DV.sl 9 v0))), (1, AV.c (CV.d (DV.lit (Go.Value.string v1)))), (7, AV.c (CV.d (DV.lit (Go.Value.int Go.IntKind.i64 v2)))), (8, AV.c (CV.d (DV.lit (Go.Value.int Go.IntKind.i64 v3))))], boxes := ofL Option.none [], objs := ofL Option.none [], fxs := ofL Option.none [] : AS II })).run = (Lslices_Index_string_2 s k x0 x1 j2 v0 v1 v2 v3).map rc_slices_Index_string.enc := by
  intro j2
  induction j2 with
  | zero => intros; rfl
  | succ j2 ih =>
    intros
    simp only [Lslices_Index_string_2, map_ite, map_bindO, map_someO, map_noneO, ← ih]
    kernel_rfl
theorem e_slices_Index_string (s : Fam) (k : Nat) (x : a_slices_Index_string) : (evFunC EE (sp s) h_slices_Index_string co_slices_Index_string k Tryz.f86 (c_slices_Index_string.enc x)).run = (B_slices_Index_string s k x.1 x.2.1).map rc_slices_Index_string.enc := by
  simp only [B_slices_Index_string, map_ite, map_bindO, map_someO, map_noneO, ← Lslices_Index_string_2_eq]
  kernel_rfl
-- 10 nodes
def B_r04_Letter (s : Fam) (k : Nat) (x0 : Int) (x1 : Bool) : Option (Bool) := (if (decide (x0 ≥ 97) && decide (x0 ≤ 122)) = Bool.true then some (Bool.true) else some (!x1 && (x0 == 95 || decide (x0 ≥ 48) && decide (x0 ≤ 57))))
theorem e_r04_Letter (s : Fam) (k : Nat) (x : a_r04_Letter) : (evFunC EE (sp s) h_r04_Letter co_r04_Letter k Tryz.f89 (c_r04_Letter.enc x)).run = (B_r04_Letter s k x.1 x.2.1).map rc_r04_Letter.enc := by
  simp only [B_r04_Letter, map_ite, map_bindO, map_someO, map_noneO]
  kernel_rfl
-- 3 nodes
def B_r02_right (s : Fam) (k : Nat) (x0 : Int) : Option (Bool) := some (x0 == 9 || x0 == 10 || decide (x0 ≥ 32) && decide (x0 ≤ 126))
theorem e_r02_right (s : Fam) (k : Nat) (x : a_r02_right) : (evFunC EE (sp s) h_r02_right co_r02_right k Tryz.f90 (c_r02_right.enc x)).run = (B_r02_right s k x.1).map rc_r02_right.enc := by
  simp only [B_r02_right, map_ite, map_bindO, map_someO, map_noneO]
  kernel_rfl
-- 1 nodes
def B_r07_Expr (s : Fam) (k : Nat) (x0 : Int) (x1 : TExpr) : Option (Bool) := (if (x0 != 0 && x0 != 1) = Bool.true then some (Bool.false) else ((s.f_r07_form (x0, x1.re, 48, ())).bind fun t3 => (if t3 = Bool.true then ((s.f_r07_Deep (x1.re, 99, ())).bind fun t5 => some (Bool.true && decide (t5 ≤ 48))) else some (Bool.false))))
theorem e_r07_Expr (s : Fam) (k : Nat) (x : a_r07_Expr) : (evFunC EE (sp s) h_r07_Expr co_r07_Expr k Tryz.f91 (c_r07_Expr.enc x)).run = (B_r07_Expr s k x.1 x.2.1).map rc_r07_Expr.enc := by
  simp only [B_r07_Expr, map_ite, map_bindO, map_someO, map_noneO]
  kernel_rfl
-- 9 nodes
def B_r07_place (s : Fam) (k : Nat) (x0 : Int) (x1 : TExpr) : Option (Bool) := (if (decide (x1.Op ≥ 4) && decide (x1.Op ≤ 6)) = Bool.true then ((s.f_r07_Expr (x0, x1.re, ())).bind fun t2 => some (Bool.true && t2)) else some (Bool.false))
theorem e_r07_place (s : Fam) (k : Nat) (x : a_r07_place) : (evFunC EE (sp s) h_r07_place co_r07_place k Tryz.f92 (c_r07_place.enc x)).run = (B_r07_place s k x.1 x.2.1).map rc_r07_place.enc := by
  simp only [B_r07_place, map_ite, map_bindO, map_someO, map_noneO]
  kernel_rfl
-- 5 nodes
def B_r07_none (s : Fam) (k : Nat) (x0 : TExpr) : Option (Bool) := some (x0.Op == 0 && x0.N == 0 && x0.Name.toList == { data := #[] : ByteArray }.toList && x0.Field.toList == { data := #[] : ByteArray }.toList && (↑x0.L.length : Int) == 0)
theorem e_r07_none (s : Fam) (k : Nat) (x : a_r07_none) : (evFunC EE (sp s) h_r07_none co_r07_none k Tryz.f93 (c_r07_none.enc x)).run = (B_r07_none s k x.1).map rc_r07_none.enc := by
  simp only [B_r07_none, map_ite, map_bindO, map_someO, map_noneO]
  kernel_rfl
-- 1 nodes
def Lr12_Look_call_10 (s : Fam) (k : Nat) (x0 : Int × Int × Unit) (x1 : List Tr12_Thing) (x2 : TExpr) (x3 : Bool) : Nat → List Tr12_Thing → Int → Int → Int → Int → Int → ByteArray → ByteArray → List TExpr → Int → Int → ByteArray → ByteArray → Int → List ByteArray → List ByteArray → ByteArray → List TField → List ByteArray → List ByteArray → List ByteArray → ByteArray → Int → List TParam → List TVar → List TRoutine → List TStmt → List ByteArray → Int → Int → ByteArray → Option (TType × (Int × Int × Unit) × Unit)
  | 0, _, _, _, _, _, _, _, _, _, _, _, _, _, _, _, _, _, _, _, _, _, _, _, _, _, _, _, _, _, _, _ => none
  | j10 + 1, v0, v1, v2, v3, v4, v5, v6, v7, v8, v9, v10, v11, v12, v13, v14, v15, v16, v17, v18, v19, v20, v21, v22, v23, v24, v25, v26, v27, v28, v29, v30 => (if (decide (v1 < (↑v8.length : Int)) && v3 == 0) = Bool.true then (if 0 ≤ v1 then (if v1 < (↑v23.length : Int) then (if ((v23.getD v1.toNat dd_TParam).Mode == 0) = Bool.true then (if 0 ≤ v1 then (if v1 < (↑v8.length : Int) then ((s.f_r12_Look_value ((v2, v3, ()), v0, (v8.getD v1.toNat dd_TExpr).re, (v23.getD v1.toNat dd_TParam).T_Kind, ())).bind fun t16 => Lr12_Look_call_10 s k x0 x1 x2 x3 j10 (v0) (Go.IntKind.i64.wrap (v1 + 1)) (t16.snd.fst.fst) (t16.snd.fst.snd.fst) (v4) (v5) (v6) (v7) (v8) (v9) (v10) (v11) (v12) (v13) (v14) (v15) (v16) (v17) (v18) (v19) (v20) (v21) (v22) (v23) (v24) (v25) (v26) (v27) (v28) (v29) (v30)) else none) else none) else (if 0 ≤ v1 then (if v1 < (↑v8.length : Int) then (if decide ((v8.getD v1.toNat dd_TExpr).Op < 4) = Bool.false then (if 0 ≤ v1 then (if v1 < (↑v8.length : Int) then (if (Bool.false || decide ((v8.getD v1.toNat dd_TExpr).Op > 6)) = Bool.true then ((s.f_r12_Look_fail ((v2, v3, ()), 14, ())).bind fun t26 => (if 0 ≤ v1 then (if v1 < (↑v8.length : Int) then ((s.f_r12_Look_expr ((t26.snd.fst.fst, t26.snd.fst.snd.fst, ()), v0, (v8.getD v1.toNat dd_TExpr).re, Bool.false, ())).bind fun t29 => (if (!(t29.fst.Kind == (v23.getD v1.toNat dd_TParam).T_Kind && (t29.fst.Size == (v23.getD v1.toNat dd_TParam).T_Size && (t29.fst.Name.toList == (v23.getD v1.toNat dd_TParam).T_Name.toList && Bool.true)))) = Bool.true then ((s.f_r12_Look_fail ((t29.snd.fst.fst, t29.snd.fst.snd.fst, ()), 14, ())).bind fun t31 => Lr12_Look_call_10 s k x0 x1 x2 x3 j10 (v0) (Go.IntKind.i64.wrap (v1 + 1)) (t31.snd.fst.fst) (t31.snd.fst.snd.fst) (v4) (v5) (v6) (v7) (v8) (v9) (v10) (v11) (v12) (v13) (v14) (v15) (v16) (v17) (v18) (v19) (v20) (v21) (v22) (v23) (v24) (v25) (v26) (v27) (v28) (v29) (v30)) else Lr12_Look_call_10 s k x0 x1 x2 x3 j10 (v0) (Go.IntKind.i64.wrap (v1 + 1)) (t29.snd.fst.fst) (t29.snd.fst.snd.fst) (v4) (v5) (v6) (v7) (v8) (v9) (v10) (v11) (v12) (v13) (v14) (v15) (v16) (v17) (v18) (v19) (v20) (v21) (v22) (v23) (v24) (v25) (v26) (v27) (v28) (v29) (v30))) else none) else none)) else (if 0 ≤ v1 then (if v1 < (↑v8.length : Int) then ((s.f_r12_Look_expr ((v2, v3, ()), v0, (v8.getD v1.toNat dd_TExpr).re, Bool.false, ())).bind fun t38 => (if (!(t38.fst.Kind == (v23.getD v1.toNat dd_TParam).T_Kind && (t38.fst.Size == (v23.getD v1.toNat dd_TParam).T_Size && (t38.fst.Name.toList == (v23.getD v1.toNat dd_TParam).T_Name.toList && Bool.true)))) = Bool.true then ((s.f_r12_Look_fail ((t38.snd.fst.fst, t38.snd.fst.snd.fst, ()), 14, ())).bind fun t40 => Lr12_Look_call_10 s k x0 x1 x2 x3 j10 (v0) (Go.IntKind.i64.wrap (v1 + 1)) (t40.snd.fst.fst) (t40.snd.fst.snd.fst) (v4) (v5) (v6) (v7) (v8) (v9) (v10) (v11) (v12) (v13) (v14) (v15) (v16) (v17) (v18) (v19) (v20) (v21) (v22) (v23) (v24) (v25) (v26) (v27) (v28) (v29) (v30)) else Lr12_Look_call_10 s k x0 x1 x2 x3 j10 (v0) (Go.IntKind.i64.wrap (v1 + 1)) (t38.snd.fst.fst) (t38.snd.fst.snd.fst) (v4) (v5) (v6) (v7) (v8) (v9) (v10) (v11) (v12) (v13) (v14) (v15) (v16) (v17) (v18) (v19) (v20) (v21) (v22) (v23) (v24) (v25) (v26) (v27) (v28) (v29) (v30))) else none) else none)) else none) else none) else ((s.f_r12_Look_fail ((v2, v3, ()), 14, ())).bind fun t52 => (if 0 ≤ v1 then (if v1 < (↑v8.length : Int) then ((s.f_r12_Look_expr ((t52.snd.fst.fst, t52.snd.fst.snd.fst, ()), v0, (v8.getD v1.toNat dd_TExpr).re, Bool.false, ())).bind fun t55 => (if (!(t55.fst.Kind == (v23.getD v1.toNat dd_TParam).T_Kind && (t55.fst.Size == (v23.getD v1.toNat dd_TParam).T_Size && (t55.fst.Name.toList == (v23.getD v1.toNat dd_TParam).T_Name.toList && Bool.true)))) = Bool.true then ((s.f_r12_Look_fail ((t55.snd.fst.fst, t55.snd.fst.snd.fst, ()), 14, ())).bind fun t57 => Lr12_Look_call_10 s k x0 x1 x2 x3 j10 (v0) (Go.IntKind.i64.wrap (v1 + 1)) (t57.snd.fst.fst) (t57.snd.fst.snd.fst) (v4) (v5) (v6) (v7) (v8) (v9) (v10) (v11) (v12) (v13) (v14) (v15) (v16) (v17) (v18) (v19) (v20) (v21) (v22) (v23) (v24) (v25) (v26) (v27) (v28) (v29) (v30)) else Lr12_Look_call_10 s k x0 x1 x2 x3 j10 (v0) (Go.IntKind.i64.wrap (v1 + 1)) (t55.snd.fst.fst) (t55.snd.fst.snd.fst) (v4) (v5) (v6) (v7) (v8) (v9) (v10) (v11) (v12) (v13) (v14) (v15) (v16) (v17) (v18) (v19) (v20) (v21) (v22) (v23) (v24) (v25) (v26) (v27) (v28) (v29) (v30))) else none) else none))) else none) else none)) else none) else none) else some (({ Kind := v22, Size := 0, Name := { data := #[] : ByteArray } : TType }, (v2, v3, ()), ())))
def B_r12_Look_call (s : Fam) (k : Nat) (x0 : Int × Int × Unit) (x1 : List Tr12_Thing) (x2 : TExpr) (x3 : Bool) : Option (TType × (Int × Int × Unit) × Unit) := ((s.f_r12_find (x1, x2.Name, ())).bind fun t1 => (if (t1.Kind != 2) = Bool.true then ((s.f_r12_Look_fail ((x0.fst, x0.snd.fst, ()), 13, ())).bind fun t3 => some (({ Kind := 0, Size := 0, Name := { data := #[] : ByteArray } : TType }, (t3.snd.fst.fst, t3.snd.fst.snd.fst, ()), ()))) else (if (decide (t1.R_Result > 0) == x3) = Bool.true then ((s.f_r12_Look_fail ((x0.fst, x0.snd.fst, ()), 14, ())).bind fun t6 => (if ((↑t1.R_Params.length : Int) != (↑x2.L.length : Int)) = Bool.true then ((s.f_r12_Look_fail ((t6.snd.fst.fst, t6.snd.fst.snd.fst, ()), 15, ())).bind fun t8 => Lr12_Look_call_10 s k x0 x1 x2 x3 k (x1) (0) (t8.snd.fst.fst) (t8.snd.fst.snd.fst) (x2.Op) (x2.N) (x2.Name) (x2.Field) (x2.L) (0) (0) ({ data := #[] : ByteArray }) (t1.Name) (t1.Kind) (t1.Rec_Marks_Before) (t1.Rec_Marks_Trail) (t1.Rec_Name) (t1.Rec_Fields) (t1.Rec_End) (t1.R_Marks_Before) (t1.R_Marks_Trail) (t1.R_Name) (t1.R_Result) (t1.R_Params) (t1.R_Vars) (t1.R_Inner) (t1.R_Body) (t1.R_End) (t1.T_Kind) (t1.T_Size) (t1.T_Name)) else Lr12_Look_call_10 s k x0 x1 x2 x3 k (x1) (0) (t6.snd.fst.fst) (t6.snd.fst.snd.fst) (x2.Op) (x2.N) (x2.Name) (x2.Field) (x2.L) (0) (0) ({ data := #[] : ByteArray }) (t1.Name) (t1.Kind) (t1.Rec_Marks_Before) (t1.Rec_Marks_Trail) (t1.Rec_Name) (t1.Rec_Fields) (t1.Rec_End) (t1.R_Marks_Before) (t1.R_Marks_Trail) (t1.R_Name) (t1.R_Result) (t1.R_Params) (t1.R_Vars) (t1.R_Inner) (t1.R_Body) (t1.R_End) (t1.T_Kind) (t1.T_Size) (t1.T_Name))) else (if ((↑t1.R_Params.length : Int) != (↑x2.L.length : Int)) = Bool.true then ((s.f_r12_Look_fail ((x0.fst, x0.snd.fst, ()), 15, ())).bind fun t69 => Lr12_Look_call_10 s k x0 x1 x2 x3 k (x1) (0) (t69.snd.fst.fst) (t69.snd.fst.snd.fst) (x2.Op) (x2.N) (x2.Name) (x2.Field) (x2.L) (0) (0) ({ data := #[] : ByteArray }) (t1.Name) (t1.Kind) (t1.Rec_Marks_Before) (t1.Rec_Marks_Trail) (t1.Rec_Name) (t1.Rec_Fields) (t1.Rec_End) (t1.R_Marks_Before) (t1.R_Marks_Trail) (t1.R_Name) (t1.R_Result) (t1.R_Params) (t1.R_Vars) (t1.R_Inner) (t1.R_Body) (t1.R_End) (t1.T_Kind) (t1.T_Size) (t1.T_Name)) else Lr12_Look_call_10 s k x0 x1 x2 x3 k (x1) (0) (x0.fst) (x0.snd.fst) (x2.Op) (x2.N) (x2.Name) (x2.Field) (x2.L) (0) (0) ({ data := #[] : ByteArray }) (t1.Name) (t1.Kind) (t1.Rec_Marks_Before) (t1.Rec_Marks_Trail) (t1.Rec_Name) (t1.Rec_Fields) (t1.Rec_End) (t1.R_Marks_Before) (t1.R_Marks_Trail) (t1.R_Name) (t1.R_Result) (t1.R_Params) (t1.R_Vars) (t1.R_Inner) (t1.R_Body) (t1.R_End) (t1.T_Kind) (t1.T_Size) (t1.T_Name)))))
theorem Lr12_Look_call_10_eq (s : Fam) (k : Nat) (x0 : Int × Int × Unit) (x1 : List Tr12_Thing) (x2 : TExpr) (x3 : Bool) : ∀ (j10 : Nat) (v0 : List Tr12_Thing) (v1 : Int) (v2 : Int) (v3 : Int) (v4 : Int) (v5 : Int) (v6 : ByteArray) (v7 : ByteArray) (v8 : List TExpr) (v9 : Int) (v10 : Int) (v11 : ByteArray) (v12 : ByteArray) (v13 : Int) (v14 : List ByteArray) (v15 : List ByteArray) (v16 : ByteArray) (v17 : List TField) (v18 : List ByteArray) (v19 : List ByteArray) (v20 : List ByteArray) (v21 : ByteArray) (v22 : Int) (v23 : List TParam) (v24 : List TVar) (v25 : List TRoutine) (v26 : List TStmt) (v27 : List ByteArray) (v28 : Int) (v29 : Int) (v30 : ByteArray), (loopGo EE (sp s) h_r12_Look_call co_r12_Look_call (rootAs (unAs 1000004 (c_r12_Look_call.enc (x0, x1, x2, x3, ()))).1) k Tryz.f94 10 [] j10 ({ tmps := ofL AV.any [(0, AV.c (CV.ptr 1000004 0)), (1, AV.c (CV.d (DV.sl 118 v0))), (6, AV.c (CV.ptr 6 0)), (8, AV.c (CV.ptr 8 0)), (9, AV.c (CV.ptr 9 0)), (10, AV.c (CV.d (DV.lit (Go.Value.int Go.IntKind.i64 v1))))], boxes := ofL Option.none [(1000004, Option.some [CV.d (DV.lit (Go.Value.int Go.IntKind.i64 v2)), CV.d (DV.lit (Go.Value.int Go.IntKind.i64 v3))]), (6, Option.some [CV.d (DV.lit (Go.Value.int Go.IntKind.i64 v4)), CV.d (DV.lit (Go.Value.int Go.IntKind.i64 v5)), CV.d (DV.lit (Go.Value.string v6)), CV.d (DV.lit (Go.Value.string v7)), CV.d (DV.sl 95 v8)]), (8, Option.some [CV.d (DV.lit (Go.Value.int Go.IntKind.i64 v9)), CV.d (DV.lit (Go.Value.int Go.IntKind.i64 v10)), CV.d (DV.lit (Go.Value.string v11))]), (9, Option.some [CV.d (DV.lit (Go.Value.string v12)), CV.d (DV.lit (Go.Value.int Go.IntKind.i64 v13)), CV.d (DV.sl 9 v14), CV.d (DV.sl 9 v15), CV.d (DV.lit (Go.Value.string v16)), CV.d (DV.sl 48 v17), CV.d (DV.sl 9 v18), CV.d (DV.sl 9 v19), CV.d (DV.sl 9 v20), CV.d (DV.lit (Go.Value.string v21)), CV.d (DV.lit (Go.Value.int Go.IntKind.i64 v22)), CV.d (DV.sl 92 v23), CV.d (DV.sl 56 v24), CV.d (DV.sl 90 v25), CV.d (DV.sl 97 v26), CV.d (DV.sl 9 v27), CV.d (DV.lit (Go.Value.int Go.IntKind.i64 v28)), CV.d (DV.lit (Go.Value.int Go.IntKind.i64 v29)), CV.d (DV.lit (Go.Value.string v30))])], objs := ofL Option.none [(1099511652356, Option.none), (1099511664642, Option.none), (1099511664643, Option.none), (1099511664645, Option.none), (1099511664646, Option.none), (1099511664647, Option.none), (1099511664648, Option.none), (1099511664651, Option.none), (1099511664652, Option.none), (1099511664653, Option.none), (1099511664654, Option.none), (1099511664655, Option.none)], fxs := ofL Option.none [(1000004, Option.none), (6, Option.none), (8, Option.none), (9, Option.none)] : AS II })).run = (Lr12_Look_call_10 s k x0 x1 x2 x3 j10 v0 v1 v2 v3 v4 v5 v6 v7 v8 v9 v10 v11 v12 v13 v14 v15 v16 v17 v18 v19 v20 v21 v22 v23 v24 v25 v26 v27 v28 v29 v30).map rc_r12_Look_call.enc := by
  intro j10
  induction j10 with
  | zero => intros; rfl
  | succ j10 ih =>
    intros
    simp only [Lr12_Look_call_10, map_ite, map_bindO, map_someO, map_noneO, ← ih]
    kernel_rfl
theorem e_r12_Look_call (s : Fam) (k : Nat) (x : a_r12_Look_call) : (evFunC EE (sp s) h_r12_Look_call co_r12_Look_call k Tryz.f94 (c_r12_Look_call.enc x)).run = (B_r12_Look_call s k x.1 x.2.1 x.2.2.1 x.2.2.2.1).map rc_r12_Look_call.enc := by
  simp only [B_r12_Look_call, map_ite, map_bindO, map_someO, map_noneO, ← Lr12_Look_call_10_eq]
  kernel_rfl
-- 71 nodes
def B_tree_mapper_marks (s : Fam) (k : Nat) (x0 : Thing × Unit) (x1 : TMarks) : Option (TMarks × Thing × Unit) := ((s.f_slices_Clone_string (x1.Before, ())).bind fun t1 => ((s.f_slices_Clone_string (x1.Trail, ())).bind fun t2 => some (({ Before := t1, Trail := t2 : TMarks }, x0.fst, ()))))
theorem e_tree_mapper_marks (s : Fam) (k : Nat) (x : a_tree_mapper_marks) : (evFunC EE (sp s) h_tree_mapper_marks co_tree_mapper_marks k Tryz.f97 (c_tree_mapper_marks.enc x)).run = (B_tree_mapper_marks s k x.1 x.2.1).map rc_tree_mapper_marks.enc := by
  simp only [B_tree_mapper_marks, map_ite, map_bindO, map_someO, map_noneO]
  kernel_rfl
-- 3 nodes
def Ltree_each_Field_3 (s : Fam) (k : Nat) (x0 : List TField) (x1 : Unit × (Thing × Unit) × Unit) : Nat → List TField → Int → Int → List TField → Thing → Option (List TField × Thing × Unit)
  | 0, _, _, _, _, _ => none
  | j3 + 1, v0, v1, v2, v3, v4 => (if decide (v2 < v1) = Bool.true then (if 0 ≤ v2 then (if v2 < (↑v0.length : Int) then ((s.f_tree_mapper_rec_1 (v0.getD v2.toNat dd_TField, (v4, ()), ())).bind fun t5 => (if (v3 ++ [t5.fst]).length * 72 ≤ 140737488355328 then Ltree_each_Field_3 s k x0 x1 j3 (v0) (v1) (Go.IntKind.i64.wrap (v2 + 1)) (v3 ++ [t5.fst]) (t5.snd.fst) else none)) else none) else none) else some ((v3, v4, ())))
def B_tree_each_Field (s : Fam) (k : Nat) (x0 : List TField) (x1 : Unit × (Thing × Unit) × Unit) : Option (List TField × Thing × Unit) := Ltree_each_Field_3 s k x0 x1 k (x0) ((↑x0.length : Int)) (0) ([]) (x1.snd.fst.fst)
theorem Ltree_each_Field_3_eq (s : Fam) (k : Nat) (x0 : List TField) (x1 : Unit × (Thing × Unit) × Unit) : ∀ (j3 : Nat) (v0 : List TField) (v1 : Int) (v2 : Int) (v3 : List TField) (v4 : Thing), (loopGo EE (sp s) h_tree_each_Field co_tree_each_Field (rootAs (unAs 1000004 (c_tree_each_Field.enc (x0, x1, ()))).1) k Tryz.f98 3 [] j3 ({ tmps := ofL AV.any [(1, AV.c (CV.clo 99 [] [CV.rq [CV.fx 1000004] 0])), (5, AV.c (CV.own 5 0)), (8, AV.c (CV.d (DV.sl 48 v0))), (9, AV.c (CV.d (DV.lit (Go.Value.int Go.IntKind.i64 v1)))), (10, AV.c (CV.d (DV.lit (Go.Value.int Go.IntKind.i64 v2))))], boxes := ofL Option.none [(1000004, Option.none)], objs := ofL Option.none [(5, Option.some { ver := 0, t := 48, xs := v3 : Obj II }), (8, Option.none)], fxs := ofL Option.none [(1000004, Option.some v4)] : AS II })).run = (Ltree_each_Field_3 s k x0 x1 j3 v0 v1 v2 v3 v4).map rc_tree_each_Field.enc := by
  intro j3
  induction j3 with
  | zero => intros; rfl
  | succ j3 ih =>
    intros
    simp only [Ltree_each_Field_3, map_ite, map_bindO, map_someO, map_noneO, ← ih]
    kernel_rfl
theorem e_tree_each_Field (s : Fam) (k : Nat) (x : a_tree_each_Field) : (evFunC EE (sp s) h_tree_each_Field co_tree_each_Field k Tryz.f98 (c_tree_each_Field.enc x)).run = (B_tree_each_Field s k x.1 x.2.1).map rc_tree_each_Field.enc := by
  simp only [B_tree_each_Field, map_ite, map_bindO, map_someO, map_noneO, ← Ltree_each_Field_3_eq]
  kernel_rfl
-- 11 nodes
def B_tree_mapper_rec_1 (s : Fam) (k : Nat) (x0 : TField) (x1 : Thing × Unit) : Option (TField × Thing × Unit) := ((s.f_tree_mapper_marks ((x1.fst, ()), x0.sub_Marks, ())).bind fun t1 => ((s.f_tree_mapper_parts ((t1.snd.fst, ()), x0.Name, ())).bind fun t2 => some (({ Marks_Before := t1.fst.Before, Marks_Trail := t1.fst.Trail, Name := t2.fst, Kind := x0.Kind : TField }, t2.snd.fst, ()))))
theorem e_tree_mapper_rec_1 (s : Fam) (k : Nat) (x : a_tree_mapper_rec_1) : (evFunC EE (sp s) h_tree_mapper_rec_1 co_tree_mapper_rec_1 k Tryz.f99 (c_tree_mapper_rec_1.enc x)).run = (B_tree_mapper_rec_1 s k x.1 x.2.1).map rc_tree_mapper_rec_1.enc := by
  simp only [B_tree_mapper_rec_1, map_ite, map_bindO, map_someO, map_noneO]
  kernel_rfl
-- 3 nodes
def B_tree_mapper_typ (s : Fam) (k : Nat) (x0 : Thing × Unit) (x1 : TType) : Option (TType × Thing × Unit) := ((s.f_tree_mapper_parts ((x0.fst, ()), x1.Name, ())).bind fun t1 => some (({ Kind := x1.Kind, Size := x1.Size, Name := t1.fst : TType }, t1.snd.fst, ())))
theorem e_tree_mapper_typ (s : Fam) (k : Nat) (x : a_tree_mapper_typ) : (evFunC EE (sp s) h_tree_mapper_typ co_tree_mapper_typ k Tryz.f100 (c_tree_mapper_typ.enc x)).run = (B_tree_mapper_typ s k x.1 x.2.1).map rc_tree_mapper_typ.enc := by
  simp only [B_tree_mapper_typ, map_ite, map_bindO, map_someO, map_noneO]
  kernel_rfl
-- 2 nodes
def Ltree_each_Param_3 (s : Fam) (k : Nat) (x0 : List TParam) (x1 : Unit × (Thing × Unit) × Unit) : Nat → List TParam → Int → Int → List TParam → Thing → Option (List TParam × Thing × Unit)
  | 0, _, _, _, _, _ => none
  | j3 + 1, v0, v1, v2, v3, v4 => (if decide (v2 < v1) = Bool.true then (if 0 ≤ v2 then (if v2 < (↑v0.length : Int) then ((s.f_tree_mapper_routine_1 (v0.getD v2.toNat dd_TParam, (v4, ()), ())).bind fun t5 => (if (v3 ++ [t5.fst]).length * 56 ≤ 140737488355328 then Ltree_each_Param_3 s k x0 x1 j3 (v0) (v1) (Go.IntKind.i64.wrap (v2 + 1)) (v3 ++ [t5.fst]) (t5.snd.fst) else none)) else none) else none) else some ((v3, v4, ())))
def B_tree_each_Param (s : Fam) (k : Nat) (x0 : List TParam) (x1 : Unit × (Thing × Unit) × Unit) : Option (List TParam × Thing × Unit) := Ltree_each_Param_3 s k x0 x1 k (x0) ((↑x0.length : Int)) (0) ([]) (x1.snd.fst.fst)
theorem Ltree_each_Param_3_eq (s : Fam) (k : Nat) (x0 : List TParam) (x1 : Unit × (Thing × Unit) × Unit) : ∀ (j3 : Nat) (v0 : List TParam) (v1 : Int) (v2 : Int) (v3 : List TParam) (v4 : Thing), (loopGo EE (sp s) h_tree_each_Param co_tree_each_Param (rootAs (unAs 1000004 (c_tree_each_Param.enc (x0, x1, ()))).1) k Tryz.f101 3 [] j3 ({ tmps := ofL AV.any [(1, AV.c (CV.clo 102 [] [CV.rq [CV.fx 1000004] 0])), (5, AV.c (CV.own 5 0)), (8, AV.c (CV.d (DV.sl 92 v0))), (9, AV.c (CV.d (DV.lit (Go.Value.int Go.IntKind.i64 v1)))), (10, AV.c (CV.d (DV.lit (Go.Value.int Go.IntKind.i64 v2))))], boxes := ofL Option.none [(1000004, Option.none)], objs := ofL Option.none [(5, Option.some { ver := 0, t := 92, xs := v3 : Obj II }), (8, Option.none)], fxs := ofL Option.none [(1000004, Option.some v4)] : AS II })).run = (Ltree_each_Param_3 s k x0 x1 j3 v0 v1 v2 v3 v4).map rc_tree_each_Param.enc := by
  intro j3
  induction j3 with
  | zero => intros; rfl
  | succ j3 ih =>
    intros
    simp only [Ltree_each_Param_3, map_ite, map_bindO, map_someO, map_noneO, ← ih]
    kernel_rfl
theorem e_tree_each_Param (s : Fam) (k : Nat) (x : a_tree_each_Param) : (evFunC EE (sp s) h_tree_each_Param co_tree_each_Param k Tryz.f101 (c_tree_each_Param.enc x)).run = (B_tree_each_Param s k x.1 x.2.1).map rc_tree_each_Param.enc := by
  simp only [B_tree_each_Param, map_ite, map_bindO, map_someO, map_noneO, ← Ltree_each_Param_3_eq]
  kernel_rfl
-- 11 nodes
def B_tree_mapper_routine_1 (s : Fam) (k : Nat) (x0 : TParam) (x1 : Thing × Unit) : Option (TParam × Thing × Unit) := ((s.f_tree_mapper_parts ((x1.fst, ()), x0.Name, ())).bind fun t1 => ((s.f_tree_mapper_typ ((t1.snd.fst, ()), x0.sub_T, ())).bind fun t2 => some (({ Name := t1.fst, T_Kind := t2.fst.Kind, T_Size := t2.fst.Size, T_Name := t2.fst.Name, Mode := x0.Mode : TParam }, t2.snd.fst, ()))))
theorem e_tree_mapper_routine_1 (s : Fam) (k : Nat) (x : a_tree_mapper_routine_1) : (evFunC EE (sp s) h_tree_mapper_routine_1 co_tree_mapper_routine_1 k Tryz.f102 (c_tree_mapper_routine_1.enc x)).run = (B_tree_mapper_routine_1 s k x.1 x.2.1).map rc_tree_mapper_routine_1.enc := by
  simp only [B_tree_mapper_routine_1, map_ite, map_bindO, map_someO, map_noneO]
  kernel_rfl
-- 3 nodes
def B_tree_mapper_expr (s : Fam) (k : Nat) (x0 : Thing × Unit) (x1 : TExpr) : Option (TExpr × Thing × Unit) := ((s.f_tree_mapper_parts ((x0.fst, ()), x1.Name, ())).bind fun t1 => ((s.f_tree_mapper_parts ((t1.snd.fst, ()), x1.Field, ())).bind fun t2 => ((s.f_tree_each_Expr (x1.L, (t2.snd.fst, ()), ())).bind fun t3 => some (({ Op := x1.Op, N := x1.N, Name := t1.fst, Field := t2.fst, L := t3.fst : TExpr }, t3.snd.fst, ())))))
theorem e_tree_mapper_expr (s : Fam) (k : Nat) (x : a_tree_mapper_expr) : (evFunC EE (sp s) h_tree_mapper_expr co_tree_mapper_expr k Tryz.f103 (c_tree_mapper_expr.enc x)).run = (B_tree_mapper_expr s k x.1 x.2.1).map rc_tree_mapper_expr.enc := by
  simp only [B_tree_mapper_expr, map_ite, map_bindO, map_someO, map_noneO]
  kernel_rfl
-- 4 nodes
def Ltree_each_Expr_3 (s : Fam) (k : Nat) (x0 : List TExpr) (x1 : Thing × Unit) : Nat → List TExpr → Int → Int → List TExpr → Thing → Option (List TExpr × Thing × Unit)
  | 0, _, _, _, _, _ => none
  | j3 + 1, v0, v1, v2, v3, v4 => (if decide (v2 < v1) = Bool.true then (if 0 ≤ v2 then (if v2 < (↑v0.length : Int) then ((s.f_tree_mapper_expr ((v4, ()), (v0.getD v2.toNat dd_TExpr).re, ())).bind fun t5 => (if (v3 ++ [t5.fst.re]).length * 72 ≤ 140737488355328 then Ltree_each_Expr_3 s k x0 x1 j3 (v0) (v1) (Go.IntKind.i64.wrap (v2 + 1)) (v3 ++ [t5.fst.re]) (t5.snd.fst) else none)) else none) else none) else some ((v3, v4, ())))
def B_tree_each_Expr (s : Fam) (k : Nat) (x0 : List TExpr) (x1 : Thing × Unit) : Option (List TExpr × Thing × Unit) := Ltree_each_Expr_3 s k x0 x1 k (x0) ((↑x0.length : Int)) (0) ([]) (x1.fst)
theorem Ltree_each_Expr_3_eq (s : Fam) (k : Nat) (x0 : List TExpr) (x1 : Thing × Unit) : ∀ (j3 : Nat) (v0 : List TExpr) (v1 : Int) (v2 : Int) (v3 : List TExpr) (v4 : Thing), (loopGo EE (sp s) h_tree_each_Expr co_tree_each_Expr (rootAs (unAs 1000004 (c_tree_each_Expr.enc (x0, x1, ()))).1) k Tryz.f104 3 [] j3 ({ tmps := ofL AV.any [(1, AV.c (CV.mth 103 [CV.fx 1000004])), (5, AV.c (CV.own 5 0)), (8, AV.c (CV.d (DV.sl 95 v0))), (9, AV.c (CV.d (DV.lit (Go.Value.int Go.IntKind.i64 v1)))), (10, AV.c (CV.d (DV.lit (Go.Value.int Go.IntKind.i64 v2))))], boxes := ofL Option.none [(1000004, Option.none)], objs := ofL Option.none [(5, Option.some { ver := 0, t := 95, xs := v3 : Obj II }), (8, Option.none)], fxs := ofL Option.none [(1000004, Option.some v4)] : AS II })).run = (Ltree_each_Expr_3 s k x0 x1 j3 v0 v1 v2 v3 v4).map rc_tree_each_Expr.enc := by
  intro j3
  induction j3 with
  | zero => intros; rfl
  | succ j3 ih =>
    intros
    simp only [Ltree_each_Expr_3, map_ite, map_bindO, map_someO, map_noneO, ← ih]
    kernel_rfl
theorem e_tree_each_Expr (s : Fam) (k : Nat) (x : a_tree_each_Expr) : (evFunC EE (sp s) h_tree_each_Expr co_tree_each_Expr k Tryz.f104 (c_tree_each_Expr.enc x)).run = (B_tree_each_Expr s k x.1 x.2.1).map rc_tree_each_Expr.enc := by
  simp only [B_tree_each_Expr, map_ite, map_bindO, map_someO, map_noneO, ← Ltree_each_Expr_3_eq]
  kernel_rfl
-- 11 nodes
def Lr07_form_47 (s : Fam) (k : Nat) (x0 : Int) (x1 : TExpr) (x2 : Int) : Nat → Int → Int → Bool → Int → Int → Int → ByteArray → ByteArray → List TExpr → Option (Bool)
  | 0, _, _, _, _, _, _, _, _, _ => none
  | j47 + 1, v0, v1, v2, v3, v4, v5, v6, v7, v8 => (if decide (v3 < (↑v8.length : Int)) = Bool.true then (if 0 ≤ v3 then (if v3 < (↑v8.length : Int) then (if ((v8.getD v3.toNat dd_TExpr).Op == 25) = Bool.true then (if (v0 != 1 || v4 != 7) = Bool.false then ((s.f_r07_Name (1, (v8.getD v3.toNat dd_TExpr).Name, ())).bind fun t12 => (if (Bool.false || !t12 || (v8.getD v3.toNat dd_TExpr).N != 0 || !(v8.getD v3.toNat dd_TExpr).Field.toList == { data := #[] : ByteArray }.toList || (↑(v8.getD v3.toNat dd_TExpr).L.length : Int) != 0) = Bool.true then some (Bool.false) else Lr07_form_47 s k x0 x1 x2 j47 (v0) (v1) (Bool.true) (Go.IntKind.i64.wrap (v3 + 1)) (v4) (v5) (v6) (v7) (v8))) else some (Bool.false)) else (if v2 = Bool.false then ((s.f_r07_form (v0, (v8.getD v3.toNat dd_TExpr).re, Go.IntKind.i64.wrap (v1 - 1), ())).bind fun t21 => (if (Bool.false || !t21) = Bool.true then some (Bool.false) else Lr07_form_47 s k x0 x1 x2 j47 (v0) (v1) (v2) (Go.IntKind.i64.wrap (v3 + 1)) (v4) (v5) (v6) (v7) (v8))) else some (Bool.false))) else none) else none) else some (Bool.true))
def B_r07_form (s : Fam) (k : Nat) (x0 : Int) (x1 : TExpr) (x2 : Int) : Option (Bool) := (if (x2 == 0 || decide ((↑x1.L.length : Int) > 512)) = Bool.true then some (Bool.false) else (if (x1.Op == 1) = Bool.true then (if (!decide (x1.N ≥ 0) || !x1.Name.toList == { data := #[] : ByteArray }.toList || !x1.Field.toList == { data := #[] : ByteArray }.toList || (↑x1.L.length : Int) != 0) = Bool.true then some (Bool.false) else Lr07_form_47 s k x0 x1 x2 k (x0) (x2) (Bool.false) (0) (x1.Op) (x1.N) (x1.Name) (x1.Field) (x1.L)) else (if (x1.Op == 2) = Bool.true then (if (!(x1.N == 0 || x1.N == 1) || !x1.Name.toList == { data := #[] : ByteArray }.toList || !x1.Field.toList == { data := #[] : ByteArray }.toList || (↑x1.L.length : Int) != 0) = Bool.true then some (Bool.false) else Lr07_form_47 s k x0 x1 x2 k (x0) (x2) (Bool.false) (0) (x1.Op) (x1.N) (x1.Name) (x1.Field) (x1.L)) else (if (x1.Op == 3) = Bool.true then (if (!(decide (x1.N ≥ 0) && decide (x1.N ≤ 255)) || !x1.Name.toList == { data := #[] : ByteArray }.toList || !x1.Field.toList == { data := #[] : ByteArray }.toList || (↑x1.L.length : Int) != 0) = Bool.true then some (Bool.false) else Lr07_form_47 s k x0 x1 x2 k (x0) (x2) (Bool.false) (0) (x1.Op) (x1.N) (x1.Name) (x1.Field) (x1.L)) else (if (x1.Op == 4) = Bool.true then ((s.f_r07_Name (x0, x1.Name, ())).bind fun t41 => (if (!x1.N == 0 || !t41 || !x1.Field.toList == { data := #[] : ByteArray }.toList || (↑x1.L.length : Int) != 0) = Bool.true then some (Bool.false) else Lr07_form_47 s k x0 x1 x2 k (x0) (x2) (Bool.false) (0) (x1.Op) (x1.N) (x1.Name) (x1.Field) (x1.L))) else (if (x1.Op == 5) = Bool.true then ((s.f_r07_Name (x0, x1.Name, ())).bind fun t46 => (if (!x1.N == 0 || !t46 || !x1.Field.toList == { data := #[] : ByteArray }.toList || (↑x1.L.length : Int) != 1) = Bool.true then some (Bool.false) else Lr07_form_47 s k x0 x1 x2 k (x0) (x2) (Bool.false) (0) (x1.Op) (x1.N) (x1.Name) (x1.Field) (x1.L))) else (if (x1.Op == 6) = Bool.true then ((s.f_r07_Name (x0, x1.Name, ())).bind fun t51 => ((s.f_r07_Name (x0, x1.Field, ())).bind fun t52 => (if (!x1.N == 0 || !t51 || !t52 || (↑x1.L.length : Int) != 0) = Bool.true then some (Bool.false) else Lr07_form_47 s k x0 x1 x2 k (x0) (x2) (Bool.false) (0) (x1.Op) (x1.N) (x1.Name) (x1.Field) (x1.L)))) else (if (x1.Op == 7) = Bool.true then ((s.f_r07_Routine (x0, x1.Name, ())).bind fun t57 => (if (!x1.N == 0 || !t57 || !x1.Field.toList == { data := #[] : ByteArray }.toList || (↑x1.L.length : Int) != (↑x1.L.length : Int)) = Bool.true then some (Bool.false) else Lr07_form_47 s k x0 x1 x2 k (x0) (x2) (Bool.false) (0) (x1.Op) (x1.N) (x1.Name) (x1.Field) (x1.L))) else (if (x1.Op == 8) = Bool.true then (if (x1.Op == 8) = Bool.true then (if (!x1.N == 0 || !x1.Name.toList == { data := #[] : ByteArray }.toList || !x1.Field.toList == { data := #[] : ByteArray }.toList || (↑x1.L.length : Int) != 1) = Bool.true then some (Bool.false) else Lr07_form_47 s k x0 x1 x2 k (x0) (x2) (Bool.false) (0) (x1.Op) (x1.N) (x1.Name) (x1.Field) (x1.L)) else (if (x1.Op == 10) = Bool.true then (if (x1.Op == 10) = Bool.true then (if (!x1.N == 0 || !x1.Name.toList == { data := #[] : ByteArray }.toList || !x1.Field.toList == { data := #[] : ByteArray }.toList || (↑x1.L.length : Int) != 2) = Bool.true then some (Bool.false) else Lr07_form_47 s k x0 x1 x2 k (x0) (x2) (Bool.false) (0) (x1.Op) (x1.N) (x1.Name) (x1.Field) (x1.L)) else some (Bool.false)) else (if (x1.Op == 11) = Bool.true then (if (x1.Op == 11) = Bool.true then (if (!x1.N == 0 || !x1.Name.toList == { data := #[] : ByteArray }.toList || !x1.Field.toList == { data := #[] : ByteArray }.toList || (↑x1.L.length : Int) != 2) = Bool.true then some (Bool.false) else Lr07_form_47 s k x0 x1 x2 k (x0) (x2) (Bool.false) (0) (x1.Op) (x1.N) (x1.Name) (x1.Field) (x1.L)) else some (Bool.false)) else (if (x1.Op == 12) = Bool.true then (if (x1.Op == 12) = Bool.true then (if (!x1.N == 0 || !x1.Name.toList == { data := #[] : ByteArray }.toList || !x1.Field.toList == { data := #[] : ByteArray }.toList || (↑x1.L.length : Int) != 2) = Bool.true then some (Bool.false) else Lr07_form_47 s k x0 x1 x2 k (x0) (x2) (Bool.false) (0) (x1.Op) (x1.N) (x1.Name) (x1.Field) (x1.L)) else some (Bool.false)) else (if (x1.Op == 13) = Bool.true then (if (x1.Op == 13) = Bool.true then (if (!x1.N == 0 || !x1.Name.toList == { data := #[] : ByteArray }.toList || !x1.Field.toList == { data := #[] : ByteArray }.toList || (↑x1.L.length : Int) != 2) = Bool.true then some (Bool.false) else Lr07_form_47 s k x0 x1 x2 k (x0) (x2) (Bool.false) (0) (x1.Op) (x1.N) (x1.Name) (x1.Field) (x1.L)) else some (Bool.false)) else (if (x1.Op == 14) = Bool.true then (if (x1.Op == 14) = Bool.true then (if (!x1.N == 0 || !x1.Name.toList == { data := #[] : ByteArray }.toList || !x1.Field.toList == { data := #[] : ByteArray }.toList || (↑x1.L.length : Int) != 2) = Bool.true then some (Bool.false) else Lr07_form_47 s k x0 x1 x2 k (x0) (x2) (Bool.false) (0) (x1.Op) (x1.N) (x1.Name) (x1.Field) (x1.L)) else some (Bool.false)) else (if (x1.Op == 15) = Bool.true then (if (x1.Op == 15) = Bool.true then (if (!x1.N == 0 || !x1.Name.toList == { data := #[] : ByteArray }.toList || !x1.Field.toList == { data := #[] : ByteArray }.toList || (↑x1.L.length : Int) != 2) = Bool.true then some (Bool.false) else Lr07_form_47 s k x0 x1 x2 k (x0) (x2) (Bool.false) (0) (x1.Op) (x1.N) (x1.Name) (x1.Field) (x1.L)) else some (Bool.false)) else (if (x1.Op == 16) = Bool.true then (if (x1.Op == 16) = Bool.true then (if (!x1.N == 0 || !x1.Name.toList == { data := #[] : ByteArray }.toList || !x1.Field.toList == { data := #[] : ByteArray }.toList || (↑x1.L.length : Int) != 2) = Bool.true then some (Bool.false) else Lr07_form_47 s k x0 x1 x2 k (x0) (x2) (Bool.false) (0) (x1.Op) (x1.N) (x1.Name) (x1.Field) (x1.L)) else some (Bool.false)) else (if (x1.Op == 17) = Bool.true then (if (x1.Op == 17) = Bool.true then (if (!x1.N == 0 || !x1.Name.toList == { data := #[] : ByteArray }.toList || !x1.Field.toList == { data := #[] : ByteArray }.toList || (↑x1.L.length : Int) != 2) = Bool.true then some (Bool.false) else Lr07_form_47 s k x0 x1 x2 k (x0) (x2) (Bool.false) (0) (x1.Op) (x1.N) (x1.Name) (x1.Field) (x1.L)) else some (Bool.false)) else (if (x1.Op == 18) = Bool.true then (if (x1.Op == 18) = Bool.true then (if (!x1.N == 0 || !x1.Name.toList == { data := #[] : ByteArray }.toList || !x1.Field.toList == { data := #[] : ByteArray }.toList || (↑x1.L.length : Int) != 2) = Bool.true then some (Bool.false) else Lr07_form_47 s k x0 x1 x2 k (x0) (x2) (Bool.false) (0) (x1.Op) (x1.N) (x1.Name) (x1.Field) (x1.L)) else some (Bool.false)) else (if (x1.Op == 19) = Bool.true then (if (x1.Op == 19) = Bool.true then (if (!x1.N == 0 || !x1.Name.toList == { data := #[] : ByteArray }.toList || !x1.Field.toList == { data := #[] : ByteArray }.toList || (↑x1.L.length : Int) != 2) = Bool.true then some (Bool.false) else Lr07_form_47 s k x0 x1 x2 k (x0) (x2) (Bool.false) (0) (x1.Op) (x1.N) (x1.Name) (x1.Field) (x1.L)) else some (Bool.false)) else (if (x1.Op == 20) = Bool.true then (if (x1.Op == 20) = Bool.true then (if (!x1.N == 0 || !x1.Name.toList == { data := #[] : ByteArray }.toList || !x1.Field.toList == { data := #[] : ByteArray }.toList || (↑x1.L.length : Int) != 2) = Bool.true then some (Bool.false) else Lr07_form_47 s k x0 x1 x2 k (x0) (x2) (Bool.false) (0) (x1.Op) (x1.N) (x1.Name) (x1.Field) (x1.L)) else some (Bool.false)) else (if (x1.Op == 21) = Bool.true then (if (x1.Op == 21) = Bool.true then (if (!x1.N == 0 || !x1.Name.toList == { data := #[] : ByteArray }.toList || !x1.Field.toList == { data := #[] : ByteArray }.toList || (↑x1.L.length : Int) != 2) = Bool.true then some (Bool.false) else Lr07_form_47 s k x0 x1 x2 k (x0) (x2) (Bool.false) (0) (x1.Op) (x1.N) (x1.Name) (x1.Field) (x1.L)) else some (Bool.false)) else (if (x1.Op == 22) = Bool.true then (if (x1.Op == 22) = Bool.true then (if (!x1.N == 0 || !x1.Name.toList == { data := #[] : ByteArray }.toList || !x1.Field.toList == { data := #[] : ByteArray }.toList || (↑x1.L.length : Int) != 2) = Bool.true then some (Bool.false) else Lr07_form_47 s k x0 x1 x2 k (x0) (x2) (Bool.false) (0) (x1.Op) (x1.N) (x1.Name) (x1.Field) (x1.L)) else some (Bool.false)) else (if (x1.Op == 23) = Bool.true then (if (x1.Op == 23) = Bool.true then (if (!x1.N == 0 || !x1.Name.toList == { data := #[] : ByteArray }.toList || !x1.Field.toList == { data := #[] : ByteArray }.toList || (↑x1.L.length : Int) != 2) = Bool.true then some (Bool.false) else Lr07_form_47 s k x0 x1 x2 k (x0) (x2) (Bool.false) (0) (x1.Op) (x1.N) (x1.Name) (x1.Field) (x1.L)) else some (Bool.false)) else (if (x1.Op == 24) = Bool.true then (if (!x1.N == 0 || !x1.Name.toList == { data := #[] : ByteArray }.toList || !x1.Field.toList == { data := #[] : ByteArray }.toList || (↑x1.L.length : Int) != 2) = Bool.true then some (Bool.false) else Lr07_form_47 s k x0 x1 x2 k (x0) (x2) (Bool.false) (0) (x1.Op) (x1.N) (x1.Name) (x1.Field) (x1.L)) else some (Bool.false))))))))))))))))) else (if (x1.Op == 9) = Bool.true then (if (!x1.N == 0 || !x1.Name.toList == { data := #[] : ByteArray }.toList || !x1.Field.toList == { data := #[] : ByteArray }.toList || (↑x1.L.length : Int) != 1) = Bool.true then some (Bool.false) else Lr07_form_47 s k x0 x1 x2 k (x0) (x2) (Bool.false) (0) (x1.Op) (x1.N) (x1.Name) (x1.Field) (x1.L)) else (if (x1.Op == 10) = Bool.true then (if (x1.Op == 10) = Bool.true then (if (!x1.N == 0 || !x1.Name.toList == { data := #[] : ByteArray }.toList || !x1.Field.toList == { data := #[] : ByteArray }.toList || (↑x1.L.length : Int) != 2) = Bool.true then some (Bool.false) else Lr07_form_47 s k x0 x1 x2 k (x0) (x2) (Bool.false) (0) (x1.Op) (x1.N) (x1.Name) (x1.Field) (x1.L)) else some (Bool.false)) else (if (x1.Op == 11) = Bool.true then (if (x1.Op == 11) = Bool.true then (if (!x1.N == 0 || !x1.Name.toList == { data := #[] : ByteArray }.toList || !x1.Field.toList == { data := #[] : ByteArray }.toList || (↑x1.L.length : Int) != 2) = Bool.true then some (Bool.false) else Lr07_form_47 s k x0 x1 x2 k (x0) (x2) (Bool.false) (0) (x1.Op) (x1.N) (x1.Name) (x1.Field) (x1.L)) else some (Bool.false)) else (if (x1.Op == 12) = Bool.true then (if (x1.Op == 12) = Bool.true then (if (!x1.N == 0 || !x1.Name.toList == { data := #[] : ByteArray }.toList || !x1.Field.toList == { data := #[] : ByteArray }.toList || (↑x1.L.length : Int) != 2) = Bool.true then some (Bool.false) else Lr07_form_47 s k x0 x1 x2 k (x0) (x2) (Bool.false) (0) (x1.Op) (x1.N) (x1.Name) (x1.Field) (x1.L)) else some (Bool.false)) else (if (x1.Op == 13) = Bool.true then (if (x1.Op == 13) = Bool.true then (if (!x1.N == 0 || !x1.Name.toList == { data := #[] : ByteArray }.toList || !x1.Field.toList == { data := #[] : ByteArray }.toList || (↑x1.L.length : Int) != 2) = Bool.true then some (Bool.false) else Lr07_form_47 s k x0 x1 x2 k (x0) (x2) (Bool.false) (0) (x1.Op) (x1.N) (x1.Name) (x1.Field) (x1.L)) else some (Bool.false)) else (if (x1.Op == 14) = Bool.true then (if (x1.Op == 14) = Bool.true then (if (!x1.N == 0 || !x1.Name.toList == { data := #[] : ByteArray }.toList || !x1.Field.toList == { data := #[] : ByteArray }.toList || (↑x1.L.length : Int) != 2) = Bool.true then some (Bool.false) else Lr07_form_47 s k x0 x1 x2 k (x0) (x2) (Bool.false) (0) (x1.Op) (x1.N) (x1.Name) (x1.Field) (x1.L)) else some (Bool.false)) else (if (x1.Op == 15) = Bool.true then (if (x1.Op == 15) = Bool.true then (if (!x1.N == 0 || !x1.Name.toList == { data := #[] : ByteArray }.toList || !x1.Field.toList == { data := #[] : ByteArray }.toList || (↑x1.L.length : Int) != 2) = Bool.true then some (Bool.false) else Lr07_form_47 s k x0 x1 x2 k (x0) (x2) (Bool.false) (0) (x1.Op) (x1.N) (x1.Name) (x1.Field) (x1.L)) else some (Bool.false)) else (if (x1.Op == 16) = Bool.true then (if (x1.Op == 16) = Bool.true then (if (!x1.N == 0 || !x1.Name.toList == { data := #[] : ByteArray }.toList || !x1.Field.toList == { data := #[] : ByteArray }.toList || (↑x1.L.length : Int) != 2) = Bool.true then some (Bool.false) else Lr07_form_47 s k x0 x1 x2 k (x0) (x2) (Bool.false) (0) (x1.Op) (x1.N) (x1.Name) (x1.Field) (x1.L)) else some (Bool.false)) else (if (x1.Op == 17) = Bool.true then (if (x1.Op == 17) = Bool.true then (if (!x1.N == 0 || !x1.Name.toList == { data := #[] : ByteArray }.toList || !x1.Field.toList == { data := #[] : ByteArray }.toList || (↑x1.L.length : Int) != 2) = Bool.true then some (Bool.false) else Lr07_form_47 s k x0 x1 x2 k (x0) (x2) (Bool.false) (0) (x1.Op) (x1.N) (x1.Name) (x1.Field) (x1.L)) else some (Bool.false)) else (if (x1.Op == 18) = Bool.true then (if (x1.Op == 18) = Bool.true then (if (!x1.N == 0 || !x1.Name.toList == { data := #[] : ByteArray }.toList || !x1.Field.toList == { data := #[] : ByteArray }.toList || (↑x1.L.length : Int) != 2) = Bool.true then some (Bool.false) else Lr07_form_47 s k x0 x1 x2 k (x0) (x2) (Bool.false) (0) (x1.Op) (x1.N) (x1.Name) (x1.Field) (x1.L)) else some (Bool.false)) else (if (x1.Op == 19) = Bool.true then (if (x1.Op == 19) = Bool.true then (if (!x1.N == 0 || !x1.Name.toList == { data := #[] : ByteArray }.toList || !x1.Field.toList == { data := #[] : ByteArray }.toList || (↑x1.L.length : Int) != 2) = Bool.true then some (Bool.false) else Lr07_form_47 s k x0 x1 x2 k (x0) (x2) (Bool.false) (0) (x1.Op) (x1.N) (x1.Name) (x1.Field) (x1.L)) else some (Bool.false)) else (if (x1.Op == 20) = Bool.true then (if (x1.Op == 20) = Bool.true then (if (!x1.N == 0 || !x1.Name.toList == { data := #[] : ByteArray }.toList || !x1.Field.toList == { data := #[] : ByteArray }.toList || (↑x1.L.length : Int) != 2) = Bool.true then some (Bool.false) else Lr07_form_47 s k x0 x1 x2 k (x0) (x2) (Bool.false) (0) (x1.Op) (x1.N) (x1.Name) (x1.Field) (x1.L)) else some (Bool.false)) else (if (x1.Op == 21) = Bool.true then (if (x1.Op == 21) = Bool.true then (if (!x1.N == 0 || !x1.Name.toList == { data := #[] : ByteArray }.toList || !x1.Field.toList == { data := #[] : ByteArray }.toList || (↑x1.L.length : Int) != 2) = Bool.true then some (Bool.false) else Lr07_form_47 s k x0 x1 x2 k (x0) (x2) (Bool.false) (0) (x1.Op) (x1.N) (x1.Name) (x1.Field) (x1.L)) else some (Bool.false)) else (if (x1.Op == 22) = Bool.true then (if (x1.Op == 22) = Bool.true then (if (!x1.N == 0 || !x1.Name.toList == { data := #[] : ByteArray }.toList || !x1.Field.toList == { data := #[] : ByteArray }.toList || (↑x1.L.length : Int) != 2) = Bool.true then some (Bool.false) else Lr07_form_47 s k x0 x1 x2 k (x0) (x2) (Bool.false) (0) (x1.Op) (x1.N) (x1.Name) (x1.Field) (x1.L)) else some (Bool.false)) else (if (x1.Op == 23) = Bool.true then (if (x1.Op == 23) = Bool.true then (if (!x1.N == 0 || !x1.Name.toList == { data := #[] : ByteArray }.toList || !x1.Field.toList == { data := #[] : ByteArray }.toList || (↑x1.L.length : Int) != 2) = Bool.true then some (Bool.false) else Lr07_form_47 s k x0 x1 x2 k (x0) (x2) (Bool.false) (0) (x1.Op) (x1.N) (x1.Name) (x1.Field) (x1.L)) else some (Bool.false)) else (if (x1.Op == 24) = Bool.true then (if (!x1.N == 0 || !x1.Name.toList == { data := #[] : ByteArray }.toList || !x1.Field.toList == { data := #[] : ByteArray }.toList || (↑x1.L.length : Int) != 2) = Bool.true then some (Bool.false) else Lr07_form_47 s k x0 x1 x2 k (x0) (x2) (Bool.false) (0) (x1.Op) (x1.N) (x1.Name) (x1.Field) (x1.L)) else some (Bool.false))))))))))))))))))))))))))
theorem Lr07_form_47_eq (s : Fam) (k : Nat) (x0 : Int) (x1 : TExpr) (x2 : Int) : ∀ (j47 : Nat) (v0 : Int) (v1 : Int) (v2 : Bool) (v3 : Int) (v4 : Int) (v5 : Int) (v6 : ByteArray) (v7 : ByteArray) (v8 : List TExpr), (loopGo EE (sp s) h_r07_form co_r07_form [] k Tryz.f110 47 [] j47 ({ tmps := ofL AV.any [(0, AV.c (CV.d (DV.lit (Go.Value.int Go.IntKind.i64 v0)))), (2, AV.c (CV.d (DV.lit (Go.Value.int Go.IntKind.i64 v1)))), (4, AV.c (CV.ptr 4 0)), (11, AV.c (CV.d (DV.lit (Go.Value.bool v2)))), (12, AV.c (CV.d (DV.lit (Go.Value.int Go.IntKind.i64 v3))))], boxes := ofL Option.none [(4, Option.some [CV.d (DV.lit (Go.Value.int Go.IntKind.i64 v4)), CV.d (DV.lit (Go.Value.int Go.IntKind.i64 v5)), CV.d (DV.lit (Go.Value.string v6)), CV.d (DV.lit (Go.Value.string v7)), CV.d (DV.sl 95 v8)])], objs := ofL Option.none [(1099511644164, Option.none)], fxs := ofL Option.none [(4, Option.none)] : AS II })).run = (Lr07_form_47 s k x0 x1 x2 j47 v0 v1 v2 v3 v4 v5 v6 v7 v8).map rc_r07_form.enc := by
  intro j47
  induction j47 with
  | zero => intros; rfl
  | succ j47 ih =>
    intros
    simp only [Lr07_form_47, map_ite, map_bindO, map_someO, map_noneO, ← ih]
    kernel_rfl
theorem e_r07_form (s : Fam) (k : Nat) (x : a_r07_form) : (evFunC EE (sp s) h_r07_form co_r07_form k Tryz.f110 (c_r07_form.enc x)).run = (B_r07_form s k x.1 x.2.1 x.2.2.1).map rc_r07_form.enc := by
  simp only [B_r07_form, map_ite, map_bindO, map_someO, map_noneO, ← Lr07_form_47_eq]
  kernel_rfl
-- 247 nodes
end Go.Ev
end
section
open Go Go.Proofs
namespace Go.Ev
set_option linter.unusedVariables false
set_option linter.unusedSimpArgs false
set_option maxHeartbeats 4000000
set_option maxRecDepth 100000
def Lr07_Deep_3 (s : Fam) (k : Nat) (x0 : TExpr) (x1 : Int) : Nat → Int → Int → Int → Int → Int → ByteArray → ByteArray → List TExpr → Option (Int)
  | 0, _, _, _, _, _, _, _, _ => none
  | j3 + 1, v0, v1, v2, v3, v4, v5, v6, v7 => (if (decide (v2 < (↑v7.length : Int)) && decide (v0 > 0)) = Bool.true then (if 0 ≤ v2 then (if v2 < (↑v7.length : Int) then (if ((v7.getD v2.toNat dd_TExpr).Op != 25) = Bool.true then (if 0 ≤ v2 then (if v2 < (↑v7.length : Int) then ((s.f_r07_Deep ((v7.getD v2.toNat dd_TExpr).re, Go.IntKind.i64.wrap (v0 - 1), ())).bind fun t8 => Lr07_Deep_3 s k x0 x1 j3 (v0) (if t8 > v1 then t8 else v1) (Go.IntKind.i64.wrap (v2 + 1)) (v3) (v4) (v5) (v6) (v7)) else none) else none) else Lr07_Deep_3 s k x0 x1 j3 (v0) (v1) (Go.IntKind.i64.wrap (v2 + 1)) (v3) (v4) (v5) (v6) (v7)) else none) else none) else some (Go.IntKind.i64.wrap (v1 + 1)))
def B_r07_Deep (s : Fam) (k : Nat) (x0 : TExpr) (x1 : Int) : Option (Int) := Lr07_Deep_3 s k x0 x1 k (x1) (0) (0) (x0.Op) (x0.N) (x0.Name) (x0.Field) (x0.L)
theorem Lr07_Deep_3_eq (s : Fam) (k : Nat) (x0 : TExpr) (x1 : Int) : ∀ (j3 : Nat) (v0 : Int) (v1 : Int) (v2 : Int) (v3 : Int) (v4 : Int) (v5 : ByteArray) (v6 : ByteArray) (v7 : List TExpr), (loopGo EE (sp s) h_r07_Deep co_r07_Deep [] k Tryz.f111 3 [] j3 ({ tmps := ofL AV.any [(1, AV.c (CV.d (DV.lit (Go.Value.int Go.IntKind.i64 v0)))), (2, AV.c (CV.ptr 2 0)), (5, AV.c (CV.d (DV.lit (Go.Value.int Go.IntKind.i64 v1)))), (6, AV.c (CV.d (DV.lit (Go.Value.int Go.IntKind.i64 v2))))], boxes := ofL Option.none [(2, Option.some [CV.d (DV.lit (Go.Value.int Go.IntKind.i64 v3)), CV.d (DV.lit (Go.Value.int Go.IntKind.i64 v4)), CV.d (DV.lit (Go.Value.string v5)), CV.d (DV.lit (Go.Value.string v6)), CV.d (DV.sl 95 v7)])], objs := ofL Option.none [(1099511635972, Option.none)], fxs := ofL Option.none [(2, Option.none)] : AS II })).run = (Lr07_Deep_3 s k x0 x1 j3 v0 v1 v2 v3 v4 v5 v6 v7).map rc_r07_Deep.enc := by
  intro j3
  induction j3 with
  | zero => intros; rfl
  | succ j3 ih =>
    intros
    simp only [Lr07_Deep_3, map_ite, map_bindO, map_someO, map_noneO, ← ih]
    kernel_rfl
theorem e_r07_Deep (s : Fam) (k : Nat) (x : a_r07_Deep) : (evFunC EE (sp s) h_r07_Deep co_r07_Deep k Tryz.f111 (c_r07_Deep.enc x)).run = (B_r07_Deep s k x.1 x.2.1).map rc_r07_Deep.enc := by
  simp only [B_r07_Deep, map_ite, map_bindO, map_someO, map_noneO, ← Lr07_Deep_3_eq]
  kernel_rfl
-- 15 nodes
end Go.Ev
end
section
open Go
namespace Go.Ev
def sep36 : ByteArray := ⟨#[36]⟩
def cutD (s : ByteArray) : List ByteArray := Lib.splitB sep36 0 (Lib.countB s sep36) s
def joinD (l : List ByteArray) : ByteArray := ⟨(Lib.join (l.map (·.data.toList)) sep36.data.toList).toArray⟩
def stepT (x : a_by) : Option b_by := match x.1 with
  | .ren l => some ((match l.find? fun p => p.Old.toList == x.2.1.toList with | some p => p.New | none => x.2.1), .ren l, ())
  | .names l => if x.2.1.size ≤ maxLen then (if (l.any fun z => z.toList == x.2.1.toList) = true then some (x.2.1, .names l, ()) else if (l.length + 1) * 16 ≤ 140737488355328 then some (x.2.1, .names (l ++ [x.2.1]), ()) else none) else none
def partsT (s : Fam) (th : Thing) : List ByteArray → Option (List ByteArray × Thing)
  | [] => some ([], th)
  | p :: r => if p.size = 0 then (partsT s th r).map fun q => (p :: q.1, q.2) else (s.f_by (th, p, ())).bind fun t => (partsT s t.2.1 r).map fun q => (t.1 :: q.1, q.2)
def B_tree_mapper_parts (s : Fam) (_ : Nat) (m : Thing × Unit) (x : ByteArray) : Option b_tree_mapper_parts :=
  if x.size = 0 then some (ByteArray.empty, m.1, ()) else if 4294967280 < x.size then none else if 1000000000000 < (cutD x).length then none else
    (partsT s m.1 (cutD x)).bind fun q => if (Lib.join (q.1.map (·.data.toList)) sep36.data.toList).length ≤ 140737488355328 then some (joinD q.1, q.2, ()) else none
def B_tree_Names (s : Fam) (_ : Nat) (p : TProgram) : Option (List ByteArray) :=
  (s.f_tree_mapper_program ((.names [], ()), p, ())).bind fun r => match r.2.1 with
    | .names l => some l
    | _ => none
def B_tree_Rename (s : Fam) (_ : Nat) (p : TProgram) (l : List TPair) : Option TProgram := (s.f_tree_mapper_program ((.ren l, ()), p, ())).map (·.1)
def cutL : List UInt8 → List (List UInt8)
  | [] => [[]]
  | c :: r => if c = 36 then [] :: cutL r else match cutL r with
    | [] => [[c]]
    | p :: q => (c :: p) :: q
def cutP (s : ByteArray) : List ByteArray := (cutL s.data.toList).map fun l => ⟨l.toArray⟩
end Go.Ev
end
section
open Go Go.Proofs
namespace Go.Ev
set_option linter.unusedVariables false
set_option maxHeartbeats 4000000
set_option maxRecDepth 100000
def mkFam (h : Fam) (s : Fam) (k : Nat) : Fam where
  f_w16_RenameSense x := B_w16_RenameSense s k x.1 x.2.1
  f_r07_Names x := B_r07_Names s k x.1
  f_w16_awake x := B_w16_awake s k
  f_rename_Table x := B_rename_Table s k x.1 x.2.1
  f_rename_Apply x := B_rename_Apply s k x.1 x.2.1
  f_r16_SamePairs x := B_r16_SamePairs s k x.1 x.2.1
  f_r07_Check x := B_r07_Check s k x.1 x.2.1
  f_r12_Check x := B_r12_Check s k x.1
  f_r07_Parts x := B_r07_Parts s k x.1
  f_r07_varNames x := B_r07_varNames s k x.1
  f_r07_routineNames x := B_r07_routineNames s k x.1
  f_r07_stmtNames x := B_r07_stmtNames s k x.1
  f_r04_Among x := B_r04_Among s k x.1 x.2.1
  f_tree_Names x := B_tree_Names s k x.1
  f_slices_Clone_string := h.f_slices_Clone_string
  f_words_Clash := h.f_words_Clash
  f_words_Fresh x := B_words_Fresh s k x.1 x.2.1
  f_tree_Rename x := B_tree_Rename s k x.1 x.2.1
  f_r04_Is x := B_r04_Is s k x.1 x.2.1
  f_r07_Name x := B_r07_Name s k x.1 x.2.1
  f_r07_notes x := B_r07_notes s k x.1
  f_r07_marks x := B_r07_marks s k x.1
  f_r07_vars x := B_r07_vars s k x.1 x.2.1
  f_r07_routines x := B_r07_routines s k x.1 x.2.1 x.2.2.1
  f_r07_Stmts x := B_r07_Stmts s k x.1 x.2.1 x.2.2.1
  f_r12_Look_recs x := B_r12_Look_recs s k x.1 x.2.1
  f_r12_Look_vars x := B_r12_Look_vars s k x.1 x.2.1 x.2.2.1 x.2.2.2.1
  f_r12_Look_routines x := B_r12_Look_routines s k x.1 x.2.1 x.2.2.1
  f_r12_Look_stmts x := B_r12_Look_stmts s k x.1 x.2.1 x.2.2.1 x.2.2.2.1
  f_r12_Visible x := B_r12_Visible s k x.1 x.2.1
  f_r07_ExprNames x := B_r07_ExprNames s k x.1
  f_tree_mapper_program x := B_tree_mapper_program s k x.1 x.2.1
  f_words_Is := h.f_words_Is
  f_slices_Contains_string x := B_slices_Contains_string s k x.1 x.2.1
  f_strconv_Itoa := h.f_strconv_Itoa
  f_tree_Rename_1 x := B_tree_Rename_1 s k x.1 x.2.1
  f_r04_All x := B_r04_All s k x.1
  f_r04_Check x := B_r04_Check s k x.1
  f_r02_Check x := B_r02_Check s k x.1
  f_r07_Type x := B_r07_Type s k x.1 x.2.1
  f_r07_Routine x := B_r07_Routine s k x.1 x.2.1
  f_r07_params x := B_r07_params s k x.1 x.2.1
  f_r07_Stmt x := B_r07_Stmt s k x.1 x.2.1 x.2.2.1
  f_r12_Look_next x := B_r12_Look_next s k x.1
  f_r12_find x := B_r12_find s k x.1 x.2.1
  f_r12_Look_fail x := B_r12_Look_fail s k x.1 x.2.1
  f_r12_with x := B_r12_with s k x.1 x.2.1
  f_r12_Look_typ x := B_r12_Look_typ s k x.1 x.2.1 x.2.2.1
  f_r12_Ends x := B_r12_Ends s k x.1
  f_r12_Look_value x := B_r12_Look_value s k x.1 x.2.1 x.2.2.1 x.2.2.2.1
  f_r12_Look_expr x := B_r12_Look_expr s k x.1 x.2.1 x.2.2.1 x.2.2.2.1
  f_r12_Look_variable x := B_r12_Look_variable s k x.1 x.2.1 x.2.2.1
  f_tree_mapper_parts x := B_tree_mapper_parts s k x.1 x.2.1
  f_tree_each_Rec x := B_tree_each_Rec s k x.1 x.2.1
  f_tree_mapper_rec x := B_tree_mapper_rec s k x.1 x.2.1
  f_tree_each_Var x := B_tree_each_Var s k x.1 x.2.1
  f_tree_mapper_variable x := B_tree_mapper_variable s k x.1 x.2.1
  f_tree_each_Routine x := B_tree_each_Routine s k x.1 x.2.1
  f_tree_mapper_routine x := B_tree_mapper_routine s k x.1 x.2.1
  f_tree_each_Stmt x := B_tree_each_Stmt s k x.1 x.2.1
  f_tree_mapper_stmt x := B_tree_mapper_stmt s k x.1 x.2.1
  f_slices_Index_string x := B_slices_Index_string s k x.1 x.2.1
  f_r04_Letter x := B_r04_Letter s k x.1 x.2.1
  f_r02_right x := B_r02_right s k x.1
  f_r07_Expr x := B_r07_Expr s k x.1 x.2.1
  f_r07_place x := B_r07_place s k x.1 x.2.1
  f_r07_none x := B_r07_none s k x.1
  f_r12_Look_call x := B_r12_Look_call s k x.1 x.2.1 x.2.2.1 x.2.2.2.1
  f_tree_mapper_marks x := B_tree_mapper_marks s k x.1 x.2.1
  f_tree_each_Field x := B_tree_each_Field s k x.1 x.2.1
  f_tree_mapper_rec_1 x := B_tree_mapper_rec_1 s k x.1 x.2.1
  f_tree_mapper_typ x := B_tree_mapper_typ s k x.1 x.2.1
  f_tree_each_Param x := B_tree_each_Param s k x.1 x.2.1
  f_tree_mapper_routine_1 x := B_tree_mapper_routine_1 s k x.1 x.2.1
  f_tree_mapper_expr x := B_tree_mapper_expr s k x.1 x.2.1
  f_tree_each_Expr x := B_tree_each_Expr s k x.1 x.2.1
  f_r07_form x := B_r07_form s k x.1 x.2.1 x.2.2.1
  f_r07_Deep x := B_r07_Deep s k x.1 x.2.1
  f_by := h.f_by
def noFam (h : Fam) : Fam where
  f_w16_RenameSense _ := none
  f_r07_Names _ := none
  f_w16_awake _ := none
  f_rename_Table _ := none
  f_rename_Apply _ := none
  f_r16_SamePairs _ := none
  f_r07_Check _ := none
  f_r12_Check _ := none
  f_r07_Parts _ := none
  f_r07_varNames _ := none
  f_r07_routineNames _ := none
  f_r07_stmtNames _ := none
  f_r04_Among _ := none
  f_tree_Names _ := none
  f_slices_Clone_string := h.f_slices_Clone_string
  f_words_Clash := h.f_words_Clash
  f_words_Fresh _ := none
  f_tree_Rename _ := none
  f_r04_Is _ := none
  f_r07_Name _ := none
  f_r07_notes _ := none
  f_r07_marks _ := none
  f_r07_vars _ := none
  f_r07_routines _ := none
  f_r07_Stmts _ := none
  f_r12_Look_recs _ := none
  f_r12_Look_vars _ := none
  f_r12_Look_routines _ := none
  f_r12_Look_stmts _ := none
  f_r12_Visible _ := none
  f_r07_ExprNames _ := none
  f_tree_mapper_program _ := none
  f_words_Is := h.f_words_Is
  f_slices_Contains_string _ := none
  f_strconv_Itoa := h.f_strconv_Itoa
  f_tree_Rename_1 _ := none
  f_r04_All _ := none
  f_r04_Check _ := none
  f_r02_Check _ := none
  f_r07_Type _ := none
  f_r07_Routine _ := none
  f_r07_params _ := none
  f_r07_Stmt _ := none
  f_r12_Look_next _ := none
  f_r12_find _ := none
  f_r12_Look_fail _ := none
  f_r12_with _ := none
  f_r12_Look_typ _ := none
  f_r12_Ends _ := none
  f_r12_Look_value _ := none
  f_r12_Look_expr _ := none
  f_r12_Look_variable _ := none
  f_tree_mapper_parts _ := none
  f_tree_each_Rec _ := none
  f_tree_mapper_rec _ := none
  f_tree_each_Var _ := none
  f_tree_mapper_variable _ := none
  f_tree_each_Routine _ := none
  f_tree_mapper_routine _ := none
  f_tree_each_Stmt _ := none
  f_tree_mapper_stmt _ := none
  f_slices_Index_string _ := none
  f_r04_Letter _ := none
  f_r02_right _ := none
  f_r07_Expr _ := none
  f_r07_place _ := none
  f_r07_none _ := none
  f_r12_Look_call _ := none
  f_tree_mapper_marks _ := none
  f_tree_each_Field _ := none
  f_tree_mapper_rec_1 _ := none
  f_tree_mapper_typ _ := none
  f_tree_each_Param _ := none
  f_tree_mapper_routine_1 _ := none
  f_tree_mapper_expr _ := none
  f_tree_each_Expr _ := none
  f_r07_form _ := none
  f_r07_Deep _ := none
  f_by := h.f_by
def FF (h : Fam) : Nat → Fam
  | 0 => noFam h
  | k + 1 => mkFam h (FF h k) k
structure HandOK (h : Fam) : Prop where
  o_tree_Names : ∀ (s : Fam) (k : Nat), (∀ f, SpecOK Tryz.prog EE (sp s) f) → SpecA Tryz.prog EE 24 (ansOf c_tree_Names rc_tree_Names.enc fun x => B_tree_Names s k x.1)
  o_slices_Clone_string : SpecA Tryz.prog EE 25 (ansOf c_slices_Clone_string rc_slices_Clone_string.enc h.f_slices_Clone_string)
  o_words_Clash : SpecA Tryz.prog EE 26 (ansOf c_words_Clash rc_words_Clash.enc h.f_words_Clash)
  o_tree_Rename : ∀ (s : Fam) (k : Nat), (∀ f, SpecOK Tryz.prog EE (sp s) f) → SpecA Tryz.prog EE 28 (ansOf c_tree_Rename rc_tree_Rename.enc fun x => B_tree_Rename s k x.1 x.2.1)
  o_words_Is : SpecA Tryz.prog EE 52 (ansOf c_words_Is rc_words_Is.enc h.f_words_Is)
  o_strconv_Itoa : SpecA Tryz.prog EE 54 (ansOf c_strconv_Itoa rc_strconv_Itoa.enc h.f_strconv_Itoa)
  o_tree_mapper_parts : ∀ (s : Fam) (k : Nat), (∀ f, SpecOK Tryz.prog EE (sp s) f) → SpecA Tryz.prog EE 75 (ansOf c_tree_mapper_parts rc_tree_mapper_parts.enc fun x => B_tree_mapper_parts s k x.1 x.2.1)
  o_by : SpecA Tryz.prog EE 1000003 (ansOf c_by rc_by.enc h.f_by)
theorem hEE : EnvOK Tryz.prog EE := envOK EE rfl rfl rfl
def nilFam : Fam where
  f_w16_RenameSense _ := none
  f_r07_Names _ := none
  f_w16_awake _ := none
  f_rename_Table _ := none
  f_rename_Apply _ := none
  f_r16_SamePairs _ := none
  f_r07_Check _ := none
  f_r12_Check _ := none
  f_r07_Parts _ := none
  f_r07_varNames _ := none
  f_r07_routineNames _ := none
  f_r07_stmtNames _ := none
  f_r04_Among _ := none
  f_tree_Names _ := none
  f_slices_Clone_string _ := none
  f_words_Clash _ := none
  f_words_Fresh _ := none
  f_tree_Rename _ := none
  f_r04_Is _ := none
  f_r07_Name _ := none
  f_r07_notes _ := none
  f_r07_marks _ := none
  f_r07_vars _ := none
  f_r07_routines _ := none
  f_r07_Stmts _ := none
  f_r12_Look_recs _ := none
  f_r12_Look_vars _ := none
  f_r12_Look_routines _ := none
  f_r12_Look_stmts _ := none
  f_r12_Visible _ := none
  f_r07_ExprNames _ := none
  f_tree_mapper_program _ := none
  f_words_Is _ := none
  f_slices_Contains_string _ := none
  f_strconv_Itoa _ := none
  f_tree_Rename_1 _ := none
  f_r04_All _ := none
  f_r04_Check _ := none
  f_r02_Check _ := none
  f_r07_Type _ := none
  f_r07_Routine _ := none
  f_r07_params _ := none
  f_r07_Stmt _ := none
  f_r12_Look_next _ := none
  f_r12_find _ := none
  f_r12_Look_fail _ := none
  f_r12_with _ := none
  f_r12_Look_typ _ := none
  f_r12_Ends _ := none
  f_r12_Look_value _ := none
  f_r12_Look_expr _ := none
  f_r12_Look_variable _ := none
  f_tree_mapper_parts _ := none
  f_tree_each_Rec _ := none
  f_tree_mapper_rec _ := none
  f_tree_each_Var _ := none
  f_tree_mapper_variable _ := none
  f_tree_each_Routine _ := none
  f_tree_mapper_routine _ := none
  f_tree_each_Stmt _ := none
  f_tree_mapper_stmt _ := none
  f_slices_Index_string _ := none
  f_r04_Letter _ := none
  f_r02_right _ := none
  f_r07_Expr _ := none
  f_r07_place _ := none
  f_r07_none _ := none
  f_r12_Look_call _ := none
  f_tree_mapper_marks _ := none
  f_tree_each_Field _ := none
  f_tree_mapper_rec_1 _ := none
  f_tree_mapper_typ _ := none
  f_tree_each_Param _ := none
  f_tree_mapper_routine_1 _ := none
  f_tree_mapper_expr _ := none
  f_tree_each_Expr _ := none
  f_r07_form _ := none
  f_r07_Deep _ := none
  f_by _ := none
theorem nil_ok : AllA Tryz.prog EE (table nilFam) :=
  .cons (specA_none _ _) <|
  .cons (specA_none _ _) <|
  .cons (specA_none _ _) <|
  .cons (specA_none _ _) <|
  .cons (specA_none _ _) <|
  .cons (specA_none _ _) <|
  .cons (specA_none _ _) <|
  .cons (specA_none _ _) <|
  .cons (specA_none _ _) <|
  .cons (specA_none _ _) <|
  .cons (specA_none _ _) <|
  .cons (specA_none _ _) <|
  .cons (specA_none _ _) <|
  .cons (specA_none _ _) <|
  .cons (specA_none _ _) <|
  .cons (specA_none _ _) <|
  .cons (specA_none _ _) <|
  .cons (specA_none _ _) <|
  .cons (specA_none _ _) <|
  .cons (specA_none _ _) <|
  .cons (specA_none _ _) <|
  .cons (specA_none _ _) <|
  .cons (specA_none _ _) <|
  .cons (specA_none _ _) <|
  .cons (specA_none _ _) <|
  .cons (specA_none _ _) <|
  .cons (specA_none _ _) <|
  .cons (specA_none _ _) <|
  .cons (specA_none _ _) <|
  .cons (specA_none _ _) <|
  .cons (specA_none _ _) <|
  .cons (specA_none _ _) <|
  .cons (specA_none _ _) <|
  .cons (specA_none _ _) <|
  .cons (specA_none _ _) <|
  .cons (specA_none _ _) <|
  .cons (specA_none _ _) <|
  .cons (specA_none _ _) <|
  .cons (specA_none _ _) <|
  .cons (specA_none _ _) <|
  .cons (specA_none _ _) <|
  .cons (specA_none _ _) <|
  .cons (specA_none _ _) <|
  .cons (specA_none _ _) <|
  .cons (specA_none _ _) <|
  .cons (specA_none _ _) <|
  .cons (specA_none _ _) <|
  .cons (specA_none _ _) <|
  .cons (specA_none _ _) <|
  .cons (specA_none _ _) <|
  .cons (specA_none _ _) <|
  .cons (specA_none _ _) <|
  .cons (specA_none _ _) <|
  .cons (specA_none _ _) <|
  .cons (specA_none _ _) <|
  .cons (specA_none _ _) <|
  .cons (specA_none _ _) <|
  .cons (specA_none _ _) <|
  .cons (specA_none _ _) <|
  .cons (specA_none _ _) <|
  .cons (specA_none _ _) <|
  .cons (specA_none _ _) <|
  .cons (specA_none _ _) <|
  .cons (specA_none _ _) <|
  .cons (specA_none _ _) <|
  .cons (specA_none _ _) <|
  .cons (specA_none _ _) <|
  .cons (specA_none _ _) <|
  .cons (specA_none _ _) <|
  .cons (specA_none _ _) <|
  .cons (specA_none _ _) <|
  .cons (specA_none _ _) <|
  .cons (specA_none _ _) <|
  .cons (specA_none _ _) <|
  .cons (specA_none _ _) <|
  .cons (specA_none _ _) <|
  .cons (specA_none _ _) <|
  .cons (specA_none _ _) <|
  .cons (specA_none _ _) <|
  .nil
theorem specs0 {h : Fam} (hh : HandOK h) : AllA Tryz.prog EE (table (noFam h)) :=
  .cons (specA_none _ _) <|
  .cons (specA_none _ _) <|
  .cons (specA_none _ _) <|
  .cons (specA_none _ _) <|
  .cons (specA_none _ _) <|
  .cons (specA_none _ _) <|
  .cons (specA_none _ _) <|
  .cons (specA_none _ _) <|
  .cons (specA_none _ _) <|
  .cons (specA_none _ _) <|
  .cons (specA_none _ _) <|
  .cons (specA_none _ _) <|
  .cons (specA_none _ _) <|
  .cons (specA_none _ _) <|
  .cons (hh.o_slices_Clone_string) <|
  .cons (hh.o_words_Clash) <|
  .cons (specA_none _ _) <|
  .cons (specA_none _ _) <|
  .cons (specA_none _ _) <|
  .cons (specA_none _ _) <|
  .cons (specA_none _ _) <|
  .cons (specA_none _ _) <|
  .cons (specA_none _ _) <|
  .cons (specA_none _ _) <|
  .cons (specA_none _ _) <|
  .cons (specA_none _ _) <|
  .cons (specA_none _ _) <|
  .cons (specA_none _ _) <|
  .cons (specA_none _ _) <|
  .cons (specA_none _ _) <|
  .cons (specA_none _ _) <|
  .cons (specA_none _ _) <|
  .cons (hh.o_words_Is) <|
  .cons (specA_none _ _) <|
  .cons (hh.o_strconv_Itoa) <|
  .cons (specA_none _ _) <|
  .cons (specA_none _ _) <|
  .cons (specA_none _ _) <|
  .cons (specA_none _ _) <|
  .cons (specA_none _ _) <|
  .cons (specA_none _ _) <|
  .cons (specA_none _ _) <|
  .cons (specA_none _ _) <|
  .cons (specA_none _ _) <|
  .cons (specA_none _ _) <|
  .cons (specA_none _ _) <|
  .cons (specA_none _ _) <|
  .cons (specA_none _ _) <|
  .cons (specA_none _ _) <|
  .cons (specA_none _ _) <|
  .cons (specA_none _ _) <|
  .cons (specA_none _ _) <|
  .cons (specA_none _ _) <|
  .cons (specA_none _ _) <|
  .cons (specA_none _ _) <|
  .cons (specA_none _ _) <|
  .cons (specA_none _ _) <|
  .cons (specA_none _ _) <|
  .cons (specA_none _ _) <|
  .cons (specA_none _ _) <|
  .cons (specA_none _ _) <|
  .cons (specA_none _ _) <|
  .cons (specA_none _ _) <|
  .cons (specA_none _ _) <|
  .cons (specA_none _ _) <|
  .cons (specA_none _ _) <|
  .cons (specA_none _ _) <|
  .cons (specA_none _ _) <|
  .cons (specA_none _ _) <|
  .cons (specA_none _ _) <|
  .cons (specA_none _ _) <|
  .cons (specA_none _ _) <|
  .cons (specA_none _ _) <|
  .cons (specA_none _ _) <|
  .cons (specA_none _ _) <|
  .cons (specA_none _ _) <|
  .cons (specA_none _ _) <|
  .cons (specA_none _ _) <|
  .cons (hh.o_by) <|
  .nil
theorem specsS {h : Fam} (hh : HandOK h) (k : Nat) (ih : ∀ f, SpecOK Tryz.prog EE (sp (FF h k)) f) : AllA Tryz.prog EE (table (FF h (k + 1))) :=
  .cons (specA_of hEE ih Tryz.func4 (by kernel_rfl) (by decide) c_w16_RenameSense rc_w16_RenameSense.enc _ (fun x => e_w16_RenameSense (FF h k) k x)) <|
  .cons (specA_of hEE ih Tryz.func5 (by kernel_rfl) (by decide) c_r07_Names rc_r07_Names.enc _ (fun x => e_r07_Names (FF h k) k x)) <|
  .cons (specA_of hEE ih Tryz.func6 (by kernel_rfl) (by decide) c_w16_awake rc_w16_awake.enc _ (fun x => e_w16_awake (FF h k) k x)) <|
  .cons (specA_of hEE ih Tryz.func8 (by kernel_rfl) (by decide) c_rename_Table rc_rename_Table.enc _ (fun x => e_rename_Table (FF h k) k x)) <|
  .cons (specA_of hEE ih Tryz.func9 (by kernel_rfl) (by decide) c_rename_Apply rc_rename_Apply.enc _ (fun x => e_rename_Apply (FF h k) k x)) <|
  .cons (specA_of hEE ih Tryz.func11 (by kernel_rfl) (by decide) c_r16_SamePairs rc_r16_SamePairs.enc _ (fun x => e_r16_SamePairs (FF h k) k x)) <|
  .cons (specA_of hEE ih Tryz.func13 (by kernel_rfl) (by decide) c_r07_Check rc_r07_Check.enc _ (fun x => e_r07_Check (FF h k) k x)) <|
  .cons (specA_of hEE ih Tryz.func14 (by kernel_rfl) (by decide) c_r12_Check rc_r12_Check.enc _ (fun x => e_r12_Check (FF h k) k x)) <|
  .cons (specA_of hEE ih Tryz.func15 (by kernel_rfl) (by decide) c_r07_Parts rc_r07_Parts.enc _ (fun x => e_r07_Parts (FF h k) k x)) <|
  .cons (specA_of hEE ih Tryz.func16 (by kernel_rfl) (by decide) c_r07_varNames rc_r07_varNames.enc _ (fun x => e_r07_varNames (FF h k) k x)) <|
  .cons (specA_of hEE ih Tryz.func17 (by kernel_rfl) (by decide) c_r07_routineNames rc_r07_routineNames.enc _ (fun x => e_r07_routineNames (FF h k) k x)) <|
  .cons (specA_of hEE ih Tryz.func18 (by kernel_rfl) (by decide) c_r07_stmtNames rc_r07_stmtNames.enc _ (fun x => e_r07_stmtNames (FF h k) k x)) <|
  .cons (specA_of hEE ih Tryz.func19 (by kernel_rfl) (by decide) c_r04_Among rc_r04_Among.enc _ (fun x => e_r04_Among (FF h k) k x)) <|
  .cons (hh.o_tree_Names _ k ih) <|
  .cons (hh.o_slices_Clone_string) <|
  .cons (hh.o_words_Clash) <|
  .cons (specA_of hEE ih Tryz.func27 (by kernel_rfl) (by decide) c_words_Fresh rc_words_Fresh.enc _ (fun x => e_words_Fresh (FF h k) k x)) <|
  .cons (hh.o_tree_Rename _ k ih) <|
  .cons (specA_of hEE ih Tryz.func29 (by kernel_rfl) (by decide) c_r04_Is rc_r04_Is.enc _ (fun x => e_r04_Is (FF h k) k x)) <|
  .cons (specA_of hEE ih Tryz.func36 (by kernel_rfl) (by decide) c_r07_Name rc_r07_Name.enc _ (fun x => e_r07_Name (FF h k) k x)) <|
  .cons (specA_of hEE ih Tryz.func37 (by kernel_rfl) (by decide) c_r07_notes rc_r07_notes.enc _ (fun x => e_r07_notes (FF h k) k x)) <|
  .cons (specA_of hEE ih Tryz.func38 (by kernel_rfl) (by decide) c_r07_marks rc_r07_marks.enc _ (fun x => e_r07_marks (FF h k) k x)) <|
  .cons (specA_of hEE ih Tryz.func39 (by kernel_rfl) (by decide) c_r07_vars rc_r07_vars.enc _ (fun x => e_r07_vars (FF h k) k x)) <|
  .cons (specA_of hEE ih Tryz.func40 (by kernel_rfl) (by decide) c_r07_routines rc_r07_routines.enc _ (fun x => e_r07_routines (FF h k) k x)) <|
  .cons (specA_of hEE ih Tryz.func41 (by kernel_rfl) (by decide) c_r07_Stmts rc_r07_Stmts.enc _ (fun x => e_r07_Stmts (FF h k) k x)) <|
  .cons (specA_of hEE ih Tryz.func42 (by kernel_rfl) (by decide) c_r12_Look_recs rc_r12_Look_recs.enc _ (fun x => e_r12_Look_recs (FF h k) k x)) <|
  .cons (specA_of hEE ih Tryz.func43 (by kernel_rfl) (by decide) c_r12_Look_vars rc_r12_Look_vars.enc _ (fun x => e_r12_Look_vars (FF h k) k x)) <|
  .cons (specA_of hEE ih Tryz.func44 (by kernel_rfl) (by decide) c_r12_Look_routines rc_r12_Look_routines.enc _ (fun x => e_r12_Look_routines (FF h k) k x)) <|
  .cons (specA_of hEE ih Tryz.func45 (by kernel_rfl) (by decide) c_r12_Look_stmts rc_r12_Look_stmts.enc _ (fun x => e_r12_Look_stmts (FF h k) k x)) <|
  .cons (specA_of hEE ih Tryz.func46 (by kernel_rfl) (by decide) c_r12_Visible rc_r12_Visible.enc _ (fun x => e_r12_Visible (FF h k) k x)) <|
  .cons (specA_of hEE ih Tryz.func47 (by kernel_rfl) (by decide) c_r07_ExprNames rc_r07_ExprNames.enc _ (fun x => e_r07_ExprNames (FF h k) k x)) <|
  .cons (specA_of hEE ih Tryz.func50 (by kernel_rfl) (by decide) c_tree_mapper_program rc_tree_mapper_program.enc _ (fun x => e_tree_mapper_program (FF h k) k x)) <|
  .cons (hh.o_words_Is) <|
  .cons (specA_of hEE ih Tryz.func53 (by kernel_rfl) (by decide) c_slices_Contains_string rc_slices_Contains_string.enc _ (fun x => e_slices_Contains_string (FF h k) k x)) <|
  .cons (hh.o_strconv_Itoa) <|
  .cons (specA_of hEE ih Tryz.func55 (by kernel_rfl) (by decide) c_tree_Rename_1 rc_tree_Rename_1.enc _ (fun x => e_tree_Rename_1 (FF h k) k x)) <|
  .cons (specA_of hEE ih Tryz.func56 (by kernel_rfl) (by decide) c_r04_All rc_r04_All.enc _ (fun x => e_r04_All (FF h k) k x)) <|
  .cons (specA_of hEE ih Tryz.func60 (by kernel_rfl) (by decide) c_r04_Check rc_r04_Check.enc _ (fun x => e_r04_Check (FF h k) k x)) <|
  .cons (specA_of hEE ih Tryz.func61 (by kernel_rfl) (by decide) c_r02_Check rc_r02_Check.enc _ (fun x => e_r02_Check (FF h k) k x)) <|
  .cons (specA_of hEE ih Tryz.func62 (by kernel_rfl) (by decide) c_r07_Type rc_r07_Type.enc _ (fun x => e_r07_Type (FF h k) k x)) <|
  .cons (specA_of hEE ih Tryz.func63 (by kernel_rfl) (by decide) c_r07_Routine rc_r07_Routine.enc _ (fun x => e_r07_Routine (FF h k) k x)) <|
  .cons (specA_of hEE ih Tryz.func64 (by kernel_rfl) (by decide) c_r07_params rc_r07_params.enc _ (fun x => e_r07_params (FF h k) k x)) <|
  .cons (specA_of hEE ih Tryz.func65 (by kernel_rfl) (by decide) c_r07_Stmt rc_r07_Stmt.enc _ (fun x => e_r07_Stmt (FF h k) k x)) <|
  .cons (specA_of hEE ih Tryz.func66 (by kernel_rfl) (by decide) c_r12_Look_next rc_r12_Look_next.enc _ (fun x => e_r12_Look_next (FF h k) k x)) <|
  .cons (specA_of hEE ih Tryz.func67 (by kernel_rfl) (by decide) c_r12_find rc_r12_find.enc _ (fun x => e_r12_find (FF h k) k x)) <|
  .cons (specA_of hEE ih Tryz.func68 (by kernel_rfl) (by decide) c_r12_Look_fail rc_r12_Look_fail.enc _ (fun x => e_r12_Look_fail (FF h k) k x)) <|
  .cons (specA_of hEE ih Tryz.func69 (by kernel_rfl) (by decide) c_r12_with rc_r12_with.enc _ (fun x => e_r12_with (FF h k) k x)) <|
  .cons (specA_of hEE ih Tryz.func70 (by kernel_rfl) (by decide) c_r12_Look_typ rc_r12_Look_typ.enc _ (fun x => e_r12_Look_typ (FF h k) k x)) <|
  .cons (specA_of hEE ih Tryz.func71 (by kernel_rfl) (by decide) c_r12_Ends rc_r12_Ends.enc _ (fun x => e_r12_Ends (FF h k) k x)) <|
  .cons (specA_of hEE ih Tryz.func72 (by kernel_rfl) (by decide) c_r12_Look_value rc_r12_Look_value.enc _ (fun x => e_r12_Look_value (FF h k) k x)) <|
  .cons (specA_of hEE ih Tryz.func73 (by kernel_rfl) (by decide) c_r12_Look_expr rc_r12_Look_expr.enc _ (fun x => e_r12_Look_expr (FF h k) k x)) <|
  .cons (specA_of hEE ih Tryz.func74 (by kernel_rfl) (by decide) c_r12_Look_variable rc_r12_Look_variable.enc _ (fun x => e_r12_Look_variable (FF h k) k x)) <|
  .cons (hh.o_tree_mapper_parts _ k ih) <|
  .cons (specA_of hEE ih Tryz.func76 (by kernel_rfl) (by decide) c_tree_each_Rec rc_tree_each_Rec.enc _ (fun x => e_tree_each_Rec (FF h k) k x)) <|
  .cons (specA_of hEE ih Tryz.func77 (by kernel_rfl) (by decide) c_tree_mapper_rec rc_tree_mapper_rec.enc _ (fun x => e_tree_mapper_rec (FF h k) k x)) <|
  .cons (specA_of hEE ih Tryz.func78 (by kernel_rfl) (by decide) c_tree_each_Var rc_tree_each_Var.enc _ (fun x => e_tree_each_Var (FF h k) k x)) <|
  .cons (specA_of hEE ih Tryz.func79 (by kernel_rfl) (by decide) c_tree_mapper_variable rc_tree_mapper_variable.enc _ (fun x => e_tree_mapper_variable (FF h k) k x)) <|
  .cons (specA_of hEE ih Tryz.func80 (by kernel_rfl) (by decide) c_tree_each_Routine rc_tree_each_Routine.enc _ (fun x => e_tree_each_Routine (FF h k) k x)) <|
  .cons (specA_of hEE ih Tryz.func81 (by kernel_rfl) (by decide) c_tree_mapper_routine rc_tree_mapper_routine.enc _ (fun x => e_tree_mapper_routine (FF h k) k x)) <|
  .cons (specA_of hEE ih Tryz.func82 (by kernel_rfl) (by decide) c_tree_each_Stmt rc_tree_each_Stmt.enc _ (fun x => e_tree_each_Stmt (FF h k) k x)) <|
  .cons (specA_of hEE ih Tryz.func83 (by kernel_rfl) (by decide) c_tree_mapper_stmt rc_tree_mapper_stmt.enc _ (fun x => e_tree_mapper_stmt (FF h k) k x)) <|
  .cons (specA_of hEE ih Tryz.func86 (by kernel_rfl) (by decide) c_slices_Index_string rc_slices_Index_string.enc _ (fun x => e_slices_Index_string (FF h k) k x)) <|
  .cons (specA_of hEE ih Tryz.func89 (by kernel_rfl) (by decide) c_r04_Letter rc_r04_Letter.enc _ (fun x => e_r04_Letter (FF h k) k x)) <|
  .cons (specA_of hEE ih Tryz.func90 (by kernel_rfl) (by decide) c_r02_right rc_r02_right.enc _ (fun x => e_r02_right (FF h k) k x)) <|
  .cons (specA_of hEE ih Tryz.func91 (by kernel_rfl) (by decide) c_r07_Expr rc_r07_Expr.enc _ (fun x => e_r07_Expr (FF h k) k x)) <|
  .cons (specA_of hEE ih Tryz.func92 (by kernel_rfl) (by decide) c_r07_place rc_r07_place.enc _ (fun x => e_r07_place (FF h k) k x)) <|
  .cons (specA_of hEE ih Tryz.func93 (by kernel_rfl) (by decide) c_r07_none rc_r07_none.enc _ (fun x => e_r07_none (FF h k) k x)) <|
  .cons (specA_of hEE ih Tryz.func94 (by kernel_rfl) (by decide) c_r12_Look_call rc_r12_Look_call.enc _ (fun x => e_r12_Look_call (FF h k) k x)) <|
  .cons (specA_of hEE ih Tryz.func97 (by kernel_rfl) (by decide) c_tree_mapper_marks rc_tree_mapper_marks.enc _ (fun x => e_tree_mapper_marks (FF h k) k x)) <|
  .cons (specA_of hEE ih Tryz.func98 (by kernel_rfl) (by decide) c_tree_each_Field rc_tree_each_Field.enc _ (fun x => e_tree_each_Field (FF h k) k x)) <|
  .cons (specA_of hEE ih Tryz.func99 (by kernel_rfl) (by decide) c_tree_mapper_rec_1 rc_tree_mapper_rec_1.enc _ (fun x => e_tree_mapper_rec_1 (FF h k) k x)) <|
  .cons (specA_of hEE ih Tryz.func100 (by kernel_rfl) (by decide) c_tree_mapper_typ rc_tree_mapper_typ.enc _ (fun x => e_tree_mapper_typ (FF h k) k x)) <|
  .cons (specA_of hEE ih Tryz.func101 (by kernel_rfl) (by decide) c_tree_each_Param rc_tree_each_Param.enc _ (fun x => e_tree_each_Param (FF h k) k x)) <|
  .cons (specA_of hEE ih Tryz.func102 (by kernel_rfl) (by decide) c_tree_mapper_routine_1 rc_tree_mapper_routine_1.enc _ (fun x => e_tree_mapper_routine_1 (FF h k) k x)) <|
  .cons (specA_of hEE ih Tryz.func103 (by kernel_rfl) (by decide) c_tree_mapper_expr rc_tree_mapper_expr.enc _ (fun x => e_tree_mapper_expr (FF h k) k x)) <|
  .cons (specA_of hEE ih Tryz.func104 (by kernel_rfl) (by decide) c_tree_each_Expr rc_tree_each_Expr.enc _ (fun x => e_tree_each_Expr (FF h k) k x)) <|
  .cons (specA_of hEE ih Tryz.func110 (by kernel_rfl) (by decide) c_r07_form rc_r07_form.enc _ (fun x => e_r07_form (FF h k) k x)) <|
  .cons (specA_of hEE ih Tryz.func111 (by kernel_rfl) (by decide) c_r07_Deep rc_r07_Deep.enc _ (fun x => e_r07_Deep (FF h k) k x)) <|
  .cons (hh.o_by) <|
  .nil
theorem specs {h : Fam} (hh : HandOK h) : ∀ k f, SpecOK Tryz.prog EE (sp (FF h k)) f
  | 0 => look_ok (specs0 hh)
  | k + 1 => look_ok (specsS hh k (specs hh k))
end Go.Ev
end
section
open Go
namespace Go.Ev
theorem wrap_ok {n : Int} (h0 : -9223372036854775808 ≤ n) (h1 : n ≤ 9223372036854775807) : IntKind.i64.wrap n = n := by rw [IntKind.wrap_i64]; omega
theorem wrap_succ {i n : Nat} (h : i < n) (hn : n ≤ maxLen) : IntKind.i64.wrap ((i : Int) + 1) = ((i + 1 : Nat) : Int) := by
  simp only [maxLen] at hn
  rw [wrap_ok (by omega) (by omega)]
  rfl
theorem ba_beq (a b : ByteArray) : (a.toList == b.toList) = decide (a = b) := by
  rw [ByteArray.toList_eq, ByteArray.toList_eq]
  by_cases h : a = b
  · subst h; simp
  · have : a.data.toList ≠ b.data.toList := fun he => h (by cases a; cases b; simp at he; simp [he])
    have h2 : (a.data.toList == b.data.toList) = false := by simpa using this
    rw [h2, decide_eq_false h]
theorem up_ind {C : Nat → Nat → Prop} (n : Nat) (h0 : ∀ j, C (j + 1) n) (hs : ∀ j i, i < n → C j (i + 1) → C (j + 1) i) : ∀ j i, i ≤ n → n - i < j → C j i := by
  intro j
  induction j with
  | zero => intro i _ h; omega
  | succ j ih =>
    intro i hi hj
    rcases Nat.lt_or_ge i n with h | h
    · exact hs j i h (ih (i + 1) (by omega) (by omega))
    · have : i = n := by omega
      subst this
      exact h0 j
end Go.Ev
end
section
namespace Go.Ev
open Go.RowKit
variable {I : Nat → Type}
inductive KD where
  | bool | str | int (k : IntKind) | sl (e : Nat) | no
  deriving DecidableEq
def kd : DV I → KD
  | .lit (.bool _) => .bool
  | .lit (.string _) => .str
  | .lit (.int k _) => .int k
  | .sl e _ => .sl e
  | _ => .no
theorem kd_bool {d : DV I} (h : kd d = .bool) : ∃ b, d = .lit (.bool b) := by
  unfold kd at h
  split at h <;> first | exact ⟨_, rfl⟩ | cases h
theorem kd_str {d : DV I} (h : kd d = .str) : ∃ b, d = .lit (.string b) := by
  unfold kd at h
  split at h <;> first | exact ⟨_, rfl⟩ | cases h
theorem kd_int {d : DV I} {k : IntKind} (h : kd d = .int k) : ∃ b, d = .lit (.int k b) := by
  unfold kd at h
  split at h <;> first | (injection h with h; subst h; exact ⟨_, rfl⟩) | cases h
theorem kd_sl {d : DV I} {e : Nat} (h : kd d = .sl e) : ∃ b, d = .sl e b := by
  unfold kd at h
  split at h <;> first | (injection h with h; subst h; exact ⟨_, rfl⟩) | cases h
def flatK (ty : Nat → Option TI) : Nat → Nat → Option (List KD)
  | 0, _ => none
  | n + 1, t => match ty t with
    | none => none
    | some ti => match ti.td with
      | .bool => some [.bool]
      | .string => some [.str]
      | .int k => some [.int k]
      | .slice e => some [.sl e]
      | .struct fs => (fs.mapM fun p => flatK ty n p.2).map List.flatten
      | _ => none
def contig (ty : Nat → Option TI) : Nat → List (Nat × Nat) → Option Nat
  | o, [] => some o
  | o, (off, t) :: r => match Nat.beq off o, ty t with
    | true, some ti => contig ty (o + ti.size) r
    | _, _ => none
def contigOk (ty : Nat → Option TI) (p : Nat × TI) : Bool := match p.2.td with
  | .struct fs => match contig ty 0 fs with
    | some o => Nat.beq o p.2.size
    | none => false
  | .slice e => match ty e with
    | some ei => Nat.blt 0 ei.size && Nat.beq p.2.size 1
    | none => false
  | .bool | .string | .int _ => Nat.beq p.2.size 1
  | _ => true
def QD (Q : (t : Nat) → I t → Prop) : DV I → Prop
  | .sl t xs => xs.length ≤ maxLen ∧ ∀ x ∈ xs, Q t x
  | .lit (.string s) => s.size ≤ maxLen
  | .lit (.int k n) => (Lit.int k n).wf = true
  | _ => True
def bkD (bk : (t : Nat) → I t → Nat) : DV I → Nat
  | .sl t xs => (xs.map (bk t)).sum + 1
  | .lit (.string s) => s.size + 1
  | _ => 1
section
variable {P : Program} {E : Env I} {H : Type} {enc : TypeId × Value → H} {w : World} {base : Nat} {spare : Nat → Bool} {held : Bool}
def allS (w : World) : Nat → Nat → Prop := fun g _ => g < w.heap.size
inductive DReps (E : Env I) (Sl : Nat → Nat → Prop) (w : World) : List Value → List (DV I) → Prop
  | nil : DReps E Sl w [] []
  | cons {v : Value} {vs : List Value} {x : DV I} {xs : List (DV I)} (h : DRep E Sl w v x) (hs : DReps E Sl w vs xs) : DReps E Sl w (v :: vs) (x :: xs)
theorem DReps.append {Sl : Nat → Nat → Prop} {us vs : List Value} {xs ys : List (DV I)} (h : DReps E Sl w us xs) (k : DReps E Sl w vs ys) : DReps E Sl w (us ++ vs) (xs ++ ys) := by
  induction h with
  | nil => exact k
  | cons h _ ih => exact .cons h ih
theorem DReps.len {Sl : Nat → Nat → Prop} {us : List Value} {xs : List (DV I)} (h : DReps E Sl w us xs) : us.length = xs.length := by
  induction h with
  | nil => rfl
  | cons _ _ ih => simp [ih]
theorem DReps.get {Sl : Nat → Nat → Prop} {us : List Value} {xs : List (DV I)} (h : DReps E Sl w us xs) : ∀ (j : Nat) (y : DV I), xs[j]? = some y → ∃ u, us[j]? = some u ∧ DRep E Sl w u y := by
  induction h with
  | nil => intro j y h; simp at h
  | cons h _ ih =>
    intro j y hj
    cases j with
    | zero => simp at hj; subst hj; exact ⟨_, by simp, h⟩
    | succ j => simp at hj; simpa using ih j y hj
theorem DReps.preps {Sl : Nat → Nat → Prop} {X0 : Nat → Prop} {B0 : Nat} {us : List Value} {xs : List (DV I)} (h : DReps E Sl w us xs) : PReps E Sl w X0 B0 us (xs.map .d) [] [] := by
  induction h with
  | nil => exact .nil
  | cons h _ ih => exact .cons _ _ _ _ [] [] [] [] (.d _ _ h) ih
structure Meas (E : Env I) (Q : (t : Nat) → I t → Prop) (bk : (t : Nat) → I t → Nat) (ub : DataW H → Nat) (rows : List Nat) : Prop where
  contig : ∀ t ti, E.ty t = some ti → contigOk E.ty (t, ti) = true
  rowsIn : ∀ t ti e, E.ty t = some ti → ti.td = .slice e → flatK E.ty 9 t ≠ none → e ∈ rows
  rowsK : ∀ e ∈ rows, ∃ l, flatK E.ty 9 e = some l
  full : ∀ e ∈ rows, ∀ ds, flatK E.ty 9 e = some (ds.map kd) → ∃ x : I e, E.row e x = ds
  q : ∀ e ∈ rows, ∀ (x : I e), (∀ d ∈ E.row e x, QD Q d) → Q e x
  b : ∀ e ∈ rows, ∀ (x : I e) ti, E.ty e = some ti → bk e x ≤ ((E.row e x).map (bkD bk)).sum + (match ti.td with | .struct _ => 1 | _ => 0)
  nil : 1 ≤ ub .nil
  lit : ∀ l, 1 ≤ ub (.lit l)
  str : ∀ l, l.length + 1 ≤ ub (.lit (.string l))
  sl : ∀ a b, (a.map ub).sum + 1 ≤ ub (.slice a b)
  agg : ∀ a, (a.map ub).sum + 1 ≤ ub (.agg a)
theorem mapM_mono {α β : Type} {f g : α → Option β} : ∀ {l : List α} {r : List β}, l.mapM f = some r → (∀ a ∈ l, ∀ b, f a = some b → g a = some b) → l.mapM g = some r
  | [], r, h, _ => by simpa using h
  | a :: l, r, h, hg => by
    simp only [List.mapM_cons, Option.bind_eq_bind, Option.pure_def] at h ⊢
    obtain ⟨b, h1, h⟩ := Option.bind_eq_some_iff.1 h
    obtain ⟨bs, h2, h3⟩ := Option.bind_eq_some_iff.1 h
    rw [hg a List.mem_cons_self b h1, mapM_mono h2 (fun x hx => hg x (List.mem_cons_of_mem _ hx))]
    exact h3
theorem flatK_mono {ty : Nat → Option TI} : ∀ (n t : Nat) (l : List KD), flatK ty n t = some l → flatK ty (n + 1) t = some l
  | 0, t, l, h => by cases h
  | n + 1, t, l, h => by
    unfold flatK at h ⊢
    cases ht : ty t with
    | none => rw [ht] at h; cases h
    | some ti =>
      rw [ht] at h
      simp only at h ⊢
      cases htd : ti.td with
      | struct fs =>
        rw [htd] at h
        simp only at h ⊢
        obtain ⟨ls, h1, h2⟩ := Option.map_eq_some_iff.1 h
        rw [mapM_mono h1 (fun p _ b hb => flatK_mono n p.2 b hb)]
        simp [h2]
      | _ => rw [htd] at h; exact h
theorem cellsOf_size (hE : EnvOK P E) {t : Nat} {ti : TI} (h : E.ty t = some ti) : P.cellsOf t = ti.size := by
  have := hE.size h
  unfold Program.cellsOf
  cases hq : P.info? t with
  | none => rw [hq] at this; cases this
  | some i => rw [hq] at this; simpa using this
def Rdd (E : Env I) (Q : (t : Nat) → I t → Prop) (bk : (t : Nat) → I t → Nat) (w : World) (cs : List Value) (n : Nat) (l : List KD) : Prop :=
  ∃ ds, DReps E (allS w) w cs ds ∧ ds.map kd = l ∧ (∀ d ∈ ds, QD Q d) ∧ (ds.map (bkD bk)).sum ≤ n
theorem rd_fields (hE : EnvOK P E) {Q : (t : Nat) → I t → Prop} {bk : (t : Nat) → I t → Nat} {ub : DataW H → Nat}
    (f : Nat → List Value → Option (DataW H × List MemPlace)) (hf : ∀ t ti cs y l, E.ty t = some ti → flatK E.ty 9 t = some l → f t cs = some y → Rdd E Q bk w cs (ub y.1) l) :
    ∀ (fs : List (Nat × Nat)) (o : Nat) (cs : List Value) (ys : List (DataW H × List MemPlace)) (ls : List (List KD)) (e : Nat), contig E.ty o fs = some e → cs.length = e →
      fs.mapM (fun p => f p.2 ((cs.drop p.1).take (P.cellsOf p.2))) = some ys → fs.mapM (fun p => flatK E.ty 9 p.2) = some ls → Rdd E Q bk w (cs.drop o) ((ys.map fun y => ub y.1).sum) ls.flatten
  | [], o, cs, ys, ls, e, hc, hl, h1, h2 => by
    simp only [contig, Option.some.injEq] at hc
    simp only [List.mapM_nil, Option.pure_def, Option.some.injEq] at h1 h2
    subst h1; subst h2
    refine ⟨[], ?_, rfl, fun d hd => (by cases hd), Nat.le_refl _⟩
    rw [List.drop_eq_nil_of_le (by omega)]
    exact .nil
  | (off, t) :: fs, o, cs, ys, ls, e, hc, hl, h1, h2 => by
    simp only [contig] at hc
    split at hc
    · rename_i ti hoff ht
      have hoff := Nat.eq_of_beq_eq_true hoff
      subst hoff
      simp only [List.mapM_cons, Option.bind_eq_bind, Option.pure_def] at h1 h2
      obtain ⟨y, h11, h1⟩ := Option.bind_eq_some_iff.1 h1
      obtain ⟨ys', h12, h13⟩ := Option.bind_eq_some_iff.1 h1
      obtain ⟨l, h21, h2⟩ := Option.bind_eq_some_iff.1 h2
      obtain ⟨ls', h22, h23⟩ := Option.bind_eq_some_iff.1 h2
      injection h13 with h13
      injection h23 with h23
      subst h13; subst h23
      obtain ⟨ds, a1, a2, a3, a4⟩ := hf t ti _ y l ht h21 h11
      obtain ⟨es, b1, b2, b3, b4⟩ := rd_fields hE f hf fs (off + ti.size) cs ys' ls' e hc hl h12 h22
      rw [cellsOf_size hE ht] at a1
      refine ⟨ds ++ es, ?_, by simp [a2, b2], fun d hd => ?_, ?_⟩
      · have := a1.append b1
        rwa [← List.drop_drop, List.take_append_drop] at this
      · rcases List.mem_append.1 hd with hd | hd
        · exact a3 d hd
        · exact b3 d hd
      · simp only [List.map_append, List.sum_append, List.map_cons, List.sum_cons]
        omega
    · cases hc
theorem trod_bool {t : TypeId} {fuel : Nat} {cs : List Value} {x : DataW H × List MemPlace} (ht : P.underlying t = some .bool) (h : DataW.trod enc P w base spare held fuel t cs = some x) : ∃ b, cs = [.bool b] ∧ x = (.lit (.bool b), []) := by
  cases fuel with
  | zero => simp [DataW.trod] at h
  | succ n =>
    unfold DataW.trod at h
    rw [ht] at h
    split at h <;> simp_all
theorem trod_struct {t : TypeId} {fuel : Nat} {fs : Array Field} {cs : List Value} {x : DataW H × List MemPlace} (ht : P.underlying t = some (.struct fs)) (h : DataW.trod enc P w base spare held fuel t cs = some x) :
    ∃ n xs, fuel = n + 1 ∧ cs.length = P.cellsOf t ∧ (fs.toList.mapM fun f => DataW.trod enc P w base spare held n f.type ((cs.drop f.offset).take (P.cellsOf f.type))) = some xs ∧ x.1 = .agg (xs.map (·.1)) := by
  cases fuel with
  | zero => simp [DataW.trod] at h
  | succ n =>
    unfold DataW.trod at h
    rw [ht] at h
    simp only at h
    split at h
    · rename_i hl
      obtain ⟨xs, h1, h2⟩ := Option.map_eq_some_iff.1 h
      exact ⟨n, xs, rfl, hl, h1, by rw [← h2]⟩
    · cases h
theorem add_spot {a : Addr} {u : Value} (h : w.cell? a = some u) : a = ⟨a.block, a.off, none⟩ := by
  obtain ⟨b, o, sp⟩ := a
  cases sp with
  | none => rfl
  | some q =>
    exfalso
    unfold World.cell? at h
    split at h
    · simp at h
    · cases h
theorem rd (hE : EnvOK P E) {Q : (t : Nat) → I t → Prop} {bk : (t : Nat) → I t → Nat} {ub : DataW H → Nat} {rows : List Nat} (m : Meas E Q bk ub rows) :
    ∀ (n t : Nat) (ti : TI) (cs : List Value) (y : DataW H × List MemPlace) (l : List KD), E.ty t = some ti → flatK E.ty 9 t = some l → DataW.trod enc P w base spare held n t cs = some y →
      Rdd E Q bk w cs (ub y.1 - (match ti.td with | .struct _ => 1 | _ => 0)) l ∧ (match ti.td with | .struct _ => 1 | _ => 0) ≤ ub y.1 ∧ cs.length = ti.size
  | 0, t, ti, cs, y, l, ht, hl, h => by simp [DataW.trod] at h
  | n + 1, t, ti, cs, y, l, ht, hl, h => by
    obtain ⟨d, hd, hdt⟩ := hE.desc ht
    have hcont := m.contig t ti ht
    have hl0 := hl
    unfold flatK at hl
    rw [ht] at hl
    simp only at hl
    have one : ∀ {v : Value} {x : DV I}, cs = [v] → DRep E (allS w) w v x → QD Q x → bkD bk x ≤ ub y.1 → l = [kd x] → ti.size = 1 → Rdd E Q bk w cs (ub y.1 - 0) l ∧ 0 ≤ ub y.1 ∧ cs.length = ti.size := by
      intro v x hcs hr hq hb hk hs
      refine ⟨⟨[x], ?_, ?_, ?_, ?_⟩, Nat.zero_le _, ?_⟩
      · rw [hcs]; exact .cons hr .nil
      · rw [hk]; rfl
      · intro d hd; rw [List.mem_singleton] at hd; rw [hd]; exact hq
      · simpa using hb
      · rw [hcs, hs]; rfl
    cases htd : ti.td with
    | bool =>
      rw [htd] at hl hdt
      simp only [Option.some.injEq] at hl
      have hsz : ti.size = 1 := by simp only [contigOk, htd] at hcont; exact Nat.eq_of_beq_eq_true hcont
      have hd' : P.underlying t = some .bool := by rw [hd]; cases d <;> simp [tdOf] at hdt; rfl
      obtain ⟨b, rfl, rfl⟩ := trod_bool hd' h
      exact one (x := .lit (.bool b)) rfl (.lit _ rfl) trivial (m.lit _) hl.symm hsz
    | string =>
      rw [htd] at hl hdt
      simp only [Option.some.injEq] at hl
      have hsz : ti.size = 1 := by simp only [contigOk, htd] at hcont; exact Nat.eq_of_beq_eq_true hcont
      have hd' : P.underlying t = some .string := by rw [hd]; cases d <;> simp [tdOf] at hdt; rfl
      obtain ⟨b, rfl, rfl, hb⟩ := DataW.trod_string hd' h
      exact one (x := .lit (.string b)) rfl (.lit _ rfl) hb (by have := m.str b.data.toList; simpa [bkD] using this) hl.symm hsz
    | int k =>
      rw [htd] at hl hdt
      simp only [Option.some.injEq] at hl
      have hsz : ti.size = 1 := by simp only [contigOk, htd] at hcont; exact Nat.eq_of_beq_eq_true hcont
      have hd' : P.underlying t = some (.int k) := by
        rw [hd]
        cases d <;> simp [tdOf] at hdt
        rw [hdt]
      obtain ⟨b, rfl, rfl, hb⟩ := DataW.trod_int hd' h
      exact one (x := .lit (.int k b)) rfl (.lit _ rfl) hb (m.lit _) hl.symm hsz
    | other => rw [htd] at hl; cases hl
    | array a b => rw [htd] at hl; cases hl
    | struct fs =>
      rw [htd] at hl hdt
      simp only at hl
      obtain ⟨ls, h1, h2⟩ := Option.map_eq_some_iff.1 hl
      have : ∃ fa : Array Field, d = .struct fa ∧ fa.toList.map (fun f => (f.offset, f.type)) = fs := by
        cases d <;> simp [tdOf] at hdt
        exact ⟨_, rfl, hdt⟩
      obtain ⟨fa, rfl, hfs⟩ := this
      obtain ⟨n', xs, hn, hcl, hm, hy⟩ := trod_struct hd h
      have hn : n = n' := by omega
      subst hn
      rw [cellsOf_size hE ht] at hcl
      simp only [contigOk, htd] at hcont
      split at hcont
      · rename_i e he
        have he' := Nat.eq_of_beq_eq_true hcont
        have hmm : fs.mapM (fun p => (fun t cs => DataW.trod enc P w base spare held n t cs) p.2 ((cs.drop p.1).take (P.cellsOf p.2))) = some xs := by
          rw [← hfs, List.mapM_map]
          exact hm
        have h9 : fs.mapM (fun p => flatK E.ty 9 p.2) = some ls := mapM_mono h1 fun p _ b hb => flatK_mono 8 p.2 b hb
        have key := rd_fields (Q := Q) (bk := bk) (ub := ub) (w := w) hE (fun t cs => DataW.trod enc P w base spare held n t cs) (fun t ti cs y l ht hl h => by
          obtain ⟨⟨ds, a1, a2, a3, a4⟩, _, _⟩ := rd hE m n t ti cs y l ht hl h
          exact ⟨ds, a1, a2, a3, by omega⟩) fs 0 cs xs ls e he (by rw [hcl, he']) hmm h9
        obtain ⟨ds, b1, b2, b3, b4⟩ := key
        have hub := m.agg (xs.map (·.1))
        rw [List.map_map] at hub
        rw [hy]
        refine ⟨⟨ds, by simpa using b1, by rw [b2, h2], b3, ?_⟩, by simp only; omega, hcl⟩
        have : (xs.map (ub ∘ fun x => x.1)) = xs.map fun y => ub y.1 := rfl
        rw [this] at hub
        simp only
        omega
      · cases hcont
    | slice e =>
      rw [htd] at hl hdt
      simp only [Option.some.injEq] at hl
      have hd' : P.underlying t = some (.slice e) := by
        rw [hd]
        cases d <;> simp [tdOf] at hdt
        rw [hdt]
      have her : e ∈ rows := m.rowsIn t ti e ht htd (by rw [hl0]; simp)
      obtain ⟨le, hle⟩ := m.rowsK e her
      simp only [contigOk, htd] at hcont
      split at hcont
      · rename_i ei hei
        rw [Bool.and_eq_true] at hcont
        have hpos : 0 < ei.size := by have := hcont.1; simp [Nat.blt] at this; omega
        have hcof := cellsOf_size hE hei
        have hsz : ti.size = 1 := Nat.eq_of_beq_eq_true hcont.2
        rcases DataW.trod_slice hd' h with ⟨rfl, rfl⟩ | ⟨a, len, cap, elems, rest, n', hn, rfl, rfl, hb, hlc, hcm, hel, hget, _, _⟩
        · exact one (x := .sl e []) rfl (.sl e [] none 0 0 0 0 (fun _ => undef) rfl (Nat.le_refl _) (by omega) (by omega) (by simp) (by simp)) ⟨Nat.zero_le _, by simp⟩ (by simpa [bkD] using m.nil) hl.symm hsz
        · have hn : n = n' := by omega
          subst hn
          have each : ∀ i, i < len → ∃ (x : I e) (cs' : List Value), DReps E (allS w) w cs' (E.row e x) ∧ Q e x ∧ cs'.length = ei.size ∧ (∀ j u, cs'[j]? = some u → w.cell? (a.add (i * ei.size + j)) = some u) ∧ ∃ y', elems[i]? = some y' ∧ bk e x ≤ ub y'.1 := by
            intro i hi
            have h1 := hget i hi
            rw [List.getElem?_eq_getElem (by omega)] at h1
            obtain ⟨cs', hc, ht'⟩ := Option.bind_eq_some_iff.1 h1
            obtain ⟨⟨ds, a1, a2, a3, a4⟩, a5, a6⟩ := rd hE m n e ei cs' _ le hei hle ht'
            obtain ⟨x, hx⟩ := m.full e her ds (by rw [hle, a2])
            obtain ⟨_, hcl, hcell⟩ := World.cells?_some hc
            refine ⟨x, cs', by rw [hx]; exact a1, m.q e her x (by rw [hx]; exact a3), a6, fun j u hu => ?_, _, List.getElem?_eq_getElem (by omega), ?_⟩
            · have hj : j < P.cellsOf e := by rw [← hcl]; exact (List.getElem?_eq_some_iff.1 hu).1
              rw [← hu, ← hcell j hj, Addr.add_add, hcof]
            · have := m.b e her x ei hei
              rw [hx] at this
              omega
          have pick : ∀ q, q ≤ len → ∃ xs : List (I e), xs.length = q ∧ (∀ x ∈ xs, Q e x) ∧ (xs.map (bk e)).sum ≤ ((elems.take q).map fun y => ub y.1).sum ∧
              ∀ i x, xs[i]? = some x → ∃ cs', DReps E (allS w) w cs' (E.row e x) ∧ cs'.length = ei.size ∧ ∀ j u, cs'[j]? = some u → w.cell? (a.add (i * ei.size + j)) = some u := by
            intro q
            induction q with
            | zero => intro _; exact ⟨[], rfl, by simp, by simp, fun j p hj => by simp at hj⟩
            | succ q ih =>
              intro hq
              obtain ⟨xs, hxl, hxo, hxs, hx⟩ := ih (by omega)
              obtain ⟨x, cs', k1, k2, k3, k4, y', k5, k6⟩ := each q (by omega)
              refine ⟨xs ++ [x], by simp [hxl], ?_, ?_, fun j p hj => ?_⟩
              · intro z hz
                rcases List.mem_append.1 hz with hz | hz
                · exact hxo z hz
                · rw [List.mem_singleton.1 hz]; exact k2
              · rw [List.take_add_one, k5]
                simp only [Option.toList_some, List.map_append, List.sum_append, List.map_cons, List.map_nil, List.sum_cons, List.sum_nil]
                omega
              · rcases Nat.lt_or_ge j xs.length with hlt | hge
                · rw [List.getElem?_append_left hlt] at hj
                  exact hx j p hj
                · have hj' : j = xs.length := by
                    have := (List.getElem?_eq_some_iff.1 hj).1
                    rw [List.length_append, List.length_singleton] at this
                    omega
                  subst hj'
                  have : x = p := by simpa using hj
                  subst this
                  rw [hxl]
                  exact ⟨cs', k1, k3, k4⟩
          obtain ⟨xs, hxl, hxo, hxs, hx⟩ := pick len (Nat.le_refl _)
          have htk : elems.take len = elems := List.take_of_length_le (by omega)
          rw [htk] at hxs
          have hsp : 0 < len → a = ⟨a.block, a.off, none⟩ := by
            intro h0
            obtain ⟨x, cs', _, _, k3, k4, _⟩ := each 0 h0
            have : 0 < cs'.length := by rw [k3]; exact hpos
            have h0 := k4 0 cs'[0] (List.getElem?_eq_getElem this)
            rw [Nat.zero_mul, Nat.zero_add] at h0
            exact add_spot (by simpa [Addr.add] using h0)
          have cellAt : ∀ i x j y, xs[i]? = some x → (E.row e x)[j]? = some y → ∃ u, w.cell? ⟨a.block, a.off + (i * (E.row e x).length + j), none⟩ = some u ∧ DRep E (allS w) w u y := by
            intro i x j y hi hj
            obtain ⟨cs', k1, k2, k3⟩ := hx i x hi
            obtain ⟨u, hu, hr⟩ := k1.get j y hj
            have h0 : 0 < len := by have := (List.getElem?_eq_some_iff.1 hi).1; omega
            have hc := k3 j u hu
            rw [hsp h0, add_at] at hc
            refine ⟨u, ?_, hr⟩
            rw [← k1.len, k2]
            exact hc
          refine one (x := .sl e xs) rfl (.sl e xs (some a) len cap a.block a.off (fun q => (w.cell? ⟨a.block, a.off + q, none⟩).getD undef) hxl hlc (by simp only [maxLen] at hcm; omega) (fun h0 => by rw [← hsp h0]) (fun i x j y hi hj => ?_) (fun i x j y hi hj => ?_)) ⟨by omega, hxo⟩ ?_ hl.symm hsz
          · obtain ⟨u, hu, _⟩ := cellAt i x j y hi hj
            exact ⟨by rw [hu]; rfl, cell_block hu⟩
          · obtain ⟨u, hu, hr⟩ := cellAt i x j y hi hj
            simp only [hu, Option.getD_some]
            exact hr
          · have := m.sl (elems.map (·.1)) (rest.map (·.1))
            rw [List.map_map] at this
            simp only [bkD]
            have h2 : (elems.map (ub ∘ fun x => x.1)) = elems.map fun y => ub y.1 := rfl
            rw [h2] at this
            omega
      · cases hcont
end
end Go.Ev
end
section
open Go Go.Proofs
namespace Go.Ev
set_option maxRecDepth 100000
set_option maxHeartbeats 4000000
set_option linter.unusedVariables false
def bk_v9 (x : ByteArray) : Nat := (x.size + 1) + 0
def ft_v9 (x : ByteArray) : Prop := x.size ≤ maxLen
def bks_v9 : List ByteArray → Nat
  | [] => 0
  | x :: r => bk_v9 x + bks_v9 r
def fts_v9 : List ByteArray → Prop
  | [] => True
  | x :: r => ft_v9 x ∧ fts_v9 r
theorem bks_v9_eq : ∀ l : List ByteArray, bks_v9 l = (l.map bk_v9).sum
  | [] => rfl
  | x :: r => by simp [bks_v9, bks_v9_eq r]
theorem fts_v9_iff : ∀ l : List ByteArray, fts_v9 l ↔ ∀ x ∈ l, ft_v9 x
  | [] => by simp [fts_v9]
  | x :: r => by simp [fts_v9, fts_v9_iff r]
def bk_TField : TField → Nat
  | ⟨x0, x1, x2, x3⟩ => (bks_v9 x0 + 1) + ((bks_v9 x1 + 1) + ((x2.size + 1) + (1 + 0 ))) + 1
def bks_TField : List TField → Nat
  | [] => 0
  | x :: r => bk_TField x + bks_TField r
def ft_TField : TField → Prop
  | ⟨x0, x1, x2, x3⟩ => (x0.length ≤ maxLen ∧ fts_v9 x0) ∧ (x1.length ≤ maxLen ∧ fts_v9 x1) ∧ x2.size ≤ maxLen ∧ (Lit.int .i64 x3).wf = true
def fts_TField : List TField → Prop
  | [] => True
  | x :: r => ft_TField x ∧ fts_TField r
theorem bks_TField_eq : ∀ l : List TField, bks_TField l = (l.map bk_TField).sum
  | [] => rfl
  | x :: r => by simp [bks_TField, bks_TField_eq r]
theorem fts_TField_iff : ∀ l : List TField, fts_TField l ↔ ∀ x ∈ l, ft_TField x
  | [] => by simp [fts_TField]
  | x :: r => by simp [fts_TField, fts_TField_iff r]
def bk_TVar : TVar → Nat
  | ⟨x0, x1, x2, x3, x4, x5⟩ => (bks_v9 x0 + 1) + ((bks_v9 x1 + 1) + ((x2.size + 1) + (1 + (1 + ((x5.size + 1) + 0 ))))) + 1
def bks_TVar : List TVar → Nat
  | [] => 0
  | x :: r => bk_TVar x + bks_TVar r
def ft_TVar : TVar → Prop
  | ⟨x0, x1, x2, x3, x4, x5⟩ => (x0.length ≤ maxLen ∧ fts_v9 x0) ∧ (x1.length ≤ maxLen ∧ fts_v9 x1) ∧ x2.size ≤ maxLen ∧ (Lit.int .i64 x3).wf = true ∧ (Lit.int .i64 x4).wf = true ∧ x5.size ≤ maxLen
def fts_TVar : List TVar → Prop
  | [] => True
  | x :: r => ft_TVar x ∧ fts_TVar r
theorem bks_TVar_eq : ∀ l : List TVar, bks_TVar l = (l.map bk_TVar).sum
  | [] => rfl
  | x :: r => by simp [bks_TVar, bks_TVar_eq r]
theorem fts_TVar_iff : ∀ l : List TVar, fts_TVar l ↔ ∀ x ∈ l, ft_TVar x
  | [] => by simp [fts_TVar]
  | x :: r => by simp [fts_TVar, fts_TVar_iff r]
def bk_TPair : TPair → Nat
  | ⟨x0, x1⟩ => (x0.size + 1) + ((x1.size + 1) + 0 ) + 1
def ft_TPair : TPair → Prop
  | ⟨x0, x1⟩ => x0.size ≤ maxLen ∧ x1.size ≤ maxLen
def bk_TParam : TParam → Nat
  | ⟨x0, x1, x2, x3, x4⟩ => (x0.size + 1) + (1 + (1 + ((x3.size + 1) + (1 + 0 )))) + 1
def bks_TParam : List TParam → Nat
  | [] => 0
  | x :: r => bk_TParam x + bks_TParam r
def ft_TParam : TParam → Prop
  | ⟨x0, x1, x2, x3, x4⟩ => x0.size ≤ maxLen ∧ (Lit.int .i64 x1).wf = true ∧ (Lit.int .i64 x2).wf = true ∧ x3.size ≤ maxLen ∧ (Lit.int .i64 x4).wf = true
def fts_TParam : List TParam → Prop
  | [] => True
  | x :: r => ft_TParam x ∧ fts_TParam r
theorem bks_TParam_eq : ∀ l : List TParam, bks_TParam l = (l.map bk_TParam).sum
  | [] => rfl
  | x :: r => by simp [bks_TParam, bks_TParam_eq r]
theorem fts_TParam_iff : ∀ l : List TParam, fts_TParam l ↔ ∀ x ∈ l, ft_TParam x
  | [] => by simp [fts_TParam]
  | x :: r => by simp [fts_TParam, fts_TParam_iff r]
mutual
def bk_TExpr : TExpr → Nat
  | ⟨x0, x1, x2, x3, x4⟩ => 1 + (1 + ((x2.size + 1) + ((x3.size + 1) + ((bks_TExpr x4 + 1) + 0 )))) + 1
def bks_TExpr : List TExpr → Nat
  | [] => 0
  | x :: r => bk_TExpr x + bks_TExpr r
end
mutual
def ft_TExpr : TExpr → Prop
  | ⟨x0, x1, x2, x3, x4⟩ => (Lit.int .i64 x0).wf = true ∧ (Lit.int .i64 x1).wf = true ∧ x2.size ≤ maxLen ∧ x3.size ≤ maxLen ∧ (x4.length ≤ maxLen ∧ fts_TExpr x4)
def fts_TExpr : List TExpr → Prop
  | [] => True
  | x :: r => ft_TExpr x ∧ fts_TExpr r
end
theorem bks_TExpr_eq : ∀ l : List TExpr, bks_TExpr l = (l.map bk_TExpr).sum
  | [] => rfl
  | x :: r => by simp [bks_TExpr, bks_TExpr_eq r]
theorem fts_TExpr_iff : ∀ l : List TExpr, fts_TExpr l ↔ ∀ x ∈ l, ft_TExpr x
  | [] => by simp [fts_TExpr]
  | x :: r => by simp [fts_TExpr, fts_TExpr_iff r]
mutual
def bk_TStmt : TStmt → Nat
  | ⟨x0, x1, x2, x3, x4, x5, x6, x7, x8, x9, x10, x11, x12, x13, x14, x15⟩ => (bks_v9 x0 + 1) + ((bks_v9 x1 + 1) + (1 + ((x3.size + 1) + (1 + (1 + ((x6.size + 1) + ((x7.size + 1) + ((bks_TExpr x8 + 1) + ((bks_TExpr x9 + 1) + (1 + (1 + ((bks_TStmt x12 + 1) + ((bks_TStmt x13 + 1) + ((bks_v9 x14 + 1) + ((bks_v9 x15 + 1) + 0 ))))))))))))))) + 1
def bks_TStmt : List TStmt → Nat
  | [] => 0
  | x :: r => bk_TStmt x + bks_TStmt r
end
mutual
def ft_TStmt : TStmt → Prop
  | ⟨x0, x1, x2, x3, x4, x5, x6, x7, x8, x9, x10, x11, x12, x13, x14, x15⟩ => (x0.length ≤ maxLen ∧ fts_v9 x0) ∧ (x1.length ≤ maxLen ∧ fts_v9 x1) ∧ (Lit.int .i64 x2).wf = true ∧ x3.size ≤ maxLen ∧ (Lit.int .i64 x4).wf = true ∧ (Lit.int .i64 x5).wf = true ∧ x6.size ≤ maxLen ∧ x7.size ≤ maxLen ∧ (x8.length ≤ maxLen ∧ fts_TExpr x8) ∧ (x9.length ≤ maxLen ∧ fts_TExpr x9) ∧ True ∧ True ∧ (x12.length ≤ maxLen ∧ fts_TStmt x12) ∧ (x13.length ≤ maxLen ∧ fts_TStmt x13) ∧ (x14.length ≤ maxLen ∧ fts_v9 x14) ∧ (x15.length ≤ maxLen ∧ fts_v9 x15)
def fts_TStmt : List TStmt → Prop
  | [] => True
  | x :: r => ft_TStmt x ∧ fts_TStmt r
end
theorem bks_TStmt_eq : ∀ l : List TStmt, bks_TStmt l = (l.map bk_TStmt).sum
  | [] => rfl
  | x :: r => by simp [bks_TStmt, bks_TStmt_eq r]
theorem fts_TStmt_iff : ∀ l : List TStmt, fts_TStmt l ↔ ∀ x ∈ l, ft_TStmt x
  | [] => by simp [fts_TStmt]
  | x :: r => by simp [fts_TStmt, fts_TStmt_iff r]
def bk_TRec : TRec → Nat
  | ⟨x0, x1, x2, x3, x4⟩ => (bks_v9 x0 + 1) + ((bks_v9 x1 + 1) + ((x2.size + 1) + ((bks_TField x3 + 1) + ((bks_v9 x4 + 1) + 0 )))) + 1
def bks_TRec : List TRec → Nat
  | [] => 0
  | x :: r => bk_TRec x + bks_TRec r
def ft_TRec : TRec → Prop
  | ⟨x0, x1, x2, x3, x4⟩ => (x0.length ≤ maxLen ∧ fts_v9 x0) ∧ (x1.length ≤ maxLen ∧ fts_v9 x1) ∧ x2.size ≤ maxLen ∧ (x3.length ≤ maxLen ∧ fts_TField x3) ∧ (x4.length ≤ maxLen ∧ fts_v9 x4)
def fts_TRec : List TRec → Prop
  | [] => True
  | x :: r => ft_TRec x ∧ fts_TRec r
theorem bks_TRec_eq : ∀ l : List TRec, bks_TRec l = (l.map bk_TRec).sum
  | [] => rfl
  | x :: r => by simp [bks_TRec, bks_TRec_eq r]
theorem fts_TRec_iff : ∀ l : List TRec, fts_TRec l ↔ ∀ x ∈ l, ft_TRec x
  | [] => by simp [fts_TRec]
  | x :: r => by simp [fts_TRec, fts_TRec_iff r]
mutual
def bk_TRoutine : TRoutine → Nat
  | ⟨x0, x1, x2, x3, x4, x5, x6, x7, x8⟩ => (bks_v9 x0 + 1) + ((bks_v9 x1 + 1) + ((x2.size + 1) + (1 + ((bks_TParam x4 + 1) + ((bks_TVar x5 + 1) + ((bks_TRoutine x6 + 1) + ((bks_TStmt x7 + 1) + ((bks_v9 x8 + 1) + 0 )))))))) + 1
def bks_TRoutine : List TRoutine → Nat
  | [] => 0
  | x :: r => bk_TRoutine x + bks_TRoutine r
end
mutual
def ft_TRoutine : TRoutine → Prop
  | ⟨x0, x1, x2, x3, x4, x5, x6, x7, x8⟩ => (x0.length ≤ maxLen ∧ fts_v9 x0) ∧ (x1.length ≤ maxLen ∧ fts_v9 x1) ∧ x2.size ≤ maxLen ∧ (Lit.int .i64 x3).wf = true ∧ (x4.length ≤ maxLen ∧ fts_TParam x4) ∧ (x5.length ≤ maxLen ∧ fts_TVar x5) ∧ (x6.length ≤ maxLen ∧ fts_TRoutine x6) ∧ (x7.length ≤ maxLen ∧ fts_TStmt x7) ∧ (x8.length ≤ maxLen ∧ fts_v9 x8)
def fts_TRoutine : List TRoutine → Prop
  | [] => True
  | x :: r => ft_TRoutine x ∧ fts_TRoutine r
end
theorem bks_TRoutine_eq : ∀ l : List TRoutine, bks_TRoutine l = (l.map bk_TRoutine).sum
  | [] => rfl
  | x :: r => by simp [bks_TRoutine, bks_TRoutine_eq r]
theorem fts_TRoutine_iff : ∀ l : List TRoutine, fts_TRoutine l ↔ ∀ x ∈ l, ft_TRoutine x
  | [] => by simp [fts_TRoutine]
  | x :: r => by simp [fts_TRoutine, fts_TRoutine_iff r]
def bk_Tr12_Thing : Tr12_Thing → Nat
  | ⟨x0, x1, x2, x3, x4, x5, x6, x7, x8, x9, x10, x11, x12, x13, x14, x15, x16, x17, x18⟩ => (x0.size + 1) + (1 + ((bks_v9 x2 + 1) + ((bks_v9 x3 + 1) + ((x4.size + 1) + ((bks_TField x5 + 1) + ((bks_v9 x6 + 1) + ((bks_v9 x7 + 1) + ((bks_v9 x8 + 1) + ((x9.size + 1) + (1 + ((bks_TParam x11 + 1) + ((bks_TVar x12 + 1) + ((bks_TRoutine x13 + 1) + ((bks_TStmt x14 + 1) + ((bks_v9 x15 + 1) + (1 + (1 + ((x18.size + 1) + 0 )))))))))))))))))) + 1
def ft_Tr12_Thing : Tr12_Thing → Prop
  | ⟨x0, x1, x2, x3, x4, x5, x6, x7, x8, x9, x10, x11, x12, x13, x14, x15, x16, x17, x18⟩ => x0.size ≤ maxLen ∧ (Lit.int .i64 x1).wf = true ∧ (x2.length ≤ maxLen ∧ fts_v9 x2) ∧ (x3.length ≤ maxLen ∧ fts_v9 x3) ∧ x4.size ≤ maxLen ∧ (x5.length ≤ maxLen ∧ fts_TField x5) ∧ (x6.length ≤ maxLen ∧ fts_v9 x6) ∧ (x7.length ≤ maxLen ∧ fts_v9 x7) ∧ (x8.length ≤ maxLen ∧ fts_v9 x8) ∧ x9.size ≤ maxLen ∧ (Lit.int .i64 x10).wf = true ∧ (x11.length ≤ maxLen ∧ fts_TParam x11) ∧ (x12.length ≤ maxLen ∧ fts_TVar x12) ∧ (x13.length ≤ maxLen ∧ fts_TRoutine x13) ∧ (x14.length ≤ maxLen ∧ fts_TStmt x14) ∧ (x15.length ≤ maxLen ∧ fts_v9 x15) ∧ (Lit.int .i64 x16).wf = true ∧ (Lit.int .i64 x17).wf = true ∧ x18.size ≤ maxLen
def bk_TProgram : TProgram → Nat
  | ⟨x0, x1, x2, x3, x4, x5, x6, x7, x8⟩ => (x0.size + 1) + ((bks_v9 x1 + 1) + ((bks_v9 x2 + 1) + ((bks_v9 x3 + 1) + ((bks_TRec x4 + 1) + ((bks_TVar x5 + 1) + ((bks_TRoutine x6 + 1) + ((bks_TStmt x7 + 1) + ((bks_v9 x8 + 1) + 0 )))))))) + 1
def ft_TProgram : TProgram → Prop
  | ⟨x0, x1, x2, x3, x4, x5, x6, x7, x8⟩ => x0.size ≤ maxLen ∧ (x1.length ≤ maxLen ∧ fts_v9 x1) ∧ (x2.length ≤ maxLen ∧ fts_v9 x2) ∧ (x3.length ≤ maxLen ∧ fts_v9 x3) ∧ (x4.length ≤ maxLen ∧ fts_TRec x4) ∧ (x5.length ≤ maxLen ∧ fts_TVar x5) ∧ (x6.length ≤ maxLen ∧ fts_TRoutine x6) ∧ (x7.length ≤ maxLen ∧ fts_TStmt x7) ∧ (x8.length ≤ maxLen ∧ fts_v9 x8)
def bkk : (t : Nat) → II t → Nat
  | 9, x => bk_v9 x
  | 46, x => bk_TRec x
  | 48, x => bk_TField x
  | 56, x => bk_TVar x
  | 58, x => bk_TPair x
  | 90, x => bk_TRoutine x
  | 92, x => bk_TParam x
  | 95, x => bk_TExpr x
  | 97, x => bk_TStmt x
  | 118, x => bk_Tr12_Thing x
  | _, _ => 0
def ftt : (t : Nat) → II t → Prop
  | 9, x => ft_v9 x
  | 46, x => ft_TRec x
  | 48, x => ft_TField x
  | 56, x => ft_TVar x
  | 58, x => ft_TPair x
  | 90, x => ft_TRoutine x
  | 92, x => ft_TParam x
  | 95, x => ft_TExpr x
  | 97, x => ft_TStmt x
  | 118, x => ft_Tr12_Thing x
  | _, _ => True
def rowsL : List Nat := [9, 46, 48, 56, 58, 90, 92, 95, 97, 118]
theorem full_v9 (ds : List (DV II)) (h : some [.str] = some (ds.map kd)) : ∃ x : ByteArray, row_v9 x = ds := by
  injection h with h
  symm at h
  obtain ⟨d0, ds, rfl, e0, h⟩ := List.map_eq_cons_iff.1 h
  obtain rfl := List.map_eq_nil_iff.1 h
  obtain ⟨y0, rfl⟩ := kd_str e0
  exact ⟨y0, rfl⟩
theorem full_TRec (ds : List (DV II)) (h : some [.sl 9, .sl 9, .str, .sl 48, .sl 9] = some (ds.map kd)) : ∃ x : TRec, row_TRec x = ds := by
  injection h with h
  symm at h
  obtain ⟨d0, ds, rfl, e0, h⟩ := List.map_eq_cons_iff.1 h
  obtain ⟨d1, ds, rfl, e1, h⟩ := List.map_eq_cons_iff.1 h
  obtain ⟨d2, ds, rfl, e2, h⟩ := List.map_eq_cons_iff.1 h
  obtain ⟨d3, ds, rfl, e3, h⟩ := List.map_eq_cons_iff.1 h
  obtain ⟨d4, ds, rfl, e4, h⟩ := List.map_eq_cons_iff.1 h
  obtain rfl := List.map_eq_nil_iff.1 h
  obtain ⟨y0, rfl⟩ := kd_sl e0
  obtain ⟨y1, rfl⟩ := kd_sl e1
  obtain ⟨y2, rfl⟩ := kd_str e2
  obtain ⟨y3, rfl⟩ := kd_sl e3
  obtain ⟨y4, rfl⟩ := kd_sl e4
  exact ⟨⟨y0, y1, y2, y3, y4⟩, rfl⟩
theorem full_TField (ds : List (DV II)) (h : some [.sl 9, .sl 9, .str, .int .i64] = some (ds.map kd)) : ∃ x : TField, row_TField x = ds := by
  injection h with h
  symm at h
  obtain ⟨d0, ds, rfl, e0, h⟩ := List.map_eq_cons_iff.1 h
  obtain ⟨d1, ds, rfl, e1, h⟩ := List.map_eq_cons_iff.1 h
  obtain ⟨d2, ds, rfl, e2, h⟩ := List.map_eq_cons_iff.1 h
  obtain ⟨d3, ds, rfl, e3, h⟩ := List.map_eq_cons_iff.1 h
  obtain rfl := List.map_eq_nil_iff.1 h
  obtain ⟨y0, rfl⟩ := kd_sl e0
  obtain ⟨y1, rfl⟩ := kd_sl e1
  obtain ⟨y2, rfl⟩ := kd_str e2
  obtain ⟨y3, rfl⟩ := kd_int e3
  exact ⟨⟨y0, y1, y2, y3⟩, rfl⟩
theorem full_TVar (ds : List (DV II)) (h : some [.sl 9, .sl 9, .str, .int .i64, .int .i64, .str] = some (ds.map kd)) : ∃ x : TVar, row_TVar x = ds := by
  injection h with h
  symm at h
  obtain ⟨d0, ds, rfl, e0, h⟩ := List.map_eq_cons_iff.1 h
  obtain ⟨d1, ds, rfl, e1, h⟩ := List.map_eq_cons_iff.1 h
  obtain ⟨d2, ds, rfl, e2, h⟩ := List.map_eq_cons_iff.1 h
  obtain ⟨d3, ds, rfl, e3, h⟩ := List.map_eq_cons_iff.1 h
  obtain ⟨d4, ds, rfl, e4, h⟩ := List.map_eq_cons_iff.1 h
  obtain ⟨d5, ds, rfl, e5, h⟩ := List.map_eq_cons_iff.1 h
  obtain rfl := List.map_eq_nil_iff.1 h
  obtain ⟨y0, rfl⟩ := kd_sl e0
  obtain ⟨y1, rfl⟩ := kd_sl e1
  obtain ⟨y2, rfl⟩ := kd_str e2
  obtain ⟨y3, rfl⟩ := kd_int e3
  obtain ⟨y4, rfl⟩ := kd_int e4
  obtain ⟨y5, rfl⟩ := kd_str e5
  exact ⟨⟨y0, y1, y2, y3, y4, y5⟩, rfl⟩
theorem full_TPair (ds : List (DV II)) (h : some [.str, .str] = some (ds.map kd)) : ∃ x : TPair, row_TPair x = ds := by
  injection h with h
  symm at h
  obtain ⟨d0, ds, rfl, e0, h⟩ := List.map_eq_cons_iff.1 h
  obtain ⟨d1, ds, rfl, e1, h⟩ := List.map_eq_cons_iff.1 h
  obtain rfl := List.map_eq_nil_iff.1 h
  obtain ⟨y0, rfl⟩ := kd_str e0
  obtain ⟨y1, rfl⟩ := kd_str e1
  exact ⟨⟨y0, y1⟩, rfl⟩
theorem full_TRoutine (ds : List (DV II)) (h : some [.sl 9, .sl 9, .str, .int .i64, .sl 92, .sl 56, .sl 90, .sl 97, .sl 9] = some (ds.map kd)) : ∃ x : TRoutine, row_TRoutine x = ds := by
  injection h with h
  symm at h
  obtain ⟨d0, ds, rfl, e0, h⟩ := List.map_eq_cons_iff.1 h
  obtain ⟨d1, ds, rfl, e1, h⟩ := List.map_eq_cons_iff.1 h
  obtain ⟨d2, ds, rfl, e2, h⟩ := List.map_eq_cons_iff.1 h
  obtain ⟨d3, ds, rfl, e3, h⟩ := List.map_eq_cons_iff.1 h
  obtain ⟨d4, ds, rfl, e4, h⟩ := List.map_eq_cons_iff.1 h
  obtain ⟨d5, ds, rfl, e5, h⟩ := List.map_eq_cons_iff.1 h
  obtain ⟨d6, ds, rfl, e6, h⟩ := List.map_eq_cons_iff.1 h
  obtain ⟨d7, ds, rfl, e7, h⟩ := List.map_eq_cons_iff.1 h
  obtain ⟨d8, ds, rfl, e8, h⟩ := List.map_eq_cons_iff.1 h
  obtain rfl := List.map_eq_nil_iff.1 h
  obtain ⟨y0, rfl⟩ := kd_sl e0
  obtain ⟨y1, rfl⟩ := kd_sl e1
  obtain ⟨y2, rfl⟩ := kd_str e2
  obtain ⟨y3, rfl⟩ := kd_int e3
  obtain ⟨y4, rfl⟩ := kd_sl e4
  obtain ⟨y5, rfl⟩ := kd_sl e5
  obtain ⟨y6, rfl⟩ := kd_sl e6
  obtain ⟨y7, rfl⟩ := kd_sl e7
  obtain ⟨y8, rfl⟩ := kd_sl e8
  exact ⟨⟨y0, y1, y2, y3, y4, y5, y6, y7, y8⟩, rfl⟩
theorem full_TParam (ds : List (DV II)) (h : some [.str, .int .i64, .int .i64, .str, .int .i64] = some (ds.map kd)) : ∃ x : TParam, row_TParam x = ds := by
  injection h with h
  symm at h
  obtain ⟨d0, ds, rfl, e0, h⟩ := List.map_eq_cons_iff.1 h
  obtain ⟨d1, ds, rfl, e1, h⟩ := List.map_eq_cons_iff.1 h
  obtain ⟨d2, ds, rfl, e2, h⟩ := List.map_eq_cons_iff.1 h
  obtain ⟨d3, ds, rfl, e3, h⟩ := List.map_eq_cons_iff.1 h
  obtain ⟨d4, ds, rfl, e4, h⟩ := List.map_eq_cons_iff.1 h
  obtain rfl := List.map_eq_nil_iff.1 h
  obtain ⟨y0, rfl⟩ := kd_str e0
  obtain ⟨y1, rfl⟩ := kd_int e1
  obtain ⟨y2, rfl⟩ := kd_int e2
  obtain ⟨y3, rfl⟩ := kd_str e3
  obtain ⟨y4, rfl⟩ := kd_int e4
  exact ⟨⟨y0, y1, y2, y3, y4⟩, rfl⟩
theorem full_TExpr (ds : List (DV II)) (h : some [.int .i64, .int .i64, .str, .str, .sl 95] = some (ds.map kd)) : ∃ x : TExpr, row_TExpr x = ds := by
  injection h with h
  symm at h
  obtain ⟨d0, ds, rfl, e0, h⟩ := List.map_eq_cons_iff.1 h
  obtain ⟨d1, ds, rfl, e1, h⟩ := List.map_eq_cons_iff.1 h
  obtain ⟨d2, ds, rfl, e2, h⟩ := List.map_eq_cons_iff.1 h
  obtain ⟨d3, ds, rfl, e3, h⟩ := List.map_eq_cons_iff.1 h
  obtain ⟨d4, ds, rfl, e4, h⟩ := List.map_eq_cons_iff.1 h
  obtain rfl := List.map_eq_nil_iff.1 h
  obtain ⟨y0, rfl⟩ := kd_int e0
  obtain ⟨y1, rfl⟩ := kd_int e1
  obtain ⟨y2, rfl⟩ := kd_str e2
  obtain ⟨y3, rfl⟩ := kd_str e3
  obtain ⟨y4, rfl⟩ := kd_sl e4
  exact ⟨⟨y0, y1, y2, y3, y4⟩, rfl⟩
theorem full_TStmt (ds : List (DV II)) (h : some [.sl 9, .sl 9, .int .i64, .str, .int .i64, .int .i64, .str, .str, .sl 95, .sl 95, .bool, .bool, .sl 97, .sl 97, .sl 9, .sl 9] = some (ds.map kd)) : ∃ x : TStmt, row_TStmt x = ds := by
  injection h with h
  symm at h
  obtain ⟨d0, ds, rfl, e0, h⟩ := List.map_eq_cons_iff.1 h
  obtain ⟨d1, ds, rfl, e1, h⟩ := List.map_eq_cons_iff.1 h
  obtain ⟨d2, ds, rfl, e2, h⟩ := List.map_eq_cons_iff.1 h
  obtain ⟨d3, ds, rfl, e3, h⟩ := List.map_eq_cons_iff.1 h
  obtain ⟨d4, ds, rfl, e4, h⟩ := List.map_eq_cons_iff.1 h
  obtain ⟨d5, ds, rfl, e5, h⟩ := List.map_eq_cons_iff.1 h
  obtain ⟨d6, ds, rfl, e6, h⟩ := List.map_eq_cons_iff.1 h
  obtain ⟨d7, ds, rfl, e7, h⟩ := List.map_eq_cons_iff.1 h
  obtain ⟨d8, ds, rfl, e8, h⟩ := List.map_eq_cons_iff.1 h
  obtain ⟨d9, ds, rfl, e9, h⟩ := List.map_eq_cons_iff.1 h
  obtain ⟨d10, ds, rfl, e10, h⟩ := List.map_eq_cons_iff.1 h
  obtain ⟨d11, ds, rfl, e11, h⟩ := List.map_eq_cons_iff.1 h
  obtain ⟨d12, ds, rfl, e12, h⟩ := List.map_eq_cons_iff.1 h
  obtain ⟨d13, ds, rfl, e13, h⟩ := List.map_eq_cons_iff.1 h
  obtain ⟨d14, ds, rfl, e14, h⟩ := List.map_eq_cons_iff.1 h
  obtain ⟨d15, ds, rfl, e15, h⟩ := List.map_eq_cons_iff.1 h
  obtain rfl := List.map_eq_nil_iff.1 h
  obtain ⟨y0, rfl⟩ := kd_sl e0
  obtain ⟨y1, rfl⟩ := kd_sl e1
  obtain ⟨y2, rfl⟩ := kd_int e2
  obtain ⟨y3, rfl⟩ := kd_str e3
  obtain ⟨y4, rfl⟩ := kd_int e4
  obtain ⟨y5, rfl⟩ := kd_int e5
  obtain ⟨y6, rfl⟩ := kd_str e6
  obtain ⟨y7, rfl⟩ := kd_str e7
  obtain ⟨y8, rfl⟩ := kd_sl e8
  obtain ⟨y9, rfl⟩ := kd_sl e9
  obtain ⟨y10, rfl⟩ := kd_bool e10
  obtain ⟨y11, rfl⟩ := kd_bool e11
  obtain ⟨y12, rfl⟩ := kd_sl e12
  obtain ⟨y13, rfl⟩ := kd_sl e13
  obtain ⟨y14, rfl⟩ := kd_sl e14
  obtain ⟨y15, rfl⟩ := kd_sl e15
  exact ⟨⟨y0, y1, y2, y3, y4, y5, y6, y7, y8, y9, y10, y11, y12, y13, y14, y15⟩, rfl⟩
theorem full_Tr12_Thing (ds : List (DV II)) (h : some [.str, .int .i64, .sl 9, .sl 9, .str, .sl 48, .sl 9, .sl 9, .sl 9, .str, .int .i64, .sl 92, .sl 56, .sl 90, .sl 97, .sl 9, .int .i64, .int .i64, .str] = some (ds.map kd)) : ∃ x : Tr12_Thing, row_Tr12_Thing x = ds := by
  injection h with h
  symm at h
  obtain ⟨d0, ds, rfl, e0, h⟩ := List.map_eq_cons_iff.1 h
  obtain ⟨d1, ds, rfl, e1, h⟩ := List.map_eq_cons_iff.1 h
  obtain ⟨d2, ds, rfl, e2, h⟩ := List.map_eq_cons_iff.1 h
  obtain ⟨d3, ds, rfl, e3, h⟩ := List.map_eq_cons_iff.1 h
  obtain ⟨d4, ds, rfl, e4, h⟩ := List.map_eq_cons_iff.1 h
  obtain ⟨d5, ds, rfl, e5, h⟩ := List.map_eq_cons_iff.1 h
  obtain ⟨d6, ds, rfl, e6, h⟩ := List.map_eq_cons_iff.1 h
  obtain ⟨d7, ds, rfl, e7, h⟩ := List.map_eq_cons_iff.1 h
  obtain ⟨d8, ds, rfl, e8, h⟩ := List.map_eq_cons_iff.1 h
  obtain ⟨d9, ds, rfl, e9, h⟩ := List.map_eq_cons_iff.1 h
  obtain ⟨d10, ds, rfl, e10, h⟩ := List.map_eq_cons_iff.1 h
  obtain ⟨d11, ds, rfl, e11, h⟩ := List.map_eq_cons_iff.1 h
  obtain ⟨d12, ds, rfl, e12, h⟩ := List.map_eq_cons_iff.1 h
  obtain ⟨d13, ds, rfl, e13, h⟩ := List.map_eq_cons_iff.1 h
  obtain ⟨d14, ds, rfl, e14, h⟩ := List.map_eq_cons_iff.1 h
  obtain ⟨d15, ds, rfl, e15, h⟩ := List.map_eq_cons_iff.1 h
  obtain ⟨d16, ds, rfl, e16, h⟩ := List.map_eq_cons_iff.1 h
  obtain ⟨d17, ds, rfl, e17, h⟩ := List.map_eq_cons_iff.1 h
  obtain ⟨d18, ds, rfl, e18, h⟩ := List.map_eq_cons_iff.1 h
  obtain rfl := List.map_eq_nil_iff.1 h
  obtain ⟨y0, rfl⟩ := kd_str e0
  obtain ⟨y1, rfl⟩ := kd_int e1
  obtain ⟨y2, rfl⟩ := kd_sl e2
  obtain ⟨y3, rfl⟩ := kd_sl e3
  obtain ⟨y4, rfl⟩ := kd_str e4
  obtain ⟨y5, rfl⟩ := kd_sl e5
  obtain ⟨y6, rfl⟩ := kd_sl e6
  obtain ⟨y7, rfl⟩ := kd_sl e7
  obtain ⟨y8, rfl⟩ := kd_sl e8
  obtain ⟨y9, rfl⟩ := kd_str e9
  obtain ⟨y10, rfl⟩ := kd_int e10
  obtain ⟨y11, rfl⟩ := kd_sl e11
  obtain ⟨y12, rfl⟩ := kd_sl e12
  obtain ⟨y13, rfl⟩ := kd_sl e13
  obtain ⟨y14, rfl⟩ := kd_sl e14
  obtain ⟨y15, rfl⟩ := kd_sl e15
  obtain ⟨y16, rfl⟩ := kd_int e16
  obtain ⟨y17, rfl⟩ := kd_int e17
  obtain ⟨y18, rfl⟩ := kd_str e18
  exact ⟨⟨y0, y1, y2, y3, y4, y5, y6, y7, y8, y9, y10, y11, y12, y13, y14, y15, y16, y17, y18⟩, rfl⟩
theorem bkk_v9 : bkk 9 = bk_v9 := rfl
theorem bkk_TField : bkk 48 = bk_TField := rfl
theorem bkk_TVar : bkk 56 = bk_TVar := rfl
theorem bkk_TRoutine : bkk 90 = bk_TRoutine := rfl
theorem bkk_TParam : bkk 92 = bk_TParam := rfl
theorem bkk_TExpr : bkk 95 = bk_TExpr := rfl
theorem bkk_TStmt : bkk 97 = bk_TStmt := rfl
theorem meas (E : Env II) (h1 : E.ty = tyy) (h2 : E.row = roww) {H : Type} (ub : DataW H → Nat) (nil : 1 ≤ ub .nil) (lit : ∀ l, 1 ≤ ub (.lit l)) (str : ∀ l, l.length + 1 ≤ ub (.lit (.string l))) (sl : ∀ a b, (a.map ub).sum + 1 ≤ ub (.slice a b)) (agg : ∀ a, (a.map ub).sum + 1 ≤ ub (.agg a)) : Meas E ftt bkk ub rowsL where
  contig t ti ht := by
    rw [h1] at ht ⊢
    exact List.all_eq_true.1 (show (tyL.all (contigOk tyy)) = true by kernel_rfl) (t, ti) (tyOf_mem tyL t ti ht)
  rowsIn t ti e ht hs hk := by
    rw [h1] at ht hk
    have := List.all_eq_true.1 (show (tyL.all fun p => match p.2.td with | .slice e => rowsL.contains e | _ => true) = true by kernel_rfl) (t, ti) (tyOf_mem tyL t ti ht)
    rw [hs] at this
    simpa using this
  rowsK e he := by
    rw [h1]
    have := List.all_eq_true.1 (show (rowsL.all fun e => (flatK tyy 9 e).isSome) = true by kernel_rfl) e he
    exact Option.isSome_iff_exists.1 this
  full e he ds hk := by
    rw [h1] at hk
    rw [h2]
    simp only [rowsL, List.mem_cons, List.not_mem_nil, or_false] at he
    rcases he with rfl | rfl | rfl | rfl | rfl | rfl | rfl | rfl | rfl | rfl
    · exact full_v9 ds hk
    · exact full_TRec ds hk
    · exact full_TField ds hk
    · exact full_TVar ds hk
    · exact full_TPair ds hk
    · exact full_TRoutine ds hk
    · exact full_TParam ds hk
    · exact full_TExpr ds hk
    · exact full_TStmt ds hk
    · exact full_Tr12_Thing ds hk
  q e he x hx := by
    rw [h2] at hx
    simp only [rowsL, List.mem_cons, List.not_mem_nil, or_false] at he
    rcases he with rfl | rfl | rfl | rfl | rfl | rfl | rfl | rfl | rfl | rfl
    · simp [roww, row_v9, QD, ftt, ft_v9] at hx ⊢; exact hx
    · cases x; simp [roww, row_TRec, QD, ftt, ft_TRec, fts_v9_iff, fts_TField_iff] at hx ⊢; exact hx
    · cases x; simp [roww, row_TField, QD, ftt, ft_TField, fts_v9_iff] at hx ⊢; exact hx
    · cases x; simp [roww, row_TVar, QD, ftt, ft_TVar, fts_v9_iff] at hx ⊢; exact hx
    · cases x; simp [roww, row_TPair, QD, ftt, ft_TPair] at hx ⊢; exact hx
    · cases x; simp [roww, row_TRoutine, QD, ftt, ft_TRoutine, fts_v9_iff, fts_TVar_iff, fts_TRoutine_iff, fts_TParam_iff, fts_TStmt_iff] at hx ⊢; exact hx
    · cases x; simp [roww, row_TParam, QD, ftt, ft_TParam] at hx ⊢; exact hx
    · cases x; simp [roww, row_TExpr, QD, ftt, ft_TExpr, fts_TExpr_iff] at hx ⊢; exact hx
    · cases x; simp [roww, row_TStmt, QD, ftt, ft_TStmt, fts_v9_iff, fts_TExpr_iff, fts_TStmt_iff] at hx ⊢; exact hx
    · cases x; simp [roww, row_Tr12_Thing, QD, ftt, ft_Tr12_Thing, fts_v9_iff, fts_TField_iff, fts_TVar_iff, fts_TRoutine_iff, fts_TParam_iff, fts_TStmt_iff] at hx ⊢; exact hx
  b e he x ti ht := by
    rw [h1] at ht
    rw [h2]
    simp only [rowsL, List.mem_cons, List.not_mem_nil, or_false] at he
    rcases he with rfl | rfl | rfl | rfl | rfl | rfl | rfl | rfl | rfl | rfl
    · have : tyy 9 = some _ := rfl
      rw [this] at ht; injection ht with ht; subst ht
      simp [roww, row_v9, bkD, bkk, bk_v9]
    · have : tyy 46 = some _ := rfl
      rw [this] at ht; injection ht with ht; subst ht
      cases x; simp [roww, row_TRec, bkD, bkk, bk_TRec, bks_v9_eq, bkk_v9, bks_TField_eq, bkk_TField]
    · have : tyy 48 = some _ := rfl
      rw [this] at ht; injection ht with ht; subst ht
      cases x; simp [roww, row_TField, bkD, bkk, bk_TField, bks_v9_eq, bkk_v9]
    · have : tyy 56 = some _ := rfl
      rw [this] at ht; injection ht with ht; subst ht
      cases x; simp [roww, row_TVar, bkD, bkk, bk_TVar, bks_v9_eq, bkk_v9]
    · have : tyy 58 = some _ := rfl
      rw [this] at ht; injection ht with ht; subst ht
      cases x; simp [roww, row_TPair, bkD, bkk, bk_TPair]
    · have : tyy 90 = some _ := rfl
      rw [this] at ht; injection ht with ht; subst ht
      cases x; simp [roww, row_TRoutine, bkD, bkk, bk_TRoutine, bks_v9_eq, bkk_v9, bks_TVar_eq, bkk_TVar, bks_TRoutine_eq, bkk_TRoutine, bks_TParam_eq, bkk_TParam, bks_TStmt_eq, bkk_TStmt]
    · have : tyy 92 = some _ := rfl
      rw [this] at ht; injection ht with ht; subst ht
      cases x; simp [roww, row_TParam, bkD, bkk, bk_TParam]
    · have : tyy 95 = some _ := rfl
      rw [this] at ht; injection ht with ht; subst ht
      cases x; simp [roww, row_TExpr, bkD, bkk, bk_TExpr, bks_TExpr_eq, bkk_TExpr]
    · have : tyy 97 = some _ := rfl
      rw [this] at ht; injection ht with ht; subst ht
      cases x; simp [roww, row_TStmt, bkD, bkk, bk_TStmt, bks_v9_eq, bkk_v9, bks_TExpr_eq, bkk_TExpr, bks_TStmt_eq, bkk_TStmt]
    · have : tyy 118 = some _ := rfl
      rw [this] at ht; injection ht with ht; subst ht
      cases x; simp [roww, row_Tr12_Thing, bkD, bkk, bk_Tr12_Thing, bks_v9_eq, bkk_v9, bks_TField_eq, bkk_TField, bks_TVar_eq, bkk_TVar, bks_TRoutine_eq, bkk_TRoutine, bks_TParam_eq, bkk_TParam, bks_TStmt_eq, bkk_TStmt]
  nil := nil
  lit := lit
  str := str
  sl := sl
  agg := agg
end Go.Ev
end
section
open Go
namespace Go.Ev
set_option maxRecDepth 100000
set_option linter.unusedVariables false
variable {h : Fam}
noncomputable def dc (p : Prop) : Bool := @decide p (Classical.propDecidable p)
theorem dc_iff (p : Prop) : dc p = true ↔ p := by unfold dc; exact @decide_eq_true_iff p (Classical.propDecidable p)
theorem dc_true {p : Prop} (h : p) : dc p = true := (dc_iff p).2 h
theorem dc_false {p : Prop} (h : ¬ p) : dc p = false := by
  cases hd : dc p with
  | false => rfl
  | true => exact absurd ((dc_iff p).1 hd) h
theorem dc_eq {p q : Prop} (h : p ↔ q) : dc p = dc q := by rw [propext h]
theorem dc_dec (p : Prop) [Decidable p] : dc p = decide p := by
  by_cases h : p
  · rw [dc_true h, decide_eq_true h]
  · rw [dc_false h, decide_eq_false h]
theorem ba_dc (a b : ByteArray) : (a.toList == b.toList) = dc (a = b) := by rw [ba_beq, ← dc_dec]
theorem int_dc (a b : Int) : (a == b) = dc (a = b) := by rw [dc_dec]; rfl
theorem if_dc (p q : Prop) : (if dc p = true then some (dc q) else some false) = some (dc (p ∧ q)) := by
  by_cases h : p
  · rw [if_pos (dc_true h)]; exact congrArg some (dc_eq (by simp [h]))
  · rw [if_neg (by rw [dc_false h]; simp), dc_false (p := p ∧ q) (by simp [h])]
theorem and_dc (p q : Prop) : (dc p && dc q) = dc (p ∧ q) := by
  by_cases h : p
  · rw [dc_true h, Bool.true_and]; exact dc_eq (by simp [h])
  · rw [dc_false h, dc_false (p := p ∧ q) (by simp [h]), Bool.false_and]
theorem not_dc (p : Prop) : (!dc p) = dc (¬ p) := by
  by_cases h : p
  · rw [dc_true h, dc_false (p := ¬ p) (by simp [h])]; rfl
  · rw [dc_false h, dc_true (p := ¬ p) h]; rfl
theorem or_dc (p q : Prop) : (dc p || dc q) = dc (p ∨ q) := by
  by_cases h : p
  · rw [dc_true h, dc_true (p := p ∨ q) (.inl h), Bool.true_or]
  · rw [dc_false h, Bool.false_or]; exact dc_eq (by simp [h])
theorem ifn_dc (p q : Prop) : (if dc p = true then some false else some (dc q)) = some (dc (¬ p ∧ q)) := by
  by_cases h : p
  · rw [if_pos (dc_true h), dc_false (p := ¬ p ∧ q) (by simp [h])]
  · rw [if_neg (by rw [dc_false h]; simp)]; exact congrArg some (dc_eq (by simp [h]))
theorem iff_dc (p q : Prop) : (if dc p = false then some (dc q) else some false) = some (dc (¬ p ∧ q)) := by
  by_cases h : p
  · rw [if_neg (by rw [dc_true h]; simp), dc_false (p := ¬ p ∧ q) (by simp [h])]
  · rw [if_pos (dc_false h)]; exact congrArg some (dc_eq (by simp [h]))
end Go.Ev
end
section
open Go
namespace Go.Ev
set_option maxRecDepth 100000
set_option maxHeartbeats 4000000
set_option linter.unusedVariables false
set_option linter.unusedSimpArgs false
variable (h : Fam)
theorem len_sum {α : Type} (f : α → Nat) (hf : ∀ x, 1 ≤ f x) : ∀ l : List α, l.length ≤ (l.map f).sum
  | [] => Nat.le_refl _
  | x :: l => by
    have := hf x; have := len_sum f hf l
    simp only [List.length_cons, List.map_cons, List.sum_cons]; omega
theorem mem_sum {α : Type} (f : α → Nat) : ∀ (l : List α) (i : Nat) (hi : i < l.length), f l[i] ≤ (l.map f).sum
  | [], i, hi => by simp at hi
  | x :: l, 0, hi => by simp
  | x :: l, i + 1, hi => by
    have := mem_sum f l i (by simpa using hi)
    simp only [List.getElem_cons_succ, List.map_cons, List.sum_cons]; omega
theorem bk_Expr_pos (x : TExpr) : 1 ≤ bk_TExpr x := by cases x; simp [bk_TExpr]; 
theorem bks_Expr_len (l : List TExpr) : l.length ≤ bks_TExpr l := by rw [bks_TExpr_eq]; exact len_sum _ bk_Expr_pos l
theorem bks_Expr_mem (l : List TExpr) (i : Nat) (hi : i < l.length) : bk_TExpr l[i] ≤ bks_TExpr l := by rw [bks_TExpr_eq]; exact mem_sum _ l i hi
end Go.Ev
end
section
open Go
namespace Go.Ev
set_option maxRecDepth 100000
set_option maxHeartbeats 4000000
set_option linter.unusedVariables false
set_option linter.unusedSimpArgs false
variable (h : Fam)
theorem int_ndc (a b : Int) : (a != b) = dc (¬ a = b) := by rw [← not_dc, ← int_dc]; rfl
theorem getD_at {α : Type} (l : List α) (i : Nat) (d : α) (hi : i < l.length) : l.getD (i : Int).toNat d = l[i] := by
  simp [List.getD_eq_getElem?_getD, List.getElem?_eq_getElem hi]
theorem bk_v9_pos (x : ByteArray) : 1 ≤ bk_v9 x := by simp [bk_v9]
theorem bks_v9_len (l : List ByteArray) : l.length ≤ bks_v9 l := by rw [bks_v9_eq]; exact len_sum _ bk_v9_pos l
theorem bk_Stmt_pos (x : TStmt) : 1 ≤ bk_TStmt x := by cases x; simp [bk_TStmt]
theorem bks_Stmt_len (l : List TStmt) : l.length ≤ bks_TStmt l := by rw [bks_TStmt_eq]; exact len_sum _ bk_Stmt_pos l
theorem bks_Stmt_mem (l : List TStmt) (i : Nat) (hi : i < l.length) : bk_TStmt l[i] ≤ bks_TStmt l := by rw [bks_TStmt_eq]; exact mem_sum _ l i hi
end Go.Ev
end
section
-- PRINTED BY print.sh 35421559b90ae4d0a3588c463048766b98c2df88dd9212a6774a882060cdf62d: not written by this session
-- PRINTED WORDS (module Derived/Print/Words.lean): go-wishes' parts 1 to 38 and go-gate-2's additions: AI agents of Go's test side, Mon Nov 16 2026; no person has read them. Plain theorems and definitions: no macro, no elab, no axiom.
set_option linter.unusedVariables false
set_option linter.unusedSimpArgs false
namespace Go.Proofs.YtlepjafokfhnfaaGreatDoorW.PrintWords
open Go.RowKit
structure Drawn0 (w w' : World) : Prop where mk :: (out : ∃ n, w' = w.drewN n)
theorem Drawn0.refl (w : World) : Drawn0 w w := ⟨⟨0, rfl⟩⟩
theorem Drawn0.step {w w' : World} (h : Drawn0 w w') (n : Nat) : Drawn0 w (w'.drewN n) := by
  obtain ⟨m, rfl⟩ := h
  exact ⟨⟨m + n, World.drewN_drewN ..⟩⟩
theorem Drawn0.grown {w w' : World} (h : Drawn0 w w') : Grown w w' := by
  obtain ⟨n, rfl⟩ := h
  induction n with
  | zero => exact Grown.refl _
  | succ n ih => rw [← World.drew_drewN]; exact Grown.drew ih
theorem Drawn0.below {w w' : World} (h : Drawn0 w w') : Below w.heap.size w w' := by
  obtain ⟨n, rfl⟩ := h
  induction n with
  | zero => exact Below.refl _ _
  | succ n ih => rw [← World.drew_drewN]; exact ih.drew
def rd (xs : List Int) (i : Int) : Int := xs.getD i.toNat 0
def bt (s : ByteArray) (i : Int) : Int := if h : i.toNat < s.size then ((s[i.toNat]'h).toNat : Int) else 0
theorem bt_at (s : ByteArray) (i : Int) : ∀ h : i.toNat < s.size, ((s[i.toNat]'h).toNat : Int) = bt s i := fun h => by simp [bt, h]
theorem below_alloc {w W : World} (h : Below w.heap.size w W) (o : Obj) : Below w.heap.size w (W.alloc o) := h.alloc h.size o
theorem pw_below_drewN {B : Nat} {w W : World} (h : Below B w W) (n : Nat) : Below B w (W.drewN n) := ⟨h.os, h.tape, h.output, h.size, h.block⟩
theorem grown_of_below {w w1 : World} (h : Below w.heap.size w w1) (row : Option Nat) : w.grownBy w1 row := ⟨h.os, h.tape, h.output, h.size, fun i hi _ => h.block i hi⟩
theorem pw_cell_below {w w1 : World} (h : Below w.heap.size w w1) {a : Addr} {v : Value} (hc : w.cell? a = some v) : w1.cell? a = some v := (h.cell (World.block_lt_of_cell? w a hc)).trans hc
def ReadsInt (w : World) (k : IntKind) (A : Option Addr) (n : Nat) (xs : List Int) : Prop :=
  xs.length = n ∧ n ≤ 9223372036854775807 ∧ (0 < n → ∃ ad, A = some ad ∧ ∀ j, j < n → w.cell? (ad.add j) = some (.int k (xs.getD j 0)))
theorem ReadsInt.at_ {w : World} {k : IntKind} {A : Option Addr} {n : Nat} {xs : List Int} (h : ReadsInt w k A n xs) (i : Int) (h0 : 0 ≤ i) (h1 : i < n) : ∃ ad, A = some ad ∧ w.cell? (ad.add i.toNat) = some (.int k (rd xs i)) := by
  obtain ⟨ad, e, hc⟩ := h.2.2 (by omega)
  exact ⟨ad, e, hc _ (by omega)⟩
theorem ReadsInt.below {w w1 : World} {k : IntKind} {A : Option Addr} {n : Nat} {xs : List Int} (h : ReadsInt w k A n xs) (hb : Below w.heap.size w w1) : ReadsInt w1 k A n xs :=
  ⟨h.1, h.2.1, fun hn => by
    obtain ⟨ad, e, hc⟩ := h.2.2 hn
    exact ⟨ad, e, fun j hj => pw_cell_below hb (hc j hj)⟩⟩
theorem own_nil (W : World) (base : Nat) (e : TypeId) (size : Nat) : W.ownsRow base e size (.slice none 0 0) 0 [] := ⟨by simp, .inl ⟨rfl, rfl⟩⟩
theorem own_base {w : World} {base : Nat} {e : TypeId} {size n : Nat} {v : Value} {xs : List Value} (h : w.ownsRow base e size v n xs) (k : Nat) (hk : v.ownBlock = some k) : base ≤ k := by
  rcases h.2 with ⟨rfl, _⟩ | ⟨g, cap, cur, rfl, hb, _⟩
  · simp [Value.ownBlock] at hk
  · have : g = k := by simpa [Value.ownBlock] using hk
    omega
theorem own_lt {w : World} {base : Nat} {e : TypeId} {size n : Nat} {v : Value} {xs : List Value} (h : w.ownsRow base e size v n xs) (k : Nat) (hk : v.ownBlock = some k) : k < w.heap.size := by
  rcases h.2 with ⟨rfl, _⟩ | ⟨g, cap, cur, rfl, hb, hh, _⟩
  · simp [Value.ownBlock] at hk
  · have : g = k := by simpa [Value.ownBlock] using hk
    subst this
    exact (Array.getElem?_eq_some_iff.1 hh).1
theorem pw_own_below {w w1 : World} {base : Nat} {e : TypeId} {size n : Nat} {v : Value} {xs : List Value} (h : w.ownsRow base e size v n xs) (hb : Below w.heap.size w w1) : w1.ownsRow base e size v n xs :=
  h.kept (grown_of_below hb none) (by cases v.ownBlock <;> simp)
theorem own_other {w w1 : World} {base : Nat} {e : TypeId} {size n : Nat} {v : Value} {xs : List Value} (h : w.ownsRow base e size v n xs) {row : Option Nat} (hg : w.grownBy w1 row) (hne : v.ownBlock = none ∨ v.ownBlock ≠ row) : w1.ownsRow base e size v n xs := h.kept hg hne
section
variable {P : Program} {ops : Array Oper} {rest : List Oper} {o : Oper} {a : Act} {Q : Exit → Act → World → Prop}
end
section
variable {P : Program}
end
section
variable {P : Program} {ops : Array Oper} {rest : List Oper} {o : Oper} {a : Act} {Q : Exit → Act → World → Prop}
end
def LeO {α : Type} (a b : Option α) : Prop := ∀ r, a = some r → b = some r
theorem LeO.refl {α : Type} (a : Option α) : LeO a a := fun _ h => h
theorem LeO.none {α : Type} (b : Option α) : LeO Option.none b := fun _ h => by cases h
theorem LeO.trans {α : Type} {a b c : Option α} (h : LeO a b) (k : LeO b c) : LeO a c := fun r hr => k r (h r hr)
theorem LeO.ite {α : Type} {c : Prop} [Decidable c] {a a' b b' : Option α} (h : LeO a a') (k : LeO b b') : LeO (if c then a else b) (if c then a' else b') := by
  split
  · exact h
  · exact k
theorem LeO.bind {α β : Type} {a a' : Option α} {f f' : α → Option β} (h : LeO a a') (k : ∀ x, LeO (f x) (f' x)) : LeO (a.bind f) (a'.bind f') := by
  intro r hr
  obtain ⟨x, hx, hf⟩ := Option.bind_eq_some_iff.1 hr
  exact Option.bind_eq_some_iff.2 ⟨x, h x hx, k x r hf⟩
theorem LeO.map {α β : Type} {a a' : Option α} (f : α → β) (h : LeO a a') : LeO (a.map f) (a'.map f) := by
  intro r hr
  obtain ⟨x, hx, hf⟩ := Option.map_eq_some_iff.1 hr
  exact Option.map_eq_some_iff.2 ⟨x, h x hx, hf⟩
theorem more_rounds {α : Type} {g : Nat → Option α} (h : ∀ k, LeO (g k) (g (k + 1))) (k : Nat) : ∀ j, LeO (g k) (g (k + j))
  | 0 => LeO.refl _
  | j + 1 => (more_rounds h k j).trans (h (k + j))
theorem at_rounds {α : Type} {g : Nat → Option α} (h : ∀ k, LeO (g k) (g (k + 1))) {k k' : Nat} (hk : k ≤ k') {r : α} (hr : g k = some r) : g k' = some r := by
  have := more_rounds h k (k' - k) r hr
  rwa [Nat.add_sub_cancel' hk] at this
def Reps {α : Type} (R : α → List Value → Prop) (size : Nat) (ps : List α) (cs : List Value) : Prop :=
  cs.length = ps.length * size ∧ ∀ j p, ps[j]? = some p → R p ((cs.drop (j * size)).take size)
theorem Reps.none {α : Type} (R : α → List Value → Prop) (size : Nat) : Reps R size [] [] := ⟨by simp, fun j p h => by simp at h⟩
theorem Reps.snoc {α : Type} {R : α → List Value → Prop} {size : Nat} {ps : List α} {cs c : List Value} {p : α} (h : Reps R size ps cs) (hp : R p c) (hc : c.length = size) : Reps R size (ps ++ [p]) (cs ++ c) := by
  refine ⟨by rw [List.length_append, h.1, hc, List.length_append, List.length_singleton, Nat.add_mul, Nat.one_mul], fun j q hq => ?_⟩
  rcases Nat.lt_or_ge j ps.length with hj | hj
  · rw [List.getElem?_append_left hj] at hq
    have h1 : j * size + size ≤ cs.length := by rw [h.1, ← Nat.succ_mul]; exact Nat.mul_le_mul_right _ hj
    have h2 := h.2 j q hq
    rw [List.drop_append_of_le_length (by omega), List.take_append_of_le_length (by rw [List.length_drop]; omega)]
    exact h2
  · have hj' : j = ps.length := by
      have := (List.getElem?_eq_some_iff.1 hq).1
      rw [List.length_append, List.length_singleton] at this
      omega
    subst hj'
    have hq' : p = q := by simpa using hq
    subst hq'
    rw [← h.1, List.drop_left, ← hc, List.take_length]
    exact hp
theorem Reps.imp_ {α : Type} {R R' : α → List Value → Prop} {size : Nat} {ps : List α} {cs : List Value} (h : Reps R size ps cs) (hR : ∀ p c, R p c → R' p c) : Reps R' size ps cs := ⟨h.1, fun j p hj => hR _ _ (h.2 j p hj)⟩
def ReadsRow {α : Type} (R : α → List Value → Prop) (size : Nat) (w : World) (A : Option Addr) (n : Nat) (ps : List α) : Prop :=
  ps.length = n ∧ n ≤ 9223372036854775807 ∧ (0 < n → ∃ ad, A = some ad ∧ ∀ j p, ps[j]? = some p → ∃ c, c.length = size ∧ R p c ∧ ∀ i u, c[i]? = some u → w.cell? (ad.add (j * size + i)) = some u)
theorem ReadsRow.imp_ {α : Type} {R R' : α → List Value → Prop} {size : Nat} {w w1 : World} {A : Option Addr} {n : Nat} {ps : List α} (h : ReadsRow R size w A n ps) (hb : Below w.heap.size w w1) (hR : ∀ p c, R p c → R' p c) : ReadsRow R' size w1 A n ps :=
  ⟨h.1, h.2.1, fun hn => by
    obtain ⟨ad, e, hc⟩ := h.2.2 hn
    refine ⟨ad, e, fun j p hj => ?_⟩
    obtain ⟨c, hs, hr, hcell⟩ := hc j p hj
    exact ⟨c, hs, hR _ _ hr, fun i u hu => pw_cell_below hb (hcell i u hu)⟩⟩
theorem own_reads_row {α : Type} {R : α → List Value → Prop} {w : World} {base n size : Nat} {e : TypeId} {v : Value} {ps : List α} {cs : List Value} (h : w.ownsRow base e size v n cs) (hR : Reps R size ps cs) (hn : ps.length = n) :
    ∃ A c, v = .slice A n c ∧ ReadsRow R size w A n ps := by
  rcases Nat.eq_zero_or_pos n with h0 | h0
  · rcases h.2 with ⟨rfl, rfl⟩ | ⟨g, cap, cur, rfl, _⟩
    · exact ⟨none, 0, rfl, hn, by omega, fun hp => absurd hp (by omega)⟩
    · exact ⟨_, cap, rfl, hn, by omega, fun hp => absurd hp (by omega)⟩
  · obtain ⟨g, cap, rfl, _, _⟩ := h.form h0
    have hm : n ≤ 9223372036854775807 := by
      rcases h.2 with ⟨_, h1⟩ | ⟨g', cap', cur, he, _, _, h1, h2, _⟩
      · omega
      · simp only [maxLen] at h2
        omega
    refine ⟨_, cap, rfl, hn, hm, fun _ => ⟨_, rfl, fun j p hj => ⟨(cs.drop (j * size)).take size, ?_, hR.2 j p hj, fun i u hu => ?_⟩⟩⟩
    · have hjl := (List.getElem?_eq_some_iff.1 hj).1
      have h1 : j * size + size ≤ cs.length := by rw [hR.1, ← Nat.succ_mul]; exact Nat.mul_le_mul_right _ hjl
      rw [List.length_take, List.length_drop]
      omega
    · refine h.cells (g := g) rfl _ u ?_
      rw [List.getElem?_take] at hu
      split at hu
      · rw [List.getElem?_drop] at hu
        exact hu
      · cases hu
section
variable {P : Program} {ops : Array Oper} {rest : List Oper} {o : Oper} {a : Act} {Q : Exit → Act → World → Prop}
theorem print_append_cells {w0 W : World} (base : Nat) (hgd : o.guard = none) (s x : Operand) (t e : TypeId) (z : Value) (size bytes : Nat)
    (ho : o.op = .call { callee := .builtin .append, args := #[s, x], argTypes := #[t, t] })
    (ht : P.underlying t = some (.slice e)) (hinfo : (P.info? e).map (fun i => (i.zero, i.size, i.bytes)) = some (some z, size, bytes)) (hz : z.cells.size = size) (hs0 : 0 < size) (hb0 : 0 < bytes)
    (v : Value) (n : Nat) (xs ys : List Value) (hs : a.eval s = v) (hx : a.eval x = .slice (some ⟨W.heap.size, 0, none⟩) 1 1) (hys : ys.length = size) (h1 : ∀ u ∈ ys, u.oneCell' = true)
    (HO : W.ownsRow base e size v n xs) (HB : Below base w0 W) (hbase : base ≤ W.heap.size) (hl : (n + 1) * bytes ≤ 140737488355328)
    (h : ∀ v1 w1, w1.ownsRow base e size v1 (n + 1) (xs ++ ys) → Below base w0 w1 → W.grownBy w1 v.ownBlock → (v1.ownBlock = v.ownBlock ∨ ∃ b, v1.ownBlock = some b ∧ W.heap.size ≤ b) → wpList P ops Q rest (a.put o.dst v1) w1) :
    wpList P ops Q (o :: rest) a (W.alloc (.cells ys.toArray e)) := by
  obtain ⟨i0, hi, hzz⟩ := Option.map_eq_some_iff.1 hinfo
  simp only [Prod.mk.injEq] at hzz
  obtain ⟨hz0, hz1, hz2⟩ := hzz
  have hlen : n + 1 ≤ 140737488355328 := Nat.le_trans (Nat.le_mul_of_pos_right _ hb0) hl
  refine wpList_append_own_at (W.alloc (.cells ys.toArray e)) hgd s x t ho base e i0 z size bytes ht hi hz0 hz1 hz2 hz hs0 v n xs hs (HO.alloc _) ⟨W.heap.size, 0, none⟩ 1 1 ys hx (by rw [hys]; simp)
    (by simpa using World.news_of_block (cs := ys.toArray) (t := e) (fr := (0, 0)) (heap_alloc_new W (.cells ys.toArray e))) h1 (by simp only [maxLen]; omega) hl (by simp; omega) ?_
  intro v1 w1 hown hg _ hat
  refine h v1 w1 hown ((HB.alloc hbase _).grown hg (by simp; omega) (own_base HO)) (World.grownBy.trans (World.grownBy_alloc W _ _) hg) ?_
  rcases hat with hat | hat
  · exact .inl hat
  · exact .inr ⟨_, hat, by simp⟩
end
theorem own_ne {w : World} {base : Nat} {e t : TypeId} {size n g : Nat} {v : Value} {xs : List Value} {cs : Array Value} (h : w.ownsRow base e size v n xs) (hg : w.heap[g]? = some (.cells cs t (0, 0))) (hne : e ≠ t) : some g ≠ v.ownBlock := by
  rcases h.2 with ⟨rfl, _⟩ | ⟨g', cap, cur, rfl, _, hh, _⟩
  · simp [Value.ownBlock]
  · intro he
    have : g = g' := by simpa [Value.ownBlock] using he
    subst this
    rw [hg] at hh
    injection hh with hh
    injection hh with _ ht
    exact hne ht.symm
theorem blk_lt {w : World} {g : Nat} {o : Obj} (h : w.heap[g]? = some o) : g < w.heap.size := (Array.getElem?_eq_some_iff.1 h).1
def KeepBut (w w' : World) (g : Nat) (row : Option Nat) : Prop := w.heap.size ≤ w'.heap.size ∧ ∀ i, i < w.heap.size → i ≠ g → some i ≠ row → w'.heap[i]? = w.heap[i]?
theorem KeepBut.refl (w : World) (g : Nat) (row : Option Nat) : KeepBut w w g row := ⟨Nat.le_refl _, fun _ _ _ _ => rfl⟩
theorem KeepBut.trans {w w1 w2 : World} {g : Nat} {row row1 : Option Nat} (h : KeepBut w w1 g row) (k : KeepBut w1 w2 g row1) (hr : row1 = row ∨ ∃ b, row1 = some b ∧ w.heap.size ≤ b) : KeepBut w w2 g row :=
  ⟨Nat.le_trans h.1 k.1, fun i hi hg hn => by
    refine (k.2 i (Nat.lt_of_lt_of_le hi h.1) hg ?_).trans (h.2 i hi hg hn)
    rcases hr with rfl | ⟨b, rfl, hb⟩
    · exact hn
    · intro e
      injection e with e
      omega⟩
theorem KeepBut.blk {w w1 : World} {g g' : Nat} {row : Option Nat} {o : Obj} (h : KeepBut w w1 g row) (hb : w.heap[g']? = some o) (hg : g' ≠ g) (hr : some g' ≠ row) : w1.heap[g']? = some o := (h.2 g' (blk_lt hb) hg hr).trans hb
theorem KeepBut.own {w w1 : World} {g : Nat} {row : Option Nat} {base : Nat} {e : TypeId} {size n : Nat} {v : Value} {xs : List Value} (h : KeepBut w w1 g row) (ho : w.ownsRow base e size v n xs) (hg : v.ownBlock ≠ some g) (hr : v.ownBlock = none ∨ v.ownBlock ≠ row) : w1.ownsRow base e size v n xs := by
  obtain ⟨h1, h2⟩ := ho
  refine ⟨h1, ?_⟩
  rcases h2 with h2 | ⟨b, cap, cur, rfl, hb, hh, r⟩
  · exact .inl h2
  · refine .inr ⟨b, cap, cur, rfl, hb, h.blk hh ?_ ?_, r⟩
    · intro e
      exact hg (by rw [← e]; rfl)
    · rcases hr with hr | hr
      · simp [Value.ownBlock] at hr
      · exact hr
def Ev {α : Type} (g : Nat → Option α) (r : α) : Prop := ∃ K, ∀ k, K ≤ k → g k = some r
theorem Ev.of {α : Type} {g : Nat → Option α} {r : α} (hg : ∀ k, LeO (g k) (g (k + 1))) {k : Nat} (h : g k = some r) : Ev g r := ⟨k, fun _ hk => at_rounds hg hk h⟩
theorem Ev.now {α : Type} (r : α) : Ev (fun _ => some r) r := ⟨0, fun _ _ => rfl⟩
theorem Ev.rounds {α : Type} {g : Nat → Option α} {r : α} (h : Ev g r) : ∃ k, g k = some r := by
  obtain ⟨K, h⟩ := h
  exact ⟨K, h K (Nat.le_refl _)⟩
theorem Ev.bind {α β : Type} {g : Nat → Option α} {f : Nat → α → Option β} {a : α} {r : β} (h : Ev g a) (k : Ev (fun n => f n a) r) : Ev (fun n => (g n).bind (f n)) r := by
  obtain ⟨K, h⟩ := h
  obtain ⟨K', k⟩ := k
  refine ⟨max K K', fun n hn => ?_⟩
  have h1 := h n (by omega)
  have h2 := k n (by omega)
  simp only [h1, Option.bind_some]
  exact h2
theorem Ev.step {α : Type} {g f : Nat → Option α} {r : α} (h : ∀ k, g (k + 1) = f k) (k : Ev f r) : Ev g r := by
  obtain ⟨K, k⟩ := k
  refine ⟨K + 1, fun n hn => ?_⟩
  obtain ⟨m, rfl⟩ : ∃ m, n = m + 1 := ⟨n - 1, by omega⟩
  rw [h]
  exact k m (by omega)
theorem Ev.congr {α : Type} {g f : Nat → Option α} {r : α} (h : ∀ k, g k = f k) (k : Ev f r) : Ev g r := by
  obtain ⟨K, k⟩ := k
  exact ⟨K, fun n hn => (h n).trans (k n hn)⟩
section
variable {P : Program} {ops : Array Oper} {o : Oper} {a : Act} {Q : Exit → Act → World → Prop} {K : Act → World → Prop}
end
theorem own_weaken {w : World} {base base' : Nat} {e : TypeId} {size n : Nat} {v : Value} {xs : List Value} (h : w.ownsRow base e size v n xs) (hb : base' ≤ base) : w.ownsRow base' e size v n xs := by
  obtain ⟨h1, h2⟩ := h
  refine ⟨h1, ?_⟩
  rcases h2 with h2 | ⟨g, cap, cur, rfl, hg, r⟩
  · exact .inl h2
  · exact .inr ⟨g, cap, cur, rfl, Nat.le_trans hb hg, r⟩
section
variable {α : Type} {enc : α → Value} {d : α}
def rdOf (d : α) (xs : List α) (i : Int) : α := xs.getD i.toNat d
def ReadsOf (enc : α → Value) (d : α) (w : World) (A : Option Addr) (n : Nat) (xs : List α) : Prop :=
  xs.length = n ∧ n ≤ 9223372036854775807 ∧ (0 < n → ∃ ad, A = some ad ∧ ∀ j, j < n → w.cell? (ad.add j) = some (enc (xs.getD j d)))
theorem ReadsOf.at_ {w : World} {A : Option Addr} {n : Nat} {xs : List α} (h : ReadsOf enc d w A n xs) (i : Int) (h0 : 0 ≤ i) (h1 : i < n) : ∃ ad, A = some ad ∧ w.cell? (ad.add i.toNat) = some (enc (rdOf d xs i)) := by
  obtain ⟨ad, e, hc⟩ := h.2.2 (by omega)
  exact ⟨ad, e, hc _ (by omega)⟩
theorem ReadsOf.below {w w1 : World} {A : Option Addr} {n : Nat} {xs : List α} (h : ReadsOf enc d w A n xs) (hb : Below w.heap.size w w1) : ReadsOf enc d w1 A n xs :=
  ⟨h.1, h.2.1, fun hn => by
    obtain ⟨ad, e, hc⟩ := h.2.2 hn
    exact ⟨ad, e, fun j hj => pw_cell_below hb (hc j hj)⟩⟩
end
section
variable {α : Type} {P : Program} {ops : Array Oper} {rest : List Oper} {o : Oper} {a : Act} {Q : Exit → Act → World → Prop}
end
section
variable {P : Program}
end
theorem own_le {w : World} {base n m c size : Nat} {e : TypeId} {A : Option Addr} {xs : List Value} (h : w.ownsRow base e size (.slice A m c) n xs) : m ≤ c := by
  rcases h.2 with ⟨he, _⟩ | ⟨g, cap, cur, he, _, _, hnc, _⟩
  · injection he with _ h2 h3
    omega
  · injection he with _ h2 h3
    omega
def OwnRow {α : Type} (R : α → List Value → Prop) (e : TypeId) (size : Nat) (w : World) (base : Nat) (v : Value) (ps : List α) : Prop :=
  ∃ inner, w.ownsRow base e size v ps.length inner ∧ Reps R size ps inner
section
variable {α : Type} {R R' : α → List Value → Prop} {e : TypeId} {size : Nat} {w w1 : World} {base : Nat} {v : Value} {ps : List α}
theorem OwnRow.none_ (R : α → List Value → Prop) (e : TypeId) (size : Nat) (w : World) (base : Nat) : OwnRow R e size w base (.slice none 0 0) [] := ⟨[], own_nil _ _ _ _, Reps.none _ _⟩
theorem OwnRow.imp_ (h : OwnRow R e size w base v ps) (hR : ∀ p c, R p c → R' p c) : OwnRow R' e size w base v ps := by
  obtain ⟨inner, ho, hr⟩ := h
  exact ⟨inner, ho, hr.imp_ hR⟩
theorem OwnRow.below (h : OwnRow R e size w base v ps) (hb : Below w.heap.size w w1) : OwnRow R e size w1 base v ps := by
  obtain ⟨inner, ho, hr⟩ := h
  exact ⟨inner, pw_own_below ho hb, hr⟩
theorem OwnRow.other (h : OwnRow R e size w base v ps) {row : Option Nat} (hg : w.grownBy w1 row) (hne : v.ownBlock = none ∨ v.ownBlock ≠ row) : OwnRow R e size w1 base v ps := by
  obtain ⟨inner, ho, hr⟩ := h
  exact ⟨inner, own_other ho hg hne, hr⟩
theorem OwnRow.keep (h : OwnRow R e size w base v ps) {g : Nat} {t : TypeId} {cells : Array Value} (hb : w.heap[g]? = some (.cells cells t (0, 0))) (ht : e ≠ t) (hk : KeepBut w w1 g none) : OwnRow R e size w1 base v ps := by
  obtain ⟨inner, ho, hr⟩ := h
  exact ⟨inner, hk.own ho (Ne.symm (own_ne ho hb ht)) (by cases v.ownBlock <;> simp), hr⟩
theorem OwnRow.reads (h : OwnRow R e size w base v ps) : ∃ A c, v = .slice A ps.length c ∧ ps.length ≤ c ∧ ReadsRow R size w A ps.length ps := by
  obtain ⟨inner, ho, hr⟩ := h
  obtain ⟨A, c, rfl, hrow⟩ := own_reads_row ho hr rfl
  exact ⟨A, c, rfl, own_le ho, hrow⟩
theorem OwnRow.lit (W : World) (base : Nat) {inner : List Value} (hr : Reps R size ps inner) (hb : base ≤ W.heap.size) (hm : ps.length ≤ 9223372036854775807) :
    OwnRow R e size (W.alloc (.cells inner.toArray e)) base (.slice (some ⟨W.heap.size, 0, none⟩) ps.length ps.length) ps := by
  have h := World.ownsRow_lit (base := base) (e := e) (size := size) W inner.toArray ps.length hb (by simpa [maxLen] using hm) (by simpa using hr.1)
  exact ⟨inner, by simpa using h, hr⟩
end
section
variable {P : Program} {ops : Array Oper} {rest : List Oper} {o : Oper} {a : Act} {Q : Exit → Act → World → Prop} {α : Type} {R : α → List Value → Prop}
theorem OwnRow.append {w0 W : World} (base : Nat) (hgd : o.guard = none) (s x : Operand) (t e : TypeId) (z : Value) (size bytes : Nat)
    (ho : o.op = .call { callee := .builtin .append, args := #[s, x], argTypes := #[t, t] })
    (ht : P.underlying t = some (.slice e)) (hinfo : (P.info? e).map (fun i => (i.zero, i.size, i.bytes)) = some (some z, size, bytes)) (hz : z.cells.size = size) (hs0 : 0 < size) (hb0 : 0 < bytes)
    (v : Value) (ps : List α) (p : α) (cs : List Value) (hs : a.eval s = v) (hx : a.eval x = .slice (some ⟨W.heap.size, 0, none⟩) 1 1) (hp : R p cs) (hcs : cs.length = size) (h1 : ∀ u ∈ cs, u.oneCell' = true)
    (HO : OwnRow R e size W base v ps) (HB : Below base w0 W) (hbase : base ≤ W.heap.size) (hl : (ps.length + 1) * bytes ≤ 140737488355328)
    (h : ∀ v1 w1, OwnRow R e size w1 base v1 (ps ++ [p]) → Below base w0 w1 → W.grownBy w1 v.ownBlock → (v1.ownBlock = v.ownBlock ∨ ∃ b, v1.ownBlock = some b ∧ W.heap.size ≤ b) → wpList P ops Q rest (a.put o.dst v1) w1) :
    wpList P ops Q (o :: rest) a (W.alloc (.cells cs.toArray e)) := by
  obtain ⟨inner, hown, hr⟩ := HO
  refine print_append_cells base hgd s x t e z size bytes ho ht hinfo hz hs0 hb0 v ps.length inner cs hs hx hcs h1 hown HB hbase hl ?_
  intro v1 w1 hown1 hb1 hg1 hat1
  exact h v1 w1 ⟨inner ++ cs, by rw [List.length_append, List.length_singleton]; exact hown1, hr.snoc hp hcs⟩ hb1 hg1 hat1
end
section
variable {P : Program} {ops : Array Oper} {o : Oper} {a : Act} {Q : Exit → Act → World → Prop} {K : Act → World → Prop} {α : Type} {R : α → List Value → Prop}
end
section
variable {α : Type} {P : Program}
theorem ReadsOf.len_ {enc : α → Value} {d : α} {w : World} {A : Option Addr} {n : Nat} {xs : List α} (h : ReadsOf enc d w A n xs) : ReadsOf enc d w A xs.length xs := by rw [h.1]; exact h
end
section
variable {P : Program} {ops : Array Oper} {rest : List Oper} {o : Oper} {a : Act} {Q : Exit → Act → World → Prop}
end
structure Kd (α : Type) where
  sz : Nat
  E : List Nat
  K : World → α → List Value → Prop
  M : World → Nat → (Nat → Prop) → α → List Value → Prop
  K_len : ∀ {w x cs}, K w x cs → cs.length = sz
  K_one : ∀ {w x cs}, K w x cs → ∀ u ∈ cs, u.oneCell' = true
  K_below : ∀ {w w1 : World} {x cs}, Below w.heap.size w w1 → K w x cs → K w1 x cs
  K_of_M : ∀ {w base ok x cs}, M w base ok x cs → K w x cs
  M_mono : ∀ {w base ok ok' x cs}, (∀ k, ok k → ok' k) → M w base ok x cs → M w base ok' x cs
  M_bound : ∀ {w : World} {base ok x cs}, M w base ok x cs → M w base (fun k => ok k ∧ base ≤ k ∧ k < w.heap.size ∧ ∃ q, q ∈ E ∧ ∃ cells, w.heap[k]? = some (.cells cells q (0, 0))) x cs
  M_move : ∀ {w w1 : World} {base ok x cs}, (∀ k, ok k → w1.heap[k]? = w.heap[k]?) → M w base ok x cs → M w1 base ok x cs
  M_lower : ∀ {w base base' ok x cs}, base' ≤ base → M w base ok x cs → M w base' ok x cs
theorem own_move {w w1 : World} {base : Nat} {e : TypeId} {size n : Nat} {v : Value} {xs : List Value} (h : w.ownsRow base e size v n xs) (hm : ∀ k, v.ownBlock = some k → w1.heap[k]? = w.heap[k]?) : w1.ownsRow base e size v n xs := by
  obtain ⟨h1, h2⟩ := h
  refine ⟨h1, ?_⟩
  rcases h2 with h2 | ⟨g, cap, cur, rfl, hg, hh, r⟩
  · exact .inl h2
  · exact .inr ⟨g, cap, cur, rfl, hg, (hm g (by simp [Value.ownBlock])).trans hh, r⟩
theorem own_typed {w : World} {base : Nat} {e : TypeId} {size n : Nat} {v : Value} {xs : List Value} (h : w.ownsRow base e size v n xs) (k : Nat) (hk : v.ownBlock = some k) : ∃ cells, w.heap[k]? = some (.cells cells e (0, 0)) := by
  rcases h.2 with ⟨rfl, _⟩ | ⟨g, cap, cur, rfl, hg, hh, r⟩
  · simp [Value.ownBlock] at hk
  · have : g = k := by simpa [Value.ownBlock] using hk
    subst this
    exact ⟨cur, hh⟩
namespace Kd
def C {α : Type} (d : Kd α) (w : World) (A : Option Addr) (n : Nat) (xs : List α) : Prop := ReadsRow (d.K w) d.sz w A n xs
def R {α : Type} (d : Kd α) (e : Nat) (w : World) (base : Nat) (ok : Nat → Prop) (v : Value) (xs : List α) : Prop :=
  (∀ k, v.ownBlock = some k → ok k) ∧ OwnRow (d.M w base (fun k => ok k ∧ some k ≠ v.ownBlock)) e d.sz w base v xs
section
variable {α : Type} {d : Kd α} {e : Nat} {w w1 : World} {base : Nat} {ok ok' : Nat → Prop} {v : Value} {xs : List α}
theorem C_below {A : Option Addr} {n : Nat} (h : d.C w A n xs) (hb : Below w.heap.size w w1) : d.C w1 A n xs := ReadsRow.imp_ h hb (fun _ _ hp => d.K_below hb hp)
theorem R_nil (d : Kd α) (e : Nat) (w : World) (base : Nat) (ok : Nat → Prop) : d.R e w base ok (.slice none 0 0) [] := ⟨fun k hk => by simp [Value.ownBlock] at hk, OwnRow.none_ _ _ _ _ _⟩
theorem R_mono (h : d.R e w base ok v xs) (hok : ∀ k, ok k → ok' k) : d.R e w base ok' v xs := ⟨fun k hk => hok k (h.1 k hk), h.2.imp_ (fun _ _ hp => d.M_mono (fun k hk => ⟨hok k hk.1, hk.2⟩) hp)⟩
theorem R_bound (h : d.R e w base ok v xs) : d.R e w base (fun k => ok k ∧ base ≤ k ∧ k < w.heap.size ∧ ∃ q, q ∈ e :: d.E ∧ ∃ cells, w.heap[k]? = some (.cells cells q (0, 0))) v xs := by
  obtain ⟨h0, inner, ho, hr⟩ := h
  refine ⟨fun k hk => ?_, inner, ho, hr.imp_ (fun _ _ hp => d.M_mono (fun k hk => ?_) (d.M_bound hp))⟩
  · obtain ⟨cells, hc⟩ := own_typed ho k hk
    exact ⟨h0 k hk, own_base ho k hk, own_lt ho k hk, e, List.mem_cons_self, cells, hc⟩
  · obtain ⟨⟨h1, h2⟩, h3, h4, q, hq, hc⟩ := hk
    exact ⟨⟨h1, h3, h4, q, List.mem_cons_of_mem _ hq, hc⟩, h2⟩
theorem R_move (h : d.R e w base ok v xs) (hm : ∀ k, ok k → w1.heap[k]? = w.heap[k]?) : d.R e w1 base ok v xs := by
  obtain ⟨h0, inner, ho, hr⟩ := h
  exact ⟨h0, inner, own_move ho (fun k hk => hm k (h0 k hk)), hr.imp_ (fun _ _ hp => d.M_move (fun k hk => hm k hk.1) hp)⟩
theorem R_lower {base' : Nat} (h : d.R e w base ok v xs) (hb : base' ≤ base) : d.R e w base' ok v xs := by
  obtain ⟨h0, inner, ho, hr⟩ := h
  exact ⟨h0, inner, own_weaken ho hb, hr.imp_ (fun _ _ hp => d.M_lower hb hp)⟩
theorem R_step (h : d.R e w base ok v xs) (hm : ∀ k, ok k → k < w.heap.size → w1.heap[k]? = w.heap[k]?) : d.R e w1 base ok v xs :=
  R_mono (R_move (R_bound h) (fun k hk => hm k hk.1 hk.2.2.1)) (fun _ hk => hk.1)
theorem R_below (h : d.R e w base ok v xs) (hb : Below w.heap.size w w1) : d.R e w1 base ok v xs := R_step h (fun k _ hk => hb.block k hk)
theorem R_reads (h : d.R e w base ok v xs) : ∃ A c, v = .slice A xs.length c ∧ xs.length ≤ c ∧ d.C w A xs.length xs := by
  obtain ⟨A, c, he, hl, hr⟩ := OwnRow.reads h.2
  exact ⟨A, c, he, hl, hr.imp_ (Below.refl _ _) (fun _ _ hp => d.K_of_M hp)⟩
theorem R_own (h : d.R e w base ok v xs) : ∃ inner, w.ownsRow base e d.sz v xs.length inner := by
  obtain ⟨_, inner, ho, _⟩ := h
  exact ⟨inner, ho⟩
end
def scalar {α : Type} (enc : α → Value) (h1 : ∀ x, (enc x).oneCell' = true) : Kd α where
  sz := 1
  E := []
  K := fun _ x cs => cs = [enc x]
  M := fun _ _ _ x cs => cs = [enc x]
  K_len := fun h => by rw [h]; rfl
  K_one := fun h u hu => by
    rw [h] at hu
    rw [List.mem_singleton.1 hu]
    exact h1 _
  K_below := fun _ h => h
  K_of_M := fun h => h
  M_mono := fun _ h => h
  M_bound := fun h => h
  M_move := fun _ h => h
  M_lower := fun _ h => h
def int (k : IntKind) : Kd Int := scalar (Value.int k) (fun _ => rfl)
def bool : Kd Bool := scalar Value.bool (fun _ => rfl)
def string : Kd ByteArray := scalar Value.string (fun _ => rfl)
def slice {α : Type} (e : Nat) (d : Kd α) : Kd (List α) where
  sz := 1
  E := e :: d.E
  K := fun w xs cs => ∃ A c, cs = [.slice A xs.length c] ∧ xs.length ≤ c ∧ d.C w A xs.length xs
  M := fun w base ok xs cs => ∃ v, cs = [v] ∧ d.R e w base ok v xs
  K_len := by
    rintro w x cs ⟨A, c, rfl, _⟩
    rfl
  K_one := by
    rintro w x cs ⟨A, c, rfl, _⟩ u hu
    rw [List.mem_singleton.1 hu]
    rfl
  K_below := by
    rintro w w1 x cs hb ⟨A, c, rfl, hl, hr⟩
    exact ⟨A, c, rfl, hl, C_below hr hb⟩
  K_of_M := by
    rintro w base ok x cs ⟨v, rfl, h⟩
    obtain ⟨A, c, rfl, hl, hr⟩ := R_reads h
    exact ⟨A, c, rfl, hl, hr⟩
  M_mono := by
    rintro w base ok ok' x cs hok ⟨v, rfl, h⟩
    exact ⟨v, rfl, R_mono h hok⟩
  M_bound := by
    rintro w base ok x cs ⟨v, rfl, h⟩
    exact ⟨v, rfl, R_bound h⟩
  M_move := by
    rintro w w1 base ok x cs hm ⟨v, rfl, h⟩
    exact ⟨v, rfl, R_move h hm⟩
  M_lower := by
    rintro w base base' ok x cs hb ⟨v, rfl, h⟩
    exact ⟨v, rfl, R_lower h hb⟩
def bot {α : Type} (sz : Nat) (E : List Nat) : Kd α where
  sz := sz
  E := E
  K := fun _ _ _ => False
  M := fun _ _ _ _ _ => False
  K_len := fun h => h.elim
  K_one := fun h => h.elim
  K_below := fun _ h => h
  K_of_M := fun h => h
  M_mono := fun _ h => h
  M_bound := fun h => h
  M_move := fun _ h => h
  M_lower := fun _ h => h
def upto {α : Type} (F : Kd α → Kd α) (sz : Nat) (E : List Nat) : Nat → Kd α
  | 0 => bot sz E
  | n + 1 => F (upto F sz E n)
theorem R_appended {α : Type} {d : Kd α} {e base : Nat} {ok okp : Nat → Prop} {W w1 : World} {v v1 : Value} {xs : List α} {p : α} {inner cs : List Value} (h0 : ∀ k, v.ownBlock = some k → ok k) (hr : Reps (d.M W base (fun k => ok k ∧ some k ≠ v.ownBlock)) d.sz xs inner) (hp : d.M W base okp p cs) (hokp : ∀ k, okp k → ok k ∧ some k ≠ v.ownBlock) (hfresh : ∀ k, W.heap.size ≤ k → ok k)
    (hown : w1.ownsRow base e d.sz v1 (xs.length + 1) (inner ++ cs)) (hg : W.grownBy w1 v.ownBlock) (hat : v1.ownBlock = v.ownBlock ∨ ∃ b, v1.ownBlock = some b ∧ W.heap.size ≤ b) : d.R e w1 base ok v1 (xs ++ [p]) := by
  have hne : ∀ k, some k ≠ v.ownBlock → k < W.heap.size → some k ≠ v1.ownBlock := by
    intro k hk hlt
    rcases hat with hat | ⟨b, hb, hle⟩
    · rw [hat]; exact hk
    · rw [hb]
      intro he
      injection he with he
      omega
  have step : ∀ {q : α} {c : List Value} {o : Nat → Prop}, d.M W base o q c → (∀ k, o k → ok k ∧ some k ≠ v.ownBlock) → d.M w1 base (fun k => ok k ∧ some k ≠ v1.ownBlock) q c := by
    intro q c o hq ho
    have h1 := d.M_move (w1 := w1) (fun k hk => hg.block k hk.2.2.1 (ho k hk.1).2) (d.M_bound hq)
    exact d.M_mono (fun k hk => ⟨(ho k hk.1).1, hne k (ho k hk.1).2 hk.2.2.1⟩) h1
  refine ⟨fun k hk => ?_, inner ++ cs, by rw [List.length_append, List.length_singleton]; exact hown, ?_⟩
  · rcases hat with hat | ⟨b, hb, hle⟩
    · exact h0 k (hat ▸ hk)
    · rw [hb] at hk
      injection hk with hk
      exact hfresh k (by omega)
  · exact (hr.imp_ (fun _ _ hq => step hq (fun _ hk => hk))).snoc (step hp hokp) (d.K_len (d.K_of_M hp))
section
variable {P : Program} {ops : Array Oper} {rest : List Oper} {o : Oper} {a : Act} {Q : Exit → Act → World → Prop} {α : Type}
theorem R_append (d : Kd α) {w0 W : World} (base : Nat) (hgd : o.guard = none) (s x : Operand) (t e : TypeId) (z : Value) (bytes : Nat)
    (ho : o.op = .call { callee := .builtin .append, args := #[s, x], argTypes := #[t, t] })
    (ht : P.underlying t = some (.slice e)) (hinfo : (P.info? e).map (fun i => (i.zero, i.size, i.bytes)) = some (some z, d.sz, bytes)) (hz : z.cells.size = d.sz) (hs0 : 0 < d.sz) (hb0 : 0 < bytes)
    (v : Value) (xs : List α) (p : α) (cs : List Value) (ok okp : Nat → Prop) (hs : a.eval s = v) (hx : a.eval x = .slice (some ⟨W.heap.size, 0, none⟩) 1 1) (hp : d.M W base okp p cs) (hokp : ∀ k, okp k → ok k ∧ some k ≠ v.ownBlock) (hfresh : ∀ k, W.heap.size ≤ k → ok k)
    (HO : d.R e W base ok v xs) (HB : Below base w0 W) (hbase : base ≤ W.heap.size) (hl : (xs.length + 1) * bytes ≤ 140737488355328)
    (h : ∀ v1 w1, d.R e w1 base ok v1 (xs ++ [p]) → Below base w0 w1 → W.grownBy w1 v.ownBlock → (v1.ownBlock = v.ownBlock ∨ ∃ b, v1.ownBlock = some b ∧ W.heap.size ≤ b) → wpList P ops Q rest (a.put o.dst v1) w1) :
    wpList P ops Q (o :: rest) a (W.alloc (.cells cs.toArray e)) := by
  obtain ⟨h0, inner, hown, hr⟩ := HO
  refine print_append_cells base hgd s x t e z d.sz bytes ho ht hinfo hz hs0 hb0 v xs.length inner cs hs hx (d.K_len (d.K_of_M hp)) (d.K_one (d.K_of_M hp)) hown HB hbase hl ?_
  intro v1 w1 hown1 hb1 hg1 hat1
  exact h v1 w1 (R_appended h0 hr hp hokp hfresh hown1 hg1 hat1) hb1 hg1 hat1
end
section
variable {P : Program} {ops : Array Oper} {o : Oper} {a : Act} {Q : Exit → Act → World → Prop} {Kc : Act → World → Prop} {α : Type}
end
theorem reads_of_C {α : Type} {enc : α → Value} {d : α} {h1 : ∀ x, (enc x).oneCell' = true} {w : World} {A : Option Addr} {n : Nat} {xs : List α} (h : (scalar enc h1).C w A n xs) : ReadsOf enc d w A n xs := by
  refine ⟨h.1, h.2.1, fun hn => ?_⟩
  obtain ⟨ad, e, hc⟩ := h.2.2 hn
  refine ⟨ad, e, fun j hj => ?_⟩
  have hl : j < xs.length := by have := h.1; omega
  obtain ⟨c, _, hK, hcell⟩ := hc j _ (List.getElem?_eq_getElem hl)
  have hK' : c = [enc xs[j]] := hK
  subst hK'
  have := hcell 0 _ rfl
  simpa [scalar, List.getD_eq_getElem?_getD, List.getElem?_eq_getElem hl] using this
end Kd
namespace Kd
def Sub {α β : Type} (F : Kd α → Kd β) (E : List Nat) : Prop := ∀ d : Kd α, (∀ q, q ∈ d.E → q ∈ E) → ∀ q, q ∈ (F d).E → q ∈ E
section
variable {α : Type} {F : Kd α → Kd α} {sz : Nat} {E : List Nat} {hs : ∀ n, (upto F sz E n).sz = sz} {hE : ∀ n q, q ∈ (upto F sz E n).E → q ∈ E}
end
end Kd
namespace Kd
end Kd
namespace Kd
section
variable {α β : Type} {d : Kd α} {d' : Kd β} {e e' : Nat} {w w1 W : World} {base b b' : Nat} {ok ok' okv oku : Nat → Prop} {v u : Value} {xs : List α} {ys : List β}
theorem R_alloc (h : d.R e w base ok v xs) (o : Obj) : d.R e (w.alloc o) base ok v xs := R_below h (below_alloc (Below.refl _ _) o)
end
section
variable {w W : World} {A : Option Addr} {n : Nat}
theorem at_string {xs : List ByteArray} (h : Kd.string.C w A n xs) (i : Int) (h0 : 0 ≤ i) (h1 : i < n) : ∃ ad, A = some ad ∧ w.cell? (ad.add i.toNat) = some (.string (rdOf ByteArray.empty xs i)) :=
  ReadsOf.at_ (reads_of_C (enc := Value.string) (d := ByteArray.empty) (h1 := fun _ => rfl) h) i h0 h1
variable {α : Type} {enc : α → Value} {h1 : ∀ x, (enc x).oneCell' = true} {e base g cap : Nat} {ok : Nat → Prop} {xs : List α}
end
section
variable {P : Program} {ops : Array Oper} {rest : List Oper} {o : Oper} {a : Act} {Q : Exit → Act → World → Prop}
variable {α : Type}
end
end Kd
section
variable {P : Program}
end
def QRow (w : World) (base : Nat) (e : TypeId) (size : Nat) (v : Value) (n : Nat) (xs : List Value) : Prop :=
  xs.length = n * size ∧
  ((n = 0 ∧ ∃ A, v = .slice A 0 0 ∧ ∀ a, A = some a → base ≤ a.block ∧ ∃ cur, w.heap[a.block]? = some (.cells cur e (0, 0))) ∨
   ∃ g off cap cur, v = .slice (some ⟨g, off * size, none⟩) n cap ∧ base ≤ g ∧ w.heap[g]? = some (.cells cur e (0, 0)) ∧ n ≤ cap ∧ off + cap ≤ maxLen ∧ cur.size = (off + cap) * size ∧ (cur.toList.drop (off * size)).take (n * size) = xs)
section
variable {w w1 : World} {base n size : Nat} {e : TypeId} {v : Value} {xs : List Value}
theorem add_at (g o j : Nat) : (⟨g, o, none⟩ : Addr).add j = ⟨g, o + j, none⟩ := by unfold Addr.add; split <;> simp_all
end
section
variable {P : Program}
end
namespace Kd
def Q {α : Type} (d : Kd α) (e : Nat) (w : World) (base : Nat) (ok : Nat → Prop) (v : Value) (xs : List α) : Prop :=
  (∀ k, v.ownBlock = some k → ok k) ∧ ∃ inner, QRow w base e d.sz v xs.length inner ∧ Reps (d.M w base (fun k => ok k ∧ some k ≠ v.ownBlock)) d.sz xs inner
section
variable {α : Type} {d : Kd α} {e : Nat} {w w1 W : World} {base : Nat} {ok ok' : Nat → Prop} {v : Value} {xs : List α}
end
section
variable {P : Program} {ops : Array Oper} {rest : List Oper} {o : Oper} {a : Act} {Q' : Exit → Act → World → Prop} {Kc : Act → World → Prop} {α : Type}
end
end Kd
namespace Kd
section
variable {α : Type} {d : Kd α} {e e' : Nat} {w w1 W : World} {base : Nat} {ok : Nat → Prop} {u v : Value} {xs : List α}
end
end Kd
namespace Kd
section
variable {α : Type} {d : Kd α} {e base g n cap : Nat} {ok okp : Nat → Prop} {W : World} {xs : List α}
end
end Kd
namespace Kd
section
variable {α : Type} {F : Kd α → Kd α} {sz : Nat} {E : List Nat} {hs : ∀ n, (upto F sz E n).sz = sz} {hE : ∀ n q, q ∈ (upto F sz E n).E → q ∈ E}
end
end Kd
namespace Kd
section
variable {P : Program} {ops : Array Oper} {rest : List Oper} {o : Oper} {a : Act} {Q : Exit → Act → World → Prop} {α : Type}
end
end Kd
namespace Kd
section
variable {P : Program} {ops : Array Oper} {rest : List Oper} {o : Oper} {a : Act} {Q : Exit → Act → World → Prop} {α : Type}
end
end Kd
theorem add_add (a : Addr) (i j : Nat) : (a.add i).add j = a.add (i + j) := by
  unfold Addr.add
  by_cases h1 : i = 0 <;> by_cases h2 : j = 0 <;> simp [h1, h2, Nat.add_assoc]
namespace Kd
section
variable {α : Type} {k : Kd α} {w : World} {A : Option Addr} {xs : List α} {m c : Nat}
end
end Kd
section
variable {P : Program}
end
theorem ReadsInt.nil (W : World) (k : IntKind) : ReadsInt W k none ([] : List Int).length [] := ⟨rfl, by simp, fun h => absurd h (Nat.lt_irrefl 0)⟩
theorem ReadsInt.drewN {W : World} {k : IntKind} {A : Option Addr} {n : Nat} {xs : List Int} (h : ReadsInt W k A n xs) (m : Nat) : ReadsInt (W.drewN m) k A n xs := h
theorem keep_cell {w W : World} {g : Nat} (h : KeepBut w W g none) {a : Addr} {v : Value} (hc : w.cell? a = some v) (hne : a.block ≠ g) : W.cell? a = some v := by
  have := h.2 a.block (World.block_lt_of_cell? w a hc) hne (by simp)
  simpa [World.cell?, this] using hc
theorem add_block (a : Addr) (i : Nat) : (a.add i).block = a.block := by unfold Addr.add; split <;> rfl
theorem below_weaken {w0 w w1 : World} {B : Nat} (h : Below w0.heap.size w0 w) (hB : w0.heap.size ≤ B) (k : Below B w w1) : Below w0.heap.size w0 w1 :=
  h.trans ⟨k.os, k.tape, k.output, k.size, fun i hi => k.block i (Nat.lt_of_lt_of_le hi hB)⟩
theorem ReadsOf.nil {α : Type} (enc : α → Value) (d : α) (W : World) : ReadsOf enc d W none ([] : List α).length [] := ⟨rfl, by simp, fun h => absurd h (Nat.lt_irrefl 0)⟩
theorem ReadsOf.drewN {α : Type} {enc : α → Value} {d : α} {W : World} {A : Option Addr} {n : Nat} {xs : List α} (h : ReadsOf enc d W A n xs) (m : Nat) : ReadsOf enc d (W.drewN m) A n xs := h
theorem ReadsInt.keep {w W : World} {k : IntKind} {A : Option Addr} {n g : Nat} {xs : List Int} (h : ReadsInt w k A n xs) (hk : KeepBut w W g none) (hf : ∀ ad, A = some ad → 0 < n → ad.block ≠ g) : ReadsInt W k A n xs :=
  ⟨h.1, h.2.1, fun hn => by
    obtain ⟨ad, e, hc⟩ := h.2.2 hn
    exact ⟨ad, e, fun j hj => keep_cell hk (hc j hj) (by rw [add_block]; exact hf ad e hn)⟩⟩
theorem ReadsOf.keep {α : Type} {enc : α → Value} {d : α} {w W : World} {A : Option Addr} {n g : Nat} {xs : List α} (h : ReadsOf enc d w A n xs) (hk : KeepBut w W g none) (hf : ∀ ad, A = some ad → 0 < n → ad.block ≠ g) : ReadsOf enc d W A n xs :=
  ⟨h.1, h.2.1, fun hn => by
    obtain ⟨ad, e, hc⟩ := h.2.2 hn
    exact ⟨ad, e, fun j hj => keep_cell hk (hc j hj) (by rw [add_block]; exact hf ad e hn)⟩⟩
namespace Kd
section
variable {α β : Type} {d : Kd α} {d' : Kd β} {e e' base base' n : Nat} {ok ok' : Nat → Prop} {w W w1 W1 : World} {v u : Value} {xs : List α} {ys : List β} {A : Option Addr} {c : Nat}
end
section
variable {α : Type} {enc : α → Value} {h1 : ∀ x, (enc x).oneCell' = true} {w W : World} {A : Option Addr} {n g : Nat} {xs : List α}
end
end Kd
namespace Kd
section
variable {α : Type} {d : Kd α} {e base g : Nat} {ok : Nat → Prop} {w w1 : World} {v : Value} {xs : List α} {o : Obj}
end
end Kd
section
variable {P : Program} {ops : Array Oper} {rest : List Oper} {o : Oper} {a : Act} {Q : Exit → Act → World → Prop}
end
namespace Kd
section
variable {α : Type} {enc : α → Value} {h1 : ∀ x, (enc x).oneCell' = true} {e base g n cap : Nat} {ok : Nat → Prop} {W : World} {xs : List α}
end
end Kd
section
variable {P : Program} {ops : Array Oper} {rest : List Oper} {o : Oper} {a : Act} {Q : Exit → Act → World → Prop}
end
namespace Kd
section
variable {α : Type} {enc : α → Value} {h1 : ∀ x, (enc x).oneCell' = true} {e base g n cap : Nat} {ok : Nat → Prop} {W : World} {xs : List α}
end
end Kd
section
variable {P : Program} {ops : Array Oper} {rest : List Oper} {o : Oper} {a : Act} {Q : Exit → Act → World → Prop} {W : World}
end
section
variable {P : Program} {ops : Array Oper} {o : Oper} {a : Act} {Q : Exit → Act → World → Prop} {Kc : Act → World → Prop}
namespace Kd
variable {α : Type}
end Kd
end
section
variable {P : Program} {tmps : Array Value} {w : World}
end
namespace Kd
section
variable {P : Program} {α : Type}
end
section
variable {P : Program} {ops : Array Oper} {rest : List Oper} {o : Oper} {a : Act} {Q : Exit → Act → World → Prop} {Kc : Act → World → Prop} {α : Type}
end
end Kd
end Go.Proofs.YtlepjafokfhnfaaGreatDoorW.PrintWords
end
section
-- PRINTED BY print.sh 35421559b90ae4d0a3588c463048766b98c2df88dd9212a6774a882060cdf62d: not written by this session
-- PRINTED WORDS (module Derived/Print/More.lean): go-gate-2's additions: an AI agent of Go's test side, Tue Nov 17 2026; no person has read it. Lean checks it.
namespace Go.Proofs.YtlepjafokfhnfaaGreatDoorW.PrintMore
open Go.RowKit Go.Proofs.YtlepjafokfhnfaaGreatDoorW.PrintWords
namespace Kd
open Go.Proofs.YtlepjafokfhnfaaGreatDoorW.PrintWords.Kd
end Kd
namespace Kd
open Go.Proofs.YtlepjafokfhnfaaGreatDoorW.PrintWords.Kd
section
variable {α : Type} {d : Kd α} {e base g N : Nat} {ok : Nat → Prop} {W w1 : World} {u v : Value} {xs : List α}
end
end Kd
end Go.Proofs.YtlepjafokfhnfaaGreatDoorW.PrintMore
namespace Go.Proofs.YtlepjafokfhnfaaGreatDoorW.PrintWords
open Go.RowKit
section
variable {P : Program} {ops : Array Oper} {rest : List Oper} {o : Oper} {a : Act} {Q : Exit → Act → World → Prop} {W : World}
theorem gate_builtin {b : Builtin} {xs : Array Operand} {ts : Array TypeId} (_ho : o.op = .call { callee := .builtin b, args := xs, argTypes := ts }) (h : wpList P ops Q (o :: rest) a W) : wpList P ops Q (o :: rest) a W := h
end
def mx (a b : Int) : Int := if a < b then b else a
def mn (a b : Int) : Int := if b < a then b else a
namespace Kd
section
variable {α : Type} {d : Kd α} {e base : Nat} {ok : Nat → Prop} {W w1 : World} {v : Value} {xs : List α}
end
section
variable {α : Type} {d : Kd α} {e base g n cap : Nat} {ok oki okp : Nat → Prop} {W : World} {xs : List α} {i : Int} {c : List Value}
end
section
variable {α : Type} {d : Kd α} {e base b b' g N : Nat} {ok ok1 : Nat → Prop} {W W2 w1 : World} {u v : Value} {xs ys : List α} {S : Nat → Prop}
end
end Kd
end Go.Proofs.YtlepjafokfhnfaaGreatDoorW.PrintWords
namespace Go.Proofs.YtlepjafokfhnfaaGreatDoorW.PrintWords
open Go.RowKit
namespace Kd
section
variable {α β : Type} {d : Kd α} {e base base' n m c g N' lo hi : Nat} {ok ok' S : Nat → Prop} {w W w1 : World} {A : Option Addr} {ad : Addr} {u v v1 : Value} {xs : List α}
end
end Kd
end Go.Proofs.YtlepjafokfhnfaaGreatDoorW.PrintWords
end
section
set_option linter.unusedVariables false
namespace Go.Proofs.YtlepjafokfhnfaaGreatDoor
end Go.Proofs.YtlepjafokfhnfaaGreatDoor
namespace Go.Proofs.YtlepjafokfhnfaaGreatDoor.Wd
open Go.Shelf
def ren26 : Ren := ⟨fun | 26 => 85 | 33 => 107 | 34 => 108 | 38 => 117 | n => n, fun | 24 => 22 | 40 => 157 | n => n, fun | n => n⟩
theorem lays26 : Go.Proofs.Lays2.n26 Tryz.prog ren26 := {
  mixed := by kernel_rfl
  f26 := Tryz.func85.trans (congrArg some (by kernel_rfl))
  f33 := Tryz.func107.trans (congrArg some (by kernel_rfl))
  f34 := Tryz.func108.trans (congrArg some (by kernel_rfl))
  f38 := Tryz.func117.trans (congrArg some (by kernel_rfl))
  t0 := Tryz.underlying0
  a0 := Tryz.isAgg0
  z0 := Tryz.sizeOf0
  v0 := Tryz.zeroValue0
  t3 := Tryz.underlying3
  a3 := Tryz.isAgg3
  z3 := Tryz.sizeOf3
  v3 := Tryz.zeroValue3
  t4 := Tryz.underlying4
  a4 := Tryz.isAgg4
  z4 := Tryz.sizeOf4
  v4 := Tryz.zeroValue4
  t9 := Tryz.underlying9
  a9 := Tryz.isAgg9
  z9 := Tryz.sizeOf9
  v9 := Tryz.zeroValue9
  t24 := Tryz.underlying22
  a24 := Tryz.isAgg22
  z24 := Tryz.sizeOf22
  v24 := Tryz.zeroValue22
  t40 := Tryz.underlying157
  a40 := Tryz.isAgg157
  z40 := Tryz.sizeOf157
  v40 := Tryz.zeroValue157 }
end Go.Proofs.YtlepjafokfhnfaaGreatDoor.Wd
end
section
set_option linter.unusedVariables false
set_option linter.unusedSimpArgs false
namespace Go.Proofs.YtlepjafokfhnfaaGreatDoor.Wd
open Go.RowKit Go.Proofs.YtlepjafokfhnfaaGreatDoorW.PrintWords Go.Proofs.YtlepjafokfhnfaaGreatDoorW.PrintLast Go.Proofs.YtlepjafokfhnfaaGreatDoorW.PrintMore
def Tab (w : World) : Prop := Lib.TabIs Tryz.prog w "strings.asciiSpace" .u8 Lib.asciiSpaceTab
theorem tab_below {w w' : World} (h : Tab w) (hb : Below w.heap.size w w') : Tab w' := by
  unfold Tab Lib.TabIs World.var? at h ⊢
  generalize hgn : Tryz.prog.globalNamed "strings.asciiSpace" = G at h ⊢
  cases G with
  | none => simp at h
  | some q =>
    simp only [Option.bind_some] at h ⊢
    have hlt : q < w.heap.size := by
      rcases Nat.lt_or_ge q w.heap.size with h' | h'
      · exact h'
      · simp [Array.getElem?_eq_none h'] at h
    rw [hb.block q hlt]
    exact h
def pasS : ByteArray := ⟨#[97, 110, 100, 32, 97, 114, 114, 97, 121, 32, 98, 101, 103, 105, 110, 32, 98, 111, 111, 108, 101, 97, 110, 32, 99, 104, 97, 114, 32, 100, 105, 118, 32, 100, 111, 32, 100, 111, 119, 110, 116, 111, 32, 101, 108, 115, 101, 32, 101, 110, 100, 32, 102, 97, 108, 115, 101, 32, 102, 111, 114, 32, 102, 111, 114, 119, 97, 114, 100, 32, 102, 117, 110, 99, 116, 105, 111, 110, 32, 105, 102, 32, 105, 110, 116, 101, 103, 101, 114, 32, 109, 111, 100, 32, 110, 111, 116, 32, 111, 102, 32, 111, 114, 32, 112, 114, 111, 99, 101, 100, 117, 114, 101, 32, 112, 114, 111, 103, 114, 97, 109, 32, 114, 101, 97, 100, 32, 114, 101, 99, 111, 114, 100, 32, 114, 101, 112, 101, 97, 116, 32, 114, 101, 116, 117, 114, 110, 32, 116, 104, 101, 110, 32, 116, 111, 32, 116, 114, 117, 101, 32, 116, 121, 112, 101, 32, 117, 110, 116, 105, 108, 32, 118, 97, 114, 32, 119, 104, 105, 108, 101, 32, 119, 114, 105, 116, 101]⟩
def ceeS : ByteArray := ⟨#[98, 111, 111, 108, 32, 99, 104, 97, 114, 32, 100, 111, 32, 100, 111, 119, 110, 116, 111, 32, 101, 108, 115, 101, 32, 102, 97, 108, 115, 101, 32, 102, 111, 114, 32, 103, 101, 116, 32, 105, 102, 32, 105, 110, 116, 32, 109, 97, 105, 110, 32, 112, 114, 111, 103, 114, 97, 109, 32, 112, 117, 116, 32, 114, 101, 116, 117, 114, 110, 32, 115, 116, 114, 117, 99, 116, 32, 116, 111, 32, 116, 114, 117, 101, 32, 117, 110, 116, 105, 108, 32, 117, 112, 32, 118, 111, 105, 100, 32, 119, 104, 105, 108, 101]⟩
def lst (d : Int) : List ByteArray := if d = 0 then (Lib.fields pasS.data.toList).map (fun l => (⟨l.toArray⟩ : ByteArray)) else if d = 1 then (Lib.fields ceeS.data.toList).map (fun l => (⟨l.toArray⟩ : ByteArray)) else []
theorem lst_pas : (Lib.fields pasS.data.toList).map (fun l => (⟨l.toArray⟩ : ByteArray)) = lst 0 := by kernel_rfl
theorem lst_cee : (Lib.fields ceeS.data.toList).map (fun l => (⟨l.toArray⟩ : ByteArray)) = lst 1 := by kernel_rfl
theorem asciiP : ∀ (j : Nat) b, pasS.data.toList[j]? = some b → b.toNat < 128 := by
  have : (pasS.data.toList.all fun b => decide (b.toNat < 128)) = true := by kernel_rfl
  exact fun j b h => of_decide_eq_true (List.all_eq_true.1 this b (List.mem_of_getElem? h))
theorem asciiC : ∀ (j : Nat) b, ceeS.data.toList[j]? = some b → b.toNat < 128 := by
  have : (ceeS.data.toList.all fun b => decide (b.toNat < 128)) = true := by kernel_rfl
  exact fun j b h => of_decide_eq_true (List.all_eq_true.1 this b (List.mem_of_getElem? h))
def AllTo (d : Int) (w : World) (e : Ending) (w' : World) : Prop := ∃ r, e = .returned r ∧ Kd.string.R 9 w' w.heap.size (fun _ => True) r (lst d) ∧ Below w.heap.size w w'
theorem R_fields (w : World) (xs : List ByteArray) (hl : xs.length ≤ 1000) : Kd.string.R 9 (w.alloc (.cells (xs.map Value.string).toArray 9)) w.heap.size (fun _ => True) (.slice (some ⟨w.heap.size, 0, none⟩) xs.length xs.length) xs := by
  have hown := World.ownsRow_lit (base := w.heap.size) (e := 9) (size := 1) w (xs.map Value.string).toArray xs.length (Nat.le_refl _) (by simp [maxLen]; omega) (by simp)
  refine ⟨fun _ _ => trivial, xs.map Value.string, hown, ?_⟩
  refine ⟨by simp [Kd.string, Kd.scalar], fun j p hj => ?_⟩
  show ((xs.map Value.string).drop (j * 1)).take 1 = [.string p]
  obtain ⟨hjl, hp⟩ := List.getElem?_eq_some_iff.1 hj
  rw [Nat.mul_one, List.drop_eq_getElem_cons (by simpa using hjl)]
  simp [hp]
theorem fields_to (s : ByteArray) (d : Int) (w : World) (hs : s.size < 4294967281) (ha : ∀ (j : Nat) b, s.data.toList[j]? = some b → b.toNat < 128) (ht : Tab w) (hl : (Lib.fields s.data.toList).map (fun l => (⟨l.toArray⟩ : ByteArray)) = lst d) (hn : (lst d).length ≤ 1000) :
    Calls Tryz.prog 84 #[.string s] w (AllTo d w) := by
  refine (Tryz.strings_Fields s w hs ha ht).mono ?_
  rintro e w' ⟨he, hw⟩
  have h1 : (Lib.fields s.data.toList).map (fun l => Value.string ⟨l.toArray⟩) = (lst d).map Value.string := by rw [← hl, List.map_map]; rfl
  have h2 : (Lib.fields s.data.toList).length = (lst d).length := by rw [← hl, List.length_map]
  rw [h1] at hw
  rw [h2] at he
  subst hw
  exact ⟨_, he, R_fields w (lst d) hn, below_alloc (Below.refl _ _) _⟩
set_option maxHeartbeats 4000000 in
set_option maxRecDepth 100000 in
theorem all_any (d : Int) (w : World) (ht : Tab w) : Calls Tryz.prog 51 #[.int .i64 d] w (AllTo d w) := by
  have HT := Lib.hid ht
  clear ht
  by_cases h0 : d = 0
  · subst h0
    go_enter Tryz.func51, Tryz.ntmps51
    go_wp2_with (first | (go_at_call 84; go_must (refine (fields_to pasS 0 w (by decide) asciiP HT.out lst_pas (by decide)).mono ?_)))
    rintro e w1 ⟨r, rfl, hR, hb⟩
    have HR := Lib.hid hR
    have HB := Lib.hid hb
    clear hR hb
    go_wp2
    go_ret
    exact ⟨_, rfl, HR.out, HB.out⟩
  · by_cases h1 : d = 1
    · subst h1
      go_enter Tryz.func51, Tryz.ntmps51
      go_wp2_with (first | (go_at_call 84; go_must (refine (fields_to ceeS 1 w (by decide) asciiC HT.out lst_cee (by decide)).mono ?_)))
      rintro e w1 ⟨r, rfl, hR, hb⟩
      have HR := Lib.hid hR
      have HB := Lib.hid hb
      clear hR hb
      go_wp2
      go_ret
      exact ⟨_, rfl, HR.out, HB.out⟩
    · have hl : lst d = [] := by unfold lst; rw [if_neg h0, if_neg h1]
      go_enter Tryz.func51, Tryz.ntmps51
      go_wp2
      go_ret
      rw [AllTo, hl]
      exact ⟨_, rfl, Kd.R_nil _ _ _ _ _, Below.refl _ _⟩
def mem (l : List ByteArray) (x : ByteArray) : Bool := l.any fun y => decide (y = x)
theorem mem_iff (l : List ByteArray) (x : ByteArray) : mem l x = true ↔ x ∈ l := by
  unfold mem
  rw [List.any_eq_true]
  constructor
  · rintro ⟨y, hy, he⟩
    rw [← of_decide_eq_true he]; exact hy
  · intro h
    exact ⟨x, h, decide_eq_true rfl⟩
theorem bytesLess_lt : ∀ (x y : List UInt8), Op.bytesLess x y = decide (x < y)
  | [], [] => by simp [Op.bytesLess]
  | _ :: _, [] => by simp [Op.bytesLess]
  | [], _ :: _ => by simp [Op.bytesLess]
  | a :: x, b :: y => by
    rw [Op.bytesLess, bytesLess_lt x y, Bool.eq_iff_iff]
    simp [List.cons_lt_cons_iff]
abbrev less (a b : ByteArray) : Bool := Op.bytesLess a.toList b.toList
theorem less_irrefl (a : ByteArray) : less a a = false := by
  show Op.bytesLess a.toList a.toList = false
  rw [bytesLess_lt]
  exact decide_eq_false (List.lt_irrefl _)
theorem less_trans {a b c : ByteArray} (h1 : less a b = true) (h2 : less b c = true) : less a c = true := by
  have g1 : Op.bytesLess a.toList b.toList = true := h1
  have g2 : Op.bytesLess b.toList c.toList = true := h2
  show Op.bytesLess a.toList c.toList = true
  rw [bytesLess_lt] at g1 g2 ⊢
  exact decide_eq_true (List.lt_trans (of_decide_eq_true g1) (of_decide_eq_true g2))
def Sx (l : List ByteArray) (x : ByteArray) (t : Nat) : ByteArray := if h : t < l.length then l[t] else x
theorem bs_found (l : List ByteArray) (x : ByteArray) (hs : l.Pairwise (fun a b => less a b = true)) (inst : Decidable (Lib.bsGo (fun t => Op.bytesLess (Sx l x t).toList x.toList) l.length 0 l.length < l.length ∧ Sx l x (Lib.bsGo (fun t => Op.bytesLess (Sx l x t).toList x.toList) l.length 0 l.length) = x)) :
    decide (Lib.bsGo (fun t => Op.bytesLess (Sx l x t).toList x.toList) l.length 0 l.length < l.length ∧ Sx l x (Lib.bsGo (fun t => Op.bytesLess (Sx l x t).toList x.toList) l.length 0 l.length) = x) = mem l x := by
  have hk : Lib.bsGo (fun t => Op.bytesLess (Sx l x t).toList x.toList) l.length 0 l.length = l.findIdx (fun y => !less y x) := by
    refine Lib.bsGo_spec _ _ ?_ ?_ _ _ _ (by omega) (Nat.zero_le _) List.findIdx_le_length
    · intro t ht
      have hl : t < l.length := Nat.lt_of_lt_of_le ht List.findIdx_le_length
      have := List.not_of_lt_findIdx ht
      simp only [Sx, dif_pos hl]
      simpa [less] using this
    · intro t ht
      by_cases hl : t < l.length
      · simp only [Sx, dif_pos hl]
        have hkl : l.findIdx (fun y => !less y x) < l.length := by omega
        have h1 := List.findIdx_getElem (xs := l) (p := fun y => !less y x) (w := hkl)
        simp only [Bool.not_eq_true'] at h1
        cases hc : less l[t] x with
        | false => exact hc
        | true =>
          exfalso
          rcases Nat.lt_or_ge (l.findIdx (fun y => !less y x)) t with h2 | h2
          · have h3 := List.pairwise_iff_getElem.1 hs _ _ hkl hl h2
            rw [less_trans h3 hc] at h1
            cases h1
          · have h4 : l.findIdx (fun y => !less y x) = t := by omega
            simp only [h4] at h1
            rw [h1] at hc; cases hc
      · simp only [Sx, dif_neg hl]
        exact less_irrefl x
  rw [Bool.eq_iff_iff, decide_eq_true_iff, hk, mem_iff]
  constructor
  · rintro ⟨h1, h2⟩
    simp only [Sx, dif_pos h1] at h2
    rw [← h2]
    exact List.getElem_mem _
  · intro hx
    obtain ⟨i, hi, rfl⟩ := List.getElem_of_mem hx
    have hle : l.findIdx (fun y => !less y l[i]) ≤ i := by
      rcases Nat.lt_or_ge i (l.findIdx (fun y => !less y l[i])) with h | h
      · have := List.not_of_lt_findIdx h
        rw [less_irrefl] at this
        exact absurd this (by simp)
      · exact h
    have hkl : l.findIdx (fun y => !less y l[i]) < l.length := by omega
    refine ⟨hkl, ?_⟩
    simp only [Sx, dif_pos hkl]
    rcases Nat.lt_or_ge (l.findIdx (fun y => !less y l[i])) i with h | h
    · have h3 := List.pairwise_iff_getElem.1 hs _ _ hkl hi h
      have h1 := List.findIdx_getElem (xs := l) (p := fun y => !less y l[i]) (w := hkl)
      simp only [Bool.not_eq_true'] at h1
      rw [h3] at h1; cases h1
    · have h4 : l.findIdx (fun y => !less y l[i]) = i := by omega
      simp only [h4]
theorem sorted_lst (d : Int) : (lst d).Pairwise (fun a b => less a b = true) := by
  by_cases h0 : d = 0
  · subst h0
    exact of_decide_eq_true (by kernel_rfl)
  · by_cases h1 : d = 1
    · subst h1
      exact of_decide_eq_true (by kernel_rfl)
    · have hl : lst d = [] := by unfold lst; rw [if_neg h0, if_neg h1]
      rw [hl]
      exact List.Pairwise.nil
theorem lst_len (d : Int) : (lst d).length ≤ 1000 := by
  have h0 : (lst 0).length ≤ 1000 := of_decide_eq_true (by kernel_rfl)
  have h1 : (lst 1).length ≤ 1000 := of_decide_eq_true (by kernel_rfl)
  by_cases e0 : d = 0
  · subst e0; exact h0
  · by_cases e1 : d = 1
    · subst e1; exact h1
    · have hl : lst d = [] := by unfold lst; rw [if_neg e0, if_neg e1]
      rw [hl]; simp
theorem search_row (l : List ByteArray) (x : ByteArray) (w : World) {r : Value} {base : Nat} (hR : Kd.string.R 9 w base (fun _ => True) r l) (hs : l.Pairwise (fun a b => less a b = true)) (hl : l.length ≤ 1000) :
    Calls Tryz.prog 85 #[r, .string x] w fun e w' => ∃ i : Nat, e = .returned (.tuple #[.int .i64 i, .bool (mem l x)]) ∧ ∃ q, w' = w.drewN q := by
  obtain ⟨A, c, he, hlc, hC⟩ := Kd.R_reads hR
  obtain ⟨inner, hown⟩ := Kd.R_own hR
  rcases hown.2 with ⟨hv, h0⟩ | ⟨g, cap, cur, hv, _⟩
  · obtain rfl := List.eq_nil_of_length_eq_zero h0
    rw [hv]
    refine (Any2.slices_BinarySearch_string_empty lays26 none 0 x w).mono ?_
    rintro e w' ⟨he, hw⟩
    exact ⟨0, he, 0, hw⟩
  · rw [hv]
    have hA : A = some ⟨g, 0, none⟩ := by rw [hv] at he; injection he with h1 _ _; exact h1.symm
    subst hA
    have hcell : ∀ j, j < l.length → w.cell? ⟨g, 0 + j, none⟩ = some (.string (Sx l x j)) := by
      intro j hj
      obtain ⟨ad, h1, h2⟩ := Kd.at_string hC (j : Int) (by omega) (by omega)
      injection h1 with h1
      subst h1
      rw [show ((j : Int)).toNat = j from by omega] at h2
      rw [show (⟨g, 0 + j, none⟩ : Addr) = (⟨g, 0, none⟩ : Addr).add j from by simp [Addr.add], h2, show rdOf ByteArray.empty l (j : Int) = l.getD (j : Int).toNat ByteArray.empty from rfl]
      simp [Sx, hj]
    refine (Any2.slices_BinarySearch_string lays26 g 0 l.length cap (Sx l x) x w (by omega) hcell).mono ?_
    rintro e w' ⟨he, q, hw⟩
    rw [bs_found l x hs] at he
    exact ⟨_, he, q, hw⟩
set_option maxHeartbeats 4000000 in
set_option maxRecDepth 100000 in
theorem is_any (d : Int) (s : ByteArray) (w : World) (ht : Tab w) : Calls Tryz.prog 52 #[.int .i64 d, .string s] w fun e w' => e = .returned (.bool (mem (lst d) s)) ∧ Below w.heap.size w w' := by
  have HT := Lib.hid ht
  clear ht
  go_enter Tryz.func52, Tryz.ntmps52
  go_wp2_with (first | (go_at_call 51; go_must (refine (all_any d w HT.out).mono ?_)))
  rintro e w1 ⟨r, rfl, hR, hb⟩
  have HR := Lib.hid hR
  have HB := Lib.hid hb
  clear hR hb
  go_wp2_with (first | (go_at_call 85; go_must (refine (search_row (lst d) s _ HR.out (sorted_lst d) (lst_len d)).mono ?_)))
  rintro e w2 ⟨i, rfl, q, rfl⟩
  go_wp2
  go_ret
  exact ⟨rfl, pw_below_drewN HB.out q⟩
end Go.Proofs.YtlepjafokfhnfaaGreatDoor.Wd
end
section
open Go Go.Proofs
namespace Go.Ev
open Go.RowKit Go.Proofs.YtlepjafokfhnfaaGreatDoor Go.Proofs.YtlepjafokfhnfaaGreatDoorW.PrintWords Go.Proofs.YtlepjafokfhnfaaGreatDoorW.PrintLast Go.Proofs.YtlepjafokfhnfaaGreatDoorW.PrintMore
set_option linter.unusedVariables false
set_option linter.unusedSimpArgs false
set_option maxHeartbeats 4000000
set_option maxRecDepth 100000
theorem ok_words_Is : SpecA Tryz.prog EE 52 (ansOf c_words_Is rc_words_Is.enc fun x => some (Wd.mem (Wd.lst x.1) x.2.1)) := by
  refine specA_by _ _ _ fun x y hy Sl w us fp rs hSl hargs hnd hlt hiv => ?_
  injection hy with hy
  subst hy
  obtain ⟨vs, rfl, h1⟩ := areps_lit hargs
  obtain ⟨vs', rfl, h2⟩ := areps_lit h1
  obtain ⟨rfl, rfl, rfl⟩ := areps_nil h2
  refine ⟨52, #[_, _], .inl ⟨by decide, rfl, rfl⟩, ⟨Tryz.f52, Tryz.func52, by kernel_rfl, by kernel_rfl⟩, ?_⟩
  exact (Wd.is_any x.1 x.2.1 w hiv.1).mono fun e w' ⟨he, hb⟩ => ⟨_, he, answers_lit hSl hb rfl⟩
theorem drep_lit {E : Env II} {Sl : Nat → Nat → Prop} {w : World} {v u : Value} (h : DRep E Sl w v (.lit u)) : v = u := by cases h; rfl
theorem ok_Clone : SpecA Tryz.prog EE 25 (ansOf c_slices_Clone_string rc_slices_Clone_string.enc fun x => if x.1.length * 16 ≤ 140737488355328 then some x.1 else none) := by
  refine specA_by _ _ _ fun x y hy Sl w us fp rs hSl hargs hnd hlt hiv => ?_
  obtain ⟨xs, _⟩ := x
  simp only at hy
  split at hy
  · rename_i hb
    injection hy with hy
    subst hy
    obtain ⟨v, vs, rfl, h1, h2⟩ := areps_d hargs
    obtain ⟨rfl, rfl, rfl⟩ := areps_nil h2
    refine ⟨25, #[_], .inl ⟨by decide, rfl, rfl⟩, ⟨Tryz.f25, Tryz.func25, by kernel_rfl, by kernel_rfl⟩, ?_⟩
    cases h1 with
    | sl _ _ A n c g o vals hn hcap hm hA hc hr =>
      have hn : xs.length = n := hn
      rcases Nat.eq_zero_or_pos n with rfl | hpos
      · have hxs : xs = [] := List.eq_nil_of_length_eq_zero hn
        subst hxs
        cases A with
        | none =>
          refine (Tryz.slices_Clone_string_nil 0 c w).mono fun e w' ⟨he, hw⟩ => ?_
          subst hw
          exact ⟨_, he, answers_row (t := 9) (xs := []) (vals := []) (ti := { size := 1, bytes := 16, zero := [.string ⟨#[]⟩], td := .string }) (by kernel_rfl) hSl (Below.refl _ _) ⟨rfl, .inl ⟨rfl, rfl⟩⟩ (fun i r j y hi => by simp at hi)⟩
        | some a =>
          refine (Tryz.slices_Clone_string_zero a c w).mono fun e w' ⟨u, he, ho, _, hb⟩ => ?_
          exact ⟨_, he, answers_row (t := 9) (xs := []) (vals := []) (ti := { size := 1, bytes := 16, zero := [.string ⟨#[]⟩], td := .string }) (by kernel_rfl) hSl hb ho (fun i r j y hi => by simp at hi)⟩
      · rw [hA hpos]
        have hcell : ∀ j, j < xs.length → w.cell? ⟨g, o + j, none⟩ = some (.string (xs.getD j ByteArray.empty)) := by
          intro j hj
          have hi : xs[j]? = some xs[j] := List.getElem?_eq_getElem hj
          have h3 := (hc j xs[j] 0 (.lit (.string xs[j])) hi rfl).1
          have h4 := hr j xs[j] 0 (.lit (.string xs[j])) hi rfl
          have h5 : (EE.row 9 xs[j]).length = 1 := rfl
          rw [h5, Nat.mul_one, Nat.add_zero] at h3 h4
          rw [h3, drep_lit h4, List.getD_eq_getElem?_getD, hi]; rfl
        refine (Tryz.slices_Clone_string g o n c xs w (by omega) (by omega) hcell).mono fun e w' ⟨u, he, ho, _, hb⟩ => ?_
        rw [← hn, List.take_length] at ho
        refine ⟨_, he, answers_row (E := EE) (w' := w') (u := u) (t := 9) (xs := xs) (vals := xs.map .string) (ti := { size := 1, bytes := 16, zero := [.string ⟨#[]⟩], td := .string }) (by kernel_rfl) hSl hb ho (fun i r j y hi hj => ?_)⟩
        have hj' : ([DV.lit (.string r)] : List (DV II))[j]? = some y := hj
        cases j with
        | zero =>
          simp at hj'
          subst hj'
          refine ⟨.string r, by simp [hi], fun Sl' _ => .lit _ rfl⟩
        | succ j => simp at hj'
  · cases hy
theorem ans_run {α β : Type} (c : CodL EE α) (conv : β → RV II) (F : α → Option β) {avs : List (AV II)} {x : α} {y : β} (h : c.dec avs = some x) (hF : F x = some y) : (ansOf c conv F avs).run = some (conv y) := by
  unfold ansOf
  rw [h]
  simp only [Tree.run, hF, Option.bind_some]
theorem drep_env {Sl : Nat → Nat → Prop} {w : World} {v : Value} {x : DV II} (h : DRep EE0 Sl w v x) : DRep EE Sl w v x := by
  induction h with
  | any v h => exact .any v h
  | lit v h => exact .lit v h
  | nils => exact .nils
  | sl t xs A n c g o vs hn hcap hm hA hcell _ ih => exact .sl t xs A n c g o vs hn hcap hm hA hcell ih
theorem drep_env' {Sl : Nat → Nat → Prop} {w : World} {v : Value} {x : DV II} (h : DRep EE Sl w v x) : DRep EE0 Sl w v x := by
  induction h with
  | any v h => exact .any v h
  | lit v h => exact .lit v h
  | nils => exact .nils
  | sl t xs A n c g o vs hn hcap hm hA hcell _ ih => exact .sl t xs A n c g o vs hn hcap hm hA hcell ih
theorem drep_len {Sl : Nat → Nat → Prop} {w : World} {v : Value} {t : Nat} {xs : List (II t)} (h : DRep EE Sl w v (.sl t xs)) : xs.length ≤ maxLen := by
  cases h with
  | sl _ _ A n c g o vals hn hcap hm hA hc hr => rw [hn]; exact hm
theorem find_drop (l : List TPair) (s : ByteArray) (hm : l.length ≤ maxLen) (s' : Fam) (k : Nat) (x0 : ByteArray) (x1 : List TPair) : ∀ j i, i ≤ l.length → l.length - i < j → Ltree_Rename_1_2 s' k x0 x1 j s l (l.length : Int) (i : Int) = some (match (l.drop i).find? (fun p => p.Old.toList == s.toList) with | some p => p.New | none => s) := by
  refine up_ind l.length (fun j => ?_) (fun j i hi ihj => ?_)
  · simp only [Ltree_Rename_1_2]
    rw [if_neg (by simp)]
    simp
  · have c1 : decide ((i : Int) < (l.length : Int)) = true := by simpa using hi
    have c2 : (0 : Int) ≤ (i : Int) := by omega
    have c3 : (i : Int) < (l.length : Int) := by omega
    simp only [Ltree_Rename_1_2, c1, c2, c3, if_true, getD_at l i _ hi, wrap_succ hi hm, ihj, decide_true]
    have hd : l.drop i = l[i] :: l.drop (i + 1) := (List.getElem_cons_drop hi).symm
    rw [hd, List.find?_cons]
    cases (l[i].Old.toList == s.toList) <;> rfl
theorem rename_1_ok (l : List TPair) (s : ByteArray) (hm : l.length ≤ maxLen) : B_tree_Rename_1 nilFam (l.length + 1) s l = some (match l.find? (fun p => p.Old.toList == s.toList) with | some p => p.New | none => s) := by
  have := find_drop l s hm nilFam (l.length + 1) s l (l.length + 1) 0 (Nat.zero_le _) (by omega)
  simp only [Int.ofNat_zero, List.drop_zero] at this
  exact this
theorem spec46 (k : Nat) : SpecA Tryz.prog EE 55 (ansOf c_tree_Rename_1 rc_tree_Rename_1.enc fun x => B_tree_Rename_1 nilFam k x.1 x.2.1) :=
  specA_of hEE (look_ok nil_ok) Tryz.func55 (by kernel_rfl) (by decide) c_tree_Rename_1 rc_tree_Rename_1.enc _ (fun x => e_tree_Rename_1 nilFam k x)
theorem keepX_mono {X X' : Nat → Prop} {B : Nat} {w w' : World} (h : KeepX X B w w') (hX : ∀ k, X k → X' k) : KeepX X' B w w' := ⟨h.os, h.tape, h.output, h.size, fun i hi hn => h.block i hi fun hx => hn (hX i hx)⟩
theorem ext_mono {Sl Sl' : Nat → Nat → Prop} {w w' : World} {fp fp' : List Nat} (h : Ext Sl Sl' w w' fp) (hs : ∀ k ∈ fp, k ∈ fp') : Ext Sl Sl' w w' fp' := ⟨h.s, fun g o hg => (h.n g o hg).imp id fun hx => ⟨hx.1.imp id (hs g), hx.2⟩, h.c⟩
theorem ren_calls {Sl : Nat → Nat → Prop} {w : World} {v : Value} {fp : List Nat} (l : List TPair) (s : ByteArray) (hSl : ∀ g o, Sl g o → g < w.heap.size) (h : EE.frep (Thing.ren l) Sl w v fp) (hk : ∀ k ∈ fp, k < w.heap.size ∧ ∀ j, ¬ Sl k j) (hiv : EE.inv w) :
    ∃ g args, Callee 1000003 [v, .string s] g args ∧ (∃ fn, Tryz.prog.funcs[g]? = some fn ∧ fn.body.isSome = true ∧ (fn.name == "runtime.NumGoroutine") = false) ∧ Calls Tryz.prog g args w fun e w' => ∃ u, e = .returned u ∧
      Answers EE Sl w fp [v] (.c (.d (.lit (.string (match l.find? (fun p => p.Old.toList == s.toList) with | some p => p.New | none => s)))), [.fd (Thing.ren l)]) u w' := by
  have h0 := h
  obtain ⟨g, sv, rfl, rfl, hb, hd⟩ := h
  have hd := drep_env hd
  have hcell : w.cell? ⟨g, 0, none⟩ = some sv := by simp [World.cell?, hb]
  obtain ⟨hg, hng⟩ := hk g (by simp)
  have hrp : PRep EE Sl w (· ∈ ([] : List Nat)) w.heap.size (.pointer (some ⟨g, 0, none⟩)) (.rp [.sl 58 l] 0) [] [] := PRep.rp (I := II) (E := EE) (Sl := Sl) ([.sl 58 l] : List (DV II)) 0 g 0 fun j y hj => by
    cases j with
    | zero => simp at hj; subst hj; exact ⟨sv, hcell, hd, .inl ⟨hg, by simp⟩⟩
    | succ j => simp at hj
  obtain ⟨g', args, hc, hfn, hcalls⟩ := spec46 (l.length + 1) (c_tree_Rename_1.enc (s, l, ())) _ (by
    exact ans_run _ _ _ (x := (s, l, ())) rfl (rename_1_ok l s (drep_len hd))) Sl w [.string s, .pointer (some ⟨g, 0, none⟩)] [] [] hSl
    (.cons _ _ _ _ [] [] [] [] (.c _ _ _ _ (.d _ _ (.lit _ rfl))) (.cons _ _ _ _ [] [] [] [] (.c _ _ _ _ hrp) .nil)) List.nodup_nil (fun k hk => by cases hk) hiv
  rcases hc with ⟨_, rfl, ha⟩ | ⟨hne, _⟩
  · refine ⟨55, args, .inr ⟨rfl, #[], #[.pointer (some ⟨g, 0, none⟩)], [.string s], rfl, by rw [ha]; rfl⟩, hfn, hcalls.mono fun e w' ⟨u, he, Sl', p1, p2, r1, r2, hkeep, hext, ha, hp, hnd, hlt⟩ => ⟨u, he, ?_⟩⟩
    obtain ⟨hu, rfl, rfl⟩ := arep_d ha
    cases hp
    have hnew : ∀ j, ¬ Sl' g j := fun j hj => by
      rcases hext.n g j hj with h1 | ⟨h1 | h1, _⟩
      · exact hng j h1
      · omega
      · cases h1
    have hsame : w'.heap[g]? = w.heap[g]? := hkeep.block g hg (by simp)
    refine ⟨Sl', [], [g], [], [.func (.func 55) #[] #[.pointer (some ⟨g, 0, none⟩)]], keepX_mono hkeep (by simp), ext_mono hext (by simp), .c _ _ _ _ (.d _ _ hu), ?_, by simp, fun k hk => ?_⟩
    · exact .cons _ _ _ _ [g] [] [_] [] (.fd _ _ [g] (EE.frame _ Sl Sl' w w' _ _ h0 hext.s hext.c (by simp [hsame])) rfl (fun k hk => by
        simp at hk; subst hk; exact ⟨Nat.lt_of_lt_of_le hg hkeep.size, hnew⟩)) .nil
    · simp at hk; subst hk; exact ⟨Nat.lt_of_lt_of_le hg hkeep.size, .inr (by simp)⟩
  · cases hne
open Go.Maps Go.ChangeMaps Go.WideMaps
theorem keyed9 : Go.Maps.Keyed Tryz.prog 9 := string_keyed Tryz.underlying9
theorem zero4 (w : World) : (zeroValue 4).run Tryz.prog w = .ok (.bool false) w := Tryz.zeroValue4 w
theorem key_ne {s t : ByteArray} (h : s ≠ t) : (Lit.string s.data.toList) ≠ Lit.string t.data.toList := by
  intro e
  injection e with e
  exact h (by apply ByteArray.ext; exact Array.toList_inj.1 e)
theorem map_lookup {w : World} {b n : Nat} {L : ByteArray → Bool} (h : MapAt w b n L) (s : ByteArray) (hs : s.size ≤ maxLen) : (Instr.lookup 100 (.map (some b)) (.string s) false).run Tryz.prog w = .ok (.bool (L s)) w := by
  obtain ⟨D, hD, hL⟩ := h
  obtain ⟨v, ps, hrun, hv⟩ := hD.lookup keyed9 Tryz.underlying100 (zero4 w) (plainElem_bool Tryz.underlying4 false) (keyOf_string_mk Tryz.underlying9 hs)
  rw [hL s hs] at hv
  rw [hrun]
  unfold plainElem at hv
  rw [Tryz.underlying4] at hv
  cases v <;> simp at hv
  rw [hv.1]
theorem map_put {w : World} {b n : Nat} {L : ByteArray → Bool} (h : MapAt w b n L) (hn : n < maxLen) (s : ByteArray) (hs : s.size ≤ maxLen) :
    ∃ w', (Instr.mapUpdate 100 (.map (some b)) (.string s) (.bool true)).run Tryz.prog w = .ok () w' ∧ MapAt w' b (n + 1) (fun x => decide (x = s) || L x) ∧ w.grownBy w' (some b) := by
  obtain ⟨D, hD, hL⟩ := h
  obtain ⟨w', hrun, hD', ht⟩ := hD.update keyed9 Tryz.underlying100 hn (keyOf_string_mk Tryz.underlying9 hs) (plainElem_bool Tryz.underlying4 true)
  have hm : Go.Maps.IsMap D := by obtain ⟨es, clock, _, _, _, rfl⟩ := hD; exact ⟨_, rfl⟩
  refine ⟨w', hrun, ⟨_, hD', fun x hx => ?_⟩, ht⟩
  by_cases e : x = s
  · subst e
    rw [Go.Maps.atKey_put_same hm (by simp [WideAt.IsKeyLit])]; simp
  · rw [Go.Maps.atKey_put_other (key_ne e), hL x hx]; simp [e]
theorem infoStr9 : (Tryz.prog.info? 9).map (fun i => (i.zero, i.size, i.bytes)) = some (some (.string ⟨#[]⟩), 1, 16) := by kernel_rfl
def NamesTo (w : World) (gm go : Nat) (sv : Value) (s : ByteArray) (l : List ByteArray) (e : Ending) (w' : World) : Prop := e = .returned (.string s) ∧ ∃ v1 n1, n1 ≤ l.length ∧ w'.os = w.os ∧ w'.tape = w.tape ∧ w'.output = w.output ∧ w.heap.size ≤ w'.heap.size ∧
  (∀ i, i < w.heap.size → i ≠ gm → i ≠ go → some i ≠ sv.ownBlock → w'.heap[i]? = w.heap[i]?) ∧ MapAt w' gm n1 (fun y => l.any fun z => z.toList == y.toList) ∧ w'.heap[go]? = some (.cells #[v1] 22 (0, 0)) ∧ w'.ownsRow 0 9 1 v1 l.length (l.map Value.string) ∧
  (v1.ownBlock = sv.ownBlock ∨ ∃ b, v1.ownBlock = some b ∧ w.heap.size ≤ b)
theorem names_in (w : World) (gs gm go n : Nat) (sv : Value) (l : List ByteArray) (s : ByteArray) (h1 : w.heap[gs]? = some (.cells #[.map (some gm)] 100 (0, 0))) (hM : MapAt w gm n (fun y => l.any fun z => z.toList == y.toList)) (hn : n ≤ l.length)
    (h3 : w.heap[go]? = some (.cells #[sv] 22 (0, 0))) (h4 : w.ownsRow 0 9 1 sv l.length (l.map Value.string)) (hs : s.size ≤ maxLen) (hin : (l.any fun z => z.toList == s.toList) = true) :
    Calls Tryz.prog 49 #[.string s, .pointer (some ⟨gs, 0, none⟩), .pointer (some ⟨go, 0, none⟩)] w fun e w' => NamesTo w gm go sv s l e w' := by
  have hlk := map_lookup hM s hs
  rw [hin] at hlk
  have c1 : w.cell? ⟨gs, 0, none⟩ = some (.map (some gm)) := by simp [World.cell?, h1]
  have c3 : w.cell? ⟨go, 0, none⟩ = some sv := by simp [World.cell?, h3]
  have H : Hid (NamesTo w gm go sv s l (.returned (.string s)) w) := Lib.hid ⟨rfl, sv, n, hn, rfl, rfl, rfl, Nat.le_refl _, fun _ _ _ _ _ => rfl, hM, h3, h4, .inl rfl⟩
  clear hM h1 h3 h4 hin
  go_enter Tryz.func49, Tryz.ntmps49
  go_wp2
  go_ret
  exact H.out
theorem cells1_set {w : World} {g t : Nat} {x y : Value} (h : w.heap[g]? = some (.cells #[x] t (0, 0))) : (w.setCell ⟨g, 0, none⟩ y).heap[g]? = some (.cells #[y] t (0, 0)) := by
  simp [World.setCell, Array.getElem?_modify, h]
theorem size_alloc (W : World) (o : Go.Obj) : (W.alloc o).heap.size = W.heap.size + 1 := by
  show (W.heap.push o).size = _
  rw [Array.size_push]
theorem le_alloc (W : World) (o : Go.Obj) {n : Nat} (h : n ≤ W.heap.size) : n ≤ (W.alloc o).heap.size := by
  rw [size_alloc]; omega
theorem owns_slice {w : World} {B e size n : Nat} {v : Value} {xs : List Value} (h : w.ownsRow B e size v n xs) : ∃ A c, v = .slice A n c := by
  obtain ⟨_, ⟨rfl, rfl⟩ | ⟨g, cap, cur, rfl, _⟩⟩ := h
  · exact ⟨none, 0, rfl⟩
  · exact ⟨_, cap, rfl⟩
theorem names_out (w : World) (gs gm go n : Nat) (sv : Value) (l : List ByteArray) (s : ByteArray) (h1 : w.heap[gs]? = some (.cells #[.map (some gm)] 100 (0, 0))) (hM : MapAt w gm n (fun y => l.any fun z => z.toList == y.toList)) (hn : n ≤ l.length)
    (h3 : w.heap[go]? = some (.cells #[sv] 22 (0, 0))) (h4 : w.ownsRow 0 9 1 sv l.length (l.map Value.string)) (hs : s.size ≤ maxLen) (hin : (l.any fun z => z.toList == s.toList) = false) (hlim : (l.length + 1) * 16 ≤ 140737488355328)
    (d1 : gs ≠ gm) (d2 : gs ≠ go) (d3 : gm ≠ go) (d4 : some gm ≠ sv.ownBlock) (d5 : some go ≠ sv.ownBlock) :
    Calls Tryz.prog 49 #[.string s, .pointer (some ⟨gs, 0, none⟩), .pointer (some ⟨go, 0, none⟩)] w fun e w' => NamesTo w gm go sv s (l ++ [s]) e w' := by
  have hlk := map_lookup hM s hs
  rw [hin] at hlk
  have c1 : w.cell? ⟨gs, 0, none⟩ = some (.map (some gm)) := by simp [World.cell?, h1]
  have hgs : gs < w.heap.size := (Array.getElem?_eq_some_iff.1 h1).1
  have hgo : go < w.heap.size := (Array.getElem?_eq_some_iff.1 h3).1
  obtain ⟨w5, hput, hM5, hg5⟩ := map_put hM (by simp [maxLen]; omega) s hs
  have b3 : w5.heap[go]? = some (.cells #[sv] 22 (0, 0)) := (hg5.block go hgo (fun e => d3 (Option.some.inj e).symm)).trans h3
  have c3 : w5.cell? ⟨go, 0, none⟩ = some sv := by simp [World.cell?, b3]
  have o5 : w5.ownsRow 0 9 1 sv l.length (l.map Value.string) := owns_same h4 fun k hk => by
    have hlt := (h4.lt (k := k) hk).2
    exact hg5.block k hlt fun e => d4 (e.symm.trans hk.symm)
  have O5 := Lib.hid o5
  have M5 := Lib.hid hM5
  have G5 := Lib.hid hg5
  have B3 := Lib.hid b3
  have H4 := Lib.hid h4
  have hgm : gm < w.heap.size := by obtain ⟨D, hD, _⟩ := hM; exact hD.lt
  clear hM h1 h3 h4 hin o5 hM5 hg5 b3
  go_enter Tryz.func49, Tryz.ntmps49
  go_wp2_with (first
    | ((with_reducible refine gate_builtin (b := .append) (xs := #[.tmp 11, .tmp 13]) rfl ?_); at_builtin; go_must ((refine print_append_cells (w0 := w5) 0 rfl (.tmp 11) (.tmp 13) 22 9 (.string ⟨#[]⟩) 1 16 rfl Tryz.underlying22 infoStr9 rfl (by decide) (by decide) sv l.length (l.map Value.string) [.string s] rfl rfl rfl (by simp; rfl) O5.out ⟨rfl, rfl, rfl, Nat.le_refl _, fun _ h => absurd h (Nat.not_lt_zero _)⟩ (Nat.zero_le _) hlim ?_)); go_must (intro v1 w9 ho9 hb hg hat; obtain ⟨A1, k1, rfl⟩ := owns_slice ho9; have O9 := Lib.hid ho9; have HG9 := Lib.hid hg; have HAT := Lib.hid hat; have b9 : w9.heap[go]? = some (.cells #[sv] 22 (0, 0)) := (hg.block go (Nat.lt_of_lt_of_le hgo G5.out.size) d5).trans B3.out; have c9 : w9.cell? ⟨go, 0, none⟩ = some sv := by { simp [World.cell?, b9] }; have f9 := Lib.frozen_of_heap b9 0; have B9 := Lib.hid b9; clear ho9 hb hg hat b9)))
  go_ret
  have hset : ∀ i, i ≠ go → (w9.setCell ⟨go, 0, none⟩ (.slice A1 (l.length + 1) k1)).heap[i]? = w9.heap[i]? := fun i hi => Below.heap_setCell _ _ _ i hi
  have hown : ∀ k, (Value.slice A1 (l.length + 1) k1).ownBlock = some k → k ≠ go := fun k hk e => by
    rcases HAT.out with h | ⟨b, h, hb⟩
    · exact d5 (by rw [← e, ← hk]; exact h)
    · have : b = k := Option.some.inj (h.symm.trans hk)
      have := G5.out.size
      omega
  have hne : some gm ≠ sv.ownBlock := d4
  refine ⟨rfl, _, n + 1, by simp; omega, ?_, ?_, ?_, ?_, fun i hi h1 h2 h3 => ?_, ?_, cells1_set B9.out, ?_, ?_⟩
  · exact HG9.out.os.trans G5.out.os
  · exact HG9.out.tape.trans G5.out.tape
  · exact HG9.out.output.trans G5.out.output
  · have h1 := G5.out.size
    have h2 := HG9.out.size
    simp only [World.setCell, Array.size_modify]
    omega
  · rw [hset i h2, HG9.out.block i (Nat.lt_of_lt_of_le hi G5.out.size) h3, G5.out.block i hi (fun e => h1 (Option.some.inj e))]
  · have := (M5.out.same (w' := w9) (HG9.out.block gm (Nat.lt_of_lt_of_le hgm G5.out.size) d4)).same (w' := w9.setCell ⟨go, 0, none⟩ (.slice A1 (l.length + 1) k1)) (hset gm d3)
    obtain ⟨D, h1, h2⟩ := this
    refine ⟨D, h1, fun x hx => (h2 x hx).trans ?_⟩
    have e : decide (x = s) = (s.toList == x.toList) := by
      rw [ba_dc]
      by_cases e : x = s
      · subst e; rw [dc_true rfl]; simp
      · rw [dc_false (fun e' => e e'.symm)]; simp [e]
    refine congrArg (fun b => DataW.lit (Lit.bool b)) ?_
    simp only [List.any_append, List.any_cons, List.any_nil, Bool.or_false]
    rw [e, Bool.or_comm]
  · have := owns_same (w' := w9.setCell ⟨go, 0, none⟩ (.slice A1 (l.length + 1) k1)) O9.out fun k hk => hset k (hown k hk)
    simpa using this
  · rcases HAT.out with h | ⟨b, h, hb⟩
    · exact .inl h
    · exact .inr ⟨b, h, Nat.le_trans G5.out.size hb⟩
theorem names_answers {Sl : Nat → Nat → Prop} {w w' : World} {gs gm go : Nat} {sv : Value} {n : Nat} {l l' : List ByteArray} {s : ByteArray} {e : Ending} (hSl : ∀ g o, Sl g o → g < w.heap.size)
    (h1 : w.heap[gs]? = some (.cells #[.map (some gm)] 100 (0, 0))) (hk : ∀ k ∈ gs :: gm :: go :: sv.ownBlock.toList, k < w.heap.size ∧ ∀ j, ¬ Sl k j) (hnd : (gs :: gm :: go :: sv.ownBlock.toList).Nodup) (h : NamesTo w gm go sv s l' e w') :
    ∃ u, e = .returned u ∧ Answers EE Sl w (gs :: gm :: go :: sv.ownBlock.toList) [.func (.func 49) #[] #[.pointer (some ⟨gs, 0, none⟩), .pointer (some ⟨go, 0, none⟩)]] (.c (.d (.lit (.string s))), [.fd (Thing.names l')]) u w' := by
  obtain ⟨rfl, v1, n1, hn1, e1, e2, e3, hsz, hkeep, hM, hgo, hown, hblk⟩ := h
  have hsvm : ∀ k, some k = sv.ownBlock ↔ k ∈ sv.ownBlock.toList := fun k => by cases sv.ownBlock <;> simp [eq_comm]
  simp only [List.nodup_cons, List.mem_cons, not_or] at hnd
  obtain ⟨⟨d1, d2, d3⟩, ⟨d4, d5⟩, d6, d7⟩ := hnd
  have kgs := hk gs (by simp)
  have kgm := hk gm (by simp)
  have kgo := hk go (by simp)
  have hsame : ∀ i, i < w.heap.size → ¬ i ∈ gs :: gm :: go :: sv.ownBlock.toList → w'.heap[i]? = w.heap[i]? := fun i hi hn => by
    simp only [List.mem_cons, not_or] at hn
    exact hkeep i hi hn.2.1 hn.2.2.1 fun e => hn.2.2.2 ((hsvm i).1 e)
  have hb : ∀ k, k ∈ v1.ownBlock.toList → k < w'.heap.size ∧ (∀ j, ¬ Sl k j) ∧ (k ∈ sv.ownBlock.toList ∨ w.heap.size ≤ k) := fun k hk' => by
    have hk' : v1.ownBlock = some k := by cases h : v1.ownBlock with
      | none => rw [h] at hk'; simp at hk'
      | some b => rw [h] at hk'; simp at hk'; rw [hk']
    have hlt := (hown.lt k hk').2
    rcases hblk with h | ⟨b, h, hb⟩
    · have hm := (hsvm k).1 (hk'.symm.trans h)
      exact ⟨hlt, (hk k (by simp [hm])).2, .inl hm⟩
    · have : b = k := Option.some.inj (h.symm.trans hk')
      subst this
      exact ⟨hlt, fun j hj => by have := hSl b j hj; omega, .inr hb⟩
  have hall : ∀ k ∈ gs :: gm :: go :: v1.ownBlock.toList, (k < w'.heap.size ∧ ∀ j, ¬ Sl k j) ∧ (w.heap.size ≤ k ∨ k ∈ gs :: gm :: go :: sv.ownBlock.toList) := fun k hk' => by
    simp only [List.mem_cons] at hk'
    rcases hk' with rfl | rfl | rfl | hk'
    · exact ⟨⟨Nat.lt_of_lt_of_le kgs.1 hsz, kgs.2⟩, .inr (by simp)⟩
    · exact ⟨⟨Nat.lt_of_lt_of_le kgm.1 hsz, kgm.2⟩, .inr (by simp)⟩
    · exact ⟨⟨Nat.lt_of_lt_of_le kgo.1 hsz, kgo.2⟩, .inr (by simp)⟩
    · obtain ⟨q1, q2, q3⟩ := hb k hk'
      exact ⟨⟨q1, q2⟩, q3.elim (fun h => .inr (by simp [h])) .inl⟩
  have hfrep : EE.frep (Thing.names l') Sl w' (.func (.func 49) #[] #[.pointer (some ⟨gs, 0, none⟩), .pointer (some ⟨go, 0, none⟩)]) (gs :: gm :: go :: v1.ownBlock.toList) :=
    ⟨gs, gm, go, v1, n1, rfl, rfl, hn1, (hkeep gs kgs.1 d1 d2 (fun e => d3 ((hsvm gs).1 e))).trans h1, hM, hgo, hown⟩
  have hnd' : (gs :: gm :: go :: v1.ownBlock.toList).Nodup := by
    have hno : ∀ k, k ∈ v1.ownBlock.toList → k ≠ gs ∧ k ≠ gm ∧ k ≠ go := fun k hk' => by
      obtain ⟨_, _, h | h⟩ := hb k hk'
      · exact ⟨fun e => d3 (e ▸ h), fun e => d5 (e ▸ h), fun e => d6 (e ▸ h)⟩
      · exact ⟨fun e => by omega, fun e => by omega, fun e => by omega⟩
    simp only [List.nodup_cons, List.mem_cons, not_or]
    refine ⟨⟨d1, d2, fun h => (hno _ h).1 rfl⟩, ⟨d4, fun h => (hno _ h).2.1 rfl⟩, fun h => (hno _ h).2.2 rfl, ?_⟩
    cases v1.ownBlock <;> simp
  refine ⟨_, rfl, Sl, [], gs :: gm :: go :: v1.ownBlock.toList, [], [.func (.func 49) #[] #[.pointer (some ⟨gs, 0, none⟩), .pointer (some ⟨go, 0, none⟩)]], ⟨e1, e2, e3, hsz, fun i hi hn => hsame i hi hn⟩,
    ⟨fun _ _ h => h, fun _ _ h => .inl h, fun g o u hs hu => (cell_same (hsame g (hSl g o hs) fun hm => (hk g hm).2 o hs)).trans hu⟩, .c _ _ _ _ (.d _ _ (.lit _ rfl)), ?_, by simpa using hnd', fun k hk' => ?_⟩
  · have := PReps.cons (E := EE) (Sl := Sl) (w := w') (X0 := fun _ => True) (B0 := 0) _ [] _ [] (gs :: gm :: go :: v1.ownBlock.toList) [] [_] [] (.fd _ _ _ hfrep rfl fun k hk' => (hall k hk').1) .nil
    simpa using this
  · have := hall k (by simpa using hk')
    exact ⟨this.1.1, this.2⟩
theorem arep_fd {Sl : Nat → Nat → Prop} {w : World} {X0 : Nat → Prop} {B0 : Nat} {v : Value} {th : Thing} {p : List Nat} {r : List Value} (h : ARep EE Sl w X0 B0 v (.c (.fd th)) p r) :
    EE.frep th Sl w v p ∧ v.oneCell' = true ∧ (∀ k ∈ p, k < w.heap.size ∧ ∀ j, ¬ Sl k j) ∧ r = [v] := by
  cases h with
  | c _ _ _ _ h => cases h with | fd _ _ _ h h1 hk => exact ⟨h, h1, hk, rfl⟩
theorem by_calls {Sl : Nat → Nat → Prop} {w : World} {v : Value} {th : Thing} {fp : List Nat} {s : ByteArray} {y : b_by} (hy : stepT (th, s, ()) = some y) (hSl : ∀ g o, Sl g o → g < w.heap.size) (hf : EE.frep th Sl w v fp) (hk : ∀ k ∈ fp, k < w.heap.size ∧ ∀ j, ¬ Sl k j) (hnd : fp.Nodup) (hiv : EE.inv w) :
    ∃ g args, Callee 1000003 [v, .string s] g args ∧ (∃ fn, Tryz.prog.funcs[g]? = some fn ∧ fn.body.isSome = true ∧ (fn.name == "runtime.NumGoroutine") = false) ∧ Calls Tryz.prog g args w fun e w' => ∃ u, e = .returned u ∧ Answers EE Sl w fp [v] (rc_by.enc y) u w' := by
  cases th with
  | ren l =>
    simp only [stepT, Option.some.injEq] at hy
    subst hy
    exact ren_calls l s hSl hf hk hiv
  | names l =>
    simp only [stepT] at hy
    split at hy
    · rename_i hs
      obtain ⟨gs, gm, go, sv, n, rfl, rfl, hn, h1, hM, h3, h4⟩ := hf
      have hnd0 := hnd
      simp only [List.nodup_cons, List.mem_cons, not_or] at hnd
      obtain ⟨⟨d1, d2, d3⟩, ⟨d4, d5⟩, d6, d7⟩ := hnd
      have hsvm : ∀ k, some k = sv.ownBlock → k ∈ sv.ownBlock.toList := fun k e => by rw [← e]; simp
      refine ⟨49, #[_, _, _], .inr ⟨rfl, #[], #[_, _], [.string s], rfl, rfl⟩, ⟨Tryz.f49, Tryz.func49, by kernel_rfl, by kernel_rfl⟩, ?_⟩
      split at hy
      · rename_i hin
        injection hy with hy
        subst hy
        exact (names_in w gs gm go n sv l s h1 hM hn h3 h4 hs hin).mono fun e w' h => names_answers (n := n) (l := l) hSl h1 hk hnd0 h
      · rename_i hin
        split at hy
        · rename_i hlim
          injection hy with hy
          subst hy
          exact (names_out w gs gm go n sv l s h1 hM hn h3 h4 hs (by simpa using hin) hlim d1 d2 d4 (fun e => d5 (hsvm _ e)) (fun e => d6 (hsvm _ e))).mono fun e w' h => names_answers (n := n) (l := l) hSl h1 hk hnd0 h
        · cases hy
    · cases hy
theorem ok_by : SpecA Tryz.prog EE 1000003 (ansOf c_by rc_by.enc stepT) := by
  refine specA_by _ _ _ fun x y hy Sl w us fp rs hSl hargs hnd hlt hiv => ?_
  obtain ⟨th, s, _⟩ := x
  obtain ⟨v, vs, p, q, r, t, rfl, rfl, rfl, h1, h2⟩ := areps_cons hargs
  obtain ⟨vs', rfl, h3⟩ := areps_lit h2
  obtain ⟨rfl, rfl, rfl⟩ := areps_nil h3
  obtain ⟨hf, _, hk, rfl⟩ := arep_fd h1
  simp only [List.append_nil] at hnd ⊢
  exact by_calls hy hSl hf hk hnd hiv
theorem dreps_of {Sl : Nat → Nat → Prop} {w : World} {X0 : Nat → Prop} {B0 : Nat} : ∀ {ds : List (DV II)} {us : List Value} {fp : List Nat} {rs : List Value}, PReps EE Sl w X0 B0 us (ds.map .d) fp rs → us.length = ds.length ∧ fp = [] ∧ rs = []
  | [], us, fp, rs, h => by cases h; exact ⟨rfl, rfl, rfl⟩
  | d :: ds, us, fp, rs, h => by
    cases h with
    | cons v vs x xs p q r t h hs =>
      cases h with
      | d =>
        obtain ⟨h1, rfl, rfl⟩ := dreps_of hs
        exact ⟨by simp [h1], rfl, rfl⟩
theorem dreps_move {Sl Sl' : Nat → Nat → Prop} {w w' : World} {X0 X0' : Nat → Prop} {B0 B0' : Nat} (hS : ∀ g o, Sl g o → Sl' g o) (hc : ∀ g o u, Sl g o → w.cell? ⟨g, o, none⟩ = some u → w'.cell? ⟨g, o, none⟩ = some u) :
    ∀ {ds : List (DV II)} {us : List Value} {fp : List Nat} {rs : List Value}, PReps EE Sl w X0 B0 us (ds.map .d) fp rs → PReps EE Sl' w' X0' B0' us (ds.map .d) [] []
  | [], us, fp, rs, h => by cases h; exact .nil
  | d :: ds, us, fp, rs, h => by
    cases h with
    | cons v vs x xs p q r t h hs =>
      cases h with
      | d _ _ h => exact .cons _ _ _ _ [] [] [] [] (.d _ _ (h.move hS hc)) (dreps_move hS hc hs)
theorem sp39 (s : Fam) : sp s 50 = ansOf c_tree_mapper_program rc_tree_mapper_program.enc s.f_tree_mapper_program := by kernel_rfl
def ProgR (Sl : Nat → Nat → Prop) (w : World) (u : Value) (p : TProgram) : Prop := ∃ us : Array Value, u = .agg us ∧ PReps EE Sl w (fun _ => True) 0 us.toList ((row_TProgram p).map .d) [] []
theorem enc_prog (p : TProgram) : c_TProgram.enc p = .agg ((row_TProgram p).map .d) := rfl
theorem arep_prog {Sl : Nat → Nat → Prop} {w : World} {X0 : Nat → Prop} {B0 : Nat} {v : Value} {p : TProgram} {fp : List Nat} {rs : List Value} (h : ARep EE Sl w X0 B0 v (c_TProgram.enc p) fp rs) : ProgR Sl w v p ∧ fp = [] ∧ rs = [] := by
  rw [enc_prog] at h
  cases h with
  | agg us _ _ _ h =>
    have := dreps_of h
    exact ⟨⟨us, rfl, dreps_move (fun _ _ h => h) (fun _ _ _ _ h => h) h⟩, this.2.1, this.2.2⟩
theorem drep_slice {Sl : Nat → Nat → Prop} {w : World} {v : Value} {t : Nat} {xs : List (II t)} (h : DRep EE Sl w v (.sl t xs)) : ∃ A n c, v = .slice A n c := by
  cases h with
  | sl _ _ A n c => exact ⟨A, n, c, rfl⟩
theorem preps_d {Sl : Nat → Nat → Prop} {w : World} {X0 : Nat → Prop} {B0 : Nat} {d : DV II} {ds : List (CV II)} {us : List Value} {fp : List Nat} {rs : List Value} (h : PReps EE Sl w X0 B0 us (.d d :: ds) fp rs) : ∃ v vs, us = v :: vs ∧ DRep EE Sl w v d ∧ PReps EE Sl w X0 B0 vs ds fp rs := by
  cases h with
  | cons v vs x xs p q r t h hs => cases h with | d _ _ h => exact ⟨v, vs, rfl, h, hs⟩
theorem ProgR.nine {Sl : Nat → Nat → Prop} {w : World} {u : Value} {p : TProgram} (h : ProgR Sl w u p) : ∃ s0 A1 n1 c1 A2 n2 c2 A3 n3 c3 A4 n4 c4 A5 n5 c5 A6 n6 c6 A7 n7 c7 A8 n8 c8, u = .agg #[.string s0, .slice A1 n1 c1, .slice A2 n2 c2, .slice A3 n3 c3, .slice A4 n4 c4, .slice A5 n5 c5, .slice A6 n6 c6, .slice A7 n7 c7, .slice A8 n8 c8] := by
  obtain ⟨us, rfl, h⟩ := h
  have h : PReps EE Sl w (fun _ => True) 0 us.toList [.d (.lit (.string p.Name)), .d (.sl 9 p.Before), .d (.sl 9 p.Mid), .d (.sl 9 p.After), .d (.sl 46 p.Recs), .d (.sl 56 p.Vars), .d (.sl 90 p.Routines), .d (.sl 97 p.Body), .d (.sl 9 p.End)] [] [] := h
  obtain ⟨l⟩ := us
  obtain ⟨v0, l0, e0, h0, z0⟩ := preps_d h
  have x0 := drep_lit h0
  obtain ⟨v1, l1, e1, h1, z1⟩ := preps_d z0
  obtain ⟨A1, n1, c1, x1⟩ := drep_slice h1
  obtain ⟨v2, l2, e2, h2, z2⟩ := preps_d z1
  obtain ⟨A2, n2, c2, x2⟩ := drep_slice h2
  obtain ⟨v3, l3, e3, h3, z3⟩ := preps_d z2
  obtain ⟨A3, n3, c3, x3⟩ := drep_slice h3
  obtain ⟨v4, l4, e4, h4, z4⟩ := preps_d z3
  obtain ⟨A4, n4, c4, x4⟩ := drep_slice h4
  obtain ⟨v5, l5, e5, h5, z5⟩ := preps_d z4
  obtain ⟨A5, n5, c5, x5⟩ := drep_slice h5
  obtain ⟨v6, l6, e6, h6, z6⟩ := preps_d z5
  obtain ⟨A6, n6, c6, x6⟩ := drep_slice h6
  obtain ⟨v7, l7, e7, h7, z7⟩ := preps_d z6
  obtain ⟨A7, n7, c7, x7⟩ := drep_slice h7
  obtain ⟨v8, l8, e8, h8, z8⟩ := preps_d z7
  obtain ⟨A8, n8, c8, x8⟩ := drep_slice h8
  cases z8
  subst e8 e7 e6 e5 e4 e3 e2 e1
  have e0 : l = _ := e0
  subst x0 x1 x2 x3 x4 x5 x6 x7 x8 e0
  exact ⟨_, _, _, _, _, _, _, _, _, _, _, _, _, _, _, _, _, _, _, _, _, _, _, _, _, rfl⟩
theorem ProgR.move {Sl Sl' : Nat → Nat → Prop} {w w' : World} {u : Value} {p : TProgram} (h : ProgR Sl w u p) (hS : ∀ g o, Sl g o → Sl' g o) (hc : ∀ g o u, Sl g o → w.cell? ⟨g, o, none⟩ = some u → w'.cell? ⟨g, o, none⟩ = some u) : ProgR Sl' w' u p := by
  obtain ⟨us, rfl, h⟩ := h
  exact ⟨us, rfl, dreps_move hS hc h⟩
structure ProgTo (Sl : Nat → Nat → Prop) (w0 W : World) (v : Value) (fp : List Nat) (q : TProgram) (th : Thing) (u : Value) (w' : World) : Prop where
  ex : ∃ Sl' p2, KeepX (fun _ => False) w0.heap.size w0 w' ∧ Ext Sl Sl' w0 w' [] ∧ (∀ g o, Sl' g o → Sl g o ∨ W.heap.size ≤ g ∨ g ∈ fp) ∧ ProgR Sl' w' u q ∧ EE.frep th Sl' w' v p2 ∧ p2.Nodup ∧ ∀ k ∈ p2, w0.heap.size ≤ k ∧ k < w'.heap.size ∧ ∀ j, ¬ Sl' k j
  size : W.heap.size ≤ w'.heap.size
  same : ∀ k, k < W.heap.size → ¬ k ∈ fp → w'.heap[k]? = W.heap[k]?
theorem inv_below {w W : World} (h : EE.inv w) (hb : Below w.heap.size w W) : EE.inv W := EE.invKeep w W h fun k hk => hb.block k (EE.invLt w k h hk)
theorem prog_calls {s : Fam} (hS : ∀ f, SpecOK Tryz.prog EE (sp s) f) {th : Thing} {p : TProgram} {r : b_tree_mapper_program} (hr : s.f_tree_mapper_program ((th, ()), p, ()) = some r) {Sl : Nat → Nat → Prop} {w0 W : World} {v u : Value} {fp : List Nat}
    (hSl : ∀ g o, Sl g o → g < w0.heap.size) (hb : Below w0.heap.size w0 W) (hiv : EE.inv w0) (hp : ProgR Sl w0 u p) (hf : EE.frep th Sl W v fp) (h1 : v.oneCell' = true) (hk : ∀ k ∈ fp, w0.heap.size ≤ k ∧ k < W.heap.size) (hnd : fp.Nodup) :
    Calls Tryz.prog 50 #[.agg #[v], u] W fun e w' => ∃ u', e = .returned u' ∧ ProgTo Sl w0 W v fp r.1 r.2.1 u' w' := by
  have hcell : ∀ g o u, Sl g o → w0.cell? ⟨g, o, none⟩ = some u → W.cell? ⟨g, o, none⟩ = some u := fun g o u hs hu => (cell_same (hb.block g (hSl g o hs))).trans hu
  have hno : ∀ k ∈ fp, ∀ j, ¬ Sl k j := fun k hk' j hj => by have := hSl k j hj; have := (hk k hk').1; omega
  obtain ⟨us, rfl, hp⟩ := hp
  have hSl' : ∀ g o, Sl g o → g < W.heap.size := fun g o h => Nat.lt_of_lt_of_le (hSl g o h) hb.size
  have hm : PReps EE Sl W (· ∈ fp) W.heap.size [v] [.fd th] fp [v] := by
    have := PReps.cons (E := EE) (Sl := Sl) (w := W) (X0 := (· ∈ fp)) (B0 := W.heap.size) v [] (.fd th) [] fp [] [v] [] (.fd _ _ _ hf h1 fun k hk' => ⟨(hk k hk').2, hno k hk'⟩) .nil
    simpa using this
  have ha : AReps EE Sl W (· ∈ fp) W.heap.size [.agg #[v], .agg us] (c_tree_mapper_program.enc ((th, ()), p, ())) fp [v] := by
    have := AReps.cons (E := EE) (Sl := Sl) (w := W) (X0 := (· ∈ fp)) (B0 := W.heap.size) (.agg #[v]) [.agg us] (.agg [.fd th]) [c_TProgram.enc p] fp [] [v] [] (.agg _ _ _ _ hm) (.cons _ _ _ _ [] [] [] [] (.agg us _ [] [] (dreps_move (fun _ _ h => h) hcell hp)) .nil)
    rw [List.append_nil] at this
    exact this
  obtain ⟨g', args, hc, hfn, hcalls⟩ := hS 50 (c_tree_mapper_program.enc ((th, ()), p, ())) (rc_tree_mapper_program.enc r) (by rw [sp39]; exact ans_run _ _ _ rfl hr) Sl W _ fp [v] hSl' ha hnd
    (fun k hk' => ⟨(hk k hk').2, fun hg => by have := EE.invLt w0 k hiv hg; have := (hk k hk').1; omega⟩) (inv_below hiv hb)
  rcases hc with ⟨_, rfl, hargs⟩ | ⟨hne, _⟩
  · have : args = #[.agg #[v], .agg us] := by cases args; simpa using hargs
    subst this
    refine hcalls.mono fun e w' ⟨u', he, Sl', p1, p2, r1, r2, hkeep, hext, hu, hps, hnd', hlt⟩ => ⟨u', he, ?_⟩
    obtain ⟨hq, rfl, rfl⟩ := arep_prog hu
    refine ⟨⟨Sl', p2, ⟨hkeep.os.trans hb.os, hkeep.tape.trans hb.tape, hkeep.output.trans hb.output, Nat.le_trans hb.size hkeep.size, fun i hi _ => (hkeep.block i (Nat.lt_of_lt_of_le hi hb.size) fun hm => by have := (hk i hm).1; omega).trans (hb.block i hi)⟩,
      ⟨hext.s, fun g o hg => (hext.n g o hg).imp id fun hx => ⟨.inl (hx.1.elim (fun h => Nat.le_trans hb.size h) fun h => (hk g h).1), hx.2⟩, fun g o u hs hu => hext.c g o u hs (hcell g o u hs hu)⟩, fun g o hg => (hext.n g o hg).imp id fun hx => hx.1, hq, ?_⟩, hkeep.size, fun k h1 h2 => hkeep.block k h1 h2⟩
    have hps : PReps EE Sl' w' (fun _ => True) 0 [v] [.fd r.2.1] p2 r2 := hps
    cases hps with
    | cons _ _ _ _ p' q' r' t' h hs =>
      cases hs
      cases h with
      | fd _ _ _ h _ hk2 =>
        simp only [List.append_nil, List.nil_append] at hnd' hlt hk2 ⊢
        exact ⟨h, hnd', fun k hk' => ⟨(hlt k hk').2.elim (fun h => Nat.le_trans hb.size h) fun h => (hk k h).1, hk2 k hk'⟩⟩
  · cases hne
end Go.Ev
end
section
open Go Go.Proofs
namespace Go.Ev
open Go.RowKit Go.Proofs.YtlepjafokfhnfaaGreatDoor Go.Proofs.YtlepjafokfhnfaaGreatDoorW.PrintWords Go.Proofs.YtlepjafokfhnfaaGreatDoorW.PrintLast Go.Proofs.YtlepjafokfhnfaaGreatDoorW.PrintMore
set_option linter.unusedVariables false
set_option linter.unusedSimpArgs false
set_option maxHeartbeats 4000000
set_option maxRecDepth 100000
theorem heap_top (w : World) (a : Go.Obj) : (w.alloc a).heap[w.heap.size]? = some a := (MapKept.heap_alloc w a).1
theorem heap_mid (w : World) (a b c : Go.Obj) : (((w.alloc a).alloc b).alloc c).heap[w.heap.size + 1]? = some b := by
  rw [Below.heap_alloc _ _ _ (by simp only [size_alloc]; omega)]
  have := heap_top (w.alloc a) b
  rwa [size_alloc] at this
theorem heap_three (w : World) (a b c : Go.Obj) : (((w.alloc a).alloc b).alloc c).heap[w.heap.size + 1 + 1]? = some c := by
  have := heap_top ((w.alloc a).alloc b) c
  rwa [size_alloc, size_alloc] at this
theorem cells_set {w : World} {g t : Nat} {cs : Array Value} (h : w.heap[g]? = some (.cells cs t (0, 0))) (j : Nat) (v : Value) : (w.setCell ⟨g, j, none⟩ v).heap[g]? = some (.cells (cs.setIfInBounds j v) t (0, 0)) := by
  simp [World.setCell, Array.getElem?_modify, h]
theorem so (w : World) (a : Addr) (v : Value) : (w.setCell a v).os = w.os := by simp only [World.setCell]
theorem st (w : World) (a : Addr) (v : Value) : (w.setCell a v).tape = w.tape := by simp only [World.setCell]
theorem su (w : World) (a : Addr) (v : Value) : (w.setCell a v).output = w.output := by simp only [World.setCell]
theorem sz (w : World) (a : Addr) (v : Value) : (w.setCell a v).heap.size = w.heap.size := by simp only [World.setCell, Array.size_modify]
def set9 (w : World) (g : Nat) (b0 b1 b2 b3 b4 b5 b6 b7 b8 : Value) : World := (((((((((w.setCell ⟨g, 0, none⟩ b0).setCell ⟨g, 1, none⟩ b1).setCell ⟨g, 2, none⟩ b2).setCell ⟨g, 3, none⟩ b3).setCell ⟨g, 4, none⟩ b4).setCell ⟨g, 5, none⟩ b5).setCell ⟨g, 6, none⟩ b6).setCell ⟨g, 7, none⟩ b7).setCell ⟨g, 8, none⟩ b8)
theorem set9_at {w : World} {g t : Nat} {a0 a1 a2 a3 a4 a5 a6 a7 a8 b0 b1 b2 b3 b4 b5 b6 b7 b8 : Value} (h : w.heap[g]? = some (.cells #[a0, a1, a2, a3, a4, a5, a6, a7, a8] t (0, 0))) : (set9 w g b0 b1 b2 b3 b4 b5 b6 b7 b8).heap[g]? = some (.cells #[b0, b1, b2, b3, b4, b5, b6, b7, b8] t (0, 0)) := by
  have h0 := cells_set h 0 b0
  have h1 := cells_set h0 1 b1
  have h2 := cells_set h1 2 b2
  have h3 := cells_set h2 3 b3
  have h4 := cells_set h3 4 b4
  have h5 := cells_set h4 5 b5
  have h6 := cells_set h5 6 b6
  have h7 := cells_set h6 7 b7
  have h8 := cells_set h7 8 b8
  simp only [List.setIfInBounds_toArray, List.set_cons_zero, List.set_cons_succ] at h8
  exact h8
theorem set9_ne {w : World} {g : Nat} {b0 b1 b2 b3 b4 b5 b6 b7 b8 : Value} (k : Nat) (hk : k ≠ g) : (set9 w g b0 b1 b2 b3 b4 b5 b6 b7 b8).heap[k]? = w.heap[k]? := by
  exact (Below.heap_setCell _ ⟨g, 8, none⟩ _ k hk).trans ((Below.heap_setCell _ ⟨g, 7, none⟩ _ k hk).trans ((Below.heap_setCell _ ⟨g, 6, none⟩ _ k hk).trans ((Below.heap_setCell _ ⟨g, 5, none⟩ _ k hk).trans ((Below.heap_setCell _ ⟨g, 4, none⟩ _ k hk).trans ((Below.heap_setCell _ ⟨g, 3, none⟩ _ k hk).trans ((Below.heap_setCell _ ⟨g, 2, none⟩ _ k hk).trans ((Below.heap_setCell _ ⟨g, 1, none⟩ _ k hk).trans ((Below.heap_setCell _ ⟨g, 0, none⟩ _ k hk)))))))))
theorem set9_size {w : World} {g : Nat} {b0 b1 b2 b3 b4 b5 b6 b7 b8 : Value} : (set9 w g b0 b1 b2 b3 b4 b5 b6 b7 b8).heap.size = w.heap.size := by
  exact (sz _ _ _).trans ((sz _ _ _).trans ((sz _ _ _).trans ((sz _ _ _).trans ((sz _ _ _).trans ((sz _ _ _).trans ((sz _ _ _).trans ((sz _ _ _).trans (sz _ _ _))))))))
theorem set9_all (w : World) (g : Nat) (b0 b1 b2 b3 b4 b5 b6 b7 b8 : Value) : (set9 w g b0 b1 b2 b3 b4 b5 b6 b7 b8).os = w.os ∧ (set9 w g b0 b1 b2 b3 b4 b5 b6 b7 b8).tape = w.tape ∧ (set9 w g b0 b1 b2 b3 b4 b5 b6 b7 b8).output = w.output ∧ (set9 w g b0 b1 b2 b3 b4 b5 b6 b7 b8).heap.size = w.heap.size ∧ ∀ k, k ≠ g → (set9 w g b0 b1 b2 b3 b4 b5 b6 b7 b8).heap[k]? = w.heap[k]? :=
  ⟨(so _ _ _).trans ((so _ _ _).trans ((so _ _ _).trans ((so _ _ _).trans ((so _ _ _).trans ((so _ _ _).trans ((so _ _ _).trans ((so _ _ _).trans (so _ _ _)))))))), (st _ _ _).trans ((st _ _ _).trans ((st _ _ _).trans ((st _ _ _).trans ((st _ _ _).trans ((st _ _ _).trans ((st _ _ _).trans ((st _ _ _).trans (st _ _ _)))))))), (su _ _ _).trans ((su _ _ _).trans ((su _ _ _).trans ((su _ _ _).trans ((su _ _ _).trans ((su _ _ _).trans ((su _ _ _).trans ((su _ _ _).trans (su _ _ _)))))))), set9_size, fun k hk => set9_ne k hk⟩
theorem res16 (tmps : Array Value) (g : Nat) (w : World) (cs : Array Value) (h4 : tmps.getD 4 undef = .pointer (some ⟨g, 0, none⟩)) (hg : w.heap[g]? = some (.cells cs 28 (0, 0))) (hs : cs.size = 9) : (results Tryz.f28 tmps).run Tryz.prog w = .ok (.agg cs) w :=
  results_cell_row rfl tmps w g 28 cs (0, 0) _ h4 hg Tryz.underlying28 rfl (by rw [hs]; kernel_rfl)
theorem rename_walk {s : Fam} (hS : ∀ f, SpecOK Tryz.prog EE (sp s) f) {p : TProgram} {l : List TPair} {r : b_tree_mapper_program} (hr : s.f_tree_mapper_program ((Thing.ren l, ()), p, ()) = some r) {Sl : Nat → Nat → Prop} {w : World} {sv : Value} {s0 : ByteArray} {A1 A2 A3 A4 A5 A6 A7 A8 : Option Addr} {n1 n2 n3 n4 n5 n6 n7 n8 c1 c2 c3 c4 c5 c6 c7 c8 : Nat}
    (hSl : ∀ g o, Sl g o → g < w.heap.size) (hiv : EE.inv w) (hp : ProgR Sl w (.agg #[.string s0, .slice A1 n1 c1, .slice A2 n2 c2, .slice A3 n3 c3, .slice A4 n4 c4, .slice A5 n5 c5, .slice A6 n6 c6, .slice A7 n7 c7, .slice A8 n8 c8]) p) (hd : DRep EE0 Sl w sv (.sl 58 l)) (A : Option Addr) (n c : Nat) (hsv : sv = .slice A n c) :
    Calls Tryz.prog 28 #[.agg #[.string s0, .slice A1 n1 c1, .slice A2 n2 c2, .slice A3 n3 c3, .slice A4 n4 c4, .slice A5 n5 c5, .slice A6 n6 c6, .slice A7 n7 c7, .slice A8 n8 c8], sv] w fun e w' => ∃ u', e = .returned u' ∧ Answers EE Sl w [] [] (rc_tree_Rename.enc r.1) u' w' := by
  subst hsv
  have HP := Lib.hid hp
  have HD := Lib.hid hd
  have HR := Lib.hid hr
  have HS := Lib.hid hS
  have HSL := Lib.hid hSl
  have HI := Lib.hid hiv
  clear hp hd hr hS hSl hiv
  go_enter Tryz.func28, Tryz.ntmps28
  go_wp2_with (first | (go_at_call 50; go_must (refine (prog_calls HS.out HR.out HSL.out (below_alloc (below_alloc (below_alloc (Below.refl _ _) _) _) _) HI.out HP.out (fp := [w.heap.size + 1]) ?hf rfl ?hk (by simp)).mono ?_; (case hf => exact ⟨w.heap.size + 1, .slice A n c, rfl, rfl, heap_mid _ _ _ _, HD.out.move (fun _ _ h => h) (fun g o u hs hu => (cell_same ((below_alloc (below_alloc (below_alloc (Below.refl _ w) _) _) _).block g (HSL.out g o hs))).trans hu)⟩); (case hk => intro k hk; simp only [List.mem_singleton] at hk; subst hk; simp only [size_alloc]; omega)); go_must (rintro e w5 ⟨u', rfl, H5⟩; have H := Lib.hid H5; obtain ⟨⟨Sl5, p2, _, _, _, hq, _⟩, _, hsame⟩ := H5; obtain ⟨t0, D1, m1, e1, D2, m2, e2, D3, m3, e3, D4, m4, e4, D5, m5, e5, D6, m6, e6, D7, m7, e7, D8, m8, e8, rfl⟩ := hq.nine; have hb := hsame (w.heap.size + 1 + 1) (by simp only [size_alloc]; omega) (by simp); rw [heap_three] at hb; have f0 := Lib.frozen_of_heap hb 0; have c0 : w5.cell? ⟨w.heap.size + 1 + 1, 0, none⟩ = some (.string ⟨#[]⟩) := by { simp [World.cell?, hb] }; have f1 := Lib.frozen_of_heap hb 1; have c1 : w5.cell? ⟨w.heap.size + 1 + 1, 1, none⟩ = some (.slice none 0 0) := by { simp [World.cell?, hb] }; have f2 := Lib.frozen_of_heap hb 2; have c2 : w5.cell? ⟨w.heap.size + 1 + 1, 2, none⟩ = some (.slice none 0 0) := by { simp [World.cell?, hb] }; have f3 := Lib.frozen_of_heap hb 3; have c3 : w5.cell? ⟨w.heap.size + 1 + 1, 3, none⟩ = some (.slice none 0 0) := by { simp [World.cell?, hb] }; have f4 := Lib.frozen_of_heap hb 4; have c4 : w5.cell? ⟨w.heap.size + 1 + 1, 4, none⟩ = some (.slice none 0 0) := by { simp [World.cell?, hb] }; have f5 := Lib.frozen_of_heap hb 5; have c5 : w5.cell? ⟨w.heap.size + 1 + 1, 5, none⟩ = some (.slice none 0 0) := by { simp [World.cell?, hb] }; have f6 := Lib.frozen_of_heap hb 6; have c6 : w5.cell? ⟨w.heap.size + 1 + 1, 6, none⟩ = some (.slice none 0 0) := by { simp [World.cell?, hb] }; have f7 := Lib.frozen_of_heap hb 7; have c7 : w5.cell? ⟨w.heap.size + 1 + 1, 7, none⟩ = some (.slice none 0 0) := by { simp [World.cell?, hb] }; have f8 := Lib.frozen_of_heap hb 8; have c8 : w5.cell? ⟨w.heap.size + 1 + 1, 8, none⟩ = some (.slice none 0 0) := by { simp [World.cell?, hb] }; have HB := Lib.hid hb; clear hb hq hsame)))
  go_wp2
  have hset := set9_at (b0 := .string t0) (b1 := .slice D1 m1 e1) (b2 := .slice D2 m2 e2) (b3 := .slice D3 m3 e3) (b4 := .slice D4 m4 e4) (b5 := .slice D5 m5 e5) (b6 := .slice D6 m6 e6) (b7 := .slice D7 m7 e7) (b8 := .slice D8 m8 e8) HB.out
  change bodyPost _ _ _ _ _ (set9 w5 (w.heap.size + 1 + 1) (.string t0) (.slice D1 m1 e1) (.slice D2 m2 e2) (.slice D3 m3 e3) (.slice D4 m4 e4) (.slice D5 m5 e5) (.slice D6 m6 e6) (.slice D7 m7 e7) (.slice D8 m8 e8))
  obtain ⟨k1, k2, k3, k4, k5⟩ := set9_all w5 (w.heap.size + 1 + 1) (.string t0) (.slice D1 m1 e1) (.slice D2 m2 e2) (.slice D3 m3 e3) (.slice D4 m4 e4) (.slice D5 m5 e5) (.slice D6 m6 e6) (.slice D7 m7 e7) (.slice D8 m8 e8)
  generalize set9 w5 (w.heap.size + 1 + 1) (.string t0) (.slice D1 m1 e1) (.slice D2 m2 e2) (.slice D3 m3 e3) (.slice D4 m4 e4) (.slice D5 m5 e5) (.slice D6 m6 e6) (.slice D7 m7 e7) (.slice D8 m8 e8) = w9 at hset k1 k2 k3 k4 k5 ⊢
  refine bodyPost_ret (res16 _ (w.heap.size + 1 + 1) w9 _ rfl hset rfl) rfl ?_
  obtain ⟨⟨Sl5, p2, hkeep, hext, hnew, hq, hf5, hnd5, hk5⟩, hsize, hsame⟩ := H.out
  have hne : ∀ g o, Sl5 g o → g ≠ w.heap.size + 1 + 1 := fun g o hg e => by
    rcases hnew g o hg with h | h | h
    · have := HSL.out g o h; omega
    · simp only [size_alloc] at h; omega
    · simp at h; omega
  have hq' := hq.move (w' := w9) (fun _ _ h => h) fun g o u hs hu => (cell_same (k5 g (hne g o hs))).trans hu
  refine ⟨_, rfl, Sl5, [], [], [], [], ?_, ?_, ?_, .nil, List.nodup_nil, fun k hk => by cases hk⟩
  · exact ⟨k1.trans hkeep.os, k2.trans hkeep.tape, k3.trans hkeep.output, Nat.le_trans hkeep.size (Nat.le_of_eq k4.symm), fun i hi _ => (k5 i (by omega)).trans (hkeep.block i hi (fun h => h))⟩
  · exact ⟨hext.s, fun g o hg => (hext.n g o hg).imp id fun hx => ⟨hx.1, Nat.lt_of_lt_of_le hx.2 (Nat.le_of_eq k4.symm)⟩, fun g o u hs hu => (cell_same (k5 g (by have := HSL.out g o hs; omega))).trans (hext.c g o u hs hu)⟩
  · obtain ⟨us, he, hps⟩ := hq'
    injection he with he
    subst he
    exact .agg _ _ [] [] hps
theorem ok_tree_Rename (s : Fam) (k : Nat) (hS : ∀ f, SpecOK Tryz.prog EE (sp s) f) : SpecA Tryz.prog EE 28 (ansOf c_tree_Rename rc_tree_Rename.enc fun x => B_tree_Rename s k x.1 x.2.1) := by
  refine specA_by _ _ _ fun x y hy Sl w us fp rs hSl hargs hnd hlt hiv => ?_
  obtain ⟨p, l, _⟩ := x
  obtain ⟨r, hr, rfl⟩ := Option.map_eq_some_iff.1 hy
  obtain ⟨v, vs, fp1, fp2, rs1, rs2, rfl, rfl, rfl, h1, h2⟩ := areps_cons hargs
  obtain ⟨hp, rfl, rfl⟩ := arep_prog h1
  obtain ⟨sv, vs', rfl, hd, h3⟩ := areps_d h2
  obtain ⟨rfl, rfl, rfl⟩ := areps_nil h3
  obtain ⟨A, n, c, hsv⟩ := drep_slice hd
  refine ⟨28, #[_, _], .inl ⟨by decide, rfl, rfl⟩, ⟨Tryz.f28, Tryz.func28, by kernel_rfl, by kernel_rfl⟩, ?_⟩
  obtain ⟨s0, A1, n1, c1, A2, n2, c2, A3, n3, c3, A4, n4, c4, A5, n5, c5, A6, n6, c6, A7, n7, c7, A8, n8, c8, rfl⟩ := hp.nine
  exact rename_walk hS hr hSl hiv hp (drep_env' hd) A n c hsv
end Go.Ev
end
section
open Go Go.Proofs
namespace Go.Ev
open Go.RowKit Go.Proofs.YtlepjafokfhnfaaGreatDoor Go.Proofs.YtlepjafokfhnfaaGreatDoorW.PrintWords Go.Proofs.YtlepjafokfhnfaaGreatDoorW.PrintLast Go.Proofs.YtlepjafokfhnfaaGreatDoorW.PrintMore
set_option linter.unusedVariables false
set_option linter.unusedSimpArgs false
set_option maxHeartbeats 4000000
set_option maxRecDepth 100000
theorem make_run73 (w : World) : (Instr.makeMap 100 none).run Tryz.prog w = .ok (.map (some w.heap.size)) (w.alloc (.map #[] 0)) := by
  simp [Instr.makeMap, run_underlying Tryz.underlying100]
  try rfl
theorem heap4_1 (w : World) (a b c d : Go.Obj) : ((((w.alloc a).alloc b).alloc c).alloc d).heap[w.heap.size + 1]? = some b := by
  rw [Below.heap_alloc _ _ _ (by simp only [size_alloc]; omega)]
  exact heap_mid w a b c
theorem heap4_3 (w : World) (a b c d : Go.Obj) : ((((w.alloc a).alloc b).alloc c).alloc d).heap[w.heap.size + 1 + 1 + 1]? = some d := by
  have := heap_top (((w.alloc a).alloc b).alloc c) d
  rwa [size_alloc, size_alloc, size_alloc] at this
theorem map_made (w : World) (a b d : Go.Obj) : MapAt ((((w.alloc a).alloc b).alloc (.map #[] 0)).alloc d) (w.heap.size + 1 + 1) 0 (fun y => ([] : List ByteArray).any fun z => z.toList == y.toList) := by
  refine MapAt.same (w := ((w.alloc a).alloc b).alloc (.map #[] 0)) ?_ (Below.heap_alloc _ _ _ (by simp only [size_alloc]; omega))
  have := World.ownsMap_made (H := Unit) ((w.alloc a).alloc b) Tryz.prog 9 (plainElem Tryz.prog 4)
  rw [size_alloc, size_alloc] at this
  exact ⟨_, this, fun s _ => rfl⟩
theorem names_row {Sl : Nat → Nat → Prop} {w : World} {gs go : Nat} {l : List ByteArray} {fp : List Nat} (h : EE.frep (Thing.names l) Sl w (.func (.func 49) #[] #[.pointer (some ⟨gs, 0, none⟩), .pointer (some ⟨go, 0, none⟩)]) fp) :
    ∃ sv, w.heap[go]? = some (.cells #[sv] 22 (0, 0)) ∧ w.ownsRow 0 9 1 sv l.length (l.map Value.string) ∧ ∀ k, sv.ownBlock = some k → k ∈ fp := by
  obtain ⟨gs', gm, go', sv, n, hv, rfl, _, _, _, h3, h4⟩ := h
  simp at hv
  obtain ⟨rfl, rfl⟩ := hv
  exact ⟨sv, h3, h4, fun k hk => by simp [hk]⟩
theorem names_walk {s : Fam} (hS : ∀ f, SpecOK Tryz.prog EE (sp s) f) {p : TProgram} {l : List ByteArray} {r : b_tree_mapper_program} (hr : s.f_tree_mapper_program ((Thing.names [], ()), p, ()) = some r) (hrl : r.2.1 = .names l) {Sl : Nat → Nat → Prop} {w : World} {s0 : ByteArray} {A1 A2 A3 A4 A5 A6 A7 A8 : Option Addr} {n1 n2 n3 n4 n5 n6 n7 n8 c1 c2 c3 c4 c5 c6 c7 c8 : Nat}
    (hSl : ∀ g o, Sl g o → g < w.heap.size) (hiv : EE.inv w) (hp : ProgR Sl w (.agg #[.string s0, .slice A1 n1 c1, .slice A2 n2 c2, .slice A3 n3 c3, .slice A4 n4 c4, .slice A5 n5 c5, .slice A6 n6 c6, .slice A7 n7 c7, .slice A8 n8 c8]) p) :
    Calls Tryz.prog 24 #[.agg #[.string s0, .slice A1 n1 c1, .slice A2 n2 c2, .slice A3 n3 c3, .slice A4 n4 c4, .slice A5 n5 c5, .slice A6 n6 c6, .slice A7 n7 c7, .slice A8 n8 c8]] w fun e w' => ∃ u', e = .returned u' ∧ Answers EE Sl w [] [] (rc_tree_Names.enc l) u' w' := by
  have HP := Lib.hid hp
  have HR := Lib.hid hr
  have HS := Lib.hid hS
  have HSL := Lib.hid hSl
  have HI := Lib.hid hiv
  have hmk := make_run73
  clear hp hr hS hSl hiv
  go_enter Tryz.func24, Tryz.ntmps24
  go_wp2_with (first | (go_at_call 50; go_must (refine (prog_calls HS.out HR.out HSL.out (below_alloc (below_alloc (below_alloc (below_alloc (Below.refl _ _) _) _) _) _) HI.out HP.out (fp := [w.heap.size + 1 + 1 + 1, w.heap.size + 1 + 1, w.heap.size + 1]) ?hf rfl ?hk (by simp; omega)).mono ?_; (case hf => exact ⟨w.heap.size + 1 + 1 + 1, w.heap.size + 1 + 1, w.heap.size + 1, .slice none 0 0, 0, rfl, rfl, Nat.zero_le _, heap4_3 _ _ _ _ _, (map_made w _ _ _).same rfl, heap4_1 _ _ _ _ _, rfl, .inl ⟨rfl, rfl⟩⟩); (case hk => intro k hk; simp only [List.mem_cons, List.not_mem_nil, or_false] at hk; simp only [size_alloc]; omega)); go_must (rintro e w5 ⟨u', rfl, H5⟩; have H := Lib.hid H5; obtain ⟨⟨Sl5, p2, _, _, _, _, hf5, _⟩, _, _⟩ := H5; rw [hrl] at hf5; obtain ⟨sv, hgo, hown, _⟩ := names_row hf5; obtain ⟨A9, c9, rfl⟩ := owns_slice hown; have hc9 : w5.cell? ⟨w.heap.size + 1, 0, none⟩ = some (.slice A9 l.length c9) := by { simp [World.cell?, hgo] }; clear hf5 hgo hown)))
  go_ret
  obtain ⟨⟨Sl5, p2, hkeep, hext, hnew, hq, hf5, hnd5, hk5⟩, _, _⟩ := H.out
  rw [hrl] at hf5
  obtain ⟨sv, hgo, hown, hin⟩ := names_row hf5
  obtain rfl : sv = .slice A9 l.length c9 := by
    simp only [World.cell?, hgo] at hc9
    simpa using hc9
  refine ⟨_, rfl, fun g j => Sl5 g j ∨ ((Value.slice A9 l.length c9).ownBlock = some g ∧ j < l.length), [], [], [], [], keepX_mono hkeep (fun _ h => h.elim), ⟨fun g o h => .inl (hext.s g o h), fun g o h => ?_, hext.c⟩, .c _ _ _ _ (.d _ _ ?_), .nil, List.nodup_nil, fun k hk => by cases hk⟩
  · rcases h with h | ⟨h, _⟩
    · exact hext.n g o h
    · have := hk5 g (hin g h)
      exact .inr ⟨.inl this.1, this.2.1⟩
  · refine own_sl hEE (ti := { size := 1, bytes := 16, zero := [.string ⟨#[]⟩], td := .string }) (by kernel_rfl) hown (fun i r j y hi hj => ?_) (fun k hk j => ?_)
    · have hj' : ([DV.lit (.string r)] : List (DV II))[j]? = some y := hj
      cases j with
      | zero =>
        simp at hj'
        subst hj'
        exact ⟨.string r, by simp [hi], .lit _ rfl⟩
      | succ j => simp at hj'
    · constructor
      · rintro (h | ⟨_, h⟩)
        · exact absurd h ((hk5 k (hin k hk)).2.2 j)
        · simpa using h
      · intro h
        exact .inr ⟨hk, by simpa using h⟩
theorem ok_tree_Names (s : Fam) (k : Nat) (hS : ∀ f, SpecOK Tryz.prog EE (sp s) f) : SpecA Tryz.prog EE 24 (ansOf c_tree_Names rc_tree_Names.enc fun x => B_tree_Names s k x.1) := by
  refine specA_by _ _ _ fun x y hy Sl w us fp rs hSl hargs hnd hlt hiv => ?_
  obtain ⟨p, _⟩ := x
  obtain ⟨r, hr, hy⟩ := Option.bind_eq_some_iff.1 hy
  obtain ⟨v, vs, fp1, fp2, rs1, rs2, rfl, rfl, rfl, h1, h2⟩ := areps_cons hargs
  obtain ⟨hp, rfl, rfl⟩ := arep_prog h1
  obtain ⟨rfl, rfl, rfl⟩ := areps_nil h2
  refine ⟨24, #[_], .inl ⟨by decide, rfl, rfl⟩, ⟨Tryz.f24, Tryz.func24, by kernel_rfl, by kernel_rfl⟩, ?_⟩
  obtain ⟨s0, A1, n1, c1, A2, n2, c2, A3, n3, c3, A4, n4, c4, A5, n5, c5, A6, n6, c6, A7, n7, c7, A8, n8, c8, rfl⟩ := hp.nine
  cases hrl : r.2.1 with
  | ren => rw [hrl] at hy; cases hy
  | names l =>
    rw [hrl] at hy
    injection hy with hy
    subst hy
    exact names_walk hS hr hrl hSl hiv hp
end Go.Ev
end
section
open Go Go.Proofs
namespace Go.Ev
open Go.RowKit Go.Proofs.YtlepjafokfhnfaaGreatDoor Go.Proofs.YtlepjafokfhnfaaGreatDoorW.PrintWords Go.Proofs.YtlepjafokfhnfaaGreatDoorW.PrintLast Go.Proofs.YtlepjafokfhnfaaGreatDoorW.PrintMore
set_option linter.unusedVariables false
set_option linter.unusedSimpArgs false
set_option maxHeartbeats 4000000
set_option maxRecDepth 100000
structure PIn (Sl : Nat → Nat → Prop) (w : World) (v : Value) (fp : List Nat) (th : Thing) (wr : World) (fp' : List Nat) (Slr : Nat → Nat → Prop) : Prop where
  rep : EE.frep th Slr wr v fp'
  nd : fp'.Nodup
  at_ : ∀ k ∈ fp', k < wr.heap.size ∧ (∀ j, ¬ Slr k j) ∧ (k ∈ fp ∨ w.heap.size + 2 ≤ k)
  keep : KeepX (· ∈ fp) w.heap.size w wr
  size : w.heap.size + 2 ≤ wr.heap.size
  ext : Ext Sl Slr w wr fp
  news : ∀ g o, Slr g o → Sl g o ∨ g ∈ fp ∨ w.heap.size + 2 ≤ g
def PMid (Sl : Nat → Nat → Prop) (w : World) (v : Value) (fp : List Nat) (th : Thing) (wr : World) : Prop := ∃ fp' Slr, PIn Sl w v fp th wr fp' Slr
theorem sp_by (s : Fam) : sp s 1000003 = ansOf c_by rc_by.enc s.f_by := by kernel_rfl
section
variable {s : Fam} {Sl : Nat → Nat → Prop} {w wr : World} {v : Value} {fp : List Nat} {th : Thing}
theorem by_step (hS : ∀ f, SpecOK Tryz.prog EE (sp s) f) (hSl : ∀ g o, Sl g o → g < w.heap.size) (hiv : EE.inv w) (hfp : ∀ k ∈ fp, k < w.heap.size ∧ ¬ EE.glob k) (h1 : v.oneCell' = true) {g : Nat} {cs : Array Value} (hv : v = .func (.func g) #[] cs)
    (hm : PMid Sl w v fp th wr) {p : ByteArray} {t : b_by} (ht : s.f_by (th, p, ()) = some t) {args : Array Value} (ha : args.toList = .string p :: cs.toList) :
    Calls Tryz.prog g args wr fun e w' => e = .returned (.string t.1) ∧ PMid Sl w v fp t.2.1 w' ∧ w'.heap[w.heap.size]? = wr.heap[w.heap.size]? ∧ w'.heap[w.heap.size + 1]? = wr.heap[w.heap.size + 1]? := by
  obtain ⟨fp', Slr, hp⟩ := hm
  have hlt : ∀ g o, Slr g o → g < wr.heap.size := fun g o h => by
    rcases hp.ext.n g o h with h | ⟨_, h⟩
    · exact Nat.lt_of_lt_of_le (hSl g o h) hp.keep.size
    · exact h
  have hinv : EE.inv wr := EE.invKeep w wr hiv fun k hk => hp.keep.block k (EE.invLt w k hiv hk) fun hm => (hfp k hm).2 hk
  have hpp : PReps EE Slr wr (· ∈ fp') wr.heap.size [v] [.fd th] fp' [v] := by
    have := PReps.cons (E := EE) (Sl := Slr) (w := wr) (X0 := (· ∈ fp')) (B0 := wr.heap.size) v [] (.fd th) [] fp' [] [v] [] (.fd _ _ _ hp.rep h1 fun k hk => ⟨(hp.at_ k hk).1, (hp.at_ k hk).2.1⟩) .nil
    simpa using this
  have hargs : AReps EE Slr wr (· ∈ fp') wr.heap.size [v, .string p] (c_by.enc (th, p, ())) fp' [v] := by
    have := AReps.cons (E := EE) (Sl := Slr) (w := wr) (X0 := (· ∈ fp')) (B0 := wr.heap.size) v [.string p] (.c (.fd th)) [.c (.d (.lit (.string p)))] fp' [] [v] [] (.c _ _ _ _ (.fd _ _ _ hp.rep h1 fun k hk => ⟨(hp.at_ k hk).1, (hp.at_ k hk).2.1⟩)) (.cons _ _ _ _ [] [] [] [] (.c _ _ _ _ (.d _ _ (.lit _ rfl))) .nil)
    rw [List.append_nil] at this
    exact this
  obtain ⟨g', args', hc, hfn, hcalls⟩ := hS 1000003 (c_by.enc (th, p, ())) (rc_by.enc t) (by rw [sp_by]; exact ans_run _ _ _ rfl ht) Slr wr [v, .string p] fp' [v] hlt hargs hp.nd
    (fun k hk => ⟨(hp.at_ k hk).1, fun hg => by
      rcases (hp.at_ k hk).2.2 with h | h
      · exact (hfp k h).2 hg
      · have := EE.invLt w k hiv hg; omega⟩) hinv
  rcases hc with ⟨h, _⟩ | ⟨_, fs, cs', rest, he, hargs'⟩
  · exact absurd rfl h
  · rw [hv] at he
    injection he with he1 he2
    injection he1 with e1 e2 e3
    injection e1 with e1
    subst e1 e2 e3
    have : args = args' := by
      apply Array.toList_inj.1
      rw [ha, hargs', ← he2]
      simp
    subst this
    refine hcalls.mono fun e w' ⟨u, he, Sl', p1, p2, r1, r2, hkeep, hext, hu, hps, hnd', hb⟩ => ?_
    obtain ⟨hu1, rfl, rfl⟩ := arep_d hu
    have := drep_lit hu1
    subst this
    have hps : PReps EE Sl' w' (fun _ => True) 0 [v] [.fd t.2.1] p2 r2 := hps
    have hno : ∀ i, i < w.heap.size + 2 → ¬ i ∈ fp → ¬ i ∈ fp' := fun i hi hn hm => by
      rcases (hp.at_ i hm).2.2 with h | h
      · exact hn h
      · omega
    cases hps with
    | cons _ _ _ _ p' q' r' t' h hs =>
      cases hs
      cases h with
      | fd _ _ _ hf _ hk2 =>
        simp only [List.append_nil, List.nil_append] at hnd' hb hk2
        refine ⟨he, ⟨p', Sl', hf, hnd', fun k hk => ⟨(hb k hk).1, (hk2 k hk).2, ?_⟩, ⟨hkeep.os.trans hp.keep.os, hkeep.tape.trans hp.keep.tape, hkeep.output.trans hp.keep.output, Nat.le_trans hp.keep.size hkeep.size, fun i hi hn => (hkeep.block i (Nat.lt_of_lt_of_le hi hp.keep.size) (hno i (by omega) hn)).trans (hp.keep.block i hi hn)⟩, Nat.le_trans hp.size hkeep.size,
          ⟨fun g o h => hext.s g o (hp.ext.s g o h), fun g o h => ?_, fun g o u hs hu => hext.c g o u (hp.ext.s g o hs) (hp.ext.c g o u hs hu)⟩, fun g o h => ?_⟩, hkeep.block _ (by have := hp.size; omega) (hno _ (by omega) fun h => by have := (hfp _ h).1; omega), hkeep.block _ (by have := hp.size; omega) (hno _ (by omega) fun h => by have := (hfp _ h).1; omega)⟩
        · rcases (hb k hk).2 with h | h
          · exact .inr (Nat.le_trans hp.size h)
          · exact (hp.at_ k h).2.2
        · rcases hext.n g o h with h | ⟨h | h, h2⟩
          · rcases hp.ext.n g o h with h | ⟨h, h3⟩
            · exact .inl h
            · exact .inr ⟨h, Nat.lt_of_lt_of_le h3 hkeep.size⟩
          · exact .inr ⟨.inl (Nat.le_trans hp.keep.size h), h2⟩
          · rcases (hp.at_ g h).2.2 with h | h
            · exact .inr ⟨.inr h, h2⟩
            · exact .inr ⟨.inl (by omega), h2⟩
        · rcases hext.n g o h with h | ⟨h | h, h2⟩
          · exact hp.news g o h
          · exact .inr (.inr (Nat.le_trans hp.size h))
          · exact .inr ((hp.at_ g h).2.2)
theorem PMid.set (hSl : ∀ g o, Sl g o → g < w.heap.size) (hfp : ∀ k ∈ fp, k < w.heap.size ∧ ¬ EE.glob k) (hm : PMid Sl w v fp th wr) (j : Nat) (x : Value) : PMid Sl w v fp th (wr.setCell ⟨w.heap.size + 1, j, none⟩ x) := by
  obtain ⟨fp', Slr, hp⟩ := hm
  have hs : ∀ i, i ≠ w.heap.size + 1 → (wr.setCell ⟨w.heap.size + 1, j, none⟩ x).heap[i]? = wr.heap[i]? := fun i hi => Below.heap_setCell _ ⟨w.heap.size + 1, j, none⟩ x i hi
  have hz := sz wr ⟨w.heap.size + 1, j, none⟩ x
  have h1 : ∀ k ∈ fp', k ≠ w.heap.size + 1 := fun k hk e => by
    rcases (hp.at_ k hk).2.2 with h | h
    · have := (hfp k h).1; omega
    · omega
  have h2 : ∀ g o, Slr g o → g ≠ w.heap.size + 1 := fun g o h e => by
    rcases hp.news g o h with h | h | h
    · have := hSl g o h; omega
    · have := (hfp g h).1; omega
    · omega
  refine ⟨fp', Slr, EE.frame _ Slr Slr wr _ _ _ hp.rep (fun _ _ h => h) (fun g o u hg hu => (cell_same (hs g (h2 g o hg))).trans hu) (fun k hk => hs k (h1 k hk)), hp.nd, fun k hk => ⟨by rw [hz]; exact (hp.at_ k hk).1, (hp.at_ k hk).2⟩,
    ⟨(so _ _ _).trans hp.keep.os, (st _ _ _).trans hp.keep.tape, (su _ _ _).trans hp.keep.output, Nat.le_trans hp.keep.size (Nat.le_of_eq hz.symm), fun i hi hn => (hs i (by omega)).trans (hp.keep.block i hi hn)⟩, Nat.le_trans hp.size (Nat.le_of_eq hz.symm),
    ⟨hp.ext.s, fun g o h => (hp.ext.n g o h).imp id fun h => ⟨h.1, by rw [hz]; exact h.2⟩, fun g o u hg hu => (cell_same (hs g (by have := hSl g o hg; omega))).trans (hp.ext.c g o u hg hu)⟩, hp.news⟩
theorem PMid.start (hSl : ∀ g o, Sl g o → g < w.heap.size) (hf : EE.frep th Sl w v fp) (hk : ∀ k ∈ fp, k < w.heap.size ∧ ∀ j, ¬ Sl k j) (hnd : fp.Nodup) (a b : Go.Obj) : PMid Sl w v fp th ((w.alloc a).alloc b) := by
  have hb : Below w.heap.size w ((w.alloc a).alloc b) := below_alloc (below_alloc (Below.refl _ _) _) _
  have hc : ∀ g o u, Sl g o → w.cell? ⟨g, o, none⟩ = some u → ((w.alloc a).alloc b).cell? ⟨g, o, none⟩ = some u := fun g o u hg hu => (cell_same (hb.block g (hSl g o hg))).trans hu
  refine ⟨fp, Sl, EE.frame _ Sl Sl w _ _ _ hf (fun _ _ h => h) hc (fun k hk' => hb.block k (hk k hk').1), hnd, fun k hk' => ⟨Nat.lt_of_lt_of_le (hk k hk').1 hb.size, (hk k hk').2, .inl hk'⟩, keepX_of_below hb _, by simp only [size_alloc]; omega, ⟨fun _ _ h => h, fun _ _ h => .inl h, hc⟩, fun g o h => .inl h⟩
end
end Go.Ev
end
