/- A part of the proof of RenameSenseUpto (a program makes as much sense as it did, at the same item): a reckoner of the code over data, shown right, and what it gives; conditions stand with each theorem. -/
import Derived.Test.YtlepjafokfhnfaaGreatDoorA1
import Derived.Test.YtlepjafokfhnfaaGreatDoorProg
import Derived.Shelf.Strings.Builder1
import Derived.Shelf.Strings.Builder2
import Derived.Shelf.Strings.OnBuilder
import Derived.Shelf.Strings.BuilderF
import Derived.Shelf.Strings.BuilderK
import Derived.Shelf.Utf8.RuneCount
import Derived.Shelf.Strconv.Itoa0
import Derived.Shelf.Strconv.Itoa1
import Derived.Shelf.LaysM
import Derived.Shelf.Strconv.Itoa2
import Derived.Shelf.Strconv.Itoa3
import Derived.Shelf.Strings.Search1
import Derived.Shelf.Strings.Search2
import Derived.Shelf.Strings.Search3
import Derived.Shelf.Strings.Count
import Derived.Shelf.Strings.Shaped
import Derived.Shelf.Strings.Split
import Derived.Shelf.Strings.Fields
import Derived.Shelf.Strings.SplitShaped
import Derived.Shelf.Unicode.Latin
import Derived.Shelf.Unicode.Decode
import Derived.Shelf.Strings.RuneCount
import Derived.Shelf.Strings.Explode
import Derived.Shelf.Unicode.DecodeSlow
import Derived.Shelf.Unicode.DecodeAny
import Derived.Shelf.Unicode.Is16White
import Derived.Shelf.Unicode.IsSpaceAny
import Derived.Shelf.Unicode.Is16WhiteD
import Derived.Shelf.Unicode.IsSpaceAnyD
import Derived.Shelf.Strings.FieldsAny
import Derived.Shelf.Strings.FieldsFuncAny
import Derived.Shelf.Unicode.Is16Any
import Derived.Shelf.Unicode.Is32Any
import Derived.Shelf.Unicode.ExclAny
import Derived.Ground.Names2Prog
import Derived.Shelf.Slices.Clone
import Derived.Ground.SlgnProg
import Derived.Shelf.SlicesE.Clone
import Derived.Maps.OwnSet
import Derived.Maps.Keyed
import Derived.StringKeys
section
open Go Go.Proofs
namespace Go.Ev
set_option maxRecDepth 100000
set_option maxHeartbeats 4000000
structure TMarks where
  Before : List ByteArray
  Trail : List ByteArray
structure TField where
  Marks_Before : List ByteArray
  Marks_Trail : List ByteArray
  Name : ByteArray
  Kind : Int
structure TType where
  Kind : Int
  Size : Int
  Name : ByteArray
structure TVar where
  Marks_Before : List ByteArray
  Marks_Trail : List ByteArray
  Name : ByteArray
  T_Kind : Int
  T_Size : Int
  T_Name : ByteArray
structure TPair where
  Old : ByteArray
  New : ByteArray
structure TParam where
  Name : ByteArray
  T_Kind : Int
  T_Size : Int
  T_Name : ByteArray
  Mode : Int
structure TExpr where
  Op : Int
  N : Int
  Name : ByteArray
  Field : ByteArray
  L : List TExpr
def TExpr.re (x : TExpr) : TExpr := ⟨x.Op, x.N, x.Name, x.Field, x.L⟩
theorem TExpr.re_eq (x : TExpr) : x.re = x := by cases x; rfl
structure TStmt where
  Marks_Before : List ByteArray
  Marks_Trail : List ByteArray
  Op : Int
  Name : ByteArray
  P_Op : Int
  P_N : Int
  P_Name : ByteArray
  P_Field : ByteArray
  P_L : List TExpr
  E : List TExpr
  Down : Bool
  More : Bool
  Body : List TStmt
  Else : List TStmt
  End : List ByteArray
  End2 : List ByteArray
def TStmt.re (x : TStmt) : TStmt := ⟨x.Marks_Before, x.Marks_Trail, x.Op, x.Name, x.P_Op, x.P_N, x.P_Name, x.P_Field, x.P_L, x.E, x.Down, x.More, x.Body, x.Else, x.End, x.End2⟩
theorem TStmt.re_eq (x : TStmt) : x.re = x := by cases x; rfl
structure TRec where
  Marks_Before : List ByteArray
  Marks_Trail : List ByteArray
  Name : ByteArray
  Fields : List TField
  End : List ByteArray
structure TRoutine where
  Marks_Before : List ByteArray
  Marks_Trail : List ByteArray
  Name : ByteArray
  Result : Int
  Params : List TParam
  Vars : List TVar
  Inner : List TRoutine
  Body : List TStmt
  End : List ByteArray
def TRoutine.re (x : TRoutine) : TRoutine := ⟨x.Marks_Before, x.Marks_Trail, x.Name, x.Result, x.Params, x.Vars, x.Inner, x.Body, x.End⟩
theorem TRoutine.re_eq (x : TRoutine) : x.re = x := by cases x; rfl
structure Tr12_Thing where
  Name : ByteArray
  Kind : Int
  Rec_Marks_Before : List ByteArray
  Rec_Marks_Trail : List ByteArray
  Rec_Name : ByteArray
  Rec_Fields : List TField
  Rec_End : List ByteArray
  R_Marks_Before : List ByteArray
  R_Marks_Trail : List ByteArray
  R_Name : ByteArray
  R_Result : Int
  R_Params : List TParam
  R_Vars : List TVar
  R_Inner : List TRoutine
  R_Body : List TStmt
  R_End : List ByteArray
  T_Kind : Int
  T_Size : Int
  T_Name : ByteArray
structure TProgram where
  Name : ByteArray
  Before : List ByteArray
  Mid : List ByteArray
  After : List ByteArray
  Recs : List TRec
  Vars : List TVar
  Routines : List TRoutine
  Body : List TStmt
  End : List ByteArray
def TField.sub_Marks (x : TField) : TMarks := ⟨x.Marks_Before, x.Marks_Trail⟩
def TVar.sub_Marks (x : TVar) : TMarks := ⟨x.Marks_Before, x.Marks_Trail⟩
def TVar.sub_T (x : TVar) : TType := ⟨x.T_Kind, x.T_Size, x.T_Name⟩
def TParam.sub_T (x : TParam) : TType := ⟨x.T_Kind, x.T_Size, x.T_Name⟩
def TStmt.sub_Marks (x : TStmt) : TMarks := ⟨x.Marks_Before, x.Marks_Trail⟩
def TStmt.sub_P (x : TStmt) : TExpr := ⟨x.P_Op, x.P_N, x.P_Name, x.P_Field, x.P_L⟩
def TRec.sub_Marks (x : TRec) : TMarks := ⟨x.Marks_Before, x.Marks_Trail⟩
def TRoutine.sub_Marks (x : TRoutine) : TMarks := ⟨x.Marks_Before, x.Marks_Trail⟩
def Tr12_Thing.sub_T (x : Tr12_Thing) : TType := ⟨x.T_Kind, x.T_Size, x.T_Name⟩
inductive Thing where
  | ren (by_ : List TPair)
  | names (l : List ByteArray)
def thing0 : Thing := .names []
abbrev II : Nat → Type
  | 9 => ByteArray
  | 46 => TRec
  | 48 => TField
  | 56 => TVar
  | 58 => TPair
  | 90 => TRoutine
  | 92 => TParam
  | 95 => TExpr
  | 97 => TStmt
  | 118 => Tr12_Thing
  | 1000003 => Thing
  | _ => Unit
def tyL : List (Nat × TI) :=
  [(2, { size := 1, bytes := 8, zero := [.int .i64 0], td := .int .i64 }),
   (3, { size := 1, bytes := 8, zero := [.int .i64 0], td := .int .i64 }),
   (4, { size := 1, bytes := 1, zero := [.bool false], td := .bool }),
   (5, { size := 1, bytes := 1, zero := [.int .u8 0], td := .int .u8 }),
   (9, { size := 1, bytes := 16, zero := [.string ⟨#[]⟩], td := .string }),
   (22, { size := 1, bytes := 24, zero := [.slice none 0 0], td := .slice 9, cmp := false }),
   (23, { size := 1, bytes := 24, zero := [.slice none 0 0], td := .slice 46, cmp := false }),
   (24, { size := 1, bytes := 24, zero := [.slice none 0 0], td := .slice 56, cmp := false }),
   (25, { size := 1, bytes := 24, zero := [.slice none 0 0], td := .slice 90, cmp := false }),
   (26, { size := 1, bytes := 24, zero := [.slice none 0 0], td := .slice 97, cmp := false }),
   (28, { size := 9, bytes := 208, zero := [.string ⟨#[]⟩, .slice none 0 0, .slice none 0 0, .slice none 0 0, .slice none 0 0, .slice none 0 0, .slice none 0 0, .slice none 0 0, .slice none 0 0], td := .struct [(0,9),(1,22),(2,22),(3,22),(4,23),(5,24),(6,25),(7,26),(8,22)], cmp := false }),
   (32, { size := 1, bytes := 24, zero := [.slice none 0 0], td := .slice 58, cmp := false }),
   (43, { size := 2, bytes := 48, zero := [.slice none 0 0, .slice none 0 0], td := .struct [(0,22),(1,22)], cmp := false }),
   (44, { size := 1, bytes := 24, zero := [.slice none 0 0], td := .slice 48, cmp := false }),
   (46, { size := 5, bytes := 112, zero := [.slice none 0 0, .slice none 0 0, .string ⟨#[]⟩, .slice none 0 0, .slice none 0 0], td := .struct [(0,43),(2,9),(3,44),(4,22)], cmp := false }),
   (48, { size := 4, bytes := 72, zero := [.slice none 0 0, .slice none 0 0, .string ⟨#[]⟩, .int .i64 0], td := .struct [(0,43),(2,9),(3,3)], cmp := false }),
   (54, { size := 3, bytes := 32, zero := [.int .i64 0, .int .i64 0, .string ⟨#[]⟩], td := .struct [(0,3),(1,3),(2,9)] }),
   (56, { size := 6, bytes := 96, zero := [.slice none 0 0, .slice none 0 0, .string ⟨#[]⟩, .int .i64 0, .int .i64 0, .string ⟨#[]⟩], td := .struct [(0,43),(2,9),(3,54)], cmp := false }),
   (58, { size := 2, bytes := 32, zero := [.string ⟨#[]⟩, .string ⟨#[]⟩], td := .struct [(0,9),(1,9)] }),
   (79, { size := 1, bytes := 8, zero := [.pointer none], td := .other, cmp := false }),
   (81, { size := 2, bytes := 16, zero := [.int .i64 0, .int .i64 0], td := .struct [(0,3),(1,3)] }),
   (82, { size := 1, bytes := 24, zero := [.slice none 0 0], td := .slice 118, cmp := false }),
   (88, { size := 1, bytes := 24, zero := [.slice none 0 0], td := .slice 92, cmp := false }),
   (90, { size := 9, bytes := 192, zero := [.slice none 0 0, .slice none 0 0, .string ⟨#[]⟩, .int .i64 0, .slice none 0 0, .slice none 0 0, .slice none 0 0, .slice none 0 0, .slice none 0 0], td := .struct [(0,43),(2,9),(3,3),(4,88),(5,24),(6,25),(7,26),(8,22)], cmp := false }),
   (92, { size := 5, bytes := 56, zero := [.string ⟨#[]⟩, .int .i64 0, .int .i64 0, .string ⟨#[]⟩, .int .i64 0], td := .struct [(0,9),(1,54),(4,3)] }),
   (93, { size := 1, bytes := 24, zero := [.slice none 0 0], td := .slice 95, cmp := false }),
   (95, { size := 5, bytes := 72, zero := [.int .i64 0, .int .i64 0, .string ⟨#[]⟩, .string ⟨#[]⟩, .slice none 0 0], td := .struct [(0,3),(1,2),(2,9),(3,9),(4,93)], cmp := false }),
   (97, { size := 16, bytes := 272, zero := [.slice none 0 0, .slice none 0 0, .int .i64 0, .string ⟨#[]⟩, .int .i64 0, .int .i64 0, .string ⟨#[]⟩, .string ⟨#[]⟩, .slice none 0 0, .slice none 0 0, .bool false, .bool false, .slice none 0 0, .slice none 0 0, .slice none 0 0, .slice none 0 0], td := .struct [(0,43),(2,3),(3,9),(4,95),(9,93),(10,4),(11,4),(12,26),(13,26),(14,22),(15,22)], cmp := false }),
   (101, { size := 1, bytes := 8, zero := [.nilFunc], td := .other, cmp := false }),
   (103, { size := 1, bytes := 8, zero := [.nilFunc], td := .struct [(0,101)], cmp := false }),
   (118, { size := 19, bytes := 360, zero := [.string ⟨#[]⟩, .int .i64 0, .slice none 0 0, .slice none 0 0, .string ⟨#[]⟩, .slice none 0 0, .slice none 0 0, .slice none 0 0, .slice none 0 0, .string ⟨#[]⟩, .int .i64 0, .slice none 0 0, .slice none 0 0, .slice none 0 0, .slice none 0 0, .slice none 0 0, .int .i64 0, .int .i64 0, .string ⟨#[]⟩], td := .struct [(0,9),(1,3),(2,46),(7,90),(16,54)], cmp := false }),
   (128, { size := 1, bytes := 8, zero := [.nilFunc], td := .other, cmp := false }),
   (130, { size := 1, bytes := 8, zero := [.nilFunc], td := .other, cmp := false }),
   (132, { size := 1, bytes := 8, zero := [.nilFunc], td := .other, cmp := false }),
   (134, { size := 1, bytes := 8, zero := [.nilFunc], td := .other, cmp := false }),
   (148, { size := 1, bytes := 8, zero := [.nilFunc], td := .other, cmp := false }),
   (151, { size := 1, bytes := 8, zero := [.nilFunc], td := .other, cmp := false }),
   (152, { size := 1, bytes := 8, zero := [.nilFunc], td := .other, cmp := false })]
abbrev tyy : Nat → Option TI := tyOf tyL
def row_TMarks (x : TMarks) : List (DV II) := [.sl 9 x.Before, .sl 9 x.Trail]
def mk_TMarks : List (DV II) → Option TMarks
  | [c0, c1] => (gL 9 c0).bind fun x0 => (gL 9 c1).bind fun x1 => some ⟨x0, x1⟩
  | _ => none
theorem mk_TMarks_le {cs : List (DV II)} {x : TMarks} (h : mk_TMarks cs = some x) : DLes cs (row_TMarks x) := by
  unfold mk_TMarks at h
  split at h
  · obtain ⟨x0, e0, h⟩ := Option.bind_eq_some_iff.1 h
    obtain ⟨x1, e1, h⟩ := Option.bind_eq_some_iff.1 h
    injection h with h
    subst h
    exact .cons (gL_le e0) (.cons (gL_le e1) (.nil))
  · cases h
def row_TField (x : TField) : List (DV II) := [.sl 9 x.Marks_Before, .sl 9 x.Marks_Trail, .lit (.string x.Name), .lit (.int .i64 x.Kind)]
def mk_TField : List (DV II) → Option TField
  | [c0, c1, c2, c3] => (gL 9 c0).bind fun x0 => (gL 9 c1).bind fun x1 => (gS c2).bind fun x2 => (gI .i64 c3).bind fun x3 => some ⟨x0, x1, x2, x3⟩
  | _ => none
theorem mk_TField_le {cs : List (DV II)} {x : TField} (h : mk_TField cs = some x) : DLes cs (row_TField x) := by
  unfold mk_TField at h
  split at h
  · obtain ⟨x0, e0, h⟩ := Option.bind_eq_some_iff.1 h
    obtain ⟨x1, e1, h⟩ := Option.bind_eq_some_iff.1 h
    obtain ⟨x2, e2, h⟩ := Option.bind_eq_some_iff.1 h
    obtain ⟨x3, e3, h⟩ := Option.bind_eq_some_iff.1 h
    injection h with h
    subst h
    exact .cons (gL_le e0) (.cons (gL_le e1) (.cons (gS_le e2) (.cons (gI_le e3) (.nil))))
  · cases h
def dd_TField : TField := ⟨[], [], ByteArray.empty, 0⟩
def row_TType (x : TType) : List (DV II) := [.lit (.int .i64 x.Kind), .lit (.int .i64 x.Size), .lit (.string x.Name)]
def mk_TType : List (DV II) → Option TType
  | [c0, c1, c2] => (gI .i64 c0).bind fun x0 => (gI .i64 c1).bind fun x1 => (gS c2).bind fun x2 => some ⟨x0, x1, x2⟩
  | _ => none
theorem mk_TType_le {cs : List (DV II)} {x : TType} (h : mk_TType cs = some x) : DLes cs (row_TType x) := by
  unfold mk_TType at h
  split at h
  · obtain ⟨x0, e0, h⟩ := Option.bind_eq_some_iff.1 h
    obtain ⟨x1, e1, h⟩ := Option.bind_eq_some_iff.1 h
    obtain ⟨x2, e2, h⟩ := Option.bind_eq_some_iff.1 h
    injection h with h
    subst h
    exact .cons (gI_le e0) (.cons (gI_le e1) (.cons (gS_le e2) (.nil)))
  · cases h
def row_TVar (x : TVar) : List (DV II) := [.sl 9 x.Marks_Before, .sl 9 x.Marks_Trail, .lit (.string x.Name), .lit (.int .i64 x.T_Kind), .lit (.int .i64 x.T_Size), .lit (.string x.T_Name)]
def mk_TVar : List (DV II) → Option TVar
  | [c0, c1, c2, c3, c4, c5] => (gL 9 c0).bind fun x0 => (gL 9 c1).bind fun x1 => (gS c2).bind fun x2 => (gI .i64 c3).bind fun x3 => (gI .i64 c4).bind fun x4 => (gS c5).bind fun x5 => some ⟨x0, x1, x2, x3, x4, x5⟩
  | _ => none
theorem mk_TVar_le {cs : List (DV II)} {x : TVar} (h : mk_TVar cs = some x) : DLes cs (row_TVar x) := by
  unfold mk_TVar at h
  split at h
  · obtain ⟨x0, e0, h⟩ := Option.bind_eq_some_iff.1 h
    obtain ⟨x1, e1, h⟩ := Option.bind_eq_some_iff.1 h
    obtain ⟨x2, e2, h⟩ := Option.bind_eq_some_iff.1 h
    obtain ⟨x3, e3, h⟩ := Option.bind_eq_some_iff.1 h
    obtain ⟨x4, e4, h⟩ := Option.bind_eq_some_iff.1 h
    obtain ⟨x5, e5, h⟩ := Option.bind_eq_some_iff.1 h
    injection h with h
    subst h
    exact .cons (gL_le e0) (.cons (gL_le e1) (.cons (gS_le e2) (.cons (gI_le e3) (.cons (gI_le e4) (.cons (gS_le e5) (.nil))))))
  · cases h
def dd_TVar : TVar := ⟨[], [], ByteArray.empty, 0, 0, ByteArray.empty⟩
def row_TPair (x : TPair) : List (DV II) := [.lit (.string x.Old), .lit (.string x.New)]
def mk_TPair : List (DV II) → Option TPair
  | [c0, c1] => (gS c0).bind fun x0 => (gS c1).bind fun x1 => some ⟨x0, x1⟩
  | _ => none
theorem mk_TPair_le {cs : List (DV II)} {x : TPair} (h : mk_TPair cs = some x) : DLes cs (row_TPair x) := by
  unfold mk_TPair at h
  split at h
  · obtain ⟨x0, e0, h⟩ := Option.bind_eq_some_iff.1 h
    obtain ⟨x1, e1, h⟩ := Option.bind_eq_some_iff.1 h
    injection h with h
    subst h
    exact .cons (gS_le e0) (.cons (gS_le e1) (.nil))
  · cases h
def dd_TPair : TPair := ⟨ByteArray.empty, ByteArray.empty⟩
def row_TParam (x : TParam) : List (DV II) := [.lit (.string x.Name), .lit (.int .i64 x.T_Kind), .lit (.int .i64 x.T_Size), .lit (.string x.T_Name), .lit (.int .i64 x.Mode)]
def mk_TParam : List (DV II) → Option TParam
  | [c0, c1, c2, c3, c4] => (gS c0).bind fun x0 => (gI .i64 c1).bind fun x1 => (gI .i64 c2).bind fun x2 => (gS c3).bind fun x3 => (gI .i64 c4).bind fun x4 => some ⟨x0, x1, x2, x3, x4⟩
  | _ => none
theorem mk_TParam_le {cs : List (DV II)} {x : TParam} (h : mk_TParam cs = some x) : DLes cs (row_TParam x) := by
  unfold mk_TParam at h
  split at h
  · obtain ⟨x0, e0, h⟩ := Option.bind_eq_some_iff.1 h
    obtain ⟨x1, e1, h⟩ := Option.bind_eq_some_iff.1 h
    obtain ⟨x2, e2, h⟩ := Option.bind_eq_some_iff.1 h
    obtain ⟨x3, e3, h⟩ := Option.bind_eq_some_iff.1 h
    obtain ⟨x4, e4, h⟩ := Option.bind_eq_some_iff.1 h
    injection h with h
    subst h
    exact .cons (gS_le e0) (.cons (gI_le e1) (.cons (gI_le e2) (.cons (gS_le e3) (.cons (gI_le e4) (.nil)))))
  · cases h
def dd_TParam : TParam := ⟨ByteArray.empty, 0, 0, ByteArray.empty, 0⟩
def row_TExpr (x : TExpr) : List (DV II) := [.lit (.int .i64 x.Op), .lit (.int .i64 x.N), .lit (.string x.Name), .lit (.string x.Field), .sl 95 x.L]
def mk_TExpr : List (DV II) → Option TExpr
  | [c0, c1, c2, c3, c4] => (gI .i64 c0).bind fun x0 => (gI .i64 c1).bind fun x1 => (gS c2).bind fun x2 => (gS c3).bind fun x3 => (gL 95 c4).bind fun x4 => some ⟨x0, x1, x2, x3, x4⟩
  | _ => none
theorem mk_TExpr_le {cs : List (DV II)} {x : TExpr} (h : mk_TExpr cs = some x) : DLes cs (row_TExpr x) := by
  unfold mk_TExpr at h
  split at h
  · obtain ⟨x0, e0, h⟩ := Option.bind_eq_some_iff.1 h
    obtain ⟨x1, e1, h⟩ := Option.bind_eq_some_iff.1 h
    obtain ⟨x2, e2, h⟩ := Option.bind_eq_some_iff.1 h
    obtain ⟨x3, e3, h⟩ := Option.bind_eq_some_iff.1 h
    obtain ⟨x4, e4, h⟩ := Option.bind_eq_some_iff.1 h
    injection h with h
    subst h
    exact .cons (gI_le e0) (.cons (gI_le e1) (.cons (gS_le e2) (.cons (gS_le e3) (.cons (gL_le e4) (.nil)))))
  · cases h
def dd_TExpr : TExpr := ⟨0, 0, ByteArray.empty, ByteArray.empty, []⟩
def row_TStmt (x : TStmt) : List (DV II) := [.sl 9 x.Marks_Before, .sl 9 x.Marks_Trail, .lit (.int .i64 x.Op), .lit (.string x.Name), .lit (.int .i64 x.P_Op), .lit (.int .i64 x.P_N), .lit (.string x.P_Name), .lit (.string x.P_Field), .sl 95 x.P_L, .sl 95 x.E, .lit (.bool x.Down), .lit (.bool x.More), .sl 97 x.Body, .sl 97 x.Else, .sl 9 x.End, .sl 9 x.End2]
def mk_TStmt : List (DV II) → Option TStmt
  | [c0, c1, c2, c3, c4, c5, c6, c7, c8, c9, c10, c11, c12, c13, c14, c15] => (gL 9 c0).bind fun x0 => (gL 9 c1).bind fun x1 => (gI .i64 c2).bind fun x2 => (gS c3).bind fun x3 => (gI .i64 c4).bind fun x4 => (gI .i64 c5).bind fun x5 => (gS c6).bind fun x6 => (gS c7).bind fun x7 => (gL 95 c8).bind fun x8 => (gL 95 c9).bind fun x9 => (gB c10).bind fun x10 => (gB c11).bind fun x11 => (gL 97 c12).bind fun x12 => (gL 97 c13).bind fun x13 => (gL 9 c14).bind fun x14 => (gL 9 c15).bind fun x15 => some ⟨x0, x1, x2, x3, x4, x5, x6, x7, x8, x9, x10, x11, x12, x13, x14, x15⟩
  | _ => none
theorem mk_TStmt_le {cs : List (DV II)} {x : TStmt} (h : mk_TStmt cs = some x) : DLes cs (row_TStmt x) := by
  unfold mk_TStmt at h
  split at h
  · obtain ⟨x0, e0, h⟩ := Option.bind_eq_some_iff.1 h
    obtain ⟨x1, e1, h⟩ := Option.bind_eq_some_iff.1 h
    obtain ⟨x2, e2, h⟩ := Option.bind_eq_some_iff.1 h
    obtain ⟨x3, e3, h⟩ := Option.bind_eq_some_iff.1 h
    obtain ⟨x4, e4, h⟩ := Option.bind_eq_some_iff.1 h
    obtain ⟨x5, e5, h⟩ := Option.bind_eq_some_iff.1 h
    obtain ⟨x6, e6, h⟩ := Option.bind_eq_some_iff.1 h
    obtain ⟨x7, e7, h⟩ := Option.bind_eq_some_iff.1 h
    obtain ⟨x8, e8, h⟩ := Option.bind_eq_some_iff.1 h
    obtain ⟨x9, e9, h⟩ := Option.bind_eq_some_iff.1 h
    obtain ⟨x10, e10, h⟩ := Option.bind_eq_some_iff.1 h
    obtain ⟨x11, e11, h⟩ := Option.bind_eq_some_iff.1 h
    obtain ⟨x12, e12, h⟩ := Option.bind_eq_some_iff.1 h
    obtain ⟨x13, e13, h⟩ := Option.bind_eq_some_iff.1 h
    obtain ⟨x14, e14, h⟩ := Option.bind_eq_some_iff.1 h
    obtain ⟨x15, e15, h⟩ := Option.bind_eq_some_iff.1 h
    injection h with h
    subst h
    exact .cons (gL_le e0) (.cons (gL_le e1) (.cons (gI_le e2) (.cons (gS_le e3) (.cons (gI_le e4) (.cons (gI_le e5) (.cons (gS_le e6) (.cons (gS_le e7) (.cons (gL_le e8) (.cons (gL_le e9) (.cons (gB_le e10) (.cons (gB_le e11) (.cons (gL_le e12) (.cons (gL_le e13) (.cons (gL_le e14) (.cons (gL_le e15) (.nil))))))))))))))))
  · cases h
def dd_TStmt : TStmt := ⟨[], [], 0, ByteArray.empty, 0, 0, ByteArray.empty, ByteArray.empty, [], [], false, false, [], [], [], []⟩
def row_TRec (x : TRec) : List (DV II) := [.sl 9 x.Marks_Before, .sl 9 x.Marks_Trail, .lit (.string x.Name), .sl 48 x.Fields, .sl 9 x.End]
def mk_TRec : List (DV II) → Option TRec
  | [c0, c1, c2, c3, c4] => (gL 9 c0).bind fun x0 => (gL 9 c1).bind fun x1 => (gS c2).bind fun x2 => (gL 48 c3).bind fun x3 => (gL 9 c4).bind fun x4 => some ⟨x0, x1, x2, x3, x4⟩
  | _ => none
theorem mk_TRec_le {cs : List (DV II)} {x : TRec} (h : mk_TRec cs = some x) : DLes cs (row_TRec x) := by
  unfold mk_TRec at h
  split at h
  · obtain ⟨x0, e0, h⟩ := Option.bind_eq_some_iff.1 h
    obtain ⟨x1, e1, h⟩ := Option.bind_eq_some_iff.1 h
    obtain ⟨x2, e2, h⟩ := Option.bind_eq_some_iff.1 h
    obtain ⟨x3, e3, h⟩ := Option.bind_eq_some_iff.1 h
    obtain ⟨x4, e4, h⟩ := Option.bind_eq_some_iff.1 h
    injection h with h
    subst h
    exact .cons (gL_le e0) (.cons (gL_le e1) (.cons (gS_le e2) (.cons (gL_le e3) (.cons (gL_le e4) (.nil)))))
  · cases h
def dd_TRec : TRec := ⟨[], [], ByteArray.empty, [], []⟩
def row_TRoutine (x : TRoutine) : List (DV II) := [.sl 9 x.Marks_Before, .sl 9 x.Marks_Trail, .lit (.string x.Name), .lit (.int .i64 x.Result), .sl 92 x.Params, .sl 56 x.Vars, .sl 90 x.Inner, .sl 97 x.Body, .sl 9 x.End]
def mk_TRoutine : List (DV II) → Option TRoutine
  | [c0, c1, c2, c3, c4, c5, c6, c7, c8] => (gL 9 c0).bind fun x0 => (gL 9 c1).bind fun x1 => (gS c2).bind fun x2 => (gI .i64 c3).bind fun x3 => (gL 92 c4).bind fun x4 => (gL 56 c5).bind fun x5 => (gL 90 c6).bind fun x6 => (gL 97 c7).bind fun x7 => (gL 9 c8).bind fun x8 => some ⟨x0, x1, x2, x3, x4, x5, x6, x7, x8⟩
  | _ => none
theorem mk_TRoutine_le {cs : List (DV II)} {x : TRoutine} (h : mk_TRoutine cs = some x) : DLes cs (row_TRoutine x) := by
  unfold mk_TRoutine at h
  split at h
  · obtain ⟨x0, e0, h⟩ := Option.bind_eq_some_iff.1 h
    obtain ⟨x1, e1, h⟩ := Option.bind_eq_some_iff.1 h
    obtain ⟨x2, e2, h⟩ := Option.bind_eq_some_iff.1 h
    obtain ⟨x3, e3, h⟩ := Option.bind_eq_some_iff.1 h
    obtain ⟨x4, e4, h⟩ := Option.bind_eq_some_iff.1 h
    obtain ⟨x5, e5, h⟩ := Option.bind_eq_some_iff.1 h
    obtain ⟨x6, e6, h⟩ := Option.bind_eq_some_iff.1 h
    obtain ⟨x7, e7, h⟩ := Option.bind_eq_some_iff.1 h
    obtain ⟨x8, e8, h⟩ := Option.bind_eq_some_iff.1 h
    injection h with h
    subst h
    exact .cons (gL_le e0) (.cons (gL_le e1) (.cons (gS_le e2) (.cons (gI_le e3) (.cons (gL_le e4) (.cons (gL_le e5) (.cons (gL_le e6) (.cons (gL_le e7) (.cons (gL_le e8) (.nil)))))))))
  · cases h
def dd_TRoutine : TRoutine := ⟨[], [], ByteArray.empty, 0, [], [], [], [], []⟩
def row_Tr12_Thing (x : Tr12_Thing) : List (DV II) := [.lit (.string x.Name), .lit (.int .i64 x.Kind), .sl 9 x.Rec_Marks_Before, .sl 9 x.Rec_Marks_Trail, .lit (.string x.Rec_Name), .sl 48 x.Rec_Fields, .sl 9 x.Rec_End, .sl 9 x.R_Marks_Before, .sl 9 x.R_Marks_Trail, .lit (.string x.R_Name), .lit (.int .i64 x.R_Result), .sl 92 x.R_Params, .sl 56 x.R_Vars, .sl 90 x.R_Inner, .sl 97 x.R_Body, .sl 9 x.R_End, .lit (.int .i64 x.T_Kind), .lit (.int .i64 x.T_Size), .lit (.string x.T_Name)]
def mk_Tr12_Thing : List (DV II) → Option Tr12_Thing
  | [c0, c1, c2, c3, c4, c5, c6, c7, c8, c9, c10, c11, c12, c13, c14, c15, c16, c17, c18] => (gS c0).bind fun x0 => (gI .i64 c1).bind fun x1 => (gL 9 c2).bind fun x2 => (gL 9 c3).bind fun x3 => (gS c4).bind fun x4 => (gL 48 c5).bind fun x5 => (gL 9 c6).bind fun x6 => (gL 9 c7).bind fun x7 => (gL 9 c8).bind fun x8 => (gS c9).bind fun x9 => (gI .i64 c10).bind fun x10 => (gL 92 c11).bind fun x11 => (gL 56 c12).bind fun x12 => (gL 90 c13).bind fun x13 => (gL 97 c14).bind fun x14 => (gL 9 c15).bind fun x15 => (gI .i64 c16).bind fun x16 => (gI .i64 c17).bind fun x17 => (gS c18).bind fun x18 => some ⟨x0, x1, x2, x3, x4, x5, x6, x7, x8, x9, x10, x11, x12, x13, x14, x15, x16, x17, x18⟩
  | _ => none
theorem mk_Tr12_Thing_le {cs : List (DV II)} {x : Tr12_Thing} (h : mk_Tr12_Thing cs = some x) : DLes cs (row_Tr12_Thing x) := by
  unfold mk_Tr12_Thing at h
  split at h
  · obtain ⟨x0, e0, h⟩ := Option.bind_eq_some_iff.1 h
    obtain ⟨x1, e1, h⟩ := Option.bind_eq_some_iff.1 h
    obtain ⟨x2, e2, h⟩ := Option.bind_eq_some_iff.1 h
    obtain ⟨x3, e3, h⟩ := Option.bind_eq_some_iff.1 h
    obtain ⟨x4, e4, h⟩ := Option.bind_eq_some_iff.1 h
    obtain ⟨x5, e5, h⟩ := Option.bind_eq_some_iff.1 h
    obtain ⟨x6, e6, h⟩ := Option.bind_eq_some_iff.1 h
    obtain ⟨x7, e7, h⟩ := Option.bind_eq_some_iff.1 h
    obtain ⟨x8, e8, h⟩ := Option.bind_eq_some_iff.1 h
    obtain ⟨x9, e9, h⟩ := Option.bind_eq_some_iff.1 h
    obtain ⟨x10, e10, h⟩ := Option.bind_eq_some_iff.1 h
    obtain ⟨x11, e11, h⟩ := Option.bind_eq_some_iff.1 h
    obtain ⟨x12, e12, h⟩ := Option.bind_eq_some_iff.1 h
    obtain ⟨x13, e13, h⟩ := Option.bind_eq_some_iff.1 h
    obtain ⟨x14, e14, h⟩ := Option.bind_eq_some_iff.1 h
    obtain ⟨x15, e15, h⟩ := Option.bind_eq_some_iff.1 h
    obtain ⟨x16, e16, h⟩ := Option.bind_eq_some_iff.1 h
    obtain ⟨x17, e17, h⟩ := Option.bind_eq_some_iff.1 h
    obtain ⟨x18, e18, h⟩ := Option.bind_eq_some_iff.1 h
    injection h with h
    subst h
    exact .cons (gS_le e0) (.cons (gI_le e1) (.cons (gL_le e2) (.cons (gL_le e3) (.cons (gS_le e4) (.cons (gL_le e5) (.cons (gL_le e6) (.cons (gL_le e7) (.cons (gL_le e8) (.cons (gS_le e9) (.cons (gI_le e10) (.cons (gL_le e11) (.cons (gL_le e12) (.cons (gL_le e13) (.cons (gL_le e14) (.cons (gL_le e15) (.cons (gI_le e16) (.cons (gI_le e17) (.cons (gS_le e18) (.nil)))))))))))))))))))
  · cases h
def dd_Tr12_Thing : Tr12_Thing := ⟨ByteArray.empty, 0, [], [], ByteArray.empty, [], [], [], [], ByteArray.empty, 0, [], [], [], [], [], 0, 0, ByteArray.empty⟩
def row_TProgram (x : TProgram) : List (DV II) := [.lit (.string x.Name), .sl 9 x.Before, .sl 9 x.Mid, .sl 9 x.After, .sl 46 x.Recs, .sl 56 x.Vars, .sl 90 x.Routines, .sl 97 x.Body, .sl 9 x.End]
def mk_TProgram : List (DV II) → Option TProgram
  | [c0, c1, c2, c3, c4, c5, c6, c7, c8] => (gS c0).bind fun x0 => (gL 9 c1).bind fun x1 => (gL 9 c2).bind fun x2 => (gL 9 c3).bind fun x3 => (gL 46 c4).bind fun x4 => (gL 56 c5).bind fun x5 => (gL 90 c6).bind fun x6 => (gL 97 c7).bind fun x7 => (gL 9 c8).bind fun x8 => some ⟨x0, x1, x2, x3, x4, x5, x6, x7, x8⟩
  | _ => none
theorem mk_TProgram_le {cs : List (DV II)} {x : TProgram} (h : mk_TProgram cs = some x) : DLes cs (row_TProgram x) := by
  unfold mk_TProgram at h
  split at h
  · obtain ⟨x0, e0, h⟩ := Option.bind_eq_some_iff.1 h
    obtain ⟨x1, e1, h⟩ := Option.bind_eq_some_iff.1 h
    obtain ⟨x2, e2, h⟩ := Option.bind_eq_some_iff.1 h
    obtain ⟨x3, e3, h⟩ := Option.bind_eq_some_iff.1 h
    obtain ⟨x4, e4, h⟩ := Option.bind_eq_some_iff.1 h
    obtain ⟨x5, e5, h⟩ := Option.bind_eq_some_iff.1 h
    obtain ⟨x6, e6, h⟩ := Option.bind_eq_some_iff.1 h
    obtain ⟨x7, e7, h⟩ := Option.bind_eq_some_iff.1 h
    obtain ⟨x8, e8, h⟩ := Option.bind_eq_some_iff.1 h
    injection h with h
    subst h
    exact .cons (gS_le e0) (.cons (gL_le e1) (.cons (gL_le e2) (.cons (gL_le e3) (.cons (gL_le e4) (.cons (gL_le e5) (.cons (gL_le e6) (.cons (gL_le e7) (.cons (gL_le e8) (.nil)))))))))
  · cases h
def row_v9 (x : ByteArray) : List (DV II) := [.lit (.string x)]
def mk_v9 : List (DV II) → Option ByteArray
  | [c] => gS c
  | _ => none
theorem mk_v9_le {cs : List (DV II)} {x : ByteArray} (h : mk_v9 cs = some x) : DLes cs (row_v9 x) := by
  unfold mk_v9 at h
  split at h
  · exact .cons (gS_le h) .nil
  · cases h
def dd_v9 : ByteArray := ByteArray.empty
def roww : (t : Nat) → II t → List (DV II)
  | 9, x => row_v9 x
  | 46, x => row_TRec x
  | 48, x => row_TField x
  | 56, x => row_TVar x
  | 58, x => row_TPair x
  | 90, x => row_TRoutine x
  | 92, x => row_TParam x
  | 95, x => row_TExpr x
  | 97, x => row_TStmt x
  | 118, x => row_Tr12_Thing x
  | t, _ => match tyy t with | some ti => List.replicate ti.size .any | none => []
def mkk : (t : Nat) → List (DV II) → Option (II t)
  | 9, cs => mk_v9 cs
  | 46, cs => mk_TRec cs
  | 48, cs => mk_TField cs
  | 56, cs => mk_TVar cs
  | 58, cs => mk_TPair cs
  | 90, cs => mk_TRoutine cs
  | 92, cs => mk_TParam cs
  | 95, cs => mk_TExpr cs
  | 97, cs => mk_TStmt cs
  | 118, cs => mk_Tr12_Thing cs
  | _, _ => none
def dfl : (t : Nat) → II t
  | 9 => dd_v9
  | 46 => dd_TRec
  | 48 => dd_TField
  | 56 => dd_TVar
  | 58 => dd_TPair
  | 90 => dd_TRoutine
  | 92 => dd_TParam
  | 95 => dd_TExpr
  | 97 => dd_TStmt
  | 118 => dd_Tr12_Thing
  | 1000003 => thing0
  | t => by unfold II; split <;> first | exact () | exact thing0 | exact dd_v9 | exact dd_TRec | exact dd_TField | exact dd_TVar | exact dd_TPair | exact dd_TRoutine | exact dd_TParam | exact dd_TExpr | exact dd_TStmt | exact dd_Tr12_Thing
theorem mkk_le (t : Nat) (cs : List (DV II)) (x : II t) (h : mkk t cs = some x) : DLes cs (roww t x) := by
  unfold mkk at h
  split at h
  · exact mk_v9_le h
  · exact mk_TRec_le h
  · exact mk_TField_le h
  · exact mk_TVar_le h
  · exact mk_TPair_le h
  · exact mk_TRoutine_le h
  · exact mk_TParam_le h
  · exact mk_TExpr_le h
  · exact mk_TStmt_le h
  · exact mk_Tr12_Thing_le h
  · cases h
def EE0 : Env II := { ty := tyy, row := roww, made := mkk, dflt := dfl }
theorem roww_len (t : Nat) (ti : TI) (x : II t) (h : tyy t = some ti) : (roww t x).length = ti.size := by
  unfold roww
  split
  · have : tyy 9 = some _ := rfl
    rw [this] at h; injection h with h; subst h; rfl
  · have : tyy 46 = some _ := rfl
    rw [this] at h; injection h with h; subst h; rfl
  · have : tyy 48 = some _ := rfl
    rw [this] at h; injection h with h; subst h; rfl
  · have : tyy 56 = some _ := rfl
    rw [this] at h; injection h with h; subst h; rfl
  · have : tyy 58 = some _ := rfl
    rw [this] at h; injection h with h; subst h; rfl
  · have : tyy 90 = some _ := rfl
    rw [this] at h; injection h with h; subst h; rfl
  · have : tyy 92 = some _ := rfl
    rw [this] at h; injection h with h; subst h; rfl
  · have : tyy 95 = some _ := rfl
    rw [this] at h; injection h with h; subst h; rfl
  · have : tyy 97 = some _ := rfl
    rw [this] at h; injection h with h; subst h; rfl
  · have : tyy 118 = some _ := rfl
    rw [this] at h; injection h with h; subst h; rfl
  · rw [h]; simp
theorem envOK (E : Env II) (h1 : E.ty = tyy) (h2 : E.row = roww) (h3 : E.made = mkk) : EnvOK Tryz.prog E :=
  envOK_of tyL h1 (by kernel_rfl) (by kernel_rfl) (by kernel_rfl) (by kernel_rfl) (by kernel_rfl) (by rw [h1, h2]; exact roww_len) (by rw [h2, h3]; exact mkk_le)
end Go.Ev
end
section
/-
  DERIVED: THE SHELF's CONTRACTS AT THIS DUMP, IN PLAIN WORDS (tools/lay-plain.mjs out of 'TryzShelf.lean', which tools/lay-shelf.mjs wrote): THE SAME DECLARATIONS UNDER THE SAME NAMES: 'import', 'namespace', 'open', 'def', 'theorem' AND NOTHING ELSE: no command of the shelf's: FOR A HAND-IN. Each laying: the table of numbers ('.._ren') and one theorem, a field a fact of the dump's own or the kernel's comparison; each contract: ONE APPLICATION.
-/
namespace Go.Proofs
open Go.Shelf
def Tryz.lays156_ren : Go.Shelf.Ren := ⟨fun | 156 => 96 | 165 => 113 | 166 => 114 | 169 => 115 | 240 => 125 | 241 => 126 | 276 => 138 | 277 => 139 | n => n, fun | 31 => 22 | 9 => 9 | 3 => 3 | 4 => 4 | 0 => 0 | 20 => 20 | 72 => 167 | 76 => 170 | 70 => 164 | 37 => 165 | 75 => 169 | 127 => 186 | 164 => 207 | 5 => 5 | 80 => 172 | n => n, fun | n => n⟩
theorem Tryz.lays156 : Go.Proofs.Lays.n156 Tryz.prog Tryz.lays156_ren := {
  mixed := by kernel_rfl
  f156 := Tryz.func96.trans (congrArg some (by kernel_rfl))
  f165 := Tryz.func113.trans (congrArg some (by kernel_rfl))
  f166 := Tryz.func114.trans (congrArg some (by kernel_rfl))
  f169 := Tryz.func115.trans (congrArg some (by kernel_rfl))
  f240 := Tryz.func125.trans (congrArg some (by kernel_rfl))
  f241 := Tryz.func126.trans (congrArg some (by kernel_rfl))
  f276 := Tryz.func138.trans (congrArg some (by kernel_rfl))
  f277 := Tryz.func139.trans (congrArg some (by kernel_rfl))
  t0 := Tryz.underlying0
  a0 := Tryz.isAgg0
  z0 := Tryz.sizeOf0
  v0 := Tryz.zeroValue0
  t3 := Tryz.underlying3
  a3 := Tryz.isAgg3
  z3 := Tryz.sizeOf3
  v3 := Tryz.zeroValue3
  t4 := Tryz.underlying4
  a4 := Tryz.isAgg4
  z4 := Tryz.sizeOf4
  v4 := Tryz.zeroValue4
  t9 := Tryz.underlying9
  a9 := Tryz.isAgg9
  z9 := Tryz.sizeOf9
  v9 := Tryz.zeroValue9
  t20 := Tryz.underlying20
  a20 := Tryz.isAgg20
  z20 := Tryz.sizeOf20
  v20 := Tryz.zeroValue20
  t31 := Tryz.underlying22
  a31 := Tryz.isAgg22
  z31 := Tryz.sizeOf22
  v31 := Tryz.zeroValue22
  t37 := Tryz.underlying165
  a37 := Tryz.isAgg165
  z37 := Tryz.sizeOf165
  v37 := Tryz.zeroValue165
  t70 := Tryz.underlying164
  a70 := Tryz.isAgg164
  z70 := Tryz.sizeOf164
  v70 := Tryz.zeroValue164
  t72 := Tryz.underlying167
  a72 := Tryz.isAgg167
  z72 := Tryz.sizeOf167
  v72 := Tryz.zeroValue167
  t75 := Tryz.underlying169
  a75 := Tryz.isAgg169
  z75 := Tryz.sizeOf169
  v75 := Tryz.zeroValue169
  t76 := Tryz.underlying170
  a76 := Tryz.isAgg170
  z76 := Tryz.sizeOf170
  v76 := Tryz.zeroValue170
  t127 := Tryz.underlying186
  a127 := Tryz.isAgg186
  z127 := Tryz.sizeOf186
  v127 := Tryz.zeroValue186
  t164 := Tryz.underlying207
  a164 := Tryz.isAgg207
  z164 := Tryz.sizeOf207
  v164 := Tryz.zeroValue207 }
theorem Tryz.Builder_Extra_156 : Builder.Extra Tryz.prog Tryz.lays156_ren := {
  sizeBuilder := by kernel_rfl
  liesBuilder := by kernel_rfl
  t5 := Tryz.underlying5
  a5 := Tryz.isAgg5
  z5 := Tryz.sizeOf5
  v5 := Tryz.zeroValue5
  infoByte := by kernel_rfl
  cellsByte := by kernel_rfl
  sizeByte := by kernel_rfl
  neB5 := by decide }
open Go.RowKit in
theorem Tryz.strings_Join (bk o c : Nat) (xs : List ByteArray) (sep : ByteArray) (w : World) (hcells : ∀ (j : Nat) x, xs[j]? = some x → w.cell? ⟨bk, o + j, none⟩ = some (.string x)) (hbk : bk < w.heap.size) (hN : xs.length ≤ 140737488355328) (hcap : xs.length ≤ c) (hlen : (Lib.join (xs.map (·.data.toList)) sep.data.toList).length ≤ 140737488355328) :
    Calls Tryz.prog 96 #[.slice (some ⟨bk, o, none⟩) xs.length c, .string sep] w fun e w' => e = .returned (.string ⟨(Lib.join (xs.map (·.data.toList)) sep.data.toList).toArray⟩) ∧ Below w.heap.size w w' := Any.strings_Join Tryz.lays156 Tryz.Builder_Extra_156 bk o c xs sep w hcells hbk hN hcap hlen
def Tryz.laysM246_ren : Go.Shelf.Ren := ⟨fun | 246 => 109 | 283 => 118 | 284 => 119 | 285 => 120 | 286 => 121 | 129 => 130 | 317 => 129 | 318 => 131 | 319 => 132 | 320 => 133 | 337 => 140 | 338 => 141 | n => n, fun | 2 => 2 | 3 => 3 | 9 => 9 | 4 => 4 | 171 => 179 | 0 => 0 | 53 => 139 | 37 => 165 | 5 => 5 | 173 => 182 | 212 => 200 | 51 => 176 | 20 => 20 | 213 => 201 | 46 => 157 | 232 => 213 | 233 => 214 | n => n, fun | 17 => 2 | 18 => 4 | 19 => 5 | n => n⟩
def Tryz.laysM243_ren : Go.Shelf.Ren := ⟨fun | 243 => 87 | 246 => 109 | 283 => 118 | 284 => 119 | 285 => 120 | 286 => 121 | 129 => 130 | 317 => 129 | 318 => 131 | 319 => 132 | 320 => 133 | 337 => 140 | 338 => 141 | n => n, fun | 3 => 3 | 9 => 9 | 2 => 2 | 4 => 4 | 171 => 179 | 0 => 0 | 53 => 139 | 37 => 165 | 5 => 5 | 173 => 182 | 212 => 200 | 51 => 176 | 20 => 20 | 213 => 201 | 46 => 157 | 232 => 213 | 233 => 214 | n => n, fun | 17 => 2 | 18 => 4 | 19 => 5 | n => n⟩
def Tryz.laysM171_ren : Go.Shelf.Ren := ⟨fun | 171 => 54 | 243 => 87 | 246 => 109 | 283 => 118 | 284 => 119 | 285 => 120 | 286 => 121 | 129 => 130 | 317 => 129 | 318 => 131 | 319 => 132 | 320 => 133 | 337 => 140 | 338 => 141 | n => n, fun | 3 => 3 | 9 => 9 | 2 => 2 | 4 => 4 | 171 => 179 | 0 => 0 | 53 => 139 | 37 => 165 | 5 => 5 | 173 => 182 | 212 => 200 | 51 => 176 | 20 => 20 | 213 => 201 | 46 => 157 | 232 => 213 | 233 => 214 | n => n, fun | 17 => 2 | 18 => 4 | 19 => 5 | n => n⟩
theorem Tryz.laysM171 : Go.Proofs.LaysM.n171 Tryz.prog Tryz.laysM171_ren := {
  mixed := by kernel_rfl
  f129 := Tryz.func130.trans (congrArg some (by kernel_rfl))
  f171 := Tryz.func54.trans (congrArg some (by kernel_rfl))
  f243 := Tryz.func87.trans (congrArg some (by kernel_rfl))
  f246 := Tryz.func109.trans (congrArg some (by kernel_rfl))
  f283 := Tryz.func118.trans (congrArg some (by kernel_rfl))
  f284 := Tryz.func119.trans (congrArg some (by kernel_rfl))
  f285 := Tryz.func120.trans (congrArg some (by kernel_rfl))
  f286 := Tryz.func121.trans (congrArg some (by kernel_rfl))
  f317 := Tryz.func129.trans (congrArg some (by kernel_rfl))
  f318 := Tryz.func131.trans (congrArg some (by kernel_rfl))
  f319 := Tryz.func132.trans (congrArg some (by kernel_rfl))
  f320 := Tryz.func133.trans (congrArg some (by kernel_rfl))
  f337 := Tryz.func140.trans (congrArg some (by kernel_rfl))
  f338 := Tryz.func141.trans (congrArg some (by kernel_rfl))
  t0 := Tryz.underlying0
  a0 := Tryz.isAgg0
  z0 := Tryz.sizeOf0
  v0 := Tryz.zeroValue0
  t2 := Tryz.underlying2
  a2 := Tryz.isAgg2
  z2 := Tryz.sizeOf2
  v2 := Tryz.zeroValue2
  t3 := Tryz.underlying3
  a3 := Tryz.isAgg3
  z3 := Tryz.sizeOf3
  v3 := Tryz.zeroValue3
  t4 := Tryz.underlying4
  a4 := Tryz.isAgg4
  z4 := Tryz.sizeOf4
  v4 := Tryz.zeroValue4
  t5 := Tryz.underlying5
  a5 := Tryz.isAgg5
  z5 := Tryz.sizeOf5
  v5 := Tryz.zeroValue5
  t9 := Tryz.underlying9
  a9 := Tryz.isAgg9
  z9 := Tryz.sizeOf9
  v9 := Tryz.zeroValue9
  t20 := Tryz.underlying20
  a20 := Tryz.isAgg20
  z20 := Tryz.sizeOf20
  v20 := Tryz.zeroValue20
  t37 := Tryz.underlying165
  a37 := Tryz.isAgg165
  z37 := Tryz.sizeOf165
  v37 := Tryz.zeroValue165
  t46 := Tryz.underlying157
  a46 := Tryz.isAgg157
  z46 := Tryz.sizeOf157
  v46 := Tryz.zeroValue157
  t51 := Tryz.underlying176
  a51 := Tryz.isAgg176
  z51 := Tryz.sizeOf176
  v51 := Tryz.zeroValue176
  t53 := Tryz.underlying139
  a53 := Tryz.isAgg139
  z53 := Tryz.sizeOf139
  v53 := Tryz.zeroValue139
  t171 := Tryz.underlying179
  a171 := Tryz.isAgg179
  z171 := Tryz.sizeOf179
  v171 := Tryz.zeroValue179
  t173 := Tryz.underlying182
  a173 := Tryz.isAgg182
  z173 := Tryz.sizeOf182
  v173 := Tryz.zeroValue182
  t212 := Tryz.underlying200
  a212 := Tryz.isAgg200
  z212 := Tryz.sizeOf200
  v212 := Tryz.zeroValue200
  t213 := Tryz.underlying201
  a213 := Tryz.isAgg201
  z213 := Tryz.sizeOf201
  t232 := Tryz.underlying213
  a232 := Tryz.isAgg213
  z232 := Tryz.sizeOf213
  v232 := Tryz.zeroValue213
  t233 := Tryz.underlying214
  a233 := Tryz.isAgg214
  z233 := Tryz.sizeOf214
  v233 := Tryz.zeroValue214
  g17 := by kernel_rfl
  g18 := by kernel_rfl
  g19 := by kernel_rfl
  i0 := by kernel_rfl
  i2 := by kernel_rfl
  i3 := by kernel_rfl
  i4 := by kernel_rfl
  i5 := by kernel_rfl
  i9 := by kernel_rfl
  i20 := by kernel_rfl
  i37 := by kernel_rfl
  i46 := by kernel_rfl
  i51 := by kernel_rfl
  i53 := by kernel_rfl
  i171 := by kernel_rfl
  i173 := by kernel_rfl
  i212 := by kernel_rfl
  i232 := by kernel_rfl
  i233 := by kernel_rfl
  m17 := by kernel_rfl
  m18 := by kernel_rfl
  m19 := by kernel_rfl }
open Go.RowKit Go.Sort Go.Lib in
theorem Tryz.strconv_Itoa (n : Int) (h0 : -9223372036854775808 ≤ n) (h1 : n ≤ 9223372036854775807) (w : World) (htab : Lib.TabIs Tryz.prog w "internal/strconv.uint64pow10" .u64 Lib.pow10Tab) :
    Calls Tryz.prog 54 #[.int .i64 n] w fun e w' => e = .returned (.string ⟨(Lib.itoa n).toArray⟩) ∧ ∃ k os, w' = grow (w.drewN k) os := Any.strconv_Itoa Tryz.laysM171 n h0 h1 w htab
def Tryz.lays221_ren : Go.Shelf.Ren := ⟨fun | 221 => 112 | 268 => 122 | 138 => 123 | 143 => 124 | 195 => 134 | 197 => 135 | 218 => 136 | 219 => 137 | 260 => 142 | 217 => 143 | 225 => 144 | 224 => 145 | 267 => 146 | 266 => 147 | 314 => 148 | n => n, fun | 9 => 9 | 3 => 3 | 31 => 22 | 4 => 4 | 0 => 0 | 105 => 204 | 21 => 21 | 5 => 5 | 46 => 157 | 119 => 154 | 139 => 217 | 138 => 216 | 146 => 218 | 51 => 176 | n => n, fun | 1 => 3 | 3 => 6 | 4 => 7 | n => n⟩
def Tryz.lays146_ren : Go.Shelf.Ren := ⟨fun | 146 => 95 | 221 => 112 | 268 => 122 | 138 => 123 | 143 => 124 | 195 => 134 | 197 => 135 | 218 => 136 | 219 => 137 | 260 => 142 | 217 => 143 | 225 => 144 | 224 => 145 | 267 => 146 | 266 => 147 | 314 => 148 | n => n, fun | 9 => 9 | 31 => 22 | 3 => 3 | 4 => 4 | 0 => 0 | 105 => 204 | 21 => 21 | 5 => 5 | 46 => 157 | 119 => 154 | 139 => 217 | 138 => 216 | 146 => 218 | 51 => 176 | n => n, fun | 1 => 3 | 3 => 6 | 4 => 7 | n => n⟩
theorem Tryz.lays146 : Go.Proofs.Lays.n146 Tryz.prog Tryz.lays146_ren := {
  mixed := by kernel_rfl
  f138 := Tryz.func123.trans (congrArg some (by kernel_rfl))
  f143 := Tryz.func124.trans (congrArg some (by kernel_rfl))
  f146 := Tryz.func95.trans (congrArg some (by kernel_rfl))
  f195 := Tryz.func134.trans (congrArg some (by kernel_rfl))
  f197 := Tryz.func135.trans (congrArg some (by kernel_rfl))
  f217 := Tryz.func143.trans (congrArg some (by kernel_rfl))
  f218 := Tryz.func136.trans (congrArg some (by kernel_rfl))
  f219 := Tryz.func137.trans (congrArg some (by kernel_rfl))
  f221 := Tryz.func112.trans (congrArg some (by kernel_rfl))
  f224 := Tryz.func145.trans (congrArg some (by kernel_rfl))
  f225 := Tryz.func144.trans (congrArg some (by kernel_rfl))
  f260 := Tryz.func142.trans (congrArg some (by kernel_rfl))
  f266 := Tryz.func147.trans (congrArg some (by kernel_rfl))
  f267 := Tryz.func146.trans (congrArg some (by kernel_rfl))
  f268 := Tryz.func122.trans (congrArg some (by kernel_rfl))
  f314 := Tryz.func148.trans (congrArg some (by kernel_rfl))
  t0 := Tryz.underlying0
  a0 := Tryz.isAgg0
  z0 := Tryz.sizeOf0
  v0 := Tryz.zeroValue0
  t3 := Tryz.underlying3
  a3 := Tryz.isAgg3
  z3 := Tryz.sizeOf3
  v3 := Tryz.zeroValue3
  t4 := Tryz.underlying4
  a4 := Tryz.isAgg4
  z4 := Tryz.sizeOf4
  v4 := Tryz.zeroValue4
  t5 := Tryz.underlying5
  a5 := Tryz.isAgg5
  z5 := Tryz.sizeOf5
  v5 := Tryz.zeroValue5
  t9 := Tryz.underlying9
  a9 := Tryz.isAgg9
  z9 := Tryz.sizeOf9
  v9 := Tryz.zeroValue9
  t21 := Tryz.underlying21
  a21 := Tryz.isAgg21
  z21 := Tryz.sizeOf21
  v21 := Tryz.zeroValue21
  t31 := Tryz.underlying22
  a31 := Tryz.isAgg22
  z31 := Tryz.sizeOf22
  v31 := Tryz.zeroValue22
  t46 := Tryz.underlying157
  a46 := Tryz.isAgg157
  z46 := Tryz.sizeOf157
  v46 := Tryz.zeroValue157
  t51 := Tryz.underlying176
  a51 := Tryz.isAgg176
  z51 := Tryz.sizeOf176
  v51 := Tryz.zeroValue176
  t105 := Tryz.underlying204
  a105 := Tryz.isAgg204
  z105 := Tryz.sizeOf204
  v105 := Tryz.zeroValue204
  t119 := Tryz.underlying154
  a119 := Tryz.isAgg154
  z119 := Tryz.sizeOf154
  t138 := Tryz.underlying216
  a138 := Tryz.isAgg216
  z138 := Tryz.sizeOf216
  v138 := Tryz.zeroValue216
  t139 := Tryz.underlying217
  a139 := Tryz.isAgg217
  z139 := Tryz.sizeOf217
  v139 := Tryz.zeroValue217
  t146 := Tryz.underlying218
  a146 := Tryz.isAgg218
  z146 := Tryz.sizeOf218
  v146 := Tryz.zeroValue218
  g1 := by kernel_rfl
  g3 := by kernel_rfl
  g4 := by kernel_rfl }
open Go.RowKit Go.Lib in
theorem Tryz.strings_Split (s sep : ByteArray) (m : Int) (w : World) (hs : s.size < 4294967281) (hm : w.cell? ⟨3, 0, none⟩ = some (.int .i64 m)) (h1 : 1 ≤ sep.size) :
    Calls Tryz.prog 95 #[.string s, .string sep] w fun e w' =>
      e = .returned (.slice (some ⟨w.heap.size, 0, none⟩) (Lib.countB s sep + 1) (Lib.countB s sep + 1)) ∧ w' = w.alloc (.cells ((Lib.splitB sep 0 (Lib.countB s sep) s).map Value.string).toArray 9) := Any.strings_Split Tryz.lays146 (by kernel_rfl) s sep m w hs hm h1
def Tryz.lays157_ren : Go.Shelf.Ren := ⟨fun | 157 => 84 | 229 => 105 | 199 => 106 | 261 => 116 | 311 => 127 | 312 => 128 | n => n, fun | 9 => 9 | 31 => 22 | 3 => 3 | 5 => 5 | 4 => 4 | 119 => 154 | 0 => 0 | 40 => 156 | 152 => 173 | 21 => 21 | 154 => 175 | 51 => 176 | 141 => 178 | 196 => 190 | 193 => 187 | 198 => 193 | 49 => 191 | 194 => 188 | 201 => 196 | 226 => 210 | 46 => 157 | 227 => 211 | n => n, fun | 0 => 0 | 6 => 1 | n => n⟩
theorem Tryz.lays157 : Go.Proofs.Lays.n157 Tryz.prog Tryz.lays157_ren := {
  mixed := by kernel_rfl
  f157 := Tryz.func84.trans (congrArg some (by kernel_rfl))
  f199 := Tryz.func106.trans (congrArg some (by kernel_rfl))
  f229 := Tryz.func105.trans (congrArg some (by kernel_rfl))
  f261 := Tryz.func116.trans (congrArg some (by kernel_rfl))
  f311 := Tryz.func127.trans (congrArg some (by kernel_rfl))
  f312 := Tryz.func128.trans (congrArg some (by kernel_rfl))
  t0 := Tryz.underlying0
  a0 := Tryz.isAgg0
  z0 := Tryz.sizeOf0
  v0 := Tryz.zeroValue0
  t3 := Tryz.underlying3
  a3 := Tryz.isAgg3
  z3 := Tryz.sizeOf3
  v3 := Tryz.zeroValue3
  t4 := Tryz.underlying4
  a4 := Tryz.isAgg4
  z4 := Tryz.sizeOf4
  v4 := Tryz.zeroValue4
  t5 := Tryz.underlying5
  a5 := Tryz.isAgg5
  z5 := Tryz.sizeOf5
  v5 := Tryz.zeroValue5
  t9 := Tryz.underlying9
  a9 := Tryz.isAgg9
  z9 := Tryz.sizeOf9
  v9 := Tryz.zeroValue9
  t21 := Tryz.underlying21
  a21 := Tryz.isAgg21
  z21 := Tryz.sizeOf21
  v21 := Tryz.zeroValue21
  t31 := Tryz.underlying22
  a31 := Tryz.isAgg22
  z31 := Tryz.sizeOf22
  v31 := Tryz.zeroValue22
  t40 := Tryz.underlying156
  a40 := Tryz.isAgg156
  z40 := Tryz.sizeOf156
  v40 := Tryz.zeroValue156
  t46 := Tryz.underlying157
  a46 := Tryz.isAgg157
  z46 := Tryz.sizeOf157
  v46 := Tryz.zeroValue157
  t49 := Tryz.underlying191
  a49 := Tryz.isAgg191
  z49 := Tryz.sizeOf191
  v49 := Tryz.zeroValue191
  t51 := Tryz.underlying176
  a51 := Tryz.isAgg176
  z51 := Tryz.sizeOf176
  v51 := Tryz.zeroValue176
  t119 := Tryz.underlying154
  a119 := Tryz.isAgg154
  z119 := Tryz.sizeOf154
  t141 := Tryz.underlying178
  a141 := Tryz.isAgg178
  z141 := Tryz.sizeOf178
  v141 := Tryz.zeroValue178
  t152 := Tryz.underlying173
  a152 := Tryz.isAgg173
  z152 := Tryz.sizeOf173
  v152 := Tryz.zeroValue173
  t154 := Tryz.underlying175
  a154 := Tryz.isAgg175
  z154 := Tryz.sizeOf175
  v154 := Tryz.zeroValue175
  t193 := Tryz.underlying187
  a193 := Tryz.isAgg187
  z193 := Tryz.sizeOf187
  v193 := Tryz.zeroValue187
  t194 := Tryz.underlying188
  a194 := Tryz.isAgg188
  z194 := Tryz.sizeOf188
  v194 := Tryz.zeroValue188
  t196 := Tryz.underlying190
  a196 := Tryz.isAgg190
  z196 := Tryz.sizeOf190
  v196 := Tryz.zeroValue190
  t198 := Tryz.underlying193
  a198 := Tryz.isAgg193
  z198 := Tryz.sizeOf193
  v198 := Tryz.zeroValue193
  t201 := Tryz.underlying196
  a201 := Tryz.isAgg196
  z201 := Tryz.sizeOf196
  v201 := Tryz.zeroValue196
  t226 := Tryz.underlying210
  a226 := Tryz.isAgg210
  z226 := Tryz.sizeOf210
  v226 := Tryz.zeroValue210
  t227 := Tryz.underlying211
  a227 := Tryz.isAgg211
  z227 := Tryz.sizeOf211
  v227 := Tryz.zeroValue211
  g0 := by kernel_rfl
  g6 := by kernel_rfl }
open Go.RowKit Go.Lib in
theorem Tryz.strings_Fields (s : ByteArray) (w : World) (hs : s.size < 4294967281) (hascii : ∀ (j : Nat) b, s.data.toList[j]? = some b → b.toNat < 128) (htab : Lib.TabIs Tryz.prog w "strings.asciiSpace" .u8 Lib.asciiSpaceTab) :
    Calls Tryz.prog 84 #[.string s] w fun e w' =>
      e = .returned (.slice (some ⟨w.heap.size, 0, none⟩) (Lib.fields s.data.toList).length (Lib.fields s.data.toList).length) ∧ w' = w.alloc (.cells ((Lib.fields s.data.toList).map fun l => Value.string ⟨l.toArray⟩).toArray 9) := Any.strings_Fields Tryz.lays157 (by kernel_rfl) (by kernel_rfl) s w hs hascii htab
def Tryz.laysM146_ren : Go.Shelf.Ren := ⟨fun | 146 => 95 | 221 => 112 | 268 => 122 | 138 => 123 | 143 => 124 | 195 => 134 | 197 => 135 | 218 => 136 | 219 => 137 | 260 => 142 | 217 => 143 | 225 => 144 | 224 => 145 | 267 => 146 | 266 => 147 | 314 => 148 | n => n, fun | 9 => 9 | 31 => 22 | 3 => 3 | 4 => 4 | 0 => 0 | 105 => 204 | 21 => 21 | 5 => 5 | 46 => 157 | 119 => 154 | 139 => 217 | 138 => 216 | 146 => 218 | 51 => 176 | n => n, fun | 1 => 3 | 3 => 6 | 4 => 7 | n => n⟩
theorem Tryz.laysM146 : Go.Proofs.LaysM.n146 Tryz.prog Tryz.laysM146_ren := {
  mixed := by kernel_rfl
  f138 := Tryz.func123.trans (congrArg some (by kernel_rfl))
  f143 := Tryz.func124.trans (congrArg some (by kernel_rfl))
  f146 := Tryz.func95.trans (congrArg some (by kernel_rfl))
  f195 := Tryz.func134.trans (congrArg some (by kernel_rfl))
  f197 := Tryz.func135.trans (congrArg some (by kernel_rfl))
  f217 := Tryz.func143.trans (congrArg some (by kernel_rfl))
  f218 := Tryz.func136.trans (congrArg some (by kernel_rfl))
  f219 := Tryz.func137.trans (congrArg some (by kernel_rfl))
  f221 := Tryz.func112.trans (congrArg some (by kernel_rfl))
  f224 := Tryz.func145.trans (congrArg some (by kernel_rfl))
  f225 := Tryz.func144.trans (congrArg some (by kernel_rfl))
  f260 := Tryz.func142.trans (congrArg some (by kernel_rfl))
  f266 := Tryz.func147.trans (congrArg some (by kernel_rfl))
  f267 := Tryz.func146.trans (congrArg some (by kernel_rfl))
  f268 := Tryz.func122.trans (congrArg some (by kernel_rfl))
  f314 := Tryz.func148.trans (congrArg some (by kernel_rfl))
  t0 := Tryz.underlying0
  a0 := Tryz.isAgg0
  z0 := Tryz.sizeOf0
  v0 := Tryz.zeroValue0
  t3 := Tryz.underlying3
  a3 := Tryz.isAgg3
  z3 := Tryz.sizeOf3
  v3 := Tryz.zeroValue3
  t4 := Tryz.underlying4
  a4 := Tryz.isAgg4
  z4 := Tryz.sizeOf4
  v4 := Tryz.zeroValue4
  t5 := Tryz.underlying5
  a5 := Tryz.isAgg5
  z5 := Tryz.sizeOf5
  v5 := Tryz.zeroValue5
  t9 := Tryz.underlying9
  a9 := Tryz.isAgg9
  z9 := Tryz.sizeOf9
  v9 := Tryz.zeroValue9
  t21 := Tryz.underlying21
  a21 := Tryz.isAgg21
  z21 := Tryz.sizeOf21
  v21 := Tryz.zeroValue21
  t31 := Tryz.underlying22
  a31 := Tryz.isAgg22
  z31 := Tryz.sizeOf22
  v31 := Tryz.zeroValue22
  t46 := Tryz.underlying157
  a46 := Tryz.isAgg157
  z46 := Tryz.sizeOf157
  v46 := Tryz.zeroValue157
  t51 := Tryz.underlying176
  a51 := Tryz.isAgg176
  z51 := Tryz.sizeOf176
  v51 := Tryz.zeroValue176
  t105 := Tryz.underlying204
  a105 := Tryz.isAgg204
  z105 := Tryz.sizeOf204
  v105 := Tryz.zeroValue204
  t119 := Tryz.underlying154
  a119 := Tryz.isAgg154
  z119 := Tryz.sizeOf154
  t138 := Tryz.underlying216
  a138 := Tryz.isAgg216
  z138 := Tryz.sizeOf216
  v138 := Tryz.zeroValue216
  t139 := Tryz.underlying217
  a139 := Tryz.isAgg217
  z139 := Tryz.sizeOf217
  v139 := Tryz.zeroValue217
  t146 := Tryz.underlying218
  a146 := Tryz.isAgg218
  z146 := Tryz.sizeOf218
  v146 := Tryz.zeroValue218
  g1 := by kernel_rfl
  g3 := by kernel_rfl
  g4 := by kernel_rfl
  i0 := by kernel_rfl
  i3 := by kernel_rfl
  i4 := by kernel_rfl
  i5 := by kernel_rfl
  i9 := by kernel_rfl
  i21 := by kernel_rfl
  i31 := by kernel_rfl
  i46 := by kernel_rfl
  i51 := by kernel_rfl
  i105 := by kernel_rfl
  i138 := by kernel_rfl
  i139 := by kernel_rfl
  i146 := by kernel_rfl
  m1 := by kernel_rfl
  s1_3 := fun w h => Go.Proofs.cell_of_shapedOpen_int (zero := #[.int .i64 0]) (t := 3) h (of_decide_eq_true (by kernel_rfl)) (by kernel_rfl) rfl (by kernel_rfl) (by kernel_rfl) Tryz.underlying3
  m3 := by kernel_rfl
  m4 := by kernel_rfl }
def Tryz.laysNm216_ren : Go.Shelf.Ren := ⟨fun | 16 => 25 | n => n, fun | 24 => 22 | 9 => 9 | 4 => 4 | n => n, fun | n => n⟩
theorem Tryz.laysNm216 : Go.Proofs.Lays2.n16 Tryz.prog Tryz.laysNm216_ren := {
  mixed := by kernel_rfl
  f16 := Tryz.func25.trans (congrArg some (by kernel_rfl))
  t4 := Tryz.underlying4
  a4 := Tryz.isAgg4
  z4 := Tryz.sizeOf4
  v4 := Tryz.zeroValue4
  t9 := Tryz.underlying9
  a9 := Tryz.isAgg9
  z9 := Tryz.sizeOf9
  v9 := Tryz.zeroValue9
  t24 := Tryz.underlying22
  a24 := Tryz.isAgg22
  z24 := Tryz.sizeOf22
  v24 := Tryz.zeroValue22
  i9 := by kernel_rfl }
open Go.RowKit Go.Lib in
theorem Tryz.slices_Clone_string (b off n c : Nat) (zs : List ByteArray) (w : World) (hz : n ≤ zs.length) (hbig : n * 16 ≤ 140737488355328) (hc : ∀ j, j < zs.length → w.cell? ⟨b, off + j, none⟩ = some (.string (zs.getD j ByteArray.empty))) :
    Calls Tryz.prog 25 #[.slice (some ⟨b, off, none⟩) n c] w fun e w' => ∃ v', e = .returned v' ∧ w'.ownsRow w.heap.size 9 1 v' n ((zs.take n).map (Value.string)) ∧ v' ≠ .slice none 0 0 ∧ Below w.heap.size w w' := Any.slices_Clone_string Tryz.laysNm216 b off n c zs w hz hbig hc
open Go.RowKit Go.Lib in
theorem Tryz.slices_Clone_string_nil (n c : Nat) (w : World) :
    Calls Tryz.prog 25 #[.slice none n c] w fun e w' => e = .returned (.slice none 0 0) ∧ w' = w := Any.slices_Clone_string_nil Tryz.laysNm216 n c w
open Go.RowKit Go.Lib in
theorem Tryz.slices_Clone_string_zero (a : Addr) (c : Nat) (w : World) :
    Calls Tryz.prog 25 #[.slice (some a) 0 c] w fun e w' => ∃ v', e = .returned v' ∧ w'.ownsRow w.heap.size 9 1 v' 0 [] ∧ v' ≠ .slice none 0 0 ∧ Below w.heap.size w w' := Any.slices_Clone_string_zero Tryz.laysNm216 a c w
end Go.Proofs
end
section
open Go Go.Proofs
namespace Go.Ev
open Go.Maps Go.ChangeMaps Go.WideMaps
set_option linter.unusedVariables false
set_option linter.unusedSimpArgs false
def MapAt (w : World) (b n : Nat) (L : ByteArray → Bool) : Prop := ∃ D : DataW Unit, w.ownsMap Tryz.prog 9 (plainElem Tryz.prog 4) b n D ∧ ∀ s : ByteArray, s.size ≤ maxLen → D.atKey (.string s.data.toList) (.lit (.bool false)) = .lit (.bool (L s))
theorem MapAt.same {w w' : World} {b n : Nat} {L : ByteArray → Bool} (h : MapAt w b n L) (hb : w'.heap[b]? = w.heap[b]?) : MapAt w' b n L := by
  obtain ⟨D, ⟨es, clock, h1, h2⟩, hL⟩ := h
  exact ⟨D, ⟨es, clock, hb.trans h1, h2⟩, hL⟩
theorem owns_same {w w' : World} {B e size n : Nat} {v : Value} {xs : List Value} (h : w.ownsRow B e size v n xs) (hb : ∀ k, v.ownBlock = some k → w'.heap[k]? = w.heap[k]?) : w'.ownsRow B e size v n xs := by
  obtain ⟨h1, h2 | ⟨g, cap, cur, rfl, h3, h4, h5⟩⟩ := h
  · exact ⟨h1, .inl h2⟩
  · exact ⟨h1, .inr ⟨g, cap, cur, rfl, h3, (hb g rfl).trans h4, h5⟩⟩
def FrepT (x : II 1000003) (S : Nat → Nat → Prop) (w : World) (v : Value) (fp : List Nat) : Prop :=
  match (x : Thing) with
  | .ren l => ∃ g sv, v = .func (.func 55) #[] #[.pointer (some ⟨g, 0, none⟩)] ∧ fp = [g] ∧ w.heap[g]? = some (.cells #[sv] 32 (0, 0)) ∧ DRep EE0 S w sv (.sl 58 l)
  | .names l => ∃ gs gm go sv n, v = .func (.func 49) #[] #[.pointer (some ⟨gs, 0, none⟩), .pointer (some ⟨go, 0, none⟩)] ∧ fp = gs :: gm :: go :: sv.ownBlock.toList ∧ n ≤ l.length ∧
      w.heap[gs]? = some (.cells #[.map (some gm)] 100 (0, 0)) ∧ MapAt w gm n (fun y => l.any fun z => z.toList == y.toList) ∧ w.heap[go]? = some (.cells #[sv] 22 (0, 0)) ∧ w.ownsRow 0 9 1 sv l.length (l.map Value.string)
theorem frameT (x : II 1000003) (S S' : Nat → Nat → Prop) (w w' : World) (v : Value) (fp : List Nat) (h : FrepT x S w v fp) (hS : ∀ g o, S g o → S' g o)
    (hc : ∀ g o u, S g o → w.cell? ⟨g, o, none⟩ = some u → w'.cell? ⟨g, o, none⟩ = some u) (hk : ∀ k ∈ fp, w'.heap[k]? = w.heap[k]?) : FrepT x S' w' v fp := by
  unfold FrepT at h ⊢
  cases x with
  | ren l =>
    obtain ⟨g, sv, rfl, rfl, h1, h2⟩ := h
    exact ⟨g, sv, rfl, rfl, (hk g (by simp)).trans h1, h2.move hS hc⟩
  | names l =>
    obtain ⟨gs, gm, go, sv, n, rfl, rfl, hn, h1, h2, h3, h4⟩ := h
    exact ⟨gs, gm, go, sv, n, rfl, rfl, hn, (hk gs (by simp)).trans h1, h2.same (hk gm (by simp)), (hk go (by simp)).trans h3, owns_same h4 fun k e => hk k (by simp [e])⟩
def InvT (w : World) : Prop := Lib.TabIs Tryz.prog w "strings.asciiSpace" .u8 Lib.asciiSpaceTab ∧ (∃ m, w.cell? ⟨3, 0, none⟩ = some (.int .i64 m)) ∧ Lib.TabIs Tryz.prog w "internal/strconv.uint64pow10" .u64 Lib.pow10Tab
theorem cell_lt {w : World} {a : Addr} {v : Value} (h : w.cell? a = some v) : a.block < w.heap.size := by
  unfold World.cell? at h
  split at h
  · rename_i hb; exact (Array.getElem?_eq_some_iff.1 hb).1
  · cases h
theorem tab_same {w w' : World} {n : String} {g : Nat} {k : IntKind} {t : List Int} (hgn : Tryz.prog.globalNamed n = some g) (h : Lib.TabIs Tryz.prog w n k t) (h0 : w'.heap[g]? = w.heap[g]?) : Lib.TabIs Tryz.prog w' n k t := by
  unfold Lib.TabIs World.var? at h ⊢
  rw [hgn] at h ⊢
  simp only [Option.bind_some] at h ⊢
  rw [h0]; exact h
theorem tab_lt {w : World} {n : String} {g : Nat} {k : IntKind} {t : List Int} (hgn : Tryz.prog.globalNamed n = some g) (h : Lib.TabIs Tryz.prog w n k t) : g < w.heap.size := by
  unfold Lib.TabIs World.var? at h
  rw [hgn] at h
  simp only [Option.bind_some] at h
  rcases Nat.lt_or_ge g w.heap.size with h' | h'
  · exact h'
  · simp [Array.getElem?_eq_none h'] at h
theorem gn_ascii : Tryz.prog.globalNamed "strings.asciiSpace" = some 0 := by kernel_rfl
theorem gn_pow : Tryz.prog.globalNamed "internal/strconv.uint64pow10" = some 2 := by kernel_rfl
def EE : Env II := { EE0 with
  io := fun f => match f with | 42 | 43 | 44 | 45 | 66 | 68 | 70 | 72 | 73 | 74 | 94 => true | _ => false
  frep := FrepT
  frame := frameT
  glob := fun k => k = 0 ∨ k = 3 ∨ k = 2
  inv := InvT
  invLt := by
    rintro w k ⟨h1, ⟨m, h2⟩, h3⟩ (rfl | rfl | rfl)
    · exact tab_lt gn_ascii h1
    · exact cell_lt h2
    · exact tab_lt gn_pow h3
  invKeep := by
    rintro w w' ⟨h1, ⟨m, h2⟩, h3⟩ hk
    refine ⟨tab_same gn_ascii h1 (hk 0 (.inl rfl)), ⟨m, ?_⟩, tab_same gn_pow h3 (hk 2 (.inr (.inr rfl)))⟩
    rw [← h2]
    simp only [World.cell?, hk 3 (.inr (.inl rfl))] }
end Go.Ev
end
section
open Go Go.Proofs
namespace Go.Ev
set_option maxRecDepth 100000
set_option maxHeartbeats 4000000
def cT : CodC EE Thing := cellT some (fun x => x) fun x a h => by injection h with h; exact h.symm
def c_TExpr : Cod EE TExpr := codS mk_TExpr row_TExpr fun _ _ => mk_TExpr_le
def c_TField : Cod EE TField := codS mk_TField row_TField fun _ _ => mk_TField_le
def c_TMarks : Cod EE TMarks := codS mk_TMarks row_TMarks fun _ _ => mk_TMarks_le
def c_TParam : Cod EE TParam := codS mk_TParam row_TParam fun _ _ => mk_TParam_le
def c_TProgram : Cod EE TProgram := codS mk_TProgram row_TProgram fun _ _ => mk_TProgram_le
def c_TRec : Cod EE TRec := codS mk_TRec row_TRec fun _ _ => mk_TRec_le
def c_TRoutine : Cod EE TRoutine := codS mk_TRoutine row_TRoutine fun _ _ => mk_TRoutine_le
def c_TStmt : Cod EE TStmt := codS mk_TStmt row_TStmt fun _ _ => mk_TStmt_le
def c_TType : Cod EE TType := codS mk_TType row_TType fun _ _ => mk_TType_le
def c_TVar : Cod EE TVar := codS mk_TVar row_TVar fun _ _ => mk_TVar_le
def c_Tr12_Thing : Cod EE Tr12_Thing := codS mk_Tr12_Thing row_Tr12_Thing fun _ _ => mk_Tr12_Thing_le
abbrev a_w16_RenameSense : Type := Int × TProgram × Unit
abbrev b_w16_RenameSense : Type := Bool
def c_w16_RenameSense : CodL EE a_w16_RenameSense := .cons (cInt .i64) (.cons c_TProgram .nil)
def rc_w16_RenameSense : RC EE b_w16_RenameSense := RC.one cBool
def co_w16_RenameSense : Co := { res := [[.any]] }
abbrev a_r07_Names : Type := TProgram × Unit
abbrev b_r07_Names : Type := (List ByteArray)
def c_r07_Names : CodL EE a_r07_Names := .cons c_TProgram .nil
def rc_r07_Names : RC EE b_r07_Names := RC.one (cSl 9)
def co_r07_Names : Co := { res := [[.sl 9]] }
abbrev a_w16_awake : Type := Unit
abbrev b_w16_awake : Type := Bool
def c_w16_awake : CodL EE a_w16_awake := .nil
def rc_w16_awake : RC EE b_w16_awake := RC.one cBool
def co_w16_awake : Co := { res := [[.any]] }
abbrev a_rename_Table : Type := Int × TProgram × Unit
abbrev b_rename_Table : Type := (List TPair)
def c_rename_Table : CodL EE a_rename_Table := .cons (cInt .i64) (.cons c_TProgram .nil)
def rc_rename_Table : RC EE b_rename_Table := RC.one (cSl 58)
def co_rename_Table : Co := { res := [[.sl 58]] }
abbrev a_rename_Apply : Type := Int × TProgram × Unit
abbrev b_rename_Apply : Type := TProgram × (List TPair) × Unit
def c_rename_Apply : CodL EE a_rename_Apply := .cons (cInt .i64) (.cons c_TProgram .nil)
def rc_rename_Apply : RC EE b_rename_Apply := RC.many (.cons c_TProgram (.cons (cSl 58) .nil))
def co_rename_Apply : Co := { res := [[.any, .sl 9, .sl 9, .sl 9, .sl 46, .sl 56, .sl 90, .sl 97, .sl 9], [.sl 58]] }
abbrev a_r16_SamePairs : Type := (List TPair) × (List TPair) × Unit
abbrev b_r16_SamePairs : Type := Bool
def c_r16_SamePairs : CodL EE a_r16_SamePairs := .cons (cSl 58) (.cons (cSl 58) .nil)
def rc_r16_SamePairs : RC EE b_r16_SamePairs := RC.one cBool
def co_r16_SamePairs : Co := { res := [[.any]] }
abbrev a_r07_Check : Type := Int × TProgram × Unit
abbrev b_r07_Check : Type := Bool
def c_r07_Check : CodL EE a_r07_Check := .cons (cInt .i64) (.cons c_TProgram .nil)
def rc_r07_Check : RC EE b_r07_Check := RC.one cBool
def co_r07_Check : Co := { res := [[.any]] }
abbrev a_r12_Check : Type := TProgram × Unit
abbrev b_r12_Check : Type := Int × Int × Unit
def c_r12_Check : CodL EE a_r12_Check := .cons c_TProgram .nil
def rc_r12_Check : RC EE b_r12_Check := RC.many (.cons (cInt .i64) (.cons (cInt .i64) .nil))
def co_r12_Check : Co := { res := [[.any], [.any]] }
abbrev a_r07_Parts : Type := ByteArray × Unit
abbrev b_r07_Parts : Type := (List ByteArray)
def c_r07_Parts : CodL EE a_r07_Parts := .cons cStr .nil
def rc_r07_Parts : RC EE b_r07_Parts := RC.one (Cod.c (cellO 9))
def co_r07_Parts : Co := { res := [[.ow 9]] }
abbrev a_r07_varNames : Type := (List TVar) × Unit
abbrev b_r07_varNames : Type := (List ByteArray)
def c_r07_varNames : CodL EE a_r07_varNames := .cons (cSl 56) .nil
def rc_r07_varNames : RC EE b_r07_varNames := RC.one (cSl 9)
def co_r07_varNames : Co := { res := [[.sl 9]] }
abbrev a_r07_routineNames : Type := (List TRoutine) × Unit
abbrev b_r07_routineNames : Type := (List ByteArray)
def c_r07_routineNames : CodL EE a_r07_routineNames := .cons (cSl 90) .nil
def rc_r07_routineNames : RC EE b_r07_routineNames := RC.one (cSl 9)
def co_r07_routineNames : Co := { res := [[.sl 9]] }
abbrev a_r07_stmtNames : Type := (List TStmt) × Unit
abbrev b_r07_stmtNames : Type := (List ByteArray)
def c_r07_stmtNames : CodL EE a_r07_stmtNames := .cons (cSl 97) .nil
def rc_r07_stmtNames : RC EE b_r07_stmtNames := RC.one (cSl 9)
def co_r07_stmtNames : Co := { res := [[.sl 9]] }
abbrev a_r04_Among : Type := (List ByteArray) × ByteArray × Unit
abbrev b_r04_Among : Type := Bool
def c_r04_Among : CodL EE a_r04_Among := .cons (cSl 9) (.cons cStr .nil)
def rc_r04_Among : RC EE b_r04_Among := RC.one cBool
def co_r04_Among : Co := { res := [[.any]] }
abbrev a_tree_Names : Type := TProgram × Unit
abbrev b_tree_Names : Type := (List ByteArray)
def c_tree_Names : CodL EE a_tree_Names := .cons c_TProgram .nil
def rc_tree_Names : RC EE b_tree_Names := RC.one (cSl 9)
abbrev a_slices_Clone_string : Type := (List ByteArray) × Unit
abbrev b_slices_Clone_string : Type := (List ByteArray)
def c_slices_Clone_string : CodL EE a_slices_Clone_string := .cons (cSl 9) .nil
def rc_slices_Clone_string : RC EE b_slices_Clone_string := RC.one (Cod.c (cellO 9))
abbrev a_words_Clash : Type := Int × (List ByteArray) × Unit
abbrev b_words_Clash : Type := (List ByteArray)
def c_words_Clash : CodL EE a_words_Clash := .cons (cInt .i64) (.cons (cSl 9) .nil)
def rc_words_Clash : RC EE b_words_Clash := RC.one (Cod.c (cellO 9))
abbrev a_words_Fresh : Type := ByteArray × (List ByteArray) × Unit
abbrev b_words_Fresh : Type := ByteArray
def c_words_Fresh : CodL EE a_words_Fresh := .cons cStr (.cons (cSl 9) .nil)
def rc_words_Fresh : RC EE b_words_Fresh := RC.one cStr
def co_words_Fresh : Co := { res := [[.any]] }
abbrev a_tree_Rename : Type := TProgram × (List TPair) × Unit
abbrev b_tree_Rename : Type := TProgram
def c_tree_Rename : CodL EE a_tree_Rename := .cons c_TProgram (.cons (cSl 58) .nil)
def rc_tree_Rename : RC EE b_tree_Rename := RC.one c_TProgram
abbrev a_r04_Is : Type := Int × ByteArray × Unit
abbrev b_r04_Is : Type := Bool
def c_r04_Is : CodL EE a_r04_Is := .cons (cInt .i64) (.cons cStr .nil)
def rc_r04_Is : RC EE b_r04_Is := RC.one cBool
def co_r04_Is : Co := { res := [[.any]] }
abbrev a_r07_Name : Type := Int × ByteArray × Unit
abbrev b_r07_Name : Type := Bool
def c_r07_Name : CodL EE a_r07_Name := .cons (cInt .i64) (.cons cStr .nil)
def rc_r07_Name : RC EE b_r07_Name := RC.one cBool
def co_r07_Name : Co := { res := [[.any]] }
abbrev a_r07_notes : Type := (List ByteArray) × Unit
abbrev b_r07_notes : Type := Bool
def c_r07_notes : CodL EE a_r07_notes := .cons (cSl 9) .nil
def rc_r07_notes : RC EE b_r07_notes := RC.one cBool
def co_r07_notes : Co := { res := [[.any]] }
abbrev a_r07_marks : Type := TMarks × Unit
abbrev b_r07_marks : Type := Bool
def c_r07_marks : CodL EE a_r07_marks := .cons c_TMarks .nil
def rc_r07_marks : RC EE b_r07_marks := RC.one cBool
def co_r07_marks : Co := { res := [[.any]] }
abbrev a_r07_vars : Type := Int × (List TVar) × Unit
abbrev b_r07_vars : Type := Bool
def c_r07_vars : CodL EE a_r07_vars := .cons (cInt .i64) (.cons (cSl 56) .nil)
def rc_r07_vars : RC EE b_r07_vars := RC.one cBool
def co_r07_vars : Co := { res := [[.any]] }
abbrev a_r07_routines : Type := Int × (List TRoutine) × Int × Unit
abbrev b_r07_routines : Type := Bool
def c_r07_routines : CodL EE a_r07_routines := .cons (cInt .i64) (.cons (cSl 90) (.cons (cInt .i64) .nil))
def rc_r07_routines : RC EE b_r07_routines := RC.one cBool
def co_r07_routines : Co := { res := [[.any]] }
abbrev a_r07_Stmts : Type := Int × (List TStmt) × Int × Unit
abbrev b_r07_Stmts : Type := Bool
def c_r07_Stmts : CodL EE a_r07_Stmts := .cons (cInt .i64) (.cons (cSl 97) (.cons (cInt .i64) .nil))
def rc_r07_Stmts : RC EE b_r07_Stmts := RC.one cBool
def co_r07_Stmts : Co := { res := [[.any]] }
abbrev a_r12_Look_recs : Type := (Int × Int × Unit) × (List TRec) × Unit
abbrev b_r12_Look_recs : Type := (List Tr12_Thing) × ((Int × Int × Unit) × Unit)
def c_r12_Look_recs : CodL EE a_r12_Look_recs := .cons (.c (cellIO 0 (.cons (cellI .i64) (.cons (cellI .i64) .nil)))) (.cons (cSl 46) .nil)
def rc_r12_Look_recs : RC EE b_r12_Look_recs := RC.oneR (cSl 118) (.cons (cellIO 0 (.cons (cellI .i64) (.cons (cellI .i64) .nil))) .nil)
def co_r12_Look_recs : Co := { res := [[.sl 118]] }
abbrev a_r12_Look_vars : Type := (Int × Int × Unit) × (List Tr12_Thing) × (List TVar) × (List TRoutine) × Unit
abbrev b_r12_Look_vars : Type := (List Tr12_Thing) × ((Int × Int × Unit) × Unit)
def c_r12_Look_vars : CodL EE a_r12_Look_vars := .cons (.c (cellIO 0 (.cons (cellI .i64) (.cons (cellI .i64) .nil)))) (.cons (cSl 118) (.cons (cSl 56) (.cons (cSl 90) .nil)))
def rc_r12_Look_vars : RC EE b_r12_Look_vars := RC.oneR (cSl 118) (.cons (cellIO 0 (.cons (cellI .i64) (.cons (cellI .i64) .nil))) .nil)
def co_r12_Look_vars : Co := { res := [[.sl 118]] }
abbrev a_r12_Look_routines : Type := (Int × Int × Unit) × (List Tr12_Thing) × (List TRoutine) × Unit
abbrev b_r12_Look_routines : Type := (Unit) × ((Int × Int × Unit) × Unit)
def c_r12_Look_routines : CodL EE a_r12_Look_routines := .cons (.c (cellIO 0 (.cons (cellI .i64) (.cons (cellI .i64) .nil)))) (.cons (cSl 118) (.cons (cSl 90) .nil))
def rc_r12_Look_routines : RC EE b_r12_Look_routines := RC.manyR .nil (.cons (cellIO 0 (.cons (cellI .i64) (.cons (cellI .i64) .nil))) .nil)
def co_r12_Look_routines : Co := { res := [] }
abbrev a_r12_Look_stmts : Type := (Int × Int × Unit) × (List Tr12_Thing) × Int × (List TStmt) × Unit
abbrev b_r12_Look_stmts : Type := (Unit) × ((Int × Int × Unit) × Unit)
def c_r12_Look_stmts : CodL EE a_r12_Look_stmts := .cons (.c (cellIO 0 (.cons (cellI .i64) (.cons (cellI .i64) .nil)))) (.cons (cSl 118) (.cons (cInt .i64) (.cons (cSl 97) .nil)))
def rc_r12_Look_stmts : RC EE b_r12_Look_stmts := RC.manyR .nil (.cons (cellIO 0 (.cons (cellI .i64) (.cons (cellI .i64) .nil))) .nil)
def co_r12_Look_stmts : Co := { res := [] }
abbrev a_r12_Visible : Type := (List Tr12_Thing) × (List TRoutine) × Unit
abbrev b_r12_Visible : Type := (List Tr12_Thing)
def c_r12_Visible : CodL EE a_r12_Visible := .cons (cSl 118) (.cons (cSl 90) .nil)
def rc_r12_Visible : RC EE b_r12_Visible := RC.one (cSl 118)
def co_r12_Visible : Co := { res := [[.sl 118]] }
abbrev a_r07_ExprNames : Type := TExpr × Unit
abbrev b_r07_ExprNames : Type := (List ByteArray)
def c_r07_ExprNames : CodL EE a_r07_ExprNames := .cons c_TExpr .nil
def rc_r07_ExprNames : RC EE b_r07_ExprNames := RC.one (cSl 9)
def co_r07_ExprNames : Co := { res := [[.sl 9]] }
abbrev a_tree_mapper_program : Type := (Thing × Unit) × TProgram × Unit
abbrev b_tree_mapper_program : Type := TProgram × (Thing × Unit)
def c_tree_mapper_program : CodL EE a_tree_mapper_program := .cons (.agg (.cons cT .nil)) (.cons c_TProgram .nil)
def rc_tree_mapper_program : RC EE b_tree_mapper_program := RC.oneR c_TProgram (.cons cT .nil)
def co_tree_mapper_program : Co := { res := [[.any, .sl 9, .sl 9, .sl 9, .sl 46, .sl 56, .sl 90, .sl 97, .sl 9]] }
abbrev a_words_Is : Type := Int × ByteArray × Unit
abbrev b_words_Is : Type := Bool
def c_words_Is : CodL EE a_words_Is := .cons (cInt .i64) (.cons cStr .nil)
def rc_words_Is : RC EE b_words_Is := RC.one cBool
abbrev a_slices_Contains_string : Type := (List ByteArray) × ByteArray × Unit
abbrev b_slices_Contains_string : Type := Bool
def c_slices_Contains_string : CodL EE a_slices_Contains_string := .cons (cSl 9) (.cons cStr .nil)
def rc_slices_Contains_string : RC EE b_slices_Contains_string := RC.one cBool
def co_slices_Contains_string : Co := { res := [[.any]] }
abbrev a_strconv_Itoa : Type := Int × Unit
abbrev b_strconv_Itoa : Type := ByteArray
def c_strconv_Itoa : CodL EE a_strconv_Itoa := .cons (cInt .i64) .nil
def rc_strconv_Itoa : RC EE b_strconv_Itoa := RC.one cStr
abbrev a_tree_Rename_1 : Type := ByteArray × (List TPair) × Unit
abbrev b_tree_Rename_1 : Type := ByteArray
def c_tree_Rename_1 : CodL EE a_tree_Rename_1 := .cons cStr (.cons (.c (cellRPL 58)) .nil)
def rc_tree_Rename_1 : RC EE b_tree_Rename_1 := RC.one cStr
def co_tree_Rename_1 : Co := { res := [[.any]] }
abbrev a_r04_All : Type := Int × Unit
abbrev b_r04_All : Type := (List ByteArray)
def c_r04_All : CodL EE a_r04_All := .cons (cInt .i64) .nil
def rc_r04_All : RC EE b_r04_All := RC.one (cSl 9)
def co_r04_All : Co := { res := [[.sl 9]] }
abbrev a_r04_Check : Type := ByteArray × Unit
abbrev b_r04_Check : Type := Int
def c_r04_Check : CodL EE a_r04_Check := .cons cStr .nil
def rc_r04_Check : RC EE b_r04_Check := RC.one (cInt .i64)
def co_r04_Check : Co := { res := [[.any]] }
abbrev a_r02_Check : Type := ByteArray × Unit
abbrev b_r02_Check : Type := Int
def c_r02_Check : CodL EE a_r02_Check := .cons cStr .nil
def rc_r02_Check : RC EE b_r02_Check := RC.one (cInt .i64)
def co_r02_Check : Co := { res := [[.any]] }
abbrev a_r07_Type : Type := Int × TType × Unit
abbrev b_r07_Type : Type := Bool
def c_r07_Type : CodL EE a_r07_Type := .cons (cInt .i64) (.cons c_TType .nil)
def rc_r07_Type : RC EE b_r07_Type := RC.one cBool
def co_r07_Type : Co := { res := [[.any]] }
abbrev a_r07_Routine : Type := Int × ByteArray × Unit
abbrev b_r07_Routine : Type := Bool
def c_r07_Routine : CodL EE a_r07_Routine := .cons (cInt .i64) (.cons cStr .nil)
def rc_r07_Routine : RC EE b_r07_Routine := RC.one cBool
def co_r07_Routine : Co := { res := [[.any]] }
abbrev a_r07_params : Type := Int × (List TParam) × Unit
abbrev b_r07_params : Type := Bool
def c_r07_params : CodL EE a_r07_params := .cons (cInt .i64) (.cons (cSl 92) .nil)
def rc_r07_params : RC EE b_r07_params := RC.one cBool
def co_r07_params : Co := { res := [[.any]] }
abbrev a_r07_Stmt : Type := Int × TStmt × Int × Unit
abbrev b_r07_Stmt : Type := Bool
def c_r07_Stmt : CodL EE a_r07_Stmt := .cons (cInt .i64) (.cons c_TStmt (.cons (cInt .i64) .nil))
def rc_r07_Stmt : RC EE b_r07_Stmt := RC.one cBool
def co_r07_Stmt : Co := { res := [[.any]] }
abbrev a_r12_Look_next : Type := (Int × Int × Unit) × Unit
abbrev b_r12_Look_next : Type := Bool × ((Int × Int × Unit) × Unit)
def c_r12_Look_next : CodL EE a_r12_Look_next := .cons (.c (cellIO 0 (.cons (cellI .i64) (.cons (cellI .i64) .nil)))) .nil
def rc_r12_Look_next : RC EE b_r12_Look_next := RC.oneR cBool (.cons (cellIO 0 (.cons (cellI .i64) (.cons (cellI .i64) .nil))) .nil)
def co_r12_Look_next : Co := { res := [[.any]] }
abbrev a_r12_find : Type := (List Tr12_Thing) × ByteArray × Unit
abbrev b_r12_find : Type := Tr12_Thing
def c_r12_find : CodL EE a_r12_find := .cons (cSl 118) (.cons cStr .nil)
def rc_r12_find : RC EE b_r12_find := RC.one c_Tr12_Thing
def co_r12_find : Co := { res := [[.any, .any, .sl 9, .sl 9, .any, .sl 48, .sl 9, .sl 9, .sl 9, .any, .any, .sl 92, .sl 56, .sl 90, .sl 97, .sl 9, .any, .any, .any]] }
abbrev a_r12_Look_fail : Type := (Int × Int × Unit) × Int × Unit
abbrev b_r12_Look_fail : Type := (Unit) × ((Int × Int × Unit) × Unit)
def c_r12_Look_fail : CodL EE a_r12_Look_fail := .cons (.c (cellIO 0 (.cons (cellI .i64) (.cons (cellI .i64) .nil)))) (.cons (cInt .i64) .nil)
def rc_r12_Look_fail : RC EE b_r12_Look_fail := RC.manyR .nil (.cons (cellIO 0 (.cons (cellI .i64) (.cons (cellI .i64) .nil))) .nil)
def co_r12_Look_fail : Co := { res := [] }
abbrev a_r12_with : Type := (List Tr12_Thing) × Tr12_Thing × Unit
abbrev b_r12_with : Type := (List Tr12_Thing)
def c_r12_with : CodL EE a_r12_with := .cons (cSl 118) (.cons c_Tr12_Thing .nil)
def rc_r12_with : RC EE b_r12_with := RC.one (Cod.c (cellO 118))
def co_r12_with : Co := { res := [[.ow 118]] }
abbrev a_r12_Look_typ : Type := (Int × Int × Unit) × (List Tr12_Thing) × TType × Unit
abbrev b_r12_Look_typ : Type := (Unit) × ((Int × Int × Unit) × Unit)
def c_r12_Look_typ : CodL EE a_r12_Look_typ := .cons (.c (cellIO 0 (.cons (cellI .i64) (.cons (cellI .i64) .nil)))) (.cons (cSl 118) (.cons c_TType .nil))
def rc_r12_Look_typ : RC EE b_r12_Look_typ := RC.manyR .nil (.cons (cellIO 0 (.cons (cellI .i64) (.cons (cellI .i64) .nil))) .nil)
def co_r12_Look_typ : Co := { res := [] }
abbrev a_r12_Ends : Type := (List TStmt) × Unit
abbrev b_r12_Ends : Type := Bool
def c_r12_Ends : CodL EE a_r12_Ends := .cons (cSl 97) .nil
def rc_r12_Ends : RC EE b_r12_Ends := RC.one cBool
def co_r12_Ends : Co := { res := [[.any]] }
abbrev a_r12_Look_value : Type := (Int × Int × Unit) × (List Tr12_Thing) × TExpr × Int × Unit
abbrev b_r12_Look_value : Type := Int × ((Int × Int × Unit) × Unit)
def c_r12_Look_value : CodL EE a_r12_Look_value := .cons (.c (cellIO 0 (.cons (cellI .i64) (.cons (cellI .i64) .nil)))) (.cons (cSl 118) (.cons c_TExpr (.cons (cInt .i64) .nil)))
def rc_r12_Look_value : RC EE b_r12_Look_value := RC.oneR (cInt .i64) (.cons (cellIO 0 (.cons (cellI .i64) (.cons (cellI .i64) .nil))) .nil)
def co_r12_Look_value : Co := { res := [[.any]] }
abbrev a_r12_Look_expr : Type := (Int × Int × Unit) × (List Tr12_Thing) × TExpr × Bool × Unit
abbrev b_r12_Look_expr : Type := TType × ((Int × Int × Unit) × Unit)
def c_r12_Look_expr : CodL EE a_r12_Look_expr := .cons (.c (cellIO 0 (.cons (cellI .i64) (.cons (cellI .i64) .nil)))) (.cons (cSl 118) (.cons c_TExpr (.cons cBool .nil)))
def rc_r12_Look_expr : RC EE b_r12_Look_expr := RC.oneR c_TType (.cons (cellIO 0 (.cons (cellI .i64) (.cons (cellI .i64) .nil))) .nil)
def co_r12_Look_expr : Co := { res := [[.any, .any, .any]] }
abbrev a_r12_Look_variable : Type := (Int × Int × Unit) × (List Tr12_Thing) × ByteArray × Unit
abbrev b_r12_Look_variable : Type := TType × ((Int × Int × Unit) × Unit)
def c_r12_Look_variable : CodL EE a_r12_Look_variable := .cons (.c (cellIO 0 (.cons (cellI .i64) (.cons (cellI .i64) .nil)))) (.cons (cSl 118) (.cons cStr .nil))
def rc_r12_Look_variable : RC EE b_r12_Look_variable := RC.oneR c_TType (.cons (cellIO 0 (.cons (cellI .i64) (.cons (cellI .i64) .nil))) .nil)
def co_r12_Look_variable : Co := { res := [[.any, .any, .any]] }
abbrev a_tree_mapper_parts : Type := (Thing × Unit) × ByteArray × Unit
abbrev b_tree_mapper_parts : Type := ByteArray × (Thing × Unit)
def c_tree_mapper_parts : CodL EE a_tree_mapper_parts := .cons (.agg (.cons cT .nil)) (.cons cStr .nil)
def rc_tree_mapper_parts : RC EE b_tree_mapper_parts := RC.oneR cStr (.cons cT .nil)
abbrev a_tree_each_Rec : Type := (List TRec) × (Thing × Unit) × Unit
abbrev b_tree_each_Rec : Type := (List TRec) × (Thing × Unit)
def c_tree_each_Rec : CodL EE a_tree_each_Rec := .cons (cSl 46) (.cons (.c (cellMth 77 (.cons cT .nil))) .nil)
def rc_tree_each_Rec : RC EE b_tree_each_Rec := RC.oneR (cSl 46) (.cons cT .nil)
def co_tree_each_Rec : Co := { res := [[.sl 46]] }
abbrev a_tree_mapper_rec : Type := (Thing × Unit) × TRec × Unit
abbrev b_tree_mapper_rec : Type := TRec × (Thing × Unit)
def c_tree_mapper_rec : CodL EE a_tree_mapper_rec := .cons (.agg (.cons cT .nil)) (.cons c_TRec .nil)
def rc_tree_mapper_rec : RC EE b_tree_mapper_rec := RC.oneR c_TRec (.cons cT .nil)
def co_tree_mapper_rec : Co := { res := [[.sl 9, .sl 9, .any, .sl 48, .sl 9]] }
abbrev a_tree_each_Var : Type := (List TVar) × (Thing × Unit) × Unit
abbrev b_tree_each_Var : Type := (List TVar) × (Thing × Unit)
def c_tree_each_Var : CodL EE a_tree_each_Var := .cons (cSl 56) (.cons (.c (cellMth 79 (.cons cT .nil))) .nil)
def rc_tree_each_Var : RC EE b_tree_each_Var := RC.oneR (cSl 56) (.cons cT .nil)
def co_tree_each_Var : Co := { res := [[.sl 56]] }
abbrev a_tree_mapper_variable : Type := (Thing × Unit) × TVar × Unit
abbrev b_tree_mapper_variable : Type := TVar × (Thing × Unit)
def c_tree_mapper_variable : CodL EE a_tree_mapper_variable := .cons (.agg (.cons cT .nil)) (.cons c_TVar .nil)
def rc_tree_mapper_variable : RC EE b_tree_mapper_variable := RC.oneR c_TVar (.cons cT .nil)
def co_tree_mapper_variable : Co := { res := [[.sl 9, .sl 9, .any, .any, .any, .any]] }
abbrev a_tree_each_Routine : Type := (List TRoutine) × (Thing × Unit) × Unit
abbrev b_tree_each_Routine : Type := (List TRoutine) × (Thing × Unit)
def c_tree_each_Routine : CodL EE a_tree_each_Routine := .cons (cSl 90) (.cons (.c (cellMth 81 (.cons cT .nil))) .nil)
def rc_tree_each_Routine : RC EE b_tree_each_Routine := RC.oneR (cSl 90) (.cons cT .nil)
def co_tree_each_Routine : Co := { res := [[.sl 90]] }
abbrev a_tree_mapper_routine : Type := (Thing × Unit) × TRoutine × Unit
abbrev b_tree_mapper_routine : Type := TRoutine × (Thing × Unit)
def c_tree_mapper_routine : CodL EE a_tree_mapper_routine := .cons (.agg (.cons cT .nil)) (.cons c_TRoutine .nil)
def rc_tree_mapper_routine : RC EE b_tree_mapper_routine := RC.oneR c_TRoutine (.cons cT .nil)
def co_tree_mapper_routine : Co := { res := [[.sl 9, .sl 9, .any, .any, .sl 92, .sl 56, .sl 90, .sl 97, .sl 9]] }
abbrev a_tree_each_Stmt : Type := (List TStmt) × (Thing × Unit) × Unit
abbrev b_tree_each_Stmt : Type := (List TStmt) × (Thing × Unit)
def c_tree_each_Stmt : CodL EE a_tree_each_Stmt := .cons (cSl 97) (.cons (.c (cellMth 83 (.cons cT .nil))) .nil)
def rc_tree_each_Stmt : RC EE b_tree_each_Stmt := RC.oneR (cSl 97) (.cons cT .nil)
def co_tree_each_Stmt : Co := { res := [[.sl 97]] }
abbrev a_tree_mapper_stmt : Type := (Thing × Unit) × TStmt × Unit
abbrev b_tree_mapper_stmt : Type := TStmt × (Thing × Unit)
def c_tree_mapper_stmt : CodL EE a_tree_mapper_stmt := .cons (.agg (.cons cT .nil)) (.cons c_TStmt .nil)
def rc_tree_mapper_stmt : RC EE b_tree_mapper_stmt := RC.oneR c_TStmt (.cons cT .nil)
def co_tree_mapper_stmt : Co := { res := [[.sl 9, .sl 9, .any, .any, .any, .any, .any, .any, .sl 95, .sl 95, .any, .any, .sl 97, .sl 97, .sl 9, .sl 9]] }
abbrev a_slices_Index_string : Type := (List ByteArray) × ByteArray × Unit
abbrev b_slices_Index_string : Type := Int
def c_slices_Index_string : CodL EE a_slices_Index_string := .cons (cSl 9) (.cons cStr .nil)
def rc_slices_Index_string : RC EE b_slices_Index_string := RC.one (cInt .i64)
def co_slices_Index_string : Co := { res := [[.any]] }
abbrev a_r04_Letter : Type := Int × Bool × Unit
abbrev b_r04_Letter : Type := Bool
def c_r04_Letter : CodL EE a_r04_Letter := .cons (cInt .u8) (.cons cBool .nil)
def rc_r04_Letter : RC EE b_r04_Letter := RC.one cBool
def co_r04_Letter : Co := { res := [[.any]] }
abbrev a_r02_right : Type := Int × Unit
abbrev b_r02_right : Type := Bool
def c_r02_right : CodL EE a_r02_right := .cons (cInt .u8) .nil
def rc_r02_right : RC EE b_r02_right := RC.one cBool
def co_r02_right : Co := { res := [[.any]] }
abbrev a_r07_Expr : Type := Int × TExpr × Unit
abbrev b_r07_Expr : Type := Bool
def c_r07_Expr : CodL EE a_r07_Expr := .cons (cInt .i64) (.cons c_TExpr .nil)
def rc_r07_Expr : RC EE b_r07_Expr := RC.one cBool
def co_r07_Expr : Co := { res := [[.any]] }
abbrev a_r07_place : Type := Int × TExpr × Unit
abbrev b_r07_place : Type := Bool
def c_r07_place : CodL EE a_r07_place := .cons (cInt .i64) (.cons c_TExpr .nil)
def rc_r07_place : RC EE b_r07_place := RC.one cBool
def co_r07_place : Co := { res := [[.any]] }
abbrev a_r07_none : Type := TExpr × Unit
abbrev b_r07_none : Type := Bool
def c_r07_none : CodL EE a_r07_none := .cons c_TExpr .nil
def rc_r07_none : RC EE b_r07_none := RC.one cBool
def co_r07_none : Co := { res := [[.any]] }
abbrev a_r12_Look_call : Type := (Int × Int × Unit) × (List Tr12_Thing) × TExpr × Bool × Unit
abbrev b_r12_Look_call : Type := TType × ((Int × Int × Unit) × Unit)
def c_r12_Look_call : CodL EE a_r12_Look_call := .cons (.c (cellIO 0 (.cons (cellI .i64) (.cons (cellI .i64) .nil)))) (.cons (cSl 118) (.cons c_TExpr (.cons cBool .nil)))
def rc_r12_Look_call : RC EE b_r12_Look_call := RC.oneR c_TType (.cons (cellIO 0 (.cons (cellI .i64) (.cons (cellI .i64) .nil))) .nil)
def co_r12_Look_call : Co := { res := [[.any, .any, .any]] }
abbrev a_tree_mapper_marks : Type := (Thing × Unit) × TMarks × Unit
abbrev b_tree_mapper_marks : Type := TMarks × (Thing × Unit)
def c_tree_mapper_marks : CodL EE a_tree_mapper_marks := .cons (.agg (.cons cT .nil)) (.cons c_TMarks .nil)
def rc_tree_mapper_marks : RC EE b_tree_mapper_marks := RC.oneR c_TMarks (.cons cT .nil)
def co_tree_mapper_marks : Co := { res := [[.sl 9, .sl 9]] }
abbrev a_tree_each_Field : Type := (List TField) × (Unit × (Thing × Unit) × Unit) × Unit
abbrev b_tree_each_Field : Type := (List TField) × (Thing × Unit)
def c_tree_each_Field : CodL EE a_tree_each_Field := .cons (cSl 48) (.cons (.c (cellClo 99 .nil (.cons (cellRQ 0 (.cons cT .nil)) .nil))) .nil)
def rc_tree_each_Field : RC EE b_tree_each_Field := RC.oneR (cSl 48) (.cons cT .nil)
def co_tree_each_Field : Co := { res := [[.sl 48]] }
abbrev a_tree_mapper_rec_1 : Type := TField × (Thing × Unit) × Unit
abbrev b_tree_mapper_rec_1 : Type := TField × (Thing × Unit)
def c_tree_mapper_rec_1 : CodL EE a_tree_mapper_rec_1 := .cons c_TField (.cons (.c (cellRQ 0 (.cons cT .nil))) .nil)
def rc_tree_mapper_rec_1 : RC EE b_tree_mapper_rec_1 := RC.oneR c_TField (.cons cT .nil)
def co_tree_mapper_rec_1 : Co := { res := [[.sl 9, .sl 9, .any, .any]] }
abbrev a_tree_mapper_typ : Type := (Thing × Unit) × TType × Unit
abbrev b_tree_mapper_typ : Type := TType × (Thing × Unit)
def c_tree_mapper_typ : CodL EE a_tree_mapper_typ := .cons (.agg (.cons cT .nil)) (.cons c_TType .nil)
def rc_tree_mapper_typ : RC EE b_tree_mapper_typ := RC.oneR c_TType (.cons cT .nil)
def co_tree_mapper_typ : Co := { res := [[.any, .any, .any]] }
abbrev a_tree_each_Param : Type := (List TParam) × (Unit × (Thing × Unit) × Unit) × Unit
abbrev b_tree_each_Param : Type := (List TParam) × (Thing × Unit)
def c_tree_each_Param : CodL EE a_tree_each_Param := .cons (cSl 92) (.cons (.c (cellClo 102 .nil (.cons (cellRQ 0 (.cons cT .nil)) .nil))) .nil)
def rc_tree_each_Param : RC EE b_tree_each_Param := RC.oneR (cSl 92) (.cons cT .nil)
def co_tree_each_Param : Co := { res := [[.sl 92]] }
abbrev a_tree_mapper_routine_1 : Type := TParam × (Thing × Unit) × Unit
abbrev b_tree_mapper_routine_1 : Type := TParam × (Thing × Unit)
def c_tree_mapper_routine_1 : CodL EE a_tree_mapper_routine_1 := .cons c_TParam (.cons (.c (cellRQ 0 (.cons cT .nil))) .nil)
def rc_tree_mapper_routine_1 : RC EE b_tree_mapper_routine_1 := RC.oneR c_TParam (.cons cT .nil)
def co_tree_mapper_routine_1 : Co := { res := [[.any, .any, .any, .any, .any]] }
abbrev a_tree_mapper_expr : Type := (Thing × Unit) × TExpr × Unit
abbrev b_tree_mapper_expr : Type := TExpr × (Thing × Unit)
def c_tree_mapper_expr : CodL EE a_tree_mapper_expr := .cons (.agg (.cons cT .nil)) (.cons c_TExpr .nil)
def rc_tree_mapper_expr : RC EE b_tree_mapper_expr := RC.oneR c_TExpr (.cons cT .nil)
def co_tree_mapper_expr : Co := { res := [[.any, .any, .any, .any, .sl 95]] }
abbrev a_tree_each_Expr : Type := (List TExpr) × (Thing × Unit) × Unit
abbrev b_tree_each_Expr : Type := (List TExpr) × (Thing × Unit)
def c_tree_each_Expr : CodL EE a_tree_each_Expr := .cons (cSl 95) (.cons (.c (cellMth 103 (.cons cT .nil))) .nil)
def rc_tree_each_Expr : RC EE b_tree_each_Expr := RC.oneR (cSl 95) (.cons cT .nil)
def co_tree_each_Expr : Co := { res := [[.sl 95]] }
abbrev a_r07_form : Type := Int × TExpr × Int × Unit
abbrev b_r07_form : Type := Bool
def c_r07_form : CodL EE a_r07_form := .cons (cInt .i64) (.cons c_TExpr (.cons (cInt .i64) .nil))
def rc_r07_form : RC EE b_r07_form := RC.one cBool
def co_r07_form : Co := { res := [[.any]] }
abbrev a_r07_Deep : Type := TExpr × Int × Unit
abbrev b_r07_Deep : Type := Int
def c_r07_Deep : CodL EE a_r07_Deep := .cons c_TExpr (.cons (cInt .i64) .nil)
def rc_r07_Deep : RC EE b_r07_Deep := RC.one (cInt .i64)
def co_r07_Deep : Co := { res := [[.any]] }
abbrev a_by : Type := Thing × ByteArray × Unit
abbrev b_by : Type := ByteArray × (Thing × Unit)
def c_by : CodL EE a_by := .cons (.c cT) (.cons cStr .nil)
def rc_by : RC EE b_by := RC.oneR cStr (.cons cT .nil)
structure Fam where
  f_w16_RenameSense : a_w16_RenameSense → Option b_w16_RenameSense
  f_r07_Names : a_r07_Names → Option b_r07_Names
  f_w16_awake : a_w16_awake → Option b_w16_awake
  f_rename_Table : a_rename_Table → Option b_rename_Table
  f_rename_Apply : a_rename_Apply → Option b_rename_Apply
  f_r16_SamePairs : a_r16_SamePairs → Option b_r16_SamePairs
  f_r07_Check : a_r07_Check → Option b_r07_Check
  f_r12_Check : a_r12_Check → Option b_r12_Check
  f_r07_Parts : a_r07_Parts → Option b_r07_Parts
  f_r07_varNames : a_r07_varNames → Option b_r07_varNames
  f_r07_routineNames : a_r07_routineNames → Option b_r07_routineNames
  f_r07_stmtNames : a_r07_stmtNames → Option b_r07_stmtNames
  f_r04_Among : a_r04_Among → Option b_r04_Among
  f_tree_Names : a_tree_Names → Option b_tree_Names
  f_slices_Clone_string : a_slices_Clone_string → Option b_slices_Clone_string
  f_words_Clash : a_words_Clash → Option b_words_Clash
  f_words_Fresh : a_words_Fresh → Option b_words_Fresh
  f_tree_Rename : a_tree_Rename → Option b_tree_Rename
  f_r04_Is : a_r04_Is → Option b_r04_Is
  f_r07_Name : a_r07_Name → Option b_r07_Name
  f_r07_notes : a_r07_notes → Option b_r07_notes
  f_r07_marks : a_r07_marks → Option b_r07_marks
  f_r07_vars : a_r07_vars → Option b_r07_vars
  f_r07_routines : a_r07_routines → Option b_r07_routines
  f_r07_Stmts : a_r07_Stmts → Option b_r07_Stmts
  f_r12_Look_recs : a_r12_Look_recs → Option b_r12_Look_recs
  f_r12_Look_vars : a_r12_Look_vars → Option b_r12_Look_vars
  f_r12_Look_routines : a_r12_Look_routines → Option b_r12_Look_routines
  f_r12_Look_stmts : a_r12_Look_stmts → Option b_r12_Look_stmts
  f_r12_Visible : a_r12_Visible → Option b_r12_Visible
  f_r07_ExprNames : a_r07_ExprNames → Option b_r07_ExprNames
  f_tree_mapper_program : a_tree_mapper_program → Option b_tree_mapper_program
  f_words_Is : a_words_Is → Option b_words_Is
  f_slices_Contains_string : a_slices_Contains_string → Option b_slices_Contains_string
  f_strconv_Itoa : a_strconv_Itoa → Option b_strconv_Itoa
  f_tree_Rename_1 : a_tree_Rename_1 → Option b_tree_Rename_1
  f_r04_All : a_r04_All → Option b_r04_All
  f_r04_Check : a_r04_Check → Option b_r04_Check
  f_r02_Check : a_r02_Check → Option b_r02_Check
  f_r07_Type : a_r07_Type → Option b_r07_Type
  f_r07_Routine : a_r07_Routine → Option b_r07_Routine
  f_r07_params : a_r07_params → Option b_r07_params
  f_r07_Stmt : a_r07_Stmt → Option b_r07_Stmt
  f_r12_Look_next : a_r12_Look_next → Option b_r12_Look_next
  f_r12_find : a_r12_find → Option b_r12_find
  f_r12_Look_fail : a_r12_Look_fail → Option b_r12_Look_fail
  f_r12_with : a_r12_with → Option b_r12_with
  f_r12_Look_typ : a_r12_Look_typ → Option b_r12_Look_typ
  f_r12_Ends : a_r12_Ends → Option b_r12_Ends
  f_r12_Look_value : a_r12_Look_value → Option b_r12_Look_value
  f_r12_Look_expr : a_r12_Look_expr → Option b_r12_Look_expr
  f_r12_Look_variable : a_r12_Look_variable → Option b_r12_Look_variable
  f_tree_mapper_parts : a_tree_mapper_parts → Option b_tree_mapper_parts
  f_tree_each_Rec : a_tree_each_Rec → Option b_tree_each_Rec
  f_tree_mapper_rec : a_tree_mapper_rec → Option b_tree_mapper_rec
  f_tree_each_Var : a_tree_each_Var → Option b_tree_each_Var
  f_tree_mapper_variable : a_tree_mapper_variable → Option b_tree_mapper_variable
  f_tree_each_Routine : a_tree_each_Routine → Option b_tree_each_Routine
  f_tree_mapper_routine : a_tree_mapper_routine → Option b_tree_mapper_routine
  f_tree_each_Stmt : a_tree_each_Stmt → Option b_tree_each_Stmt
  f_tree_mapper_stmt : a_tree_mapper_stmt → Option b_tree_mapper_stmt
  f_slices_Index_string : a_slices_Index_string → Option b_slices_Index_string
  f_r04_Letter : a_r04_Letter → Option b_r04_Letter
  f_r02_right : a_r02_right → Option b_r02_right
  f_r07_Expr : a_r07_Expr → Option b_r07_Expr
  f_r07_place : a_r07_place → Option b_r07_place
  f_r07_none : a_r07_none → Option b_r07_none
  f_r12_Look_call : a_r12_Look_call → Option b_r12_Look_call
  f_tree_mapper_marks : a_tree_mapper_marks → Option b_tree_mapper_marks
  f_tree_each_Field : a_tree_each_Field → Option b_tree_each_Field
  f_tree_mapper_rec_1 : a_tree_mapper_rec_1 → Option b_tree_mapper_rec_1
  f_tree_mapper_typ : a_tree_mapper_typ → Option b_tree_mapper_typ
  f_tree_each_Param : a_tree_each_Param → Option b_tree_each_Param
  f_tree_mapper_routine_1 : a_tree_mapper_routine_1 → Option b_tree_mapper_routine_1
  f_tree_mapper_expr : a_tree_mapper_expr → Option b_tree_mapper_expr
  f_tree_each_Expr : a_tree_each_Expr → Option b_tree_each_Expr
  f_r07_form : a_r07_form → Option b_r07_form
  f_r07_Deep : a_r07_Deep → Option b_r07_Deep
  f_by : a_by → Option b_by
def table (s : Fam) : List (Nat × (List (AV II) → Tree (RV II))) :=
  [(4, ansOf c_w16_RenameSense rc_w16_RenameSense.enc s.f_w16_RenameSense),
   (5, ansOf c_r07_Names rc_r07_Names.enc s.f_r07_Names),
   (6, ansOf c_w16_awake rc_w16_awake.enc s.f_w16_awake),
   (8, ansOf c_rename_Table rc_rename_Table.enc s.f_rename_Table),
   (9, ansOf c_rename_Apply rc_rename_Apply.enc s.f_rename_Apply),
   (11, ansOf c_r16_SamePairs rc_r16_SamePairs.enc s.f_r16_SamePairs),
   (13, ansOf c_r07_Check rc_r07_Check.enc s.f_r07_Check),
   (14, ansOf c_r12_Check rc_r12_Check.enc s.f_r12_Check),
   (15, ansOf c_r07_Parts rc_r07_Parts.enc s.f_r07_Parts),
   (16, ansOf c_r07_varNames rc_r07_varNames.enc s.f_r07_varNames),
   (17, ansOf c_r07_routineNames rc_r07_routineNames.enc s.f_r07_routineNames),
   (18, ansOf c_r07_stmtNames rc_r07_stmtNames.enc s.f_r07_stmtNames),
   (19, ansOf c_r04_Among rc_r04_Among.enc s.f_r04_Among),
   (24, ansOf c_tree_Names rc_tree_Names.enc s.f_tree_Names),
   (25, ansOf c_slices_Clone_string rc_slices_Clone_string.enc s.f_slices_Clone_string),
   (26, ansOf c_words_Clash rc_words_Clash.enc s.f_words_Clash),
   (27, ansOf c_words_Fresh rc_words_Fresh.enc s.f_words_Fresh),
   (28, ansOf c_tree_Rename rc_tree_Rename.enc s.f_tree_Rename),
   (29, ansOf c_r04_Is rc_r04_Is.enc s.f_r04_Is),
   (36, ansOf c_r07_Name rc_r07_Name.enc s.f_r07_Name),
   (37, ansOf c_r07_notes rc_r07_notes.enc s.f_r07_notes),
   (38, ansOf c_r07_marks rc_r07_marks.enc s.f_r07_marks),
   (39, ansOf c_r07_vars rc_r07_vars.enc s.f_r07_vars),
   (40, ansOf c_r07_routines rc_r07_routines.enc s.f_r07_routines),
   (41, ansOf c_r07_Stmts rc_r07_Stmts.enc s.f_r07_Stmts),
   (42, ansOf c_r12_Look_recs rc_r12_Look_recs.enc s.f_r12_Look_recs),
   (43, ansOf c_r12_Look_vars rc_r12_Look_vars.enc s.f_r12_Look_vars),
   (44, ansOf c_r12_Look_routines rc_r12_Look_routines.enc s.f_r12_Look_routines),
   (45, ansOf c_r12_Look_stmts rc_r12_Look_stmts.enc s.f_r12_Look_stmts),
   (46, ansOf c_r12_Visible rc_r12_Visible.enc s.f_r12_Visible),
   (47, ansOf c_r07_ExprNames rc_r07_ExprNames.enc s.f_r07_ExprNames),
   (50, ansOf c_tree_mapper_program rc_tree_mapper_program.enc s.f_tree_mapper_program),
   (52, ansOf c_words_Is rc_words_Is.enc s.f_words_Is),
   (53, ansOf c_slices_Contains_string rc_slices_Contains_string.enc s.f_slices_Contains_string),
   (54, ansOf c_strconv_Itoa rc_strconv_Itoa.enc s.f_strconv_Itoa),
   (55, ansOf c_tree_Rename_1 rc_tree_Rename_1.enc s.f_tree_Rename_1),
   (56, ansOf c_r04_All rc_r04_All.enc s.f_r04_All),
   (60, ansOf c_r04_Check rc_r04_Check.enc s.f_r04_Check),
   (61, ansOf c_r02_Check rc_r02_Check.enc s.f_r02_Check),
   (62, ansOf c_r07_Type rc_r07_Type.enc s.f_r07_Type),
   (63, ansOf c_r07_Routine rc_r07_Routine.enc s.f_r07_Routine),
   (64, ansOf c_r07_params rc_r07_params.enc s.f_r07_params),
   (65, ansOf c_r07_Stmt rc_r07_Stmt.enc s.f_r07_Stmt),
   (66, ansOf c_r12_Look_next rc_r12_Look_next.enc s.f_r12_Look_next),
   (67, ansOf c_r12_find rc_r12_find.enc s.f_r12_find),
   (68, ansOf c_r12_Look_fail rc_r12_Look_fail.enc s.f_r12_Look_fail),
   (69, ansOf c_r12_with rc_r12_with.enc s.f_r12_with),
   (70, ansOf c_r12_Look_typ rc_r12_Look_typ.enc s.f_r12_Look_typ),
   (71, ansOf c_r12_Ends rc_r12_Ends.enc s.f_r12_Ends),
   (72, ansOf c_r12_Look_value rc_r12_Look_value.enc s.f_r12_Look_value),
   (73, ansOf c_r12_Look_expr rc_r12_Look_expr.enc s.f_r12_Look_expr),
   (74, ansOf c_r12_Look_variable rc_r12_Look_variable.enc s.f_r12_Look_variable),
   (75, ansOf c_tree_mapper_parts rc_tree_mapper_parts.enc s.f_tree_mapper_parts),
   (76, ansOf c_tree_each_Rec rc_tree_each_Rec.enc s.f_tree_each_Rec),
   (77, ansOf c_tree_mapper_rec rc_tree_mapper_rec.enc s.f_tree_mapper_rec),
   (78, ansOf c_tree_each_Var rc_tree_each_Var.enc s.f_tree_each_Var),
   (79, ansOf c_tree_mapper_variable rc_tree_mapper_variable.enc s.f_tree_mapper_variable),
   (80, ansOf c_tree_each_Routine rc_tree_each_Routine.enc s.f_tree_each_Routine),
   (81, ansOf c_tree_mapper_routine rc_tree_mapper_routine.enc s.f_tree_mapper_routine),
   (82, ansOf c_tree_each_Stmt rc_tree_each_Stmt.enc s.f_tree_each_Stmt),
   (83, ansOf c_tree_mapper_stmt rc_tree_mapper_stmt.enc s.f_tree_mapper_stmt),
   (86, ansOf c_slices_Index_string rc_slices_Index_string.enc s.f_slices_Index_string),
   (89, ansOf c_r04_Letter rc_r04_Letter.enc s.f_r04_Letter),
   (90, ansOf c_r02_right rc_r02_right.enc s.f_r02_right),
   (91, ansOf c_r07_Expr rc_r07_Expr.enc s.f_r07_Expr),
   (92, ansOf c_r07_place rc_r07_place.enc s.f_r07_place),
   (93, ansOf c_r07_none rc_r07_none.enc s.f_r07_none),
   (94, ansOf c_r12_Look_call rc_r12_Look_call.enc s.f_r12_Look_call),
   (97, ansOf c_tree_mapper_marks rc_tree_mapper_marks.enc s.f_tree_mapper_marks),
   (98, ansOf c_tree_each_Field rc_tree_each_Field.enc s.f_tree_each_Field),
   (99, ansOf c_tree_mapper_rec_1 rc_tree_mapper_rec_1.enc s.f_tree_mapper_rec_1),
   (100, ansOf c_tree_mapper_typ rc_tree_mapper_typ.enc s.f_tree_mapper_typ),
   (101, ansOf c_tree_each_Param rc_tree_each_Param.enc s.f_tree_each_Param),
   (102, ansOf c_tree_mapper_routine_1 rc_tree_mapper_routine_1.enc s.f_tree_mapper_routine_1),
   (103, ansOf c_tree_mapper_expr rc_tree_mapper_expr.enc s.f_tree_mapper_expr),
   (104, ansOf c_tree_each_Expr rc_tree_each_Expr.enc s.f_tree_each_Expr),
   (110, ansOf c_r07_form rc_r07_form.enc s.f_r07_form),
   (111, ansOf c_r07_Deep rc_r07_Deep.enc s.f_r07_Deep),
   (1000003, ansOf c_by rc_by.enc s.f_by)]
def sp (s : Fam) : Nat → List (AV II) → Tree (RV II) := look (table s)
end Go.Ev
end
section
namespace Go.Ev
def h_r02_Check : Nat → Hint
  | 4 => ⟨[0, 3], [], [], []⟩
  | _ => ⟨[], [], [], []⟩
def h_r02_right : Nat → Hint
  | _ => ⟨[], [], [], []⟩
def h_r04_All : Nat → Hint
  | _ => ⟨[], [], [], []⟩
def h_r04_Among : Nat → Hint
  | 2 => ⟨[0, 1, 5], [], [], []⟩
  | _ => ⟨[], [], [], []⟩
def h_r04_Check : Nat → Hint
  | 4 => ⟨[0, 3], [], [], []⟩
  | _ => ⟨[], [], [], []⟩
def h_r04_Is : Nat → Hint
  | _ => ⟨[], [], [], []⟩
def h_r04_Letter : Nat → Hint
  | _ => ⟨[], [], [], []⟩
def h_r07_Check : Nat → Hint
  | 10 => ⟨[0, 3, 5, 6, 7], [3, 6], [], [(3, (1, 9)), (3, (2, 9)), (3, (3, 9)), (3, (4, 46)), (3, (5, 56)), (3, (6, 90)), (3, (7, 97)), (3, (8, 9)), (6, (0, 9)), (6, (1, 9)), (6, (3, 48)), (6, (4, 9))]⟩
  | 4 => ⟨[0, 3, 5], [3], [], [(3, (1, 9)), (3, (2, 9)), (3, (3, 9)), (3, (4, 46)), (3, (5, 56)), (3, (6, 90)), (3, (7, 97)), (3, (8, 9))]⟩
  | _ => ⟨[], [], [], []⟩
def h_r07_Deep : Nat → Hint
  | 3 => ⟨[1, 2, 5, 6], [2], [], [(2, (4, 95))]⟩
  | _ => ⟨[], [], [], []⟩
def h_r07_Expr : Nat → Hint
  | _ => ⟨[], [], [], []⟩
def h_r07_ExprNames : Nat → Hint
  | 3 => ⟨[1, 3, 4], [1], [(3, 9)], [(1, (4, 95))]⟩
  | _ => ⟨[], [], [], []⟩
def h_r07_Name : Nat → Hint
  | _ => ⟨[], [], [], []⟩
def h_r07_Names : Nat → Hint
  | 15 => ⟨[3, 6, 7], [], [(3, 9), (6, 9)], []⟩
  | 7 => ⟨[1, 3, 4, 5], [1], [(3, 9)], [(1, (1, 9)), (1, (2, 9)), (1, (3, 9)), (1, (4, 46)), (1, (5, 56)), (1, (6, 90)), (1, (7, 97)), (1, (8, 9))]⟩
  | 3 => ⟨[1, 3, 4], [1], [(3, 9)], [(1, (1, 9)), (1, (2, 9)), (1, (3, 9)), (1, (4, 46)), (1, (5, 56)), (1, (6, 90)), (1, (7, 97)), (1, (8, 9))]⟩
  | _ => ⟨[], [], [], []⟩
def h_r07_Parts : Nat → Hint
  | 4 => ⟨[0, 3, 4, 5], [], [(3, 9)], []⟩
  | _ => ⟨[], [], [], []⟩
def h_r07_Routine : Nat → Hint
  | 5 => ⟨[5, 6], [], [(5, 9)], []⟩
  | _ => ⟨[], [], [], []⟩
def h_r07_Stmt : Nat → Hint
  | 14 => ⟨[0, 2, 4, 9], [4], [], [(4, (0, 9)), (4, (1, 9)), (4, (8, 95)), (4, (9, 95)), (4, (12, 97)), (4, (13, 97)), (4, (14, 9)), (4, (15, 9))]⟩
  | _ => ⟨[], [], [], []⟩
def h_r07_Stmts : Nat → Hint
  | 2 => ⟨[0, 1, 2, 7], [], [], []⟩
  | _ => ⟨[], [], [], []⟩
def h_r07_Type : Nat → Hint
  | _ => ⟨[], [], [], []⟩
def h_r07_form : Nat → Hint
  | 47 => ⟨[0, 2, 4, 11, 12], [4], [], [(4, (4, 95))]⟩
  | _ => ⟨[], [], [], []⟩
def h_r07_marks : Nat → Hint
  | _ => ⟨[], [], [], []⟩
def h_r07_none : Nat → Hint
  | _ => ⟨[], [], [], []⟩
def h_r07_notes : Nat → Hint
  | 2 => ⟨[0, 3], [], [], []⟩
  | _ => ⟨[], [], [], []⟩
def h_r07_params : Nat → Hint
  | 2 => ⟨[0, 1, 5], [], [], []⟩
  | _ => ⟨[], [], [], []⟩
def h_r07_place : Nat → Hint
  | _ => ⟨[], [], [], []⟩
def h_r07_routineNames : Nat → Hint
  | 8 => ⟨[0, 3, 4, 5, 6], [5], [(3, 9)], [(5, (0, 9)), (5, (1, 9)), (5, (4, 92)), (5, (5, 56)), (5, (6, 90)), (5, (7, 97)), (5, (8, 9))]⟩
  | 3 => ⟨[0, 3, 4], [], [(3, 9)], []⟩
  | _ => ⟨[], [], [], []⟩
def h_r07_routines : Nat → Hint
  | 8 => ⟨[0, 1, 2, 7, 8, 9], [8], [], [(8, (0, 9)), (8, (1, 9)), (8, (4, 92)), (8, (5, 56)), (8, (6, 90)), (8, (7, 97)), (8, (8, 9))]⟩
  | 2 => ⟨[0, 1, 2, 7], [], [], []⟩
  | _ => ⟨[], [], [], []⟩
def h_r07_stmtNames : Nat → Hint
  | 8 => ⟨[0, 3, 4, 5], [], [(3, 9)], []⟩
  | 3 => ⟨[0, 3, 4], [], [(3, 9)], []⟩
  | _ => ⟨[], [], [], []⟩
def h_r07_varNames : Nat → Hint
  | 3 => ⟨[0, 3, 4], [], [(3, 9)], []⟩
  | _ => ⟨[], [], [], []⟩
def h_r07_vars : Nat → Hint
  | 2 => ⟨[0, 1, 5], [], [], []⟩
  | _ => ⟨[], [], [], []⟩
def h_r12_Check : Nat → Hint
  | _ => ⟨[], [], [], []⟩
def h_r12_Ends : Nat → Hint
  | 2 => ⟨[0, 3], [], [], []⟩
  | _ => ⟨[], [], [], []⟩
def h_r12_Look_call : Nat → Hint
  | 10 => ⟨[0, 1, 6, 8, 9, 10], [6, 8, 9], [], [(6, (4, 95)), (9, (2, 9)), (9, (3, 9)), (9, (5, 48)), (9, (6, 9)), (9, (7, 9)), (9, (8, 9)), (9, (11, 92)), (9, (12, 56)), (9, (13, 90)), (9, (14, 97)), (9, (15, 9))]⟩
  | _ => ⟨[], [], [], []⟩
def h_r12_Look_expr : Nat → Hint
  | 53 => ⟨[0, 1, 6, 8, 15], [6, 8], [], [(6, (4, 95))]⟩
  | 23 => ⟨[0, 6, 8, 11, 12], [6, 8, 11], [], [(6, (4, 95)), (11, (0, 9)), (11, (1, 9)), (11, (3, 48)), (11, (4, 9))]⟩
  | 37 => ⟨[0, 1, 6, 8, 13], [6, 8], [], [(6, (4, 95))]⟩
  | _ => ⟨[], [], [], []⟩
def h_r12_Look_fail : Nat → Hint
  | _ => ⟨[], [], [], []⟩
def h_r12_Look_next : Nat → Hint
  | _ => ⟨[], [], [], []⟩
def h_r12_Look_recs : Nat → Hint
  | 11 => ⟨[0, 1, 5, 6, 7, 8], [], [(5, 118)], []⟩
  | 8 => ⟨[0, 1, 5, 6, 7], [], [(5, 118)], []⟩
  | 3 => ⟨[0, 1, 5, 6], [], [(5, 118)], []⟩
  | _ => ⟨[], [], [], []⟩
def h_r12_Look_routines : Nat → Hint
  | 9 => ⟨[0, 1, 2, 6, 7, 8, 9, 10], [8], [], [(8, (0, 9)), (8, (1, 9)), (8, (4, 92)), (8, (5, 56)), (8, (6, 90)), (8, (7, 97)), (8, (8, 9))]⟩
  | 2 => ⟨[0, 1, 2, 6, 7], [], [], []⟩
  | _ => ⟨[], [], [], []⟩
def h_r12_Look_stmts : Nat → Hint
  | 1 => ⟨[0, 1, 2, 3, 8], [], [], []⟩
  | _ => ⟨[], [], [], []⟩
def h_r12_Look_typ : Nat → Hint
  | _ => ⟨[], [], [], []⟩
def h_r12_Look_value : Nat → Hint
  | _ => ⟨[], [], [], []⟩
def h_r12_Look_variable : Nat → Hint
  | _ => ⟨[], [], [], []⟩
def h_r12_Look_vars : Nat → Hint
  | 7 => ⟨[0, 1, 2, 3, 9, 10], [], [], []⟩
  | 2 => ⟨[0, 1, 2, 3, 9], [], [], []⟩
  | _ => ⟨[], [], [], []⟩
def h_r12_Visible : Nat → Hint
  | 2 => ⟨[0, 1, 5], [], [], []⟩
  | _ => ⟨[], [], [], []⟩
def h_r12_find : Nat → Hint
  | 2 => ⟨[0, 1, 4, 5], [4], [], [(4, (2, 9)), (4, (3, 9)), (4, (5, 48)), (4, (6, 9)), (4, (7, 9)), (4, (8, 9)), (4, (11, 92)), (4, (12, 56)), (4, (13, 90)), (4, (14, 97)), (4, (15, 9))]⟩
  | _ => ⟨[], [], [], []⟩
def h_r12_with : Nat → Hint
  | _ => ⟨[], [], [], []⟩
def h_r16_SamePairs : Nat → Hint
  | 4 => ⟨[0, 1, 5], [], [], []⟩
  | _ => ⟨[], [], [], []⟩
def h_rename_Apply : Nat → Hint
  | _ => ⟨[], [], [], []⟩
def h_rename_Table : Nat → Hint
  | 5 => ⟨[6, 7, 17, 18, 19], [], [(6, 9), (7, 58), (17, 9)], []⟩
  | _ => ⟨[], [], [], []⟩
def h_slices_Contains_string : Nat → Hint
  | _ => ⟨[], [], [], []⟩
def h_slices_Index_string : Nat → Hint
  | 2 => ⟨[0, 1, 7, 8], [], [], []⟩
  | _ => ⟨[], [], [], []⟩
def h_tree_Rename_1 : Nat → Hint
  | 2 => ⟨[0, 6, 7, 8], [], [(6, 58)], []⟩
  | _ => ⟨[], [], [], []⟩
def h_tree_each_Expr : Nat → Hint
  | 3 => ⟨[1, 5, 8, 9, 10], [], [(5, 95), (8, 95)], []⟩
  | _ => ⟨[], [], [], []⟩
def h_tree_each_Field : Nat → Hint
  | 3 => ⟨[1, 5, 8, 9, 10], [], [(5, 48), (8, 48)], []⟩
  | _ => ⟨[], [], [], []⟩
def h_tree_each_Param : Nat → Hint
  | 3 => ⟨[1, 5, 8, 9, 10], [], [(5, 92), (8, 92)], []⟩
  | _ => ⟨[], [], [], []⟩
def h_tree_each_Rec : Nat → Hint
  | 3 => ⟨[1, 5, 8, 9, 10], [], [(5, 46), (8, 46)], []⟩
  | _ => ⟨[], [], [], []⟩
def h_tree_each_Routine : Nat → Hint
  | 3 => ⟨[1, 5, 8, 9, 10], [], [(5, 90), (8, 90)], []⟩
  | _ => ⟨[], [], [], []⟩
def h_tree_each_Stmt : Nat → Hint
  | 3 => ⟨[1, 5, 8, 9, 10], [], [(5, 97), (8, 97)], []⟩
  | _ => ⟨[], [], [], []⟩
def h_tree_each_Var : Nat → Hint
  | 3 => ⟨[1, 5, 8, 9, 10], [], [(5, 56), (8, 56)], []⟩
  | _ => ⟨[], [], [], []⟩
def h_tree_mapper_expr : Nat → Hint
  | _ => ⟨[], [], [], []⟩
def h_tree_mapper_marks : Nat → Hint
  | _ => ⟨[], [], [], []⟩
def h_tree_mapper_program : Nat → Hint
  | _ => ⟨[], [], [], []⟩
def h_tree_mapper_rec : Nat → Hint
  | _ => ⟨[], [], [], []⟩
def h_tree_mapper_rec_1 : Nat → Hint
  | _ => ⟨[], [], [], []⟩
def h_tree_mapper_routine : Nat → Hint
  | _ => ⟨[], [], [], []⟩
def h_tree_mapper_routine_1 : Nat → Hint
  | _ => ⟨[], [], [], []⟩
def h_tree_mapper_stmt : Nat → Hint
  | _ => ⟨[], [], [], []⟩
def h_tree_mapper_typ : Nat → Hint
  | _ => ⟨[], [], [], []⟩
def h_tree_mapper_variable : Nat → Hint
  | _ => ⟨[], [], [], []⟩
def h_w16_RenameSense : Nat → Hint
  | _ => ⟨[], [], [], []⟩
def h_w16_awake : Nat → Hint
  | _ => ⟨[], [], [], []⟩
def h_words_Fresh : Nat → Hint
  | 3 => ⟨[0, 1, 5, 6], [], [], []⟩
  | _ => ⟨[], [], [], []⟩
end Go.Ev
end
section
open Go Go.Proofs
namespace Go.Ev
set_option linter.unusedVariables false
set_option linter.unusedSimpArgs false
set_option maxHeartbeats 4000000
set_option maxRecDepth 100000
def B_w16_RenameSense (s : Fam) (k : Nat) (x0 : Int) (x1 : TProgram) : Option (Bool) := ((s.f_r07_Check (0, x1, ())).bind fun t1 => (if (!t1) = Bool.false then ((s.f_r07_Names (x1, ())).bind fun t3 => (if (Bool.false || decide ((↑(List.length t3) : Int) > 300)) = Bool.true then ((s.f_w16_awake ()).bind fun t5 => some (t5)) else ((s.f_rename_Apply (x0, x1, ())).bind fun t7 => ((s.f_r12_Check (x1, ())).bind fun t8 => ((s.f_r12_Check (t7.fst, ())).bind fun t9 => (if (t8.fst == t9.fst && t8.snd.fst == t9.snd.fst) = Bool.true then ((s.f_w16_awake ()).bind fun t11 => some (Bool.true && t11)) else some (Bool.false))))))) else ((s.f_w16_awake ()).bind fun t19 => some (t19))))
theorem e_w16_RenameSense (s : Fam) (k : Nat) (x : a_w16_RenameSense) : (evFunC EE (sp s) h_w16_RenameSense co_w16_RenameSense k Tryz.f4 (c_w16_RenameSense.enc x)).run = (B_w16_RenameSense s k x.1 x.2.1).map rc_w16_RenameSense.enc := by
  simp only [B_w16_RenameSense, map_ite, map_bindO, map_someO, map_noneO]
  kernel_rfl
-- 20 nodes
def Lr07_Names_7 (s : Fam) (k : Nat) (x0 : TProgram) (r3 : Int → ByteArray → List ByteArray → List ByteArray → List ByteArray → List TRec → List TVar → List TRoutine → List TStmt → List ByteArray → List ByteArray → Option (List ByteArray)) : Nat → Int → Int → ByteArray → List ByteArray → List ByteArray → List ByteArray → List TRec → List TVar → List TRoutine → List TStmt → List ByteArray → List ByteArray → Option (List ByteArray)
  | 0, _, _, _, _, _, _, _, _, _, _, _, _ => none
  | j7 + 1, uv0, uv1, uv2, uv3, uv4, uv5, uv6, uv7, uv8, uv9, uv10, uv11 => (if 0 ≤ uv0 then (if uv0 < (↑uv6.length : Int) then (if decide (uv1 < (↑(uv6.getD uv0.toNat dd_TRec).Fields.length : Int)) = Bool.true then (if 0 ≤ uv0 then (if uv0 < (↑uv6.length : Int) then (if 0 ≤ uv1 then (if uv1 < (↑(uv6.getD uv0.toNat dd_TRec).Fields.length : Int) then ((s.f_r07_Parts (((uv6.getD uv0.toNat dd_TRec).Fields.getD uv1.toNat dd_TField).Name, ())).bind fun t16 => (if (uv11 ++ t16).length * 16 ≤ 140737488355328 then Lr07_Names_7 s k x0 r3 j7 (uv0) (Go.IntKind.i64.wrap (uv1 + 1)) (uv2) (uv3) (uv4) (uv5) (uv6) (uv7) (uv8) (uv9) (uv10) (uv11 ++ t16) else none)) else none) else none) else none) else none) else r3 (Go.IntKind.i64.wrap (uv0 + 1)) (uv2) (uv3) (uv4) (uv5) (uv6) (uv7) (uv8) (uv9) (uv10) (uv11)) else none) else none)
def Lr07_Names_15 (s : Fam) (k : Nat) (x0 : TProgram) (r3 : Int → ByteArray → List ByteArray → List ByteArray → List ByteArray → List TRec → List TVar → List TRoutine → List TStmt → List ByteArray → List ByteArray → Option (List ByteArray)) : Nat → Int → List ByteArray → List ByteArray → Option (List ByteArray)
  | 0, _, _, _ => none
  | j15 + 1, uv0, uv1, uv2 => (if decide (uv0 < (↑uv1.length : Int)) = Bool.true then (if 0 ≤ uv0 then (if uv0 < (↑uv1.length : Int) then (if (!(uv1.getD uv0.toNat { data := #[] : ByteArray }).toList == { data := #[] : ByteArray }.toList) = Bool.true then (if 0 ≤ uv0 then (if uv0 < (↑uv1.length : Int) then ((s.f_r04_Among (uv2, uv1.getD uv0.toNat { data := #[] : ByteArray }, ())).bind fun t44 => (if (Bool.true && !t44) = Bool.true then (if 0 ≤ uv0 then (if uv0 < (↑uv1.length : Int) then (if (uv2 ++ [uv1.getD uv0.toNat { data := #[] : ByteArray }]).length * 16 ≤ 140737488355328 then Lr07_Names_15 s k x0 r3 j15 (Go.IntKind.i64.wrap (uv0 + 1)) (uv1) (uv2 ++ [uv1.getD uv0.toNat { data := #[] : ByteArray }]) else none) else none) else none) else Lr07_Names_15 s k x0 r3 j15 (Go.IntKind.i64.wrap (uv0 + 1)) (uv1) (uv2))) else none) else none) else Lr07_Names_15 s k x0 r3 j15 (Go.IntKind.i64.wrap (uv0 + 1)) (uv1) (uv2)) else none) else none) else some (uv2))
def Lr07_Names_3 (s : Fam) (k : Nat) (x0 : TProgram) : Nat → Int → ByteArray → List ByteArray → List ByteArray → List ByteArray → List TRec → List TVar → List TRoutine → List TStmt → List ByteArray → List ByteArray → Option (List ByteArray)
  | 0, _, _, _, _, _, _, _, _, _, _, _ => none
  | j3 + 1, v0, v1, v2, v3, v4, v5, v6, v7, v8, v9, v10 => (if decide (v0 < (↑v5.length : Int)) = Bool.true then (if 0 ≤ v0 then (if v0 < (↑v5.length : Int) then ((s.f_r07_Parts ((v5.getD v0.toNat dd_TRec).Name, ())).bind fun t6 => (if (v10 ++ t6).length * 16 ≤ 140737488355328 then Lr07_Names_7 s k x0 (Lr07_Names_3 s k x0 j3) k (v0) (0) (v1) (v2) (v3) (v4) (v5) (v6) (v7) (v8) (v9) (v10 ++ t6) else none)) else none) else none) else ((s.f_r07_varNames (v6, ())).bind fun t30 => (if (v10 ++ t30).length * 16 ≤ 140737488355328 then ((s.f_r07_routineNames (v7, ())).bind fun t32 => (if (v10 ++ t30 ++ t32).length * 16 ≤ 140737488355328 then ((s.f_r07_stmtNames (v8, ())).bind fun t34 => (if (v10 ++ t30 ++ t32 ++ t34).length * 16 ≤ 140737488355328 then Lr07_Names_15 s k x0 (Lr07_Names_3 s k x0 j3) k (0) (v10 ++ t30 ++ t32 ++ t34) ([]) else none)) else none)) else none)))
def B_r07_Names (s : Fam) (k : Nat) (x0 : TProgram) : Option (List ByteArray) := ((s.f_r07_Parts (x0.Name, ())).bind fun t1 => Lr07_Names_3 s k x0 k (0) (x0.Name) (x0.Before) (x0.Mid) (x0.After) (x0.Recs) (x0.Vars) (x0.Routines) (x0.Body) (x0.End) (t1))
theorem Lr07_Names_7_eq (s : Fam) (k : Nat) (x0 : TProgram) (j3 : Nat) (r3 : Int → ByteArray → List ByteArray → List ByteArray → List ByteArray → List TRec → List TVar → List TRoutine → List TStmt → List ByteArray → List ByteArray → Option (List ByteArray)) (h3 : ∀ (v0 : Int) (v1 : ByteArray) (v2 : List ByteArray) (v3 : List ByteArray) (v4 : List ByteArray) (v5 : List TRec) (v6 : List TVar) (v7 : List TRoutine) (v8 : List TStmt) (v9 : List ByteArray) (v10 : List ByteArray), (loopGo EE (sp s) h_r07_Names co_r07_Names [] k Tryz.f5 3 [] j3 ({ tmps := ofL AV.any [(1, AV.c (CV.ptr 1 0)), (3, AV.c (CV.own 3 0)), (4, AV.c (CV.d (DV.lit (Go.Value.int Go.IntKind.i64 v0))))], boxes := ofL Option.none [(1, Option.some [CV.d (DV.lit (Go.Value.string v1)), CV.d (DV.sl 9 v2), CV.d (DV.sl 9 v3), CV.d (DV.sl 9 v4), CV.d (DV.sl 46 v5), CV.d (DV.sl 56 v6), CV.d (DV.sl 90 v7), CV.d (DV.sl 97 v8), CV.d (DV.sl 9 v9)])], objs := ofL Option.none [(3, Option.some { ver := 0, t := 9, xs := v10 : Obj II }), (1099511631873, Option.none), (1099511631874, Option.none), (1099511631875, Option.none), (1099511631876, Option.none), (1099511631877, Option.none), (1099511631878, Option.none), (1099511631879, Option.none), (1099511631880, Option.none)], fxs := ofL Option.none [(1, Option.none)] : AS II })).run = (r3 v0 v1 v2 v3 v4 v5 v6 v7 v8 v9 v10).map rc_r07_Names.enc) : ∀ (j7 : Nat) (uv0 : Int) (uv1 : Int) (uv2 : ByteArray) (uv3 : List ByteArray) (uv4 : List ByteArray) (uv5 : List ByteArray) (uv6 : List TRec) (uv7 : List TVar) (uv8 : List TRoutine) (uv9 : List TStmt) (uv10 : List ByteArray) (uv11 : List ByteArray), (loopGo EE (sp s) h_r07_Names co_r07_Names [] k Tryz.f5 7 [j3] j7 ({ tmps := ofL AV.any [(1, AV.c (CV.ptr 1 0)), (3, AV.c (CV.own 3 0)), (4, AV.c (CV.d (DV.lit (Go.Value.int Go.IntKind.i64 uv0)))), (5, AV.c (CV.d (DV.lit (Go.Value.int Go.IntKind.i64 uv1))))], boxes := ofL Option.none [(1, Option.some [CV.d (DV.lit (Go.Value.string uv2)), CV.d (DV.sl 9 uv3), CV.d (DV.sl 9 uv4), CV.d (DV.sl 9 uv5), CV.d (DV.sl 46 uv6), CV.d (DV.sl 56 uv7), CV.d (DV.sl 90 uv8), CV.d (DV.sl 97 uv9), CV.d (DV.sl 9 uv10)])], objs := ofL Option.none [(3, Option.some { ver := 0, t := 9, xs := uv11 : Obj II }), (1099511631873, Option.none), (1099511631874, Option.none), (1099511631875, Option.none), (1099511631876, Option.none), (1099511631877, Option.none), (1099511631878, Option.none), (1099511631879, Option.none), (1099511631880, Option.none)], fxs := ofL Option.none [(1, Option.none)] : AS II })).run = (Lr07_Names_7 s k x0 r3 j7 uv0 uv1 uv2 uv3 uv4 uv5 uv6 uv7 uv8 uv9 uv10 uv11).map rc_r07_Names.enc := by
  intro j7
  induction j7 with
  | zero => intros; rfl
  | succ j7 ih =>
    intros
    simp only [Lr07_Names_7, map_ite, map_bindO, map_someO, map_noneO, ← ih, ← h3]
    kernel_rfl
theorem Lr07_Names_15_eq (s : Fam) (k : Nat) (x0 : TProgram) (j3 : Nat) (r3 : Int → ByteArray → List ByteArray → List ByteArray → List ByteArray → List TRec → List TVar → List TRoutine → List TStmt → List ByteArray → List ByteArray → Option (List ByteArray)) (h3 : ∀ (v0 : Int) (v1 : ByteArray) (v2 : List ByteArray) (v3 : List ByteArray) (v4 : List ByteArray) (v5 : List TRec) (v6 : List TVar) (v7 : List TRoutine) (v8 : List TStmt) (v9 : List ByteArray) (v10 : List ByteArray), (loopGo EE (sp s) h_r07_Names co_r07_Names [] k Tryz.f5 3 [] j3 ({ tmps := ofL AV.any [(1, AV.c (CV.ptr 1 0)), (3, AV.c (CV.own 3 0)), (4, AV.c (CV.d (DV.lit (Go.Value.int Go.IntKind.i64 v0))))], boxes := ofL Option.none [(1, Option.some [CV.d (DV.lit (Go.Value.string v1)), CV.d (DV.sl 9 v2), CV.d (DV.sl 9 v3), CV.d (DV.sl 9 v4), CV.d (DV.sl 46 v5), CV.d (DV.sl 56 v6), CV.d (DV.sl 90 v7), CV.d (DV.sl 97 v8), CV.d (DV.sl 9 v9)])], objs := ofL Option.none [(3, Option.some { ver := 0, t := 9, xs := v10 : Obj II }), (1099511631873, Option.none), (1099511631874, Option.none), (1099511631875, Option.none), (1099511631876, Option.none), (1099511631877, Option.none), (1099511631878, Option.none), (1099511631879, Option.none), (1099511631880, Option.none)], fxs := ofL Option.none [(1, Option.none)] : AS II })).run = (r3 v0 v1 v2 v3 v4 v5 v6 v7 v8 v9 v10).map rc_r07_Names.enc) : ∀ (j15 : Nat) (uv0 : Int) (uv1 : List ByteArray) (uv2 : List ByteArray), (loopGo EE (sp s) h_r07_Names co_r07_Names [] k Tryz.f5 15 [] j15 ({ tmps := ofL AV.any [(3, AV.c (CV.own 3 0)), (6, AV.c (CV.own 6 0)), (7, AV.c (CV.d (DV.lit (Go.Value.int Go.IntKind.i64 uv0))))], boxes := ofL Option.none [], objs := ofL Option.none [(3, Option.some { ver := 0, t := 9, xs := uv1 : Obj II }), (6, Option.some { ver := 0, t := 9, xs := uv2 : Obj II })], fxs := ofL Option.none [] : AS II })).run = (Lr07_Names_15 s k x0 r3 j15 uv0 uv1 uv2).map rc_r07_Names.enc := by
  intro j15
  induction j15 with
  | zero => intros; rfl
  | succ j15 ih =>
    intros
    simp only [Lr07_Names_15, map_ite, map_bindO, map_someO, map_noneO, ← ih, ← h3]
    kernel_rfl
theorem Lr07_Names_3_eq (s : Fam) (k : Nat) (x0 : TProgram) : ∀ (j3 : Nat) (v0 : Int) (v1 : ByteArray) (v2 : List ByteArray) (v3 : List ByteArray) (v4 : List ByteArray) (v5 : List TRec) (v6 : List TVar) (v7 : List TRoutine) (v8 : List TStmt) (v9 : List ByteArray) (v10 : List ByteArray), (loopGo EE (sp s) h_r07_Names co_r07_Names [] k Tryz.f5 3 [] j3 ({ tmps := ofL AV.any [(1, AV.c (CV.ptr 1 0)), (3, AV.c (CV.own 3 0)), (4, AV.c (CV.d (DV.lit (Go.Value.int Go.IntKind.i64 v0))))], boxes := ofL Option.none [(1, Option.some [CV.d (DV.lit (Go.Value.string v1)), CV.d (DV.sl 9 v2), CV.d (DV.sl 9 v3), CV.d (DV.sl 9 v4), CV.d (DV.sl 46 v5), CV.d (DV.sl 56 v6), CV.d (DV.sl 90 v7), CV.d (DV.sl 97 v8), CV.d (DV.sl 9 v9)])], objs := ofL Option.none [(3, Option.some { ver := 0, t := 9, xs := v10 : Obj II }), (1099511631873, Option.none), (1099511631874, Option.none), (1099511631875, Option.none), (1099511631876, Option.none), (1099511631877, Option.none), (1099511631878, Option.none), (1099511631879, Option.none), (1099511631880, Option.none)], fxs := ofL Option.none [(1, Option.none)] : AS II })).run = (Lr07_Names_3 s k x0 j3 v0 v1 v2 v3 v4 v5 v6 v7 v8 v9 v10).map rc_r07_Names.enc := by
  intro j3
  induction j3 with
  | zero => intros; rfl
  | succ j3 ih =>
    have q0 := Lr07_Names_7_eq s k x0 j3 (Lr07_Names_3 s k x0 j3) ih
    have q1 := Lr07_Names_15_eq s k x0 j3 (Lr07_Names_3 s k x0 j3) ih
    intros
    simp only [Lr07_Names_3, map_ite, map_bindO, map_someO, map_noneO, ← ih, ← q0, ← q1]
    kernel_rfl
theorem e_r07_Names (s : Fam) (k : Nat) (x : a_r07_Names) : (evFunC EE (sp s) h_r07_Names co_r07_Names k Tryz.f5 (c_r07_Names.enc x)).run = (B_r07_Names s k x.1).map rc_r07_Names.enc := by
  simp only [B_r07_Names, map_ite, map_bindO, map_someO, map_noneO, ← Lr07_Names_3_eq]
  kernel_rfl
-- 67 nodes
def B_w16_awake (s : Fam) (k : Nat) : Option (Bool) := ((s.f_rename_Apply (1, { Name := { data := #[112] : ByteArray }, Before := [], Mid := [], After := [], Recs := [], Vars := [{ Marks_Before := [], Marks_Trail := [], Name := { data := #[103, 101, 116] : ByteArray }, T_Kind := 1, T_Size := 0, T_Name := { data := #[] : ByteArray } : TVar }, { Marks_Before := [], Marks_Trail := [], Name := { data := #[103, 101, 116, 95, 49] : ByteArray }, T_Kind := 1, T_Size := 0, T_Name := { data := #[] : ByteArray } : TVar }], Routines := [], Body := [], End := [] : TProgram }, ())).bind fun t1 => ((s.f_r16_SamePairs (t1.snd.fst, [{ Old := { data := #[103, 101, 116] : ByteArray }, New := { data := #[103, 101, 116, 95, 50] : ByteArray } : TPair }], ())).bind fun t2 => (if t2 = Bool.true then (if 0 < (↑t1.fst.Vars.length : Int) then (if (Bool.true && (t1.fst.Vars.getD (Int.toNat 0) dd_TVar).Name.toList == { data := #[103, 101, 116, 95, 50] : ByteArray }.toList) = Bool.true then (if 1 < (↑t1.fst.Vars.length : Int) then (if (Bool.true && (t1.fst.Vars.getD (Int.toNat 1) dd_TVar).Name.toList == { data := #[103, 101, 116, 95, 49] : ByteArray }.toList) = Bool.true then ((s.f_rename_Table (0, { Name := { data := #[112] : ByteArray }, Before := [], Mid := [], After := [], Recs := [], Vars := [{ Marks_Before := [], Marks_Trail := [], Name := { data := #[103, 101, 116] : ByteArray }, T_Kind := 1, T_Size := 0, T_Name := { data := #[] : ByteArray } : TVar }, { Marks_Before := [], Marks_Trail := [], Name := { data := #[103, 101, 116, 95, 49] : ByteArray }, T_Kind := 1, T_Size := 0, T_Name := { data := #[] : ByteArray } : TVar }], Routines := [], Body := [], End := [] : TProgram }, ())).bind fun t10 => some (Bool.true && (↑(List.length t10) : Int) == 0)) else some (Bool.false)) else none) else some (Bool.false)) else none) else some (Bool.false))))
theorem e_w16_awake (s : Fam) (k : Nat) (x : a_w16_awake) : (evFunC EE (sp s) h_w16_awake co_w16_awake k Tryz.f6 (c_w16_awake.enc x)).run = (B_w16_awake s k).map rc_w16_awake.enc := by
  simp only [B_w16_awake, map_ite, map_bindO, map_someO, map_noneO]
  kernel_rfl
-- 40 nodes
def Lrename_Table_5 (s : Fam) (k : Nat) (x0 : Int) (x1 : TProgram) : Nat → Int → Int → List ByteArray → List TPair → List ByteArray → Option (List TPair)
  | 0, _, _, _, _, _ => none
  | j5 + 1, v0, v1, v2, v3, v4 => (if decide (v1 < v0) = Bool.true then (if 0 ≤ v1 then (if v1 < (↑v4.length : Int) then ((s.f_words_Fresh (v4.getD v1.toNat { data := #[] : ByteArray }, v2, ())).bind fun t8 => (if (v2 ++ [t8]).length * 16 ≤ 140737488355328 then (if (v3 ++ [{ Old := v4.getD v1.toNat { data := #[] : ByteArray }, New := t8 : TPair }]).length * 32 ≤ 140737488355328 then Lrename_Table_5 s k x0 x1 j5 (v0) (Go.IntKind.i64.wrap (v1 + 1)) (v2 ++ [t8]) (v3 ++ [{ Old := v4.getD v1.toNat { data := #[] : ByteArray }, New := t8 : TPair }]) (v4) else none) else none)) else none) else none) else some (v3))
def B_rename_Table (s : Fam) (k : Nat) (x0 : Int) (x1 : TProgram) : Option (List TPair) := ((s.f_tree_Names (x1, ())).bind fun t1 => ((s.f_slices_Clone_string (t1, ())).bind fun t2 => ((s.f_words_Clash (x0, t1, ())).bind fun t3 => Lrename_Table_5 s k x0 x1 k ((↑(List.length t3) : Int)) (0) (t2) ([]) (t3))))
theorem Lrename_Table_5_eq (s : Fam) (k : Nat) (x0 : Int) (x1 : TProgram) : ∀ (j5 : Nat) (v0 : Int) (v1 : Int) (v2 : List ByteArray) (v3 : List TPair) (v4 : List ByteArray), (loopGo EE (sp s) h_rename_Table co_rename_Table [] k Tryz.f8 5 [] j5 ({ tmps := ofL AV.any [(6, AV.c (CV.own 6 0)), (7, AV.c (CV.own 7 0)), (17, AV.c (CV.own 17 0)), (18, AV.c (CV.d (DV.lit (Go.Value.int Go.IntKind.i64 v0)))), (19, AV.c (CV.d (DV.lit (Go.Value.int Go.IntKind.i64 v1))))], boxes := ofL Option.none [], objs := ofL Option.none [(6, Option.some { ver := 0, t := 9, xs := v2 : Obj II }), (7, Option.some { ver := 0, t := 58, xs := v3 : Obj II }), (17, Option.some { ver := 0, t := 9, xs := v4 : Obj II })], fxs := ofL Option.none [] : AS II })).run = (Lrename_Table_5 s k x0 x1 j5 v0 v1 v2 v3 v4).map rc_rename_Table.enc := by
  intro j5
  induction j5 with
  | zero => intros; rfl
  | succ j5 ih =>
    intros
    simp only [Lrename_Table_5, map_ite, map_bindO, map_someO, map_noneO, ← ih]
    kernel_rfl
theorem e_rename_Table (s : Fam) (k : Nat) (x : a_rename_Table) : (evFunC EE (sp s) h_rename_Table co_rename_Table k Tryz.f8 (c_rename_Table.enc x)).run = (B_rename_Table s k x.1 x.2.1).map rc_rename_Table.enc := by
  simp only [B_rename_Table, map_ite, map_bindO, map_someO, map_noneO, ← Lrename_Table_5_eq]
  kernel_rfl
-- 16 nodes
def B_rename_Apply (s : Fam) (k : Nat) (x0 : Int) (x1 : TProgram) : Option (TProgram × List TPair × Unit) := ((s.f_rename_Table (x0, x1, ())).bind fun t1 => ((s.f_tree_Rename (x1, t1, ())).bind fun t2 => some ((t2, t1, ()))))
theorem e_rename_Apply (s : Fam) (k : Nat) (x : a_rename_Apply) : (evFunC EE (sp s) h_rename_Apply co_rename_Apply k Tryz.f9 (c_rename_Apply.enc x)).run = (B_rename_Apply s k x.1 x.2.1).map rc_rename_Apply.enc := by
  simp only [B_rename_Apply, map_ite, map_bindO, map_someO, map_noneO]
  kernel_rfl
-- 3 nodes
def Lr16_SamePairs_4 (s : Fam) (k : Nat) (x0 : List TPair) (x1 : List TPair) : Nat → List TPair → List TPair → Int → Option (Bool)
  | 0, _, _, _ => none
  | j4 + 1, v0, v1, v2 => (if decide (v2 < (↑v0.length : Int)) = Bool.true then (if 0 ≤ v2 then (if v2 < (↑v0.length : Int) then (if 0 ≤ v2 then (if v2 < (↑v1.length : Int) then (if (!((v0.getD v2.toNat dd_TPair).Old.toList == (v1.getD v2.toNat dd_TPair).Old.toList && ((v0.getD v2.toNat dd_TPair).New.toList == (v1.getD v2.toNat dd_TPair).New.toList && Bool.true))) = Bool.true then some (Bool.false) else Lr16_SamePairs_4 s k x0 x1 j4 (v0) (v1) (Go.IntKind.i64.wrap (v2 + 1))) else none) else none) else none) else none) else some (Bool.true))
def B_r16_SamePairs (s : Fam) (k : Nat) (x0 : List TPair) (x1 : List TPair) : Option (Bool) := (if ((↑x0.length : Int) != (↑x1.length : Int)) = Bool.true then some (Bool.false) else Lr16_SamePairs_4 s k x0 x1 k (x0) (x1) (0))
theorem Lr16_SamePairs_4_eq (s : Fam) (k : Nat) (x0 : List TPair) (x1 : List TPair) : ∀ (j4 : Nat) (v0 : List TPair) (v1 : List TPair) (v2 : Int), (loopGo EE (sp s) h_r16_SamePairs co_r16_SamePairs [] k Tryz.f11 4 [] j4 ({ tmps := ofL AV.any [(0, AV.c (CV.d (DV.sl 58 v0))), (1, AV.c (CV.d (DV.sl 58 v1))), (5, AV.c (CV.d (DV.lit (Go.Value.int Go.IntKind.i64 v2))))], boxes := ofL Option.none [], objs := ofL Option.none [], fxs := ofL Option.none [] : AS II })).run = (Lr16_SamePairs_4 s k x0 x1 j4 v0 v1 v2).map rc_r16_SamePairs.enc := by
  intro j4
  induction j4 with
  | zero => intros; rfl
  | succ j4 ih =>
    intros
    simp only [Lr16_SamePairs_4, map_ite, map_bindO, map_someO, map_noneO, ← ih]
    kernel_rfl
theorem e_r16_SamePairs (s : Fam) (k : Nat) (x : a_r16_SamePairs) : (evFunC EE (sp s) h_r16_SamePairs co_r16_SamePairs k Tryz.f11 (c_r16_SamePairs.enc x)).run = (B_r16_SamePairs s k x.1 x.2.1).map rc_r16_SamePairs.enc := by
  simp only [B_r16_SamePairs, map_ite, map_bindO, map_someO, map_noneO, ← Lr16_SamePairs_4_eq]
  kernel_rfl
-- 16 nodes
def Lr07_Check_10 (s : Fam) (k : Nat) (x0 : Int) (x1 : TProgram) (r4 : Int → Int → ByteArray → List ByteArray → List ByteArray → List ByteArray → List TRec → List TVar → List TRoutine → List TStmt → List ByteArray → Option (Bool)) : Nat → Int → Int → Int → ByteArray → List ByteArray → List ByteArray → List ByteArray → List TRec → List TVar → List TRoutine → List TStmt → List ByteArray → List ByteArray → List ByteArray → ByteArray → List TField → List ByteArray → Option (Bool)
  | 0, _, _, _, _, _, _, _, _, _, _, _, _, _, _, _, _, _ => none
  | j10 + 1, uv0, uv1, uv2, uv3, uv4, uv5, uv6, uv7, uv8, uv9, uv10, uv11, uv12, uv13, uv14, uv15, uv16 => (if decide (uv2 < (↑uv15.length : Int)) = Bool.true then (if 0 ≤ uv2 then (if uv2 < (↑uv15.length : Int) then ((s.f_r07_marks ((uv15.getD uv2.toNat dd_TField).sub_Marks, ())).bind fun t28 => (if (!t28) = Bool.false then ((s.f_r07_Name (uv0, (uv15.getD uv2.toNat dd_TField).Name, ())).bind fun t30 => (if (Bool.false || !t30 || decide ((uv15.getD uv2.toNat dd_TField).Kind < 1) || decide ((uv15.getD uv2.toNat dd_TField).Kind > 3)) = Bool.true then some (Bool.false) else Lr07_Check_10 s k x0 x1 r4 j10 (uv0) (uv1) (Go.IntKind.i64.wrap (uv2 + 1)) (uv3) (uv4) (uv5) (uv6) (uv7) (uv8) (uv9) (uv10) (uv11) (uv12) (uv13) (uv14) (uv15) (uv16))) else some (Bool.false))) else none) else none) else r4 (uv0) (Go.IntKind.i64.wrap (uv1 + 1)) (uv3) (uv4) (uv5) (uv6) (uv7) (uv8) (uv9) (uv10) (uv11))
def Lr07_Check_4 (s : Fam) (k : Nat) (x0 : Int) (x1 : TProgram) : Nat → Int → Int → ByteArray → List ByteArray → List ByteArray → List ByteArray → List TRec → List TVar → List TRoutine → List TStmt → List ByteArray → Option (Bool)
  | 0, _, _, _, _, _, _, _, _, _, _, _ => none
  | j4 + 1, v0, v1, v2, v3, v4, v5, v6, v7, v8, v9, v10 => (if decide (v1 < (↑v6.length : Int)) = Bool.true then (if 0 ≤ v1 then (if v1 < (↑v6.length : Int) then ((s.f_r07_marks ((v6.getD v1.toNat dd_TRec).sub_Marks, ())).bind fun t17 => (if (!t17) = Bool.false then ((s.f_r07_notes ((v6.getD v1.toNat dd_TRec).End, ())).bind fun t19 => (if (Bool.false || !t19) = Bool.false then ((s.f_r07_Name (v0, (v6.getD v1.toNat dd_TRec).Name, ())).bind fun t21 => (if (Bool.false || !t21 || (↑(v6.getD v1.toNat dd_TRec).Fields.length : Int) == 0 || decide ((↑(v6.getD v1.toNat dd_TRec).Fields.length : Int) > 512)) = Bool.true then some (Bool.false) else Lr07_Check_10 s k x0 x1 (Lr07_Check_4 s k x0 x1 j4) k (v0) (v1) (0) (v2) (v3) (v4) (v5) (v6) (v7) (v8) (v9) (v10) ((v6.getD v1.toNat dd_TRec).Marks_Before) ((v6.getD v1.toNat dd_TRec).Marks_Trail) ((v6.getD v1.toNat dd_TRec).Name) ((v6.getD v1.toNat dd_TRec).Fields) ((v6.getD v1.toNat dd_TRec).End))) else some (Bool.false))) else some (Bool.false))) else none) else none) else ((s.f_r07_vars (v0, v7, ())).bind fun t54 => (if t54 = Bool.true then ((s.f_r07_routines (v0, v8, 1, ())).bind fun t56 => (if (Bool.true && t56) = Bool.true then ((s.f_r07_Stmts (v0, v9, 1, ())).bind fun t58 => some (Bool.true && t58)) else some (Bool.false))) else some (Bool.false))))
def B_r07_Check (s : Fam) (k : Nat) (x0 : Int) (x1 : TProgram) : Option (Bool) := (if (x0 != 0 && x0 != 1) = Bool.false then ((s.f_r07_Name (x0, x1.Name, ())).bind fun t2 => (if (Bool.false || !t2) = Bool.false then ((s.f_r07_notes (x1.Before, ())).bind fun t4 => (if (Bool.false || !t4) = Bool.false then ((s.f_r07_notes (x1.Mid, ())).bind fun t6 => (if (Bool.false || !t6) = Bool.false then ((s.f_r07_notes (x1.After, ())).bind fun t8 => (if (Bool.false || !t8) = Bool.false then ((s.f_r07_notes (x1.End, ())).bind fun t10 => (if (Bool.false || !t10 || decide ((↑x1.Recs.length : Int) > 512)) = Bool.true then some (Bool.false) else Lr07_Check_4 s k x0 x1 k (x0) (0) (x1.Name) (x1.Before) (x1.Mid) (x1.After) (x1.Recs) (x1.Vars) (x1.Routines) (x1.Body) (x1.End))) else some (Bool.false))) else some (Bool.false))) else some (Bool.false))) else some (Bool.false))) else some (Bool.false))
theorem Lr07_Check_10_eq (s : Fam) (k : Nat) (x0 : Int) (x1 : TProgram) (j4 : Nat) (r4 : Int → Int → ByteArray → List ByteArray → List ByteArray → List ByteArray → List TRec → List TVar → List TRoutine → List TStmt → List ByteArray → Option (Bool)) (h4 : ∀ (v0 : Int) (v1 : Int) (v2 : ByteArray) (v3 : List ByteArray) (v4 : List ByteArray) (v5 : List ByteArray) (v6 : List TRec) (v7 : List TVar) (v8 : List TRoutine) (v9 : List TStmt) (v10 : List ByteArray), (loopGo EE (sp s) h_r07_Check co_r07_Check [] k Tryz.f13 4 [] j4 ({ tmps := ofL AV.any [(0, AV.c (CV.d (DV.lit (Go.Value.int Go.IntKind.i64 v0)))), (3, AV.c (CV.ptr 3 0)), (5, AV.c (CV.d (DV.lit (Go.Value.int Go.IntKind.i64 v1))))], boxes := ofL Option.none [(3, Option.some [CV.d (DV.lit (Go.Value.string v2)), CV.d (DV.sl 9 v3), CV.d (DV.sl 9 v4), CV.d (DV.sl 9 v5), CV.d (DV.sl 46 v6), CV.d (DV.sl 56 v7), CV.d (DV.sl 90 v8), CV.d (DV.sl 97 v9), CV.d (DV.sl 9 v10)])], objs := ofL Option.none [(1099511640065, Option.none), (1099511640066, Option.none), (1099511640067, Option.none), (1099511640068, Option.none), (1099511640069, Option.none), (1099511640070, Option.none), (1099511640071, Option.none), (1099511640072, Option.none)], fxs := ofL Option.none [(3, Option.none)] : AS II })).run = (r4 v0 v1 v2 v3 v4 v5 v6 v7 v8 v9 v10).map rc_r07_Check.enc) : ∀ (j10 : Nat) (uv0 : Int) (uv1 : Int) (uv2 : Int) (uv3 : ByteArray) (uv4 : List ByteArray) (uv5 : List ByteArray) (uv6 : List ByteArray) (uv7 : List TRec) (uv8 : List TVar) (uv9 : List TRoutine) (uv10 : List TStmt) (uv11 : List ByteArray) (uv12 : List ByteArray) (uv13 : List ByteArray) (uv14 : ByteArray) (uv15 : List TField) (uv16 : List ByteArray), (loopGo EE (sp s) h_r07_Check co_r07_Check [] k Tryz.f13 10 [j4] j10 ({ tmps := ofL AV.any [(0, AV.c (CV.d (DV.lit (Go.Value.int Go.IntKind.i64 uv0)))), (3, AV.c (CV.ptr 3 0)), (5, AV.c (CV.d (DV.lit (Go.Value.int Go.IntKind.i64 uv1)))), (6, AV.c (CV.ptr 6 0)), (7, AV.c (CV.d (DV.lit (Go.Value.int Go.IntKind.i64 uv2))))], boxes := ofL Option.none [(3, Option.some [CV.d (DV.lit (Go.Value.string uv3)), CV.d (DV.sl 9 uv4), CV.d (DV.sl 9 uv5), CV.d (DV.sl 9 uv6), CV.d (DV.sl 46 uv7), CV.d (DV.sl 56 uv8), CV.d (DV.sl 90 uv9), CV.d (DV.sl 97 uv10), CV.d (DV.sl 9 uv11)]), (6, Option.some [CV.d (DV.sl 9 uv12), CV.d (DV.sl 9 uv13), CV.d (DV.lit (Go.Value.string uv14)), CV.d (DV.sl 48 uv15), CV.d (DV.sl 9 uv16)])], objs := ofL Option.none [(1099511640065, Option.none), (1099511640066, Option.none), (1099511640067, Option.none), (1099511640068, Option.none), (1099511640069, Option.none), (1099511640070, Option.none), (1099511640071, Option.none), (1099511640072, Option.none), (1099511652352, Option.none), (1099511652353, Option.none), (1099511652355, Option.none), (1099511652356, Option.none)], fxs := ofL Option.none [(3, Option.none), (6, Option.none)] : AS II })).run = (Lr07_Check_10 s k x0 x1 r4 j10 uv0 uv1 uv2 uv3 uv4 uv5 uv6 uv7 uv8 uv9 uv10 uv11 uv12 uv13 uv14 uv15 uv16).map rc_r07_Check.enc := by
  intro j10
  induction j10 with
  | zero => intros; rfl
  | succ j10 ih =>
    intros
    simp only [Lr07_Check_10, map_ite, map_bindO, map_someO, map_noneO, ← ih, ← h4]
    kernel_rfl
theorem Lr07_Check_4_eq (s : Fam) (k : Nat) (x0 : Int) (x1 : TProgram) : ∀ (j4 : Nat) (v0 : Int) (v1 : Int) (v2 : ByteArray) (v3 : List ByteArray) (v4 : List ByteArray) (v5 : List ByteArray) (v6 : List TRec) (v7 : List TVar) (v8 : List TRoutine) (v9 : List TStmt) (v10 : List ByteArray), (loopGo EE (sp s) h_r07_Check co_r07_Check [] k Tryz.f13 4 [] j4 ({ tmps := ofL AV.any [(0, AV.c (CV.d (DV.lit (Go.Value.int Go.IntKind.i64 v0)))), (3, AV.c (CV.ptr 3 0)), (5, AV.c (CV.d (DV.lit (Go.Value.int Go.IntKind.i64 v1))))], boxes := ofL Option.none [(3, Option.some [CV.d (DV.lit (Go.Value.string v2)), CV.d (DV.sl 9 v3), CV.d (DV.sl 9 v4), CV.d (DV.sl 9 v5), CV.d (DV.sl 46 v6), CV.d (DV.sl 56 v7), CV.d (DV.sl 90 v8), CV.d (DV.sl 97 v9), CV.d (DV.sl 9 v10)])], objs := ofL Option.none [(1099511640065, Option.none), (1099511640066, Option.none), (1099511640067, Option.none), (1099511640068, Option.none), (1099511640069, Option.none), (1099511640070, Option.none), (1099511640071, Option.none), (1099511640072, Option.none)], fxs := ofL Option.none [(3, Option.none)] : AS II })).run = (Lr07_Check_4 s k x0 x1 j4 v0 v1 v2 v3 v4 v5 v6 v7 v8 v9 v10).map rc_r07_Check.enc := by
  intro j4
  induction j4 with
  | zero => intros; rfl
  | succ j4 ih =>
    have q0 := Lr07_Check_10_eq s k x0 x1 j4 (Lr07_Check_4 s k x0 x1 j4) ih
    intros
    simp only [Lr07_Check_4, map_ite, map_bindO, map_someO, map_noneO, ← ih, ← q0]
    kernel_rfl
theorem e_r07_Check (s : Fam) (k : Nat) (x : a_r07_Check) : (evFunC EE (sp s) h_r07_Check co_r07_Check k Tryz.f13 (c_r07_Check.enc x)).run = (B_r07_Check s k x.1 x.2.1).map rc_r07_Check.enc := by
  simp only [B_r07_Check, map_ite, map_bindO, map_someO, map_noneO, ← Lr07_Check_4_eq]
  kernel_rfl
-- 115 nodes
def B_r12_Check (s : Fam) (k : Nat) (x0 : TProgram) : Option (Int × Int × Unit) := ((s.f_r12_Look_recs ((-1, 0, ()), x0.Recs, ())).bind fun t1 => ((s.f_r12_Look_vars ((t1.snd.fst.fst, t1.snd.fst.snd.fst, ()), t1.fst, x0.Vars, x0.Routines, ())).bind fun t2 => ((s.f_r12_Look_routines ((t2.snd.fst.fst, t2.snd.fst.snd.fst, ()), t2.fst, x0.Routines, ())).bind fun t3 => ((s.f_r12_Visible (t2.fst, x0.Routines, ())).bind fun t4 => ((s.f_r12_Look_stmts ((t3.snd.fst.fst, t3.snd.fst.snd.fst, ()), t4, 0, x0.Body, ())).bind fun t5 => (if (t5.snd.fst.snd.fst != 0) = Bool.true then some ((t5.snd.fst.fst, t5.snd.fst.snd.fst, ())) else some ((0, 0, ()))))))))
theorem e_r12_Check (s : Fam) (k : Nat) (x : a_r12_Check) : (evFunC EE (sp s) h_r12_Check co_r12_Check k Tryz.f14 (c_r12_Check.enc x)).run = (B_r12_Check s k x.1).map rc_r12_Check.enc := by
  simp only [B_r12_Check, map_ite, map_bindO, map_someO, map_noneO]
  kernel_rfl
-- 8 nodes
def Lr07_Parts_4 (s : Fam) (k : Nat) (x0 : ByteArray) : Nat → ByteArray → Int → Int → List ByteArray → Option (List ByteArray)
  | 0, _, _, _, _ => none
  | j4 + 1, v0, v1, v2, v3 => (if decide (v2 ≤ (↑v0.size : Int)) = Bool.true then (if (v2 == (↑v0.size : Int)) = Bool.false then (if 0 ≤ v2 then (if v2 < (↑v0.size : Int) then (if (Bool.false || bt v0 v2 == 36) = Bool.true then (if 0 ≤ v1 then (if v1 ≤ v2 then (if v2 ≤ (↑v0.size : Int) then (if (v3 ++ [v0.extract v1.toNat v2.toNat]).length * 16 ≤ 140737488355328 then Lr07_Parts_4 s k x0 j4 (v0) (Go.IntKind.i64.wrap (v2 + 1)) (Go.IntKind.i64.wrap (v2 + 1)) (v3 ++ [v0.extract v1.toNat v2.toNat]) else none) else none) else none) else none) else Lr07_Parts_4 s k x0 j4 (v0) (v1) (Go.IntKind.i64.wrap (v2 + 1)) (v3)) else none) else none) else (if 0 ≤ v1 then (if v1 ≤ v2 then (if v2 ≤ (↑v0.size : Int) then (if (v3 ++ [v0.extract v1.toNat v2.toNat]).length * 16 ≤ 140737488355328 then Lr07_Parts_4 s k x0 j4 (v0) (Go.IntKind.i64.wrap (v2 + 1)) (Go.IntKind.i64.wrap (v2 + 1)) (v3 ++ [v0.extract v1.toNat v2.toNat]) else none) else none) else none) else none)) else some (v3))
def B_r07_Parts (s : Fam) (k : Nat) (x0 : ByteArray) : Option (List ByteArray) := Lr07_Parts_4 s k x0 k (x0) (0) (0) ([])
theorem Lr07_Parts_4_eq (s : Fam) (k : Nat) (x0 : ByteArray) : ∀ (j4 : Nat) (v0 : ByteArray) (v1 : Int) (v2 : Int) (v3 : List ByteArray), (loopGo EE (sp s) h_r07_Parts co_r07_Parts [] k Tryz.f15 4 [] j4 ({ tmps := ofL AV.any [(0, AV.c (CV.d (DV.lit (Go.Value.string v0)))), (3, AV.c (CV.own 3 0)), (4, AV.c (CV.d (DV.lit (Go.Value.int Go.IntKind.i64 v1)))), (5, AV.c (CV.d (DV.lit (Go.Value.int Go.IntKind.i64 v2))))], boxes := ofL Option.none [], objs := ofL Option.none [(3, Option.some { ver := 0, t := 9, xs := v3 : Obj II })], fxs := ofL Option.none [] : AS II })).run = (Lr07_Parts_4 s k x0 j4 v0 v1 v2 v3).map rc_r07_Parts.enc := by
  intro j4
  induction j4 with
  | zero => intros; rfl
  | succ j4 ih =>
    intros
    simp only [Lr07_Parts_4, map_ite, map_bindO, map_someO, map_noneO, ← ih]
    kernel_rfl
theorem e_r07_Parts (s : Fam) (k : Nat) (x : a_r07_Parts) : (evFunC EE (sp s) h_r07_Parts co_r07_Parts k Tryz.f15 (c_r07_Parts.enc x)).run = (B_r07_Parts s k x.1).map rc_r07_Parts.enc := by
  simp only [B_r07_Parts, map_ite, map_bindO, map_someO, map_noneO, ← Lr07_Parts_4_eq]
  kernel_rfl
-- 31 nodes
def Lr07_varNames_3 (s : Fam) (k : Nat) (x0 : List TVar) : Nat → List TVar → Int → List ByteArray → Option (List ByteArray)
  | 0, _, _, _ => none
  | j3 + 1, v0, v1, v2 => (if decide (v1 < (↑v0.length : Int)) = Bool.true then (if 0 ≤ v1 then (if v1 < (↑v0.length : Int) then ((s.f_r07_Parts ((v0.getD v1.toNat dd_TVar).Name, ())).bind fun t5 => (if (v2 ++ t5).length * 16 ≤ 140737488355328 then (if 0 ≤ v1 then (if v1 < (↑v0.length : Int) then ((s.f_r07_Parts ((v0.getD v1.toNat dd_TVar).T_Name, ())).bind fun t9 => (if (v2 ++ t5 ++ t9).length * 16 ≤ 140737488355328 then Lr07_varNames_3 s k x0 j3 (v0) (Go.IntKind.i64.wrap (v1 + 1)) (v2 ++ t5 ++ t9) else none)) else none) else none) else none)) else none) else none) else some (v2))
def B_r07_varNames (s : Fam) (k : Nat) (x0 : List TVar) : Option (List ByteArray) := Lr07_varNames_3 s k x0 k (x0) (0) ([])
theorem Lr07_varNames_3_eq (s : Fam) (k : Nat) (x0 : List TVar) : ∀ (j3 : Nat) (v0 : List TVar) (v1 : Int) (v2 : List ByteArray), (loopGo EE (sp s) h_r07_varNames co_r07_varNames [] k Tryz.f16 3 [] j3 ({ tmps := ofL AV.any [(0, AV.c (CV.d (DV.sl 56 v0))), (3, AV.c (CV.own 3 0)), (4, AV.c (CV.d (DV.lit (Go.Value.int Go.IntKind.i64 v1))))], boxes := ofL Option.none [], objs := ofL Option.none [(3, Option.some { ver := 0, t := 9, xs := v2 : Obj II })], fxs := ofL Option.none [] : AS II })).run = (Lr07_varNames_3 s k x0 j3 v0 v1 v2).map rc_r07_varNames.enc := by
  intro j3
  induction j3 with
  | zero => intros; rfl
  | succ j3 ih =>
    intros
    simp only [Lr07_varNames_3, map_ite, map_bindO, map_someO, map_noneO, ← ih]
    kernel_rfl
theorem e_r07_varNames (s : Fam) (k : Nat) (x : a_r07_varNames) : (evFunC EE (sp s) h_r07_varNames co_r07_varNames k Tryz.f16 (c_r07_varNames.enc x)).run = (B_r07_varNames s k x.1).map rc_r07_varNames.enc := by
  simp only [B_r07_varNames, map_ite, map_bindO, map_someO, map_noneO, ← Lr07_varNames_3_eq]
  kernel_rfl
-- 18 nodes
def Lr07_routineNames_8 (s : Fam) (k : Nat) (x0 : List TRoutine) (r3 : List TRoutine → Int → List ByteArray → Option (List ByteArray)) : Nat → List TRoutine → Int → Int → List ByteArray → List ByteArray → ByteArray → Int → List TParam → List TVar → List TRoutine → List TStmt → List ByteArray → List ByteArray → Option (List ByteArray)
  | 0, _, _, _, _, _, _, _, _, _, _, _, _, _ => none
  | j8 + 1, uv0, uv1, uv2, uv3, uv4, uv5, uv6, uv7, uv8, uv9, uv10, uv11, uv12 => (if decide (uv2 < (↑uv7.length : Int)) = Bool.true then (if 0 ≤ uv2 then (if uv2 < (↑uv7.length : Int) then ((s.f_r07_Parts ((uv7.getD uv2.toNat dd_TParam).Name, ())).bind fun t11 => (if (uv12 ++ t11).length * 16 ≤ 140737488355328 then (if 0 ≤ uv2 then (if uv2 < (↑uv7.length : Int) then ((s.f_r07_Parts ((uv7.getD uv2.toNat dd_TParam).T_Name, ())).bind fun t15 => (if (uv12 ++ t11 ++ t15).length * 16 ≤ 140737488355328 then Lr07_routineNames_8 s k x0 r3 j8 (uv0) (uv1) (Go.IntKind.i64.wrap (uv2 + 1)) (uv3) (uv4) (uv5) (uv6) (uv7) (uv8) (uv9) (uv10) (uv11) (uv12 ++ t11 ++ t15) else none)) else none) else none) else none)) else none) else none) else ((s.f_r07_varNames (uv8, ())).bind fun t24 => (if (uv12 ++ t24).length * 16 ≤ 140737488355328 then ((s.f_r07_routineNames (uv9, ())).bind fun t26 => (if (uv12 ++ t24 ++ t26).length * 16 ≤ 140737488355328 then ((s.f_r07_stmtNames (uv10, ())).bind fun t28 => (if (uv12 ++ t24 ++ t26 ++ t28).length * 16 ≤ 140737488355328 then r3 (uv0) (Go.IntKind.i64.wrap (uv1 + 1)) (uv12 ++ t24 ++ t26 ++ t28) else none)) else none)) else none)))
def Lr07_routineNames_3 (s : Fam) (k : Nat) (x0 : List TRoutine) : Nat → List TRoutine → Int → List ByteArray → Option (List ByteArray)
  | 0, _, _, _ => none
  | j3 + 1, v0, v1, v2 => (if decide (v1 < (↑v0.length : Int)) = Bool.true then (if 0 ≤ v1 then (if v1 < (↑v0.length : Int) then ((s.f_r07_Parts ((v0.getD v1.toNat dd_TRoutine).Name, ())).bind fun t5 => (if (v2 ++ t5).length * 16 ≤ 140737488355328 then Lr07_routineNames_8 s k x0 (Lr07_routineNames_3 s k x0 j3) k (v0) (v1) (0) ((v0.getD v1.toNat dd_TRoutine).Marks_Before) ((v0.getD v1.toNat dd_TRoutine).Marks_Trail) ((v0.getD v1.toNat dd_TRoutine).Name) ((v0.getD v1.toNat dd_TRoutine).Result) ((v0.getD v1.toNat dd_TRoutine).Params) ((v0.getD v1.toNat dd_TRoutine).Vars) ((v0.getD v1.toNat dd_TRoutine).Inner) ((v0.getD v1.toNat dd_TRoutine).Body) ((v0.getD v1.toNat dd_TRoutine).End) (v2 ++ t5) else none)) else none) else none) else some (v2))
def B_r07_routineNames (s : Fam) (k : Nat) (x0 : List TRoutine) : Option (List ByteArray) := Lr07_routineNames_3 s k x0 k (x0) (0) ([])
theorem Lr07_routineNames_8_eq (s : Fam) (k : Nat) (x0 : List TRoutine) (j3 : Nat) (r3 : List TRoutine → Int → List ByteArray → Option (List ByteArray)) (h3 : ∀ (v0 : List TRoutine) (v1 : Int) (v2 : List ByteArray), (loopGo EE (sp s) h_r07_routineNames co_r07_routineNames [] k Tryz.f17 3 [] j3 ({ tmps := ofL AV.any [(0, AV.c (CV.d (DV.sl 90 v0))), (3, AV.c (CV.own 3 0)), (4, AV.c (CV.d (DV.lit (Go.Value.int Go.IntKind.i64 v1))))], boxes := ofL Option.none [], objs := ofL Option.none [(3, Option.some { ver := 0, t := 9, xs := v2 : Obj II })], fxs := ofL Option.none [] : AS II })).run = (r3 v0 v1 v2).map rc_r07_routineNames.enc) : ∀ (j8 : Nat) (uv0 : List TRoutine) (uv1 : Int) (uv2 : Int) (uv3 : List ByteArray) (uv4 : List ByteArray) (uv5 : ByteArray) (uv6 : Int) (uv7 : List TParam) (uv8 : List TVar) (uv9 : List TRoutine) (uv10 : List TStmt) (uv11 : List ByteArray) (uv12 : List ByteArray), (loopGo EE (sp s) h_r07_routineNames co_r07_routineNames [] k Tryz.f17 8 [j3] j8 ({ tmps := ofL AV.any [(0, AV.c (CV.d (DV.sl 90 uv0))), (3, AV.c (CV.own 3 0)), (4, AV.c (CV.d (DV.lit (Go.Value.int Go.IntKind.i64 uv1)))), (5, AV.c (CV.ptr 5 0)), (6, AV.c (CV.d (DV.lit (Go.Value.int Go.IntKind.i64 uv2))))], boxes := ofL Option.none [(5, Option.some [CV.d (DV.sl 9 uv3), CV.d (DV.sl 9 uv4), CV.d (DV.lit (Go.Value.string uv5)), CV.d (DV.lit (Go.Value.int Go.IntKind.i64 uv6)), CV.d (DV.sl 92 uv7), CV.d (DV.sl 56 uv8), CV.d (DV.sl 90 uv9), CV.d (DV.sl 97 uv10), CV.d (DV.sl 9 uv11)])], objs := ofL Option.none [(3, Option.some { ver := 0, t := 9, xs := uv12 : Obj II }), (1099511648256, Option.none), (1099511648257, Option.none), (1099511648260, Option.none), (1099511648261, Option.none), (1099511648262, Option.none), (1099511648263, Option.none), (1099511648264, Option.none)], fxs := ofL Option.none [(5, Option.none)] : AS II })).run = (Lr07_routineNames_8 s k x0 r3 j8 uv0 uv1 uv2 uv3 uv4 uv5 uv6 uv7 uv8 uv9 uv10 uv11 uv12).map rc_r07_routineNames.enc := by
  intro j8
  induction j8 with
  | zero => intros; rfl
  | succ j8 ih =>
    intros
    simp only [Lr07_routineNames_8, map_ite, map_bindO, map_someO, map_noneO, ← ih, ← h3]
    kernel_rfl
theorem Lr07_routineNames_3_eq (s : Fam) (k : Nat) (x0 : List TRoutine) : ∀ (j3 : Nat) (v0 : List TRoutine) (v1 : Int) (v2 : List ByteArray), (loopGo EE (sp s) h_r07_routineNames co_r07_routineNames [] k Tryz.f17 3 [] j3 ({ tmps := ofL AV.any [(0, AV.c (CV.d (DV.sl 90 v0))), (3, AV.c (CV.own 3 0)), (4, AV.c (CV.d (DV.lit (Go.Value.int Go.IntKind.i64 v1))))], boxes := ofL Option.none [], objs := ofL Option.none [(3, Option.some { ver := 0, t := 9, xs := v2 : Obj II })], fxs := ofL Option.none [] : AS II })).run = (Lr07_routineNames_3 s k x0 j3 v0 v1 v2).map rc_r07_routineNames.enc := by
  intro j3
  induction j3 with
  | zero => intros; rfl
  | succ j3 ih =>
    have q0 := Lr07_routineNames_8_eq s k x0 j3 (Lr07_routineNames_3 s k x0 j3) ih
    intros
    simp only [Lr07_routineNames_3, map_ite, map_bindO, map_someO, map_noneO, ← ih, ← q0]
    kernel_rfl
theorem e_r07_routineNames (s : Fam) (k : Nat) (x : a_r07_routineNames) : (evFunC EE (sp s) h_r07_routineNames co_r07_routineNames k Tryz.f17 (c_r07_routineNames.enc x)).run = (B_r07_routineNames s k x.1).map rc_r07_routineNames.enc := by
  simp only [B_r07_routineNames, map_ite, map_bindO, map_someO, map_noneO, ← Lr07_routineNames_3_eq]
  kernel_rfl
-- 37 nodes
def Lr07_stmtNames_8 (s : Fam) (k : Nat) (x0 : List TStmt) (r3 : List TStmt → Int → List ByteArray → Option (List ByteArray)) : Nat → List TStmt → Int → Int → List ByteArray → Option (List ByteArray)
  | 0, _, _, _, _ => none
  | j8 + 1, uv0, uv1, uv2, uv3 => (if 0 ≤ uv1 then (if uv1 < (↑uv0.length : Int) then (if decide (uv2 < (↑(uv0.getD uv1.toNat dd_TStmt).E.length : Int)) = Bool.true then (if 0 ≤ uv1 then (if uv1 < (↑uv0.length : Int) then (if 0 ≤ uv2 then (if uv2 < (↑(uv0.getD uv1.toNat dd_TStmt).E.length : Int) then ((s.f_r07_ExprNames (((uv0.getD uv1.toNat dd_TStmt).E.getD uv2.toNat dd_TExpr).re, ())).bind fun t19 => (if (uv3 ++ t19).length * 16 ≤ 140737488355328 then Lr07_stmtNames_8 s k x0 r3 j8 (uv0) (uv1) (Go.IntKind.i64.wrap (uv2 + 1)) (uv3 ++ t19) else none)) else none) else none) else none) else none) else (if 0 ≤ uv1 then (if uv1 < (↑uv0.length : Int) then ((s.f_r07_stmtNames ((uv0.getD uv1.toNat dd_TStmt).Body, ())).bind fun t29 => (if (uv3 ++ t29).length * 16 ≤ 140737488355328 then (if 0 ≤ uv1 then (if uv1 < (↑uv0.length : Int) then ((s.f_r07_stmtNames ((uv0.getD uv1.toNat dd_TStmt).Else, ())).bind fun t33 => (if (uv3 ++ t29 ++ t33).length * 16 ≤ 140737488355328 then r3 (uv0) (Go.IntKind.i64.wrap (uv1 + 1)) (uv3 ++ t29 ++ t33) else none)) else none) else none) else none)) else none) else none)) else none) else none)
def Lr07_stmtNames_3 (s : Fam) (k : Nat) (x0 : List TStmt) : Nat → List TStmt → Int → List ByteArray → Option (List ByteArray)
  | 0, _, _, _ => none
  | j3 + 1, v0, v1, v2 => (if decide (v1 < (↑v0.length : Int)) = Bool.true then (if 0 ≤ v1 then (if v1 < (↑v0.length : Int) then ((s.f_r07_Parts ((v0.getD v1.toNat dd_TStmt).Name, ())).bind fun t5 => (if (v2 ++ t5).length * 16 ≤ 140737488355328 then (if 0 ≤ v1 then (if v1 < (↑v0.length : Int) then ((s.f_r07_ExprNames ((v0.getD v1.toNat dd_TStmt).sub_P, ())).bind fun t9 => (if (v2 ++ t5 ++ t9).length * 16 ≤ 140737488355328 then Lr07_stmtNames_8 s k x0 (Lr07_stmtNames_3 s k x0 j3) k (v0) (v1) (0) (v2 ++ t5 ++ t9) else none)) else none) else none) else none)) else none) else none) else some (v2))
def B_r07_stmtNames (s : Fam) (k : Nat) (x0 : List TStmt) : Option (List ByteArray) := Lr07_stmtNames_3 s k x0 k (x0) (0) ([])
theorem Lr07_stmtNames_8_eq (s : Fam) (k : Nat) (x0 : List TStmt) (j3 : Nat) (r3 : List TStmt → Int → List ByteArray → Option (List ByteArray)) (h3 : ∀ (v0 : List TStmt) (v1 : Int) (v2 : List ByteArray), (loopGo EE (sp s) h_r07_stmtNames co_r07_stmtNames [] k Tryz.f18 3 [] j3 ({ tmps := ofL AV.any [(0, AV.c (CV.d (DV.sl 97 v0))), (3, AV.c (CV.own 3 0)), (4, AV.c (CV.d (DV.lit (Go.Value.int Go.IntKind.i64 v1))))], boxes := ofL Option.none [], objs := ofL Option.none [(3, Option.some { ver := 0, t := 9, xs := v2 : Obj II })], fxs := ofL Option.none [] : AS II })).run = (r3 v0 v1 v2).map rc_r07_stmtNames.enc) : ∀ (j8 : Nat) (uv0 : List TStmt) (uv1 : Int) (uv2 : Int) (uv3 : List ByteArray), (loopGo EE (sp s) h_r07_stmtNames co_r07_stmtNames [] k Tryz.f18 8 [j3] j8 ({ tmps := ofL AV.any [(0, AV.c (CV.d (DV.sl 97 uv0))), (3, AV.c (CV.own 3 0)), (4, AV.c (CV.d (DV.lit (Go.Value.int Go.IntKind.i64 uv1)))), (5, AV.c (CV.d (DV.lit (Go.Value.int Go.IntKind.i64 uv2))))], boxes := ofL Option.none [], objs := ofL Option.none [(3, Option.some { ver := 0, t := 9, xs := uv3 : Obj II })], fxs := ofL Option.none [] : AS II })).run = (Lr07_stmtNames_8 s k x0 r3 j8 uv0 uv1 uv2 uv3).map rc_r07_stmtNames.enc := by
  intro j8
  induction j8 with
  | zero => intros; rfl
  | succ j8 ih =>
    intros
    simp only [Lr07_stmtNames_8, map_ite, map_bindO, map_someO, map_noneO, ← ih, ← h3]
    kernel_rfl
theorem Lr07_stmtNames_3_eq (s : Fam) (k : Nat) (x0 : List TStmt) : ∀ (j3 : Nat) (v0 : List TStmt) (v1 : Int) (v2 : List ByteArray), (loopGo EE (sp s) h_r07_stmtNames co_r07_stmtNames [] k Tryz.f18 3 [] j3 ({ tmps := ofL AV.any [(0, AV.c (CV.d (DV.sl 97 v0))), (3, AV.c (CV.own 3 0)), (4, AV.c (CV.d (DV.lit (Go.Value.int Go.IntKind.i64 v1))))], boxes := ofL Option.none [], objs := ofL Option.none [(3, Option.some { ver := 0, t := 9, xs := v2 : Obj II })], fxs := ofL Option.none [] : AS II })).run = (Lr07_stmtNames_3 s k x0 j3 v0 v1 v2).map rc_r07_stmtNames.enc := by
  intro j3
  induction j3 with
  | zero => intros; rfl
  | succ j3 ih =>
    have q0 := Lr07_stmtNames_8_eq s k x0 j3 (Lr07_stmtNames_3 s k x0 j3) ih
    intros
    simp only [Lr07_stmtNames_3, map_ite, map_bindO, map_someO, map_noneO, ← ih, ← q0]
    kernel_rfl
theorem e_r07_stmtNames (s : Fam) (k : Nat) (x : a_r07_stmtNames) : (evFunC EE (sp s) h_r07_stmtNames co_r07_stmtNames k Tryz.f18 (c_r07_stmtNames.enc x)).run = (B_r07_stmtNames s k x.1).map rc_r07_stmtNames.enc := by
  simp only [B_r07_stmtNames, map_ite, map_bindO, map_someO, map_noneO, ← Lr07_stmtNames_3_eq]
  kernel_rfl
-- 50 nodes
def Lr04_Among_2 (s : Fam) (k : Nat) (x0 : List ByteArray) (x1 : ByteArray) : Nat → List ByteArray → ByteArray → Int → Option (Bool)
  | 0, _, _, _ => none
  | j2 + 1, v0, v1, v2 => (if decide (v2 < (↑v0.length : Int)) = Bool.true then (if 0 ≤ v2 then (if v2 < (↑v0.length : Int) then (if ((v0.getD v2.toNat { data := #[] : ByteArray }).toList == v1.toList) = Bool.true then some (Bool.true) else Lr04_Among_2 s k x0 x1 j2 (v0) (v1) (Go.IntKind.i64.wrap (v2 + 1))) else none) else none) else some (Bool.false))
def B_r04_Among (s : Fam) (k : Nat) (x0 : List ByteArray) (x1 : ByteArray) : Option (Bool) := Lr04_Among_2 s k x0 x1 k (x0) (x1) (0)
theorem Lr04_Among_2_eq (s : Fam) (k : Nat) (x0 : List ByteArray) (x1 : ByteArray) : ∀ (j2 : Nat) (v0 : List ByteArray) (v1 : ByteArray) (v2 : Int), (loopGo EE (sp s) h_r04_Among co_r04_Among [] k Tryz.f19 2 [] j2 ({ tmps := ofL AV.any [(0, AV.c (CV.d (DV.sl 9 v0))), (1, AV.c (CV.d (DV.lit (Go.Value.string v1)))), (5, AV.c (CV.d (DV.lit (Go.Value.int Go.IntKind.i64 v2))))], boxes := ofL Option.none [], objs := ofL Option.none [], fxs := ofL Option.none [] : AS II })).run = (Lr04_Among_2 s k x0 x1 j2 v0 v1 v2).map rc_r04_Among.enc := by
  intro j2
  induction j2 with
  | zero => intros; rfl
  | succ j2 ih =>
    intros
    simp only [Lr04_Among_2, map_ite, map_bindO, map_someO, map_noneO, ← ih]
    kernel_rfl
theorem e_r04_Among (s : Fam) (k : Nat) (x : a_r04_Among) : (evFunC EE (sp s) h_r04_Among co_r04_Among k Tryz.f19 (c_r04_Among.enc x)).run = (B_r04_Among s k x.1 x.2.1).map rc_r04_Among.enc := by
  simp only [B_r04_Among, map_ite, map_bindO, map_someO, map_noneO, ← Lr04_Among_2_eq]
  kernel_rfl
-- 10 nodes
def Lwords_Fresh_3 (s : Fam) (k : Nat) (x0 : ByteArray) (x1 : List ByteArray) : Nat → ByteArray → List ByteArray → ByteArray → Int → Option (ByteArray)
  | 0, _, _, _, _ => none
  | j3 + 1, v0, v1, v2, v3 => ((s.f_words_Is (0, v2, ())).bind fun t2 => (if t2 = Bool.false then ((s.f_words_Is (1, v2, ())).bind fun t4 => (if (Bool.false || t4) = Bool.false then ((s.f_slices_Contains_string (v1, v2, ())).bind fun t6 => (if (Bool.false || t6) = Bool.true then (if (↑0 : Int) ≤ if 24 < (↑v0.size : Int) then 24 else (↑v0.size : Int) then (if (if 24 < (↑v0.size : Int) then 24 else (↑v0.size : Int)) ≤ (↑v0.size : Int) then (if (↑((v0.extract (↑0 : Int).toNat (if 24 < (↑v0.size : Int) then 24 else (↑v0.size : Int)).toNat).size + { data := #[95] : ByteArray }.size) : Int) > Go.IntKind.i64.max then none else ((s.f_strconv_Itoa (v3, ())).bind fun t13 => (if (↑((v0.extract (↑0 : Int).toNat (if 24 < (↑v0.size : Int) then 24 else (↑v0.size : Int)).toNat ++ { data := #[95] : ByteArray }).size + ByteArray.size t13) : Int) > Go.IntKind.i64.max then none else Lwords_Fresh_3 s k x0 x1 j3 (v0) (v1) (v0.extract (↑0 : Int).toNat (if 24 < (↑v0.size : Int) then 24 else (↑v0.size : Int)).toNat ++ { data := #[95] : ByteArray } ++ t13) (Go.IntKind.i64.wrap (v3 + 1))))) else none) else none) else some (v2))) else (if (↑0 : Int) ≤ if 24 < (↑v0.size : Int) then 24 else (↑v0.size : Int) then (if (if 24 < (↑v0.size : Int) then 24 else (↑v0.size : Int)) ≤ (↑v0.size : Int) then (if (↑((v0.extract (↑0 : Int).toNat (if 24 < (↑v0.size : Int) then 24 else (↑v0.size : Int)).toNat).size + { data := #[95] : ByteArray }.size) : Int) > Go.IntKind.i64.max then none else ((s.f_strconv_Itoa (v3, ())).bind fun t27 => (if (↑((v0.extract (↑0 : Int).toNat (if 24 < (↑v0.size : Int) then 24 else (↑v0.size : Int)).toNat ++ { data := #[95] : ByteArray }).size + ByteArray.size t27) : Int) > Go.IntKind.i64.max then none else Lwords_Fresh_3 s k x0 x1 j3 (v0) (v1) (v0.extract (↑0 : Int).toNat (if 24 < (↑v0.size : Int) then 24 else (↑v0.size : Int)).toNat ++ { data := #[95] : ByteArray } ++ t27) (Go.IntKind.i64.wrap (v3 + 1))))) else none) else none))) else (if (↑0 : Int) ≤ if 24 < (↑v0.size : Int) then 24 else (↑v0.size : Int) then (if (if 24 < (↑v0.size : Int) then 24 else (↑v0.size : Int)) ≤ (↑v0.size : Int) then (if (↑((v0.extract (↑0 : Int).toNat (if 24 < (↑v0.size : Int) then 24 else (↑v0.size : Int)).toNat).size + { data := #[95] : ByteArray }.size) : Int) > Go.IntKind.i64.max then none else ((s.f_strconv_Itoa (v3, ())).bind fun t42 => (if (↑((v0.extract (↑0 : Int).toNat (if 24 < (↑v0.size : Int) then 24 else (↑v0.size : Int)).toNat ++ { data := #[95] : ByteArray }).size + ByteArray.size t42) : Int) > Go.IntKind.i64.max then none else Lwords_Fresh_3 s k x0 x1 j3 (v0) (v1) (v0.extract (↑0 : Int).toNat (if 24 < (↑v0.size : Int) then 24 else (↑v0.size : Int)).toNat ++ { data := #[95] : ByteArray } ++ t42) (Go.IntKind.i64.wrap (v3 + 1))))) else none) else none)))
def B_words_Fresh (s : Fam) (k : Nat) (x0 : ByteArray) (x1 : List ByteArray) : Option (ByteArray) := Lwords_Fresh_3 s k x0 x1 k (x0) (x1) (x0) (1)
theorem Lwords_Fresh_3_eq (s : Fam) (k : Nat) (x0 : ByteArray) (x1 : List ByteArray) : ∀ (j3 : Nat) (v0 : ByteArray) (v1 : List ByteArray) (v2 : ByteArray) (v3 : Int), (loopGo EE (sp s) h_words_Fresh co_words_Fresh [] k Tryz.f27 3 [] j3 ({ tmps := ofL AV.any [(0, AV.c (CV.d (DV.lit (Go.Value.string v0)))), (1, AV.c (CV.d (DV.sl 9 v1))), (5, AV.c (CV.d (DV.lit (Go.Value.string v2)))), (6, AV.c (CV.d (DV.lit (Go.Value.int Go.IntKind.i64 v3))))], boxes := ofL Option.none [], objs := ofL Option.none [], fxs := ofL Option.none [] : AS II })).run = (Lwords_Fresh_3 s k x0 x1 j3 v0 v1 v2 v3).map rc_words_Fresh.enc := by
  intro j3
  induction j3 with
  | zero => intros; rfl
  | succ j3 ih =>
    intros
    simp only [Lwords_Fresh_3, map_ite, map_bindO, map_someO, map_noneO, ← ih]
    kernel_rfl
theorem e_words_Fresh (s : Fam) (k : Nat) (x : a_words_Fresh) : (evFunC EE (sp s) h_words_Fresh co_words_Fresh k Tryz.f27 (c_words_Fresh.enc x)).run = (B_words_Fresh s k x.1 x.2.1).map rc_words_Fresh.enc := by
  simp only [B_words_Fresh, map_ite, map_bindO, map_someO, map_noneO, ← Lwords_Fresh_3_eq]
  kernel_rfl
-- 47 nodes
def B_r04_Is (s : Fam) (k : Nat) (x0 : Int) (x1 : ByteArray) : Option (Bool) := ((s.f_r04_All (x0, ())).bind fun t1 => ((s.f_r04_Among (t1, x1, ())).bind fun t2 => some (t2)))
theorem e_r04_Is (s : Fam) (k : Nat) (x : a_r04_Is) : (evFunC EE (sp s) h_r04_Is co_r04_Is k Tryz.f29 (c_r04_Is.enc x)).run = (B_r04_Is s k x.1 x.2.1).map rc_r04_Is.enc := by
  simp only [B_r04_Is, map_ite, map_bindO, map_someO, map_noneO]
  kernel_rfl
-- 3 nodes
def B_r07_Name (s : Fam) (k : Nat) (x0 : Int) (x1 : ByteArray) : Option (Bool) := ((s.f_r04_Check (x1, ())).bind fun t1 => (if (t1 == 0) = Bool.true then ((s.f_r04_Is (x0, x1, ())).bind fun t3 => some (Bool.true && !t3)) else some (Bool.false)))
theorem e_r07_Name (s : Fam) (k : Nat) (x : a_r07_Name) : (evFunC EE (sp s) h_r07_Name co_r07_Name k Tryz.f36 (c_r07_Name.enc x)).run = (B_r07_Name s k x.1 x.2.1).map rc_r07_Name.enc := by
  simp only [B_r07_Name, map_ite, map_bindO, map_someO, map_noneO]
  kernel_rfl
-- 7 nodes
def Lr07_notes_2 (s : Fam) (k : Nat) (x0 : List ByteArray) : Nat → List ByteArray → Int → Option (Bool)
  | 0, _, _ => none
  | j2 + 1, v0, v1 => (if decide (v1 < (↑v0.length : Int)) = Bool.true then (if 0 ≤ v1 then (if v1 < (↑v0.length : Int) then ((s.f_r02_Check (v0.getD v1.toNat { data := #[] : ByteArray }, ())).bind fun t5 => (if (t5 != 0) = Bool.true then some (Bool.false) else Lr07_notes_2 s k x0 j2 (v0) (Go.IntKind.i64.wrap (v1 + 1)))) else none) else none) else some (decide ((↑v0.length : Int) ≤ 512)))
def B_r07_notes (s : Fam) (k : Nat) (x0 : List ByteArray) : Option (Bool) := Lr07_notes_2 s k x0 k (x0) (0)
theorem Lr07_notes_2_eq (s : Fam) (k : Nat) (x0 : List ByteArray) : ∀ (j2 : Nat) (v0 : List ByteArray) (v1 : Int), (loopGo EE (sp s) h_r07_notes co_r07_notes [] k Tryz.f37 2 [] j2 ({ tmps := ofL AV.any [(0, AV.c (CV.d (DV.sl 9 v0))), (3, AV.c (CV.d (DV.lit (Go.Value.int Go.IntKind.i64 v1))))], boxes := ofL Option.none [], objs := ofL Option.none [], fxs := ofL Option.none [] : AS II })).run = (Lr07_notes_2 s k x0 j2 v0 v1).map rc_r07_notes.enc := by
  intro j2
  induction j2 with
  | zero => intros; rfl
  | succ j2 ih =>
    intros
    simp only [Lr07_notes_2, map_ite, map_bindO, map_someO, map_noneO, ← ih]
    kernel_rfl
theorem e_r07_notes (s : Fam) (k : Nat) (x : a_r07_notes) : (evFunC EE (sp s) h_r07_notes co_r07_notes k Tryz.f37 (c_r07_notes.enc x)).run = (B_r07_notes s k x.1).map rc_r07_notes.enc := by
  simp only [B_r07_notes, map_ite, map_bindO, map_someO, map_noneO, ← Lr07_notes_2_eq]
  kernel_rfl
-- 11 nodes
def B_r07_marks (s : Fam) (k : Nat) (x0 : TMarks) : Option (Bool) := ((s.f_r07_notes (x0.Before, ())).bind fun t1 => (if t1 = Bool.true then ((s.f_r07_notes (x0.Trail, ())).bind fun t3 => some (Bool.true && t3)) else some (Bool.false)))
theorem e_r07_marks (s : Fam) (k : Nat) (x : a_r07_marks) : (evFunC EE (sp s) h_r07_marks co_r07_marks k Tryz.f38 (c_r07_marks.enc x)).run = (B_r07_marks s k x.1).map rc_r07_marks.enc := by
  simp only [B_r07_marks, map_ite, map_bindO, map_someO, map_noneO]
  kernel_rfl
-- 6 nodes
def Lr07_vars_2 (s : Fam) (k : Nat) (x0 : Int) (x1 : List TVar) : Nat → Int → List TVar → Int → Option (Bool)
  | 0, _, _, _ => none
  | j2 + 1, v0, v1, v2 => (if decide (v2 < (↑v1.length : Int)) = Bool.true then (if 0 ≤ v2 then (if v2 < (↑v1.length : Int) then ((s.f_r07_marks ((v1.getD v2.toNat dd_TVar).sub_Marks, ())).bind fun t5 => (if (!t5) = Bool.false then (if 0 ≤ v2 then (if v2 < (↑v1.length : Int) then ((s.f_r07_Name (v0, (v1.getD v2.toNat dd_TVar).Name, ())).bind fun t10 => (if (Bool.false || !t10) = Bool.false then (if 0 ≤ v2 then (if v2 < (↑v1.length : Int) then ((s.f_r07_Type (v0, (v1.getD v2.toNat dd_TVar).sub_T, ())).bind fun t15 => (if (Bool.false || !t15) = Bool.true then some (Bool.false) else Lr07_vars_2 s k x0 x1 j2 (v0) (v1) (Go.IntKind.i64.wrap (v2 + 1)))) else none) else none) else some (Bool.false))) else none) else none) else some (Bool.false))) else none) else none) else some (decide ((↑v1.length : Int) ≤ 512)))
def B_r07_vars (s : Fam) (k : Nat) (x0 : Int) (x1 : List TVar) : Option (Bool) := Lr07_vars_2 s k x0 x1 k (x0) (x1) (0)
theorem Lr07_vars_2_eq (s : Fam) (k : Nat) (x0 : Int) (x1 : List TVar) : ∀ (j2 : Nat) (v0 : Int) (v1 : List TVar) (v2 : Int), (loopGo EE (sp s) h_r07_vars co_r07_vars [] k Tryz.f39 2 [] j2 ({ tmps := ofL AV.any [(0, AV.c (CV.d (DV.lit (Go.Value.int Go.IntKind.i64 v0)))), (1, AV.c (CV.d (DV.sl 56 v1))), (5, AV.c (CV.d (DV.lit (Go.Value.int Go.IntKind.i64 v2))))], boxes := ofL Option.none [], objs := ofL Option.none [], fxs := ofL Option.none [] : AS II })).run = (Lr07_vars_2 s k x0 x1 j2 v0 v1 v2).map rc_r07_vars.enc := by
  intro j2
  induction j2 with
  | zero => intros; rfl
  | succ j2 ih =>
    intros
    simp only [Lr07_vars_2, map_ite, map_bindO, map_someO, map_noneO, ← ih]
    kernel_rfl
theorem e_r07_vars (s : Fam) (k : Nat) (x : a_r07_vars) : (evFunC EE (sp s) h_r07_vars co_r07_vars k Tryz.f39 (c_r07_vars.enc x)).run = (B_r07_vars s k x.1 x.2.1).map rc_r07_vars.enc := by
  simp only [B_r07_vars, map_ite, map_bindO, map_someO, map_noneO, ← Lr07_vars_2_eq]
  kernel_rfl
-- 45 nodes
end Go.Ev
end
section
open Go Go.Proofs
namespace Go.Ev
set_option linter.unusedVariables false
set_option linter.unusedSimpArgs false
set_option maxHeartbeats 4000000
set_option maxRecDepth 100000
def Lr07_routines_8 (s : Fam) (k : Nat) (x0 : Int) (x1 : List TRoutine) (x2 : Int) (r2 : Int → List TRoutine → Int → Int → Option (Bool)) : Nat → Int → List TRoutine → Int → Int → Int → List ByteArray → List ByteArray → ByteArray → Int → List TParam → List TVar → List TRoutine → List TStmt → List ByteArray → Option (Bool)
  | 0, _, _, _, _, _, _, _, _, _, _, _, _, _, _ => none
  | j8 + 1, uv0, uv1, uv2, uv3, uv4, uv5, uv6, uv7, uv8, uv9, uv10, uv11, uv12, uv13 => (if decide (uv4 < uv3) = Bool.true then (if 0 ≤ uv4 then (if uv4 < (↑uv1.length : Int) then (if ((uv1.getD uv4.toNat dd_TRoutine).Name.toList == uv7.toList) = Bool.true then some (Bool.false) else Lr07_routines_8 s k x0 x1 x2 r2 j8 (uv0) (uv1) (uv2) (uv3) (Go.IntKind.i64.wrap (uv4 + 1)) (uv5) (uv6) (uv7) (uv8) (uv9) (uv10) (uv11) (uv12) (uv13)) else none) else none) else (if (uv0 == 1 && decide ((↑uv11.length : Int) > 0)) = Bool.false then ((s.f_r07_params (uv0, uv9, ())).bind fun t23 => (if (Bool.false || !t23) = Bool.false then ((s.f_r07_vars (uv0, uv10, ())).bind fun t25 => (if (Bool.false || !t25) = Bool.false then ((s.f_r07_routines (uv0, uv11, Go.IntKind.i64.wrap (uv2 + 1), ())).bind fun t27 => (if (Bool.false || !t27) = Bool.false then ((s.f_r07_Stmts (uv0, uv12, 1, ())).bind fun t29 => (if (Bool.false || !t29) = Bool.true then some (Bool.false) else r2 (uv0) (uv1) (uv2) (Go.IntKind.i64.wrap (uv3 + 1)))) else some (Bool.false))) else some (Bool.false))) else some (Bool.false))) else some (Bool.false)))
def Lr07_routines_2 (s : Fam) (k : Nat) (x0 : Int) (x1 : List TRoutine) (x2 : Int) : Nat → Int → List TRoutine → Int → Int → Option (Bool)
  | 0, _, _, _, _ => none
  | j2 + 1, v0, v1, v2, v3 => (if decide (v3 < (↑v1.length : Int)) = Bool.true then (if 0 ≤ v3 then (if v3 < (↑v1.length : Int) then (if decide (v2 > 48) = Bool.false then ((s.f_r07_marks ((v1.getD v3.toNat dd_TRoutine).sub_Marks, ())).bind fun t6 => (if (Bool.false || !t6) = Bool.false then ((s.f_r07_notes ((v1.getD v3.toNat dd_TRoutine).End, ())).bind fun t8 => (if (Bool.false || !t8) = Bool.false then ((s.f_r07_Routine (v0, (v1.getD v3.toNat dd_TRoutine).Name, ())).bind fun t10 => (if (Bool.false || !t10 || decide ((v1.getD v3.toNat dd_TRoutine).Result < 0) || decide ((v1.getD v3.toNat dd_TRoutine).Result > 3)) = Bool.true then some (Bool.false) else Lr07_routines_8 s k x0 x1 x2 (Lr07_routines_2 s k x0 x1 x2 j2) k (v0) (v1) (v2) (v3) (0) ((v1.getD v3.toNat dd_TRoutine).Marks_Before) ((v1.getD v3.toNat dd_TRoutine).Marks_Trail) ((v1.getD v3.toNat dd_TRoutine).Name) ((v1.getD v3.toNat dd_TRoutine).Result) ((v1.getD v3.toNat dd_TRoutine).Params) ((v1.getD v3.toNat dd_TRoutine).Vars) ((v1.getD v3.toNat dd_TRoutine).Inner) ((v1.getD v3.toNat dd_TRoutine).Body) ((v1.getD v3.toNat dd_TRoutine).End))) else some (Bool.false))) else some (Bool.false))) else some (Bool.false)) else none) else none) else some (decide ((↑v1.length : Int) ≤ 512)))
def B_r07_routines (s : Fam) (k : Nat) (x0 : Int) (x1 : List TRoutine) (x2 : Int) : Option (Bool) := Lr07_routines_2 s k x0 x1 x2 k (x0) (x1) (x2) (0)
theorem Lr07_routines_8_eq (s : Fam) (k : Nat) (x0 : Int) (x1 : List TRoutine) (x2 : Int) (j2 : Nat) (r2 : Int → List TRoutine → Int → Int → Option (Bool)) (h2 : ∀ (v0 : Int) (v1 : List TRoutine) (v2 : Int) (v3 : Int), (loopGo EE (sp s) h_r07_routines co_r07_routines [] k Tryz.f40 2 [] j2 ({ tmps := ofL AV.any [(0, AV.c (CV.d (DV.lit (Go.Value.int Go.IntKind.i64 v0)))), (1, AV.c (CV.d (DV.sl 90 v1))), (2, AV.c (CV.d (DV.lit (Go.Value.int Go.IntKind.i64 v2)))), (7, AV.c (CV.d (DV.lit (Go.Value.int Go.IntKind.i64 v3))))], boxes := ofL Option.none [], objs := ofL Option.none [], fxs := ofL Option.none [] : AS II })).run = (r2 v0 v1 v2 v3).map rc_r07_routines.enc) : ∀ (j8 : Nat) (uv0 : Int) (uv1 : List TRoutine) (uv2 : Int) (uv3 : Int) (uv4 : Int) (uv5 : List ByteArray) (uv6 : List ByteArray) (uv7 : ByteArray) (uv8 : Int) (uv9 : List TParam) (uv10 : List TVar) (uv11 : List TRoutine) (uv12 : List TStmt) (uv13 : List ByteArray), (loopGo EE (sp s) h_r07_routines co_r07_routines [] k Tryz.f40 8 [j2] j8 ({ tmps := ofL AV.any [(0, AV.c (CV.d (DV.lit (Go.Value.int Go.IntKind.i64 uv0)))), (1, AV.c (CV.d (DV.sl 90 uv1))), (2, AV.c (CV.d (DV.lit (Go.Value.int Go.IntKind.i64 uv2)))), (7, AV.c (CV.d (DV.lit (Go.Value.int Go.IntKind.i64 uv3)))), (8, AV.c (CV.ptr 8 0)), (9, AV.c (CV.d (DV.lit (Go.Value.int Go.IntKind.i64 uv4))))], boxes := ofL Option.none [(8, Option.some [CV.d (DV.sl 9 uv5), CV.d (DV.sl 9 uv6), CV.d (DV.lit (Go.Value.string uv7)), CV.d (DV.lit (Go.Value.int Go.IntKind.i64 uv8)), CV.d (DV.sl 92 uv9), CV.d (DV.sl 56 uv10), CV.d (DV.sl 90 uv11), CV.d (DV.sl 97 uv12), CV.d (DV.sl 9 uv13)])], objs := ofL Option.none [(1099511660544, Option.none), (1099511660545, Option.none), (1099511660548, Option.none), (1099511660549, Option.none), (1099511660550, Option.none), (1099511660551, Option.none), (1099511660552, Option.none)], fxs := ofL Option.none [(8, Option.none)] : AS II })).run = (Lr07_routines_8 s k x0 x1 x2 r2 j8 uv0 uv1 uv2 uv3 uv4 uv5 uv6 uv7 uv8 uv9 uv10 uv11 uv12 uv13).map rc_r07_routines.enc := by
  intro j8
  induction j8 with
  | zero => intros; rfl
  | succ j8 ih =>
    intros
    simp only [Lr07_routines_8, map_ite, map_bindO, map_someO, map_noneO, ← ih, ← h2]
    kernel_rfl
theorem Lr07_routines_2_eq (s : Fam) (k : Nat) (x0 : Int) (x1 : List TRoutine) (x2 : Int) : ∀ (j2 : Nat) (v0 : Int) (v1 : List TRoutine) (v2 : Int) (v3 : Int), (loopGo EE (sp s) h_r07_routines co_r07_routines [] k Tryz.f40 2 [] j2 ({ tmps := ofL AV.any [(0, AV.c (CV.d (DV.lit (Go.Value.int Go.IntKind.i64 v0)))), (1, AV.c (CV.d (DV.sl 90 v1))), (2, AV.c (CV.d (DV.lit (Go.Value.int Go.IntKind.i64 v2)))), (7, AV.c (CV.d (DV.lit (Go.Value.int Go.IntKind.i64 v3))))], boxes := ofL Option.none [], objs := ofL Option.none [], fxs := ofL Option.none [] : AS II })).run = (Lr07_routines_2 s k x0 x1 x2 j2 v0 v1 v2 v3).map rc_r07_routines.enc := by
  intro j2
  induction j2 with
  | zero => intros; rfl
  | succ j2 ih =>
    have q0 := Lr07_routines_8_eq s k x0 x1 x2 j2 (Lr07_routines_2 s k x0 x1 x2 j2) ih
    intros
    simp only [Lr07_routines_2, map_ite, map_bindO, map_someO, map_noneO, ← ih, ← q0]
    kernel_rfl
theorem e_r07_routines (s : Fam) (k : Nat) (x : a_r07_routines) : (evFunC EE (sp s) h_r07_routines co_r07_routines k Tryz.f40 (c_r07_routines.enc x)).run = (B_r07_routines s k x.1 x.2.1 x.2.2.1).map rc_r07_routines.enc := by
  simp only [B_r07_routines, map_ite, map_bindO, map_someO, map_noneO, ← Lr07_routines_2_eq]
  kernel_rfl
-- 90 nodes
def Lr07_Stmts_2 (s : Fam) (k : Nat) (x0 : Int) (x1 : List TStmt) (x2 : Int) : Nat → Int → List TStmt → Int → Int → Option (Bool)
  | 0, _, _, _, _ => none
  | j2 + 1, v0, v1, v2, v3 => (if decide (v3 < (↑v1.length : Int)) = Bool.true then (if 0 ≤ v3 then (if v3 < (↑v1.length : Int) then ((s.f_r07_Stmt (v0, (v1.getD v3.toNat dd_TStmt).re, v2, ())).bind fun t5 => (if (!t5) = Bool.true then some (Bool.false) else Lr07_Stmts_2 s k x0 x1 x2 j2 (v0) (v1) (v2) (Go.IntKind.i64.wrap (v3 + 1)))) else none) else none) else some (decide ((↑v1.length : Int) ≤ 512)))
def B_r07_Stmts (s : Fam) (k : Nat) (x0 : Int) (x1 : List TStmt) (x2 : Int) : Option (Bool) := Lr07_Stmts_2 s k x0 x1 x2 k (x0) (x1) (x2) (0)
theorem Lr07_Stmts_2_eq (s : Fam) (k : Nat) (x0 : Int) (x1 : List TStmt) (x2 : Int) : ∀ (j2 : Nat) (v0 : Int) (v1 : List TStmt) (v2 : Int) (v3 : Int), (loopGo EE (sp s) h_r07_Stmts co_r07_Stmts [] k Tryz.f41 2 [] j2 ({ tmps := ofL AV.any [(0, AV.c (CV.d (DV.lit (Go.Value.int Go.IntKind.i64 v0)))), (1, AV.c (CV.d (DV.sl 97 v1))), (2, AV.c (CV.d (DV.lit (Go.Value.int Go.IntKind.i64 v2)))), (7, AV.c (CV.d (DV.lit (Go.Value.int Go.IntKind.i64 v3))))], boxes := ofL Option.none [], objs := ofL Option.none [], fxs := ofL Option.none [] : AS II })).run = (Lr07_Stmts_2 s k x0 x1 x2 j2 v0 v1 v2 v3).map rc_r07_Stmts.enc := by
  intro j2
  induction j2 with
  | zero => intros; rfl
  | succ j2 ih =>
    intros
    simp only [Lr07_Stmts_2, map_ite, map_bindO, map_someO, map_noneO, ← ih]
    kernel_rfl
theorem e_r07_Stmts (s : Fam) (k : Nat) (x : a_r07_Stmts) : (evFunC EE (sp s) h_r07_Stmts co_r07_Stmts k Tryz.f41 (c_r07_Stmts.enc x)).run = (B_r07_Stmts s k x.1 x.2.1 x.2.2.1).map rc_r07_Stmts.enc := by
  simp only [B_r07_Stmts, map_ite, map_bindO, map_someO, map_noneO, ← Lr07_Stmts_2_eq]
  kernel_rfl
-- 11 nodes
def Lr12_Look_recs_11 (s : Fam) (k : Nat) (x0 : Int × Int × Unit) (x1 : List TRec) (r3 : List TRec → Int → Int → Int → List Tr12_Thing → Option (List Tr12_Thing × (Int × Int × Unit) × Unit)) (r8 : List TRec → Int → Int → Int → Int → List Tr12_Thing → Option (List Tr12_Thing × (Int × Int × Unit) × Unit)) : Nat → List TRec → Int → Int → Int → Int → Int → List Tr12_Thing → Option (List Tr12_Thing × (Int × Int × Unit) × Unit)
  | 0, _, _, _, _, _, _, _ => none
  | j11 + 1, uuv0, uuv1, uuv2, uuv3, uuv4, uuv5, uuv6 => (if decide (uuv3 < uuv2) = Bool.true then (if 0 ≤ uuv1 then (if uuv1 < (↑uuv0.length : Int) then (if 0 ≤ uuv2 then (if uuv2 < (↑(uuv0.getD uuv1.toNat dd_TRec).Fields.length : Int) then (if 0 ≤ uuv1 then (if uuv1 < (↑uuv0.length : Int) then (if 0 ≤ uuv3 then (if uuv3 < (↑(uuv0.getD uuv1.toNat dd_TRec).Fields.length : Int) then (if (((uuv0.getD uuv1.toNat dd_TRec).Fields.getD uuv2.toNat dd_TField).Name.toList == ((uuv0.getD uuv1.toNat dd_TRec).Fields.getD uuv3.toNat dd_TField).Name.toList) = Bool.true then ((s.f_r12_Look_fail ((uuv4, uuv5, ()), 12, ())).bind fun t25 => Lr12_Look_recs_11 s k x0 x1 r3 r8 j11 (uuv0) (uuv1) (uuv2) (Go.IntKind.i64.wrap (uuv3 + 1)) (t25.snd.fst.fst) (t25.snd.fst.snd.fst) (uuv6)) else Lr12_Look_recs_11 s k x0 x1 r3 r8 j11 (uuv0) (uuv1) (uuv2) (Go.IntKind.i64.wrap (uuv3 + 1)) (uuv4) (uuv5) (uuv6)) else none) else none) else none) else none) else none) else none) else none) else none) else r8 (uuv0) (uuv1) (Go.IntKind.i64.wrap (uuv2 + 1)) (uuv4) (uuv5) (uuv6))
def Lr12_Look_recs_8 (s : Fam) (k : Nat) (x0 : Int × Int × Unit) (x1 : List TRec) (r3 : List TRec → Int → Int → Int → List Tr12_Thing → Option (List Tr12_Thing × (Int × Int × Unit) × Unit)) : Nat → List TRec → Int → Int → Int → Int → List Tr12_Thing → Option (List Tr12_Thing × (Int × Int × Unit) × Unit)
  | 0, _, _, _, _, _, _ => none
  | j8 + 1, uv0, uv1, uv2, uv3, uv4, uv5 => (if 0 ≤ uv1 then (if uv1 < (↑uv0.length : Int) then (if decide (uv2 < (↑(uv0.getD uv1.toNat dd_TRec).Fields.length : Int)) = Bool.true then Lr12_Look_recs_11 s k x0 x1 r3 (Lr12_Look_recs_8 s k x0 x1 r3 j8) k (uv0) (uv1) (uv2) (0) (uv3) (uv4) (uv5) else (if 0 ≤ uv1 then (if uv1 < (↑uv0.length : Int) then (if 0 ≤ uv1 then (if uv1 < (↑uv0.length : Int) then ((s.f_r12_with (uv5, { Name := (uv0.getD uv1.toNat dd_TRec).Name, Kind := 1, Rec_Marks_Before := (uv0.getD uv1.toNat dd_TRec).Marks_Before, Rec_Marks_Trail := (uv0.getD uv1.toNat dd_TRec).Marks_Trail, Rec_Name := (uv0.getD uv1.toNat dd_TRec).Name, Rec_Fields := (uv0.getD uv1.toNat dd_TRec).Fields, Rec_End := (uv0.getD uv1.toNat dd_TRec).End, R_Marks_Before := [], R_Marks_Trail := [], R_Name := { data := #[] : ByteArray }, R_Result := 0, R_Params := [], R_Vars := [], R_Inner := [], R_Body := [], R_End := [], T_Kind := 0, T_Size := 0, T_Name := { data := #[] : ByteArray } : Tr12_Thing }, ())).bind fun t41 => r3 (uv0) (Go.IntKind.i64.wrap (uv1 + 1)) (uv3) (uv4) (t41)) else none) else none) else none) else none)) else none) else none)
def Lr12_Look_recs_3 (s : Fam) (k : Nat) (x0 : Int × Int × Unit) (x1 : List TRec) : Nat → List TRec → Int → Int → Int → List Tr12_Thing → Option (List Tr12_Thing × (Int × Int × Unit) × Unit)
  | 0, _, _, _, _, _ => none
  | j3 + 1, v0, v1, v2, v3, v4 => (if decide (v1 < (↑v0.length : Int)) = Bool.true then ((s.f_r12_Look_next ((v2, v3, ()), ())).bind fun t3 => (if (Bool.true && t3.fst) = Bool.true then (if 0 ≤ v1 then (if v1 < (↑v0.length : Int) then ((s.f_r12_find (v4, (v0.getD v1.toNat dd_TRec).Name, ())).bind fun t7 => (if (t7.Kind != 0) = Bool.true then ((s.f_r12_Look_fail ((t3.snd.fst.fst, t3.snd.fst.snd.fst, ()), 12, ())).bind fun t9 => Lr12_Look_recs_8 s k x0 x1 (Lr12_Look_recs_3 s k x0 x1 j3) k (v0) (v1) (0) (t9.snd.fst.fst) (t9.snd.fst.snd.fst) (v4)) else Lr12_Look_recs_8 s k x0 x1 (Lr12_Look_recs_3 s k x0 x1 j3) k (v0) (v1) (0) (t3.snd.fst.fst) (t3.snd.fst.snd.fst) (v4))) else none) else none) else some ((v4, (t3.snd.fst.fst, t3.snd.fst.snd.fst, ()), ())))) else some ((v4, (v2, v3, ()), ())))
def B_r12_Look_recs (s : Fam) (k : Nat) (x0 : Int × Int × Unit) (x1 : List TRec) : Option (List Tr12_Thing × (Int × Int × Unit) × Unit) := Lr12_Look_recs_3 s k x0 x1 k (x1) (0) (x0.fst) (x0.snd.fst) ([])
theorem Lr12_Look_recs_11_eq (s : Fam) (k : Nat) (x0 : Int × Int × Unit) (x1 : List TRec) (j3 : Nat) (j8 : Nat) (r3 : List TRec → Int → Int → Int → List Tr12_Thing → Option (List Tr12_Thing × (Int × Int × Unit) × Unit)) (r8 : List TRec → Int → Int → Int → Int → List Tr12_Thing → Option (List Tr12_Thing × (Int × Int × Unit) × Unit)) (h3 : ∀ (v0 : List TRec) (v1 : Int) (v2 : Int) (v3 : Int) (v4 : List Tr12_Thing), (loopGo EE (sp s) h_r12_Look_recs co_r12_Look_recs (rootAs (unAs 1000004 (c_r12_Look_recs.enc (x0, x1, ()))).1) k Tryz.f42 3 [] j3 ({ tmps := ofL AV.any [(0, AV.c (CV.ptr 1000004 0)), (1, AV.c (CV.d (DV.sl 46 v0))), (5, AV.c (CV.own 5 0)), (6, AV.c (CV.d (DV.lit (Go.Value.int Go.IntKind.i64 v1))))], boxes := ofL Option.none [(1000004, Option.some [CV.d (DV.lit (Go.Value.int Go.IntKind.i64 v2)), CV.d (DV.lit (Go.Value.int Go.IntKind.i64 v3))])], objs := ofL Option.none [(5, Option.some { ver := 0, t := 118, xs := v4 : Obj II })], fxs := ofL Option.none [(1000004, Option.none)] : AS II })).run = (r3 v0 v1 v2 v3 v4).map rc_r12_Look_recs.enc) (h8 : ∀ (uv0 : List TRec) (uv1 : Int) (uv2 : Int) (uv3 : Int) (uv4 : Int) (uv5 : List Tr12_Thing), (loopGo EE (sp s) h_r12_Look_recs co_r12_Look_recs (rootAs (unAs 1000004 (c_r12_Look_recs.enc (x0, x1, ()))).1) k Tryz.f42 8 [j3] j8 ({ tmps := ofL AV.any [(0, AV.c (CV.ptr 1000004 0)), (1, AV.c (CV.d (DV.sl 46 uv0))), (5, AV.c (CV.own 5 0)), (6, AV.c (CV.d (DV.lit (Go.Value.int Go.IntKind.i64 uv1)))), (7, AV.c (CV.d (DV.lit (Go.Value.int Go.IntKind.i64 uv2))))], boxes := ofL Option.none [(1000004, Option.some [CV.d (DV.lit (Go.Value.int Go.IntKind.i64 uv3)), CV.d (DV.lit (Go.Value.int Go.IntKind.i64 uv4))])], objs := ofL Option.none [(5, Option.some { ver := 0, t := 118, xs := uv5 : Obj II })], fxs := ofL Option.none [(1000004, Option.none)] : AS II })).run = (r8 uv0 uv1 uv2 uv3 uv4 uv5).map rc_r12_Look_recs.enc) : ∀ (j11 : Nat) (uuv0 : List TRec) (uuv1 : Int) (uuv2 : Int) (uuv3 : Int) (uuv4 : Int) (uuv5 : Int) (uuv6 : List Tr12_Thing), (loopGo EE (sp s) h_r12_Look_recs co_r12_Look_recs (rootAs (unAs 1000004 (c_r12_Look_recs.enc (x0, x1, ()))).1) k Tryz.f42 11 [j3, j8] j11 ({ tmps := ofL AV.any [(0, AV.c (CV.ptr 1000004 0)), (1, AV.c (CV.d (DV.sl 46 uuv0))), (5, AV.c (CV.own 5 0)), (6, AV.c (CV.d (DV.lit (Go.Value.int Go.IntKind.i64 uuv1)))), (7, AV.c (CV.d (DV.lit (Go.Value.int Go.IntKind.i64 uuv2)))), (8, AV.c (CV.d (DV.lit (Go.Value.int Go.IntKind.i64 uuv3))))], boxes := ofL Option.none [(1000004, Option.some [CV.d (DV.lit (Go.Value.int Go.IntKind.i64 uuv4)), CV.d (DV.lit (Go.Value.int Go.IntKind.i64 uuv5))])], objs := ofL Option.none [(5, Option.some { ver := 0, t := 118, xs := uuv6 : Obj II })], fxs := ofL Option.none [(1000004, Option.none)] : AS II })).run = (Lr12_Look_recs_11 s k x0 x1 r3 r8 j11 uuv0 uuv1 uuv2 uuv3 uuv4 uuv5 uuv6).map rc_r12_Look_recs.enc := by
  intro j11
  induction j11 with
  | zero => intros; rfl
  | succ j11 ih =>
    intros
    simp only [Lr12_Look_recs_11, map_ite, map_bindO, map_someO, map_noneO, ← ih, ← h3, ← h8]
    kernel_rfl
theorem Lr12_Look_recs_8_eq (s : Fam) (k : Nat) (x0 : Int × Int × Unit) (x1 : List TRec) (j3 : Nat) (r3 : List TRec → Int → Int → Int → List Tr12_Thing → Option (List Tr12_Thing × (Int × Int × Unit) × Unit)) (h3 : ∀ (v0 : List TRec) (v1 : Int) (v2 : Int) (v3 : Int) (v4 : List Tr12_Thing), (loopGo EE (sp s) h_r12_Look_recs co_r12_Look_recs (rootAs (unAs 1000004 (c_r12_Look_recs.enc (x0, x1, ()))).1) k Tryz.f42 3 [] j3 ({ tmps := ofL AV.any [(0, AV.c (CV.ptr 1000004 0)), (1, AV.c (CV.d (DV.sl 46 v0))), (5, AV.c (CV.own 5 0)), (6, AV.c (CV.d (DV.lit (Go.Value.int Go.IntKind.i64 v1))))], boxes := ofL Option.none [(1000004, Option.some [CV.d (DV.lit (Go.Value.int Go.IntKind.i64 v2)), CV.d (DV.lit (Go.Value.int Go.IntKind.i64 v3))])], objs := ofL Option.none [(5, Option.some { ver := 0, t := 118, xs := v4 : Obj II })], fxs := ofL Option.none [(1000004, Option.none)] : AS II })).run = (r3 v0 v1 v2 v3 v4).map rc_r12_Look_recs.enc) : ∀ (j8 : Nat) (uv0 : List TRec) (uv1 : Int) (uv2 : Int) (uv3 : Int) (uv4 : Int) (uv5 : List Tr12_Thing), (loopGo EE (sp s) h_r12_Look_recs co_r12_Look_recs (rootAs (unAs 1000004 (c_r12_Look_recs.enc (x0, x1, ()))).1) k Tryz.f42 8 [j3] j8 ({ tmps := ofL AV.any [(0, AV.c (CV.ptr 1000004 0)), (1, AV.c (CV.d (DV.sl 46 uv0))), (5, AV.c (CV.own 5 0)), (6, AV.c (CV.d (DV.lit (Go.Value.int Go.IntKind.i64 uv1)))), (7, AV.c (CV.d (DV.lit (Go.Value.int Go.IntKind.i64 uv2))))], boxes := ofL Option.none [(1000004, Option.some [CV.d (DV.lit (Go.Value.int Go.IntKind.i64 uv3)), CV.d (DV.lit (Go.Value.int Go.IntKind.i64 uv4))])], objs := ofL Option.none [(5, Option.some { ver := 0, t := 118, xs := uv5 : Obj II })], fxs := ofL Option.none [(1000004, Option.none)] : AS II })).run = (Lr12_Look_recs_8 s k x0 x1 r3 j8 uv0 uv1 uv2 uv3 uv4 uv5).map rc_r12_Look_recs.enc := by
  intro j8
  induction j8 with
  | zero => intros; rfl
  | succ j8 ih =>
    have q0 := Lr12_Look_recs_11_eq s k x0 x1 j3 j8 r3 (Lr12_Look_recs_8 s k x0 x1 r3 j8) h3 ih
    intros
    simp only [Lr12_Look_recs_8, map_ite, map_bindO, map_someO, map_noneO, ← ih, ← h3, ← q0]
    kernel_rfl
theorem Lr12_Look_recs_3_eq (s : Fam) (k : Nat) (x0 : Int × Int × Unit) (x1 : List TRec) : ∀ (j3 : Nat) (v0 : List TRec) (v1 : Int) (v2 : Int) (v3 : Int) (v4 : List Tr12_Thing), (loopGo EE (sp s) h_r12_Look_recs co_r12_Look_recs (rootAs (unAs 1000004 (c_r12_Look_recs.enc (x0, x1, ()))).1) k Tryz.f42 3 [] j3 ({ tmps := ofL AV.any [(0, AV.c (CV.ptr 1000004 0)), (1, AV.c (CV.d (DV.sl 46 v0))), (5, AV.c (CV.own 5 0)), (6, AV.c (CV.d (DV.lit (Go.Value.int Go.IntKind.i64 v1))))], boxes := ofL Option.none [(1000004, Option.some [CV.d (DV.lit (Go.Value.int Go.IntKind.i64 v2)), CV.d (DV.lit (Go.Value.int Go.IntKind.i64 v3))])], objs := ofL Option.none [(5, Option.some { ver := 0, t := 118, xs := v4 : Obj II })], fxs := ofL Option.none [(1000004, Option.none)] : AS II })).run = (Lr12_Look_recs_3 s k x0 x1 j3 v0 v1 v2 v3 v4).map rc_r12_Look_recs.enc := by
  intro j3
  induction j3 with
  | zero => intros; rfl
  | succ j3 ih =>
    have q0 := Lr12_Look_recs_8_eq s k x0 x1 j3 (Lr12_Look_recs_3 s k x0 x1 j3) ih
    intros
    simp only [Lr12_Look_recs_3, map_ite, map_bindO, map_someO, map_noneO, ← ih, ← q0]
    kernel_rfl
theorem e_r12_Look_recs (s : Fam) (k : Nat) (x : a_r12_Look_recs) : (evFunC EE (sp s) h_r12_Look_recs co_r12_Look_recs k Tryz.f42 (c_r12_Look_recs.enc x)).run = (B_r12_Look_recs s k x.1 x.2.1).map rc_r12_Look_recs.enc := by
  simp only [B_r12_Look_recs, map_ite, map_bindO, map_someO, map_noneO, ← Lr12_Look_recs_3_eq]
  kernel_rfl
-- 55 nodes
def Lr12_Look_vars_7 (s : Fam) (k : Nat) (x0 : Int × Int × Unit) (x1 : List Tr12_Thing) (x2 : List TVar) (x3 : List TRoutine) (r2 : List Tr12_Thing → List TVar → List TRoutine → Int → Int → Int → Option (List Tr12_Thing × (Int × Int × Unit) × Unit)) : Nat → List Tr12_Thing → List TVar → List TRoutine → Int → Int → Int → Int → Option (List Tr12_Thing × (Int × Int × Unit) × Unit)
  | 0, _, _, _, _, _, _, _ => none
  | j7 + 1, uv0, uv1, uv2, uv3, uv4, uv5, uv6 => (if decide (uv4 < (↑uv2.length : Int)) = Bool.true then (if 0 ≤ uv4 then (if uv4 < (↑uv2.length : Int) then (if 0 ≤ uv3 then (if uv3 < (↑uv1.length : Int) then (if ((uv2.getD uv4.toNat dd_TRoutine).Name.toList == (uv1.getD uv3.toNat dd_TVar).Name.toList) = Bool.true then ((s.f_r12_Look_fail ((uv5, uv6, ()), 12, ())).bind fun t17 => Lr12_Look_vars_7 s k x0 x1 x2 x3 r2 j7 (uv0) (uv1) (uv2) (uv3) (Go.IntKind.i64.wrap (uv4 + 1)) (t17.snd.fst.fst) (t17.snd.fst.snd.fst)) else Lr12_Look_vars_7 s k x0 x1 x2 x3 r2 j7 (uv0) (uv1) (uv2) (uv3) (Go.IntKind.i64.wrap (uv4 + 1)) (uv5) (uv6)) else none) else none) else none) else none) else (if 0 ≤ uv3 then (if uv3 < (↑uv1.length : Int) then ((s.f_r12_Look_typ ((uv5, uv6, ()), uv0, (uv1.getD uv3.toNat dd_TVar).sub_T, ())).bind fun t26 => (if 0 ≤ uv3 then (if uv3 < (↑uv1.length : Int) then (if 0 ≤ uv3 then (if uv3 < (↑uv1.length : Int) then ((s.f_r12_with (uv0, { Name := (uv1.getD uv3.toNat dd_TVar).Name, Kind := 3, Rec_Marks_Before := [], Rec_Marks_Trail := [], Rec_Name := { data := #[] : ByteArray }, Rec_Fields := [], Rec_End := [], R_Marks_Before := [], R_Marks_Trail := [], R_Name := { data := #[] : ByteArray }, R_Result := 0, R_Params := [], R_Vars := [], R_Inner := [], R_Body := [], R_End := [], T_Kind := (uv1.getD uv3.toNat dd_TVar).T_Kind, T_Size := (uv1.getD uv3.toNat dd_TVar).T_Size, T_Name := (uv1.getD uv3.toNat dd_TVar).T_Name : Tr12_Thing }, ())).bind fun t31 => r2 (t31) (uv1) (uv2) (Go.IntKind.i64.wrap (uv3 + 1)) (t26.snd.fst.fst) (t26.snd.fst.snd.fst)) else none) else none) else none) else none)) else none) else none))
def Lr12_Look_vars_2 (s : Fam) (k : Nat) (x0 : Int × Int × Unit) (x1 : List Tr12_Thing) (x2 : List TVar) (x3 : List TRoutine) : Nat → List Tr12_Thing → List TVar → List TRoutine → Int → Int → Int → Option (List Tr12_Thing × (Int × Int × Unit) × Unit)
  | 0, _, _, _, _, _, _ => none
  | j2 + 1, v0, v1, v2, v3, v4, v5 => (if decide (v3 < (↑v1.length : Int)) = Bool.true then ((s.f_r12_Look_next ((v4, v5, ()), ())).bind fun t3 => (if (Bool.true && t3.fst) = Bool.true then (if 0 ≤ v3 then (if v3 < (↑v1.length : Int) then ((s.f_r12_find (v0, (v1.getD v3.toNat dd_TVar).Name, ())).bind fun t7 => (if (t7.Kind != 0) = Bool.true then ((s.f_r12_Look_fail ((t3.snd.fst.fst, t3.snd.fst.snd.fst, ()), 12, ())).bind fun t9 => Lr12_Look_vars_7 s k x0 x1 x2 x3 (Lr12_Look_vars_2 s k x0 x1 x2 x3 j2) k (v0) (v1) (v2) (v3) (0) (t9.snd.fst.fst) (t9.snd.fst.snd.fst)) else Lr12_Look_vars_7 s k x0 x1 x2 x3 (Lr12_Look_vars_2 s k x0 x1 x2 x3 j2) k (v0) (v1) (v2) (v3) (0) (t3.snd.fst.fst) (t3.snd.fst.snd.fst))) else none) else none) else some ((v0, (t3.snd.fst.fst, t3.snd.fst.snd.fst, ()), ())))) else some ((v0, (v4, v5, ()), ())))
def B_r12_Look_vars (s : Fam) (k : Nat) (x0 : Int × Int × Unit) (x1 : List Tr12_Thing) (x2 : List TVar) (x3 : List TRoutine) : Option (List Tr12_Thing × (Int × Int × Unit) × Unit) := Lr12_Look_vars_2 s k x0 x1 x2 x3 k (x1) (x2) (x3) (0) (x0.fst) (x0.snd.fst)
theorem Lr12_Look_vars_7_eq (s : Fam) (k : Nat) (x0 : Int × Int × Unit) (x1 : List Tr12_Thing) (x2 : List TVar) (x3 : List TRoutine) (j2 : Nat) (r2 : List Tr12_Thing → List TVar → List TRoutine → Int → Int → Int → Option (List Tr12_Thing × (Int × Int × Unit) × Unit)) (h2 : ∀ (v0 : List Tr12_Thing) (v1 : List TVar) (v2 : List TRoutine) (v3 : Int) (v4 : Int) (v5 : Int), (loopGo EE (sp s) h_r12_Look_vars co_r12_Look_vars (rootAs (unAs 1000004 (c_r12_Look_vars.enc (x0, x1, x2, x3, ()))).1) k Tryz.f43 2 [] j2 ({ tmps := ofL AV.any [(0, AV.c (CV.ptr 1000004 0)), (1, AV.c (CV.d (DV.sl 118 v0))), (2, AV.c (CV.d (DV.sl 56 v1))), (3, AV.c (CV.d (DV.sl 90 v2))), (9, AV.c (CV.d (DV.lit (Go.Value.int Go.IntKind.i64 v3))))], boxes := ofL Option.none [(1000004, Option.some [CV.d (DV.lit (Go.Value.int Go.IntKind.i64 v4)), CV.d (DV.lit (Go.Value.int Go.IntKind.i64 v5))])], objs := ofL Option.none [], fxs := ofL Option.none [(1000004, Option.none)] : AS II })).run = (r2 v0 v1 v2 v3 v4 v5).map rc_r12_Look_vars.enc) : ∀ (j7 : Nat) (uv0 : List Tr12_Thing) (uv1 : List TVar) (uv2 : List TRoutine) (uv3 : Int) (uv4 : Int) (uv5 : Int) (uv6 : Int), (loopGo EE (sp s) h_r12_Look_vars co_r12_Look_vars (rootAs (unAs 1000004 (c_r12_Look_vars.enc (x0, x1, x2, x3, ()))).1) k Tryz.f43 7 [j2] j7 ({ tmps := ofL AV.any [(0, AV.c (CV.ptr 1000004 0)), (1, AV.c (CV.d (DV.sl 118 uv0))), (2, AV.c (CV.d (DV.sl 56 uv1))), (3, AV.c (CV.d (DV.sl 90 uv2))), (9, AV.c (CV.d (DV.lit (Go.Value.int Go.IntKind.i64 uv3)))), (10, AV.c (CV.d (DV.lit (Go.Value.int Go.IntKind.i64 uv4))))], boxes := ofL Option.none [(1000004, Option.some [CV.d (DV.lit (Go.Value.int Go.IntKind.i64 uv5)), CV.d (DV.lit (Go.Value.int Go.IntKind.i64 uv6))])], objs := ofL Option.none [], fxs := ofL Option.none [(1000004, Option.none)] : AS II })).run = (Lr12_Look_vars_7 s k x0 x1 x2 x3 r2 j7 uv0 uv1 uv2 uv3 uv4 uv5 uv6).map rc_r12_Look_vars.enc := by
  intro j7
  induction j7 with
  | zero => intros; rfl
  | succ j7 ih =>
    intros
    simp only [Lr12_Look_vars_7, map_ite, map_bindO, map_someO, map_noneO, ← ih, ← h2]
    kernel_rfl
theorem Lr12_Look_vars_2_eq (s : Fam) (k : Nat) (x0 : Int × Int × Unit) (x1 : List Tr12_Thing) (x2 : List TVar) (x3 : List TRoutine) : ∀ (j2 : Nat) (v0 : List Tr12_Thing) (v1 : List TVar) (v2 : List TRoutine) (v3 : Int) (v4 : Int) (v5 : Int), (loopGo EE (sp s) h_r12_Look_vars co_r12_Look_vars (rootAs (unAs 1000004 (c_r12_Look_vars.enc (x0, x1, x2, x3, ()))).1) k Tryz.f43 2 [] j2 ({ tmps := ofL AV.any [(0, AV.c (CV.ptr 1000004 0)), (1, AV.c (CV.d (DV.sl 118 v0))), (2, AV.c (CV.d (DV.sl 56 v1))), (3, AV.c (CV.d (DV.sl 90 v2))), (9, AV.c (CV.d (DV.lit (Go.Value.int Go.IntKind.i64 v3))))], boxes := ofL Option.none [(1000004, Option.some [CV.d (DV.lit (Go.Value.int Go.IntKind.i64 v4)), CV.d (DV.lit (Go.Value.int Go.IntKind.i64 v5))])], objs := ofL Option.none [], fxs := ofL Option.none [(1000004, Option.none)] : AS II })).run = (Lr12_Look_vars_2 s k x0 x1 x2 x3 j2 v0 v1 v2 v3 v4 v5).map rc_r12_Look_vars.enc := by
  intro j2
  induction j2 with
  | zero => intros; rfl
  | succ j2 ih =>
    have q0 := Lr12_Look_vars_7_eq s k x0 x1 x2 x3 j2 (Lr12_Look_vars_2 s k x0 x1 x2 x3 j2) ih
    intros
    simp only [Lr12_Look_vars_2, map_ite, map_bindO, map_someO, map_noneO, ← ih, ← q0]
    kernel_rfl
theorem e_r12_Look_vars (s : Fam) (k : Nat) (x : a_r12_Look_vars) : (evFunC EE (sp s) h_r12_Look_vars co_r12_Look_vars k Tryz.f43 (c_r12_Look_vars.enc x)).run = (B_r12_Look_vars s k x.1 x.2.1 x.2.2.1 x.2.2.2.1).map rc_r12_Look_vars.enc := by
  simp only [B_r12_Look_vars, map_ite, map_bindO, map_someO, map_noneO, ← Lr12_Look_vars_2_eq]
  kernel_rfl
-- 45 nodes
def Lr12_Look_routines_9 (s : Fam) (k : Nat) (x0 : Int × Int × Unit) (x1 : List Tr12_Thing) (x2 : List TRoutine) (r2 : List Tr12_Thing → List TRoutine → b_r12_Visible → Int → Int → Int → Option (Unit × (Int × Int × Unit) × Unit)) : Nat → List Tr12_Thing → List TRoutine → b_r12_Visible → Int → b_r12_Visible → Int → Int → Int → List ByteArray → List ByteArray → ByteArray → Int → List TParam → List TVar → List TRoutine → List TStmt → List ByteArray → Option (Unit × (Int × Int × Unit) × Unit)
  | 0, _, _, _, _, _, _, _, _, _, _, _, _, _, _, _, _, _ => none
  | j9 + 1, uv0, uv1, uv2, uv3, uv4, uv5, uv6, uv7, uv8, uv9, uv10, uv11, uv12, uv13, uv14, uv15, uv16 => (if decide (uv5 < (↑uv12.length : Int)) = Bool.true then (if 0 ≤ uv5 then (if uv5 < (↑uv12.length : Int) then ((s.f_r12_find (uv4, (uv12.getD uv5.toNat dd_TParam).Name, ())).bind fun t15 => (if (t15.Kind != 0) = Bool.true then ((s.f_r12_Look_fail ((uv6, uv7, ()), 12, ())).bind fun t17 => (if 0 ≤ uv5 then (if uv5 < (↑uv12.length : Int) then ((s.f_r12_Look_typ ((t17.snd.fst.fst, t17.snd.fst.snd.fst, ()), uv4, (uv12.getD uv5.toNat dd_TParam).sub_T, ())).bind fun t20 => (if 0 ≤ uv5 then (if uv5 < (↑uv12.length : Int) then (if 0 ≤ uv5 then (if uv5 < (↑uv12.length : Int) then ((s.f_r12_with (uv4, { Name := (uv12.getD uv5.toNat dd_TParam).Name, Kind := 3, Rec_Marks_Before := [], Rec_Marks_Trail := [], Rec_Name := { data := #[] : ByteArray }, Rec_Fields := [], Rec_End := [], R_Marks_Before := [], R_Marks_Trail := [], R_Name := { data := #[] : ByteArray }, R_Result := 0, R_Params := [], R_Vars := [], R_Inner := [], R_Body := [], R_End := [], T_Kind := (uv12.getD uv5.toNat dd_TParam).T_Kind, T_Size := (uv12.getD uv5.toNat dd_TParam).T_Size, T_Name := (uv12.getD uv5.toNat dd_TParam).T_Name : Tr12_Thing }, ())).bind fun t25 => Lr12_Look_routines_9 s k x0 x1 x2 r2 j9 (uv0) (uv1) (uv2) (uv3) (t25) (Go.IntKind.i64.wrap (uv5 + 1)) (t20.snd.fst.fst) (t20.snd.fst.snd.fst) (uv8) (uv9) (uv10) (uv11) (uv12) (uv13) (uv14) (uv15) (uv16)) else none) else none) else none) else none)) else none) else none)) else (if 0 ≤ uv5 then (if uv5 < (↑uv12.length : Int) then ((s.f_r12_Look_typ ((uv6, uv7, ()), uv4, (uv12.getD uv5.toNat dd_TParam).sub_T, ())).bind fun t35 => (if 0 ≤ uv5 then (if uv5 < (↑uv12.length : Int) then (if 0 ≤ uv5 then (if uv5 < (↑uv12.length : Int) then ((s.f_r12_with (uv4, { Name := (uv12.getD uv5.toNat dd_TParam).Name, Kind := 3, Rec_Marks_Before := [], Rec_Marks_Trail := [], Rec_Name := { data := #[] : ByteArray }, Rec_Fields := [], Rec_End := [], R_Marks_Before := [], R_Marks_Trail := [], R_Name := { data := #[] : ByteArray }, R_Result := 0, R_Params := [], R_Vars := [], R_Inner := [], R_Body := [], R_End := [], T_Kind := (uv12.getD uv5.toNat dd_TParam).T_Kind, T_Size := (uv12.getD uv5.toNat dd_TParam).T_Size, T_Name := (uv12.getD uv5.toNat dd_TParam).T_Name : Tr12_Thing }, ())).bind fun t40 => Lr12_Look_routines_9 s k x0 x1 x2 r2 j9 (uv0) (uv1) (uv2) (uv3) (t40) (Go.IntKind.i64.wrap (uv5 + 1)) (t35.snd.fst.fst) (t35.snd.fst.snd.fst) (uv8) (uv9) (uv10) (uv11) (uv12) (uv13) (uv14) (uv15) (uv16)) else none) else none) else none) else none)) else none) else none))) else none) else none) else (if decide (uv11 > 0) = Bool.true then ((s.f_r12_Ends (uv15, ())).bind fun t51 => (if (Bool.true && !t51) = Bool.true then ((s.f_r12_Look_fail ((uv6, uv7, ()), 16, ())).bind fun t53 => ((s.f_r12_Look_vars ((t53.snd.fst.fst, t53.snd.fst.snd.fst, ()), uv4, uv13, uv14, ())).bind fun t54 => ((s.f_r12_Look_routines ((t54.snd.fst.fst, t54.snd.fst.snd.fst, ()), t54.fst, uv14, ())).bind fun t55 => ((s.f_r12_Visible (t54.fst, uv14, ())).bind fun t56 => ((s.f_r12_Look_stmts ((t55.snd.fst.fst, t55.snd.fst.snd.fst, ()), t56, uv11, uv15, ())).bind fun t57 => r2 (uv0) (uv1) (uv2) (Go.IntKind.i64.wrap (uv3 + 1)) (t57.snd.fst.fst) (t57.snd.fst.snd.fst)))))) else ((s.f_r12_Look_vars ((uv6, uv7, ()), uv4, uv13, uv14, ())).bind fun t59 => ((s.f_r12_Look_routines ((t59.snd.fst.fst, t59.snd.fst.snd.fst, ()), t59.fst, uv14, ())).bind fun t60 => ((s.f_r12_Visible (t59.fst, uv14, ())).bind fun t61 => ((s.f_r12_Look_stmts ((t60.snd.fst.fst, t60.snd.fst.snd.fst, ()), t61, uv11, uv15, ())).bind fun t62 => r2 (uv0) (uv1) (uv2) (Go.IntKind.i64.wrap (uv3 + 1)) (t62.snd.fst.fst) (t62.snd.fst.snd.fst))))))) else ((s.f_r12_Look_vars ((uv6, uv7, ()), uv4, uv13, uv14, ())).bind fun t67 => ((s.f_r12_Look_routines ((t67.snd.fst.fst, t67.snd.fst.snd.fst, ()), t67.fst, uv14, ())).bind fun t68 => ((s.f_r12_Visible (t67.fst, uv14, ())).bind fun t69 => ((s.f_r12_Look_stmts ((t68.snd.fst.fst, t68.snd.fst.snd.fst, ()), t69, uv11, uv15, ())).bind fun t70 => r2 (uv0) (uv1) (uv2) (Go.IntKind.i64.wrap (uv3 + 1)) (t70.snd.fst.fst) (t70.snd.fst.snd.fst)))))))
def Lr12_Look_routines_2 (s : Fam) (k : Nat) (x0 : Int × Int × Unit) (x1 : List Tr12_Thing) (x2 : List TRoutine) : Nat → List Tr12_Thing → List TRoutine → b_r12_Visible → Int → Int → Int → Option (Unit × (Int × Int × Unit) × Unit)
  | 0, _, _, _, _, _, _ => none
  | j2 + 1, v0, v1, v2, v3, v4, v5 => (if decide (v3 < (↑v1.length : Int)) = Bool.true then ((s.f_r12_Look_next ((v4, v5, ()), ())).bind fun t4 => (if (Bool.true && t4.fst) = Bool.true then (if 0 ≤ v3 then (if v3 < (↑v1.length : Int) then ((s.f_r12_find (v0, (v1.getD v3.toNat dd_TRoutine).Name, ())).bind fun t8 => (if (t8.Kind != 0) = Bool.true then ((s.f_r12_Look_fail ((t4.snd.fst.fst, t4.snd.fst.snd.fst, ()), 12, ())).bind fun t10 => Lr12_Look_routines_9 s k x0 x1 x2 (Lr12_Look_routines_2 s k x0 x1 x2 j2) k (v0) (v1) (v2) (v3) (v2) (0) (t10.snd.fst.fst) (t10.snd.fst.snd.fst) ((v1.getD v3.toNat dd_TRoutine).Marks_Before) ((v1.getD v3.toNat dd_TRoutine).Marks_Trail) ((v1.getD v3.toNat dd_TRoutine).Name) ((v1.getD v3.toNat dd_TRoutine).Result) ((v1.getD v3.toNat dd_TRoutine).Params) ((v1.getD v3.toNat dd_TRoutine).Vars) ((v1.getD v3.toNat dd_TRoutine).Inner) ((v1.getD v3.toNat dd_TRoutine).Body) ((v1.getD v3.toNat dd_TRoutine).End)) else Lr12_Look_routines_9 s k x0 x1 x2 (Lr12_Look_routines_2 s k x0 x1 x2 j2) k (v0) (v1) (v2) (v3) (v2) (0) (t4.snd.fst.fst) (t4.snd.fst.snd.fst) ((v1.getD v3.toNat dd_TRoutine).Marks_Before) ((v1.getD v3.toNat dd_TRoutine).Marks_Trail) ((v1.getD v3.toNat dd_TRoutine).Name) ((v1.getD v3.toNat dd_TRoutine).Result) ((v1.getD v3.toNat dd_TRoutine).Params) ((v1.getD v3.toNat dd_TRoutine).Vars) ((v1.getD v3.toNat dd_TRoutine).Inner) ((v1.getD v3.toNat dd_TRoutine).Body) ((v1.getD v3.toNat dd_TRoutine).End))) else none) else none) else some (((), (t4.snd.fst.fst, t4.snd.fst.snd.fst, ()), ())))) else some (((), (v4, v5, ()), ())))
def B_r12_Look_routines (s : Fam) (k : Nat) (x0 : Int × Int × Unit) (x1 : List Tr12_Thing) (x2 : List TRoutine) : Option (Unit × (Int × Int × Unit) × Unit) := ((s.f_r12_Visible (x1, x2, ())).bind fun t1 => Lr12_Look_routines_2 s k x0 x1 x2 k (x1) (x2) (t1) (0) (x0.fst) (x0.snd.fst))
theorem Lr12_Look_routines_9_eq (s : Fam) (k : Nat) (x0 : Int × Int × Unit) (x1 : List Tr12_Thing) (x2 : List TRoutine) (j2 : Nat) (r2 : List Tr12_Thing → List TRoutine → b_r12_Visible → Int → Int → Int → Option (Unit × (Int × Int × Unit) × Unit)) (h2 : ∀ (v0 : List Tr12_Thing) (v1 : List TRoutine) (v2 : b_r12_Visible) (v3 : Int) (v4 : Int) (v5 : Int), (loopGo EE (sp s) h_r12_Look_routines co_r12_Look_routines (rootAs (unAs 1000004 (c_r12_Look_routines.enc (x0, x1, x2, ()))).1) k Tryz.f44 2 [] j2 ({ tmps := ofL AV.any [(0, AV.c (CV.ptr 1000004 0)), (1, AV.c (CV.d (DV.sl 118 v0))), (2, AV.c (CV.d (DV.sl 90 v1))), (6, AV.c (CV.d (DV.sl 118 v2))), (7, AV.c (CV.d (DV.lit (Go.Value.int Go.IntKind.i64 v3))))], boxes := ofL Option.none [(1000004, Option.some [CV.d (DV.lit (Go.Value.int Go.IntKind.i64 v4)), CV.d (DV.lit (Go.Value.int Go.IntKind.i64 v5))])], objs := ofL Option.none [], fxs := ofL Option.none [(1000004, Option.none)] : AS II })).run = (r2 v0 v1 v2 v3 v4 v5).map rc_r12_Look_routines.enc) : ∀ (j9 : Nat) (uv0 : List Tr12_Thing) (uv1 : List TRoutine) (uv2 : b_r12_Visible) (uv3 : Int) (uv4 : b_r12_Visible) (uv5 : Int) (uv6 : Int) (uv7 : Int) (uv8 : List ByteArray) (uv9 : List ByteArray) (uv10 : ByteArray) (uv11 : Int) (uv12 : List TParam) (uv13 : List TVar) (uv14 : List TRoutine) (uv15 : List TStmt) (uv16 : List ByteArray), (loopGo EE (sp s) h_r12_Look_routines co_r12_Look_routines (rootAs (unAs 1000004 (c_r12_Look_routines.enc (x0, x1, x2, ()))).1) k Tryz.f44 9 [j2] j9 ({ tmps := ofL AV.any [(0, AV.c (CV.ptr 1000004 0)), (1, AV.c (CV.d (DV.sl 118 uv0))), (2, AV.c (CV.d (DV.sl 90 uv1))), (6, AV.c (CV.d (DV.sl 118 uv2))), (7, AV.c (CV.d (DV.lit (Go.Value.int Go.IntKind.i64 uv3)))), (8, AV.c (CV.ptr 8 0)), (9, AV.c (CV.d (DV.sl 118 uv4))), (10, AV.c (CV.d (DV.lit (Go.Value.int Go.IntKind.i64 uv5))))], boxes := ofL Option.none [(1000004, Option.some [CV.d (DV.lit (Go.Value.int Go.IntKind.i64 uv6)), CV.d (DV.lit (Go.Value.int Go.IntKind.i64 uv7))]), (8, Option.some [CV.d (DV.sl 9 uv8), CV.d (DV.sl 9 uv9), CV.d (DV.lit (Go.Value.string uv10)), CV.d (DV.lit (Go.Value.int Go.IntKind.i64 uv11)), CV.d (DV.sl 92 uv12), CV.d (DV.sl 56 uv13), CV.d (DV.sl 90 uv14), CV.d (DV.sl 97 uv15), CV.d (DV.sl 9 uv16)])], objs := ofL Option.none [(1099511660544, Option.none), (1099511660545, Option.none), (1099511660548, Option.none), (1099511660549, Option.none), (1099511660550, Option.none), (1099511660551, Option.none), (1099511660552, Option.none)], fxs := ofL Option.none [(1000004, Option.none), (8, Option.none)] : AS II })).run = (Lr12_Look_routines_9 s k x0 x1 x2 r2 j9 uv0 uv1 uv2 uv3 uv4 uv5 uv6 uv7 uv8 uv9 uv10 uv11 uv12 uv13 uv14 uv15 uv16).map rc_r12_Look_routines.enc := by
  intro j9
  induction j9 with
  | zero => intros; rfl
  | succ j9 ih =>
    intros
    simp only [Lr12_Look_routines_9, map_ite, map_bindO, map_someO, map_noneO, ← ih, ← h2]
    kernel_rfl
theorem Lr12_Look_routines_2_eq (s : Fam) (k : Nat) (x0 : Int × Int × Unit) (x1 : List Tr12_Thing) (x2 : List TRoutine) : ∀ (j2 : Nat) (v0 : List Tr12_Thing) (v1 : List TRoutine) (v2 : b_r12_Visible) (v3 : Int) (v4 : Int) (v5 : Int), (loopGo EE (sp s) h_r12_Look_routines co_r12_Look_routines (rootAs (unAs 1000004 (c_r12_Look_routines.enc (x0, x1, x2, ()))).1) k Tryz.f44 2 [] j2 ({ tmps := ofL AV.any [(0, AV.c (CV.ptr 1000004 0)), (1, AV.c (CV.d (DV.sl 118 v0))), (2, AV.c (CV.d (DV.sl 90 v1))), (6, AV.c (CV.d (DV.sl 118 v2))), (7, AV.c (CV.d (DV.lit (Go.Value.int Go.IntKind.i64 v3))))], boxes := ofL Option.none [(1000004, Option.some [CV.d (DV.lit (Go.Value.int Go.IntKind.i64 v4)), CV.d (DV.lit (Go.Value.int Go.IntKind.i64 v5))])], objs := ofL Option.none [], fxs := ofL Option.none [(1000004, Option.none)] : AS II })).run = (Lr12_Look_routines_2 s k x0 x1 x2 j2 v0 v1 v2 v3 v4 v5).map rc_r12_Look_routines.enc := by
  intro j2
  induction j2 with
  | zero => intros; rfl
  | succ j2 ih =>
    have q0 := Lr12_Look_routines_9_eq s k x0 x1 x2 j2 (Lr12_Look_routines_2 s k x0 x1 x2 j2) ih
    intros
    simp only [Lr12_Look_routines_2, map_ite, map_bindO, map_someO, map_noneO, ← ih, ← q0]
    kernel_rfl
theorem e_r12_Look_routines (s : Fam) (k : Nat) (x : a_r12_Look_routines) : (evFunC EE (sp s) h_r12_Look_routines co_r12_Look_routines k Tryz.f44 (c_r12_Look_routines.enc x)).run = (B_r12_Look_routines s k x.1 x.2.1 x.2.2.1).map rc_r12_Look_routines.enc := by
  simp only [B_r12_Look_routines, map_ite, map_bindO, map_someO, map_noneO, ← Lr12_Look_routines_2_eq]
  kernel_rfl
-- 78 nodes
end Go.Ev
end
section
open Go Go.Proofs
namespace Go.Ev
set_option linter.unusedVariables false
set_option linter.unusedSimpArgs false
set_option maxHeartbeats 4000000
set_option maxRecDepth 100000
def Lr12_Look_stmts_1 (s : Fam) (k : Nat) (x0 : Int × Int × Unit) (x1 : List Tr12_Thing) (x2 : Int) (x3 : List TStmt) : Nat → List Tr12_Thing → Int → List TStmt → Int → Int → Int → Option (Unit × (Int × Int × Unit) × Unit)
  | 0, _, _, _, _, _, _ => none
  | j1 + 1, v0, v1, v2, v3, v4, v5 => (if decide (v3 < (↑v2.length : Int)) = Bool.true then ((s.f_r12_Look_next ((v4, v5, ()), ())).bind fun t3 => (if (Bool.true && t3.fst) = Bool.true then (if 0 ≤ v3 then (if v3 < (↑v2.length : Int) then (if ((v2.getD v3.toNat dd_TStmt).Op == 1) = Bool.true then ((s.f_r12_Look_value ((t3.snd.fst.fst, t3.snd.fst.snd.fst, ()), v0, (v2.getD v3.toNat dd_TStmt).sub_P, 0, ())).bind fun t8 => (if 0 < (↑(v2.getD v3.toNat dd_TStmt).E.length : Int) then ((s.f_r12_Look_value ((t8.snd.fst.fst, t8.snd.fst.snd.fst, ()), v0, ((v2.getD v3.toNat dd_TStmt).E.getD (Int.toNat 0) dd_TExpr).re, t8.fst, ())).bind fun t11 => ((s.f_r12_Look_stmts ((t11.snd.fst.fst, t11.snd.fst.snd.fst, ()), v0, v1, (v2.getD v3.toNat dd_TStmt).Body, ())).bind fun t12 => ((s.f_r12_Look_stmts ((t12.snd.fst.fst, t12.snd.fst.snd.fst, ()), v0, v1, (v2.getD v3.toNat dd_TStmt).Else, ())).bind fun t13 => Lr12_Look_stmts_1 s k x0 x1 x2 x3 j1 (v0) (v1) (v2) (Go.IntKind.i64.wrap (v3 + 1)) (t13.snd.fst.fst) (t13.snd.fst.snd.fst)))) else none)) else (if ((v2.getD v3.toNat dd_TStmt).Op == 2) = Bool.true then (if 0 < (↑(v2.getD v3.toNat dd_TStmt).E.length : Int) then ((s.f_r12_Look_expr ((t3.snd.fst.fst, t3.snd.fst.snd.fst, ()), v0, ((v2.getD v3.toNat dd_TStmt).E.getD (Int.toNat 0) dd_TExpr).re, Bool.true, ())).bind fun t19 => ((s.f_r12_Look_stmts ((t19.snd.fst.fst, t19.snd.fst.snd.fst, ()), v0, v1, (v2.getD v3.toNat dd_TStmt).Body, ())).bind fun t20 => ((s.f_r12_Look_stmts ((t20.snd.fst.fst, t20.snd.fst.snd.fst, ()), v0, v1, (v2.getD v3.toNat dd_TStmt).Else, ())).bind fun t21 => Lr12_Look_stmts_1 s k x0 x1 x2 x3 j1 (v0) (v1) (v2) (Go.IntKind.i64.wrap (v3 + 1)) (t21.snd.fst.fst) (t21.snd.fst.snd.fst)))) else none) else (if ((v2.getD v3.toNat dd_TStmt).Op == 3) = Bool.true then (if ((v2.getD v3.toNat dd_TStmt).Op == 3) = Bool.true then (if 0 < (↑(v2.getD v3.toNat dd_TStmt).E.length : Int) then ((s.f_r12_Look_value ((t3.snd.fst.fst, t3.snd.fst.snd.fst, ()), v0, ((v2.getD v3.toNat dd_TStmt).E.getD (Int.toNat 0) dd_TExpr).re, 2, ())).bind fun t28 => ((s.f_r12_Look_stmts ((t28.snd.fst.fst, t28.snd.fst.snd.fst, ()), v0, v1, (v2.getD v3.toNat dd_TStmt).Body, ())).bind fun t29 => ((s.f_r12_Look_stmts ((t29.snd.fst.fst, t29.snd.fst.snd.fst, ()), v0, v1, (v2.getD v3.toNat dd_TStmt).Else, ())).bind fun t30 => Lr12_Look_stmts_1 s k x0 x1 x2 x3 j1 (v0) (v1) (v2) (Go.IntKind.i64.wrap (v3 + 1)) (t30.snd.fst.fst) (t30.snd.fst.snd.fst)))) else none) else (if ((v2.getD v3.toNat dd_TStmt).Op == 6) = Bool.true then ((s.f_r12_Look_variable ((t3.snd.fst.fst, t3.snd.fst.snd.fst, ()), v0, (v2.getD v3.toNat dd_TStmt).Name, ())).bind fun t34 => (if (t34.fst.Kind != 1 || t34.fst.Size != 0) = Bool.true then ((s.f_r12_Look_fail ((t34.snd.fst.fst, t34.snd.fst.snd.fst, ()), 14, ())).bind fun t36 => (if 0 < (↑(v2.getD v3.toNat dd_TStmt).E.length : Int) then ((s.f_r12_Look_value ((t36.snd.fst.fst, t36.snd.fst.snd.fst, ()), v0, ((v2.getD v3.toNat dd_TStmt).E.getD (Int.toNat 0) dd_TExpr).re, 1, ())).bind fun t39 => (if 1 < (↑(v2.getD v3.toNat dd_TStmt).E.length : Int) then ((s.f_r12_Look_value ((t39.snd.fst.fst, t39.snd.fst.snd.fst, ()), v0, ((v2.getD v3.toNat dd_TStmt).E.getD (Int.toNat 1) dd_TExpr).re, 1, ())).bind fun t42 => ((s.f_r12_Look_stmts ((t42.snd.fst.fst, t42.snd.fst.snd.fst, ()), v0, v1, (v2.getD v3.toNat dd_TStmt).Body, ())).bind fun t43 => ((s.f_r12_Look_stmts ((t43.snd.fst.fst, t43.snd.fst.snd.fst, ()), v0, v1, (v2.getD v3.toNat dd_TStmt).Else, ())).bind fun t44 => Lr12_Look_stmts_1 s k x0 x1 x2 x3 j1 (v0) (v1) (v2) (Go.IntKind.i64.wrap (v3 + 1)) (t44.snd.fst.fst) (t44.snd.fst.snd.fst)))) else none)) else none)) else (if 0 < (↑(v2.getD v3.toNat dd_TStmt).E.length : Int) then ((s.f_r12_Look_value ((t34.snd.fst.fst, t34.snd.fst.snd.fst, ()), v0, ((v2.getD v3.toNat dd_TStmt).E.getD (Int.toNat 0) dd_TExpr).re, 1, ())).bind fun t50 => (if 1 < (↑(v2.getD v3.toNat dd_TStmt).E.length : Int) then ((s.f_r12_Look_value ((t50.snd.fst.fst, t50.snd.fst.snd.fst, ()), v0, ((v2.getD v3.toNat dd_TStmt).E.getD (Int.toNat 1) dd_TExpr).re, 1, ())).bind fun t53 => ((s.f_r12_Look_stmts ((t53.snd.fst.fst, t53.snd.fst.snd.fst, ()), v0, v1, (v2.getD v3.toNat dd_TStmt).Body, ())).bind fun t54 => ((s.f_r12_Look_stmts ((t54.snd.fst.fst, t54.snd.fst.snd.fst, ()), v0, v1, (v2.getD v3.toNat dd_TStmt).Else, ())).bind fun t55 => Lr12_Look_stmts_1 s k x0 x1 x2 x3 j1 (v0) (v1) (v2) (Go.IntKind.i64.wrap (v3 + 1)) (t55.snd.fst.fst) (t55.snd.fst.snd.fst)))) else none)) else none))) else (if ((v2.getD v3.toNat dd_TStmt).Op == 7) = Bool.true then ((s.f_r12_Look_value ((t3.snd.fst.fst, t3.snd.fst.snd.fst, ()), v0, (v2.getD v3.toNat dd_TStmt).sub_P, 0, ())).bind fun t60 => (if (t60.fst == 2) = Bool.true then ((s.f_r12_Look_fail ((t60.snd.fst.fst, t60.snd.fst.snd.fst, ()), 14, ())).bind fun t62 => ((s.f_r12_Look_stmts ((t62.snd.fst.fst, t62.snd.fst.snd.fst, ()), v0, v1, (v2.getD v3.toNat dd_TStmt).Body, ())).bind fun t63 => ((s.f_r12_Look_stmts ((t63.snd.fst.fst, t63.snd.fst.snd.fst, ()), v0, v1, (v2.getD v3.toNat dd_TStmt).Else, ())).bind fun t64 => Lr12_Look_stmts_1 s k x0 x1 x2 x3 j1 (v0) (v1) (v2) (Go.IntKind.i64.wrap (v3 + 1)) (t64.snd.fst.fst) (t64.snd.fst.snd.fst)))) else ((s.f_r12_Look_stmts ((t60.snd.fst.fst, t60.snd.fst.snd.fst, ()), v0, v1, (v2.getD v3.toNat dd_TStmt).Body, ())).bind fun t66 => ((s.f_r12_Look_stmts ((t66.snd.fst.fst, t66.snd.fst.snd.fst, ()), v0, v1, (v2.getD v3.toNat dd_TStmt).Else, ())).bind fun t67 => Lr12_Look_stmts_1 s k x0 x1 x2 x3 j1 (v0) (v1) (v2) (Go.IntKind.i64.wrap (v3 + 1)) (t67.snd.fst.fst) (t67.snd.fst.snd.fst))))) else (if ((v2.getD v3.toNat dd_TStmt).Op == 8) = Bool.true then (if 0 < (↑(v2.getD v3.toNat dd_TStmt).E.length : Int) then ((s.f_r12_Look_value ((t3.snd.fst.fst, t3.snd.fst.snd.fst, ()), v0, ((v2.getD v3.toNat dd_TStmt).E.getD (Int.toNat 0) dd_TExpr).re, 0, ())).bind fun t72 => ((s.f_r12_Look_stmts ((t72.snd.fst.fst, t72.snd.fst.snd.fst, ()), v0, v1, (v2.getD v3.toNat dd_TStmt).Body, ())).bind fun t73 => ((s.f_r12_Look_stmts ((t73.snd.fst.fst, t73.snd.fst.snd.fst, ()), v0, v1, (v2.getD v3.toNat dd_TStmt).Else, ())).bind fun t74 => Lr12_Look_stmts_1 s k x0 x1 x2 x3 j1 (v0) (v1) (v2) (Go.IntKind.i64.wrap (v3 + 1)) (t74.snd.fst.fst) (t74.snd.fst.snd.fst)))) else none) else (if ((v2.getD v3.toNat dd_TStmt).Op == 9) = Bool.true then (if (!decide (v1 > 0) == decide ((↑(v2.getD v3.toNat dd_TStmt).E.length : Int) > 0)) = Bool.true then ((s.f_r12_Look_fail ((t3.snd.fst.fst, t3.snd.fst.snd.fst, ()), 16, ())).bind fun t79 => (if decide ((↑(v2.getD v3.toNat dd_TStmt).E.length : Int) > 0) = Bool.true then (if 0 < (↑(v2.getD v3.toNat dd_TStmt).E.length : Int) then ((s.f_r12_Look_value ((t79.snd.fst.fst, t79.snd.fst.snd.fst, ()), v0, ((v2.getD v3.toNat dd_TStmt).E.getD (Int.toNat 0) dd_TExpr).re, v1, ())).bind fun t83 => ((s.f_r12_Look_stmts ((t83.snd.fst.fst, t83.snd.fst.snd.fst, ()), v0, v1, (v2.getD v3.toNat dd_TStmt).Body, ())).bind fun t84 => ((s.f_r12_Look_stmts ((t84.snd.fst.fst, t84.snd.fst.snd.fst, ()), v0, v1, (v2.getD v3.toNat dd_TStmt).Else, ())).bind fun t85 => Lr12_Look_stmts_1 s k x0 x1 x2 x3 j1 (v0) (v1) (v2) (Go.IntKind.i64.wrap (v3 + 1)) (t85.snd.fst.fst) (t85.snd.fst.snd.fst)))) else none) else ((s.f_r12_Look_stmts ((t79.snd.fst.fst, t79.snd.fst.snd.fst, ()), v0, v1, (v2.getD v3.toNat dd_TStmt).Body, ())).bind fun t88 => ((s.f_r12_Look_stmts ((t88.snd.fst.fst, t88.snd.fst.snd.fst, ()), v0, v1, (v2.getD v3.toNat dd_TStmt).Else, ())).bind fun t89 => Lr12_Look_stmts_1 s k x0 x1 x2 x3 j1 (v0) (v1) (v2) (Go.IntKind.i64.wrap (v3 + 1)) (t89.snd.fst.fst) (t89.snd.fst.snd.fst))))) else (if decide ((↑(v2.getD v3.toNat dd_TStmt).E.length : Int) > 0) = Bool.true then (if 0 < (↑(v2.getD v3.toNat dd_TStmt).E.length : Int) then ((s.f_r12_Look_value ((t3.snd.fst.fst, t3.snd.fst.snd.fst, ()), v0, ((v2.getD v3.toNat dd_TStmt).E.getD (Int.toNat 0) dd_TExpr).re, v1, ())).bind fun t94 => ((s.f_r12_Look_stmts ((t94.snd.fst.fst, t94.snd.fst.snd.fst, ()), v0, v1, (v2.getD v3.toNat dd_TStmt).Body, ())).bind fun t95 => ((s.f_r12_Look_stmts ((t95.snd.fst.fst, t95.snd.fst.snd.fst, ()), v0, v1, (v2.getD v3.toNat dd_TStmt).Else, ())).bind fun t96 => Lr12_Look_stmts_1 s k x0 x1 x2 x3 j1 (v0) (v1) (v2) (Go.IntKind.i64.wrap (v3 + 1)) (t96.snd.fst.fst) (t96.snd.fst.snd.fst)))) else none) else ((s.f_r12_Look_stmts ((t3.snd.fst.fst, t3.snd.fst.snd.fst, ()), v0, v1, (v2.getD v3.toNat dd_TStmt).Body, ())).bind fun t99 => ((s.f_r12_Look_stmts ((t99.snd.fst.fst, t99.snd.fst.snd.fst, ()), v0, v1, (v2.getD v3.toNat dd_TStmt).Else, ())).bind fun t100 => Lr12_Look_stmts_1 s k x0 x1 x2 x3 j1 (v0) (v1) (v2) (Go.IntKind.i64.wrap (v3 + 1)) (t100.snd.fst.fst) (t100.snd.fst.snd.fst))))) else ((s.f_r12_Look_stmts ((t3.snd.fst.fst, t3.snd.fst.snd.fst, ()), v0, v1, (v2.getD v3.toNat dd_TStmt).Body, ())).bind fun t102 => ((s.f_r12_Look_stmts ((t102.snd.fst.fst, t102.snd.fst.snd.fst, ()), v0, v1, (v2.getD v3.toNat dd_TStmt).Else, ())).bind fun t103 => Lr12_Look_stmts_1 s k x0 x1 x2 x3 j1 (v0) (v1) (v2) (Go.IntKind.i64.wrap (v3 + 1)) (t103.snd.fst.fst) (t103.snd.fst.snd.fst)))))))) else (if ((v2.getD v3.toNat dd_TStmt).Op == 4) = Bool.true then (if ((v2.getD v3.toNat dd_TStmt).Op == 4) = Bool.true then (if 0 < (↑(v2.getD v3.toNat dd_TStmt).E.length : Int) then ((s.f_r12_Look_value ((t3.snd.fst.fst, t3.snd.fst.snd.fst, ()), v0, ((v2.getD v3.toNat dd_TStmt).E.getD (Int.toNat 0) dd_TExpr).re, 2, ())).bind fun t109 => ((s.f_r12_Look_stmts ((t109.snd.fst.fst, t109.snd.fst.snd.fst, ()), v0, v1, (v2.getD v3.toNat dd_TStmt).Body, ())).bind fun t110 => ((s.f_r12_Look_stmts ((t110.snd.fst.fst, t110.snd.fst.snd.fst, ()), v0, v1, (v2.getD v3.toNat dd_TStmt).Else, ())).bind fun t111 => Lr12_Look_stmts_1 s k x0 x1 x2 x3 j1 (v0) (v1) (v2) (Go.IntKind.i64.wrap (v3 + 1)) (t111.snd.fst.fst) (t111.snd.fst.snd.fst)))) else none) else (if ((v2.getD v3.toNat dd_TStmt).Op == 6) = Bool.true then ((s.f_r12_Look_variable ((t3.snd.fst.fst, t3.snd.fst.snd.fst, ()), v0, (v2.getD v3.toNat dd_TStmt).Name, ())).bind fun t115 => (if (t115.fst.Kind != 1 || t115.fst.Size != 0) = Bool.true then ((s.f_r12_Look_fail ((t115.snd.fst.fst, t115.snd.fst.snd.fst, ()), 14, ())).bind fun t117 => (if 0 < (↑(v2.getD v3.toNat dd_TStmt).E.length : Int) then ((s.f_r12_Look_value ((t117.snd.fst.fst, t117.snd.fst.snd.fst, ()), v0, ((v2.getD v3.toNat dd_TStmt).E.getD (Int.toNat 0) dd_TExpr).re, 1, ())).bind fun t120 => (if 1 < (↑(v2.getD v3.toNat dd_TStmt).E.length : Int) then ((s.f_r12_Look_value ((t120.snd.fst.fst, t120.snd.fst.snd.fst, ()), v0, ((v2.getD v3.toNat dd_TStmt).E.getD (Int.toNat 1) dd_TExpr).re, 1, ())).bind fun t123 => ((s.f_r12_Look_stmts ((t123.snd.fst.fst, t123.snd.fst.snd.fst, ()), v0, v1, (v2.getD v3.toNat dd_TStmt).Body, ())).bind fun t124 => ((s.f_r12_Look_stmts ((t124.snd.fst.fst, t124.snd.fst.snd.fst, ()), v0, v1, (v2.getD v3.toNat dd_TStmt).Else, ())).bind fun t125 => Lr12_Look_stmts_1 s k x0 x1 x2 x3 j1 (v0) (v1) (v2) (Go.IntKind.i64.wrap (v3 + 1)) (t125.snd.fst.fst) (t125.snd.fst.snd.fst)))) else none)) else none)) else (if 0 < (↑(v2.getD v3.toNat dd_TStmt).E.length : Int) then ((s.f_r12_Look_value ((t115.snd.fst.fst, t115.snd.fst.snd.fst, ()), v0, ((v2.getD v3.toNat dd_TStmt).E.getD (Int.toNat 0) dd_TExpr).re, 1, ())).bind fun t131 => (if 1 < (↑(v2.getD v3.toNat dd_TStmt).E.length : Int) then ((s.f_r12_Look_value ((t131.snd.fst.fst, t131.snd.fst.snd.fst, ()), v0, ((v2.getD v3.toNat dd_TStmt).E.getD (Int.toNat 1) dd_TExpr).re, 1, ())).bind fun t134 => ((s.f_r12_Look_stmts ((t134.snd.fst.fst, t134.snd.fst.snd.fst, ()), v0, v1, (v2.getD v3.toNat dd_TStmt).Body, ())).bind fun t135 => ((s.f_r12_Look_stmts ((t135.snd.fst.fst, t135.snd.fst.snd.fst, ()), v0, v1, (v2.getD v3.toNat dd_TStmt).Else, ())).bind fun t136 => Lr12_Look_stmts_1 s k x0 x1 x2 x3 j1 (v0) (v1) (v2) (Go.IntKind.i64.wrap (v3 + 1)) (t136.snd.fst.fst) (t136.snd.fst.snd.fst)))) else none)) else none))) else (if ((v2.getD v3.toNat dd_TStmt).Op == 7) = Bool.true then ((s.f_r12_Look_value ((t3.snd.fst.fst, t3.snd.fst.snd.fst, ()), v0, (v2.getD v3.toNat dd_TStmt).sub_P, 0, ())).bind fun t141 => (if (t141.fst == 2) = Bool.true then ((s.f_r12_Look_fail ((t141.snd.fst.fst, t141.snd.fst.snd.fst, ()), 14, ())).bind fun t143 => ((s.f_r12_Look_stmts ((t143.snd.fst.fst, t143.snd.fst.snd.fst, ()), v0, v1, (v2.getD v3.toNat dd_TStmt).Body, ())).bind fun t144 => ((s.f_r12_Look_stmts ((t144.snd.fst.fst, t144.snd.fst.snd.fst, ()), v0, v1, (v2.getD v3.toNat dd_TStmt).Else, ())).bind fun t145 => Lr12_Look_stmts_1 s k x0 x1 x2 x3 j1 (v0) (v1) (v2) (Go.IntKind.i64.wrap (v3 + 1)) (t145.snd.fst.fst) (t145.snd.fst.snd.fst)))) else ((s.f_r12_Look_stmts ((t141.snd.fst.fst, t141.snd.fst.snd.fst, ()), v0, v1, (v2.getD v3.toNat dd_TStmt).Body, ())).bind fun t147 => ((s.f_r12_Look_stmts ((t147.snd.fst.fst, t147.snd.fst.snd.fst, ()), v0, v1, (v2.getD v3.toNat dd_TStmt).Else, ())).bind fun t148 => Lr12_Look_stmts_1 s k x0 x1 x2 x3 j1 (v0) (v1) (v2) (Go.IntKind.i64.wrap (v3 + 1)) (t148.snd.fst.fst) (t148.snd.fst.snd.fst))))) else (if ((v2.getD v3.toNat dd_TStmt).Op == 8) = Bool.true then (if 0 < (↑(v2.getD v3.toNat dd_TStmt).E.length : Int) then ((s.f_r12_Look_value ((t3.snd.fst.fst, t3.snd.fst.snd.fst, ()), v0, ((v2.getD v3.toNat dd_TStmt).E.getD (Int.toNat 0) dd_TExpr).re, 0, ())).bind fun t153 => ((s.f_r12_Look_stmts ((t153.snd.fst.fst, t153.snd.fst.snd.fst, ()), v0, v1, (v2.getD v3.toNat dd_TStmt).Body, ())).bind fun t154 => ((s.f_r12_Look_stmts ((t154.snd.fst.fst, t154.snd.fst.snd.fst, ()), v0, v1, (v2.getD v3.toNat dd_TStmt).Else, ())).bind fun t155 => Lr12_Look_stmts_1 s k x0 x1 x2 x3 j1 (v0) (v1) (v2) (Go.IntKind.i64.wrap (v3 + 1)) (t155.snd.fst.fst) (t155.snd.fst.snd.fst)))) else none) else (if ((v2.getD v3.toNat dd_TStmt).Op == 9) = Bool.true then (if (!decide (v1 > 0) == decide ((↑(v2.getD v3.toNat dd_TStmt).E.length : Int) > 0)) = Bool.true then ((s.f_r12_Look_fail ((t3.snd.fst.fst, t3.snd.fst.snd.fst, ()), 16, ())).bind fun t160 => (if decide ((↑(v2.getD v3.toNat dd_TStmt).E.length : Int) > 0) = Bool.true then (if 0 < (↑(v2.getD v3.toNat dd_TStmt).E.length : Int) then ((s.f_r12_Look_value ((t160.snd.fst.fst, t160.snd.fst.snd.fst, ()), v0, ((v2.getD v3.toNat dd_TStmt).E.getD (Int.toNat 0) dd_TExpr).re, v1, ())).bind fun t164 => ((s.f_r12_Look_stmts ((t164.snd.fst.fst, t164.snd.fst.snd.fst, ()), v0, v1, (v2.getD v3.toNat dd_TStmt).Body, ())).bind fun t165 => ((s.f_r12_Look_stmts ((t165.snd.fst.fst, t165.snd.fst.snd.fst, ()), v0, v1, (v2.getD v3.toNat dd_TStmt).Else, ())).bind fun t166 => Lr12_Look_stmts_1 s k x0 x1 x2 x3 j1 (v0) (v1) (v2) (Go.IntKind.i64.wrap (v3 + 1)) (t166.snd.fst.fst) (t166.snd.fst.snd.fst)))) else none) else ((s.f_r12_Look_stmts ((t160.snd.fst.fst, t160.snd.fst.snd.fst, ()), v0, v1, (v2.getD v3.toNat dd_TStmt).Body, ())).bind fun t169 => ((s.f_r12_Look_stmts ((t169.snd.fst.fst, t169.snd.fst.snd.fst, ()), v0, v1, (v2.getD v3.toNat dd_TStmt).Else, ())).bind fun t170 => Lr12_Look_stmts_1 s k x0 x1 x2 x3 j1 (v0) (v1) (v2) (Go.IntKind.i64.wrap (v3 + 1)) (t170.snd.fst.fst) (t170.snd.fst.snd.fst))))) else (if decide ((↑(v2.getD v3.toNat dd_TStmt).E.length : Int) > 0) = Bool.true then (if 0 < (↑(v2.getD v3.toNat dd_TStmt).E.length : Int) then ((s.f_r12_Look_value ((t3.snd.fst.fst, t3.snd.fst.snd.fst, ()), v0, ((v2.getD v3.toNat dd_TStmt).E.getD (Int.toNat 0) dd_TExpr).re, v1, ())).bind fun t175 => ((s.f_r12_Look_stmts ((t175.snd.fst.fst, t175.snd.fst.snd.fst, ()), v0, v1, (v2.getD v3.toNat dd_TStmt).Body, ())).bind fun t176 => ((s.f_r12_Look_stmts ((t176.snd.fst.fst, t176.snd.fst.snd.fst, ()), v0, v1, (v2.getD v3.toNat dd_TStmt).Else, ())).bind fun t177 => Lr12_Look_stmts_1 s k x0 x1 x2 x3 j1 (v0) (v1) (v2) (Go.IntKind.i64.wrap (v3 + 1)) (t177.snd.fst.fst) (t177.snd.fst.snd.fst)))) else none) else ((s.f_r12_Look_stmts ((t3.snd.fst.fst, t3.snd.fst.snd.fst, ()), v0, v1, (v2.getD v3.toNat dd_TStmt).Body, ())).bind fun t180 => ((s.f_r12_Look_stmts ((t180.snd.fst.fst, t180.snd.fst.snd.fst, ()), v0, v1, (v2.getD v3.toNat dd_TStmt).Else, ())).bind fun t181 => Lr12_Look_stmts_1 s k x0 x1 x2 x3 j1 (v0) (v1) (v2) (Go.IntKind.i64.wrap (v3 + 1)) (t181.snd.fst.fst) (t181.snd.fst.snd.fst))))) else ((s.f_r12_Look_stmts ((t3.snd.fst.fst, t3.snd.fst.snd.fst, ()), v0, v1, (v2.getD v3.toNat dd_TStmt).Body, ())).bind fun t183 => ((s.f_r12_Look_stmts ((t183.snd.fst.fst, t183.snd.fst.snd.fst, ()), v0, v1, (v2.getD v3.toNat dd_TStmt).Else, ())).bind fun t184 => Lr12_Look_stmts_1 s k x0 x1 x2 x3 j1 (v0) (v1) (v2) (Go.IntKind.i64.wrap (v3 + 1)) (t184.snd.fst.fst) (t184.snd.fst.snd.fst)))))))) else (if ((v2.getD v3.toNat dd_TStmt).Op == 5) = Bool.true then (if 0 < (↑(v2.getD v3.toNat dd_TStmt).E.length : Int) then ((s.f_r12_Look_value ((t3.snd.fst.fst, t3.snd.fst.snd.fst, ()), v0, ((v2.getD v3.toNat dd_TStmt).E.getD (Int.toNat 0) dd_TExpr).re, 2, ())).bind fun t189 => ((s.f_r12_Look_stmts ((t189.snd.fst.fst, t189.snd.fst.snd.fst, ()), v0, v1, (v2.getD v3.toNat dd_TStmt).Body, ())).bind fun t190 => ((s.f_r12_Look_stmts ((t190.snd.fst.fst, t190.snd.fst.snd.fst, ()), v0, v1, (v2.getD v3.toNat dd_TStmt).Else, ())).bind fun t191 => Lr12_Look_stmts_1 s k x0 x1 x2 x3 j1 (v0) (v1) (v2) (Go.IntKind.i64.wrap (v3 + 1)) (t191.snd.fst.fst) (t191.snd.fst.snd.fst)))) else none) else (if ((v2.getD v3.toNat dd_TStmt).Op == 6) = Bool.true then ((s.f_r12_Look_variable ((t3.snd.fst.fst, t3.snd.fst.snd.fst, ()), v0, (v2.getD v3.toNat dd_TStmt).Name, ())).bind fun t195 => (if (t195.fst.Kind != 1 || t195.fst.Size != 0) = Bool.true then ((s.f_r12_Look_fail ((t195.snd.fst.fst, t195.snd.fst.snd.fst, ()), 14, ())).bind fun t197 => (if 0 < (↑(v2.getD v3.toNat dd_TStmt).E.length : Int) then ((s.f_r12_Look_value ((t197.snd.fst.fst, t197.snd.fst.snd.fst, ()), v0, ((v2.getD v3.toNat dd_TStmt).E.getD (Int.toNat 0) dd_TExpr).re, 1, ())).bind fun t200 => (if 1 < (↑(v2.getD v3.toNat dd_TStmt).E.length : Int) then ((s.f_r12_Look_value ((t200.snd.fst.fst, t200.snd.fst.snd.fst, ()), v0, ((v2.getD v3.toNat dd_TStmt).E.getD (Int.toNat 1) dd_TExpr).re, 1, ())).bind fun t203 => ((s.f_r12_Look_stmts ((t203.snd.fst.fst, t203.snd.fst.snd.fst, ()), v0, v1, (v2.getD v3.toNat dd_TStmt).Body, ())).bind fun t204 => ((s.f_r12_Look_stmts ((t204.snd.fst.fst, t204.snd.fst.snd.fst, ()), v0, v1, (v2.getD v3.toNat dd_TStmt).Else, ())).bind fun t205 => Lr12_Look_stmts_1 s k x0 x1 x2 x3 j1 (v0) (v1) (v2) (Go.IntKind.i64.wrap (v3 + 1)) (t205.snd.fst.fst) (t205.snd.fst.snd.fst)))) else none)) else none)) else (if 0 < (↑(v2.getD v3.toNat dd_TStmt).E.length : Int) then ((s.f_r12_Look_value ((t195.snd.fst.fst, t195.snd.fst.snd.fst, ()), v0, ((v2.getD v3.toNat dd_TStmt).E.getD (Int.toNat 0) dd_TExpr).re, 1, ())).bind fun t211 => (if 1 < (↑(v2.getD v3.toNat dd_TStmt).E.length : Int) then ((s.f_r12_Look_value ((t211.snd.fst.fst, t211.snd.fst.snd.fst, ()), v0, ((v2.getD v3.toNat dd_TStmt).E.getD (Int.toNat 1) dd_TExpr).re, 1, ())).bind fun t214 => ((s.f_r12_Look_stmts ((t214.snd.fst.fst, t214.snd.fst.snd.fst, ()), v0, v1, (v2.getD v3.toNat dd_TStmt).Body, ())).bind fun t215 => ((s.f_r12_Look_stmts ((t215.snd.fst.fst, t215.snd.fst.snd.fst, ()), v0, v1, (v2.getD v3.toNat dd_TStmt).Else, ())).bind fun t216 => Lr12_Look_stmts_1 s k x0 x1 x2 x3 j1 (v0) (v1) (v2) (Go.IntKind.i64.wrap (v3 + 1)) (t216.snd.fst.fst) (t216.snd.fst.snd.fst)))) else none)) else none))) else (if ((v2.getD v3.toNat dd_TStmt).Op == 7) = Bool.true then ((s.f_r12_Look_value ((t3.snd.fst.fst, t3.snd.fst.snd.fst, ()), v0, (v2.getD v3.toNat dd_TStmt).sub_P, 0, ())).bind fun t221 => (if (t221.fst == 2) = Bool.true then ((s.f_r12_Look_fail ((t221.snd.fst.fst, t221.snd.fst.snd.fst, ()), 14, ())).bind fun t223 => ((s.f_r12_Look_stmts ((t223.snd.fst.fst, t223.snd.fst.snd.fst, ()), v0, v1, (v2.getD v3.toNat dd_TStmt).Body, ())).bind fun t224 => ((s.f_r12_Look_stmts ((t224.snd.fst.fst, t224.snd.fst.snd.fst, ()), v0, v1, (v2.getD v3.toNat dd_TStmt).Else, ())).bind fun t225 => Lr12_Look_stmts_1 s k x0 x1 x2 x3 j1 (v0) (v1) (v2) (Go.IntKind.i64.wrap (v3 + 1)) (t225.snd.fst.fst) (t225.snd.fst.snd.fst)))) else ((s.f_r12_Look_stmts ((t221.snd.fst.fst, t221.snd.fst.snd.fst, ()), v0, v1, (v2.getD v3.toNat dd_TStmt).Body, ())).bind fun t227 => ((s.f_r12_Look_stmts ((t227.snd.fst.fst, t227.snd.fst.snd.fst, ()), v0, v1, (v2.getD v3.toNat dd_TStmt).Else, ())).bind fun t228 => Lr12_Look_stmts_1 s k x0 x1 x2 x3 j1 (v0) (v1) (v2) (Go.IntKind.i64.wrap (v3 + 1)) (t228.snd.fst.fst) (t228.snd.fst.snd.fst))))) else (if ((v2.getD v3.toNat dd_TStmt).Op == 8) = Bool.true then (if 0 < (↑(v2.getD v3.toNat dd_TStmt).E.length : Int) then ((s.f_r12_Look_value ((t3.snd.fst.fst, t3.snd.fst.snd.fst, ()), v0, ((v2.getD v3.toNat dd_TStmt).E.getD (Int.toNat 0) dd_TExpr).re, 0, ())).bind fun t233 => ((s.f_r12_Look_stmts ((t233.snd.fst.fst, t233.snd.fst.snd.fst, ()), v0, v1, (v2.getD v3.toNat dd_TStmt).Body, ())).bind fun t234 => ((s.f_r12_Look_stmts ((t234.snd.fst.fst, t234.snd.fst.snd.fst, ()), v0, v1, (v2.getD v3.toNat dd_TStmt).Else, ())).bind fun t235 => Lr12_Look_stmts_1 s k x0 x1 x2 x3 j1 (v0) (v1) (v2) (Go.IntKind.i64.wrap (v3 + 1)) (t235.snd.fst.fst) (t235.snd.fst.snd.fst)))) else none) else (if ((v2.getD v3.toNat dd_TStmt).Op == 9) = Bool.true then (if (!decide (v1 > 0) == decide ((↑(v2.getD v3.toNat dd_TStmt).E.length : Int) > 0)) = Bool.true then ((s.f_r12_Look_fail ((t3.snd.fst.fst, t3.snd.fst.snd.fst, ()), 16, ())).bind fun t240 => (if decide ((↑(v2.getD v3.toNat dd_TStmt).E.length : Int) > 0) = Bool.true then (if 0 < (↑(v2.getD v3.toNat dd_TStmt).E.length : Int) then ((s.f_r12_Look_value ((t240.snd.fst.fst, t240.snd.fst.snd.fst, ()), v0, ((v2.getD v3.toNat dd_TStmt).E.getD (Int.toNat 0) dd_TExpr).re, v1, ())).bind fun t244 => ((s.f_r12_Look_stmts ((t244.snd.fst.fst, t244.snd.fst.snd.fst, ()), v0, v1, (v2.getD v3.toNat dd_TStmt).Body, ())).bind fun t245 => ((s.f_r12_Look_stmts ((t245.snd.fst.fst, t245.snd.fst.snd.fst, ()), v0, v1, (v2.getD v3.toNat dd_TStmt).Else, ())).bind fun t246 => Lr12_Look_stmts_1 s k x0 x1 x2 x3 j1 (v0) (v1) (v2) (Go.IntKind.i64.wrap (v3 + 1)) (t246.snd.fst.fst) (t246.snd.fst.snd.fst)))) else none) else ((s.f_r12_Look_stmts ((t240.snd.fst.fst, t240.snd.fst.snd.fst, ()), v0, v1, (v2.getD v3.toNat dd_TStmt).Body, ())).bind fun t249 => ((s.f_r12_Look_stmts ((t249.snd.fst.fst, t249.snd.fst.snd.fst, ()), v0, v1, (v2.getD v3.toNat dd_TStmt).Else, ())).bind fun t250 => Lr12_Look_stmts_1 s k x0 x1 x2 x3 j1 (v0) (v1) (v2) (Go.IntKind.i64.wrap (v3 + 1)) (t250.snd.fst.fst) (t250.snd.fst.snd.fst))))) else (if decide ((↑(v2.getD v3.toNat dd_TStmt).E.length : Int) > 0) = Bool.true then (if 0 < (↑(v2.getD v3.toNat dd_TStmt).E.length : Int) then ((s.f_r12_Look_value ((t3.snd.fst.fst, t3.snd.fst.snd.fst, ()), v0, ((v2.getD v3.toNat dd_TStmt).E.getD (Int.toNat 0) dd_TExpr).re, v1, ())).bind fun t255 => ((s.f_r12_Look_stmts ((t255.snd.fst.fst, t255.snd.fst.snd.fst, ()), v0, v1, (v2.getD v3.toNat dd_TStmt).Body, ())).bind fun t256 => ((s.f_r12_Look_stmts ((t256.snd.fst.fst, t256.snd.fst.snd.fst, ()), v0, v1, (v2.getD v3.toNat dd_TStmt).Else, ())).bind fun t257 => Lr12_Look_stmts_1 s k x0 x1 x2 x3 j1 (v0) (v1) (v2) (Go.IntKind.i64.wrap (v3 + 1)) (t257.snd.fst.fst) (t257.snd.fst.snd.fst)))) else none) else ((s.f_r12_Look_stmts ((t3.snd.fst.fst, t3.snd.fst.snd.fst, ()), v0, v1, (v2.getD v3.toNat dd_TStmt).Body, ())).bind fun t260 => ((s.f_r12_Look_stmts ((t260.snd.fst.fst, t260.snd.fst.snd.fst, ()), v0, v1, (v2.getD v3.toNat dd_TStmt).Else, ())).bind fun t261 => Lr12_Look_stmts_1 s k x0 x1 x2 x3 j1 (v0) (v1) (v2) (Go.IntKind.i64.wrap (v3 + 1)) (t261.snd.fst.fst) (t261.snd.fst.snd.fst))))) else ((s.f_r12_Look_stmts ((t3.snd.fst.fst, t3.snd.fst.snd.fst, ()), v0, v1, (v2.getD v3.toNat dd_TStmt).Body, ())).bind fun t263 => ((s.f_r12_Look_stmts ((t263.snd.fst.fst, t263.snd.fst.snd.fst, ()), v0, v1, (v2.getD v3.toNat dd_TStmt).Else, ())).bind fun t264 => Lr12_Look_stmts_1 s k x0 x1 x2 x3 j1 (v0) (v1) (v2) (Go.IntKind.i64.wrap (v3 + 1)) (t264.snd.fst.fst) (t264.snd.fst.snd.fst)))))))))))) else none) else none) else some (((), (t3.snd.fst.fst, t3.snd.fst.snd.fst, ()), ())))) else some (((), (v4, v5, ()), ())))
def B_r12_Look_stmts (s : Fam) (k : Nat) (x0 : Int × Int × Unit) (x1 : List Tr12_Thing) (x2 : Int) (x3 : List TStmt) : Option (Unit × (Int × Int × Unit) × Unit) := Lr12_Look_stmts_1 s k x0 x1 x2 x3 k (x1) (x2) (x3) (0) (x0.fst) (x0.snd.fst)
theorem Lr12_Look_stmts_1_eq (s : Fam) (k : Nat) (x0 : Int × Int × Unit) (x1 : List Tr12_Thing) (x2 : Int) (x3 : List TStmt) : ∀ (j1 : Nat) (v0 : List Tr12_Thing) (v1 : Int) (v2 : List TStmt) (v3 : Int) (v4 : Int) (v5 : Int), (loopGo EE (sp s) h_r12_Look_stmts co_r12_Look_stmts (rootAs (unAs 1000004 (c_r12_Look_stmts.enc (x0, x1, x2, x3, ()))).1) k Tryz.f45 1 [] j1 ({ tmps := ofL AV.any [(0, AV.c (CV.ptr 1000004 0)), (1, AV.c (CV.d (DV.sl 118 v0))), (2, AV.c (CV.d (DV.lit (Go.Value.int Go.IntKind.i64 v1)))), (3, AV.c (CV.d (DV.sl 97 v2))), (8, AV.c (CV.d (DV.lit (Go.Value.int Go.IntKind.i64 v3))))], boxes := ofL Option.none [(1000004, Option.some [CV.d (DV.lit (Go.Value.int Go.IntKind.i64 v4)), CV.d (DV.lit (Go.Value.int Go.IntKind.i64 v5))])], objs := ofL Option.none [], fxs := ofL Option.none [(1000004, Option.none)] : AS II })).run = (Lr12_Look_stmts_1 s k x0 x1 x2 x3 j1 v0 v1 v2 v3 v4 v5).map rc_r12_Look_stmts.enc := by
  intro j1
  induction j1 with
  | zero => intros; rfl
  | succ j1 ih =>
    intros
    simp only [Lr12_Look_stmts_1, map_ite, map_bindO, map_someO, map_noneO, ← ih]
    kernel_rfl
theorem e_r12_Look_stmts (s : Fam) (k : Nat) (x : a_r12_Look_stmts) : (evFunC EE (sp s) h_r12_Look_stmts co_r12_Look_stmts k Tryz.f45 (c_r12_Look_stmts.enc x)).run = (B_r12_Look_stmts s k x.1 x.2.1 x.2.2.1 x.2.2.2.1).map rc_r12_Look_stmts.enc := by
  simp only [B_r12_Look_stmts, map_ite, map_bindO, map_someO, map_noneO, ← Lr12_Look_stmts_1_eq]
  kernel_rfl
-- 271 nodes
def Lr12_Visible_2 (s : Fam) (k : Nat) (x0 : List Tr12_Thing) (x1 : List TRoutine) : Nat → List Tr12_Thing → List TRoutine → Int → Option (List Tr12_Thing)
  | 0, _, _, _ => none
  | j2 + 1, v0, v1, v2 => (if decide (v2 < (↑v1.length : Int)) = Bool.true then (if 0 ≤ v2 then (if v2 < (↑v1.length : Int) then (if 0 ≤ v2 then (if v2 < (↑v1.length : Int) then ((s.f_r12_with (v0, { Name := (v1.getD v2.toNat dd_TRoutine).Name, Kind := 2, Rec_Marks_Before := [], Rec_Marks_Trail := [], Rec_Name := { data := #[] : ByteArray }, Rec_Fields := [], Rec_End := [], R_Marks_Before := (v1.getD v2.toNat dd_TRoutine).Marks_Before, R_Marks_Trail := (v1.getD v2.toNat dd_TRoutine).Marks_Trail, R_Name := (v1.getD v2.toNat dd_TRoutine).Name, R_Result := (v1.getD v2.toNat dd_TRoutine).Result, R_Params := (v1.getD v2.toNat dd_TRoutine).Params, R_Vars := (v1.getD v2.toNat dd_TRoutine).Vars, R_Inner := (v1.getD v2.toNat dd_TRoutine).Inner, R_Body := (v1.getD v2.toNat dd_TRoutine).Body, R_End := (v1.getD v2.toNat dd_TRoutine).End, T_Kind := 0, T_Size := 0, T_Name := { data := #[] : ByteArray } : Tr12_Thing }, ())).bind fun t7 => Lr12_Visible_2 s k x0 x1 j2 (t7) (v1) (Go.IntKind.i64.wrap (v2 + 1))) else none) else none) else none) else none) else some (v0))
def B_r12_Visible (s : Fam) (k : Nat) (x0 : List Tr12_Thing) (x1 : List TRoutine) : Option (List Tr12_Thing) := Lr12_Visible_2 s k x0 x1 k (x0) (x1) (0)
theorem Lr12_Visible_2_eq (s : Fam) (k : Nat) (x0 : List Tr12_Thing) (x1 : List TRoutine) : ∀ (j2 : Nat) (v0 : List Tr12_Thing) (v1 : List TRoutine) (v2 : Int), (loopGo EE (sp s) h_r12_Visible co_r12_Visible [] k Tryz.f46 2 [] j2 ({ tmps := ofL AV.any [(0, AV.c (CV.d (DV.sl 118 v0))), (1, AV.c (CV.d (DV.sl 90 v1))), (5, AV.c (CV.d (DV.lit (Go.Value.int Go.IntKind.i64 v2))))], boxes := ofL Option.none [], objs := ofL Option.none [], fxs := ofL Option.none [] : AS II })).run = (Lr12_Visible_2 s k x0 x1 j2 v0 v1 v2).map rc_r12_Visible.enc := by
  intro j2
  induction j2 with
  | zero => intros; rfl
  | succ j2 ih =>
    intros
    simp only [Lr12_Visible_2, map_ite, map_bindO, map_someO, map_noneO, ← ih]
    kernel_rfl
theorem e_r12_Visible (s : Fam) (k : Nat) (x : a_r12_Visible) : (evFunC EE (sp s) h_r12_Visible co_r12_Visible k Tryz.f46 (c_r12_Visible.enc x)).run = (B_r12_Visible s k x.1 x.2.1).map rc_r12_Visible.enc := by
  simp only [B_r12_Visible, map_ite, map_bindO, map_someO, map_noneO, ← Lr12_Visible_2_eq]
  kernel_rfl
-- 13 nodes
def Lr07_ExprNames_3 (s : Fam) (k : Nat) (x0 : TExpr) : Nat → Int → Int → Int → ByteArray → ByteArray → List TExpr → List ByteArray → Option (List ByteArray)
  | 0, _, _, _, _, _, _, _ => none
  | j3 + 1, v0, v1, v2, v3, v4, v5, v6 => (if decide (v0 < (↑v5.length : Int)) = Bool.true then (if 0 ≤ v0 then (if v0 < (↑v5.length : Int) then ((s.f_r07_ExprNames ((v5.getD v0.toNat dd_TExpr).re, ())).bind fun t8 => (if (v6 ++ t8).length * 16 ≤ 140737488355328 then Lr07_ExprNames_3 s k x0 j3 (Go.IntKind.i64.wrap (v0 + 1)) (v1) (v2) (v3) (v4) (v5) (v6 ++ t8) else none)) else none) else none) else some (v6))
def B_r07_ExprNames (s : Fam) (k : Nat) (x0 : TExpr) : Option (List ByteArray) := ((s.f_r07_Parts (x0.Name, ())).bind fun t1 => ((s.f_r07_Parts (x0.Field, ())).bind fun t2 => (if (t1 ++ t2).length * 16 ≤ 140737488355328 then Lr07_ExprNames_3 s k x0 k (0) (x0.Op) (x0.N) (x0.Name) (x0.Field) (x0.L) (t1 ++ t2) else none)))
theorem Lr07_ExprNames_3_eq (s : Fam) (k : Nat) (x0 : TExpr) : ∀ (j3 : Nat) (v0 : Int) (v1 : Int) (v2 : Int) (v3 : ByteArray) (v4 : ByteArray) (v5 : List TExpr) (v6 : List ByteArray), (loopGo EE (sp s) h_r07_ExprNames co_r07_ExprNames [] k Tryz.f47 3 [] j3 ({ tmps := ofL AV.any [(1, AV.c (CV.ptr 1 0)), (3, AV.c (CV.own 3 0)), (4, AV.c (CV.d (DV.lit (Go.Value.int Go.IntKind.i64 v0))))], boxes := ofL Option.none [(1, Option.some [CV.d (DV.lit (Go.Value.int Go.IntKind.i64 v1)), CV.d (DV.lit (Go.Value.int Go.IntKind.i64 v2)), CV.d (DV.lit (Go.Value.string v3)), CV.d (DV.lit (Go.Value.string v4)), CV.d (DV.sl 95 v5)])], objs := ofL Option.none [(3, Option.some { ver := 0, t := 9, xs := v6 : Obj II }), (1099511631876, Option.none)], fxs := ofL Option.none [(1, Option.none)] : AS II })).run = (Lr07_ExprNames_3 s k x0 j3 v0 v1 v2 v3 v4 v5 v6).map rc_r07_ExprNames.enc := by
  intro j3
  induction j3 with
  | zero => intros; rfl
  | succ j3 ih =>
    intros
    simp only [Lr07_ExprNames_3, map_ite, map_bindO, map_someO, map_noneO, ← ih]
    kernel_rfl
theorem e_r07_ExprNames (s : Fam) (k : Nat) (x : a_r07_ExprNames) : (evFunC EE (sp s) h_r07_ExprNames co_r07_ExprNames k Tryz.f47 (c_r07_ExprNames.enc x)).run = (B_r07_ExprNames s k x.1).map rc_r07_ExprNames.enc := by
  simp only [B_r07_ExprNames, map_ite, map_bindO, map_someO, map_noneO, ← Lr07_ExprNames_3_eq]
  kernel_rfl
-- 15 nodes
def B_tree_mapper_program (s : Fam) (k : Nat) (x0 : Thing × Unit) (x1 : TProgram) : Option (TProgram × Thing × Unit) := ((s.f_tree_mapper_parts ((x0.fst, ()), x1.Name, ())).bind fun t1 => ((s.f_slices_Clone_string (x1.Before, ())).bind fun t2 => ((s.f_slices_Clone_string (x1.Mid, ())).bind fun t3 => ((s.f_slices_Clone_string (x1.After, ())).bind fun t4 => ((s.f_slices_Clone_string (x1.End, ())).bind fun t5 => ((s.f_tree_each_Rec (x1.Recs, (t1.snd.fst, ()), ())).bind fun t6 => ((s.f_tree_each_Var (x1.Vars, (t6.snd.fst, ()), ())).bind fun t7 => ((s.f_tree_each_Routine (x1.Routines, (t7.snd.fst, ()), ())).bind fun t8 => ((s.f_tree_each_Stmt (x1.Body, (t8.snd.fst, ()), ())).bind fun t9 => some (({ Name := t1.fst, Before := t2, Mid := t3, After := t4, Recs := t6.fst, Vars := t7.fst, Routines := t8.fst, Body := t9.fst, End := t5 : TProgram }, t9.snd.fst, ())))))))))))
theorem e_tree_mapper_program (s : Fam) (k : Nat) (x : a_tree_mapper_program) : (evFunC EE (sp s) h_tree_mapper_program co_tree_mapper_program k Tryz.f50 (c_tree_mapper_program.enc x)).run = (B_tree_mapper_program s k x.1 x.2.1).map rc_tree_mapper_program.enc := by
  simp only [B_tree_mapper_program, map_ite, map_bindO, map_someO, map_noneO]
  kernel_rfl
-- 10 nodes
def B_slices_Contains_string (s : Fam) (k : Nat) (x0 : List ByteArray) (x1 : ByteArray) : Option (Bool) := ((s.f_slices_Index_string (x0, x1, ())).bind fun t1 => some (decide (t1 ≥ 0)))
theorem e_slices_Contains_string (s : Fam) (k : Nat) (x : a_slices_Contains_string) : (evFunC EE (sp s) h_slices_Contains_string co_slices_Contains_string k Tryz.f53 (c_slices_Contains_string.enc x)).run = (B_slices_Contains_string s k x.1 x.2.1).map rc_slices_Contains_string.enc := by
  simp only [B_slices_Contains_string, map_ite, map_bindO, map_someO, map_noneO]
  kernel_rfl
-- 2 nodes
def Ltree_Rename_1_2 (s : Fam) (k : Nat) (x0 : ByteArray) (x1 : List TPair) : Nat → ByteArray → List TPair → Int → Int → Option (ByteArray)
  | 0, _, _, _, _ => none
  | j2 + 1, v0, v1, v2, v3 => (if decide (v3 < v2) = Bool.true then (if 0 ≤ v3 then (if v3 < (↑v1.length : Int) then (if ((v1.getD v3.toNat dd_TPair).Old.toList == v0.toList) = Bool.true then some ((v1.getD v3.toNat dd_TPair).New) else Ltree_Rename_1_2 s k x0 x1 j2 (v0) (v1) (v2) (Go.IntKind.i64.wrap (v3 + 1))) else none) else none) else some (v0))
def B_tree_Rename_1 (s : Fam) (k : Nat) (x0 : ByteArray) (x1 : List TPair) : Option (ByteArray) := Ltree_Rename_1_2 s k x0 x1 k (x0) (x1) ((↑x1.length : Int)) (0)
theorem Ltree_Rename_1_2_eq (s : Fam) (k : Nat) (x0 : ByteArray) (x1 : List TPair) : ∀ (j2 : Nat) (v0 : ByteArray) (v1 : List TPair) (v2 : Int) (v3 : Int), (loopGo EE (sp s) h_tree_Rename_1 co_tree_Rename_1 [] k Tryz.f55 2 [] j2 ({ tmps := ofL AV.any [(0, AV.c (CV.d (DV.lit (Go.Value.string v0)))), (6, AV.c (CV.d (DV.sl 58 v1))), (7, AV.c (CV.d (DV.lit (Go.Value.int Go.IntKind.i64 v2)))), (8, AV.c (CV.d (DV.lit (Go.Value.int Go.IntKind.i64 v3))))], boxes := ofL Option.none [], objs := ofL Option.none [(6, Option.none)], fxs := ofL Option.none [] : AS II })).run = (Ltree_Rename_1_2 s k x0 x1 j2 v0 v1 v2 v3).map rc_tree_Rename_1.enc := by
  intro j2
  induction j2 with
  | zero => intros; rfl
  | succ j2 ih =>
    intros
    simp only [Ltree_Rename_1_2, map_ite, map_bindO, map_someO, map_noneO, ← ih]
    kernel_rfl
theorem e_tree_Rename_1 (s : Fam) (k : Nat) (x : a_tree_Rename_1) : (evFunC EE (sp s) h_tree_Rename_1 co_tree_Rename_1 k Tryz.f55 (c_tree_Rename_1.enc x)).run = (B_tree_Rename_1 s k x.1 x.2.1).map rc_tree_Rename_1.enc := by
  simp only [B_tree_Rename_1, map_ite, map_bindO, map_someO, map_noneO, ← Ltree_Rename_1_2_eq]
  kernel_rfl
-- 10 nodes
def B_r04_All (s : Fam) (k : Nat) (x0 : Int) : Option (List ByteArray) := (if (x0 == 0) = Bool.true then some ([{ data := #[97, 110, 100] : ByteArray }, { data := #[97, 114, 114, 97, 121] : ByteArray }, { data := #[98, 101, 103, 105, 110] : ByteArray }, { data := #[98, 111, 111, 108, 101, 97, 110] : ByteArray }, { data := #[99, 104, 97, 114] : ByteArray }, { data := #[100, 105, 118] : ByteArray }, { data := #[100, 111] : ByteArray }, { data := #[100, 111, 119, 110, 116, 111] : ByteArray }, { data := #[101, 108, 115, 101] : ByteArray }, { data := #[101, 110, 100] : ByteArray }, { data := #[102, 97, 108, 115, 101] : ByteArray }, { data := #[102, 111, 114] : ByteArray }, { data := #[102, 111, 114, 119, 97, 114, 100] : ByteArray }, { data := #[102, 117, 110, 99, 116, 105, 111, 110] : ByteArray }, { data := #[105, 102] : ByteArray }, { data := #[105, 110, 116, 101, 103, 101, 114] : ByteArray }, { data := #[109, 111, 100] : ByteArray }, { data := #[110, 111, 116] : ByteArray }, { data := #[111, 102] : ByteArray }, { data := #[111, 114] : ByteArray }, { data := #[112, 114, 111, 99, 101, 100, 117, 114, 101] : ByteArray }, { data := #[112, 114, 111, 103, 114, 97, 109] : ByteArray }, { data := #[114, 101, 97, 100] : ByteArray }, { data := #[114, 101, 99, 111, 114, 100] : ByteArray }, { data := #[114, 101, 112, 101, 97, 116] : ByteArray }, { data := #[114, 101, 116, 117, 114, 110] : ByteArray }, { data := #[116, 104, 101, 110] : ByteArray }, { data := #[116, 111] : ByteArray }, { data := #[116, 114, 117, 101] : ByteArray }, { data := #[116, 121, 112, 101] : ByteArray }, { data := #[117, 110, 116, 105, 108] : ByteArray }, { data := #[118, 97, 114] : ByteArray }, { data := #[119, 104, 105, 108, 101] : ByteArray }, { data := #[119, 114, 105, 116, 101] : ByteArray }]) else (if (x0 == 1) = Bool.true then some ([{ data := #[98, 111, 111, 108] : ByteArray }, { data := #[99, 104, 97, 114] : ByteArray }, { data := #[100, 111] : ByteArray }, { data := #[100, 111, 119, 110, 116, 111] : ByteArray }, { data := #[101, 108, 115, 101] : ByteArray }, { data := #[102, 97, 108, 115, 101] : ByteArray }, { data := #[102, 111, 114] : ByteArray }, { data := #[103, 101, 116] : ByteArray }, { data := #[105, 102] : ByteArray }, { data := #[105, 110, 116] : ByteArray }, { data := #[109, 97, 105, 110] : ByteArray }, { data := #[112, 114, 111, 103, 114, 97, 109] : ByteArray }, { data := #[112, 117, 116] : ByteArray }, { data := #[114, 101, 116, 117, 114, 110] : ByteArray }, { data := #[115, 116, 114, 117, 99, 116] : ByteArray }, { data := #[116, 111] : ByteArray }, { data := #[116, 114, 117, 101] : ByteArray }, { data := #[117, 110, 116, 105, 108] : ByteArray }, { data := #[117, 112] : ByteArray }, { data := #[118, 111, 105, 100] : ByteArray }, { data := #[119, 104, 105, 108, 101] : ByteArray }]) else some ([])))
theorem e_r04_All (s : Fam) (k : Nat) (x : a_r04_All) : (evFunC EE (sp s) h_r04_All co_r04_All k Tryz.f56 (c_r04_All.enc x)).run = (B_r04_All s k x.1).map rc_r04_All.enc := by
  simp only [B_r04_All, map_ite, map_bindO, map_someO, map_noneO]
  kernel_rfl
-- 5 nodes
def Lr04_Check_4 (s : Fam) (k : Nat) (x0 : ByteArray) : Nat → ByteArray → Int → Option (Int)
  | 0, _, _ => none
  | j4 + 1, v0, v1 => (if decide (v1 < (↑v0.size : Int)) = Bool.true then (if 0 ≤ v1 then (if v1 < (↑v0.size : Int) then ((s.f_r04_Letter (bt v0 v1, v1 == 0, ())).bind fun t7 => (if (!t7) = Bool.true then some (11) else Lr04_Check_4 s k x0 j4 (v0) (Go.IntKind.i64.wrap (v1 + 1)))) else none) else none) else (if decide ((↑v0.size : Int) > 32) = Bool.true then some (3) else some (0)))
def B_r04_Check (s : Fam) (k : Nat) (x0 : ByteArray) : Option (Int) := (if (x0.toList == { data := #[] : ByteArray }.toList) = Bool.true then some (11) else Lr04_Check_4 s k x0 k (x0) (0))
theorem Lr04_Check_4_eq (s : Fam) (k : Nat) (x0 : ByteArray) : ∀ (j4 : Nat) (v0 : ByteArray) (v1 : Int), (loopGo EE (sp s) h_r04_Check co_r04_Check [] k Tryz.f60 4 [] j4 ({ tmps := ofL AV.any [(0, AV.c (CV.d (DV.lit (Go.Value.string v0)))), (3, AV.c (CV.d (DV.lit (Go.Value.int Go.IntKind.i64 v1))))], boxes := ofL Option.none [], objs := ofL Option.none [], fxs := ofL Option.none [] : AS II })).run = (Lr04_Check_4 s k x0 j4 v0 v1).map rc_r04_Check.enc := by
  intro j4
  induction j4 with
  | zero => intros; rfl
  | succ j4 ih =>
    intros
    simp only [Lr04_Check_4, map_ite, map_bindO, map_someO, map_noneO, ← ih]
    kernel_rfl
theorem e_r04_Check (s : Fam) (k : Nat) (x : a_r04_Check) : (evFunC EE (sp s) h_r04_Check co_r04_Check k Tryz.f60 (c_r04_Check.enc x)).run = (B_r04_Check s k x.1).map rc_r04_Check.enc := by
  simp only [B_r04_Check, map_ite, map_bindO, map_someO, map_noneO, ← Lr04_Check_4_eq]
  kernel_rfl
-- 15 nodes
def Lr02_Check_4 (s : Fam) (k : Nat) (x0 : ByteArray) : Nat → ByteArray → Int → Option (Int)
  | 0, _, _ => none
  | j4 + 1, v0, v1 => (if decide (v1 < (↑v0.size : Int)) = Bool.true then (if 0 ≤ v1 then (if v1 < (↑v0.size : Int) then ((s.f_r02_right (bt v0 v1, ())).bind fun t7 => (if (!t7) = Bool.true then some (8) else Lr02_Check_4 s k x0 j4 (v0) (Go.IntKind.i64.wrap (v1 + 1)))) else none) else none) else some (0))
def B_r02_Check (s : Fam) (k : Nat) (x0 : ByteArray) : Option (Int) := (if decide ((↑x0.size : Int) > 1024) = Bool.true then some (3) else Lr02_Check_4 s k x0 k (x0) (0))
theorem Lr02_Check_4_eq (s : Fam) (k : Nat) (x0 : ByteArray) : ∀ (j4 : Nat) (v0 : ByteArray) (v1 : Int), (loopGo EE (sp s) h_r02_Check co_r02_Check [] k Tryz.f61 4 [] j4 ({ tmps := ofL AV.any [(0, AV.c (CV.d (DV.lit (Go.Value.string v0)))), (3, AV.c (CV.d (DV.lit (Go.Value.int Go.IntKind.i64 v1))))], boxes := ofL Option.none [], objs := ofL Option.none [], fxs := ofL Option.none [] : AS II })).run = (Lr02_Check_4 s k x0 j4 v0 v1).map rc_r02_Check.enc := by
  intro j4
  induction j4 with
  | zero => intros; rfl
  | succ j4 ih =>
    intros
    simp only [Lr02_Check_4, map_ite, map_bindO, map_someO, map_noneO, ← ih]
    kernel_rfl
theorem e_r02_Check (s : Fam) (k : Nat) (x : a_r02_Check) : (evFunC EE (sp s) h_r02_Check co_r02_Check k Tryz.f61 (c_r02_Check.enc x)).run = (B_r02_Check s k x.1).map rc_r02_Check.enc := by
  simp only [B_r02_Check, map_ite, map_bindO, map_someO, map_noneO, ← Lr02_Check_4_eq]
  kernel_rfl
-- 13 nodes
def B_r07_Type (s : Fam) (k : Nat) (x0 : Int) (x1 : TType) : Option (Bool) := (if (x1.Kind == 4) = Bool.true then (if (x1.Size == 0) = Bool.true then ((s.f_r07_Name (x0, x1.Name, ())).bind fun t3 => some (Bool.true && t3)) else some (Bool.false)) else some (decide (x1.Kind ≥ 1) && decide (x1.Kind ≤ 3) && decide (x1.Size ≥ 0) && decide (x1.Size ≤ 64) && x1.Name.toList == { data := #[] : ByteArray }.toList))
theorem e_r07_Type (s : Fam) (k : Nat) (x : a_r07_Type) : (evFunC EE (sp s) h_r07_Type co_r07_Type k Tryz.f62 (c_r07_Type.enc x)).run = (B_r07_Type s k x.1 x.2.1).map rc_r07_Type.enc := by
  simp only [B_r07_Type, map_ite, map_bindO, map_someO, map_noneO]
  kernel_rfl
-- 7 nodes
def Lr07_Routine_5 (s : Fam) (k : Nat) (x0 : Int) (x1 : ByteArray) : Nat → Int → List ByteArray → Option (Bool)
  | 0, _, _ => none
  | j5 + 1, v0, v1 => (if decide (v0 < (↑v1.length : Int)) = Bool.true then (if 0 ≤ v0 then (if v0 < (↑v1.length : Int) then ((s.f_r07_Name (1, v1.getD v0.toNat { data := #[] : ByteArray }, ())).bind fun t9 => (if (!t9) = Bool.true then some (Bool.false) else Lr07_Routine_5 s k x0 x1 j5 (Go.IntKind.i64.wrap (v0 + 1)) (v1))) else none) else none) else some (Bool.true))
def B_r07_Routine (s : Fam) (k : Nat) (x0 : Int) (x1 : ByteArray) : Option (Bool) := (if (x0 == 0) = Bool.true then ((s.f_r07_Name (0, x1, ())).bind fun t2 => some (t2)) else ((s.f_r07_Parts (x1, ())).bind fun t4 => Lr07_Routine_5 s k x0 x1 k (0) (t4)))
theorem Lr07_Routine_5_eq (s : Fam) (k : Nat) (x0 : Int) (x1 : ByteArray) : ∀ (j5 : Nat) (v0 : Int) (v1 : List ByteArray), (loopGo EE (sp s) h_r07_Routine co_r07_Routine [] k Tryz.f63 5 [] j5 ({ tmps := ofL AV.any [(5, AV.c (CV.own 5 0)), (6, AV.c (CV.d (DV.lit (Go.Value.int Go.IntKind.i64 v0))))], boxes := ofL Option.none [], objs := ofL Option.none [(5, Option.some { ver := 0, t := 9, xs := v1 : Obj II })], fxs := ofL Option.none [] : AS II })).run = (Lr07_Routine_5 s k x0 x1 j5 v0 v1).map rc_r07_Routine.enc := by
  intro j5
  induction j5 with
  | zero => intros; rfl
  | succ j5 ih =>
    intros
    simp only [Lr07_Routine_5, map_ite, map_bindO, map_someO, map_noneO, ← ih]
    kernel_rfl
theorem e_r07_Routine (s : Fam) (k : Nat) (x : a_r07_Routine) : (evFunC EE (sp s) h_r07_Routine co_r07_Routine k Tryz.f63 (c_r07_Routine.enc x)).run = (B_r07_Routine s k x.1 x.2.1).map rc_r07_Routine.enc := by
  simp only [B_r07_Routine, map_ite, map_bindO, map_someO, map_noneO, ← Lr07_Routine_5_eq]
  kernel_rfl
-- 15 nodes
def Lr07_params_2 (s : Fam) (k : Nat) (x0 : Int) (x1 : List TParam) : Nat → Int → List TParam → Int → Option (Bool)
  | 0, _, _, _ => none
  | j2 + 1, v0, v1, v2 => (if decide (v2 < (↑v1.length : Int)) = Bool.true then (if 0 ≤ v2 then (if v2 < (↑v1.length : Int) then ((s.f_r07_Name (v0, (v1.getD v2.toNat dd_TParam).Name, ())).bind fun t5 => (if (!t5) = Bool.false then ((s.f_r07_Type (v0, (v1.getD v2.toNat dd_TParam).sub_T, ())).bind fun t7 => (if (Bool.false || !t7 || decide ((v1.getD v2.toNat dd_TParam).Mode < 0) || decide ((v1.getD v2.toNat dd_TParam).Mode > 2) || (v1.getD v2.toNat dd_TParam).Mode == 2 && v0 == 0) = Bool.true then some (Bool.false) else (if ((v1.getD v2.toNat dd_TParam).Mode == 0 && ((v1.getD v2.toNat dd_TParam).T_Size != 0 || (v1.getD v2.toNat dd_TParam).T_Kind == 4)) = Bool.false then (if ((v1.getD v2.toNat dd_TParam).Mode != 2 && decide (v2 > 0)) = Bool.true then (if 0 ≤ Go.IntKind.i64.wrap (v2 - 1) then (if Go.IntKind.i64.wrap (v2 - 1) < (↑v1.length : Int) then (if (Bool.false || Bool.true && (v1.getD (Go.IntKind.i64.wrap (v2 - 1)).toNat dd_TParam).Mode == 2) = Bool.true then some (Bool.false) else Lr07_params_2 s k x0 x1 j2 (v0) (v1) (Go.IntKind.i64.wrap (v2 + 1))) else none) else none) else Lr07_params_2 s k x0 x1 j2 (v0) (v1) (Go.IntKind.i64.wrap (v2 + 1))) else some (Bool.false)))) else some (Bool.false))) else none) else none) else some (decide ((↑v1.length : Int) ≤ 512)))
def B_r07_params (s : Fam) (k : Nat) (x0 : Int) (x1 : List TParam) : Option (Bool) := Lr07_params_2 s k x0 x1 k (x0) (x1) (0)
theorem Lr07_params_2_eq (s : Fam) (k : Nat) (x0 : Int) (x1 : List TParam) : ∀ (j2 : Nat) (v0 : Int) (v1 : List TParam) (v2 : Int), (loopGo EE (sp s) h_r07_params co_r07_params [] k Tryz.f64 2 [] j2 ({ tmps := ofL AV.any [(0, AV.c (CV.d (DV.lit (Go.Value.int Go.IntKind.i64 v0)))), (1, AV.c (CV.d (DV.sl 92 v1))), (5, AV.c (CV.d (DV.lit (Go.Value.int Go.IntKind.i64 v2))))], boxes := ofL Option.none [], objs := ofL Option.none [], fxs := ofL Option.none [] : AS II })).run = (Lr07_params_2 s k x0 x1 j2 v0 v1 v2).map rc_r07_params.enc := by
  intro j2
  induction j2 with
  | zero => intros; rfl
  | succ j2 ih =>
    intros
    simp only [Lr07_params_2, map_ite, map_bindO, map_someO, map_noneO, ← ih]
    kernel_rfl
theorem e_r07_params (s : Fam) (k : Nat) (x : a_r07_params) : (evFunC EE (sp s) h_r07_params co_r07_params k Tryz.f64 (c_r07_params.enc x)).run = (B_r07_params s k x.1 x.2.1).map rc_r07_params.enc := by
  simp only [B_r07_params, map_ite, map_bindO, map_someO, map_noneO, ← Lr07_params_2_eq]
  kernel_rfl
-- 36 nodes
def Lr07_Stmt_14 (s : Fam) (k : Nat) (x0 : Int) (x1 : TStmt) (x2 : Int) : Nat → Int → Int → Int → List ByteArray → List ByteArray → Int → ByteArray → Int → Int → ByteArray → ByteArray → List TExpr → List TExpr → Bool → Bool → List TStmt → List TStmt → List ByteArray → List ByteArray → Option (Bool)
  | 0, _, _, _, _, _, _, _, _, _, _, _, _, _, _, _, _, _, _, _ => none
  | j14 + 1, v0, v1, v2, v3, v4, v5, v6, v7, v8, v9, v10, v11, v12, v13, v14, v15, v16, v17, v18 => (if decide (v2 < (↑v12.length : Int)) = Bool.true then (if 0 ≤ v2 then (if v2 < (↑v12.length : Int) then ((s.f_r07_Expr (v0, (v12.getD v2.toNat dd_TExpr).re, ())).bind fun t16 => (if (!t16) = Bool.false then (if (v5 == 2) = Bool.true then (if 0 ≤ v2 then (if v2 < (↑v12.length : Int) then (if (Bool.false || Bool.true && (v12.getD v2.toNat dd_TExpr).Op != 7) = Bool.true then some (Bool.false) else Lr07_Stmt_14 s k x0 x1 x2 j14 (v0) (v1) (Go.IntKind.i64.wrap (v2 + 1)) (v3) (v4) (v5) (v6) (v7) (v8) (v9) (v10) (v11) (v12) (v13) (v14) (v15) (v16) (v17) (v18)) else none) else none) else Lr07_Stmt_14 s k x0 x1 x2 j14 (v0) (v1) (Go.IntKind.i64.wrap (v2 + 1)) (v3) (v4) (v5) (v6) (v7) (v8) (v9) (v10) (v11) (v12) (v13) (v14) (v15) (v16) (v17) (v18)) else some (Bool.false))) else none) else none) else (if (v5 == 1 || v5 == 7) = Bool.true then ((s.f_r07_place (v0, { Op := v7, N := v8, Name := v9, Field := v10, L := v11 : TExpr }, ())).bind fun t40 => (if (!t40) = Bool.true then some (Bool.false) else (if (v5 == 6) = Bool.true then ((s.f_r07_Name (v0, v6, ())).bind fun t44 => (if (!t44) = Bool.true then some (Bool.false) else (if (v14 && v5 != 3) = Bool.false then (if (!v14) = Bool.true then (if (Bool.false || Bool.true && (decide ((↑v16.length : Int) > 0) || decide ((↑v18.length : Int) > 0))) = Bool.true then some (Bool.false) else (if (decide (v5 < 3) || decide (v5 > 6)) = Bool.true then (if (Bool.true && (decide ((↑v15.length : Int) > 0) || decide ((↑v17.length : Int) > 0))) = Bool.true then some (Bool.false) else ((s.f_r07_Stmts (v0, v15, Go.IntKind.i64.wrap (v1 + 1), ())).bind fun t54 => (if t54 = Bool.true then ((s.f_r07_Stmts (v0, v16, Go.IntKind.i64.wrap (v1 + 1), ())).bind fun t56 => some (Bool.true && t56)) else some (Bool.false)))) else ((s.f_r07_Stmts (v0, v15, Go.IntKind.i64.wrap (v1 + 1), ())).bind fun t63 => (if t63 = Bool.true then ((s.f_r07_Stmts (v0, v16, Go.IntKind.i64.wrap (v1 + 1), ())).bind fun t65 => some (Bool.true && t65)) else some (Bool.false))))) else (if (decide (v5 < 3) || decide (v5 > 6)) = Bool.true then (if (Bool.true && (decide ((↑v15.length : Int) > 0) || decide ((↑v17.length : Int) > 0))) = Bool.true then some (Bool.false) else ((s.f_r07_Stmts (v0, v15, Go.IntKind.i64.wrap (v1 + 1), ())).bind fun t76 => (if t76 = Bool.true then ((s.f_r07_Stmts (v0, v16, Go.IntKind.i64.wrap (v1 + 1), ())).bind fun t78 => some (Bool.true && t78)) else some (Bool.false)))) else ((s.f_r07_Stmts (v0, v15, Go.IntKind.i64.wrap (v1 + 1), ())).bind fun t85 => (if t85 = Bool.true then ((s.f_r07_Stmts (v0, v16, Go.IntKind.i64.wrap (v1 + 1), ())).bind fun t87 => some (Bool.true && t87)) else some (Bool.false))))) else some (Bool.false)))) else (if (!v6.toList == { data := #[] : ByteArray }.toList || v13) = Bool.true then some (Bool.false) else (if (v14 && v5 != 3) = Bool.false then (if (!v14) = Bool.true then (if (Bool.false || Bool.true && (decide ((↑v16.length : Int) > 0) || decide ((↑v18.length : Int) > 0))) = Bool.true then some (Bool.false) else (if (decide (v5 < 3) || decide (v5 > 6)) = Bool.true then (if (Bool.true && (decide ((↑v15.length : Int) > 0) || decide ((↑v17.length : Int) > 0))) = Bool.true then some (Bool.false) else ((s.f_r07_Stmts (v0, v15, Go.IntKind.i64.wrap (v1 + 1), ())).bind fun t104 => (if t104 = Bool.true then ((s.f_r07_Stmts (v0, v16, Go.IntKind.i64.wrap (v1 + 1), ())).bind fun t106 => some (Bool.true && t106)) else some (Bool.false)))) else ((s.f_r07_Stmts (v0, v15, Go.IntKind.i64.wrap (v1 + 1), ())).bind fun t113 => (if t113 = Bool.true then ((s.f_r07_Stmts (v0, v16, Go.IntKind.i64.wrap (v1 + 1), ())).bind fun t115 => some (Bool.true && t115)) else some (Bool.false))))) else (if (decide (v5 < 3) || decide (v5 > 6)) = Bool.true then (if (Bool.true && (decide ((↑v15.length : Int) > 0) || decide ((↑v17.length : Int) > 0))) = Bool.true then some (Bool.false) else ((s.f_r07_Stmts (v0, v15, Go.IntKind.i64.wrap (v1 + 1), ())).bind fun t126 => (if t126 = Bool.true then ((s.f_r07_Stmts (v0, v16, Go.IntKind.i64.wrap (v1 + 1), ())).bind fun t128 => some (Bool.true && t128)) else some (Bool.false)))) else ((s.f_r07_Stmts (v0, v15, Go.IntKind.i64.wrap (v1 + 1), ())).bind fun t135 => (if t135 = Bool.true then ((s.f_r07_Stmts (v0, v16, Go.IntKind.i64.wrap (v1 + 1), ())).bind fun t137 => some (Bool.true && t137)) else some (Bool.false))))) else some (Bool.false)))))) else ((s.f_r07_none ({ Op := v7, N := v8, Name := v9, Field := v10, L := v11 : TExpr }, ())).bind fun t145 => (if (!t145) = Bool.true then some (Bool.false) else (if (v5 == 6) = Bool.true then ((s.f_r07_Name (v0, v6, ())).bind fun t149 => (if (!t149) = Bool.true then some (Bool.false) else (if (v14 && v5 != 3) = Bool.false then (if (!v14) = Bool.true then (if (Bool.false || Bool.true && (decide ((↑v16.length : Int) > 0) || decide ((↑v18.length : Int) > 0))) = Bool.true then some (Bool.false) else (if (decide (v5 < 3) || decide (v5 > 6)) = Bool.true then (if (Bool.true && (decide ((↑v15.length : Int) > 0) || decide ((↑v17.length : Int) > 0))) = Bool.true then some (Bool.false) else ((s.f_r07_Stmts (v0, v15, Go.IntKind.i64.wrap (v1 + 1), ())).bind fun t159 => (if t159 = Bool.true then ((s.f_r07_Stmts (v0, v16, Go.IntKind.i64.wrap (v1 + 1), ())).bind fun t161 => some (Bool.true && t161)) else some (Bool.false)))) else ((s.f_r07_Stmts (v0, v15, Go.IntKind.i64.wrap (v1 + 1), ())).bind fun t168 => (if t168 = Bool.true then ((s.f_r07_Stmts (v0, v16, Go.IntKind.i64.wrap (v1 + 1), ())).bind fun t170 => some (Bool.true && t170)) else some (Bool.false))))) else (if (decide (v5 < 3) || decide (v5 > 6)) = Bool.true then (if (Bool.true && (decide ((↑v15.length : Int) > 0) || decide ((↑v17.length : Int) > 0))) = Bool.true then some (Bool.false) else ((s.f_r07_Stmts (v0, v15, Go.IntKind.i64.wrap (v1 + 1), ())).bind fun t181 => (if t181 = Bool.true then ((s.f_r07_Stmts (v0, v16, Go.IntKind.i64.wrap (v1 + 1), ())).bind fun t183 => some (Bool.true && t183)) else some (Bool.false)))) else ((s.f_r07_Stmts (v0, v15, Go.IntKind.i64.wrap (v1 + 1), ())).bind fun t190 => (if t190 = Bool.true then ((s.f_r07_Stmts (v0, v16, Go.IntKind.i64.wrap (v1 + 1), ())).bind fun t192 => some (Bool.true && t192)) else some (Bool.false))))) else some (Bool.false)))) else (if (!v6.toList == { data := #[] : ByteArray }.toList || v13) = Bool.true then some (Bool.false) else (if (v14 && v5 != 3) = Bool.false then (if (!v14) = Bool.true then (if (Bool.false || Bool.true && (decide ((↑v16.length : Int) > 0) || decide ((↑v18.length : Int) > 0))) = Bool.true then some (Bool.false) else (if (decide (v5 < 3) || decide (v5 > 6)) = Bool.true then (if (Bool.true && (decide ((↑v15.length : Int) > 0) || decide ((↑v17.length : Int) > 0))) = Bool.true then some (Bool.false) else ((s.f_r07_Stmts (v0, v15, Go.IntKind.i64.wrap (v1 + 1), ())).bind fun t209 => (if t209 = Bool.true then ((s.f_r07_Stmts (v0, v16, Go.IntKind.i64.wrap (v1 + 1), ())).bind fun t211 => some (Bool.true && t211)) else some (Bool.false)))) else ((s.f_r07_Stmts (v0, v15, Go.IntKind.i64.wrap (v1 + 1), ())).bind fun t218 => (if t218 = Bool.true then ((s.f_r07_Stmts (v0, v16, Go.IntKind.i64.wrap (v1 + 1), ())).bind fun t220 => some (Bool.true && t220)) else some (Bool.false))))) else (if (decide (v5 < 3) || decide (v5 > 6)) = Bool.true then (if (Bool.true && (decide ((↑v15.length : Int) > 0) || decide ((↑v17.length : Int) > 0))) = Bool.true then some (Bool.false) else ((s.f_r07_Stmts (v0, v15, Go.IntKind.i64.wrap (v1 + 1), ())).bind fun t231 => (if t231 = Bool.true then ((s.f_r07_Stmts (v0, v16, Go.IntKind.i64.wrap (v1 + 1), ())).bind fun t233 => some (Bool.true && t233)) else some (Bool.false)))) else ((s.f_r07_Stmts (v0, v15, Go.IntKind.i64.wrap (v1 + 1), ())).bind fun t240 => (if t240 = Bool.true then ((s.f_r07_Stmts (v0, v16, Go.IntKind.i64.wrap (v1 + 1), ())).bind fun t242 => some (Bool.true && t242)) else some (Bool.false))))) else some (Bool.false))))))))
def B_r07_Stmt (s : Fam) (k : Nat) (x0 : Int) (x1 : TStmt) (x2 : Int) : Option (Bool) := (if decide (x2 > 48) = Bool.false then ((s.f_r07_marks (x1.sub_Marks, ())).bind fun t2 => (if (Bool.false || !t2) = Bool.false then ((s.f_r07_notes (x1.End, ())).bind fun t4 => (if (Bool.false || !t4) = Bool.false then ((s.f_r07_notes (x1.End2, ())).bind fun t6 => (if (Bool.false || !t6 || decide (x1.Op < 1) || decide (x1.Op > 9)) = Bool.true then some (Bool.false) else (if (x1.Op == 6) = Bool.true then (if (decide ((↑x1.E.length : Int) < 2) || decide ((↑x1.E.length : Int) > 2)) = Bool.true then some (Bool.false) else Lr07_Stmt_14 s k x0 x1 x2 k (x0) (x2) (0) (x1.Marks_Before) (x1.Marks_Trail) (x1.Op) (x1.Name) (x1.P_Op) (x1.P_N) (x1.P_Name) (x1.P_Field) (x1.P_L) (x1.E) (x1.Down) (x1.More) (x1.Body) (x1.Else) (x1.End) (x1.End2)) else (if (x1.Op == 7) = Bool.true then (if (decide ((↑x1.E.length : Int) < 0) || decide ((↑x1.E.length : Int) > 0)) = Bool.true then some (Bool.false) else Lr07_Stmt_14 s k x0 x1 x2 k (x0) (x2) (0) (x1.Marks_Before) (x1.Marks_Trail) (x1.Op) (x1.Name) (x1.P_Op) (x1.P_N) (x1.P_Name) (x1.P_Field) (x1.P_L) (x1.E) (x1.Down) (x1.More) (x1.Body) (x1.Else) (x1.End) (x1.End2)) else (if (x1.Op == 9) = Bool.true then (if (decide ((↑x1.E.length : Int) < 0) || decide ((↑x1.E.length : Int) > 1)) = Bool.true then some (Bool.false) else Lr07_Stmt_14 s k x0 x1 x2 k (x0) (x2) (0) (x1.Marks_Before) (x1.Marks_Trail) (x1.Op) (x1.Name) (x1.P_Op) (x1.P_N) (x1.P_Name) (x1.P_Field) (x1.P_L) (x1.E) (x1.Down) (x1.More) (x1.Body) (x1.Else) (x1.End) (x1.End2)) else (if (decide ((↑x1.E.length : Int) < 1) || decide ((↑x1.E.length : Int) > 1)) = Bool.true then some (Bool.false) else Lr07_Stmt_14 s k x0 x1 x2 k (x0) (x2) (0) (x1.Marks_Before) (x1.Marks_Trail) (x1.Op) (x1.Name) (x1.P_Op) (x1.P_N) (x1.P_Name) (x1.P_Field) (x1.P_L) (x1.E) (x1.Down) (x1.More) (x1.Body) (x1.Else) (x1.End) (x1.End2))))))) else some (Bool.false))) else some (Bool.false))) else some (Bool.false))
theorem Lr07_Stmt_14_eq (s : Fam) (k : Nat) (x0 : Int) (x1 : TStmt) (x2 : Int) : ∀ (j14 : Nat) (v0 : Int) (v1 : Int) (v2 : Int) (v3 : List ByteArray) (v4 : List ByteArray) (v5 : Int) (v6 : ByteArray) (v7 : Int) (v8 : Int) (v9 : ByteArray) (v10 : ByteArray) (v11 : List TExpr) (v12 : List TExpr) (v13 : Bool) (v14 : Bool) (v15 : List TStmt) (v16 : List TStmt) (v17 : List ByteArray) (v18 : List ByteArray), (loopGo EE (sp s) h_r07_Stmt co_r07_Stmt [] k Tryz.f65 14 [] j14 ({ tmps := ofL AV.any [(0, AV.c (CV.d (DV.lit (Go.Value.int Go.IntKind.i64 v0)))), (2, AV.c (CV.d (DV.lit (Go.Value.int Go.IntKind.i64 v1)))), (4, AV.c (CV.ptr 4 0)), (9, AV.c (CV.d (DV.lit (Go.Value.int Go.IntKind.i64 v2))))], boxes := ofL Option.none [(4, Option.some [CV.d (DV.sl 9 v3), CV.d (DV.sl 9 v4), CV.d (DV.lit (Go.Value.int Go.IntKind.i64 v5)), CV.d (DV.lit (Go.Value.string v6)), CV.d (DV.lit (Go.Value.int Go.IntKind.i64 v7)), CV.d (DV.lit (Go.Value.int Go.IntKind.i64 v8)), CV.d (DV.lit (Go.Value.string v9)), CV.d (DV.lit (Go.Value.string v10)), CV.d (DV.sl 95 v11), CV.d (DV.sl 95 v12), CV.d (DV.lit (Go.Value.bool v13)), CV.d (DV.lit (Go.Value.bool v14)), CV.d (DV.sl 97 v15), CV.d (DV.sl 97 v16), CV.d (DV.sl 9 v17), CV.d (DV.sl 9 v18)])], objs := ofL Option.none [(1099511644160, Option.none), (1099511644161, Option.none), (1099511644168, Option.none), (1099511644169, Option.none), (1099511644172, Option.none), (1099511644173, Option.none), (1099511644174, Option.none), (1099511644175, Option.none)], fxs := ofL Option.none [(4, Option.none)] : AS II })).run = (Lr07_Stmt_14 s k x0 x1 x2 j14 v0 v1 v2 v3 v4 v5 v6 v7 v8 v9 v10 v11 v12 v13 v14 v15 v16 v17 v18).map rc_r07_Stmt.enc := by
  intro j14
  induction j14 with
  | zero => intros; rfl
  | succ j14 ih =>
    intros
    simp only [Lr07_Stmt_14, map_ite, map_bindO, map_someO, map_noneO, ← ih]
    kernel_rfl
theorem e_r07_Stmt (s : Fam) (k : Nat) (x : a_r07_Stmt) : (evFunC EE (sp s) h_r07_Stmt co_r07_Stmt k Tryz.f65 (c_r07_Stmt.enc x)).run = (B_r07_Stmt s k x.1 x.2.1 x.2.2.1).map rc_r07_Stmt.enc := by
  simp only [B_r07_Stmt, map_ite, map_bindO, map_someO, map_noneO, ← Lr07_Stmt_14_eq]
  kernel_rfl
-- 281 nodes
def B_r12_Look_next (s : Fam) (k : Nat) (x0 : Int × Int × Unit) : Option (Bool × (Int × Int × Unit) × Unit) := (if (x0.snd.fst != 0) = Bool.true then some ((Bool.false, (x0.fst, x0.snd.fst, ()), ())) else some ((Bool.true, (Go.IntKind.i64.wrap (x0.fst + 1), x0.snd.fst, ()), ())))
theorem e_r12_Look_next (s : Fam) (k : Nat) (x : a_r12_Look_next) : (evFunC EE (sp s) h_r12_Look_next co_r12_Look_next k Tryz.f66 (c_r12_Look_next.enc x)).run = (B_r12_Look_next s k x.1).map rc_r12_Look_next.enc := by
  simp only [B_r12_Look_next, map_ite, map_bindO, map_someO, map_noneO]
  kernel_rfl
-- 3 nodes
end Go.Ev
end
section
open Go Go.Proofs
namespace Go.Ev
set_option linter.unusedVariables false
set_option linter.unusedSimpArgs false
set_option maxHeartbeats 4000000
set_option maxRecDepth 100000
def Lr12_find_2 (s : Fam) (k : Nat) (x0 : List Tr12_Thing) (x1 : ByteArray) : Nat → List Tr12_Thing → ByteArray → Int → ByteArray → Int → ByteArray → ByteArray → Int → Int → Int → ByteArray → List ByteArray → List ByteArray → List TField → List ByteArray → List ByteArray → List ByteArray → List TParam → List TVar → List TRoutine → List TStmt → List ByteArray → Option (Tr12_Thing)
  | 0, _, _, _, _, _, _, _, _, _, _, _, _, _, _, _, _, _, _, _, _, _, _ => none
  | j2 + 1, v0, v1, v2, v3, v4, v5, v6, v7, v8, v9, v10, v11, v12, v13, v14, v15, v16, v17, v18, v19, v20, v21 => (if decide (v2 < (↑v0.length : Int)) = Bool.true then (if 0 ≤ v2 then (if v2 < (↑v0.length : Int) then (if ((v0.getD v2.toNat dd_Tr12_Thing).Name.toList == v1.toList) = Bool.true then (if 0 ≤ v2 then (if v2 < (↑v0.length : Int) then some (v0.getD v2.toNat dd_Tr12_Thing) else none) else none) else Lr12_find_2 s k x0 x1 j2 (v0) (v1) (Go.IntKind.i64.wrap (v2 + 1)) (v3) (v4) (v5) (v6) (v7) (v8) (v9) (v10) (v11) (v12) (v13) (v14) (v15) (v16) (v17) (v18) (v19) (v20) (v21)) else none) else none) else some ({ Name := { data := #[] : ByteArray }, Kind := 0, Rec_Marks_Before := [], Rec_Marks_Trail := [], Rec_Name := { data := #[] : ByteArray }, Rec_Fields := [], Rec_End := [], R_Marks_Before := [], R_Marks_Trail := [], R_Name := { data := #[] : ByteArray }, R_Result := 0, R_Params := [], R_Vars := [], R_Inner := [], R_Body := [], R_End := [], T_Kind := 0, T_Size := 0, T_Name := { data := #[] : ByteArray } : Tr12_Thing }))
def B_r12_find (s : Fam) (k : Nat) (x0 : List Tr12_Thing) (x1 : ByteArray) : Option (Tr12_Thing) := Lr12_find_2 s k x0 x1 k (x0) (x1) (0) ({ data := #[] : ByteArray }) (0) ({ data := #[] : ByteArray }) ({ data := #[] : ByteArray }) (0) (0) (0) ({ data := #[] : ByteArray }) ([]) ([]) ([]) ([]) ([]) ([]) ([]) ([]) ([]) ([]) ([])
theorem Lr12_find_2_eq (s : Fam) (k : Nat) (x0 : List Tr12_Thing) (x1 : ByteArray) : ∀ (j2 : Nat) (v0 : List Tr12_Thing) (v1 : ByteArray) (v2 : Int) (v3 : ByteArray) (v4 : Int) (v5 : ByteArray) (v6 : ByteArray) (v7 : Int) (v8 : Int) (v9 : Int) (v10 : ByteArray) (v11 : List ByteArray) (v12 : List ByteArray) (v13 : List TField) (v14 : List ByteArray) (v15 : List ByteArray) (v16 : List ByteArray) (v17 : List TParam) (v18 : List TVar) (v19 : List TRoutine) (v20 : List TStmt) (v21 : List ByteArray), (loopGo EE (sp s) h_r12_find co_r12_find [] k Tryz.f67 2 [] j2 ({ tmps := ofL AV.any [(0, AV.c (CV.d (DV.sl 118 v0))), (1, AV.c (CV.d (DV.lit (Go.Value.string v1)))), (4, AV.c (CV.ptr 4 0)), (5, AV.c (CV.d (DV.lit (Go.Value.int Go.IntKind.i64 v2))))], boxes := ofL Option.none [(4, Option.some [CV.d (DV.lit (Go.Value.string v3)), CV.d (DV.lit (Go.Value.int Go.IntKind.i64 v4)), CV.own 1099511644162 0, CV.own 1099511644163 0, CV.d (DV.lit (Go.Value.string v5)), CV.own 1099511644165 0, CV.own 1099511644166 0, CV.own 1099511644167 0, CV.own 1099511644168 0, CV.d (DV.lit (Go.Value.string v6)), CV.d (DV.lit (Go.Value.int Go.IntKind.i64 v7)), CV.own 1099511644171 0, CV.own 1099511644172 0, CV.own 1099511644173 0, CV.own 1099511644174 0, CV.own 1099511644175 0, CV.d (DV.lit (Go.Value.int Go.IntKind.i64 v8)), CV.d (DV.lit (Go.Value.int Go.IntKind.i64 v9)), CV.d (DV.lit (Go.Value.string v10))])], objs := ofL Option.none [(1099511644162, Option.some { ver := 0, t := 9, xs := v11 : Obj II }), (1099511644163, Option.some { ver := 0, t := 9, xs := v12 : Obj II }), (1099511644165, Option.some { ver := 0, t := 48, xs := v13 : Obj II }), (1099511644166, Option.some { ver := 0, t := 9, xs := v14 : Obj II }), (1099511644167, Option.some { ver := 0, t := 9, xs := v15 : Obj II }), (1099511644168, Option.some { ver := 0, t := 9, xs := v16 : Obj II }), (1099511644171, Option.some { ver := 0, t := 92, xs := v17 : Obj II }), (1099511644172, Option.some { ver := 0, t := 56, xs := v18 : Obj II }), (1099511644173, Option.some { ver := 0, t := 90, xs := v19 : Obj II }), (1099511644174, Option.some { ver := 0, t := 97, xs := v20 : Obj II }), (1099511644175, Option.some { ver := 0, t := 9, xs := v21 : Obj II })], fxs := ofL Option.none [(4, Option.none)] : AS II })).run = (Lr12_find_2 s k x0 x1 j2 v0 v1 v2 v3 v4 v5 v6 v7 v8 v9 v10 v11 v12 v13 v14 v15 v16 v17 v18 v19 v20 v21).map rc_r12_find.enc := by
  intro j2
  induction j2 with
  | zero => intros; rfl
  | succ j2 ih =>
    intros
    simp only [Lr12_find_2, map_ite, map_bindO, map_someO, map_noneO, ← ih]
    kernel_rfl
theorem e_r12_find (s : Fam) (k : Nat) (x : a_r12_find) : (evFunC EE (sp s) h_r12_find co_r12_find k Tryz.f67 (c_r12_find.enc x)).run = (B_r12_find s k x.1 x.2.1).map rc_r12_find.enc := by
  simp only [B_r12_find, map_ite, map_bindO, map_someO, map_noneO, ← Lr12_find_2_eq]
  kernel_rfl
-- 14 nodes
def B_r12_Look_fail (s : Fam) (k : Nat) (x0 : Int × Int × Unit) (x1 : Int) : Option (Unit × (Int × Int × Unit) × Unit) := (if (x0.snd.fst == 0) = Bool.true then some (((), (x0.fst, x1, ()), ())) else some (((), (x0.fst, x0.snd.fst, ()), ())))
theorem e_r12_Look_fail (s : Fam) (k : Nat) (x : a_r12_Look_fail) : (evFunC EE (sp s) h_r12_Look_fail co_r12_Look_fail k Tryz.f68 (c_r12_Look_fail.enc x)).run = (B_r12_Look_fail s k x.1 x.2.1).map rc_r12_Look_fail.enc := by
  simp only [B_r12_Look_fail, map_ite, map_bindO, map_someO, map_noneO]
  kernel_rfl
-- 3 nodes
def B_r12_with (s : Fam) (k : Nat) (x0 : List Tr12_Thing) (x1 : Tr12_Thing) : Option (List Tr12_Thing) := (if ([] ++ x0).length * 360 ≤ 140737488355328 then (if ([] ++ x0 ++ [x1]).length * 360 ≤ 140737488355328 then some ([] ++ x0 ++ [x1]) else none) else none)
theorem e_r12_with (s : Fam) (k : Nat) (x : a_r12_with) : (evFunC EE (sp s) h_r12_with co_r12_with k Tryz.f69 (c_r12_with.enc x)).run = (B_r12_with s k x.1 x.2.1).map rc_r12_with.enc := by
  simp only [B_r12_with, map_ite, map_bindO, map_someO, map_noneO]
  kernel_rfl
-- 5 nodes
def B_r12_Look_typ (s : Fam) (k : Nat) (x0 : Int × Int × Unit) (x1 : List Tr12_Thing) (x2 : TType) : Option (Unit × (Int × Int × Unit) × Unit) := (if (x2.Kind == 4) = Bool.true then ((s.f_r12_find (x1, x2.Name, ())).bind fun t2 => (if (Bool.true && t2.Kind != 1) = Bool.true then ((s.f_r12_Look_fail ((x0.fst, x0.snd.fst, ()), 13, ())).bind fun t4 => some (((), (t4.snd.fst.fst, t4.snd.fst.snd.fst, ()), ()))) else some (((), (x0.fst, x0.snd.fst, ()), ())))) else some (((), (x0.fst, x0.snd.fst, ()), ())))
theorem e_r12_Look_typ (s : Fam) (k : Nat) (x : a_r12_Look_typ) : (evFunC EE (sp s) h_r12_Look_typ co_r12_Look_typ k Tryz.f70 (c_r12_Look_typ.enc x)).run = (B_r12_Look_typ s k x.1 x.2.1 x.2.2.1).map rc_r12_Look_typ.enc := by
  simp only [B_r12_Look_typ, map_ite, map_bindO, map_someO, map_noneO]
  kernel_rfl
-- 11 nodes
def Lr12_Ends_2 (s : Fam) (k : Nat) (x0 : List TStmt) : Nat → List TStmt → Int → Option (Bool)
  | 0, _, _ => none
  | j2 + 1, v0, v1 => (if decide (v1 < (↑v0.length : Int)) = Bool.true then (if 0 ≤ v1 then (if v1 < (↑v0.length : Int) then (if ((v0.getD v1.toNat dd_TStmt).Op == 9) = Bool.false then (if 0 ≤ v1 then (if v1 < (↑v0.length : Int) then (if ((v0.getD v1.toNat dd_TStmt).Op == 3) = Bool.true then (if 0 ≤ v1 then (if v1 < (↑v0.length : Int) then (if (Bool.true && (v0.getD v1.toNat dd_TStmt).More) = Bool.true then (if 0 ≤ v1 then (if v1 < (↑v0.length : Int) then ((s.f_r12_Ends ((v0.getD v1.toNat dd_TStmt).Body, ())).bind fun t17 => (if (Bool.true && t17) = Bool.true then (if 0 ≤ v1 then (if v1 < (↑v0.length : Int) then ((s.f_r12_Ends ((v0.getD v1.toNat dd_TStmt).Else, ())).bind fun t23 => (if (Bool.false || Bool.true && t23) = Bool.true then some (Bool.true) else Lr12_Ends_2 s k x0 j2 (v0) (Go.IntKind.i64.wrap (v1 + 1)))) else none) else none) else Lr12_Ends_2 s k x0 j2 (v0) (Go.IntKind.i64.wrap (v1 + 1)))) else none) else none) else Lr12_Ends_2 s k x0 j2 (v0) (Go.IntKind.i64.wrap (v1 + 1))) else none) else none) else Lr12_Ends_2 s k x0 j2 (v0) (Go.IntKind.i64.wrap (v1 + 1))) else none) else none) else some (Bool.true)) else none) else none) else some (Bool.false))
def B_r12_Ends (s : Fam) (k : Nat) (x0 : List TStmt) : Option (Bool) := Lr12_Ends_2 s k x0 k (x0) (0)
theorem Lr12_Ends_2_eq (s : Fam) (k : Nat) (x0 : List TStmt) : ∀ (j2 : Nat) (v0 : List TStmt) (v1 : Int), (loopGo EE (sp s) h_r12_Ends co_r12_Ends [] k Tryz.f71 2 [] j2 ({ tmps := ofL AV.any [(0, AV.c (CV.d (DV.sl 97 v0))), (3, AV.c (CV.d (DV.lit (Go.Value.int Go.IntKind.i64 v1))))], boxes := ofL Option.none [], objs := ofL Option.none [], fxs := ofL Option.none [] : AS II })).run = (Lr12_Ends_2 s k x0 j2 v0 v1).map rc_r12_Ends.enc := by
  intro j2
  induction j2 with
  | zero => intros; rfl
  | succ j2 ih =>
    intros
    simp only [Lr12_Ends_2, map_ite, map_bindO, map_someO, map_noneO, ← ih]
    kernel_rfl
theorem e_r12_Ends (s : Fam) (k : Nat) (x : a_r12_Ends) : (evFunC EE (sp s) h_r12_Ends co_r12_Ends k Tryz.f71 (c_r12_Ends.enc x)).run = (B_r12_Ends s k x.1).map rc_r12_Ends.enc := by
  simp only [B_r12_Ends, map_ite, map_bindO, map_someO, map_noneO, ← Lr12_Ends_2_eq]
  kernel_rfl
-- 90 nodes
def B_r12_Look_value (s : Fam) (k : Nat) (x0 : Int × Int × Unit) (x1 : List Tr12_Thing) (x2 : TExpr) (x3 : Int) : Option (Int × (Int × Int × Unit) × Unit) := ((s.f_r12_Look_expr ((x0.fst, x0.snd.fst, ()), x1, x2.re, Bool.false, ())).bind fun t1 => (if (decide (t1.fst.Size > 0) || decide (t1.fst.Kind < 1) || decide (t1.fst.Kind > 3) || decide (x3 > 0) && t1.fst.Kind != x3) = Bool.true then ((s.f_r12_Look_fail ((t1.snd.fst.fst, t1.snd.fst.snd.fst, ()), 14, ())).bind fun t3 => some ((t1.fst.Kind, (t3.snd.fst.fst, t3.snd.fst.snd.fst, ()), ()))) else some ((t1.fst.Kind, (t1.snd.fst.fst, t1.snd.fst.snd.fst, ()), ()))))
theorem e_r12_Look_value (s : Fam) (k : Nat) (x : a_r12_Look_value) : (evFunC EE (sp s) h_r12_Look_value co_r12_Look_value k Tryz.f72 (c_r12_Look_value.enc x)).run = (B_r12_Look_value s k x.1 x.2.1 x.2.2.1 x.2.2.2.1).map rc_r12_Look_value.enc := by
  simp only [B_r12_Look_value, map_ite, map_bindO, map_someO, map_noneO]
  kernel_rfl
-- 5 nodes
end Go.Ev
end
