/- A part of the proof of TreeBackUpto (a program whose names are turned into others and back is the program that it was): a reckoner of the code over data, shown right, and what it gives; conditions stand with each theorem. -/
import Derived.Test.YtokkfbkbnocnoaaGreatDoorA1
import Derived.Test.YtokkfbkbnocnoaaGreatDoorProg
import Derived.Shelf.Strings.Builder1
import Derived.Shelf.Strings.Builder2
import Derived.Shelf.Strings.OnBuilder
import Derived.Shelf.Strings.BuilderF
import Derived.Shelf.Strings.BuilderK
import Derived.Shelf.Utf8.RuneCount
import Derived.Shelf.Strings.Builder2Cap
import Derived.Shelf.Strings.Search1
import Derived.Shelf.Strings.Search2
import Derived.Shelf.Strings.Search3
import Derived.Shelf.Strings.Count
import Derived.Shelf.LaysM
import Derived.Shelf.Strings.Shaped
import Derived.Shelf.Strings.Prefix
import Derived.Shelf.Strings.Split
import Derived.Shelf.Strings.Fields
import Derived.Shelf.Strings.SplitShaped
import Derived.Shelf.Unicode.Latin
import Derived.Shelf.Unicode.Decode
import Derived.Shelf.Strings.RuneCount
import Derived.Shelf.Strings.Explode
import Derived.Shelf.Unicode.DecodeSlow
import Derived.Shelf.Unicode.DecodeAny
import Derived.Shelf.Unicode.Is16White
import Derived.Shelf.Unicode.IsSpaceAny
import Derived.Shelf.Unicode.Is16WhiteD
import Derived.Shelf.Unicode.IsSpaceAnyD
import Derived.Shelf.Strings.FieldsAny
import Derived.Shelf.Strings.FieldsFuncAny
import Derived.Shelf.Unicode.Is16Any
import Derived.Shelf.Unicode.Is32Any
import Derived.Shelf.Unicode.ExclAny
import Derived.Ground.Names2Prog
import Derived.Shelf.Slices.Clone
import Derived.Ground.SlgnProg
import Derived.Shelf.SlicesE.Clone
import Derived.Maps.OwnSet
import Derived.Maps.Keyed
import Derived.StringKeys
section
open Go Go.Proofs
namespace Go.Ev
set_option maxRecDepth 100000
set_option maxHeartbeats 4000000
structure TPair where
  Old : ByteArray
  New : ByteArray
structure TExpr where
  Op : Int
  N : Int
  Name : ByteArray
  Field : ByteArray
  L : List TExpr
def TExpr.re (x : TExpr) : TExpr := ⟨x.Op, x.N, x.Name, x.Field, x.L⟩
theorem TExpr.re_eq (x : TExpr) : x.re = x := by cases x; rfl
structure Ttree_checker where
  dialect : Int
structure TMarks where
  Before : List ByteArray
  Trail : List ByteArray
structure TField where
  Marks_Before : List ByteArray
  Marks_Trail : List ByteArray
  Name : ByteArray
  Kind : Int
structure TType where
  Kind : Int
  Size : Int
  Name : ByteArray
structure TVar where
  Marks_Before : List ByteArray
  Marks_Trail : List ByteArray
  Name : ByteArray
  T_Kind : Int
  T_Size : Int
  T_Name : ByteArray
structure TStmt where
  Marks_Before : List ByteArray
  Marks_Trail : List ByteArray
  Op : Int
  Name : ByteArray
  P_Op : Int
  P_N : Int
  P_Name : ByteArray
  P_Field : ByteArray
  P_L : List TExpr
  E : List TExpr
  Down : Bool
  More : Bool
  Body : List TStmt
  Else : List TStmt
  End : List ByteArray
  End2 : List ByteArray
def TStmt.re (x : TStmt) : TStmt := ⟨x.Marks_Before, x.Marks_Trail, x.Op, x.Name, x.P_Op, x.P_N, x.P_Name, x.P_Field, x.P_L, x.E, x.Down, x.More, x.Body, x.Else, x.End, x.End2⟩
theorem TStmt.re_eq (x : TStmt) : x.re = x := by cases x; rfl
structure TParam where
  Name : ByteArray
  T_Kind : Int
  T_Size : Int
  T_Name : ByteArray
  Mode : Int
structure Ttree_shape where
  place : Bool
  name_ : Bool
  body : Bool
  least : Int
  most : Int
structure TRec where
  Marks_Before : List ByteArray
  Marks_Trail : List ByteArray
  Name : ByteArray
  Fields : List TField
  End : List ByteArray
structure TRoutine where
  Marks_Before : List ByteArray
  Marks_Trail : List ByteArray
  Name : ByteArray
  Result : Int
  Params : List TParam
  Vars : List TVar
  Inner : List TRoutine
  Body : List TStmt
  End : List ByteArray
def TRoutine.re (x : TRoutine) : TRoutine := ⟨x.Marks_Before, x.Marks_Trail, x.Name, x.Result, x.Params, x.Vars, x.Inner, x.Body, x.End⟩
theorem TRoutine.re_eq (x : TRoutine) : x.re = x := by cases x; rfl
structure TProgram where
  Name : ByteArray
  Before : List ByteArray
  Mid : List ByteArray
  After : List ByteArray
  Recs : List TRec
  Vars : List TVar
  Routines : List TRoutine
  Body : List TStmt
  End : List ByteArray
def TField.sub_Marks (x : TField) : TMarks := ⟨x.Marks_Before, x.Marks_Trail⟩
def TVar.sub_Marks (x : TVar) : TMarks := ⟨x.Marks_Before, x.Marks_Trail⟩
def TVar.sub_T (x : TVar) : TType := ⟨x.T_Kind, x.T_Size, x.T_Name⟩
def TStmt.sub_Marks (x : TStmt) : TMarks := ⟨x.Marks_Before, x.Marks_Trail⟩
def TStmt.sub_P (x : TStmt) : TExpr := ⟨x.P_Op, x.P_N, x.P_Name, x.P_Field, x.P_L⟩
def TParam.sub_T (x : TParam) : TType := ⟨x.T_Kind, x.T_Size, x.T_Name⟩
def TRec.sub_Marks (x : TRec) : TMarks := ⟨x.Marks_Before, x.Marks_Trail⟩
def TRoutine.sub_Marks (x : TRoutine) : TMarks := ⟨x.Marks_Before, x.Marks_Trail⟩
inductive Thing where
  | ren (by_ : List TPair)
  | names (l : List ByteArray)
def thing0 : Thing := .names []
abbrev II : Nat → Type
  | 9 => ByteArray
  | 22 => (List ByteArray)
  | 39 => TPair
  | 44 => TExpr
  | 59 => TRec
  | 69 => TField
  | 98 => TVar
  | 103 => TRoutine
  | 107 => TStmt
  | 145 => TParam
  | 1000003 => Thing
  | _ => Unit
def tyL : List (Nat × TI) :=
  [(2, { size := 1, bytes := 8, zero := [.int .i64 0], td := .int .i64 }),
   (3, { size := 1, bytes := 8, zero := [.int .i64 0], td := .int .i64 }),
   (4, { size := 1, bytes := 1, zero := [.bool false], td := .bool }),
   (5, { size := 1, bytes := 1, zero := [.int .u8 0], td := .int .u8 }),
   (9, { size := 1, bytes := 16, zero := [.string ⟨#[]⟩], td := .string }),
   (22, { size := 1, bytes := 24, zero := [.slice none 0 0], td := .slice 9, cmp := false }),
   (23, { size := 1, bytes := 24, zero := [.slice none 0 0], td := .slice 59, cmp := false }),
   (24, { size := 1, bytes := 24, zero := [.slice none 0 0], td := .slice 98, cmp := false }),
   (25, { size := 1, bytes := 24, zero := [.slice none 0 0], td := .slice 103, cmp := false }),
   (26, { size := 1, bytes := 24, zero := [.slice none 0 0], td := .slice 107, cmp := false }),
   (28, { size := 9, bytes := 208, zero := [.string ⟨#[]⟩, .slice none 0 0, .slice none 0 0, .slice none 0 0, .slice none 0 0, .slice none 0 0, .slice none 0 0, .slice none 0 0, .slice none 0 0], td := .struct [(0,9),(1,22),(2,22),(3,22),(4,23),(5,24),(6,25),(7,26),(8,22)], cmp := false }),
   (29, { size := 1, bytes := 8, zero := [.int .i64 0], td := .int .i64 }),
   (36, { size := 1, bytes := 24, zero := [.slice none 0 0], td := .slice 39, cmp := false }),
   (39, { size := 2, bytes := 32, zero := [.string ⟨#[]⟩, .string ⟨#[]⟩], td := .struct [(0,9),(1,9)] }),
   (42, { size := 1, bytes := 24, zero := [.slice none 0 0], td := .slice 44, cmp := false }),
   (44, { size := 5, bytes := 72, zero := [.int .i64 0, .int .i64 0, .string ⟨#[]⟩, .string ⟨#[]⟩, .slice none 0 0], td := .struct [(0,3),(1,2),(2,9),(3,9),(4,42)], cmp := false }),
   (47, { size := 1, bytes := 8, zero := [.nilFunc], td := .other, cmp := false }),
   (51, { size := 1, bytes := 8, zero := [.int .i64 0], td := .struct [(0,3)] }),
   (56, { size := 2, bytes := 48, zero := [.slice none 0 0, .slice none 0 0], td := .struct [(0,22),(1,22)], cmp := false }),
   (57, { size := 1, bytes := 24, zero := [.slice none 0 0], td := .slice 69, cmp := false }),
   (59, { size := 5, bytes := 112, zero := [.slice none 0 0, .slice none 0 0, .string ⟨#[]⟩, .slice none 0 0, .slice none 0 0], td := .struct [(0,56),(2,9),(3,57),(4,22)], cmp := false }),
   (61, { size := 1, bytes := 8, zero := [.nilFunc], td := .other, cmp := false }),
   (69, { size := 4, bytes := 72, zero := [.slice none 0 0, .slice none 0 0, .string ⟨#[]⟩, .int .i64 0], td := .struct [(0,56),(2,9),(3,3)], cmp := false }),
   (74, { size := 1, bytes := 8, zero := [.nilFunc], td := .other, cmp := false }),
   (76, { size := 1, bytes := 8, zero := [.nilFunc], td := .struct [(0,74)], cmp := false }),
   (84, { size := 1, bytes := 8, zero := [.int .u64 0], td := .int .u64 }),
   (93, { size := 1, bytes := 8, zero := [.nilFunc], td := .other, cmp := false }),
   (96, { size := 3, bytes := 32, zero := [.int .i64 0, .int .i64 0, .string ⟨#[]⟩], td := .struct [(0,3),(1,3),(2,9)] }),
   (98, { size := 6, bytes := 96, zero := [.slice none 0 0, .slice none 0 0, .string ⟨#[]⟩, .int .i64 0, .int .i64 0, .string ⟨#[]⟩], td := .struct [(0,56),(2,9),(3,96)], cmp := false }),
   (99, { size := 1, bytes := 8, zero := [.nilFunc], td := .other, cmp := false }),
   (101, { size := 1, bytes := 24, zero := [.slice none 0 0], td := .slice 145, cmp := false }),
   (103, { size := 9, bytes := 192, zero := [.slice none 0 0, .slice none 0 0, .string ⟨#[]⟩, .int .i64 0, .slice none 0 0, .slice none 0 0, .slice none 0 0, .slice none 0 0, .slice none 0 0], td := .struct [(0,56),(2,9),(3,3),(4,101),(5,24),(6,25),(7,26),(8,22)], cmp := false }),
   (104, { size := 1, bytes := 8, zero := [.nilFunc], td := .other, cmp := false }),
   (107, { size := 16, bytes := 272, zero := [.slice none 0 0, .slice none 0 0, .int .i64 0, .string ⟨#[]⟩, .int .i64 0, .int .i64 0, .string ⟨#[]⟩, .string ⟨#[]⟩, .slice none 0 0, .slice none 0 0, .bool false, .bool false, .slice none 0 0, .slice none 0 0, .slice none 0 0, .slice none 0 0], td := .struct [(0,56),(2,3),(3,9),(4,44),(9,42),(10,4),(11,4),(12,26),(13,26),(14,22),(15,22)], cmp := false }),
   (108, { size := 1, bytes := 8, zero := [.nilFunc], td := .other, cmp := false }),
   (112, { size := 1, bytes := 24, zero := [.slice none 0 0], td := .slice 22, cmp := false }),
   (119, { size := 1, bytes := 8, zero := [.nilFunc], td := .other, cmp := false }),
   (122, { size := 1, bytes := 8, zero := [.nilFunc], td := .other, cmp := false }),
   (126, { size := 1, bytes := 8, zero := [.nilFunc], td := .other, cmp := false }),
   (130, { size := 1, bytes := 8, zero := [.nilFunc], td := .other, cmp := false }),
   (137, { size := 1, bytes := 8, zero := [.nilFunc], td := .other, cmp := false }),
   (139, { size := 1, bytes := 8, zero := [.nilFunc], td := .other, cmp := false }),
   (141, { size := 1, bytes := 8, zero := [.nilFunc], td := .other, cmp := false }),
   (143, { size := 1, bytes := 8, zero := [.nilFunc], td := .other, cmp := false }),
   (145, { size := 5, bytes := 56, zero := [.string ⟨#[]⟩, .int .i64 0, .int .i64 0, .string ⟨#[]⟩, .int .i64 0], td := .struct [(0,9),(1,96),(4,3)] }),
   (150, { size := 1, bytes := 8, zero := [.nilFunc], td := .other, cmp := false }),
   (180, { size := 5, bytes := 24, zero := [.bool false, .bool false, .bool false, .int .i64 0, .int .i64 0], td := .struct [(0,4),(1,4),(2,4),(3,3),(4,3)] }),
   (188, { size := 1, bytes := 8, zero := [.nilFunc], td := .other, cmp := false }),
   (191, { size := 1, bytes := 8, zero := [.nilFunc], td := .other, cmp := false }),
   (192, { size := 1, bytes := 8, zero := [.nilFunc], td := .other, cmp := false })]
abbrev tyy : Nat → Option TI := tyOf tyL
def row_TPair (x : TPair) : List (DV II) := [.lit (.string x.Old), .lit (.string x.New)]
def mk_TPair : List (DV II) → Option TPair
  | [c0, c1] => (gS c0).bind fun x0 => (gS c1).bind fun x1 => some ⟨x0, x1⟩
  | _ => none
theorem mk_TPair_le {cs : List (DV II)} {x : TPair} (h : mk_TPair cs = some x) : DLes cs (row_TPair x) := by
  unfold mk_TPair at h
  split at h
  · obtain ⟨x0, e0, h⟩ := Option.bind_eq_some_iff.1 h
    obtain ⟨x1, e1, h⟩ := Option.bind_eq_some_iff.1 h
    injection h with h
    subst h
    exact .cons (gS_le e0) (.cons (gS_le e1) (.nil))
  · cases h
def dd_TPair : TPair := ⟨ByteArray.empty, ByteArray.empty⟩
def row_TExpr (x : TExpr) : List (DV II) := [.lit (.int .i64 x.Op), .lit (.int .i64 x.N), .lit (.string x.Name), .lit (.string x.Field), .sl 44 x.L]
def mk_TExpr : List (DV II) → Option TExpr
  | [c0, c1, c2, c3, c4] => (gI .i64 c0).bind fun x0 => (gI .i64 c1).bind fun x1 => (gS c2).bind fun x2 => (gS c3).bind fun x3 => (gL 44 c4).bind fun x4 => some ⟨x0, x1, x2, x3, x4⟩
  | _ => none
theorem mk_TExpr_le {cs : List (DV II)} {x : TExpr} (h : mk_TExpr cs = some x) : DLes cs (row_TExpr x) := by
  unfold mk_TExpr at h
  split at h
  · obtain ⟨x0, e0, h⟩ := Option.bind_eq_some_iff.1 h
    obtain ⟨x1, e1, h⟩ := Option.bind_eq_some_iff.1 h
    obtain ⟨x2, e2, h⟩ := Option.bind_eq_some_iff.1 h
    obtain ⟨x3, e3, h⟩ := Option.bind_eq_some_iff.1 h
    obtain ⟨x4, e4, h⟩ := Option.bind_eq_some_iff.1 h
    injection h with h
    subst h
    exact .cons (gI_le e0) (.cons (gI_le e1) (.cons (gS_le e2) (.cons (gS_le e3) (.cons (gL_le e4) (.nil)))))
  · cases h
def dd_TExpr : TExpr := ⟨0, 0, ByteArray.empty, ByteArray.empty, []⟩
def row_Ttree_checker (x : Ttree_checker) : List (DV II) := [.lit (.int .i64 x.dialect)]
def mk_Ttree_checker : List (DV II) → Option Ttree_checker
  | [c0] => (gI .i64 c0).bind fun x0 => some ⟨x0⟩
  | _ => none
theorem mk_Ttree_checker_le {cs : List (DV II)} {x : Ttree_checker} (h : mk_Ttree_checker cs = some x) : DLes cs (row_Ttree_checker x) := by
  unfold mk_Ttree_checker at h
  split at h
  · obtain ⟨x0, e0, h⟩ := Option.bind_eq_some_iff.1 h
    injection h with h
    subst h
    exact .cons (gI_le e0) (.nil)
  · cases h
def row_TMarks (x : TMarks) : List (DV II) := [.sl 9 x.Before, .sl 9 x.Trail]
def mk_TMarks : List (DV II) → Option TMarks
  | [c0, c1] => (gL 9 c0).bind fun x0 => (gL 9 c1).bind fun x1 => some ⟨x0, x1⟩
  | _ => none
theorem mk_TMarks_le {cs : List (DV II)} {x : TMarks} (h : mk_TMarks cs = some x) : DLes cs (row_TMarks x) := by
  unfold mk_TMarks at h
  split at h
  · obtain ⟨x0, e0, h⟩ := Option.bind_eq_some_iff.1 h
    obtain ⟨x1, e1, h⟩ := Option.bind_eq_some_iff.1 h
    injection h with h
    subst h
    exact .cons (gL_le e0) (.cons (gL_le e1) (.nil))
  · cases h
def row_TField (x : TField) : List (DV II) := [.sl 9 x.Marks_Before, .sl 9 x.Marks_Trail, .lit (.string x.Name), .lit (.int .i64 x.Kind)]
def mk_TField : List (DV II) → Option TField
  | [c0, c1, c2, c3] => (gL 9 c0).bind fun x0 => (gL 9 c1).bind fun x1 => (gS c2).bind fun x2 => (gI .i64 c3).bind fun x3 => some ⟨x0, x1, x2, x3⟩
  | _ => none
theorem mk_TField_le {cs : List (DV II)} {x : TField} (h : mk_TField cs = some x) : DLes cs (row_TField x) := by
  unfold mk_TField at h
  split at h
  · obtain ⟨x0, e0, h⟩ := Option.bind_eq_some_iff.1 h
    obtain ⟨x1, e1, h⟩ := Option.bind_eq_some_iff.1 h
    obtain ⟨x2, e2, h⟩ := Option.bind_eq_some_iff.1 h
    obtain ⟨x3, e3, h⟩ := Option.bind_eq_some_iff.1 h
    injection h with h
    subst h
    exact .cons (gL_le e0) (.cons (gL_le e1) (.cons (gS_le e2) (.cons (gI_le e3) (.nil))))
  · cases h
def dd_TField : TField := ⟨[], [], ByteArray.empty, 0⟩
def row_TType (x : TType) : List (DV II) := [.lit (.int .i64 x.Kind), .lit (.int .i64 x.Size), .lit (.string x.Name)]
def mk_TType : List (DV II) → Option TType
  | [c0, c1, c2] => (gI .i64 c0).bind fun x0 => (gI .i64 c1).bind fun x1 => (gS c2).bind fun x2 => some ⟨x0, x1, x2⟩
  | _ => none
theorem mk_TType_le {cs : List (DV II)} {x : TType} (h : mk_TType cs = some x) : DLes cs (row_TType x) := by
  unfold mk_TType at h
  split at h
  · obtain ⟨x0, e0, h⟩ := Option.bind_eq_some_iff.1 h
    obtain ⟨x1, e1, h⟩ := Option.bind_eq_some_iff.1 h
    obtain ⟨x2, e2, h⟩ := Option.bind_eq_some_iff.1 h
    injection h with h
    subst h
    exact .cons (gI_le e0) (.cons (gI_le e1) (.cons (gS_le e2) (.nil)))
  · cases h
def row_TVar (x : TVar) : List (DV II) := [.sl 9 x.Marks_Before, .sl 9 x.Marks_Trail, .lit (.string x.Name), .lit (.int .i64 x.T_Kind), .lit (.int .i64 x.T_Size), .lit (.string x.T_Name)]
def mk_TVar : List (DV II) → Option TVar
  | [c0, c1, c2, c3, c4, c5] => (gL 9 c0).bind fun x0 => (gL 9 c1).bind fun x1 => (gS c2).bind fun x2 => (gI .i64 c3).bind fun x3 => (gI .i64 c4).bind fun x4 => (gS c5).bind fun x5 => some ⟨x0, x1, x2, x3, x4, x5⟩
  | _ => none
theorem mk_TVar_le {cs : List (DV II)} {x : TVar} (h : mk_TVar cs = some x) : DLes cs (row_TVar x) := by
  unfold mk_TVar at h
  split at h
  · obtain ⟨x0, e0, h⟩ := Option.bind_eq_some_iff.1 h
    obtain ⟨x1, e1, h⟩ := Option.bind_eq_some_iff.1 h
    obtain ⟨x2, e2, h⟩ := Option.bind_eq_some_iff.1 h
    obtain ⟨x3, e3, h⟩ := Option.bind_eq_some_iff.1 h
    obtain ⟨x4, e4, h⟩ := Option.bind_eq_some_iff.1 h
    obtain ⟨x5, e5, h⟩ := Option.bind_eq_some_iff.1 h
    injection h with h
    subst h
    exact .cons (gL_le e0) (.cons (gL_le e1) (.cons (gS_le e2) (.cons (gI_le e3) (.cons (gI_le e4) (.cons (gS_le e5) (.nil))))))
  · cases h
def dd_TVar : TVar := ⟨[], [], ByteArray.empty, 0, 0, ByteArray.empty⟩
def row_TStmt (x : TStmt) : List (DV II) := [.sl 9 x.Marks_Before, .sl 9 x.Marks_Trail, .lit (.int .i64 x.Op), .lit (.string x.Name), .lit (.int .i64 x.P_Op), .lit (.int .i64 x.P_N), .lit (.string x.P_Name), .lit (.string x.P_Field), .sl 44 x.P_L, .sl 44 x.E, .lit (.bool x.Down), .lit (.bool x.More), .sl 107 x.Body, .sl 107 x.Else, .sl 9 x.End, .sl 9 x.End2]
def mk_TStmt : List (DV II) → Option TStmt
  | [c0, c1, c2, c3, c4, c5, c6, c7, c8, c9, c10, c11, c12, c13, c14, c15] => (gL 9 c0).bind fun x0 => (gL 9 c1).bind fun x1 => (gI .i64 c2).bind fun x2 => (gS c3).bind fun x3 => (gI .i64 c4).bind fun x4 => (gI .i64 c5).bind fun x5 => (gS c6).bind fun x6 => (gS c7).bind fun x7 => (gL 44 c8).bind fun x8 => (gL 44 c9).bind fun x9 => (gB c10).bind fun x10 => (gB c11).bind fun x11 => (gL 107 c12).bind fun x12 => (gL 107 c13).bind fun x13 => (gL 9 c14).bind fun x14 => (gL 9 c15).bind fun x15 => some ⟨x0, x1, x2, x3, x4, x5, x6, x7, x8, x9, x10, x11, x12, x13, x14, x15⟩
  | _ => none
theorem mk_TStmt_le {cs : List (DV II)} {x : TStmt} (h : mk_TStmt cs = some x) : DLes cs (row_TStmt x) := by
  unfold mk_TStmt at h
  split at h
  · obtain ⟨x0, e0, h⟩ := Option.bind_eq_some_iff.1 h
    obtain ⟨x1, e1, h⟩ := Option.bind_eq_some_iff.1 h
    obtain ⟨x2, e2, h⟩ := Option.bind_eq_some_iff.1 h
    obtain ⟨x3, e3, h⟩ := Option.bind_eq_some_iff.1 h
    obtain ⟨x4, e4, h⟩ := Option.bind_eq_some_iff.1 h
    obtain ⟨x5, e5, h⟩ := Option.bind_eq_some_iff.1 h
    obtain ⟨x6, e6, h⟩ := Option.bind_eq_some_iff.1 h
    obtain ⟨x7, e7, h⟩ := Option.bind_eq_some_iff.1 h
    obtain ⟨x8, e8, h⟩ := Option.bind_eq_some_iff.1 h
    obtain ⟨x9, e9, h⟩ := Option.bind_eq_some_iff.1 h
    obtain ⟨x10, e10, h⟩ := Option.bind_eq_some_iff.1 h
    obtain ⟨x11, e11, h⟩ := Option.bind_eq_some_iff.1 h
    obtain ⟨x12, e12, h⟩ := Option.bind_eq_some_iff.1 h
    obtain ⟨x13, e13, h⟩ := Option.bind_eq_some_iff.1 h
    obtain ⟨x14, e14, h⟩ := Option.bind_eq_some_iff.1 h
    obtain ⟨x15, e15, h⟩ := Option.bind_eq_some_iff.1 h
    injection h with h
    subst h
    exact .cons (gL_le e0) (.cons (gL_le e1) (.cons (gI_le e2) (.cons (gS_le e3) (.cons (gI_le e4) (.cons (gI_le e5) (.cons (gS_le e6) (.cons (gS_le e7) (.cons (gL_le e8) (.cons (gL_le e9) (.cons (gB_le e10) (.cons (gB_le e11) (.cons (gL_le e12) (.cons (gL_le e13) (.cons (gL_le e14) (.cons (gL_le e15) (.nil))))))))))))))))
  · cases h
def dd_TStmt : TStmt := ⟨[], [], 0, ByteArray.empty, 0, 0, ByteArray.empty, ByteArray.empty, [], [], false, false, [], [], [], []⟩
def row_TParam (x : TParam) : List (DV II) := [.lit (.string x.Name), .lit (.int .i64 x.T_Kind), .lit (.int .i64 x.T_Size), .lit (.string x.T_Name), .lit (.int .i64 x.Mode)]
def mk_TParam : List (DV II) → Option TParam
  | [c0, c1, c2, c3, c4] => (gS c0).bind fun x0 => (gI .i64 c1).bind fun x1 => (gI .i64 c2).bind fun x2 => (gS c3).bind fun x3 => (gI .i64 c4).bind fun x4 => some ⟨x0, x1, x2, x3, x4⟩
  | _ => none
theorem mk_TParam_le {cs : List (DV II)} {x : TParam} (h : mk_TParam cs = some x) : DLes cs (row_TParam x) := by
  unfold mk_TParam at h
  split at h
  · obtain ⟨x0, e0, h⟩ := Option.bind_eq_some_iff.1 h
    obtain ⟨x1, e1, h⟩ := Option.bind_eq_some_iff.1 h
    obtain ⟨x2, e2, h⟩ := Option.bind_eq_some_iff.1 h
    obtain ⟨x3, e3, h⟩ := Option.bind_eq_some_iff.1 h
    obtain ⟨x4, e4, h⟩ := Option.bind_eq_some_iff.1 h
    injection h with h
    subst h
    exact .cons (gS_le e0) (.cons (gI_le e1) (.cons (gI_le e2) (.cons (gS_le e3) (.cons (gI_le e4) (.nil)))))
  · cases h
def dd_TParam : TParam := ⟨ByteArray.empty, 0, 0, ByteArray.empty, 0⟩
def row_Ttree_shape (x : Ttree_shape) : List (DV II) := [.lit (.bool x.place), .lit (.bool x.name_), .lit (.bool x.body), .lit (.int .i64 x.least), .lit (.int .i64 x.most)]
def mk_Ttree_shape : List (DV II) → Option Ttree_shape
  | [c0, c1, c2, c3, c4] => (gB c0).bind fun x0 => (gB c1).bind fun x1 => (gB c2).bind fun x2 => (gI .i64 c3).bind fun x3 => (gI .i64 c4).bind fun x4 => some ⟨x0, x1, x2, x3, x4⟩
  | _ => none
theorem mk_Ttree_shape_le {cs : List (DV II)} {x : Ttree_shape} (h : mk_Ttree_shape cs = some x) : DLes cs (row_Ttree_shape x) := by
  unfold mk_Ttree_shape at h
  split at h
  · obtain ⟨x0, e0, h⟩ := Option.bind_eq_some_iff.1 h
    obtain ⟨x1, e1, h⟩ := Option.bind_eq_some_iff.1 h
    obtain ⟨x2, e2, h⟩ := Option.bind_eq_some_iff.1 h
    obtain ⟨x3, e3, h⟩ := Option.bind_eq_some_iff.1 h
    obtain ⟨x4, e4, h⟩ := Option.bind_eq_some_iff.1 h
    injection h with h
    subst h
    exact .cons (gB_le e0) (.cons (gB_le e1) (.cons (gB_le e2) (.cons (gI_le e3) (.cons (gI_le e4) (.nil)))))
  · cases h
def dd_Ttree_shape : Ttree_shape := ⟨false, false, false, 0, 0⟩
def row_TRec (x : TRec) : List (DV II) := [.sl 9 x.Marks_Before, .sl 9 x.Marks_Trail, .lit (.string x.Name), .sl 69 x.Fields, .sl 9 x.End]
def mk_TRec : List (DV II) → Option TRec
  | [c0, c1, c2, c3, c4] => (gL 9 c0).bind fun x0 => (gL 9 c1).bind fun x1 => (gS c2).bind fun x2 => (gL 69 c3).bind fun x3 => (gL 9 c4).bind fun x4 => some ⟨x0, x1, x2, x3, x4⟩
  | _ => none
theorem mk_TRec_le {cs : List (DV II)} {x : TRec} (h : mk_TRec cs = some x) : DLes cs (row_TRec x) := by
  unfold mk_TRec at h
  split at h
  · obtain ⟨x0, e0, h⟩ := Option.bind_eq_some_iff.1 h
    obtain ⟨x1, e1, h⟩ := Option.bind_eq_some_iff.1 h
    obtain ⟨x2, e2, h⟩ := Option.bind_eq_some_iff.1 h
    obtain ⟨x3, e3, h⟩ := Option.bind_eq_some_iff.1 h
    obtain ⟨x4, e4, h⟩ := Option.bind_eq_some_iff.1 h
    injection h with h
    subst h
    exact .cons (gL_le e0) (.cons (gL_le e1) (.cons (gS_le e2) (.cons (gL_le e3) (.cons (gL_le e4) (.nil)))))
  · cases h
def dd_TRec : TRec := ⟨[], [], ByteArray.empty, [], []⟩
def row_TRoutine (x : TRoutine) : List (DV II) := [.sl 9 x.Marks_Before, .sl 9 x.Marks_Trail, .lit (.string x.Name), .lit (.int .i64 x.Result), .sl 145 x.Params, .sl 98 x.Vars, .sl 103 x.Inner, .sl 107 x.Body, .sl 9 x.End]
def mk_TRoutine : List (DV II) → Option TRoutine
  | [c0, c1, c2, c3, c4, c5, c6, c7, c8] => (gL 9 c0).bind fun x0 => (gL 9 c1).bind fun x1 => (gS c2).bind fun x2 => (gI .i64 c3).bind fun x3 => (gL 145 c4).bind fun x4 => (gL 98 c5).bind fun x5 => (gL 103 c6).bind fun x6 => (gL 107 c7).bind fun x7 => (gL 9 c8).bind fun x8 => some ⟨x0, x1, x2, x3, x4, x5, x6, x7, x8⟩
  | _ => none
theorem mk_TRoutine_le {cs : List (DV II)} {x : TRoutine} (h : mk_TRoutine cs = some x) : DLes cs (row_TRoutine x) := by
  unfold mk_TRoutine at h
  split at h
  · obtain ⟨x0, e0, h⟩ := Option.bind_eq_some_iff.1 h
    obtain ⟨x1, e1, h⟩ := Option.bind_eq_some_iff.1 h
    obtain ⟨x2, e2, h⟩ := Option.bind_eq_some_iff.1 h
    obtain ⟨x3, e3, h⟩ := Option.bind_eq_some_iff.1 h
    obtain ⟨x4, e4, h⟩ := Option.bind_eq_some_iff.1 h
    obtain ⟨x5, e5, h⟩ := Option.bind_eq_some_iff.1 h
    obtain ⟨x6, e6, h⟩ := Option.bind_eq_some_iff.1 h
    obtain ⟨x7, e7, h⟩ := Option.bind_eq_some_iff.1 h
    obtain ⟨x8, e8, h⟩ := Option.bind_eq_some_iff.1 h
    injection h with h
    subst h
    exact .cons (gL_le e0) (.cons (gL_le e1) (.cons (gS_le e2) (.cons (gI_le e3) (.cons (gL_le e4) (.cons (gL_le e5) (.cons (gL_le e6) (.cons (gL_le e7) (.cons (gL_le e8) (.nil)))))))))
  · cases h
def dd_TRoutine : TRoutine := ⟨[], [], ByteArray.empty, 0, [], [], [], [], []⟩
def row_TProgram (x : TProgram) : List (DV II) := [.lit (.string x.Name), .sl 9 x.Before, .sl 9 x.Mid, .sl 9 x.After, .sl 59 x.Recs, .sl 98 x.Vars, .sl 103 x.Routines, .sl 107 x.Body, .sl 9 x.End]
def mk_TProgram : List (DV II) → Option TProgram
  | [c0, c1, c2, c3, c4, c5, c6, c7, c8] => (gS c0).bind fun x0 => (gL 9 c1).bind fun x1 => (gL 9 c2).bind fun x2 => (gL 9 c3).bind fun x3 => (gL 59 c4).bind fun x4 => (gL 98 c5).bind fun x5 => (gL 103 c6).bind fun x6 => (gL 107 c7).bind fun x7 => (gL 9 c8).bind fun x8 => some ⟨x0, x1, x2, x3, x4, x5, x6, x7, x8⟩
  | _ => none
theorem mk_TProgram_le {cs : List (DV II)} {x : TProgram} (h : mk_TProgram cs = some x) : DLes cs (row_TProgram x) := by
  unfold mk_TProgram at h
  split at h
  · obtain ⟨x0, e0, h⟩ := Option.bind_eq_some_iff.1 h
    obtain ⟨x1, e1, h⟩ := Option.bind_eq_some_iff.1 h
    obtain ⟨x2, e2, h⟩ := Option.bind_eq_some_iff.1 h
    obtain ⟨x3, e3, h⟩ := Option.bind_eq_some_iff.1 h
    obtain ⟨x4, e4, h⟩ := Option.bind_eq_some_iff.1 h
    obtain ⟨x5, e5, h⟩ := Option.bind_eq_some_iff.1 h
    obtain ⟨x6, e6, h⟩ := Option.bind_eq_some_iff.1 h
    obtain ⟨x7, e7, h⟩ := Option.bind_eq_some_iff.1 h
    obtain ⟨x8, e8, h⟩ := Option.bind_eq_some_iff.1 h
    injection h with h
    subst h
    exact .cons (gS_le e0) (.cons (gL_le e1) (.cons (gL_le e2) (.cons (gL_le e3) (.cons (gL_le e4) (.cons (gL_le e5) (.cons (gL_le e6) (.cons (gL_le e7) (.cons (gL_le e8) (.nil)))))))))
  · cases h
def row_v9 (x : ByteArray) : List (DV II) := [.lit (.string x)]
def mk_v9 : List (DV II) → Option ByteArray
  | [c] => gS c
  | _ => none
theorem mk_v9_le {cs : List (DV II)} {x : ByteArray} (h : mk_v9 cs = some x) : DLes cs (row_v9 x) := by
  unfold mk_v9 at h
  split at h
  · exact .cons (gS_le h) .nil
  · cases h
def dd_v9 : ByteArray := ByteArray.empty
def row_v22 (x : (List ByteArray)) : List (DV II) := [.sl 9 x]
def mk_v22 : List (DV II) → Option (List ByteArray)
  | [c] => gL 9 c
  | _ => none
theorem mk_v22_le {cs : List (DV II)} {x : (List ByteArray)} (h : mk_v22 cs = some x) : DLes cs (row_v22 x) := by
  unfold mk_v22 at h
  split at h
  · exact .cons (gL_le h) .nil
  · cases h
def dd_v22 : (List ByteArray) := []
def roww : (t : Nat) → II t → List (DV II)
  | 9, x => row_v9 x
  | 22, x => row_v22 x
  | 39, x => row_TPair x
  | 44, x => row_TExpr x
  | 59, x => row_TRec x
  | 69, x => row_TField x
  | 98, x => row_TVar x
  | 103, x => row_TRoutine x
  | 107, x => row_TStmt x
  | 145, x => row_TParam x
  | t, _ => match tyy t with | some ti => List.replicate ti.size .any | none => []
def mkk : (t : Nat) → List (DV II) → Option (II t)
  | 9, cs => mk_v9 cs
  | 22, cs => mk_v22 cs
  | 39, cs => mk_TPair cs
  | 44, cs => mk_TExpr cs
  | 59, cs => mk_TRec cs
  | 69, cs => mk_TField cs
  | 98, cs => mk_TVar cs
  | 103, cs => mk_TRoutine cs
  | 107, cs => mk_TStmt cs
  | 145, cs => mk_TParam cs
  | _, _ => none
def dfl : (t : Nat) → II t
  | 9 => dd_v9
  | 22 => dd_v22
  | 39 => dd_TPair
  | 44 => dd_TExpr
  | 59 => dd_TRec
  | 69 => dd_TField
  | 98 => dd_TVar
  | 103 => dd_TRoutine
  | 107 => dd_TStmt
  | 145 => dd_TParam
  | 1000003 => thing0
  | t => by unfold II; split <;> first | exact () | exact thing0 | exact dd_v9 | exact dd_v22 | exact dd_TPair | exact dd_TExpr | exact dd_TRec | exact dd_TField | exact dd_TVar | exact dd_TRoutine | exact dd_TStmt | exact dd_TParam
theorem mkk_le (t : Nat) (cs : List (DV II)) (x : II t) (h : mkk t cs = some x) : DLes cs (roww t x) := by
  unfold mkk at h
  split at h
  · exact mk_v9_le h
  · exact mk_v22_le h
  · exact mk_TPair_le h
  · exact mk_TExpr_le h
  · exact mk_TRec_le h
  · exact mk_TField_le h
  · exact mk_TVar_le h
  · exact mk_TRoutine_le h
  · exact mk_TStmt_le h
  · exact mk_TParam_le h
  · cases h
def EE0 : Env II := { ty := tyy, row := roww, made := mkk, dflt := dfl }
theorem roww_len (t : Nat) (ti : TI) (x : II t) (h : tyy t = some ti) : (roww t x).length = ti.size := by
  unfold roww
  split
  · have : tyy 9 = some _ := rfl
    rw [this] at h; injection h with h; subst h; rfl
  · have : tyy 22 = some _ := rfl
    rw [this] at h; injection h with h; subst h; rfl
  · have : tyy 39 = some _ := rfl
    rw [this] at h; injection h with h; subst h; rfl
  · have : tyy 44 = some _ := rfl
    rw [this] at h; injection h with h; subst h; rfl
  · have : tyy 59 = some _ := rfl
    rw [this] at h; injection h with h; subst h; rfl
  · have : tyy 69 = some _ := rfl
    rw [this] at h; injection h with h; subst h; rfl
  · have : tyy 98 = some _ := rfl
    rw [this] at h; injection h with h; subst h; rfl
  · have : tyy 103 = some _ := rfl
    rw [this] at h; injection h with h; subst h; rfl
  · have : tyy 107 = some _ := rfl
    rw [this] at h; injection h with h; subst h; rfl
  · have : tyy 145 = some _ := rfl
    rw [this] at h; injection h with h; subst h; rfl
  · rw [h]; simp
theorem envOK (E : Env II) (h1 : E.ty = tyy) (h2 : E.row = roww) (h3 : E.made = mkk) : EnvOK Tryz.prog E :=
  envOK_of tyL h1 (by kernel_rfl) (by kernel_rfl) (by kernel_rfl) (by kernel_rfl) (by kernel_rfl) (by rw [h1, h2]; exact roww_len) (by rw [h2, h3]; exact mkk_le)
end Go.Ev
end
section
/-
  DERIVED: THE SHELF's CONTRACTS AT THIS DUMP, IN PLAIN WORDS (tools/lay-plain.mjs out of 'TryzShelf.lean', which tools/lay-shelf.mjs wrote): THE SAME DECLARATIONS UNDER THE SAME NAMES: 'import', 'namespace', 'open', 'def', 'theorem' AND NOTHING ELSE: no command of the shelf's: FOR A HAND-IN. Each laying: the table of numbers ('.._ren') and one theorem, a field a fact of the dump's own or the kernel's comparison; each contract: ONE APPLICATION.
-/
namespace Go.Proofs
open Go.Shelf
def Tryz.lays156_ren : Go.Shelf.Ren := ⟨fun | 156 => 137 | 165 => 153 | 166 => 117 | 169 => 121 | 240 => 149 | 241 => 163 | 276 => 157 | 277 => 169 | n => n, fun | 31 => 22 | 9 => 9 | 3 => 3 | 4 => 4 | 0 => 0 | 20 => 20 | 72 => 163 | 76 => 166 | 70 => 160 | 37 => 161 | 75 => 165 | 127 => 195 | 164 => 202 | 5 => 5 | 80 => 171 | n => n, fun | n => n⟩
theorem Tryz.lays156 : Go.Proofs.Lays.n156 Tryz.prog Tryz.lays156_ren := {
  mixed := by kernel_rfl
  f156 := Tryz.func137.trans (congrArg some (by kernel_rfl))
  f165 := Tryz.func153.trans (congrArg some (by kernel_rfl))
  f166 := Tryz.func117.trans (congrArg some (by kernel_rfl))
  f169 := Tryz.func121.trans (congrArg some (by kernel_rfl))
  f240 := Tryz.func149.trans (congrArg some (by kernel_rfl))
  f241 := Tryz.func163.trans (congrArg some (by kernel_rfl))
  f276 := Tryz.func157.trans (congrArg some (by kernel_rfl))
  f277 := Tryz.func169.trans (congrArg some (by kernel_rfl))
  t0 := Tryz.underlying0
  a0 := Tryz.isAgg0
  z0 := Tryz.sizeOf0
  v0 := Tryz.zeroValue0
  t3 := Tryz.underlying3
  a3 := Tryz.isAgg3
  z3 := Tryz.sizeOf3
  v3 := Tryz.zeroValue3
  t4 := Tryz.underlying4
  a4 := Tryz.isAgg4
  z4 := Tryz.sizeOf4
  v4 := Tryz.zeroValue4
  t9 := Tryz.underlying9
  a9 := Tryz.isAgg9
  z9 := Tryz.sizeOf9
  v9 := Tryz.zeroValue9
  t20 := Tryz.underlying20
  a20 := Tryz.isAgg20
  z20 := Tryz.sizeOf20
  v20 := Tryz.zeroValue20
  t31 := Tryz.underlying22
  a31 := Tryz.isAgg22
  z31 := Tryz.sizeOf22
  v31 := Tryz.zeroValue22
  t37 := Tryz.underlying161
  a37 := Tryz.isAgg161
  z37 := Tryz.sizeOf161
  v37 := Tryz.zeroValue161
  t70 := Tryz.underlying160
  a70 := Tryz.isAgg160
  z70 := Tryz.sizeOf160
  v70 := Tryz.zeroValue160
  t72 := Tryz.underlying163
  a72 := Tryz.isAgg163
  z72 := Tryz.sizeOf163
  v72 := Tryz.zeroValue163
  t75 := Tryz.underlying165
  a75 := Tryz.isAgg165
  z75 := Tryz.sizeOf165
  v75 := Tryz.zeroValue165
  t76 := Tryz.underlying166
  a76 := Tryz.isAgg166
  z76 := Tryz.sizeOf166
  v76 := Tryz.zeroValue166
  t127 := Tryz.underlying195
  a127 := Tryz.isAgg195
  z127 := Tryz.sizeOf195
  v127 := Tryz.zeroValue195
  t164 := Tryz.underlying202
  a164 := Tryz.isAgg202
  z164 := Tryz.sizeOf202
  v164 := Tryz.zeroValue202 }
theorem Tryz.Builder_Extra_156 : Builder.Extra Tryz.prog Tryz.lays156_ren := {
  sizeBuilder := by kernel_rfl
  liesBuilder := by kernel_rfl
  t5 := Tryz.underlying5
  a5 := Tryz.isAgg5
  z5 := Tryz.sizeOf5
  v5 := Tryz.zeroValue5
  infoByte := by kernel_rfl
  cellsByte := by kernel_rfl
  sizeByte := by kernel_rfl
  neB5 := by decide }
open Go.RowKit in
theorem Tryz.strings_Join (bk o c : Nat) (xs : List ByteArray) (sep : ByteArray) (w : World) (hcells : ∀ (j : Nat) x, xs[j]? = some x → w.cell? ⟨bk, o + j, none⟩ = some (.string x)) (hbk : bk < w.heap.size) (hN : xs.length ≤ 140737488355328) (hcap : xs.length ≤ c) (hlen : (Lib.join (xs.map (·.data.toList)) sep.data.toList).length ≤ 140737488355328) :
    Calls Tryz.prog 137 #[.slice (some ⟨bk, o, none⟩) xs.length c, .string sep] w fun e w' => e = .returned (.string ⟨(Lib.join (xs.map (·.data.toList)) sep.data.toList).toArray⟩) ∧ Below w.heap.size w w' := Any.strings_Join Tryz.lays156 Tryz.Builder_Extra_156 bk o c xs sep w hcells hbk hN hcap hlen
def Tryz.lays219_ren : Go.Shelf.Ren := ⟨fun | 219 => 166 | 217 => 172 | 225 => 173 | 224 => 174 | 267 => 175 | 266 => 176 | 314 => 177 | n => n, fun | 9 => 9 | 3 => 3 | 4 => 4 | 5 => 5 | 46 => 194 | 146 => 233 | 51 => 211 | n => n, fun | 1 => 4 | n => n⟩
def Tryz.lays143_ren : Go.Shelf.Ren := ⟨fun | 143 => 160 | 219 => 166 | 217 => 172 | 225 => 173 | 224 => 174 | 267 => 175 | 266 => 176 | 314 => 177 | n => n, fun | 9 => 9 | 3 => 3 | 4 => 4 | 5 => 5 | 46 => 194 | 146 => 233 | 51 => 211 | n => n, fun | 1 => 4 | n => n⟩
theorem Tryz.lays143 : Go.Proofs.Lays.n143 Tryz.prog Tryz.lays143_ren := {
  mixed := by kernel_rfl
  f143 := Tryz.func160.trans (congrArg some (by kernel_rfl))
  f217 := Tryz.func172.trans (congrArg some (by kernel_rfl))
  f219 := Tryz.func166.trans (congrArg some (by kernel_rfl))
  f224 := Tryz.func174.trans (congrArg some (by kernel_rfl))
  f225 := Tryz.func173.trans (congrArg some (by kernel_rfl))
  f266 := Tryz.func176.trans (congrArg some (by kernel_rfl))
  f267 := Tryz.func175.trans (congrArg some (by kernel_rfl))
  f314 := Tryz.func177.trans (congrArg some (by kernel_rfl))
  t3 := Tryz.underlying3
  a3 := Tryz.isAgg3
  z3 := Tryz.sizeOf3
  v3 := Tryz.zeroValue3
  t4 := Tryz.underlying4
  a4 := Tryz.isAgg4
  z4 := Tryz.sizeOf4
  v4 := Tryz.zeroValue4
  t5 := Tryz.underlying5
  a5 := Tryz.isAgg5
  z5 := Tryz.sizeOf5
  v5 := Tryz.zeroValue5
  t9 := Tryz.underlying9
  a9 := Tryz.isAgg9
  z9 := Tryz.sizeOf9
  v9 := Tryz.zeroValue9
  t46 := Tryz.underlying194
  a46 := Tryz.isAgg194
  z46 := Tryz.sizeOf194
  v46 := Tryz.zeroValue194
  t51 := Tryz.underlying211
  a51 := Tryz.isAgg211
  z51 := Tryz.sizeOf211
  v51 := Tryz.zeroValue211
  t146 := Tryz.underlying233
  a146 := Tryz.isAgg233
  z146 := Tryz.sizeOf233
  v146 := Tryz.zeroValue233
  g1 := by kernel_rfl }
open Go.RowKit Go.Lib in
theorem Tryz.strings_Index_one (s : ByteArray) (c : UInt8) (w : World) :
    Calls Tryz.prog 160 #[.string s, .string ⟨#[c]⟩] w fun e w' => e = .returned (.int .i64 (Lib.indexByte s.data.toList c)) ∧ w' = w := Any.strings_Index_one Tryz.lays143 s c w
def Tryz.lays221_ren : Go.Shelf.Ren := ⟨fun | 221 => 152 | 268 => 161 | 138 => 162 | 143 => 160 | 195 => 167 | 197 => 159 | 218 => 168 | 219 => 166 | 260 => 165 | 217 => 172 | 225 => 173 | 224 => 174 | 267 => 175 | 266 => 176 | 314 => 177 | n => n, fun | 9 => 9 | 3 => 3 | 31 => 22 | 4 => 4 | 0 => 0 | 105 => 204 | 21 => 21 | 5 => 5 | 46 => 194 | 119 => 199 | 139 => 229 | 138 => 228 | 146 => 233 | 51 => 211 | n => n, fun | 1 => 4 | 3 => 2 | 4 => 3 | n => n⟩
def Tryz.lays146_ren : Go.Shelf.Ren := ⟨fun | 146 => 136 | 221 => 152 | 268 => 161 | 138 => 162 | 143 => 160 | 195 => 167 | 197 => 159 | 218 => 168 | 219 => 166 | 260 => 165 | 217 => 172 | 225 => 173 | 224 => 174 | 267 => 175 | 266 => 176 | 314 => 177 | n => n, fun | 9 => 9 | 31 => 22 | 3 => 3 | 4 => 4 | 0 => 0 | 105 => 204 | 21 => 21 | 5 => 5 | 46 => 194 | 119 => 199 | 139 => 229 | 138 => 228 | 146 => 233 | 51 => 211 | n => n, fun | 1 => 4 | 3 => 2 | 4 => 3 | n => n⟩
theorem Tryz.lays146 : Go.Proofs.Lays.n146 Tryz.prog Tryz.lays146_ren := {
  mixed := by kernel_rfl
  f138 := Tryz.func162.trans (congrArg some (by kernel_rfl))
  f143 := Tryz.func160.trans (congrArg some (by kernel_rfl))
  f146 := Tryz.func136.trans (congrArg some (by kernel_rfl))
  f195 := Tryz.func167.trans (congrArg some (by kernel_rfl))
  f197 := Tryz.func159.trans (congrArg some (by kernel_rfl))
  f217 := Tryz.func172.trans (congrArg some (by kernel_rfl))
  f218 := Tryz.func168.trans (congrArg some (by kernel_rfl))
  f219 := Tryz.func166.trans (congrArg some (by kernel_rfl))
  f221 := Tryz.func152.trans (congrArg some (by kernel_rfl))
  f224 := Tryz.func174.trans (congrArg some (by kernel_rfl))
  f225 := Tryz.func173.trans (congrArg some (by kernel_rfl))
  f260 := Tryz.func165.trans (congrArg some (by kernel_rfl))
  f266 := Tryz.func176.trans (congrArg some (by kernel_rfl))
  f267 := Tryz.func175.trans (congrArg some (by kernel_rfl))
  f268 := Tryz.func161.trans (congrArg some (by kernel_rfl))
  f314 := Tryz.func177.trans (congrArg some (by kernel_rfl))
  t0 := Tryz.underlying0
  a0 := Tryz.isAgg0
  z0 := Tryz.sizeOf0
  v0 := Tryz.zeroValue0
  t3 := Tryz.underlying3
  a3 := Tryz.isAgg3
  z3 := Tryz.sizeOf3
  v3 := Tryz.zeroValue3
  t4 := Tryz.underlying4
  a4 := Tryz.isAgg4
  z4 := Tryz.sizeOf4
  v4 := Tryz.zeroValue4
  t5 := Tryz.underlying5
  a5 := Tryz.isAgg5
  z5 := Tryz.sizeOf5
  v5 := Tryz.zeroValue5
  t9 := Tryz.underlying9
  a9 := Tryz.isAgg9
  z9 := Tryz.sizeOf9
  v9 := Tryz.zeroValue9
  t21 := Tryz.underlying21
  a21 := Tryz.isAgg21
  z21 := Tryz.sizeOf21
  v21 := Tryz.zeroValue21
  t31 := Tryz.underlying22
  a31 := Tryz.isAgg22
  z31 := Tryz.sizeOf22
  v31 := Tryz.zeroValue22
  t46 := Tryz.underlying194
  a46 := Tryz.isAgg194
  z46 := Tryz.sizeOf194
  v46 := Tryz.zeroValue194
  t51 := Tryz.underlying211
  a51 := Tryz.isAgg211
  z51 := Tryz.sizeOf211
  v51 := Tryz.zeroValue211
  t105 := Tryz.underlying204
  a105 := Tryz.isAgg204
  z105 := Tryz.sizeOf204
  v105 := Tryz.zeroValue204
  t119 := Tryz.underlying199
  a119 := Tryz.isAgg199
  z119 := Tryz.sizeOf199
  t138 := Tryz.underlying228
  a138 := Tryz.isAgg228
  z138 := Tryz.sizeOf228
  v138 := Tryz.zeroValue228
  t139 := Tryz.underlying229
  a139 := Tryz.isAgg229
  z139 := Tryz.sizeOf229
  v139 := Tryz.zeroValue229
  t146 := Tryz.underlying233
  a146 := Tryz.isAgg233
  z146 := Tryz.sizeOf233
  v146 := Tryz.zeroValue233
  g1 := by kernel_rfl
  g3 := by kernel_rfl
  g4 := by kernel_rfl }
open Go.RowKit Go.Lib in
theorem Tryz.strings_Split (s sep : ByteArray) (m : Int) (w : World) (hs : s.size < 4294967281) (hm : w.cell? ⟨4, 0, none⟩ = some (.int .i64 m)) (h1 : 1 ≤ sep.size) :
    Calls Tryz.prog 136 #[.string s, .string sep] w fun e w' =>
      e = .returned (.slice (some ⟨w.heap.size, 0, none⟩) (Lib.countB s sep + 1) (Lib.countB s sep + 1)) ∧ w' = w.alloc (.cells ((Lib.splitB sep 0 (Lib.countB s sep) s).map Value.string).toArray 9) := Any.strings_Split Tryz.lays146 (by kernel_rfl) s sep m w hs hm h1
def Tryz.lays157_ren : Go.Shelf.Ren := ⟨fun | 157 => 148 | 229 => 155 | 199 => 156 | 261 => 164 | 311 => 170 | 312 => 171 | n => n, fun | 9 => 9 | 31 => 22 | 3 => 3 | 5 => 5 | 4 => 4 | 119 => 199 | 0 => 0 | 40 => 201 | 152 => 208 | 21 => 21 | 154 => 210 | 51 => 211 | 141 => 213 | 196 => 219 | 193 => 216 | 198 => 222 | 49 => 220 | 194 => 217 | 201 => 225 | 226 => 231 | 46 => 194 | 227 => 232 | n => n, fun | 0 => 0 | 6 => 1 | n => n⟩
theorem Tryz.lays157 : Go.Proofs.Lays.n157 Tryz.prog Tryz.lays157_ren := {
  mixed := by kernel_rfl
  f157 := Tryz.func148.trans (congrArg some (by kernel_rfl))
  f199 := Tryz.func156.trans (congrArg some (by kernel_rfl))
  f229 := Tryz.func155.trans (congrArg some (by kernel_rfl))
  f261 := Tryz.func164.trans (congrArg some (by kernel_rfl))
  f311 := Tryz.func170.trans (congrArg some (by kernel_rfl))
  f312 := Tryz.func171.trans (congrArg some (by kernel_rfl))
  t0 := Tryz.underlying0
  a0 := Tryz.isAgg0
  z0 := Tryz.sizeOf0
  v0 := Tryz.zeroValue0
  t3 := Tryz.underlying3
  a3 := Tryz.isAgg3
  z3 := Tryz.sizeOf3
  v3 := Tryz.zeroValue3
  t4 := Tryz.underlying4
  a4 := Tryz.isAgg4
  z4 := Tryz.sizeOf4
  v4 := Tryz.zeroValue4
  t5 := Tryz.underlying5
  a5 := Tryz.isAgg5
  z5 := Tryz.sizeOf5
  v5 := Tryz.zeroValue5
  t9 := Tryz.underlying9
  a9 := Tryz.isAgg9
  z9 := Tryz.sizeOf9
  v9 := Tryz.zeroValue9
  t21 := Tryz.underlying21
  a21 := Tryz.isAgg21
  z21 := Tryz.sizeOf21
  v21 := Tryz.zeroValue21
  t31 := Tryz.underlying22
  a31 := Tryz.isAgg22
  z31 := Tryz.sizeOf22
  v31 := Tryz.zeroValue22
  t40 := Tryz.underlying201
  a40 := Tryz.isAgg201
  z40 := Tryz.sizeOf201
  v40 := Tryz.zeroValue201
  t46 := Tryz.underlying194
  a46 := Tryz.isAgg194
  z46 := Tryz.sizeOf194
  v46 := Tryz.zeroValue194
  t49 := Tryz.underlying220
  a49 := Tryz.isAgg220
  z49 := Tryz.sizeOf220
  v49 := Tryz.zeroValue220
  t51 := Tryz.underlying211
  a51 := Tryz.isAgg211
  z51 := Tryz.sizeOf211
  v51 := Tryz.zeroValue211
  t119 := Tryz.underlying199
  a119 := Tryz.isAgg199
  z119 := Tryz.sizeOf199
  t141 := Tryz.underlying213
  a141 := Tryz.isAgg213
  z141 := Tryz.sizeOf213
  v141 := Tryz.zeroValue213
  t152 := Tryz.underlying208
  a152 := Tryz.isAgg208
  z152 := Tryz.sizeOf208
  v152 := Tryz.zeroValue208
  t154 := Tryz.underlying210
  a154 := Tryz.isAgg210
  z154 := Tryz.sizeOf210
  v154 := Tryz.zeroValue210
  t193 := Tryz.underlying216
  a193 := Tryz.isAgg216
  z193 := Tryz.sizeOf216
  v193 := Tryz.zeroValue216
  t194 := Tryz.underlying217
  a194 := Tryz.isAgg217
  z194 := Tryz.sizeOf217
  v194 := Tryz.zeroValue217
  t196 := Tryz.underlying219
  a196 := Tryz.isAgg219
  z196 := Tryz.sizeOf219
  v196 := Tryz.zeroValue219
  t198 := Tryz.underlying222
  a198 := Tryz.isAgg222
  z198 := Tryz.sizeOf222
  v198 := Tryz.zeroValue222
  t201 := Tryz.underlying225
  a201 := Tryz.isAgg225
  z201 := Tryz.sizeOf225
  v201 := Tryz.zeroValue225
  t226 := Tryz.underlying231
  a226 := Tryz.isAgg231
  z226 := Tryz.sizeOf231
  v226 := Tryz.zeroValue231
  t227 := Tryz.underlying232
  a227 := Tryz.isAgg232
  z227 := Tryz.sizeOf232
  v227 := Tryz.zeroValue232
  g0 := by kernel_rfl
  g6 := by kernel_rfl }
open Go.RowKit Go.Lib in
theorem Tryz.strings_Fields (s : ByteArray) (w : World) (hs : s.size < 4294967281) (hascii : ∀ (j : Nat) b, s.data.toList[j]? = some b → b.toNat < 128) (htab : Lib.TabIs Tryz.prog w "strings.asciiSpace" .u8 Lib.asciiSpaceTab) :
    Calls Tryz.prog 148 #[.string s] w fun e w' =>
      e = .returned (.slice (some ⟨w.heap.size, 0, none⟩) (Lib.fields s.data.toList).length (Lib.fields s.data.toList).length) ∧ w' = w.alloc (.cells ((Lib.fields s.data.toList).map fun l => Value.string ⟨l.toArray⟩).toArray 9) := Any.strings_Fields Tryz.lays157 (by kernel_rfl) (by kernel_rfl) s w hs hascii htab
def Tryz.laysM146_ren : Go.Shelf.Ren := ⟨fun | 146 => 136 | 221 => 152 | 268 => 161 | 138 => 162 | 143 => 160 | 195 => 167 | 197 => 159 | 218 => 168 | 219 => 166 | 260 => 165 | 217 => 172 | 225 => 173 | 224 => 174 | 267 => 175 | 266 => 176 | 314 => 177 | n => n, fun | 9 => 9 | 31 => 22 | 3 => 3 | 4 => 4 | 0 => 0 | 105 => 204 | 21 => 21 | 5 => 5 | 46 => 194 | 119 => 199 | 139 => 229 | 138 => 228 | 146 => 233 | 51 => 211 | n => n, fun | 1 => 4 | 3 => 2 | 4 => 3 | n => n⟩
theorem Tryz.laysM146 : Go.Proofs.LaysM.n146 Tryz.prog Tryz.laysM146_ren := {
  mixed := by kernel_rfl
  f138 := Tryz.func162.trans (congrArg some (by kernel_rfl))
  f143 := Tryz.func160.trans (congrArg some (by kernel_rfl))
  f146 := Tryz.func136.trans (congrArg some (by kernel_rfl))
  f195 := Tryz.func167.trans (congrArg some (by kernel_rfl))
  f197 := Tryz.func159.trans (congrArg some (by kernel_rfl))
  f217 := Tryz.func172.trans (congrArg some (by kernel_rfl))
  f218 := Tryz.func168.trans (congrArg some (by kernel_rfl))
  f219 := Tryz.func166.trans (congrArg some (by kernel_rfl))
  f221 := Tryz.func152.trans (congrArg some (by kernel_rfl))
  f224 := Tryz.func174.trans (congrArg some (by kernel_rfl))
  f225 := Tryz.func173.trans (congrArg some (by kernel_rfl))
  f260 := Tryz.func165.trans (congrArg some (by kernel_rfl))
  f266 := Tryz.func176.trans (congrArg some (by kernel_rfl))
  f267 := Tryz.func175.trans (congrArg some (by kernel_rfl))
  f268 := Tryz.func161.trans (congrArg some (by kernel_rfl))
  f314 := Tryz.func177.trans (congrArg some (by kernel_rfl))
  t0 := Tryz.underlying0
  a0 := Tryz.isAgg0
  z0 := Tryz.sizeOf0
  v0 := Tryz.zeroValue0
  t3 := Tryz.underlying3
  a3 := Tryz.isAgg3
  z3 := Tryz.sizeOf3
  v3 := Tryz.zeroValue3
  t4 := Tryz.underlying4
  a4 := Tryz.isAgg4
  z4 := Tryz.sizeOf4
  v4 := Tryz.zeroValue4
  t5 := Tryz.underlying5
  a5 := Tryz.isAgg5
  z5 := Tryz.sizeOf5
  v5 := Tryz.zeroValue5
  t9 := Tryz.underlying9
  a9 := Tryz.isAgg9
  z9 := Tryz.sizeOf9
  v9 := Tryz.zeroValue9
  t21 := Tryz.underlying21
  a21 := Tryz.isAgg21
  z21 := Tryz.sizeOf21
  v21 := Tryz.zeroValue21
  t31 := Tryz.underlying22
  a31 := Tryz.isAgg22
  z31 := Tryz.sizeOf22
  v31 := Tryz.zeroValue22
  t46 := Tryz.underlying194
  a46 := Tryz.isAgg194
  z46 := Tryz.sizeOf194
  v46 := Tryz.zeroValue194
  t51 := Tryz.underlying211
  a51 := Tryz.isAgg211
  z51 := Tryz.sizeOf211
  v51 := Tryz.zeroValue211
  t105 := Tryz.underlying204
  a105 := Tryz.isAgg204
  z105 := Tryz.sizeOf204
  v105 := Tryz.zeroValue204
  t119 := Tryz.underlying199
  a119 := Tryz.isAgg199
  z119 := Tryz.sizeOf199
  t138 := Tryz.underlying228
  a138 := Tryz.isAgg228
  z138 := Tryz.sizeOf228
  v138 := Tryz.zeroValue228
  t139 := Tryz.underlying229
  a139 := Tryz.isAgg229
  z139 := Tryz.sizeOf229
  v139 := Tryz.zeroValue229
  t146 := Tryz.underlying233
  a146 := Tryz.isAgg233
  z146 := Tryz.sizeOf233
  v146 := Tryz.zeroValue233
  g1 := by kernel_rfl
  g3 := by kernel_rfl
  g4 := by kernel_rfl
  i0 := by kernel_rfl
  i3 := by kernel_rfl
  i4 := by kernel_rfl
  i5 := by kernel_rfl
  i9 := by kernel_rfl
  i21 := by kernel_rfl
  i31 := by kernel_rfl
  i46 := by kernel_rfl
  i51 := by kernel_rfl
  i105 := by kernel_rfl
  i138 := by kernel_rfl
  i139 := by kernel_rfl
  i146 := by kernel_rfl
  m1 := by kernel_rfl
  s1_3 := fun w h => Go.Proofs.cell_of_shapedOpen_int (zero := #[.int .i64 0]) (t := 3) h (of_decide_eq_true (by kernel_rfl)) (by kernel_rfl) rfl (by kernel_rfl) (by kernel_rfl) Tryz.underlying3
  m3 := by kernel_rfl
  m4 := by kernel_rfl }
def Tryz.laysNm216_ren : Go.Shelf.Ren := ⟨fun | 16 => 96 | n => n, fun | 24 => 22 | 9 => 9 | 4 => 4 | n => n, fun | n => n⟩
theorem Tryz.laysNm216 : Go.Proofs.Lays2.n16 Tryz.prog Tryz.laysNm216_ren := {
  mixed := by kernel_rfl
  f16 := Tryz.func96.trans (congrArg some (by kernel_rfl))
  t4 := Tryz.underlying4
  a4 := Tryz.isAgg4
  z4 := Tryz.sizeOf4
  v4 := Tryz.zeroValue4
  t9 := Tryz.underlying9
  a9 := Tryz.isAgg9
  z9 := Tryz.sizeOf9
  v9 := Tryz.zeroValue9
  t24 := Tryz.underlying22
  a24 := Tryz.isAgg22
  z24 := Tryz.sizeOf22
  v24 := Tryz.zeroValue22
  i9 := by kernel_rfl }
open Go.RowKit Go.Lib in
theorem Tryz.slices_Clone_string (b off n c : Nat) (zs : List ByteArray) (w : World) (hz : n ≤ zs.length) (hbig : n * 16 ≤ 140737488355328) (hc : ∀ j, j < zs.length → w.cell? ⟨b, off + j, none⟩ = some (.string (zs.getD j ByteArray.empty))) :
    Calls Tryz.prog 96 #[.slice (some ⟨b, off, none⟩) n c] w fun e w' => ∃ v', e = .returned v' ∧ w'.ownsRow w.heap.size 9 1 v' n ((zs.take n).map (Value.string)) ∧ v' ≠ .slice none 0 0 ∧ Below w.heap.size w w' := Any.slices_Clone_string Tryz.laysNm216 b off n c zs w hz hbig hc
open Go.RowKit Go.Lib in
theorem Tryz.slices_Clone_string_nil (n c : Nat) (w : World) :
    Calls Tryz.prog 96 #[.slice none n c] w fun e w' => e = .returned (.slice none 0 0) ∧ w' = w := Any.slices_Clone_string_nil Tryz.laysNm216 n c w
open Go.RowKit Go.Lib in
theorem Tryz.slices_Clone_string_zero (a : Addr) (c : Nat) (w : World) :
    Calls Tryz.prog 96 #[.slice (some a) 0 c] w fun e w' => ∃ v', e = .returned v' ∧ w'.ownsRow w.heap.size 9 1 v' 0 [] ∧ v' ≠ .slice none 0 0 ∧ Below w.heap.size w w' := Any.slices_Clone_string_zero Tryz.laysNm216 a c w
end Go.Proofs
end
section
open Go Go.Proofs
namespace Go.Ev
open Go.Maps Go.ChangeMaps Go.WideMaps
set_option linter.unusedVariables false
set_option linter.unusedSimpArgs false
def MapAt (w : World) (b n : Nat) (L : ByteArray → Bool) : Prop := ∃ D : DataW Unit, w.ownsMap Tryz.prog 9 (plainElem Tryz.prog 4) b n D ∧ ∀ s : ByteArray, s.size ≤ maxLen → D.atKey (.string s.data.toList) (.lit (.bool false)) = .lit (.bool (L s))
theorem MapAt.same {w w' : World} {b n : Nat} {L : ByteArray → Bool} (h : MapAt w b n L) (hb : w'.heap[b]? = w.heap[b]?) : MapAt w' b n L := by
  obtain ⟨D, ⟨es, clock, h1, h2⟩, hL⟩ := h
  exact ⟨D, ⟨es, clock, hb.trans h1, h2⟩, hL⟩
theorem owns_same {w w' : World} {B e size n : Nat} {v : Value} {xs : List Value} (h : w.ownsRow B e size v n xs) (hb : ∀ k, v.ownBlock = some k → w'.heap[k]? = w.heap[k]?) : w'.ownsRow B e size v n xs := by
  obtain ⟨h1, h2 | ⟨g, cap, cur, rfl, h3, h4, h5⟩⟩ := h
  · exact ⟨h1, .inl h2⟩
  · exact ⟨h1, .inr ⟨g, cap, cur, rfl, h3, (hb g rfl).trans h4, h5⟩⟩
def FrepT (x : II 1000003) (S : Nat → Nat → Prop) (w : World) (v : Value) (fp : List Nat) : Prop :=
  match (x : Thing) with
  | .ren l => ∃ g sv, v = .func (.func 46) #[] #[.pointer (some ⟨g, 0, none⟩)] ∧ fp = [g] ∧ w.heap[g]? = some (.cells #[sv] 36 (0, 0)) ∧ DRep EE0 S w sv (.sl 39 l)
  | .names l => ∃ gs gm go sv n, v = .func (.func 38) #[] #[.pointer (some ⟨gs, 0, none⟩), .pointer (some ⟨go, 0, none⟩)] ∧ fp = gs :: gm :: go :: sv.ownBlock.toList ∧ n ≤ l.length ∧
      w.heap[gs]? = some (.cells #[.map (some gm)] 73 (0, 0)) ∧ MapAt w gm n (fun y => l.any fun z => z.toList == y.toList) ∧ w.heap[go]? = some (.cells #[sv] 22 (0, 0)) ∧ w.ownsRow 0 9 1 sv l.length (l.map Value.string)
theorem frameT (x : II 1000003) (S S' : Nat → Nat → Prop) (w w' : World) (v : Value) (fp : List Nat) (h : FrepT x S w v fp) (hS : ∀ g o, S g o → S' g o)
    (hc : ∀ g o u, S g o → w.cell? ⟨g, o, none⟩ = some u → w'.cell? ⟨g, o, none⟩ = some u) (hk : ∀ k ∈ fp, w'.heap[k]? = w.heap[k]?) : FrepT x S' w' v fp := by
  unfold FrepT at h ⊢
  cases x with
  | ren l =>
    obtain ⟨g, sv, rfl, rfl, h1, h2⟩ := h
    exact ⟨g, sv, rfl, rfl, (hk g (by simp)).trans h1, h2.move hS hc⟩
  | names l =>
    obtain ⟨gs, gm, go, sv, n, rfl, rfl, hn, h1, h2, h3, h4⟩ := h
    exact ⟨gs, gm, go, sv, n, rfl, rfl, hn, (hk gs (by simp)).trans h1, h2.same (hk gm (by simp)), (hk go (by simp)).trans h3, owns_same h4 fun k e => hk k (by simp [e])⟩
def InvT (w : World) : Prop := Lib.TabIs Tryz.prog w "strings.asciiSpace" .u8 Lib.asciiSpaceTab ∧ ∃ m, w.cell? ⟨4, 0, none⟩ = some (.int .i64 m)
theorem cell_lt {w : World} {a : Addr} {v : Value} (h : w.cell? a = some v) : a.block < w.heap.size := by
  unfold World.cell? at h
  split at h
  · rename_i hb; exact (Array.getElem?_eq_some_iff.1 hb).1
  · cases h
theorem tab_same {w w' : World} (h : Lib.TabIs Tryz.prog w "strings.asciiSpace" .u8 Lib.asciiSpaceTab) (h0 : w'.heap[0]? = w.heap[0]?) : Lib.TabIs Tryz.prog w' "strings.asciiSpace" .u8 Lib.asciiSpaceTab := by
  have hgn : Tryz.prog.globalNamed "strings.asciiSpace" = some 0 := by kernel_rfl
  unfold Lib.TabIs World.var? at h ⊢
  rw [hgn] at h ⊢
  simp only [Option.bind_some] at h ⊢
  rw [h0]; exact h
theorem tab_lt {w : World} (h : Lib.TabIs Tryz.prog w "strings.asciiSpace" .u8 Lib.asciiSpaceTab) : 0 < w.heap.size := by
  have hgn : Tryz.prog.globalNamed "strings.asciiSpace" = some 0 := by kernel_rfl
  unfold Lib.TabIs World.var? at h
  rw [hgn] at h
  simp only [Option.bind_some] at h
  rcases Nat.lt_or_ge 0 w.heap.size with h' | h'
  · exact h'
  · simp [Array.getElem?_eq_none h'] at h
def EE : Env II := { EE0 with
  io := fun _ => false
  frep := FrepT
  frame := frameT
  glob := fun k => k = 0 ∨ k = 4
  inv := InvT
  invLt := by
    rintro w k ⟨h1, m, h2⟩ (rfl | rfl)
    · exact tab_lt h1
    · exact cell_lt h2
  invKeep := by
    rintro w w' ⟨h1, m, h2⟩ hk
    refine ⟨tab_same h1 (hk 0 (.inl rfl)), m, ?_⟩
    rw [← h2]
    simp only [World.cell?, hk 4 (.inr rfl)] }
end Go.Ev
end
section
open Go Go.Proofs
namespace Go.Ev
set_option maxRecDepth 100000
set_option maxHeartbeats 4000000
def cT : CodC EE Thing := cellT some (fun x => x) fun x a h => by injection h with h; exact h.symm
def c_TExpr : Cod EE TExpr := codS mk_TExpr row_TExpr fun _ _ => mk_TExpr_le
def c_TField : Cod EE TField := codS mk_TField row_TField fun _ _ => mk_TField_le
def c_TMarks : Cod EE TMarks := codS mk_TMarks row_TMarks fun _ _ => mk_TMarks_le
def c_TParam : Cod EE TParam := codS mk_TParam row_TParam fun _ _ => mk_TParam_le
def c_TProgram : Cod EE TProgram := codS mk_TProgram row_TProgram fun _ _ => mk_TProgram_le
def c_TRec : Cod EE TRec := codS mk_TRec row_TRec fun _ _ => mk_TRec_le
def c_TRoutine : Cod EE TRoutine := codS mk_TRoutine row_TRoutine fun _ _ => mk_TRoutine_le
def c_TStmt : Cod EE TStmt := codS mk_TStmt row_TStmt fun _ _ => mk_TStmt_le
def c_TType : Cod EE TType := codS mk_TType row_TType fun _ _ => mk_TType_le
def c_TVar : Cod EE TVar := codS mk_TVar row_TVar fun _ _ => mk_TVar_le
def c_Ttree_checker : Cod EE Ttree_checker := codS mk_Ttree_checker row_Ttree_checker fun _ _ => mk_Ttree_checker_le
def c_Ttree_shape : Cod EE Ttree_shape := codS mk_Ttree_shape row_Ttree_shape fun _ _ => mk_Ttree_shape_le
abbrev a_w07_TreeChecks : Type := Int × TProgram × Unit
abbrev b_w07_TreeChecks : Type := Bool
def c_w07_TreeChecks : CodL EE a_w07_TreeChecks := .cons (cInt .i64) (.cons c_TProgram .nil)
def rc_w07_TreeChecks : RC EE b_w07_TreeChecks := RC.one cBool
def co_w07_TreeChecks : Co := { res := [[.any]] }
abbrev a_w07_TreeNames : Type := TProgram × Unit
abbrev b_w07_TreeNames : Type := Bool
def c_w07_TreeNames : CodL EE a_w07_TreeNames := .cons c_TProgram .nil
def rc_w07_TreeNames : RC EE b_w07_TreeNames := RC.one cBool
def co_w07_TreeNames : Co := { res := [[.any]] }
abbrev a_w07_TreeBack : Type := TProgram × Unit
abbrev b_w07_TreeBack : Type := Bool
def c_w07_TreeBack : CodL EE a_w07_TreeBack := .cons c_TProgram .nil
def rc_w07_TreeBack : RC EE b_w07_TreeBack := RC.one cBool
def co_w07_TreeBack : Co := { res := [[.any]] }
abbrev a_w07_TreeExprs : Type := Int × TExpr × Unit
abbrev b_w07_TreeExprs : Type := Bool
def c_w07_TreeExprs : CodL EE a_w07_TreeExprs := .cons (cInt .i64) (.cons c_TExpr .nil)
def rc_w07_TreeExprs : RC EE b_w07_TreeExprs := RC.one cBool
def co_w07_TreeExprs : Co := { res := [[.any]] }
abbrev a_w07_TreeSame : Type := TProgram × TProgram × TExpr × TExpr × Unit
abbrev b_w07_TreeSame : Type := Bool
def c_w07_TreeSame : CodL EE a_w07_TreeSame := .cons c_TProgram (.cons c_TProgram (.cons c_TExpr (.cons c_TExpr .nil)))
def rc_w07_TreeSame : RC EE b_w07_TreeSame := RC.one cBool
def co_w07_TreeSame : Co := { res := [[.any]] }
abbrev a_w07_TreeAlike : Type := TProgram × TProgram × TProgram × Unit
abbrev b_w07_TreeAlike : Type := Bool
def c_w07_TreeAlike : CodL EE a_w07_TreeAlike := .cons c_TProgram (.cons c_TProgram (.cons c_TProgram .nil))
def rc_w07_TreeAlike : RC EE b_w07_TreeAlike := RC.one cBool
def co_w07_TreeAlike : Co := { res := [[.any]] }
abbrev a_tree_Check : Type := Int × TProgram × Unit
abbrev b_tree_Check : Type := Int
def c_tree_Check : CodL EE a_tree_Check := .cons (cInt .i64) (.cons c_TProgram .nil)
def rc_tree_Check : RC EE b_tree_Check := RC.one (cInt .i64)
def co_tree_Check : Co := { res := [[.any]] }
abbrev a_r07_Check : Type := Int × TProgram × Unit
abbrev b_r07_Check : Type := Bool
def c_r07_Check : CodL EE a_r07_Check := .cons (cInt .i64) (.cons c_TProgram .nil)
def rc_r07_Check : RC EE b_r07_Check := RC.one cBool
def co_r07_Check : Co := { res := [[.any]] }
abbrev a_w07_awake : Type := Unit
abbrev b_w07_awake : Type := Bool
def c_w07_awake : CodL EE a_w07_awake := .nil
def rc_w07_awake : RC EE b_w07_awake := RC.one cBool
def co_w07_awake : Co := { res := [[.any]] }
abbrev a_r01_SameTexts : Type := (List ByteArray) × (List ByteArray) × Unit
abbrev b_r01_SameTexts : Type := Bool
def c_r01_SameTexts : CodL EE a_r01_SameTexts := .cons (cSl 9) (.cons (cSl 9) .nil)
def rc_r01_SameTexts : RC EE b_r01_SameTexts := RC.one cBool
def co_r01_SameTexts : Co := { res := [[.any]] }
abbrev a_tree_Names : Type := TProgram × Unit
abbrev b_tree_Names : Type := (List ByteArray)
def c_tree_Names : CodL EE a_tree_Names := .cons c_TProgram .nil
def rc_tree_Names : RC EE b_tree_Names := RC.one (cSl 9)
abbrev a_r07_Names : Type := TProgram × Unit
abbrev b_r07_Names : Type := (List ByteArray)
def c_r07_Names : CodL EE a_r07_Names := .cons c_TProgram .nil
def rc_r07_Names : RC EE b_r07_Names := RC.one (cSl 9)
def co_r07_Names : Co := { res := [[.sl 9]] }
abbrev a_r01_Digits : Type := Int × Unit
abbrev b_r01_Digits : Type := ByteArray
def c_r01_Digits : CodL EE a_r01_Digits := .cons (cInt .i64) .nil
def rc_r01_Digits : RC EE b_r01_Digits := RC.one cStr
def co_r01_Digits : Co := { res := [[.any]] }
abbrev a_tree_Rename : Type := TProgram × (List TPair) × Unit
abbrev b_tree_Rename : Type := TProgram
def c_tree_Rename : CodL EE a_tree_Rename := .cons c_TProgram (.cons (cSl 39) .nil)
def rc_tree_Rename : RC EE b_tree_Rename := RC.one c_TProgram
abbrev a_r07_Same : Type := TProgram × TProgram × Unit
abbrev b_r07_Same : Type := Bool
def c_r07_Same : CodL EE a_r07_Same := .cons c_TProgram (.cons c_TProgram .nil)
def rc_r07_Same : RC EE b_r07_Same := RC.one cBool
def co_r07_Same : Co := { res := [[.any]] }
abbrev a_tree_CheckExpr : Type := Int × TExpr × Unit
abbrev b_tree_CheckExpr : Type := Int
def c_tree_CheckExpr : CodL EE a_tree_CheckExpr := .cons (cInt .i64) (.cons c_TExpr .nil)
def rc_tree_CheckExpr : RC EE b_tree_CheckExpr := RC.one (cInt .i64)
def co_tree_CheckExpr : Co := { res := [[.any]] }
abbrev a_r07_Expr : Type := Int × TExpr × Unit
abbrev b_r07_Expr : Type := Bool
def c_r07_Expr : CodL EE a_r07_Expr := .cons (cInt .i64) (.cons c_TExpr .nil)
def rc_r07_Expr : RC EE b_r07_Expr := RC.one cBool
def co_r07_Expr : Co := { res := [[.any]] }
abbrev a_tree_Same : Type := TProgram × TProgram × Unit
abbrev b_tree_Same : Type := Bool
def c_tree_Same : CodL EE a_tree_Same := .cons c_TProgram (.cons c_TProgram .nil)
def rc_tree_Same : RC EE b_tree_Same := RC.one cBool
def co_tree_Same : Co := { res := [[.any]] }
abbrev a_tree_SameExpr : Type := TExpr × TExpr × Unit
abbrev b_tree_SameExpr : Type := Bool
def c_tree_SameExpr : CodL EE a_tree_SameExpr := .cons c_TExpr (.cons c_TExpr .nil)
def rc_tree_SameExpr : RC EE b_tree_SameExpr := RC.one cBool
def co_tree_SameExpr : Co := { res := [[.any]] }
abbrev a_r07_SameExpr : Type := TExpr × TExpr × Unit
abbrev b_r07_SameExpr : Type := Bool
def c_r07_SameExpr : CodL EE a_r07_SameExpr := .cons c_TExpr (.cons c_TExpr .nil)
def rc_r07_SameExpr : RC EE b_r07_SameExpr := RC.one cBool
def co_r07_SameExpr : Co := { res := [[.any]] }
abbrev a_tree_checker_name : Type := Ttree_checker × ByteArray × Unit
abbrev b_tree_checker_name : Type := Bool
def c_tree_checker_name : CodL EE a_tree_checker_name := .cons c_Ttree_checker (.cons cStr .nil)
def rc_tree_checker_name : RC EE b_tree_checker_name := RC.one cBool
def co_tree_checker_name : Co := { res := [[.any]] }
abbrev a_tree_notes : Type := (List (List ByteArray)) × Unit
abbrev b_tree_notes : Type := Bool
def c_tree_notes : CodL EE a_tree_notes := .cons (cSl 22) .nil
def rc_tree_notes : RC EE b_tree_notes := RC.one cBool
def co_tree_notes : Co := { res := [[.any]] }
abbrev a_tree_few_Rec : Type := (List TRec) × Unit
abbrev b_tree_few_Rec : Type := Bool
def c_tree_few_Rec : CodL EE a_tree_few_Rec := .cons (cSl 59) .nil
def rc_tree_few_Rec : RC EE b_tree_few_Rec := RC.one cBool
def co_tree_few_Rec : Co := { res := [[.any]] }
abbrev a_slices_ContainsFunc_Rec : Type := (List TRec) × (Unit × Ttree_checker × Unit) × Unit
abbrev b_slices_ContainsFunc_Rec : Type := Bool
def c_slices_ContainsFunc_Rec : CodL EE a_slices_ContainsFunc_Rec := .cons (cSl 59) (.cons (.c (cellClo 27 .nil (.cons (cellRP 0 mk_Ttree_checker row_Ttree_checker fun _ _ => mk_Ttree_checker_le) .nil))) .nil)
def rc_slices_ContainsFunc_Rec : RC EE b_slices_ContainsFunc_Rec := RC.one cBool
def co_slices_ContainsFunc_Rec : Co := { res := [[.any]] }
abbrev a_tree_Check_1 : Type := TRec × Ttree_checker × Unit
abbrev b_tree_Check_1 : Type := Bool
def c_tree_Check_1 : CodL EE a_tree_Check_1 := .cons c_TRec (.cons (.c (cellRP 0 mk_Ttree_checker row_Ttree_checker fun _ _ => mk_Ttree_checker_le)) .nil)
def rc_tree_Check_1 : RC EE b_tree_Check_1 := RC.one cBool
def co_tree_Check_1 : Co := { res := [[.any]] }
abbrev a_tree_checker_rec : Type := Ttree_checker × TRec × Unit
abbrev b_tree_checker_rec : Type := Bool
def c_tree_checker_rec : CodL EE a_tree_checker_rec := .cons c_Ttree_checker (.cons c_TRec .nil)
def rc_tree_checker_rec : RC EE b_tree_checker_rec := RC.one cBool
def co_tree_checker_rec : Co := { res := [[.any]] }
abbrev a_tree_checker_vars : Type := Ttree_checker × (List TVar) × Unit
abbrev b_tree_checker_vars : Type := Bool
def c_tree_checker_vars : CodL EE a_tree_checker_vars := .cons c_Ttree_checker (.cons (cSl 98) .nil)
def rc_tree_checker_vars : RC EE b_tree_checker_vars := RC.one cBool
def co_tree_checker_vars : Co := { res := [[.any]] }
abbrev a_tree_checker_routines : Type := Ttree_checker × (List TRoutine) × Int × Unit
abbrev b_tree_checker_routines : Type := Bool
def c_tree_checker_routines : CodL EE a_tree_checker_routines := .cons c_Ttree_checker (.cons (cSl 103) (.cons (cInt .i64) .nil))
def rc_tree_checker_routines : RC EE b_tree_checker_routines := RC.one cBool
def co_tree_checker_routines : Co := { res := [[.any]] }
abbrev a_tree_checker_stmts : Type := Ttree_checker × (List TStmt) × Int × Unit
abbrev b_tree_checker_stmts : Type := Bool
def c_tree_checker_stmts : CodL EE a_tree_checker_stmts := .cons c_Ttree_checker (.cons (cSl 107) (.cons (cInt .i64) .nil))
def rc_tree_checker_stmts : RC EE b_tree_checker_stmts := RC.one cBool
def co_tree_checker_stmts : Co := { res := [[.any]] }
abbrev a_r07_Name : Type := Int × ByteArray × Unit
abbrev b_r07_Name : Type := Bool
def c_r07_Name : CodL EE a_r07_Name := .cons (cInt .i64) (.cons cStr .nil)
def rc_r07_Name : RC EE b_r07_Name := RC.one cBool
def co_r07_Name : Co := { res := [[.any]] }
abbrev a_r07_notes : Type := (List ByteArray) × Unit
abbrev b_r07_notes : Type := Bool
def c_r07_notes : CodL EE a_r07_notes := .cons (cSl 9) .nil
def rc_r07_notes : RC EE b_r07_notes := RC.one cBool
def co_r07_notes : Co := { res := [[.any]] }
abbrev a_r07_marks : Type := TMarks × Unit
abbrev b_r07_marks : Type := Bool
def c_r07_marks : CodL EE a_r07_marks := .cons c_TMarks .nil
def rc_r07_marks : RC EE b_r07_marks := RC.one cBool
def co_r07_marks : Co := { res := [[.any]] }
abbrev a_r07_vars : Type := Int × (List TVar) × Unit
abbrev b_r07_vars : Type := Bool
def c_r07_vars : CodL EE a_r07_vars := .cons (cInt .i64) (.cons (cSl 98) .nil)
def rc_r07_vars : RC EE b_r07_vars := RC.one cBool
def co_r07_vars : Co := { res := [[.any]] }
abbrev a_r07_routines : Type := Int × (List TRoutine) × Int × Unit
abbrev b_r07_routines : Type := Bool
def c_r07_routines : CodL EE a_r07_routines := .cons (cInt .i64) (.cons (cSl 103) (.cons (cInt .i64) .nil))
def rc_r07_routines : RC EE b_r07_routines := RC.one cBool
def co_r07_routines : Co := { res := [[.any]] }
abbrev a_r07_Stmts : Type := Int × (List TStmt) × Int × Unit
abbrev b_r07_Stmts : Type := Bool
def c_r07_Stmts : CodL EE a_r07_Stmts := .cons (cInt .i64) (.cons (cSl 107) (.cons (cInt .i64) .nil))
def rc_r07_Stmts : RC EE b_r07_Stmts := RC.one cBool
def co_r07_Stmts : Co := { res := [[.any]] }
abbrev a_tree_mapper_program : Type := (Thing × Unit) × TProgram × Unit
abbrev b_tree_mapper_program : Type := TProgram × (Thing × Unit)
def c_tree_mapper_program : CodL EE a_tree_mapper_program := .cons (.agg (.cons cT .nil)) (.cons c_TProgram .nil)
def rc_tree_mapper_program : RC EE b_tree_mapper_program := RC.oneR c_TProgram (.cons cT .nil)
def co_tree_mapper_program : Co := { res := [[.any, .sl 9, .sl 9, .sl 9, .sl 59, .sl 98, .sl 103, .sl 107, .sl 9]] }
abbrev a_r07_Parts : Type := ByteArray × Unit
abbrev b_r07_Parts : Type := (List ByteArray)
def c_r07_Parts : CodL EE a_r07_Parts := .cons cStr .nil
def rc_r07_Parts : RC EE b_r07_Parts := RC.one (Cod.c (cellO 9))
def co_r07_Parts : Co := { res := [[.ow 9]] }
abbrev a_r07_varNames : Type := (List TVar) × Unit
abbrev b_r07_varNames : Type := (List ByteArray)
def c_r07_varNames : CodL EE a_r07_varNames := .cons (cSl 98) .nil
def rc_r07_varNames : RC EE b_r07_varNames := RC.one (cSl 9)
def co_r07_varNames : Co := { res := [[.sl 9]] }
abbrev a_r07_routineNames : Type := (List TRoutine) × Unit
abbrev b_r07_routineNames : Type := (List ByteArray)
def c_r07_routineNames : CodL EE a_r07_routineNames := .cons (cSl 103) .nil
def rc_r07_routineNames : RC EE b_r07_routineNames := RC.one (cSl 9)
def co_r07_routineNames : Co := { res := [[.sl 9]] }
abbrev a_r07_stmtNames : Type := (List TStmt) × Unit
abbrev b_r07_stmtNames : Type := (List ByteArray)
def c_r07_stmtNames : CodL EE a_r07_stmtNames := .cons (cSl 107) .nil
def rc_r07_stmtNames : RC EE b_r07_stmtNames := RC.one (cSl 9)
def co_r07_stmtNames : Co := { res := [[.sl 9]] }
abbrev a_r04_Among : Type := (List ByteArray) × ByteArray × Unit
abbrev b_r04_Among : Type := Bool
def c_r04_Among : CodL EE a_r04_Among := .cons (cSl 9) (.cons cStr .nil)
def rc_r04_Among : RC EE b_r04_Among := RC.one cBool
def co_r04_Among : Co := { res := [[.any]] }
abbrev a_r01_long : Type := Int × Unit
abbrev b_r01_long : Type := ByteArray
def c_r01_long : CodL EE a_r01_long := .cons (cInt .u64) .nil
def rc_r01_long : RC EE b_r01_long := RC.one cStr
def co_r01_long : Co := { res := [[.any]] }
abbrev a_tree_Rename_1 : Type := ByteArray × (List TPair) × Unit
abbrev b_tree_Rename_1 : Type := ByteArray
def c_tree_Rename_1 : CodL EE a_tree_Rename_1 := .cons cStr (.cons (.c (cellRPL 39)) .nil)
def rc_tree_Rename_1 : RC EE b_tree_Rename_1 := RC.one cStr
def co_tree_Rename_1 : Co := { res := [[.any]] }
abbrev a_r07_sameMarks : Type := TMarks × TMarks × Unit
abbrev b_r07_sameMarks : Type := Bool
def c_r07_sameMarks : CodL EE a_r07_sameMarks := .cons c_TMarks (.cons c_TMarks .nil)
def rc_r07_sameMarks : RC EE b_r07_sameMarks := RC.one cBool
def co_r07_sameMarks : Co := { res := [[.any]] }
abbrev a_r07_sameVars : Type := (List TVar) × (List TVar) × Unit
abbrev b_r07_sameVars : Type := Bool
def c_r07_sameVars : CodL EE a_r07_sameVars := .cons (cSl 98) (.cons (cSl 98) .nil)
def rc_r07_sameVars : RC EE b_r07_sameVars := RC.one cBool
def co_r07_sameVars : Co := { res := [[.any]] }
abbrev a_r07_SameRoutines : Type := (List TRoutine) × (List TRoutine) × Unit
abbrev b_r07_SameRoutines : Type := Bool
def c_r07_SameRoutines : CodL EE a_r07_SameRoutines := .cons (cSl 103) (.cons (cSl 103) .nil)
def rc_r07_SameRoutines : RC EE b_r07_SameRoutines := RC.one cBool
def co_r07_SameRoutines : Co := { res := [[.any]] }
abbrev a_r07_SameStmts : Type := (List TStmt) × (List TStmt) × Unit
abbrev b_r07_SameStmts : Type := Bool
def c_r07_SameStmts : CodL EE a_r07_SameStmts := .cons (cSl 107) (.cons (cSl 107) .nil)
def rc_r07_SameStmts : RC EE b_r07_SameStmts := RC.one cBool
def co_r07_SameStmts : Co := { res := [[.any]] }
abbrev a_tree_checker_expr : Type := Ttree_checker × TExpr × Unit
abbrev b_tree_checker_expr : Type := Int
def c_tree_checker_expr : CodL EE a_tree_checker_expr := .cons c_Ttree_checker (.cons c_TExpr .nil)
def rc_tree_checker_expr : RC EE b_tree_checker_expr := RC.one (cInt .i64)
def co_tree_checker_expr : Co := { res := [[.any]] }
abbrev a_r07_form : Type := Int × TExpr × Int × Unit
abbrev b_r07_form : Type := Bool
def c_r07_form : CodL EE a_r07_form := .cons (cInt .i64) (.cons c_TExpr (.cons (cInt .i64) .nil))
def rc_r07_form : RC EE b_r07_form := RC.one cBool
def co_r07_form : Co := { res := [[.any]] }
abbrev a_r07_Deep : Type := TExpr × Int × Unit
abbrev b_r07_Deep : Type := Int
def c_r07_Deep : CodL EE a_r07_Deep := .cons c_TExpr (.cons (cInt .i64) .nil)
def rc_r07_Deep : RC EE b_r07_Deep := RC.one (cInt .i64)
def co_r07_Deep : Co := { res := [[.any]] }
abbrev a_slices_Equal_string : Type := (List ByteArray) × (List ByteArray) × Unit
abbrev b_slices_Equal_string : Type := Bool
def c_slices_Equal_string : CodL EE a_slices_Equal_string := .cons (cSl 9) (.cons (cSl 9) .nil)
def rc_slices_Equal_string : RC EE b_slices_Equal_string := RC.one cBool
def co_slices_Equal_string : Co := { res := [[.any]] }
abbrev a_slices_EqualFunc_Rec : Type := (List TRec) × (List TRec) × (Unit × Unit) × Unit
abbrev b_slices_EqualFunc_Rec : Type := Bool
def c_slices_EqualFunc_Rec : CodL EE a_slices_EqualFunc_Rec := .cons (cSl 59) (.cons (cSl 59) (.cons (.c (cellClo 56 .nil .nil)) .nil))
def rc_slices_EqualFunc_Rec : RC EE b_slices_EqualFunc_Rec := RC.one cBool
def co_slices_EqualFunc_Rec : Co := { res := [[.any]] }
abbrev a_tree_sameRec : Type := TRec × TRec × Unit
abbrev b_tree_sameRec : Type := Bool
def c_tree_sameRec : CodL EE a_tree_sameRec := .cons c_TRec (.cons c_TRec .nil)
def rc_tree_sameRec : RC EE b_tree_sameRec := RC.one cBool
def co_tree_sameRec : Co := { res := [[.any]] }
abbrev a_slices_EqualFunc_Var : Type := (List TVar) × (List TVar) × (Unit × Unit) × Unit
abbrev b_slices_EqualFunc_Var : Type := Bool
def c_slices_EqualFunc_Var : CodL EE a_slices_EqualFunc_Var := .cons (cSl 98) (.cons (cSl 98) (.cons (.c (cellClo 58 .nil .nil)) .nil))
def rc_slices_EqualFunc_Var : RC EE b_slices_EqualFunc_Var := RC.one cBool
def co_slices_EqualFunc_Var : Co := { res := [[.any]] }
abbrev a_tree_sameVar : Type := TVar × TVar × Unit
abbrev b_tree_sameVar : Type := Bool
def c_tree_sameVar : CodL EE a_tree_sameVar := .cons c_TVar (.cons c_TVar .nil)
def rc_tree_sameVar : RC EE b_tree_sameVar := RC.one cBool
def co_tree_sameVar : Co := { res := [[.any]] }
abbrev a_slices_EqualFunc_Routine : Type := (List TRoutine) × (List TRoutine) × (Unit × Unit) × Unit
abbrev b_slices_EqualFunc_Routine : Type := Bool
def c_slices_EqualFunc_Routine : CodL EE a_slices_EqualFunc_Routine := .cons (cSl 103) (.cons (cSl 103) (.cons (.c (cellClo 60 .nil .nil)) .nil))
def rc_slices_EqualFunc_Routine : RC EE b_slices_EqualFunc_Routine := RC.one cBool
def co_slices_EqualFunc_Routine : Co := { res := [[.any]] }
abbrev a_tree_sameRoutine : Type := TRoutine × TRoutine × Unit
abbrev b_tree_sameRoutine : Type := Bool
def c_tree_sameRoutine : CodL EE a_tree_sameRoutine := .cons c_TRoutine (.cons c_TRoutine .nil)
def rc_tree_sameRoutine : RC EE b_tree_sameRoutine := RC.one cBool
def co_tree_sameRoutine : Co := { res := [[.any]] }
abbrev a_slices_EqualFunc_Stmt : Type := (List TStmt) × (List TStmt) × (Unit × Unit) × Unit
abbrev b_slices_EqualFunc_Stmt : Type := Bool
def c_slices_EqualFunc_Stmt : CodL EE a_slices_EqualFunc_Stmt := .cons (cSl 107) (.cons (cSl 107) (.cons (.c (cellClo 62 .nil .nil)) .nil))
def rc_slices_EqualFunc_Stmt : RC EE b_slices_EqualFunc_Stmt := RC.one cBool
def co_slices_EqualFunc_Stmt : Co := { res := [[.any]] }
abbrev a_tree_sameStmt : Type := TStmt × TStmt × Unit
abbrev b_tree_sameStmt : Type := Bool
def c_tree_sameStmt : CodL EE a_tree_sameStmt := .cons c_TStmt (.cons c_TStmt .nil)
def rc_tree_sameStmt : RC EE b_tree_sameStmt := RC.one cBool
def co_tree_sameStmt : Co := { res := [[.any]] }
abbrev a_slices_EqualFunc_Expr : Type := (List TExpr) × (List TExpr) × (Unit × Unit) × Unit
abbrev b_slices_EqualFunc_Expr : Type := Bool
def c_slices_EqualFunc_Expr : CodL EE a_slices_EqualFunc_Expr := .cons (cSl 44) (.cons (cSl 44) (.cons (.c (cellClo 21 .nil .nil)) .nil))
def rc_slices_EqualFunc_Expr : RC EE b_slices_EqualFunc_Expr := RC.one cBool
def co_slices_EqualFunc_Expr : Co := { res := [[.any]] }
abbrev a_r07_SameExprs : Type := (List TExpr) × (List TExpr) × Unit
abbrev b_r07_SameExprs : Type := Bool
def c_r07_SameExprs : CodL EE a_r07_SameExprs := .cons (cSl 44) (.cons (cSl 44) .nil)
def rc_r07_SameExprs : RC EE b_r07_SameExprs := RC.one cBool
def co_r07_SameExprs : Co := { res := [[.any]] }
abbrev a_words_Check : Type := ByteArray × Unit
abbrev b_words_Check : Type := Int
def c_words_Check : CodL EE a_words_Check := .cons cStr .nil
def rc_words_Check : RC EE b_words_Check := RC.one (cInt .i64)
def co_words_Check : Co := { res := [[.any]] }
abbrev a_words_Is : Type := Int × ByteArray × Unit
abbrev b_words_Is : Type := Bool
def c_words_Is : CodL EE a_words_Is := .cons (cInt .i64) (.cons cStr .nil)
def rc_words_Is : RC EE b_words_Is := RC.one cBool
abbrev a_tree_few_string : Type := (List ByteArray) × Unit
abbrev b_tree_few_string : Type := Bool
def c_tree_few_string : CodL EE a_tree_few_string := .cons (cSl 9) .nil
def rc_tree_few_string : RC EE b_tree_few_string := RC.one cBool
def co_tree_few_string : Co := { res := [[.any]] }
abbrev a_note_Print : Type := Int × ByteArray × Unit
abbrev b_note_Print : Type := ByteArray × Int × Unit
def c_note_Print : CodL EE a_note_Print := .cons (cInt .i64) (.cons cStr .nil)
def rc_note_Print : RC EE b_note_Print := RC.many (.cons cStr (.cons (cInt .i64) .nil))
abbrev a_slices_IndexFunc_Rec : Type := (List TRec) × (Unit × Ttree_checker × Unit) × Unit
abbrev b_slices_IndexFunc_Rec : Type := Int
def c_slices_IndexFunc_Rec : CodL EE a_slices_IndexFunc_Rec := .cons (cSl 59) (.cons (.c (cellClo 27 .nil (.cons (cellRP 0 mk_Ttree_checker row_Ttree_checker fun _ _ => mk_Ttree_checker_le) .nil))) .nil)
def rc_slices_IndexFunc_Rec : RC EE b_slices_IndexFunc_Rec := RC.one (cInt .i64)
def co_slices_IndexFunc_Rec : Co := { res := [[.any]] }
abbrev a_tree_few_Field : Type := (List TField) × Unit
abbrev b_tree_few_Field : Type := Bool
def c_tree_few_Field : CodL EE a_tree_few_Field := .cons (cSl 69) .nil
def rc_tree_few_Field : RC EE b_tree_few_Field := RC.one cBool
def co_tree_few_Field : Co := { res := [[.any]] }
abbrev a_slices_ContainsFunc_Field : Type := (List TField) × (Unit × Ttree_checker × Unit) × Unit
abbrev b_slices_ContainsFunc_Field : Type := Bool
def c_slices_ContainsFunc_Field : CodL EE a_slices_ContainsFunc_Field := .cons (cSl 69) (.cons (.c (cellClo 72 .nil (.cons (cellRP 0 mk_Ttree_checker row_Ttree_checker fun _ _ => mk_Ttree_checker_le) .nil))) .nil)
def rc_slices_ContainsFunc_Field : RC EE b_slices_ContainsFunc_Field := RC.one cBool
def co_slices_ContainsFunc_Field : Co := { res := [[.any]] }
abbrev a_tree_checker_rec_1 : Type := TField × Ttree_checker × Unit
abbrev b_tree_checker_rec_1 : Type := Bool
def c_tree_checker_rec_1 : CodL EE a_tree_checker_rec_1 := .cons c_TField (.cons (.c (cellRP 0 mk_Ttree_checker row_Ttree_checker fun _ _ => mk_Ttree_checker_le)) .nil)
def rc_tree_checker_rec_1 : RC EE b_tree_checker_rec_1 := RC.one cBool
def co_tree_checker_rec_1 : Co := { res := [[.any]] }
abbrev a_tree_kind : Type := Int × Unit
abbrev b_tree_kind : Type := Bool
def c_tree_kind : CodL EE a_tree_kind := .cons (cInt .i64) .nil
def rc_tree_kind : RC EE b_tree_kind := RC.one cBool
def co_tree_kind : Co := { res := [[.any]] }
abbrev a_tree_few_Var : Type := (List TVar) × Unit
abbrev b_tree_few_Var : Type := Bool
def c_tree_few_Var : CodL EE a_tree_few_Var := .cons (cSl 98) .nil
def rc_tree_few_Var : RC EE b_tree_few_Var := RC.one cBool
def co_tree_few_Var : Co := { res := [[.any]] }
abbrev a_slices_ContainsFunc_Var : Type := (List TVar) × (Unit × Ttree_checker × Unit) × Unit
abbrev b_slices_ContainsFunc_Var : Type := Bool
def c_slices_ContainsFunc_Var : CodL EE a_slices_ContainsFunc_Var := .cons (cSl 98) (.cons (.c (cellClo 76 .nil (.cons (cellRP 0 mk_Ttree_checker row_Ttree_checker fun _ _ => mk_Ttree_checker_le) .nil))) .nil)
def rc_slices_ContainsFunc_Var : RC EE b_slices_ContainsFunc_Var := RC.one cBool
def co_slices_ContainsFunc_Var : Co := { res := [[.any]] }
abbrev a_tree_checker_vars_1 : Type := TVar × Ttree_checker × Unit
abbrev b_tree_checker_vars_1 : Type := Bool
def c_tree_checker_vars_1 : CodL EE a_tree_checker_vars_1 := .cons c_TVar (.cons (.c (cellRP 0 mk_Ttree_checker row_Ttree_checker fun _ _ => mk_Ttree_checker_le)) .nil)
def rc_tree_checker_vars_1 : RC EE b_tree_checker_vars_1 := RC.one cBool
def co_tree_checker_vars_1 : Co := { res := [[.any]] }
abbrev a_tree_checker_typ : Type := Ttree_checker × TType × Unit
abbrev b_tree_checker_typ : Type := Bool
def c_tree_checker_typ : CodL EE a_tree_checker_typ := .cons c_Ttree_checker (.cons c_TType .nil)
def rc_tree_checker_typ : RC EE b_tree_checker_typ := RC.one cBool
def co_tree_checker_typ : Co := { res := [[.any]] }
abbrev a_tree_few_Routine : Type := (List TRoutine) × Unit
abbrev b_tree_few_Routine : Type := Bool
def c_tree_few_Routine : CodL EE a_tree_few_Routine := .cons (cSl 103) .nil
def rc_tree_few_Routine : RC EE b_tree_few_Routine := RC.one cBool
def co_tree_few_Routine : Co := { res := [[.any]] }
abbrev a_tree_apart : Type := (List TRoutine) × Unit
abbrev b_tree_apart : Type := Bool
def c_tree_apart : CodL EE a_tree_apart := .cons (cSl 103) .nil
def rc_tree_apart : RC EE b_tree_apart := RC.one cBool
abbrev a_slices_ContainsFunc_Routine : Type := (List TRoutine) × (Unit × Int × Ttree_checker × Unit) × Unit
abbrev b_slices_ContainsFunc_Routine : Type := Bool
def c_slices_ContainsFunc_Routine : CodL EE a_slices_ContainsFunc_Routine := .cons (cSl 103) (.cons (.c (cellClo 81 .nil (.cons (cellRPI .i64) (.cons (cellRP 0 mk_Ttree_checker row_Ttree_checker fun _ _ => mk_Ttree_checker_le) .nil)))) .nil)
def rc_slices_ContainsFunc_Routine : RC EE b_slices_ContainsFunc_Routine := RC.one cBool
def co_slices_ContainsFunc_Routine : Co := { res := [[.any]] }
abbrev a_tree_checker_routines_1 : Type := TRoutine × Int × Ttree_checker × Unit
abbrev b_tree_checker_routines_1 : Type := Bool
def c_tree_checker_routines_1 : CodL EE a_tree_checker_routines_1 := .cons c_TRoutine (.cons (.c (cellRPI .i64)) (.cons (.c (cellRP 0 mk_Ttree_checker row_Ttree_checker fun _ _ => mk_Ttree_checker_le)) .nil))
def rc_tree_checker_routines_1 : RC EE b_tree_checker_routines_1 := RC.one cBool
def co_tree_checker_routines_1 : Co := { res := [[.any]] }
abbrev a_tree_checker_routine : Type := Ttree_checker × ByteArray × Unit
abbrev b_tree_checker_routine : Type := Bool
def c_tree_checker_routine : CodL EE a_tree_checker_routine := .cons c_Ttree_checker (.cons cStr .nil)
def rc_tree_checker_routine : RC EE b_tree_checker_routine := RC.one cBool
abbrev a_tree_checker_params : Type := Ttree_checker × (List TParam) × Unit
abbrev b_tree_checker_params : Type := Bool
def c_tree_checker_params : CodL EE a_tree_checker_params := .cons c_Ttree_checker (.cons (cSl 145) .nil)
def rc_tree_checker_params : RC EE b_tree_checker_params := RC.one cBool
def co_tree_checker_params : Co := { res := [[.any]] }
abbrev a_tree_few_Stmt : Type := (List TStmt) × Unit
abbrev b_tree_few_Stmt : Type := Bool
def c_tree_few_Stmt : CodL EE a_tree_few_Stmt := .cons (cSl 107) .nil
def rc_tree_few_Stmt : RC EE b_tree_few_Stmt := RC.one cBool
def co_tree_few_Stmt : Co := { res := [[.any]] }
abbrev a_slices_ContainsFunc_Stmt : Type := (List TStmt) × (Unit × Ttree_checker × Int × Unit) × Unit
abbrev b_slices_ContainsFunc_Stmt : Type := Bool
def c_slices_ContainsFunc_Stmt : CodL EE a_slices_ContainsFunc_Stmt := .cons (cSl 107) (.cons (.c (cellClo 86 .nil (.cons (cellRP 0 mk_Ttree_checker row_Ttree_checker fun _ _ => mk_Ttree_checker_le) (.cons (cellRPI .i64) .nil)))) .nil)
def rc_slices_ContainsFunc_Stmt : RC EE b_slices_ContainsFunc_Stmt := RC.one cBool
def co_slices_ContainsFunc_Stmt : Co := { res := [[.any]] }
abbrev a_tree_checker_stmts_1 : Type := TStmt × Ttree_checker × Int × Unit
abbrev b_tree_checker_stmts_1 : Type := Bool
def c_tree_checker_stmts_1 : CodL EE a_tree_checker_stmts_1 := .cons c_TStmt (.cons (.c (cellRP 0 mk_Ttree_checker row_Ttree_checker fun _ _ => mk_Ttree_checker_le)) (.cons (.c (cellRPI .i64)) .nil))
def rc_tree_checker_stmts_1 : RC EE b_tree_checker_stmts_1 := RC.one cBool
def co_tree_checker_stmts_1 : Co := { res := [[.any]] }
abbrev a_tree_checker_stmt : Type := Ttree_checker × TStmt × Int × Unit
abbrev b_tree_checker_stmt : Type := Bool
def c_tree_checker_stmt : CodL EE a_tree_checker_stmt := .cons c_Ttree_checker (.cons c_TStmt (.cons (cInt .i64) .nil))
def rc_tree_checker_stmt : RC EE b_tree_checker_stmt := RC.one cBool
def co_tree_checker_stmt : Co := { res := [[.any]] }
abbrev a_r04_Check : Type := ByteArray × Unit
abbrev b_r04_Check : Type := Int
def c_r04_Check : CodL EE a_r04_Check := .cons cStr .nil
def rc_r04_Check : RC EE b_r04_Check := RC.one (cInt .i64)
def co_r04_Check : Co := { res := [[.any]] }
abbrev a_r04_Is : Type := Int × ByteArray × Unit
abbrev b_r04_Is : Type := Bool
def c_r04_Is : CodL EE a_r04_Is := .cons (cInt .i64) (.cons cStr .nil)
def rc_r04_Is : RC EE b_r04_Is := RC.one cBool
def co_r04_Is : Co := { res := [[.any]] }
abbrev a_r02_Check : Type := ByteArray × Unit
abbrev b_r02_Check : Type := Int
def c_r02_Check : CodL EE a_r02_Check := .cons cStr .nil
def rc_r02_Check : RC EE b_r02_Check := RC.one (cInt .i64)
def co_r02_Check : Co := { res := [[.any]] }
abbrev a_r07_Type : Type := Int × TType × Unit
abbrev b_r07_Type : Type := Bool
def c_r07_Type : CodL EE a_r07_Type := .cons (cInt .i64) (.cons c_TType .nil)
def rc_r07_Type : RC EE b_r07_Type := RC.one cBool
def co_r07_Type : Co := { res := [[.any]] }
abbrev a_r07_Routine : Type := Int × ByteArray × Unit
abbrev b_r07_Routine : Type := Bool
def c_r07_Routine : CodL EE a_r07_Routine := .cons (cInt .i64) (.cons cStr .nil)
def rc_r07_Routine : RC EE b_r07_Routine := RC.one cBool
def co_r07_Routine : Co := { res := [[.any]] }
abbrev a_r07_params : Type := Int × (List TParam) × Unit
abbrev b_r07_params : Type := Bool
def c_r07_params : CodL EE a_r07_params := .cons (cInt .i64) (.cons (cSl 145) .nil)
def rc_r07_params : RC EE b_r07_params := RC.one cBool
def co_r07_params : Co := { res := [[.any]] }
abbrev a_r07_Stmt : Type := Int × TStmt × Int × Unit
abbrev b_r07_Stmt : Type := Bool
def c_r07_Stmt : CodL EE a_r07_Stmt := .cons (cInt .i64) (.cons c_TStmt (.cons (cInt .i64) .nil))
def rc_r07_Stmt : RC EE b_r07_Stmt := RC.one cBool
def co_r07_Stmt : Co := { res := [[.any]] }
abbrev a_tree_mapper_parts : Type := (Thing × Unit) × ByteArray × Unit
abbrev b_tree_mapper_parts : Type := ByteArray × (Thing × Unit)
def c_tree_mapper_parts : CodL EE a_tree_mapper_parts := .cons (.agg (.cons cT .nil)) (.cons cStr .nil)
def rc_tree_mapper_parts : RC EE b_tree_mapper_parts := RC.oneR cStr (.cons cT .nil)
abbrev a_slices_Clone_string : Type := (List ByteArray) × Unit
abbrev b_slices_Clone_string : Type := (List ByteArray)
def c_slices_Clone_string : CodL EE a_slices_Clone_string := .cons (cSl 9) .nil
def rc_slices_Clone_string : RC EE b_slices_Clone_string := RC.one (Cod.c (cellO 9))
abbrev a_tree_each_Rec : Type := (List TRec) × (Thing × Unit) × Unit
abbrev b_tree_each_Rec : Type := (List TRec) × (Thing × Unit)
def c_tree_each_Rec : CodL EE a_tree_each_Rec := .cons (cSl 59) (.cons (.c (cellMth 98 (.cons cT .nil))) .nil)
def rc_tree_each_Rec : RC EE b_tree_each_Rec := RC.oneR (cSl 59) (.cons cT .nil)
def co_tree_each_Rec : Co := { res := [[.sl 59]] }
abbrev a_tree_mapper_rec : Type := (Thing × Unit) × TRec × Unit
abbrev b_tree_mapper_rec : Type := TRec × (Thing × Unit)
def c_tree_mapper_rec : CodL EE a_tree_mapper_rec := .cons (.agg (.cons cT .nil)) (.cons c_TRec .nil)
def rc_tree_mapper_rec : RC EE b_tree_mapper_rec := RC.oneR c_TRec (.cons cT .nil)
def co_tree_mapper_rec : Co := { res := [[.sl 9, .sl 9, .any, .sl 69, .sl 9]] }
abbrev a_tree_each_Var : Type := (List TVar) × (Thing × Unit) × Unit
abbrev b_tree_each_Var : Type := (List TVar) × (Thing × Unit)
def c_tree_each_Var : CodL EE a_tree_each_Var := .cons (cSl 98) (.cons (.c (cellMth 100 (.cons cT .nil))) .nil)
def rc_tree_each_Var : RC EE b_tree_each_Var := RC.oneR (cSl 98) (.cons cT .nil)
def co_tree_each_Var : Co := { res := [[.sl 98]] }
abbrev a_tree_mapper_variable : Type := (Thing × Unit) × TVar × Unit
abbrev b_tree_mapper_variable : Type := TVar × (Thing × Unit)
def c_tree_mapper_variable : CodL EE a_tree_mapper_variable := .cons (.agg (.cons cT .nil)) (.cons c_TVar .nil)
def rc_tree_mapper_variable : RC EE b_tree_mapper_variable := RC.oneR c_TVar (.cons cT .nil)
def co_tree_mapper_variable : Co := { res := [[.sl 9, .sl 9, .any, .any, .any, .any]] }
abbrev a_tree_each_Routine : Type := (List TRoutine) × (Thing × Unit) × Unit
abbrev b_tree_each_Routine : Type := (List TRoutine) × (Thing × Unit)
def c_tree_each_Routine : CodL EE a_tree_each_Routine := .cons (cSl 103) (.cons (.c (cellMth 102 (.cons cT .nil))) .nil)
def rc_tree_each_Routine : RC EE b_tree_each_Routine := RC.oneR (cSl 103) (.cons cT .nil)
def co_tree_each_Routine : Co := { res := [[.sl 103]] }
abbrev a_tree_mapper_routine : Type := (Thing × Unit) × TRoutine × Unit
abbrev b_tree_mapper_routine : Type := TRoutine × (Thing × Unit)
def c_tree_mapper_routine : CodL EE a_tree_mapper_routine := .cons (.agg (.cons cT .nil)) (.cons c_TRoutine .nil)
def rc_tree_mapper_routine : RC EE b_tree_mapper_routine := RC.oneR c_TRoutine (.cons cT .nil)
def co_tree_mapper_routine : Co := { res := [[.sl 9, .sl 9, .any, .any, .sl 145, .sl 98, .sl 103, .sl 107, .sl 9]] }
abbrev a_tree_each_Stmt : Type := (List TStmt) × (Thing × Unit) × Unit
abbrev b_tree_each_Stmt : Type := (List TStmt) × (Thing × Unit)
def c_tree_each_Stmt : CodL EE a_tree_each_Stmt := .cons (cSl 107) (.cons (.c (cellMth 104 (.cons cT .nil))) .nil)
def rc_tree_each_Stmt : RC EE b_tree_each_Stmt := RC.oneR (cSl 107) (.cons cT .nil)
def co_tree_each_Stmt : Co := { res := [[.sl 107]] }
abbrev a_tree_mapper_stmt : Type := (Thing × Unit) × TStmt × Unit
abbrev b_tree_mapper_stmt : Type := TStmt × (Thing × Unit)
def c_tree_mapper_stmt : CodL EE a_tree_mapper_stmt := .cons (.agg (.cons cT .nil)) (.cons c_TStmt .nil)
def rc_tree_mapper_stmt : RC EE b_tree_mapper_stmt := RC.oneR c_TStmt (.cons cT .nil)
def co_tree_mapper_stmt : Co := { res := [[.sl 9, .sl 9, .any, .any, .any, .any, .any, .any, .sl 44, .sl 44, .any, .any, .sl 107, .sl 107, .sl 9, .sl 9]] }
abbrev a_r07_ExprNames : Type := TExpr × Unit
abbrev b_r07_ExprNames : Type := (List ByteArray)
def c_r07_ExprNames : CodL EE a_r07_ExprNames := .cons c_TExpr .nil
def rc_r07_ExprNames : RC EE b_r07_ExprNames := RC.one (cSl 9)
def co_r07_ExprNames : Co := { res := [[.sl 9]] }
abbrev a_tree_few_Expr : Type := (List TExpr) × Unit
abbrev b_tree_few_Expr : Type := Bool
def c_tree_few_Expr : CodL EE a_tree_few_Expr := .cons (cSl 44) .nil
def rc_tree_few_Expr : RC EE b_tree_few_Expr := RC.one cBool
def co_tree_few_Expr : Co := { res := [[.any]] }
abbrev a_tree_checker_call : Type := Ttree_checker × TExpr × Unit
abbrev b_tree_checker_call : Type := Int
def c_tree_checker_call : CodL EE a_tree_checker_call := .cons c_Ttree_checker (.cons c_TExpr .nil)
def rc_tree_checker_call : RC EE b_tree_checker_call := RC.one (cInt .i64)
def co_tree_checker_call : Co := { res := [[.any]] }
abbrev a_tree_checker_deepest : Type := Ttree_checker × (List TExpr) × Unit
abbrev b_tree_checker_deepest : Type := Int
def c_tree_checker_deepest : CodL EE a_tree_checker_deepest := .cons c_Ttree_checker (.cons (cSl 44) .nil)
def rc_tree_checker_deepest : RC EE b_tree_checker_deepest := RC.one (cInt .i64)
def co_tree_checker_deepest : Co := { res := [[.any]] }
abbrev a_tree_marks : Type := TMarks × TMarks × Unit
abbrev b_tree_marks : Type := Bool
def c_tree_marks : CodL EE a_tree_marks := .cons c_TMarks (.cons c_TMarks .nil)
def rc_tree_marks : RC EE b_tree_marks := RC.one cBool
def co_tree_marks : Co := { res := [[.any]] }
abbrev a_slices_EqualFunc_Field : Type := (List TField) × (List TField) × (Unit × Unit) × Unit
abbrev b_slices_EqualFunc_Field : Type := Bool
def c_slices_EqualFunc_Field : CodL EE a_slices_EqualFunc_Field := .cons (cSl 69) (.cons (cSl 69) (.cons (.c (cellClo 111 .nil .nil)) .nil))
def rc_slices_EqualFunc_Field : RC EE b_slices_EqualFunc_Field := RC.one cBool
def co_slices_EqualFunc_Field : Co := { res := [[.any]] }
abbrev a_tree_sameRec_1 : Type := TField × TField × Unit
abbrev b_tree_sameRec_1 : Type := Bool
def c_tree_sameRec_1 : CodL EE a_tree_sameRec_1 := .cons c_TField (.cons c_TField .nil)
def rc_tree_sameRec_1 : RC EE b_tree_sameRec_1 := RC.one cBool
def co_tree_sameRec_1 : Co := { res := [[.any]] }
abbrev a_slices_Equal_Param : Type := (List TParam) × (List TParam) × Unit
abbrev b_slices_Equal_Param : Type := Bool
def c_slices_Equal_Param : CodL EE a_slices_Equal_Param := .cons (cSl 145) (.cons (cSl 145) .nil)
def rc_slices_Equal_Param : RC EE b_slices_Equal_Param := RC.one cBool
def co_slices_Equal_Param : Co := { res := [[.any]] }
abbrev a_words_letter : Type := Int × Bool × Unit
abbrev b_words_letter : Type := Bool
def c_words_letter : CodL EE a_words_letter := .cons (cInt .u8) (.cons cBool .nil)
def rc_words_letter : RC EE b_words_letter := RC.one cBool
def co_words_letter : Co := { res := [[.any]] }
abbrev a_slices_IndexFunc_Field : Type := (List TField) × (Unit × Ttree_checker × Unit) × Unit
abbrev b_slices_IndexFunc_Field : Type := Int
def c_slices_IndexFunc_Field : CodL EE a_slices_IndexFunc_Field := .cons (cSl 69) (.cons (.c (cellClo 72 .nil (.cons (cellRP 0 mk_Ttree_checker row_Ttree_checker fun _ _ => mk_Ttree_checker_le) .nil))) .nil)
def rc_slices_IndexFunc_Field : RC EE b_slices_IndexFunc_Field := RC.one (cInt .i64)
def co_slices_IndexFunc_Field : Co := { res := [[.any]] }
abbrev a_slices_IndexFunc_Var : Type := (List TVar) × (Unit × Ttree_checker × Unit) × Unit
abbrev b_slices_IndexFunc_Var : Type := Int
def c_slices_IndexFunc_Var : CodL EE a_slices_IndexFunc_Var := .cons (cSl 98) (.cons (.c (cellClo 76 .nil (.cons (cellRP 0 mk_Ttree_checker row_Ttree_checker fun _ _ => mk_Ttree_checker_le) .nil))) .nil)
def rc_slices_IndexFunc_Var : RC EE b_slices_IndexFunc_Var := RC.one (cInt .i64)
def co_slices_IndexFunc_Var : Co := { res := [[.any]] }
abbrev a_slices_IndexFunc_Routine : Type := (List TRoutine) × (Unit × Int × Ttree_checker × Unit) × Unit
abbrev b_slices_IndexFunc_Routine : Type := Int
def c_slices_IndexFunc_Routine : CodL EE a_slices_IndexFunc_Routine := .cons (cSl 103) (.cons (.c (cellClo 81 .nil (.cons (cellRPI .i64) (.cons (cellRP 0 mk_Ttree_checker row_Ttree_checker fun _ _ => mk_Ttree_checker_le) .nil)))) .nil)
def rc_slices_IndexFunc_Routine : RC EE b_slices_IndexFunc_Routine := RC.one (cInt .i64)
def co_slices_IndexFunc_Routine : Co := { res := [[.any]] }
abbrev a_tree_few_Param : Type := (List TParam) × Unit
abbrev b_tree_few_Param : Type := Bool
def c_tree_few_Param : CodL EE a_tree_few_Param := .cons (cSl 145) .nil
def rc_tree_few_Param : RC EE b_tree_few_Param := RC.one cBool
def co_tree_few_Param : Co := { res := [[.any]] }
abbrev a_slices_IndexFunc_Stmt : Type := (List TStmt) × (Unit × Ttree_checker × Int × Unit) × Unit
abbrev b_slices_IndexFunc_Stmt : Type := Int
def c_slices_IndexFunc_Stmt : CodL EE a_slices_IndexFunc_Stmt := .cons (cSl 107) (.cons (.c (cellClo 86 .nil (.cons (cellRP 0 mk_Ttree_checker row_Ttree_checker fun _ _ => mk_Ttree_checker_le) (.cons (cellRPI .i64) .nil)))) .nil)
def rc_slices_IndexFunc_Stmt : RC EE b_slices_IndexFunc_Stmt := RC.one (cInt .i64)
def co_slices_IndexFunc_Stmt : Co := { res := [[.any]] }
abbrev a_tree_shapeOf : Type := Int × Unit
abbrev b_tree_shapeOf : Type := Ttree_shape × Bool × Unit
def c_tree_shapeOf : CodL EE a_tree_shapeOf := .cons (cInt .i64) .nil
def rc_tree_shapeOf : RC EE b_tree_shapeOf := RC.many (.cons c_Ttree_shape (.cons cBool .nil))
def co_tree_shapeOf : Co := { res := [[.any, .any, .any, .any, .any], [.any]] }
abbrev a_tree_checker_place : Type := Ttree_checker × TExpr × Unit
abbrev b_tree_checker_place : Type := Bool
def c_tree_checker_place : CodL EE a_tree_checker_place := .cons c_Ttree_checker (.cons c_TExpr .nil)
def rc_tree_checker_place : RC EE b_tree_checker_place := RC.one cBool
def co_tree_checker_place : Co := { res := [[.any]] }
abbrev a_tree_none : Type := TExpr × Unit
abbrev b_tree_none : Type := Bool
def c_tree_none : CodL EE a_tree_none := .cons c_TExpr .nil
def rc_tree_none : RC EE b_tree_none := RC.one cBool
def co_tree_none : Co := { res := [[.any]] }
abbrev a_r04_Letter : Type := Int × Bool × Unit
abbrev b_r04_Letter : Type := Bool
def c_r04_Letter : CodL EE a_r04_Letter := .cons (cInt .u8) (.cons cBool .nil)
def rc_r04_Letter : RC EE b_r04_Letter := RC.one cBool
def co_r04_Letter : Co := { res := [[.any]] }
abbrev a_r04_All : Type := Int × Unit
abbrev b_r04_All : Type := (List ByteArray)
def c_r04_All : CodL EE a_r04_All := .cons (cInt .i64) .nil
def rc_r04_All : RC EE b_r04_All := RC.one (cSl 9)
def co_r04_All : Co := { res := [[.sl 9]] }
abbrev a_r02_right : Type := Int × Unit
abbrev b_r02_right : Type := Bool
def c_r02_right : CodL EE a_r02_right := .cons (cInt .u8) .nil
def rc_r02_right : RC EE b_r02_right := RC.one cBool
def co_r02_right : Co := { res := [[.any]] }
abbrev a_r07_place : Type := Int × TExpr × Unit
abbrev b_r07_place : Type := Bool
def c_r07_place : CodL EE a_r07_place := .cons (cInt .i64) (.cons c_TExpr .nil)
def rc_r07_place : RC EE b_r07_place := RC.one cBool
def co_r07_place : Co := { res := [[.any]] }
abbrev a_r07_none : Type := TExpr × Unit
abbrev b_r07_none : Type := Bool
def c_r07_none : CodL EE a_r07_none := .cons c_TExpr .nil
def rc_r07_none : RC EE b_r07_none := RC.one cBool
def co_r07_none : Co := { res := [[.any]] }
abbrev a_tree_mapper_marks : Type := (Thing × Unit) × TMarks × Unit
abbrev b_tree_mapper_marks : Type := TMarks × (Thing × Unit)
def c_tree_mapper_marks : CodL EE a_tree_mapper_marks := .cons (.agg (.cons cT .nil)) (.cons c_TMarks .nil)
def rc_tree_mapper_marks : RC EE b_tree_mapper_marks := RC.oneR c_TMarks (.cons cT .nil)
def co_tree_mapper_marks : Co := { res := [[.sl 9, .sl 9]] }
abbrev a_tree_each_Field : Type := (List TField) × (Unit × (Thing × Unit) × Unit) × Unit
abbrev b_tree_each_Field : Type := (List TField) × (Thing × Unit)
def c_tree_each_Field : CodL EE a_tree_each_Field := .cons (cSl 69) (.cons (.c (cellClo 140 .nil (.cons (cellRQ 0 (.cons cT .nil)) .nil))) .nil)
def rc_tree_each_Field : RC EE b_tree_each_Field := RC.oneR (cSl 69) (.cons cT .nil)
def co_tree_each_Field : Co := { res := [[.sl 69]] }
abbrev a_tree_mapper_rec_1 : Type := TField × (Thing × Unit) × Unit
abbrev b_tree_mapper_rec_1 : Type := TField × (Thing × Unit)
def c_tree_mapper_rec_1 : CodL EE a_tree_mapper_rec_1 := .cons c_TField (.cons (.c (cellRQ 0 (.cons cT .nil))) .nil)
def rc_tree_mapper_rec_1 : RC EE b_tree_mapper_rec_1 := RC.oneR c_TField (.cons cT .nil)
def co_tree_mapper_rec_1 : Co := { res := [[.sl 9, .sl 9, .any, .any]] }
abbrev a_tree_mapper_typ : Type := (Thing × Unit) × TType × Unit
abbrev b_tree_mapper_typ : Type := TType × (Thing × Unit)
def c_tree_mapper_typ : CodL EE a_tree_mapper_typ := .cons (.agg (.cons cT .nil)) (.cons c_TType .nil)
def rc_tree_mapper_typ : RC EE b_tree_mapper_typ := RC.oneR c_TType (.cons cT .nil)
def co_tree_mapper_typ : Co := { res := [[.any, .any, .any]] }
abbrev a_tree_each_Param : Type := (List TParam) × (Unit × (Thing × Unit) × Unit) × Unit
abbrev b_tree_each_Param : Type := (List TParam) × (Thing × Unit)
def c_tree_each_Param : CodL EE a_tree_each_Param := .cons (cSl 145) (.cons (.c (cellClo 143 .nil (.cons (cellRQ 0 (.cons cT .nil)) .nil))) .nil)
def rc_tree_each_Param : RC EE b_tree_each_Param := RC.oneR (cSl 145) (.cons cT .nil)
def co_tree_each_Param : Co := { res := [[.sl 145]] }
abbrev a_tree_mapper_routine_1 : Type := TParam × (Thing × Unit) × Unit
abbrev b_tree_mapper_routine_1 : Type := TParam × (Thing × Unit)
def c_tree_mapper_routine_1 : CodL EE a_tree_mapper_routine_1 := .cons c_TParam (.cons (.c (cellRQ 0 (.cons cT .nil))) .nil)
def rc_tree_mapper_routine_1 : RC EE b_tree_mapper_routine_1 := RC.oneR c_TParam (.cons cT .nil)
def co_tree_mapper_routine_1 : Co := { res := [[.any, .any, .any, .any, .any]] }
abbrev a_tree_mapper_expr : Type := (Thing × Unit) × TExpr × Unit
abbrev b_tree_mapper_expr : Type := TExpr × (Thing × Unit)
def c_tree_mapper_expr : CodL EE a_tree_mapper_expr := .cons (.agg (.cons cT .nil)) (.cons c_TExpr .nil)
def rc_tree_mapper_expr : RC EE b_tree_mapper_expr := RC.oneR c_TExpr (.cons cT .nil)
def co_tree_mapper_expr : Co := { res := [[.any, .any, .any, .any, .sl 44]] }
abbrev a_tree_each_Expr : Type := (List TExpr) × (Thing × Unit) × Unit
abbrev b_tree_each_Expr : Type := (List TExpr) × (Thing × Unit)
def c_tree_each_Expr : CodL EE a_tree_each_Expr := .cons (cSl 44) (.cons (.c (cellMth 144 (.cons cT .nil))) .nil)
def rc_tree_each_Expr : RC EE b_tree_each_Expr := RC.oneR (cSl 44) (.cons cT .nil)
def co_tree_each_Expr : Co := { res := [[.sl 44]] }
abbrev a_by : Type := Thing × ByteArray × Unit
abbrev b_by : Type := ByteArray × (Thing × Unit)
def c_by : CodL EE a_by := .cons (.c cT) (.cons cStr .nil)
def rc_by : RC EE b_by := RC.oneR cStr (.cons cT .nil)
structure Fam where
  f_w07_TreeChecks : a_w07_TreeChecks → Option b_w07_TreeChecks
  f_w07_TreeNames : a_w07_TreeNames → Option b_w07_TreeNames
  f_w07_TreeBack : a_w07_TreeBack → Option b_w07_TreeBack
  f_w07_TreeExprs : a_w07_TreeExprs → Option b_w07_TreeExprs
  f_w07_TreeSame : a_w07_TreeSame → Option b_w07_TreeSame
  f_w07_TreeAlike : a_w07_TreeAlike → Option b_w07_TreeAlike
  f_tree_Check : a_tree_Check → Option b_tree_Check
  f_r07_Check : a_r07_Check → Option b_r07_Check
  f_w07_awake : a_w07_awake → Option b_w07_awake
  f_r01_SameTexts : a_r01_SameTexts → Option b_r01_SameTexts
  f_tree_Names : a_tree_Names → Option b_tree_Names
  f_r07_Names : a_r07_Names → Option b_r07_Names
  f_r01_Digits : a_r01_Digits → Option b_r01_Digits
  f_tree_Rename : a_tree_Rename → Option b_tree_Rename
  f_r07_Same : a_r07_Same → Option b_r07_Same
  f_tree_CheckExpr : a_tree_CheckExpr → Option b_tree_CheckExpr
  f_r07_Expr : a_r07_Expr → Option b_r07_Expr
  f_tree_Same : a_tree_Same → Option b_tree_Same
  f_tree_SameExpr : a_tree_SameExpr → Option b_tree_SameExpr
  f_r07_SameExpr : a_r07_SameExpr → Option b_r07_SameExpr
  f_tree_checker_name : a_tree_checker_name → Option b_tree_checker_name
  f_tree_notes : a_tree_notes → Option b_tree_notes
  f_tree_few_Rec : a_tree_few_Rec → Option b_tree_few_Rec
  f_slices_ContainsFunc_Rec : a_slices_ContainsFunc_Rec → Option b_slices_ContainsFunc_Rec
  f_tree_Check_1 : a_tree_Check_1 → Option b_tree_Check_1
  f_tree_checker_rec : a_tree_checker_rec → Option b_tree_checker_rec
  f_tree_checker_vars : a_tree_checker_vars → Option b_tree_checker_vars
  f_tree_checker_routines : a_tree_checker_routines → Option b_tree_checker_routines
  f_tree_checker_stmts : a_tree_checker_stmts → Option b_tree_checker_stmts
  f_r07_Name : a_r07_Name → Option b_r07_Name
  f_r07_notes : a_r07_notes → Option b_r07_notes
  f_r07_marks : a_r07_marks → Option b_r07_marks
  f_r07_vars : a_r07_vars → Option b_r07_vars
  f_r07_routines : a_r07_routines → Option b_r07_routines
  f_r07_Stmts : a_r07_Stmts → Option b_r07_Stmts
  f_tree_mapper_program : a_tree_mapper_program → Option b_tree_mapper_program
  f_r07_Parts : a_r07_Parts → Option b_r07_Parts
  f_r07_varNames : a_r07_varNames → Option b_r07_varNames
  f_r07_routineNames : a_r07_routineNames → Option b_r07_routineNames
  f_r07_stmtNames : a_r07_stmtNames → Option b_r07_stmtNames
  f_r04_Among : a_r04_Among → Option b_r04_Among
  f_r01_long : a_r01_long → Option b_r01_long
  f_tree_Rename_1 : a_tree_Rename_1 → Option b_tree_Rename_1
  f_r07_sameMarks : a_r07_sameMarks → Option b_r07_sameMarks
  f_r07_sameVars : a_r07_sameVars → Option b_r07_sameVars
  f_r07_SameRoutines : a_r07_SameRoutines → Option b_r07_SameRoutines
  f_r07_SameStmts : a_r07_SameStmts → Option b_r07_SameStmts
  f_tree_checker_expr : a_tree_checker_expr → Option b_tree_checker_expr
  f_r07_form : a_r07_form → Option b_r07_form
  f_r07_Deep : a_r07_Deep → Option b_r07_Deep
  f_slices_Equal_string : a_slices_Equal_string → Option b_slices_Equal_string
  f_slices_EqualFunc_Rec : a_slices_EqualFunc_Rec → Option b_slices_EqualFunc_Rec
  f_tree_sameRec : a_tree_sameRec → Option b_tree_sameRec
  f_slices_EqualFunc_Var : a_slices_EqualFunc_Var → Option b_slices_EqualFunc_Var
  f_tree_sameVar : a_tree_sameVar → Option b_tree_sameVar
  f_slices_EqualFunc_Routine : a_slices_EqualFunc_Routine → Option b_slices_EqualFunc_Routine
  f_tree_sameRoutine : a_tree_sameRoutine → Option b_tree_sameRoutine
  f_slices_EqualFunc_Stmt : a_slices_EqualFunc_Stmt → Option b_slices_EqualFunc_Stmt
  f_tree_sameStmt : a_tree_sameStmt → Option b_tree_sameStmt
  f_slices_EqualFunc_Expr : a_slices_EqualFunc_Expr → Option b_slices_EqualFunc_Expr
  f_r07_SameExprs : a_r07_SameExprs → Option b_r07_SameExprs
  f_words_Check : a_words_Check → Option b_words_Check
  f_words_Is : a_words_Is → Option b_words_Is
  f_tree_few_string : a_tree_few_string → Option b_tree_few_string
  f_note_Print : a_note_Print → Option b_note_Print
  f_slices_IndexFunc_Rec : a_slices_IndexFunc_Rec → Option b_slices_IndexFunc_Rec
  f_tree_few_Field : a_tree_few_Field → Option b_tree_few_Field
  f_slices_ContainsFunc_Field : a_slices_ContainsFunc_Field → Option b_slices_ContainsFunc_Field
  f_tree_checker_rec_1 : a_tree_checker_rec_1 → Option b_tree_checker_rec_1
  f_tree_kind : a_tree_kind → Option b_tree_kind
  f_tree_few_Var : a_tree_few_Var → Option b_tree_few_Var
  f_slices_ContainsFunc_Var : a_slices_ContainsFunc_Var → Option b_slices_ContainsFunc_Var
  f_tree_checker_vars_1 : a_tree_checker_vars_1 → Option b_tree_checker_vars_1
  f_tree_checker_typ : a_tree_checker_typ → Option b_tree_checker_typ
  f_tree_few_Routine : a_tree_few_Routine → Option b_tree_few_Routine
  f_tree_apart : a_tree_apart → Option b_tree_apart
  f_slices_ContainsFunc_Routine : a_slices_ContainsFunc_Routine → Option b_slices_ContainsFunc_Routine
  f_tree_checker_routines_1 : a_tree_checker_routines_1 → Option b_tree_checker_routines_1
  f_tree_checker_routine : a_tree_checker_routine → Option b_tree_checker_routine
  f_tree_checker_params : a_tree_checker_params → Option b_tree_checker_params
  f_tree_few_Stmt : a_tree_few_Stmt → Option b_tree_few_Stmt
  f_slices_ContainsFunc_Stmt : a_slices_ContainsFunc_Stmt → Option b_slices_ContainsFunc_Stmt
  f_tree_checker_stmts_1 : a_tree_checker_stmts_1 → Option b_tree_checker_stmts_1
  f_tree_checker_stmt : a_tree_checker_stmt → Option b_tree_checker_stmt
  f_r04_Check : a_r04_Check → Option b_r04_Check
  f_r04_Is : a_r04_Is → Option b_r04_Is
  f_r02_Check : a_r02_Check → Option b_r02_Check
  f_r07_Type : a_r07_Type → Option b_r07_Type
  f_r07_Routine : a_r07_Routine → Option b_r07_Routine
  f_r07_params : a_r07_params → Option b_r07_params
  f_r07_Stmt : a_r07_Stmt → Option b_r07_Stmt
  f_tree_mapper_parts : a_tree_mapper_parts → Option b_tree_mapper_parts
  f_slices_Clone_string : a_slices_Clone_string → Option b_slices_Clone_string
  f_tree_each_Rec : a_tree_each_Rec → Option b_tree_each_Rec
  f_tree_mapper_rec : a_tree_mapper_rec → Option b_tree_mapper_rec
  f_tree_each_Var : a_tree_each_Var → Option b_tree_each_Var
  f_tree_mapper_variable : a_tree_mapper_variable → Option b_tree_mapper_variable
  f_tree_each_Routine : a_tree_each_Routine → Option b_tree_each_Routine
  f_tree_mapper_routine : a_tree_mapper_routine → Option b_tree_mapper_routine
  f_tree_each_Stmt : a_tree_each_Stmt → Option b_tree_each_Stmt
  f_tree_mapper_stmt : a_tree_mapper_stmt → Option b_tree_mapper_stmt
  f_r07_ExprNames : a_r07_ExprNames → Option b_r07_ExprNames
  f_tree_few_Expr : a_tree_few_Expr → Option b_tree_few_Expr
  f_tree_checker_call : a_tree_checker_call → Option b_tree_checker_call
  f_tree_checker_deepest : a_tree_checker_deepest → Option b_tree_checker_deepest
  f_tree_marks : a_tree_marks → Option b_tree_marks
  f_slices_EqualFunc_Field : a_slices_EqualFunc_Field → Option b_slices_EqualFunc_Field
  f_tree_sameRec_1 : a_tree_sameRec_1 → Option b_tree_sameRec_1
  f_slices_Equal_Param : a_slices_Equal_Param → Option b_slices_Equal_Param
  f_words_letter : a_words_letter → Option b_words_letter
  f_slices_IndexFunc_Field : a_slices_IndexFunc_Field → Option b_slices_IndexFunc_Field
  f_slices_IndexFunc_Var : a_slices_IndexFunc_Var → Option b_slices_IndexFunc_Var
  f_slices_IndexFunc_Routine : a_slices_IndexFunc_Routine → Option b_slices_IndexFunc_Routine
  f_tree_few_Param : a_tree_few_Param → Option b_tree_few_Param
  f_slices_IndexFunc_Stmt : a_slices_IndexFunc_Stmt → Option b_slices_IndexFunc_Stmt
  f_tree_shapeOf : a_tree_shapeOf → Option b_tree_shapeOf
  f_tree_checker_place : a_tree_checker_place → Option b_tree_checker_place
  f_tree_none : a_tree_none → Option b_tree_none
  f_r04_Letter : a_r04_Letter → Option b_r04_Letter
  f_r04_All : a_r04_All → Option b_r04_All
  f_r02_right : a_r02_right → Option b_r02_right
  f_r07_place : a_r07_place → Option b_r07_place
  f_r07_none : a_r07_none → Option b_r07_none
  f_tree_mapper_marks : a_tree_mapper_marks → Option b_tree_mapper_marks
  f_tree_each_Field : a_tree_each_Field → Option b_tree_each_Field
  f_tree_mapper_rec_1 : a_tree_mapper_rec_1 → Option b_tree_mapper_rec_1
  f_tree_mapper_typ : a_tree_mapper_typ → Option b_tree_mapper_typ
  f_tree_each_Param : a_tree_each_Param → Option b_tree_each_Param
  f_tree_mapper_routine_1 : a_tree_mapper_routine_1 → Option b_tree_mapper_routine_1
  f_tree_mapper_expr : a_tree_mapper_expr → Option b_tree_mapper_expr
  f_tree_each_Expr : a_tree_each_Expr → Option b_tree_each_Expr
  f_by : a_by → Option b_by
def table (s : Fam) : List (Nat × (List (AV II) → Tree (RV II))) :=
  [(3, ansOf c_w07_TreeChecks rc_w07_TreeChecks.enc s.f_w07_TreeChecks),
   (4, ansOf c_w07_TreeNames rc_w07_TreeNames.enc s.f_w07_TreeNames),
   (5, ansOf c_w07_TreeBack rc_w07_TreeBack.enc s.f_w07_TreeBack),
   (6, ansOf c_w07_TreeExprs rc_w07_TreeExprs.enc s.f_w07_TreeExprs),
   (7, ansOf c_w07_TreeSame rc_w07_TreeSame.enc s.f_w07_TreeSame),
   (8, ansOf c_w07_TreeAlike rc_w07_TreeAlike.enc s.f_w07_TreeAlike),
   (9, ansOf c_tree_Check rc_tree_Check.enc s.f_tree_Check),
   (10, ansOf c_r07_Check rc_r07_Check.enc s.f_r07_Check),
   (11, ansOf c_w07_awake rc_w07_awake.enc s.f_w07_awake),
   (12, ansOf c_r01_SameTexts rc_r01_SameTexts.enc s.f_r01_SameTexts),
   (13, ansOf c_tree_Names rc_tree_Names.enc s.f_tree_Names),
   (14, ansOf c_r07_Names rc_r07_Names.enc s.f_r07_Names),
   (15, ansOf c_r01_Digits rc_r01_Digits.enc s.f_r01_Digits),
   (16, ansOf c_tree_Rename rc_tree_Rename.enc s.f_tree_Rename),
   (17, ansOf c_r07_Same rc_r07_Same.enc s.f_r07_Same),
   (18, ansOf c_tree_CheckExpr rc_tree_CheckExpr.enc s.f_tree_CheckExpr),
   (19, ansOf c_r07_Expr rc_r07_Expr.enc s.f_r07_Expr),
   (20, ansOf c_tree_Same rc_tree_Same.enc s.f_tree_Same),
   (21, ansOf c_tree_SameExpr rc_tree_SameExpr.enc s.f_tree_SameExpr),
   (22, ansOf c_r07_SameExpr rc_r07_SameExpr.enc s.f_r07_SameExpr),
   (23, ansOf c_tree_checker_name rc_tree_checker_name.enc s.f_tree_checker_name),
   (24, ansOf c_tree_notes rc_tree_notes.enc s.f_tree_notes),
   (25, ansOf c_tree_few_Rec rc_tree_few_Rec.enc s.f_tree_few_Rec),
   (26, ansOf c_slices_ContainsFunc_Rec rc_slices_ContainsFunc_Rec.enc s.f_slices_ContainsFunc_Rec),
   (27, ansOf c_tree_Check_1 rc_tree_Check_1.enc s.f_tree_Check_1),
   (28, ansOf c_tree_checker_rec rc_tree_checker_rec.enc s.f_tree_checker_rec),
   (29, ansOf c_tree_checker_vars rc_tree_checker_vars.enc s.f_tree_checker_vars),
   (30, ansOf c_tree_checker_routines rc_tree_checker_routines.enc s.f_tree_checker_routines),
   (31, ansOf c_tree_checker_stmts rc_tree_checker_stmts.enc s.f_tree_checker_stmts),
   (32, ansOf c_r07_Name rc_r07_Name.enc s.f_r07_Name),
   (33, ansOf c_r07_notes rc_r07_notes.enc s.f_r07_notes),
   (34, ansOf c_r07_marks rc_r07_marks.enc s.f_r07_marks),
   (35, ansOf c_r07_vars rc_r07_vars.enc s.f_r07_vars),
   (36, ansOf c_r07_routines rc_r07_routines.enc s.f_r07_routines),
   (37, ansOf c_r07_Stmts rc_r07_Stmts.enc s.f_r07_Stmts),
   (39, ansOf c_tree_mapper_program rc_tree_mapper_program.enc s.f_tree_mapper_program),
   (40, ansOf c_r07_Parts rc_r07_Parts.enc s.f_r07_Parts),
   (41, ansOf c_r07_varNames rc_r07_varNames.enc s.f_r07_varNames),
   (42, ansOf c_r07_routineNames rc_r07_routineNames.enc s.f_r07_routineNames),
   (43, ansOf c_r07_stmtNames rc_r07_stmtNames.enc s.f_r07_stmtNames),
   (44, ansOf c_r04_Among rc_r04_Among.enc s.f_r04_Among),
   (45, ansOf c_r01_long rc_r01_long.enc s.f_r01_long),
   (46, ansOf c_tree_Rename_1 rc_tree_Rename_1.enc s.f_tree_Rename_1),
   (47, ansOf c_r07_sameMarks rc_r07_sameMarks.enc s.f_r07_sameMarks),
   (48, ansOf c_r07_sameVars rc_r07_sameVars.enc s.f_r07_sameVars),
   (49, ansOf c_r07_SameRoutines rc_r07_SameRoutines.enc s.f_r07_SameRoutines),
   (50, ansOf c_r07_SameStmts rc_r07_SameStmts.enc s.f_r07_SameStmts),
   (51, ansOf c_tree_checker_expr rc_tree_checker_expr.enc s.f_tree_checker_expr),
   (52, ansOf c_r07_form rc_r07_form.enc s.f_r07_form),
   (53, ansOf c_r07_Deep rc_r07_Deep.enc s.f_r07_Deep),
   (54, ansOf c_slices_Equal_string rc_slices_Equal_string.enc s.f_slices_Equal_string),
   (55, ansOf c_slices_EqualFunc_Rec rc_slices_EqualFunc_Rec.enc s.f_slices_EqualFunc_Rec),
   (56, ansOf c_tree_sameRec rc_tree_sameRec.enc s.f_tree_sameRec),
   (57, ansOf c_slices_EqualFunc_Var rc_slices_EqualFunc_Var.enc s.f_slices_EqualFunc_Var),
   (58, ansOf c_tree_sameVar rc_tree_sameVar.enc s.f_tree_sameVar),
   (59, ansOf c_slices_EqualFunc_Routine rc_slices_EqualFunc_Routine.enc s.f_slices_EqualFunc_Routine),
   (60, ansOf c_tree_sameRoutine rc_tree_sameRoutine.enc s.f_tree_sameRoutine),
   (61, ansOf c_slices_EqualFunc_Stmt rc_slices_EqualFunc_Stmt.enc s.f_slices_EqualFunc_Stmt),
   (62, ansOf c_tree_sameStmt rc_tree_sameStmt.enc s.f_tree_sameStmt),
   (63, ansOf c_slices_EqualFunc_Expr rc_slices_EqualFunc_Expr.enc s.f_slices_EqualFunc_Expr),
   (64, ansOf c_r07_SameExprs rc_r07_SameExprs.enc s.f_r07_SameExprs),
   (65, ansOf c_words_Check rc_words_Check.enc s.f_words_Check),
   (66, ansOf c_words_Is rc_words_Is.enc s.f_words_Is),
   (67, ansOf c_tree_few_string rc_tree_few_string.enc s.f_tree_few_string),
   (68, ansOf c_note_Print rc_note_Print.enc s.f_note_Print),
   (69, ansOf c_slices_IndexFunc_Rec rc_slices_IndexFunc_Rec.enc s.f_slices_IndexFunc_Rec),
   (70, ansOf c_tree_few_Field rc_tree_few_Field.enc s.f_tree_few_Field),
   (71, ansOf c_slices_ContainsFunc_Field rc_slices_ContainsFunc_Field.enc s.f_slices_ContainsFunc_Field),
   (72, ansOf c_tree_checker_rec_1 rc_tree_checker_rec_1.enc s.f_tree_checker_rec_1),
   (73, ansOf c_tree_kind rc_tree_kind.enc s.f_tree_kind),
   (74, ansOf c_tree_few_Var rc_tree_few_Var.enc s.f_tree_few_Var),
   (75, ansOf c_slices_ContainsFunc_Var rc_slices_ContainsFunc_Var.enc s.f_slices_ContainsFunc_Var),
   (76, ansOf c_tree_checker_vars_1 rc_tree_checker_vars_1.enc s.f_tree_checker_vars_1),
   (77, ansOf c_tree_checker_typ rc_tree_checker_typ.enc s.f_tree_checker_typ),
   (78, ansOf c_tree_few_Routine rc_tree_few_Routine.enc s.f_tree_few_Routine),
   (79, ansOf c_tree_apart rc_tree_apart.enc s.f_tree_apart),
   (80, ansOf c_slices_ContainsFunc_Routine rc_slices_ContainsFunc_Routine.enc s.f_slices_ContainsFunc_Routine),
   (81, ansOf c_tree_checker_routines_1 rc_tree_checker_routines_1.enc s.f_tree_checker_routines_1),
   (82, ansOf c_tree_checker_routine rc_tree_checker_routine.enc s.f_tree_checker_routine),
   (83, ansOf c_tree_checker_params rc_tree_checker_params.enc s.f_tree_checker_params),
   (84, ansOf c_tree_few_Stmt rc_tree_few_Stmt.enc s.f_tree_few_Stmt),
   (85, ansOf c_slices_ContainsFunc_Stmt rc_slices_ContainsFunc_Stmt.enc s.f_slices_ContainsFunc_Stmt),
   (86, ansOf c_tree_checker_stmts_1 rc_tree_checker_stmts_1.enc s.f_tree_checker_stmts_1),
   (87, ansOf c_tree_checker_stmt rc_tree_checker_stmt.enc s.f_tree_checker_stmt),
   (88, ansOf c_r04_Check rc_r04_Check.enc s.f_r04_Check),
   (89, ansOf c_r04_Is rc_r04_Is.enc s.f_r04_Is),
   (90, ansOf c_r02_Check rc_r02_Check.enc s.f_r02_Check),
   (91, ansOf c_r07_Type rc_r07_Type.enc s.f_r07_Type),
   (92, ansOf c_r07_Routine rc_r07_Routine.enc s.f_r07_Routine),
   (93, ansOf c_r07_params rc_r07_params.enc s.f_r07_params),
   (94, ansOf c_r07_Stmt rc_r07_Stmt.enc s.f_r07_Stmt),
   (95, ansOf c_tree_mapper_parts rc_tree_mapper_parts.enc s.f_tree_mapper_parts),
   (96, ansOf c_slices_Clone_string rc_slices_Clone_string.enc s.f_slices_Clone_string),
   (97, ansOf c_tree_each_Rec rc_tree_each_Rec.enc s.f_tree_each_Rec),
   (98, ansOf c_tree_mapper_rec rc_tree_mapper_rec.enc s.f_tree_mapper_rec),
   (99, ansOf c_tree_each_Var rc_tree_each_Var.enc s.f_tree_each_Var),
   (100, ansOf c_tree_mapper_variable rc_tree_mapper_variable.enc s.f_tree_mapper_variable),
   (101, ansOf c_tree_each_Routine rc_tree_each_Routine.enc s.f_tree_each_Routine),
   (102, ansOf c_tree_mapper_routine rc_tree_mapper_routine.enc s.f_tree_mapper_routine),
   (103, ansOf c_tree_each_Stmt rc_tree_each_Stmt.enc s.f_tree_each_Stmt),
   (104, ansOf c_tree_mapper_stmt rc_tree_mapper_stmt.enc s.f_tree_mapper_stmt),
   (105, ansOf c_r07_ExprNames rc_r07_ExprNames.enc s.f_r07_ExprNames),
   (106, ansOf c_tree_few_Expr rc_tree_few_Expr.enc s.f_tree_few_Expr),
   (107, ansOf c_tree_checker_call rc_tree_checker_call.enc s.f_tree_checker_call),
   (108, ansOf c_tree_checker_deepest rc_tree_checker_deepest.enc s.f_tree_checker_deepest),
   (109, ansOf c_tree_marks rc_tree_marks.enc s.f_tree_marks),
   (110, ansOf c_slices_EqualFunc_Field rc_slices_EqualFunc_Field.enc s.f_slices_EqualFunc_Field),
   (111, ansOf c_tree_sameRec_1 rc_tree_sameRec_1.enc s.f_tree_sameRec_1),
   (112, ansOf c_slices_Equal_Param rc_slices_Equal_Param.enc s.f_slices_Equal_Param),
   (113, ansOf c_words_letter rc_words_letter.enc s.f_words_letter),
   (122, ansOf c_slices_IndexFunc_Field rc_slices_IndexFunc_Field.enc s.f_slices_IndexFunc_Field),
   (123, ansOf c_slices_IndexFunc_Var rc_slices_IndexFunc_Var.enc s.f_slices_IndexFunc_Var),
   (124, ansOf c_slices_IndexFunc_Routine rc_slices_IndexFunc_Routine.enc s.f_slices_IndexFunc_Routine),
   (126, ansOf c_tree_few_Param rc_tree_few_Param.enc s.f_tree_few_Param),
   (127, ansOf c_slices_IndexFunc_Stmt rc_slices_IndexFunc_Stmt.enc s.f_slices_IndexFunc_Stmt),
   (128, ansOf c_tree_shapeOf rc_tree_shapeOf.enc s.f_tree_shapeOf),
   (129, ansOf c_tree_checker_place rc_tree_checker_place.enc s.f_tree_checker_place),
   (130, ansOf c_tree_none rc_tree_none.enc s.f_tree_none),
   (131, ansOf c_r04_Letter rc_r04_Letter.enc s.f_r04_Letter),
   (132, ansOf c_r04_All rc_r04_All.enc s.f_r04_All),
   (133, ansOf c_r02_right rc_r02_right.enc s.f_r02_right),
   (134, ansOf c_r07_place rc_r07_place.enc s.f_r07_place),
   (135, ansOf c_r07_none rc_r07_none.enc s.f_r07_none),
   (138, ansOf c_tree_mapper_marks rc_tree_mapper_marks.enc s.f_tree_mapper_marks),
   (139, ansOf c_tree_each_Field rc_tree_each_Field.enc s.f_tree_each_Field),
   (140, ansOf c_tree_mapper_rec_1 rc_tree_mapper_rec_1.enc s.f_tree_mapper_rec_1),
   (141, ansOf c_tree_mapper_typ rc_tree_mapper_typ.enc s.f_tree_mapper_typ),
   (142, ansOf c_tree_each_Param rc_tree_each_Param.enc s.f_tree_each_Param),
   (143, ansOf c_tree_mapper_routine_1 rc_tree_mapper_routine_1.enc s.f_tree_mapper_routine_1),
   (144, ansOf c_tree_mapper_expr rc_tree_mapper_expr.enc s.f_tree_mapper_expr),
   (145, ansOf c_tree_each_Expr rc_tree_each_Expr.enc s.f_tree_each_Expr),
   (1000003, ansOf c_by rc_by.enc s.f_by)]
def sp (s : Fam) : Nat → List (AV II) → Tree (RV II) := look (table s)
end Go.Ev
end
section
namespace Go.Ev
def h_r01_Digits : Nat → Hint
  | _ => ⟨[], [], [], []⟩
def h_r01_SameTexts : Nat → Hint
  | 4 => ⟨[0, 1, 5], [], [], []⟩
  | _ => ⟨[], [], [], []⟩
def h_r01_long : Nat → Hint
  | _ => ⟨[], [], [], []⟩
def h_r02_Check : Nat → Hint
  | 4 => ⟨[0, 3], [], [], []⟩
  | _ => ⟨[], [], [], []⟩
def h_r02_right : Nat → Hint
  | _ => ⟨[], [], [], []⟩
def h_r04_All : Nat → Hint
  | _ => ⟨[], [], [], []⟩
def h_r04_Among : Nat → Hint
  | 2 => ⟨[0, 1, 5], [], [], []⟩
  | _ => ⟨[], [], [], []⟩
def h_r04_Check : Nat → Hint
  | 4 => ⟨[0, 3], [], [], []⟩
  | _ => ⟨[], [], [], []⟩
def h_r04_Is : Nat → Hint
  | _ => ⟨[], [], [], []⟩
def h_r04_Letter : Nat → Hint
  | _ => ⟨[], [], [], []⟩
def h_r07_Check : Nat → Hint
  | 10 => ⟨[0, 3, 5, 6, 7], [3, 6], [], [(3, (1, 9)), (3, (2, 9)), (3, (3, 9)), (3, (4, 59)), (3, (5, 98)), (3, (6, 103)), (3, (7, 107)), (3, (8, 9)), (6, (0, 9)), (6, (1, 9)), (6, (3, 69)), (6, (4, 9))]⟩
  | 4 => ⟨[0, 3, 5], [3], [], [(3, (1, 9)), (3, (2, 9)), (3, (3, 9)), (3, (4, 59)), (3, (5, 98)), (3, (6, 103)), (3, (7, 107)), (3, (8, 9))]⟩
  | _ => ⟨[], [], [], []⟩
def h_r07_Deep : Nat → Hint
  | 3 => ⟨[1, 2, 5, 6], [2], [], [(2, (4, 44))]⟩
  | _ => ⟨[], [], [], []⟩
def h_r07_Expr : Nat → Hint
  | _ => ⟨[], [], [], []⟩
def h_r07_ExprNames : Nat → Hint
  | 3 => ⟨[1, 3, 4], [1], [(3, 9)], [(1, (4, 44))]⟩
  | _ => ⟨[], [], [], []⟩
def h_r07_Name : Nat → Hint
  | _ => ⟨[], [], [], []⟩
def h_r07_Names : Nat → Hint
  | 15 => ⟨[3, 6, 7], [], [(3, 9), (6, 9)], []⟩
  | 7 => ⟨[1, 3, 4, 5], [1], [(3, 9)], [(1, (1, 9)), (1, (2, 9)), (1, (3, 9)), (1, (4, 59)), (1, (5, 98)), (1, (6, 103)), (1, (7, 107)), (1, (8, 9))]⟩
  | 3 => ⟨[1, 3, 4], [1], [(3, 9)], [(1, (1, 9)), (1, (2, 9)), (1, (3, 9)), (1, (4, 59)), (1, (5, 98)), (1, (6, 103)), (1, (7, 107)), (1, (8, 9))]⟩
  | _ => ⟨[], [], [], []⟩
def h_r07_Parts : Nat → Hint
  | 4 => ⟨[0, 3, 4, 5], [], [(3, 9)], []⟩
  | _ => ⟨[], [], [], []⟩
def h_r07_Routine : Nat → Hint
  | 5 => ⟨[5, 6], [], [(5, 9)], []⟩
  | _ => ⟨[], [], [], []⟩
def h_r07_Same : Nat → Hint
  | 10 => ⟨[2, 3, 5, 6, 7, 8], [2, 3, 6, 7], [], [(2, (1, 9)), (2, (2, 9)), (2, (3, 9)), (2, (4, 59)), (2, (5, 98)), (2, (6, 103)), (2, (7, 107)), (2, (8, 9)), (3, (1, 9)), (3, (2, 9)), (3, (3, 9)), (3, (4, 59)), (3, (5, 98)), (3, (6, 103)), (3, (7, 107)), (3, (8, 9)), (6, (0, 9)), (6, (1, 9)), (6, (3, 69)), (6, (4, 9)), (7, (0, 9)), (7, (1, 9)), (7, (3, 69)), (7, (4, 9))]⟩
  | 4 => ⟨[2, 3, 5], [2, 3], [], [(2, (1, 9)), (2, (2, 9)), (2, (3, 9)), (2, (4, 59)), (2, (5, 98)), (2, (6, 103)), (2, (7, 107)), (2, (8, 9)), (3, (1, 9)), (3, (2, 9)), (3, (3, 9)), (3, (4, 59)), (3, (5, 98)), (3, (6, 103)), (3, (7, 107)), (3, (8, 9))]⟩
  | _ => ⟨[], [], [], []⟩
def h_r07_SameExpr : Nat → Hint
  | _ => ⟨[], [], [], []⟩
def h_r07_SameExprs : Nat → Hint
  | 4 => ⟨[0, 1, 5], [], [], []⟩
  | _ => ⟨[], [], [], []⟩
def h_r07_SameRoutines : Nat → Hint
  | 10 => ⟨[0, 1, 5, 6, 7, 8], [6, 7], [], [(6, (0, 9)), (6, (1, 9)), (6, (4, 145)), (6, (5, 98)), (6, (6, 103)), (6, (7, 107)), (6, (8, 9)), (7, (0, 9)), (7, (1, 9)), (7, (4, 145)), (7, (5, 98)), (7, (6, 103)), (7, (7, 107)), (7, (8, 9))]⟩
  | 4 => ⟨[0, 1, 5], [], [], []⟩
  | _ => ⟨[], [], [], []⟩
def h_r07_SameStmts : Nat → Hint
  | 4 => ⟨[0, 1, 5], [], [], []⟩
  | _ => ⟨[], [], [], []⟩
def h_r07_Stmt : Nat → Hint
  | 14 => ⟨[0, 2, 4, 9], [4], [], [(4, (0, 9)), (4, (1, 9)), (4, (8, 44)), (4, (9, 44)), (4, (12, 107)), (4, (13, 107)), (4, (14, 9)), (4, (15, 9))]⟩
  | _ => ⟨[], [], [], []⟩
def h_r07_Stmts : Nat → Hint
  | 2 => ⟨[0, 1, 2, 7], [], [], []⟩
  | _ => ⟨[], [], [], []⟩
def h_r07_Type : Nat → Hint
  | _ => ⟨[], [], [], []⟩
def h_r07_form : Nat → Hint
  | 47 => ⟨[0, 2, 4, 11, 12], [4], [], [(4, (4, 44))]⟩
  | _ => ⟨[], [], [], []⟩
def h_r07_marks : Nat → Hint
  | _ => ⟨[], [], [], []⟩
def h_r07_none : Nat → Hint
  | _ => ⟨[], [], [], []⟩
def h_r07_notes : Nat → Hint
  | 2 => ⟨[0, 3], [], [], []⟩
  | _ => ⟨[], [], [], []⟩
def h_r07_params : Nat → Hint
  | 2 => ⟨[0, 1, 5], [], [], []⟩
  | _ => ⟨[], [], [], []⟩
def h_r07_place : Nat → Hint
  | _ => ⟨[], [], [], []⟩
def h_r07_routineNames : Nat → Hint
  | 8 => ⟨[0, 3, 4, 5, 6], [5], [(3, 9)], [(5, (0, 9)), (5, (1, 9)), (5, (4, 145)), (5, (5, 98)), (5, (6, 103)), (5, (7, 107)), (5, (8, 9))]⟩
  | 3 => ⟨[0, 3, 4], [], [(3, 9)], []⟩
  | _ => ⟨[], [], [], []⟩
def h_r07_routines : Nat → Hint
  | 8 => ⟨[0, 1, 2, 7, 8, 9], [8], [], [(8, (0, 9)), (8, (1, 9)), (8, (4, 145)), (8, (5, 98)), (8, (6, 103)), (8, (7, 107)), (8, (8, 9))]⟩
  | 2 => ⟨[0, 1, 2, 7], [], [], []⟩
  | _ => ⟨[], [], [], []⟩
def h_r07_sameMarks : Nat → Hint
  | _ => ⟨[], [], [], []⟩
def h_r07_sameVars : Nat → Hint
  | 4 => ⟨[0, 1, 5], [], [], []⟩
  | _ => ⟨[], [], [], []⟩
def h_r07_stmtNames : Nat → Hint
  | 8 => ⟨[0, 3, 4, 5], [], [(3, 9)], []⟩
  | 3 => ⟨[0, 3, 4], [], [(3, 9)], []⟩
  | _ => ⟨[], [], [], []⟩
def h_r07_varNames : Nat → Hint
  | 3 => ⟨[0, 3, 4], [], [(3, 9)], []⟩
  | _ => ⟨[], [], [], []⟩
def h_r07_vars : Nat → Hint
  | 2 => ⟨[0, 1, 5], [], [], []⟩
  | _ => ⟨[], [], [], []⟩
def h_slices_ContainsFunc_Field : Nat → Hint
  | _ => ⟨[], [], [], []⟩
def h_slices_ContainsFunc_Rec : Nat → Hint
  | _ => ⟨[], [], [], []⟩
def h_slices_ContainsFunc_Routine : Nat → Hint
  | _ => ⟨[], [], [], []⟩
def h_slices_ContainsFunc_Stmt : Nat → Hint
  | _ => ⟨[], [], [], []⟩
def h_slices_ContainsFunc_Var : Nat → Hint
  | _ => ⟨[], [], [], []⟩
def h_slices_EqualFunc_Expr : Nat → Hint
  | 4 => ⟨[1, 2, 15, 16, 17], [], [(15, 44)], []⟩
  | _ => ⟨[], [], [], []⟩
def h_slices_EqualFunc_Field : Nat → Hint
  | 4 => ⟨[1, 2, 15, 16, 17], [], [(15, 69)], []⟩
  | _ => ⟨[], [], [], []⟩
def h_slices_EqualFunc_Rec : Nat → Hint
  | 4 => ⟨[1, 2, 15, 16, 17], [], [(15, 59)], []⟩
  | _ => ⟨[], [], [], []⟩
def h_slices_EqualFunc_Routine : Nat → Hint
  | 4 => ⟨[1, 2, 15, 16, 17], [], [(15, 103)], []⟩
  | _ => ⟨[], [], [], []⟩
def h_slices_EqualFunc_Stmt : Nat → Hint
  | 4 => ⟨[1, 2, 15, 16, 17], [], [(15, 107)], []⟩
  | _ => ⟨[], [], [], []⟩
def h_slices_EqualFunc_Var : Nat → Hint
  | 4 => ⟨[1, 2, 15, 16, 17], [], [(15, 98)], []⟩
  | _ => ⟨[], [], [], []⟩
def h_slices_Equal_Param : Nat → Hint
  | 4 => ⟨[0, 1, 12, 13], [], [], []⟩
  | _ => ⟨[], [], [], []⟩
def h_slices_Equal_string : Nat → Hint
  | 4 => ⟨[0, 1, 12, 13], [], [], []⟩
  | _ => ⟨[], [], [], []⟩
def h_slices_IndexFunc_Field : Nat → Hint
  | 2 => ⟨[0, 1, 7, 8], [], [], []⟩
  | _ => ⟨[], [], [], []⟩
def h_slices_IndexFunc_Rec : Nat → Hint
  | 2 => ⟨[0, 1, 7, 8], [], [], []⟩
  | _ => ⟨[], [], [], []⟩
def h_slices_IndexFunc_Routine : Nat → Hint
  | 2 => ⟨[0, 1, 7, 8], [], [], []⟩
  | _ => ⟨[], [], [], []⟩
def h_slices_IndexFunc_Stmt : Nat → Hint
  | 2 => ⟨[0, 1, 7, 8], [], [], []⟩
  | _ => ⟨[], [], [], []⟩
def h_slices_IndexFunc_Var : Nat → Hint
  | 2 => ⟨[0, 1, 7, 8], [], [], []⟩
  | _ => ⟨[], [], [], []⟩
def h_tree_Check : Nat → Hint
  | _ => ⟨[], [], [], []⟩
def h_tree_CheckExpr : Nat → Hint
  | _ => ⟨[], [], [], []⟩
def h_tree_Check_1 : Nat → Hint
  | _ => ⟨[], [], [], []⟩
def h_tree_Rename_1 : Nat → Hint
  | 2 => ⟨[0, 6, 7, 8], [], [(6, 39)], []⟩
  | _ => ⟨[], [], [], []⟩
def h_tree_Same : Nat → Hint
  | _ => ⟨[], [], [], []⟩
def h_tree_SameExpr : Nat → Hint
  | _ => ⟨[], [], [], []⟩
def h_tree_checker_call : Nat → Hint
  | 4 => ⟨[2, 3, 5], [2, 3], [], [(3, (4, 44))]⟩
  | _ => ⟨[], [], [], []⟩
def h_tree_checker_deepest : Nat → Hint
  | 3 => ⟨[2, 5, 9, 10, 11], [2], [(9, 44)], []⟩
  | _ => ⟨[], [], [], []⟩
def h_tree_checker_expr : Nat → Hint
  | _ => ⟨[], [], [], []⟩
def h_tree_checker_name : Nat → Hint
  | _ => ⟨[], [], [], []⟩
def h_tree_checker_params : Nat → Hint
  | 3 => ⟨[1, 2, 5, 8, 9, 10], [2], [(8, 145)], []⟩
  | _ => ⟨[], [], [], []⟩
def h_tree_checker_place : Nat → Hint
  | _ => ⟨[], [], [], []⟩
def h_tree_checker_rec : Nat → Hint
  | _ => ⟨[], [], [], []⟩
def h_tree_checker_rec_1 : Nat → Hint
  | _ => ⟨[], [], [], []⟩
def h_tree_checker_routines : Nat → Hint
  | _ => ⟨[], [], [], []⟩
def h_tree_checker_routines_1 : Nat → Hint
  | _ => ⟨[], [], [], []⟩
def h_tree_checker_stmt : Nat → Hint
  | 17 => ⟨[2, 3, 4, 145, 146, 147], [3, 4], [(145, 44)], [(4, (0, 9)), (4, (1, 9)), (4, (8, 44)), (4, (9, 44)), (4, (12, 107)), (4, (13, 107)), (4, (14, 9)), (4, (15, 9))]⟩
  | _ => ⟨[], [], [], []⟩
def h_tree_checker_stmts : Nat → Hint
  | _ => ⟨[], [], [], []⟩
def h_tree_checker_stmts_1 : Nat → Hint
  | _ => ⟨[], [], [], []⟩
def h_tree_checker_typ : Nat → Hint
  | _ => ⟨[], [], [], []⟩
def h_tree_checker_vars : Nat → Hint
  | _ => ⟨[], [], [], []⟩
def h_tree_checker_vars_1 : Nat → Hint
  | _ => ⟨[], [], [], []⟩
def h_tree_each_Expr : Nat → Hint
  | 3 => ⟨[1, 5, 8, 9, 10], [], [(5, 44), (8, 44)], []⟩
  | _ => ⟨[], [], [], []⟩
def h_tree_each_Field : Nat → Hint
  | 3 => ⟨[1, 5, 8, 9, 10], [], [(5, 69), (8, 69)], []⟩
  | _ => ⟨[], [], [], []⟩
def h_tree_each_Param : Nat → Hint
  | 3 => ⟨[1, 5, 8, 9, 10], [], [(5, 145), (8, 145)], []⟩
  | _ => ⟨[], [], [], []⟩
def h_tree_each_Rec : Nat → Hint
  | 3 => ⟨[1, 5, 8, 9, 10], [], [(5, 59), (8, 59)], []⟩
  | _ => ⟨[], [], [], []⟩
def h_tree_each_Routine : Nat → Hint
  | 3 => ⟨[1, 5, 8, 9, 10], [], [(5, 103), (8, 103)], []⟩
  | _ => ⟨[], [], [], []⟩
def h_tree_each_Stmt : Nat → Hint
  | 3 => ⟨[1, 5, 8, 9, 10], [], [(5, 107), (8, 107)], []⟩
  | _ => ⟨[], [], [], []⟩
def h_tree_each_Var : Nat → Hint
  | 3 => ⟨[1, 5, 8, 9, 10], [], [(5, 98), (8, 98)], []⟩
  | _ => ⟨[], [], [], []⟩
def h_tree_few_Expr : Nat → Hint
  | _ => ⟨[], [], [], []⟩
def h_tree_few_Field : Nat → Hint
  | _ => ⟨[], [], [], []⟩
def h_tree_few_Param : Nat → Hint
  | _ => ⟨[], [], [], []⟩
def h_tree_few_Rec : Nat → Hint
  | _ => ⟨[], [], [], []⟩
def h_tree_few_Routine : Nat → Hint
  | _ => ⟨[], [], [], []⟩
def h_tree_few_Stmt : Nat → Hint
  | _ => ⟨[], [], [], []⟩
def h_tree_few_Var : Nat → Hint
  | _ => ⟨[], [], [], []⟩
def h_tree_few_string : Nat → Hint
  | _ => ⟨[], [], [], []⟩
def h_tree_kind : Nat → Hint
  | _ => ⟨[], [], [], []⟩
def h_tree_mapper_expr : Nat → Hint
  | _ => ⟨[], [], [], []⟩
def h_tree_mapper_marks : Nat → Hint
  | _ => ⟨[], [], [], []⟩
def h_tree_mapper_program : Nat → Hint
  | _ => ⟨[], [], [], []⟩
def h_tree_mapper_rec : Nat → Hint
  | _ => ⟨[], [], [], []⟩
def h_tree_mapper_rec_1 : Nat → Hint
  | _ => ⟨[], [], [], []⟩
def h_tree_mapper_routine : Nat → Hint
  | _ => ⟨[], [], [], []⟩
def h_tree_mapper_routine_1 : Nat → Hint
  | _ => ⟨[], [], [], []⟩
def h_tree_mapper_stmt : Nat → Hint
  | _ => ⟨[], [], [], []⟩
def h_tree_mapper_typ : Nat → Hint
  | _ => ⟨[], [], [], []⟩
def h_tree_mapper_variable : Nat → Hint
  | _ => ⟨[], [], [], []⟩
def h_tree_marks : Nat → Hint
  | _ => ⟨[], [], [], []⟩
def h_tree_none : Nat → Hint
  | _ => ⟨[], [], [], []⟩
def h_tree_notes : Nat → Hint
  | 7 => ⟨[9, 10, 11, 18, 19, 20], [], [(9, 22), (18, 9)], []⟩
  | 2 => ⟨[9, 10, 11], [], [(9, 22)], []⟩
  | _ => ⟨[], [], [], []⟩
def h_tree_sameRec : Nat → Hint
  | _ => ⟨[], [], [], []⟩
def h_tree_sameRec_1 : Nat → Hint
  | _ => ⟨[], [], [], []⟩
def h_tree_sameRoutine : Nat → Hint
  | _ => ⟨[], [], [], []⟩
def h_tree_sameStmt : Nat → Hint
  | _ => ⟨[], [], [], []⟩
def h_tree_sameVar : Nat → Hint
  | _ => ⟨[], [], [], []⟩
def h_tree_shapeOf : Nat → Hint
  | _ => ⟨[], [], [], []⟩
def h_w07_TreeAlike : Nat → Hint
  | _ => ⟨[], [], [], []⟩
def h_w07_TreeBack : Nat → Hint
  | 10 => ⟨[1, 3, 4, 5, 6, 7, 8], [1], [(3, 9), (4, 39), (5, 39)], [(1, (1, 9)), (1, (2, 9)), (1, (3, 9)), (1, (4, 59)), (1, (5, 98)), (1, (6, 103)), (1, (7, 107)), (1, (8, 9))]⟩
  | 6 => ⟨[1, 3, 4, 5, 6], [1], [(3, 9), (4, 39), (5, 39)], [(1, (1, 9)), (1, (2, 9)), (1, (3, 9)), (1, (4, 59)), (1, (5, 98)), (1, (6, 103)), (1, (7, 107)), (1, (8, 9))]⟩
  | _ => ⟨[], [], [], []⟩
def h_w07_TreeChecks : Nat → Hint
  | _ => ⟨[], [], [], []⟩
def h_w07_TreeExprs : Nat → Hint
  | _ => ⟨[], [], [], []⟩
def h_w07_TreeNames : Nat → Hint
  | _ => ⟨[], [], [], []⟩
def h_w07_TreeSame : Nat → Hint
  | _ => ⟨[], [], [], []⟩
def h_w07_awake : Nat → Hint
  | _ => ⟨[], [], [], []⟩
def h_words_Check : Nat → Hint
  | 2 => ⟨[0, 5, 6], [], [], []⟩
  | _ => ⟨[], [], [], []⟩
def h_words_letter : Nat → Hint
  | _ => ⟨[], [], [], []⟩
end Go.Ev
end
section
open Go Go.Proofs
namespace Go.Ev
set_option linter.unusedVariables false
set_option linter.unusedSimpArgs false
set_option maxHeartbeats 4000000
set_option maxRecDepth 100000
def B_w07_TreeChecks (s : Fam) (k : Nat) (x0 : Int) (x1 : TProgram) : Option (Bool) := ((s.f_tree_Check (x0, x1, ())).bind fun t1 => ((s.f_r07_Check (x0, x1, ())).bind fun t2 => (if ((t1 == 0) == t2 && (t1 == 0 || t1 == 1)) = Bool.true then ((s.f_w07_awake ()).bind fun t4 => some (Bool.true && t4)) else some (Bool.false))))
theorem e_w07_TreeChecks (s : Fam) (k : Nat) (x : a_w07_TreeChecks) : (evFunC EE (sp s) h_w07_TreeChecks co_w07_TreeChecks k Tryz.f3 (c_w07_TreeChecks.enc x)).run = (B_w07_TreeChecks s k x.1 x.2.1).map rc_w07_TreeChecks.enc := by
  simp only [B_w07_TreeChecks, map_ite, map_bindO, map_someO, map_noneO]
  kernel_rfl
-- 7 nodes
def B_w07_TreeNames (s : Fam) (k : Nat) (x0 : TProgram) : Option (Bool) := ((s.f_tree_Names (x0, ())).bind fun t1 => ((s.f_r07_Names (x0, ())).bind fun t2 => ((s.f_r01_SameTexts (t1, t2, ())).bind fun t3 => (if t3 = Bool.true then ((s.f_w07_awake ()).bind fun t5 => some (Bool.true && t5)) else some (Bool.false)))))
theorem e_w07_TreeNames (s : Fam) (k : Nat) (x : a_w07_TreeNames) : (evFunC EE (sp s) h_w07_TreeNames co_w07_TreeNames k Tryz.f4 (c_w07_TreeNames.enc x)).run = (B_w07_TreeNames s k x.1).map rc_w07_TreeNames.enc := by
  simp only [B_w07_TreeNames, map_ite, map_bindO, map_someO, map_noneO]
  kernel_rfl
-- 8 nodes
def Lw07_TreeBack_10 (s : Fam) (k : Nat) (x0 : TProgram) (r6 : b_tree_Names → Int → ByteArray → List ByteArray → List ByteArray → List ByteArray → List TRec → List TVar → List TRoutine → List TStmt → List ByteArray → List TPair → List TPair → Option (Bool)) : Nat → b_tree_Names → Int → ByteArray → Int → ByteArray → List ByteArray → List ByteArray → List ByteArray → List TRec → List TVar → List TRoutine → List TStmt → List ByteArray → List TPair → List TPair → Option (Bool)
  | 0, _, _, _, _, _, _, _, _, _, _, _, _, _, _, _ => none
  | j10 + 1, uv0, uv1, uv2, uv3, uv4, uv5, uv6, uv7, uv8, uv9, uv10, uv11, uv12, uv13, uv14 => (if decide (uv3 < (↑(List.length uv0) : Int)) = Bool.true then (if 0 ≤ uv3 then (if uv3 < (↑(List.length uv0) : Int) then (if ((List.getD uv0 uv3.toNat { data := #[] : ByteArray }).toList == uv2.toList) = Bool.true then ((s.f_w07_awake ()).bind fun t17 => some (t17)) else Lw07_TreeBack_10 s k x0 r6 j10 (uv0) (uv1) (uv2) (Go.IntKind.i64.wrap (uv3 + 1)) (uv4) (uv5) (uv6) (uv7) (uv8) (uv9) (uv10) (uv11) (uv12) (uv13) (uv14)) else none) else none) else (if 0 ≤ uv1 then (if uv1 < (↑(List.length uv0) : Int) then (if (uv13 ++ [{ Old := List.getD uv0 uv1.toNat { data := #[] : ByteArray }, New := uv2 : TPair }]).length * 32 ≤ 140737488355328 then (if 0 ≤ uv1 then (if uv1 < (↑(List.length uv0) : Int) then (if (uv14 ++ [{ Old := uv2, New := List.getD uv0 uv1.toNat { data := #[] : ByteArray } : TPair }]).length * 32 ≤ 140737488355328 then r6 (uv0) (Go.IntKind.i64.wrap (uv1 + 1)) (uv4) (uv5) (uv6) (uv7) (uv8) (uv9) (uv10) (uv11) (uv12) (uv13 ++ [{ Old := List.getD uv0 uv1.toNat { data := #[] : ByteArray }, New := uv2 : TPair }]) (uv14 ++ [{ Old := uv2, New := List.getD uv0 uv1.toNat { data := #[] : ByteArray } : TPair }]) else none) else none) else none) else none) else none) else none))
def Lw07_TreeBack_6 (s : Fam) (k : Nat) (x0 : TProgram) : Nat → b_tree_Names → Int → ByteArray → List ByteArray → List ByteArray → List ByteArray → List TRec → List TVar → List TRoutine → List TStmt → List ByteArray → List TPair → List TPair → Option (Bool)
  | 0, _, _, _, _, _, _, _, _, _, _, _, _, _ => none
  | j6 + 1, v0, v1, v2, v3, v4, v5, v6, v7, v8, v9, v10, v11, v12 => (if decide (v1 < (↑(List.length v0) : Int)) = Bool.true then ((s.f_r01_Digits (v1, ())).bind fun t7 => (if (↑({ data := #[126] : ByteArray }.size + ByteArray.size t7) : Int) > Go.IntKind.i64.max then none else (if (↑(({ data := #[126] : ByteArray } ++ t7).size + { data := #[126] : ByteArray }.size) : Int) > Go.IntKind.i64.max then none else Lw07_TreeBack_10 s k x0 (Lw07_TreeBack_6 s k x0 j6) k (v0) (v1) ({ data := #[126] : ByteArray } ++ t7 ++ { data := #[126] : ByteArray }) (0) (v2) (v3) (v4) (v5) (v6) (v7) (v8) (v9) (v10) (v11) (v12)))) else ((s.f_tree_Rename ({ Name := v2, Before := v3, Mid := v4, After := v5, Recs := v6, Vars := v7, Routines := v8, Body := v9, End := v10 : TProgram }, v11, ())).bind fun t35 => ((s.f_tree_Names (t35, ())).bind fun t36 => (if ((↑(List.length t36) : Int) == (↑(List.length v0) : Int)) = Bool.true then ((s.f_tree_Rename (t35, v12, ())).bind fun t38 => ((s.f_r07_Same (t38, { Name := v2, Before := v3, Mid := v4, After := v5, Recs := v6, Vars := v7, Routines := v8, Body := v9, End := v10 : TProgram }, ())).bind fun t40 => (if (Bool.true && t40) = Bool.true then ((s.f_w07_awake ()).bind fun t42 => some (Bool.true && t42)) else some (Bool.false)))) else some (Bool.false)))))
def B_w07_TreeBack (s : Fam) (k : Nat) (x0 : TProgram) : Option (Bool) := ((s.f_tree_Names (x0, ())).bind fun t1 => (if decide ((↑(List.length t1) : Int) > 200) = Bool.true then ((s.f_w07_awake ()).bind fun t3 => some (t3)) else Lw07_TreeBack_6 s k x0 k (t1) (0) (x0.Name) (x0.Before) (x0.Mid) (x0.After) (x0.Recs) (x0.Vars) (x0.Routines) (x0.Body) (x0.End) ([]) ([])))
theorem Lw07_TreeBack_10_eq (s : Fam) (k : Nat) (x0 : TProgram) (j6 : Nat) (r6 : b_tree_Names → Int → ByteArray → List ByteArray → List ByteArray → List ByteArray → List TRec → List TVar → List TRoutine → List TStmt → List ByteArray → List TPair → List TPair → Option (Bool)) (h6 : ∀ (v0 : b_tree_Names) (v1 : Int) (v2 : ByteArray) (v3 : List ByteArray) (v4 : List ByteArray) (v5 : List ByteArray) (v6 : List TRec) (v7 : List TVar) (v8 : List TRoutine) (v9 : List TStmt) (v10 : List ByteArray) (v11 : List TPair) (v12 : List TPair), (loopGo EE (sp s) h_w07_TreeBack co_w07_TreeBack [] k Tryz.f5 6 [] j6 ({ tmps := ofL AV.any [(1, AV.c (CV.ptr 1 0)), (3, AV.c (CV.d (DV.sl 9 v0))), (4, AV.c (CV.own 4 0)), (5, AV.c (CV.own 5 0)), (6, AV.c (CV.d (DV.lit (Go.Value.int Go.IntKind.i64 v1))))], boxes := ofL Option.none [(1, Option.some [CV.d (DV.lit (Go.Value.string v2)), CV.d (DV.sl 9 v3), CV.d (DV.sl 9 v4), CV.d (DV.sl 9 v5), CV.d (DV.sl 59 v6), CV.d (DV.sl 98 v7), CV.d (DV.sl 103 v8), CV.d (DV.sl 107 v9), CV.d (DV.sl 9 v10)])], objs := ofL Option.none [(3, Option.none), (4, Option.some { ver := 0, t := 39, xs := v11 : Obj II }), (5, Option.some { ver := 0, t := 39, xs := v12 : Obj II }), (1099511631873, Option.none), (1099511631874, Option.none), (1099511631875, Option.none), (1099511631876, Option.none), (1099511631877, Option.none), (1099511631878, Option.none), (1099511631879, Option.none), (1099511631880, Option.none)], fxs := ofL Option.none [(1, Option.none)] : AS II })).run = (r6 v0 v1 v2 v3 v4 v5 v6 v7 v8 v9 v10 v11 v12).map rc_w07_TreeBack.enc) : ∀ (j10 : Nat) (uv0 : b_tree_Names) (uv1 : Int) (uv2 : ByteArray) (uv3 : Int) (uv4 : ByteArray) (uv5 : List ByteArray) (uv6 : List ByteArray) (uv7 : List ByteArray) (uv8 : List TRec) (uv9 : List TVar) (uv10 : List TRoutine) (uv11 : List TStmt) (uv12 : List ByteArray) (uv13 : List TPair) (uv14 : List TPair), (loopGo EE (sp s) h_w07_TreeBack co_w07_TreeBack [] k Tryz.f5 10 [j6] j10 ({ tmps := ofL AV.any [(1, AV.c (CV.ptr 1 0)), (3, AV.c (CV.d (DV.sl 9 uv0))), (4, AV.c (CV.own 4 0)), (5, AV.c (CV.own 5 0)), (6, AV.c (CV.d (DV.lit (Go.Value.int Go.IntKind.i64 uv1)))), (7, AV.c (CV.d (DV.lit (Go.Value.string uv2)))), (8, AV.c (CV.d (DV.lit (Go.Value.int Go.IntKind.i64 uv3))))], boxes := ofL Option.none [(1, Option.some [CV.d (DV.lit (Go.Value.string uv4)), CV.d (DV.sl 9 uv5), CV.d (DV.sl 9 uv6), CV.d (DV.sl 9 uv7), CV.d (DV.sl 59 uv8), CV.d (DV.sl 98 uv9), CV.d (DV.sl 103 uv10), CV.d (DV.sl 107 uv11), CV.d (DV.sl 9 uv12)])], objs := ofL Option.none [(3, Option.none), (4, Option.some { ver := 0, t := 39, xs := uv13 : Obj II }), (5, Option.some { ver := 0, t := 39, xs := uv14 : Obj II }), (1099511631873, Option.none), (1099511631874, Option.none), (1099511631875, Option.none), (1099511631876, Option.none), (1099511631877, Option.none), (1099511631878, Option.none), (1099511631879, Option.none), (1099511631880, Option.none)], fxs := ofL Option.none [(1, Option.none)] : AS II })).run = (Lw07_TreeBack_10 s k x0 r6 j10 uv0 uv1 uv2 uv3 uv4 uv5 uv6 uv7 uv8 uv9 uv10 uv11 uv12 uv13 uv14).map rc_w07_TreeBack.enc := by
  intro j10
  induction j10 with
  | zero => intros; rfl
  | succ j10 ih =>
    intros
    simp only [Lw07_TreeBack_10, map_ite, map_bindO, map_someO, map_noneO, ← ih, ← h6]
    kernel_rfl
theorem Lw07_TreeBack_6_eq (s : Fam) (k : Nat) (x0 : TProgram) : ∀ (j6 : Nat) (v0 : b_tree_Names) (v1 : Int) (v2 : ByteArray) (v3 : List ByteArray) (v4 : List ByteArray) (v5 : List ByteArray) (v6 : List TRec) (v7 : List TVar) (v8 : List TRoutine) (v9 : List TStmt) (v10 : List ByteArray) (v11 : List TPair) (v12 : List TPair), (loopGo EE (sp s) h_w07_TreeBack co_w07_TreeBack [] k Tryz.f5 6 [] j6 ({ tmps := ofL AV.any [(1, AV.c (CV.ptr 1 0)), (3, AV.c (CV.d (DV.sl 9 v0))), (4, AV.c (CV.own 4 0)), (5, AV.c (CV.own 5 0)), (6, AV.c (CV.d (DV.lit (Go.Value.int Go.IntKind.i64 v1))))], boxes := ofL Option.none [(1, Option.some [CV.d (DV.lit (Go.Value.string v2)), CV.d (DV.sl 9 v3), CV.d (DV.sl 9 v4), CV.d (DV.sl 9 v5), CV.d (DV.sl 59 v6), CV.d (DV.sl 98 v7), CV.d (DV.sl 103 v8), CV.d (DV.sl 107 v9), CV.d (DV.sl 9 v10)])], objs := ofL Option.none [(3, Option.none), (4, Option.some { ver := 0, t := 39, xs := v11 : Obj II }), (5, Option.some { ver := 0, t := 39, xs := v12 : Obj II }), (1099511631873, Option.none), (1099511631874, Option.none), (1099511631875, Option.none), (1099511631876, Option.none), (1099511631877, Option.none), (1099511631878, Option.none), (1099511631879, Option.none), (1099511631880, Option.none)], fxs := ofL Option.none [(1, Option.none)] : AS II })).run = (Lw07_TreeBack_6 s k x0 j6 v0 v1 v2 v3 v4 v5 v6 v7 v8 v9 v10 v11 v12).map rc_w07_TreeBack.enc := by
  intro j6
  induction j6 with
  | zero => intros; rfl
  | succ j6 ih =>
    have q0 := Lw07_TreeBack_10_eq s k x0 j6 (Lw07_TreeBack_6 s k x0 j6) ih
    intros
    simp only [Lw07_TreeBack_6, map_ite, map_bindO, map_someO, map_noneO, ← ih, ← q0]
    kernel_rfl
theorem e_w07_TreeBack (s : Fam) (k : Nat) (x : a_w07_TreeBack) : (evFunC EE (sp s) h_w07_TreeBack co_w07_TreeBack k Tryz.f5 (c_w07_TreeBack.enc x)).run = (B_w07_TreeBack s k x.1).map rc_w07_TreeBack.enc := by
  simp only [B_w07_TreeBack, map_ite, map_bindO, map_someO, map_noneO, ← Lw07_TreeBack_6_eq]
  kernel_rfl
-- 50 nodes
def B_w07_TreeExprs (s : Fam) (k : Nat) (x0 : Int) (x1 : TExpr) : Option (Bool) := ((s.f_tree_CheckExpr (x0, x1.re, ())).bind fun t1 => ((s.f_r07_Expr (x0, x1.re, ())).bind fun t2 => (if ((t1 == 0) == t2 && (t1 == 0 || t1 == 1)) = Bool.true then ((s.f_w07_awake ()).bind fun t4 => some (Bool.true && t4)) else some (Bool.false))))
theorem e_w07_TreeExprs (s : Fam) (k : Nat) (x : a_w07_TreeExprs) : (evFunC EE (sp s) h_w07_TreeExprs co_w07_TreeExprs k Tryz.f6 (c_w07_TreeExprs.enc x)).run = (B_w07_TreeExprs s k x.1 x.2.1).map rc_w07_TreeExprs.enc := by
  simp only [B_w07_TreeExprs, map_ite, map_bindO, map_someO, map_noneO]
  kernel_rfl
-- 7 nodes
def B_w07_TreeSame (s : Fam) (k : Nat) (x0 : TProgram) (x1 : TProgram) (x2 : TExpr) (x3 : TExpr) : Option (Bool) := ((s.f_tree_Same (x0, x1, ())).bind fun t1 => ((s.f_r07_Same (x0, x1, ())).bind fun t2 => (if (t1 == t2) = Bool.true then ((s.f_tree_Same (x0, x0, ())).bind fun t4 => (if (Bool.true && t4) = Bool.true then ((s.f_tree_SameExpr (x2.re, x3.re, ())).bind fun t6 => ((s.f_r07_SameExpr (x2.re, x3.re, ())).bind fun t8 => (if (Bool.true && t6 == t8) = Bool.true then ((s.f_tree_SameExpr (x2.re, x2.re, ())).bind fun t10 => (if (Bool.true && t10) = Bool.true then ((s.f_w07_awake ()).bind fun t12 => some (Bool.true && t12)) else some (Bool.false))) else some (Bool.false)))) else some (Bool.false))) else some (Bool.false))))
theorem e_w07_TreeSame (s : Fam) (k : Nat) (x : a_w07_TreeSame) : (evFunC EE (sp s) h_w07_TreeSame co_w07_TreeSame k Tryz.f7 (c_w07_TreeSame.enc x)).run = (B_w07_TreeSame s k x.1 x.2.1 x.2.2.1 x.2.2.2.1).map rc_w07_TreeSame.enc := by
  simp only [B_w07_TreeSame, map_ite, map_bindO, map_someO, map_noneO]
  kernel_rfl
-- 37 nodes
def B_w07_TreeAlike (s : Fam) (k : Nat) (x0 : TProgram) (x1 : TProgram) (x2 : TProgram) : Option (Bool) := ((s.f_tree_Same (x0, x1, ())).bind fun t1 => ((s.f_tree_Same (x1, x2, ())).bind fun t2 => ((s.f_tree_Same (x0, x2, ())).bind fun t3 => ((s.f_tree_Same (x1, x0, ())).bind fun t4 => (if (t4 == t1 && (!t1 || !t2 || t3) && (!t1 || t2 == t3)) = Bool.true then ((s.f_w07_awake ()).bind fun t6 => some (Bool.true && t6)) else some (Bool.false))))))
theorem e_w07_TreeAlike (s : Fam) (k : Nat) (x : a_w07_TreeAlike) : (evFunC EE (sp s) h_w07_TreeAlike co_w07_TreeAlike k Tryz.f8 (c_w07_TreeAlike.enc x)).run = (B_w07_TreeAlike s k x.1 x.2.1 x.2.2.1).map rc_w07_TreeAlike.enc := by
  simp only [B_w07_TreeAlike, map_ite, map_bindO, map_someO, map_noneO]
  kernel_rfl
-- 9 nodes
def B_tree_Check (s : Fam) (k : Nat) (x0 : Int) (x1 : TProgram) : Option (Int) := (if (x0 != 0 && x0 != 1) = Bool.false then ((s.f_tree_checker_name ({ dialect := x0 : Ttree_checker }, x1.Name, ())).bind fun t2 => (if (Bool.false || !t2) = Bool.false then ((s.f_tree_notes ([x1.Before, x1.Mid, x1.After, x1.End], ())).bind fun t5 => (if (Bool.false || !t5) = Bool.false then ((s.f_tree_few_Rec (x1.Recs, ())).bind fun t7 => (if (Bool.false || !t7) = Bool.false then ((s.f_slices_ContainsFunc_Rec (x1.Recs, ((), { dialect := x0 : Ttree_checker }, ()), ())).bind fun t9 => (if (Bool.false || t9) = Bool.false then ((s.f_tree_checker_vars ({ dialect := x0 : Ttree_checker }, x1.Vars, ())).bind fun t11 => (if (Bool.false || !t11) = Bool.false then ((s.f_tree_checker_routines ({ dialect := x0 : Ttree_checker }, x1.Routines, 1, ())).bind fun t13 => (if (Bool.false || !t13) = Bool.false then ((s.f_tree_checker_stmts ({ dialect := x0 : Ttree_checker }, x1.Body, 1, ())).bind fun t15 => (if (Bool.false || !t15) = Bool.true then some (1) else some (0))) else some (1))) else some (1))) else some (1))) else some (1))) else some (1))) else some (1))) else some (1))
theorem e_tree_Check (s : Fam) (k : Nat) (x : a_tree_Check) : (evFunC EE (sp s) h_tree_Check co_tree_Check k Tryz.f9 (c_tree_Check.enc x)).run = (B_tree_Check s k x.1 x.2.1).map rc_tree_Check.enc := by
  simp only [B_tree_Check, map_ite, map_bindO, map_someO, map_noneO]
  kernel_rfl
-- 107 nodes
def Lr07_Check_10 (s : Fam) (k : Nat) (x0 : Int) (x1 : TProgram) (r4 : Int → Int → ByteArray → List ByteArray → List ByteArray → List ByteArray → List TRec → List TVar → List TRoutine → List TStmt → List ByteArray → Option (Bool)) : Nat → Int → Int → Int → ByteArray → List ByteArray → List ByteArray → List ByteArray → List TRec → List TVar → List TRoutine → List TStmt → List ByteArray → List ByteArray → List ByteArray → ByteArray → List TField → List ByteArray → Option (Bool)
  | 0, _, _, _, _, _, _, _, _, _, _, _, _, _, _, _, _, _ => none
  | j10 + 1, uv0, uv1, uv2, uv3, uv4, uv5, uv6, uv7, uv8, uv9, uv10, uv11, uv12, uv13, uv14, uv15, uv16 => (if decide (uv2 < (↑uv15.length : Int)) = Bool.true then (if 0 ≤ uv2 then (if uv2 < (↑uv15.length : Int) then ((s.f_r07_marks ((uv15.getD uv2.toNat dd_TField).sub_Marks, ())).bind fun t28 => (if (!t28) = Bool.false then ((s.f_r07_Name (uv0, (uv15.getD uv2.toNat dd_TField).Name, ())).bind fun t30 => (if (Bool.false || !t30 || decide ((uv15.getD uv2.toNat dd_TField).Kind < 1) || decide ((uv15.getD uv2.toNat dd_TField).Kind > 3)) = Bool.true then some (Bool.false) else Lr07_Check_10 s k x0 x1 r4 j10 (uv0) (uv1) (Go.IntKind.i64.wrap (uv2 + 1)) (uv3) (uv4) (uv5) (uv6) (uv7) (uv8) (uv9) (uv10) (uv11) (uv12) (uv13) (uv14) (uv15) (uv16))) else some (Bool.false))) else none) else none) else r4 (uv0) (Go.IntKind.i64.wrap (uv1 + 1)) (uv3) (uv4) (uv5) (uv6) (uv7) (uv8) (uv9) (uv10) (uv11))
def Lr07_Check_4 (s : Fam) (k : Nat) (x0 : Int) (x1 : TProgram) : Nat → Int → Int → ByteArray → List ByteArray → List ByteArray → List ByteArray → List TRec → List TVar → List TRoutine → List TStmt → List ByteArray → Option (Bool)
  | 0, _, _, _, _, _, _, _, _, _, _, _ => none
  | j4 + 1, v0, v1, v2, v3, v4, v5, v6, v7, v8, v9, v10 => (if decide (v1 < (↑v6.length : Int)) = Bool.true then (if 0 ≤ v1 then (if v1 < (↑v6.length : Int) then ((s.f_r07_marks ((v6.getD v1.toNat dd_TRec).sub_Marks, ())).bind fun t17 => (if (!t17) = Bool.false then ((s.f_r07_notes ((v6.getD v1.toNat dd_TRec).End, ())).bind fun t19 => (if (Bool.false || !t19) = Bool.false then ((s.f_r07_Name (v0, (v6.getD v1.toNat dd_TRec).Name, ())).bind fun t21 => (if (Bool.false || !t21 || (↑(v6.getD v1.toNat dd_TRec).Fields.length : Int) == 0 || decide ((↑(v6.getD v1.toNat dd_TRec).Fields.length : Int) > 512)) = Bool.true then some (Bool.false) else Lr07_Check_10 s k x0 x1 (Lr07_Check_4 s k x0 x1 j4) k (v0) (v1) (0) (v2) (v3) (v4) (v5) (v6) (v7) (v8) (v9) (v10) ((v6.getD v1.toNat dd_TRec).Marks_Before) ((v6.getD v1.toNat dd_TRec).Marks_Trail) ((v6.getD v1.toNat dd_TRec).Name) ((v6.getD v1.toNat dd_TRec).Fields) ((v6.getD v1.toNat dd_TRec).End))) else some (Bool.false))) else some (Bool.false))) else none) else none) else ((s.f_r07_vars (v0, v7, ())).bind fun t54 => (if t54 = Bool.true then ((s.f_r07_routines (v0, v8, 1, ())).bind fun t56 => (if (Bool.true && t56) = Bool.true then ((s.f_r07_Stmts (v0, v9, 1, ())).bind fun t58 => some (Bool.true && t58)) else some (Bool.false))) else some (Bool.false))))
def B_r07_Check (s : Fam) (k : Nat) (x0 : Int) (x1 : TProgram) : Option (Bool) := (if (x0 != 0 && x0 != 1) = Bool.false then ((s.f_r07_Name (x0, x1.Name, ())).bind fun t2 => (if (Bool.false || !t2) = Bool.false then ((s.f_r07_notes (x1.Before, ())).bind fun t4 => (if (Bool.false || !t4) = Bool.false then ((s.f_r07_notes (x1.Mid, ())).bind fun t6 => (if (Bool.false || !t6) = Bool.false then ((s.f_r07_notes (x1.After, ())).bind fun t8 => (if (Bool.false || !t8) = Bool.false then ((s.f_r07_notes (x1.End, ())).bind fun t10 => (if (Bool.false || !t10 || decide ((↑x1.Recs.length : Int) > 512)) = Bool.true then some (Bool.false) else Lr07_Check_4 s k x0 x1 k (x0) (0) (x1.Name) (x1.Before) (x1.Mid) (x1.After) (x1.Recs) (x1.Vars) (x1.Routines) (x1.Body) (x1.End))) else some (Bool.false))) else some (Bool.false))) else some (Bool.false))) else some (Bool.false))) else some (Bool.false))
theorem Lr07_Check_10_eq (s : Fam) (k : Nat) (x0 : Int) (x1 : TProgram) (j4 : Nat) (r4 : Int → Int → ByteArray → List ByteArray → List ByteArray → List ByteArray → List TRec → List TVar → List TRoutine → List TStmt → List ByteArray → Option (Bool)) (h4 : ∀ (v0 : Int) (v1 : Int) (v2 : ByteArray) (v3 : List ByteArray) (v4 : List ByteArray) (v5 : List ByteArray) (v6 : List TRec) (v7 : List TVar) (v8 : List TRoutine) (v9 : List TStmt) (v10 : List ByteArray), (loopGo EE (sp s) h_r07_Check co_r07_Check [] k Tryz.f10 4 [] j4 ({ tmps := ofL AV.any [(0, AV.c (CV.d (DV.lit (Go.Value.int Go.IntKind.i64 v0)))), (3, AV.c (CV.ptr 3 0)), (5, AV.c (CV.d (DV.lit (Go.Value.int Go.IntKind.i64 v1))))], boxes := ofL Option.none [(3, Option.some [CV.d (DV.lit (Go.Value.string v2)), CV.d (DV.sl 9 v3), CV.d (DV.sl 9 v4), CV.d (DV.sl 9 v5), CV.d (DV.sl 59 v6), CV.d (DV.sl 98 v7), CV.d (DV.sl 103 v8), CV.d (DV.sl 107 v9), CV.d (DV.sl 9 v10)])], objs := ofL Option.none [(1099511640065, Option.none), (1099511640066, Option.none), (1099511640067, Option.none), (1099511640068, Option.none), (1099511640069, Option.none), (1099511640070, Option.none), (1099511640071, Option.none), (1099511640072, Option.none)], fxs := ofL Option.none [(3, Option.none)] : AS II })).run = (r4 v0 v1 v2 v3 v4 v5 v6 v7 v8 v9 v10).map rc_r07_Check.enc) : ∀ (j10 : Nat) (uv0 : Int) (uv1 : Int) (uv2 : Int) (uv3 : ByteArray) (uv4 : List ByteArray) (uv5 : List ByteArray) (uv6 : List ByteArray) (uv7 : List TRec) (uv8 : List TVar) (uv9 : List TRoutine) (uv10 : List TStmt) (uv11 : List ByteArray) (uv12 : List ByteArray) (uv13 : List ByteArray) (uv14 : ByteArray) (uv15 : List TField) (uv16 : List ByteArray), (loopGo EE (sp s) h_r07_Check co_r07_Check [] k Tryz.f10 10 [j4] j10 ({ tmps := ofL AV.any [(0, AV.c (CV.d (DV.lit (Go.Value.int Go.IntKind.i64 uv0)))), (3, AV.c (CV.ptr 3 0)), (5, AV.c (CV.d (DV.lit (Go.Value.int Go.IntKind.i64 uv1)))), (6, AV.c (CV.ptr 6 0)), (7, AV.c (CV.d (DV.lit (Go.Value.int Go.IntKind.i64 uv2))))], boxes := ofL Option.none [(3, Option.some [CV.d (DV.lit (Go.Value.string uv3)), CV.d (DV.sl 9 uv4), CV.d (DV.sl 9 uv5), CV.d (DV.sl 9 uv6), CV.d (DV.sl 59 uv7), CV.d (DV.sl 98 uv8), CV.d (DV.sl 103 uv9), CV.d (DV.sl 107 uv10), CV.d (DV.sl 9 uv11)]), (6, Option.some [CV.d (DV.sl 9 uv12), CV.d (DV.sl 9 uv13), CV.d (DV.lit (Go.Value.string uv14)), CV.d (DV.sl 69 uv15), CV.d (DV.sl 9 uv16)])], objs := ofL Option.none [(1099511640065, Option.none), (1099511640066, Option.none), (1099511640067, Option.none), (1099511640068, Option.none), (1099511640069, Option.none), (1099511640070, Option.none), (1099511640071, Option.none), (1099511640072, Option.none), (1099511652352, Option.none), (1099511652353, Option.none), (1099511652355, Option.none), (1099511652356, Option.none)], fxs := ofL Option.none [(3, Option.none), (6, Option.none)] : AS II })).run = (Lr07_Check_10 s k x0 x1 r4 j10 uv0 uv1 uv2 uv3 uv4 uv5 uv6 uv7 uv8 uv9 uv10 uv11 uv12 uv13 uv14 uv15 uv16).map rc_r07_Check.enc := by
  intro j10
  induction j10 with
  | zero => intros; rfl
  | succ j10 ih =>
    intros
    simp only [Lr07_Check_10, map_ite, map_bindO, map_someO, map_noneO, ← ih, ← h4]
    kernel_rfl
theorem Lr07_Check_4_eq (s : Fam) (k : Nat) (x0 : Int) (x1 : TProgram) : ∀ (j4 : Nat) (v0 : Int) (v1 : Int) (v2 : ByteArray) (v3 : List ByteArray) (v4 : List ByteArray) (v5 : List ByteArray) (v6 : List TRec) (v7 : List TVar) (v8 : List TRoutine) (v9 : List TStmt) (v10 : List ByteArray), (loopGo EE (sp s) h_r07_Check co_r07_Check [] k Tryz.f10 4 [] j4 ({ tmps := ofL AV.any [(0, AV.c (CV.d (DV.lit (Go.Value.int Go.IntKind.i64 v0)))), (3, AV.c (CV.ptr 3 0)), (5, AV.c (CV.d (DV.lit (Go.Value.int Go.IntKind.i64 v1))))], boxes := ofL Option.none [(3, Option.some [CV.d (DV.lit (Go.Value.string v2)), CV.d (DV.sl 9 v3), CV.d (DV.sl 9 v4), CV.d (DV.sl 9 v5), CV.d (DV.sl 59 v6), CV.d (DV.sl 98 v7), CV.d (DV.sl 103 v8), CV.d (DV.sl 107 v9), CV.d (DV.sl 9 v10)])], objs := ofL Option.none [(1099511640065, Option.none), (1099511640066, Option.none), (1099511640067, Option.none), (1099511640068, Option.none), (1099511640069, Option.none), (1099511640070, Option.none), (1099511640071, Option.none), (1099511640072, Option.none)], fxs := ofL Option.none [(3, Option.none)] : AS II })).run = (Lr07_Check_4 s k x0 x1 j4 v0 v1 v2 v3 v4 v5 v6 v7 v8 v9 v10).map rc_r07_Check.enc := by
  intro j4
  induction j4 with
  | zero => intros; rfl
  | succ j4 ih =>
    have q0 := Lr07_Check_10_eq s k x0 x1 j4 (Lr07_Check_4 s k x0 x1 j4) ih
    intros
    simp only [Lr07_Check_4, map_ite, map_bindO, map_someO, map_noneO, ← ih, ← q0]
    kernel_rfl
theorem e_r07_Check (s : Fam) (k : Nat) (x : a_r07_Check) : (evFunC EE (sp s) h_r07_Check co_r07_Check k Tryz.f10 (c_r07_Check.enc x)).run = (B_r07_Check s k x.1 x.2.1).map rc_r07_Check.enc := by
  simp only [B_r07_Check, map_ite, map_bindO, map_someO, map_noneO, ← Lr07_Check_4_eq]
  kernel_rfl
-- 115 nodes
def B_w07_awake (s : Fam) (k : Nat) : Option (Bool) := ((s.f_tree_Rename ({ Name := { data := #[112] : ByteArray }, Before := [], Mid := [], After := [], Recs := [], Vars := [], Routines := [], Body := [], End := [] : TProgram }, [{ Old := { data := #[112] : ByteArray }, New := { data := #[113] : ByteArray } : TPair }], ())).bind fun t1 => ((s.f_tree_Check (0, { Name := { data := #[112] : ByteArray }, Before := [], Mid := [], After := [], Recs := [], Vars := [], Routines := [], Body := [], End := [] : TProgram }, ())).bind fun t2 => (if (t2 == 0) = Bool.true then ((s.f_tree_Names ({ Name := { data := #[112] : ByteArray }, Before := [], Mid := [], After := [], Recs := [], Vars := [], Routines := [], Body := [], End := [] : TProgram }, ())).bind fun t4 => ((s.f_r01_SameTexts (t4, [{ data := #[112] : ByteArray }], ())).bind fun t7 => (if (Bool.true && t7) = Bool.true then ((s.f_tree_Names (t1, ())).bind fun t9 => ((s.f_r01_SameTexts (t9, [{ data := #[113] : ByteArray }], ())).bind fun t12 => (if (Bool.true && t12) = Bool.true then ((s.f_tree_Check (0, { Name := { data := #[98, 101, 103, 105, 110] : ByteArray }, Before := [], Mid := [], After := [], Recs := [], Vars := [], Routines := [], Body := [], End := [] : TProgram }, ())).bind fun t14 => some (Bool.true && t14 == 1)) else some (Bool.false)))) else some (Bool.false)))) else some (Bool.false))))
theorem e_w07_awake (s : Fam) (k : Nat) (x : a_w07_awake) : (evFunC EE (sp s) h_w07_awake co_w07_awake k Tryz.f11 (c_w07_awake.enc x)).run = (B_w07_awake s k).map rc_w07_awake.enc := by
  simp only [B_w07_awake, map_ite, map_bindO, map_someO, map_noneO]
  kernel_rfl
-- 36 nodes
def Lr01_SameTexts_4 (s : Fam) (k : Nat) (x0 : List ByteArray) (x1 : List ByteArray) : Nat → List ByteArray → List ByteArray → Int → Option (Bool)
  | 0, _, _, _ => none
  | j4 + 1, v0, v1, v2 => (if decide (v2 < (↑v0.length : Int)) = Bool.true then (if 0 ≤ v2 then (if v2 < (↑v0.length : Int) then (if 0 ≤ v2 then (if v2 < (↑v1.length : Int) then (if (!(v0.getD v2.toNat { data := #[] : ByteArray }).toList == (v1.getD v2.toNat { data := #[] : ByteArray }).toList) = Bool.true then some (Bool.false) else Lr01_SameTexts_4 s k x0 x1 j4 (v0) (v1) (Go.IntKind.i64.wrap (v2 + 1))) else none) else none) else none) else none) else some (Bool.true))
def B_r01_SameTexts (s : Fam) (k : Nat) (x0 : List ByteArray) (x1 : List ByteArray) : Option (Bool) := (if ((↑x0.length : Int) != (↑x1.length : Int)) = Bool.true then some (Bool.false) else Lr01_SameTexts_4 s k x0 x1 k (x0) (x1) (0))
theorem Lr01_SameTexts_4_eq (s : Fam) (k : Nat) (x0 : List ByteArray) (x1 : List ByteArray) : ∀ (j4 : Nat) (v0 : List ByteArray) (v1 : List ByteArray) (v2 : Int), (loopGo EE (sp s) h_r01_SameTexts co_r01_SameTexts [] k Tryz.f12 4 [] j4 ({ tmps := ofL AV.any [(0, AV.c (CV.d (DV.sl 9 v0))), (1, AV.c (CV.d (DV.sl 9 v1))), (5, AV.c (CV.d (DV.lit (Go.Value.int Go.IntKind.i64 v2))))], boxes := ofL Option.none [], objs := ofL Option.none [], fxs := ofL Option.none [] : AS II })).run = (Lr01_SameTexts_4 s k x0 x1 j4 v0 v1 v2).map rc_r01_SameTexts.enc := by
  intro j4
  induction j4 with
  | zero => intros; rfl
  | succ j4 ih =>
    intros
    simp only [Lr01_SameTexts_4, map_ite, map_bindO, map_someO, map_noneO, ← ih]
    kernel_rfl
theorem e_r01_SameTexts (s : Fam) (k : Nat) (x : a_r01_SameTexts) : (evFunC EE (sp s) h_r01_SameTexts co_r01_SameTexts k Tryz.f12 (c_r01_SameTexts.enc x)).run = (B_r01_SameTexts s k x.1 x.2.1).map rc_r01_SameTexts.enc := by
  simp only [B_r01_SameTexts, map_ite, map_bindO, map_someO, map_noneO, ← Lr01_SameTexts_4_eq]
  kernel_rfl
-- 16 nodes
def Lr07_Names_7 (s : Fam) (k : Nat) (x0 : TProgram) (r3 : Int → ByteArray → List ByteArray → List ByteArray → List ByteArray → List TRec → List TVar → List TRoutine → List TStmt → List ByteArray → List ByteArray → Option (List ByteArray)) : Nat → Int → Int → ByteArray → List ByteArray → List ByteArray → List ByteArray → List TRec → List TVar → List TRoutine → List TStmt → List ByteArray → List ByteArray → Option (List ByteArray)
  | 0, _, _, _, _, _, _, _, _, _, _, _, _ => none
  | j7 + 1, uv0, uv1, uv2, uv3, uv4, uv5, uv6, uv7, uv8, uv9, uv10, uv11 => (if 0 ≤ uv0 then (if uv0 < (↑uv6.length : Int) then (if decide (uv1 < (↑(uv6.getD uv0.toNat dd_TRec).Fields.length : Int)) = Bool.true then (if 0 ≤ uv0 then (if uv0 < (↑uv6.length : Int) then (if 0 ≤ uv1 then (if uv1 < (↑(uv6.getD uv0.toNat dd_TRec).Fields.length : Int) then ((s.f_r07_Parts (((uv6.getD uv0.toNat dd_TRec).Fields.getD uv1.toNat dd_TField).Name, ())).bind fun t16 => (if (uv11 ++ t16).length * 16 ≤ 140737488355328 then Lr07_Names_7 s k x0 r3 j7 (uv0) (Go.IntKind.i64.wrap (uv1 + 1)) (uv2) (uv3) (uv4) (uv5) (uv6) (uv7) (uv8) (uv9) (uv10) (uv11 ++ t16) else none)) else none) else none) else none) else none) else r3 (Go.IntKind.i64.wrap (uv0 + 1)) (uv2) (uv3) (uv4) (uv5) (uv6) (uv7) (uv8) (uv9) (uv10) (uv11)) else none) else none)
def Lr07_Names_15 (s : Fam) (k : Nat) (x0 : TProgram) (r3 : Int → ByteArray → List ByteArray → List ByteArray → List ByteArray → List TRec → List TVar → List TRoutine → List TStmt → List ByteArray → List ByteArray → Option (List ByteArray)) : Nat → Int → List ByteArray → List ByteArray → Option (List ByteArray)
  | 0, _, _, _ => none
  | j15 + 1, uv0, uv1, uv2 => (if decide (uv0 < (↑uv1.length : Int)) = Bool.true then (if 0 ≤ uv0 then (if uv0 < (↑uv1.length : Int) then (if (!(uv1.getD uv0.toNat { data := #[] : ByteArray }).toList == { data := #[] : ByteArray }.toList) = Bool.true then (if 0 ≤ uv0 then (if uv0 < (↑uv1.length : Int) then ((s.f_r04_Among (uv2, uv1.getD uv0.toNat { data := #[] : ByteArray }, ())).bind fun t44 => (if (Bool.true && !t44) = Bool.true then (if 0 ≤ uv0 then (if uv0 < (↑uv1.length : Int) then (if (uv2 ++ [uv1.getD uv0.toNat { data := #[] : ByteArray }]).length * 16 ≤ 140737488355328 then Lr07_Names_15 s k x0 r3 j15 (Go.IntKind.i64.wrap (uv0 + 1)) (uv1) (uv2 ++ [uv1.getD uv0.toNat { data := #[] : ByteArray }]) else none) else none) else none) else Lr07_Names_15 s k x0 r3 j15 (Go.IntKind.i64.wrap (uv0 + 1)) (uv1) (uv2))) else none) else none) else Lr07_Names_15 s k x0 r3 j15 (Go.IntKind.i64.wrap (uv0 + 1)) (uv1) (uv2)) else none) else none) else some (uv2))
def Lr07_Names_3 (s : Fam) (k : Nat) (x0 : TProgram) : Nat → Int → ByteArray → List ByteArray → List ByteArray → List ByteArray → List TRec → List TVar → List TRoutine → List TStmt → List ByteArray → List ByteArray → Option (List ByteArray)
  | 0, _, _, _, _, _, _, _, _, _, _, _ => none
  | j3 + 1, v0, v1, v2, v3, v4, v5, v6, v7, v8, v9, v10 => (if decide (v0 < (↑v5.length : Int)) = Bool.true then (if 0 ≤ v0 then (if v0 < (↑v5.length : Int) then ((s.f_r07_Parts ((v5.getD v0.toNat dd_TRec).Name, ())).bind fun t6 => (if (v10 ++ t6).length * 16 ≤ 140737488355328 then Lr07_Names_7 s k x0 (Lr07_Names_3 s k x0 j3) k (v0) (0) (v1) (v2) (v3) (v4) (v5) (v6) (v7) (v8) (v9) (v10 ++ t6) else none)) else none) else none) else ((s.f_r07_varNames (v6, ())).bind fun t30 => (if (v10 ++ t30).length * 16 ≤ 140737488355328 then ((s.f_r07_routineNames (v7, ())).bind fun t32 => (if (v10 ++ t30 ++ t32).length * 16 ≤ 140737488355328 then ((s.f_r07_stmtNames (v8, ())).bind fun t34 => (if (v10 ++ t30 ++ t32 ++ t34).length * 16 ≤ 140737488355328 then Lr07_Names_15 s k x0 (Lr07_Names_3 s k x0 j3) k (0) (v10 ++ t30 ++ t32 ++ t34) ([]) else none)) else none)) else none)))
def B_r07_Names (s : Fam) (k : Nat) (x0 : TProgram) : Option (List ByteArray) := ((s.f_r07_Parts (x0.Name, ())).bind fun t1 => Lr07_Names_3 s k x0 k (0) (x0.Name) (x0.Before) (x0.Mid) (x0.After) (x0.Recs) (x0.Vars) (x0.Routines) (x0.Body) (x0.End) (t1))
theorem Lr07_Names_7_eq (s : Fam) (k : Nat) (x0 : TProgram) (j3 : Nat) (r3 : Int → ByteArray → List ByteArray → List ByteArray → List ByteArray → List TRec → List TVar → List TRoutine → List TStmt → List ByteArray → List ByteArray → Option (List ByteArray)) (h3 : ∀ (v0 : Int) (v1 : ByteArray) (v2 : List ByteArray) (v3 : List ByteArray) (v4 : List ByteArray) (v5 : List TRec) (v6 : List TVar) (v7 : List TRoutine) (v8 : List TStmt) (v9 : List ByteArray) (v10 : List ByteArray), (loopGo EE (sp s) h_r07_Names co_r07_Names [] k Tryz.f14 3 [] j3 ({ tmps := ofL AV.any [(1, AV.c (CV.ptr 1 0)), (3, AV.c (CV.own 3 0)), (4, AV.c (CV.d (DV.lit (Go.Value.int Go.IntKind.i64 v0))))], boxes := ofL Option.none [(1, Option.some [CV.d (DV.lit (Go.Value.string v1)), CV.d (DV.sl 9 v2), CV.d (DV.sl 9 v3), CV.d (DV.sl 9 v4), CV.d (DV.sl 59 v5), CV.d (DV.sl 98 v6), CV.d (DV.sl 103 v7), CV.d (DV.sl 107 v8), CV.d (DV.sl 9 v9)])], objs := ofL Option.none [(3, Option.some { ver := 0, t := 9, xs := v10 : Obj II }), (1099511631873, Option.none), (1099511631874, Option.none), (1099511631875, Option.none), (1099511631876, Option.none), (1099511631877, Option.none), (1099511631878, Option.none), (1099511631879, Option.none), (1099511631880, Option.none)], fxs := ofL Option.none [(1, Option.none)] : AS II })).run = (r3 v0 v1 v2 v3 v4 v5 v6 v7 v8 v9 v10).map rc_r07_Names.enc) : ∀ (j7 : Nat) (uv0 : Int) (uv1 : Int) (uv2 : ByteArray) (uv3 : List ByteArray) (uv4 : List ByteArray) (uv5 : List ByteArray) (uv6 : List TRec) (uv7 : List TVar) (uv8 : List TRoutine) (uv9 : List TStmt) (uv10 : List ByteArray) (uv11 : List ByteArray), (loopGo EE (sp s) h_r07_Names co_r07_Names [] k Tryz.f14 7 [j3] j7 ({ tmps := ofL AV.any [(1, AV.c (CV.ptr 1 0)), (3, AV.c (CV.own 3 0)), (4, AV.c (CV.d (DV.lit (Go.Value.int Go.IntKind.i64 uv0)))), (5, AV.c (CV.d (DV.lit (Go.Value.int Go.IntKind.i64 uv1))))], boxes := ofL Option.none [(1, Option.some [CV.d (DV.lit (Go.Value.string uv2)), CV.d (DV.sl 9 uv3), CV.d (DV.sl 9 uv4), CV.d (DV.sl 9 uv5), CV.d (DV.sl 59 uv6), CV.d (DV.sl 98 uv7), CV.d (DV.sl 103 uv8), CV.d (DV.sl 107 uv9), CV.d (DV.sl 9 uv10)])], objs := ofL Option.none [(3, Option.some { ver := 0, t := 9, xs := uv11 : Obj II }), (1099511631873, Option.none), (1099511631874, Option.none), (1099511631875, Option.none), (1099511631876, Option.none), (1099511631877, Option.none), (1099511631878, Option.none), (1099511631879, Option.none), (1099511631880, Option.none)], fxs := ofL Option.none [(1, Option.none)] : AS II })).run = (Lr07_Names_7 s k x0 r3 j7 uv0 uv1 uv2 uv3 uv4 uv5 uv6 uv7 uv8 uv9 uv10 uv11).map rc_r07_Names.enc := by
  intro j7
  induction j7 with
  | zero => intros; rfl
  | succ j7 ih =>
    intros
    simp only [Lr07_Names_7, map_ite, map_bindO, map_someO, map_noneO, ← ih, ← h3]
    kernel_rfl
theorem Lr07_Names_15_eq (s : Fam) (k : Nat) (x0 : TProgram) (j3 : Nat) (r3 : Int → ByteArray → List ByteArray → List ByteArray → List ByteArray → List TRec → List TVar → List TRoutine → List TStmt → List ByteArray → List ByteArray → Option (List ByteArray)) (h3 : ∀ (v0 : Int) (v1 : ByteArray) (v2 : List ByteArray) (v3 : List ByteArray) (v4 : List ByteArray) (v5 : List TRec) (v6 : List TVar) (v7 : List TRoutine) (v8 : List TStmt) (v9 : List ByteArray) (v10 : List ByteArray), (loopGo EE (sp s) h_r07_Names co_r07_Names [] k Tryz.f14 3 [] j3 ({ tmps := ofL AV.any [(1, AV.c (CV.ptr 1 0)), (3, AV.c (CV.own 3 0)), (4, AV.c (CV.d (DV.lit (Go.Value.int Go.IntKind.i64 v0))))], boxes := ofL Option.none [(1, Option.some [CV.d (DV.lit (Go.Value.string v1)), CV.d (DV.sl 9 v2), CV.d (DV.sl 9 v3), CV.d (DV.sl 9 v4), CV.d (DV.sl 59 v5), CV.d (DV.sl 98 v6), CV.d (DV.sl 103 v7), CV.d (DV.sl 107 v8), CV.d (DV.sl 9 v9)])], objs := ofL Option.none [(3, Option.some { ver := 0, t := 9, xs := v10 : Obj II }), (1099511631873, Option.none), (1099511631874, Option.none), (1099511631875, Option.none), (1099511631876, Option.none), (1099511631877, Option.none), (1099511631878, Option.none), (1099511631879, Option.none), (1099511631880, Option.none)], fxs := ofL Option.none [(1, Option.none)] : AS II })).run = (r3 v0 v1 v2 v3 v4 v5 v6 v7 v8 v9 v10).map rc_r07_Names.enc) : ∀ (j15 : Nat) (uv0 : Int) (uv1 : List ByteArray) (uv2 : List ByteArray), (loopGo EE (sp s) h_r07_Names co_r07_Names [] k Tryz.f14 15 [j3] j15 ({ tmps := ofL AV.any [(3, AV.c (CV.own 3 0)), (6, AV.c (CV.own 6 0)), (7, AV.c (CV.d (DV.lit (Go.Value.int Go.IntKind.i64 uv0))))], boxes := ofL Option.none [], objs := ofL Option.none [(3, Option.some { ver := 0, t := 9, xs := uv1 : Obj II }), (6, Option.some { ver := 0, t := 9, xs := uv2 : Obj II })], fxs := ofL Option.none [] : AS II })).run = (Lr07_Names_15 s k x0 r3 j15 uv0 uv1 uv2).map rc_r07_Names.enc := by
  intro j15
  induction j15 with
  | zero => intros; rfl
  | succ j15 ih =>
    intros
    simp only [Lr07_Names_15, map_ite, map_bindO, map_someO, map_noneO, ← ih, ← h3]
    kernel_rfl
theorem Lr07_Names_3_eq (s : Fam) (k : Nat) (x0 : TProgram) : ∀ (j3 : Nat) (v0 : Int) (v1 : ByteArray) (v2 : List ByteArray) (v3 : List ByteArray) (v4 : List ByteArray) (v5 : List TRec) (v6 : List TVar) (v7 : List TRoutine) (v8 : List TStmt) (v9 : List ByteArray) (v10 : List ByteArray), (loopGo EE (sp s) h_r07_Names co_r07_Names [] k Tryz.f14 3 [] j3 ({ tmps := ofL AV.any [(1, AV.c (CV.ptr 1 0)), (3, AV.c (CV.own 3 0)), (4, AV.c (CV.d (DV.lit (Go.Value.int Go.IntKind.i64 v0))))], boxes := ofL Option.none [(1, Option.some [CV.d (DV.lit (Go.Value.string v1)), CV.d (DV.sl 9 v2), CV.d (DV.sl 9 v3), CV.d (DV.sl 9 v4), CV.d (DV.sl 59 v5), CV.d (DV.sl 98 v6), CV.d (DV.sl 103 v7), CV.d (DV.sl 107 v8), CV.d (DV.sl 9 v9)])], objs := ofL Option.none [(3, Option.some { ver := 0, t := 9, xs := v10 : Obj II }), (1099511631873, Option.none), (1099511631874, Option.none), (1099511631875, Option.none), (1099511631876, Option.none), (1099511631877, Option.none), (1099511631878, Option.none), (1099511631879, Option.none), (1099511631880, Option.none)], fxs := ofL Option.none [(1, Option.none)] : AS II })).run = (Lr07_Names_3 s k x0 j3 v0 v1 v2 v3 v4 v5 v6 v7 v8 v9 v10).map rc_r07_Names.enc := by
  intro j3
  induction j3 with
  | zero => intros; rfl
  | succ j3 ih =>
    have q0 := Lr07_Names_7_eq s k x0 j3 (Lr07_Names_3 s k x0 j3) ih
    have q1 := Lr07_Names_15_eq s k x0 j3 (Lr07_Names_3 s k x0 j3) ih
    intros
    simp only [Lr07_Names_3, map_ite, map_bindO, map_someO, map_noneO, ← ih, ← q0, ← q1]
    kernel_rfl
theorem e_r07_Names (s : Fam) (k : Nat) (x : a_r07_Names) : (evFunC EE (sp s) h_r07_Names co_r07_Names k Tryz.f14 (c_r07_Names.enc x)).run = (B_r07_Names s k x.1).map rc_r07_Names.enc := by
  simp only [B_r07_Names, map_ite, map_bindO, map_someO, map_noneO, ← Lr07_Names_3_eq]
  kernel_rfl
-- 67 nodes
def B_r01_Digits (s : Fam) (k : Nat) (x0 : Int) : Option (ByteArray) := (if decide (x0 < 0) = Bool.true then ((s.f_r01_long (Go.IntKind.u64.wrap (0 - Go.IntKind.u64.wrap x0), ())).bind fun t2 => (if (↑({ data := #[45] : ByteArray }.size + ByteArray.size t2) : Int) > Go.IntKind.i64.max then none else some ({ data := #[45] : ByteArray } ++ t2))) else ((s.f_r01_long (Go.IntKind.u64.wrap x0, ())).bind fun t6 => some (t6)))
theorem e_r01_Digits (s : Fam) (k : Nat) (x : a_r01_Digits) : (evFunC EE (sp s) h_r01_Digits co_r01_Digits k Tryz.f15 (c_r01_Digits.enc x)).run = (B_r01_Digits s k x.1).map rc_r01_Digits.enc := by
  simp only [B_r01_Digits, map_ite, map_bindO, map_someO, map_noneO]
  kernel_rfl
-- 7 nodes
def Lr07_Same_10 (s : Fam) (k : Nat) (x0 : TProgram) (x1 : TProgram) (r4 : Int → ByteArray → List ByteArray → List ByteArray → List ByteArray → List TRec → List TVar → List TRoutine → List TStmt → List ByteArray → ByteArray → List ByteArray → List ByteArray → List ByteArray → List TRec → List TVar → List TRoutine → List TStmt → List ByteArray → Option (Bool)) : Nat → Int → Int → ByteArray → List ByteArray → List ByteArray → List ByteArray → List TRec → List TVar → List TRoutine → List TStmt → List ByteArray → ByteArray → List ByteArray → List ByteArray → List ByteArray → List TRec → List TVar → List TRoutine → List TStmt → List ByteArray → List ByteArray → List ByteArray → ByteArray → List TField → List ByteArray → List ByteArray → List ByteArray → ByteArray → List TField → List ByteArray → Option (Bool)
  | 0, _, _, _, _, _, _, _, _, _, _, _, _, _, _, _, _, _, _, _, _, _, _, _, _, _, _, _, _, _, _ => none
  | j10 + 1, uv0, uv1, uv2, uv3, uv4, uv5, uv6, uv7, uv8, uv9, uv10, uv11, uv12, uv13, uv14, uv15, uv16, uv17, uv18, uv19, uv20, uv21, uv22, uv23, uv24, uv25, uv26, uv27, uv28, uv29 => (if decide (uv1 < (↑uv23.length : Int)) = Bool.true then (if 0 ≤ uv1 then (if uv1 < (↑uv23.length : Int) then (if 0 ≤ uv1 then (if uv1 < (↑uv28.length : Int) then ((s.f_r07_sameMarks ((uv23.getD uv1.toNat dd_TField).sub_Marks, (uv28.getD uv1.toNat dd_TField).sub_Marks, ())).bind fun t28 => (if (!t28) = Bool.false then (if 0 ≤ uv1 then (if uv1 < (↑uv23.length : Int) then (if 0 ≤ uv1 then (if uv1 < (↑uv28.length : Int) then (if (Bool.false || !(uv23.getD uv1.toNat dd_TField).Name.toList == (uv28.getD uv1.toNat dd_TField).Name.toList) = Bool.false then (if 0 ≤ uv1 then (if uv1 < (↑uv23.length : Int) then (if 0 ≤ uv1 then (if uv1 < (↑uv28.length : Int) then (if (Bool.false || (uv23.getD uv1.toNat dd_TField).Kind != (uv28.getD uv1.toNat dd_TField).Kind) = Bool.true then some (Bool.false) else Lr07_Same_10 s k x0 x1 r4 j10 (uv0) (Go.IntKind.i64.wrap (uv1 + 1)) (uv2) (uv3) (uv4) (uv5) (uv6) (uv7) (uv8) (uv9) (uv10) (uv11) (uv12) (uv13) (uv14) (uv15) (uv16) (uv17) (uv18) (uv19) (uv20) (uv21) (uv22) (uv23) (uv24) (uv25) (uv26) (uv27) (uv28) (uv29)) else none) else none) else none) else none) else some (Bool.false)) else none) else none) else none) else none) else some (Bool.false))) else none) else none) else none) else none) else r4 (Go.IntKind.i64.wrap (uv0 + 1)) (uv2) (uv3) (uv4) (uv5) (uv6) (uv7) (uv8) (uv9) (uv10) (uv11) (uv12) (uv13) (uv14) (uv15) (uv16) (uv17) (uv18) (uv19))
def Lr07_Same_4 (s : Fam) (k : Nat) (x0 : TProgram) (x1 : TProgram) : Nat → Int → ByteArray → List ByteArray → List ByteArray → List ByteArray → List TRec → List TVar → List TRoutine → List TStmt → List ByteArray → ByteArray → List ByteArray → List ByteArray → List ByteArray → List TRec → List TVar → List TRoutine → List TStmt → List ByteArray → Option (Bool)
  | 0, _, _, _, _, _, _, _, _, _, _, _, _, _, _, _, _, _, _, _ => none
  | j4 + 1, v0, v1, v2, v3, v4, v5, v6, v7, v8, v9, v10, v11, v12, v13, v14, v15, v16, v17, v18 => (if decide (v0 < (↑v5.length : Int)) = Bool.true then (if 0 ≤ v0 then (if v0 < (↑v5.length : Int) then (if 0 ≤ v0 then (if v0 < (↑v14.length : Int) then ((s.f_r07_sameMarks ((v5.getD v0.toNat dd_TRec).sub_Marks, (v14.getD v0.toNat dd_TRec).sub_Marks, ())).bind fun t17 => (if (!t17 || !(v5.getD v0.toNat dd_TRec).Name.toList == (v14.getD v0.toNat dd_TRec).Name.toList) = Bool.false then ((s.f_r01_SameTexts ((v5.getD v0.toNat dd_TRec).End, (v14.getD v0.toNat dd_TRec).End, ())).bind fun t19 => (if (Bool.false || !t19 || (↑(v5.getD v0.toNat dd_TRec).Fields.length : Int) != (↑(v14.getD v0.toNat dd_TRec).Fields.length : Int)) = Bool.true then some (Bool.false) else Lr07_Same_10 s k x0 x1 (Lr07_Same_4 s k x0 x1 j4) k (v0) (0) (v1) (v2) (v3) (v4) (v5) (v6) (v7) (v8) (v9) (v10) (v11) (v12) (v13) (v14) (v15) (v16) (v17) (v18) ((v5.getD v0.toNat dd_TRec).Marks_Before) ((v5.getD v0.toNat dd_TRec).Marks_Trail) ((v5.getD v0.toNat dd_TRec).Name) ((v5.getD v0.toNat dd_TRec).Fields) ((v5.getD v0.toNat dd_TRec).End) ((v14.getD v0.toNat dd_TRec).Marks_Before) ((v14.getD v0.toNat dd_TRec).Marks_Trail) ((v14.getD v0.toNat dd_TRec).Name) ((v14.getD v0.toNat dd_TRec).Fields) ((v14.getD v0.toNat dd_TRec).End))) else some (Bool.false))) else none) else none) else none) else none) else ((s.f_r07_sameVars (v6, v15, ())).bind fun t91 => (if t91 = Bool.true then ((s.f_r07_SameRoutines (v7, v16, ())).bind fun t93 => (if (Bool.true && t93) = Bool.true then ((s.f_r07_SameStmts (v8, v17, ())).bind fun t95 => some (Bool.true && t95)) else some (Bool.false))) else some (Bool.false))))
def B_r07_Same (s : Fam) (k : Nat) (x0 : TProgram) (x1 : TProgram) : Option (Bool) := (if (!x0.Name.toList == x1.Name.toList) = Bool.false then ((s.f_r01_SameTexts (x0.Before, x1.Before, ())).bind fun t2 => (if (Bool.false || !t2) = Bool.false then ((s.f_r01_SameTexts (x0.Mid, x1.Mid, ())).bind fun t4 => (if (Bool.false || !t4) = Bool.false then ((s.f_r01_SameTexts (x0.After, x1.After, ())).bind fun t6 => (if (Bool.false || !t6) = Bool.false then ((s.f_r01_SameTexts (x0.End, x1.End, ())).bind fun t8 => (if (Bool.false || !t8 || (↑x0.Recs.length : Int) != (↑x1.Recs.length : Int)) = Bool.true then some (Bool.false) else Lr07_Same_4 s k x0 x1 k (0) (x0.Name) (x0.Before) (x0.Mid) (x0.After) (x0.Recs) (x0.Vars) (x0.Routines) (x0.Body) (x0.End) (x1.Name) (x1.Before) (x1.Mid) (x1.After) (x1.Recs) (x1.Vars) (x1.Routines) (x1.Body) (x1.End))) else some (Bool.false))) else some (Bool.false))) else some (Bool.false))) else some (Bool.false))
theorem Lr07_Same_10_eq (s : Fam) (k : Nat) (x0 : TProgram) (x1 : TProgram) (j4 : Nat) (r4 : Int → ByteArray → List ByteArray → List ByteArray → List ByteArray → List TRec → List TVar → List TRoutine → List TStmt → List ByteArray → ByteArray → List ByteArray → List ByteArray → List ByteArray → List TRec → List TVar → List TRoutine → List TStmt → List ByteArray → Option (Bool)) (h4 : ∀ (v0 : Int) (v1 : ByteArray) (v2 : List ByteArray) (v3 : List ByteArray) (v4 : List ByteArray) (v5 : List TRec) (v6 : List TVar) (v7 : List TRoutine) (v8 : List TStmt) (v9 : List ByteArray) (v10 : ByteArray) (v11 : List ByteArray) (v12 : List ByteArray) (v13 : List ByteArray) (v14 : List TRec) (v15 : List TVar) (v16 : List TRoutine) (v17 : List TStmt) (v18 : List ByteArray), (loopGo EE (sp s) h_r07_Same co_r07_Same [] k Tryz.f17 4 [] j4 ({ tmps := ofL AV.any [(2, AV.c (CV.ptr 2 0)), (3, AV.c (CV.ptr 3 0)), (5, AV.c (CV.d (DV.lit (Go.Value.int Go.IntKind.i64 v0))))], boxes := ofL Option.none [(2, Option.some [CV.d (DV.lit (Go.Value.string v1)), CV.d (DV.sl 9 v2), CV.d (DV.sl 9 v3), CV.d (DV.sl 9 v4), CV.d (DV.sl 59 v5), CV.d (DV.sl 98 v6), CV.d (DV.sl 103 v7), CV.d (DV.sl 107 v8), CV.d (DV.sl 9 v9)]), (3, Option.some [CV.d (DV.lit (Go.Value.string v10)), CV.d (DV.sl 9 v11), CV.d (DV.sl 9 v12), CV.d (DV.sl 9 v13), CV.d (DV.sl 59 v14), CV.d (DV.sl 98 v15), CV.d (DV.sl 103 v16), CV.d (DV.sl 107 v17), CV.d (DV.sl 9 v18)])], objs := ofL Option.none [(1099511635969, Option.none), (1099511635970, Option.none), (1099511635971, Option.none), (1099511635972, Option.none), (1099511635973, Option.none), (1099511635974, Option.none), (1099511635975, Option.none), (1099511635976, Option.none), (1099511640065, Option.none), (1099511640066, Option.none), (1099511640067, Option.none), (1099511640068, Option.none), (1099511640069, Option.none), (1099511640070, Option.none), (1099511640071, Option.none), (1099511640072, Option.none)], fxs := ofL Option.none [(2, Option.none), (3, Option.none)] : AS II })).run = (r4 v0 v1 v2 v3 v4 v5 v6 v7 v8 v9 v10 v11 v12 v13 v14 v15 v16 v17 v18).map rc_r07_Same.enc) : ∀ (j10 : Nat) (uv0 : Int) (uv1 : Int) (uv2 : ByteArray) (uv3 : List ByteArray) (uv4 : List ByteArray) (uv5 : List ByteArray) (uv6 : List TRec) (uv7 : List TVar) (uv8 : List TRoutine) (uv9 : List TStmt) (uv10 : List ByteArray) (uv11 : ByteArray) (uv12 : List ByteArray) (uv13 : List ByteArray) (uv14 : List ByteArray) (uv15 : List TRec) (uv16 : List TVar) (uv17 : List TRoutine) (uv18 : List TStmt) (uv19 : List ByteArray) (uv20 : List ByteArray) (uv21 : List ByteArray) (uv22 : ByteArray) (uv23 : List TField) (uv24 : List ByteArray) (uv25 : List ByteArray) (uv26 : List ByteArray) (uv27 : ByteArray) (uv28 : List TField) (uv29 : List ByteArray), (loopGo EE (sp s) h_r07_Same co_r07_Same [] k Tryz.f17 10 [j4] j10 ({ tmps := ofL AV.any [(2, AV.c (CV.ptr 2 0)), (3, AV.c (CV.ptr 3 0)), (5, AV.c (CV.d (DV.lit (Go.Value.int Go.IntKind.i64 uv0)))), (6, AV.c (CV.ptr 6 0)), (7, AV.c (CV.ptr 7 0)), (8, AV.c (CV.d (DV.lit (Go.Value.int Go.IntKind.i64 uv1))))], boxes := ofL Option.none [(2, Option.some [CV.d (DV.lit (Go.Value.string uv2)), CV.d (DV.sl 9 uv3), CV.d (DV.sl 9 uv4), CV.d (DV.sl 9 uv5), CV.d (DV.sl 59 uv6), CV.d (DV.sl 98 uv7), CV.d (DV.sl 103 uv8), CV.d (DV.sl 107 uv9), CV.d (DV.sl 9 uv10)]), (3, Option.some [CV.d (DV.lit (Go.Value.string uv11)), CV.d (DV.sl 9 uv12), CV.d (DV.sl 9 uv13), CV.d (DV.sl 9 uv14), CV.d (DV.sl 59 uv15), CV.d (DV.sl 98 uv16), CV.d (DV.sl 103 uv17), CV.d (DV.sl 107 uv18), CV.d (DV.sl 9 uv19)]), (6, Option.some [CV.d (DV.sl 9 uv20), CV.d (DV.sl 9 uv21), CV.d (DV.lit (Go.Value.string uv22)), CV.d (DV.sl 69 uv23), CV.d (DV.sl 9 uv24)]), (7, Option.some [CV.d (DV.sl 9 uv25), CV.d (DV.sl 9 uv26), CV.d (DV.lit (Go.Value.string uv27)), CV.d (DV.sl 69 uv28), CV.d (DV.sl 9 uv29)])], objs := ofL Option.none [(1099511635969, Option.none), (1099511635970, Option.none), (1099511635971, Option.none), (1099511635972, Option.none), (1099511635973, Option.none), (1099511635974, Option.none), (1099511635975, Option.none), (1099511635976, Option.none), (1099511640065, Option.none), (1099511640066, Option.none), (1099511640067, Option.none), (1099511640068, Option.none), (1099511640069, Option.none), (1099511640070, Option.none), (1099511640071, Option.none), (1099511640072, Option.none), (1099511652352, Option.none), (1099511652353, Option.none), (1099511652355, Option.none), (1099511652356, Option.none), (1099511656448, Option.none), (1099511656449, Option.none), (1099511656451, Option.none), (1099511656452, Option.none)], fxs := ofL Option.none [(2, Option.none), (3, Option.none), (6, Option.none), (7, Option.none)] : AS II })).run = (Lr07_Same_10 s k x0 x1 r4 j10 uv0 uv1 uv2 uv3 uv4 uv5 uv6 uv7 uv8 uv9 uv10 uv11 uv12 uv13 uv14 uv15 uv16 uv17 uv18 uv19 uv20 uv21 uv22 uv23 uv24 uv25 uv26 uv27 uv28 uv29).map rc_r07_Same.enc := by
  intro j10
  induction j10 with
  | zero => intros; rfl
  | succ j10 ih =>
    intros
    simp only [Lr07_Same_10, map_ite, map_bindO, map_someO, map_noneO, ← ih, ← h4]
    kernel_rfl
theorem Lr07_Same_4_eq (s : Fam) (k : Nat) (x0 : TProgram) (x1 : TProgram) : ∀ (j4 : Nat) (v0 : Int) (v1 : ByteArray) (v2 : List ByteArray) (v3 : List ByteArray) (v4 : List ByteArray) (v5 : List TRec) (v6 : List TVar) (v7 : List TRoutine) (v8 : List TStmt) (v9 : List ByteArray) (v10 : ByteArray) (v11 : List ByteArray) (v12 : List ByteArray) (v13 : List ByteArray) (v14 : List TRec) (v15 : List TVar) (v16 : List TRoutine) (v17 : List TStmt) (v18 : List ByteArray), (loopGo EE (sp s) h_r07_Same co_r07_Same [] k Tryz.f17 4 [] j4 ({ tmps := ofL AV.any [(2, AV.c (CV.ptr 2 0)), (3, AV.c (CV.ptr 3 0)), (5, AV.c (CV.d (DV.lit (Go.Value.int Go.IntKind.i64 v0))))], boxes := ofL Option.none [(2, Option.some [CV.d (DV.lit (Go.Value.string v1)), CV.d (DV.sl 9 v2), CV.d (DV.sl 9 v3), CV.d (DV.sl 9 v4), CV.d (DV.sl 59 v5), CV.d (DV.sl 98 v6), CV.d (DV.sl 103 v7), CV.d (DV.sl 107 v8), CV.d (DV.sl 9 v9)]), (3, Option.some [CV.d (DV.lit (Go.Value.string v10)), CV.d (DV.sl 9 v11), CV.d (DV.sl 9 v12), CV.d (DV.sl 9 v13), CV.d (DV.sl 59 v14), CV.d (DV.sl 98 v15), CV.d (DV.sl 103 v16), CV.d (DV.sl 107 v17), CV.d (DV.sl 9 v18)])], objs := ofL Option.none [(1099511635969, Option.none), (1099511635970, Option.none), (1099511635971, Option.none), (1099511635972, Option.none), (1099511635973, Option.none), (1099511635974, Option.none), (1099511635975, Option.none), (1099511635976, Option.none), (1099511640065, Option.none), (1099511640066, Option.none), (1099511640067, Option.none), (1099511640068, Option.none), (1099511640069, Option.none), (1099511640070, Option.none), (1099511640071, Option.none), (1099511640072, Option.none)], fxs := ofL Option.none [(2, Option.none), (3, Option.none)] : AS II })).run = (Lr07_Same_4 s k x0 x1 j4 v0 v1 v2 v3 v4 v5 v6 v7 v8 v9 v10 v11 v12 v13 v14 v15 v16 v17 v18).map rc_r07_Same.enc := by
  intro j4
  induction j4 with
  | zero => intros; rfl
  | succ j4 ih =>
    have q0 := Lr07_Same_10_eq s k x0 x1 j4 (Lr07_Same_4 s k x0 x1 j4) ih
    intros
    simp only [Lr07_Same_4, map_ite, map_bindO, map_someO, map_noneO, ← ih, ← q0]
    kernel_rfl
theorem e_r07_Same (s : Fam) (k : Nat) (x : a_r07_Same) : (evFunC EE (sp s) h_r07_Same co_r07_Same k Tryz.f17 (c_r07_Same.enc x)).run = (B_r07_Same s k x.1 x.2.1).map rc_r07_Same.enc := by
  simp only [B_r07_Same, map_ite, map_bindO, map_someO, map_noneO, ← Lr07_Same_4_eq]
  kernel_rfl
-- 136 nodes
def B_tree_CheckExpr (s : Fam) (k : Nat) (x0 : Int) (x1 : TExpr) : Option (Int) := (if (x0 != 0 && x0 != 1) = Bool.false then ((s.f_tree_checker_expr ({ dialect := x0 : Ttree_checker }, x1.re, ())).bind fun t2 => (if (Bool.false || t2 == 0) = Bool.true then some (1) else some (0))) else some (1))
theorem e_tree_CheckExpr (s : Fam) (k : Nat) (x : a_tree_CheckExpr) : (evFunC EE (sp s) h_tree_CheckExpr co_tree_CheckExpr k Tryz.f18 (c_tree_CheckExpr.enc x)).run = (B_tree_CheckExpr s k x.1 x.2.1).map rc_tree_CheckExpr.enc := by
  simp only [B_tree_CheckExpr, map_ite, map_bindO, map_someO, map_noneO]
  kernel_rfl
-- 9 nodes
def B_r07_Expr (s : Fam) (k : Nat) (x0 : Int) (x1 : TExpr) : Option (Bool) := (if (x0 != 0 && x0 != 1) = Bool.true then some (Bool.false) else ((s.f_r07_form (x0, x1.re, 48, ())).bind fun t3 => (if t3 = Bool.true then ((s.f_r07_Deep (x1.re, 99, ())).bind fun t5 => some (Bool.true && decide (t5 ≤ 48))) else some (Bool.false))))
theorem e_r07_Expr (s : Fam) (k : Nat) (x : a_r07_Expr) : (evFunC EE (sp s) h_r07_Expr co_r07_Expr k Tryz.f19 (c_r07_Expr.enc x)).run = (B_r07_Expr s k x.1 x.2.1).map rc_r07_Expr.enc := by
  simp only [B_r07_Expr, map_ite, map_bindO, map_someO, map_noneO]
  kernel_rfl
-- 9 nodes
def B_tree_Same (s : Fam) (k : Nat) (x0 : TProgram) (x1 : TProgram) : Option (Bool) := (if (x0.Name.toList == x1.Name.toList) = Bool.true then ((s.f_slices_Equal_string (x0.Before, x1.Before, ())).bind fun t2 => (if (Bool.true && t2) = Bool.true then ((s.f_slices_Equal_string (x0.Mid, x1.Mid, ())).bind fun t4 => (if (Bool.true && t4) = Bool.true then ((s.f_slices_Equal_string (x0.After, x1.After, ())).bind fun t6 => (if (Bool.true && t6) = Bool.true then ((s.f_slices_EqualFunc_Rec (x0.Recs, x1.Recs, ((), ()), ())).bind fun t8 => (if (Bool.true && t8) = Bool.true then ((s.f_slices_EqualFunc_Var (x0.Vars, x1.Vars, ((), ()), ())).bind fun t10 => (if (Bool.true && t10) = Bool.true then ((s.f_slices_EqualFunc_Routine (x0.Routines, x1.Routines, ((), ()), ())).bind fun t12 => (if (Bool.true && t12) = Bool.true then ((s.f_slices_EqualFunc_Stmt (x0.Body, x1.Body, ((), ()), ())).bind fun t14 => (if (Bool.true && t14) = Bool.true then ((s.f_slices_Equal_string (x0.End, x1.End, ())).bind fun t16 => some (Bool.true && t16)) else some (Bool.false))) else some (Bool.false))) else some (Bool.false))) else some (Bool.false))) else some (Bool.false))) else some (Bool.false))) else some (Bool.false))) else some (Bool.false))
theorem e_tree_Same (s : Fam) (k : Nat) (x : a_tree_Same) : (evFunC EE (sp s) h_tree_Same co_tree_Same k Tryz.f20 (c_tree_Same.enc x)).run = (B_tree_Same s k x.1 x.2.1).map rc_tree_Same.enc := by
  simp only [B_tree_Same, map_ite, map_bindO, map_someO, map_noneO]
  kernel_rfl
-- 89 nodes
def B_tree_SameExpr (s : Fam) (k : Nat) (x0 : TExpr) (x1 : TExpr) : Option (Bool) := (if (x0.Op == x1.Op && x0.N == x1.N && x0.Name.toList == x1.Name.toList && x0.Field.toList == x1.Field.toList) = Bool.true then ((s.f_slices_EqualFunc_Expr (x0.L, x1.L, ((), ()), ())).bind fun t2 => some (Bool.true && t2)) else some (Bool.false))
theorem e_tree_SameExpr (s : Fam) (k : Nat) (x : a_tree_SameExpr) : (evFunC EE (sp s) h_tree_SameExpr co_tree_SameExpr k Tryz.f21 (c_tree_SameExpr.enc x)).run = (B_tree_SameExpr s k x.1 x.2.1).map rc_tree_SameExpr.enc := by
  simp only [B_tree_SameExpr, map_ite, map_bindO, map_someO, map_noneO]
  kernel_rfl
-- 5 nodes
def B_r07_SameExpr (s : Fam) (k : Nat) (x0 : TExpr) (x1 : TExpr) : Option (Bool) := (if (x0.Op == x1.Op && x0.N == x1.N && x0.Name.toList == x1.Name.toList && x0.Field.toList == x1.Field.toList) = Bool.true then ((s.f_r07_SameExprs (x0.L, x1.L, ())).bind fun t2 => some (Bool.true && t2)) else some (Bool.false))
theorem e_r07_SameExpr (s : Fam) (k : Nat) (x : a_r07_SameExpr) : (evFunC EE (sp s) h_r07_SameExpr co_r07_SameExpr k Tryz.f22 (c_r07_SameExpr.enc x)).run = (B_r07_SameExpr s k x.1 x.2.1).map rc_r07_SameExpr.enc := by
  simp only [B_r07_SameExpr, map_ite, map_bindO, map_someO, map_noneO]
  kernel_rfl
-- 5 nodes
def B_tree_checker_name (s : Fam) (k : Nat) (x0 : Ttree_checker) (x1 : ByteArray) : Option (Bool) := ((s.f_words_Check (x1, ())).bind fun t1 => (if (t1 == 0) = Bool.true then ((s.f_words_Is (x0.dialect, x1, ())).bind fun t3 => some (Bool.true && !t3)) else some (Bool.false)))
theorem e_tree_checker_name (s : Fam) (k : Nat) (x : a_tree_checker_name) : (evFunC EE (sp s) h_tree_checker_name co_tree_checker_name k Tryz.f23 (c_tree_checker_name.enc x)).run = (B_tree_checker_name s k x.1 x.2.1).map rc_tree_checker_name.enc := by
  simp only [B_tree_checker_name, map_ite, map_bindO, map_someO, map_noneO]
  kernel_rfl
-- 7 nodes
end Go.Ev
end
section
open Go Go.Proofs
namespace Go.Ev
set_option linter.unusedVariables false
set_option linter.unusedSimpArgs false
set_option maxHeartbeats 4000000
set_option maxRecDepth 100000
def Ltree_notes_7 (s : Fam) (k : Nat) (x0 : List (List ByteArray)) (r2 : List (List ByteArray) → Int → Int → Option (Bool)) : Nat → List (List ByteArray) → Int → Int → II 22 → Int → Int → Option (Bool)
  | 0, _, _, _, _, _, _ => none
  | j7 + 1, uv0, uv1, uv2, uv3, uv4, uv5 => (if decide (uv5 < uv4) = Bool.true then (if 0 ≤ uv5 then (if uv5 < (↑(List.length uv3) : Int) then ((s.f_note_Print (0, List.getD uv3 uv5.toNat { data := #[] : ByteArray }, ())).bind fun t12 => (if (t12.snd.fst != 0) = Bool.true then some (Bool.false) else Ltree_notes_7 s k x0 r2 j7 (uv0) (uv1) (uv2) (uv3) (uv4) (Go.IntKind.i64.wrap (uv5 + 1)))) else none) else none) else r2 (uv0) (uv1) (Go.IntKind.i64.wrap (uv2 + 1)))
def Ltree_notes_2 (s : Fam) (k : Nat) (x0 : List (List ByteArray)) : Nat → List (List ByteArray) → Int → Int → Option (Bool)
  | 0, _, _, _ => none
  | j2 + 1, v0, v1, v2 => (if decide (v2 < v1) = Bool.true then (if 0 ≤ v2 then (if v2 < (↑v0.length : Int) then ((s.f_tree_few_string (v0.getD v2.toNat [], ())).bind fun t5 => (if (!t5) = Bool.true then some (Bool.false) else Ltree_notes_7 s k x0 (Ltree_notes_2 s k x0 j2) k (v0) (v1) (v2) (v0.getD v2.toNat []) ((↑(v0.getD v2.toNat []).length : Int)) (0))) else none) else none) else some (Bool.true))
def B_tree_notes (s : Fam) (k : Nat) (x0 : List (List ByteArray)) : Option (Bool) := Ltree_notes_2 s k x0 k (x0) ((↑x0.length : Int)) (0)
theorem Ltree_notes_7_eq (s : Fam) (k : Nat) (x0 : List (List ByteArray)) (j2 : Nat) (r2 : List (List ByteArray) → Int → Int → Option (Bool)) (h2 : ∀ (v0 : List (List ByteArray)) (v1 : Int) (v2 : Int), (loopGo EE (sp s) h_tree_notes co_tree_notes [] k Tryz.f24 2 [] j2 ({ tmps := ofL AV.any [(9, AV.c (CV.d (DV.sl 22 v0))), (10, AV.c (CV.d (DV.lit (Go.Value.int Go.IntKind.i64 v1)))), (11, AV.c (CV.d (DV.lit (Go.Value.int Go.IntKind.i64 v2))))], boxes := ofL Option.none [], objs := ofL Option.none [(9, Option.none)], fxs := ofL Option.none [] : AS II })).run = (r2 v0 v1 v2).map rc_tree_notes.enc) : ∀ (j7 : Nat) (uv0 : List (List ByteArray)) (uv1 : Int) (uv2 : Int) (uv3 : II 22) (uv4 : Int) (uv5 : Int), (loopGo EE (sp s) h_tree_notes co_tree_notes [] k Tryz.f24 7 [j2] j7 ({ tmps := ofL AV.any [(9, AV.c (CV.d (DV.sl 22 uv0))), (10, AV.c (CV.d (DV.lit (Go.Value.int Go.IntKind.i64 uv1)))), (11, AV.c (CV.d (DV.lit (Go.Value.int Go.IntKind.i64 uv2)))), (18, AV.c (CV.d (DV.sl 9 uv3))), (19, AV.c (CV.d (DV.lit (Go.Value.int Go.IntKind.i64 uv4)))), (20, AV.c (CV.d (DV.lit (Go.Value.int Go.IntKind.i64 uv5))))], boxes := ofL Option.none [], objs := ofL Option.none [(9, Option.none), (18, Option.none)], fxs := ofL Option.none [] : AS II })).run = (Ltree_notes_7 s k x0 r2 j7 uv0 uv1 uv2 uv3 uv4 uv5).map rc_tree_notes.enc := by
  intro j7
  induction j7 with
  | zero => intros; rfl
  | succ j7 ih =>
    intros
    simp only [Ltree_notes_7, map_ite, map_bindO, map_someO, map_noneO, ← ih, ← h2]
    kernel_rfl
theorem Ltree_notes_2_eq (s : Fam) (k : Nat) (x0 : List (List ByteArray)) : ∀ (j2 : Nat) (v0 : List (List ByteArray)) (v1 : Int) (v2 : Int), (loopGo EE (sp s) h_tree_notes co_tree_notes [] k Tryz.f24 2 [] j2 ({ tmps := ofL AV.any [(9, AV.c (CV.d (DV.sl 22 v0))), (10, AV.c (CV.d (DV.lit (Go.Value.int Go.IntKind.i64 v1)))), (11, AV.c (CV.d (DV.lit (Go.Value.int Go.IntKind.i64 v2))))], boxes := ofL Option.none [], objs := ofL Option.none [(9, Option.none)], fxs := ofL Option.none [] : AS II })).run = (Ltree_notes_2 s k x0 j2 v0 v1 v2).map rc_tree_notes.enc := by
  intro j2
  induction j2 with
  | zero => intros; rfl
  | succ j2 ih =>
    have q0 := Ltree_notes_7_eq s k x0 j2 (Ltree_notes_2 s k x0 j2) ih
    intros
    simp only [Ltree_notes_2, map_ite, map_bindO, map_someO, map_noneO, ← ih, ← q0]
    kernel_rfl
theorem e_tree_notes (s : Fam) (k : Nat) (x : a_tree_notes) : (evFunC EE (sp s) h_tree_notes co_tree_notes k Tryz.f24 (c_tree_notes.enc x)).run = (B_tree_notes s k x.1).map rc_tree_notes.enc := by
  simp only [B_tree_notes, map_ite, map_bindO, map_someO, map_noneO, ← Ltree_notes_2_eq]
  kernel_rfl
-- 21 nodes
def B_tree_few_Rec (s : Fam) (k : Nat) (x0 : List TRec) : Option (Bool) := some (decide ((↑x0.length : Int) ≤ 512))
theorem e_tree_few_Rec (s : Fam) (k : Nat) (x : a_tree_few_Rec) : (evFunC EE (sp s) h_tree_few_Rec co_tree_few_Rec k Tryz.f25 (c_tree_few_Rec.enc x)).run = (B_tree_few_Rec s k x.1).map rc_tree_few_Rec.enc := by
  simp only [B_tree_few_Rec, map_ite, map_bindO, map_someO, map_noneO]
  kernel_rfl
-- 1 nodes
def B_slices_ContainsFunc_Rec (s : Fam) (k : Nat) (x0 : List TRec) (x1 : Unit × Ttree_checker × Unit) : Option (Bool) := ((s.f_slices_IndexFunc_Rec (x0, ((), x1.snd.fst, ()), ())).bind fun t1 => some (decide (t1 ≥ 0)))
theorem e_slices_ContainsFunc_Rec (s : Fam) (k : Nat) (x : a_slices_ContainsFunc_Rec) : (evFunC EE (sp s) h_slices_ContainsFunc_Rec co_slices_ContainsFunc_Rec k Tryz.f26 (c_slices_ContainsFunc_Rec.enc x)).run = (B_slices_ContainsFunc_Rec s k x.1 x.2.1).map rc_slices_ContainsFunc_Rec.enc := by
  simp only [B_slices_ContainsFunc_Rec, map_ite, map_bindO, map_someO, map_noneO]
  kernel_rfl
-- 2 nodes
def B_tree_Check_1 (s : Fam) (k : Nat) (x0 : TRec) (x1 : Ttree_checker) : Option (Bool) := ((s.f_tree_checker_rec (x1, x0, ())).bind fun t1 => some (!t1))
theorem e_tree_Check_1 (s : Fam) (k : Nat) (x : a_tree_Check_1) : (evFunC EE (sp s) h_tree_Check_1 co_tree_Check_1 k Tryz.f27 (c_tree_Check_1.enc x)).run = (B_tree_Check_1 s k x.1 x.2.1).map rc_tree_Check_1.enc := by
  simp only [B_tree_Check_1, map_ite, map_bindO, map_someO, map_noneO]
  kernel_rfl
-- 2 nodes
def B_tree_checker_rec (s : Fam) (k : Nat) (x0 : Ttree_checker) (x1 : TRec) : Option (Bool) := ((s.f_tree_notes ([x1.Marks_Before, x1.Marks_Trail, x1.End], ())).bind fun t1 => (if t1 = Bool.true then ((s.f_tree_checker_name (x0, x1.Name, ())).bind fun t3 => (if (Bool.true && t3) = Bool.true then ((s.f_tree_few_Field (x1.Fields, ())).bind fun t5 => (if (Bool.true && t5 && decide ((↑x1.Fields.length : Int) > 0)) = Bool.true then ((s.f_slices_ContainsFunc_Field (x1.Fields, ((), x0, ()), ())).bind fun t7 => some (Bool.true && !t7)) else some (Bool.false))) else some (Bool.false))) else some (Bool.false)))
theorem e_tree_checker_rec (s : Fam) (k : Nat) (x : a_tree_checker_rec) : (evFunC EE (sp s) h_tree_checker_rec co_tree_checker_rec k Tryz.f28 (c_tree_checker_rec.enc x)).run = (B_tree_checker_rec s k x.1 x.2.1).map rc_tree_checker_rec.enc := by
  simp only [B_tree_checker_rec, map_ite, map_bindO, map_someO, map_noneO]
  kernel_rfl
-- 23 nodes
def B_tree_checker_vars (s : Fam) (k : Nat) (x0 : Ttree_checker) (x1 : List TVar) : Option (Bool) := ((s.f_tree_few_Var (x1, ())).bind fun t1 => (if t1 = Bool.true then ((s.f_slices_ContainsFunc_Var (x1, ((), x0, ()), ())).bind fun t3 => some (Bool.true && !t3)) else some (Bool.false)))
theorem e_tree_checker_vars (s : Fam) (k : Nat) (x : a_tree_checker_vars) : (evFunC EE (sp s) h_tree_checker_vars co_tree_checker_vars k Tryz.f29 (c_tree_checker_vars.enc x)).run = (B_tree_checker_vars s k x.1 x.2.1).map rc_tree_checker_vars.enc := by
  simp only [B_tree_checker_vars, map_ite, map_bindO, map_someO, map_noneO]
  kernel_rfl
-- 7 nodes
def B_tree_checker_routines (s : Fam) (k : Nat) (x0 : Ttree_checker) (x1 : List TRoutine) (x2 : Int) : Option (Bool) := ((s.f_tree_few_Routine (x1, ())).bind fun t1 => (if t1 = Bool.true then ((s.f_tree_apart (x1, ())).bind fun t3 => (if (Bool.true && t3) = Bool.true then ((s.f_slices_ContainsFunc_Routine (x1, ((), x2, x0, ()), ())).bind fun t5 => some (Bool.true && !t5)) else some (Bool.false))) else some (Bool.false)))
theorem e_tree_checker_routines (s : Fam) (k : Nat) (x : a_tree_checker_routines) : (evFunC EE (sp s) h_tree_checker_routines co_tree_checker_routines k Tryz.f30 (c_tree_checker_routines.enc x)).run = (B_tree_checker_routines s k x.1 x.2.1 x.2.2.1).map rc_tree_checker_routines.enc := by
  simp only [B_tree_checker_routines, map_ite, map_bindO, map_someO, map_noneO]
  kernel_rfl
-- 14 nodes
def B_tree_checker_stmts (s : Fam) (k : Nat) (x0 : Ttree_checker) (x1 : List TStmt) (x2 : Int) : Option (Bool) := ((s.f_tree_few_Stmt (x1, ())).bind fun t1 => (if t1 = Bool.true then ((s.f_slices_ContainsFunc_Stmt (x1, ((), x0, x2, ()), ())).bind fun t3 => some (Bool.true && !t3)) else some (Bool.false)))
theorem e_tree_checker_stmts (s : Fam) (k : Nat) (x : a_tree_checker_stmts) : (evFunC EE (sp s) h_tree_checker_stmts co_tree_checker_stmts k Tryz.f31 (c_tree_checker_stmts.enc x)).run = (B_tree_checker_stmts s k x.1 x.2.1 x.2.2.1).map rc_tree_checker_stmts.enc := by
  simp only [B_tree_checker_stmts, map_ite, map_bindO, map_someO, map_noneO]
  kernel_rfl
-- 7 nodes
def B_r07_Name (s : Fam) (k : Nat) (x0 : Int) (x1 : ByteArray) : Option (Bool) := ((s.f_r04_Check (x1, ())).bind fun t1 => (if (t1 == 0) = Bool.true then ((s.f_r04_Is (x0, x1, ())).bind fun t3 => some (Bool.true && !t3)) else some (Bool.false)))
theorem e_r07_Name (s : Fam) (k : Nat) (x : a_r07_Name) : (evFunC EE (sp s) h_r07_Name co_r07_Name k Tryz.f32 (c_r07_Name.enc x)).run = (B_r07_Name s k x.1 x.2.1).map rc_r07_Name.enc := by
  simp only [B_r07_Name, map_ite, map_bindO, map_someO, map_noneO]
  kernel_rfl
-- 7 nodes
def Lr07_notes_2 (s : Fam) (k : Nat) (x0 : List ByteArray) : Nat → List ByteArray → Int → Option (Bool)
  | 0, _, _ => none
  | j2 + 1, v0, v1 => (if decide (v1 < (↑v0.length : Int)) = Bool.true then (if 0 ≤ v1 then (if v1 < (↑v0.length : Int) then ((s.f_r02_Check (v0.getD v1.toNat { data := #[] : ByteArray }, ())).bind fun t5 => (if (t5 != 0) = Bool.true then some (Bool.false) else Lr07_notes_2 s k x0 j2 (v0) (Go.IntKind.i64.wrap (v1 + 1)))) else none) else none) else some (decide ((↑v0.length : Int) ≤ 512)))
def B_r07_notes (s : Fam) (k : Nat) (x0 : List ByteArray) : Option (Bool) := Lr07_notes_2 s k x0 k (x0) (0)
theorem Lr07_notes_2_eq (s : Fam) (k : Nat) (x0 : List ByteArray) : ∀ (j2 : Nat) (v0 : List ByteArray) (v1 : Int), (loopGo EE (sp s) h_r07_notes co_r07_notes [] k Tryz.f33 2 [] j2 ({ tmps := ofL AV.any [(0, AV.c (CV.d (DV.sl 9 v0))), (3, AV.c (CV.d (DV.lit (Go.Value.int Go.IntKind.i64 v1))))], boxes := ofL Option.none [], objs := ofL Option.none [], fxs := ofL Option.none [] : AS II })).run = (Lr07_notes_2 s k x0 j2 v0 v1).map rc_r07_notes.enc := by
  intro j2
  induction j2 with
  | zero => intros; rfl
  | succ j2 ih =>
    intros
    simp only [Lr07_notes_2, map_ite, map_bindO, map_someO, map_noneO, ← ih]
    kernel_rfl
theorem e_r07_notes (s : Fam) (k : Nat) (x : a_r07_notes) : (evFunC EE (sp s) h_r07_notes co_r07_notes k Tryz.f33 (c_r07_notes.enc x)).run = (B_r07_notes s k x.1).map rc_r07_notes.enc := by
  simp only [B_r07_notes, map_ite, map_bindO, map_someO, map_noneO, ← Lr07_notes_2_eq]
  kernel_rfl
-- 11 nodes
def B_r07_marks (s : Fam) (k : Nat) (x0 : TMarks) : Option (Bool) := ((s.f_r07_notes (x0.Before, ())).bind fun t1 => (if t1 = Bool.true then ((s.f_r07_notes (x0.Trail, ())).bind fun t3 => some (Bool.true && t3)) else some (Bool.false)))
theorem e_r07_marks (s : Fam) (k : Nat) (x : a_r07_marks) : (evFunC EE (sp s) h_r07_marks co_r07_marks k Tryz.f34 (c_r07_marks.enc x)).run = (B_r07_marks s k x.1).map rc_r07_marks.enc := by
  simp only [B_r07_marks, map_ite, map_bindO, map_someO, map_noneO]
  kernel_rfl
-- 6 nodes
def Lr07_vars_2 (s : Fam) (k : Nat) (x0 : Int) (x1 : List TVar) : Nat → Int → List TVar → Int → Option (Bool)
  | 0, _, _, _ => none
  | j2 + 1, v0, v1, v2 => (if decide (v2 < (↑v1.length : Int)) = Bool.true then (if 0 ≤ v2 then (if v2 < (↑v1.length : Int) then ((s.f_r07_marks ((v1.getD v2.toNat dd_TVar).sub_Marks, ())).bind fun t5 => (if (!t5) = Bool.false then (if 0 ≤ v2 then (if v2 < (↑v1.length : Int) then ((s.f_r07_Name (v0, (v1.getD v2.toNat dd_TVar).Name, ())).bind fun t10 => (if (Bool.false || !t10) = Bool.false then (if 0 ≤ v2 then (if v2 < (↑v1.length : Int) then ((s.f_r07_Type (v0, (v1.getD v2.toNat dd_TVar).sub_T, ())).bind fun t15 => (if (Bool.false || !t15) = Bool.true then some (Bool.false) else Lr07_vars_2 s k x0 x1 j2 (v0) (v1) (Go.IntKind.i64.wrap (v2 + 1)))) else none) else none) else some (Bool.false))) else none) else none) else some (Bool.false))) else none) else none) else some (decide ((↑v1.length : Int) ≤ 512)))
def B_r07_vars (s : Fam) (k : Nat) (x0 : Int) (x1 : List TVar) : Option (Bool) := Lr07_vars_2 s k x0 x1 k (x0) (x1) (0)
theorem Lr07_vars_2_eq (s : Fam) (k : Nat) (x0 : Int) (x1 : List TVar) : ∀ (j2 : Nat) (v0 : Int) (v1 : List TVar) (v2 : Int), (loopGo EE (sp s) h_r07_vars co_r07_vars [] k Tryz.f35 2 [] j2 ({ tmps := ofL AV.any [(0, AV.c (CV.d (DV.lit (Go.Value.int Go.IntKind.i64 v0)))), (1, AV.c (CV.d (DV.sl 98 v1))), (5, AV.c (CV.d (DV.lit (Go.Value.int Go.IntKind.i64 v2))))], boxes := ofL Option.none [], objs := ofL Option.none [], fxs := ofL Option.none [] : AS II })).run = (Lr07_vars_2 s k x0 x1 j2 v0 v1 v2).map rc_r07_vars.enc := by
  intro j2
  induction j2 with
  | zero => intros; rfl
  | succ j2 ih =>
    intros
    simp only [Lr07_vars_2, map_ite, map_bindO, map_someO, map_noneO, ← ih]
    kernel_rfl
theorem e_r07_vars (s : Fam) (k : Nat) (x : a_r07_vars) : (evFunC EE (sp s) h_r07_vars co_r07_vars k Tryz.f35 (c_r07_vars.enc x)).run = (B_r07_vars s k x.1 x.2.1).map rc_r07_vars.enc := by
  simp only [B_r07_vars, map_ite, map_bindO, map_someO, map_noneO, ← Lr07_vars_2_eq]
  kernel_rfl
-- 45 nodes
def Lr07_routines_8 (s : Fam) (k : Nat) (x0 : Int) (x1 : List TRoutine) (x2 : Int) (r2 : Int → List TRoutine → Int → Int → Option (Bool)) : Nat → Int → List TRoutine → Int → Int → Int → List ByteArray → List ByteArray → ByteArray → Int → List TParam → List TVar → List TRoutine → List TStmt → List ByteArray → Option (Bool)
  | 0, _, _, _, _, _, _, _, _, _, _, _, _, _, _ => none
  | j8 + 1, uv0, uv1, uv2, uv3, uv4, uv5, uv6, uv7, uv8, uv9, uv10, uv11, uv12, uv13 => (if decide (uv4 < uv3) = Bool.true then (if 0 ≤ uv4 then (if uv4 < (↑uv1.length : Int) then (if ((uv1.getD uv4.toNat dd_TRoutine).Name.toList == uv7.toList) = Bool.true then some (Bool.false) else Lr07_routines_8 s k x0 x1 x2 r2 j8 (uv0) (uv1) (uv2) (uv3) (Go.IntKind.i64.wrap (uv4 + 1)) (uv5) (uv6) (uv7) (uv8) (uv9) (uv10) (uv11) (uv12) (uv13)) else none) else none) else (if (uv0 == 1 && decide ((↑uv11.length : Int) > 0)) = Bool.false then ((s.f_r07_params (uv0, uv9, ())).bind fun t23 => (if (Bool.false || !t23) = Bool.false then ((s.f_r07_vars (uv0, uv10, ())).bind fun t25 => (if (Bool.false || !t25) = Bool.false then ((s.f_r07_routines (uv0, uv11, Go.IntKind.i64.wrap (uv2 + 1), ())).bind fun t27 => (if (Bool.false || !t27) = Bool.false then ((s.f_r07_Stmts (uv0, uv12, 1, ())).bind fun t29 => (if (Bool.false || !t29) = Bool.true then some (Bool.false) else r2 (uv0) (uv1) (uv2) (Go.IntKind.i64.wrap (uv3 + 1)))) else some (Bool.false))) else some (Bool.false))) else some (Bool.false))) else some (Bool.false)))
def Lr07_routines_2 (s : Fam) (k : Nat) (x0 : Int) (x1 : List TRoutine) (x2 : Int) : Nat → Int → List TRoutine → Int → Int → Option (Bool)
  | 0, _, _, _, _ => none
  | j2 + 1, v0, v1, v2, v3 => (if decide (v3 < (↑v1.length : Int)) = Bool.true then (if 0 ≤ v3 then (if v3 < (↑v1.length : Int) then (if decide (v2 > 48) = Bool.false then ((s.f_r07_marks ((v1.getD v3.toNat dd_TRoutine).sub_Marks, ())).bind fun t6 => (if (Bool.false || !t6) = Bool.false then ((s.f_r07_notes ((v1.getD v3.toNat dd_TRoutine).End, ())).bind fun t8 => (if (Bool.false || !t8) = Bool.false then ((s.f_r07_Routine (v0, (v1.getD v3.toNat dd_TRoutine).Name, ())).bind fun t10 => (if (Bool.false || !t10 || decide ((v1.getD v3.toNat dd_TRoutine).Result < 0) || decide ((v1.getD v3.toNat dd_TRoutine).Result > 3)) = Bool.true then some (Bool.false) else Lr07_routines_8 s k x0 x1 x2 (Lr07_routines_2 s k x0 x1 x2 j2) k (v0) (v1) (v2) (v3) (0) ((v1.getD v3.toNat dd_TRoutine).Marks_Before) ((v1.getD v3.toNat dd_TRoutine).Marks_Trail) ((v1.getD v3.toNat dd_TRoutine).Name) ((v1.getD v3.toNat dd_TRoutine).Result) ((v1.getD v3.toNat dd_TRoutine).Params) ((v1.getD v3.toNat dd_TRoutine).Vars) ((v1.getD v3.toNat dd_TRoutine).Inner) ((v1.getD v3.toNat dd_TRoutine).Body) ((v1.getD v3.toNat dd_TRoutine).End))) else some (Bool.false))) else some (Bool.false))) else some (Bool.false)) else none) else none) else some (decide ((↑v1.length : Int) ≤ 512)))
def B_r07_routines (s : Fam) (k : Nat) (x0 : Int) (x1 : List TRoutine) (x2 : Int) : Option (Bool) := Lr07_routines_2 s k x0 x1 x2 k (x0) (x1) (x2) (0)
theorem Lr07_routines_8_eq (s : Fam) (k : Nat) (x0 : Int) (x1 : List TRoutine) (x2 : Int) (j2 : Nat) (r2 : Int → List TRoutine → Int → Int → Option (Bool)) (h2 : ∀ (v0 : Int) (v1 : List TRoutine) (v2 : Int) (v3 : Int), (loopGo EE (sp s) h_r07_routines co_r07_routines [] k Tryz.f36 2 [] j2 ({ tmps := ofL AV.any [(0, AV.c (CV.d (DV.lit (Go.Value.int Go.IntKind.i64 v0)))), (1, AV.c (CV.d (DV.sl 103 v1))), (2, AV.c (CV.d (DV.lit (Go.Value.int Go.IntKind.i64 v2)))), (7, AV.c (CV.d (DV.lit (Go.Value.int Go.IntKind.i64 v3))))], boxes := ofL Option.none [], objs := ofL Option.none [], fxs := ofL Option.none [] : AS II })).run = (r2 v0 v1 v2 v3).map rc_r07_routines.enc) : ∀ (j8 : Nat) (uv0 : Int) (uv1 : List TRoutine) (uv2 : Int) (uv3 : Int) (uv4 : Int) (uv5 : List ByteArray) (uv6 : List ByteArray) (uv7 : ByteArray) (uv8 : Int) (uv9 : List TParam) (uv10 : List TVar) (uv11 : List TRoutine) (uv12 : List TStmt) (uv13 : List ByteArray), (loopGo EE (sp s) h_r07_routines co_r07_routines [] k Tryz.f36 8 [j2] j8 ({ tmps := ofL AV.any [(0, AV.c (CV.d (DV.lit (Go.Value.int Go.IntKind.i64 uv0)))), (1, AV.c (CV.d (DV.sl 103 uv1))), (2, AV.c (CV.d (DV.lit (Go.Value.int Go.IntKind.i64 uv2)))), (7, AV.c (CV.d (DV.lit (Go.Value.int Go.IntKind.i64 uv3)))), (8, AV.c (CV.ptr 8 0)), (9, AV.c (CV.d (DV.lit (Go.Value.int Go.IntKind.i64 uv4))))], boxes := ofL Option.none [(8, Option.some [CV.d (DV.sl 9 uv5), CV.d (DV.sl 9 uv6), CV.d (DV.lit (Go.Value.string uv7)), CV.d (DV.lit (Go.Value.int Go.IntKind.i64 uv8)), CV.d (DV.sl 145 uv9), CV.d (DV.sl 98 uv10), CV.d (DV.sl 103 uv11), CV.d (DV.sl 107 uv12), CV.d (DV.sl 9 uv13)])], objs := ofL Option.none [(1099511660544, Option.none), (1099511660545, Option.none), (1099511660548, Option.none), (1099511660549, Option.none), (1099511660550, Option.none), (1099511660551, Option.none), (1099511660552, Option.none)], fxs := ofL Option.none [(8, Option.none)] : AS II })).run = (Lr07_routines_8 s k x0 x1 x2 r2 j8 uv0 uv1 uv2 uv3 uv4 uv5 uv6 uv7 uv8 uv9 uv10 uv11 uv12 uv13).map rc_r07_routines.enc := by
  intro j8
  induction j8 with
  | zero => intros; rfl
  | succ j8 ih =>
    intros
    simp only [Lr07_routines_8, map_ite, map_bindO, map_someO, map_noneO, ← ih, ← h2]
    kernel_rfl
theorem Lr07_routines_2_eq (s : Fam) (k : Nat) (x0 : Int) (x1 : List TRoutine) (x2 : Int) : ∀ (j2 : Nat) (v0 : Int) (v1 : List TRoutine) (v2 : Int) (v3 : Int), (loopGo EE (sp s) h_r07_routines co_r07_routines [] k Tryz.f36 2 [] j2 ({ tmps := ofL AV.any [(0, AV.c (CV.d (DV.lit (Go.Value.int Go.IntKind.i64 v0)))), (1, AV.c (CV.d (DV.sl 103 v1))), (2, AV.c (CV.d (DV.lit (Go.Value.int Go.IntKind.i64 v2)))), (7, AV.c (CV.d (DV.lit (Go.Value.int Go.IntKind.i64 v3))))], boxes := ofL Option.none [], objs := ofL Option.none [], fxs := ofL Option.none [] : AS II })).run = (Lr07_routines_2 s k x0 x1 x2 j2 v0 v1 v2 v3).map rc_r07_routines.enc := by
  intro j2
  induction j2 with
  | zero => intros; rfl
  | succ j2 ih =>
    have q0 := Lr07_routines_8_eq s k x0 x1 x2 j2 (Lr07_routines_2 s k x0 x1 x2 j2) ih
    intros
    simp only [Lr07_routines_2, map_ite, map_bindO, map_someO, map_noneO, ← ih, ← q0]
    kernel_rfl
theorem e_r07_routines (s : Fam) (k : Nat) (x : a_r07_routines) : (evFunC EE (sp s) h_r07_routines co_r07_routines k Tryz.f36 (c_r07_routines.enc x)).run = (B_r07_routines s k x.1 x.2.1 x.2.2.1).map rc_r07_routines.enc := by
  simp only [B_r07_routines, map_ite, map_bindO, map_someO, map_noneO, ← Lr07_routines_2_eq]
  kernel_rfl
-- 90 nodes
def Lr07_Stmts_2 (s : Fam) (k : Nat) (x0 : Int) (x1 : List TStmt) (x2 : Int) : Nat → Int → List TStmt → Int → Int → Option (Bool)
  | 0, _, _, _, _ => none
  | j2 + 1, v0, v1, v2, v3 => (if decide (v3 < (↑v1.length : Int)) = Bool.true then (if 0 ≤ v3 then (if v3 < (↑v1.length : Int) then ((s.f_r07_Stmt (v0, (v1.getD v3.toNat dd_TStmt).re, v2, ())).bind fun t5 => (if (!t5) = Bool.true then some (Bool.false) else Lr07_Stmts_2 s k x0 x1 x2 j2 (v0) (v1) (v2) (Go.IntKind.i64.wrap (v3 + 1)))) else none) else none) else some (decide ((↑v1.length : Int) ≤ 512)))
def B_r07_Stmts (s : Fam) (k : Nat) (x0 : Int) (x1 : List TStmt) (x2 : Int) : Option (Bool) := Lr07_Stmts_2 s k x0 x1 x2 k (x0) (x1) (x2) (0)
theorem Lr07_Stmts_2_eq (s : Fam) (k : Nat) (x0 : Int) (x1 : List TStmt) (x2 : Int) : ∀ (j2 : Nat) (v0 : Int) (v1 : List TStmt) (v2 : Int) (v3 : Int), (loopGo EE (sp s) h_r07_Stmts co_r07_Stmts [] k Tryz.f37 2 [] j2 ({ tmps := ofL AV.any [(0, AV.c (CV.d (DV.lit (Go.Value.int Go.IntKind.i64 v0)))), (1, AV.c (CV.d (DV.sl 107 v1))), (2, AV.c (CV.d (DV.lit (Go.Value.int Go.IntKind.i64 v2)))), (7, AV.c (CV.d (DV.lit (Go.Value.int Go.IntKind.i64 v3))))], boxes := ofL Option.none [], objs := ofL Option.none [], fxs := ofL Option.none [] : AS II })).run = (Lr07_Stmts_2 s k x0 x1 x2 j2 v0 v1 v2 v3).map rc_r07_Stmts.enc := by
  intro j2
  induction j2 with
  | zero => intros; rfl
  | succ j2 ih =>
    intros
    simp only [Lr07_Stmts_2, map_ite, map_bindO, map_someO, map_noneO, ← ih]
    kernel_rfl
theorem e_r07_Stmts (s : Fam) (k : Nat) (x : a_r07_Stmts) : (evFunC EE (sp s) h_r07_Stmts co_r07_Stmts k Tryz.f37 (c_r07_Stmts.enc x)).run = (B_r07_Stmts s k x.1 x.2.1 x.2.2.1).map rc_r07_Stmts.enc := by
  simp only [B_r07_Stmts, map_ite, map_bindO, map_someO, map_noneO, ← Lr07_Stmts_2_eq]
  kernel_rfl
-- 11 nodes
def B_tree_mapper_program (s : Fam) (k : Nat) (x0 : Thing × Unit) (x1 : TProgram) : Option (TProgram × Thing × Unit) := ((s.f_tree_mapper_parts ((x0.fst, ()), x1.Name, ())).bind fun t1 => ((s.f_slices_Clone_string (x1.Before, ())).bind fun t2 => ((s.f_slices_Clone_string (x1.Mid, ())).bind fun t3 => ((s.f_slices_Clone_string (x1.After, ())).bind fun t4 => ((s.f_slices_Clone_string (x1.End, ())).bind fun t5 => ((s.f_tree_each_Rec (x1.Recs, (t1.snd.fst, ()), ())).bind fun t6 => ((s.f_tree_each_Var (x1.Vars, (t6.snd.fst, ()), ())).bind fun t7 => ((s.f_tree_each_Routine (x1.Routines, (t7.snd.fst, ()), ())).bind fun t8 => ((s.f_tree_each_Stmt (x1.Body, (t8.snd.fst, ()), ())).bind fun t9 => some (({ Name := t1.fst, Before := t2, Mid := t3, After := t4, Recs := t6.fst, Vars := t7.fst, Routines := t8.fst, Body := t9.fst, End := t5 : TProgram }, t9.snd.fst, ())))))))))))
theorem e_tree_mapper_program (s : Fam) (k : Nat) (x : a_tree_mapper_program) : (evFunC EE (sp s) h_tree_mapper_program co_tree_mapper_program k Tryz.f39 (c_tree_mapper_program.enc x)).run = (B_tree_mapper_program s k x.1 x.2.1).map rc_tree_mapper_program.enc := by
  simp only [B_tree_mapper_program, map_ite, map_bindO, map_someO, map_noneO]
  kernel_rfl
-- 10 nodes
def Lr07_Parts_4 (s : Fam) (k : Nat) (x0 : ByteArray) : Nat → ByteArray → Int → Int → List ByteArray → Option (List ByteArray)
  | 0, _, _, _, _ => none
  | j4 + 1, v0, v1, v2, v3 => (if decide (v2 ≤ (↑v0.size : Int)) = Bool.true then (if (v2 == (↑v0.size : Int)) = Bool.false then (if 0 ≤ v2 then (if v2 < (↑v0.size : Int) then (if (Bool.false || bt v0 v2 == 36) = Bool.true then (if 0 ≤ v1 then (if v1 ≤ v2 then (if v2 ≤ (↑v0.size : Int) then (if (v3 ++ [v0.extract v1.toNat v2.toNat]).length * 16 ≤ 140737488355328 then Lr07_Parts_4 s k x0 j4 (v0) (Go.IntKind.i64.wrap (v2 + 1)) (Go.IntKind.i64.wrap (v2 + 1)) (v3 ++ [v0.extract v1.toNat v2.toNat]) else none) else none) else none) else none) else Lr07_Parts_4 s k x0 j4 (v0) (v1) (Go.IntKind.i64.wrap (v2 + 1)) (v3)) else none) else none) else (if 0 ≤ v1 then (if v1 ≤ v2 then (if v2 ≤ (↑v0.size : Int) then (if (v3 ++ [v0.extract v1.toNat v2.toNat]).length * 16 ≤ 140737488355328 then Lr07_Parts_4 s k x0 j4 (v0) (Go.IntKind.i64.wrap (v2 + 1)) (Go.IntKind.i64.wrap (v2 + 1)) (v3 ++ [v0.extract v1.toNat v2.toNat]) else none) else none) else none) else none)) else some (v3))
def B_r07_Parts (s : Fam) (k : Nat) (x0 : ByteArray) : Option (List ByteArray) := Lr07_Parts_4 s k x0 k (x0) (0) (0) ([])
theorem Lr07_Parts_4_eq (s : Fam) (k : Nat) (x0 : ByteArray) : ∀ (j4 : Nat) (v0 : ByteArray) (v1 : Int) (v2 : Int) (v3 : List ByteArray), (loopGo EE (sp s) h_r07_Parts co_r07_Parts [] k Tryz.f40 4 [] j4 ({ tmps := ofL AV.any [(0, AV.c (CV.d (DV.lit (Go.Value.string v0)))), (3, AV.c (CV.own 3 0)), (4, AV.c (CV.d (DV.lit (Go.Value.int Go.IntKind.i64 v1)))), (5, AV.c (CV.d (DV.lit (Go.Value.int Go.IntKind.i64 v2))))], boxes := ofL Option.none [], objs := ofL Option.none [(3, Option.some { ver := 0, t := 9, xs := v3 : Obj II })], fxs := ofL Option.none [] : AS II })).run = (Lr07_Parts_4 s k x0 j4 v0 v1 v2 v3).map rc_r07_Parts.enc := by
  intro j4
  induction j4 with
  | zero => intros; rfl
  | succ j4 ih =>
    intros
    simp only [Lr07_Parts_4, map_ite, map_bindO, map_someO, map_noneO, ← ih]
    kernel_rfl
theorem e_r07_Parts (s : Fam) (k : Nat) (x : a_r07_Parts) : (evFunC EE (sp s) h_r07_Parts co_r07_Parts k Tryz.f40 (c_r07_Parts.enc x)).run = (B_r07_Parts s k x.1).map rc_r07_Parts.enc := by
  simp only [B_r07_Parts, map_ite, map_bindO, map_someO, map_noneO, ← Lr07_Parts_4_eq]
  kernel_rfl
-- 31 nodes
def Lr07_varNames_3 (s : Fam) (k : Nat) (x0 : List TVar) : Nat → List TVar → Int → List ByteArray → Option (List ByteArray)
  | 0, _, _, _ => none
  | j3 + 1, v0, v1, v2 => (if decide (v1 < (↑v0.length : Int)) = Bool.true then (if 0 ≤ v1 then (if v1 < (↑v0.length : Int) then ((s.f_r07_Parts ((v0.getD v1.toNat dd_TVar).Name, ())).bind fun t5 => (if (v2 ++ t5).length * 16 ≤ 140737488355328 then (if 0 ≤ v1 then (if v1 < (↑v0.length : Int) then ((s.f_r07_Parts ((v0.getD v1.toNat dd_TVar).T_Name, ())).bind fun t9 => (if (v2 ++ t5 ++ t9).length * 16 ≤ 140737488355328 then Lr07_varNames_3 s k x0 j3 (v0) (Go.IntKind.i64.wrap (v1 + 1)) (v2 ++ t5 ++ t9) else none)) else none) else none) else none)) else none) else none) else some (v2))
def B_r07_varNames (s : Fam) (k : Nat) (x0 : List TVar) : Option (List ByteArray) := Lr07_varNames_3 s k x0 k (x0) (0) ([])
theorem Lr07_varNames_3_eq (s : Fam) (k : Nat) (x0 : List TVar) : ∀ (j3 : Nat) (v0 : List TVar) (v1 : Int) (v2 : List ByteArray), (loopGo EE (sp s) h_r07_varNames co_r07_varNames [] k Tryz.f41 3 [] j3 ({ tmps := ofL AV.any [(0, AV.c (CV.d (DV.sl 98 v0))), (3, AV.c (CV.own 3 0)), (4, AV.c (CV.d (DV.lit (Go.Value.int Go.IntKind.i64 v1))))], boxes := ofL Option.none [], objs := ofL Option.none [(3, Option.some { ver := 0, t := 9, xs := v2 : Obj II })], fxs := ofL Option.none [] : AS II })).run = (Lr07_varNames_3 s k x0 j3 v0 v1 v2).map rc_r07_varNames.enc := by
  intro j3
  induction j3 with
  | zero => intros; rfl
  | succ j3 ih =>
    intros
    simp only [Lr07_varNames_3, map_ite, map_bindO, map_someO, map_noneO, ← ih]
    kernel_rfl
theorem e_r07_varNames (s : Fam) (k : Nat) (x : a_r07_varNames) : (evFunC EE (sp s) h_r07_varNames co_r07_varNames k Tryz.f41 (c_r07_varNames.enc x)).run = (B_r07_varNames s k x.1).map rc_r07_varNames.enc := by
  simp only [B_r07_varNames, map_ite, map_bindO, map_someO, map_noneO, ← Lr07_varNames_3_eq]
  kernel_rfl
-- 18 nodes
def Lr07_routineNames_8 (s : Fam) (k : Nat) (x0 : List TRoutine) (r3 : List TRoutine → Int → List ByteArray → Option (List ByteArray)) : Nat → List TRoutine → Int → Int → List ByteArray → List ByteArray → ByteArray → Int → List TParam → List TVar → List TRoutine → List TStmt → List ByteArray → List ByteArray → Option (List ByteArray)
  | 0, _, _, _, _, _, _, _, _, _, _, _, _, _ => none
  | j8 + 1, uv0, uv1, uv2, uv3, uv4, uv5, uv6, uv7, uv8, uv9, uv10, uv11, uv12 => (if decide (uv2 < (↑uv7.length : Int)) = Bool.true then (if 0 ≤ uv2 then (if uv2 < (↑uv7.length : Int) then ((s.f_r07_Parts ((uv7.getD uv2.toNat dd_TParam).Name, ())).bind fun t11 => (if (uv12 ++ t11).length * 16 ≤ 140737488355328 then (if 0 ≤ uv2 then (if uv2 < (↑uv7.length : Int) then ((s.f_r07_Parts ((uv7.getD uv2.toNat dd_TParam).T_Name, ())).bind fun t15 => (if (uv12 ++ t11 ++ t15).length * 16 ≤ 140737488355328 then Lr07_routineNames_8 s k x0 r3 j8 (uv0) (uv1) (Go.IntKind.i64.wrap (uv2 + 1)) (uv3) (uv4) (uv5) (uv6) (uv7) (uv8) (uv9) (uv10) (uv11) (uv12 ++ t11 ++ t15) else none)) else none) else none) else none)) else none) else none) else ((s.f_r07_varNames (uv8, ())).bind fun t24 => (if (uv12 ++ t24).length * 16 ≤ 140737488355328 then ((s.f_r07_routineNames (uv9, ())).bind fun t26 => (if (uv12 ++ t24 ++ t26).length * 16 ≤ 140737488355328 then ((s.f_r07_stmtNames (uv10, ())).bind fun t28 => (if (uv12 ++ t24 ++ t26 ++ t28).length * 16 ≤ 140737488355328 then r3 (uv0) (Go.IntKind.i64.wrap (uv1 + 1)) (uv12 ++ t24 ++ t26 ++ t28) else none)) else none)) else none)))
def Lr07_routineNames_3 (s : Fam) (k : Nat) (x0 : List TRoutine) : Nat → List TRoutine → Int → List ByteArray → Option (List ByteArray)
  | 0, _, _, _ => none
  | j3 + 1, v0, v1, v2 => (if decide (v1 < (↑v0.length : Int)) = Bool.true then (if 0 ≤ v1 then (if v1 < (↑v0.length : Int) then ((s.f_r07_Parts ((v0.getD v1.toNat dd_TRoutine).Name, ())).bind fun t5 => (if (v2 ++ t5).length * 16 ≤ 140737488355328 then Lr07_routineNames_8 s k x0 (Lr07_routineNames_3 s k x0 j3) k (v0) (v1) (0) ((v0.getD v1.toNat dd_TRoutine).Marks_Before) ((v0.getD v1.toNat dd_TRoutine).Marks_Trail) ((v0.getD v1.toNat dd_TRoutine).Name) ((v0.getD v1.toNat dd_TRoutine).Result) ((v0.getD v1.toNat dd_TRoutine).Params) ((v0.getD v1.toNat dd_TRoutine).Vars) ((v0.getD v1.toNat dd_TRoutine).Inner) ((v0.getD v1.toNat dd_TRoutine).Body) ((v0.getD v1.toNat dd_TRoutine).End) (v2 ++ t5) else none)) else none) else none) else some (v2))
def B_r07_routineNames (s : Fam) (k : Nat) (x0 : List TRoutine) : Option (List ByteArray) := Lr07_routineNames_3 s k x0 k (x0) (0) ([])
theorem Lr07_routineNames_8_eq (s : Fam) (k : Nat) (x0 : List TRoutine) (j3 : Nat) (r3 : List TRoutine → Int → List ByteArray → Option (List ByteArray)) (h3 : ∀ (v0 : List TRoutine) (v1 : Int) (v2 : List ByteArray), (loopGo EE (sp s) h_r07_routineNames co_r07_routineNames [] k Tryz.f42 3 [] j3 ({ tmps := ofL AV.any [(0, AV.c (CV.d (DV.sl 103 v0))), (3, AV.c (CV.own 3 0)), (4, AV.c (CV.d (DV.lit (Go.Value.int Go.IntKind.i64 v1))))], boxes := ofL Option.none [], objs := ofL Option.none [(3, Option.some { ver := 0, t := 9, xs := v2 : Obj II })], fxs := ofL Option.none [] : AS II })).run = (r3 v0 v1 v2).map rc_r07_routineNames.enc) : ∀ (j8 : Nat) (uv0 : List TRoutine) (uv1 : Int) (uv2 : Int) (uv3 : List ByteArray) (uv4 : List ByteArray) (uv5 : ByteArray) (uv6 : Int) (uv7 : List TParam) (uv8 : List TVar) (uv9 : List TRoutine) (uv10 : List TStmt) (uv11 : List ByteArray) (uv12 : List ByteArray), (loopGo EE (sp s) h_r07_routineNames co_r07_routineNames [] k Tryz.f42 8 [j3] j8 ({ tmps := ofL AV.any [(0, AV.c (CV.d (DV.sl 103 uv0))), (3, AV.c (CV.own 3 0)), (4, AV.c (CV.d (DV.lit (Go.Value.int Go.IntKind.i64 uv1)))), (5, AV.c (CV.ptr 5 0)), (6, AV.c (CV.d (DV.lit (Go.Value.int Go.IntKind.i64 uv2))))], boxes := ofL Option.none [(5, Option.some [CV.d (DV.sl 9 uv3), CV.d (DV.sl 9 uv4), CV.d (DV.lit (Go.Value.string uv5)), CV.d (DV.lit (Go.Value.int Go.IntKind.i64 uv6)), CV.d (DV.sl 145 uv7), CV.d (DV.sl 98 uv8), CV.d (DV.sl 103 uv9), CV.d (DV.sl 107 uv10), CV.d (DV.sl 9 uv11)])], objs := ofL Option.none [(3, Option.some { ver := 0, t := 9, xs := uv12 : Obj II }), (1099511648256, Option.none), (1099511648257, Option.none), (1099511648260, Option.none), (1099511648261, Option.none), (1099511648262, Option.none), (1099511648263, Option.none), (1099511648264, Option.none)], fxs := ofL Option.none [(5, Option.none)] : AS II })).run = (Lr07_routineNames_8 s k x0 r3 j8 uv0 uv1 uv2 uv3 uv4 uv5 uv6 uv7 uv8 uv9 uv10 uv11 uv12).map rc_r07_routineNames.enc := by
  intro j8
  induction j8 with
  | zero => intros; rfl
  | succ j8 ih =>
    intros
    simp only [Lr07_routineNames_8, map_ite, map_bindO, map_someO, map_noneO, ← ih, ← h3]
    kernel_rfl
theorem Lr07_routineNames_3_eq (s : Fam) (k : Nat) (x0 : List TRoutine) : ∀ (j3 : Nat) (v0 : List TRoutine) (v1 : Int) (v2 : List ByteArray), (loopGo EE (sp s) h_r07_routineNames co_r07_routineNames [] k Tryz.f42 3 [] j3 ({ tmps := ofL AV.any [(0, AV.c (CV.d (DV.sl 103 v0))), (3, AV.c (CV.own 3 0)), (4, AV.c (CV.d (DV.lit (Go.Value.int Go.IntKind.i64 v1))))], boxes := ofL Option.none [], objs := ofL Option.none [(3, Option.some { ver := 0, t := 9, xs := v2 : Obj II })], fxs := ofL Option.none [] : AS II })).run = (Lr07_routineNames_3 s k x0 j3 v0 v1 v2).map rc_r07_routineNames.enc := by
  intro j3
  induction j3 with
  | zero => intros; rfl
  | succ j3 ih =>
    have q0 := Lr07_routineNames_8_eq s k x0 j3 (Lr07_routineNames_3 s k x0 j3) ih
    intros
    simp only [Lr07_routineNames_3, map_ite, map_bindO, map_someO, map_noneO, ← ih, ← q0]
    kernel_rfl
theorem e_r07_routineNames (s : Fam) (k : Nat) (x : a_r07_routineNames) : (evFunC EE (sp s) h_r07_routineNames co_r07_routineNames k Tryz.f42 (c_r07_routineNames.enc x)).run = (B_r07_routineNames s k x.1).map rc_r07_routineNames.enc := by
  simp only [B_r07_routineNames, map_ite, map_bindO, map_someO, map_noneO, ← Lr07_routineNames_3_eq]
  kernel_rfl
-- 37 nodes
def Lr07_stmtNames_8 (s : Fam) (k : Nat) (x0 : List TStmt) (r3 : List TStmt → Int → List ByteArray → Option (List ByteArray)) : Nat → List TStmt → Int → Int → List ByteArray → Option (List ByteArray)
  | 0, _, _, _, _ => none
  | j8 + 1, uv0, uv1, uv2, uv3 => (if 0 ≤ uv1 then (if uv1 < (↑uv0.length : Int) then (if decide (uv2 < (↑(uv0.getD uv1.toNat dd_TStmt).E.length : Int)) = Bool.true then (if 0 ≤ uv1 then (if uv1 < (↑uv0.length : Int) then (if 0 ≤ uv2 then (if uv2 < (↑(uv0.getD uv1.toNat dd_TStmt).E.length : Int) then ((s.f_r07_ExprNames (((uv0.getD uv1.toNat dd_TStmt).E.getD uv2.toNat dd_TExpr).re, ())).bind fun t19 => (if (uv3 ++ t19).length * 16 ≤ 140737488355328 then Lr07_stmtNames_8 s k x0 r3 j8 (uv0) (uv1) (Go.IntKind.i64.wrap (uv2 + 1)) (uv3 ++ t19) else none)) else none) else none) else none) else none) else (if 0 ≤ uv1 then (if uv1 < (↑uv0.length : Int) then ((s.f_r07_stmtNames ((uv0.getD uv1.toNat dd_TStmt).Body, ())).bind fun t29 => (if (uv3 ++ t29).length * 16 ≤ 140737488355328 then (if 0 ≤ uv1 then (if uv1 < (↑uv0.length : Int) then ((s.f_r07_stmtNames ((uv0.getD uv1.toNat dd_TStmt).Else, ())).bind fun t33 => (if (uv3 ++ t29 ++ t33).length * 16 ≤ 140737488355328 then r3 (uv0) (Go.IntKind.i64.wrap (uv1 + 1)) (uv3 ++ t29 ++ t33) else none)) else none) else none) else none)) else none) else none)) else none) else none)
def Lr07_stmtNames_3 (s : Fam) (k : Nat) (x0 : List TStmt) : Nat → List TStmt → Int → List ByteArray → Option (List ByteArray)
  | 0, _, _, _ => none
  | j3 + 1, v0, v1, v2 => (if decide (v1 < (↑v0.length : Int)) = Bool.true then (if 0 ≤ v1 then (if v1 < (↑v0.length : Int) then ((s.f_r07_Parts ((v0.getD v1.toNat dd_TStmt).Name, ())).bind fun t5 => (if (v2 ++ t5).length * 16 ≤ 140737488355328 then (if 0 ≤ v1 then (if v1 < (↑v0.length : Int) then ((s.f_r07_ExprNames ((v0.getD v1.toNat dd_TStmt).sub_P, ())).bind fun t9 => (if (v2 ++ t5 ++ t9).length * 16 ≤ 140737488355328 then Lr07_stmtNames_8 s k x0 (Lr07_stmtNames_3 s k x0 j3) k (v0) (v1) (0) (v2 ++ t5 ++ t9) else none)) else none) else none) else none)) else none) else none) else some (v2))
def B_r07_stmtNames (s : Fam) (k : Nat) (x0 : List TStmt) : Option (List ByteArray) := Lr07_stmtNames_3 s k x0 k (x0) (0) ([])
theorem Lr07_stmtNames_8_eq (s : Fam) (k : Nat) (x0 : List TStmt) (j3 : Nat) (r3 : List TStmt → Int → List ByteArray → Option (List ByteArray)) (h3 : ∀ (v0 : List TStmt) (v1 : Int) (v2 : List ByteArray), (loopGo EE (sp s) h_r07_stmtNames co_r07_stmtNames [] k Tryz.f43 3 [] j3 ({ tmps := ofL AV.any [(0, AV.c (CV.d (DV.sl 107 v0))), (3, AV.c (CV.own 3 0)), (4, AV.c (CV.d (DV.lit (Go.Value.int Go.IntKind.i64 v1))))], boxes := ofL Option.none [], objs := ofL Option.none [(3, Option.some { ver := 0, t := 9, xs := v2 : Obj II })], fxs := ofL Option.none [] : AS II })).run = (r3 v0 v1 v2).map rc_r07_stmtNames.enc) : ∀ (j8 : Nat) (uv0 : List TStmt) (uv1 : Int) (uv2 : Int) (uv3 : List ByteArray), (loopGo EE (sp s) h_r07_stmtNames co_r07_stmtNames [] k Tryz.f43 8 [j3] j8 ({ tmps := ofL AV.any [(0, AV.c (CV.d (DV.sl 107 uv0))), (3, AV.c (CV.own 3 0)), (4, AV.c (CV.d (DV.lit (Go.Value.int Go.IntKind.i64 uv1)))), (5, AV.c (CV.d (DV.lit (Go.Value.int Go.IntKind.i64 uv2))))], boxes := ofL Option.none [], objs := ofL Option.none [(3, Option.some { ver := 0, t := 9, xs := uv3 : Obj II })], fxs := ofL Option.none [] : AS II })).run = (Lr07_stmtNames_8 s k x0 r3 j8 uv0 uv1 uv2 uv3).map rc_r07_stmtNames.enc := by
  intro j8
  induction j8 with
  | zero => intros; rfl
  | succ j8 ih =>
    intros
    simp only [Lr07_stmtNames_8, map_ite, map_bindO, map_someO, map_noneO, ← ih, ← h3]
    kernel_rfl
theorem Lr07_stmtNames_3_eq (s : Fam) (k : Nat) (x0 : List TStmt) : ∀ (j3 : Nat) (v0 : List TStmt) (v1 : Int) (v2 : List ByteArray), (loopGo EE (sp s) h_r07_stmtNames co_r07_stmtNames [] k Tryz.f43 3 [] j3 ({ tmps := ofL AV.any [(0, AV.c (CV.d (DV.sl 107 v0))), (3, AV.c (CV.own 3 0)), (4, AV.c (CV.d (DV.lit (Go.Value.int Go.IntKind.i64 v1))))], boxes := ofL Option.none [], objs := ofL Option.none [(3, Option.some { ver := 0, t := 9, xs := v2 : Obj II })], fxs := ofL Option.none [] : AS II })).run = (Lr07_stmtNames_3 s k x0 j3 v0 v1 v2).map rc_r07_stmtNames.enc := by
  intro j3
  induction j3 with
  | zero => intros; rfl
  | succ j3 ih =>
    have q0 := Lr07_stmtNames_8_eq s k x0 j3 (Lr07_stmtNames_3 s k x0 j3) ih
    intros
    simp only [Lr07_stmtNames_3, map_ite, map_bindO, map_someO, map_noneO, ← ih, ← q0]
    kernel_rfl
theorem e_r07_stmtNames (s : Fam) (k : Nat) (x : a_r07_stmtNames) : (evFunC EE (sp s) h_r07_stmtNames co_r07_stmtNames k Tryz.f43 (c_r07_stmtNames.enc x)).run = (B_r07_stmtNames s k x.1).map rc_r07_stmtNames.enc := by
  simp only [B_r07_stmtNames, map_ite, map_bindO, map_someO, map_noneO, ← Lr07_stmtNames_3_eq]
  kernel_rfl
-- 50 nodes
def Lr04_Among_2 (s : Fam) (k : Nat) (x0 : List ByteArray) (x1 : ByteArray) : Nat → List ByteArray → ByteArray → Int → Option (Bool)
  | 0, _, _, _ => none
  | j2 + 1, v0, v1, v2 => (if decide (v2 < (↑v0.length : Int)) = Bool.true then (if 0 ≤ v2 then (if v2 < (↑v0.length : Int) then (if ((v0.getD v2.toNat { data := #[] : ByteArray }).toList == v1.toList) = Bool.true then some (Bool.true) else Lr04_Among_2 s k x0 x1 j2 (v0) (v1) (Go.IntKind.i64.wrap (v2 + 1))) else none) else none) else some (Bool.false))
def B_r04_Among (s : Fam) (k : Nat) (x0 : List ByteArray) (x1 : ByteArray) : Option (Bool) := Lr04_Among_2 s k x0 x1 k (x0) (x1) (0)
theorem Lr04_Among_2_eq (s : Fam) (k : Nat) (x0 : List ByteArray) (x1 : ByteArray) : ∀ (j2 : Nat) (v0 : List ByteArray) (v1 : ByteArray) (v2 : Int), (loopGo EE (sp s) h_r04_Among co_r04_Among [] k Tryz.f44 2 [] j2 ({ tmps := ofL AV.any [(0, AV.c (CV.d (DV.sl 9 v0))), (1, AV.c (CV.d (DV.lit (Go.Value.string v1)))), (5, AV.c (CV.d (DV.lit (Go.Value.int Go.IntKind.i64 v2))))], boxes := ofL Option.none [], objs := ofL Option.none [], fxs := ofL Option.none [] : AS II })).run = (Lr04_Among_2 s k x0 x1 j2 v0 v1 v2).map rc_r04_Among.enc := by
  intro j2
  induction j2 with
  | zero => intros; rfl
  | succ j2 ih =>
    intros
    simp only [Lr04_Among_2, map_ite, map_bindO, map_someO, map_noneO, ← ih]
    kernel_rfl
theorem e_r04_Among (s : Fam) (k : Nat) (x : a_r04_Among) : (evFunC EE (sp s) h_r04_Among co_r04_Among k Tryz.f44 (c_r04_Among.enc x)).run = (B_r04_Among s k x.1 x.2.1).map rc_r04_Among.enc := by
  simp only [B_r04_Among, map_ite, map_bindO, map_someO, map_noneO, ← Lr04_Among_2_eq]
  kernel_rfl
-- 10 nodes
def B_r01_long (s : Fam) (k : Nat) (x0 : Int) : Option (ByteArray) := (if decide (x0 < 10) = Bool.true then (if 0 ≤ x0 then (if x0 ≤ Go.IntKind.u64.wrap (x0 + 1) then (if Go.IntKind.u64.wrap (x0 + 1) ≤ (↑{ data := #[48, 49, 50, 51, 52, 53, 54, 55, 56, 57] : ByteArray }.size : Int) then some ({ data := #[48, 49, 50, 51, 52, 53, 54, 55, 56, 57] : ByteArray }.extract x0.toNat (Go.IntKind.u64.wrap (x0 + 1)).toNat) else none) else none) else none) else ((s.f_r01_long (Go.IntKind.u64.wrap (x0.tdiv 10), ())).bind fun t9 => (if 0 ≤ x0.tmod 10 then (if x0.tmod 10 ≤ Go.IntKind.u64.wrap (x0.tmod 10 + 1) then (if Go.IntKind.u64.wrap (x0.tmod 10 + 1) ≤ (↑{ data := #[48, 49, 50, 51, 52, 53, 54, 55, 56, 57] : ByteArray }.size : Int) then (if (↑(ByteArray.size t9 + ({ data := #[48, 49, 50, 51, 52, 53, 54, 55, 56, 57] : ByteArray }.extract (x0.tmod 10).toNat (Go.IntKind.u64.wrap (x0.tmod 10 + 1)).toNat).size) : Int) > Go.IntKind.i64.max then none else some (t9 ++ { data := #[48, 49, 50, 51, 52, 53, 54, 55, 56, 57] : ByteArray }.extract (x0.tmod 10).toNat (Go.IntKind.u64.wrap (x0.tmod 10 + 1)).toNat)) else none) else none) else none)))
theorem e_r01_long (s : Fam) (k : Nat) (x : a_r01_long) : (evFunC EE (sp s) h_r01_long co_r01_long k Tryz.f45 (c_r01_long.enc x)).run = (B_r01_long s k x.1).map rc_r01_long.enc := by
  simp only [B_r01_long, map_ite, map_bindO, map_someO, map_noneO]
  kernel_rfl
-- 18 nodes
def Ltree_Rename_1_2 (s : Fam) (k : Nat) (x0 : ByteArray) (x1 : List TPair) : Nat → ByteArray → List TPair → Int → Int → Option (ByteArray)
  | 0, _, _, _, _ => none
  | j2 + 1, v0, v1, v2, v3 => (if decide (v3 < v2) = Bool.true then (if 0 ≤ v3 then (if v3 < (↑v1.length : Int) then (if ((v1.getD v3.toNat dd_TPair).Old.toList == v0.toList) = Bool.true then some ((v1.getD v3.toNat dd_TPair).New) else Ltree_Rename_1_2 s k x0 x1 j2 (v0) (v1) (v2) (Go.IntKind.i64.wrap (v3 + 1))) else none) else none) else some (v0))
def B_tree_Rename_1 (s : Fam) (k : Nat) (x0 : ByteArray) (x1 : List TPair) : Option (ByteArray) := Ltree_Rename_1_2 s k x0 x1 k (x0) (x1) ((↑x1.length : Int)) (0)
theorem Ltree_Rename_1_2_eq (s : Fam) (k : Nat) (x0 : ByteArray) (x1 : List TPair) : ∀ (j2 : Nat) (v0 : ByteArray) (v1 : List TPair) (v2 : Int) (v3 : Int), (loopGo EE (sp s) h_tree_Rename_1 co_tree_Rename_1 [] k Tryz.f46 2 [] j2 ({ tmps := ofL AV.any [(0, AV.c (CV.d (DV.lit (Go.Value.string v0)))), (6, AV.c (CV.d (DV.sl 39 v1))), (7, AV.c (CV.d (DV.lit (Go.Value.int Go.IntKind.i64 v2)))), (8, AV.c (CV.d (DV.lit (Go.Value.int Go.IntKind.i64 v3))))], boxes := ofL Option.none [], objs := ofL Option.none [(6, Option.none)], fxs := ofL Option.none [] : AS II })).run = (Ltree_Rename_1_2 s k x0 x1 j2 v0 v1 v2 v3).map rc_tree_Rename_1.enc := by
  intro j2
  induction j2 with
  | zero => intros; rfl
  | succ j2 ih =>
    intros
    simp only [Ltree_Rename_1_2, map_ite, map_bindO, map_someO, map_noneO, ← ih]
    kernel_rfl
theorem e_tree_Rename_1 (s : Fam) (k : Nat) (x : a_tree_Rename_1) : (evFunC EE (sp s) h_tree_Rename_1 co_tree_Rename_1 k Tryz.f46 (c_tree_Rename_1.enc x)).run = (B_tree_Rename_1 s k x.1 x.2.1).map rc_tree_Rename_1.enc := by
  simp only [B_tree_Rename_1, map_ite, map_bindO, map_someO, map_noneO, ← Ltree_Rename_1_2_eq]
  kernel_rfl
-- 10 nodes
def B_r07_sameMarks (s : Fam) (k : Nat) (x0 : TMarks) (x1 : TMarks) : Option (Bool) := ((s.f_r01_SameTexts (x0.Before, x1.Before, ())).bind fun t1 => (if t1 = Bool.true then ((s.f_r01_SameTexts (x0.Trail, x1.Trail, ())).bind fun t3 => some (Bool.true && t3)) else some (Bool.false)))
theorem e_r07_sameMarks (s : Fam) (k : Nat) (x : a_r07_sameMarks) : (evFunC EE (sp s) h_r07_sameMarks co_r07_sameMarks k Tryz.f47 (c_r07_sameMarks.enc x)).run = (B_r07_sameMarks s k x.1 x.2.1).map rc_r07_sameMarks.enc := by
  simp only [B_r07_sameMarks, map_ite, map_bindO, map_someO, map_noneO]
  kernel_rfl
-- 6 nodes
def Lr07_sameVars_4 (s : Fam) (k : Nat) (x0 : List TVar) (x1 : List TVar) : Nat → List TVar → List TVar → Int → Option (Bool)
  | 0, _, _, _ => none
  | j4 + 1, v0, v1, v2 => (if decide (v2 < (↑v0.length : Int)) = Bool.true then (if 0 ≤ v2 then (if v2 < (↑v0.length : Int) then (if 0 ≤ v2 then (if v2 < (↑v1.length : Int) then ((s.f_r07_sameMarks ((v0.getD v2.toNat dd_TVar).sub_Marks, (v1.getD v2.toNat dd_TVar).sub_Marks, ())).bind fun t9 => (if (!t9) = Bool.false then (if 0 ≤ v2 then (if v2 < (↑v0.length : Int) then (if 0 ≤ v2 then (if v2 < (↑v1.length : Int) then (if (Bool.false || !(v0.getD v2.toNat dd_TVar).Name.toList == (v1.getD v2.toNat dd_TVar).Name.toList) = Bool.false then (if 0 ≤ v2 then (if v2 < (↑v0.length : Int) then (if 0 ≤ v2 then (if v2 < (↑v1.length : Int) then (if (Bool.false || !((v0.getD v2.toNat dd_TVar).T_Kind == (v1.getD v2.toNat dd_TVar).T_Kind && ((v0.getD v2.toNat dd_TVar).T_Size == (v1.getD v2.toNat dd_TVar).T_Size && ((v0.getD v2.toNat dd_TVar).T_Name.toList == (v1.getD v2.toNat dd_TVar).T_Name.toList && Bool.true)))) = Bool.true then some (Bool.false) else Lr07_sameVars_4 s k x0 x1 j4 (v0) (v1) (Go.IntKind.i64.wrap (v2 + 1))) else none) else none) else none) else none) else some (Bool.false)) else none) else none) else none) else none) else some (Bool.false))) else none) else none) else none) else none) else some (Bool.true))
def B_r07_sameVars (s : Fam) (k : Nat) (x0 : List TVar) (x1 : List TVar) : Option (Bool) := (if ((↑x0.length : Int) != (↑x1.length : Int)) = Bool.true then some (Bool.false) else Lr07_sameVars_4 s k x0 x1 k (x0) (x1) (0))
theorem Lr07_sameVars_4_eq (s : Fam) (k : Nat) (x0 : List TVar) (x1 : List TVar) : ∀ (j4 : Nat) (v0 : List TVar) (v1 : List TVar) (v2 : Int), (loopGo EE (sp s) h_r07_sameVars co_r07_sameVars [] k Tryz.f48 4 [] j4 ({ tmps := ofL AV.any [(0, AV.c (CV.d (DV.sl 98 v0))), (1, AV.c (CV.d (DV.sl 98 v1))), (5, AV.c (CV.d (DV.lit (Go.Value.int Go.IntKind.i64 v2))))], boxes := ofL Option.none [], objs := ofL Option.none [], fxs := ofL Option.none [] : AS II })).run = (Lr07_sameVars_4 s k x0 x1 j4 v0 v1 v2).map rc_r07_sameVars.enc := by
  intro j4
  induction j4 with
  | zero => intros; rfl
  | succ j4 ih =>
    intros
    simp only [Lr07_sameVars_4, map_ite, map_bindO, map_someO, map_noneO, ← ih]
    kernel_rfl
theorem e_r07_sameVars (s : Fam) (k : Nat) (x : a_r07_sameVars) : (evFunC EE (sp s) h_r07_sameVars co_r07_sameVars k Tryz.f48 (c_r07_sameVars.enc x)).run = (B_r07_sameVars s k x.1 x.2.1).map rc_r07_sameVars.enc := by
  simp only [B_r07_sameVars, map_ite, map_bindO, map_someO, map_noneO, ← Lr07_sameVars_4_eq]
  kernel_rfl
-- 63 nodes
def Lr07_SameRoutines_10 (s : Fam) (k : Nat) (x0 : List TRoutine) (x1 : List TRoutine) (r4 : List TRoutine → List TRoutine → Int → Option (Bool)) : Nat → List TRoutine → List TRoutine → Int → Int → List ByteArray → List ByteArray → ByteArray → Int → List TParam → List TVar → List TRoutine → List TStmt → List ByteArray → List ByteArray → List ByteArray → ByteArray → Int → List TParam → List TVar → List TRoutine → List TStmt → List ByteArray → Option (Bool)
  | 0, _, _, _, _, _, _, _, _, _, _, _, _, _, _, _, _, _, _, _, _, _, _ => none
  | j10 + 1, uv0, uv1, uv2, uv3, uv4, uv5, uv6, uv7, uv8, uv9, uv10, uv11, uv12, uv13, uv14, uv15, uv16, uv17, uv18, uv19, uv20, uv21 => (if decide (uv3 < (↑uv8.length : Int)) = Bool.true then (if 0 ≤ uv3 then (if uv3 < (↑uv8.length : Int) then (if 0 ≤ uv3 then (if uv3 < (↑uv17.length : Int) then (if (!((uv8.getD uv3.toNat dd_TParam).Name.toList == (uv17.getD uv3.toNat dd_TParam).Name.toList && ((uv8.getD uv3.toNat dd_TParam).T_Kind == (uv17.getD uv3.toNat dd_TParam).T_Kind && ((uv8.getD uv3.toNat dd_TParam).T_Size == (uv17.getD uv3.toNat dd_TParam).T_Size && ((uv8.getD uv3.toNat dd_TParam).T_Name.toList == (uv17.getD uv3.toNat dd_TParam).T_Name.toList && Bool.true)) && ((uv8.getD uv3.toNat dd_TParam).Mode == (uv17.getD uv3.toNat dd_TParam).Mode && Bool.true)))) = Bool.true then some (Bool.false) else Lr07_SameRoutines_10 s k x0 x1 r4 j10 (uv0) (uv1) (uv2) (Go.IntKind.i64.wrap (uv3 + 1)) (uv4) (uv5) (uv6) (uv7) (uv8) (uv9) (uv10) (uv11) (uv12) (uv13) (uv14) (uv15) (uv16) (uv17) (uv18) (uv19) (uv20) (uv21)) else none) else none) else none) else none) else ((s.f_r07_sameVars (uv9, uv18, ())).bind fun t27 => (if (!t27) = Bool.false then ((s.f_r07_SameRoutines (uv10, uv19, ())).bind fun t29 => (if (Bool.false || !t29) = Bool.false then ((s.f_r07_SameStmts (uv11, uv20, ())).bind fun t31 => (if (Bool.false || !t31) = Bool.true then some (Bool.false) else r4 (uv0) (uv1) (Go.IntKind.i64.wrap (uv2 + 1)))) else some (Bool.false))) else some (Bool.false))))
def Lr07_SameRoutines_4 (s : Fam) (k : Nat) (x0 : List TRoutine) (x1 : List TRoutine) : Nat → List TRoutine → List TRoutine → Int → Option (Bool)
  | 0, _, _, _ => none
  | j4 + 1, v0, v1, v2 => (if decide (v2 < (↑v0.length : Int)) = Bool.true then (if 0 ≤ v2 then (if v2 < (↑v0.length : Int) then (if 0 ≤ v2 then (if v2 < (↑v1.length : Int) then ((s.f_r07_sameMarks ((v0.getD v2.toNat dd_TRoutine).sub_Marks, (v1.getD v2.toNat dd_TRoutine).sub_Marks, ())).bind fun t9 => (if (!t9 || !(v0.getD v2.toNat dd_TRoutine).Name.toList == (v1.getD v2.toNat dd_TRoutine).Name.toList || (v0.getD v2.toNat dd_TRoutine).Result != (v1.getD v2.toNat dd_TRoutine).Result || (↑(v0.getD v2.toNat dd_TRoutine).Params.length : Int) != (↑(v1.getD v2.toNat dd_TRoutine).Params.length : Int)) = Bool.false then ((s.f_r01_SameTexts ((v0.getD v2.toNat dd_TRoutine).End, (v1.getD v2.toNat dd_TRoutine).End, ())).bind fun t11 => (if (Bool.false || !t11) = Bool.true then some (Bool.false) else Lr07_SameRoutines_10 s k x0 x1 (Lr07_SameRoutines_4 s k x0 x1 j4) k (v0) (v1) (v2) (0) ((v0.getD v2.toNat dd_TRoutine).Marks_Before) ((v0.getD v2.toNat dd_TRoutine).Marks_Trail) ((v0.getD v2.toNat dd_TRoutine).Name) ((v0.getD v2.toNat dd_TRoutine).Result) ((v0.getD v2.toNat dd_TRoutine).Params) ((v0.getD v2.toNat dd_TRoutine).Vars) ((v0.getD v2.toNat dd_TRoutine).Inner) ((v0.getD v2.toNat dd_TRoutine).Body) ((v0.getD v2.toNat dd_TRoutine).End) ((v1.getD v2.toNat dd_TRoutine).Marks_Before) ((v1.getD v2.toNat dd_TRoutine).Marks_Trail) ((v1.getD v2.toNat dd_TRoutine).Name) ((v1.getD v2.toNat dd_TRoutine).Result) ((v1.getD v2.toNat dd_TRoutine).Params) ((v1.getD v2.toNat dd_TRoutine).Vars) ((v1.getD v2.toNat dd_TRoutine).Inner) ((v1.getD v2.toNat dd_TRoutine).Body) ((v1.getD v2.toNat dd_TRoutine).End))) else some (Bool.false))) else none) else none) else none) else none) else some (Bool.true))
def B_r07_SameRoutines (s : Fam) (k : Nat) (x0 : List TRoutine) (x1 : List TRoutine) : Option (Bool) := (if ((↑x0.length : Int) != (↑x1.length : Int)) = Bool.true then some (Bool.false) else Lr07_SameRoutines_4 s k x0 x1 k (x0) (x1) (0))
theorem Lr07_SameRoutines_10_eq (s : Fam) (k : Nat) (x0 : List TRoutine) (x1 : List TRoutine) (j4 : Nat) (r4 : List TRoutine → List TRoutine → Int → Option (Bool)) (h4 : ∀ (v0 : List TRoutine) (v1 : List TRoutine) (v2 : Int), (loopGo EE (sp s) h_r07_SameRoutines co_r07_SameRoutines [] k Tryz.f49 4 [] j4 ({ tmps := ofL AV.any [(0, AV.c (CV.d (DV.sl 103 v0))), (1, AV.c (CV.d (DV.sl 103 v1))), (5, AV.c (CV.d (DV.lit (Go.Value.int Go.IntKind.i64 v2))))], boxes := ofL Option.none [], objs := ofL Option.none [], fxs := ofL Option.none [] : AS II })).run = (r4 v0 v1 v2).map rc_r07_SameRoutines.enc) : ∀ (j10 : Nat) (uv0 : List TRoutine) (uv1 : List TRoutine) (uv2 : Int) (uv3 : Int) (uv4 : List ByteArray) (uv5 : List ByteArray) (uv6 : ByteArray) (uv7 : Int) (uv8 : List TParam) (uv9 : List TVar) (uv10 : List TRoutine) (uv11 : List TStmt) (uv12 : List ByteArray) (uv13 : List ByteArray) (uv14 : List ByteArray) (uv15 : ByteArray) (uv16 : Int) (uv17 : List TParam) (uv18 : List TVar) (uv19 : List TRoutine) (uv20 : List TStmt) (uv21 : List ByteArray), (loopGo EE (sp s) h_r07_SameRoutines co_r07_SameRoutines [] k Tryz.f49 10 [j4] j10 ({ tmps := ofL AV.any [(0, AV.c (CV.d (DV.sl 103 uv0))), (1, AV.c (CV.d (DV.sl 103 uv1))), (5, AV.c (CV.d (DV.lit (Go.Value.int Go.IntKind.i64 uv2)))), (6, AV.c (CV.ptr 6 0)), (7, AV.c (CV.ptr 7 0)), (8, AV.c (CV.d (DV.lit (Go.Value.int Go.IntKind.i64 uv3))))], boxes := ofL Option.none [(6, Option.some [CV.d (DV.sl 9 uv4), CV.d (DV.sl 9 uv5), CV.d (DV.lit (Go.Value.string uv6)), CV.d (DV.lit (Go.Value.int Go.IntKind.i64 uv7)), CV.d (DV.sl 145 uv8), CV.d (DV.sl 98 uv9), CV.d (DV.sl 103 uv10), CV.d (DV.sl 107 uv11), CV.d (DV.sl 9 uv12)]), (7, Option.some [CV.d (DV.sl 9 uv13), CV.d (DV.sl 9 uv14), CV.d (DV.lit (Go.Value.string uv15)), CV.d (DV.lit (Go.Value.int Go.IntKind.i64 uv16)), CV.d (DV.sl 145 uv17), CV.d (DV.sl 98 uv18), CV.d (DV.sl 103 uv19), CV.d (DV.sl 107 uv20), CV.d (DV.sl 9 uv21)])], objs := ofL Option.none [(1099511652352, Option.none), (1099511652353, Option.none), (1099511652356, Option.none), (1099511652357, Option.none), (1099511652358, Option.none), (1099511652359, Option.none), (1099511652360, Option.none), (1099511656448, Option.none), (1099511656449, Option.none), (1099511656452, Option.none), (1099511656453, Option.none), (1099511656454, Option.none), (1099511656455, Option.none), (1099511656456, Option.none)], fxs := ofL Option.none [(6, Option.none), (7, Option.none)] : AS II })).run = (Lr07_SameRoutines_10 s k x0 x1 r4 j10 uv0 uv1 uv2 uv3 uv4 uv5 uv6 uv7 uv8 uv9 uv10 uv11 uv12 uv13 uv14 uv15 uv16 uv17 uv18 uv19 uv20 uv21).map rc_r07_SameRoutines.enc := by
  intro j10
  induction j10 with
  | zero => intros; rfl
  | succ j10 ih =>
    intros
    simp only [Lr07_SameRoutines_10, map_ite, map_bindO, map_someO, map_noneO, ← ih, ← h4]
    kernel_rfl
theorem Lr07_SameRoutines_4_eq (s : Fam) (k : Nat) (x0 : List TRoutine) (x1 : List TRoutine) : ∀ (j4 : Nat) (v0 : List TRoutine) (v1 : List TRoutine) (v2 : Int), (loopGo EE (sp s) h_r07_SameRoutines co_r07_SameRoutines [] k Tryz.f49 4 [] j4 ({ tmps := ofL AV.any [(0, AV.c (CV.d (DV.sl 103 v0))), (1, AV.c (CV.d (DV.sl 103 v1))), (5, AV.c (CV.d (DV.lit (Go.Value.int Go.IntKind.i64 v2))))], boxes := ofL Option.none [], objs := ofL Option.none [], fxs := ofL Option.none [] : AS II })).run = (Lr07_SameRoutines_4 s k x0 x1 j4 v0 v1 v2).map rc_r07_SameRoutines.enc := by
  intro j4
  induction j4 with
  | zero => intros; rfl
  | succ j4 ih =>
    have q0 := Lr07_SameRoutines_10_eq s k x0 x1 j4 (Lr07_SameRoutines_4 s k x0 x1 j4) ih
    intros
    simp only [Lr07_SameRoutines_4, map_ite, map_bindO, map_someO, map_noneO, ← ih, ← q0]
    kernel_rfl
theorem e_r07_SameRoutines (s : Fam) (k : Nat) (x : a_r07_SameRoutines) : (evFunC EE (sp s) h_r07_SameRoutines co_r07_SameRoutines k Tryz.f49 (c_r07_SameRoutines.enc x)).run = (B_r07_SameRoutines s k x.1 x.2.1).map rc_r07_SameRoutines.enc := by
  simp only [B_r07_SameRoutines, map_ite, map_bindO, map_someO, map_noneO, ← Lr07_SameRoutines_4_eq]
  kernel_rfl
-- 54 nodes
def Lr07_SameStmts_4 (s : Fam) (k : Nat) (x0 : List TStmt) (x1 : List TStmt) : Nat → List TStmt → List TStmt → Int → Option (Bool)
  | 0, _, _, _ => none
  | j4 + 1, v0, v1, v2 => (if decide (v2 < (↑v0.length : Int)) = Bool.true then (if 0 ≤ v2 then (if v2 < (↑v0.length : Int) then (if 0 ≤ v2 then (if v2 < (↑v1.length : Int) then ((s.f_r07_sameMarks ((v0.getD v2.toNat dd_TStmt).sub_Marks, (v1.getD v2.toNat dd_TStmt).sub_Marks, ())).bind fun t9 => (if (!t9 || (v0.getD v2.toNat dd_TStmt).Op != (v1.getD v2.toNat dd_TStmt).Op || !(v0.getD v2.toNat dd_TStmt).Name.toList == (v1.getD v2.toNat dd_TStmt).Name.toList || !(v0.getD v2.toNat dd_TStmt).Down == (v1.getD v2.toNat dd_TStmt).Down || !(v0.getD v2.toNat dd_TStmt).More == (v1.getD v2.toNat dd_TStmt).More) = Bool.false then ((s.f_r07_SameExpr ((v0.getD v2.toNat dd_TStmt).sub_P, (v1.getD v2.toNat dd_TStmt).sub_P, ())).bind fun t11 => (if (Bool.false || !t11) = Bool.false then ((s.f_r07_SameExprs ((v0.getD v2.toNat dd_TStmt).E, (v1.getD v2.toNat dd_TStmt).E, ())).bind fun t13 => (if (Bool.false || !t13) = Bool.true then some (Bool.false) else ((s.f_r01_SameTexts ((v0.getD v2.toNat dd_TStmt).End, (v1.getD v2.toNat dd_TStmt).End, ())).bind fun t16 => (if (!t16) = Bool.false then ((s.f_r01_SameTexts ((v0.getD v2.toNat dd_TStmt).End2, (v1.getD v2.toNat dd_TStmt).End2, ())).bind fun t18 => (if (Bool.false || !t18) = Bool.false then ((s.f_r07_SameStmts ((v0.getD v2.toNat dd_TStmt).Body, (v1.getD v2.toNat dd_TStmt).Body, ())).bind fun t20 => (if (Bool.false || !t20) = Bool.false then ((s.f_r07_SameStmts ((v0.getD v2.toNat dd_TStmt).Else, (v1.getD v2.toNat dd_TStmt).Else, ())).bind fun t22 => (if (Bool.false || !t22) = Bool.true then some (Bool.false) else Lr07_SameStmts_4 s k x0 x1 j4 (v0) (v1) (Go.IntKind.i64.wrap (v2 + 1)))) else some (Bool.false))) else some (Bool.false))) else some (Bool.false))))) else some (Bool.false))) else some (Bool.false))) else none) else none) else none) else none) else some (Bool.true))
def B_r07_SameStmts (s : Fam) (k : Nat) (x0 : List TStmt) (x1 : List TStmt) : Option (Bool) := (if ((↑x0.length : Int) != (↑x1.length : Int)) = Bool.true then some (Bool.false) else Lr07_SameStmts_4 s k x0 x1 k (x0) (x1) (0))
theorem Lr07_SameStmts_4_eq (s : Fam) (k : Nat) (x0 : List TStmt) (x1 : List TStmt) : ∀ (j4 : Nat) (v0 : List TStmt) (v1 : List TStmt) (v2 : Int), (loopGo EE (sp s) h_r07_SameStmts co_r07_SameStmts [] k Tryz.f50 4 [] j4 ({ tmps := ofL AV.any [(0, AV.c (CV.d (DV.sl 107 v0))), (1, AV.c (CV.d (DV.sl 107 v1))), (5, AV.c (CV.d (DV.lit (Go.Value.int Go.IntKind.i64 v2))))], boxes := ofL Option.none [], objs := ofL Option.none [], fxs := ofL Option.none [] : AS II })).run = (Lr07_SameStmts_4 s k x0 x1 j4 v0 v1 v2).map rc_r07_SameStmts.enc := by
  intro j4
  induction j4 with
  | zero => intros; rfl
  | succ j4 ih =>
    intros
    simp only [Lr07_SameStmts_4, map_ite, map_bindO, map_someO, map_noneO, ← ih]
    kernel_rfl
theorem e_r07_SameStmts (s : Fam) (k : Nat) (x : a_r07_SameStmts) : (evFunC EE (sp s) h_r07_SameStmts co_r07_SameStmts k Tryz.f50 (c_r07_SameStmts.enc x)).run = (B_r07_SameStmts s k x.1 x.2.1).map rc_r07_SameStmts.enc := by
  simp only [B_r07_SameStmts, map_ite, map_bindO, map_someO, map_noneO, ← Lr07_SameStmts_4_eq]
  kernel_rfl
-- 62 nodes
end Go.Ev
end
