/- Proved here: the statement RenameTablesUpto (what the names of any program become in a dialect is what the document says; all else stays, and so does what was handed in), for every input that its row lets in; conditions: those of the row, and none beside. -/
import Derived.Test.YtlepjafokfhnfaaGreatDoorA3
import Derived.Lib.ItoaNum
import Derived.Deep.DeepHandedRow
section
open Go
namespace Go.Ev
open Go.Proofs.YtlepjafokfhnfaaGreatDoor
set_option maxRecDepth 100000
set_option maxHeartbeats 4000000
set_option linter.unusedVariables false
set_option linter.unusedSimpArgs false
theorem clone_ok (k : Nat) (l : List ByteArray) (h : l.length ≤ 8388608) : (FF hFam k).f_slices_Clone_string (l, ()) = some l := by
  have : (FF hFam k).f_slices_Clone_string (l, ()) = (if l.length * 16 ≤ 140737488355328 then some l else none) := by cases k <;> rfl
  rw [this, if_pos (by omega)]
theorem mmarks_ok (k : Nat) (th : Thing) (x : TMarks) (h1 : x.Before.length ≤ 8388608) (h2 : x.Trail.length ≤ 8388608) : (FF hFam (k + 1)).f_tree_mapper_marks ((th, ()), x, ()) = some (x, th, ()) := by
  show B_tree_mapper_marks (FF hFam k) k (th, ()) x = _
  unfold B_tree_mapper_marks
  rw [clone_ok k _ h1, clone_ok k _ h2]
  rfl
theorem mtyp_ok (k : Nat) (th : Thing) (t : TType) (hr : roomT th (t.Name.size + 1)) (hs : t.Name.size ≤ 8388608) : (FF hFam (k + 2)).f_tree_mapper_typ ((th, ()), t, ()) = some (⟨t.Kind, t.Size, mapN (outT th) t.Name⟩, nxtT th (pts t.Name), ()) := by
  show B_tree_mapper_typ (FF hFam (k + 1)) (k + 1) (th, ()) t = _
  unfold B_tree_mapper_typ
  rw [parts_ok k th t.Name hr hs]
  rfl
def mapV (o : ByteArray → ByteArray) (v : TVar) : TVar := ⟨v.Marks_Before, v.Marks_Trail, mapN o v.Name, v.T_Kind, v.T_Size, mapN o v.T_Name⟩
def nmV (v : TVar) : List ByteArray := pts v.Name ++ pts v.T_Name
theorem nmV_len (v : TVar) : (nmV v).length ≤ bk_TVar v := by
  have h1 := pts_len v.Name
  have h2 := pts_len v.T_Name
  have := bk_VarN v
  simp only [nmV, List.length_append]
  omega
theorem mvar_ok (k : Nat) (th : Thing) (v : TVar) (hr : roomT th (bk_TVar v)) (hb : bk_TVar v ≤ 8388608) : (FF hFam (k + 3)).f_tree_mapper_variable ((th, ()), v, ()) = some (mapV (outT th) v, nxtT th (nmV v), ()) := by
  have hn := bk_VarN v
  have p1 := pts_len v.Name
  have l1 := bks_v9_len v.Marks_Before
  have l2 := bks_v9_len v.Marks_Trail
  show B_tree_mapper_variable (FF hFam (k + 2)) (k + 2) (th, ()) v = _
  unfold B_tree_mapper_variable
  rw [mmarks_ok (k + 1) th v.sub_Marks (by show v.Marks_Before.length ≤ _; omega) (by show v.Marks_Trail.length ≤ _; omega)]
  simp only [Option.bind_some]
  rw [parts_ok (k + 1) th v.Name (roomT_le hr (by omega)) (by omega)]
  simp only [Option.bind_some]
  rw [mtyp_ok k (nxtT th (pts v.Name)) v.sub_T (by show roomT _ (v.T_Name.size + 1); exact roomT_nxt (roomT_le hr (by omega))) (by show v.T_Name.size ≤ _; omega)]
  simp only [Option.bind_some, outT_nxt', ← nxtT_app]
  rfl
theorem L_each_Var (s : Fam) (k : Nat) (x0 : List TVar) (x1 : Thing × Unit) : ∀ j v0 v1 v2 v3 v4, Ltree_each_Var_3 s k x0 x1 j v0 v1 v2 v3 v4 = eachG dd_TVar 96 (fun th x => s.f_tree_mapper_variable ((th, ()), x, ())) j v0 v1 v2 v3 v4 := by
  intro j
  induction j with
  | zero => intros; rfl
  | succ j ih => intros; simp only [Ltree_each_Var_3, eachG, ih]
theorem each_Var_ok (k : Nat) (th : Thing) (l : List TVar) (hr : roomT th (bks_TVar l)) (hb : bks_TVar l ≤ 8388608) (hk : bks_TVar l + 1 ≤ k) : (FF hFam (k + 4)).f_tree_each_Var (l, (th, ()), ()) = some (l.map (mapV (outT th)), nxtT th (l.flatMap nmV), ()) := by
  have hlen := bks_Var_len l
  show B_tree_each_Var (FF hFam (k + 3)) (k + 3) l (th, ()) = _
  unfold B_tree_each_Var
  rw [L_each_Var]
  have := eachG_ok dd_TVar 96 (by decide) (fun th x => (FF hFam (k + 3)).f_tree_mapper_variable ((th, ()), x, ())) (outT th) (mapV (outT th)) nmV bk_TVar nmV_len l (by omega) (fun i hi th' ho hr' => by
    have := bks_Var_mem l i hi
    rw [← ho]
    exact mvar_ok k th' l[i] hr' (by omega)) (k + 3) 0 (Nat.zero_le _) (by omega) [] th rfl (by rw [List.drop_zero, ← bks_TVar_eq]; exact hr) (Nat.le_refl _)
  simp only [Int.ofNat_zero, List.drop_zero, List.nil_append] at this
  exact this
def mapF (o : ByteArray → ByteArray) (f : TField) : TField := ⟨f.Marks_Before, f.Marks_Trail, mapN o f.Name, f.Kind⟩
def nmF (f : TField) : List ByteArray := pts f.Name
theorem nmF_len (f : TField) : (nmF f).length ≤ bk_TField f := by
  have h1 := pts_len f.Name
  have := bk_FieldN f
  simp only [nmF]
  omega
theorem mfield_ok (k : Nat) (th : Thing) (f : TField) (hr : roomT th (bk_TField f)) (hb : bk_TField f ≤ 8388608) : (FF hFam (k + 3)).f_tree_mapper_rec_1 (f, (th, ()), ()) = some (mapF (outT th) f, nxtT th (nmF f), ()) := by
  have hn := bk_FieldN f
  have l1 := bks_v9_len f.Marks_Before
  have l2 := bks_v9_len f.Marks_Trail
  show B_tree_mapper_rec_1 (FF hFam (k + 2)) (k + 2) f (th, ()) = _
  unfold B_tree_mapper_rec_1
  rw [mmarks_ok (k + 1) th f.sub_Marks (by show f.Marks_Before.length ≤ _; omega) (by show f.Marks_Trail.length ≤ _; omega)]
  simp only [Option.bind_some]
  rw [parts_ok (k + 1) th f.Name (roomT_le hr (by omega)) (by omega)]
  rfl
theorem L_each_Field (s : Fam) (k : Nat) (x0 : List TField) (x1 : Unit × (Thing × Unit) × Unit) : ∀ j v0 v1 v2 v3 v4, Ltree_each_Field_3 s k x0 x1 j v0 v1 v2 v3 v4 = eachG dd_TField 72 (fun th x => s.f_tree_mapper_rec_1 (x, (th, ()), ())) j v0 v1 v2 v3 v4 := by
  intro j
  induction j with
  | zero => intros; rfl
  | succ j ih => intros; simp only [Ltree_each_Field_3, eachG, ih]
theorem each_Field_ok (k : Nat) (th : Thing) (l : List TField) (hr : roomT th (bks_TField l)) (hb : bks_TField l ≤ 8388608) (hk : bks_TField l + 1 ≤ k) : (FF hFam (k + 4)).f_tree_each_Field (l, ((), (th, ()), ()), ()) = some (l.map (mapF (outT th)), nxtT th (l.flatMap nmF), ()) := by
  have hlen := bks_Field_len l
  show B_tree_each_Field (FF hFam (k + 3)) (k + 3) l ((), (th, ()), ()) = _
  unfold B_tree_each_Field
  rw [L_each_Field]
  have := eachG_ok dd_TField 72 (by decide) (fun th x => (FF hFam (k + 3)).f_tree_mapper_rec_1 (x, (th, ()), ())) (outT th) (mapF (outT th)) nmF bk_TField nmF_len l (by omega) (fun i hi th' ho hr' => by
    have := bks_Field_mem l i hi
    rw [← ho]
    exact mfield_ok k th' l[i] hr' (by omega)) (k + 3) 0 (Nat.zero_le _) (by omega) [] th rfl (by rw [List.drop_zero, ← bks_TField_eq]; exact hr) (Nat.le_refl _)
  simp only [Int.ofNat_zero, List.drop_zero, List.nil_append] at this
  exact this
def mapC (o : ByteArray → ByteArray) (r : TRec) : TRec := ⟨r.Marks_Before, r.Marks_Trail, mapN o r.Name, r.Fields.map (mapF o), r.End⟩
def nmC (r : TRec) : List ByteArray := pts r.Name ++ r.Fields.flatMap nmF
theorem flat_len {α : Type} (nm : α → List ByteArray) (w : α → Nat) (h : ∀ x, (nm x).length ≤ w x) : ∀ l : List α, (l.flatMap nm).length ≤ (l.map w).sum
  | [] => by simp
  | x :: r => by
    have := h x
    have := flat_len nm w h r
    simp only [List.flatMap_cons, List.length_append, List.map_cons, List.sum_cons]
    omega
theorem nmC_len (r : TRec) : (nmC r).length ≤ bk_TRec r := by
  have h1 := pts_len r.Name
  have h2 := flat_len nmF bk_TField nmF_len r.Fields
  rw [← bks_TField_eq] at h2
  have := bk_RecN r
  simp only [nmC, List.length_append]
  omega
theorem mrec_ok (k : Nat) (th : Thing) (r : TRec) (hr : roomT th (bk_TRec r)) (hb : bk_TRec r ≤ 8388608) (hk : bk_TRec r ≤ k) : (FF hFam (k + 6)).f_tree_mapper_rec ((th, ()), r, ()) = some (mapC (outT th) r, nxtT th (nmC r), ()) := by
  have hn := bk_RecN r
  have p1 := pts_len r.Name
  have l1 := bks_v9_len r.Marks_Before
  have l2 := bks_v9_len r.Marks_Trail
  have l3 := bks_v9_len r.End
  show B_tree_mapper_rec (FF hFam (k + 5)) (k + 5) (th, ()) r = _
  unfold B_tree_mapper_rec
  rw [mmarks_ok (k + 4) th r.sub_Marks (by show r.Marks_Before.length ≤ _; omega) (by show r.Marks_Trail.length ≤ _; omega)]
  simp only [Option.bind_some]
  rw [parts_ok (k + 4) th r.Name (roomT_le hr (by omega)) (by omega)]
  simp only [Option.bind_some]
  rw [each_Field_ok (k + 1) (nxtT th (pts r.Name)) r.Fields (roomT_nxt (roomT_le hr (by omega))) (by omega) (by omega)]
  simp only [Option.bind_some]
  rw [clone_ok _ r.End (by omega)]
  simp only [Option.bind_some, outT_nxt', ← nxtT_app]
  rfl
theorem L_each_Rec (s : Fam) (k : Nat) (x0 : List TRec) (x1 : Thing × Unit) : ∀ j v0 v1 v2 v3 v4, Ltree_each_Rec_3 s k x0 x1 j v0 v1 v2 v3 v4 = eachG dd_TRec 112 (fun th x => s.f_tree_mapper_rec ((th, ()), x, ())) j v0 v1 v2 v3 v4 := by
  intro j
  induction j with
  | zero => intros; rfl
  | succ j ih => intros; simp only [Ltree_each_Rec_3, eachG, ih]
theorem each_Rec_ok (k : Nat) (th : Thing) (l : List TRec) (hr : roomT th (bks_TRec l)) (hb : bks_TRec l ≤ 8388608) (hk : bks_TRec l + 1 ≤ k) : (FF hFam (k + 7)).f_tree_each_Rec (l, (th, ()), ()) = some (l.map (mapC (outT th)), nxtT th (l.flatMap nmC), ()) := by
  have hlen := bks_Rec_len l
  show B_tree_each_Rec (FF hFam (k + 6)) (k + 6) l (th, ()) = _
  unfold B_tree_each_Rec
  rw [L_each_Rec]
  have := eachG_ok dd_TRec 112 (by decide) (fun th x => (FF hFam (k + 6)).f_tree_mapper_rec ((th, ()), x, ())) (outT th) (mapC (outT th)) nmC bk_TRec nmC_len l (by omega) (fun i hi th' ho hr' => by
    have := bks_Rec_mem l i hi
    rw [← ho]
    exact mrec_ok k th' l[i] hr' (by omega) (by omega)) (k + 6) 0 (Nat.zero_le _) (by omega) [] th rfl (by rw [List.drop_zero, ← bks_TRec_eq]; exact hr) (Nat.le_refl _)
  simp only [Int.ofNat_zero, List.drop_zero, List.nil_append] at this
  exact this
def mapA (o : ByteArray → ByteArray) (p : TParam) : TParam := ⟨mapN o p.Name, p.T_Kind, p.T_Size, mapN o p.T_Name, p.Mode⟩
def nmA (p : TParam) : List ByteArray := pts p.Name ++ pts p.T_Name
theorem nmA_len (p : TParam) : (nmA p).length ≤ bk_TParam p := by
  have h1 := pts_len p.Name
  have h2 := pts_len p.T_Name
  have := bk_ParamN p
  simp only [nmA, List.length_append]
  omega
theorem mparam_ok (k : Nat) (th : Thing) (p : TParam) (hr : roomT th (bk_TParam p)) (hb : bk_TParam p ≤ 8388608) : (FF hFam (k + 3)).f_tree_mapper_routine_1 (p, (th, ()), ()) = some (mapA (outT th) p, nxtT th (nmA p), ()) := by
  have hn := bk_ParamN p
  have p1 := pts_len p.Name
  show B_tree_mapper_routine_1 (FF hFam (k + 2)) (k + 2) p (th, ()) = _
  unfold B_tree_mapper_routine_1
  rw [parts_ok (k + 1) th p.Name (roomT_le hr (by omega)) (by omega)]
  simp only [Option.bind_some]
  rw [mtyp_ok k (nxtT th (pts p.Name)) p.sub_T (by show roomT _ (p.T_Name.size + 1); exact roomT_nxt (roomT_le hr (by omega))) (by show p.T_Name.size ≤ _; omega)]
  simp only [Option.bind_some, outT_nxt', ← nxtT_app]
  rfl
theorem L_each_Param (s : Fam) (k : Nat) (x0 : List TParam) (x1 : Unit × (Thing × Unit) × Unit) : ∀ j v0 v1 v2 v3 v4, Ltree_each_Param_3 s k x0 x1 j v0 v1 v2 v3 v4 = eachG dd_TParam 56 (fun th x => s.f_tree_mapper_routine_1 (x, (th, ()), ())) j v0 v1 v2 v3 v4 := by
  intro j
  induction j with
  | zero => intros; rfl
  | succ j ih => intros; simp only [Ltree_each_Param_3, eachG, ih]
theorem each_Param_ok (k : Nat) (th : Thing) (l : List TParam) (hr : roomT th (bks_TParam l)) (hb : bks_TParam l ≤ 8388608) (hk : bks_TParam l + 1 ≤ k) : (FF hFam (k + 4)).f_tree_each_Param (l, ((), (th, ()), ()), ()) = some (l.map (mapA (outT th)), nxtT th (l.flatMap nmA), ()) := by
  have hlen := bks_Param_len l
  show B_tree_each_Param (FF hFam (k + 3)) (k + 3) l ((), (th, ()), ()) = _
  unfold B_tree_each_Param
  rw [L_each_Param]
  have := eachG_ok dd_TParam 56 (by decide) (fun th x => (FF hFam (k + 3)).f_tree_mapper_routine_1 (x, (th, ()), ())) (outT th) (mapA (outT th)) nmA bk_TParam nmA_len l (by omega) (fun i hi th' ho hr' => by
    have := bks_Param_mem' l i hi
    rw [← ho]
    exact mparam_ok k th' l[i] hr' (by omega)) (k + 3) 0 (Nat.zero_le _) (by omega) [] th rfl (by rw [List.drop_zero, ← bks_TParam_eq]; exact hr) (Nat.le_refl _)
  simp only [Int.ofNat_zero, List.drop_zero, List.nil_append] at this
  exact this
mutual
def nmS : TStmt → List ByteArray
  | ⟨_, _, _, nm, po, pn, pnm, pf, pl, E, _, _, body, els, _, _⟩ => pts nm ++ (nmE ⟨po, pn, pnm, pf, pl⟩ ++ (nmEs E ++ (nmSs body ++ nmSs els)))
def nmSs : List TStmt → List ByteArray
  | [] => []
  | x :: r => nmS x ++ nmSs r
end
mutual
def mapS (o : ByteArray → ByteArray) : TStmt → TStmt
  | ⟨mb, mt, op, nm, po, pn, pnm, pf, pl, E, down, more, body, els, e1, e2⟩ => ⟨mb, mt, op, mapN o nm, po, pn, mapN o pnm, mapN o pf, mapEs o pl, mapEs o E, down, more, mapSs o body, mapSs o els, e1, e2⟩
def mapSs (o : ByteArray → ByteArray) : List TStmt → List TStmt
  | [] => []
  | x :: r => mapS o x :: mapSs o r
end
theorem nmSs_eq : ∀ l : List TStmt, nmSs l = l.flatMap nmS
  | [] => rfl
  | x :: r => by simp [nmSs, nmSs_eq r]
theorem mapSs_eq (o : ByteArray → ByteArray) : ∀ l : List TStmt, mapSs o l = l.map (mapS o)
  | [] => rfl
  | x :: r => by simp [mapSs, mapSs_eq o r]
mutual
theorem nmS_len : ∀ x : TStmt, (nmS x).length ≤ bk_TStmt x
  | ⟨_, _, _, nm, po, pn, pnm, pf, pl, E, _, _, body, els, _, _⟩ => by
    have h1 := pts_len nm
    have h2 := pts_len pnm
    have h2' := pts_len pf
    have h2'' := nmEs_len pl
    have h3 := nmEs_len E
    have h4 := nmSs_len body
    have h5 := nmSs_len els
    simp only [nmS, nmE, bk_TStmt, List.length_append]
    omega
theorem nmSs_len : ∀ l : List TStmt, (nmSs l).length ≤ bks_TStmt l
  | [] => by simp [nmSs]
  | x :: r => by
    have h1 := nmS_len x
    have h2 := nmSs_len r
    simp only [nmSs, bks_TStmt, List.length_append]
    omega
end
theorem L_each_Stmt (s : Fam) (k : Nat) (x0 : List TStmt) (x1 : Thing × Unit) : ∀ j v0 v1 v2 v3 v4, Ltree_each_Stmt_3 s k x0 x1 j v0 v1 v2 v3 v4 = eachG dd_TStmt 272 (fun th x => s.f_tree_mapper_stmt ((th, ()), x, ())) j v0 v1 v2 v3 v4 := by
  intro j
  induction j with
  | zero => intros; rfl
  | succ j ih => intros; simp only [Ltree_each_Stmt_3, eachG, ih, TStmt.re_eq]
theorem mstmt_ok : ∀ K, (∀ th x, roomT th (bk_TStmt x) → bk_TStmt x ≤ 8388608 → 3 * bk_TStmt x + 10 ≤ K → (FF hFam K).f_tree_mapper_stmt ((th, ()), x, ()) = some (mapS (outT th) x, nxtT th (nmS x), ())) ∧
    (∀ th l, roomT th (bks_TStmt l) → bks_TStmt l ≤ 8388608 → 3 * bks_TStmt l + 11 ≤ K → (FF hFam K).f_tree_each_Stmt (l, (th, ()), ()) = some (mapSs (outT th) l, nxtT th (nmSs l), ())) := by
  intro K
  induction K with
  | zero => exact ⟨fun th e _ _ h => by omega, fun th l _ _ h => by omega⟩
  | succ K ih =>
    refine ⟨fun th x hr hb hk => ?_, fun th l hr hb hk => ?_⟩
    · have hn := bk_StmtN x
      have p1 := pts_len x.Name
      have p2 := nmE_len x.sub_P
      have p3 := nmEs_len x.E
      have p4 := nmSs_len x.Body
      have p5 := nmSs_len x.Else
      have l1 := bks_v9_len x.Marks_Before
      have l2 := bks_v9_len x.Marks_Trail
      have l3 := bks_v9_len x.End
      have l4 := bks_v9_len x.End2
      show B_tree_mapper_stmt (FF hFam K) K (th, ()) x = _
      unfold B_tree_mapper_stmt
      obtain ⟨K', rfl⟩ : ∃ K', K = K' + 1 := ⟨K - 1, by omega⟩
      have hE := mexpr_ok (K' + 1)
      rw [mmarks_ok K' th x.sub_Marks (by show x.Marks_Before.length ≤ _; omega) (by show x.Marks_Trail.length ≤ _; omega)]
      simp only [Option.bind_some]
      rw [parts_ok K' th x.Name (roomT_le hr (by omega)) (by omega)]
      simp only [Option.bind_some]
      rw [hE.1 _ x.sub_P (roomT_nxt (roomT_le hr (by omega))) (by omega) (by omega)]
      simp only [Option.bind_some]
      rw [hE.2 _ x.E (roomT_nxt (roomT_nxt (roomT_le hr (by omega)))) (by omega) (by omega)]
      simp only [Option.bind_some]
      rw [ih.2 _ x.Body (roomT_nxt (roomT_nxt (roomT_nxt (roomT_le hr (by omega))))) (by omega) (by omega)]
      simp only [Option.bind_some]
      rw [ih.2 _ x.Else (roomT_nxt (roomT_nxt (roomT_nxt (roomT_nxt (roomT_le hr (by omega)))))) (by omega) (by omega)]
      simp only [Option.bind_some]
      rw [clone_ok _ x.End (by omega), clone_ok _ x.End2 (by omega)]
      simp only [Option.bind_some, outT_nxt', ← nxtT_app]
      cases x
      simp only [mapS, nmS, mapE, nmE, TStmt.sub_P, TStmt.sub_Marks, List.append_assoc]
    · have hlen := bks_Stmt_len l
      show B_tree_each_Stmt (FF hFam K) K l (th, ()) = _
      unfold B_tree_each_Stmt
      rw [L_each_Stmt]
      have := eachG_ok dd_TStmt 272 (by decide) (fun th x => (FF hFam K).f_tree_mapper_stmt ((th, ()), x, ())) (outT th) (mapS (outT th)) nmS bk_TStmt nmS_len l (by omega) (fun i hi th' ho hr' => by
        have := bks_Stmt_mem l i hi
        rw [← ho]
        exact ih.1 th' l[i] hr' (by omega) (by omega)) K 0 (Nat.zero_le _) (by omega) [] th rfl (by rw [List.drop_zero, ← bks_TStmt_eq]; exact hr) (Nat.le_refl _)
      simp only [Int.ofNat_zero, List.drop_zero, List.nil_append] at this
      rw [mapSs_eq, nmSs_eq]
      exact this
mutual
def nmR : TRoutine → List ByteArray
  | ⟨_, _, nm, _, ps, vs, inner, body, _⟩ => pts nm ++ (ps.flatMap nmA ++ (vs.flatMap nmV ++ (nmRs inner ++ nmSs body)))
def nmRs : List TRoutine → List ByteArray
  | [] => []
  | x :: r => nmR x ++ nmRs r
end
mutual
def mapR (o : ByteArray → ByteArray) : TRoutine → TRoutine
  | ⟨mb, mt, nm, res, ps, vs, inner, body, e⟩ => ⟨mb, mt, mapN o nm, res, ps.map (mapA o), vs.map (mapV o), mapRs o inner, mapSs o body, e⟩
def mapRs (o : ByteArray → ByteArray) : List TRoutine → List TRoutine
  | [] => []
  | x :: r => mapR o x :: mapRs o r
end
theorem nmRs_eq : ∀ l : List TRoutine, nmRs l = l.flatMap nmR
  | [] => rfl
  | x :: r => by simp [nmRs, nmRs_eq r]
theorem mapRs_eq (o : ByteArray → ByteArray) : ∀ l : List TRoutine, mapRs o l = l.map (mapR o)
  | [] => rfl
  | x :: r => by simp [mapRs, mapRs_eq o r]
mutual
theorem nmR_len : ∀ x : TRoutine, (nmR x).length ≤ bk_TRoutine x
  | ⟨_, _, nm, _, ps, vs, inner, body, _⟩ => by
    have h1 := pts_len nm
    have h2 := flat_len nmA bk_TParam nmA_len ps
    have h3 := flat_len nmV bk_TVar nmV_len vs
    rw [← bks_TParam_eq] at h2
    rw [← bks_TVar_eq] at h3
    have h4 := nmRs_len inner
    have h5 := nmSs_len body
    simp only [nmR, bk_TRoutine, List.length_append]
    omega
theorem nmRs_len : ∀ l : List TRoutine, (nmRs l).length ≤ bks_TRoutine l
  | [] => by simp [nmRs]
  | x :: r => by
    have h1 := nmR_len x
    have h2 := nmRs_len r
    simp only [nmRs, bks_TRoutine, List.length_append]
    omega
end
theorem L_each_Routine (s : Fam) (k : Nat) (x0 : List TRoutine) (x1 : Thing × Unit) : ∀ j v0 v1 v2 v3 v4, Ltree_each_Routine_3 s k x0 x1 j v0 v1 v2 v3 v4 = eachG dd_TRoutine 192 (fun th x => s.f_tree_mapper_routine ((th, ()), x, ())) j v0 v1 v2 v3 v4 := by
  intro j
  induction j with
  | zero => intros; rfl
  | succ j ih => intros; simp only [Ltree_each_Routine_3, eachG, ih, TRoutine.re_eq]
theorem mroutine_ok : ∀ K, (∀ th x, roomT th (bk_TRoutine x) → bk_TRoutine x ≤ 8388608 → 3 * bk_TRoutine x + 20 ≤ K → (FF hFam K).f_tree_mapper_routine ((th, ()), x, ()) = some (mapR (outT th) x, nxtT th (nmR x), ())) ∧
    (∀ th l, roomT th (bks_TRoutine l) → bks_TRoutine l ≤ 8388608 → 3 * bks_TRoutine l + 21 ≤ K → (FF hFam K).f_tree_each_Routine (l, (th, ()), ()) = some (mapRs (outT th) l, nxtT th (nmRs l), ())) := by
  intro K
  induction K with
  | zero => exact ⟨fun th e _ _ h => by omega, fun th l _ _ h => by omega⟩
  | succ K ih =>
    refine ⟨fun th x hr hb hk => ?_, fun th l hr hb hk => ?_⟩
    · have hn := bk_RoutineN x
      have p1 := pts_len x.Name
      have p2 := flat_len nmA bk_TParam nmA_len x.Params
      have p3 := flat_len nmV bk_TVar nmV_len x.Vars
      rw [← bks_TParam_eq] at p2
      rw [← bks_TVar_eq] at p3
      have p4 := nmRs_len x.Inner
      have p5 := nmSs_len x.Body
      have l1 := bks_v9_len x.Marks_Before
      have l2 := bks_v9_len x.Marks_Trail
      have l3 := bks_v9_len x.End
      show B_tree_mapper_routine (FF hFam K) K (th, ()) x = _
      unfold B_tree_mapper_routine
      obtain ⟨K', rfl⟩ : ∃ K', K = K' + 4 := ⟨K - 4, by omega⟩
      rw [mmarks_ok (K' + 3) th x.sub_Marks (by show x.Marks_Before.length ≤ _; omega) (by show x.Marks_Trail.length ≤ _; omega)]
      simp only [Option.bind_some]
      rw [parts_ok (K' + 3) th x.Name (roomT_le hr (by omega)) (by omega)]
      simp only [Option.bind_some]
      rw [each_Param_ok K' _ x.Params (roomT_nxt (roomT_le hr (by omega))) (by omega) (by omega)]
      simp only [Option.bind_some]
      rw [each_Var_ok K' _ x.Vars (roomT_nxt (roomT_nxt (roomT_le hr (by omega)))) (by omega) (by omega)]
      simp only [Option.bind_some]
      rw [ih.2 _ x.Inner (roomT_nxt (roomT_nxt (roomT_nxt (roomT_le hr (by omega))))) (by omega) (by omega)]
      simp only [Option.bind_some]
      rw [(mstmt_ok (K' + 4)).2 _ x.Body (roomT_nxt (roomT_nxt (roomT_nxt (roomT_nxt (roomT_le hr (by omega)))))) (by omega) (by omega)]
      simp only [Option.bind_some]
      rw [clone_ok _ x.End (by omega)]
      simp only [Option.bind_some, outT_nxt', ← nxtT_app]
      cases x
      simp only [mapR, nmR, TRoutine.sub_Marks, List.append_assoc]
    · have hlen := bks_Routine_len l
      show B_tree_each_Routine (FF hFam K) K l (th, ()) = _
      unfold B_tree_each_Routine
      rw [L_each_Routine]
      have := eachG_ok dd_TRoutine 192 (by decide) (fun th x => (FF hFam K).f_tree_mapper_routine ((th, ()), x, ())) (outT th) (mapR (outT th)) nmR bk_TRoutine nmR_len l (by omega) (fun i hi th' ho hr' => by
        have := bks_Routine_mem l i hi
        rw [← ho]
        exact ih.1 th' l[i] hr' (by omega) (by omega)) K 0 (Nat.zero_le _) (by omega) [] th rfl (by rw [List.drop_zero, ← bks_TRoutine_eq]; exact hr) (Nat.le_refl _)
      simp only [Int.ofNat_zero, List.drop_zero, List.nil_append] at this
      rw [mapRs_eq, nmRs_eq]
      exact this
def nmP' (p : TProgram) : List ByteArray := pts p.Name ++ (p.Recs.flatMap nmC ++ (p.Vars.flatMap nmV ++ (nmRs p.Routines ++ nmSs p.Body)))
def mapP (o : ByteArray → ByteArray) (p : TProgram) : TProgram := ⟨mapN o p.Name, p.Before, p.Mid, p.After, p.Recs.map (mapC o), p.Vars.map (mapV o), mapRs o p.Routines, mapSs o p.Body, p.End⟩
theorem mprog_ok (k : Nat) (th : Thing) (p : TProgram) (hr : roomT th (bk_TProgram p)) (hb : bk_TProgram p ≤ 8388608) (hk : 3 * bk_TProgram p + 30 ≤ k) : (FF hFam (k + 8)).f_tree_mapper_program ((th, ()), p, ()) = some (mapP (outT th) p, nxtT th (nmP' p), ()) := by
  have hn := bk_ProgramN p
  have p1 := pts_len p.Name
  have p2 := flat_len nmC bk_TRec nmC_len p.Recs
  have p3 := flat_len nmV bk_TVar nmV_len p.Vars
  rw [← bks_TRec_eq] at p2
  rw [← bks_TVar_eq] at p3
  have p4 := nmRs_len p.Routines
  have p5 := nmSs_len p.Body
  have l1 := bks_v9_len p.Before
  have l2 := bks_v9_len p.Mid
  have l3 := bks_v9_len p.After
  have l4 := bks_v9_len p.End
  show B_tree_mapper_program (FF hFam (k + 7)) (k + 7) (th, ()) p = _
  unfold B_tree_mapper_program
  rw [parts_ok (k + 6) th p.Name (roomT_le hr (by omega)) (by omega)]
  simp only [Option.bind_some]
  rw [clone_ok _ p.Before (by omega), clone_ok _ p.Mid (by omega), clone_ok _ p.After (by omega), clone_ok _ p.End (by omega)]
  simp only [Option.bind_some]
  rw [each_Rec_ok k _ p.Recs (roomT_nxt (roomT_le hr (by omega))) (by omega) (by omega)]
  simp only [Option.bind_some]
  rw [each_Var_ok (k + 3) _ p.Vars (roomT_nxt (roomT_nxt (roomT_le hr (by omega)))) (by omega) (by omega)]
  simp only [Option.bind_some]
  rw [(mroutine_ok (k + 7)).2 _ p.Routines (roomT_nxt (roomT_nxt (roomT_nxt (roomT_le hr (by omega))))) (by omega) (by omega)]
  simp only [Option.bind_some]
  rw [(mstmt_ok (k + 7)).2 _ p.Body (roomT_nxt (roomT_nxt (roomT_nxt (roomT_nxt (roomT_le hr (by omega)))))) (by omega) (by omega)]
  simp only [Option.bind_some, outT_nxt', ← nxtT_app, List.append_assoc]
  rfl
theorem tree_Names_ok (k : Nat) (p : TProgram) (hb : bk_TProgram p ≤ 8388608) (hk : 3 * bk_TProgram p + 30 ≤ k) : (FF hFam (k + 9)).f_tree_Names (p, ()) = some ((nmP' p).foldl addN []) := by
  show B_tree_Names (FF hFam (k + 8)) (k + 8) p = _
  unfold B_tree_Names
  rw [mprog_ok k (.names []) p (by show 0 + _ ≤ _; omega) hb hk]
  rfl
end Go.Ev
end
section
open Go
namespace Go.Ev
open Go.Proofs.YtlepjafokfhnfaaGreatDoor
set_option maxRecDepth 100000
set_option maxHeartbeats 4000000
set_option linter.unusedVariables false
set_option linter.unusedSimpArgs false
mutual
def pE : TExpr → List ByteArray
  | ⟨_, _, nm, f, l⟩ => cutP nm ++ cutP f ++ pEs l
def pEs : List TExpr → List ByteArray
  | [] => []
  | x :: r => pE x ++ pEs r
end
mutual
theorem pE_len : ∀ e : TExpr, (pE e).length ≤ bk_TExpr e
  | ⟨_, _, nm, f, l⟩ => by
    have h1 := cutP_len nm
    have h2 := cutP_len f
    have h3 := pEs_len l
    simp only [pE, bk_TExpr, List.length_append]
    omega
theorem pEs_len : ∀ l : List TExpr, (pEs l).length ≤ bks_TExpr l
  | [] => by simp [pEs]
  | x :: r => by
    have h1 := pE_len x
    have h2 := pEs_len r
    simp only [pEs, bks_TExpr, List.length_append]
    omega
end
theorem someP_app (a b : List ByteArray) : someP (a ++ b) = someP a ++ someP b := by simp [someP]
mutual
theorem pE_nm : ∀ e : TExpr, someP (pE e) = nmE e
  | ⟨_, _, nm, f, l⟩ => by simp only [pE, nmE, someP_app, pEs_nm l, pts, List.append_assoc]
theorem pEs_nm : ∀ l : List TExpr, someP (pEs l) = nmEs l
  | [] => rfl
  | x :: r => by simp only [pEs, nmEs, someP_app, pE_nm x, pEs_nm r]
end
theorem bks_drop (l : List TExpr) (i : Nat) (hi : i < l.length) : bks_TExpr (l.drop i) = bk_TExpr l[i] + bks_TExpr (l.drop (i + 1)) := by rw [List.drop_eq_getElem_cons hi, bks_TExpr]
theorem rE_ok : ∀ K e, bk_TExpr e ≤ 8388608 → 2 * bk_TExpr e + 10 ≤ K → (FF hFam K).f_r07_ExprNames (e, ()) = some (pE e)
  | 0, e, hb, hk => by omega
  | K + 1, e, hb, hk => by
    have hn := bk_name e
    have p1 := cutP_len e.Name
    have p2 := cutP_len e.Field
    have hl := bks_Expr_len e.L
    show B_r07_ExprNames (FF hFam K) K e = _
    unfold B_r07_ExprNames
    obtain ⟨K', rfl⟩ : ∃ K', K = K' + 1 := ⟨K - 1, by omega⟩
    have hbk : bk_TExpr e = e.Name.size + e.Field.size + bks_TExpr e.L + 6 := by cases e; simp only [bk_TExpr]; omega
    rw [Parts_ok K' e.Name (by omega) (by omega), Parts_ok K' e.Field (by omega) (by omega)]
    simp only [Option.bind_some]
    rw [if_pos (by simp only [List.length_append]; omega)]
    have key : ∀ j i, i ≤ e.L.length → e.L.length - i < j → ∀ out : List ByteArray, out.length + bks_TExpr (e.L.drop i) ≤ 1099511627776 → Lr07_ExprNames_3 (FF hFam (K' + 1)) (K' + 1) e j (i : Int) e.Op e.N e.Name e.Field e.L out = some (out ++ pEs (e.L.drop i)) := by
      refine up_ind e.L.length (fun j out _ => ?_) (fun j i hi ih out ho => ?_)
      · simp only [Lr07_ExprNames_3]
        rw [if_neg (by simp), List.drop_length]
        simp [pEs]
      · have hbi := bks_Expr_mem e.L i hi
        have hd := bks_drop e.L i hi
        have hp := pE_len e.L[i]
        simp only [Lr07_ExprNames_3]
        rw [if_pos (lt_dec hi), if_pos (by omega), if_pos (by omega), getD_at e.L i _ hi, TExpr.re_eq, rE_ok (K' + 1) e.L[i] (by omega) (by omega), Option.bind_some, wrap_succ hi (by simp only [maxLen]; omega),
          if_pos (by simp only [List.length_append]; omega), ih (out ++ pE e.L[i]) (by simp only [List.length_append]; omega), List.drop_eq_getElem_cons hi]
        simp only [pEs, List.append_assoc]
    have := key (K' + 1) 0 (Nat.zero_le _) (by omega) (cutP e.Name ++ cutP e.Field) (by simp only [List.drop_zero, List.length_append]; omega)
    simp only [Int.ofNat_zero, List.drop_zero] at this
    rw [this]
    cases e
    simp only [pE]
def pV (v : TVar) : List ByteArray := cutP v.Name ++ cutP v.T_Name
theorem pV_len (v : TVar) : (pV v).length ≤ bk_TVar v := by
  have h1 := cutP_len v.Name
  have h2 := cutP_len v.T_Name
  have := bk_VarN v
  simp only [pV, List.length_append]
  omega
theorem pV_nm (v : TVar) : someP (pV v) = nmV v := by simp only [pV, nmV, someP_app, pts]
theorem flat_nm {α : Type} (p q : α → List ByteArray) (h : ∀ x, someP (p x) = q x) : ∀ l : List α, someP (l.flatMap p) = l.flatMap q
  | [] => rfl
  | x :: r => by simp only [List.flatMap_cons, someP_app, h, flat_nm p q h r]
theorem rV_ok (k : Nat) (l : List TVar) (hb : bks_TVar l ≤ 8388608) (hk : bks_TVar l + 10 ≤ k) : (FF hFam (k + 2)).f_r07_varNames (l, ()) = some (l.flatMap pV) := by
  have hlen := bks_Var_len l
  show B_r07_varNames (FF hFam (k + 1)) (k + 1) l = _
  unfold B_r07_varNames
  have key : ∀ j i, i ≤ l.length → l.length - i < j → ∀ out : List ByteArray, out.length + bks_TVar (l.drop i) ≤ 1099511627776 → Lr07_varNames_3 (FF hFam (k + 1)) (k + 1) l j l (i : Int) out = some (out ++ (l.drop i).flatMap pV) := by
    refine up_ind l.length (fun j out _ => ?_) (fun j i hi ih out ho => ?_)
    · simp only [Lr07_varNames_3]
      rw [if_neg (by simp), List.drop_length]
      simp
    · have hbi := bks_Var_mem l i hi
      have hv := bk_VarN l[i]
      have hd : bks_TVar (l.drop i) = bk_TVar l[i] + bks_TVar (l.drop (i + 1)) := by rw [List.drop_eq_getElem_cons hi, bks_TVar]
      have p1 := cutP_len l[i].Name
      have p2 := cutP_len l[i].T_Name
      simp only [Lr07_varNames_3]
      rw [if_pos (lt_dec hi), if_pos (by omega), if_pos (by omega), getD_at l i _ hi, Parts_ok k l[i].Name (by omega) (by omega), Option.bind_some, if_pos (by simp only [List.length_append]; omega), if_pos (by omega), if_pos (by omega),
        Parts_ok k l[i].T_Name (by omega) (by omega), Option.bind_some, if_pos (by simp only [List.length_append]; omega), wrap_succ hi (by simp only [maxLen]; omega), ih _ (by simp only [List.length_append]; omega), List.drop_eq_getElem_cons hi]
      simp only [List.flatMap_cons, pV, List.append_assoc]
  have := key (k + 1) 0 (Nat.zero_le _) (by omega) [] (by simp only [List.drop_zero, List.length_nil]; omega)
  simp only [Int.ofNat_zero, List.drop_zero, List.nil_append] at this
  exact this
mutual
def pS : TStmt → List ByteArray
  | ⟨_, _, _, nm, po, pn, pnm, pf, pl, E, _, _, body, els, _, _⟩ => cutP nm ++ pE ⟨po, pn, pnm, pf, pl⟩ ++ pEs E ++ pSs body ++ pSs els
def pSs : List TStmt → List ByteArray
  | [] => []
  | x :: r => pS x ++ pSs r
end
mutual
theorem pS_len : ∀ x : TStmt, (pS x).length ≤ bk_TStmt x
  | ⟨_, _, _, nm, po, pn, pnm, pf, pl, E, _, _, body, els, _, _⟩ => by
    have h1 := cutP_len nm
    have h2 := cutP_len pnm
    have h2' := cutP_len pf
    have h2'' := pEs_len pl
    have h3 := pEs_len E
    have h4 := pSs_len body
    have h5 := pSs_len els
    simp only [pS, pE, bk_TStmt, List.length_append]
    omega
theorem pSs_len : ∀ l : List TStmt, (pSs l).length ≤ bks_TStmt l
  | [] => by simp [pSs]
  | x :: r => by
    have h1 := pS_len x
    have h2 := pSs_len r
    simp only [pSs, bks_TStmt, List.length_append]
    omega
end
mutual
theorem pS_nm : ∀ x : TStmt, someP (pS x) = nmS x
  | ⟨_, _, _, nm, po, pn, pnm, pf, pl, E, _, _, body, els, _, _⟩ => by simp only [pS, nmS, someP_app, pE_nm, pEs_nm, pSs_nm body, pSs_nm els, pts, List.append_assoc]
theorem pSs_nm : ∀ l : List TStmt, someP (pSs l) = nmSs l
  | [] => rfl
  | x :: r => by simp only [pSs, nmSs, someP_app, pS_nm x, pSs_nm r]
end
theorem pS_eq (x : TStmt) : pS x = cutP x.Name ++ pE x.sub_P ++ pEs x.E ++ pSs x.Body ++ pSs x.Else := by cases x; simp only [pS, TStmt.sub_P]
theorem rS_ok : ∀ K l, bks_TStmt l ≤ 8388608 → 2 * bks_TStmt l + 20 ≤ K → (FF hFam K).f_r07_stmtNames (l, ()) = some (pSs l)
  | 0, l, hb, hk => by omega
  | K + 1, l, hb, hk => by
    have hlen := bks_Stmt_len l
    show B_r07_stmtNames (FF hFam K) K l = _
    unfold B_r07_stmtNames
    obtain ⟨K', rfl⟩ : ∃ K', K = K' + 1 := ⟨K - 1, by omega⟩
    have key : ∀ j i, i ≤ l.length → l.length - i < j → ∀ out : List ByteArray, out.length + bks_TStmt (l.drop i) ≤ 1099511627776 → Lr07_stmtNames_3 (FF hFam (K' + 1)) (K' + 1) l j l (i : Int) out = some (out ++ pSs (l.drop i)) := by
      refine up_ind l.length (fun j out _ => ?_) (fun j i hi ih out ho => ?_)
      · simp only [Lr07_stmtNames_3]
        rw [if_neg (by simp), List.drop_length]
        simp [pSs]
      · have hbi := bks_Stmt_mem l i hi
        have hv := bk_StmtN l[i]
        have hd : bks_TStmt (l.drop i) = bk_TStmt l[i] + bks_TStmt (l.drop (i + 1)) := by rw [List.drop_eq_getElem_cons hi, bks_TStmt]
        have p1 := cutP_len l[i].Name
        have p2 := pE_len l[i].sub_P
        have p4 := pSs_len l[i].Body
        have p5 := pSs_len l[i].Else
        have hEl := bks_Expr_len l[i].E
        -- the expressions, and what stands in the statement
        have inner : ∀ j' m, m ≤ l[i].E.length → l[i].E.length - m < j' → ∀ out' : List ByteArray, out'.length + bks_TExpr (l[i].E.drop m) + bks_TStmt l[i].Body + bks_TStmt l[i].Else + bks_TStmt (l.drop (i + 1)) ≤ 1099511627776 →
            Lr07_stmtNames_8 (FF hFam (K' + 1)) (K' + 1) l (Lr07_stmtNames_3 (FF hFam (K' + 1)) (K' + 1) l j) j' l (i : Int) (m : Int) out' = some (out' ++ pEs (l[i].E.drop m) ++ pSs l[i].Body ++ pSs l[i].Else ++ pSs (l.drop (i + 1))) := by
          refine up_ind l[i].E.length (fun j' out' ho' => ?_) (fun j' m hm ihm out' ho' => ?_)
          · simp only [Lr07_stmtNames_8, getD_at l i _ hi]
            rw [List.drop_length] at ho' ⊢
            simp only [bks_TExpr] at ho'
            have hlf : decide ((l[i].E.length : Int) < (l[i].E.length : Int)) = false := by simp
            rw [if_pos (by omega), if_pos (by omega), if_neg (by rw [hlf]; simp), if_pos (by omega), if_pos (by omega), rS_ok (K' + 1) l[i].Body (by omega) (by omega), Option.bind_some, if_pos (by simp only [List.length_append]; omega), if_pos (by omega), if_pos (by omega),
              rS_ok (K' + 1) l[i].Else (by omega) (by omega), Option.bind_some, if_pos (by simp only [List.length_append]; omega), wrap_succ hi (by simp only [maxLen]; omega), ih _ (by simp only [List.length_append]; omega)]
            simp only [pEs, List.append_nil, List.append_assoc]
          · have hbm := bks_Expr_mem l[i].E m hm
            have hdm := bks_drop l[i].E m hm
            have hpm := pE_len l[i].E[m]
            simp only [Lr07_stmtNames_8, getD_at l i _ hi]
            rw [if_pos (by omega), if_pos (by omega), if_pos (lt_dec hm), if_pos (by omega), if_pos (by omega), if_pos (by omega), if_pos (by omega), getD_at l[i].E m _ hm, TExpr.re_eq, rE_ok (K' + 1) l[i].E[m] (by omega) (by omega), Option.bind_some,
              if_pos (by simp only [List.length_append]; omega), wrap_succ hm (by simp only [maxLen]; omega), ihm _ (by simp only [List.length_append]; omega), List.drop_eq_getElem_cons hm]
            simp only [pEs, List.append_assoc]
        simp only [Lr07_stmtNames_3]
        rw [if_pos (lt_dec hi), if_pos (by omega), if_pos (by omega), getD_at l i _ hi, Parts_ok K' l[i].Name (by omega) (by omega), Option.bind_some, if_pos (by simp only [List.length_append]; omega), if_pos (by omega), if_pos (by omega),
          rE_ok (K' + 1) l[i].sub_P (by omega) (by omega), Option.bind_some, if_pos (by simp only [List.length_append]; omega)]
        have hin := inner (K' + 1) 0 (Nat.zero_le _) (by omega) (out ++ cutP l[i].Name ++ pE l[i].sub_P) (by simp only [List.drop_zero, List.length_append]; omega)
        simp only [Int.ofNat_zero, List.drop_zero] at hin
        rw [hin, List.drop_eq_getElem_cons hi]
        simp only [pSs, pS_eq, List.append_assoc]
    have := key (K' + 1) 0 (Nat.zero_le _) (by omega) [] (by simp only [List.drop_zero, List.length_nil]; omega)
    simp only [Int.ofNat_zero, List.drop_zero, List.nil_append] at this
    exact this
end Go.Ev
end
section
open Go
namespace Go.Ev
open Go.Proofs.YtlepjafokfhnfaaGreatDoor
set_option maxRecDepth 100000
set_option maxHeartbeats 4000000
set_option linter.unusedVariables false
set_option linter.unusedSimpArgs false
def pA (p : TParam) : List ByteArray := cutP p.Name ++ cutP p.T_Name
theorem pA_nm (p : TParam) : someP (pA p) = nmA p := by simp only [pA, nmA, someP_app, pts]
theorem pA_len (p : TParam) : (pA p).length ≤ bk_TParam p := by
  have h1 := cutP_len p.Name
  have h2 := cutP_len p.T_Name
  have := bk_ParamN p
  simp only [pA, List.length_append]
  omega
mutual
def pR : TRoutine → List ByteArray
  | ⟨_, _, nm, _, ps, vs, inner, body, _⟩ => cutP nm ++ ps.flatMap pA ++ vs.flatMap pV ++ pRs inner ++ pSs body
def pRs : List TRoutine → List ByteArray
  | [] => []
  | x :: r => pR x ++ pRs r
end
mutual
theorem pR_len : ∀ x : TRoutine, (pR x).length ≤ bk_TRoutine x
  | ⟨_, _, nm, _, ps, vs, inner, body, _⟩ => by
    have h1 := cutP_len nm
    have h2 := flat_len pA bk_TParam pA_len ps
    have h3 := flat_len pV bk_TVar pV_len vs
    rw [← bks_TParam_eq] at h2
    rw [← bks_TVar_eq] at h3
    have h4 := pRs_len inner
    have h5 := pSs_len body
    simp only [pR, bk_TRoutine, List.length_append]
    omega
theorem pRs_len : ∀ l : List TRoutine, (pRs l).length ≤ bks_TRoutine l
  | [] => by simp [pRs]
  | x :: r => by
    have h1 := pR_len x
    have h2 := pRs_len r
    simp only [pRs, bks_TRoutine, List.length_append]
    omega
end
mutual
theorem pR_nm : ∀ x : TRoutine, someP (pR x) = nmR x
  | ⟨_, _, nm, _, ps, vs, inner, body, _⟩ => by simp only [pR, nmR, someP_app, flat_nm pA nmA pA_nm, flat_nm pV nmV pV_nm, pRs_nm inner, pSs_nm, pts, List.append_assoc]
theorem pRs_nm : ∀ l : List TRoutine, someP (pRs l) = nmRs l
  | [] => rfl
  | x :: r => by simp only [pRs, nmRs, someP_app, pR_nm x, pRs_nm r]
end
theorem pR_eq (x : TRoutine) : pR x = cutP x.Name ++ x.Params.flatMap pA ++ x.Vars.flatMap pV ++ pRs x.Inner ++ pSs x.Body := by cases x; simp only [pR]
theorem rR_ok : ∀ K l, bks_TRoutine l ≤ 8388608 → 2 * bks_TRoutine l + 30 ≤ K → (FF hFam K).f_r07_routineNames (l, ()) = some (pRs l)
  | 0, l, hb, hk => by omega
  | K + 1, l, hb, hk => by
    have hlen := bks_Routine_len l
    show B_r07_routineNames (FF hFam K) K l = _
    unfold B_r07_routineNames
    obtain ⟨K', rfl⟩ : ∃ K', K = K' + 2 := ⟨K - 2, by omega⟩
    have key : ∀ j i, i ≤ l.length → l.length - i < j → ∀ out : List ByteArray, out.length + bks_TRoutine (l.drop i) ≤ 1099511627776 → Lr07_routineNames_3 (FF hFam (K' + 2)) (K' + 2) l j l (i : Int) out = some (out ++ pRs (l.drop i)) := by
      refine up_ind l.length (fun j out _ => ?_) (fun j i hi ih out ho => ?_)
      · simp only [Lr07_routineNames_3]
        rw [if_neg (by simp), List.drop_length]
        simp [pRs]
      · have hbi := bks_Routine_mem l i hi
        have hv := bk_RoutineN l[i]
        have hd : bks_TRoutine (l.drop i) = bk_TRoutine l[i] + bks_TRoutine (l.drop (i + 1)) := by rw [List.drop_eq_getElem_cons hi, bks_TRoutine]
        have p1 := cutP_len l[i].Name
        have p3 := flat_len pV bk_TVar pV_len l[i].Vars
        rw [← bks_TVar_eq] at p3
        have p4 := pRs_len l[i].Inner
        have p5 := pSs_len l[i].Body
        have hPl := bks_Param_len l[i].Params
        have inner : ∀ j' m, m ≤ l[i].Params.length → l[i].Params.length - m < j' → ∀ out' : List ByteArray, out'.length + bks_TParam (l[i].Params.drop m) + bks_TVar l[i].Vars + bks_TRoutine l[i].Inner + bks_TStmt l[i].Body + bks_TRoutine (l.drop (i + 1)) ≤ 1099511627776 →
            ∀ (mb mt e : List ByteArray) (nm : ByteArray) (res : Int), Lr07_routineNames_8 (FF hFam (K' + 2)) (K' + 2) l (Lr07_routineNames_3 (FF hFam (K' + 2)) (K' + 2) l j) j' l (i : Int) (m : Int) mb mt nm res l[i].Params l[i].Vars l[i].Inner l[i].Body e out' =
              some (out' ++ (l[i].Params.drop m).flatMap pA ++ l[i].Vars.flatMap pV ++ pRs l[i].Inner ++ pSs l[i].Body ++ pRs (l.drop (i + 1))) := by
          refine up_ind l[i].Params.length (fun j' out' ho' mb mt e nm res => ?_) (fun j' m hm ihm out' ho' mb mt e nm res => ?_)
          · simp only [Lr07_routineNames_8]
            rw [List.drop_length] at ho' ⊢
            simp only [bks_TParam] at ho'
            rw [if_neg (by simp), rV_ok K' l[i].Vars (by omega) (by omega), Option.bind_some, if_pos (by simp only [List.length_append]; omega), rR_ok (K' + 2) l[i].Inner (by omega) (by omega), Option.bind_some, if_pos (by simp only [List.length_append]; omega),
              rS_ok (K' + 2) l[i].Body (by omega) (by omega), Option.bind_some, if_pos (by simp only [List.length_append]; omega), wrap_succ hi (by simp only [maxLen]; omega), ih _ (by simp only [List.length_append]; omega)]
            simp only [List.flatMap_nil, List.append_nil, List.append_assoc]
          · have hbm := bks_Param_mem' l[i].Params m hm
            have hvm := bk_ParamN l[i].Params[m]
            have hdm : bks_TParam (l[i].Params.drop m) = bk_TParam l[i].Params[m] + bks_TParam (l[i].Params.drop (m + 1)) := by rw [List.drop_eq_getElem_cons hm, bks_TParam]
            have q1 := cutP_len l[i].Params[m].Name
            have q2 := cutP_len l[i].Params[m].T_Name
            simp only [Lr07_routineNames_8]
            rw [if_pos (lt_dec hm), if_pos (by omega), if_pos (by omega), getD_at l[i].Params m _ hm, Parts_ok (K' + 1) l[i].Params[m].Name (by omega) (by omega), Option.bind_some, if_pos (by simp only [List.length_append]; omega), if_pos (by omega), if_pos (by omega),
              Parts_ok (K' + 1) l[i].Params[m].T_Name (by omega) (by omega), Option.bind_some, if_pos (by simp only [List.length_append]; omega), wrap_succ hm (by simp only [maxLen]; omega), ihm _ (by simp only [List.length_append]; omega), List.drop_eq_getElem_cons hm]
            simp only [List.flatMap_cons, pA, List.append_assoc]
        simp only [Lr07_routineNames_3]
        have hin := inner (K' + 2) 0 (Nat.zero_le _) (by omega) (out ++ cutP l[i].Name) (by simp only [List.drop_zero, List.length_append]; omega) l[i].Marks_Before l[i].Marks_Trail l[i].End l[i].Name l[i].Result
        simp only [Int.ofNat_zero, List.drop_zero] at hin
        rw [if_pos (lt_dec hi), if_pos (by omega), if_pos (by omega), getD_at l i _ hi, Parts_ok (K' + 1) l[i].Name (by omega) (by omega), Option.bind_some, if_pos (by simp only [List.length_append]; omega), hin, List.drop_eq_getElem_cons hi]
        simp only [pRs, pR_eq, List.append_assoc]
    have := key (K' + 2) 0 (Nat.zero_le _) (by omega) [] (by simp only [List.drop_zero, List.length_nil]; omega)
    simp only [Int.ofNat_zero, List.drop_zero, List.nil_append] at this
    exact this
def pF (f : TField) : List ByteArray := cutP f.Name
def pC (r : TRec) : List ByteArray := cutP r.Name ++ r.Fields.flatMap pF
theorem pC_len (r : TRec) : (pC r).length ≤ bk_TRec r := by
  have h1 := cutP_len r.Name
  have h2 := flat_len pF bk_TField (fun f => by have := cutP_len f.Name; have := bk_FieldN f; simp only [pF]; omega) r.Fields
  rw [← bks_TField_eq] at h2
  have := bk_RecN r
  simp only [pC, List.length_append]
  omega
theorem pC_nm (r : TRec) : someP (pC r) = nmC r := by simp only [pC, nmC, someP_app, pts, flat_nm pF nmF (fun _ => rfl)]
def pP (p : TProgram) : List ByteArray := cutP p.Name ++ p.Recs.flatMap pC ++ p.Vars.flatMap pV ++ pRs p.Routines ++ pSs p.Body
theorem pP_nm (p : TProgram) : someP (pP p) = nmP' p := by simp only [pP, nmP', someP_app, pts, flat_nm pC nmC pC_nm, flat_nm pV nmV pV_nm, pRs_nm, pSs_nm, List.append_assoc]
theorem pP_len (p : TProgram) : (pP p).length ≤ bk_TProgram p := by
  have h1 := cutP_len p.Name
  have h2 := flat_len pC bk_TRec pC_len p.Recs
  have h3 := flat_len pV bk_TVar pV_len p.Vars
  rw [← bks_TRec_eq] at h2
  rw [← bks_TVar_eq] at h3
  have h4 := pRs_len p.Routines
  have h5 := pSs_len p.Body
  have := bk_ProgramN p
  simp only [pP, List.length_append]
  omega
theorem mem_any (l : List ByteArray) (x : ByteArray) : Wd.mem l x = l.any fun z => z.toList == x.toList := by
  unfold Wd.mem
  congr 1
  funext z
  rw [ba_beq]
theorem dedup_loop (K : Nat) (x0 : TProgram) (r3 : Int → ByteArray → List ByteArray → List ByteArray → List ByteArray → List TRec → List TVar → List TRoutine → List TStmt → List ByteArray → List ByteArray → Option (List ByteArray)) (l : List ByteArray) (hl : l.length ≤ 8388608) (hk : 8388700 + l.length ≤ K) :
    ∀ j i, i ≤ l.length → l.length - i < j → ∀ out : List ByteArray, out.length ≤ i → Lr07_Names_15 (FF hFam (K + 1)) (K + 1) x0 r3 j (i : Int) l out = some ((someP (l.drop i)).foldl addN out) := by
  refine up_ind l.length (fun j out _ => ?_) (fun j i hi ih out ho => ?_)
  · simp only [Lr07_Names_15]
    rw [if_neg (by simp), List.drop_length]
    rfl
  · have hd := List.drop_eq_getElem_cons hi
    simp only [Lr07_Names_15]
    rw [if_pos (lt_dec hi), if_pos (by omega), if_pos (by omega), getD_at l i _ hi, wrap_succ hi (by simp only [maxLen]; omega), hd, eps_size]
    by_cases hz : l[i].size = 0
    · rw [if_neg (by simp [hz]), ih out (by omega)]
      unfold someP
      rw [List.filter_cons_of_neg (by simp [hz])]
    · rw [if_pos (by simp [hz]), if_pos (by omega), if_pos (by omega), Among_ok K out l[i] (by omega) (by simp only [maxLen]; omega), Option.bind_some, mem_any]
      have hs : someP (l[i] :: l.drop (i + 1)) = l[i] :: someP (l.drop (i + 1)) := by unfold someP; rw [List.filter_cons_of_pos (by simp [hz])]
      rw [hs, List.foldl_cons]
      unfold addN
      cases hany : out.any fun z => z.toList == l[i].toList with
      | true =>
        rw [if_neg (by simp), if_pos rfl]
        exact ih out (by omega)
      | false =>
        rw [if_pos (by simp), if_pos (by omega), if_pos (by omega), if_pos (by simp only [List.length_append, List.length_singleton]; omega), if_neg (by simp)]
        exact ih _ (by simp only [List.length_append, List.length_singleton]; omega)
theorem r07_Names_ok (k : Nat) (p : TProgram) (hb : bk_TProgram p ≤ 8388608) (hk : 3 * bk_TProgram p + 17000000 ≤ k) : (FF hFam (k + 4)).f_r07_Names (p, ()) = some ((nmP' p).foldl addN []) := by
  have hv := bk_ProgramN p
  have hlen := bks_Rec_len p.Recs
  have hpl := pP_len p
  show B_r07_Names (FF hFam (k + 3)) (k + 3) p = _
  unfold B_r07_Names
  have q1 := cutP_len p.Name
  have q3 := flat_len pV bk_TVar pV_len p.Vars
  rw [← bks_TVar_eq] at q3
  have q4 := pRs_len p.Routines
  have q5 := pSs_len p.Body
  rw [Parts_ok (k + 2) p.Name (by omega) (by omega), Option.bind_some]
  have key : ∀ j i, i ≤ p.Recs.length → p.Recs.length - i < j → ∀ out : List ByteArray, out.length + bks_TRec (p.Recs.drop i) ≤ 8388608 → (out ++ (p.Recs.drop i).flatMap pC ++ p.Vars.flatMap pV ++ pRs p.Routines ++ pSs p.Body).length ≤ 8388608 →
      Lr07_Names_3 (FF hFam (k + 3)) (k + 3) p j (i : Int) p.Name p.Before p.Mid p.After p.Recs p.Vars p.Routines p.Body p.End out = some ((someP (out ++ (p.Recs.drop i).flatMap pC ++ p.Vars.flatMap pV ++ pRs p.Routines ++ pSs p.Body)).foldl addN []) := by
    refine up_ind p.Recs.length (fun j out ho hall => ?_) (fun j i hi ih out ho hall => ?_)
    · rw [List.drop_length] at hall ⊢
      simp only [List.flatMap_nil, List.append_nil] at hall ⊢
      simp only [Lr07_Names_3]
      simp only [List.length_append] at hall
      have hdl := dedup_loop (k + 2) p (Lr07_Names_3 (FF hFam (k + 3)) (k + 3) p j) (out ++ p.Vars.flatMap pV ++ pRs p.Routines ++ pSs p.Body) (by simp only [List.length_append]; omega) (by simp only [List.length_append]; omega) (k + 3) 0 (Nat.zero_le _) (by simp only [List.length_append]; omega) [] (Nat.le_refl _)
      simp only [Int.ofNat_zero, List.drop_zero] at hdl
      rw [if_neg (by simp), rV_ok (k + 1) p.Vars (by omega) (by omega), Option.bind_some, if_pos (by simp only [List.length_append]; omega), rR_ok (k + 3) p.Routines (by omega) (by omega), Option.bind_some, if_pos (by simp only [List.length_append]; omega),
        rS_ok (k + 3) p.Body (by omega) (by omega), Option.bind_some, if_pos (by simp only [List.length_append]; omega), hdl]
    · have hbi := bks_Rec_mem p.Recs i hi
      have hvr := bk_RecN p.Recs[i]
      have hd : bks_TRec (p.Recs.drop i) = bk_TRec p.Recs[i] + bks_TRec (p.Recs.drop (i + 1)) := by rw [List.drop_eq_getElem_cons hi, bks_TRec]
      have r1 := cutP_len p.Recs[i].Name
      have hFl := bks_Field_len p.Recs[i].Fields
      have inner : ∀ j' m, m ≤ p.Recs[i].Fields.length → p.Recs[i].Fields.length - m < j' → ∀ out' : List ByteArray, out'.length + bks_TField (p.Recs[i].Fields.drop m) + bks_TRec (p.Recs.drop (i + 1)) ≤ 8388608 →
          (out' ++ (p.Recs[i].Fields.drop m).flatMap pF ++ (p.Recs.drop (i + 1)).flatMap pC ++ p.Vars.flatMap pV ++ pRs p.Routines ++ pSs p.Body).length ≤ 8388608 →
          Lr07_Names_7 (FF hFam (k + 3)) (k + 3) p (Lr07_Names_3 (FF hFam (k + 3)) (k + 3) p j) j' (i : Int) (m : Int) p.Name p.Before p.Mid p.After p.Recs p.Vars p.Routines p.Body p.End out' =
            some ((someP (out' ++ (p.Recs[i].Fields.drop m).flatMap pF ++ (p.Recs.drop (i + 1)).flatMap pC ++ p.Vars.flatMap pV ++ pRs p.Routines ++ pSs p.Body)).foldl addN []) := by
        refine up_ind p.Recs[i].Fields.length (fun j' out' ho' hall' => ?_) (fun j' m hm ihm out' ho' hall' => ?_)
        · rw [List.drop_length] at ho' hall' ⊢
          simp only [bks_TField, List.flatMap_nil, List.append_nil] at ho' hall' ⊢
          simp only [Lr07_Names_7, getD_at p.Recs i _ hi]
          have hlf : decide ((p.Recs[i].Fields.length : Int) < (p.Recs[i].Fields.length : Int)) = false := by simp
          rw [if_pos (by omega), if_pos (by omega), if_neg (by rw [hlf]; simp), wrap_succ hi (by simp only [maxLen]; omega), ih out' (by omega) hall']
        · have hbm := bks_Field_mem p.Recs[i].Fields m hm
          have hvm := bk_FieldN p.Recs[i].Fields[m]
          have hdm : bks_TField (p.Recs[i].Fields.drop m) = bk_TField p.Recs[i].Fields[m] + bks_TField (p.Recs[i].Fields.drop (m + 1)) := by rw [List.drop_eq_getElem_cons hm, bks_TField]
          have s1 := cutP_len p.Recs[i].Fields[m].Name
          have hsh : out' ++ (p.Recs[i].Fields.drop m).flatMap pF = (out' ++ cutP p.Recs[i].Fields[m].Name) ++ (p.Recs[i].Fields.drop (m + 1)).flatMap pF := by
            rw [List.drop_eq_getElem_cons hm]
            simp only [List.flatMap_cons, pF, List.append_assoc]
          rw [hsh] at hall' ⊢
          simp only [Lr07_Names_7, getD_at p.Recs i _ hi]
          rw [if_pos (by omega), if_pos (by omega), if_pos (lt_dec hm), if_pos (by omega), if_pos (by omega), if_pos (by omega), if_pos (by omega), getD_at p.Recs[i].Fields m _ hm, Parts_ok (k + 2) p.Recs[i].Fields[m].Name (by omega) (by omega), Option.bind_some,
            if_pos (by simp only [List.length_append]; omega), wrap_succ hm (by simp only [maxLen]; omega), ihm _ (by simp only [List.length_append]; omega) hall']
      have hsh : out ++ (p.Recs.drop i).flatMap pC = (out ++ cutP p.Recs[i].Name) ++ p.Recs[i].Fields.flatMap pF ++ (p.Recs.drop (i + 1)).flatMap pC := by
        rw [List.drop_eq_getElem_cons hi]
        simp only [List.flatMap_cons, pC, List.append_assoc]
      rw [hsh] at hall ⊢
      have hin := inner (k + 3) 0 (Nat.zero_le _) (by omega) (out ++ cutP p.Recs[i].Name) (by simp only [List.drop_zero, List.length_append]; omega) (by rw [List.drop_zero]; exact hall)
      simp only [Int.ofNat_zero, List.drop_zero] at hin
      simp only [Lr07_Names_3]
      rw [if_pos (lt_dec hi), if_pos (by omega), if_pos (by omega), getD_at p.Recs i _ hi, Parts_ok (k + 2) p.Recs[i].Name (by omega) (by omega), Option.bind_some, if_pos (by simp only [List.length_append]; omega), hin]
  have := key (k + 3) 0 (Nat.zero_le _) (by omega) (cutP p.Name) (by simp only [List.drop_zero]; omega) (by rw [List.drop_zero]; exact Nat.le_trans hpl hb)
  simp only [Int.ofNat_zero, List.drop_zero] at this
  rw [this]
  have hpp : cutP p.Name ++ p.Recs.flatMap pC ++ p.Vars.flatMap pV ++ pRs p.Routines ++ pSs p.Body = pP p := rfl
  rw [hpp, pP_nm]
end Go.Ev
end
section
open Go
namespace Go.Ev
open Go.Proofs.YtlepjafokfhnfaaGreatDoor
set_option maxRecDepth 100000
set_option maxHeartbeats 4000000
set_option linter.unusedVariables false
set_option linter.unusedSimpArgs false
def freeB (p : ByteArray) : Prop := ∀ c ∈ p.data.toList, c ≠ 36
theorem join_sum : ∀ ls : List (List UInt8), ls ≠ [] → (Lib.join ls [36]).length + 1 = (ls.map fun l => l.length + 1).sum
  | [], h => absurd rfl h
  | [x], _ => by rw [Lib.join_one]; simp
  | x :: y :: r, _ => by
    have ih := join_sum (y :: r) (by simp)
    unfold Lib.join at ih ⊢
    rw [List.intercalate_cons_cons]
    simp only [List.length_append, List.length_cons, List.length_nil, List.map_cons, List.sum_cons] at ih ⊢
    omega
theorem joinD_data (ps : List ByteArray) : (joinD ps).data.toList = Lib.join (ps.map (·.data.toList)) [36] := by
  unfold joinD
  have h36 : sep36.data.toList = [36] := rfl
  rw [h36]
theorem cutP_ne (s : ByteArray) : cutP s ≠ [] := by
  unfold cutP
  intro h
  exact cutL_ne _ (List.map_eq_nil_iff.1 h)
theorem size_zero {s : ByteArray} (h : s.size = 0) : s = ByteArray.empty := by
  apply ByteArray.ext
  exact Array.eq_empty_of_size_eq_zero h
theorem cutP_empty : cutP ByteArray.empty = [ByteArray.empty] := rfl
theorem mem_pts {s p : ByteArray} : p ∈ pts s ↔ p ∈ cutP s ∧ p.size ≠ 0 := by simp [pts, someP]
theorem mapN_join (o : ByteArray → ByteArray) (s : ByteArray) : mapN o s = joinD ((cutP s).map (mapPo o)) := by
  unfold mapN
  by_cases h : s.size = 0
  · rw [if_pos h, size_zero h, cutP_empty]
    have : mapPo o ByteArray.empty = ByteArray.empty := rfl
    rw [List.map_cons, this, List.map_nil]
    rfl
  · rw [if_neg h]
def growO (o : ByteArray → ByteArray) : Prop := ∀ p, (o p).size ≤ 5 * p.size
theorem sum_grow (o : ByteArray → ByteArray) (ho : growO o) : ∀ ps : List ByteArray, (((ps.map (mapPo o)).map fun p => p.size + 1).sum) + 4 * ps.length ≤ 5 * ((ps.map fun p => p.size + 1).sum)
  | [] => by simp
  | x :: r => by
    have ih := sum_grow o ho r
    have h1 : (mapPo o x).size ≤ 5 * x.size := by
      unfold mapPo
      split
      · omega
      · exact ho x
    simp only [List.map_cons, List.sum_cons, List.length_cons]
    omega
theorem joinD_size (ps : List ByteArray) (h : ps ≠ []) : (joinD ps).size + 1 = (ps.map fun p => p.size + 1).sum := by
  have h1 := join_sum (ps.map (·.data.toList)) (by simpa using h)
  rw [← joinD_data, List.map_map] at h1
  have h2 : ((fun l : List UInt8 => l.length + 1) ∘ fun p : ByteArray => p.data.toList) = fun p : ByteArray => p.size + 1 := by funext p; simp
  rw [h2] at h1
  simpa using h1
theorem mapN_size (o : ByteArray → ByteArray) (ho : growO o) (s : ByteArray) : (mapN o s).size ≤ 5 * s.size := by
  have hne := cutP_ne s
  have h1 := joinD_size (cutP s) hne
  rw [joinD_cutP] at h1
  have h2 := joinD_size ((cutP s).map (mapPo o)) (by simpa using hne)
  rw [← mapN_join] at h2
  have h3 := sum_grow o ho (cutP s)
  have h4 : 1 ≤ (cutP s).length := by
    rcases Nat.eq_zero_or_pos (cutP s).length with h | h
    · exact absurd (List.eq_nil_of_length_eq_zero h) hne
    · exact h
  omega
section
variable (o o' : ByteArray → ByteArray)
end
end Go.Ev
end
section
open Go
namespace Go.Ev
open Go.Proofs.YtlepjafokfhnfaaGreatDoor
set_option maxRecDepth 100000
set_option maxHeartbeats 4000000
set_option linter.unusedVariables false
set_option linter.unusedSimpArgs false
mutual
theorem grow_E (o : ByteArray → ByteArray) (ho : growO o) : ∀ e : TExpr, bk_TExpr (mapE o e) ≤ 5 * bk_TExpr e
  | ⟨op, n, nm, f, l⟩ => by
    have a := mapN_size o ho nm
    have b := mapN_size o ho f
    have c := grow_Es o ho l
    simp only [mapE, bk_TExpr]
    omega
theorem grow_Es (o : ByteArray → ByteArray) (ho : growO o) : ∀ l : List TExpr, bks_TExpr (mapEs o l) ≤ 5 * bks_TExpr l
  | [] => Nat.zero_le _
  | x :: r => by
    have a := grow_E o ho x
    have b := grow_Es o ho r
    simp only [mapEs, bks_TExpr]
    omega
end
theorem grow_list {α : Type} (m : α → α) (w : α → Nat) (h : ∀ x, w (m x) ≤ 5 * w x) : ∀ l : List α, ((l.map m).map w).sum ≤ 5 * (l.map w).sum
  | [] => by simp
  | x :: r => by
    have a := h x
    have b := grow_list m w h r
    simp only [List.map_cons, List.sum_cons]
    omega
theorem grow_V (o : ByteArray → ByteArray) (ho : growO o) (v : TVar) : bk_TVar (mapV o v) ≤ 5 * bk_TVar v := by
  obtain ⟨a1, a2, a3, a4, a5, a6⟩ := v
  have a := mapN_size o ho a3
  have b := mapN_size o ho a6
  simp only [mapV, bk_TVar]
  omega
theorem grow_A (o : ByteArray → ByteArray) (ho : growO o) (v : TParam) : bk_TParam (mapA o v) ≤ 5 * bk_TParam v := by
  obtain ⟨a1, a2, a3, a4, a5⟩ := v
  have a := mapN_size o ho a1
  have b := mapN_size o ho a4
  simp only [mapA, bk_TParam]
  omega
theorem grow_F (o : ByteArray → ByteArray) (ho : growO o) (v : TField) : bk_TField (mapF o v) ≤ 5 * bk_TField v := by
  obtain ⟨a1, a2, a3, a4⟩ := v
  have a := mapN_size o ho a3
  simp only [mapF, bk_TField]
  omega
theorem grow_C (o : ByteArray → ByteArray) (ho : growO o) (v : TRec) : bk_TRec (mapC o v) ≤ 5 * bk_TRec v := by
  obtain ⟨a1, a2, a3, a4, a5⟩ := v
  have a := mapN_size o ho a3
  have b := grow_list (mapF o) bk_TField (grow_F o ho) a4
  simp only [mapC, bk_TRec, bks_TField_eq]
  omega
mutual
theorem grow_S (o : ByteArray → ByteArray) (ho : growO o) : ∀ e : TStmt, bk_TStmt (mapS o e) ≤ 5 * bk_TStmt e
  | ⟨mb, mt, op, nm, po, pn, pnm, pf, pl, E, down, more, body, els, e1, e2⟩ => by
    have a := mapN_size o ho nm
    have b := mapN_size o ho pnm
    have b' := mapN_size o ho pf
    have c := grow_Es o ho pl
    have d := grow_Es o ho E
    have e := grow_Ss o ho body
    have f := grow_Ss o ho els
    simp only [mapS, bk_TStmt]
    omega
theorem grow_Ss (o : ByteArray → ByteArray) (ho : growO o) : ∀ l : List TStmt, bks_TStmt (mapSs o l) ≤ 5 * bks_TStmt l
  | [] => Nat.zero_le _
  | x :: r => by
    have a := grow_S o ho x
    have b := grow_Ss o ho r
    simp only [mapSs, bks_TStmt]
    omega
end
mutual
theorem grow_R (o : ByteArray → ByteArray) (ho : growO o) : ∀ e : TRoutine, bk_TRoutine (mapR o e) ≤ 5 * bk_TRoutine e
  | ⟨mb, mt, nm, res, ps, vs, inner, body, e⟩ => by
    have a := mapN_size o ho nm
    have b := grow_list (mapA o) bk_TParam (grow_A o ho) ps
    have c := grow_list (mapV o) bk_TVar (grow_V o ho) vs
    have d := grow_Rs o ho inner
    have e := grow_Ss o ho body
    simp only [mapR, bk_TRoutine, bks_TParam_eq, bks_TVar_eq]
    omega
theorem grow_Rs (o : ByteArray → ByteArray) (ho : growO o) : ∀ l : List TRoutine, bks_TRoutine (mapRs o l) ≤ 5 * bks_TRoutine l
  | [] => Nat.zero_le _
  | x :: r => by
    have a := grow_R o ho x
    have b := grow_Rs o ho r
    simp only [mapRs, bks_TRoutine]
    omega
end
theorem grow_P (o : ByteArray → ByteArray) (ho : growO o) (v : TProgram) : bk_TProgram (mapP o v) ≤ 5 * bk_TProgram v := by
  obtain ⟨a1, a2, a3, a4, a5, a6, a7, a8, a9⟩ := v
  have a := mapN_size o ho a1
  have b := grow_list (mapC o) bk_TRec (grow_C o ho) a5
  have c := grow_list (mapV o) bk_TVar (grow_V o ho) a6
  have d := grow_Rs o ho a7
  have e := grow_Ss o ho a8
  simp only [mapP, bk_TProgram, bks_TRec_eq, bks_TVar_eq]
  omega
theorem pts_mem {s q : ByteArray} (h : q ∈ pts s) : q.size ≠ 0 ∧ q.size ≤ s.size := by
  obtain ⟨h1, h2⟩ := mem_pts.1 h
  exact ⟨h2, cutP_mem s q h1⟩
def okP (n : Nat) (q : ByteArray) : Prop := q.size ≠ 0 ∧ q.size ≤ n
theorem okP_mono {n m : Nat} {q : ByteArray} (h : okP n q) (hm : n ≤ m) : okP m q := ⟨h.1, Nat.le_trans h.2 hm⟩
theorem okP_pts {s q : ByteArray} {m : Nat} (h : q ∈ pts s) (hm : s.size ≤ m) : okP m q := okP_mono (pts_mem h) hm
theorem okP_list {α : Type} (nm : α → List ByteArray) (w : α → Nat) (h : ∀ x, ∀ q ∈ nm x, okP (w x) q) : ∀ l : List α, ∀ q ∈ l.flatMap nm, okP (l.map w).sum q
  | [], q, hq => by simp at hq
  | x :: r, q, hq => by
    simp only [List.flatMap_cons, List.mem_append] at hq
    simp only [List.map_cons, List.sum_cons]
    rcases hq with hq | hq
    · exact okP_mono (h x q hq) (by omega)
    · exact okP_mono (okP_list nm w h r q hq) (by omega)
mutual
theorem okP_E : ∀ e : TExpr, ∀ q ∈ nmE e, okP (bk_TExpr e) q
  | ⟨op, n, nm, f, l⟩, q, hq => by
    simp only [nmE, List.mem_append] at hq
    simp only [bk_TExpr]
    rcases hq with hq | hq | hq
    · exact okP_pts hq (by omega)
    · exact okP_pts hq (by omega)
    · exact okP_mono (okP_Es l q hq) (by omega)
theorem okP_Es : ∀ l : List TExpr, ∀ q ∈ nmEs l, okP (bks_TExpr l) q
  | [], q, hq => by simp [nmEs] at hq
  | x :: r, q, hq => by
    simp only [nmEs, List.mem_append] at hq
    simp only [bks_TExpr]
    rcases hq with hq | hq
    · exact okP_mono (okP_E x q hq) (by omega)
    · exact okP_mono (okP_Es r q hq) (by omega)
end
theorem okP_V (v : TVar) : ∀ q ∈ nmV v, okP (bk_TVar v) q := by
  obtain ⟨a1, a2, a3, a4, a5, a6⟩ := v
  intro q hq
  simp only [nmV, List.mem_append] at hq
  simp only [bk_TVar]
  rcases hq with hq | hq <;> exact okP_pts hq (by omega)
theorem okP_A (v : TParam) : ∀ q ∈ nmA v, okP (bk_TParam v) q := by
  obtain ⟨a1, a2, a3, a4, a5⟩ := v
  intro q hq
  simp only [nmA, List.mem_append] at hq
  simp only [bk_TParam]
  rcases hq with hq | hq <;> exact okP_pts hq (by omega)
theorem okP_F (v : TField) : ∀ q ∈ nmF v, okP (bk_TField v) q := by
  obtain ⟨a1, a2, a3, a4⟩ := v
  intro q hq
  simp only [nmF] at hq
  simp only [bk_TField]
  exact okP_pts hq (by omega)
theorem okP_C (v : TRec) : ∀ q ∈ nmC v, okP (bk_TRec v) q := by
  obtain ⟨a1, a2, a3, a4, a5⟩ := v
  intro q hq
  simp only [nmC, List.mem_append] at hq
  simp only [bk_TRec, bks_TField_eq]
  rcases hq with hq | hq
  · exact okP_pts hq (by omega)
  · exact okP_mono (okP_list nmF bk_TField okP_F a4 q hq) (by omega)
mutual
theorem okP_S : ∀ e : TStmt, ∀ q ∈ nmS e, okP (bk_TStmt e) q
  | ⟨mb, mt, op, nm, po, pn, pnm, pf, pl, E, down, more, body, els, e1, e2⟩, q, hq => by
    simp only [nmS, nmE, List.mem_append] at hq
    simp only [bk_TStmt]
    rcases hq with hq | (hq | hq | hq) | hq | hq | hq
    · exact okP_pts hq (by omega)
    · exact okP_pts hq (by omega)
    · exact okP_pts hq (by omega)
    · exact okP_mono (okP_Es pl q hq) (by omega)
    · exact okP_mono (okP_Es E q hq) (by omega)
    · exact okP_mono (okP_Ss body q hq) (by omega)
    · exact okP_mono (okP_Ss els q hq) (by omega)
theorem okP_Ss : ∀ l : List TStmt, ∀ q ∈ nmSs l, okP (bks_TStmt l) q
  | [], q, hq => by simp [nmSs] at hq
  | x :: r, q, hq => by
    simp only [nmSs, List.mem_append] at hq
    simp only [bks_TStmt]
    rcases hq with hq | hq
    · exact okP_mono (okP_S x q hq) (by omega)
    · exact okP_mono (okP_Ss r q hq) (by omega)
end
mutual
theorem okP_R : ∀ e : TRoutine, ∀ q ∈ nmR e, okP (bk_TRoutine e) q
  | ⟨mb, mt, nm, res, ps, vs, inner, body, e⟩, q, hq => by
    simp only [nmR, List.mem_append] at hq
    simp only [bk_TRoutine, bks_TParam_eq, bks_TVar_eq]
    rcases hq with hq | hq | hq | hq | hq
    · exact okP_pts hq (by omega)
    · exact okP_mono (okP_list nmA bk_TParam okP_A ps q hq) (by omega)
    · exact okP_mono (okP_list nmV bk_TVar okP_V vs q hq) (by omega)
    · exact okP_mono (okP_Rs inner q hq) (by omega)
    · exact okP_mono (okP_Ss body q hq) (by omega)
theorem okP_Rs : ∀ l : List TRoutine, ∀ q ∈ nmRs l, okP (bks_TRoutine l) q
  | [], q, hq => by simp [nmRs] at hq
  | x :: r, q, hq => by
    simp only [nmRs, List.mem_append] at hq
    simp only [bks_TRoutine]
    rcases hq with hq | hq
    · exact okP_mono (okP_R x q hq) (by omega)
    · exact okP_mono (okP_Rs r q hq) (by omega)
end
theorem okP_P (v : TProgram) : ∀ q ∈ nmP' v, okP (bk_TProgram v) q := by
  obtain ⟨a1, a2, a3, a4, a5, a6, a7, a8, a9⟩ := v
  intro q hq
  simp only [nmP', List.mem_append] at hq
  simp only [bk_TProgram, bks_TRec_eq, bks_TVar_eq]
  rcases hq with hq | hq | hq | hq | hq
  · exact okP_pts hq (by omega)
  · exact okP_mono (okP_list nmC bk_TRec okP_C a5 q hq) (by omega)
  · exact okP_mono (okP_list nmV bk_TVar okP_V a6 q hq) (by omega)
  · exact okP_mono (okP_Rs a7 q hq) (by omega)
  · exact okP_mono (okP_Ss a8 q hq) (by omega)
theorem any_mem (l : List ByteArray) (p : ByteArray) : (l.any fun z => z.toList == p.toList) = true ↔ p ∈ l := by
  simp only [List.any_eq_true, ba_dc]
  constructor
  · rintro ⟨z, hz, h⟩
    rw [(dc_iff _).1 h] at hz
    exact hz
  · intro h
    exact ⟨p, h, dc_true rfl⟩
theorem addN_mem {l : List ByteArray} {p q : ByteArray} : q ∈ addN l p ↔ q ∈ l ∨ q = p := by
  unfold addN
  split
  · rename_i h
    have := (any_mem l p).1 h
    constructor
    · exact .inl
    · rintro (h | rfl)
      · exact h
      · exact this
  · simp
theorem foldN_mem : ∀ (ps l : List ByteArray) (q : ByteArray), q ∈ ps.foldl addN l ↔ q ∈ l ∨ q ∈ ps
  | [], l, q => by simp
  | p :: r, l, q => by
    rw [List.foldl_cons, foldN_mem r, addN_mem, List.mem_cons, or_assoc]
def digB (i : Nat) : ByteArray := if i < 10 then ⟨#[UInt8.ofNat (48 + i)]⟩ else if i < 100 then ⟨#[UInt8.ofNat (48 + i / 10), UInt8.ofNat (48 + i % 10)]⟩ else ⟨#[UInt8.ofNat (48 + i / 100), UInt8.ofNat (48 + i / 10 % 10), UInt8.ofNat (48 + i % 10)]⟩
def decB (s : ByteArray) : Nat := s.data.toList.foldl (fun a c => if c = 126 then a else a * 10 + (c.toNat - 48)) 0
end Go.Ev
end
section
set_option linter.unusedVariables false
namespace Go.Proofs.YtlepjafokfhnfaaGreatDoor.Wd
open Go.RowKit Go.Proofs.YtlepjafokfhnfaaGreatDoorW.PrintWords
def decB (n : Nat) : ByteArray := ⟨(Lib.decDigits n).toArray⟩
def val (l : List UInt8) : Nat := l.foldl (fun a b => a * 10 + (b.toNat - 48)) 0
theorem val_snoc (l : List UInt8) (b : UInt8) : val (l ++ [b]) = val l * 10 + (b.toNat - 48) := by simp [val]
theorem val_dec (n : Nat) : val (Lib.decDigits n) = n := by
  induction n using Nat.strongRecOn with
  | _ n ih =>
    rw [Lib.decDigits]
    by_cases h : n < 10
    · rw [dif_pos h]
      show 0 * 10 + ((UInt8.ofNat (48 + n)).toNat - 48) = n
      rw [UInt8.toNat_ofNat']; omega
    · rw [dif_neg h, val_snoc, ih (n / 10) (by omega), UInt8.toNat_ofNat']; omega
theorem dec_inj {a b : Nat} (h : decB a = decB b) : a = b := by
  have : Lib.decDigits a = Lib.decDigits b := by
    have h1 : (decB a).data.toList = (decB b).data.toList := by rw [h]
    simpa [decB] using h1
  rw [← val_dec a, ← val_dec b, this]
def base (s : ByteArray) : ByteArray := s.extract 0 (min s.size 24)
def name (s : ByteArray) : Nat → ByteArray
  | 0 => s
  | n + 1 => base s ++ ⟨#[95]⟩ ++ decB (n + 1)
theorem name_inj (s : ByteArray) {a b : Nat} (h : name s (a + 1) = name s (b + 1)) : a = b := by
  have h1 : (base s ++ ⟨#[95]⟩ ++ decB (a + 1)).data.toList = (base s ++ ⟨#[95]⟩ ++ decB (b + 1)).data.toList := by
    show (name s (a + 1)).data.toList = (name s (b + 1)).data.toList
    rw [h]
  have h2 : (decB (a + 1)).data.toList = (decB (b + 1)).data.toList := by
    simpa using h1
  have h3 : decB (a + 1) = decB (b + 1) := by
    apply ByteArray.ext
    exact Array.toList_inj.1 h2
  have := dec_inj h3
  omega
theorem no_bar (d : Int) : ∀ x ∈ lst d, (95 : UInt8) ∉ x.data.toList := by
  have h0 : ((lst 0).all fun x => !x.data.toList.contains 95) = true := by kernel_rfl
  have h1 : ((lst 1).all fun x => !x.data.toList.contains 95) = true := by kernel_rfl
  have key : ∀ l : List ByteArray, (l.all fun x => !x.data.toList.contains 95) = true → ∀ x ∈ l, (95 : UInt8) ∉ x.data.toList := by
    intro l h x hx hm
    have := List.all_eq_true.1 h x hx
    simp [hm] at this
  by_cases e0 : d = 0
  · subst e0; exact key _ h0
  · by_cases e1 : d = 1
    · subst e1; exact key _ h1
    · have hl : lst d = [] := by unfold lst; rw [if_neg e0, if_neg e1]
      rw [hl]; simp
theorem name_word (s : ByteArray) (n : Nat) (d : Int) : mem (lst d) (name s (n + 1)) = false := by
  cases h : mem (lst d) (name s (n + 1)) with
  | false => rfl
  | true => exact absurd (by simp [name]) (no_bar d _ ((mem_iff _ _).1 h))
def bad (taken : List ByteArray) (x : ByteArray) : Bool := mem (lst 0) x || mem (lst 1) x || mem taken x
theorem bad_name (taken : List ByteArray) (s : ByteArray) (n : Nat) : bad taken (name s (n + 1)) = mem taken (name s (n + 1)) := by
  simp [bad, name_word]
theorem length_le_of_sub {α : Type} : ∀ (l m : List α), l.Nodup → (∀ x ∈ l, x ∈ m) → l.length ≤ m.length
  | [], m, _, _ => by simp
  | a :: l, m, hn, hs => by
    obtain ⟨p, q, rfl⟩ := List.append_of_mem (hs a (by simp))
    have hn' := List.nodup_cons.1 hn
    have := length_le_of_sub l (p ++ q) hn'.2 (fun x hx => by
      have := hs x (by simp [hx])
      have hne : x ≠ a := fun e => hn'.1 (e ▸ hx)
      simpa [hne] using this)
    simp at this ⊢
    omega
theorem some_free (taken : List ByteArray) (s : ByteArray) : ∃ n, n ≤ taken.length + 1 ∧ bad taken (name s n) = false := by
  by_cases hex : ∃ n, n ≤ taken.length + 1 ∧ bad taken (name s n) = false
  · exact hex
  · exfalso
    have hall : ∀ n, n ≤ taken.length + 1 → bad taken (name s n) = true := by
      intro n hn
      cases h : bad taken (name s n) with
      | true => rfl
      | false => exact absurd ⟨n, hn, h⟩ hex
    have := length_le_of_sub ((List.range (taken.length + 1)).map fun n => name s (n + 1)) taken ?_ ?_
    · simp at this; omega
    · rw [List.nodup_iff_pairwise_ne, List.pairwise_map]
      refine List.Pairwise.imp ?_ (List.nodup_iff_pairwise_ne.1 List.nodup_range)
      intro a b hab e
      exact hab (name_inj s e)
    · intro x hx
      obtain ⟨n, hn, rfl⟩ := List.mem_map.1 hx
      have h1 := hall (n + 1) (by have := List.mem_range.1 hn; omega)
      rw [bad_name] at h1
      exact (mem_iff _ _).1 h1
def tries (taken : List ByteArray) (s : ByteArray) : Nat := (List.range (taken.length + 2)).findIdx fun n => !bad taken (name s n)
theorem tries_le (taken : List ByteArray) (s : ByteArray) : tries taken s ≤ taken.length + 1 := by
  obtain ⟨n, hn, hf⟩ := some_free taken s
  have : tries taken s < (List.range (taken.length + 2)).length := List.findIdx_lt_length_of_exists ⟨n, by rw [List.mem_range]; omega, by simp [hf]⟩
  rw [List.length_range] at this
  omega
theorem tries_free (taken : List ByteArray) (s : ByteArray) : bad taken (name s (tries taken s)) = false := by
  have hlt : tries taken s < (List.range (taken.length + 2)).length := by rw [List.length_range]; have := tries_le taken s; omega
  have := List.findIdx_getElem (xs := List.range (taken.length + 2)) (p := fun n => !bad taken (name s n)) (w := hlt)
  have h3 : (!bad taken (name s ((List.range (taken.length + 2))[tries taken s]'hlt))) = true := this
  rw [show (List.range (taken.length + 2))[tries taken s]'hlt = tries taken s from List.getElem_range _] at h3
  simpa using h3
theorem tries_bad (taken : List ByteArray) (s : ByteArray) (k : Nat) (hk : k < tries taken s) : bad taken (name s k) = true := by
  have := List.not_of_lt_findIdx (show k < (List.range (taken.length + 2)).findIdx (fun n => !bad taken (name s n)) from hk)
  rw [List.getElem_range] at this
  simpa using this
def fresh (s : ByteArray) (taken : List ByteArray) : ByteArray := name s (tries taken s)
end Go.Proofs.YtlepjafokfhnfaaGreatDoor.Wd
end
section
open Go
namespace Go.Ev
open Go.Proofs.YtlepjafokfhnfaaGreatDoor
set_option maxRecDepth 100000
set_option maxHeartbeats 4000000
set_option linter.unusedVariables false
set_option linter.unusedSimpArgs false
theorem index_ok (k : Nat) (l : List ByteArray) (x : ByteArray) (hk : l.length < k) (hm : l.length ≤ maxLen) : ∃ r : Int, (FF hFam (k + 1)).f_slices_Index_string (l, x, ()) = some r ∧ (decide (r ≥ 0)) = Wd.mem l x := by
  show ∃ r : Int, B_slices_Index_string (FF hFam k) k l x = some r ∧ _
  unfold B_slices_Index_string
  have key : ∀ j i, i ≤ l.length → l.length - i < j → ∃ r : Int, Lslices_Index_string_2 (FF hFam k) k l x j l x (l.length : Int) (i : Int) = some r ∧ (decide (r ≥ 0)) = Wd.mem (l.drop i) x := by
    refine up_ind l.length (fun j => ?_) (fun j i hi ih => ?_)
    · refine ⟨-1, ?_, ?_⟩
      · simp only [Lslices_Index_string_2]
        rw [if_neg (by simp)]
      · rw [List.drop_length]
        rfl
    · have hd := List.drop_eq_getElem_cons hi
      simp only [Lslices_Index_string_2]
      rw [if_pos (lt_dec hi), if_pos (by omega), if_pos (by omega), getD_at l i _ hi, wrap_succ hi hm, ba_beq]
      by_cases he : x = l[i]
      · refine ⟨(i : Int), by rw [if_pos (by simpa using he)], ?_⟩
        rw [hd]
        have h1 : Wd.mem (l[i] :: l.drop (i + 1)) x = true := by unfold Wd.mem; rw [List.any_cons, decide_eq_true he.symm, Bool.true_or]
        rw [h1]
        simp
      · rw [if_neg (by simpa using he)]
        obtain ⟨r, h1, h2⟩ := ih
        refine ⟨r, h1, ?_⟩
        rw [h2, hd]
        have h3 : decide (l[i] = x) = false := by simpa using fun e : l[i] = x => he e.symm
        simp only [Wd.mem, List.any_cons, h3, Bool.false_or]
  obtain ⟨r, h1, h2⟩ := key k 0 (Nat.zero_le _) (by omega)
  exact ⟨r, h1, by rw [h2, List.drop_zero]⟩
theorem contains_ok (k : Nat) (l : List ByteArray) (x : ByteArray) (hk : l.length < k) (hm : l.length ≤ maxLen) : (FF hFam (k + 2)).f_slices_Contains_string (l, x, ()) = some (Wd.mem l x) := by
  obtain ⟨r, h1, h2⟩ := index_ok k l x hk hm
  show B_slices_Contains_string (FF hFam (k + 1)) (k + 1) l x = _
  unfold B_slices_Contains_string
  rw [h1, Option.bind_some, h2]
theorem decB_dig (n : Nat) (h : n < 1000) : Wd.decB n = digB n := by
  unfold Wd.decB digB
  by_cases h1 : n < 10
  · rw [if_pos h1, Lib.decDigits_one h1]
  · rw [if_neg h1]
    by_cases h2 : n < 100
    · rw [if_pos h2, Lib.decDigits_two h1 h2]
    · rw [if_neg h2]
      have h3 : ¬ n / 10 < 10 := by omega
      rw [Lib.decDigits, dif_neg h1, Lib.decDigits_two h3 (by omega)]
      have e1 : n / 10 / 10 = n / 100 := by omega
      rw [e1]
      rfl
theorem decB_size (n : Nat) (h : n < 1000) : (Wd.decB n).size ≤ 3 := by
  rw [decB_dig n h]
  unfold digB
  split
  · exact Nat.le_of_ble_eq_true rfl
  · split
    · exact Nat.le_of_ble_eq_true rfl
    · exact Nat.le_of_ble_eq_true rfl
theorem digits_all7 (k : Nat) : ((List.range 700).map fun i => (FF hFam (k + 12)).f_r01_Digits (((i : Nat) : Int), ())) = (List.range 700).map fun i => some (digB i) := by kernel_rfl
theorem digits_at7 (k i : Nat) (hi : i < 700) : (FF hFam (k + 12)).f_r01_Digits ((i : Int), ()) = some (Wd.decB i) := by
  have h := congrArg (fun l => l[i]?) (digits_all7 k)
  rw [decB_dig i (by omega)]
  simpa [hi] using h
theorem itoa_at (k i : Nat) : (FF hFam (k + 1)).f_strconv_Itoa ((i : Int), ()) = if i ≤ 9223372036854775807 then some (Wd.decB i) else none := by
  show (if 0 ≤ (i : Int) ∧ (i : Int) ≤ 9223372036854775807 then some (itoaB i) else none) = _
  have e : itoaB (i : Int) = Wd.decB i := by
    unfold itoaB Wd.decB Lib.itoa
    rw [if_neg (by omega)]
    rfl
  rw [e]
  by_cases h : i ≤ 9223372036854775807
  · rw [if_pos h, if_pos (by omega)]
  · rw [if_neg h, if_neg (by omega)]
theorem base_small {s : ByteArray} (hs : s.size ≤ 24) : Wd.base s = s := by
  unfold Wd.base
  rw [Nat.min_eq_left hs]
  simp
theorem name_succ {s : ByteArray} (hs : s.size ≤ 24) (n : Nat) : Wd.name s (n + 1) = s ++ { data := #[95] : ByteArray } ++ Wd.decB (n + 1) := by
  show Wd.base s ++ ⟨#[95]⟩ ++ Wd.decB (n + 1) = _
  rw [base_small hs]
theorem s95 : ({ data := #[95] : ByteArray } : ByteArray).size = 1 := rfl
theorem Fresh_ok (k : Nat) (s : ByteArray) (taken : List ByteArray) (hs : s.size ≤ 24) (ht : taken.length ≤ 650) (hk : taken.length + 10 ≤ k) : (FF hFam (k + 3)).f_words_Fresh (s, taken, ()) = some (Wd.fresh s taken) := by
  have htr := Wd.tries_le taken s
  show B_words_Fresh (FF hFam (k + 2)) (k + 2) s taken = _
  unfold B_words_Fresh
  have key : ∀ j i, i ≤ Wd.tries taken s → Wd.tries taken s - i < j → Lwords_Fresh_3 (FF hFam (k + 2)) (k + 2) s taken j s taken (Wd.name s i) ((i + 1 : Nat) : Int) = some (Wd.fresh s taken) := by
    refine up_ind (Wd.tries taken s) (fun j => ?_) (fun j i hi ih => ?_)
    · have hf := Wd.tries_free taken s
      unfold Wd.bad at hf
      simp only [Bool.or_eq_false_iff] at hf
      obtain ⟨⟨h1, h2⟩, h3⟩ := hf
      have e1 : (FF hFam (k + 2)).f_words_Is (0, Wd.name s (Wd.tries taken s), ()) = some (Wd.mem (Wd.lst 0) (Wd.name s (Wd.tries taken s))) := rfl
      have e2 : (FF hFam (k + 2)).f_words_Is (1, Wd.name s (Wd.tries taken s), ()) = some (Wd.mem (Wd.lst 1) (Wd.name s (Wd.tries taken s))) := rfl
      simp only [Lwords_Fresh_3]
      rw [e1, Option.bind_some, if_pos h1, e2, Option.bind_some, h2, if_pos (by rfl), contains_ok k taken _ (by omega) (by simp only [maxLen]; omega), Option.bind_some, h3, if_neg (by simp)]
      rfl
    · have hb := Wd.tries_bad taken s i hi
      have hi' : i + 1 < 1000 := by omega
      have hdz := decB_size (i + 1) hi'
      have e1 : (FF hFam (k + 2)).f_words_Is (0, Wd.name s i, ()) = some (Wd.mem (Wd.lst 0) (Wd.name s i)) := rfl
      have e2 : (FF hFam (k + 2)).f_words_Is (1, Wd.name s i, ()) = some (Wd.mem (Wd.lst 1) (Wd.name s i)) := rfl
      have e3 := contains_ok k taken (Wd.name s i) (by omega) (by simp only [maxLen]; omega)
      have e4 : (if 24 < (s.size : Int) then 24 else (s.size : Int)) = (s.size : Int) := by rw [if_neg (by omega)]
      have e5 : (FF hFam (k + 2)).f_strconv_Itoa (((i + 1 : Nat) : Int), ()) = some (Wd.decB (i + 1)) := by rw [itoa_at (k + 1), if_pos (by omega)]
      have e6 : s.extract 0 s.size = s := by simp
      have hm1 : ¬ ((s.size + 1 : Nat) : Int) > IntKind.i64.max := by
        show ¬ ((s.size + 1 : Nat) : Int) > 9223372036854775807
        omega
      have hm2 : ¬ ((s.size + 1 + (Wd.decB (i + 1)).size : Nat) : Int) > IntKind.i64.max := by
        show ¬ ((s.size + 1 + (Wd.decB (i + 1)).size : Nat) : Int) > 9223372036854775807
        omega
      have ew : IntKind.i64.wrap (((i + 1 : Nat) : Int) + 1) = ((i + 1 + 1 : Nat) : Int) := wrap_succ (n := i + 2) (by omega) (by simp only [maxLen]; omega)
      rw [name_succ hs] at ih
      have tail : (if (↑0 : Int) ≤ (s.size : Int) then (if (s.size : Int) ≤ (s.size : Int) then (if ((s.extract (0 : Int).toNat ((s.size : Nat) : Int).toNat).size + ({ data := #[95] : ByteArray } : ByteArray).size : Nat) > IntKind.i64.max then none else
          (some (Wd.decB (i + 1))).bind fun t => if (((s.extract (0 : Int).toNat ((s.size : Nat) : Int).toNat ++ { data := #[95] : ByteArray }).size + ByteArray.size t : Nat) : Int) > IntKind.i64.max then none else
            Lwords_Fresh_3 (FF hFam (k + 2)) (k + 2) s taken j s taken (s.extract (0 : Int).toNat ((s.size : Nat) : Int).toNat ++ { data := #[95] : ByteArray } ++ t) (((i + 1 + 1 : Nat) : Int))) else none) else none) = some (Wd.fresh s taken) := by
        simp only [Int.toNat_natCast, Int.toNat_zero, e6, ByteArray.size_append, s95]
        rw [if_pos (by omega), if_pos (by omega), if_neg hm1, Option.bind_some, if_neg hm2]
        exact ih
      simp only [Lwords_Fresh_3, e4]
      rw [e1, Option.bind_some]
      unfold Wd.bad at hb
      by_cases h1 : Wd.mem (Wd.lst 0) (Wd.name s i) = true
      · rw [if_neg (by rw [h1]; simp), e5, ew]
        exact tail
      · have h1' := Bool.eq_false_iff.2 h1
        rw [if_pos h1', e2, Option.bind_some, e5, ew]
        by_cases h2 : Wd.mem (Wd.lst 1) (Wd.name s i) = true
        · rw [if_neg (by rw [h2]; simp)]
          exact tail
        · have h2' := Bool.eq_false_iff.2 h2
          rw [h1', h2', Bool.false_or, Bool.false_or] at hb
          rw [if_pos (by rw [h2']; rfl), e3, Option.bind_some, hb, if_pos (by rfl)]
          exact tail
  have := key (k + 2) 0 (Nat.zero_le _) (by omega)
  exact this
theorem rFresh_ok (k : Nat) (s : ByteArray) (taken : List ByteArray) (hs : s.size ≤ 24) (ht : taken.length ≤ 650) (hk : taken.length + 40 ≤ k) : (FF hFam (k + 3)).f_r04_Fresh (s, taken, ()) = some (Wd.fresh s taken) := by
  have htr := Wd.tries_le taken s
  obtain ⟨k', rfl⟩ : ∃ k', k = k' + 12 := ⟨k - 12, by omega⟩
  have hIs : ∀ d x, (FF hFam (k' + 12 + 2)).f_r04_Is (d, x, ()) = some (Wd.mem (Wd.lst d) x) := fun d x => r04_Is_ok (k' + 12) d x (by omega)
  have hAm : ∀ x, (FF hFam (k' + 12 + 2)).f_r04_Among (taken, x, ()) = some (Wd.mem taken x) := fun x => Among_ok (k' + 13) taken x (by omega) (by simp only [maxLen]; omega)
  show B_r04_Fresh (FF hFam (k' + 12 + 2)) (k' + 12 + 2) s taken = _
  unfold B_r04_Fresh
  have key : ∀ j i, i ≤ Wd.tries taken s → Wd.tries taken s - i < j → 0 < i → Lr04_Fresh_7 (FF hFam (k' + 12 + 2)) (k' + 12 + 2) s taken j taken s (i : Int) = some (Wd.fresh s taken) := by
    have step : ∀ j i, i ≤ Wd.tries taken s → 0 < i → ((i : Nat) < Wd.tries taken s → Lr04_Fresh_7 (FF hFam (k' + 12 + 2)) (k' + 12 + 2) s taken j taken s ((i + 1 : Nat) : Int) = some (Wd.fresh s taken)) → Lr04_Fresh_7 (FF hFam (k' + 12 + 2)) (k' + 12 + 2) s taken (j + 1) taken s (i : Int) = some (Wd.fresh s taken) := by
      intro j i hi h0 ih
      obtain ⟨n, rfl⟩ : ∃ n, i = n + 1 := ⟨i - 1, by omega⟩
      have hdz := decB_size (n + 1) (by omega)
      have hd := digits_at7 (k' + 2) (n + 1) (by omega)
      have hm1 : ¬ ((s.size + 1 : Nat) : Int) > IntKind.i64.max := by
        show ¬ ((s.size + 1 : Nat) : Int) > 9223372036854775807
        omega
      have hm2 : ¬ ((s.size + 1 + (Wd.decB (n + 1)).size : Nat) : Int) > IntKind.i64.max := by
        show ¬ ((s.size + 1 + (Wd.decB (n + 1)).size : Nat) : Int) > 9223372036854775807
        omega
      have ew : IntKind.i64.wrap (((n + 1 : Nat) : Int) + 1) = ((n + 1 + 1 : Nat) : Int) := wrap_succ (n := n + 2) (by omega) (by simp only [maxLen]; omega)
      have el : IntKind.i64.wrap ((taken.length : Int) + 1) = ((taken.length + 1 : Nat) : Int) := wrap_succ (n := taken.length + 1) (by omega) (by simp only [maxLen]; omega)
      have hk2 : k' + 12 + 2 = k' + 2 + 12 := by omega
      rw [hk2] at *
      simp only [Lr04_Fresh_7, el, ew]
      rw [if_pos (by simpa using (by omega : ((n + 1 : Nat) : Int) ≤ ((taken.length + 1 : Nat) : Int)))]
      simp only [ByteArray.size_append, s95]
      rw [if_neg hm1, hd, Option.bind_some, if_neg hm2, ← name_succ hs, hIs, Option.bind_some, Wd.name_word, if_pos (by rfl), hIs, Option.bind_some, Wd.name_word, if_pos (by rfl), hAm, Option.bind_some]
      have hbn := Wd.bad_name taken s n
      by_cases hlt : n + 1 < Wd.tries taken s
      · have hb := Wd.tries_bad taken s (n + 1) hlt
        rw [hbn] at hb
        rw [hb, if_neg (by simp)]
        exact ih hlt
      · have he : n + 1 = Wd.tries taken s := by omega
        have hf := Wd.tries_free taken s
        rw [← he, hbn] at hf
        rw [hf, if_pos (by rfl)]
        unfold Wd.fresh
        rw [← he]
    intro j i hi hj h0
    have := up_ind (C := fun j i => 0 < i → Lr04_Fresh_7 (FF hFam (k' + 12 + 2)) (k' + 12 + 2) s taken j taken s (i : Int) = some (Wd.fresh s taken)) (Wd.tries taken s) (fun j h0 => step j _ (Nat.le_refl _) h0 fun h => absurd h (Nat.lt_irrefl _)) (fun j i hi ih h0 => step j i (by omega) h0 fun _ => ih (by omega)) j i hi hj
    exact this h0
  rw [hIs, Option.bind_some, if_neg (c := (decide ((s.size : Int) > 24)) = true) (by simpa using (by omega : ¬ (s.size : Int) > 24))]
  have hz : Wd.name s 0 = s := rfl
  have tail : Wd.bad taken s = true → Lr04_Fresh_7 (FF hFam (k' + 12 + 2)) (k' + 12 + 2) s taken (k' + 12 + 2) taken s 1 = some (Wd.fresh s taken) := fun hb => by
    have h1 : 0 < Wd.tries taken s := by
      rcases Nat.eq_zero_or_pos (Wd.tries taken s) with h | h
      · have := Wd.tries_free taken s
        rw [h, hz, hb] at this
        cases this
      · exact h
    exact key (k' + 12 + 2) 1 h1 (by omega) (by omega)
  by_cases h1 : Wd.mem (Wd.lst 0) s = true
  · rw [if_neg (by rw [h1]; simp)]
    exact tail (by unfold Wd.bad; rw [h1]; rfl)
  · have h1' := Bool.eq_false_iff.2 h1
    rw [if_pos (by rw [h1']; rfl), hIs, Option.bind_some]
    by_cases h2 : Wd.mem (Wd.lst 1) s = true
    · rw [if_neg (by rw [h2]; simp)]
      exact tail (by unfold Wd.bad; rw [h2]; simp)
    · have h2' := Bool.eq_false_iff.2 h2
      rw [if_pos (by rw [h2']; rfl), hAm, Option.bind_some]
      by_cases h3 : Wd.mem taken s = true
      · rw [if_neg (by rw [h3]; simp)]
        exact tail (by unfold Wd.bad; rw [h3]; simp)
      · have h3' := Bool.eq_false_iff.2 h3
        rw [if_pos (by rw [h3']; rfl)]
        have hb : Wd.bad taken s = false := by unfold Wd.bad; rw [h1', h2', h3']; rfl
        have : Wd.tries taken s = 0 := by
          rcases Nat.eq_zero_or_pos (Wd.tries taken s) with h | h
          · exact h
          · have := Wd.tries_bad taken s 0 h
            rw [hz, hb] at this
            cases this
        unfold Wd.fresh
        rw [this]
        rfl
end Go.Ev
end
section
open Go
namespace Go.Ev
open Go.Proofs.YtlepjafokfhnfaaGreatDoor
set_option maxRecDepth 100000
set_option maxHeartbeats 4000000
set_option linter.unusedVariables false
set_option linter.unusedSimpArgs false
def isW (d : Int) (n : ByteArray) : Bool := Wd.mem (Wd.lst d) n
def tblN (d : Int) : List ByteArray → List ByteArray → List TPair
  | [], _ => []
  | n :: r, taken => if isW d n = true then ⟨n, Wd.fresh n taken⟩ :: tblN d r (taken ++ [Wd.fresh n taken]) else tblN d r taken
theorem word_small {d : Int} {n : ByteArray} (h : isW d n = true) : n.size ≤ 12 ∧ 2 ≤ n.size := by
  have hm := (Wd.mem_iff _ _).1 h
  have h0 : ((Wd.lst 0).all fun x => Nat.ble x.size 12 && Nat.ble 2 x.size) = true := by kernel_rfl
  have h1 : ((Wd.lst 1).all fun x => Nat.ble x.size 12 && Nat.ble 2 x.size) = true := by kernel_rfl
  have key : ∀ l : List ByteArray, (l.all fun x => Nat.ble x.size 12 && Nat.ble 2 x.size) = true → ∀ x ∈ l, x.size ≤ 12 ∧ 2 ≤ x.size := fun l h x hx => by
    have := List.all_eq_true.1 h x hx
    simp only [Bool.and_eq_true] at this
    exact ⟨Nat.le_of_ble_eq_true this.1, Nat.le_of_ble_eq_true this.2⟩
  by_cases e0 : d = 0
  · subst e0; exact key _ h0 n hm
  · by_cases e1 : d = 1
    · subst e1; exact key _ h1 n hm
    · have hl : Wd.lst d = [] := by unfold Wd.lst; rw [if_neg e0, if_neg e1]
      rw [hl] at hm; simp at hm
theorem tblN_filter (d : Int) : ∀ (l taken : List ByteArray), tblN d (l.filter (isW d)) taken = tblN d l taken
  | [], _ => rfl
  | n :: r, taken => by
    by_cases h : isW d n = true
    · rw [List.filter_cons_of_pos h, tblN, tblN, if_pos h, if_pos h, tblN_filter d r]
    · rw [List.filter_cons_of_neg h, tblN, if_neg h, tblN_filter d r]
theorem tblN_len (d : Int) : ∀ (l taken : List ByteArray), (tblN d l taken).length ≤ l.length
  | [], _ => Nat.le_refl _
  | n :: r, taken => by
    rw [tblN]
    split
    · have := tblN_len d r (taken ++ [Wd.fresh n taken])
      simp only [List.length_cons]; omega
    · have := tblN_len d r taken
      simp only [List.length_cons]; omega
theorem addN_nodup {l : List ByteArray} (h : l.Nodup) (p : ByteArray) : (addN l p).Nodup := by
  unfold addN
  split
  · exact h
  · rename_i hn
    rw [List.nodup_append]
    refine ⟨h, by simp, fun a ha b hb e => ?_⟩
    simp at hb
    subst hb
    subst e
    exact hn ((any_mem l a).2 ha)
theorem foldN_nodup : ∀ (ps l : List ByteArray), l.Nodup → (ps.foldl addN l).Nodup
  | [], l, h => h
  | p :: r, l, h => by rw [List.foldl_cons]; exact foldN_nodup r _ (addN_nodup h p)
theorem clash_filter (d : Int) (l : List ByteArray) (h : l.Nodup) : Wd.clash (Wd.lst d) l = l.filter (isW d) := by
  have key : ∀ (l out : List ByteArray), l.Nodup → (∀ x ∈ l, x ∉ out) → l.foldl (Wd.step (Wd.lst d)) out = out ++ l.filter (isW d) := by
    intro l
    induction l with
    | nil => intro out _ _; simp
    | cons x r ih =>
      intro out hn ho
      have hn' := List.nodup_cons.1 hn
      rw [List.foldl_cons]
      have hx : Wd.mem out x = false := by
        cases hq : Wd.mem out x with
        | false => rfl
        | true => exact absurd ((Wd.mem_iff _ _).1 hq) (ho x List.mem_cons_self)
      by_cases hw : isW d x = true
      · have e : Wd.step (Wd.lst d) out x = out ++ [x] := by
          unfold Wd.step
          have hw' : Wd.mem (Wd.lst d) x = true := hw
          rw [hw', hx, if_pos (by rfl)]
        rw [e, ih _ hn'.2, List.filter_cons_of_pos hw, List.append_assoc]
        · rfl
        · intro y hy hyo
          rw [List.mem_append] at hyo
          rcases hyo with hyo | hyo
          · exact ho y (List.mem_cons_of_mem _ hy) hyo
          · simp at hyo
            subst hyo
            exact hn'.1 hy
      · have e : Wd.step (Wd.lst d) out x = out := by
          unfold Wd.step
          have hw' : Wd.mem (Wd.lst d) x = false := Bool.eq_false_iff.2 hw
          rw [hw', if_neg (by simp)]
        rw [e, ih _ hn'.2 (fun y hy => ho y (List.mem_cons_of_mem _ hy)), List.filter_cons_of_neg hw]
  have := key l [] h (by simp)
  simpa [Wd.clash] using this
def namesP (p : TProgram) : List ByteArray := (nmP' p).foldl addN []
theorem namesP_mem (p : TProgram) (q : ByteArray) : q ∈ namesP p ↔ q ∈ nmP' p := by unfold namesP; rw [foldN_mem]; simp
theorem namesP_nodup (p : TProgram) : (namesP p).Nodup := foldN_nodup _ _ List.nodup_nil
theorem namesP_size (p : TProgram) {q : ByteArray} (h : q ∈ namesP p) : q.size ≠ 0 ∧ q.size ≤ bk_TProgram p := okP_P p q ((namesP_mem p q).1 h)
theorem table_loop (k : Nat) (d : Int) (p : TProgram) (c : List ByteArray) (hc : ∀ x ∈ c, isW d x = true) (hl : c.length ≤ 300) (hk : 1000 ≤ k) :
    ∀ j i, i ≤ c.length → c.length - i < j → ∀ (taken : List ByteArray) (out : List TPair), taken.length ≤ 300 + i → out.length ≤ i → Lrename_Table_5 (FF hFam (k + 3)) (k + 3) d p j (c.length : Int) (i : Int) taken out c = some (out ++ tblN d (c.drop i) taken) := by
  refine up_ind c.length (fun j taken out ht ho => ?_) (fun j i hi ih taken out ht ho => ?_)
  · simp only [Lrename_Table_5]
    rw [if_neg (by simp), List.drop_length]
    simp [tblN]
  · have hd := List.drop_eq_getElem_cons hi
    have hw := hc c[i] (List.getElem_mem hi)
    simp only [Lrename_Table_5]
    rw [if_pos (lt_dec hi), if_pos (by omega), if_pos (by omega), getD_at c i _ hi, Fresh_ok k c[i] taken (by have := word_small hw; omega) (by omega) (by omega), Option.bind_some,
      if_pos (by simp only [List.length_append, List.length_singleton]; omega), if_pos (by simp only [List.length_append, List.length_singleton]; omega), wrap_succ hi (by simp only [maxLen]; omega),
      ih _ _ (by simp only [List.length_append, List.length_singleton]; omega) (by simp only [List.length_append, List.length_singleton]; omega), hd]
    rw [tblN, if_pos hw, List.append_assoc]
    rfl
theorem rtable_loop (k : Nat) (d : Int) (p : TProgram) (c : List ByteArray) (hl : c.length ≤ 300) (hk : 1000 ≤ k) :
    ∀ j i, i ≤ c.length → c.length - i < j → ∀ (taken : List ByteArray) (out : List TPair), taken.length ≤ 300 + i → out.length ≤ i → Lr16_Table_5 (FF hFam (k + 3)) (k + 3) d p j d c (i : Int) taken out = some (out ++ tblN d (c.drop i) taken) := by
  refine up_ind c.length (fun j taken out ht ho => ?_) (fun j i hi ih taken out ht ho => ?_)
  · simp only [Lr16_Table_5]
    rw [if_neg (by simp), List.drop_length]
    simp [tblN]
  · have hd := List.drop_eq_getElem_cons hi
    simp only [Lr16_Table_5]
    rw [if_pos (lt_dec hi), if_pos (by omega), if_pos (by omega), getD_at c i _ hi, r04_Is_ok (k + 1) d c[i] (by omega), Option.bind_some, wrap_succ hi (by simp only [maxLen]; omega)]
    by_cases hw : isW d c[i] = true
    · have hw' : Wd.mem (Wd.lst d) c[i] = true := hw
      rw [if_pos hw', if_pos (by omega), if_pos (by omega), rFresh_ok k c[i] taken (by have := word_small hw; omega) (by omega) (by omega), Option.bind_some,
        if_pos (by simp only [List.length_append, List.length_singleton]; omega), if_pos (by omega), if_pos (by omega), if_pos (by simp only [List.length_append, List.length_singleton]; omega),
        ih _ _ (by simp only [List.length_append, List.length_singleton]; omega) (by simp only [List.length_append, List.length_singleton]; omega), hd]
      rw [tblN, if_pos hw, List.append_assoc]
      rfl
    · have hw' : ¬ Wd.mem (Wd.lst d) c[i] = true := hw
      rw [if_neg hw', ih _ _ (by omega) (by omega), hd]
      rw [tblN, if_neg hw]
def tblP (d : Int) (p : TProgram) : List TPair := tblN d (namesP p) (namesP p)
theorem Table_ok (k : Nat) (d : Int) (p : TProgram) (hb : bk_TProgram p ≤ 8388608) (hk : 3 * bk_TProgram p + 1030 ≤ k) (hl : (namesP p).length ≤ 300) : (FF hFam (k + 10)).f_rename_Table (d, p, ()) = some (tblP d p) := by
  show B_rename_Table (FF hFam (k + 9)) (k + 9) d p = _
  unfold B_rename_Table
  have e1 := tree_Names_ok k p hb (by omega)
  have e2 : (nmP' p).foldl addN [] = namesP p := rfl
  rw [e2] at e1
  have e3 : (FF hFam (k + 9)).f_words_Clash (d, namesP p, ()) = some ((namesP p).filter (isW d)) := by
    show (if (namesP p).length ≤ 1000 ∧ ((namesP p).all fun z => decide (z.size ≤ maxLen)) = true then some (Wd.clash (Wd.lst d) (namesP p)) else none) = _
    rw [if_pos ⟨by omega, List.all_eq_true.2 fun z hz => by have := (namesP_size p hz).2; simp only [maxLen]; exact decide_eq_true (by omega)⟩, clash_filter d _ (namesP_nodup p)]
  have hfl := List.length_filter_le (isW d) (namesP p)
  rw [e1, Option.bind_some, clone_ok (k + 9) _ (by omega), Option.bind_some, e3, Option.bind_some]
  have := table_loop (k + 6) d p ((namesP p).filter (isW d)) (fun x hx => (List.mem_filter.1 hx).2) (by omega) (by omega) (k + 9) 0 (Nat.zero_le _) (by omega) (namesP p) [] (by omega) (by simp)
  simp only [Int.ofNat_zero, List.drop_zero, List.nil_append] at this
  rw [tblN_filter] at this
  exact this
theorem rTable_ok (k : Nat) (d : Int) (p : TProgram) (hb : bk_TProgram p ≤ 8388608) (hk : 3 * bk_TProgram p + 17000100 ≤ k) (hl : (namesP p).length ≤ 300) : (FF hFam (k + 5)).f_r16_Table (d, p, ()) = some (tblP d p) := by
  show B_r16_Table (FF hFam (k + 4)) (k + 4) d p = _
  unfold B_r16_Table
  have e1 := r07_Names_ok k p hb (by omega)
  have e2 : (nmP' p).foldl addN [] = namesP p := rfl
  rw [e2] at e1
  rw [e1, Option.bind_some, List.nil_append, if_pos (by omega)]
  have := rtable_loop (k + 1) d p (namesP p) (by omega) (by omega) (k + 4) 0 (Nat.zero_le _) (by omega) (namesP p) [] (by omega) (by simp)
  simp only [Int.ofNat_zero, List.drop_zero, List.nil_append] at this
  exact this
theorem TPair.eq_iff (x y : TPair) : x = y ↔ x.Old = y.Old ∧ x.New = y.New := by cases x; cases y; simp
theorem L_SamePairs (s : Fam) (k : Nat) (x y : List TPair) : ∀ j v0 v1 v2, Lr16_SamePairs_4 s k x y j v0 v1 v2 = eqH dd_TPair (fun a b => some (a.Old.toList == b.Old.toList && (a.New.toList == b.New.toList && true))) j v0 v1 v2 := by
  intro j
  induction j with
  | zero => intros; rfl
  | succ j ih => intros; simp only [Lr16_SamePairs_4, eqH, ih, Option.bind_some]
theorem SamePairs_ok (k : Nat) (a b : List TPair) (hk : a.length < k) (hm : a.length ≤ maxLen) : (FF hFam (k + 1)).f_r16_SamePairs (a, b, ()) = some (dc (a = b)) := by
  show B_r16_SamePairs (FF hFam k) k a b = _
  unfold B_r16_SamePairs
  rw [L_SamePairs]
  exact eqI _ _ a b k hk hm fun i _ _ => congrArg some (by rw [ba_dc, ba_dc, Bool.and_true, and_dc]; exact dc_eq (TPair.eq_iff _ _).symm)
end Go.Ev
end
section
open Go
namespace Go.Ev
open Go.Proofs.YtlepjafokfhnfaaGreatDoor
set_option maxRecDepth 100000
set_option maxHeartbeats 4000000
set_option linter.unusedVariables false
set_option linter.unusedSimpArgs false
def sepd : List ByteArray → ByteArray
  | [] => ByteArray.empty
  | p :: r => { data := #[36] : ByteArray } ++ p ++ sepd r
theorem ba_list {a b : ByteArray} (h : a.data.toList = b.data.toList) : a = b := by
  apply ByteArray.ext
  exact Array.toList_inj.1 h
theorem sepd_data : ∀ l : List ByteArray, (sepd l).data.toList = (l.map fun p => 36 :: p.data.toList).flatten
  | [] => rfl
  | p :: r => by simp [sepd, sepd_data r]
theorem joinD_cons (p : ByteArray) (r : List ByteArray) : joinD (p :: r) = p ++ sepd r := by
  apply ba_list
  rw [joinD_data]
  have key : ∀ (r : List ByteArray) (p : ByteArray), Lib.join ((p :: r).map (·.data.toList)) [36] = p.data.toList ++ (r.map fun p => 36 :: p.data.toList).flatten := by
    intro r
    induction r with
    | nil => intro p; rw [List.map_cons, List.map_nil, Lib.join_one]; simp
    | cons q r ih =>
      intro p
      have := ih q
      unfold Lib.join at this ⊢
      rw [List.map_cons] at this
      rw [List.map_cons, List.map_cons, List.intercalate_cons_cons, this]
      simp
  rw [key]
  simp [sepd_data]
theorem s36 : ({ data := #[36] : ByteArray } : ByteArray).size = 1 := rfl
theorem eps_beq (p : ByteArray) : (p.toList == ({ data := #[] : ByteArray } : ByteArray).toList) = decide (p.size = 0) := eps_size p
theorem empty_app (a : ByteArray) : ({ data := #[] : ByteArray } : ByteArray) ++ a = a := by apply ba_list; simp
theorem app_empty (a : ByteArray) : a ++ ByteArray.empty = a := by apply ba_list; simp
section
variable (l : List TPair) (hl : l.length ≤ 1000) (hr : roomT (.ren l) 0)
def fromT (l : List TPair) (p : ByteArray) : ByteArray := if p.size = 0 then p else outT (.ren l) p
include hl hr
theorem turned_in (k : Nat) (x : ByteArray) (r4 : List TPair → ByteArray → Int → List ByteArray → Option ByteArray) (ps : List ByteArray) (i : Nat) (hi : i < ps.length) (hp : ps[i].size ≤ 8388608) (hps : ps.length ≤ 8388700) (out : ByteArray) (ho : out.size ≤ 1000000000000000) :
    ∀ j m, m ≤ l.length → l.length - m < j → Lr07_Turned_8 (FF hFam k) k x l r4 j l out (i : Int) ps[i] (m : Int) ps =
      r4 l ((if 0 < i then out ++ { data := #[36] : ByteArray } else out) ++ fromT (l.drop m) ps[i]) ((i + 1 : Nat) : Int) ps := by
  have ew := wrap_succ hi (by simp only [maxLen]; omega)
  have tail : ∀ t : ByteArray, t.size ≤ 8388608 → (if decide ((i : Int) > 0) = true then (if ((out.size + ({ data := #[36] : ByteArray } : ByteArray).size : Nat) : Int) > IntKind.i64.max then none else (if (((out ++ { data := #[36] : ByteArray }).size + t.size : Nat) : Int) > IntKind.i64.max then none else r4 l (out ++ { data := #[36] : ByteArray } ++ t) (IntKind.i64.wrap ((i : Int) + 1)) ps)) else (if ((out.size + t.size : Nat) : Int) > IntKind.i64.max then none else r4 l (out ++ t) (IntKind.i64.wrap ((i : Int) + 1)) ps)) =
      r4 l ((if 0 < i then out ++ { data := #[36] : ByteArray } else out) ++ t) ((i + 1 : Nat) : Int) ps := by
    intro t ht
    have hm1 : ¬ ((out.size + 1 : Nat) : Int) > IntKind.i64.max := by
      show ¬ ((out.size + 1 : Nat) : Int) > 9223372036854775807
      omega
    have hm2 : ¬ ((out.size + 1 + t.size : Nat) : Int) > IntKind.i64.max := by
      show ¬ ((out.size + 1 + t.size : Nat) : Int) > 9223372036854775807
      omega
    have hm3 : ¬ ((out.size + t.size : Nat) : Int) > IntKind.i64.max := by
      show ¬ ((out.size + t.size : Nat) : Int) > 9223372036854775807
      omega
    rw [ew]
    simp only [ByteArray.size_append, s36]
    by_cases h0 : 0 < i
    · rw [if_pos (by simpa using h0), if_neg hm1, if_neg hm2, if_pos h0]
    · rw [if_neg (by simpa using h0), if_neg hm3, if_neg h0]
  refine up_ind l.length (fun j => ?_) (fun j m hm ih => ?_)
  · have e : fromT (l.drop l.length) ps[i] = ps[i] := by
      unfold fromT
      rw [List.drop_length]
      split <;> rfl
    rw [e]
    simp only [Lr07_Turned_8]
    rw [if_neg (by simp)]
    exact tail _ hp
  · have hd := List.drop_eq_getElem_cons hm
    simp only [Lr07_Turned_8]
    rw [if_pos (lt_dec hm), if_pos (by omega), if_pos (by omega), getD_at ps i _ hi, eps_beq]
    by_cases hz : ps[i].size = 0
    · rw [if_neg (by simp [hz])]
      have e : fromT (l.drop m) ps[i] = ps[i] := by unfold fromT; rw [if_pos hz]
      rw [e]
      exact tail _ hp
    · rw [if_pos (by simp [hz]), if_pos (by omega), if_pos (by omega), if_pos (by omega), if_pos (by omega), getD_at l m _ hm]
      have hrm : l[m].New.size ≤ 8388608 := hr _ (List.getElem_mem hm)
      have e : fromT (l.drop m) ps[i] = if (l[m].Old.toList == ps[i].toList) = true then l[m].New else fromT (l.drop (m + 1)) ps[i] := by
        unfold fromT
        rw [if_neg hz, if_neg hz, hd]
        simp only [outT, List.find?_cons]
        cases (l[m].Old.toList == ps[i].toList) <;> rfl
      rw [e]
      by_cases he : (l[m].Old.toList == ps[i].toList) = true
      · rw [if_pos he, if_pos he, if_pos (by omega), if_pos (by omega)]
        exact tail _ hrm
      · rw [if_neg he, if_neg he, wrap_succ hm (by simp only [maxLen]; omega)]
        exact ih
theorem turned_loop (k : Nat) (x : ByteArray) (ps : List ByteArray) (hk : 1010 ≤ k) (hps : ps.length ≤ 8388700) (hp : ∀ p ∈ ps, p.size ≤ 8388608) :
    ∀ j i, i ≤ ps.length → ps.length - i < j → 0 < i → ∀ out : ByteArray, out.size ≤ i * 8388700 → Lr07_Turned_4 (FF hFam k) k x l j l out (i : Int) ps = some (out ++ sepd ((ps.drop i).map (mapPo (outT (.ren l))))) := by
  refine up_ind ps.length (fun j h0 out ho => ?_) (fun j i hi ih h0 out ho => ?_)
  · simp only [Lr07_Turned_4]
    rw [if_neg (by simp), List.drop_length, List.map_nil, sepd, app_empty]
  · have hd := List.drop_eq_getElem_cons hi
    have hpi := hp _ (List.getElem_mem hi)
    have hin := turned_in l hl hr k x (Lr07_Turned_4 (FF hFam k) k x l j) ps i hi hpi hps out (by omega) k 0 (Nat.zero_le _) (by omega)
    have e : fromT (l.drop 0) ps[i] = mapPo (outT (.ren l)) ps[i] := rfl
    have hsz : (mapPo (outT (.ren l)) ps[i]).size ≤ 8388608 := by
      unfold mapPo
      split
      · exact hpi
      · exact outT_size hr _ hpi
    rw [e, if_pos h0] at hin
    simp only [Lr07_Turned_4]
    rw [if_pos (lt_dec hi), if_pos (by omega), if_pos (by omega), getD_at ps i _ hi]
    have z : ((0 : Nat) : Int) = 0 := rfl
    rw [z] at hin
    rw [hin, ih (by omega) _ (by simp only [ByteArray.size_append, s36]; omega), hd, List.map_cons, sepd]
    simp only [ByteArray.append_assoc]
theorem Turned_ok (k : Nat) (s : ByteArray) (hs : s.size ≤ 8388608) (hk : s.size + 1010 ≤ k) : (FF hFam (k + 2)).f_r07_Turned (s, l, ()) = some (mapN (outT (.ren l)) s) := by
  show B_r07_Turned (FF hFam (k + 1)) (k + 1) s l = _
  unfold B_r07_Turned
  rw [Parts_ok k s (by omega) hs, Option.bind_some, mapN_join]
  have hne := cutP_ne s
  have hlen := cutP_len s
  have hmem := cutP_mem s
  generalize cutP s = ps at hne hlen hmem
  have hp : ∀ p ∈ ps, p.size ≤ 8388608 := fun p hp => Nat.le_trans (hmem p hp) hs
  obtain ⟨p, r, rfl⟩ : ∃ p r, ps = p :: r := by
    cases ps with
    | nil => exact absurd rfl hne
    | cons p r => exact ⟨p, r, rfl⟩
  have hi : 0 < (p :: r).length := by simp
  have hpi := hp p List.mem_cons_self
  have hin := turned_in l hl hr (k + 1) s (Lr07_Turned_4 (FF hFam (k + 1)) (k + 1) s l k) (p :: r) 0 hi hpi (by omega) { data := #[] : ByteArray } (Nat.zero_le _) (k + 1) 0 (Nat.zero_le _) (by omega)
  have e : fromT (l.drop 0) p = mapPo (outT (.ren l)) p := rfl
  have hsz : (mapPo (outT (.ren l)) p).size ≤ 8388608 := by
    unfold mapPo
    split
    · exact hpi
    · exact outT_size hr _ hpi
  simp only [List.getElem_cons_zero] at hin
  rw [e, if_neg (by omega), empty_app] at hin
  have z : ((0 : Nat) : Int) = 0 := rfl
  rw [z] at hin
  have ho := turned_loop l hl hr (k + 1) s (p :: r) (by omega) (by omega) hp k 1 (by simp) (by omega) (by omega) (mapPo (outT (.ren l)) p) (by omega)
  simp only [Lr07_Turned_4]
  have hp0 : (p :: r).getD (Int.toNat 0) { data := #[] : ByteArray } = p := rfl
  rw [if_pos (by simp), if_pos (by omega), if_pos (by simp), hp0, hin]
  have z1 : ((0 + 1 : Nat) : Int) = ((1 : Nat) : Int) := rfl
  rw [z1, ho, List.map_cons, joinD_cons]
  rfl
end
end Go.Ev
end
section
open Go
namespace Go.Ev
open Go.Proofs.YtlepjafokfhnfaaGreatDoor
set_option maxRecDepth 100000
set_option maxHeartbeats 4000000
set_option linter.unusedVariables false
set_option linter.unusedSimpArgs false
theorem map_snoc {α β : Type} (f : α → β) (l : List α) (i : Nat) (hi : i < l.length) (out : List β) : out ++ [f l[i]] ++ (l.drop (i + 1)).map f = out ++ (l.drop i).map f := by
  rw [List.drop_eq_getElem_cons hi, List.map_cons, List.append_assoc]
  rfl
section
variable (l : List TPair) (hl : l.length ≤ 1000) (hr : roomT (.ren l) 0)
include hl hr
theorem tE_ok : ∀ K e, bk_TExpr e ≤ 8388608 → 2 * bk_TExpr e + 1100 ≤ K → (FF hFam K).f_r07_turnExpr (e, l, ()) = some (mapE (outT (.ren l)) e)
  | 0, e, hb, hk => by omega
  | K + 1, e, hb, hk => by
    have hn := bk_name e
    have hL := bks_Expr_len e.L
    show B_r07_turnExpr (FF hFam K) K e l = _
    unfold B_r07_turnExpr
    obtain ⟨K', rfl⟩ : ∃ K', K = K' + 2 := ⟨K - 2, by omega⟩
    have hbk : bk_TExpr e = e.Name.size + e.Field.size + bks_TExpr e.L + 6 := by cases e; simp only [bk_TExpr]; omega
    rw [Turned_ok l hl hr K' e.Name (by omega) (by omega), Turned_ok l hl hr K' e.Field (by omega) (by omega), Option.bind_some, Option.bind_some]
    have key : ∀ j i, i ≤ e.L.length → e.L.length - i < j → ∀ (out : List TExpr), out.length ≤ i → ∀ (v7 v8 v11 v12 : Int) (v9 v10 v13 v14 : ByteArray) (v15 : List TExpr),
        Lr07_turnExpr_3 (FF hFam (K' + 2)) (K' + 2) e l j l (i : Int) e.Op e.N e.Name e.Field e.L v7 v8 v9 v10 v11 v12 v13 v14 v15 out = some ⟨v11, v12, v13, v14, out ++ (e.L.drop i).map (mapE (outT (.ren l)))⟩ := by
      refine up_ind e.L.length (fun j out ho v7 v8 v11 v12 v9 v10 v13 v14 v15 => ?_) (fun j i hi ih out ho v7 v8 v11 v12 v9 v10 v13 v14 v15 => ?_)
      · simp only [Lr07_turnExpr_3]
        rw [if_neg (by simp), List.drop_length, List.map_nil, List.append_nil]
      · have hbi := bks_Expr_mem e.L i hi
        simp only [Lr07_turnExpr_3]
        rw [if_pos (lt_dec hi), if_pos (by omega), if_pos (by omega), getD_at e.L i _ hi, TExpr.re_eq, tE_ok (K' + 2) e.L[i] (by omega) (by omega), Option.bind_some, TExpr.re_eq, wrap_succ hi (by simp only [maxLen]; omega),
          if_pos (by simp only [List.length_append, List.length_singleton]; omega), ih _ (by simp only [List.length_append, List.length_singleton]; omega), map_snoc (mapE (outT (.ren l))) e.L i hi out]
    have := key (K' + 2) 0 (Nat.zero_le _) (by omega) [] (by simp) 0 0 e.Op e.N { data := #[] : ByteArray } { data := #[] : ByteArray } (mapN (outT (.ren l)) e.Name) (mapN (outT (.ren l)) e.Field) []
    simp only [Int.ofNat_zero, List.drop_zero, List.nil_append] at this
    rw [this]
    cases e
    simp only [mapE, mapEs_eq]
theorem tV_ok (k : Nat) (v : List TVar) (hb : bks_TVar v ≤ 8388608) (hk : bks_TVar v + 1100 ≤ k) : (FF hFam (k + 3)).f_r07_turnVars (v, l, ()) = some (v.map (mapV (outT (.ren l)))) := by
  have hlen := bks_Var_len v
  show B_r07_turnVars (FF hFam (k + 2)) (k + 2) v l = _
  unfold B_r07_turnVars
  have key : ∀ j i, i ≤ v.length → v.length - i < j → ∀ (out : List TVar), out.length ≤ i → Lr07_turnVars_3 (FF hFam (k + 2)) (k + 2) v l j v l (i : Int) out = some (out ++ (v.drop i).map (mapV (outT (.ren l)))) := by
    refine up_ind v.length (fun j out ho => ?_) (fun j i hi ih out ho => ?_)
    · simp only [Lr07_turnVars_3]
      rw [if_neg (by simp), List.drop_length, List.map_nil, List.append_nil]
    · have hbi := bks_Var_mem v i hi
      have hv := bk_VarN v[i]
      simp only [Lr07_turnVars_3]
      rw [if_pos (lt_dec hi), if_pos (by omega), if_pos (by omega), getD_at v i _ hi, Turned_ok l hl hr k v[i].Name (by omega) (by omega), Option.bind_some, Turned_ok l hl hr k v[i].T_Name (by omega) (by omega), Option.bind_some, wrap_succ hi (by simp only [maxLen]; omega),
        if_pos (by simp only [List.length_append, List.length_singleton]; omega), ih _ (by simp only [List.length_append, List.length_singleton]; omega)]
      exact congrArg some (map_snoc (mapV (outT (.ren l))) v i hi out)
  have := key (k + 2) 0 (Nat.zero_le _) (by omega) [] (by simp)
  simp only [Int.ofNat_zero, List.drop_zero, List.nil_append] at this
  exact this
theorem tS_ok : ∀ K v, bks_TStmt v ≤ 8388608 → 2 * bks_TStmt v + 1200 ≤ K → (FF hFam K).f_r07_turnStmts (v, l, ()) = some (mapSs (outT (.ren l)) v)
  | 0, v, hb, hk => by omega
  | K + 1, v, hb, hk => by
    have hlen := bks_Stmt_len v
    show B_r07_turnStmts (FF hFam K) K v l = _
    unfold B_r07_turnStmts
    obtain ⟨K', rfl⟩ : ∃ K', K = K' + 2 := ⟨K - 2, by omega⟩
    rw [mapSs_eq]
    have key : ∀ j i, i ≤ v.length → v.length - i < j → ∀ (out : List TStmt), out.length ≤ i → Lr07_turnStmts_3 (FF hFam (K' + 2)) (K' + 2) v l j v l (i : Int) out = some (out ++ (v.drop i).map (mapS (outT (.ren l)))) := by
      refine up_ind v.length (fun j out ho => ?_) (fun j i hi ih out ho => ?_)
      · simp only [Lr07_turnStmts_3]
        rw [if_neg (by simp), List.drop_length, List.map_nil, List.append_nil]
      · have hbi := bks_Stmt_mem v i hi
        have hv := bk_StmtN v[i]
        have hEl := bks_Expr_len v[i].E
        have inner : ∀ j' m, m ≤ v[i].E.length → v[i].E.length - m < j' → ∀ (es : List TExpr), es.length ≤ m → ∀ (mb mt : List ByteArray) (op : Int) (nm : ByteArray) (po pn : Int) (pnm pf : ByteArray) (pl : List TExpr) (dn mr : Bool) (e1 e2 : List ByteArray),
            Lr07_turnStmts_10 (FF hFam (K' + 2)) (K' + 2) v l (Lr07_turnStmts_3 (FF hFam (K' + 2)) (K' + 2) v l j) j' v l (i : Int) (m : Int) mb mt op nm po pn pnm pf pl v[i].E dn mr v[i].Body v[i].Else e1 e2 out es =
              some (out ++ [⟨mb, mt, op, nm, po, pn, pnm, pf, pl, es ++ (v[i].E.drop m).map (mapE (outT (.ren l))), dn, mr, mapSs (outT (.ren l)) v[i].Body, mapSs (outT (.ren l)) v[i].Else, e1, e2⟩] ++ (v.drop (i + 1)).map (mapS (outT (.ren l)))) := by
          refine up_ind v[i].E.length (fun j' es he mb mt op nm po pn pnm pf pl dn mr e1 e2 => ?_) (fun j' m hm ihm es he mb mt op nm po pn pnm pf pl dn mr e1 e2 => ?_)
          · simp only [Lr07_turnStmts_10]
            rw [if_neg (by simp), tS_ok (K' + 2) v[i].Body (by omega) (by omega), Option.bind_some, tS_ok (K' + 2) v[i].Else (by omega) (by omega), Option.bind_some, wrap_succ hi (by simp only [maxLen]; omega),
              if_pos (by simp only [List.length_append, List.length_singleton]; omega), ih _ (by simp only [List.length_append, List.length_singleton]; omega), List.drop_length, List.map_nil, List.append_nil]
          · have hbm := bks_Expr_mem v[i].E m hm
            simp only [Lr07_turnStmts_10]
            rw [if_pos (lt_dec hm), if_pos (by omega), if_pos (by omega), getD_at v[i].E m _ hm, TExpr.re_eq, tE_ok l hl hr (K' + 2) v[i].E[m] (by omega) (by omega), Option.bind_some, TExpr.re_eq, wrap_succ hm (by simp only [maxLen]; omega),
              if_pos (by simp only [List.length_append, List.length_singleton]; omega), ihm _ (by simp only [List.length_append, List.length_singleton]; omega), map_snoc (mapE (outT (.ren l))) v[i].E m hm es]
        simp only [Lr07_turnStmts_3]
        rw [if_pos (lt_dec hi), if_pos (by omega), if_pos (by omega), getD_at v i _ hi, Turned_ok l hl hr K' v[i].Name (by omega) (by omega), Option.bind_some, tE_ok l hl hr (K' + 2) v[i].sub_P (by omega) (by omega), Option.bind_some]
        have hin := inner (K' + 2) 0 (Nat.zero_le _) (by omega) [] (by simp) v[i].Marks_Before v[i].Marks_Trail v[i].Op (mapN (outT (.ren l)) v[i].Name) (mapE (outT (.ren l)) v[i].sub_P).Op (mapE (outT (.ren l)) v[i].sub_P).N (mapE (outT (.ren l)) v[i].sub_P).Name (mapE (outT (.ren l)) v[i].sub_P).Field (mapE (outT (.ren l)) v[i].sub_P).L v[i].Down v[i].More v[i].End v[i].End2
        simp only [Int.ofNat_zero, List.drop_zero, List.nil_append] at hin
        rw [hin]
        have hx : (⟨v[i].Marks_Before, v[i].Marks_Trail, v[i].Op, mapN (outT (.ren l)) v[i].Name, (mapE (outT (.ren l)) v[i].sub_P).Op, (mapE (outT (.ren l)) v[i].sub_P).N, (mapE (outT (.ren l)) v[i].sub_P).Name, (mapE (outT (.ren l)) v[i].sub_P).Field, (mapE (outT (.ren l)) v[i].sub_P).L, v[i].E.map (mapE (outT (.ren l))), v[i].Down, v[i].More, mapSs (outT (.ren l)) v[i].Body, mapSs (outT (.ren l)) v[i].Else, v[i].End, v[i].End2⟩ : TStmt) = mapS (outT (.ren l)) v[i] := by
          generalize v[i] = x
          cases x
          simp only [mapS, TStmt.sub_P, mapE, mapEs_eq]
        rw [hx]
        exact congrArg some (map_snoc (mapS (outT (.ren l))) v i hi out)
    have := key (K' + 2) 0 (Nat.zero_le _) (by omega) [] (by simp)
    simp only [Int.ofNat_zero, List.drop_zero, List.nil_append] at this
    exact this
theorem tR_ok : ∀ K v, bks_TRoutine v ≤ 8388608 → 2 * bks_TRoutine v + 1300 ≤ K → (FF hFam K).f_r07_turnRoutines (v, l, ()) = some (mapRs (outT (.ren l)) v)
  | 0, v, hb, hk => by omega
  | K + 1, v, hb, hk => by
    have hlen := bks_Routine_len v
    show B_r07_turnRoutines (FF hFam K) K v l = _
    unfold B_r07_turnRoutines
    obtain ⟨K', rfl⟩ : ∃ K', K = K' + 3 := ⟨K - 3, by omega⟩
    rw [mapRs_eq]
    have key : ∀ j i, i ≤ v.length → v.length - i < j → ∀ (out : List TRoutine), out.length ≤ i → Lr07_turnRoutines_3 (FF hFam (K' + 3)) (K' + 3) v l j v l (i : Int) out = some (out ++ (v.drop i).map (mapR (outT (.ren l)))) := by
      refine up_ind v.length (fun j out ho => ?_) (fun j i hi ih out ho => ?_)
      · simp only [Lr07_turnRoutines_3]
        rw [if_neg (by simp), List.drop_length, List.map_nil, List.append_nil]
      · have hbi := bks_Routine_mem v i hi
        have hv := bk_RoutineN v[i]
        have hPl := bks_Param_len v[i].Params
        have inner : ∀ j' m, m ≤ v[i].Params.length → v[i].Params.length - m < j' → ∀ (ps : List TParam), ps.length ≤ m → ∀ (mb mt : List ByteArray) (nm : ByteArray) (res : Int) (e1 : List ByteArray),
            Lr07_turnRoutines_9 (FF hFam (K' + 3)) (K' + 3) v l (Lr07_turnRoutines_3 (FF hFam (K' + 3)) (K' + 3) v l j) j' v l (i : Int) (m : Int) mb mt nm res v[i].Params v[i].Vars v[i].Inner v[i].Body e1 out ps =
              some (out ++ [⟨mb, mt, nm, res, ps ++ (v[i].Params.drop m).map (mapA (outT (.ren l))), v[i].Vars.map (mapV (outT (.ren l))), mapRs (outT (.ren l)) v[i].Inner, mapSs (outT (.ren l)) v[i].Body, e1⟩] ++ (v.drop (i + 1)).map (mapR (outT (.ren l)))) := by
          refine up_ind v[i].Params.length (fun j' ps he mb mt nm res e1 => ?_) (fun j' m hm ihm ps he mb mt nm res e1 => ?_)
          · simp only [Lr07_turnRoutines_9]
            rw [if_neg (by simp), tV_ok l hl hr K' v[i].Vars (by omega) (by omega), Option.bind_some, tR_ok (K' + 3) v[i].Inner (by omega) (by omega), Option.bind_some, tS_ok l hl hr (K' + 3) v[i].Body (by omega) (by omega), Option.bind_some, wrap_succ hi (by simp only [maxLen]; omega),
              if_pos (by simp only [List.length_append, List.length_singleton]; omega), ih _ (by simp only [List.length_append, List.length_singleton]; omega), List.drop_length, List.map_nil, List.append_nil]
          · have hbm := bks_Param_mem' v[i].Params m hm
            have hvm := bk_ParamN v[i].Params[m]
            simp only [Lr07_turnRoutines_9]
            rw [if_pos (lt_dec hm), if_pos (by omega), if_pos (by omega), getD_at v[i].Params m _ hm, Turned_ok l hl hr (K' + 1) v[i].Params[m].Name (by omega) (by omega), Option.bind_some, Turned_ok l hl hr (K' + 1) v[i].Params[m].T_Name (by omega) (by omega), Option.bind_some, wrap_succ hm (by simp only [maxLen]; omega),
              if_pos (by simp only [List.length_append, List.length_singleton]; omega), ihm _ (by simp only [List.length_append, List.length_singleton]; omega)]
            have := map_snoc (mapA (outT (.ren l))) v[i].Params m hm ps
            simp only [mapA] at this ⊢
            rw [← this]
        simp only [Lr07_turnRoutines_3]
        rw [if_pos (lt_dec hi), if_pos (by omega), if_pos (by omega), getD_at v i _ hi, Turned_ok l hl hr (K' + 1) v[i].Name (by omega) (by omega), Option.bind_some]
        have hin := inner (K' + 3) 0 (Nat.zero_le _) (by omega) [] (by simp) v[i].Marks_Before v[i].Marks_Trail (mapN (outT (.ren l)) v[i].Name) v[i].Result v[i].End
        simp only [Int.ofNat_zero, List.drop_zero, List.nil_append] at hin
        rw [hin]
        have hx : (⟨v[i].Marks_Before, v[i].Marks_Trail, mapN (outT (.ren l)) v[i].Name, v[i].Result, v[i].Params.map (mapA (outT (.ren l))), v[i].Vars.map (mapV (outT (.ren l))), mapRs (outT (.ren l)) v[i].Inner, mapSs (outT (.ren l)) v[i].Body, v[i].End⟩ : TRoutine) = mapR (outT (.ren l)) v[i] := by
          generalize v[i] = x
          cases x
          simp only [mapR]
        rw [hx]
        exact congrArg some (map_snoc (mapR (outT (.ren l))) v i hi out)
    have := key (K' + 3) 0 (Nat.zero_le _) (by omega) [] (by simp)
    simp only [Int.ofNat_zero, List.drop_zero, List.nil_append] at this
    exact this
theorem rRename_ok (k : Nat) (p : TProgram) (hb : bk_TProgram p ≤ 8388608) (hk : 2 * bk_TProgram p + 1400 ≤ k) : (FF hFam (k + 4)).f_r07_Rename (p, l, ()) = some (mapP (outT (.ren l)) p) := by
  have hv := bk_ProgramN p
  have hlen := bks_Rec_len p.Recs
  show B_r07_Rename (FF hFam (k + 3)) (k + 3) p l = _
  unfold B_r07_Rename
  rw [Turned_ok l hl hr (k + 1) p.Name (by omega) (by omega), Option.bind_some]
  have key : ∀ j i, i ≤ p.Recs.length → p.Recs.length - i < j → ∀ (out : List TRec), out.length ≤ i → ∀ (a0 a1 : ByteArray) (l1 l2 l3 : List ByteArray) (w1 : List TVar) (w2 : List TRoutine) (w3 : List TStmt) (l4 l5 l6 l7 : List ByteArray) (w4 : List TRec) (w5 : List TVar) (w6 : List TRoutine) (w7 : List TStmt) (l8 : List ByteArray),
      Lr07_Rename_5 (FF hFam (k + 3)) (k + 3) p l j l (i : Int) p.Name p.Before p.Mid p.After p.Recs p.Vars p.Routines p.Body p.End a0 (mapN (outT (.ren l)) p.Name) p.Before p.Mid p.After w1 w2 w3 p.End l5 l6 l7 w4 w5 w6 w7 l8 out =
        some ⟨mapN (outT (.ren l)) p.Name, p.Before, p.Mid, p.After, out ++ (p.Recs.drop i).map (mapC (outT (.ren l))), p.Vars.map (mapV (outT (.ren l))), mapRs (outT (.ren l)) p.Routines, mapSs (outT (.ren l)) p.Body, p.End⟩ := by
    refine up_ind p.Recs.length (fun j out ho a0 a1 l1 l2 l3 w1 w2 w3 l4 l5 l6 l7 w4 w5 w6 w7 l8 => ?_) (fun j i hi ih out ho a0 a1 l1 l2 l3 w1 w2 w3 l4 l5 l6 l7 w4 w5 w6 w7 l8 => ?_)
    · simp only [Lr07_Rename_5]
      rw [if_neg (by simp), List.drop_length, tV_ok l hl hr k p.Vars (by omega) (by omega), Option.bind_some, tR_ok l hl hr (k + 3) p.Routines (by omega) (by omega), Option.bind_some, tS_ok l hl hr (k + 3) p.Body (by omega) (by omega), Option.bind_some, List.map_nil, List.append_nil]
    · have hbi := bks_Rec_mem p.Recs i hi
      have hvr := bk_RecN p.Recs[i]
      have hFl := bks_Field_len p.Recs[i].Fields
      have inner : ∀ j' m, m ≤ p.Recs[i].Fields.length → p.Recs[i].Fields.length - m < j' → ∀ (fs : List TField), fs.length ≤ m → ∀ (mb mt : List ByteArray) (nm : ByteArray) (e1 : List ByteArray),
          Lr07_Rename_11 (FF hFam (k + 3)) (k + 3) p l (Lr07_Rename_5 (FF hFam (k + 3)) (k + 3) p l j) j' l (i : Int) (m : Int) p.Name p.Before p.Mid p.After p.Recs p.Vars p.Routines p.Body p.End a0 (mapN (outT (.ren l)) p.Name) p.Before p.Mid p.After w1 w2 w3 p.End mb mt nm p.Recs[i].Fields e1 fs l5 l6 l7 w4 w5 w6 w7 l8 out =
            some ⟨mapN (outT (.ren l)) p.Name, p.Before, p.Mid, p.After, out ++ [⟨mb, mt, nm, fs ++ (p.Recs[i].Fields.drop m).map (mapF (outT (.ren l))), e1⟩] ++ (p.Recs.drop (i + 1)).map (mapC (outT (.ren l))), p.Vars.map (mapV (outT (.ren l))), mapRs (outT (.ren l)) p.Routines, mapSs (outT (.ren l)) p.Body, p.End⟩ := by
        refine up_ind p.Recs[i].Fields.length (fun j' fs he mb mt nm e1 => ?_) (fun j' m hm ihm fs he mb mt nm e1 => ?_)
        · simp only [Lr07_Rename_11]
          rw [if_neg (by simp), wrap_succ hi (by simp only [maxLen]; omega), if_pos (by simp only [List.length_append, List.length_singleton]; omega), ih _ (by simp only [List.length_append, List.length_singleton]; omega) a0 a1 l1 l2 l3, List.drop_length, List.map_nil, List.append_nil]
          all_goals exact l4
        · have hbm := bks_Field_mem p.Recs[i].Fields m hm
          have hvm := bk_FieldN p.Recs[i].Fields[m]
          simp only [Lr07_Rename_11]
          rw [if_pos (lt_dec hm), if_pos (by omega), if_pos (by omega), getD_at p.Recs[i].Fields m _ hm, Turned_ok l hl hr (k + 1) p.Recs[i].Fields[m].Name (by omega) (by omega), Option.bind_some, wrap_succ hm (by simp only [maxLen]; omega),
            if_pos (by simp only [List.length_append, List.length_singleton]; omega), ihm _ (by simp only [List.length_append, List.length_singleton]; omega)]
          have := map_snoc (mapF (outT (.ren l))) p.Recs[i].Fields m hm fs
          simp only [mapF] at this ⊢
          rw [← this]
      have hin := inner (k + 3) 0 (Nat.zero_le _) (by omega) [] (by simp) p.Recs[i].Marks_Before p.Recs[i].Marks_Trail (mapN (outT (.ren l)) p.Recs[i].Name) p.Recs[i].End
      simp only [Int.ofNat_zero, List.drop_zero, List.nil_append] at hin
      simp only [Lr07_Rename_5]
      rw [if_pos (lt_dec hi), if_pos (by omega), if_pos (by omega), getD_at p.Recs i _ hi, Turned_ok l hl hr (k + 1) p.Recs[i].Name (by omega) (by omega), Option.bind_some, hin]
      have := map_snoc (mapC (outT (.ren l))) p.Recs i hi out
      simp only [mapC] at this ⊢
      rw [← this]
  have := key (k + 3) 0 (Nat.zero_le _) (by omega) [] (by simp) { data := #[] : ByteArray } { data := #[] : ByteArray } [] [] [] p.Vars p.Routines p.Body [] [] [] [] [] [] [] [] []
  simp only [Int.ofNat_zero, List.drop_zero, List.nil_append] at this
  exact this
end
end Go.Ev
end
section
open Go
namespace Go.Ev
open Go.Proofs.YtlepjafokfhnfaaGreatDoor
set_option maxRecDepth 100000
set_option maxHeartbeats 4000000
set_option linter.unusedVariables false
set_option linter.unusedSimpArgs false
set_option linter.unusedSectionVars false
section
variable (o : ByteArray → ByteArray) (ho : ∀ q, o q = q)
include ho
theorem mapN_id (s : ByteArray) : mapN o s = s := by
  rw [mapN_join]
  have : (cutP s).map (mapPo o) = cutP s := by
    conv => rhs; rw [← List.map_id (cutP s)]
    refine List.map_congr_left fun p _ => ?_
    unfold mapPo
    split
    · rfl
    · exact ho p
  rw [this, joinD_cutP]
mutual
theorem mapE_id : ∀ e, mapE o e = e
  | ⟨op, n, nm, f, l⟩ => by simp only [mapE, mapN_id o ho, mapEs_id l]
theorem mapEs_id : ∀ l, mapEs o l = l
  | [] => rfl
  | x :: r => by simp only [mapEs, mapE_id x, mapEs_id r]
end
theorem map_id' {α : Type} (f : α → α) (h : ∀ x, f x = x) (l : List α) : l.map f = l := by
  conv => rhs; rw [← List.map_id l]
  exact List.map_congr_left fun x _ => h x
theorem mapV_id (v : TVar) : mapV o v = v := by cases v; simp only [mapV, mapN_id o ho]
theorem mapA_id (v : TParam) : mapA o v = v := by cases v; simp only [mapA, mapN_id o ho]
theorem mapF_id (v : TField) : mapF o v = v := by cases v; simp only [mapF, mapN_id o ho]
theorem mapC_id (v : TRec) : mapC o v = v := by cases v; simp only [mapC, mapN_id o ho, map_id' o ho _ (mapF_id o ho)]
mutual
theorem mapS_id : ∀ e, mapS o e = e
  | ⟨mb, mt, op, nm, po, pn, pnm, pf, pl, E, down, more, body, els, e1, e2⟩ => by simp only [mapS, mapN_id o ho, mapEs_id o ho, mapSs_id body, mapSs_id els]
theorem mapSs_id : ∀ l, mapSs o l = l
  | [] => rfl
  | x :: r => by simp only [mapSs, mapS_id x, mapSs_id r]
end
mutual
theorem mapR_id : ∀ e, mapR o e = e
  | ⟨mb, mt, nm, res, ps, vs, inner, body, e⟩ => by simp only [mapR, mapN_id o ho, mapSs_id o ho, map_id' o ho _ (mapA_id o ho), map_id' o ho _ (mapV_id o ho), mapRs_id inner]
theorem mapRs_id : ∀ l, mapRs o l = l
  | [] => rfl
  | x :: r => by simp only [mapRs, mapR_id x, mapRs_id r]
end
theorem mapP_id (p : TProgram) : mapP o p = p := by cases p; simp only [mapP, mapN_id o ho, mapSs_id o ho, mapRs_id o ho, map_id' o ho _ (mapC_id o ho), map_id' o ho _ (mapV_id o ho)]
end
section
variable (o : ByteArray → ByteArray) (ho : growO o)
include ho
theorem fit_N {s : ByteArray} (h : s.size ≤ 8388608) : (mapN o s).size ≤ maxLen := by
  have := mapN_size o ho s
  simp only [maxLen]
  omega
mutual
theorem fit_E : ∀ e, ft_TExpr e → bk_TExpr e ≤ 8388608 → ft_TExpr (mapE o e)
  | ⟨op, n, nm, f, l⟩, h, hb => by
    simp only [bk_TExpr] at hb
    simp only [ft_TExpr] at h
    simp only [mapE, ft_TExpr]
    exact ⟨h.1, h.2.1, fit_N o ho (by omega), fit_N o ho (by omega), by rw [mapEs_eq, List.length_map]; exact h.2.2.2.2.1, fit_Es l h.2.2.2.2.2 (by omega)⟩
theorem fit_Es : ∀ l, fts_TExpr l → bks_TExpr l ≤ 8388608 → fts_TExpr (mapEs o l)
  | [], h, hb => by simp only [mapEs, fts_TExpr]
  | x :: r, h, hb => by
    simp only [bks_TExpr] at hb
    simp only [fts_TExpr] at h
    simp only [mapEs, fts_TExpr]
    exact ⟨fit_E x h.1 (by omega), fit_Es r h.2 (by omega)⟩
end
theorem fit_V (v : TVar) (h : ft_TVar v) (hb : bk_TVar v ≤ 8388608) : ft_TVar (mapV o v) := by
  obtain ⟨a1, a2, a3, a4, a5, a6⟩ := v
  simp only [bk_TVar] at hb
  simp only [ft_TVar] at h
  simp only [mapV, ft_TVar]
  exact ⟨h.1, h.2.1, fit_N o ho (by omega), h.2.2.2.1, h.2.2.2.2.1, fit_N o ho (by omega)⟩
theorem fit_A (v : TParam) (h : ft_TParam v) (hb : bk_TParam v ≤ 8388608) : ft_TParam (mapA o v) := by
  obtain ⟨a1, a2, a3, a4, a5⟩ := v
  simp only [bk_TParam] at hb
  simp only [ft_TParam] at h
  simp only [mapA, ft_TParam]
  exact ⟨fit_N o ho (by omega), h.2.1, h.2.2.1, fit_N o ho (by omega), h.2.2.2.2⟩
theorem fit_F (v : TField) (h : ft_TField v) (hb : bk_TField v ≤ 8388608) : ft_TField (mapF o v) := by
  obtain ⟨a1, a2, a3, a4⟩ := v
  simp only [bk_TField] at hb
  simp only [ft_TField] at h
  simp only [mapF, ft_TField]
  exact ⟨h.1, h.2.1, fit_N o ho (by omega), h.2.2.2⟩
theorem fit_Vs : ∀ l : List TVar, fts_TVar l → bks_TVar l ≤ 8388608 → fts_TVar (l.map (mapV o))
  | [], h, hb => by simp only [List.map_nil, fts_TVar]
  | x :: r, h, hb => by
    simp only [bks_TVar] at hb
    simp only [fts_TVar] at h
    simp only [List.map_cons, fts_TVar]
    exact ⟨fit_V o ho x h.1 (by omega), fit_Vs r h.2 (by omega)⟩
theorem fit_As : ∀ l : List TParam, fts_TParam l → bks_TParam l ≤ 8388608 → fts_TParam (l.map (mapA o))
  | [], h, hb => by simp only [List.map_nil, fts_TParam]
  | x :: r, h, hb => by
    simp only [bks_TParam] at hb
    simp only [fts_TParam] at h
    simp only [List.map_cons, fts_TParam]
    exact ⟨fit_A o ho x h.1 (by omega), fit_As r h.2 (by omega)⟩
theorem fit_Fs : ∀ l : List TField, fts_TField l → bks_TField l ≤ 8388608 → fts_TField (l.map (mapF o))
  | [], h, hb => by simp only [List.map_nil, fts_TField]
  | x :: r, h, hb => by
    simp only [bks_TField] at hb
    simp only [fts_TField] at h
    simp only [List.map_cons, fts_TField]
    exact ⟨fit_F o ho x h.1 (by omega), fit_Fs r h.2 (by omega)⟩
theorem fit_C (v : TRec) (h : ft_TRec v) (hb : bk_TRec v ≤ 8388608) : ft_TRec (mapC o v) := by
  obtain ⟨a1, a2, a3, a4, a5⟩ := v
  simp only [bk_TRec] at hb
  simp only [ft_TRec] at h
  simp only [mapC, ft_TRec, List.length_map]
  exact ⟨h.1, h.2.1, fit_N o ho (by omega), ⟨h.2.2.2.1.1, fit_Fs o ho a4 h.2.2.2.1.2 (by omega)⟩, h.2.2.2.2⟩
theorem fit_Cs : ∀ l : List TRec, fts_TRec l → bks_TRec l ≤ 8388608 → fts_TRec (l.map (mapC o))
  | [], h, hb => by simp only [List.map_nil, fts_TRec]
  | x :: r, h, hb => by
    simp only [bks_TRec] at hb
    simp only [fts_TRec] at h
    simp only [List.map_cons, fts_TRec]
    exact ⟨fit_C o ho x h.1 (by omega), fit_Cs r h.2 (by omega)⟩
mutual
theorem fit_S : ∀ e, ft_TStmt e → bk_TStmt e ≤ 8388608 → ft_TStmt (mapS o e)
  | ⟨mb, mt, op, nm, po, pn, pnm, pf, pl, E, down, more, body, els, e1, e2⟩, h, hb => by
    simp only [bk_TStmt] at hb
    simp only [ft_TStmt] at h
    obtain ⟨h1, h2, h3, h4, h5, h6, h7, h8, h9, h10, h11, h12, h13, h14, h15, h16⟩ := h
    simp only [mapS, ft_TStmt]
    exact ⟨h1, h2, h3, fit_N o ho (by omega), h5, h6, fit_N o ho (by omega), fit_N o ho (by omega), ⟨by rw [mapEs_eq, List.length_map]; exact h9.1, fit_Es o ho pl h9.2 (by omega)⟩, ⟨by rw [mapEs_eq, List.length_map]; exact h10.1, fit_Es o ho E h10.2 (by omega)⟩, h11, h12,
      ⟨by rw [mapSs_eq, List.length_map]; exact h13.1, fit_Ss body h13.2 (by omega)⟩, ⟨by rw [mapSs_eq, List.length_map]; exact h14.1, fit_Ss els h14.2 (by omega)⟩, h15, h16⟩
theorem fit_Ss : ∀ l, fts_TStmt l → bks_TStmt l ≤ 8388608 → fts_TStmt (mapSs o l)
  | [], h, hb => by simp only [mapSs, fts_TStmt]
  | x :: r, h, hb => by
    simp only [bks_TStmt] at hb
    simp only [fts_TStmt] at h
    simp only [mapSs, fts_TStmt]
    exact ⟨fit_S x h.1 (by omega), fit_Ss r h.2 (by omega)⟩
end
mutual
theorem fit_R : ∀ e, ft_TRoutine e → bk_TRoutine e ≤ 8388608 → ft_TRoutine (mapR o e)
  | ⟨mb, mt, nm, res, ps, vs, inner, body, e⟩, h, hb => by
    simp only [bk_TRoutine] at hb
    simp only [ft_TRoutine] at h
    obtain ⟨h1, h2, h3, h4, h5, h6, h7, h8, h9⟩ := h
    simp only [mapR, ft_TRoutine, List.length_map]
    exact ⟨h1, h2, fit_N o ho (by omega), h4, ⟨h5.1, fit_As o ho ps h5.2 (by omega)⟩, ⟨h6.1, fit_Vs o ho vs h6.2 (by omega)⟩, ⟨by rw [mapRs_eq, List.length_map]; exact h7.1, fit_Rs inner h7.2 (by omega)⟩, ⟨by rw [mapSs_eq, List.length_map]; exact h8.1, fit_Ss o ho body h8.2 (by omega)⟩, h9⟩
theorem fit_Rs : ∀ l, fts_TRoutine l → bks_TRoutine l ≤ 8388608 → fts_TRoutine (mapRs o l)
  | [], h, hb => by simp only [mapRs, fts_TRoutine]
  | x :: r, h, hb => by
    simp only [bks_TRoutine] at hb
    simp only [fts_TRoutine] at h
    simp only [mapRs, fts_TRoutine]
    exact ⟨fit_R x h.1 (by omega), fit_Rs r h.2 (by omega)⟩
end
theorem fit_P (p : TProgram) (h : ft_TProgram p) (hb : bk_TProgram p ≤ 8388608) : ft_TProgram (mapP o p) := by
  obtain ⟨a1, a2, a3, a4, a5, a6, a7, a8, a9⟩ := p
  simp only [bk_TProgram] at hb
  simp only [ft_TProgram] at h
  obtain ⟨h1, h2, h3, h4, h5, h6, h7, h8, h9⟩ := h
  simp only [mapP, ft_TProgram, List.length_map]
  exact ⟨fit_N o ho (by omega), h2, h3, h4, ⟨h5.1, fit_Cs o ho a5 h5.2 (by omega)⟩, ⟨h6.1, fit_Vs o ho a6 h6.2 (by omega)⟩, ⟨by rw [mapRs_eq, List.length_map]; exact h7.1, fit_Rs o ho a7 h7.2 (by omega)⟩, ⟨by rw [mapSs_eq, List.length_map]; exact h8.1, fit_Ss o ho a8 h8.2 (by omega)⟩, h9⟩
end
section
variable {P : ByteArray → Prop} (hP : ∀ s q, q ∈ pts s → P q)
include hP
mutual
theorem all_E : ∀ e : TExpr, ∀ q ∈ nmE e, P q
  | ⟨op, n, nm, f, l⟩, q, hq => by
    simp only [nmE, List.mem_append] at hq
    rcases hq with hq | hq | hq
    · exact hP _ _ hq
    · exact hP _ _ hq
    · exact all_Es l q hq
theorem all_Es : ∀ l : List TExpr, ∀ q ∈ nmEs l, P q
  | [], q, hq => by simp [nmEs] at hq
  | x :: r, q, hq => by
    simp only [nmEs, List.mem_append] at hq
    rcases hq with hq | hq
    · exact all_E x q hq
    · exact all_Es r q hq
end
end
theorem dec_free (n : Nat) : ∀ c ∈ Lib.decDigits n, c ≠ 36 := by
  have dig : ∀ d, d < 10 → UInt8.ofNat (48 + d) ≠ 36 := by decide
  induction n using Nat.strongRecOn with
  | _ n ih =>
    rw [Lib.decDigits]
    by_cases h : n < 10
    · rw [dif_pos h]
      intro c hc
      simp only [List.mem_singleton] at hc
      subst hc
      exact dig n h
    · rw [dif_neg h]
      intro c hc
      rw [List.mem_append] at hc
      rcases hc with hc | hc
      · exact ih (n / 10) (by omega) c hc
      · simp only [List.mem_singleton] at hc
        subst hc
        exact dig _ (by omega)
theorem word_free {d : Int} {n : ByteArray} (h : isW d n = true) : freeB n := by
  have hm := (Wd.mem_iff _ _).1 h
  have h0 : ((Wd.lst 0).all fun x => x.data.toList.all fun c => c != 36) = true := by kernel_rfl
  have h1 : ((Wd.lst 1).all fun x => x.data.toList.all fun c => c != 36) = true := by kernel_rfl
  have key : ∀ l : List ByteArray, (l.all fun x => x.data.toList.all fun c => c != 36) = true → ∀ x ∈ l, freeB x := fun l h x hx c hc => by
    have := List.all_eq_true.1 (List.all_eq_true.1 h x hx) c hc
    simpa using this
  by_cases e0 : d = 0
  · subst e0; exact key _ h0 n hm
  · by_cases e1 : d = 1
    · subst e1; exact key _ h1 n hm
    · have hl : Wd.lst d = [] := by unfold Wd.lst; rw [if_neg e0, if_neg e1]
      rw [hl] at hm; simp at hm
theorem tblN_old (d : Int) : ∀ (l taken : List ByteArray), (tblN d l taken).map (·.Old) = l.filter (isW d)
  | [], _ => rfl
  | n :: r, taken => by
    by_cases h : isW d n = true
    · rw [List.filter_cons_of_pos h, tblN, if_pos h, List.map_cons, tblN_old d r]
    · rw [List.filter_cons_of_neg h, tblN, if_neg h, tblN_old d r]
theorem fresh_taken (n : ByteArray) (taken : List ByteArray) (h : n ∈ taken) : Wd.fresh n taken ∉ taken ∧ ∃ k, k ≤ taken.length ∧ Wd.fresh n taken = Wd.name n (k + 1) := by
  have hf := Wd.tries_free taken n
  have hle := Wd.tries_le taken n
  refine ⟨fun hm => ?_, ?_⟩
  · unfold Wd.bad at hf
    simp only [Bool.or_eq_false_iff] at hf
    have : Wd.mem taken (Wd.name n (Wd.tries taken n)) = true := (Wd.mem_iff _ _).2 hm
    rw [this] at hf
    exact absurd hf.2 (by simp)
  · rcases Nat.eq_zero_or_pos (Wd.tries taken n) with h0 | h0
    · exfalso
      rw [h0] at hf
      unfold Wd.bad at hf
      simp only [Bool.or_eq_false_iff] at hf
      have : Wd.mem taken (Wd.name n 0) = true := (Wd.mem_iff _ _).2 h
      rw [this] at hf
      exact absurd hf.2 (by simp)
    · refine ⟨Wd.tries taken n - 1, by omega, ?_⟩
      unfold Wd.fresh
      rw [show Wd.tries taken n - 1 + 1 = Wd.tries taken n by omega]
theorem tblN_props (d : Int) : ∀ (l taken : List ByteArray), (∀ x ∈ l, x ∈ taken) → (∀ q ∈ tblN d l taken, isW d q.Old = true ∧ q.Old ∈ l ∧ q.New ∉ taken ∧ ∃ k, k ≤ taken.length + l.length ∧ q.New = Wd.name q.Old (k + 1)) ∧ ((tblN d l taken).map (·.New)).Nodup
  | [], taken, _ => ⟨fun q hq => by simp [tblN] at hq, by simp [tblN]⟩
  | n :: r, taken, hs => by
    by_cases h : isW d n = true
    · rw [tblN, if_pos h]
      obtain ⟨hf, k, hk, hn⟩ := fresh_taken n taken (hs n List.mem_cons_self)
      obtain ⟨i1, i2⟩ := tblN_props d r (taken ++ [Wd.fresh n taken]) fun x hx => List.mem_append_left _ (hs x (List.mem_cons_of_mem _ hx))
      refine ⟨fun q hq => ?_, ?_⟩
      · rcases List.mem_cons.1 hq with rfl | hq
        · exact ⟨h, List.mem_cons_self, hf, k, by omega, hn⟩
        · obtain ⟨a1, a2, a3, k', hk', a4⟩ := i1 q hq
          refine ⟨a1, List.mem_cons_of_mem _ a2, fun hm => a3 (List.mem_append_left _ hm), k', ?_, a4⟩
          simp only [List.length_append, List.length_cons, List.length_nil] at hk' ⊢
          omega
      · rw [List.map_cons, List.nodup_cons]
        refine ⟨fun hm => ?_, i2⟩
        obtain ⟨q, hq, he⟩ := List.mem_map.1 hm
        have he : q.New = Wd.fresh n taken := he
        exact (i1 q hq).2.2.1 (by rw [he]; simp)
    · rw [tblN, if_neg h]
      obtain ⟨i1, i2⟩ := tblN_props d r taken fun x hx => hs x (List.mem_cons_of_mem _ hx)
      refine ⟨fun q hq => ?_, i2⟩
      obtain ⟨a1, a2, a3, k', hk', a4⟩ := i1 q hq
      exact ⟨a1, List.mem_cons_of_mem _ a2, a3, k', by simp only [List.length_cons]; omega, a4⟩
def newO (d : Int) (p : TProgram) : ByteArray → ByteArray := outT (.ren (tblP d p))
theorem newO_word {d : Int} {p : TProgram} {n : ByteArray} (hn : n ∈ namesP p) (h : isW d n = true) : ∃ q ∈ tblP d p, q.Old = n ∧ newO d p n = q.New := by
  have hm : n ∈ (tblP d p).map (·.Old) := by unfold tblP; rw [tblN_old]; exact List.mem_filter.2 ⟨hn, h⟩
  obtain ⟨q, hq, he⟩ := List.mem_map.1 hm
  unfold newO
  simp only [outT]
  split
  · rename_i q' hq'
    have h1 := List.mem_of_find?_eq_some hq'
    have h2 := List.find?_some hq'
    rw [ba_dc] at h2
    exact ⟨q', h1, (dc_iff _).1 h2, rfl⟩
  · rename_i hnone
    have := List.find?_eq_none.1 hnone q hq
    rw [ba_dc] at this
    exact absurd (dc_true he) this
theorem newO_not {d : Int} {p : TProgram} {n : ByteArray} (h : ¬ isW d n = true) : newO d p n = n := by
  unfold newO
  simp only [outT]
  split
  · rename_i q hq
    have h1 := List.mem_of_find?_eq_some hq
    have h2 := List.find?_some hq
    rw [ba_dc] at h2
    have h3 := (dc_iff _).1 h2
    have h4 := ((tblN_props d (namesP p) (namesP p) fun _ h => h).1 q h1).1
    rw [h3] at h4
    exact absurd h4 h
  · rfl
theorem newO_out {d : Int} {p : TProgram} {n : ByteArray} (hn : n ∉ namesP p) : newO d p n = n := by
  unfold newO
  simp only [outT]
  split
  · rename_i q hq
    have h1 := List.mem_of_find?_eq_some hq
    have h2 := List.find?_some hq
    rw [ba_dc] at h2
    have h3 := (dc_iff _).1 h2
    have h4 := ((tblN_props d (namesP p) (namesP p) fun _ h => h).1 q h1).2.1
    rw [h3] at h4
    exact absurd h4 hn
  · rfl
section
variable {d : Int} {p : TProgram} (hl : (namesP p).length ≤ 300)
include hl
theorem pair_props {q : TPair} (hq : q ∈ tblP d p) : isW d q.Old = true ∧ q.Old ∈ namesP p ∧ q.New ∉ namesP p ∧ (∀ e, isW e q.New = false) ∧ freeB q.New ∧ q.New.size ≤ q.Old.size + 4 ∧ q.New.size ≠ 0 ∧ q.New ≠ q.Old := by
  obtain ⟨h1, h2, h3, k, hk, h4⟩ := (tblN_props d (namesP p) (namesP p) fun _ h => h).1 q hq
  have hs := word_small h1
  have hnm := name_succ (s := q.Old) (by omega) k
  have hdz := decB_size (k + 1) (by omega)
  refine ⟨h1, h2, h3, fun e => by rw [h4]; exact Wd.name_word q.Old k e, ?_, ?_, ?_, fun e => h3 (e ▸ h2)⟩
  · rw [h4, hnm]
    intro c hc
    simp only [ByteArray.data_append, Array.toList_append, List.mem_append] at hc
    rcases hc with (hc | hc) | hc
    · exact word_free h1 c hc
    · simp at hc; subst hc; decide
    · exact dec_free (k + 1) c (by simpa [Wd.decB] using hc)
  · rw [h4, hnm]
    simp only [ByteArray.size_append, s95]
    omega
  · rw [h4, hnm]
    simp only [ByteArray.size_append, s95]
    omega
theorem newO_grow : growO (newO d p) := fun n => by
  by_cases hn : n ∈ namesP p
  · by_cases h : isW d n = true
    · obtain ⟨q, hq, rfl, he⟩ := newO_word hn h
      have := (pair_props hl hq).2.2.2.2.2.1
      have := word_small h
      rw [he]
      omega
    · rw [newO_not h]
      omega
  · rw [newO_out hn]
    omega
theorem tblP_len : (tblP d p).length ≤ 300 := Nat.le_trans (tblN_len d _ _) hl
theorem tblP_room (n : Nat) : roomT (.ren (tblP d p)) n := fun q hq => by
  have h := pair_props hl hq
  have := word_small h.1
  omega
theorem Apply_ok (k : Nat) (hb : bk_TProgram p ≤ 8388608) (hk : 3 * bk_TProgram p + 1030 ≤ k) : (FF hFam (k + 11)).f_rename_Apply (d, p, ()) = some (mapP (newO d p) p, tblP d p, ()) := by
  show B_rename_Apply (FF hFam (k + 10)) (k + 10) d p = _
  unfold B_rename_Apply
  rw [Table_ok k d p hb hk hl, Option.bind_some]
  have e : (FF hFam (k + 10)).f_tree_Rename (p, tblP d p, ()) = some (mapP (newO d p) p) := by
    show B_tree_Rename (FF hFam (k + 9)) (k + 9) p (tblP d p) = _
    unfold B_tree_Rename
    rw [mprog_ok (k + 1) (.ren (tblP d p)) p (tblP_room hl _) hb (by omega)]
    rfl
  rw [e]
  rfl
end
end Go.Ev
end
section
open Go
namespace Go.Ev
open Go.Proofs.YtlepjafokfhnfaaGreatDoor
set_option maxRecDepth 100000
set_option maxHeartbeats 4000000
set_option linter.unusedVariables false
set_option linter.unusedSimpArgs false
set_option linter.unusedSectionVars false
theorem RenameTables_ok (k : Nat) (d : Int) (p : TProgram) (fp : ft_TProgram p) (hb : bk_TProgram p ≤ 1048576) (hk : 30000000 ≤ k) (aw : (FF hFam (k + 11)).f_w16_awake () = some true) : (FF hFam (k + 12)).f_w16_RenameTables (d, p, ()) = some true := by
  show B_w16_RenameTables (FF hFam (k + 11)) (k + 11) d p = _
  unfold B_w16_RenameTables
  have e1 := r07_Names_ok (k + 7) p (by omega) (by omega)
  have e2 : (nmP' p).foldl addN [] = namesP p := rfl
  rw [e2] at e1
  rw [e1, Option.bind_some]
  by_cases hl : (namesP p).length ≤ 300
  · have hlf : decide (((namesP p).length : Int) > 300) = false := by simpa using (by omega : ((namesP p).length : Int) ≤ 300)
    have hg := newO_grow (d := d) hl
    have hbq := grow_P (newO d p) hg p
    have hfq := fit_P (newO d p) hg p fp (by omega)
    have hn := rRename_ok [] (by simp) (fun q hq => by simp at hq) (k + 7) p (by omega) (by omega)
    rw [mapP_id (outT (.ren [])) (fun q => rfl) p] at hn
    have hT := Table_ok (k + 1) d p (by omega) (by omega) hl
    have hA := Apply_ok (d := d) hl k (by omega) (by omega)
    have hRT := rTable_ok (k + 6) d p (by omega) (by omega) hl
    have hlen := tblP_len (d := d) hl
    have hP := SamePairs_ok (k + 10) (tblP d p) (tblP d p) (by omega) (by simp only [maxLen]; omega)
    rw [dc_true rfl] at hP
    have hR : (FF hFam (k + 11)).f_r07_Rename (p, tblP d p, ()) = some (mapP (newO d p) p) := rRename_ok (tblP d p) (by omega) (tblP_room hl 0) (k + 7) p (by omega) (by omega)
    have hS := r07_Same_ok hFam (k + 5) (mapP (newO d p) p) (mapP (newO d p) p) hfq (by omega)
    rw [dc_true rfl] at hS
    have hS' := r07_Same_ok hFam (k + 5) p p fp (by omega)
    rw [dc_true rfl] at hS'
    rw [if_neg (by rw [hlf]; simp), hn, Option.bind_some, hT, Option.bind_some, hA, Option.bind_some, hRT, Option.bind_some, hP, Option.bind_some, if_pos rfl, Option.bind_some, if_pos (by rfl), hR, Option.bind_some, hS, Option.bind_some, if_pos (by rfl), hS', Option.bind_some, if_pos (by rfl), aw]
    rfl
  · have hlf : decide (((namesP p).length : Int) > 300) = true := by simpa using (by omega : ((namesP p).length : Int) > 300)
    rw [if_pos hlf, aw]
    rfl
end Go.Ev
end
section
open Go Go.Proofs
namespace Go.Ev
open Go.RowKit Go.Proofs.YtlepjafokfhnfaaGreatDoor
set_option linter.unusedVariables false
set_option maxHeartbeats 4000000
set_option maxRecDepth 100000
section
variable {H : Type} {enc : TypeId × Value → H} {W : World} {base : Nat} {spare : Nat → Bool} {held : Bool}
theorem sp_renameTables (s : Fam) : sp s 3 = ansOf c_w16_RenameTables rc_w16_RenameTables.enc s.f_w16_RenameTables := by kernel_rfl
theorem renameTables (n0 : Int) {v1 : Value} {d1 : DataW H} {p1 : List MemPlace} (h1 : DataW.Trod enc Tryz.prog W base spare held 28 v1 d1 p1) (hb1 : Rows.uptoBulk d1 ≤ 1048576) (hi : EE.inv W) : Calls Tryz.prog 3 #[.int .i64 n0, v1] W fun e W' => e = .returned (.bool true) ∧ Below W.heap.size W W' := by
  obtain ⟨_, x1, _, fx1, bx1, rx1⟩ := read_progB h1
  refine call_law (s := FF hFam (30000001 + 12)) (by decide) (specs hand _) (avs := c_w16_RenameTables.enc (n0, x1, ())) ?_ (.cons _ _ _ _ [] [] [] [] (.c _ _ _ _ (.d _ _ (.lit _ rfl))) (.cons _ _ _ _ [] [] [] [] rx1 .nil)) hi
  rw [sp_renameTables]
  exact ans_run _ _ _ (x := (n0, x1, ())) rfl (by exact RenameTables_ok 30000001 n0 x1 fx1 (by omega) (by omega) (awake_ok 30000000))
end
end Go.Ev
end
section
set_option linter.unusedVariables false
namespace Go.Ev.renameTables
open Go Go.Proofs Go.ChangeShapes Go.WideShapes Go.ChangeAt Go.RowKit Go.Proofs.YtlepjafokfhnfaaGreatDoor
theorem own : ownKnob Tryz.prog.godebug = none := by kernel_rfl
theorem laidOut : laidOutB Tryz.prog = true := by kernel_rfl
theorem reads (os : Os) {H : Type} (enc : TypeId × Value → H) : ∃ places, DataW.whole enc Tryz.prog ((World.laidAll Tryz.prog os laidL).forCall (fun _ _ => 0) ⟨#[], #[.int .i64 0, .agg #[.string ⟨#[]⟩, .slice none 0 0, .slice none 0 0, .slice none 0 0, .slice none 0 0, .slice none 0 0, .slice none 0 0, .slice none 0 0, .slice none 0 0]], []⟩).memory Tryz.f3.params.toList Rows.renameTablesSpec.vars false #[Value.int .i64 0, .agg #[.string ⟨#[]⟩, .slice none 0 0, .slice none 0 0, .slice none 0 0, .slice none 0 0, .slice none 0 0, .slice none 0 0, .slice none 0 0, .slice none 0 0]].toList 8 = some ([.lit (.int .i64 0), .agg [.lit (.string []), .nil, .nil, .nil, .nil, .nil, .nil, .nil, .nil]], [], places) :=
  ⟨[], by kernel_rfl⟩
set_option maxRecDepth 100000 in
theorem lifted (os : Os) (started : os.Started) (H : Type) (enc : TypeId × Value → H) (F : Stop.Interp) :
    ReturnsInHanded {} Tryz.checked os 3 .any ((Rows.OpenSpec.upto Rows.renameTablesSpec).preRow enc Tryz.prog Tryz.f3 Rows.renameTablesUptoRow.domain false Rows.renameTablesUptoRow.laid) (((Rows.OpenSpec.upto Rows.renameTablesSpec).at F).post enc Tryz.prog Tryz.f3 false true false false) := by
  obtain ⟨places, hx⟩ := reads os enc
  refine returnsInHanded_of_row (C := Tryz.checked) (s := Rows.OpenSpec.upto Rows.renameTablesSpec) own started (by kernel_rfl) Tryz.func3
    ⟨World.laidAll Tryz.prog os laidL, fun _ _ => 0, ⟨#[], #[.int .i64 0, .agg #[.string ⟨#[]⟩, .slice none 0 0, .slice none 0 0, .slice none 0 0, .slice none 0 0, .slice none 0 0, .slice none 0 0, .slice none 0 0, .slice none 0 0]], []⟩, World.laidAll_os _ _ _, World.shaped_of_ZipB (by kernel_rfl) (by kernel_rfl), rfl, (Input.okWide_of_okWideB (by kernel_rfl)).2,
      OpenSpec.preRow_of_cond 8 hx (by kernel_rfl) (fun k hk => by cases hk; kernel_rfl) (by kernel_rfl) (by show laidMetH Tryz.prog laidL _; rw [MakeChecks.laidMetH_plain _ _ _ (by kernel_rfl)]; exact laidMet_laidAll _ (by kernel_rfl) (by kernel_rfl)), by
        simp only [Assume.holds]
        exact ⟨by simp, by simp, fun _ => Modest.zero, by simp, by simp⟩⟩ ?_
  intro W base args ds gs before hval hW _ hcond _ hlaid hsh _
  have hL : EE.inv W := of_laid hlaid hsh
  have hW' := hW
  obtain ⟨p, q, hA0, hV, rfl, hfz, hnd⟩ := hW
  have hA : DataW.TrodAll enc Tryz.prog W 0 (fun _ => true) true Tryz.f3.params.toList args.toList ds p := hA0
  rw [Tryz.params3] at hA hval
  obtain ⟨v0, vs0, d0, ds0, p0, q0, hargs, rfl, rfl, h0, r0⟩ := trodAll_cons hA
  obtain ⟨v1, vs1, d1, ds1, p1, q1, rfl, rfl, rfl, h1, r1⟩ := trodAll_cons r0
  obtain ⟨rfl, rfl, rfl⟩ := trodAll_nil r1
  obtain rfl : args = #[v0, v1] := by cases args; simp_all
  obtain ⟨rfl, rfl⟩ := trodVars_none hV
  have hbulk := hcond _ rfl
  simp only [Rows.uptoSmall, decide_eq_true_eq, List.append_nil, List.cons_append, List.nil_append, bulkAll_eq, List.map_cons, List.map_nil, List.sum_cons, List.sum_nil] at hbulk
  have lt0 : ∀ x ∈ p0, x.block < W.heap.size := by obtain ⟨m, hm⟩ := h0; exact DataW.trod_lt m _ _ _ hm
  have lt1 : ∀ x ∈ p1, x.block < W.heap.size := by obtain ⟨m, hm⟩ := h1; exact DataW.trod_lt m _ _ _ hm
  obtain ⟨n0, e0, _, _, _⟩ := open_int Tryz.underlying3 (hval 0 3 v0 rfl rfl) h0
  have hcall : Calls Tryz.prog 3 #[v0, v1] W fun e W' => e = .returned (.bool true) ∧ Below W.heap.size W W' := by
    rw [e0]
    exact Go.Ev.renameTables n0 h1 (by omega) hL
  refine hcall.mono fun e W' ⟨he, bel⟩ => ?_
  subst he
  exact ⟨_, rfl, (⟨_, _, _, [], _, [], hW', trodAll_mk1 (shut_bool Tryz.underlying4 _), (trodAll_cons_mk (Below.trod laidOut (by kernel_rfl) (of_decide_eq_true (by kernel_rfl)) h0 bel lt0) (trodAll_cons_mk (Below.trod laidOut (by kernel_rfl) (of_decide_eq_true (by kernel_rfl)) h1 bel lt1) trodAll_mk0)), rfl, bel.frame _, fun h => by cases h⟩ : Rows.renameTablesSpec.post enc Tryz.prog Tryz.f3 false true false false W _ _ W')⟩
theorem over : Rows.RenameTablesUptoSaid :=
  OpenClaim.holds_of_cond 3 Tryz.f3 rfl rfl rfl rfl rfl rfl rfl ⟨rfl, rfl, rfl, rfl, rfl⟩ rfl rfl rfl rfl rfl (by kernel_rfl) Tryz.func3 (by kernel_rfl)
    (of_decide_eq_true (by kernel_rfl)) (by unfold Func.isWrapper; first | (rw [if_pos (by decide +kernel)]; kernel_rfl) | (rw [if_neg (by decide +kernel)]; exact ⟨rfl, rfl⟩))
    (fun os started H enc _ F => by rw [OpenClaim.pre_eq_preRow]; exact lifted os started H enc F)
theorem plain (f : FuncId) (fn : Func) (hf : Tryz.pinned.checked.prog.funcNamed "pantograph/pantographlaw16.RenameTables" = some f) (hfn : Tryz.pinned.checked.prog.funcs[f]? = some fn) :
    false = Tryz.pinned.checked.prog.looks [] ∧ ∀ (j : Nat) t, fn.params[j]? = some t → Tryz.pinned.checked.prog.wantsStandIn t = false := by
  obtain rfl : f = 3 := Option.some.inj ((show Tryz.prog.funcNamed "pantograph/pantographlaw16.RenameTables" = some 3 by kernel_rfl).symm.trans hf) |>.symm
  obtain rfl : fn = Tryz.f3 := (Option.some.inj (Tryz.func3.symm.trans hfn)).symm
  refine ⟨by kernel_rfl, fun j t ht => ?_⟩
  rw [Tryz.params3] at ht
  have hm : t ∈ [3, 28] := by simpa using Array.mem_of_getElem? ht
  have hall : ([3, 28].all fun u => !Tryz.prog.wantsStandIn u) = true := by kernel_rfl
  exact (show Tryz.prog.wantsStandIn t = false by simpa using List.all_eq_true.1 hall t hm)
theorem card : Rows.RenameTablesUptoCardSaid :=
  Claim7.holds_tied_plain_at .later [] _ _ _ _ over (fun _ h => by cases h) (by kernel_rfl) (fun _ h => by cases h) renameTablesUpto_row_tie rfl ⟨rfl, rfl⟩ (by kernel_rfl) rfl plain (by kernel_rfl)
end Go.Ev.renameTables
namespace Go.Proofs.YtlepjafokfhnfaaGreatDoor
theorem renameTables_holds : Rows.RenameTablesUptoCardSaid := Go.Ev.renameTables.card
end Go.Proofs.YtlepjafokfhnfaaGreatDoor
end
