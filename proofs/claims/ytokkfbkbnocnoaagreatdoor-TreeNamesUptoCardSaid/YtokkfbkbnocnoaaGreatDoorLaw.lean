/- Proved here: the statement TreeNamesUpto (the names of a program's texts are listed alike by the program and by the document), for every input that its row lets in; conditions: those of the row, and none beside. -/
import Derived.Test.YtokkfbkbnocnoaaGreatDoorA4
import Derived.Deep.DeepHandedRow
section
open Go
namespace Go.Ev
open Go.Proofs.YtokkfbkbnocnoaaGreatDoor
set_option maxRecDepth 100000
set_option maxHeartbeats 4000000
set_option linter.unusedVariables false
set_option linter.unusedSimpArgs false
theorem clone_ok (k : Nat) (l : List ByteArray) (h : l.length ≤ 8388608) : (FF hFam k).f_slices_Clone_string (l, ()) = some l := by
  have : (FF hFam k).f_slices_Clone_string (l, ()) = (if l.length * 16 ≤ 140737488355328 then some l else none) := by cases k <;> rfl
  rw [this, if_pos (by omega)]
theorem mmarks_ok (k : Nat) (th : Thing) (x : TMarks) (h1 : x.Before.length ≤ 8388608) (h2 : x.Trail.length ≤ 8388608) : (FF hFam (k + 1)).f_tree_mapper_marks ((th, ()), x, ()) = some (x, th, ()) := by
  show B_tree_mapper_marks (FF hFam k) k (th, ()) x = _
  unfold B_tree_mapper_marks
  rw [clone_ok k _ h1, clone_ok k _ h2]
  rfl
theorem mtyp_ok (k : Nat) (th : Thing) (t : TType) (hr : roomT th (t.Name.size + 1)) (hs : t.Name.size ≤ 8388608) : (FF hFam (k + 2)).f_tree_mapper_typ ((th, ()), t, ()) = some (⟨t.Kind, t.Size, mapN (outT th) t.Name⟩, nxtT th (pts t.Name), ()) := by
  show B_tree_mapper_typ (FF hFam (k + 1)) (k + 1) (th, ()) t = _
  unfold B_tree_mapper_typ
  rw [parts_ok k th t.Name hr hs]
  rfl
def mapV (o : ByteArray → ByteArray) (v : TVar) : TVar := ⟨v.Marks_Before, v.Marks_Trail, mapN o v.Name, v.T_Kind, v.T_Size, mapN o v.T_Name⟩
def nmV (v : TVar) : List ByteArray := pts v.Name ++ pts v.T_Name
theorem nmV_len (v : TVar) : (nmV v).length ≤ bk_TVar v := by
  have h1 := pts_len v.Name
  have h2 := pts_len v.T_Name
  have := bk_VarN v
  simp only [nmV, List.length_append]
  omega
theorem mvar_ok (k : Nat) (th : Thing) (v : TVar) (hr : roomT th (bk_TVar v)) (hb : bk_TVar v ≤ 8388608) : (FF hFam (k + 3)).f_tree_mapper_variable ((th, ()), v, ()) = some (mapV (outT th) v, nxtT th (nmV v), ()) := by
  have hn := bk_VarN v
  have p1 := pts_len v.Name
  have l1 := bks_v9_len v.Marks_Before
  have l2 := bks_v9_len v.Marks_Trail
  show B_tree_mapper_variable (FF hFam (k + 2)) (k + 2) (th, ()) v = _
  unfold B_tree_mapper_variable
  rw [mmarks_ok (k + 1) th v.sub_Marks (by show v.Marks_Before.length ≤ _; omega) (by show v.Marks_Trail.length ≤ _; omega)]
  simp only [Option.bind_some]
  rw [parts_ok (k + 1) th v.Name (roomT_le hr (by omega)) (by omega)]
  simp only [Option.bind_some]
  rw [mtyp_ok k (nxtT th (pts v.Name)) v.sub_T (by show roomT _ (v.T_Name.size + 1); exact roomT_nxt (roomT_le hr (by omega))) (by show v.T_Name.size ≤ _; omega)]
  simp only [Option.bind_some, outT_nxt', ← nxtT_app]
  rfl
theorem L_each_Var (s : Fam) (k : Nat) (x0 : List TVar) (x1 : Thing × Unit) : ∀ j v0 v1 v2 v3 v4, Ltree_each_Var_3 s k x0 x1 j v0 v1 v2 v3 v4 = eachG dd_TVar 96 (fun th x => s.f_tree_mapper_variable ((th, ()), x, ())) j v0 v1 v2 v3 v4 := by
  intro j
  induction j with
  | zero => intros; rfl
  | succ j ih => intros; simp only [Ltree_each_Var_3, eachG, ih]
theorem each_Var_ok (k : Nat) (th : Thing) (l : List TVar) (hr : roomT th (bks_TVar l)) (hb : bks_TVar l ≤ 8388608) (hk : bks_TVar l + 1 ≤ k) : (FF hFam (k + 4)).f_tree_each_Var (l, (th, ()), ()) = some (l.map (mapV (outT th)), nxtT th (l.flatMap nmV), ()) := by
  have hlen := bks_Var_len l
  show B_tree_each_Var (FF hFam (k + 3)) (k + 3) l (th, ()) = _
  unfold B_tree_each_Var
  rw [L_each_Var]
  have := eachG_ok dd_TVar 96 (by decide) (fun th x => (FF hFam (k + 3)).f_tree_mapper_variable ((th, ()), x, ())) (outT th) (mapV (outT th)) nmV bk_TVar nmV_len l (by omega) (fun i hi th' ho hr' => by
    have := bks_Var_mem l i hi
    rw [← ho]
    exact mvar_ok k th' l[i] hr' (by omega)) (k + 3) 0 (Nat.zero_le _) (by omega) [] th rfl (by rw [List.drop_zero, ← bks_TVar_eq]; exact hr) (Nat.le_refl _)
  simp only [Int.ofNat_zero, List.drop_zero, List.nil_append] at this
  exact this
def mapF (o : ByteArray → ByteArray) (f : TField) : TField := ⟨f.Marks_Before, f.Marks_Trail, mapN o f.Name, f.Kind⟩
def nmF (f : TField) : List ByteArray := pts f.Name
theorem nmF_len (f : TField) : (nmF f).length ≤ bk_TField f := by
  have h1 := pts_len f.Name
  have := bk_FieldN f
  simp only [nmF]
  omega
theorem mfield_ok (k : Nat) (th : Thing) (f : TField) (hr : roomT th (bk_TField f)) (hb : bk_TField f ≤ 8388608) : (FF hFam (k + 3)).f_tree_mapper_rec_1 (f, (th, ()), ()) = some (mapF (outT th) f, nxtT th (nmF f), ()) := by
  have hn := bk_FieldN f
  have l1 := bks_v9_len f.Marks_Before
  have l2 := bks_v9_len f.Marks_Trail
  show B_tree_mapper_rec_1 (FF hFam (k + 2)) (k + 2) f (th, ()) = _
  unfold B_tree_mapper_rec_1
  rw [mmarks_ok (k + 1) th f.sub_Marks (by show f.Marks_Before.length ≤ _; omega) (by show f.Marks_Trail.length ≤ _; omega)]
  simp only [Option.bind_some]
  rw [parts_ok (k + 1) th f.Name (roomT_le hr (by omega)) (by omega)]
  rfl
theorem L_each_Field (s : Fam) (k : Nat) (x0 : List TField) (x1 : Unit × (Thing × Unit) × Unit) : ∀ j v0 v1 v2 v3 v4, Ltree_each_Field_3 s k x0 x1 j v0 v1 v2 v3 v4 = eachG dd_TField 72 (fun th x => s.f_tree_mapper_rec_1 (x, (th, ()), ())) j v0 v1 v2 v3 v4 := by
  intro j
  induction j with
  | zero => intros; rfl
  | succ j ih => intros; simp only [Ltree_each_Field_3, eachG, ih]
theorem each_Field_ok (k : Nat) (th : Thing) (l : List TField) (hr : roomT th (bks_TField l)) (hb : bks_TField l ≤ 8388608) (hk : bks_TField l + 1 ≤ k) : (FF hFam (k + 4)).f_tree_each_Field (l, ((), (th, ()), ()), ()) = some (l.map (mapF (outT th)), nxtT th (l.flatMap nmF), ()) := by
  have hlen := bks_Field_len l
  show B_tree_each_Field (FF hFam (k + 3)) (k + 3) l ((), (th, ()), ()) = _
  unfold B_tree_each_Field
  rw [L_each_Field]
  have := eachG_ok dd_TField 72 (by decide) (fun th x => (FF hFam (k + 3)).f_tree_mapper_rec_1 (x, (th, ()), ())) (outT th) (mapF (outT th)) nmF bk_TField nmF_len l (by omega) (fun i hi th' ho hr' => by
    have := bks_Field_mem l i hi
    rw [← ho]
    exact mfield_ok k th' l[i] hr' (by omega)) (k + 3) 0 (Nat.zero_le _) (by omega) [] th rfl (by rw [List.drop_zero, ← bks_TField_eq]; exact hr) (Nat.le_refl _)
  simp only [Int.ofNat_zero, List.drop_zero, List.nil_append] at this
  exact this
def mapC (o : ByteArray → ByteArray) (r : TRec) : TRec := ⟨r.Marks_Before, r.Marks_Trail, mapN o r.Name, r.Fields.map (mapF o), r.End⟩
def nmC (r : TRec) : List ByteArray := pts r.Name ++ r.Fields.flatMap nmF
theorem flat_len {α : Type} (nm : α → List ByteArray) (w : α → Nat) (h : ∀ x, (nm x).length ≤ w x) : ∀ l : List α, (l.flatMap nm).length ≤ (l.map w).sum
  | [] => by simp
  | x :: r => by
    have := h x
    have := flat_len nm w h r
    simp only [List.flatMap_cons, List.length_append, List.map_cons, List.sum_cons]
    omega
theorem nmC_len (r : TRec) : (nmC r).length ≤ bk_TRec r := by
  have h1 := pts_len r.Name
  have h2 := flat_len nmF bk_TField nmF_len r.Fields
  rw [← bks_TField_eq] at h2
  have := bk_RecN r
  simp only [nmC, List.length_append]
  omega
theorem mrec_ok (k : Nat) (th : Thing) (r : TRec) (hr : roomT th (bk_TRec r)) (hb : bk_TRec r ≤ 8388608) (hk : bk_TRec r ≤ k) : (FF hFam (k + 6)).f_tree_mapper_rec ((th, ()), r, ()) = some (mapC (outT th) r, nxtT th (nmC r), ()) := by
  have hn := bk_RecN r
  have p1 := pts_len r.Name
  have l1 := bks_v9_len r.Marks_Before
  have l2 := bks_v9_len r.Marks_Trail
  have l3 := bks_v9_len r.End
  show B_tree_mapper_rec (FF hFam (k + 5)) (k + 5) (th, ()) r = _
  unfold B_tree_mapper_rec
  rw [mmarks_ok (k + 4) th r.sub_Marks (by show r.Marks_Before.length ≤ _; omega) (by show r.Marks_Trail.length ≤ _; omega)]
  simp only [Option.bind_some]
  rw [parts_ok (k + 4) th r.Name (roomT_le hr (by omega)) (by omega)]
  simp only [Option.bind_some]
  rw [each_Field_ok (k + 1) (nxtT th (pts r.Name)) r.Fields (roomT_nxt (roomT_le hr (by omega))) (by omega) (by omega)]
  simp only [Option.bind_some]
  rw [clone_ok _ r.End (by omega)]
  simp only [Option.bind_some, outT_nxt', ← nxtT_app]
  rfl
theorem L_each_Rec (s : Fam) (k : Nat) (x0 : List TRec) (x1 : Thing × Unit) : ∀ j v0 v1 v2 v3 v4, Ltree_each_Rec_3 s k x0 x1 j v0 v1 v2 v3 v4 = eachG dd_TRec 112 (fun th x => s.f_tree_mapper_rec ((th, ()), x, ())) j v0 v1 v2 v3 v4 := by
  intro j
  induction j with
  | zero => intros; rfl
  | succ j ih => intros; simp only [Ltree_each_Rec_3, eachG, ih]
theorem each_Rec_ok (k : Nat) (th : Thing) (l : List TRec) (hr : roomT th (bks_TRec l)) (hb : bks_TRec l ≤ 8388608) (hk : bks_TRec l + 1 ≤ k) : (FF hFam (k + 7)).f_tree_each_Rec (l, (th, ()), ()) = some (l.map (mapC (outT th)), nxtT th (l.flatMap nmC), ()) := by
  have hlen := bks_Rec_len l
  show B_tree_each_Rec (FF hFam (k + 6)) (k + 6) l (th, ()) = _
  unfold B_tree_each_Rec
  rw [L_each_Rec]
  have := eachG_ok dd_TRec 112 (by decide) (fun th x => (FF hFam (k + 6)).f_tree_mapper_rec ((th, ()), x, ())) (outT th) (mapC (outT th)) nmC bk_TRec nmC_len l (by omega) (fun i hi th' ho hr' => by
    have := bks_Rec_mem l i hi
    rw [← ho]
    exact mrec_ok k th' l[i] hr' (by omega) (by omega)) (k + 6) 0 (Nat.zero_le _) (by omega) [] th rfl (by rw [List.drop_zero, ← bks_TRec_eq]; exact hr) (Nat.le_refl _)
  simp only [Int.ofNat_zero, List.drop_zero, List.nil_append] at this
  exact this
def mapA (o : ByteArray → ByteArray) (p : TParam) : TParam := ⟨mapN o p.Name, p.T_Kind, p.T_Size, mapN o p.T_Name, p.Mode⟩
def nmA (p : TParam) : List ByteArray := pts p.Name ++ pts p.T_Name
theorem nmA_len (p : TParam) : (nmA p).length ≤ bk_TParam p := by
  have h1 := pts_len p.Name
  have h2 := pts_len p.T_Name
  have := bk_ParamN p
  simp only [nmA, List.length_append]
  omega
theorem mparam_ok (k : Nat) (th : Thing) (p : TParam) (hr : roomT th (bk_TParam p)) (hb : bk_TParam p ≤ 8388608) : (FF hFam (k + 3)).f_tree_mapper_routine_1 (p, (th, ()), ()) = some (mapA (outT th) p, nxtT th (nmA p), ()) := by
  have hn := bk_ParamN p
  have p1 := pts_len p.Name
  show B_tree_mapper_routine_1 (FF hFam (k + 2)) (k + 2) p (th, ()) = _
  unfold B_tree_mapper_routine_1
  rw [parts_ok (k + 1) th p.Name (roomT_le hr (by omega)) (by omega)]
  simp only [Option.bind_some]
  rw [mtyp_ok k (nxtT th (pts p.Name)) p.sub_T (by show roomT _ (p.T_Name.size + 1); exact roomT_nxt (roomT_le hr (by omega))) (by show p.T_Name.size ≤ _; omega)]
  simp only [Option.bind_some, outT_nxt', ← nxtT_app]
  rfl
theorem L_each_Param (s : Fam) (k : Nat) (x0 : List TParam) (x1 : Unit × (Thing × Unit) × Unit) : ∀ j v0 v1 v2 v3 v4, Ltree_each_Param_3 s k x0 x1 j v0 v1 v2 v3 v4 = eachG dd_TParam 56 (fun th x => s.f_tree_mapper_routine_1 (x, (th, ()), ())) j v0 v1 v2 v3 v4 := by
  intro j
  induction j with
  | zero => intros; rfl
  | succ j ih => intros; simp only [Ltree_each_Param_3, eachG, ih]
theorem each_Param_ok (k : Nat) (th : Thing) (l : List TParam) (hr : roomT th (bks_TParam l)) (hb : bks_TParam l ≤ 8388608) (hk : bks_TParam l + 1 ≤ k) : (FF hFam (k + 4)).f_tree_each_Param (l, ((), (th, ()), ()), ()) = some (l.map (mapA (outT th)), nxtT th (l.flatMap nmA), ()) := by
  have hlen := bks_Param_len l
  show B_tree_each_Param (FF hFam (k + 3)) (k + 3) l ((), (th, ()), ()) = _
  unfold B_tree_each_Param
  rw [L_each_Param]
  have := eachG_ok dd_TParam 56 (by decide) (fun th x => (FF hFam (k + 3)).f_tree_mapper_routine_1 (x, (th, ()), ())) (outT th) (mapA (outT th)) nmA bk_TParam nmA_len l (by omega) (fun i hi th' ho hr' => by
    have := bks_Param_mem' l i hi
    rw [← ho]
    exact mparam_ok k th' l[i] hr' (by omega)) (k + 3) 0 (Nat.zero_le _) (by omega) [] th rfl (by rw [List.drop_zero, ← bks_TParam_eq]; exact hr) (Nat.le_refl _)
  simp only [Int.ofNat_zero, List.drop_zero, List.nil_append] at this
  exact this
mutual
def nmS : TStmt → List ByteArray
  | ⟨_, _, _, nm, po, pn, pnm, pf, pl, E, _, _, body, els, _, _⟩ => pts nm ++ (nmE ⟨po, pn, pnm, pf, pl⟩ ++ (nmEs E ++ (nmSs body ++ nmSs els)))
def nmSs : List TStmt → List ByteArray
  | [] => []
  | x :: r => nmS x ++ nmSs r
end
mutual
def mapS (o : ByteArray → ByteArray) : TStmt → TStmt
  | ⟨mb, mt, op, nm, po, pn, pnm, pf, pl, E, down, more, body, els, e1, e2⟩ => ⟨mb, mt, op, mapN o nm, po, pn, mapN o pnm, mapN o pf, mapEs o pl, mapEs o E, down, more, mapSs o body, mapSs o els, e1, e2⟩
def mapSs (o : ByteArray → ByteArray) : List TStmt → List TStmt
  | [] => []
  | x :: r => mapS o x :: mapSs o r
end
theorem nmSs_eq : ∀ l : List TStmt, nmSs l = l.flatMap nmS
  | [] => rfl
  | x :: r => by simp [nmSs, nmSs_eq r]
theorem mapSs_eq (o : ByteArray → ByteArray) : ∀ l : List TStmt, mapSs o l = l.map (mapS o)
  | [] => rfl
  | x :: r => by simp [mapSs, mapSs_eq o r]
mutual
theorem nmS_len : ∀ x : TStmt, (nmS x).length ≤ bk_TStmt x
  | ⟨_, _, _, nm, po, pn, pnm, pf, pl, E, _, _, body, els, _, _⟩ => by
    have h1 := pts_len nm
    have h2 := pts_len pnm
    have h2' := pts_len pf
    have h2'' := nmEs_len pl
    have h3 := nmEs_len E
    have h4 := nmSs_len body
    have h5 := nmSs_len els
    simp only [nmS, nmE, bk_TStmt, List.length_append]
    omega
theorem nmSs_len : ∀ l : List TStmt, (nmSs l).length ≤ bks_TStmt l
  | [] => by simp [nmSs]
  | x :: r => by
    have h1 := nmS_len x
    have h2 := nmSs_len r
    simp only [nmSs, bks_TStmt, List.length_append]
    omega
end
theorem L_each_Stmt (s : Fam) (k : Nat) (x0 : List TStmt) (x1 : Thing × Unit) : ∀ j v0 v1 v2 v3 v4, Ltree_each_Stmt_3 s k x0 x1 j v0 v1 v2 v3 v4 = eachG dd_TStmt 272 (fun th x => s.f_tree_mapper_stmt ((th, ()), x, ())) j v0 v1 v2 v3 v4 := by
  intro j
  induction j with
  | zero => intros; rfl
  | succ j ih => intros; simp only [Ltree_each_Stmt_3, eachG, ih, TStmt.re_eq]
theorem mstmt_ok : ∀ K, (∀ th x, roomT th (bk_TStmt x) → bk_TStmt x ≤ 8388608 → 3 * bk_TStmt x + 10 ≤ K → (FF hFam K).f_tree_mapper_stmt ((th, ()), x, ()) = some (mapS (outT th) x, nxtT th (nmS x), ())) ∧
    (∀ th l, roomT th (bks_TStmt l) → bks_TStmt l ≤ 8388608 → 3 * bks_TStmt l + 11 ≤ K → (FF hFam K).f_tree_each_Stmt (l, (th, ()), ()) = some (mapSs (outT th) l, nxtT th (nmSs l), ())) := by
  intro K
  induction K with
  | zero => exact ⟨fun th e _ _ h => by omega, fun th l _ _ h => by omega⟩
  | succ K ih =>
    refine ⟨fun th x hr hb hk => ?_, fun th l hr hb hk => ?_⟩
    · have hn := bk_StmtN x
      have p1 := pts_len x.Name
      have p2 := nmE_len x.sub_P
      have p3 := nmEs_len x.E
      have p4 := nmSs_len x.Body
      have p5 := nmSs_len x.Else
      have l1 := bks_v9_len x.Marks_Before
      have l2 := bks_v9_len x.Marks_Trail
      have l3 := bks_v9_len x.End
      have l4 := bks_v9_len x.End2
      show B_tree_mapper_stmt (FF hFam K) K (th, ()) x = _
      unfold B_tree_mapper_stmt
      obtain ⟨K', rfl⟩ : ∃ K', K = K' + 1 := ⟨K - 1, by omega⟩
      have hE := mexpr_ok (K' + 1)
      rw [mmarks_ok K' th x.sub_Marks (by show x.Marks_Before.length ≤ _; omega) (by show x.Marks_Trail.length ≤ _; omega)]
      simp only [Option.bind_some]
      rw [parts_ok K' th x.Name (roomT_le hr (by omega)) (by omega)]
      simp only [Option.bind_some]
      rw [hE.1 _ x.sub_P (roomT_nxt (roomT_le hr (by omega))) (by omega) (by omega)]
      simp only [Option.bind_some]
      rw [hE.2 _ x.E (roomT_nxt (roomT_nxt (roomT_le hr (by omega)))) (by omega) (by omega)]
      simp only [Option.bind_some]
      rw [ih.2 _ x.Body (roomT_nxt (roomT_nxt (roomT_nxt (roomT_le hr (by omega))))) (by omega) (by omega)]
      simp only [Option.bind_some]
      rw [ih.2 _ x.Else (roomT_nxt (roomT_nxt (roomT_nxt (roomT_nxt (roomT_le hr (by omega)))))) (by omega) (by omega)]
      simp only [Option.bind_some]
      rw [clone_ok _ x.End (by omega), clone_ok _ x.End2 (by omega)]
      simp only [Option.bind_some, outT_nxt', ← nxtT_app]
      cases x
      simp only [mapS, nmS, mapE, nmE, TStmt.sub_P, TStmt.sub_Marks, List.append_assoc]
    · have hlen := bks_Stmt_len l
      show B_tree_each_Stmt (FF hFam K) K l (th, ()) = _
      unfold B_tree_each_Stmt
      rw [L_each_Stmt]
      have := eachG_ok dd_TStmt 272 (by decide) (fun th x => (FF hFam K).f_tree_mapper_stmt ((th, ()), x, ())) (outT th) (mapS (outT th)) nmS bk_TStmt nmS_len l (by omega) (fun i hi th' ho hr' => by
        have := bks_Stmt_mem l i hi
        rw [← ho]
        exact ih.1 th' l[i] hr' (by omega) (by omega)) K 0 (Nat.zero_le _) (by omega) [] th rfl (by rw [List.drop_zero, ← bks_TStmt_eq]; exact hr) (Nat.le_refl _)
      simp only [Int.ofNat_zero, List.drop_zero, List.nil_append] at this
      rw [mapSs_eq, nmSs_eq]
      exact this
mutual
def nmR : TRoutine → List ByteArray
  | ⟨_, _, nm, _, ps, vs, inner, body, _⟩ => pts nm ++ (ps.flatMap nmA ++ (vs.flatMap nmV ++ (nmRs inner ++ nmSs body)))
def nmRs : List TRoutine → List ByteArray
  | [] => []
  | x :: r => nmR x ++ nmRs r
end
mutual
def mapR (o : ByteArray → ByteArray) : TRoutine → TRoutine
  | ⟨mb, mt, nm, res, ps, vs, inner, body, e⟩ => ⟨mb, mt, mapN o nm, res, ps.map (mapA o), vs.map (mapV o), mapRs o inner, mapSs o body, e⟩
def mapRs (o : ByteArray → ByteArray) : List TRoutine → List TRoutine
  | [] => []
  | x :: r => mapR o x :: mapRs o r
end
theorem nmRs_eq : ∀ l : List TRoutine, nmRs l = l.flatMap nmR
  | [] => rfl
  | x :: r => by simp [nmRs, nmRs_eq r]
theorem mapRs_eq (o : ByteArray → ByteArray) : ∀ l : List TRoutine, mapRs o l = l.map (mapR o)
  | [] => rfl
  | x :: r => by simp [mapRs, mapRs_eq o r]
mutual
theorem nmR_len : ∀ x : TRoutine, (nmR x).length ≤ bk_TRoutine x
  | ⟨_, _, nm, _, ps, vs, inner, body, _⟩ => by
    have h1 := pts_len nm
    have h2 := flat_len nmA bk_TParam nmA_len ps
    have h3 := flat_len nmV bk_TVar nmV_len vs
    rw [← bks_TParam_eq] at h2
    rw [← bks_TVar_eq] at h3
    have h4 := nmRs_len inner
    have h5 := nmSs_len body
    simp only [nmR, bk_TRoutine, List.length_append]
    omega
theorem nmRs_len : ∀ l : List TRoutine, (nmRs l).length ≤ bks_TRoutine l
  | [] => by simp [nmRs]
  | x :: r => by
    have h1 := nmR_len x
    have h2 := nmRs_len r
    simp only [nmRs, bks_TRoutine, List.length_append]
    omega
end
theorem L_each_Routine (s : Fam) (k : Nat) (x0 : List TRoutine) (x1 : Thing × Unit) : ∀ j v0 v1 v2 v3 v4, Ltree_each_Routine_3 s k x0 x1 j v0 v1 v2 v3 v4 = eachG dd_TRoutine 192 (fun th x => s.f_tree_mapper_routine ((th, ()), x, ())) j v0 v1 v2 v3 v4 := by
  intro j
  induction j with
  | zero => intros; rfl
  | succ j ih => intros; simp only [Ltree_each_Routine_3, eachG, ih, TRoutine.re_eq]
theorem mroutine_ok : ∀ K, (∀ th x, roomT th (bk_TRoutine x) → bk_TRoutine x ≤ 8388608 → 3 * bk_TRoutine x + 20 ≤ K → (FF hFam K).f_tree_mapper_routine ((th, ()), x, ()) = some (mapR (outT th) x, nxtT th (nmR x), ())) ∧
    (∀ th l, roomT th (bks_TRoutine l) → bks_TRoutine l ≤ 8388608 → 3 * bks_TRoutine l + 21 ≤ K → (FF hFam K).f_tree_each_Routine (l, (th, ()), ()) = some (mapRs (outT th) l, nxtT th (nmRs l), ())) := by
  intro K
  induction K with
  | zero => exact ⟨fun th e _ _ h => by omega, fun th l _ _ h => by omega⟩
  | succ K ih =>
    refine ⟨fun th x hr hb hk => ?_, fun th l hr hb hk => ?_⟩
    · have hn := bk_RoutineN x
      have p1 := pts_len x.Name
      have p2 := flat_len nmA bk_TParam nmA_len x.Params
      have p3 := flat_len nmV bk_TVar nmV_len x.Vars
      rw [← bks_TParam_eq] at p2
      rw [← bks_TVar_eq] at p3
      have p4 := nmRs_len x.Inner
      have p5 := nmSs_len x.Body
      have l1 := bks_v9_len x.Marks_Before
      have l2 := bks_v9_len x.Marks_Trail
      have l3 := bks_v9_len x.End
      show B_tree_mapper_routine (FF hFam K) K (th, ()) x = _
      unfold B_tree_mapper_routine
      obtain ⟨K', rfl⟩ : ∃ K', K = K' + 4 := ⟨K - 4, by omega⟩
      rw [mmarks_ok (K' + 3) th x.sub_Marks (by show x.Marks_Before.length ≤ _; omega) (by show x.Marks_Trail.length ≤ _; omega)]
      simp only [Option.bind_some]
      rw [parts_ok (K' + 3) th x.Name (roomT_le hr (by omega)) (by omega)]
      simp only [Option.bind_some]
      rw [each_Param_ok K' _ x.Params (roomT_nxt (roomT_le hr (by omega))) (by omega) (by omega)]
      simp only [Option.bind_some]
      rw [each_Var_ok K' _ x.Vars (roomT_nxt (roomT_nxt (roomT_le hr (by omega)))) (by omega) (by omega)]
      simp only [Option.bind_some]
      rw [ih.2 _ x.Inner (roomT_nxt (roomT_nxt (roomT_nxt (roomT_le hr (by omega))))) (by omega) (by omega)]
      simp only [Option.bind_some]
      rw [(mstmt_ok (K' + 4)).2 _ x.Body (roomT_nxt (roomT_nxt (roomT_nxt (roomT_nxt (roomT_le hr (by omega)))))) (by omega) (by omega)]
      simp only [Option.bind_some]
      rw [clone_ok _ x.End (by omega)]
      simp only [Option.bind_some, outT_nxt', ← nxtT_app]
      cases x
      simp only [mapR, nmR, TRoutine.sub_Marks, List.append_assoc]
    · have hlen := bks_Routine_len l
      show B_tree_each_Routine (FF hFam K) K l (th, ()) = _
      unfold B_tree_each_Routine
      rw [L_each_Routine]
      have := eachG_ok dd_TRoutine 192 (by decide) (fun th x => (FF hFam K).f_tree_mapper_routine ((th, ()), x, ())) (outT th) (mapR (outT th)) nmR bk_TRoutine nmR_len l (by omega) (fun i hi th' ho hr' => by
        have := bks_Routine_mem l i hi
        rw [← ho]
        exact ih.1 th' l[i] hr' (by omega) (by omega)) K 0 (Nat.zero_le _) (by omega) [] th rfl (by rw [List.drop_zero, ← bks_TRoutine_eq]; exact hr) (Nat.le_refl _)
      simp only [Int.ofNat_zero, List.drop_zero, List.nil_append] at this
      rw [mapRs_eq, nmRs_eq]
      exact this
def nmP' (p : TProgram) : List ByteArray := pts p.Name ++ (p.Recs.flatMap nmC ++ (p.Vars.flatMap nmV ++ (nmRs p.Routines ++ nmSs p.Body)))
def mapP (o : ByteArray → ByteArray) (p : TProgram) : TProgram := ⟨mapN o p.Name, p.Before, p.Mid, p.After, p.Recs.map (mapC o), p.Vars.map (mapV o), mapRs o p.Routines, mapSs o p.Body, p.End⟩
theorem mprog_ok (k : Nat) (th : Thing) (p : TProgram) (hr : roomT th (bk_TProgram p)) (hb : bk_TProgram p ≤ 8388608) (hk : 3 * bk_TProgram p + 30 ≤ k) : (FF hFam (k + 8)).f_tree_mapper_program ((th, ()), p, ()) = some (mapP (outT th) p, nxtT th (nmP' p), ()) := by
  have hn := bk_ProgramN p
  have p1 := pts_len p.Name
  have p2 := flat_len nmC bk_TRec nmC_len p.Recs
  have p3 := flat_len nmV bk_TVar nmV_len p.Vars
  rw [← bks_TRec_eq] at p2
  rw [← bks_TVar_eq] at p3
  have p4 := nmRs_len p.Routines
  have p5 := nmSs_len p.Body
  have l1 := bks_v9_len p.Before
  have l2 := bks_v9_len p.Mid
  have l3 := bks_v9_len p.After
  have l4 := bks_v9_len p.End
  show B_tree_mapper_program (FF hFam (k + 7)) (k + 7) (th, ()) p = _
  unfold B_tree_mapper_program
  rw [parts_ok (k + 6) th p.Name (roomT_le hr (by omega)) (by omega)]
  simp only [Option.bind_some]
  rw [clone_ok _ p.Before (by omega), clone_ok _ p.Mid (by omega), clone_ok _ p.After (by omega), clone_ok _ p.End (by omega)]
  simp only [Option.bind_some]
  rw [each_Rec_ok k _ p.Recs (roomT_nxt (roomT_le hr (by omega))) (by omega) (by omega)]
  simp only [Option.bind_some]
  rw [each_Var_ok (k + 3) _ p.Vars (roomT_nxt (roomT_nxt (roomT_le hr (by omega)))) (by omega) (by omega)]
  simp only [Option.bind_some]
  rw [(mroutine_ok (k + 7)).2 _ p.Routines (roomT_nxt (roomT_nxt (roomT_nxt (roomT_le hr (by omega))))) (by omega) (by omega)]
  simp only [Option.bind_some]
  rw [(mstmt_ok (k + 7)).2 _ p.Body (roomT_nxt (roomT_nxt (roomT_nxt (roomT_nxt (roomT_le hr (by omega)))))) (by omega) (by omega)]
  simp only [Option.bind_some, outT_nxt', ← nxtT_app, List.append_assoc]
  rfl
theorem tree_Names_ok (k : Nat) (p : TProgram) (hb : bk_TProgram p ≤ 8388608) (hk : 3 * bk_TProgram p + 30 ≤ k) : (FF hFam (k + 9)).f_tree_Names (p, ()) = some ((nmP' p).foldl addN []) := by
  show B_tree_Names (FF hFam (k + 8)) (k + 8) p = _
  unfold B_tree_Names
  rw [mprog_ok k (.names []) p (by show 0 + _ ≤ _; omega) hb hk]
  rfl
end Go.Ev
end
section
open Go
namespace Go.Ev
open Go.Proofs.YtokkfbkbnocnoaaGreatDoor
set_option maxRecDepth 100000
set_option maxHeartbeats 4000000
set_option linter.unusedVariables false
set_option linter.unusedSimpArgs false
mutual
def pE : TExpr → List ByteArray
  | ⟨_, _, nm, f, l⟩ => cutP nm ++ cutP f ++ pEs l
def pEs : List TExpr → List ByteArray
  | [] => []
  | x :: r => pE x ++ pEs r
end
mutual
theorem pE_len : ∀ e : TExpr, (pE e).length ≤ bk_TExpr e
  | ⟨_, _, nm, f, l⟩ => by
    have h1 := cutP_len nm
    have h2 := cutP_len f
    have h3 := pEs_len l
    simp only [pE, bk_TExpr, List.length_append]
    omega
theorem pEs_len : ∀ l : List TExpr, (pEs l).length ≤ bks_TExpr l
  | [] => by simp [pEs]
  | x :: r => by
    have h1 := pE_len x
    have h2 := pEs_len r
    simp only [pEs, bks_TExpr, List.length_append]
    omega
end
theorem someP_app (a b : List ByteArray) : someP (a ++ b) = someP a ++ someP b := by simp [someP]
mutual
theorem pE_nm : ∀ e : TExpr, someP (pE e) = nmE e
  | ⟨_, _, nm, f, l⟩ => by simp only [pE, nmE, someP_app, pEs_nm l, pts, List.append_assoc]
theorem pEs_nm : ∀ l : List TExpr, someP (pEs l) = nmEs l
  | [] => rfl
  | x :: r => by simp only [pEs, nmEs, someP_app, pE_nm x, pEs_nm r]
end
theorem bks_drop (l : List TExpr) (i : Nat) (hi : i < l.length) : bks_TExpr (l.drop i) = bk_TExpr l[i] + bks_TExpr (l.drop (i + 1)) := by rw [List.drop_eq_getElem_cons hi, bks_TExpr]
theorem rE_ok : ∀ K e, bk_TExpr e ≤ 1048576 → 2 * bk_TExpr e + 10 ≤ K → (FF hFam K).f_r07_ExprNames (e, ()) = some (pE e)
  | 0, e, hb, hk => by omega
  | K + 1, e, hb, hk => by
    have hn := bk_name e
    have p1 := cutP_len e.Name
    have p2 := cutP_len e.Field
    have hl := bks_Expr_len e.L
    show B_r07_ExprNames (FF hFam K) K e = _
    unfold B_r07_ExprNames
    obtain ⟨K', rfl⟩ : ∃ K', K = K' + 1 := ⟨K - 1, by omega⟩
    have hbk : bk_TExpr e = e.Name.size + e.Field.size + bks_TExpr e.L + 6 := by cases e; simp only [bk_TExpr]; omega
    rw [Parts_ok K' e.Name (by omega) (by omega), Parts_ok K' e.Field (by omega) (by omega)]
    simp only [Option.bind_some]
    rw [if_pos (by simp only [List.length_append]; omega)]
    have key : ∀ j i, i ≤ e.L.length → e.L.length - i < j → ∀ out : List ByteArray, out.length + bks_TExpr (e.L.drop i) ≤ 1099511627776 → Lr07_ExprNames_3 (FF hFam (K' + 1)) (K' + 1) e j (i : Int) e.Op e.N e.Name e.Field e.L out = some (out ++ pEs (e.L.drop i)) := by
      refine up_ind e.L.length (fun j out _ => ?_) (fun j i hi ih out ho => ?_)
      · simp only [Lr07_ExprNames_3]
        rw [if_neg (by simp), List.drop_length]
        simp [pEs]
      · have hbi := bks_Expr_mem e.L i hi
        have hd := bks_drop e.L i hi
        have hp := pE_len e.L[i]
        simp only [Lr07_ExprNames_3]
        rw [if_pos (lt_dec hi), if_pos (by omega), if_pos (by omega), getD_at e.L i _ hi, TExpr.re_eq, rE_ok (K' + 1) e.L[i] (by omega) (by omega), Option.bind_some, wrap_succ hi (by simp only [maxLen]; omega),
          if_pos (by simp only [List.length_append]; omega), ih (out ++ pE e.L[i]) (by simp only [List.length_append]; omega), List.drop_eq_getElem_cons hi]
        simp only [pEs, List.append_assoc]
    have := key (K' + 1) 0 (Nat.zero_le _) (by omega) (cutP e.Name ++ cutP e.Field) (by simp only [List.drop_zero, List.length_append]; omega)
    simp only [Int.ofNat_zero, List.drop_zero] at this
    rw [this]
    cases e
    simp only [pE]
def pV (v : TVar) : List ByteArray := cutP v.Name ++ cutP v.T_Name
theorem pV_len (v : TVar) : (pV v).length ≤ bk_TVar v := by
  have h1 := cutP_len v.Name
  have h2 := cutP_len v.T_Name
  have := bk_VarN v
  simp only [pV, List.length_append]
  omega
theorem pV_nm (v : TVar) : someP (pV v) = nmV v := by simp only [pV, nmV, someP_app, pts]
theorem flat_nm {α : Type} (p q : α → List ByteArray) (h : ∀ x, someP (p x) = q x) : ∀ l : List α, someP (l.flatMap p) = l.flatMap q
  | [] => rfl
  | x :: r => by simp only [List.flatMap_cons, someP_app, h, flat_nm p q h r]
theorem rV_ok (k : Nat) (l : List TVar) (hb : bks_TVar l ≤ 1048576) (hk : bks_TVar l + 10 ≤ k) : (FF hFam (k + 2)).f_r07_varNames (l, ()) = some (l.flatMap pV) := by
  have hlen := bks_Var_len l
  show B_r07_varNames (FF hFam (k + 1)) (k + 1) l = _
  unfold B_r07_varNames
  have key : ∀ j i, i ≤ l.length → l.length - i < j → ∀ out : List ByteArray, out.length + bks_TVar (l.drop i) ≤ 1099511627776 → Lr07_varNames_3 (FF hFam (k + 1)) (k + 1) l j l (i : Int) out = some (out ++ (l.drop i).flatMap pV) := by
    refine up_ind l.length (fun j out _ => ?_) (fun j i hi ih out ho => ?_)
    · simp only [Lr07_varNames_3]
      rw [if_neg (by simp), List.drop_length]
      simp
    · have hbi := bks_Var_mem l i hi
      have hv := bk_VarN l[i]
      have hd : bks_TVar (l.drop i) = bk_TVar l[i] + bks_TVar (l.drop (i + 1)) := by rw [List.drop_eq_getElem_cons hi, bks_TVar]
      have p1 := cutP_len l[i].Name
      have p2 := cutP_len l[i].T_Name
      simp only [Lr07_varNames_3]
      rw [if_pos (lt_dec hi), if_pos (by omega), if_pos (by omega), getD_at l i _ hi, Parts_ok k l[i].Name (by omega) (by omega), Option.bind_some, if_pos (by simp only [List.length_append]; omega), if_pos (by omega), if_pos (by omega),
        Parts_ok k l[i].T_Name (by omega) (by omega), Option.bind_some, if_pos (by simp only [List.length_append]; omega), wrap_succ hi (by simp only [maxLen]; omega), ih _ (by simp only [List.length_append]; omega), List.drop_eq_getElem_cons hi]
      simp only [List.flatMap_cons, pV, List.append_assoc]
  have := key (k + 1) 0 (Nat.zero_le _) (by omega) [] (by simp only [List.drop_zero, List.length_nil]; omega)
  simp only [Int.ofNat_zero, List.drop_zero, List.nil_append] at this
  exact this
mutual
def pS : TStmt → List ByteArray
  | ⟨_, _, _, nm, po, pn, pnm, pf, pl, E, _, _, body, els, _, _⟩ => cutP nm ++ pE ⟨po, pn, pnm, pf, pl⟩ ++ pEs E ++ pSs body ++ pSs els
def pSs : List TStmt → List ByteArray
  | [] => []
  | x :: r => pS x ++ pSs r
end
mutual
theorem pS_len : ∀ x : TStmt, (pS x).length ≤ bk_TStmt x
  | ⟨_, _, _, nm, po, pn, pnm, pf, pl, E, _, _, body, els, _, _⟩ => by
    have h1 := cutP_len nm
    have h2 := cutP_len pnm
    have h2' := cutP_len pf
    have h2'' := pEs_len pl
    have h3 := pEs_len E
    have h4 := pSs_len body
    have h5 := pSs_len els
    simp only [pS, pE, bk_TStmt, List.length_append]
    omega
theorem pSs_len : ∀ l : List TStmt, (pSs l).length ≤ bks_TStmt l
  | [] => by simp [pSs]
  | x :: r => by
    have h1 := pS_len x
    have h2 := pSs_len r
    simp only [pSs, bks_TStmt, List.length_append]
    omega
end
mutual
theorem pS_nm : ∀ x : TStmt, someP (pS x) = nmS x
  | ⟨_, _, _, nm, po, pn, pnm, pf, pl, E, _, _, body, els, _, _⟩ => by simp only [pS, nmS, someP_app, pE_nm, pEs_nm, pSs_nm body, pSs_nm els, pts, List.append_assoc]
theorem pSs_nm : ∀ l : List TStmt, someP (pSs l) = nmSs l
  | [] => rfl
  | x :: r => by simp only [pSs, nmSs, someP_app, pS_nm x, pSs_nm r]
end
theorem pS_eq (x : TStmt) : pS x = cutP x.Name ++ pE x.sub_P ++ pEs x.E ++ pSs x.Body ++ pSs x.Else := by cases x; simp only [pS, TStmt.sub_P]
theorem rS_ok : ∀ K l, bks_TStmt l ≤ 1048576 → 2 * bks_TStmt l + 20 ≤ K → (FF hFam K).f_r07_stmtNames (l, ()) = some (pSs l)
  | 0, l, hb, hk => by omega
  | K + 1, l, hb, hk => by
    have hlen := bks_Stmt_len l
    show B_r07_stmtNames (FF hFam K) K l = _
    unfold B_r07_stmtNames
    obtain ⟨K', rfl⟩ : ∃ K', K = K' + 1 := ⟨K - 1, by omega⟩
    have key : ∀ j i, i ≤ l.length → l.length - i < j → ∀ out : List ByteArray, out.length + bks_TStmt (l.drop i) ≤ 1099511627776 → Lr07_stmtNames_3 (FF hFam (K' + 1)) (K' + 1) l j l (i : Int) out = some (out ++ pSs (l.drop i)) := by
      refine up_ind l.length (fun j out _ => ?_) (fun j i hi ih out ho => ?_)
      · simp only [Lr07_stmtNames_3]
        rw [if_neg (by simp), List.drop_length]
        simp [pSs]
      · have hbi := bks_Stmt_mem l i hi
        have hv := bk_StmtN l[i]
        have hd : bks_TStmt (l.drop i) = bk_TStmt l[i] + bks_TStmt (l.drop (i + 1)) := by rw [List.drop_eq_getElem_cons hi, bks_TStmt]
        have p1 := cutP_len l[i].Name
        have p2 := pE_len l[i].sub_P
        have p4 := pSs_len l[i].Body
        have p5 := pSs_len l[i].Else
        have hEl := bks_Expr_len l[i].E
        -- the expressions, and what stands in the statement
        have inner : ∀ j' m, m ≤ l[i].E.length → l[i].E.length - m < j' → ∀ out' : List ByteArray, out'.length + bks_TExpr (l[i].E.drop m) + bks_TStmt l[i].Body + bks_TStmt l[i].Else + bks_TStmt (l.drop (i + 1)) ≤ 1099511627776 →
            Lr07_stmtNames_8 (FF hFam (K' + 1)) (K' + 1) l (Lr07_stmtNames_3 (FF hFam (K' + 1)) (K' + 1) l j) j' l (i : Int) (m : Int) out' = some (out' ++ pEs (l[i].E.drop m) ++ pSs l[i].Body ++ pSs l[i].Else ++ pSs (l.drop (i + 1))) := by
          refine up_ind l[i].E.length (fun j' out' ho' => ?_) (fun j' m hm ihm out' ho' => ?_)
          · simp only [Lr07_stmtNames_8, getD_at l i _ hi]
            rw [List.drop_length] at ho' ⊢
            simp only [bks_TExpr] at ho'
            have hlf : decide ((l[i].E.length : Int) < (l[i].E.length : Int)) = false := by simp
            rw [if_pos (by omega), if_pos (by omega), if_neg (by rw [hlf]; simp), if_pos (by omega), if_pos (by omega), rS_ok (K' + 1) l[i].Body (by omega) (by omega), Option.bind_some, if_pos (by simp only [List.length_append]; omega), if_pos (by omega), if_pos (by omega),
              rS_ok (K' + 1) l[i].Else (by omega) (by omega), Option.bind_some, if_pos (by simp only [List.length_append]; omega), wrap_succ hi (by simp only [maxLen]; omega), ih _ (by simp only [List.length_append]; omega)]
            simp only [pEs, List.append_nil, List.append_assoc]
          · have hbm := bks_Expr_mem l[i].E m hm
            have hdm := bks_drop l[i].E m hm
            have hpm := pE_len l[i].E[m]
            simp only [Lr07_stmtNames_8, getD_at l i _ hi]
            rw [if_pos (by omega), if_pos (by omega), if_pos (lt_dec hm), if_pos (by omega), if_pos (by omega), if_pos (by omega), if_pos (by omega), getD_at l[i].E m _ hm, TExpr.re_eq, rE_ok (K' + 1) l[i].E[m] (by omega) (by omega), Option.bind_some,
              if_pos (by simp only [List.length_append]; omega), wrap_succ hm (by simp only [maxLen]; omega), ihm _ (by simp only [List.length_append]; omega), List.drop_eq_getElem_cons hm]
            simp only [pEs, List.append_assoc]
        simp only [Lr07_stmtNames_3]
        rw [if_pos (lt_dec hi), if_pos (by omega), if_pos (by omega), getD_at l i _ hi, Parts_ok K' l[i].Name (by omega) (by omega), Option.bind_some, if_pos (by simp only [List.length_append]; omega), if_pos (by omega), if_pos (by omega),
          rE_ok (K' + 1) l[i].sub_P (by omega) (by omega), Option.bind_some, if_pos (by simp only [List.length_append]; omega)]
        have hin := inner (K' + 1) 0 (Nat.zero_le _) (by omega) (out ++ cutP l[i].Name ++ pE l[i].sub_P) (by simp only [List.drop_zero, List.length_append]; omega)
        simp only [Int.ofNat_zero, List.drop_zero] at hin
        rw [hin, List.drop_eq_getElem_cons hi]
        simp only [pSs, pS_eq, List.append_assoc]
    have := key (K' + 1) 0 (Nat.zero_le _) (by omega) [] (by simp only [List.drop_zero, List.length_nil]; omega)
    simp only [Int.ofNat_zero, List.drop_zero, List.nil_append] at this
    exact this
end Go.Ev
end
section
open Go
namespace Go.Ev
open Go.Proofs.YtokkfbkbnocnoaaGreatDoor
set_option maxRecDepth 100000
set_option maxHeartbeats 4000000
set_option linter.unusedVariables false
set_option linter.unusedSimpArgs false
def pA (p : TParam) : List ByteArray := cutP p.Name ++ cutP p.T_Name
theorem pA_nm (p : TParam) : someP (pA p) = nmA p := by simp only [pA, nmA, someP_app, pts]
theorem pA_len (p : TParam) : (pA p).length ≤ bk_TParam p := by
  have h1 := cutP_len p.Name
  have h2 := cutP_len p.T_Name
  have := bk_ParamN p
  simp only [pA, List.length_append]
  omega
mutual
def pR : TRoutine → List ByteArray
  | ⟨_, _, nm, _, ps, vs, inner, body, _⟩ => cutP nm ++ ps.flatMap pA ++ vs.flatMap pV ++ pRs inner ++ pSs body
def pRs : List TRoutine → List ByteArray
  | [] => []
  | x :: r => pR x ++ pRs r
end
mutual
theorem pR_len : ∀ x : TRoutine, (pR x).length ≤ bk_TRoutine x
  | ⟨_, _, nm, _, ps, vs, inner, body, _⟩ => by
    have h1 := cutP_len nm
    have h2 := flat_len pA bk_TParam pA_len ps
    have h3 := flat_len pV bk_TVar pV_len vs
    rw [← bks_TParam_eq] at h2
    rw [← bks_TVar_eq] at h3
    have h4 := pRs_len inner
    have h5 := pSs_len body
    simp only [pR, bk_TRoutine, List.length_append]
    omega
theorem pRs_len : ∀ l : List TRoutine, (pRs l).length ≤ bks_TRoutine l
  | [] => by simp [pRs]
  | x :: r => by
    have h1 := pR_len x
    have h2 := pRs_len r
    simp only [pRs, bks_TRoutine, List.length_append]
    omega
end
mutual
theorem pR_nm : ∀ x : TRoutine, someP (pR x) = nmR x
  | ⟨_, _, nm, _, ps, vs, inner, body, _⟩ => by simp only [pR, nmR, someP_app, flat_nm pA nmA pA_nm, flat_nm pV nmV pV_nm, pRs_nm inner, pSs_nm, pts, List.append_assoc]
theorem pRs_nm : ∀ l : List TRoutine, someP (pRs l) = nmRs l
  | [] => rfl
  | x :: r => by simp only [pRs, nmRs, someP_app, pR_nm x, pRs_nm r]
end
theorem pR_eq (x : TRoutine) : pR x = cutP x.Name ++ x.Params.flatMap pA ++ x.Vars.flatMap pV ++ pRs x.Inner ++ pSs x.Body := by cases x; simp only [pR]
theorem rR_ok : ∀ K l, bks_TRoutine l ≤ 1048576 → 2 * bks_TRoutine l + 30 ≤ K → (FF hFam K).f_r07_routineNames (l, ()) = some (pRs l)
  | 0, l, hb, hk => by omega
  | K + 1, l, hb, hk => by
    have hlen := bks_Routine_len l
    show B_r07_routineNames (FF hFam K) K l = _
    unfold B_r07_routineNames
    obtain ⟨K', rfl⟩ : ∃ K', K = K' + 2 := ⟨K - 2, by omega⟩
    have key : ∀ j i, i ≤ l.length → l.length - i < j → ∀ out : List ByteArray, out.length + bks_TRoutine (l.drop i) ≤ 1099511627776 → Lr07_routineNames_3 (FF hFam (K' + 2)) (K' + 2) l j l (i : Int) out = some (out ++ pRs (l.drop i)) := by
      refine up_ind l.length (fun j out _ => ?_) (fun j i hi ih out ho => ?_)
      · simp only [Lr07_routineNames_3]
        rw [if_neg (by simp), List.drop_length]
        simp [pRs]
      · have hbi := bks_Routine_mem l i hi
        have hv := bk_RoutineN l[i]
        have hd : bks_TRoutine (l.drop i) = bk_TRoutine l[i] + bks_TRoutine (l.drop (i + 1)) := by rw [List.drop_eq_getElem_cons hi, bks_TRoutine]
        have p1 := cutP_len l[i].Name
        have p3 := flat_len pV bk_TVar pV_len l[i].Vars
        rw [← bks_TVar_eq] at p3
        have p4 := pRs_len l[i].Inner
        have p5 := pSs_len l[i].Body
        have hPl := bks_Param_len l[i].Params
        have inner : ∀ j' m, m ≤ l[i].Params.length → l[i].Params.length - m < j' → ∀ out' : List ByteArray, out'.length + bks_TParam (l[i].Params.drop m) + bks_TVar l[i].Vars + bks_TRoutine l[i].Inner + bks_TStmt l[i].Body + bks_TRoutine (l.drop (i + 1)) ≤ 1099511627776 →
            ∀ (mb mt e : List ByteArray) (nm : ByteArray) (res : Int), Lr07_routineNames_8 (FF hFam (K' + 2)) (K' + 2) l (Lr07_routineNames_3 (FF hFam (K' + 2)) (K' + 2) l j) j' l (i : Int) (m : Int) mb mt nm res l[i].Params l[i].Vars l[i].Inner l[i].Body e out' =
              some (out' ++ (l[i].Params.drop m).flatMap pA ++ l[i].Vars.flatMap pV ++ pRs l[i].Inner ++ pSs l[i].Body ++ pRs (l.drop (i + 1))) := by
          refine up_ind l[i].Params.length (fun j' out' ho' mb mt e nm res => ?_) (fun j' m hm ihm out' ho' mb mt e nm res => ?_)
          · simp only [Lr07_routineNames_8]
            rw [List.drop_length] at ho' ⊢
            simp only [bks_TParam] at ho'
            rw [if_neg (by simp), rV_ok K' l[i].Vars (by omega) (by omega), Option.bind_some, if_pos (by simp only [List.length_append]; omega), rR_ok (K' + 2) l[i].Inner (by omega) (by omega), Option.bind_some, if_pos (by simp only [List.length_append]; omega),
              rS_ok (K' + 2) l[i].Body (by omega) (by omega), Option.bind_some, if_pos (by simp only [List.length_append]; omega), wrap_succ hi (by simp only [maxLen]; omega), ih _ (by simp only [List.length_append]; omega)]
            simp only [List.flatMap_nil, List.append_nil, List.append_assoc]
          · have hbm := bks_Param_mem' l[i].Params m hm
            have hvm := bk_ParamN l[i].Params[m]
            have hdm : bks_TParam (l[i].Params.drop m) = bk_TParam l[i].Params[m] + bks_TParam (l[i].Params.drop (m + 1)) := by rw [List.drop_eq_getElem_cons hm, bks_TParam]
            have q1 := cutP_len l[i].Params[m].Name
            have q2 := cutP_len l[i].Params[m].T_Name
            simp only [Lr07_routineNames_8]
            rw [if_pos (lt_dec hm), if_pos (by omega), if_pos (by omega), getD_at l[i].Params m _ hm, Parts_ok (K' + 1) l[i].Params[m].Name (by omega) (by omega), Option.bind_some, if_pos (by simp only [List.length_append]; omega), if_pos (by omega), if_pos (by omega),
              Parts_ok (K' + 1) l[i].Params[m].T_Name (by omega) (by omega), Option.bind_some, if_pos (by simp only [List.length_append]; omega), wrap_succ hm (by simp only [maxLen]; omega), ihm _ (by simp only [List.length_append]; omega), List.drop_eq_getElem_cons hm]
            simp only [List.flatMap_cons, pA, List.append_assoc]
        simp only [Lr07_routineNames_3]
        have hin := inner (K' + 2) 0 (Nat.zero_le _) (by omega) (out ++ cutP l[i].Name) (by simp only [List.drop_zero, List.length_append]; omega) l[i].Marks_Before l[i].Marks_Trail l[i].End l[i].Name l[i].Result
        simp only [Int.ofNat_zero, List.drop_zero] at hin
        rw [if_pos (lt_dec hi), if_pos (by omega), if_pos (by omega), getD_at l i _ hi, Parts_ok (K' + 1) l[i].Name (by omega) (by omega), Option.bind_some, if_pos (by simp only [List.length_append]; omega), hin, List.drop_eq_getElem_cons hi]
        simp only [pRs, pR_eq, List.append_assoc]
    have := key (K' + 2) 0 (Nat.zero_le _) (by omega) [] (by simp only [List.drop_zero, List.length_nil]; omega)
    simp only [Int.ofNat_zero, List.drop_zero, List.nil_append] at this
    exact this
def pF (f : TField) : List ByteArray := cutP f.Name
def pC (r : TRec) : List ByteArray := cutP r.Name ++ r.Fields.flatMap pF
theorem pC_len (r : TRec) : (pC r).length ≤ bk_TRec r := by
  have h1 := cutP_len r.Name
  have h2 := flat_len pF bk_TField (fun f => by have := cutP_len f.Name; have := bk_FieldN f; simp only [pF]; omega) r.Fields
  rw [← bks_TField_eq] at h2
  have := bk_RecN r
  simp only [pC, List.length_append]
  omega
theorem pC_nm (r : TRec) : someP (pC r) = nmC r := by simp only [pC, nmC, someP_app, pts, flat_nm pF nmF (fun _ => rfl)]
def pP (p : TProgram) : List ByteArray := cutP p.Name ++ p.Recs.flatMap pC ++ p.Vars.flatMap pV ++ pRs p.Routines ++ pSs p.Body
theorem pP_nm (p : TProgram) : someP (pP p) = nmP' p := by simp only [pP, nmP', someP_app, pts, flat_nm pC nmC pC_nm, flat_nm pV nmV pV_nm, pRs_nm, pSs_nm, List.append_assoc]
theorem pP_len (p : TProgram) : (pP p).length ≤ bk_TProgram p := by
  have h1 := cutP_len p.Name
  have h2 := flat_len pC bk_TRec pC_len p.Recs
  have h3 := flat_len pV bk_TVar pV_len p.Vars
  rw [← bks_TRec_eq] at h2
  rw [← bks_TVar_eq] at h3
  have h4 := pRs_len p.Routines
  have h5 := pSs_len p.Body
  have := bk_ProgramN p
  simp only [pP, List.length_append]
  omega
theorem mem_any (l : List ByteArray) (x : ByteArray) : Wd.mem l x = l.any fun z => z.toList == x.toList := by
  unfold Wd.mem
  congr 1
  funext z
  rw [ba_beq]
theorem dedup_loop (K : Nat) (x0 : TProgram) (r3 : Int → ByteArray → List ByteArray → List ByteArray → List ByteArray → List TRec → List TVar → List TRoutine → List TStmt → List ByteArray → List ByteArray → Option (List ByteArray)) (l : List ByteArray) (hl : l.length ≤ 1048576) (hk : 1048600 + l.length ≤ K) :
    ∀ j i, i ≤ l.length → l.length - i < j → ∀ out : List ByteArray, out.length ≤ i → Lr07_Names_15 (FF hFam (K + 1)) (K + 1) x0 r3 j (i : Int) l out = some ((someP (l.drop i)).foldl addN out) := by
  refine up_ind l.length (fun j out _ => ?_) (fun j i hi ih out ho => ?_)
  · simp only [Lr07_Names_15]
    rw [if_neg (by simp), List.drop_length]
    rfl
  · have hd := List.drop_eq_getElem_cons hi
    simp only [Lr07_Names_15]
    rw [if_pos (lt_dec hi), if_pos (by omega), if_pos (by omega), getD_at l i _ hi, wrap_succ hi (by simp only [maxLen]; omega), hd, eps_size]
    by_cases hz : l[i].size = 0
    · rw [if_neg (by simp [hz]), ih out (by omega)]
      unfold someP
      rw [List.filter_cons_of_neg (by simp [hz])]
    · rw [if_pos (by simp [hz]), if_pos (by omega), if_pos (by omega), Among_ok K out l[i] (by omega) (by simp only [maxLen]; omega), Option.bind_some, mem_any]
      have hs : someP (l[i] :: l.drop (i + 1)) = l[i] :: someP (l.drop (i + 1)) := by unfold someP; rw [List.filter_cons_of_pos (by simp [hz])]
      rw [hs, List.foldl_cons]
      unfold addN
      cases hany : out.any fun z => z.toList == l[i].toList with
      | true =>
        rw [if_neg (by simp), if_pos rfl]
        exact ih out (by omega)
      | false =>
        rw [if_pos (by simp), if_pos (by omega), if_pos (by omega), if_pos (by simp only [List.length_append, List.length_singleton]; omega), if_neg (by simp)]
        exact ih _ (by simp only [List.length_append, List.length_singleton]; omega)
theorem r07_Names_ok (k : Nat) (p : TProgram) (hb : bk_TProgram p ≤ 1048576) (hk : 3 * bk_TProgram p + 2200000 ≤ k) : (FF hFam (k + 4)).f_r07_Names (p, ()) = some ((nmP' p).foldl addN []) := by
  have hv := bk_ProgramN p
  have hlen := bks_Rec_len p.Recs
  have hpl := pP_len p
  show B_r07_Names (FF hFam (k + 3)) (k + 3) p = _
  unfold B_r07_Names
  have q1 := cutP_len p.Name
  have q3 := flat_len pV bk_TVar pV_len p.Vars
  rw [← bks_TVar_eq] at q3
  have q4 := pRs_len p.Routines
  have q5 := pSs_len p.Body
  rw [Parts_ok (k + 2) p.Name (by omega) (by omega), Option.bind_some]
  have key : ∀ j i, i ≤ p.Recs.length → p.Recs.length - i < j → ∀ out : List ByteArray, out.length + bks_TRec (p.Recs.drop i) ≤ 1048576 → (out ++ (p.Recs.drop i).flatMap pC ++ p.Vars.flatMap pV ++ pRs p.Routines ++ pSs p.Body).length ≤ 1048576 →
      Lr07_Names_3 (FF hFam (k + 3)) (k + 3) p j (i : Int) p.Name p.Before p.Mid p.After p.Recs p.Vars p.Routines p.Body p.End out = some ((someP (out ++ (p.Recs.drop i).flatMap pC ++ p.Vars.flatMap pV ++ pRs p.Routines ++ pSs p.Body)).foldl addN []) := by
    refine up_ind p.Recs.length (fun j out ho hall => ?_) (fun j i hi ih out ho hall => ?_)
    · rw [List.drop_length] at hall ⊢
      simp only [List.flatMap_nil, List.append_nil] at hall ⊢
      simp only [Lr07_Names_3]
      simp only [List.length_append] at hall
      have hdl := dedup_loop (k + 2) p (Lr07_Names_3 (FF hFam (k + 3)) (k + 3) p j) (out ++ p.Vars.flatMap pV ++ pRs p.Routines ++ pSs p.Body) (by simp only [List.length_append]; omega) (by simp only [List.length_append]; omega) (k + 3) 0 (Nat.zero_le _) (by simp only [List.length_append]; omega) [] (Nat.le_refl _)
      simp only [Int.ofNat_zero, List.drop_zero] at hdl
      rw [if_neg (by simp), rV_ok (k + 1) p.Vars (by omega) (by omega), Option.bind_some, if_pos (by simp only [List.length_append]; omega), rR_ok (k + 3) p.Routines (by omega) (by omega), Option.bind_some, if_pos (by simp only [List.length_append]; omega),
        rS_ok (k + 3) p.Body (by omega) (by omega), Option.bind_some, if_pos (by simp only [List.length_append]; omega), hdl]
    · have hbi := bks_Rec_mem p.Recs i hi
      have hvr := bk_RecN p.Recs[i]
      have hd : bks_TRec (p.Recs.drop i) = bk_TRec p.Recs[i] + bks_TRec (p.Recs.drop (i + 1)) := by rw [List.drop_eq_getElem_cons hi, bks_TRec]
      have r1 := cutP_len p.Recs[i].Name
      have hFl := bks_Field_len p.Recs[i].Fields
      have inner : ∀ j' m, m ≤ p.Recs[i].Fields.length → p.Recs[i].Fields.length - m < j' → ∀ out' : List ByteArray, out'.length + bks_TField (p.Recs[i].Fields.drop m) + bks_TRec (p.Recs.drop (i + 1)) ≤ 1048576 →
          (out' ++ (p.Recs[i].Fields.drop m).flatMap pF ++ (p.Recs.drop (i + 1)).flatMap pC ++ p.Vars.flatMap pV ++ pRs p.Routines ++ pSs p.Body).length ≤ 1048576 →
          Lr07_Names_7 (FF hFam (k + 3)) (k + 3) p (Lr07_Names_3 (FF hFam (k + 3)) (k + 3) p j) j' (i : Int) (m : Int) p.Name p.Before p.Mid p.After p.Recs p.Vars p.Routines p.Body p.End out' =
            some ((someP (out' ++ (p.Recs[i].Fields.drop m).flatMap pF ++ (p.Recs.drop (i + 1)).flatMap pC ++ p.Vars.flatMap pV ++ pRs p.Routines ++ pSs p.Body)).foldl addN []) := by
        refine up_ind p.Recs[i].Fields.length (fun j' out' ho' hall' => ?_) (fun j' m hm ihm out' ho' hall' => ?_)
        · rw [List.drop_length] at ho' hall' ⊢
          simp only [bks_TField, List.flatMap_nil, List.append_nil] at ho' hall' ⊢
          simp only [Lr07_Names_7, getD_at p.Recs i _ hi]
          have hlf : decide ((p.Recs[i].Fields.length : Int) < (p.Recs[i].Fields.length : Int)) = false := by simp
          rw [if_pos (by omega), if_pos (by omega), if_neg (by rw [hlf]; simp), wrap_succ hi (by simp only [maxLen]; omega), ih out' (by omega) hall']
        · have hbm := bks_Field_mem p.Recs[i].Fields m hm
          have hvm := bk_FieldN p.Recs[i].Fields[m]
          have hdm : bks_TField (p.Recs[i].Fields.drop m) = bk_TField p.Recs[i].Fields[m] + bks_TField (p.Recs[i].Fields.drop (m + 1)) := by rw [List.drop_eq_getElem_cons hm, bks_TField]
          have s1 := cutP_len p.Recs[i].Fields[m].Name
          have hsh : out' ++ (p.Recs[i].Fields.drop m).flatMap pF = (out' ++ cutP p.Recs[i].Fields[m].Name) ++ (p.Recs[i].Fields.drop (m + 1)).flatMap pF := by
            rw [List.drop_eq_getElem_cons hm]
            simp only [List.flatMap_cons, pF, List.append_assoc]
          rw [hsh] at hall' ⊢
          simp only [Lr07_Names_7, getD_at p.Recs i _ hi]
          rw [if_pos (by omega), if_pos (by omega), if_pos (lt_dec hm), if_pos (by omega), if_pos (by omega), if_pos (by omega), if_pos (by omega), getD_at p.Recs[i].Fields m _ hm, Parts_ok (k + 2) p.Recs[i].Fields[m].Name (by omega) (by omega), Option.bind_some,
            if_pos (by simp only [List.length_append]; omega), wrap_succ hm (by simp only [maxLen]; omega), ihm _ (by simp only [List.length_append]; omega) hall']
      have hsh : out ++ (p.Recs.drop i).flatMap pC = (out ++ cutP p.Recs[i].Name) ++ p.Recs[i].Fields.flatMap pF ++ (p.Recs.drop (i + 1)).flatMap pC := by
        rw [List.drop_eq_getElem_cons hi]
        simp only [List.flatMap_cons, pC, List.append_assoc]
      rw [hsh] at hall ⊢
      have hin := inner (k + 3) 0 (Nat.zero_le _) (by omega) (out ++ cutP p.Recs[i].Name) (by simp only [List.drop_zero, List.length_append]; omega) (by rw [List.drop_zero]; exact hall)
      simp only [Int.ofNat_zero, List.drop_zero] at hin
      simp only [Lr07_Names_3]
      rw [if_pos (lt_dec hi), if_pos (by omega), if_pos (by omega), getD_at p.Recs i _ hi, Parts_ok (k + 2) p.Recs[i].Name (by omega) (by omega), Option.bind_some, if_pos (by simp only [List.length_append]; omega), hin]
  have := key (k + 3) 0 (Nat.zero_le _) (by omega) (cutP p.Name) (by simp only [List.drop_zero]; omega) (by rw [List.drop_zero]; exact Nat.le_trans hpl hb)
  simp only [Int.ofNat_zero, List.drop_zero] at this
  rw [this]
  have hpp : cutP p.Name ++ p.Recs.flatMap pC ++ p.Vars.flatMap pV ++ pRs p.Routines ++ pSs p.Body = pP p := rfl
  rw [hpp, pP_nm]
theorem TreeNames_ok (k : Nat) (p : TProgram) (hb : bk_TProgram p ≤ 1048576) (hk : 3 * bk_TProgram p + 2200100 ≤ k) (aw : (FF hFam (k + 9)).f_w07_awake () = some true) : (FF hFam (k + 10)).f_w07_TreeNames (p, ()) = some true := by
  show B_w07_TreeNames (FF hFam (k + 9)) (k + 9) p = _
  unfold B_w07_TreeNames
  have hln : (nmP' p).length ≤ bk_TProgram p := by
    rw [← pP_nm]
    exact Nat.le_trans (List.length_filter_le _ _) (pP_len p)
  have hfl := foldN_len (nmP' p) []
  simp only [List.length_nil, Nat.zero_add] at hfl
  rw [tree_Names_ok k p (by omega) (by omega), r07_Names_ok (k + 5) p hb (by omega)]
  simp only [Option.bind_some]
  rw [SameTexts_ok hFam (k + 8) _ _ (by omega) (by simp only [maxLen]; omega), Option.bind_some, aw, dc_true rfl]
  rfl
end Go.Ev
end
section
open Go Go.Proofs
namespace Go.Ev
open Go.RowKit Go.Proofs.YtokkfbkbnocnoaaGreatDoor
set_option linter.unusedVariables false
set_option maxHeartbeats 4000000
set_option maxRecDepth 100000
section
variable {H : Type} {enc : TypeId × Value → H} {W : World} {base : Nat} {spare : Nat → Bool} {held : Bool}
theorem sp4 (s : Fam) : sp s 4 = ansOf c_w07_TreeNames rc_w07_TreeNames.enc s.f_w07_TreeNames := by kernel_rfl
theorem treeNames {v1 : Value} {d1 : DataW H} {p1 : List MemPlace} (h1 : DataW.Trod enc Tryz.prog W base spare held 28 v1 d1 p1) (hb : Rows.uptoBulk d1 ≤ 1048576) (hi : EE.inv W) :
    Calls Tryz.prog 4 #[v1] W fun e W' => e = .returned (.bool true) ∧ Below W.heap.size W W' := by
  obtain ⟨_, x, _, fx, bx, rx⟩ := read_progB h1
  refine call_law (s := FF hFam (5600000 + 3 + 10)) (by decide) (specs hand _) (avs := c_w07_TreeNames.enc (x, ())) ?_ (.cons _ _ _ _ [] [] [] [] rx .nil) hi
  rw [sp4]
  exact ans_run _ _ _ (x := (x, ())) rfl (TreeNames_ok (5600000 + 3) x (by omega) (by omega) (awake_ok 5600000))
end
end Go.Ev
end
section
set_option linter.unusedVariables false
namespace Go.Ev.treeNames
open Go Go.Proofs Go.ChangeShapes Go.WideShapes Go.ChangeAt Go.RowKit Go.Proofs.YtokkfbkbnocnoaaGreatDoor
theorem own : ownKnob Tryz.prog.godebug = none := by kernel_rfl
theorem laidOut : laidOutB Tryz.prog = true := by kernel_rfl
theorem reads (os : Os) {H : Type} (enc : TypeId × Value → H) : ∃ places, DataW.whole enc Tryz.prog ((World.laidAll Tryz.prog os laidL).forCall (fun _ _ => 0) ⟨#[], #[.agg #[.string ⟨#[]⟩, .slice none 0 0, .slice none 0 0, .slice none 0 0, .slice none 0 0, .slice none 0 0, .slice none 0 0, .slice none 0 0, .slice none 0 0]], []⟩).memory Tryz.f4.params.toList Rows.treeNamesSpec.vars false #[Value.agg #[.string ⟨#[]⟩, .slice none 0 0, .slice none 0 0, .slice none 0 0, .slice none 0 0, .slice none 0 0, .slice none 0 0, .slice none 0 0, .slice none 0 0]].toList 8 = some ([.agg [.lit (.string []), .nil, .nil, .nil, .nil, .nil, .nil, .nil, .nil]], [], places) :=
  ⟨[], by kernel_rfl⟩
set_option maxRecDepth 100000 in
theorem lifted (os : Os) (started : os.Started) (H : Type) (enc : TypeId × Value → H) (F : Stop.Interp) :
    ReturnsInHanded {} Tryz.checked os 4 .any ((Rows.OpenSpec.upto Rows.treeNamesSpec).preRow enc Tryz.prog Tryz.f4 Rows.treeNamesUptoRow.domain false Rows.treeNamesUptoRow.laid) (((Rows.OpenSpec.upto Rows.treeNamesSpec).at F).post enc Tryz.prog Tryz.f4 false true false false) := by
  obtain ⟨places, hx⟩ := reads os enc
  refine returnsInHanded_of_row (C := Tryz.checked) (s := Rows.OpenSpec.upto Rows.treeNamesSpec) own started (by kernel_rfl) Tryz.func4
    ⟨World.laidAll Tryz.prog os laidL, fun _ _ => 0, ⟨#[], #[.agg #[.string ⟨#[]⟩, .slice none 0 0, .slice none 0 0, .slice none 0 0, .slice none 0 0, .slice none 0 0, .slice none 0 0, .slice none 0 0, .slice none 0 0]], []⟩, World.laidAll_os _ _ _, World.shaped_of_ZipB (by kernel_rfl) (by kernel_rfl), rfl, (Input.okWide_of_okWideB (by kernel_rfl)).2,
      OpenSpec.preRow_of_cond 8 hx (by kernel_rfl) (fun k hk => by cases hk; kernel_rfl) (by kernel_rfl) (by show laidMetH Tryz.prog laidL _; rw [MakeChecks.laidMetH_plain _ _ _ (by kernel_rfl)]; exact laidMet_laidAll _ (by kernel_rfl) (by kernel_rfl)), by
        simp only [Assume.holds]
        exact ⟨by simp, by simp, fun _ => Modest.zero, by simp, by simp⟩⟩ ?_
  intro W base args ds gs before hval hW _ hcond _ hlaid hsh _
  have hL : EE.inv W := of_laid hlaid hsh
  have hW' := hW
  obtain ⟨p, q, hA0, hV, rfl, hfz, hnd⟩ := hW
  have hA : DataW.TrodAll enc Tryz.prog W 0 (fun _ => true) true Tryz.f4.params.toList args.toList ds p := hA0
  rw [Tryz.params4] at hA hval
  obtain ⟨v0, vs0, d0, ds0, p0, q0, hargs, rfl, rfl, h0, r0⟩ := trodAll_cons hA
  obtain ⟨rfl, rfl, rfl⟩ := trodAll_nil r0
  obtain rfl : args = #[v0] := by cases args; simp_all
  obtain ⟨rfl, rfl⟩ := trodVars_none hV
  have hbulk := hcond _ rfl
  simp only [Rows.uptoSmall, decide_eq_true_eq, List.append_nil, List.cons_append, List.nil_append, bulkAll_eq, List.map_cons, List.map_nil, List.sum_cons, List.sum_nil] at hbulk
  have lt0 : ∀ x ∈ p0, x.block < W.heap.size := by obtain ⟨m, hm⟩ := h0; exact DataW.trod_lt m _ _ _ hm
  have hcall : Calls Tryz.prog 4 #[v0] W fun e W' => e = .returned (.bool true) ∧ Below W.heap.size W W' := by
    exact Go.Ev.treeNames h0 (by omega) hL
  refine hcall.mono fun e W' ⟨he, bel⟩ => ?_
  subst he
  exact ⟨_, rfl, (⟨_, _, _, [], _, [], hW', trodAll_mk1 (shut_bool Tryz.underlying4 _), (trodAll_cons_mk (Below.trod laidOut (by kernel_rfl) (of_decide_eq_true (by kernel_rfl)) h0 bel lt0) trodAll_mk0), rfl, bel.frame _, fun h => by cases h⟩ : Rows.treeNamesSpec.post enc Tryz.prog Tryz.f4 false true false false W _ _ W')⟩
theorem over : Rows.TreeNamesUptoSaid :=
  OpenClaim.holds_of_cond 4 Tryz.f4 rfl rfl rfl rfl rfl rfl rfl ⟨rfl, rfl, rfl, rfl, rfl⟩ rfl rfl rfl rfl rfl (by kernel_rfl) Tryz.func4 (by kernel_rfl)
    (of_decide_eq_true (by kernel_rfl)) (by unfold Func.isWrapper; first | (rw [if_pos (by decide +kernel)]; kernel_rfl) | (rw [if_neg (by decide +kernel)]; exact ⟨rfl, rfl⟩))
    (fun os started H enc _ F => by rw [OpenClaim.pre_eq_preRow]; exact lifted os started H enc F)
theorem plain (f : FuncId) (fn : Func) (hf : Tryz.pinned.checked.prog.funcNamed "pantograph/pantographlaw07.TreeNames" = some f) (hfn : Tryz.pinned.checked.prog.funcs[f]? = some fn) :
    false = Tryz.pinned.checked.prog.looks [] ∧ ∀ (j : Nat) t, fn.params[j]? = some t → Tryz.pinned.checked.prog.wantsStandIn t = false := by
  obtain rfl : f = 4 := Option.some.inj ((show Tryz.prog.funcNamed "pantograph/pantographlaw07.TreeNames" = some 4 by kernel_rfl).symm.trans hf) |>.symm
  obtain rfl : fn = Tryz.f4 := (Option.some.inj (Tryz.func4.symm.trans hfn)).symm
  refine ⟨by kernel_rfl, fun j t ht => ?_⟩
  rw [Tryz.params4] at ht
  have hm : t ∈ [28] := by simpa using Array.mem_of_getElem? ht
  have hall : ([28].all fun u => !Tryz.prog.wantsStandIn u) = true := by kernel_rfl
  exact (show Tryz.prog.wantsStandIn t = false by simpa using List.all_eq_true.1 hall t hm)
theorem card : Rows.TreeNamesUptoCardSaid :=
  Claim7.holds_tied_plain_at .later [] _ _ _ _ over (fun _ h => by cases h) (by kernel_rfl) (fun _ h => by cases h) treeNamesUpto_row_tie rfl ⟨rfl, rfl⟩ (by kernel_rfl) rfl plain (by kernel_rfl)
end Go.Ev.treeNames
namespace Go.Proofs.YtokkfbkbnocnoaaGreatDoor
theorem treeNames_holds : Rows.TreeNamesUptoCardSaid := Go.Ev.treeNames.card
end Go.Proofs.YtokkfbkbnocnoaaGreatDoor
end
