/- Proved here: the statement TreeBackUpto (a program whose names are turned into others and back is the program that it was), for every input that its row lets in; conditions: those of the row, and none beside. -/
import Derived.Test.YtokkfbkbnocnoaaGreatDoorA4
import Derived.Lib.SplitLaws
import Derived.Lib.CutLaws
import Derived.Deep.DeepHandedRow
section
open Go Go.Proofs
namespace Go.Ev
open Go.RowKit Go.Proofs.YtokkfbkbnocnoaaGreatDoor
set_option linter.unusedVariables false
set_option linter.unusedSimpArgs false
set_option maxHeartbeats 4000000
set_option maxRecDepth 100000
section
variable {H : Type} {enc : TypeId × Value → H} {W : World} {base : Nat} {spare : Nat → Bool} {held : Bool}
theorem read_progB {v : Value} {d : DataW H} {ps : List MemPlace} (h : DataW.Trod enc Tryz.prog W base spare held 28 v d ps) :
    ∃ (vs : Array Value) (x : TProgram), v = .agg vs ∧ ft_TProgram x ∧ bk_TProgram x ≤ Rows.uptoBulk d ∧ ARep EE (allS W) W (· ∈ ([] : List Nat)) W.heap.size v (c_TProgram.enc x) [] [] := by
  obtain ⟨vs, rfl, ds, h1, h2, h3, h4⟩ := read_anyB (t := 28) (l := [.str, .sl 9, .sl 9, .sl 9, .sl 59, .sl 98, .sl 103, .sl 107, .sl 9]) (ti := tyOfN 28) (by kernel_rfl) (by kernel_rfl) (by kernel_rfl) (by kernel_rfl) h
  obtain ⟨d0, ds, rfl, e0, h⟩ := List.map_eq_cons_iff.1 h2
  obtain ⟨d1, ds, rfl, e1, h⟩ := List.map_eq_cons_iff.1 h
  obtain ⟨d2, ds, rfl, e2, h⟩ := List.map_eq_cons_iff.1 h
  obtain ⟨d3, ds, rfl, e3, h⟩ := List.map_eq_cons_iff.1 h
  obtain ⟨d4, ds, rfl, e4, h⟩ := List.map_eq_cons_iff.1 h
  obtain ⟨d5, ds, rfl, e5, h⟩ := List.map_eq_cons_iff.1 h
  obtain ⟨d6, ds, rfl, e6, h⟩ := List.map_eq_cons_iff.1 h
  obtain ⟨d7, ds, rfl, e7, h⟩ := List.map_eq_cons_iff.1 h
  obtain ⟨d8, ds, rfl, e8, h⟩ := List.map_eq_cons_iff.1 h
  obtain rfl := List.map_eq_nil_iff.1 h
  obtain ⟨y0, rfl⟩ := kd_str e0
  obtain ⟨y1, rfl⟩ := kd_sl e1
  obtain ⟨y2, rfl⟩ := kd_sl e2
  obtain ⟨y3, rfl⟩ := kd_sl e3
  obtain ⟨y4, rfl⟩ := kd_sl e4
  obtain ⟨y5, rfl⟩ := kd_sl e5
  obtain ⟨y6, rfl⟩ := kd_sl e6
  obtain ⟨y7, rfl⟩ := kd_sl e7
  obtain ⟨y8, rfl⟩ := kd_sl e8
  refine ⟨vs, ⟨y0, y1, y2, y3, y4, y5, y6, y7, y8⟩, rfl, ?_, ?_, .agg vs _ [] [] h1.preps⟩
  · simp only [List.mem_cons, List.not_mem_nil, or_false, forall_eq_or_imp, forall_eq, QD] at h3
    simp only [ft_TProgram, fts_v9_iff, fts_TRec_iff, fts_TVar_iff, fts_TRoutine_iff, fts_TStmt_iff]
    exact h3
  · simp only [List.map_cons, List.map_nil, List.sum_cons, List.sum_nil, bkD] at h4
    have e9 : ∀ l : List ByteArray, (l.map (bkk 9)).sum = bks_v9 l := fun l => by rw [bks_v9_eq]; rfl
    have e59 : ∀ l : List TRec, (l.map (bkk 59)).sum = bks_TRec l := fun l => by rw [bks_TRec_eq]; rfl
    have e98 : ∀ l : List TVar, (l.map (bkk 98)).sum = bks_TVar l := fun l => by rw [bks_TVar_eq]; rfl
    have e103 : ∀ l : List TRoutine, (l.map (bkk 103)).sum = bks_TRoutine l := fun l => by rw [bks_TRoutine_eq]; rfl
    have e107 : ∀ l : List TStmt, (l.map (bkk 107)).sum = bks_TStmt l := fun l => by rw [bks_TStmt_eq]; rfl
    have f1 := e9 y1
    have f2 := e9 y2
    have f3 := e9 y3
    have f4 := e59 y4
    have f5 := e98 y5
    have f6 := e103 y6
    have f7 := e107 y7
    have f8 := e9 y8
    simp only [bk_TProgram]
    omega
end
end Go.Ev
end
section
open Go
namespace Go.Ev
open Go.Proofs.YtokkfbkbnocnoaaGreatDoor
set_option maxRecDepth 100000
set_option maxHeartbeats 4000000
set_option linter.unusedVariables false
set_option linter.unusedSimpArgs false
theorem idx36 (s : ByteArray) : Lib.indexB s sep36 = Lib.indexByte s.data.toList 36 := Lib.index_one s.data.toList 36
theorem cutD_eq : ∀ (n : Nat) (s : ByteArray), s.size ≤ n → cutD s = cutP s := by
  intro n
  induction n with
  | zero =>
    intro s hs
    have h : Lib.indexByte s.data.toList 36 = -1 := by
      have : s.data.toList = [] := List.eq_nil_of_length_eq_zero (by simpa using hs)
      rw [this]; rfl
    unfold cutD
    rw [Lib.splitB_miss _ _ _ _ (by rw [idx36]; exact h), cutP_none s h]
  | succ n ih =>
    intro s hs
    unfold cutD
    rcases Int.lt_or_le (Lib.indexByte s.data.toList 36) 0 with hi | hi
    · have h : Lib.indexByte s.data.toList 36 = -1 := by have := Lib.indexByte_ge s.data.toList 36; omega
      rw [Lib.splitB_miss _ _ _ _ (by rw [idx36]; exact h), cutP_none s h]
    · obtain ⟨i, h⟩ := Int.eq_ofNat_of_zero_le hi
      have hb : Lib.indexB s sep36 = (i : Int) := by rw [idx36]; exact h
      have hlt : i < s.size := by
        have h1 := (Lib.indexByte_some h).1
        have h2 := (List.getElem?_eq_some_iff.1 h1).1
        simpa using h2
      have h1 : 1 ≤ sep36.size := by decide
      rw [Lib.countB_hit s sep36 i h1 hb, Nat.add_comm, Lib.splitB_hit sep36 0 _ s i hb, cutP_some s i h]
      have := ih (s.extract (i + 1) s.size) (by rw [ByteArray.size_extract]; omega)
      unfold cutD at this
      show s.extract 0 (i + 0) :: Lib.splitB sep36 0 (Lib.countB (s.extract (i + 1) s.size) sep36) (s.extract (i + 1) s.size) = _
      rw [this]
      rfl
theorem cutD_cutP (s : ByteArray) : cutD s = cutP s := cutD_eq s.size s (Nat.le_refl _)
theorem cutL_ne : ∀ l : List UInt8, cutL l ≠ []
  | [] => by simp [cutL]
  | c :: r => by
    rw [cutL]
    split
    · simp
    · split <;> simp
theorem join_cutL : ∀ l : List UInt8, Lib.join (cutL l) [36] = l
  | [] => by simp [cutL, Lib.join_one]
  | c :: r => by
    have ih := join_cutL r
    have hne := cutL_ne r
    rw [cutL]
    unfold Lib.join at ih ⊢
    split
    · rename_i h
      subst h
      cases hr : cutL r with
      | nil => exact absurd hr hne
      | cons p q =>
        rw [hr] at ih
        rw [List.intercalate_cons_cons]
        simp [ih]
    · split
      · rename_i h; exact absurd h hne
      · rename_i p q hq
        rw [hq] at ih
        cases q with
        | nil => simp [List.intercalate_singleton] at ih ⊢; exact ih
        | cons x y =>
          rw [List.intercalate_cons_cons] at ih ⊢
          simp only [List.cons_append, List.append_assoc] at ih ⊢
          rw [ih]
theorem joinD_cutP (s : ByteArray) : joinD (cutP s) = s := by
  unfold joinD cutP
  apply ByteArray.ext
  apply Array.toList_inj.1
  rw [List.map_map]
  have h : (List.map ((fun x : ByteArray => x.data.toList) ∘ fun l : List UInt8 => (⟨l.toArray⟩ : ByteArray)) (cutL s.data.toList)) = cutL s.data.toList := by
    rw [List.map_congr_left (g := id) (fun l _ => by simp)]; simp
  rw [h]
  exact (join_cutL s.data.toList)
def outT (th : Thing) (p : ByteArray) : ByteArray := match th with
  | .ren l => (match l.find? fun q => q.Old.toList == p.toList with | some q => q.New | none => p)
  | .names _ => p
def addN (l : List ByteArray) (p : ByteArray) : List ByteArray := if (l.any fun z => z.toList == p.toList) = true then l else l ++ [p]
def nxtT (th : Thing) (ps : List ByteArray) : Thing := match th with
  | .ren l => .ren l
  | .names l => .names (ps.foldl addN l)
theorem nxtT_nil (th : Thing) : nxtT th [] = th := by cases th <;> rfl
theorem nxtT_app (th : Thing) (a b : List ByteArray) : nxtT th (a ++ b) = nxtT (nxtT th a) b := by cases th <;> simp [nxtT]
theorem outT_nxt (th : Thing) (a : List ByteArray) (p : ByteArray) : outT (nxtT th a) p = outT th p := by cases th <;> rfl
def roomT (th : Thing) (n : Nat) : Prop := match th with
  | .ren l => ∀ q ∈ l, q.New.size ≤ 8388608
  | .names l => l.length + n ≤ 1099511627776
theorem addN_len (l : List ByteArray) (p : ByteArray) : (addN l p).length ≤ l.length + 1 := by unfold addN; split <;> simp
theorem foldN_len : ∀ (ps l : List ByteArray), (ps.foldl addN l).length ≤ l.length + ps.length
  | [], l => by simp
  | p :: r, l => by
    have := foldN_len r (addN l p)
    have := addN_len l p
    simp only [List.foldl_cons, List.length_cons]; omega
theorem roomT_nxt {th : Thing} {a : List ByteArray} {n : Nat} (h : roomT th (a.length + n)) : roomT (nxtT th a) n := by
  cases th with
  | ren l => exact h
  | names l =>
    have h' : l.length + (a.length + n) ≤ 1099511627776 := h
    have := foldN_len a l
    show (a.foldl addN l).length + n ≤ _
    omega
theorem roomT_le {th : Thing} {m n : Nat} (h : roomT th n) (hm : m ≤ n) : roomT th m := by
  cases th with
  | ren l => exact h
  | names l =>
    have h' : l.length + n ≤ 1099511627776 := h
    show l.length + m ≤ _
    omega
theorem outT_size {th : Thing} {n : Nat} (h : roomT th n) (p : ByteArray) (hp : p.size ≤ 8388608) : (outT th p).size ≤ 8388608 := by
  cases th with
  | ren l =>
    simp only [outT]
    split
    · rename_i q hq
      exact h q (List.mem_of_find?_eq_some hq)
    · exact hp
  | names l => exact hp
theorem stepT_ok {th : Thing} (h : roomT th 1) (p : ByteArray) (hp : p.size ≤ 8388608) : stepT (th, p, ()) = some (outT th p, nxtT th [p], ()) := by
  cases th with
  | ren l => rfl
  | names l =>
    have h' : l.length + 1 ≤ 1099511627776 := h
    simp only [stepT]
    rw [if_pos (by simp only [maxLen]; omega)]
    show _ = some (p, Thing.names (addN l p), ())
    unfold addN
    split
    · rfl
    · rw [if_pos (by omega)]
def someP (l : List ByteArray) : List ByteArray := l.filter fun p => decide (p.size ≠ 0)
def mapPart (th : Thing) (p : ByteArray) : ByteArray := if p.size = 0 then p else outT th p
theorem mapPart_nxt (th : Thing) (a : List ByteArray) : mapPart (nxtT th a) = mapPart th := by funext p; unfold mapPart; rw [outT_nxt]
theorem partsT_ok (k : Nat) : ∀ (ps : List ByteArray) (th : Thing), roomT th ps.length → (∀ p ∈ ps, p.size ≤ 8388608) → partsT (FF hFam k) th ps = some (ps.map (mapPart th), nxtT th (someP ps))
  | [], th, _, _ => by simp [partsT, someP, nxtT_nil]
  | p :: r, th, h, hp => by
    have hp0 := hp p List.mem_cons_self
    have hpr : ∀ q ∈ r, q.size ≤ 8388608 := fun q hq => hp q (List.mem_cons_of_mem _ hq)
    simp only [List.length_cons] at h
    unfold partsT
    by_cases hz : p.size = 0
    · rw [if_pos hz, partsT_ok k r th (roomT_le h (by omega)) hpr]
      simp only [Option.map_some, List.map_cons]
      have h1 : mapPart th p = p := by unfold mapPart; rw [if_pos hz]
      have h2 : someP (p :: r) = someP r := by unfold someP; rw [List.filter_cons_of_neg (by simp [hz])]
      rw [h1, h2]
    · have hby : (FF hFam k).f_by (th, p, ()) = stepT (th, p, ()) := by cases k <;> rfl
      have hr := partsT_ok k r (nxtT th [p]) (roomT_nxt (a := [p]) (by show roomT th (1 + r.length); rwa [Nat.add_comm])) hpr
      rw [if_neg hz, hby, stepT_ok (roomT_le h (by omega)) p hp0, Option.bind_some, hr, Option.map_some]
      simp only [List.map_cons]
      have h1 : mapPart th p = outT th p := by unfold mapPart; rw [if_neg hz]
      have h2 : someP (p :: r) = p :: someP r := by unfold someP; rw [List.filter_cons_of_pos (by simp [hz])]
      rw [h1, h2, mapPart_nxt, show p :: someP r = [p] ++ someP r from rfl, nxtT_app]
end Go.Ev
end
section
open Go
namespace Go.Ev
open Go.Proofs.YtokkfbkbnocnoaaGreatDoor
set_option maxRecDepth 100000
set_option maxHeartbeats 4000000
set_option linter.unusedVariables false
set_option linter.unusedSimpArgs false
def mapPo (o : ByteArray → ByteArray) (p : ByteArray) : ByteArray := if p.size = 0 then p else o p
def mapN (o : ByteArray → ByteArray) (s : ByteArray) : ByteArray := if s.size = 0 then ByteArray.empty else joinD ((cutP s).map (mapPo o))
def pts (s : ByteArray) : List ByteArray := someP (cutP s)
theorem outT_nxt' (th : Thing) (a : List ByteArray) : outT (nxtT th a) = outT th := by funext p; exact outT_nxt th a p
theorem pts_len (s : ByteArray) : (pts s).length ≤ s.size + 1 := Nat.le_trans (List.length_filter_le _ _) (cutP_len s)
theorem join_len : ∀ (ls : List (List UInt8)) (c : Nat), (∀ l ∈ ls, l.length ≤ c) → (Lib.join ls [36]).length ≤ ls.length * (c + 1)
  | [], c, _ => by simp [Lib.join, List.intercalate]
  | [x], c, h => by
    rw [Lib.join_one]
    have := h x List.mem_cons_self
    simp; omega
  | x :: y :: r, c, h => by
    have ih := join_len (y :: r) c fun l hl => h l (List.mem_cons_of_mem _ hl)
    have := h x List.mem_cons_self
    unfold Lib.join at ih ⊢
    rw [List.intercalate_cons_cons]
    simp only [List.length_append, List.length_cons, List.length_nil] at ih ⊢
    rw [Nat.add_mul (r.length + 1) 1 (c + 1)]
    omega
theorem parts_ok (k : Nat) (th : Thing) (s : ByteArray) (hr : roomT th (s.size + 1)) (hs : s.size ≤ 8388608) : (FF hFam (k + 1)).f_tree_mapper_parts ((th, ()), s, ()) = some (mapN (outT th) s, nxtT th (pts s), ()) := by
  show B_tree_mapper_parts (FF hFam k) k (th, ()) s = _
  unfold B_tree_mapper_parts mapN
  by_cases hz : s.size = 0
  · rw [if_pos hz, if_pos hz]
    have h : pts s = [] := by
      have h0 : s.data.toList = [] := List.eq_nil_of_length_eq_zero (by simpa using hz)
      have : cutP s = [⟨#[]⟩] := by unfold cutP; rw [h0]; rfl
      unfold pts
      rw [this]
      rfl
    rw [h, nxtT_nil]
  · rw [if_neg hz, if_neg hz, if_neg (by omega)]
    have hcl := cutP_len s
    rw [cutD_cutP, if_neg (by omega), partsT_ok k (cutP s) th (roomT_le hr hcl) (fun p hp => Nat.le_trans (cutP_mem s p hp) hs), Option.bind_some]
    have hm : (cutP s).map (mapPart th) = (cutP s).map (mapPo (outT th)) := rfl
    simp only [hm]
    have hlen : (Lib.join (((cutP s).map (mapPo (outT th))).map (·.data.toList)) sep36.data.toList).length ≤ (cutP s).length * (8388608 + 1) := by
      have := join_len (((cutP s).map (mapPo (outT th))).map (·.data.toList)) 8388608 (fun l hl => by
        obtain ⟨q, hq, rfl⟩ := List.mem_map.1 hl
        obtain ⟨p, hp, rfl⟩ := List.mem_map.1 hq
        have h1 := Nat.le_trans (cutP_mem s p hp) hs
        have h2 := outT_size hr p h1
        show (mapPo (outT th) p).data.toList.length ≤ _
        unfold mapPo
        split
        · simpa using h1
        · simpa using h2)
      have h36 : sep36.data.toList = [36] := rfl
      rw [h36]
      simpa using this
    have hprod : (cutP s).length * (8388608 + 1) ≤ 8388609 * 8388609 := Nat.mul_le_mul (by omega) (Nat.le_refl _)
    rw [if_pos (by omega)]
    rfl
def eachG {α : Type} (d : α) (sz : Nat) (f : Thing → α → Option (α × Thing × Unit)) : Nat → List α → Int → Int → List α → Thing → Option (List α × Thing × Unit)
  | 0, _, _, _, _, _ => none
  | j + 1, v0, v1, v2, v3, v4 => (if decide (v2 < v1) = true then (if 0 ≤ v2 then (if v2 < (v0.length : Int) then ((f v4 (v0.getD v2.toNat d)).bind fun t5 => (if (v3 ++ [t5.1]).length * sz ≤ 140737488355328 then eachG d sz f j v0 v1 (IntKind.i64.wrap (v2 + 1)) (v3 ++ [t5.1]) t5.2.1 else none)) else none) else none) else some ((v3, v4, ())))
theorem eachG_ok {α : Type} (d : α) (sz : Nat) (hsz : sz ≤ 1000) (f : Thing → α → Option (α × Thing × Unit)) (o : ByteArray → ByteArray) (m : α → α) (nm : α → List ByteArray) (w : α → Nat) (hnm : ∀ x, (nm x).length ≤ w x) (l : List α) (hl : l.length ≤ 8388608)
    (hf : ∀ i (h : i < l.length) th, outT th = o → roomT th (w l[i]) → f th l[i] = some (m l[i], nxtT th (nm l[i]), ())) :
    ∀ j i, i ≤ l.length → l.length - i < j → ∀ out th, outT th = o → roomT th (((l.drop i).map w).sum) → out.length ≤ i → eachG d sz f j l (l.length : Int) (i : Int) out th = some (out ++ (l.drop i).map m, nxtT th ((l.drop i).flatMap nm), ()) := by
  refine up_ind l.length (fun j out th ho hr hout => ?_) (fun j i hi ih out th ho hr hout => ?_)
  · simp only [eachG]
    rw [if_neg (by simp), List.drop_length]
    simp [nxtT_nil]
  · have hd := List.drop_eq_getElem_cons hi
    rw [hd] at hr ⊢
    simp only [List.map_cons, List.sum_cons] at hr
    simp only [eachG]
    rw [if_pos (lt_dec hi), if_pos (by omega), if_pos (by omega), getD_at l i _ hi, hf i hi th ho (roomT_le hr (by omega)), Option.bind_some, wrap_succ hi (by simp only [maxLen]; omega)]
    have hlen : (out ++ [m l[i]]).length * sz ≤ 140737488355328 := by
      have h1 : (out ++ [m l[i]]).length ≤ 8388609 := by simp; omega
      have := Nat.mul_le_mul h1 hsz
      omega
    have hn := hnm l[i]
    rw [if_pos hlen, ih (out ++ [m l[i]]) (nxtT th (nm l[i])) (by rw [outT_nxt', ho]) (roomT_nxt (roomT_le hr (by omega))) (by simp; omega)]
    simp only [List.map_cons, List.flatMap_cons, List.append_assoc, List.cons_append, List.nil_append, nxtT_app]
mutual
def nmE : TExpr → List ByteArray
  | ⟨_, _, nm, f, l⟩ => pts nm ++ (pts f ++ nmEs l)
def nmEs : List TExpr → List ByteArray
  | [] => []
  | x :: r => nmE x ++ nmEs r
end
mutual
def mapE (o : ByteArray → ByteArray) : TExpr → TExpr
  | ⟨op, n, nm, f, l⟩ => ⟨op, n, mapN o nm, mapN o f, mapEs o l⟩
def mapEs (o : ByteArray → ByteArray) : List TExpr → List TExpr
  | [] => []
  | x :: r => mapE o x :: mapEs o r
end
theorem nmEs_eq : ∀ l : List TExpr, nmEs l = l.flatMap nmE
  | [] => rfl
  | x :: r => by simp [nmEs, nmEs_eq r]
theorem mapEs_eq (o : ByteArray → ByteArray) : ∀ l : List TExpr, mapEs o l = l.map (mapE o)
  | [] => rfl
  | x :: r => by simp [mapEs, mapEs_eq o r]
mutual
theorem nmE_len : ∀ e : TExpr, (nmE e).length ≤ bk_TExpr e
  | ⟨_, _, nm, f, l⟩ => by
    have h1 := pts_len nm
    have h2 := pts_len f
    have h3 := nmEs_len l
    simp only [nmE, bk_TExpr, List.length_append]
    omega
theorem nmEs_len : ∀ l : List TExpr, (nmEs l).length ≤ bks_TExpr l
  | [] => by simp [nmEs]
  | x :: r => by
    have h1 := nmE_len x
    have h2 := nmEs_len r
    simp only [nmEs, bks_TExpr, List.length_append]
    omega
end
theorem L_each_Expr (s : Fam) (k : Nat) (x0 : List TExpr) (x1 : Thing × Unit) : ∀ j v0 v1 v2 v3 v4, Ltree_each_Expr_3 s k x0 x1 j v0 v1 v2 v3 v4 = eachG dd_TExpr 72 (fun th x => s.f_tree_mapper_expr ((th, ()), x, ())) j v0 v1 v2 v3 v4 := by
  intro j
  induction j with
  | zero => intros; rfl
  | succ j ih => intros; simp only [Ltree_each_Expr_3, eachG, ih, TExpr.re_eq]
theorem mexpr_ok : ∀ K, (∀ th e, roomT th (bk_TExpr e) → bk_TExpr e ≤ 8388608 → 3 * bk_TExpr e + 10 ≤ K → (FF hFam K).f_tree_mapper_expr ((th, ()), e, ()) = some (mapE (outT th) e, nxtT th (nmE e), ())) ∧
    (∀ th l, roomT th (bks_TExpr l) → bks_TExpr l ≤ 8388608 → 3 * bks_TExpr l + 11 ≤ K → (FF hFam K).f_tree_each_Expr (l, (th, ()), ()) = some (mapEs (outT th) l, nxtT th (nmEs l), ())) := by
  intro K
  induction K with
  | zero => exact ⟨fun th e _ _ h => by omega, fun th l _ _ h => by omega⟩
  | succ K ih =>
    refine ⟨fun th e hr hb hk => ?_, fun th l hr hb hk => ?_⟩
    · have hn := bk_name e
      have p1 := pts_len e.Name
      have p2 := pts_len e.Field
      show B_tree_mapper_expr (FF hFam K) K (th, ()) e = _
      unfold B_tree_mapper_expr
      obtain ⟨K', rfl⟩ : ∃ K', K = K' + 1 := ⟨K - 1, by omega⟩
      have hbk : bk_TExpr e = e.Name.size + e.Field.size + bks_TExpr e.L + 6 := by cases e; simp only [bk_TExpr]; omega
      rw [parts_ok K' th e.Name (roomT_le hr (by omega)) (by omega)]
      simp only [Option.bind_some]
      rw [parts_ok K' (nxtT th (pts e.Name)) e.Field (roomT_nxt (roomT_le hr (by omega))) (by omega)]
      simp only [Option.bind_some]
      rw [ih.2 (nxtT (nxtT th (pts e.Name)) (pts e.Field)) e.L (roomT_nxt (roomT_nxt (roomT_le hr (by omega)))) (by omega) (by omega)]
      simp only [Option.bind_some, outT_nxt']
      rw [← nxtT_app, ← nxtT_app]
      cases e
      simp only [mapE, nmE]
    · have hlen := bks_Expr_len l
      show B_tree_each_Expr (FF hFam K) K l (th, ()) = _
      unfold B_tree_each_Expr
      rw [L_each_Expr]
      have := eachG_ok dd_TExpr 72 (by decide) (fun th x => (FF hFam K).f_tree_mapper_expr ((th, ()), x, ())) (outT th) (mapE (outT th)) nmE bk_TExpr nmE_len l (by omega) (fun i hi th' ho hr' => by
        have := bks_Expr_mem l i hi
        rw [← ho]
        exact ih.1 th' l[i] hr' (by omega) (by omega)) K 0 (Nat.zero_le _) (by omega) [] th rfl (by rw [List.drop_zero, ← bks_TExpr_eq]; exact hr) (Nat.le_refl _)
      simp only [Int.ofNat_zero, List.drop_zero, List.nil_append] at this
      rw [mapEs_eq, nmEs_eq]
      exact this
end Go.Ev
end
section
open Go
namespace Go.Ev
open Go.Proofs.YtokkfbkbnocnoaaGreatDoor
set_option maxRecDepth 100000
set_option maxHeartbeats 4000000
set_option linter.unusedVariables false
set_option linter.unusedSimpArgs false
theorem clone_ok (k : Nat) (l : List ByteArray) (h : l.length ≤ 8388608) : (FF hFam k).f_slices_Clone_string (l, ()) = some l := by
  have : (FF hFam k).f_slices_Clone_string (l, ()) = (if l.length * 16 ≤ 140737488355328 then some l else none) := by cases k <;> rfl
  rw [this, if_pos (by omega)]
theorem mmarks_ok (k : Nat) (th : Thing) (x : TMarks) (h1 : x.Before.length ≤ 8388608) (h2 : x.Trail.length ≤ 8388608) : (FF hFam (k + 1)).f_tree_mapper_marks ((th, ()), x, ()) = some (x, th, ()) := by
  show B_tree_mapper_marks (FF hFam k) k (th, ()) x = _
  unfold B_tree_mapper_marks
  rw [clone_ok k _ h1, clone_ok k _ h2]
  rfl
theorem mtyp_ok (k : Nat) (th : Thing) (t : TType) (hr : roomT th (t.Name.size + 1)) (hs : t.Name.size ≤ 8388608) : (FF hFam (k + 2)).f_tree_mapper_typ ((th, ()), t, ()) = some (⟨t.Kind, t.Size, mapN (outT th) t.Name⟩, nxtT th (pts t.Name), ()) := by
  show B_tree_mapper_typ (FF hFam (k + 1)) (k + 1) (th, ()) t = _
  unfold B_tree_mapper_typ
  rw [parts_ok k th t.Name hr hs]
  rfl
def mapV (o : ByteArray → ByteArray) (v : TVar) : TVar := ⟨v.Marks_Before, v.Marks_Trail, mapN o v.Name, v.T_Kind, v.T_Size, mapN o v.T_Name⟩
def nmV (v : TVar) : List ByteArray := pts v.Name ++ pts v.T_Name
theorem nmV_len (v : TVar) : (nmV v).length ≤ bk_TVar v := by
  have h1 := pts_len v.Name
  have h2 := pts_len v.T_Name
  have := bk_VarN v
  simp only [nmV, List.length_append]
  omega
theorem mvar_ok (k : Nat) (th : Thing) (v : TVar) (hr : roomT th (bk_TVar v)) (hb : bk_TVar v ≤ 8388608) : (FF hFam (k + 3)).f_tree_mapper_variable ((th, ()), v, ()) = some (mapV (outT th) v, nxtT th (nmV v), ()) := by
  have hn := bk_VarN v
  have p1 := pts_len v.Name
  have l1 := bks_v9_len v.Marks_Before
  have l2 := bks_v9_len v.Marks_Trail
  show B_tree_mapper_variable (FF hFam (k + 2)) (k + 2) (th, ()) v = _
  unfold B_tree_mapper_variable
  rw [mmarks_ok (k + 1) th v.sub_Marks (by show v.Marks_Before.length ≤ _; omega) (by show v.Marks_Trail.length ≤ _; omega)]
  simp only [Option.bind_some]
  rw [parts_ok (k + 1) th v.Name (roomT_le hr (by omega)) (by omega)]
  simp only [Option.bind_some]
  rw [mtyp_ok k (nxtT th (pts v.Name)) v.sub_T (by show roomT _ (v.T_Name.size + 1); exact roomT_nxt (roomT_le hr (by omega))) (by show v.T_Name.size ≤ _; omega)]
  simp only [Option.bind_some, outT_nxt', ← nxtT_app]
  rfl
theorem L_each_Var (s : Fam) (k : Nat) (x0 : List TVar) (x1 : Thing × Unit) : ∀ j v0 v1 v2 v3 v4, Ltree_each_Var_3 s k x0 x1 j v0 v1 v2 v3 v4 = eachG dd_TVar 96 (fun th x => s.f_tree_mapper_variable ((th, ()), x, ())) j v0 v1 v2 v3 v4 := by
  intro j
  induction j with
  | zero => intros; rfl
  | succ j ih => intros; simp only [Ltree_each_Var_3, eachG, ih]
theorem each_Var_ok (k : Nat) (th : Thing) (l : List TVar) (hr : roomT th (bks_TVar l)) (hb : bks_TVar l ≤ 8388608) (hk : bks_TVar l + 1 ≤ k) : (FF hFam (k + 4)).f_tree_each_Var (l, (th, ()), ()) = some (l.map (mapV (outT th)), nxtT th (l.flatMap nmV), ()) := by
  have hlen := bks_Var_len l
  show B_tree_each_Var (FF hFam (k + 3)) (k + 3) l (th, ()) = _
  unfold B_tree_each_Var
  rw [L_each_Var]
  have := eachG_ok dd_TVar 96 (by decide) (fun th x => (FF hFam (k + 3)).f_tree_mapper_variable ((th, ()), x, ())) (outT th) (mapV (outT th)) nmV bk_TVar nmV_len l (by omega) (fun i hi th' ho hr' => by
    have := bks_Var_mem l i hi
    rw [← ho]
    exact mvar_ok k th' l[i] hr' (by omega)) (k + 3) 0 (Nat.zero_le _) (by omega) [] th rfl (by rw [List.drop_zero, ← bks_TVar_eq]; exact hr) (Nat.le_refl _)
  simp only [Int.ofNat_zero, List.drop_zero, List.nil_append] at this
  exact this
def mapF (o : ByteArray → ByteArray) (f : TField) : TField := ⟨f.Marks_Before, f.Marks_Trail, mapN o f.Name, f.Kind⟩
def nmF (f : TField) : List ByteArray := pts f.Name
theorem nmF_len (f : TField) : (nmF f).length ≤ bk_TField f := by
  have h1 := pts_len f.Name
  have := bk_FieldN f
  simp only [nmF]
  omega
theorem mfield_ok (k : Nat) (th : Thing) (f : TField) (hr : roomT th (bk_TField f)) (hb : bk_TField f ≤ 8388608) : (FF hFam (k + 3)).f_tree_mapper_rec_1 (f, (th, ()), ()) = some (mapF (outT th) f, nxtT th (nmF f), ()) := by
  have hn := bk_FieldN f
  have l1 := bks_v9_len f.Marks_Before
  have l2 := bks_v9_len f.Marks_Trail
  show B_tree_mapper_rec_1 (FF hFam (k + 2)) (k + 2) f (th, ()) = _
  unfold B_tree_mapper_rec_1
  rw [mmarks_ok (k + 1) th f.sub_Marks (by show f.Marks_Before.length ≤ _; omega) (by show f.Marks_Trail.length ≤ _; omega)]
  simp only [Option.bind_some]
  rw [parts_ok (k + 1) th f.Name (roomT_le hr (by omega)) (by omega)]
  rfl
theorem L_each_Field (s : Fam) (k : Nat) (x0 : List TField) (x1 : Unit × (Thing × Unit) × Unit) : ∀ j v0 v1 v2 v3 v4, Ltree_each_Field_3 s k x0 x1 j v0 v1 v2 v3 v4 = eachG dd_TField 72 (fun th x => s.f_tree_mapper_rec_1 (x, (th, ()), ())) j v0 v1 v2 v3 v4 := by
  intro j
  induction j with
  | zero => intros; rfl
  | succ j ih => intros; simp only [Ltree_each_Field_3, eachG, ih]
theorem each_Field_ok (k : Nat) (th : Thing) (l : List TField) (hr : roomT th (bks_TField l)) (hb : bks_TField l ≤ 8388608) (hk : bks_TField l + 1 ≤ k) : (FF hFam (k + 4)).f_tree_each_Field (l, ((), (th, ()), ()), ()) = some (l.map (mapF (outT th)), nxtT th (l.flatMap nmF), ()) := by
  have hlen := bks_Field_len l
  show B_tree_each_Field (FF hFam (k + 3)) (k + 3) l ((), (th, ()), ()) = _
  unfold B_tree_each_Field
  rw [L_each_Field]
  have := eachG_ok dd_TField 72 (by decide) (fun th x => (FF hFam (k + 3)).f_tree_mapper_rec_1 (x, (th, ()), ())) (outT th) (mapF (outT th)) nmF bk_TField nmF_len l (by omega) (fun i hi th' ho hr' => by
    have := bks_Field_mem l i hi
    rw [← ho]
    exact mfield_ok k th' l[i] hr' (by omega)) (k + 3) 0 (Nat.zero_le _) (by omega) [] th rfl (by rw [List.drop_zero, ← bks_TField_eq]; exact hr) (Nat.le_refl _)
  simp only [Int.ofNat_zero, List.drop_zero, List.nil_append] at this
  exact this
def mapC (o : ByteArray → ByteArray) (r : TRec) : TRec := ⟨r.Marks_Before, r.Marks_Trail, mapN o r.Name, r.Fields.map (mapF o), r.End⟩
def nmC (r : TRec) : List ByteArray := pts r.Name ++ r.Fields.flatMap nmF
theorem flat_len {α : Type} (nm : α → List ByteArray) (w : α → Nat) (h : ∀ x, (nm x).length ≤ w x) : ∀ l : List α, (l.flatMap nm).length ≤ (l.map w).sum
  | [] => by simp
  | x :: r => by
    have := h x
    have := flat_len nm w h r
    simp only [List.flatMap_cons, List.length_append, List.map_cons, List.sum_cons]
    omega
theorem nmC_len (r : TRec) : (nmC r).length ≤ bk_TRec r := by
  have h1 := pts_len r.Name
  have h2 := flat_len nmF bk_TField nmF_len r.Fields
  rw [← bks_TField_eq] at h2
  have := bk_RecN r
  simp only [nmC, List.length_append]
  omega
theorem mrec_ok (k : Nat) (th : Thing) (r : TRec) (hr : roomT th (bk_TRec r)) (hb : bk_TRec r ≤ 8388608) (hk : bk_TRec r ≤ k) : (FF hFam (k + 6)).f_tree_mapper_rec ((th, ()), r, ()) = some (mapC (outT th) r, nxtT th (nmC r), ()) := by
  have hn := bk_RecN r
  have p1 := pts_len r.Name
  have l1 := bks_v9_len r.Marks_Before
  have l2 := bks_v9_len r.Marks_Trail
  have l3 := bks_v9_len r.End
  show B_tree_mapper_rec (FF hFam (k + 5)) (k + 5) (th, ()) r = _
  unfold B_tree_mapper_rec
  rw [mmarks_ok (k + 4) th r.sub_Marks (by show r.Marks_Before.length ≤ _; omega) (by show r.Marks_Trail.length ≤ _; omega)]
  simp only [Option.bind_some]
  rw [parts_ok (k + 4) th r.Name (roomT_le hr (by omega)) (by omega)]
  simp only [Option.bind_some]
  rw [each_Field_ok (k + 1) (nxtT th (pts r.Name)) r.Fields (roomT_nxt (roomT_le hr (by omega))) (by omega) (by omega)]
  simp only [Option.bind_some]
  rw [clone_ok _ r.End (by omega)]
  simp only [Option.bind_some, outT_nxt', ← nxtT_app]
  rfl
theorem L_each_Rec (s : Fam) (k : Nat) (x0 : List TRec) (x1 : Thing × Unit) : ∀ j v0 v1 v2 v3 v4, Ltree_each_Rec_3 s k x0 x1 j v0 v1 v2 v3 v4 = eachG dd_TRec 112 (fun th x => s.f_tree_mapper_rec ((th, ()), x, ())) j v0 v1 v2 v3 v4 := by
  intro j
  induction j with
  | zero => intros; rfl
  | succ j ih => intros; simp only [Ltree_each_Rec_3, eachG, ih]
theorem each_Rec_ok (k : Nat) (th : Thing) (l : List TRec) (hr : roomT th (bks_TRec l)) (hb : bks_TRec l ≤ 8388608) (hk : bks_TRec l + 1 ≤ k) : (FF hFam (k + 7)).f_tree_each_Rec (l, (th, ()), ()) = some (l.map (mapC (outT th)), nxtT th (l.flatMap nmC), ()) := by
  have hlen := bks_Rec_len l
  show B_tree_each_Rec (FF hFam (k + 6)) (k + 6) l (th, ()) = _
  unfold B_tree_each_Rec
  rw [L_each_Rec]
  have := eachG_ok dd_TRec 112 (by decide) (fun th x => (FF hFam (k + 6)).f_tree_mapper_rec ((th, ()), x, ())) (outT th) (mapC (outT th)) nmC bk_TRec nmC_len l (by omega) (fun i hi th' ho hr' => by
    have := bks_Rec_mem l i hi
    rw [← ho]
    exact mrec_ok k th' l[i] hr' (by omega) (by omega)) (k + 6) 0 (Nat.zero_le _) (by omega) [] th rfl (by rw [List.drop_zero, ← bks_TRec_eq]; exact hr) (Nat.le_refl _)
  simp only [Int.ofNat_zero, List.drop_zero, List.nil_append] at this
  exact this
def mapA (o : ByteArray → ByteArray) (p : TParam) : TParam := ⟨mapN o p.Name, p.T_Kind, p.T_Size, mapN o p.T_Name, p.Mode⟩
def nmA (p : TParam) : List ByteArray := pts p.Name ++ pts p.T_Name
theorem nmA_len (p : TParam) : (nmA p).length ≤ bk_TParam p := by
  have h1 := pts_len p.Name
  have h2 := pts_len p.T_Name
  have := bk_ParamN p
  simp only [nmA, List.length_append]
  omega
theorem mparam_ok (k : Nat) (th : Thing) (p : TParam) (hr : roomT th (bk_TParam p)) (hb : bk_TParam p ≤ 8388608) : (FF hFam (k + 3)).f_tree_mapper_routine_1 (p, (th, ()), ()) = some (mapA (outT th) p, nxtT th (nmA p), ()) := by
  have hn := bk_ParamN p
  have p1 := pts_len p.Name
  show B_tree_mapper_routine_1 (FF hFam (k + 2)) (k + 2) p (th, ()) = _
  unfold B_tree_mapper_routine_1
  rw [parts_ok (k + 1) th p.Name (roomT_le hr (by omega)) (by omega)]
  simp only [Option.bind_some]
  rw [mtyp_ok k (nxtT th (pts p.Name)) p.sub_T (by show roomT _ (p.T_Name.size + 1); exact roomT_nxt (roomT_le hr (by omega))) (by show p.T_Name.size ≤ _; omega)]
  simp only [Option.bind_some, outT_nxt', ← nxtT_app]
  rfl
theorem L_each_Param (s : Fam) (k : Nat) (x0 : List TParam) (x1 : Unit × (Thing × Unit) × Unit) : ∀ j v0 v1 v2 v3 v4, Ltree_each_Param_3 s k x0 x1 j v0 v1 v2 v3 v4 = eachG dd_TParam 56 (fun th x => s.f_tree_mapper_routine_1 (x, (th, ()), ())) j v0 v1 v2 v3 v4 := by
  intro j
  induction j with
  | zero => intros; rfl
  | succ j ih => intros; simp only [Ltree_each_Param_3, eachG, ih]
theorem each_Param_ok (k : Nat) (th : Thing) (l : List TParam) (hr : roomT th (bks_TParam l)) (hb : bks_TParam l ≤ 8388608) (hk : bks_TParam l + 1 ≤ k) : (FF hFam (k + 4)).f_tree_each_Param (l, ((), (th, ()), ()), ()) = some (l.map (mapA (outT th)), nxtT th (l.flatMap nmA), ()) := by
  have hlen := bks_Param_len l
  show B_tree_each_Param (FF hFam (k + 3)) (k + 3) l ((), (th, ()), ()) = _
  unfold B_tree_each_Param
  rw [L_each_Param]
  have := eachG_ok dd_TParam 56 (by decide) (fun th x => (FF hFam (k + 3)).f_tree_mapper_routine_1 (x, (th, ()), ())) (outT th) (mapA (outT th)) nmA bk_TParam nmA_len l (by omega) (fun i hi th' ho hr' => by
    have := bks_Param_mem' l i hi
    rw [← ho]
    exact mparam_ok k th' l[i] hr' (by omega)) (k + 3) 0 (Nat.zero_le _) (by omega) [] th rfl (by rw [List.drop_zero, ← bks_TParam_eq]; exact hr) (Nat.le_refl _)
  simp only [Int.ofNat_zero, List.drop_zero, List.nil_append] at this
  exact this
mutual
def nmS : TStmt → List ByteArray
  | ⟨_, _, _, nm, po, pn, pnm, pf, pl, E, _, _, body, els, _, _⟩ => pts nm ++ (nmE ⟨po, pn, pnm, pf, pl⟩ ++ (nmEs E ++ (nmSs body ++ nmSs els)))
def nmSs : List TStmt → List ByteArray
  | [] => []
  | x :: r => nmS x ++ nmSs r
end
mutual
def mapS (o : ByteArray → ByteArray) : TStmt → TStmt
  | ⟨mb, mt, op, nm, po, pn, pnm, pf, pl, E, down, more, body, els, e1, e2⟩ => ⟨mb, mt, op, mapN o nm, po, pn, mapN o pnm, mapN o pf, mapEs o pl, mapEs o E, down, more, mapSs o body, mapSs o els, e1, e2⟩
def mapSs (o : ByteArray → ByteArray) : List TStmt → List TStmt
  | [] => []
  | x :: r => mapS o x :: mapSs o r
end
theorem nmSs_eq : ∀ l : List TStmt, nmSs l = l.flatMap nmS
  | [] => rfl
  | x :: r => by simp [nmSs, nmSs_eq r]
theorem mapSs_eq (o : ByteArray → ByteArray) : ∀ l : List TStmt, mapSs o l = l.map (mapS o)
  | [] => rfl
  | x :: r => by simp [mapSs, mapSs_eq o r]
mutual
theorem nmS_len : ∀ x : TStmt, (nmS x).length ≤ bk_TStmt x
  | ⟨_, _, _, nm, po, pn, pnm, pf, pl, E, _, _, body, els, _, _⟩ => by
    have h1 := pts_len nm
    have h2 := pts_len pnm
    have h2' := pts_len pf
    have h2'' := nmEs_len pl
    have h3 := nmEs_len E
    have h4 := nmSs_len body
    have h5 := nmSs_len els
    simp only [nmS, nmE, bk_TStmt, List.length_append]
    omega
theorem nmSs_len : ∀ l : List TStmt, (nmSs l).length ≤ bks_TStmt l
  | [] => by simp [nmSs]
  | x :: r => by
    have h1 := nmS_len x
    have h2 := nmSs_len r
    simp only [nmSs, bks_TStmt, List.length_append]
    omega
end
theorem L_each_Stmt (s : Fam) (k : Nat) (x0 : List TStmt) (x1 : Thing × Unit) : ∀ j v0 v1 v2 v3 v4, Ltree_each_Stmt_3 s k x0 x1 j v0 v1 v2 v3 v4 = eachG dd_TStmt 272 (fun th x => s.f_tree_mapper_stmt ((th, ()), x, ())) j v0 v1 v2 v3 v4 := by
  intro j
  induction j with
  | zero => intros; rfl
  | succ j ih => intros; simp only [Ltree_each_Stmt_3, eachG, ih, TStmt.re_eq]
theorem mstmt_ok : ∀ K, (∀ th x, roomT th (bk_TStmt x) → bk_TStmt x ≤ 8388608 → 3 * bk_TStmt x + 10 ≤ K → (FF hFam K).f_tree_mapper_stmt ((th, ()), x, ()) = some (mapS (outT th) x, nxtT th (nmS x), ())) ∧
    (∀ th l, roomT th (bks_TStmt l) → bks_TStmt l ≤ 8388608 → 3 * bks_TStmt l + 11 ≤ K → (FF hFam K).f_tree_each_Stmt (l, (th, ()), ()) = some (mapSs (outT th) l, nxtT th (nmSs l), ())) := by
  intro K
  induction K with
  | zero => exact ⟨fun th e _ _ h => by omega, fun th l _ _ h => by omega⟩
  | succ K ih =>
    refine ⟨fun th x hr hb hk => ?_, fun th l hr hb hk => ?_⟩
    · have hn := bk_StmtN x
      have p1 := pts_len x.Name
      have p2 := nmE_len x.sub_P
      have p3 := nmEs_len x.E
      have p4 := nmSs_len x.Body
      have p5 := nmSs_len x.Else
      have l1 := bks_v9_len x.Marks_Before
      have l2 := bks_v9_len x.Marks_Trail
      have l3 := bks_v9_len x.End
      have l4 := bks_v9_len x.End2
      show B_tree_mapper_stmt (FF hFam K) K (th, ()) x = _
      unfold B_tree_mapper_stmt
      obtain ⟨K', rfl⟩ : ∃ K', K = K' + 1 := ⟨K - 1, by omega⟩
      have hE := mexpr_ok (K' + 1)
      rw [mmarks_ok K' th x.sub_Marks (by show x.Marks_Before.length ≤ _; omega) (by show x.Marks_Trail.length ≤ _; omega)]
      simp only [Option.bind_some]
      rw [parts_ok K' th x.Name (roomT_le hr (by omega)) (by omega)]
      simp only [Option.bind_some]
      rw [hE.1 _ x.sub_P (roomT_nxt (roomT_le hr (by omega))) (by omega) (by omega)]
      simp only [Option.bind_some]
      rw [hE.2 _ x.E (roomT_nxt (roomT_nxt (roomT_le hr (by omega)))) (by omega) (by omega)]
      simp only [Option.bind_some]
      rw [ih.2 _ x.Body (roomT_nxt (roomT_nxt (roomT_nxt (roomT_le hr (by omega))))) (by omega) (by omega)]
      simp only [Option.bind_some]
      rw [ih.2 _ x.Else (roomT_nxt (roomT_nxt (roomT_nxt (roomT_nxt (roomT_le hr (by omega)))))) (by omega) (by omega)]
      simp only [Option.bind_some]
      rw [clone_ok _ x.End (by omega), clone_ok _ x.End2 (by omega)]
      simp only [Option.bind_some, outT_nxt', ← nxtT_app]
      cases x
      simp only [mapS, nmS, mapE, nmE, TStmt.sub_P, TStmt.sub_Marks, List.append_assoc]
    · have hlen := bks_Stmt_len l
      show B_tree_each_Stmt (FF hFam K) K l (th, ()) = _
      unfold B_tree_each_Stmt
      rw [L_each_Stmt]
      have := eachG_ok dd_TStmt 272 (by decide) (fun th x => (FF hFam K).f_tree_mapper_stmt ((th, ()), x, ())) (outT th) (mapS (outT th)) nmS bk_TStmt nmS_len l (by omega) (fun i hi th' ho hr' => by
        have := bks_Stmt_mem l i hi
        rw [← ho]
        exact ih.1 th' l[i] hr' (by omega) (by omega)) K 0 (Nat.zero_le _) (by omega) [] th rfl (by rw [List.drop_zero, ← bks_TStmt_eq]; exact hr) (Nat.le_refl _)
      simp only [Int.ofNat_zero, List.drop_zero, List.nil_append] at this
      rw [mapSs_eq, nmSs_eq]
      exact this
mutual
def nmR : TRoutine → List ByteArray
  | ⟨_, _, nm, _, ps, vs, inner, body, _⟩ => pts nm ++ (ps.flatMap nmA ++ (vs.flatMap nmV ++ (nmRs inner ++ nmSs body)))
def nmRs : List TRoutine → List ByteArray
  | [] => []
  | x :: r => nmR x ++ nmRs r
end
mutual
def mapR (o : ByteArray → ByteArray) : TRoutine → TRoutine
  | ⟨mb, mt, nm, res, ps, vs, inner, body, e⟩ => ⟨mb, mt, mapN o nm, res, ps.map (mapA o), vs.map (mapV o), mapRs o inner, mapSs o body, e⟩
def mapRs (o : ByteArray → ByteArray) : List TRoutine → List TRoutine
  | [] => []
  | x :: r => mapR o x :: mapRs o r
end
theorem nmRs_eq : ∀ l : List TRoutine, nmRs l = l.flatMap nmR
  | [] => rfl
  | x :: r => by simp [nmRs, nmRs_eq r]
theorem mapRs_eq (o : ByteArray → ByteArray) : ∀ l : List TRoutine, mapRs o l = l.map (mapR o)
  | [] => rfl
  | x :: r => by simp [mapRs, mapRs_eq o r]
mutual
theorem nmR_len : ∀ x : TRoutine, (nmR x).length ≤ bk_TRoutine x
  | ⟨_, _, nm, _, ps, vs, inner, body, _⟩ => by
    have h1 := pts_len nm
    have h2 := flat_len nmA bk_TParam nmA_len ps
    have h3 := flat_len nmV bk_TVar nmV_len vs
    rw [← bks_TParam_eq] at h2
    rw [← bks_TVar_eq] at h3
    have h4 := nmRs_len inner
    have h5 := nmSs_len body
    simp only [nmR, bk_TRoutine, List.length_append]
    omega
theorem nmRs_len : ∀ l : List TRoutine, (nmRs l).length ≤ bks_TRoutine l
  | [] => by simp [nmRs]
  | x :: r => by
    have h1 := nmR_len x
    have h2 := nmRs_len r
    simp only [nmRs, bks_TRoutine, List.length_append]
    omega
end
theorem L_each_Routine (s : Fam) (k : Nat) (x0 : List TRoutine) (x1 : Thing × Unit) : ∀ j v0 v1 v2 v3 v4, Ltree_each_Routine_3 s k x0 x1 j v0 v1 v2 v3 v4 = eachG dd_TRoutine 192 (fun th x => s.f_tree_mapper_routine ((th, ()), x, ())) j v0 v1 v2 v3 v4 := by
  intro j
  induction j with
  | zero => intros; rfl
  | succ j ih => intros; simp only [Ltree_each_Routine_3, eachG, ih, TRoutine.re_eq]
theorem mroutine_ok : ∀ K, (∀ th x, roomT th (bk_TRoutine x) → bk_TRoutine x ≤ 8388608 → 3 * bk_TRoutine x + 20 ≤ K → (FF hFam K).f_tree_mapper_routine ((th, ()), x, ()) = some (mapR (outT th) x, nxtT th (nmR x), ())) ∧
    (∀ th l, roomT th (bks_TRoutine l) → bks_TRoutine l ≤ 8388608 → 3 * bks_TRoutine l + 21 ≤ K → (FF hFam K).f_tree_each_Routine (l, (th, ()), ()) = some (mapRs (outT th) l, nxtT th (nmRs l), ())) := by
  intro K
  induction K with
  | zero => exact ⟨fun th e _ _ h => by omega, fun th l _ _ h => by omega⟩
  | succ K ih =>
    refine ⟨fun th x hr hb hk => ?_, fun th l hr hb hk => ?_⟩
    · have hn := bk_RoutineN x
      have p1 := pts_len x.Name
      have p2 := flat_len nmA bk_TParam nmA_len x.Params
      have p3 := flat_len nmV bk_TVar nmV_len x.Vars
      rw [← bks_TParam_eq] at p2
      rw [← bks_TVar_eq] at p3
      have p4 := nmRs_len x.Inner
      have p5 := nmSs_len x.Body
      have l1 := bks_v9_len x.Marks_Before
      have l2 := bks_v9_len x.Marks_Trail
      have l3 := bks_v9_len x.End
      show B_tree_mapper_routine (FF hFam K) K (th, ()) x = _
      unfold B_tree_mapper_routine
      obtain ⟨K', rfl⟩ : ∃ K', K = K' + 4 := ⟨K - 4, by omega⟩
      rw [mmarks_ok (K' + 3) th x.sub_Marks (by show x.Marks_Before.length ≤ _; omega) (by show x.Marks_Trail.length ≤ _; omega)]
      simp only [Option.bind_some]
      rw [parts_ok (K' + 3) th x.Name (roomT_le hr (by omega)) (by omega)]
      simp only [Option.bind_some]
      rw [each_Param_ok K' _ x.Params (roomT_nxt (roomT_le hr (by omega))) (by omega) (by omega)]
      simp only [Option.bind_some]
      rw [each_Var_ok K' _ x.Vars (roomT_nxt (roomT_nxt (roomT_le hr (by omega)))) (by omega) (by omega)]
      simp only [Option.bind_some]
      rw [ih.2 _ x.Inner (roomT_nxt (roomT_nxt (roomT_nxt (roomT_le hr (by omega))))) (by omega) (by omega)]
      simp only [Option.bind_some]
      rw [(mstmt_ok (K' + 4)).2 _ x.Body (roomT_nxt (roomT_nxt (roomT_nxt (roomT_nxt (roomT_le hr (by omega)))))) (by omega) (by omega)]
      simp only [Option.bind_some]
      rw [clone_ok _ x.End (by omega)]
      simp only [Option.bind_some, outT_nxt', ← nxtT_app]
      cases x
      simp only [mapR, nmR, TRoutine.sub_Marks, List.append_assoc]
    · have hlen := bks_Routine_len l
      show B_tree_each_Routine (FF hFam K) K l (th, ()) = _
      unfold B_tree_each_Routine
      rw [L_each_Routine]
      have := eachG_ok dd_TRoutine 192 (by decide) (fun th x => (FF hFam K).f_tree_mapper_routine ((th, ()), x, ())) (outT th) (mapR (outT th)) nmR bk_TRoutine nmR_len l (by omega) (fun i hi th' ho hr' => by
        have := bks_Routine_mem l i hi
        rw [← ho]
        exact ih.1 th' l[i] hr' (by omega) (by omega)) K 0 (Nat.zero_le _) (by omega) [] th rfl (by rw [List.drop_zero, ← bks_TRoutine_eq]; exact hr) (Nat.le_refl _)
      simp only [Int.ofNat_zero, List.drop_zero, List.nil_append] at this
      rw [mapRs_eq, nmRs_eq]
      exact this
def nmP' (p : TProgram) : List ByteArray := pts p.Name ++ (p.Recs.flatMap nmC ++ (p.Vars.flatMap nmV ++ (nmRs p.Routines ++ nmSs p.Body)))
def mapP (o : ByteArray → ByteArray) (p : TProgram) : TProgram := ⟨mapN o p.Name, p.Before, p.Mid, p.After, p.Recs.map (mapC o), p.Vars.map (mapV o), mapRs o p.Routines, mapSs o p.Body, p.End⟩
theorem mprog_ok (k : Nat) (th : Thing) (p : TProgram) (hr : roomT th (bk_TProgram p)) (hb : bk_TProgram p ≤ 8388608) (hk : 3 * bk_TProgram p + 30 ≤ k) : (FF hFam (k + 8)).f_tree_mapper_program ((th, ()), p, ()) = some (mapP (outT th) p, nxtT th (nmP' p), ()) := by
  have hn := bk_ProgramN p
  have p1 := pts_len p.Name
  have p2 := flat_len nmC bk_TRec nmC_len p.Recs
  have p3 := flat_len nmV bk_TVar nmV_len p.Vars
  rw [← bks_TRec_eq] at p2
  rw [← bks_TVar_eq] at p3
  have p4 := nmRs_len p.Routines
  have p5 := nmSs_len p.Body
  have l1 := bks_v9_len p.Before
  have l2 := bks_v9_len p.Mid
  have l3 := bks_v9_len p.After
  have l4 := bks_v9_len p.End
  show B_tree_mapper_program (FF hFam (k + 7)) (k + 7) (th, ()) p = _
  unfold B_tree_mapper_program
  rw [parts_ok (k + 6) th p.Name (roomT_le hr (by omega)) (by omega)]
  simp only [Option.bind_some]
  rw [clone_ok _ p.Before (by omega), clone_ok _ p.Mid (by omega), clone_ok _ p.After (by omega), clone_ok _ p.End (by omega)]
  simp only [Option.bind_some]
  rw [each_Rec_ok k _ p.Recs (roomT_nxt (roomT_le hr (by omega))) (by omega) (by omega)]
  simp only [Option.bind_some]
  rw [each_Var_ok (k + 3) _ p.Vars (roomT_nxt (roomT_nxt (roomT_le hr (by omega)))) (by omega) (by omega)]
  simp only [Option.bind_some]
  rw [(mroutine_ok (k + 7)).2 _ p.Routines (roomT_nxt (roomT_nxt (roomT_nxt (roomT_le hr (by omega))))) (by omega) (by omega)]
  simp only [Option.bind_some]
  rw [(mstmt_ok (k + 7)).2 _ p.Body (roomT_nxt (roomT_nxt (roomT_nxt (roomT_nxt (roomT_le hr (by omega)))))) (by omega) (by omega)]
  simp only [Option.bind_some, outT_nxt', ← nxtT_app, List.append_assoc]
  rfl
theorem tree_Names_ok (k : Nat) (p : TProgram) (hb : bk_TProgram p ≤ 8388608) (hk : 3 * bk_TProgram p + 30 ≤ k) : (FF hFam (k + 9)).f_tree_Names (p, ()) = some ((nmP' p).foldl addN []) := by
  show B_tree_Names (FF hFam (k + 8)) (k + 8) p = _
  unfold B_tree_Names
  rw [mprog_ok k (.names []) p (by show 0 + _ ≤ _; omega) hb hk]
  rfl
end Go.Ev
end
section
open Go
namespace Go.Ev
open Go.Proofs.YtokkfbkbnocnoaaGreatDoor
set_option maxRecDepth 100000
set_option maxHeartbeats 4000000
set_option linter.unusedVariables false
set_option linter.unusedSimpArgs false
def freeB (p : ByteArray) : Prop := ∀ c ∈ p.data.toList, c ≠ 36
def goodO (o : ByteArray → ByteArray) (p : ByteArray) : Prop := freeB (o p) ∧ (o p).size ≠ 0
theorem join_sum : ∀ ls : List (List UInt8), ls ≠ [] → (Lib.join ls [36]).length + 1 = (ls.map fun l => l.length + 1).sum
  | [], h => absurd rfl h
  | [x], _ => by rw [Lib.join_one]; simp
  | x :: y :: r, _ => by
    have ih := join_sum (y :: r) (by simp)
    unfold Lib.join at ih ⊢
    rw [List.intercalate_cons_cons]
    simp only [List.length_append, List.length_cons, List.length_nil, List.map_cons, List.sum_cons] at ih ⊢
    omega
theorem cut_join : ∀ ls : List (List UInt8), ls ≠ [] → (∀ l ∈ ls, ∀ c ∈ l, c ≠ 36) → cutL (Lib.join ls [36]) = ls
  | [], h, _ => absurd rfl h
  | [x], _, h => by rw [Lib.join_one]; exact cutL_free x (h x List.mem_cons_self)
  | x :: y :: r, _, h => by
    have ih := cut_join (y :: r) (by simp) fun l hl => h l (List.mem_cons_of_mem _ hl)
    unfold Lib.join at ih ⊢
    rw [List.intercalate_cons_cons, List.append_assoc, List.cons_append, List.nil_append, cutL_at x _ (h x List.mem_cons_self), ih]
theorem joinD_data (ps : List ByteArray) : (joinD ps).data.toList = Lib.join (ps.map (·.data.toList)) [36] := by
  unfold joinD
  have h36 : sep36.data.toList = [36] := rfl
  rw [h36]
theorem cutP_ne (s : ByteArray) : cutP s ≠ [] := by
  unfold cutP
  intro h
  exact cutL_ne _ (List.map_eq_nil_iff.1 h)
theorem cutP_joinD (ps : List ByteArray) (hne : ps ≠ []) (h : ∀ p ∈ ps, freeB p) : cutP (joinD ps) = ps := by
  unfold cutP
  rw [joinD_data, cut_join _ (by simpa using hne) (fun l hl => by
    obtain ⟨p, hp, rfl⟩ := List.mem_map.1 hl
    exact h p hp), List.map_map]
  have : (fun l : List UInt8 => (⟨l.toArray⟩ : ByteArray)) ∘ (fun p : ByteArray => p.data.toList) = id := by
    funext p
    apply ByteArray.ext
    simp
  rw [this, List.map_id]
theorem cutL_free_mem : ∀ (l : List UInt8), ∀ p ∈ cutL l, ∀ c ∈ p, c ≠ 36
  | [], p, h => by simp [cutL] at h; subst h; simp
  | c :: r, p, h => by
    have ih := cutL_free_mem r
    rw [cutL] at h
    split at h
    · rcases List.mem_cons.1 h with rfl | h
      · simp
      · exact ih p h
    · rename_i hc
      split at h
      · simp at h; subst h; simpa using hc
      · rename_i q t hq
        rcases List.mem_cons.1 h with rfl | h
        · intro d hd
          rcases List.mem_cons.1 hd with rfl | hd
          · exact hc
          · exact ih q (by rw [hq]; exact List.mem_cons_self) d hd
        · exact ih p (by rw [hq]; exact List.mem_cons_of_mem _ h)
theorem cutP_free (s p : ByteArray) (h : p ∈ cutP s) : freeB p := by
  unfold cutP at h
  obtain ⟨l, hl, rfl⟩ := List.mem_map.1 h
  intro c hc
  exact cutL_free_mem _ l hl c (by simpa using hc)
theorem size_zero {s : ByteArray} (h : s.size = 0) : s = ByteArray.empty := by
  apply ByteArray.ext
  exact Array.eq_empty_of_size_eq_zero h
theorem cutP_empty : cutP ByteArray.empty = [ByteArray.empty] := rfl
theorem mem_pts {s p : ByteArray} : p ∈ pts s ↔ p ∈ cutP s ∧ p.size ≠ 0 := by simp [pts, someP]
theorem mapN_join (o : ByteArray → ByteArray) (s : ByteArray) : mapN o s = joinD ((cutP s).map (mapPo o)) := by
  unfold mapN
  by_cases h : s.size = 0
  · rw [if_pos h, size_zero h, cutP_empty]
    have : mapPo o ByteArray.empty = ByteArray.empty := rfl
    rw [List.map_cons, this, List.map_nil]
    rfl
  · rw [if_neg h]
theorem cutP_mapN (o : ByteArray → ByteArray) (s : ByteArray) (h : ∀ p ∈ pts s, goodO o p) : cutP (mapN o s) = (cutP s).map (mapPo o) := by
  rw [mapN_join]
  refine cutP_joinD _ (by simpa using cutP_ne s) fun q hq => ?_
  obtain ⟨p, hp, rfl⟩ := List.mem_map.1 hq
  unfold mapPo
  split
  · exact cutP_free s p hp
  · rename_i hz
    exact (h p (mem_pts.2 ⟨hp, hz⟩)).1
theorem someP_map (o : ByteArray → ByteArray) : ∀ l : List ByteArray, (∀ p ∈ someP l, (o p).size ≠ 0) → someP (l.map (mapPo o)) = (someP l).map o
  | [], _ => rfl
  | x :: r, h => by
    by_cases hz : x.size = 0
    · have h1 : mapPo o x = x := by unfold mapPo; rw [if_pos hz]
      have h2 : ∀ t, someP (x :: t) = someP t := fun t => by unfold someP; rw [List.filter_cons_of_neg (by simp [hz])]
      rw [List.map_cons, h1, h2, h2]
      rw [h2] at h
      exact someP_map o r h
    · have h1 : mapPo o x = o x := by unfold mapPo; rw [if_neg hz]
      have h2 : someP (x :: r) = x :: someP r := by unfold someP; rw [List.filter_cons_of_pos (by simp [hz])]
      rw [h2] at h
      have h3 := h x List.mem_cons_self
      have h4 : ∀ t, someP (o x :: t) = o x :: someP t := fun t => by unfold someP; rw [List.filter_cons_of_pos (by simp [h3])]
      rw [List.map_cons, h1, h4, h2, List.map_cons, someP_map o r fun p hp => h p (List.mem_cons_of_mem _ hp)]
theorem pts_mapN (o : ByteArray → ByteArray) (s : ByteArray) (h : ∀ p ∈ pts s, goodO o p) : pts (mapN o s) = (pts s).map o := by
  unfold pts
  rw [cutP_mapN o s h, someP_map o _ fun p hp => (h p hp).2]
theorem mapN_back (o o' : ByteArray → ByteArray) (s : ByteArray) (h : ∀ p ∈ pts s, goodO o p) (hb : ∀ p ∈ pts s, o' (o p) = p) : mapN o' (mapN o s) = s := by
  rw [mapN_join o', cutP_mapN o s h, List.map_map]
  have : (cutP s).map (mapPo o' ∘ mapPo o) = cutP s := by
    conv => rhs; rw [← List.map_id (cutP s)]
    refine List.map_congr_left fun p hp => ?_
    show mapPo o' (mapPo o p) = p
    by_cases hz : p.size = 0
    · unfold mapPo; rw [if_pos hz, if_pos hz]
    · have hm := mem_pts.2 ⟨hp, hz⟩
      have h1 : mapPo o p = o p := by unfold mapPo; rw [if_neg hz]
      rw [h1]
      unfold mapPo
      rw [if_neg (h p hm).2]
      exact hb p hm
  rw [this, joinD_cutP]
def growO (o : ByteArray → ByteArray) : Prop := ∀ p, (o p).size ≤ 5 * p.size
theorem sum_grow (o : ByteArray → ByteArray) (ho : growO o) : ∀ ps : List ByteArray, (((ps.map (mapPo o)).map fun p => p.size + 1).sum) + 4 * ps.length ≤ 5 * ((ps.map fun p => p.size + 1).sum)
  | [] => by simp
  | x :: r => by
    have ih := sum_grow o ho r
    have h1 : (mapPo o x).size ≤ 5 * x.size := by
      unfold mapPo
      split
      · omega
      · exact ho x
    simp only [List.map_cons, List.sum_cons, List.length_cons]
    omega
theorem joinD_size (ps : List ByteArray) (h : ps ≠ []) : (joinD ps).size + 1 = (ps.map fun p => p.size + 1).sum := by
  have h1 := join_sum (ps.map (·.data.toList)) (by simpa using h)
  rw [← joinD_data, List.map_map] at h1
  have h2 : ((fun l : List UInt8 => l.length + 1) ∘ fun p : ByteArray => p.data.toList) = fun p : ByteArray => p.size + 1 := by funext p; simp
  rw [h2] at h1
  simpa using h1
theorem mapN_size (o : ByteArray → ByteArray) (ho : growO o) (s : ByteArray) : (mapN o s).size ≤ 5 * s.size := by
  have hne := cutP_ne s
  have h1 := joinD_size (cutP s) hne
  rw [joinD_cutP] at h1
  have h2 := joinD_size ((cutP s).map (mapPo o)) (by simpa using hne)
  rw [← mapN_join] at h2
  have h3 := sum_grow o ho (cutP s)
  have h4 : 1 ≤ (cutP s).length := by
    rcases Nat.eq_zero_or_pos (cutP s).length with h | h
    · exact absurd (List.eq_nil_of_length_eq_zero h) hne
    · exact h
  omega
section
variable (o o' : ByteArray → ByteArray)
def thereP {α : Type} (m m' : α → α) (nm : α → List ByteArray) (x : α) : Prop := (∀ p ∈ nm x, goodO o p) → nm (m x) = (nm x).map o ∧ ((∀ p ∈ nm x, o' (o p) = p) → m' (m x) = x)
theorem there_list {α : Type} (m m' : α → α) (nm : α → List ByteArray) : ∀ l : List α, (∀ x ∈ l, thereP o o' m m' nm x) → (∀ p ∈ l.flatMap nm, goodO o p) → (l.map m).flatMap nm = (l.flatMap nm).map o ∧ ((∀ p ∈ l.flatMap nm, o' (o p) = p) → (l.map m).map m' = l)
  | [], _, _ => ⟨rfl, fun _ => rfl⟩
  | x :: r, h, hg => by
    simp only [List.flatMap_cons, List.mem_append] at hg
    obtain ⟨a1, a2⟩ := h x List.mem_cons_self fun p hp => hg p (.inl hp)
    obtain ⟨b1, b2⟩ := there_list m m' nm r (fun y hy => h y (List.mem_cons_of_mem _ hy)) fun p hp => hg p (.inr hp)
    refine ⟨by simp only [List.map_cons, List.flatMap_cons, a1, b1, List.map_append], fun hb => ?_⟩
    simp only [List.flatMap_cons, List.mem_append] at hb
    simp only [List.map_cons, a2 fun p hp => hb p (.inl hp), b2 fun p hp => hb p (.inr hp)]
mutual
theorem there_E : ∀ e : TExpr, thereP o o' (mapE o) (mapE o') nmE e
  | ⟨op, n, nm, f, l⟩ => fun hg => by
    simp only [nmE, List.mem_append] at hg
    have a := pts_mapN o nm fun p hp => hg p (.inl hp)
    have b := pts_mapN o f fun p hp => hg p (.inr (.inl hp))
    obtain ⟨c1, c2⟩ := there_Es l fun p hp => hg p (.inr (.inr hp))
    refine ⟨by simp only [mapE, nmE, a, b, c1, List.map_append], fun hb => ?_⟩
    simp only [nmE, List.mem_append] at hb
    simp only [mapE, mapN_back o o' nm (fun p hp => hg p (.inl hp)) fun p hp => hb p (.inl hp), mapN_back o o' f (fun p hp => hg p (.inr (.inl hp))) fun p hp => hb p (.inr (.inl hp)), c2 fun p hp => hb p (.inr (.inr hp))]
theorem there_Es : ∀ l : List TExpr, thereP o o' (mapEs o) (mapEs o') nmEs l
  | [] => fun _ => ⟨rfl, fun _ => rfl⟩
  | x :: r => fun hg => by
    simp only [nmEs, List.mem_append] at hg
    obtain ⟨a1, a2⟩ := there_E x fun p hp => hg p (.inl hp)
    obtain ⟨b1, b2⟩ := there_Es r fun p hp => hg p (.inr hp)
    refine ⟨by simp only [mapEs, nmEs, a1, b1, List.map_append], fun hb => ?_⟩
    simp only [nmEs, List.mem_append] at hb
    simp only [mapEs, a2 fun p hp => hb p (.inl hp), b2 fun p hp => hb p (.inr hp)]
end
theorem there_V (v : TVar) : thereP o o' (mapV o) (mapV o') nmV v := fun hg => by
  simp only [nmV, List.mem_append] at hg
  have a := pts_mapN o v.Name fun p hp => hg p (.inl hp)
  have b := pts_mapN o v.T_Name fun p hp => hg p (.inr hp)
  refine ⟨by simp only [mapV, nmV, a, b, List.map_append], fun hb => ?_⟩
  simp only [nmV, List.mem_append] at hb
  simp only [mapV, mapN_back o o' v.Name (fun p hp => hg p (.inl hp)) fun p hp => hb p (.inl hp), mapN_back o o' v.T_Name (fun p hp => hg p (.inr hp)) fun p hp => hb p (.inr hp)]
theorem there_A (v : TParam) : thereP o o' (mapA o) (mapA o') nmA v := fun hg => by
  simp only [nmA, List.mem_append] at hg
  have a := pts_mapN o v.Name fun p hp => hg p (.inl hp)
  have b := pts_mapN o v.T_Name fun p hp => hg p (.inr hp)
  refine ⟨by simp only [mapA, nmA, a, b, List.map_append], fun hb => ?_⟩
  simp only [nmA, List.mem_append] at hb
  simp only [mapA, mapN_back o o' v.Name (fun p hp => hg p (.inl hp)) fun p hp => hb p (.inl hp), mapN_back o o' v.T_Name (fun p hp => hg p (.inr hp)) fun p hp => hb p (.inr hp)]
theorem there_F (f : TField) : thereP o o' (mapF o) (mapF o') nmF f := fun hg => by
  refine ⟨pts_mapN o f.Name hg, fun hb => ?_⟩
  simp only [mapF, mapN_back o o' f.Name hg hb]
theorem there_C (r : TRec) : thereP o o' (mapC o) (mapC o') nmC r := fun hg => by
  simp only [nmC, List.mem_append] at hg
  have a := pts_mapN o r.Name fun p hp => hg p (.inl hp)
  obtain ⟨b1, b2⟩ := there_list o o' (mapF o) (mapF o') nmF r.Fields (fun f _ => there_F o o' f) fun p hp => hg p (.inr hp)
  refine ⟨by simp only [mapC, nmC, a, b1, List.map_append], fun hb => ?_⟩
  simp only [nmC, List.mem_append] at hb
  simp only [mapC, mapN_back o o' r.Name (fun p hp => hg p (.inl hp)) fun p hp => hb p (.inl hp), b2 fun p hp => hb p (.inr hp)]
mutual
theorem there_S : ∀ x : TStmt, thereP o o' (mapS o) (mapS o') nmS x
  | ⟨mb, mt, op, nm, po, pn, pnm, pf, pl, E, down, more, body, els, e1, e2⟩ => fun hg => by
    simp only [nmS, List.mem_append] at hg
    have a := pts_mapN o nm fun p hp => hg p (.inl hp)
    obtain ⟨b1, b2⟩ := there_E o o' ⟨po, pn, pnm, pf, pl⟩ fun p hp => hg p (.inr (.inl hp))
    obtain ⟨c1, c2⟩ := there_Es o o' E fun p hp => hg p (.inr (.inr (.inl hp)))
    obtain ⟨d1, d2⟩ := there_Ss body fun p hp => hg p (.inr (.inr (.inr (.inl hp))))
    obtain ⟨f1, f2⟩ := there_Ss els fun p hp => hg p (.inr (.inr (.inr (.inr hp))))
    have b1' : nmE ⟨po, pn, mapN o pnm, mapN o pf, mapEs o pl⟩ = (nmE ⟨po, pn, pnm, pf, pl⟩).map o := by rw [← b1]; simp only [mapE]
    refine ⟨by simp only [mapS, nmS, a, b1', c1, d1, f1, List.map_append], fun hb => ?_⟩
    simp only [nmS, List.mem_append] at hb
    have b2' := b2 fun p hp => hb p (.inr (.inl hp))
    simp only [mapE, TExpr.mk.injEq, true_and] at b2'
    obtain ⟨g1, g2, g3⟩ := b2'
    simp only [mapS, mapN_back o o' nm (fun p hp => hg p (.inl hp)) fun p hp => hb p (.inl hp), g1, g2, g3, c2 fun p hp => hb p (.inr (.inr (.inl hp))), d2 fun p hp => hb p (.inr (.inr (.inr (.inl hp)))), f2 fun p hp => hb p (.inr (.inr (.inr (.inr hp))))]
theorem there_Ss : ∀ l : List TStmt, thereP o o' (mapSs o) (mapSs o') nmSs l
  | [] => fun _ => ⟨rfl, fun _ => rfl⟩
  | x :: r => fun hg => by
    simp only [nmSs, List.mem_append] at hg
    obtain ⟨a1, a2⟩ := there_S x fun p hp => hg p (.inl hp)
    obtain ⟨b1, b2⟩ := there_Ss r fun p hp => hg p (.inr hp)
    refine ⟨by simp only [mapSs, nmSs, a1, b1, List.map_append], fun hb => ?_⟩
    simp only [nmSs, List.mem_append] at hb
    simp only [mapSs, a2 fun p hp => hb p (.inl hp), b2 fun p hp => hb p (.inr hp)]
end
mutual
theorem there_R : ∀ x : TRoutine, thereP o o' (mapR o) (mapR o') nmR x
  | ⟨mb, mt, nm, res, ps, vs, inner, body, e⟩ => fun hg => by
    simp only [nmR, List.mem_append] at hg
    have a := pts_mapN o nm fun p hp => hg p (.inl hp)
    obtain ⟨b1, b2⟩ := there_list o o' (mapA o) (mapA o') nmA ps (fun f _ => there_A o o' f) fun p hp => hg p (.inr (.inl hp))
    obtain ⟨c1, c2⟩ := there_list o o' (mapV o) (mapV o') nmV vs (fun f _ => there_V o o' f) fun p hp => hg p (.inr (.inr (.inl hp)))
    obtain ⟨d1, d2⟩ := there_Rs inner fun p hp => hg p (.inr (.inr (.inr (.inl hp))))
    obtain ⟨f1, f2⟩ := there_Ss o o' body fun p hp => hg p (.inr (.inr (.inr (.inr hp))))
    refine ⟨by simp only [mapR, nmR, a, b1, c1, d1, f1, List.map_append], fun hb => ?_⟩
    simp only [nmR, List.mem_append] at hb
    simp only [mapR, mapN_back o o' nm (fun p hp => hg p (.inl hp)) fun p hp => hb p (.inl hp), b2 fun p hp => hb p (.inr (.inl hp)), c2 fun p hp => hb p (.inr (.inr (.inl hp))), d2 fun p hp => hb p (.inr (.inr (.inr (.inl hp)))), f2 fun p hp => hb p (.inr (.inr (.inr (.inr hp))))]
theorem there_Rs : ∀ l : List TRoutine, thereP o o' (mapRs o) (mapRs o') nmRs l
  | [] => fun _ => ⟨rfl, fun _ => rfl⟩
  | x :: r => fun hg => by
    simp only [nmRs, List.mem_append] at hg
    obtain ⟨a1, a2⟩ := there_R x fun p hp => hg p (.inl hp)
    obtain ⟨b1, b2⟩ := there_Rs r fun p hp => hg p (.inr hp)
    refine ⟨by simp only [mapRs, nmRs, a1, b1, List.map_append], fun hb => ?_⟩
    simp only [nmRs, List.mem_append] at hb
    simp only [mapRs, a2 fun p hp => hb p (.inl hp), b2 fun p hp => hb p (.inr hp)]
end
theorem there_P (p : TProgram) : thereP o o' (mapP o) (mapP o') nmP' p := fun hg => by
  simp only [nmP', List.mem_append] at hg
  have a := pts_mapN o p.Name fun q hq => hg q (.inl hq)
  obtain ⟨b1, b2⟩ := there_list o o' (mapC o) (mapC o') nmC p.Recs (fun f _ => there_C o o' f) fun q hq => hg q (.inr (.inl hq))
  obtain ⟨c1, c2⟩ := there_list o o' (mapV o) (mapV o') nmV p.Vars (fun f _ => there_V o o' f) fun q hq => hg q (.inr (.inr (.inl hq)))
  obtain ⟨d1, d2⟩ := there_Rs o o' p.Routines fun q hq => hg q (.inr (.inr (.inr (.inl hq))))
  obtain ⟨f1, f2⟩ := there_Ss o o' p.Body fun q hq => hg q (.inr (.inr (.inr (.inr hq))))
  refine ⟨by simp only [mapP, nmP', a, b1, c1, d1, f1, List.map_append], fun hb => ?_⟩
  simp only [nmP', List.mem_append] at hb
  simp only [mapP, mapN_back o o' p.Name (fun q hq => hg q (.inl hq)) fun q hq => hb q (.inl hq), b2 fun q hq => hb q (.inr (.inl hq)), c2 fun q hq => hb q (.inr (.inr (.inl hq))), d2 fun q hq => hb q (.inr (.inr (.inr (.inl hq)))), f2 fun q hq => hb q (.inr (.inr (.inr (.inr hq))))]
end
end Go.Ev
end
section
open Go
namespace Go.Ev
open Go.Proofs.YtokkfbkbnocnoaaGreatDoor
set_option maxRecDepth 100000
set_option maxHeartbeats 4000000
set_option linter.unusedVariables false
set_option linter.unusedSimpArgs false
mutual
theorem grow_E (o : ByteArray → ByteArray) (ho : growO o) : ∀ e : TExpr, bk_TExpr (mapE o e) ≤ 5 * bk_TExpr e
  | ⟨op, n, nm, f, l⟩ => by
    have a := mapN_size o ho nm
    have b := mapN_size o ho f
    have c := grow_Es o ho l
    simp only [mapE, bk_TExpr]
    omega
theorem grow_Es (o : ByteArray → ByteArray) (ho : growO o) : ∀ l : List TExpr, bks_TExpr (mapEs o l) ≤ 5 * bks_TExpr l
  | [] => Nat.zero_le _
  | x :: r => by
    have a := grow_E o ho x
    have b := grow_Es o ho r
    simp only [mapEs, bks_TExpr]
    omega
end
theorem grow_list {α : Type} (m : α → α) (w : α → Nat) (h : ∀ x, w (m x) ≤ 5 * w x) : ∀ l : List α, ((l.map m).map w).sum ≤ 5 * (l.map w).sum
  | [] => by simp
  | x :: r => by
    have a := h x
    have b := grow_list m w h r
    simp only [List.map_cons, List.sum_cons]
    omega
theorem grow_V (o : ByteArray → ByteArray) (ho : growO o) (v : TVar) : bk_TVar (mapV o v) ≤ 5 * bk_TVar v := by
  obtain ⟨a1, a2, a3, a4, a5, a6⟩ := v
  have a := mapN_size o ho a3
  have b := mapN_size o ho a6
  simp only [mapV, bk_TVar]
  omega
theorem grow_A (o : ByteArray → ByteArray) (ho : growO o) (v : TParam) : bk_TParam (mapA o v) ≤ 5 * bk_TParam v := by
  obtain ⟨a1, a2, a3, a4, a5⟩ := v
  have a := mapN_size o ho a1
  have b := mapN_size o ho a4
  simp only [mapA, bk_TParam]
  omega
theorem grow_F (o : ByteArray → ByteArray) (ho : growO o) (v : TField) : bk_TField (mapF o v) ≤ 5 * bk_TField v := by
  obtain ⟨a1, a2, a3, a4⟩ := v
  have a := mapN_size o ho a3
  simp only [mapF, bk_TField]
  omega
theorem grow_C (o : ByteArray → ByteArray) (ho : growO o) (v : TRec) : bk_TRec (mapC o v) ≤ 5 * bk_TRec v := by
  obtain ⟨a1, a2, a3, a4, a5⟩ := v
  have a := mapN_size o ho a3
  have b := grow_list (mapF o) bk_TField (grow_F o ho) a4
  simp only [mapC, bk_TRec, bks_TField_eq]
  omega
mutual
theorem grow_S (o : ByteArray → ByteArray) (ho : growO o) : ∀ e : TStmt, bk_TStmt (mapS o e) ≤ 5 * bk_TStmt e
  | ⟨mb, mt, op, nm, po, pn, pnm, pf, pl, E, down, more, body, els, e1, e2⟩ => by
    have a := mapN_size o ho nm
    have b := mapN_size o ho pnm
    have b' := mapN_size o ho pf
    have c := grow_Es o ho pl
    have d := grow_Es o ho E
    have e := grow_Ss o ho body
    have f := grow_Ss o ho els
    simp only [mapS, bk_TStmt]
    omega
theorem grow_Ss (o : ByteArray → ByteArray) (ho : growO o) : ∀ l : List TStmt, bks_TStmt (mapSs o l) ≤ 5 * bks_TStmt l
  | [] => Nat.zero_le _
  | x :: r => by
    have a := grow_S o ho x
    have b := grow_Ss o ho r
    simp only [mapSs, bks_TStmt]
    omega
end
mutual
theorem grow_R (o : ByteArray → ByteArray) (ho : growO o) : ∀ e : TRoutine, bk_TRoutine (mapR o e) ≤ 5 * bk_TRoutine e
  | ⟨mb, mt, nm, res, ps, vs, inner, body, e⟩ => by
    have a := mapN_size o ho nm
    have b := grow_list (mapA o) bk_TParam (grow_A o ho) ps
    have c := grow_list (mapV o) bk_TVar (grow_V o ho) vs
    have d := grow_Rs o ho inner
    have e := grow_Ss o ho body
    simp only [mapR, bk_TRoutine, bks_TParam_eq, bks_TVar_eq]
    omega
theorem grow_Rs (o : ByteArray → ByteArray) (ho : growO o) : ∀ l : List TRoutine, bks_TRoutine (mapRs o l) ≤ 5 * bks_TRoutine l
  | [] => Nat.zero_le _
  | x :: r => by
    have a := grow_R o ho x
    have b := grow_Rs o ho r
    simp only [mapRs, bks_TRoutine]
    omega
end
theorem grow_P (o : ByteArray → ByteArray) (ho : growO o) (v : TProgram) : bk_TProgram (mapP o v) ≤ 5 * bk_TProgram v := by
  obtain ⟨a1, a2, a3, a4, a5, a6, a7, a8, a9⟩ := v
  have a := mapN_size o ho a1
  have b := grow_list (mapC o) bk_TRec (grow_C o ho) a5
  have c := grow_list (mapV o) bk_TVar (grow_V o ho) a6
  have d := grow_Rs o ho a7
  have e := grow_Ss o ho a8
  simp only [mapP, bk_TProgram, bks_TRec_eq, bks_TVar_eq]
  omega
theorem pts_mem {s q : ByteArray} (h : q ∈ pts s) : q.size ≠ 0 ∧ q.size ≤ s.size := by
  obtain ⟨h1, h2⟩ := mem_pts.1 h
  exact ⟨h2, cutP_mem s q h1⟩
def okP (n : Nat) (q : ByteArray) : Prop := q.size ≠ 0 ∧ q.size ≤ n
theorem okP_mono {n m : Nat} {q : ByteArray} (h : okP n q) (hm : n ≤ m) : okP m q := ⟨h.1, Nat.le_trans h.2 hm⟩
theorem okP_pts {s q : ByteArray} {m : Nat} (h : q ∈ pts s) (hm : s.size ≤ m) : okP m q := okP_mono (pts_mem h) hm
theorem okP_list {α : Type} (nm : α → List ByteArray) (w : α → Nat) (h : ∀ x, ∀ q ∈ nm x, okP (w x) q) : ∀ l : List α, ∀ q ∈ l.flatMap nm, okP (l.map w).sum q
  | [], q, hq => by simp at hq
  | x :: r, q, hq => by
    simp only [List.flatMap_cons, List.mem_append] at hq
    simp only [List.map_cons, List.sum_cons]
    rcases hq with hq | hq
    · exact okP_mono (h x q hq) (by omega)
    · exact okP_mono (okP_list nm w h r q hq) (by omega)
mutual
theorem okP_E : ∀ e : TExpr, ∀ q ∈ nmE e, okP (bk_TExpr e) q
  | ⟨op, n, nm, f, l⟩, q, hq => by
    simp only [nmE, List.mem_append] at hq
    simp only [bk_TExpr]
    rcases hq with hq | hq | hq
    · exact okP_pts hq (by omega)
    · exact okP_pts hq (by omega)
    · exact okP_mono (okP_Es l q hq) (by omega)
theorem okP_Es : ∀ l : List TExpr, ∀ q ∈ nmEs l, okP (bks_TExpr l) q
  | [], q, hq => by simp [nmEs] at hq
  | x :: r, q, hq => by
    simp only [nmEs, List.mem_append] at hq
    simp only [bks_TExpr]
    rcases hq with hq | hq
    · exact okP_mono (okP_E x q hq) (by omega)
    · exact okP_mono (okP_Es r q hq) (by omega)
end
theorem okP_V (v : TVar) : ∀ q ∈ nmV v, okP (bk_TVar v) q := by
  obtain ⟨a1, a2, a3, a4, a5, a6⟩ := v
  intro q hq
  simp only [nmV, List.mem_append] at hq
  simp only [bk_TVar]
  rcases hq with hq | hq <;> exact okP_pts hq (by omega)
theorem okP_A (v : TParam) : ∀ q ∈ nmA v, okP (bk_TParam v) q := by
  obtain ⟨a1, a2, a3, a4, a5⟩ := v
  intro q hq
  simp only [nmA, List.mem_append] at hq
  simp only [bk_TParam]
  rcases hq with hq | hq <;> exact okP_pts hq (by omega)
theorem okP_F (v : TField) : ∀ q ∈ nmF v, okP (bk_TField v) q := by
  obtain ⟨a1, a2, a3, a4⟩ := v
  intro q hq
  simp only [nmF] at hq
  simp only [bk_TField]
  exact okP_pts hq (by omega)
theorem okP_C (v : TRec) : ∀ q ∈ nmC v, okP (bk_TRec v) q := by
  obtain ⟨a1, a2, a3, a4, a5⟩ := v
  intro q hq
  simp only [nmC, List.mem_append] at hq
  simp only [bk_TRec, bks_TField_eq]
  rcases hq with hq | hq
  · exact okP_pts hq (by omega)
  · exact okP_mono (okP_list nmF bk_TField okP_F a4 q hq) (by omega)
mutual
theorem okP_S : ∀ e : TStmt, ∀ q ∈ nmS e, okP (bk_TStmt e) q
  | ⟨mb, mt, op, nm, po, pn, pnm, pf, pl, E, down, more, body, els, e1, e2⟩, q, hq => by
    simp only [nmS, nmE, List.mem_append] at hq
    simp only [bk_TStmt]
    rcases hq with hq | (hq | hq | hq) | hq | hq | hq
    · exact okP_pts hq (by omega)
    · exact okP_pts hq (by omega)
    · exact okP_pts hq (by omega)
    · exact okP_mono (okP_Es pl q hq) (by omega)
    · exact okP_mono (okP_Es E q hq) (by omega)
    · exact okP_mono (okP_Ss body q hq) (by omega)
    · exact okP_mono (okP_Ss els q hq) (by omega)
theorem okP_Ss : ∀ l : List TStmt, ∀ q ∈ nmSs l, okP (bks_TStmt l) q
  | [], q, hq => by simp [nmSs] at hq
  | x :: r, q, hq => by
    simp only [nmSs, List.mem_append] at hq
    simp only [bks_TStmt]
    rcases hq with hq | hq
    · exact okP_mono (okP_S x q hq) (by omega)
    · exact okP_mono (okP_Ss r q hq) (by omega)
end
mutual
theorem okP_R : ∀ e : TRoutine, ∀ q ∈ nmR e, okP (bk_TRoutine e) q
  | ⟨mb, mt, nm, res, ps, vs, inner, body, e⟩, q, hq => by
    simp only [nmR, List.mem_append] at hq
    simp only [bk_TRoutine, bks_TParam_eq, bks_TVar_eq]
    rcases hq with hq | hq | hq | hq | hq
    · exact okP_pts hq (by omega)
    · exact okP_mono (okP_list nmA bk_TParam okP_A ps q hq) (by omega)
    · exact okP_mono (okP_list nmV bk_TVar okP_V vs q hq) (by omega)
    · exact okP_mono (okP_Rs inner q hq) (by omega)
    · exact okP_mono (okP_Ss body q hq) (by omega)
theorem okP_Rs : ∀ l : List TRoutine, ∀ q ∈ nmRs l, okP (bks_TRoutine l) q
  | [], q, hq => by simp [nmRs] at hq
  | x :: r, q, hq => by
    simp only [nmRs, List.mem_append] at hq
    simp only [bks_TRoutine]
    rcases hq with hq | hq
    · exact okP_mono (okP_R x q hq) (by omega)
    · exact okP_mono (okP_Rs r q hq) (by omega)
end
theorem okP_P (v : TProgram) : ∀ q ∈ nmP' v, okP (bk_TProgram v) q := by
  obtain ⟨a1, a2, a3, a4, a5, a6, a7, a8, a9⟩ := v
  intro q hq
  simp only [nmP', List.mem_append] at hq
  simp only [bk_TProgram, bks_TRec_eq, bks_TVar_eq]
  rcases hq with hq | hq | hq | hq | hq
  · exact okP_pts hq (by omega)
  · exact okP_mono (okP_list nmC bk_TRec okP_C a5 q hq) (by omega)
  · exact okP_mono (okP_list nmV bk_TVar okP_V a6 q hq) (by omega)
  · exact okP_mono (okP_Rs a7 q hq) (by omega)
  · exact okP_mono (okP_Ss a8 q hq) (by omega)
theorem any_mem (l : List ByteArray) (p : ByteArray) : (l.any fun z => z.toList == p.toList) = true ↔ p ∈ l := by
  simp only [List.any_eq_true, ba_dc]
  constructor
  · rintro ⟨z, hz, h⟩
    rw [(dc_iff _).1 h] at hz
    exact hz
  · intro h
    exact ⟨p, h, dc_true rfl⟩
theorem addN_mem {l : List ByteArray} {p q : ByteArray} : q ∈ addN l p ↔ q ∈ l ∨ q = p := by
  unfold addN
  split
  · rename_i h
    have := (any_mem l p).1 h
    constructor
    · exact .inl
    · rintro (h | rfl)
      · exact h
      · exact this
  · simp
theorem foldN_mem : ∀ (ps l : List ByteArray) (q : ByteArray), q ∈ ps.foldl addN l ↔ q ∈ l ∨ q ∈ ps
  | [], l, q => by simp
  | p :: r, l, q => by
    rw [List.foldl_cons, foldN_mem r, addN_mem, List.mem_cons, or_assoc]
theorem foldN_map (o : ByteArray → ByteArray) : ∀ (ps l : List ByteArray), (∀ a b, (a ∈ l ∨ a ∈ ps) → (b ∈ l ∨ b ∈ ps) → o a = o b → a = b) → (ps.map o).foldl addN (l.map o) = (ps.foldl addN l).map o
  | [], l, _ => rfl
  | p :: r, l, h => by
    have h1 : addN (l.map o) (o p) = (addN l p).map o := by
      unfold addN
      by_cases hp : p ∈ l
      · rw [if_pos ((any_mem _ _).2 (List.mem_map_of_mem hp)), if_pos ((any_mem _ _).2 hp)]
      · rw [if_neg (fun hx => ?_), if_neg (fun hx => hp ((any_mem _ _).1 hx)), List.map_append]
        · rfl
        · obtain ⟨z, hz, hzp⟩ := List.mem_map.1 ((any_mem _ _).1 hx)
          exact hp (h z p (.inl hz) (.inr List.mem_cons_self) hzp ▸ hz)
    rw [List.map_cons, List.foldl_cons, h1, foldN_map o r (addN l p) (fun a b ha hb hab => h a b ?_ ?_ hab), List.foldl_cons]
    · rw [addN_mem] at ha
      simp only [List.mem_cons]
      rcases ha with (ha | ha) | ha
      · exact .inl ha
      · exact .inr (.inl ha)
      · exact .inr (.inr ha)
    · rw [addN_mem] at hb
      simp only [List.mem_cons]
      rcases hb with (ha | ha) | ha
      · exact .inl ha
      · exact .inr (.inl ha)
      · exact .inr (.inr ha)
def digB (i : Nat) : ByteArray := if i < 10 then ⟨#[UInt8.ofNat (48 + i)]⟩ else if i < 100 then ⟨#[UInt8.ofNat (48 + i / 10), UInt8.ofNat (48 + i % 10)]⟩ else ⟨#[UInt8.ofNat (48 + i / 100), UInt8.ofNat (48 + i / 10 % 10), UInt8.ofNat (48 + i % 10)]⟩
def nmB (i : Nat) : ByteArray := { data := #[126] : ByteArray } ++ digB i ++ { data := #[126] : ByteArray }
def decB (s : ByteArray) : Nat := s.data.toList.foldl (fun a c => if c = 126 then a else a * 10 + (c.toNat - 48)) 0
theorem nmB_all : ((List.range 200).all fun i => Nat.ble (nmB i).size 5 && !Nat.beq (nmB i).size 0 && (nmB i).data.toList.all (fun c => c != 36) && Nat.beq (decB (nmB i)) i) = true := by kernel_rfl
theorem nmB_at (i : Nat) (hi : i < 200) : (nmB i).size ≤ 5 ∧ (nmB i).size ≠ 0 ∧ freeB (nmB i) ∧ decB (nmB i) = i := by
  have h := List.all_eq_true.1 nmB_all i (List.mem_range.2 hi)
  simp only [Bool.and_eq_true] at h
  obtain ⟨⟨⟨h1, h2⟩, h3⟩, h4⟩ := h
  refine ⟨Nat.le_of_ble_eq_true h1, ?_, ?_, Nat.eq_of_beq_eq_true h4⟩
  · intro h0
    rw [h0] at h2
    exact absurd h2 (by decide)
  · intro c hc
    have := List.all_eq_true.1 h3 c hc
    simpa using this
theorem nmB_inj {i j : Nat} (hi : i < 200) (hj : j < 200) (h : nmB i = nmB j) : i = j := by
  rw [← (nmB_at i hi).2.2.2, ← (nmB_at j hj).2.2.2, h]
theorem digits_all (k : Nat) : ((List.range 200).map fun i => (FF hFam (k + 12)).f_r01_Digits (((i : Nat) : Int), ())) = (List.range 200).map fun i => some (digB i) := by kernel_rfl
theorem digits_at (k i : Nat) (hi : i < 200) : (FF hFam (k + 12)).f_r01_Digits ((i : Int), ()) = some (digB i) := by
  have h := congrArg (fun l => l[i]?) (digits_all k)
  simpa [hi] using h
end Go.Ev
end
section
open Go
namespace Go.Ev
open Go.Proofs.YtokkfbkbnocnoaaGreatDoor
set_option maxRecDepth 100000
set_option maxHeartbeats 4000000
set_option linter.unusedVariables false
set_option linter.unusedSimpArgs false
def thereL (l : List ByteArray) (i : Nat) : List TPair := (List.range i).map fun j => ⟨l.getD j { data := #[] : ByteArray }, nmB j⟩
def backL (l : List ByteArray) (i : Nat) : List TPair := (List.range i).map fun j => ⟨nmB j, l.getD j { data := #[] : ByteArray }⟩
theorem thereL_len (l : List ByteArray) (i : Nat) : (thereL l i).length = i := by simp [thereL]
theorem backL_len (l : List ByteArray) (i : Nat) : (backL l i).length = i := by simp [backL]
theorem there_at {l : List ByteArray} (hl : l.length ≤ 200) {p : ByteArray} (hp : p ∈ l) : ∃ j, j < l.length ∧ l.getD j { data := #[] : ByteArray } = p ∧ outT (.ren (thereL l l.length)) p = nmB j := by
  obtain ⟨i, hi, rfl⟩ := List.getElem_of_mem hp
  simp only [outT]
  split
  · rename_i q hq
    have h1 := List.mem_of_find?_eq_some hq
    have h2 := List.find?_some hq
    obtain ⟨j, hj, rfl⟩ := List.mem_map.1 h1
    rw [ba_dc] at h2
    exact ⟨j, List.mem_range.1 hj, (dc_iff _).1 h2, rfl⟩
  · rename_i hn
    have := List.find?_eq_none.1 hn ⟨l.getD i { data := #[] : ByteArray }, nmB i⟩ (List.mem_map.2 ⟨i, List.mem_range.2 hi, rfl⟩)
    rw [ba_dc] at this
    refine absurd (dc_true ?_) this
    simp [List.getD_eq_getElem?_getD, List.getElem?_eq_getElem hi]
theorem there_not {l : List ByteArray} {p : ByteArray} (hp : p ∉ l) : outT (.ren (thereL l l.length)) p = p := by
  simp only [outT]
  split
  · rename_i q hq
    have h1 := List.mem_of_find?_eq_some hq
    have h2 := List.find?_some hq
    obtain ⟨j, hj, rfl⟩ := List.mem_map.1 h1
    rw [ba_dc] at h2
    have h3 := (dc_iff _).1 h2
    have hj' := List.mem_range.1 hj
    refine absurd ?_ hp
    rw [← h3]
    simp only [List.getD_eq_getElem?_getD, List.getElem?_eq_getElem hj', Option.getD_some]
    exact List.getElem_mem hj'
  · rfl
theorem back_at {l : List ByteArray} (hl : l.length ≤ 200) {j : Nat} (hj : j < l.length) : outT (.ren (backL l l.length)) (nmB j) = l.getD j { data := #[] : ByteArray } := by
  simp only [outT]
  split
  · rename_i q hq
    have h1 := List.mem_of_find?_eq_some hq
    have h2 := List.find?_some hq
    obtain ⟨i, hi, rfl⟩ := List.mem_map.1 h1
    rw [ba_dc] at h2
    have h3 := (dc_iff _).1 h2
    have hi' := List.mem_range.1 hi
    obtain rfl : i = j := nmB_inj (by omega) (by omega) h3
    rfl
  · rename_i hn
    have := List.find?_eq_none.1 hn ⟨nmB j, l.getD j { data := #[] : ByteArray }⟩ (List.mem_map.2 ⟨j, List.mem_range.2 hj, rfl⟩)
    rw [ba_dc] at this
    exact absurd (dc_true rfl) this
section
variable (k : Nat) (p : TProgram) (hb : bk_TProgram p ≤ 1048576) (hk : 16000000 ≤ k) (fp : ft_TProgram p) (hl : ((nmP' p).foldl addN []).length ≤ 200) (aw : (FF hFam (k + 9)).f_w07_awake () = some true)
include hb hk fp hl aw
theorem back_end (j : Nat) : Lw07_TreeBack_6 (FF hFam (k + 9)) (k + 9) p (j + 1) ((nmP' p).foldl addN []) (((nmP' p).foldl addN []).length : Nat) p.Name p.Before p.Mid p.After p.Recs p.Vars p.Routines p.Body p.End (thereL ((nmP' p).foldl addN []) ((nmP' p).foldl addN []).length) (backL ((nmP' p).foldl addN []) ((nmP' p).foldl addN []).length) = some true := by
  have hmem : ∀ q, q ∈ (nmP' p).foldl addN [] ↔ q ∈ nmP' p := fun q => by rw [foldN_mem]; simp
  have hok := okP_P p
  simp only [Lw07_TreeBack_6]
  generalize hgl : (nmP' p).foldl addN [] = l at hl hmem ⊢
  have hlf : decide ((l.length : Int) < (l.length : Int)) = false := by simp
  rw [if_neg (by rw [hlf]; simp)]
  have hP : ({ Name := p.Name, Before := p.Before, Mid := p.Mid, After := p.After, Recs := p.Recs, Vars := p.Vars, Routines := p.Routines, Body := p.Body, End := p.End } : TProgram) = p := by cases p; rfl
  rw [hP]
  -- there
  have hgood : ∀ q ∈ nmP' p, goodO (outT (.ren (thereL l l.length))) q := fun q hq => by
    obtain ⟨j, hj, _, h2⟩ := there_at hl ((hmem q).2 hq)
    have h3 := nmB_at j (by omega)
    unfold goodO
    rw [h2]
    exact ⟨h3.2.2.1, h3.2.1⟩
  have hgrow : growO (outT (.ren (thereL l l.length))) := fun q => by
    by_cases hq : q ∈ l
    · obtain ⟨j, hj, _, h2⟩ := there_at hl hq
      have h3 := nmB_at j (by omega)
      have h4 := (hok q ((hmem q).1 hq)).1
      rw [h2]
      omega
    · rw [there_not hq]
      omega
  have hback : ∀ q ∈ nmP' p, outT (.ren (backL l l.length)) (outT (.ren (thereL l l.length)) q) = q := fun q hq => by
    obtain ⟨j, hj, h1, h2⟩ := there_at hl ((hmem q).2 hq)
    rw [h2, back_at hl hj, h1]
  obtain ⟨t1, t2⟩ := there_P (outT (.ren (thereL l l.length))) (outT (.ren (backL l l.length))) p hgood
  have hr1 : roomT (.ren (thereL l l.length)) (bk_TProgram p) := by
    intro q hq
    obtain ⟨j, hj, rfl⟩ := List.mem_map.1 hq
    have h3 := nmB_at j (by have := List.mem_range.1 hj; omega)
    show (nmB j).size ≤ _
    omega
  have hg := grow_P _ hgrow p
  generalize hq : mapP (outT (.ren (thereL l l.length))) p = q at t1 t2 hg
  have hr2 : roomT (.ren (backL l l.length)) (bk_TProgram q) := by
    intro z hz
    obtain ⟨j, hj, rfl⟩ := List.mem_map.1 hz
    have hj' := List.mem_range.1 hj
    show (l.getD j _).size ≤ _
    simp only [List.getD_eq_getElem?_getD, List.getElem?_eq_getElem hj', Option.getD_some]
    have h4 := (hok _ ((hmem _).1 (List.getElem_mem hj'))).2
    omega
  have e1 : (FF hFam (k + 9)).f_tree_Rename (p, thereL l l.length, ()) = some q := by
    show B_tree_Rename (FF hFam (k + 8)) (k + 8) p (thereL l l.length) = _
    unfold B_tree_Rename
    rw [mprog_ok k (.ren (thereL l l.length)) p hr1 (by omega) (by omega), hq]
    rfl
  have e2 : (FF hFam (k + 9)).f_tree_Rename (q, backL l l.length, ()) = some p := by
    show B_tree_Rename (FF hFam (k + 8)) (k + 8) q (backL l l.length) = _
    unfold B_tree_Rename
    rw [mprog_ok k (.ren (backL l l.length)) q hr2 (by omega) (by omega)]
    simp only [Option.map_some, t2 hback]
  have e3 := foldN_map (outT (.ren (thereL l l.length))) (nmP' p) [] (fun a b ha hb hab => by
    have ha' := ha.resolve_left (by simp)
    have hb' := hb.resolve_left (by simp)
    rw [← hback a ha', ← hback b hb', hab])
  rw [List.map_nil, hgl, ← t1] at e3
  have e4 := tree_Names_ok k q (by omega) (by omega)
  rw [e3] at e4
  have e5 : (((l.map (outT (.ren (thereL l l.length)))).length : Int) == (l.length : Int)) = true := by simp
  have e6 := r07_Same_ok hFam (k + 3) p p fp (by omega)
  rw [dc_true rfl] at e6
  rw [e1, Option.bind_some, e4, Option.bind_some, if_pos e5, e2, Option.bind_some, e6, Option.bind_some, if_pos (by rfl), aw]
  rfl
theorem TreeBack_ok : (FF hFam (k + 10)).f_w07_TreeBack (p, ()) = some true := by
  show B_w07_TreeBack (FF hFam (k + 9)) (k + 9) p = _
  unfold B_w07_TreeBack
  rw [tree_Names_ok k p (by omega) (by omega), Option.bind_some]
  have hend := back_end k p hb hk fp hl aw
  generalize hgl : (nmP' p).foldl addN [] = l at hl hend ⊢
  rw [if_neg (by simp; omega)]
  have key : ∀ j i, i ≤ l.length → l.length - i < j → Lw07_TreeBack_6 (FF hFam (k + 9)) (k + 9) p j l (i : Int) p.Name p.Before p.Mid p.After p.Recs p.Vars p.Routines p.Body p.End (thereL l i) (backL l i) = some true := by
    refine up_ind l.length (fun j => hend j) (fun j i hi ih => ?_)
    have hd := digits_at (k + 9 - 12) i (by omega)
    have hk9 : k + 9 - 12 + 12 = k + 9 := by omega
    rw [hk9] at hd
    have hsz := (nmB_at i (by omega)).1
    have hun : { data := #[126] : ByteArray } ++ digB i ++ { data := #[126] : ByteArray } = nmB i := rfl
    have inner : ∀ j' m, m ≤ l.length → l.length - m < j' → Lw07_TreeBack_10 (FF hFam (k + 9)) (k + 9) p (Lw07_TreeBack_6 (FF hFam (k + 9)) (k + 9) p j) j' l (i : Int) (nmB i) (m : Int) p.Name p.Before p.Mid p.After p.Recs p.Vars p.Routines p.Body p.End (thereL l i) (backL l i) = some true := by
      refine up_ind l.length (fun j' => ?_) (fun j' m hm ihm => ?_)
      · have hlf : decide ((l.length : Int) < (l.length : Int)) = false := by simp
        have h1 : thereL l i ++ [⟨l.getD i { data := #[] : ByteArray }, nmB i⟩] = thereL l (i + 1) := by simp [thereL, List.range_succ]
        have h2 : backL l i ++ [⟨nmB i, l.getD i { data := #[] : ByteArray }⟩] = backL l (i + 1) := by simp [backL, List.range_succ]
        have l1 := thereL_len l (i + 1)
        have l2 := backL_len l (i + 1)
        simp only [Lw07_TreeBack_10, Int.toNat_natCast]
        rw [if_neg (by rw [hlf]; simp), h1, h2, if_pos (by omega), if_pos (by omega), if_pos (by omega), if_pos (by omega), if_pos (by omega), if_pos (by omega), wrap_succ hi (by simp only [maxLen]; omega), ih]
      · simp only [Lw07_TreeBack_10]
        rw [if_pos (lt_dec hm), if_pos (by omega), if_pos (by omega), wrap_succ hm (by simp only [maxLen]; omega), ihm, aw]
        simp only [Option.bind_some, ite_self]
    simp only [Lw07_TreeBack_6]
    have s1 : ((126 : Nat) : Int) = 126 := rfl
    have hs2 : (digB i).size + 2 = (nmB i).size := by
      unfold nmB
      simp only [ByteArray.size_append]
      show _ = 1 + (digB i).size + 1
      omega
    have hm1 : ¬ ((({ data := #[126] : ByteArray }.size : Int) + ((digB i).size : Int)) > IntKind.i64.max) := by
      show ¬ ((1 : Int) + ((digB i).size : Int) > 9223372036854775807)
      omega
    have hm2 : ¬ (((({ data := #[126] : ByteArray } ++ digB i).size : Int) + ({ data := #[126] : ByteArray }.size : Int)) > IntKind.i64.max) := by
      rw [ByteArray.size_append]
      show ¬ (((1 + (digB i).size : Nat) : Int) + (1 : Int) > 9223372036854775807)
      omega
    rw [if_pos (lt_dec hi), hd, Option.bind_some]
    first
      | rw [if_neg hm1, if_neg hm2, hun]
      | (simp only [ByteArray.size_append] at hm1 hm2 ⊢; rw [if_neg (by simpa using hm1), if_neg (by simpa using hm2), hun])
    have := inner (k + 9) 0 (Nat.zero_le _) (by omega)
    simpa using this
  have := key (k + 9) 0 (Nat.zero_le _) (by omega)
  simpa [thereL, backL] using this
end
theorem TreeBack_many (k : Nat) (p : TProgram) (hb : bk_TProgram p ≤ 1048576) (hk : 16000000 ≤ k) (hl : ¬ ((nmP' p).foldl addN []).length ≤ 200) (aw : (FF hFam (k + 9)).f_w07_awake () = some true) : (FF hFam (k + 10)).f_w07_TreeBack (p, ()) = some true := by
  show B_w07_TreeBack (FF hFam (k + 9)) (k + 9) p = _
  unfold B_w07_TreeBack
  rw [tree_Names_ok k p (by omega) (by omega), Option.bind_some]
  generalize hgl : (nmP' p).foldl addN [] = l at hl ⊢
  rw [if_pos (by simp; omega), aw]
  rfl
theorem TreeBack_all (k : Nat) (p : TProgram) (hb : bk_TProgram p ≤ 1048576) (hk : 16000000 ≤ k) (fp : ft_TProgram p) (aw : (FF hFam (k + 9)).f_w07_awake () = some true) : (FF hFam (k + 10)).f_w07_TreeBack (p, ()) = some true := by
  by_cases hl : ((nmP' p).foldl addN []).length ≤ 200
  · exact TreeBack_ok k p hb hk fp hl aw
  · exact TreeBack_many k p hb hk hl aw
end Go.Ev
end
section
open Go Go.Proofs
namespace Go.Ev
open Go.RowKit Go.Proofs.YtokkfbkbnocnoaaGreatDoor
set_option linter.unusedVariables false
set_option maxHeartbeats 4000000
set_option maxRecDepth 100000
section
variable {H : Type} {enc : TypeId × Value → H} {W : World} {base : Nat} {spare : Nat → Bool} {held : Bool}
theorem sp5 (s : Fam) : sp s 5 = ansOf c_w07_TreeBack rc_w07_TreeBack.enc s.f_w07_TreeBack := by kernel_rfl
theorem treeBack {v1 : Value} {d1 : DataW H} {p1 : List MemPlace} (h1 : DataW.Trod enc Tryz.prog W base spare held 28 v1 d1 p1) (hb : Rows.uptoBulk d1 ≤ 1048576) (hi : EE.inv W) :
    Calls Tryz.prog 5 #[v1] W fun e W' => e = .returned (.bool true) ∧ Below W.heap.size W W' := by
  obtain ⟨_, x, _, fx, bx, rx⟩ := read_progB h1
  refine call_law (s := FF hFam (16000000 + 3 + 10)) (by decide) (specs hand _) (avs := c_w07_TreeBack.enc (x, ())) ?_ (.cons _ _ _ _ [] [] [] [] rx .nil) hi
  rw [sp5]
  exact ans_run _ _ _ (x := (x, ())) rfl (TreeBack_all (16000000 + 3) x (by omega) (by omega) fx (awake_ok 16000000))
end
end Go.Ev
end
section
set_option linter.unusedVariables false
namespace Go.Ev.treeBack
open Go Go.Proofs Go.ChangeShapes Go.WideShapes Go.ChangeAt Go.RowKit Go.Proofs.YtokkfbkbnocnoaaGreatDoor
theorem own : ownKnob Tryz.prog.godebug = none := by kernel_rfl
theorem laidOut : laidOutB Tryz.prog = true := by kernel_rfl
theorem reads (os : Os) {H : Type} (enc : TypeId × Value → H) : ∃ places, DataW.whole enc Tryz.prog ((World.laidAll Tryz.prog os laidL).forCall (fun _ _ => 0) ⟨#[], #[.agg #[.string ⟨#[]⟩, .slice none 0 0, .slice none 0 0, .slice none 0 0, .slice none 0 0, .slice none 0 0, .slice none 0 0, .slice none 0 0, .slice none 0 0]], []⟩).memory Tryz.f5.params.toList Rows.treeBackSpec.vars false #[Value.agg #[.string ⟨#[]⟩, .slice none 0 0, .slice none 0 0, .slice none 0 0, .slice none 0 0, .slice none 0 0, .slice none 0 0, .slice none 0 0, .slice none 0 0]].toList 8 = some ([.agg [.lit (.string []), .nil, .nil, .nil, .nil, .nil, .nil, .nil, .nil]], [], places) :=
  ⟨[], by kernel_rfl⟩
set_option maxRecDepth 100000 in
theorem lifted (os : Os) (started : os.Started) (H : Type) (enc : TypeId × Value → H) (F : Stop.Interp) :
    ReturnsInHanded {} Tryz.checked os 5 .any ((Rows.OpenSpec.upto Rows.treeBackSpec).preRow enc Tryz.prog Tryz.f5 Rows.treeBackUptoRow.domain false Rows.treeBackUptoRow.laid) (((Rows.OpenSpec.upto Rows.treeBackSpec).at F).post enc Tryz.prog Tryz.f5 false true false false) := by
  obtain ⟨places, hx⟩ := reads os enc
  refine returnsInHanded_of_row (C := Tryz.checked) (s := Rows.OpenSpec.upto Rows.treeBackSpec) own started (by kernel_rfl) Tryz.func5
    ⟨World.laidAll Tryz.prog os laidL, fun _ _ => 0, ⟨#[], #[.agg #[.string ⟨#[]⟩, .slice none 0 0, .slice none 0 0, .slice none 0 0, .slice none 0 0, .slice none 0 0, .slice none 0 0, .slice none 0 0, .slice none 0 0]], []⟩, World.laidAll_os _ _ _, World.shaped_of_ZipB (by kernel_rfl) (by kernel_rfl), rfl, (Input.okWide_of_okWideB (by kernel_rfl)).2,
      OpenSpec.preRow_of_cond 8 hx (by kernel_rfl) (fun k hk => by cases hk; kernel_rfl) (by kernel_rfl) (by show laidMetH Tryz.prog laidL _; rw [MakeChecks.laidMetH_plain _ _ _ (by kernel_rfl)]; exact laidMet_laidAll _ (by kernel_rfl) (by kernel_rfl)), by
        simp only [Assume.holds]
        exact ⟨by simp, by simp, fun _ => Modest.zero, by simp, by simp⟩⟩ ?_
  intro W base args ds gs before hval hW _ hcond _ hlaid hsh _
  have hL : EE.inv W := of_laid hlaid hsh
  have hW' := hW
  obtain ⟨p, q, hA0, hV, rfl, hfz, hnd⟩ := hW
  have hA : DataW.TrodAll enc Tryz.prog W 0 (fun _ => true) true Tryz.f5.params.toList args.toList ds p := hA0
  rw [Tryz.params5] at hA hval
  obtain ⟨v0, vs0, d0, ds0, p0, q0, hargs, rfl, rfl, h0, r0⟩ := trodAll_cons hA
  obtain ⟨rfl, rfl, rfl⟩ := trodAll_nil r0
  obtain rfl : args = #[v0] := by cases args; simp_all
  obtain ⟨rfl, rfl⟩ := trodVars_none hV
  have hbulk := hcond _ rfl
  simp only [Rows.uptoSmall, decide_eq_true_eq, List.append_nil, List.cons_append, List.nil_append, bulkAll_eq, List.map_cons, List.map_nil, List.sum_cons, List.sum_nil] at hbulk
  have lt0 : ∀ x ∈ p0, x.block < W.heap.size := by obtain ⟨m, hm⟩ := h0; exact DataW.trod_lt m _ _ _ hm
  have hcall : Calls Tryz.prog 5 #[v0] W fun e W' => e = .returned (.bool true) ∧ Below W.heap.size W W' := by
    exact Go.Ev.treeBack h0 (by omega) hL
  refine hcall.mono fun e W' ⟨he, bel⟩ => ?_
  subst he
  exact ⟨_, rfl, (⟨_, _, _, [], _, [], hW', trodAll_mk1 (shut_bool Tryz.underlying4 _), (trodAll_cons_mk (Below.trod laidOut (by kernel_rfl) (of_decide_eq_true (by kernel_rfl)) h0 bel lt0) trodAll_mk0), rfl, bel.frame _, fun h => by cases h⟩ : Rows.treeBackSpec.post enc Tryz.prog Tryz.f5 false true false false W _ _ W')⟩
theorem over : Rows.TreeBackUptoSaid :=
  OpenClaim.holds_of_cond 5 Tryz.f5 rfl rfl rfl rfl rfl rfl rfl ⟨rfl, rfl, rfl, rfl, rfl⟩ rfl rfl rfl rfl rfl (by kernel_rfl) Tryz.func5 (by kernel_rfl)
    (of_decide_eq_true (by kernel_rfl)) (by unfold Func.isWrapper; first | (rw [if_pos (by decide +kernel)]; kernel_rfl) | (rw [if_neg (by decide +kernel)]; exact ⟨rfl, rfl⟩))
    (fun os started H enc _ F => by rw [OpenClaim.pre_eq_preRow]; exact lifted os started H enc F)
theorem plain (f : FuncId) (fn : Func) (hf : Tryz.pinned.checked.prog.funcNamed "pantograph/pantographlaw07.TreeBack" = some f) (hfn : Tryz.pinned.checked.prog.funcs[f]? = some fn) :
    false = Tryz.pinned.checked.prog.looks [] ∧ ∀ (j : Nat) t, fn.params[j]? = some t → Tryz.pinned.checked.prog.wantsStandIn t = false := by
  obtain rfl : f = 5 := Option.some.inj ((show Tryz.prog.funcNamed "pantograph/pantographlaw07.TreeBack" = some 5 by kernel_rfl).symm.trans hf) |>.symm
  obtain rfl : fn = Tryz.f5 := (Option.some.inj (Tryz.func5.symm.trans hfn)).symm
  refine ⟨by kernel_rfl, fun j t ht => ?_⟩
  rw [Tryz.params5] at ht
  have hm : t ∈ [28] := by simpa using Array.mem_of_getElem? ht
  have hall : ([28].all fun u => !Tryz.prog.wantsStandIn u) = true := by kernel_rfl
  exact (show Tryz.prog.wantsStandIn t = false by simpa using List.all_eq_true.1 hall t hm)
theorem card : Rows.TreeBackUptoCardSaid :=
  Claim7.holds_tied_plain_at .later [] _ _ _ _ over (fun _ h => by cases h) (by kernel_rfl) (fun _ h => by cases h) treeBackUpto_row_tie rfl ⟨rfl, rfl⟩ (by kernel_rfl) rfl plain (by kernel_rfl)
end Go.Ev.treeBack
namespace Go.Proofs.YtokkfbkbnocnoaaGreatDoor
theorem treeBack_holds : Rows.TreeBackUptoCardSaid := Go.Ev.treeBack.card
end Go.Proofs.YtokkfbkbnocnoaaGreatDoor
end
