/- Proved here: the statement RenameNoneUpto (where no name is a word of the dialect, nothing becomes another one), for every input that its row lets in; conditions: those of the row, and none beside. -/
import Derived.Test.YtlepjafokfhnfaaDoorA3
import Derived.Lib.ItoaNum
import Derived.Deep.DeepHandedRow
section
open Go
namespace Go.Ev
open Go.Proofs.YtlepjafokfhnfaaDoor
set_option maxRecDepth 100000
set_option maxHeartbeats 4000000
set_option linter.unusedVariables false
set_option linter.unusedSimpArgs false
def freeB (p : ByteArray) : Prop := ∀ c ∈ p.data.toList, c ≠ 36
def goodO (o : ByteArray → ByteArray) (p : ByteArray) : Prop := freeB (o p) ∧ (o p).size ≠ 0
theorem join_sum : ∀ ls : List (List UInt8), ls ≠ [] → (Lib.join ls [36]).length + 1 = (ls.map fun l => l.length + 1).sum
  | [], h => absurd rfl h
  | [x], _ => by rw [Lib.join_one]; simp
  | x :: y :: r, _ => by
    have ih := join_sum (y :: r) (by simp)
    unfold Lib.join at ih ⊢
    rw [List.intercalate_cons_cons]
    simp only [List.length_append, List.length_cons, List.length_nil, List.map_cons, List.sum_cons] at ih ⊢
    omega
theorem cut_join : ∀ ls : List (List UInt8), ls ≠ [] → (∀ l ∈ ls, ∀ c ∈ l, c ≠ 36) → cutL (Lib.join ls [36]) = ls
  | [], h, _ => absurd rfl h
  | [x], _, h => by rw [Lib.join_one]; exact cutL_free x (h x List.mem_cons_self)
  | x :: y :: r, _, h => by
    have ih := cut_join (y :: r) (by simp) fun l hl => h l (List.mem_cons_of_mem _ hl)
    unfold Lib.join at ih ⊢
    rw [List.intercalate_cons_cons, List.append_assoc, List.cons_append, List.nil_append, cutL_at x _ (h x List.mem_cons_self), ih]
theorem joinD_data (ps : List ByteArray) : (joinD ps).data.toList = Lib.join (ps.map (·.data.toList)) [36] := by
  unfold joinD
  have h36 : sep36.data.toList = [36] := rfl
  rw [h36]
theorem cutP_ne (s : ByteArray) : cutP s ≠ [] := by
  unfold cutP
  intro h
  exact cutL_ne _ (List.map_eq_nil_iff.1 h)
theorem cutP_joinD (ps : List ByteArray) (hne : ps ≠ []) (h : ∀ p ∈ ps, freeB p) : cutP (joinD ps) = ps := by
  unfold cutP
  rw [joinD_data, cut_join _ (by simpa using hne) (fun l hl => by
    obtain ⟨p, hp, rfl⟩ := List.mem_map.1 hl
    exact h p hp), List.map_map]
  have : (fun l : List UInt8 => (⟨l.toArray⟩ : ByteArray)) ∘ (fun p : ByteArray => p.data.toList) = id := by
    funext p
    apply ByteArray.ext
    simp
  rw [this, List.map_id]
theorem cutL_free_mem : ∀ (l : List UInt8), ∀ p ∈ cutL l, ∀ c ∈ p, c ≠ 36
  | [], p, h => by simp [cutL] at h; subst h; simp
  | c :: r, p, h => by
    have ih := cutL_free_mem r
    rw [cutL] at h
    split at h
    · rcases List.mem_cons.1 h with rfl | h
      · simp
      · exact ih p h
    · rename_i hc
      split at h
      · simp at h; subst h; simpa using hc
      · rename_i q t hq
        rcases List.mem_cons.1 h with rfl | h
        · intro d hd
          rcases List.mem_cons.1 hd with rfl | hd
          · exact hc
          · exact ih q (by rw [hq]; exact List.mem_cons_self) d hd
        · exact ih p (by rw [hq]; exact List.mem_cons_of_mem _ h)
theorem cutP_free (s p : ByteArray) (h : p ∈ cutP s) : freeB p := by
  unfold cutP at h
  obtain ⟨l, hl, rfl⟩ := List.mem_map.1 h
  intro c hc
  exact cutL_free_mem _ l hl c (by simpa using hc)
theorem size_zero {s : ByteArray} (h : s.size = 0) : s = ByteArray.empty := by
  apply ByteArray.ext
  exact Array.eq_empty_of_size_eq_zero h
theorem cutP_empty : cutP ByteArray.empty = [ByteArray.empty] := rfl
theorem mem_pts {s p : ByteArray} : p ∈ pts s ↔ p ∈ cutP s ∧ p.size ≠ 0 := by simp [pts, someP]
theorem mapN_join (o : ByteArray → ByteArray) (s : ByteArray) : mapN o s = joinD ((cutP s).map (mapPo o)) := by
  unfold mapN
  by_cases h : s.size = 0
  · rw [if_pos h, size_zero h, cutP_empty]
    have : mapPo o ByteArray.empty = ByteArray.empty := rfl
    rw [List.map_cons, this, List.map_nil]
    rfl
  · rw [if_neg h]
theorem cutP_mapN (o : ByteArray → ByteArray) (s : ByteArray) (h : ∀ p ∈ pts s, goodO o p) : cutP (mapN o s) = (cutP s).map (mapPo o) := by
  rw [mapN_join]
  refine cutP_joinD _ (by simpa using cutP_ne s) fun q hq => ?_
  obtain ⟨p, hp, rfl⟩ := List.mem_map.1 hq
  unfold mapPo
  split
  · exact cutP_free s p hp
  · rename_i hz
    exact (h p (mem_pts.2 ⟨hp, hz⟩)).1
theorem someP_map (o : ByteArray → ByteArray) : ∀ l : List ByteArray, (∀ p ∈ someP l, (o p).size ≠ 0) → someP (l.map (mapPo o)) = (someP l).map o
  | [], _ => rfl
  | x :: r, h => by
    by_cases hz : x.size = 0
    · have h1 : mapPo o x = x := by unfold mapPo; rw [if_pos hz]
      have h2 : ∀ t, someP (x :: t) = someP t := fun t => by unfold someP; rw [List.filter_cons_of_neg (by simp [hz])]
      rw [List.map_cons, h1, h2, h2]
      rw [h2] at h
      exact someP_map o r h
    · have h1 : mapPo o x = o x := by unfold mapPo; rw [if_neg hz]
      have h2 : someP (x :: r) = x :: someP r := by unfold someP; rw [List.filter_cons_of_pos (by simp [hz])]
      rw [h2] at h
      have h3 := h x List.mem_cons_self
      have h4 : ∀ t, someP (o x :: t) = o x :: someP t := fun t => by unfold someP; rw [List.filter_cons_of_pos (by simp [h3])]
      rw [List.map_cons, h1, h4, h2, List.map_cons, someP_map o r fun p hp => h p (List.mem_cons_of_mem _ hp)]
theorem pts_mapN (o : ByteArray → ByteArray) (s : ByteArray) (h : ∀ p ∈ pts s, goodO o p) : pts (mapN o s) = (pts s).map o := by
  unfold pts
  rw [cutP_mapN o s h, someP_map o _ fun p hp => (h p hp).2]
theorem mapN_back (o o' : ByteArray → ByteArray) (s : ByteArray) (h : ∀ p ∈ pts s, goodO o p) (hb : ∀ p ∈ pts s, o' (o p) = p) : mapN o' (mapN o s) = s := by
  rw [mapN_join o', cutP_mapN o s h, List.map_map]
  have : (cutP s).map (mapPo o' ∘ mapPo o) = cutP s := by
    conv => rhs; rw [← List.map_id (cutP s)]
    refine List.map_congr_left fun p hp => ?_
    show mapPo o' (mapPo o p) = p
    by_cases hz : p.size = 0
    · unfold mapPo; rw [if_pos hz, if_pos hz]
    · have hm := mem_pts.2 ⟨hp, hz⟩
      have h1 : mapPo o p = o p := by unfold mapPo; rw [if_neg hz]
      rw [h1]
      unfold mapPo
      rw [if_neg (h p hm).2]
      exact hb p hm
  rw [this, joinD_cutP]
def growO (o : ByteArray → ByteArray) : Prop := ∀ p, (o p).size ≤ 5 * p.size
theorem sum_grow (o : ByteArray → ByteArray) (ho : growO o) : ∀ ps : List ByteArray, (((ps.map (mapPo o)).map fun p => p.size + 1).sum) + 4 * ps.length ≤ 5 * ((ps.map fun p => p.size + 1).sum)
  | [] => by simp
  | x :: r => by
    have ih := sum_grow o ho r
    have h1 : (mapPo o x).size ≤ 5 * x.size := by
      unfold mapPo
      split
      · omega
      · exact ho x
    simp only [List.map_cons, List.sum_cons, List.length_cons]
    omega
theorem joinD_size (ps : List ByteArray) (h : ps ≠ []) : (joinD ps).size + 1 = (ps.map fun p => p.size + 1).sum := by
  have h1 := join_sum (ps.map (·.data.toList)) (by simpa using h)
  rw [← joinD_data, List.map_map] at h1
  have h2 : ((fun l : List UInt8 => l.length + 1) ∘ fun p : ByteArray => p.data.toList) = fun p : ByteArray => p.size + 1 := by funext p; simp
  rw [h2] at h1
  simpa using h1
theorem mapN_size (o : ByteArray → ByteArray) (ho : growO o) (s : ByteArray) : (mapN o s).size ≤ 5 * s.size := by
  have hne := cutP_ne s
  have h1 := joinD_size (cutP s) hne
  rw [joinD_cutP] at h1
  have h2 := joinD_size ((cutP s).map (mapPo o)) (by simpa using hne)
  rw [← mapN_join] at h2
  have h3 := sum_grow o ho (cutP s)
  have h4 : 1 ≤ (cutP s).length := by
    rcases Nat.eq_zero_or_pos (cutP s).length with h | h
    · exact absurd (List.eq_nil_of_length_eq_zero h) hne
    · exact h
  omega
section
variable (o o' : ByteArray → ByteArray)
def thereP {α : Type} (m m' : α → α) (nm : α → List ByteArray) (x : α) : Prop := (∀ p ∈ nm x, goodO o p) → nm (m x) = (nm x).map o ∧ ((∀ p ∈ nm x, o' (o p) = p) → m' (m x) = x)
theorem there_list {α : Type} (m m' : α → α) (nm : α → List ByteArray) : ∀ l : List α, (∀ x ∈ l, thereP o o' m m' nm x) → (∀ p ∈ l.flatMap nm, goodO o p) → (l.map m).flatMap nm = (l.flatMap nm).map o ∧ ((∀ p ∈ l.flatMap nm, o' (o p) = p) → (l.map m).map m' = l)
  | [], _, _ => ⟨rfl, fun _ => rfl⟩
  | x :: r, h, hg => by
    simp only [List.flatMap_cons, List.mem_append] at hg
    obtain ⟨a1, a2⟩ := h x List.mem_cons_self fun p hp => hg p (.inl hp)
    obtain ⟨b1, b2⟩ := there_list m m' nm r (fun y hy => h y (List.mem_cons_of_mem _ hy)) fun p hp => hg p (.inr hp)
    refine ⟨by simp only [List.map_cons, List.flatMap_cons, a1, b1, List.map_append], fun hb => ?_⟩
    simp only [List.flatMap_cons, List.mem_append] at hb
    simp only [List.map_cons, a2 fun p hp => hb p (.inl hp), b2 fun p hp => hb p (.inr hp)]
mutual
theorem there_E : ∀ e : TExpr, thereP o o' (mapE o) (mapE o') nmE e
  | ⟨op, n, nm, f, l⟩ => fun hg => by
    simp only [nmE, List.mem_append] at hg
    have a := pts_mapN o nm fun p hp => hg p (.inl hp)
    have b := pts_mapN o f fun p hp => hg p (.inr (.inl hp))
    obtain ⟨c1, c2⟩ := there_Es l fun p hp => hg p (.inr (.inr hp))
    refine ⟨by simp only [mapE, nmE, a, b, c1, List.map_append], fun hb => ?_⟩
    simp only [nmE, List.mem_append] at hb
    simp only [mapE, mapN_back o o' nm (fun p hp => hg p (.inl hp)) fun p hp => hb p (.inl hp), mapN_back o o' f (fun p hp => hg p (.inr (.inl hp))) fun p hp => hb p (.inr (.inl hp)), c2 fun p hp => hb p (.inr (.inr hp))]
theorem there_Es : ∀ l : List TExpr, thereP o o' (mapEs o) (mapEs o') nmEs l
  | [] => fun _ => ⟨rfl, fun _ => rfl⟩
  | x :: r => fun hg => by
    simp only [nmEs, List.mem_append] at hg
    obtain ⟨a1, a2⟩ := there_E x fun p hp => hg p (.inl hp)
    obtain ⟨b1, b2⟩ := there_Es r fun p hp => hg p (.inr hp)
    refine ⟨by simp only [mapEs, nmEs, a1, b1, List.map_append], fun hb => ?_⟩
    simp only [nmEs, List.mem_append] at hb
    simp only [mapEs, a2 fun p hp => hb p (.inl hp), b2 fun p hp => hb p (.inr hp)]
end
theorem there_V (v : TVar) : thereP o o' (mapV o) (mapV o') nmV v := fun hg => by
  simp only [nmV, List.mem_append] at hg
  have a := pts_mapN o v.Name fun p hp => hg p (.inl hp)
  have b := pts_mapN o v.T_Name fun p hp => hg p (.inr hp)
  refine ⟨by simp only [mapV, nmV, a, b, List.map_append], fun hb => ?_⟩
  simp only [nmV, List.mem_append] at hb
  simp only [mapV, mapN_back o o' v.Name (fun p hp => hg p (.inl hp)) fun p hp => hb p (.inl hp), mapN_back o o' v.T_Name (fun p hp => hg p (.inr hp)) fun p hp => hb p (.inr hp)]
theorem there_A (v : TParam) : thereP o o' (mapA o) (mapA o') nmA v := fun hg => by
  simp only [nmA, List.mem_append] at hg
  have a := pts_mapN o v.Name fun p hp => hg p (.inl hp)
  have b := pts_mapN o v.T_Name fun p hp => hg p (.inr hp)
  refine ⟨by simp only [mapA, nmA, a, b, List.map_append], fun hb => ?_⟩
  simp only [nmA, List.mem_append] at hb
  simp only [mapA, mapN_back o o' v.Name (fun p hp => hg p (.inl hp)) fun p hp => hb p (.inl hp), mapN_back o o' v.T_Name (fun p hp => hg p (.inr hp)) fun p hp => hb p (.inr hp)]
theorem there_F (f : TField) : thereP o o' (mapF o) (mapF o') nmF f := fun hg => by
  refine ⟨pts_mapN o f.Name hg, fun hb => ?_⟩
  simp only [mapF, mapN_back o o' f.Name hg hb]
theorem there_C (r : TRec) : thereP o o' (mapC o) (mapC o') nmC r := fun hg => by
  simp only [nmC, List.mem_append] at hg
  have a := pts_mapN o r.Name fun p hp => hg p (.inl hp)
  obtain ⟨b1, b2⟩ := there_list o o' (mapF o) (mapF o') nmF r.Fields (fun f _ => there_F o o' f) fun p hp => hg p (.inr hp)
  refine ⟨by simp only [mapC, nmC, a, b1, List.map_append], fun hb => ?_⟩
  simp only [nmC, List.mem_append] at hb
  simp only [mapC, mapN_back o o' r.Name (fun p hp => hg p (.inl hp)) fun p hp => hb p (.inl hp), b2 fun p hp => hb p (.inr hp)]
mutual
theorem there_S : ∀ x : TStmt, thereP o o' (mapS o) (mapS o') nmS x
  | ⟨mb, mt, op, nm, po, pn, pnm, pf, pl, E, down, more, body, els, e1, e2⟩ => fun hg => by
    simp only [nmS, List.mem_append] at hg
    have a := pts_mapN o nm fun p hp => hg p (.inl hp)
    obtain ⟨b1, b2⟩ := there_E o o' ⟨po, pn, pnm, pf, pl⟩ fun p hp => hg p (.inr (.inl hp))
    obtain ⟨c1, c2⟩ := there_Es o o' E fun p hp => hg p (.inr (.inr (.inl hp)))
    obtain ⟨d1, d2⟩ := there_Ss body fun p hp => hg p (.inr (.inr (.inr (.inl hp))))
    obtain ⟨f1, f2⟩ := there_Ss els fun p hp => hg p (.inr (.inr (.inr (.inr hp))))
    have b1' : nmE ⟨po, pn, mapN o pnm, mapN o pf, mapEs o pl⟩ = (nmE ⟨po, pn, pnm, pf, pl⟩).map o := by rw [← b1]; simp only [mapE]
    refine ⟨by simp only [mapS, nmS, a, b1', c1, d1, f1, List.map_append], fun hb => ?_⟩
    simp only [nmS, List.mem_append] at hb
    have b2' := b2 fun p hp => hb p (.inr (.inl hp))
    simp only [mapE, TExpr.mk.injEq, true_and] at b2'
    obtain ⟨g1, g2, g3⟩ := b2'
    simp only [mapS, mapN_back o o' nm (fun p hp => hg p (.inl hp)) fun p hp => hb p (.inl hp), g1, g2, g3, c2 fun p hp => hb p (.inr (.inr (.inl hp))), d2 fun p hp => hb p (.inr (.inr (.inr (.inl hp)))), f2 fun p hp => hb p (.inr (.inr (.inr (.inr hp))))]
theorem there_Ss : ∀ l : List TStmt, thereP o o' (mapSs o) (mapSs o') nmSs l
  | [] => fun _ => ⟨rfl, fun _ => rfl⟩
  | x :: r => fun hg => by
    simp only [nmSs, List.mem_append] at hg
    obtain ⟨a1, a2⟩ := there_S x fun p hp => hg p (.inl hp)
    obtain ⟨b1, b2⟩ := there_Ss r fun p hp => hg p (.inr hp)
    refine ⟨by simp only [mapSs, nmSs, a1, b1, List.map_append], fun hb => ?_⟩
    simp only [nmSs, List.mem_append] at hb
    simp only [mapSs, a2 fun p hp => hb p (.inl hp), b2 fun p hp => hb p (.inr hp)]
end
mutual
theorem there_R : ∀ x : TRoutine, thereP o o' (mapR o) (mapR o') nmR x
  | ⟨mb, mt, nm, res, ps, vs, inner, body, e⟩ => fun hg => by
    simp only [nmR, List.mem_append] at hg
    have a := pts_mapN o nm fun p hp => hg p (.inl hp)
    obtain ⟨b1, b2⟩ := there_list o o' (mapA o) (mapA o') nmA ps (fun f _ => there_A o o' f) fun p hp => hg p (.inr (.inl hp))
    obtain ⟨c1, c2⟩ := there_list o o' (mapV o) (mapV o') nmV vs (fun f _ => there_V o o' f) fun p hp => hg p (.inr (.inr (.inl hp)))
    obtain ⟨d1, d2⟩ := there_Rs inner fun p hp => hg p (.inr (.inr (.inr (.inl hp))))
    obtain ⟨f1, f2⟩ := there_Ss o o' body fun p hp => hg p (.inr (.inr (.inr (.inr hp))))
    refine ⟨by simp only [mapR, nmR, a, b1, c1, d1, f1, List.map_append], fun hb => ?_⟩
    simp only [nmR, List.mem_append] at hb
    simp only [mapR, mapN_back o o' nm (fun p hp => hg p (.inl hp)) fun p hp => hb p (.inl hp), b2 fun p hp => hb p (.inr (.inl hp)), c2 fun p hp => hb p (.inr (.inr (.inl hp))), d2 fun p hp => hb p (.inr (.inr (.inr (.inl hp)))), f2 fun p hp => hb p (.inr (.inr (.inr (.inr hp))))]
theorem there_Rs : ∀ l : List TRoutine, thereP o o' (mapRs o) (mapRs o') nmRs l
  | [] => fun _ => ⟨rfl, fun _ => rfl⟩
  | x :: r => fun hg => by
    simp only [nmRs, List.mem_append] at hg
    obtain ⟨a1, a2⟩ := there_R x fun p hp => hg p (.inl hp)
    obtain ⟨b1, b2⟩ := there_Rs r fun p hp => hg p (.inr hp)
    refine ⟨by simp only [mapRs, nmRs, a1, b1, List.map_append], fun hb => ?_⟩
    simp only [nmRs, List.mem_append] at hb
    simp only [mapRs, a2 fun p hp => hb p (.inl hp), b2 fun p hp => hb p (.inr hp)]
end
theorem there_P (p : TProgram) : thereP o o' (mapP o) (mapP o') nmP' p := fun hg => by
  simp only [nmP', List.mem_append] at hg
  have a := pts_mapN o p.Name fun q hq => hg q (.inl hq)
  obtain ⟨b1, b2⟩ := there_list o o' (mapC o) (mapC o') nmC p.Recs (fun f _ => there_C o o' f) fun q hq => hg q (.inr (.inl hq))
  obtain ⟨c1, c2⟩ := there_list o o' (mapV o) (mapV o') nmV p.Vars (fun f _ => there_V o o' f) fun q hq => hg q (.inr (.inr (.inl hq)))
  obtain ⟨d1, d2⟩ := there_Rs o o' p.Routines fun q hq => hg q (.inr (.inr (.inr (.inl hq))))
  obtain ⟨f1, f2⟩ := there_Ss o o' p.Body fun q hq => hg q (.inr (.inr (.inr (.inr hq))))
  refine ⟨by simp only [mapP, nmP', a, b1, c1, d1, f1, List.map_append], fun hb => ?_⟩
  simp only [nmP', List.mem_append] at hb
  simp only [mapP, mapN_back o o' p.Name (fun q hq => hg q (.inl hq)) fun q hq => hb q (.inl hq), b2 fun q hq => hb q (.inr (.inl hq)), c2 fun q hq => hb q (.inr (.inr (.inl hq))), d2 fun q hq => hb q (.inr (.inr (.inr (.inl hq)))), f2 fun q hq => hb q (.inr (.inr (.inr (.inr hq))))]
end
end Go.Ev
end
section
open Go
namespace Go.Ev
open Go.Proofs.YtlepjafokfhnfaaDoor
set_option maxRecDepth 100000
set_option maxHeartbeats 4000000
set_option linter.unusedVariables false
set_option linter.unusedSimpArgs false
mutual
theorem grow_E (o : ByteArray → ByteArray) (ho : growO o) : ∀ e : TExpr, bk_TExpr (mapE o e) ≤ 5 * bk_TExpr e
  | ⟨op, n, nm, f, l⟩ => by
    have a := mapN_size o ho nm
    have b := mapN_size o ho f
    have c := grow_Es o ho l
    simp only [mapE, bk_TExpr]
    omega
theorem grow_Es (o : ByteArray → ByteArray) (ho : growO o) : ∀ l : List TExpr, bks_TExpr (mapEs o l) ≤ 5 * bks_TExpr l
  | [] => Nat.zero_le _
  | x :: r => by
    have a := grow_E o ho x
    have b := grow_Es o ho r
    simp only [mapEs, bks_TExpr]
    omega
end
theorem grow_list {α : Type} (m : α → α) (w : α → Nat) (h : ∀ x, w (m x) ≤ 5 * w x) : ∀ l : List α, ((l.map m).map w).sum ≤ 5 * (l.map w).sum
  | [] => by simp
  | x :: r => by
    have a := h x
    have b := grow_list m w h r
    simp only [List.map_cons, List.sum_cons]
    omega
theorem grow_V (o : ByteArray → ByteArray) (ho : growO o) (v : TVar) : bk_TVar (mapV o v) ≤ 5 * bk_TVar v := by
  obtain ⟨a1, a2, a3, a4, a5, a6⟩ := v
  have a := mapN_size o ho a3
  have b := mapN_size o ho a6
  simp only [mapV, bk_TVar]
  omega
theorem grow_A (o : ByteArray → ByteArray) (ho : growO o) (v : TParam) : bk_TParam (mapA o v) ≤ 5 * bk_TParam v := by
  obtain ⟨a1, a2, a3, a4, a5⟩ := v
  have a := mapN_size o ho a1
  have b := mapN_size o ho a4
  simp only [mapA, bk_TParam]
  omega
theorem grow_F (o : ByteArray → ByteArray) (ho : growO o) (v : TField) : bk_TField (mapF o v) ≤ 5 * bk_TField v := by
  obtain ⟨a1, a2, a3, a4⟩ := v
  have a := mapN_size o ho a3
  simp only [mapF, bk_TField]
  omega
theorem grow_C (o : ByteArray → ByteArray) (ho : growO o) (v : TRec) : bk_TRec (mapC o v) ≤ 5 * bk_TRec v := by
  obtain ⟨a1, a2, a3, a4, a5⟩ := v
  have a := mapN_size o ho a3
  have b := grow_list (mapF o) bk_TField (grow_F o ho) a4
  simp only [mapC, bk_TRec, bks_TField_eq]
  omega
mutual
theorem grow_S (o : ByteArray → ByteArray) (ho : growO o) : ∀ e : TStmt, bk_TStmt (mapS o e) ≤ 5 * bk_TStmt e
  | ⟨mb, mt, op, nm, po, pn, pnm, pf, pl, E, down, more, body, els, e1, e2⟩ => by
    have a := mapN_size o ho nm
    have b := mapN_size o ho pnm
    have b' := mapN_size o ho pf
    have c := grow_Es o ho pl
    have d := grow_Es o ho E
    have e := grow_Ss o ho body
    have f := grow_Ss o ho els
    simp only [mapS, bk_TStmt]
    omega
theorem grow_Ss (o : ByteArray → ByteArray) (ho : growO o) : ∀ l : List TStmt, bks_TStmt (mapSs o l) ≤ 5 * bks_TStmt l
  | [] => Nat.zero_le _
  | x :: r => by
    have a := grow_S o ho x
    have b := grow_Ss o ho r
    simp only [mapSs, bks_TStmt]
    omega
end
mutual
theorem grow_R (o : ByteArray → ByteArray) (ho : growO o) : ∀ e : TRoutine, bk_TRoutine (mapR o e) ≤ 5 * bk_TRoutine e
  | ⟨mb, mt, nm, res, ps, vs, inner, body, e⟩ => by
    have a := mapN_size o ho nm
    have b := grow_list (mapA o) bk_TParam (grow_A o ho) ps
    have c := grow_list (mapV o) bk_TVar (grow_V o ho) vs
    have d := grow_Rs o ho inner
    have e := grow_Ss o ho body
    simp only [mapR, bk_TRoutine, bks_TParam_eq, bks_TVar_eq]
    omega
theorem grow_Rs (o : ByteArray → ByteArray) (ho : growO o) : ∀ l : List TRoutine, bks_TRoutine (mapRs o l) ≤ 5 * bks_TRoutine l
  | [] => Nat.zero_le _
  | x :: r => by
    have a := grow_R o ho x
    have b := grow_Rs o ho r
    simp only [mapRs, bks_TRoutine]
    omega
end
theorem grow_P (o : ByteArray → ByteArray) (ho : growO o) (v : TProgram) : bk_TProgram (mapP o v) ≤ 5 * bk_TProgram v := by
  obtain ⟨a1, a2, a3, a4, a5, a6, a7, a8, a9⟩ := v
  have a := mapN_size o ho a1
  have b := grow_list (mapC o) bk_TRec (grow_C o ho) a5
  have c := grow_list (mapV o) bk_TVar (grow_V o ho) a6
  have d := grow_Rs o ho a7
  have e := grow_Ss o ho a8
  simp only [mapP, bk_TProgram, bks_TRec_eq, bks_TVar_eq]
  omega
theorem pts_mem {s q : ByteArray} (h : q ∈ pts s) : q.size ≠ 0 ∧ q.size ≤ s.size := by
  obtain ⟨h1, h2⟩ := mem_pts.1 h
  exact ⟨h2, cutP_mem s q h1⟩
def okP (n : Nat) (q : ByteArray) : Prop := q.size ≠ 0 ∧ q.size ≤ n
theorem okP_mono {n m : Nat} {q : ByteArray} (h : okP n q) (hm : n ≤ m) : okP m q := ⟨h.1, Nat.le_trans h.2 hm⟩
theorem okP_pts {s q : ByteArray} {m : Nat} (h : q ∈ pts s) (hm : s.size ≤ m) : okP m q := okP_mono (pts_mem h) hm
theorem okP_list {α : Type} (nm : α → List ByteArray) (w : α → Nat) (h : ∀ x, ∀ q ∈ nm x, okP (w x) q) : ∀ l : List α, ∀ q ∈ l.flatMap nm, okP (l.map w).sum q
  | [], q, hq => by simp at hq
  | x :: r, q, hq => by
    simp only [List.flatMap_cons, List.mem_append] at hq
    simp only [List.map_cons, List.sum_cons]
    rcases hq with hq | hq
    · exact okP_mono (h x q hq) (by omega)
    · exact okP_mono (okP_list nm w h r q hq) (by omega)
mutual
theorem okP_E : ∀ e : TExpr, ∀ q ∈ nmE e, okP (bk_TExpr e) q
  | ⟨op, n, nm, f, l⟩, q, hq => by
    simp only [nmE, List.mem_append] at hq
    simp only [bk_TExpr]
    rcases hq with hq | hq | hq
    · exact okP_pts hq (by omega)
    · exact okP_pts hq (by omega)
    · exact okP_mono (okP_Es l q hq) (by omega)
theorem okP_Es : ∀ l : List TExpr, ∀ q ∈ nmEs l, okP (bks_TExpr l) q
  | [], q, hq => by simp [nmEs] at hq
  | x :: r, q, hq => by
    simp only [nmEs, List.mem_append] at hq
    simp only [bks_TExpr]
    rcases hq with hq | hq
    · exact okP_mono (okP_E x q hq) (by omega)
    · exact okP_mono (okP_Es r q hq) (by omega)
end
theorem okP_V (v : TVar) : ∀ q ∈ nmV v, okP (bk_TVar v) q := by
  obtain ⟨a1, a2, a3, a4, a5, a6⟩ := v
  intro q hq
  simp only [nmV, List.mem_append] at hq
  simp only [bk_TVar]
  rcases hq with hq | hq <;> exact okP_pts hq (by omega)
theorem okP_A (v : TParam) : ∀ q ∈ nmA v, okP (bk_TParam v) q := by
  obtain ⟨a1, a2, a3, a4, a5⟩ := v
  intro q hq
  simp only [nmA, List.mem_append] at hq
  simp only [bk_TParam]
  rcases hq with hq | hq <;> exact okP_pts hq (by omega)
theorem okP_F (v : TField) : ∀ q ∈ nmF v, okP (bk_TField v) q := by
  obtain ⟨a1, a2, a3, a4⟩ := v
  intro q hq
  simp only [nmF] at hq
  simp only [bk_TField]
  exact okP_pts hq (by omega)
theorem okP_C (v : TRec) : ∀ q ∈ nmC v, okP (bk_TRec v) q := by
  obtain ⟨a1, a2, a3, a4, a5⟩ := v
  intro q hq
  simp only [nmC, List.mem_append] at hq
  simp only [bk_TRec, bks_TField_eq]
  rcases hq with hq | hq
  · exact okP_pts hq (by omega)
  · exact okP_mono (okP_list nmF bk_TField okP_F a4 q hq) (by omega)
mutual
theorem okP_S : ∀ e : TStmt, ∀ q ∈ nmS e, okP (bk_TStmt e) q
  | ⟨mb, mt, op, nm, po, pn, pnm, pf, pl, E, down, more, body, els, e1, e2⟩, q, hq => by
    simp only [nmS, nmE, List.mem_append] at hq
    simp only [bk_TStmt]
    rcases hq with hq | (hq | hq | hq) | hq | hq | hq
    · exact okP_pts hq (by omega)
    · exact okP_pts hq (by omega)
    · exact okP_pts hq (by omega)
    · exact okP_mono (okP_Es pl q hq) (by omega)
    · exact okP_mono (okP_Es E q hq) (by omega)
    · exact okP_mono (okP_Ss body q hq) (by omega)
    · exact okP_mono (okP_Ss els q hq) (by omega)
theorem okP_Ss : ∀ l : List TStmt, ∀ q ∈ nmSs l, okP (bks_TStmt l) q
  | [], q, hq => by simp [nmSs] at hq
  | x :: r, q, hq => by
    simp only [nmSs, List.mem_append] at hq
    simp only [bks_TStmt]
    rcases hq with hq | hq
    · exact okP_mono (okP_S x q hq) (by omega)
    · exact okP_mono (okP_Ss r q hq) (by omega)
end
mutual
theorem okP_R : ∀ e : TRoutine, ∀ q ∈ nmR e, okP (bk_TRoutine e) q
  | ⟨mb, mt, nm, res, ps, vs, inner, body, e⟩, q, hq => by
    simp only [nmR, List.mem_append] at hq
    simp only [bk_TRoutine, bks_TParam_eq, bks_TVar_eq]
    rcases hq with hq | hq | hq | hq | hq
    · exact okP_pts hq (by omega)
    · exact okP_mono (okP_list nmA bk_TParam okP_A ps q hq) (by omega)
    · exact okP_mono (okP_list nmV bk_TVar okP_V vs q hq) (by omega)
    · exact okP_mono (okP_Rs inner q hq) (by omega)
    · exact okP_mono (okP_Ss body q hq) (by omega)
theorem okP_Rs : ∀ l : List TRoutine, ∀ q ∈ nmRs l, okP (bks_TRoutine l) q
  | [], q, hq => by simp [nmRs] at hq
  | x :: r, q, hq => by
    simp only [nmRs, List.mem_append] at hq
    simp only [bks_TRoutine]
    rcases hq with hq | hq
    · exact okP_mono (okP_R x q hq) (by omega)
    · exact okP_mono (okP_Rs r q hq) (by omega)
end
theorem okP_P (v : TProgram) : ∀ q ∈ nmP' v, okP (bk_TProgram v) q := by
  obtain ⟨a1, a2, a3, a4, a5, a6, a7, a8, a9⟩ := v
  intro q hq
  simp only [nmP', List.mem_append] at hq
  simp only [bk_TProgram, bks_TRec_eq, bks_TVar_eq]
  rcases hq with hq | hq | hq | hq | hq
  · exact okP_pts hq (by omega)
  · exact okP_mono (okP_list nmC bk_TRec okP_C a5 q hq) (by omega)
  · exact okP_mono (okP_list nmV bk_TVar okP_V a6 q hq) (by omega)
  · exact okP_mono (okP_Rs a7 q hq) (by omega)
  · exact okP_mono (okP_Ss a8 q hq) (by omega)
theorem any_mem (l : List ByteArray) (p : ByteArray) : (l.any fun z => z.toList == p.toList) = true ↔ p ∈ l := by
  simp only [List.any_eq_true, ba_dc]
  constructor
  · rintro ⟨z, hz, h⟩
    rw [(dc_iff _).1 h] at hz
    exact hz
  · intro h
    exact ⟨p, h, dc_true rfl⟩
theorem addN_mem {l : List ByteArray} {p q : ByteArray} : q ∈ addN l p ↔ q ∈ l ∨ q = p := by
  unfold addN
  split
  · rename_i h
    have := (any_mem l p).1 h
    constructor
    · exact .inl
    · rintro (h | rfl)
      · exact h
      · exact this
  · simp
theorem foldN_mem : ∀ (ps l : List ByteArray) (q : ByteArray), q ∈ ps.foldl addN l ↔ q ∈ l ∨ q ∈ ps
  | [], l, q => by simp
  | p :: r, l, q => by
    rw [List.foldl_cons, foldN_mem r, addN_mem, List.mem_cons, or_assoc]
theorem foldN_map (o : ByteArray → ByteArray) : ∀ (ps l : List ByteArray), (∀ a b, (a ∈ l ∨ a ∈ ps) → (b ∈ l ∨ b ∈ ps) → o a = o b → a = b) → (ps.map o).foldl addN (l.map o) = (ps.foldl addN l).map o
  | [], l, _ => rfl
  | p :: r, l, h => by
    have h1 : addN (l.map o) (o p) = (addN l p).map o := by
      unfold addN
      by_cases hp : p ∈ l
      · rw [if_pos ((any_mem _ _).2 (List.mem_map_of_mem hp)), if_pos ((any_mem _ _).2 hp)]
      · rw [if_neg (fun hx => ?_), if_neg (fun hx => hp ((any_mem _ _).1 hx)), List.map_append]
        · rfl
        · obtain ⟨z, hz, hzp⟩ := List.mem_map.1 ((any_mem _ _).1 hx)
          exact hp (h z p (.inl hz) (.inr List.mem_cons_self) hzp ▸ hz)
    rw [List.map_cons, List.foldl_cons, h1, foldN_map o r (addN l p) (fun a b ha hb hab => h a b ?_ ?_ hab), List.foldl_cons]
    · rw [addN_mem] at ha
      simp only [List.mem_cons]
      rcases ha with (ha | ha) | ha
      · exact .inl ha
      · exact .inr (.inl ha)
      · exact .inr (.inr ha)
    · rw [addN_mem] at hb
      simp only [List.mem_cons]
      rcases hb with (ha | ha) | ha
      · exact .inl ha
      · exact .inr (.inl ha)
      · exact .inr (.inr ha)
def digB (i : Nat) : ByteArray := if i < 10 then ⟨#[UInt8.ofNat (48 + i)]⟩ else if i < 100 then ⟨#[UInt8.ofNat (48 + i / 10), UInt8.ofNat (48 + i % 10)]⟩ else ⟨#[UInt8.ofNat (48 + i / 100), UInt8.ofNat (48 + i / 10 % 10), UInt8.ofNat (48 + i % 10)]⟩
def decB (s : ByteArray) : Nat := s.data.toList.foldl (fun a c => if c = 126 then a else a * 10 + (c.toNat - 48)) 0
end Go.Ev
end
section
set_option linter.unusedVariables false
namespace Go.Proofs.YtlepjafokfhnfaaDoor.Wd
open Go.RowKit Go.Proofs.YtlepjafokfhnfaaDoorW.PrintWords
def decB (n : Nat) : ByteArray := ⟨(Lib.decDigits n).toArray⟩
def val (l : List UInt8) : Nat := l.foldl (fun a b => a * 10 + (b.toNat - 48)) 0
theorem val_snoc (l : List UInt8) (b : UInt8) : val (l ++ [b]) = val l * 10 + (b.toNat - 48) := by simp [val]
theorem val_dec (n : Nat) : val (Lib.decDigits n) = n := by
  induction n using Nat.strongRecOn with
  | _ n ih =>
    rw [Lib.decDigits]
    by_cases h : n < 10
    · rw [dif_pos h]
      show 0 * 10 + ((UInt8.ofNat (48 + n)).toNat - 48) = n
      rw [UInt8.toNat_ofNat']; omega
    · rw [dif_neg h, val_snoc, ih (n / 10) (by omega), UInt8.toNat_ofNat']; omega
theorem dec_inj {a b : Nat} (h : decB a = decB b) : a = b := by
  have : Lib.decDigits a = Lib.decDigits b := by
    have h1 : (decB a).data.toList = (decB b).data.toList := by rw [h]
    simpa [decB] using h1
  rw [← val_dec a, ← val_dec b, this]
def base (s : ByteArray) : ByteArray := s.extract 0 (min s.size 24)
def name (s : ByteArray) : Nat → ByteArray
  | 0 => s
  | n + 1 => base s ++ ⟨#[95]⟩ ++ decB (n + 1)
theorem name_inj (s : ByteArray) {a b : Nat} (h : name s (a + 1) = name s (b + 1)) : a = b := by
  have h1 : (base s ++ ⟨#[95]⟩ ++ decB (a + 1)).data.toList = (base s ++ ⟨#[95]⟩ ++ decB (b + 1)).data.toList := by
    show (name s (a + 1)).data.toList = (name s (b + 1)).data.toList
    rw [h]
  have h2 : (decB (a + 1)).data.toList = (decB (b + 1)).data.toList := by
    simpa using h1
  have h3 : decB (a + 1) = decB (b + 1) := by
    apply ByteArray.ext
    exact Array.toList_inj.1 h2
  have := dec_inj h3
  omega
theorem no_bar (d : Int) : ∀ x ∈ lst d, (95 : UInt8) ∉ x.data.toList := by
  have h0 : ((lst 0).all fun x => !x.data.toList.contains 95) = true := by kernel_rfl
  have h1 : ((lst 1).all fun x => !x.data.toList.contains 95) = true := by kernel_rfl
  have key : ∀ l : List ByteArray, (l.all fun x => !x.data.toList.contains 95) = true → ∀ x ∈ l, (95 : UInt8) ∉ x.data.toList := by
    intro l h x hx hm
    have := List.all_eq_true.1 h x hx
    simp [hm] at this
  by_cases e0 : d = 0
  · subst e0; exact key _ h0
  · by_cases e1 : d = 1
    · subst e1; exact key _ h1
    · have hl : lst d = [] := by unfold lst; rw [if_neg e0, if_neg e1]
      rw [hl]; simp
theorem name_word (s : ByteArray) (n : Nat) (d : Int) : mem (lst d) (name s (n + 1)) = false := by
  cases h : mem (lst d) (name s (n + 1)) with
  | false => rfl
  | true => exact absurd (by simp [name]) (no_bar d _ ((mem_iff _ _).1 h))
def bad (taken : List ByteArray) (x : ByteArray) : Bool := mem (lst 0) x || mem (lst 1) x || mem taken x
theorem bad_name (taken : List ByteArray) (s : ByteArray) (n : Nat) : bad taken (name s (n + 1)) = mem taken (name s (n + 1)) := by
  simp [bad, name_word]
theorem length_le_of_sub {α : Type} : ∀ (l m : List α), l.Nodup → (∀ x ∈ l, x ∈ m) → l.length ≤ m.length
  | [], m, _, _ => by simp
  | a :: l, m, hn, hs => by
    obtain ⟨p, q, rfl⟩ := List.append_of_mem (hs a (by simp))
    have hn' := List.nodup_cons.1 hn
    have := length_le_of_sub l (p ++ q) hn'.2 (fun x hx => by
      have := hs x (by simp [hx])
      have hne : x ≠ a := fun e => hn'.1 (e ▸ hx)
      simpa [hne] using this)
    simp at this ⊢
    omega
theorem some_free (taken : List ByteArray) (s : ByteArray) : ∃ n, n ≤ taken.length + 1 ∧ bad taken (name s n) = false := by
  by_cases hex : ∃ n, n ≤ taken.length + 1 ∧ bad taken (name s n) = false
  · exact hex
  · exfalso
    have hall : ∀ n, n ≤ taken.length + 1 → bad taken (name s n) = true := by
      intro n hn
      cases h : bad taken (name s n) with
      | true => rfl
      | false => exact absurd ⟨n, hn, h⟩ hex
    have := length_le_of_sub ((List.range (taken.length + 1)).map fun n => name s (n + 1)) taken ?_ ?_
    · simp at this; omega
    · rw [List.nodup_iff_pairwise_ne, List.pairwise_map]
      refine List.Pairwise.imp ?_ (List.nodup_iff_pairwise_ne.1 List.nodup_range)
      intro a b hab e
      exact hab (name_inj s e)
    · intro x hx
      obtain ⟨n, hn, rfl⟩ := List.mem_map.1 hx
      have h1 := hall (n + 1) (by have := List.mem_range.1 hn; omega)
      rw [bad_name] at h1
      exact (mem_iff _ _).1 h1
def tries (taken : List ByteArray) (s : ByteArray) : Nat := (List.range (taken.length + 2)).findIdx fun n => !bad taken (name s n)
theorem tries_le (taken : List ByteArray) (s : ByteArray) : tries taken s ≤ taken.length + 1 := by
  obtain ⟨n, hn, hf⟩ := some_free taken s
  have : tries taken s < (List.range (taken.length + 2)).length := List.findIdx_lt_length_of_exists ⟨n, by rw [List.mem_range]; omega, by simp [hf]⟩
  rw [List.length_range] at this
  omega
theorem tries_free (taken : List ByteArray) (s : ByteArray) : bad taken (name s (tries taken s)) = false := by
  have hlt : tries taken s < (List.range (taken.length + 2)).length := by rw [List.length_range]; have := tries_le taken s; omega
  have := List.findIdx_getElem (xs := List.range (taken.length + 2)) (p := fun n => !bad taken (name s n)) (w := hlt)
  have h3 : (!bad taken (name s ((List.range (taken.length + 2))[tries taken s]'hlt))) = true := this
  rw [show (List.range (taken.length + 2))[tries taken s]'hlt = tries taken s from List.getElem_range _] at h3
  simpa using h3
theorem tries_bad (taken : List ByteArray) (s : ByteArray) (k : Nat) (hk : k < tries taken s) : bad taken (name s k) = true := by
  have := List.not_of_lt_findIdx (show k < (List.range (taken.length + 2)).findIdx (fun n => !bad taken (name s n)) from hk)
  rw [List.getElem_range] at this
  simpa using this
def fresh (s : ByteArray) (taken : List ByteArray) : ByteArray := name s (tries taken s)
end Go.Proofs.YtlepjafokfhnfaaDoor.Wd
end
section
open Go
namespace Go.Ev
open Go.Proofs.YtlepjafokfhnfaaDoor
set_option maxRecDepth 100000
set_option maxHeartbeats 4000000
set_option linter.unusedVariables false
set_option linter.unusedSimpArgs false
theorem index_ok (k : Nat) (l : List ByteArray) (x : ByteArray) (hk : l.length < k) (hm : l.length ≤ maxLen) : ∃ r : Int, (FF hFam (k + 1)).f_slices_Index_string (l, x, ()) = some r ∧ (decide (r ≥ 0)) = Wd.mem l x := by
  show ∃ r : Int, B_slices_Index_string (FF hFam k) k l x = some r ∧ _
  unfold B_slices_Index_string
  have key : ∀ j i, i ≤ l.length → l.length - i < j → ∃ r : Int, Lslices_Index_string_2 (FF hFam k) k l x j l x (l.length : Int) (i : Int) = some r ∧ (decide (r ≥ 0)) = Wd.mem (l.drop i) x := by
    refine up_ind l.length (fun j => ?_) (fun j i hi ih => ?_)
    · refine ⟨-1, ?_, ?_⟩
      · simp only [Lslices_Index_string_2]
        rw [if_neg (by simp)]
      · rw [List.drop_length]
        rfl
    · have hd := List.drop_eq_getElem_cons hi
      simp only [Lslices_Index_string_2]
      rw [if_pos (lt_dec hi), if_pos (by omega), if_pos (by omega), getD_at l i _ hi, wrap_succ hi hm, ba_beq]
      by_cases he : x = l[i]
      · refine ⟨(i : Int), by rw [if_pos (by simpa using he)], ?_⟩
        rw [hd]
        have h1 : Wd.mem (l[i] :: l.drop (i + 1)) x = true := by unfold Wd.mem; rw [List.any_cons, decide_eq_true he.symm, Bool.true_or]
        rw [h1]
        simp
      · rw [if_neg (by simpa using he)]
        obtain ⟨r, h1, h2⟩ := ih
        refine ⟨r, h1, ?_⟩
        rw [h2, hd]
        have h3 : decide (l[i] = x) = false := by simpa using fun e : l[i] = x => he e.symm
        simp only [Wd.mem, List.any_cons, h3, Bool.false_or]
  obtain ⟨r, h1, h2⟩ := key k 0 (Nat.zero_le _) (by omega)
  exact ⟨r, h1, by rw [h2, List.drop_zero]⟩
theorem contains_ok (k : Nat) (l : List ByteArray) (x : ByteArray) (hk : l.length < k) (hm : l.length ≤ maxLen) : (FF hFam (k + 2)).f_slices_Contains_string (l, x, ()) = some (Wd.mem l x) := by
  obtain ⟨r, h1, h2⟩ := index_ok k l x hk hm
  show B_slices_Contains_string (FF hFam (k + 1)) (k + 1) l x = _
  unfold B_slices_Contains_string
  rw [h1, Option.bind_some, h2]
theorem decB_dig (n : Nat) (h : n < 1000) : Wd.decB n = digB n := by
  unfold Wd.decB digB
  by_cases h1 : n < 10
  · rw [if_pos h1, Lib.decDigits_one h1]
  · rw [if_neg h1]
    by_cases h2 : n < 100
    · rw [if_pos h2, Lib.decDigits_two h1 h2]
    · rw [if_neg h2]
      have h3 : ¬ n / 10 < 10 := by omega
      rw [Lib.decDigits, dif_neg h1, Lib.decDigits_two h3 (by omega)]
      have e1 : n / 10 / 10 = n / 100 := by omega
      rw [e1]
      rfl
theorem decB_size (n : Nat) (h : n < 1000) : (Wd.decB n).size ≤ 3 := by
  rw [decB_dig n h]
  unfold digB
  split
  · exact Nat.le_of_ble_eq_true rfl
  · split
    · exact Nat.le_of_ble_eq_true rfl
    · exact Nat.le_of_ble_eq_true rfl
theorem itoa_at (k i : Nat) : (FF hFam (k + 1)).f_strconv_Itoa ((i : Int), ()) = if i ≤ 9223372036854775807 then some (Wd.decB i) else none := by
  show (if 0 ≤ (i : Int) ∧ (i : Int) ≤ 9223372036854775807 then some (itoaB i) else none) = _
  have e : itoaB (i : Int) = Wd.decB i := by
    unfold itoaB Wd.decB Lib.itoa
    rw [if_neg (by omega)]
    rfl
  rw [e]
  by_cases h : i ≤ 9223372036854775807
  · rw [if_pos h, if_pos (by omega)]
  · rw [if_neg h, if_neg (by omega)]
theorem base_small {s : ByteArray} (hs : s.size ≤ 24) : Wd.base s = s := by
  unfold Wd.base
  rw [Nat.min_eq_left hs]
  simp
theorem name_succ {s : ByteArray} (hs : s.size ≤ 24) (n : Nat) : Wd.name s (n + 1) = s ++ { data := #[95] : ByteArray } ++ Wd.decB (n + 1) := by
  show Wd.base s ++ ⟨#[95]⟩ ++ Wd.decB (n + 1) = _
  rw [base_small hs]
theorem s95 : ({ data := #[95] : ByteArray } : ByteArray).size = 1 := rfl
theorem Fresh_ok (k : Nat) (s : ByteArray) (taken : List ByteArray) (hs : s.size ≤ 24) (ht : taken.length ≤ 650) (hk : taken.length + 10 ≤ k) : (FF hFam (k + 3)).f_words_Fresh (s, taken, ()) = some (Wd.fresh s taken) := by
  have htr := Wd.tries_le taken s
  show B_words_Fresh (FF hFam (k + 2)) (k + 2) s taken = _
  unfold B_words_Fresh
  have key : ∀ j i, i ≤ Wd.tries taken s → Wd.tries taken s - i < j → Lwords_Fresh_3 (FF hFam (k + 2)) (k + 2) s taken j s taken (Wd.name s i) ((i + 1 : Nat) : Int) = some (Wd.fresh s taken) := by
    refine up_ind (Wd.tries taken s) (fun j => ?_) (fun j i hi ih => ?_)
    · have hf := Wd.tries_free taken s
      unfold Wd.bad at hf
      simp only [Bool.or_eq_false_iff] at hf
      obtain ⟨⟨h1, h2⟩, h3⟩ := hf
      have e1 : (FF hFam (k + 2)).f_words_Is (0, Wd.name s (Wd.tries taken s), ()) = some (Wd.mem (Wd.lst 0) (Wd.name s (Wd.tries taken s))) := rfl
      have e2 : (FF hFam (k + 2)).f_words_Is (1, Wd.name s (Wd.tries taken s), ()) = some (Wd.mem (Wd.lst 1) (Wd.name s (Wd.tries taken s))) := rfl
      simp only [Lwords_Fresh_3]
      rw [e1, Option.bind_some, if_pos h1, e2, Option.bind_some, h2, if_pos (by rfl), contains_ok k taken _ (by omega) (by simp only [maxLen]; omega), Option.bind_some, h3, if_neg (by simp)]
      rfl
    · have hb := Wd.tries_bad taken s i hi
      have hi' : i + 1 < 1000 := by omega
      have hdz := decB_size (i + 1) hi'
      have e1 : (FF hFam (k + 2)).f_words_Is (0, Wd.name s i, ()) = some (Wd.mem (Wd.lst 0) (Wd.name s i)) := rfl
      have e2 : (FF hFam (k + 2)).f_words_Is (1, Wd.name s i, ()) = some (Wd.mem (Wd.lst 1) (Wd.name s i)) := rfl
      have e3 := contains_ok k taken (Wd.name s i) (by omega) (by simp only [maxLen]; omega)
      have e4 : (if 24 < (s.size : Int) then 24 else (s.size : Int)) = (s.size : Int) := by rw [if_neg (by omega)]
      have e5 : (FF hFam (k + 2)).f_strconv_Itoa (((i + 1 : Nat) : Int), ()) = some (Wd.decB (i + 1)) := by rw [itoa_at (k + 1), if_pos (by omega)]
      have e6 : s.extract 0 s.size = s := by simp
      have hm1 : ¬ ((s.size + 1 : Nat) : Int) > IntKind.i64.max := by
        show ¬ ((s.size + 1 : Nat) : Int) > 9223372036854775807
        omega
      have hm2 : ¬ ((s.size + 1 + (Wd.decB (i + 1)).size : Nat) : Int) > IntKind.i64.max := by
        show ¬ ((s.size + 1 + (Wd.decB (i + 1)).size : Nat) : Int) > 9223372036854775807
        omega
      have ew : IntKind.i64.wrap (((i + 1 : Nat) : Int) + 1) = ((i + 1 + 1 : Nat) : Int) := wrap_succ (n := i + 2) (by omega) (by simp only [maxLen]; omega)
      rw [name_succ hs] at ih
      have tail : (if (↑0 : Int) ≤ (s.size : Int) then (if (s.size : Int) ≤ (s.size : Int) then (if ((s.extract (0 : Int).toNat ((s.size : Nat) : Int).toNat).size + ({ data := #[95] : ByteArray } : ByteArray).size : Nat) > IntKind.i64.max then none else
          (some (Wd.decB (i + 1))).bind fun t => if (((s.extract (0 : Int).toNat ((s.size : Nat) : Int).toNat ++ { data := #[95] : ByteArray }).size + ByteArray.size t : Nat) : Int) > IntKind.i64.max then none else
            Lwords_Fresh_3 (FF hFam (k + 2)) (k + 2) s taken j s taken (s.extract (0 : Int).toNat ((s.size : Nat) : Int).toNat ++ { data := #[95] : ByteArray } ++ t) (((i + 1 + 1 : Nat) : Int))) else none) else none) = some (Wd.fresh s taken) := by
        simp only [Int.toNat_natCast, Int.toNat_zero, e6, ByteArray.size_append, s95]
        rw [if_pos (by omega), if_pos (by omega), if_neg hm1, Option.bind_some, if_neg hm2]
        exact ih
      simp only [Lwords_Fresh_3, e4]
      rw [e1, Option.bind_some]
      unfold Wd.bad at hb
      by_cases h1 : Wd.mem (Wd.lst 0) (Wd.name s i) = true
      · rw [if_neg (by rw [h1]; simp), e5, ew]
        exact tail
      · have h1' := Bool.eq_false_iff.2 h1
        rw [if_pos h1', e2, Option.bind_some, e5, ew]
        by_cases h2 : Wd.mem (Wd.lst 1) (Wd.name s i) = true
        · rw [if_neg (by rw [h2]; simp)]
          exact tail
        · have h2' := Bool.eq_false_iff.2 h2
          rw [h1', h2', Bool.false_or, Bool.false_or] at hb
          rw [if_pos (by rw [h2']; rfl), e3, Option.bind_some, hb, if_pos (by rfl)]
          exact tail
  have := key (k + 2) 0 (Nat.zero_le _) (by omega)
  exact this
end Go.Ev
end
section
open Go
namespace Go.Ev
open Go.Proofs.YtlepjafokfhnfaaDoor
set_option maxRecDepth 100000
set_option maxHeartbeats 4000000
set_option linter.unusedVariables false
set_option linter.unusedSimpArgs false
def isW (d : Int) (n : ByteArray) : Bool := Wd.mem (Wd.lst d) n
def tblN (d : Int) : List ByteArray → List ByteArray → List TPair
  | [], _ => []
  | n :: r, taken => if isW d n = true then ⟨n, Wd.fresh n taken⟩ :: tblN d r (taken ++ [Wd.fresh n taken]) else tblN d r taken
theorem word_small {d : Int} {n : ByteArray} (h : isW d n = true) : n.size ≤ 12 ∧ 2 ≤ n.size := by
  have hm := (Wd.mem_iff _ _).1 h
  have h0 : ((Wd.lst 0).all fun x => Nat.ble x.size 12 && Nat.ble 2 x.size) = true := by kernel_rfl
  have h1 : ((Wd.lst 1).all fun x => Nat.ble x.size 12 && Nat.ble 2 x.size) = true := by kernel_rfl
  have key : ∀ l : List ByteArray, (l.all fun x => Nat.ble x.size 12 && Nat.ble 2 x.size) = true → ∀ x ∈ l, x.size ≤ 12 ∧ 2 ≤ x.size := fun l h x hx => by
    have := List.all_eq_true.1 h x hx
    simp only [Bool.and_eq_true] at this
    exact ⟨Nat.le_of_ble_eq_true this.1, Nat.le_of_ble_eq_true this.2⟩
  by_cases e0 : d = 0
  · subst e0; exact key _ h0 n hm
  · by_cases e1 : d = 1
    · subst e1; exact key _ h1 n hm
    · have hl : Wd.lst d = [] := by unfold Wd.lst; rw [if_neg e0, if_neg e1]
      rw [hl] at hm; simp at hm
theorem tblN_filter (d : Int) : ∀ (l taken : List ByteArray), tblN d (l.filter (isW d)) taken = tblN d l taken
  | [], _ => rfl
  | n :: r, taken => by
    by_cases h : isW d n = true
    · rw [List.filter_cons_of_pos h, tblN, tblN, if_pos h, if_pos h, tblN_filter d r]
    · rw [List.filter_cons_of_neg h, tblN, if_neg h, tblN_filter d r]
theorem addN_nodup {l : List ByteArray} (h : l.Nodup) (p : ByteArray) : (addN l p).Nodup := by
  unfold addN
  split
  · exact h
  · rename_i hn
    rw [List.nodup_append]
    refine ⟨h, by simp, fun a ha b hb e => ?_⟩
    simp at hb
    subst hb
    subst e
    exact hn ((any_mem l a).2 ha)
theorem foldN_nodup : ∀ (ps l : List ByteArray), l.Nodup → (ps.foldl addN l).Nodup
  | [], l, h => h
  | p :: r, l, h => by rw [List.foldl_cons]; exact foldN_nodup r _ (addN_nodup h p)
theorem clash_filter (d : Int) (l : List ByteArray) (h : l.Nodup) : Wd.clash (Wd.lst d) l = l.filter (isW d) := by
  have key : ∀ (l out : List ByteArray), l.Nodup → (∀ x ∈ l, x ∉ out) → l.foldl (Wd.step (Wd.lst d)) out = out ++ l.filter (isW d) := by
    intro l
    induction l with
    | nil => intro out _ _; simp
    | cons x r ih =>
      intro out hn ho
      have hn' := List.nodup_cons.1 hn
      rw [List.foldl_cons]
      have hx : Wd.mem out x = false := by
        cases hq : Wd.mem out x with
        | false => rfl
        | true => exact absurd ((Wd.mem_iff _ _).1 hq) (ho x List.mem_cons_self)
      by_cases hw : isW d x = true
      · have e : Wd.step (Wd.lst d) out x = out ++ [x] := by
          unfold Wd.step
          have hw' : Wd.mem (Wd.lst d) x = true := hw
          rw [hw', hx, if_pos (by rfl)]
        rw [e, ih _ hn'.2, List.filter_cons_of_pos hw, List.append_assoc]
        · rfl
        · intro y hy hyo
          rw [List.mem_append] at hyo
          rcases hyo with hyo | hyo
          · exact ho y (List.mem_cons_of_mem _ hy) hyo
          · simp at hyo
            subst hyo
            exact hn'.1 hy
      · have e : Wd.step (Wd.lst d) out x = out := by
          unfold Wd.step
          have hw' : Wd.mem (Wd.lst d) x = false := Bool.eq_false_iff.2 hw
          rw [hw', if_neg (by simp)]
        rw [e, ih _ hn'.2 (fun y hy => ho y (List.mem_cons_of_mem _ hy)), List.filter_cons_of_neg hw]
  have := key l [] h (by simp)
  simpa [Wd.clash] using this
def namesP (p : TProgram) : List ByteArray := (nmP' p).foldl addN []
theorem namesP_mem (p : TProgram) (q : ByteArray) : q ∈ namesP p ↔ q ∈ nmP' p := by unfold namesP; rw [foldN_mem]; simp
theorem namesP_nodup (p : TProgram) : (namesP p).Nodup := foldN_nodup _ _ List.nodup_nil
theorem namesP_size (p : TProgram) {q : ByteArray} (h : q ∈ namesP p) : q.size ≠ 0 ∧ q.size ≤ bk_TProgram p := okP_P p q ((namesP_mem p q).1 h)
theorem table_loop (k : Nat) (d : Int) (p : TProgram) (c : List ByteArray) (hc : ∀ x ∈ c, isW d x = true) (hl : c.length ≤ 300) (hk : 1000 ≤ k) :
    ∀ j i, i ≤ c.length → c.length - i < j → ∀ (taken : List ByteArray) (out : List TPair), taken.length ≤ 300 + i → out.length ≤ i → Lrename_Table_5 (FF hFam (k + 3)) (k + 3) d p j (c.length : Int) (i : Int) taken out c = some (out ++ tblN d (c.drop i) taken) := by
  refine up_ind c.length (fun j taken out ht ho => ?_) (fun j i hi ih taken out ht ho => ?_)
  · simp only [Lrename_Table_5]
    rw [if_neg (by simp), List.drop_length]
    simp [tblN]
  · have hd := List.drop_eq_getElem_cons hi
    have hw := hc c[i] (List.getElem_mem hi)
    simp only [Lrename_Table_5]
    rw [if_pos (lt_dec hi), if_pos (by omega), if_pos (by omega), getD_at c i _ hi, Fresh_ok k c[i] taken (by have := word_small hw; omega) (by omega) (by omega), Option.bind_some,
      if_pos (by simp only [List.length_append, List.length_singleton]; omega), if_pos (by simp only [List.length_append, List.length_singleton]; omega), wrap_succ hi (by simp only [maxLen]; omega),
      ih _ _ (by simp only [List.length_append, List.length_singleton]; omega) (by simp only [List.length_append, List.length_singleton]; omega), hd]
    rw [tblN, if_pos hw, List.append_assoc]
    rfl
def tblP (d : Int) (p : TProgram) : List TPair := tblN d (namesP p) (namesP p)
theorem Table_ok (k : Nat) (d : Int) (p : TProgram) (hb : bk_TProgram p ≤ 8388608) (hk : 3 * bk_TProgram p + 1030 ≤ k) (hl : (namesP p).length ≤ 300) : (FF hFam (k + 10)).f_rename_Table (d, p, ()) = some (tblP d p) := by
  show B_rename_Table (FF hFam (k + 9)) (k + 9) d p = _
  unfold B_rename_Table
  have e1 := tree_Names_ok k p hb (by omega)
  have e2 : (nmP' p).foldl addN [] = namesP p := rfl
  rw [e2] at e1
  have e3 : (FF hFam (k + 9)).f_words_Clash (d, namesP p, ()) = some ((namesP p).filter (isW d)) := by
    show (if (namesP p).length ≤ 1000 ∧ ((namesP p).all fun z => decide (z.size ≤ maxLen)) = true then some (Wd.clash (Wd.lst d) (namesP p)) else none) = _
    rw [if_pos ⟨by omega, List.all_eq_true.2 fun z hz => by have := (namesP_size p hz).2; simp only [maxLen]; exact decide_eq_true (by omega)⟩, clash_filter d _ (namesP_nodup p)]
  have hfl := List.length_filter_le (isW d) (namesP p)
  rw [e1, Option.bind_some, clone_ok (k + 9) _ (by omega), Option.bind_some, e3, Option.bind_some]
  have := table_loop (k + 6) d p ((namesP p).filter (isW d)) (fun x hx => (List.mem_filter.1 hx).2) (by omega) (by omega) (k + 9) 0 (Nat.zero_le _) (by omega) (namesP p) [] (by omega) (by simp)
  simp only [Int.ofNat_zero, List.drop_zero, List.nil_append] at this
  rw [tblN_filter] at this
  exact this
theorem TPair.eq_iff (x y : TPair) : x = y ↔ x.Old = y.Old ∧ x.New = y.New := by cases x; cases y; simp
end Go.Ev
end
section
open Go
namespace Go.Ev
open Go.Proofs.YtlepjafokfhnfaaDoor
set_option maxRecDepth 100000
set_option maxHeartbeats 4000000
set_option linter.unusedVariables false
set_option linter.unusedSimpArgs false
set_option linter.unusedSectionVars false
section
variable (o : ByteArray → ByteArray) (ho : ∀ q, o q = q)
include ho
theorem mapN_id (s : ByteArray) : mapN o s = s := by
  rw [mapN_join]
  have : (cutP s).map (mapPo o) = cutP s := by
    conv => rhs; rw [← List.map_id (cutP s)]
    refine List.map_congr_left fun p _ => ?_
    unfold mapPo
    split
    · rfl
    · exact ho p
  rw [this, joinD_cutP]
mutual
theorem mapE_id : ∀ e, mapE o e = e
  | ⟨op, n, nm, f, l⟩ => by simp only [mapE, mapN_id o ho, mapEs_id l]
theorem mapEs_id : ∀ l, mapEs o l = l
  | [] => rfl
  | x :: r => by simp only [mapEs, mapE_id x, mapEs_id r]
end
theorem map_id' {α : Type} (f : α → α) (h : ∀ x, f x = x) (l : List α) : l.map f = l := by
  conv => rhs; rw [← List.map_id l]
  exact List.map_congr_left fun x _ => h x
theorem mapV_id (v : TVar) : mapV o v = v := by cases v; simp only [mapV, mapN_id o ho]
theorem mapA_id (v : TParam) : mapA o v = v := by cases v; simp only [mapA, mapN_id o ho]
theorem mapF_id (v : TField) : mapF o v = v := by cases v; simp only [mapF, mapN_id o ho]
theorem mapC_id (v : TRec) : mapC o v = v := by cases v; simp only [mapC, mapN_id o ho, map_id' o ho _ (mapF_id o ho)]
mutual
theorem mapS_id : ∀ e, mapS o e = e
  | ⟨mb, mt, op, nm, po, pn, pnm, pf, pl, E, down, more, body, els, e1, e2⟩ => by simp only [mapS, mapN_id o ho, mapEs_id o ho, mapSs_id body, mapSs_id els]
theorem mapSs_id : ∀ l, mapSs o l = l
  | [] => rfl
  | x :: r => by simp only [mapSs, mapS_id x, mapSs_id r]
end
mutual
theorem mapR_id : ∀ e, mapR o e = e
  | ⟨mb, mt, nm, res, ps, vs, inner, body, e⟩ => by simp only [mapR, mapN_id o ho, mapSs_id o ho, map_id' o ho _ (mapA_id o ho), map_id' o ho _ (mapV_id o ho), mapRs_id inner]
theorem mapRs_id : ∀ l, mapRs o l = l
  | [] => rfl
  | x :: r => by simp only [mapRs, mapR_id x, mapRs_id r]
end
theorem mapP_id (p : TProgram) : mapP o p = p := by cases p; simp only [mapP, mapN_id o ho, mapSs_id o ho, mapRs_id o ho, map_id' o ho _ (mapC_id o ho), map_id' o ho _ (mapV_id o ho)]
end
section
variable (o : ByteArray → ByteArray) (ho : growO o)
include ho
theorem fit_N {s : ByteArray} (h : s.size ≤ 8388608) : (mapN o s).size ≤ maxLen := by
  have := mapN_size o ho s
  simp only [maxLen]
  omega
mutual
theorem fit_E : ∀ e, ft_TExpr e → bk_TExpr e ≤ 8388608 → ft_TExpr (mapE o e)
  | ⟨op, n, nm, f, l⟩, h, hb => by
    simp only [bk_TExpr] at hb
    simp only [ft_TExpr] at h
    simp only [mapE, ft_TExpr]
    exact ⟨h.1, h.2.1, fit_N o ho (by omega), fit_N o ho (by omega), by rw [mapEs_eq, List.length_map]; exact h.2.2.2.2.1, fit_Es l h.2.2.2.2.2 (by omega)⟩
theorem fit_Es : ∀ l, fts_TExpr l → bks_TExpr l ≤ 8388608 → fts_TExpr (mapEs o l)
  | [], h, hb => by simp only [mapEs, fts_TExpr]
  | x :: r, h, hb => by
    simp only [bks_TExpr] at hb
    simp only [fts_TExpr] at h
    simp only [mapEs, fts_TExpr]
    exact ⟨fit_E x h.1 (by omega), fit_Es r h.2 (by omega)⟩
end
theorem fit_V (v : TVar) (h : ft_TVar v) (hb : bk_TVar v ≤ 8388608) : ft_TVar (mapV o v) := by
  obtain ⟨a1, a2, a3, a4, a5, a6⟩ := v
  simp only [bk_TVar] at hb
  simp only [ft_TVar] at h
  simp only [mapV, ft_TVar]
  exact ⟨h.1, h.2.1, fit_N o ho (by omega), h.2.2.2.1, h.2.2.2.2.1, fit_N o ho (by omega)⟩
theorem fit_A (v : TParam) (h : ft_TParam v) (hb : bk_TParam v ≤ 8388608) : ft_TParam (mapA o v) := by
  obtain ⟨a1, a2, a3, a4, a5⟩ := v
  simp only [bk_TParam] at hb
  simp only [ft_TParam] at h
  simp only [mapA, ft_TParam]
  exact ⟨fit_N o ho (by omega), h.2.1, h.2.2.1, fit_N o ho (by omega), h.2.2.2.2⟩
theorem fit_F (v : TField) (h : ft_TField v) (hb : bk_TField v ≤ 8388608) : ft_TField (mapF o v) := by
  obtain ⟨a1, a2, a3, a4⟩ := v
  simp only [bk_TField] at hb
  simp only [ft_TField] at h
  simp only [mapF, ft_TField]
  exact ⟨h.1, h.2.1, fit_N o ho (by omega), h.2.2.2⟩
theorem fit_Vs : ∀ l : List TVar, fts_TVar l → bks_TVar l ≤ 8388608 → fts_TVar (l.map (mapV o))
  | [], h, hb => by simp only [List.map_nil, fts_TVar]
  | x :: r, h, hb => by
    simp only [bks_TVar] at hb
    simp only [fts_TVar] at h
    simp only [List.map_cons, fts_TVar]
    exact ⟨fit_V o ho x h.1 (by omega), fit_Vs r h.2 (by omega)⟩
theorem fit_As : ∀ l : List TParam, fts_TParam l → bks_TParam l ≤ 8388608 → fts_TParam (l.map (mapA o))
  | [], h, hb => by simp only [List.map_nil, fts_TParam]
  | x :: r, h, hb => by
    simp only [bks_TParam] at hb
    simp only [fts_TParam] at h
    simp only [List.map_cons, fts_TParam]
    exact ⟨fit_A o ho x h.1 (by omega), fit_As r h.2 (by omega)⟩
theorem fit_Fs : ∀ l : List TField, fts_TField l → bks_TField l ≤ 8388608 → fts_TField (l.map (mapF o))
  | [], h, hb => by simp only [List.map_nil, fts_TField]
  | x :: r, h, hb => by
    simp only [bks_TField] at hb
    simp only [fts_TField] at h
    simp only [List.map_cons, fts_TField]
    exact ⟨fit_F o ho x h.1 (by omega), fit_Fs r h.2 (by omega)⟩
theorem fit_C (v : TRec) (h : ft_TRec v) (hb : bk_TRec v ≤ 8388608) : ft_TRec (mapC o v) := by
  obtain ⟨a1, a2, a3, a4, a5⟩ := v
  simp only [bk_TRec] at hb
  simp only [ft_TRec] at h
  simp only [mapC, ft_TRec, List.length_map]
  exact ⟨h.1, h.2.1, fit_N o ho (by omega), ⟨h.2.2.2.1.1, fit_Fs o ho a4 h.2.2.2.1.2 (by omega)⟩, h.2.2.2.2⟩
theorem fit_Cs : ∀ l : List TRec, fts_TRec l → bks_TRec l ≤ 8388608 → fts_TRec (l.map (mapC o))
  | [], h, hb => by simp only [List.map_nil, fts_TRec]
  | x :: r, h, hb => by
    simp only [bks_TRec] at hb
    simp only [fts_TRec] at h
    simp only [List.map_cons, fts_TRec]
    exact ⟨fit_C o ho x h.1 (by omega), fit_Cs r h.2 (by omega)⟩
mutual
theorem fit_S : ∀ e, ft_TStmt e → bk_TStmt e ≤ 8388608 → ft_TStmt (mapS o e)
  | ⟨mb, mt, op, nm, po, pn, pnm, pf, pl, E, down, more, body, els, e1, e2⟩, h, hb => by
    simp only [bk_TStmt] at hb
    simp only [ft_TStmt] at h
    obtain ⟨h1, h2, h3, h4, h5, h6, h7, h8, h9, h10, h11, h12, h13, h14, h15, h16⟩ := h
    simp only [mapS, ft_TStmt]
    exact ⟨h1, h2, h3, fit_N o ho (by omega), h5, h6, fit_N o ho (by omega), fit_N o ho (by omega), ⟨by rw [mapEs_eq, List.length_map]; exact h9.1, fit_Es o ho pl h9.2 (by omega)⟩, ⟨by rw [mapEs_eq, List.length_map]; exact h10.1, fit_Es o ho E h10.2 (by omega)⟩, h11, h12,
      ⟨by rw [mapSs_eq, List.length_map]; exact h13.1, fit_Ss body h13.2 (by omega)⟩, ⟨by rw [mapSs_eq, List.length_map]; exact h14.1, fit_Ss els h14.2 (by omega)⟩, h15, h16⟩
theorem fit_Ss : ∀ l, fts_TStmt l → bks_TStmt l ≤ 8388608 → fts_TStmt (mapSs o l)
  | [], h, hb => by simp only [mapSs, fts_TStmt]
  | x :: r, h, hb => by
    simp only [bks_TStmt] at hb
    simp only [fts_TStmt] at h
    simp only [mapSs, fts_TStmt]
    exact ⟨fit_S x h.1 (by omega), fit_Ss r h.2 (by omega)⟩
end
mutual
theorem fit_R : ∀ e, ft_TRoutine e → bk_TRoutine e ≤ 8388608 → ft_TRoutine (mapR o e)
  | ⟨mb, mt, nm, res, ps, vs, inner, body, e⟩, h, hb => by
    simp only [bk_TRoutine] at hb
    simp only [ft_TRoutine] at h
    obtain ⟨h1, h2, h3, h4, h5, h6, h7, h8, h9⟩ := h
    simp only [mapR, ft_TRoutine, List.length_map]
    exact ⟨h1, h2, fit_N o ho (by omega), h4, ⟨h5.1, fit_As o ho ps h5.2 (by omega)⟩, ⟨h6.1, fit_Vs o ho vs h6.2 (by omega)⟩, ⟨by rw [mapRs_eq, List.length_map]; exact h7.1, fit_Rs inner h7.2 (by omega)⟩, ⟨by rw [mapSs_eq, List.length_map]; exact h8.1, fit_Ss o ho body h8.2 (by omega)⟩, h9⟩
theorem fit_Rs : ∀ l, fts_TRoutine l → bks_TRoutine l ≤ 8388608 → fts_TRoutine (mapRs o l)
  | [], h, hb => by simp only [mapRs, fts_TRoutine]
  | x :: r, h, hb => by
    simp only [bks_TRoutine] at hb
    simp only [fts_TRoutine] at h
    simp only [mapRs, fts_TRoutine]
    exact ⟨fit_R x h.1 (by omega), fit_Rs r h.2 (by omega)⟩
end
theorem fit_P (p : TProgram) (h : ft_TProgram p) (hb : bk_TProgram p ≤ 8388608) : ft_TProgram (mapP o p) := by
  obtain ⟨a1, a2, a3, a4, a5, a6, a7, a8, a9⟩ := p
  simp only [bk_TProgram] at hb
  simp only [ft_TProgram] at h
  obtain ⟨h1, h2, h3, h4, h5, h6, h7, h8, h9⟩ := h
  simp only [mapP, ft_TProgram, List.length_map]
  exact ⟨fit_N o ho (by omega), h2, h3, h4, ⟨h5.1, fit_Cs o ho a5 h5.2 (by omega)⟩, ⟨h6.1, fit_Vs o ho a6 h6.2 (by omega)⟩, ⟨by rw [mapRs_eq, List.length_map]; exact h7.1, fit_Rs o ho a7 h7.2 (by omega)⟩, ⟨by rw [mapSs_eq, List.length_map]; exact h8.1, fit_Ss o ho a8 h8.2 (by omega)⟩, h9⟩
end
section
variable {P : ByteArray → Prop} (hP : ∀ s q, q ∈ pts s → P q)
include hP
mutual
theorem all_E : ∀ e : TExpr, ∀ q ∈ nmE e, P q
  | ⟨op, n, nm, f, l⟩, q, hq => by
    simp only [nmE, List.mem_append] at hq
    rcases hq with hq | hq | hq
    · exact hP _ _ hq
    · exact hP _ _ hq
    · exact all_Es l q hq
theorem all_Es : ∀ l : List TExpr, ∀ q ∈ nmEs l, P q
  | [], q, hq => by simp [nmEs] at hq
  | x :: r, q, hq => by
    simp only [nmEs, List.mem_append] at hq
    rcases hq with hq | hq
    · exact all_E x q hq
    · exact all_Es r q hq
end
theorem all_list {α : Type} (nm : α → List ByteArray) (h : ∀ x, ∀ q ∈ nm x, P q) (l : List α) : ∀ q ∈ l.flatMap nm, P q := fun q hq => by
  obtain ⟨x, _, hx⟩ := List.mem_flatMap.1 hq
  exact h x q hx
theorem all_V (v : TVar) : ∀ q ∈ nmV v, P q := fun q hq => by
  simp only [nmV, List.mem_append] at hq
  rcases hq with hq | hq <;> exact hP _ _ hq
theorem all_A (v : TParam) : ∀ q ∈ nmA v, P q := fun q hq => by
  simp only [nmA, List.mem_append] at hq
  rcases hq with hq | hq <;> exact hP _ _ hq
theorem all_C (v : TRec) : ∀ q ∈ nmC v, P q := fun q hq => by
  simp only [nmC, List.mem_append] at hq
  rcases hq with hq | hq
  · exact hP _ _ hq
  · exact all_list hP nmF (fun x q hq => hP _ _ hq) _ q hq
mutual
theorem all_S : ∀ x : TStmt, ∀ q ∈ nmS x, P q
  | ⟨mb, mt, op, nm, po, pn, pnm, pf, pl, E, down, more, body, els, e1, e2⟩, q, hq => by
    simp only [nmS, List.mem_append] at hq
    rcases hq with hq | hq | hq | hq | hq
    · exact hP _ _ hq
    · exact all_E hP _ q hq
    · exact all_Es hP E q hq
    · exact all_Ss body q hq
    · exact all_Ss els q hq
theorem all_Ss : ∀ l : List TStmt, ∀ q ∈ nmSs l, P q
  | [], q, hq => by simp [nmSs] at hq
  | x :: r, q, hq => by
    simp only [nmSs, List.mem_append] at hq
    rcases hq with hq | hq
    · exact all_S x q hq
    · exact all_Ss r q hq
end
mutual
theorem all_R : ∀ x : TRoutine, ∀ q ∈ nmR x, P q
  | ⟨mb, mt, nm, res, ps, vs, inner, body, e⟩, q, hq => by
    simp only [nmR, List.mem_append] at hq
    rcases hq with hq | hq | hq | hq | hq
    · exact hP _ _ hq
    · exact all_list hP nmA (all_A hP) ps q hq
    · exact all_list hP nmV (all_V hP) vs q hq
    · exact all_Rs inner q hq
    · exact all_Ss hP body q hq
theorem all_Rs : ∀ l : List TRoutine, ∀ q ∈ nmRs l, P q
  | [], q, hq => by simp [nmRs] at hq
  | x :: r, q, hq => by
    simp only [nmRs, List.mem_append] at hq
    rcases hq with hq | hq
    · exact all_R x q hq
    · exact all_Rs r q hq
end
theorem all_P (p : TProgram) : ∀ q ∈ nmP' p, P q := fun q hq => by
  simp only [nmP', List.mem_append] at hq
  rcases hq with hq | hq | hq | hq | hq
  · exact hP _ _ hq
  · exact all_list hP nmC (all_C hP) _ q hq
  · exact all_list hP nmV (all_V hP) _ q hq
  · exact all_Rs hP _ q hq
  · exact all_Ss hP _ q hq
end
theorem dec_free (n : Nat) : ∀ c ∈ Lib.decDigits n, c ≠ 36 := by
  have dig : ∀ d, d < 10 → UInt8.ofNat (48 + d) ≠ 36 := by decide
  induction n using Nat.strongRecOn with
  | _ n ih =>
    rw [Lib.decDigits]
    by_cases h : n < 10
    · rw [dif_pos h]
      intro c hc
      simp only [List.mem_singleton] at hc
      subst hc
      exact dig n h
    · rw [dif_neg h]
      intro c hc
      rw [List.mem_append] at hc
      rcases hc with hc | hc
      · exact ih (n / 10) (by omega) c hc
      · simp only [List.mem_singleton] at hc
        subst hc
        exact dig _ (by omega)
theorem word_free {d : Int} {n : ByteArray} (h : isW d n = true) : freeB n := by
  have hm := (Wd.mem_iff _ _).1 h
  have h0 : ((Wd.lst 0).all fun x => x.data.toList.all fun c => c != 36) = true := by kernel_rfl
  have h1 : ((Wd.lst 1).all fun x => x.data.toList.all fun c => c != 36) = true := by kernel_rfl
  have key : ∀ l : List ByteArray, (l.all fun x => x.data.toList.all fun c => c != 36) = true → ∀ x ∈ l, freeB x := fun l h x hx c hc => by
    have := List.all_eq_true.1 (List.all_eq_true.1 h x hx) c hc
    simpa using this
  by_cases e0 : d = 0
  · subst e0; exact key _ h0 n hm
  · by_cases e1 : d = 1
    · subst e1; exact key _ h1 n hm
    · have hl : Wd.lst d = [] := by unfold Wd.lst; rw [if_neg e0, if_neg e1]
      rw [hl] at hm; simp at hm
theorem tblN_old (d : Int) : ∀ (l taken : List ByteArray), (tblN d l taken).map (·.Old) = l.filter (isW d)
  | [], _ => rfl
  | n :: r, taken => by
    by_cases h : isW d n = true
    · rw [List.filter_cons_of_pos h, tblN, if_pos h, List.map_cons, tblN_old d r]
    · rw [List.filter_cons_of_neg h, tblN, if_neg h, tblN_old d r]
theorem fresh_taken (n : ByteArray) (taken : List ByteArray) (h : n ∈ taken) : Wd.fresh n taken ∉ taken ∧ ∃ k, k ≤ taken.length ∧ Wd.fresh n taken = Wd.name n (k + 1) := by
  have hf := Wd.tries_free taken n
  have hle := Wd.tries_le taken n
  refine ⟨fun hm => ?_, ?_⟩
  · unfold Wd.bad at hf
    simp only [Bool.or_eq_false_iff] at hf
    have : Wd.mem taken (Wd.name n (Wd.tries taken n)) = true := (Wd.mem_iff _ _).2 hm
    rw [this] at hf
    exact absurd hf.2 (by simp)
  · rcases Nat.eq_zero_or_pos (Wd.tries taken n) with h0 | h0
    · exfalso
      rw [h0] at hf
      unfold Wd.bad at hf
      simp only [Bool.or_eq_false_iff] at hf
      have : Wd.mem taken (Wd.name n 0) = true := (Wd.mem_iff _ _).2 h
      rw [this] at hf
      exact absurd hf.2 (by simp)
    · refine ⟨Wd.tries taken n - 1, by omega, ?_⟩
      unfold Wd.fresh
      rw [show Wd.tries taken n - 1 + 1 = Wd.tries taken n by omega]
theorem tblN_props (d : Int) : ∀ (l taken : List ByteArray), (∀ x ∈ l, x ∈ taken) → (∀ q ∈ tblN d l taken, isW d q.Old = true ∧ q.Old ∈ l ∧ q.New ∉ taken ∧ ∃ k, k ≤ taken.length + l.length ∧ q.New = Wd.name q.Old (k + 1)) ∧ ((tblN d l taken).map (·.New)).Nodup
  | [], taken, _ => ⟨fun q hq => by simp [tblN] at hq, by simp [tblN]⟩
  | n :: r, taken, hs => by
    by_cases h : isW d n = true
    · rw [tblN, if_pos h]
      obtain ⟨hf, k, hk, hn⟩ := fresh_taken n taken (hs n List.mem_cons_self)
      obtain ⟨i1, i2⟩ := tblN_props d r (taken ++ [Wd.fresh n taken]) fun x hx => List.mem_append_left _ (hs x (List.mem_cons_of_mem _ hx))
      refine ⟨fun q hq => ?_, ?_⟩
      · rcases List.mem_cons.1 hq with rfl | hq
        · exact ⟨h, List.mem_cons_self, hf, k, by omega, hn⟩
        · obtain ⟨a1, a2, a3, k', hk', a4⟩ := i1 q hq
          refine ⟨a1, List.mem_cons_of_mem _ a2, fun hm => a3 (List.mem_append_left _ hm), k', ?_, a4⟩
          simp only [List.length_append, List.length_cons, List.length_nil] at hk' ⊢
          omega
      · rw [List.map_cons, List.nodup_cons]
        refine ⟨fun hm => ?_, i2⟩
        obtain ⟨q, hq, he⟩ := List.mem_map.1 hm
        have he : q.New = Wd.fresh n taken := he
        exact (i1 q hq).2.2.1 (by rw [he]; simp)
    · rw [tblN, if_neg h]
      obtain ⟨i1, i2⟩ := tblN_props d r taken fun x hx => hs x (List.mem_cons_of_mem _ hx)
      refine ⟨fun q hq => ?_, i2⟩
      obtain ⟨a1, a2, a3, k', hk', a4⟩ := i1 q hq
      exact ⟨a1, List.mem_cons_of_mem _ a2, a3, k', by simp only [List.length_cons]; omega, a4⟩
def newO (d : Int) (p : TProgram) : ByteArray → ByteArray := outT (.ren (tblP d p))
theorem newO_word {d : Int} {p : TProgram} {n : ByteArray} (hn : n ∈ namesP p) (h : isW d n = true) : ∃ q ∈ tblP d p, q.Old = n ∧ newO d p n = q.New := by
  have hm : n ∈ (tblP d p).map (·.Old) := by unfold tblP; rw [tblN_old]; exact List.mem_filter.2 ⟨hn, h⟩
  obtain ⟨q, hq, he⟩ := List.mem_map.1 hm
  unfold newO
  simp only [outT]
  split
  · rename_i q' hq'
    have h1 := List.mem_of_find?_eq_some hq'
    have h2 := List.find?_some hq'
    rw [ba_dc] at h2
    exact ⟨q', h1, (dc_iff _).1 h2, rfl⟩
  · rename_i hnone
    have := List.find?_eq_none.1 hnone q hq
    rw [ba_dc] at this
    exact absurd (dc_true he) this
theorem newO_not {d : Int} {p : TProgram} {n : ByteArray} (h : ¬ isW d n = true) : newO d p n = n := by
  unfold newO
  simp only [outT]
  split
  · rename_i q hq
    have h1 := List.mem_of_find?_eq_some hq
    have h2 := List.find?_some hq
    rw [ba_dc] at h2
    have h3 := (dc_iff _).1 h2
    have h4 := ((tblN_props d (namesP p) (namesP p) fun _ h => h).1 q h1).1
    rw [h3] at h4
    exact absurd h4 h
  · rfl
theorem newO_out {d : Int} {p : TProgram} {n : ByteArray} (hn : n ∉ namesP p) : newO d p n = n := by
  unfold newO
  simp only [outT]
  split
  · rename_i q hq
    have h1 := List.mem_of_find?_eq_some hq
    have h2 := List.find?_some hq
    rw [ba_dc] at h2
    have h3 := (dc_iff _).1 h2
    have h4 := ((tblN_props d (namesP p) (namesP p) fun _ h => h).1 q h1).2.1
    rw [h3] at h4
    exact absurd h4 hn
  · rfl
section
variable {d : Int} {p : TProgram} (hl : (namesP p).length ≤ 300)
include hl
theorem pair_props {q : TPair} (hq : q ∈ tblP d p) : isW d q.Old = true ∧ q.Old ∈ namesP p ∧ q.New ∉ namesP p ∧ (∀ e, isW e q.New = false) ∧ freeB q.New ∧ q.New.size ≤ q.Old.size + 4 ∧ q.New.size ≠ 0 ∧ q.New ≠ q.Old := by
  obtain ⟨h1, h2, h3, k, hk, h4⟩ := (tblN_props d (namesP p) (namesP p) fun _ h => h).1 q hq
  have hs := word_small h1
  have hnm := name_succ (s := q.Old) (by omega) k
  have hdz := decB_size (k + 1) (by omega)
  refine ⟨h1, h2, h3, fun e => by rw [h4]; exact Wd.name_word q.Old k e, ?_, ?_, ?_, fun e => h3 (e ▸ h2)⟩
  · rw [h4, hnm]
    intro c hc
    simp only [ByteArray.data_append, Array.toList_append, List.mem_append] at hc
    rcases hc with (hc | hc) | hc
    · exact word_free h1 c hc
    · simp at hc; subst hc; decide
    · exact dec_free (k + 1) c (by simpa [Wd.decB] using hc)
  · rw [h4, hnm]
    simp only [ByteArray.size_append, s95]
    omega
  · rw [h4, hnm]
    simp only [ByteArray.size_append, s95]
    omega
theorem newO_grow : growO (newO d p) := fun n => by
  by_cases hn : n ∈ namesP p
  · by_cases h : isW d n = true
    · obtain ⟨q, hq, rfl, he⟩ := newO_word hn h
      have := (pair_props hl hq).2.2.2.2.2.1
      have := word_small h
      rw [he]
      omega
    · rw [newO_not h]
      omega
  · rw [newO_out hn]
    omega
theorem newO_good : ∀ q ∈ nmP' p, goodO (newO d p) q := fun n hn => by
  have hfree : freeB n := all_P (P := freeB) (fun s q hq => cutP_free s q (mem_pts.1 hq).1) p n hn
  have hz := (okP_P p n hn).1
  unfold goodO
  by_cases h : isW d n = true
  · obtain ⟨q, hq, rfl, he⟩ := newO_word ((namesP_mem p n).2 hn) h
    have := pair_props hl hq
    rw [he]
    exact ⟨this.2.2.2.2.1, this.2.2.2.2.2.2.1⟩
  · rw [newO_not h]
    exact ⟨hfree, hz⟩
theorem nodup_inj {α β : Type} (f : α → β) : ∀ (l : List α), (l.map f).Nodup → ∀ a ∈ l, ∀ b ∈ l, f a = f b → a = b
  | [], _, a, ha, _, _, _ => by simp at ha
  | x :: r, h, a, ha, b, hb, e => by
    rw [List.map_cons, List.nodup_cons] at h
    rcases List.mem_cons.1 ha with h1 | h1
    · rcases List.mem_cons.1 hb with h2 | h2
      · rw [h1, h2]
      · exact absurd (List.mem_map.2 ⟨b, h2, by rw [← e, h1]⟩) h.1
    · rcases List.mem_cons.1 hb with h2 | h2
      · exact absurd (List.mem_map.2 ⟨a, h1, by rw [e, h2]⟩) h.1
      · exact nodup_inj f r h.2 a h1 b h2 e
theorem newO_inj {a b : ByteArray} (ha : a ∈ namesP p) (hb : b ∈ namesP p) (h : newO d p a = newO d p b) : a = b := by
  have hnd := (tblN_props d (namesP p) (namesP p) fun _ h => h).2
  by_cases h1 : isW d a = true
  · obtain ⟨q, hq, rfl, he⟩ := newO_word ha h1
    have hp := pair_props hl hq
    by_cases h2 : isW d b = true
    · obtain ⟨q', hq', rfl, he'⟩ := newO_word hb h2
      rw [he, he'] at h
      rw [nodup_inj hl (·.New) _ hnd q hq q' hq' h]
    · rw [he, newO_not h2] at h
      exact absurd (h ▸ hb) hp.2.2.1
  · by_cases h2 : isW d b = true
    · obtain ⟨q', hq', rfl, he'⟩ := newO_word hb h2
      rw [he', newO_not h1] at h
      exact absurd (h ▸ ha) (pair_props hl hq').2.2.1
    · rw [newO_not h1, newO_not h2] at h
      exact h
theorem newO_free {a : ByteArray} (ha : a ∈ namesP p) : isW d (newO d p a) = false := by
  by_cases h1 : isW d a = true
  · obtain ⟨q, hq, rfl, he⟩ := newO_word ha h1
    rw [he]
    exact (pair_props hl hq).2.2.2.1 d
  · rw [newO_not h1]
    exact Bool.eq_false_iff.2 h1
theorem namesP_new : namesP (mapP (newO d p) p) = (namesP p).map (newO d p) := by
  obtain ⟨t1, _⟩ := there_P (newO d p) (newO d p) p (newO_good hl)
  have e3 := foldN_map (newO d p) (nmP' p) [] (fun a b ha hb hab => newO_inj hl ((namesP_mem p a).2 (ha.resolve_left (by simp))) ((namesP_mem p b).2 (hb.resolve_left (by simp))) hab)
  rw [List.map_nil, ← t1] at e3
  exact e3
theorem tblP_room (n : Nat) : roomT (.ren (tblP d p)) n := fun q hq => by
  have h := pair_props hl hq
  have := word_small h.1
  omega
theorem Apply_ok (k : Nat) (hb : bk_TProgram p ≤ 8388608) (hk : 3 * bk_TProgram p + 1030 ≤ k) : (FF hFam (k + 11)).f_rename_Apply (d, p, ()) = some (mapP (newO d p) p, tblP d p, ()) := by
  show B_rename_Apply (FF hFam (k + 10)) (k + 10) d p = _
  unfold B_rename_Apply
  rw [Table_ok k d p hb hk hl, Option.bind_some]
  have e : (FF hFam (k + 10)).f_tree_Rename (p, tblP d p, ()) = some (mapP (newO d p) p) := by
    show B_tree_Rename (FF hFam (k + 9)) (k + 9) p (tblP d p) = _
    unfold B_tree_Rename
    rw [mprog_ok (k + 1) (.ren (tblP d p)) p (tblP_room hl _) hb (by omega)]
    rfl
  rw [e]
  rfl
end
end Go.Ev
end
section
open Go
namespace Go.Ev
open Go.Proofs.YtlepjafokfhnfaaDoor
set_option maxRecDepth 100000
set_option maxHeartbeats 4000000
set_option linter.unusedVariables false
set_option linter.unusedSimpArgs false
set_option linter.unusedSectionVars false
theorem tbl_free {d : Int} {p : TProgram} (h : ∀ n ∈ namesP p, isW d n = false) : tblP d p = [] := by
  have h1 := tblN_old d (namesP p) (namesP p)
  rw [List.filter_eq_nil_iff.2 (fun n hn => by rw [h n hn]; simp)] at h1
  exact List.map_eq_nil_iff.1 h1
theorem newO_id {d : Int} {p : TProgram} (h : tblP d p = []) : ∀ q, newO d p q = q := fun q => by unfold newO; rw [h]; rfl
section
variable {d : Int} {p : TProgram} (hl : (namesP p).length ≤ 300)
include hl
theorem free_new : ∀ n ∈ namesP (mapP (newO d p) p), isW d n = false := fun n hn => by
  rw [namesP_new hl] at hn
  obtain ⟨m, hm, rfl⟩ := List.mem_map.1 hn
  exact newO_free hl hm
theorem len_new : (namesP (mapP (newO d p) p)).length = (namesP p).length := by rw [namesP_new hl, List.length_map]
end
theorem RenameTwice_ok (k : Nat) (d : Int) (p : TProgram) (fp : ft_TProgram p) (hb : bk_TProgram p ≤ 1048576) (hk : 30000000 ≤ k) (aw : (FF hFam (k + 11)).f_w16_awake () = some true) : (FF hFam (k + 12)).f_w16_RenameTwice (d, p, ()) = some true := by
  show B_w16_RenameTwice (FF hFam (k + 11)) (k + 11) d p = _
  unfold B_w16_RenameTwice
  have e1 := r07_Names_ok (k + 7) p (by omega) (by omega)
  have e2 : (nmP' p).foldl addN [] = namesP p := rfl
  rw [e2] at e1
  rw [e1, Option.bind_some]
  by_cases hl : (namesP p).length ≤ 300
  · have hlf : decide (((namesP p).length : Int) > 300) = false := by simpa using (by omega : ((namesP p).length : Int) ≤ 300)
    have hg := newO_grow (d := d) hl
    have hbq := grow_P (newO d p) hg p
    have hfq := fit_P (newO d p) hg p fp (by omega)
    have hA := Apply_ok (d := d) hl k (by omega) (by omega)
    have hnil := tbl_free (free_new (d := d) hl)
    have hA2 := Apply_ok (d := d) (p := mapP (newO d p) p) (by rw [len_new hl]; exact hl) k (by omega) (by omega)
    rw [mapP_id _ (newO_id hnil), hnil] at hA2
    have hS := r07_Same_ok hFam (k + 5) (mapP (newO d p) p) (mapP (newO d p) p) hfq (by omega)
    rw [dc_true rfl] at hS
    rw [if_neg (by rw [hlf]; simp), hA, Option.bind_some, hA2, Option.bind_some, if_pos (by rfl), hS, Option.bind_some, if_pos (by rfl), aw]
    rfl
  · have hlf : decide (((namesP p).length : Int) > 300) = true := by simpa using (by omega : ((namesP p).length : Int) > 300)
    rw [if_pos hlf, aw]
    rfl
theorem any_take {α : Type} (f : α → Bool) (l : List α) (i : Nat) (hi : i < l.length) : (l.take (i + 1)).any f = ((l.take i).any f || f l[i]) := by
  rw [List.take_succ_eq_append_getElem hi, List.any_append]
  simp
theorem RenameNone_ok (k : Nat) (d : Int) (p : TProgram) (fp : ft_TProgram p) (hb : bk_TProgram p ≤ 1048576) (hk : 30000000 ≤ k) (aw : (FF hFam (k + 11)).f_w16_awake () = some true) : (FF hFam (k + 12)).f_w16_RenameNone (d, p, ()) = some true := by
  show B_w16_RenameNone (FF hFam (k + 11)) (k + 11) d p = _
  unfold B_w16_RenameNone
  have e1 := r07_Names_ok (k + 7) p (by omega) (by omega)
  have e2 : (nmP' p).foldl addN [] = namesP p := rfl
  rw [e2] at e1
  rw [e1, Option.bind_some]
  by_cases hl : (namesP p).length ≤ 300
  · have hlf : decide (((namesP p).length : Int) > 300) = false := by simpa using (by omega : ((namesP p).length : Int) ≤ 300)
    have hA := Apply_ok (d := d) hl k (by omega) (by omega)
    have hP : ({ Name := p.Name, Before := p.Before, Mid := p.Mid, After := p.After, Recs := p.Recs, Vars := p.Vars, Routines := p.Routines, Body := p.Body, End := p.End } : TProgram) = p := by cases p; rfl
    have hlen : decide (((tblP d p).length : Int) > 0) = (namesP p).any (isW d) := by
      have h1 := congrArg List.length (tblN_old d (namesP p) (namesP p))
      rw [List.length_map] at h1
      cases ha : (namesP p).any (isW d) with
      | true =>
        obtain ⟨n, hn, hw⟩ := List.any_eq_true.1 ha
        have : 0 < ((namesP p).filter (isW d)).length := List.length_pos_of_mem (List.mem_filter.2 ⟨hn, hw⟩)
        have h2 : 0 < (tblP d p).length := by unfold tblP; omega
        simpa using h2
      | false =>
        rw [List.any_eq_false] at ha
        rw [List.filter_eq_nil_iff.2 (fun n hn => ha n hn)] at h1
        have h2 : (tblP d p).length = 0 := h1
        rw [h2]
        rfl
    have key : ∀ j i, i ≤ (namesP p).length → (namesP p).length - i < j → Lw16_RenameNone_6 (FF hFam (k + 11)) (k + 11) d p j d (namesP p) (((namesP p).take i).any (isW d)) (i : Int) p.Name p.Before p.Mid p.After p.Recs p.Vars p.Routines p.Body p.End = some true := by
      refine up_ind (namesP p).length (fun j => ?_) (fun j i hi ih => ?_)
      · simp only [Lw16_RenameNone_6]
        rw [if_neg (by simp), hP, hA, Option.bind_some, hlen, List.take_length, if_pos (by simp)]
        cases ha : (namesP p).any (isW d) with
        | true =>
          rw [if_neg (by simp), aw]
          rfl
        | false =>
          rw [List.any_eq_false] at ha
          have hnil := tbl_free (d := d) (p := p) (fun n hn => Bool.eq_false_iff.2 (ha n hn))
          have hS := r07_Same_ok hFam (k + 5) p p fp (by omega)
          rw [dc_true rfl] at hS
          rw [if_pos rfl, mapP_id _ (newO_id hnil), hS, Option.bind_some, if_pos (by rfl), aw]
          rfl
      · rw [any_take (isW d) (namesP p) i hi] at ih
        simp only [Lw16_RenameNone_6]
        rw [if_pos (lt_dec hi), wrap_succ hi (by simp only [maxLen]; omega)]
        cases ha : ((namesP p).take i).any (isW d) with
        | true =>
          rw [ha, Bool.true_or] at ih
          rw [if_neg (by simp)]
          exact ih
        | false =>
          rw [ha, Bool.false_or] at ih
          rw [if_pos rfl, if_pos (by omega), if_pos (by omega), getD_at (namesP p) i _ hi, r04_Is_ok (k + 9) d (namesP p)[i] (by omega), Option.bind_some, Bool.false_or]
          exact ih
    rw [if_neg (by rw [hlf]; simp)]
    exact key (k + 11) 0 (Nat.zero_le _) (by omega)
  · have hlf : decide (((namesP p).length : Int) > 300) = true := by simpa using (by omega : ((namesP p).length : Int) > 300)
    rw [if_pos hlf, aw]
    rfl
end Go.Ev
end
section
open Go Go.Proofs
namespace Go.Ev
open Go.RowKit Go.Proofs.YtlepjafokfhnfaaDoor
set_option linter.unusedVariables false
set_option maxHeartbeats 4000000
set_option maxRecDepth 100000
section
variable {H : Type} {enc : TypeId × Value → H} {W : World} {base : Nat} {spare : Nat → Bool} {held : Bool}
theorem sp_renameNone (s : Fam) : sp s 5 = ansOf c_w16_RenameNone rc_w16_RenameNone.enc s.f_w16_RenameNone := by kernel_rfl
theorem renameNone (n0 : Int) {v1 : Value} {d1 : DataW H} {p1 : List MemPlace} (h1 : DataW.Trod enc Tryd.prog W base spare held 28 v1 d1 p1) (hb1 : Rows.uptoBulk d1 ≤ 1048576) (hi : EE.inv W) : Calls Tryd.prog 5 #[.int .i64 n0, v1] W fun e W' => e = .returned (.bool true) ∧ Below W.heap.size W W' := by
  obtain ⟨_, x1, _, fx1, bx1, rx1⟩ := read_progB h1
  refine call_law (s := FF hFam (30000001 + 12)) (by decide) (specs hand _) (avs := c_w16_RenameNone.enc (n0, x1, ())) ?_ (.cons _ _ _ _ [] [] [] [] (.c _ _ _ _ (.d _ _ (.lit _ rfl))) (.cons _ _ _ _ [] [] [] [] rx1 .nil)) hi
  rw [sp_renameNone]
  exact ans_run _ _ _ (x := (n0, x1, ())) rfl (by exact RenameNone_ok 30000001 n0 x1 fx1 (by omega) (by omega) (awake_ok 30000000))
end
end Go.Ev
end
section
set_option linter.unusedVariables false
namespace Go.Ev.renameNone
open Go Go.Proofs Go.ChangeShapes Go.WideShapes Go.ChangeAt Go.RowKit Go.Proofs.YtlepjafokfhnfaaDoor
theorem own : ownKnob Tryd.prog.godebug = none := by kernel_rfl
theorem laidOut : laidOutB Tryd.prog = true := by kernel_rfl
theorem reads (os : Os) {H : Type} (enc : TypeId × Value → H) : ∃ places, DataW.whole enc Tryd.prog ((World.laidAll Tryd.prog os laidL).forCall (fun _ _ => 0) ⟨#[], #[.int .i64 0, .agg #[.string ⟨#[]⟩, .slice none 0 0, .slice none 0 0, .slice none 0 0, .slice none 0 0, .slice none 0 0, .slice none 0 0, .slice none 0 0, .slice none 0 0]], []⟩).memory Tryd.f5.params.toList Rows.renameNoneSpec.vars false #[Value.int .i64 0, .agg #[.string ⟨#[]⟩, .slice none 0 0, .slice none 0 0, .slice none 0 0, .slice none 0 0, .slice none 0 0, .slice none 0 0, .slice none 0 0, .slice none 0 0]].toList 8 = some ([.lit (.int .i64 0), .agg [.lit (.string []), .nil, .nil, .nil, .nil, .nil, .nil, .nil, .nil]], [], places) :=
  ⟨[], by kernel_rfl⟩
set_option maxRecDepth 100000 in
theorem lifted (os : Os) (started : os.Started) (H : Type) (enc : TypeId × Value → H) (F : Stop.Interp) :
    ReturnsInHanded {} Tryd.checked os 5 .any ((Rows.OpenSpec.upto Rows.renameNoneSpec).preRow enc Tryd.prog Tryd.f5 Rows.renameNoneUptoRow.domain false Rows.renameNoneUptoRow.laid) (((Rows.OpenSpec.upto Rows.renameNoneSpec).at F).post enc Tryd.prog Tryd.f5 false true false false) := by
  obtain ⟨places, hx⟩ := reads os enc
  refine returnsInHanded_of_row (C := Tryd.checked) (s := Rows.OpenSpec.upto Rows.renameNoneSpec) own started (by kernel_rfl) Tryd.func5
    ⟨World.laidAll Tryd.prog os laidL, fun _ _ => 0, ⟨#[], #[.int .i64 0, .agg #[.string ⟨#[]⟩, .slice none 0 0, .slice none 0 0, .slice none 0 0, .slice none 0 0, .slice none 0 0, .slice none 0 0, .slice none 0 0, .slice none 0 0]], []⟩, World.laidAll_os _ _ _, World.shaped_of_ZipB (by kernel_rfl) (by kernel_rfl), rfl, (Input.okWide_of_okWideB (by kernel_rfl)).2,
      OpenSpec.preRow_of_cond 8 hx (by kernel_rfl) (fun k hk => by cases hk; kernel_rfl) (by kernel_rfl) (by show laidMetH Tryd.prog laidL _; rw [MakeChecks.laidMetH_plain _ _ _ (by kernel_rfl)]; exact laidMet_laidAll _ (by kernel_rfl) (by kernel_rfl)), by
        simp only [Assume.holds]
        exact ⟨by simp, by simp, fun _ => Modest.zero, by simp, by simp⟩⟩ ?_
  intro W base args ds gs before hval hW _ hcond _ hlaid hsh _
  have hL : EE.inv W := of_laid hlaid hsh
  have hW' := hW
  obtain ⟨p, q, hA0, hV, rfl, hfz, hnd⟩ := hW
  have hA : DataW.TrodAll enc Tryd.prog W 0 (fun _ => true) true Tryd.f5.params.toList args.toList ds p := hA0
  rw [Tryd.params5] at hA hval
  obtain ⟨v0, vs0, d0, ds0, p0, q0, hargs, rfl, rfl, h0, r0⟩ := trodAll_cons hA
  obtain ⟨v1, vs1, d1, ds1, p1, q1, rfl, rfl, rfl, h1, r1⟩ := trodAll_cons r0
  obtain ⟨rfl, rfl, rfl⟩ := trodAll_nil r1
  obtain rfl : args = #[v0, v1] := by cases args; simp_all
  obtain ⟨rfl, rfl⟩ := trodVars_none hV
  have hbulk := hcond _ rfl
  simp only [Rows.uptoSmall, decide_eq_true_eq, List.append_nil, List.cons_append, List.nil_append, bulkAll_eq, List.map_cons, List.map_nil, List.sum_cons, List.sum_nil] at hbulk
  have lt0 : ∀ x ∈ p0, x.block < W.heap.size := by obtain ⟨m, hm⟩ := h0; exact DataW.trod_lt m _ _ _ hm
  have lt1 : ∀ x ∈ p1, x.block < W.heap.size := by obtain ⟨m, hm⟩ := h1; exact DataW.trod_lt m _ _ _ hm
  obtain ⟨n0, e0, _, _, _⟩ := open_int Tryd.underlying3 (hval 0 3 v0 rfl rfl) h0
  have hcall : Calls Tryd.prog 5 #[v0, v1] W fun e W' => e = .returned (.bool true) ∧ Below W.heap.size W W' := by
    rw [e0]
    exact Go.Ev.renameNone n0 h1 (by omega) hL
  refine hcall.mono fun e W' ⟨he, bel⟩ => ?_
  subst he
  exact ⟨_, rfl, (⟨_, _, _, [], _, [], hW', trodAll_mk1 (shut_bool Tryd.underlying4 _), (trodAll_cons_mk (Below.trod laidOut (by kernel_rfl) (of_decide_eq_true (by kernel_rfl)) h0 bel lt0) (trodAll_cons_mk (Below.trod laidOut (by kernel_rfl) (of_decide_eq_true (by kernel_rfl)) h1 bel lt1) trodAll_mk0)), rfl, bel.frame _, fun h => by cases h⟩ : Rows.renameNoneSpec.post enc Tryd.prog Tryd.f5 false true false false W _ _ W')⟩
theorem over : Rows.RenameNoneUptoSaid :=
  OpenClaim.holds_of_cond 5 Tryd.f5 rfl rfl rfl rfl rfl rfl rfl ⟨rfl, rfl, rfl, rfl, rfl⟩ rfl rfl rfl rfl rfl (by kernel_rfl) Tryd.func5 (by kernel_rfl)
    (of_decide_eq_true (by kernel_rfl)) (by unfold Func.isWrapper; first | (rw [if_pos (by decide +kernel)]; kernel_rfl) | (rw [if_neg (by decide +kernel)]; exact ⟨rfl, rfl⟩))
    (fun os started H enc _ F => by rw [OpenClaim.pre_eq_preRow]; exact lifted os started H enc F)
theorem plain (f : FuncId) (fn : Func) (hf : Tryd.pinned.checked.prog.funcNamed "pantograph/pantographlaw16.RenameNone" = some f) (hfn : Tryd.pinned.checked.prog.funcs[f]? = some fn) :
    false = Tryd.pinned.checked.prog.looks [] ∧ ∀ (j : Nat) t, fn.params[j]? = some t → Tryd.pinned.checked.prog.wantsStandIn t = false := by
  obtain rfl : f = 5 := Option.some.inj ((show Tryd.prog.funcNamed "pantograph/pantographlaw16.RenameNone" = some 5 by kernel_rfl).symm.trans hf) |>.symm
  obtain rfl : fn = Tryd.f5 := (Option.some.inj (Tryd.func5.symm.trans hfn)).symm
  refine ⟨by kernel_rfl, fun j t ht => ?_⟩
  rw [Tryd.params5] at ht
  have hm : t ∈ [3, 28] := by simpa using Array.mem_of_getElem? ht
  have hall : ([3, 28].all fun u => !Tryd.prog.wantsStandIn u) = true := by kernel_rfl
  exact (show Tryd.prog.wantsStandIn t = false by simpa using List.all_eq_true.1 hall t hm)
theorem card : Rows.RenameNoneUptoCardSaid :=
  Claim7.holds_tied_plain_at .later [] _ _ _ _ over (fun _ h => by cases h) (by kernel_rfl) (fun _ h => by cases h) renameNoneUpto_row_tie rfl ⟨rfl, rfl⟩ (by kernel_rfl) rfl plain (by kernel_rfl)
end Go.Ev.renameNone
namespace Go.Proofs.YtlepjafokfhnfaaDoor
theorem renameNone_holds : Rows.RenameNoneUptoCardSaid := Go.Ev.renameNone.card
end Go.Proofs.YtlepjafokfhnfaaDoor
end
