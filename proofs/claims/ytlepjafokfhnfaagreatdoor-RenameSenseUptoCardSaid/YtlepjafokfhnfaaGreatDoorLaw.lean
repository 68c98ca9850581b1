/- Proved here: the statement RenameSenseUpto (a program makes as much sense as it did, at the same item), for every input that its row lets in; conditions: those of the row, and none beside. -/
import Derived.Test.YtlepjafokfhnfaaGreatDoorA4
import Derived.Deep.DeepHandedRow
section
open Go
namespace Go.Ev
open Go.Proofs.YtlepjafokfhnfaaGreatDoor
set_option maxRecDepth 100000
set_option maxHeartbeats 4000000
set_option linter.unusedVariables false
set_option linter.unusedSimpArgs false
set_option linter.unusedSectionVars false
section
variable (o : ByteArray → ByteArray) (S : ByteArray → Prop) (hO : InjO o S)
def relC (K : Nat) : Prop := ∀ (i e : Int) (env : List Tr12_Thing) (x : TExpr) (b : Bool), shE x → okE S x → okEnv S env → env.length ≤ 2097152 → bk_TExpr x ≤ 1048576 → 8 * bk_TExpr x + 2999999 ≤ K →
  outE o S ((FF hFam K).f_r12_Look_call ((i, e, ()), env, x, b, ())) ((FF hFam K).f_r12_Look_call ((i, e, ()), env.map (mTh o), mapE o x, b, ())) e
include hO
theorem loop10 {K : Nat} (hV : relV o S (K + 1)) (hE : relE o S (K + 1)) (env : List Tr12_Thing) (x : TExpr) (b : Bool) (i0 e0 : Int) (hs : shL x.L) (hx : okE S x) (he : okEnv S env) (hl : env.length ≤ 2097152) (hb : bk_TExpr x ≤ 1048576) (hk : 8 * bk_TExpr x + 2999995 ≤ K) (t : Tr12_Thing) (ht : okTh S t) :
    ∀ j m, m ≤ x.L.length → x.L.length - m < j → ∀ i e : Int, (e = 0 → t.R_Params.length = x.L.length) → ∃ i' e',
      Lr12_Look_call_10 (FF hFam (K + 1)) (K + 1) (i0, e0, ()) env x b j env (m : Int) i e x.Op x.N x.Name x.Field x.L 0 0 { data := #[] : ByteArray } t.Name t.Kind t.Rec_Marks_Before t.Rec_Marks_Trail t.Rec_Name t.Rec_Fields t.Rec_End t.R_Marks_Before t.R_Marks_Trail t.R_Name t.R_Result t.R_Params t.R_Vars t.R_Inner t.R_Body t.R_End t.T_Kind t.T_Size t.T_Name = some (⟨t.R_Result, 0, { data := #[] : ByteArray }⟩, (i', e', ()), ()) ∧
      Lr12_Look_call_10 (FF hFam (K + 1)) (K + 1) (i0, e0, ()) (env.map (mTh o)) (mapE o x) b j (env.map (mTh o)) (m : Int) i e x.Op x.N (mapN o x.Name) (mapN o x.Field) (x.L.map (mapE o)) 0 0 { data := #[] : ByteArray } (mTh o t).Name (mTh o t).Kind (mTh o t).Rec_Marks_Before (mTh o t).Rec_Marks_Trail (mTh o t).Rec_Name (mTh o t).Rec_Fields (mTh o t).Rec_End (mTh o t).R_Marks_Before (mTh o t).R_Marks_Trail (mTh o t).R_Name t.R_Result (t.R_Params.map (mapA o)) (mTh o t).R_Vars (mTh o t).R_Inner (mTh o t).R_Body (mTh o t).R_End t.T_Kind t.T_Size (mTh o t).T_Name = some (⟨t.R_Result, 0, { data := #[] : ByteArray }⟩, (i', e', ()), ()) ∧ (e ≠ 0 → e' ≠ 0) := by
  have hL := bks_Expr_len x.L
  have hbk : bks_TExpr x.L + 1 ≤ bk_TExpr x := by cases x; simp only [bk_TExpr]; omega
  refine up_ind x.L.length (fun j i e hlen => ?_) (fun j m hm ih i e hlen => ?_)
  · refine ⟨i, e, ?_, ?_, fun h => h⟩
    · simp only [Lr12_Look_call_10]
      rw [if_neg (by simp)]
    · simp only [Lr12_Look_call_10, List.length_map]
      rw [if_neg (by simp)]
  · by_cases h0 : e = 0
    · subst h0
      have hpl := hlen rfl
      have hmp : m < t.R_Params.length := by omega
      have hmp' : m < (t.R_Params.map (mapA o)).length := by simpa using hmp
      have hm' : m < (x.L.map (mapE o)).length := by simpa using hm
      have hbm := bks_Expr_mem x.L m hm
      have ew := wrap_succ hm (show x.L.length ≤ maxLen by simp only [maxLen]; omega)
      have hat : (x.L.map (mapE o))[m] = mapE o x.L[m] := by simp
      have hatp : (t.R_Params.map (mapA o))[m] = mapA o t.R_Params[m] := by simp
      have hsm := shL_at x.L m hm hs
      have hxm := okE_at hx m hm
      have hc1 : (decide ((m : Int) < (x.L.length : Int)) && (0 : Int) == 0) = true := by rw [lt_dec hm]; rfl
      have hc2 : (decide ((m : Int) < ((x.L.map (mapE o)).length : Int)) && (0 : Int) == 0) = true := by rw [lt_dec hm']; rfl
      have ml : (mapA o t.R_Params[m]).Mode = t.R_Params[m].Mode := rfl
      have mk : (mapA o t.R_Params[m]).T_Kind = t.R_Params[m].T_Kind := rfl
      have mz : (mapA o t.R_Params[m]).T_Size = t.R_Params[m].T_Size := rfl
      have mn : (mapA o t.R_Params[m]).T_Name = mapN o t.R_Params[m].T_Name := rfl
      by_cases hmode : t.R_Params[m].Mode = 0
      · obtain ⟨kd, i1, e1, h1, h2, h3⟩ := hV i 0 env x.L[m] t.R_Params[m].T_Kind hsm hxm he hl (by omega) (by omega)
        obtain ⟨i', e', r1, r2, r3⟩ := ih i1 e1 fun _ => hpl
        refine ⟨i', e', ?_, ?_, fun h => absurd rfl h⟩
        · simp only [Lr12_Look_call_10]
          rw [if_pos hc1, if_pos (by omega), if_pos (by omega), getD_at t.R_Params m _ hmp, if_pos (by simpa using hmode), if_pos (by omega), if_pos (by omega), getD_at x.L m _ hm, TExpr.re_eq, h1, Option.bind_some, ew]
          exact r1
        · simp only [Lr12_Look_call_10]
          rw [if_pos hc2, if_pos (by omega), if_pos (by omega), getD_at _ m _ hmp', hatp, ml, if_pos (by simpa using hmode), if_pos (by omega), if_pos (by omega), getD_at _ m _ hm', hat, TExpr.re_eq, mk, h2, Option.bind_some, ew]
          exact r2
      · -- by what is handed
        have tail : ∀ e1 : Int, ∃ i' e', ((FF hFam (K + 1)).f_r12_Look_expr ((i, e1, ()), env, x.L[m], false, ())).bind (fun u => if (!(u.fst.Kind == t.R_Params[m].T_Kind && (u.fst.Size == t.R_Params[m].T_Size && (u.fst.Name.toList == t.R_Params[m].T_Name.toList && true)))) = true then ((FF hFam (K + 1)).f_r12_Look_fail ((u.snd.fst.fst, u.snd.fst.snd.fst, ()), 14, ())).bind fun q =>
              Lr12_Look_call_10 (FF hFam (K + 1)) (K + 1) (i0, e0, ()) env x b j env ((m + 1 : Nat) : Int) q.snd.fst.fst q.snd.fst.snd.fst x.Op x.N x.Name x.Field x.L 0 0 { data := #[] : ByteArray } t.Name t.Kind t.Rec_Marks_Before t.Rec_Marks_Trail t.Rec_Name t.Rec_Fields t.Rec_End t.R_Marks_Before t.R_Marks_Trail t.R_Name t.R_Result t.R_Params t.R_Vars t.R_Inner t.R_Body t.R_End t.T_Kind t.T_Size t.T_Name
              else Lr12_Look_call_10 (FF hFam (K + 1)) (K + 1) (i0, e0, ()) env x b j env ((m + 1 : Nat) : Int) u.snd.fst.fst u.snd.fst.snd.fst x.Op x.N x.Name x.Field x.L 0 0 { data := #[] : ByteArray } t.Name t.Kind t.Rec_Marks_Before t.Rec_Marks_Trail t.Rec_Name t.Rec_Fields t.Rec_End t.R_Marks_Before t.R_Marks_Trail t.R_Name t.R_Result t.R_Params t.R_Vars t.R_Inner t.R_Body t.R_End t.T_Kind t.T_Size t.T_Name) = some (⟨t.R_Result, 0, { data := #[] : ByteArray }⟩, (i', e', ()), ()) ∧
            ((FF hFam (K + 1)).f_r12_Look_expr ((i, e1, ()), env.map (mTh o), mapE o x.L[m], false, ())).bind (fun u => if (!(u.fst.Kind == t.R_Params[m].T_Kind && (u.fst.Size == t.R_Params[m].T_Size && (u.fst.Name.toList == (mapN o t.R_Params[m].T_Name).toList && true)))) = true then ((FF hFam (K + 1)).f_r12_Look_fail ((u.snd.fst.fst, u.snd.fst.snd.fst, ()), 14, ())).bind fun q =>
              Lr12_Look_call_10 (FF hFam (K + 1)) (K + 1) (i0, e0, ()) (env.map (mTh o)) (mapE o x) b j (env.map (mTh o)) ((m + 1 : Nat) : Int) q.snd.fst.fst q.snd.fst.snd.fst x.Op x.N (mapN o x.Name) (mapN o x.Field) (x.L.map (mapE o)) 0 0 { data := #[] : ByteArray } (mTh o t).Name (mTh o t).Kind (mTh o t).Rec_Marks_Before (mTh o t).Rec_Marks_Trail (mTh o t).Rec_Name (mTh o t).Rec_Fields (mTh o t).Rec_End (mTh o t).R_Marks_Before (mTh o t).R_Marks_Trail (mTh o t).R_Name t.R_Result (t.R_Params.map (mapA o)) (mTh o t).R_Vars (mTh o t).R_Inner (mTh o t).R_Body (mTh o t).R_End t.T_Kind t.T_Size (mTh o t).T_Name
              else Lr12_Look_call_10 (FF hFam (K + 1)) (K + 1) (i0, e0, ()) (env.map (mTh o)) (mapE o x) b j (env.map (mTh o)) ((m + 1 : Nat) : Int) u.snd.fst.fst u.snd.fst.snd.fst x.Op x.N (mapN o x.Name) (mapN o x.Field) (x.L.map (mapE o)) 0 0 { data := #[] : ByteArray } (mTh o t).Name (mTh o t).Kind (mTh o t).Rec_Marks_Before (mTh o t).Rec_Marks_Trail (mTh o t).Rec_Name (mTh o t).Rec_Fields (mTh o t).Rec_End (mTh o t).R_Marks_Before (mTh o t).R_Marks_Trail (mTh o t).R_Name t.R_Result (t.R_Params.map (mapA o)) (mTh o t).R_Vars (mTh o t).R_Inner (mTh o t).R_Body (mTh o t).R_End t.T_Kind t.T_Size (mTh o t).T_Name) = some (⟨t.R_Result, 0, { data := #[] : ByteArray }⟩, (i', e', ()), ()) := by
          intro e1
          obtain ⟨u, i1, e2, h1, h2, h3, h4⟩ := hE i e1 env x.L[m] false hsm hxm he hl (by omega) (by omega)
          rw [h1, h2, Option.bind_some, Option.bind_some]
          have hn : ((mTy o u).Name.toList == (mapN o t.R_Params[m].T_Name).toList) = (u.Name.toList == t.R_Params[m].T_Name.toList) := beq_map hO h3 (ht.p _ (List.getElem_mem hmp))
          have hk1 : (mTy o u).Kind = u.Kind := rfl
          have hk2 : (mTy o u).Size = u.Size := rfl
          simp only [hn, hk1, hk2]
          by_cases hc : (!(u.Kind == t.R_Params[m].T_Kind && (u.Size == t.R_Params[m].T_Size && (u.Name.toList == t.R_Params[m].T_Name.toList && true)))) = true
          · obtain ⟨i', e', r1, r2, r3⟩ := ih i1 (failS e2 14) fun _ => hpl
            refine ⟨i', e', ?_, ?_⟩
            · rw [if_pos hc, fail_ok, Option.bind_some]; exact r1
            · rw [if_pos hc, fail_ok, Option.bind_some]; exact r2
          · obtain ⟨i', e', r1, r2, r3⟩ := ih i1 e2 fun _ => hpl
            refine ⟨i', e', ?_, ?_⟩
            · rw [if_neg hc]; exact r1
            · rw [if_neg hc]; exact r2
        have hop : (mapE o x.L[m]).Op = x.L[m].Op := mapE_op o _
        by_cases h4 : x.L[m].Op < 4
        · obtain ⟨i', e', r1, r2⟩ := tail (failS 0 14)
          refine ⟨i', e', ?_, ?_, fun h => absurd rfl h⟩
          · simp only [Lr12_Look_call_10]
            rw [if_pos hc1, if_pos (by omega), if_pos (by omega), getD_at t.R_Params m _ hmp, if_neg (by simpa using hmode), if_pos (by omega), if_pos (by omega), getD_at x.L m _ hm, if_neg (by simpa using h4), fail_ok, Option.bind_some, if_pos (by omega), if_pos (by omega), TExpr.re_eq, ew]
            exact r1
          · simp only [Lr12_Look_call_10]
            rw [if_pos hc2, if_pos (by omega), if_pos (by omega), getD_at _ m _ hmp', hatp, ml, if_neg (by simpa using hmode), if_pos (by omega), if_pos (by omega), getD_at _ m _ hm', hat, hop, if_neg (by simpa using h4), fail_ok, Option.bind_some, if_pos (by omega), if_pos (by omega), TExpr.re_eq, ew, mk, mz, mn]
            exact r2
        · by_cases h6 : x.L[m].Op > 6
          · obtain ⟨i', e', r1, r2⟩ := tail (failS 0 14)
            refine ⟨i', e', ?_, ?_, fun h => absurd rfl h⟩
            · simp only [Lr12_Look_call_10]
              rw [if_pos hc1, if_pos (by omega), if_pos (by omega), getD_at t.R_Params m _ hmp, if_neg (by simpa using hmode), if_pos (by omega), if_pos (by omega), getD_at x.L m _ hm, if_pos (by simpa using h4), if_pos (by omega), if_pos (by omega), if_pos (by simpa using h6), fail_ok, Option.bind_some, if_pos (by omega), if_pos (by omega), TExpr.re_eq, ew]
              exact r1
            · simp only [Lr12_Look_call_10]
              rw [if_pos hc2, if_pos (by omega), if_pos (by omega), getD_at _ m _ hmp', hatp, ml, if_neg (by simpa using hmode), if_pos (by omega), if_pos (by omega), getD_at _ m _ hm', hat, hop, if_pos (by simpa using h4), if_pos (by omega), if_pos (by omega), if_pos (by simpa using h6), fail_ok, Option.bind_some, if_pos (by omega), if_pos (by omega), TExpr.re_eq, ew, mk, mz, mn]
              exact r2
          · obtain ⟨i', e', r1, r2⟩ := tail 0
            refine ⟨i', e', ?_, ?_, fun h => absurd rfl h⟩
            · simp only [Lr12_Look_call_10]
              rw [if_pos hc1, if_pos (by omega), if_pos (by omega), getD_at t.R_Params m _ hmp, if_neg (by simpa using hmode), if_pos (by omega), if_pos (by omega), getD_at x.L m _ hm, if_pos (by simpa using h4), if_pos (by omega), if_pos (by omega), if_neg (by simpa using h6), if_pos (by omega), if_pos (by omega), TExpr.re_eq, ew]
              exact r1
            · simp only [Lr12_Look_call_10]
              rw [if_pos hc2, if_pos (by omega), if_pos (by omega), getD_at _ m _ hmp', hatp, ml, if_neg (by simpa using hmode), if_pos (by omega), if_pos (by omega), getD_at _ m _ hm', hat, hop, if_pos (by simpa using h4), if_pos (by omega), if_pos (by omega), if_neg (by simpa using h6), if_pos (by omega), if_pos (by omega), TExpr.re_eq, ew, mk, mz, mn]
              exact r2
    · have hz : ((e : Int) == 0) = false := by simpa using h0
      refine ⟨i, e, ?_, ?_, fun h => h⟩
      · simp only [Lr12_Look_call_10]
        rw [if_neg (by rw [hz]; simp)]
      · simp only [Lr12_Look_call_10]
        rw [if_neg (by rw [hz]; simp)]
theorem relC_of {K : Nat} (hV : relV o S (K + 1)) (hE : relE o S (K + 1)) : relC o S (K + 2) := by
  intro i e env x b hs hx he hl hb hk
  have hpx := shE_parts hs
  have hok := findE_ok he x.Name
  have hfm : findE (env.map (mTh o)) (mapE o x).Name = mTh o (findE env x.Name) := by rw [mapE_name]; exact find_map hO (okE_name hx) he
  have hlm : (env.map (mTh o)).length = env.length := List.length_map ..
  show outE o S (B_r12_Look_call (FF hFam (K + 1)) (K + 1) (i, e, ()) env x b) (B_r12_Look_call (FF hFam (K + 1)) (K + 1) (i, e, ()) (env.map (mTh o)) (mapE o x) b) e
  unfold B_r12_Look_call
  rw [find_ok K env x.Name (by omega) (by omega), find_ok K (env.map (mTh o)) (mapE o x).Name (by rw [hlm]; omega) (by rw [hlm]; omega), hfm, Option.bind_some, Option.bind_some]
  generalize findE env x.Name = t at hok
  have mk : (mTh o t).Kind = t.Kind := rfl
  have mr : (mTh o t).R_Result = t.R_Result := rfl
  have mp : (mTh o t).R_Params = t.R_Params.map (mapA o) := rfl
  have mtk : (mTh o t).T_Kind = t.T_Kind := rfl
  have mtz : (mTh o t).T_Size = t.T_Size := rfl
  simp only [mk, mr, mp, mtk, mtz, mapE_op, mapE_n, mapE_name, mapE_field, mapE_L, List.length_map]
  have fin : ∀ e2 : Int, (e2 = 0 → t.R_Params.length = x.L.length) → (e ≠ 0 → e2 ≠ 0) → outE o S
      (Lr12_Look_call_10 (FF hFam (K + 1)) (K + 1) (i, e, ()) env x b (K + 1) env 0 i e2 x.Op x.N x.Name x.Field x.L 0 0 { data := #[] : ByteArray } t.Name t.Kind t.Rec_Marks_Before t.Rec_Marks_Trail t.Rec_Name t.Rec_Fields t.Rec_End t.R_Marks_Before t.R_Marks_Trail t.R_Name t.R_Result t.R_Params t.R_Vars t.R_Inner t.R_Body t.R_End t.T_Kind t.T_Size t.T_Name)
      (Lr12_Look_call_10 (FF hFam (K + 1)) (K + 1) (i, e, ()) (env.map (mTh o)) (mapE o x) b (K + 1) (env.map (mTh o)) 0 i e2 x.Op x.N (mapN o x.Name) (mapN o x.Field) (x.L.map (mapE o)) 0 0 { data := #[] : ByteArray } (mTh o t).Name t.Kind (mTh o t).Rec_Marks_Before (mTh o t).Rec_Marks_Trail (mTh o t).Rec_Name (mTh o t).Rec_Fields (mTh o t).Rec_End (mTh o t).R_Marks_Before (mTh o t).R_Marks_Trail (mTh o t).R_Name t.R_Result (t.R_Params.map (mapA o)) (mTh o t).R_Vars (mTh o t).R_Inner (mTh o t).R_Body (mTh o t).R_End t.T_Kind t.T_Size (mTh o t).T_Name) e := by
    intro e2 h1 h2
    have hL := bks_Expr_len x.L
    have hbk : bks_TExpr x.L + 1 ≤ bk_TExpr x := by cases x; simp only [bk_TExpr]; omega
    obtain ⟨i', e', r1, r2, r3⟩ := loop10 o S hO hV hE env x b i e hpx.2 hx he hl hb (by omega) t hok (K + 1) 0 (Nat.zero_le _) (by omega) i e2 h1
    exact ⟨_, i', e', r1, r2, okN_empty S, fun h => r3 (h2 h)⟩
  cases hkind : (t.Kind != 2) with
  | true =>
    simp only [↓reduceIte, fail_ok, Option.bind_some]
    exact ⟨_, i, failS e 13, rfl, rfl, okN_empty S, fun h => failS_ne h⟩
  | false =>
    simp only [Bool.false_eq_true, ↓reduceIte]
    have hlens : ∀ e1 : Int, (e ≠ 0 → e1 ≠ 0) → ((t.R_Params.length : Int) != (x.L.length : Int)) = false → (e1 = 0 → t.R_Params.length = x.L.length) := fun e1 _ hl _ => by simp at hl; omega
    cases hr : (decide (t.R_Result > 0) == b) with
    | true =>
      simp only [↓reduceIte, fail_ok, Option.bind_some]
      cases hne : ((t.R_Params.length : Int) != (x.L.length : Int)) with
      | true =>
        simp only [↓reduceIte, fail_ok, Option.bind_some]
        exact fin (failS (failS e 14) 15) (fun h => absurd h (failS_c (by decide))) fun h => failS_c (by decide)
      | false =>
        simp only [Bool.false_eq_true, ↓reduceIte]
        exact fin (failS e 14) (hlens _ failS_ne hne) failS_ne
    | false =>
      simp only [Bool.false_eq_true, ↓reduceIte]
      cases hne : ((t.R_Params.length : Int) != (x.L.length : Int)) with
      | true =>
        simp only [↓reduceIte, fail_ok, Option.bind_some]
        exact fin (failS e 15) (fun h => absurd h (failS_c (by decide))) fun h => failS_c (by decide)
      | false =>
        simp only [Bool.false_eq_true, ↓reduceIte]
        exact fin e (hlens e (fun h => h) hne) fun h => h
end
end Go.Ev
end
section
open Go
namespace Go.Ev
open Go.Proofs.YtlepjafokfhnfaaGreatDoor
set_option maxRecDepth 100000
set_option maxHeartbeats 40000000
set_option linter.unusedVariables false
set_option linter.unusedSimpArgs false
set_option linter.unusedSectionVars false
section
variable (o : ByteArray → ByteArray) (S : ByteArray → Prop) (hO : InjO o S)
include hO
theorem relE_all : ∀ K, relE o S K := fun K => by
  induction K using Nat.strongRecOn with
  | _ K ih =>
  intro i e env x b hs hx he hl hb hk
  obtain ⟨K', rfl⟩ : ∃ K', K = K' + 3 := ⟨K - 3, by omega⟩
  have hV := relV_of o S hO (ih (K' + 1) (by omega))
  have hC := relC_of o S hO (relV_of o S hO (ih K' (by omega))) (ih (K' + 1) (by omega))
  obtain ⟨⟨hp1, hp2, hp3, hp4⟩, hsl⟩ := shE_parts hs
  have hlm : (env.map (mTh o)).length = env.length := List.length_map ..
  have hL := bks_Expr_len x.L
  have hbk : bks_TExpr x.L + 1 ≤ bk_TExpr x := by cases x; simp only [bk_TExpr]; omega
  show outE o S (B_r12_Look_expr (FF hFam (K' + 2)) (K' + 2) (i, e, ()) env x b) (B_r12_Look_expr (FF hFam (K' + 2)) (K' + 2) (i, e, ()) (env.map (mTh o)) (mapE o x) b) e
  by_cases h0 : e = 0
  · subst h0
    have hop := mapE_op o x
    have hv1 := variable_ok K' i 0 env x.Name (by omega) (by omega)
    have hv2 := variable_ok K' i 0 (env.map (mTh o)) (mapN o x.Name) (by rw [hlm]; omega) (by rw [hlm]; omega)
    rw [varT_map hO he (okE_name hx), varE_map hO he (okE_name hx)] at hv2
    have hvo := varT_ok he x.Name
    have ne : ∀ e' : Int, (0 : Int) ≠ 0 → e' ≠ 0 := fun _ h => absurd rfl h
    have cases' : (x.Op = 1 ∨ x.Op = 2 ∨ x.Op = 3) ∨ x.Op = 4 ∨ x.Op = 5 ∨ x.Op = 6 ∨ x.Op = 7 ∨ (x.Op = 9 ∨ x.Op = 13 ∨ x.Op = 14 ∨ x.Op = 17 ∨ x.Op = 18) ∨ (x.Op = 8 ∨ x.Op = 10 ∨ x.Op = 11 ∨ x.Op = 12 ∨ x.Op = 15 ∨ x.Op = 16) ∨ (x.Op = 19 ∨ x.Op = 20 ∨ x.Op = 21 ∨ x.Op = 22 ∨ x.Op = 23 ∨ x.Op = 24) := by omega
    rcases cases' with h | h | h | h | h | h | h | h
    · rw [X_lit _ _ _ _ _ _ h, X_lit _ _ _ _ _ _ (by rw [hop]; exact h), hop]
      exact ⟨_, i, 0, rfl, rfl, okN_empty S, ne _⟩
    · rw [X_var _ _ _ _ _ _ h, X_var _ _ _ _ _ _ (by rw [hop]; exact h), mapE_name, hv1, hv2]
      exact ⟨_, i, _, rfl, rfl, hvo, ne _⟩
    · have hl1 := hp3 h
      have hm0 : 0 < x.L.length := by omega
      have hm0' : 0 < (x.L.map (mapE o)).length := by simpa using hm0
      have hbm := bks_Expr_mem x.L 0 hm0
      rw [X_index _ _ _ _ _ _ h hm0, X_index _ _ _ _ _ _ (by rw [hop]; exact h) (by rw [mapE_L, List.length_map]; exact hm0), mapE_name, mapE_L, hv1, hv2, Option.bind_some, Option.bind_some]
      have g1 : x.L.getD 0 dd_TExpr = x.L[0] := by simp [hm0]
      have g2 : (x.L.map (mapE o)).getD 0 dd_TExpr = mapE o x.L[0] := by simp [hm0]
      have mz : (mTy o (varT env x.Name)).Size = (varT env x.Name).Size := rfl
      have mk : (mTy o (varT env x.Name)).Kind = (varT env x.Name).Kind := rfl
      simp only [g1, g2, TExpr.re_eq, mz, mk]
      have hval := fun e1 => hV i e1 env x.L[0] 1 (shL_at x.L 0 hm0 hsl) (okE_at hx 0 hm0) he hl (by omega) (by omega)
      cases hz : ((varT env x.Name).Size == 0) with
      | true =>
        simp only [↓reduceIte, fail_ok, Option.bind_some]
        obtain ⟨kd, i1, e1, h1, h2, _⟩ := hval (failS (varE env x.Name 0) 14)
        rw [h1, h2]
        exact ⟨_, i1, e1, rfl, rfl, okN_empty S, ne _⟩
      | false =>
        simp only [Bool.false_eq_true, ↓reduceIte]
        obtain ⟨kd, i1, e1, h1, h2, _⟩ := hval (varE env x.Name 0)
        rw [h1, h2]
        exact ⟨_, i1, e1, rfl, rfl, okN_empty S, ne _⟩
    · rw [X_field _ _ _ _ _ _ h, X_field _ _ _ _ _ _ (by rw [hop]; exact h), mapE_name, mapE_L, mapE_field, mapE_n, hv1, hv2, Option.bind_some, Option.bind_some]
      have mk : (mTy o (varT env x.Name)).Kind = (varT env x.Name).Kind := rfl
      have mn : (mTy o (varT env x.Name)).Name = mapN o (varT env x.Name).Name := rfl
      simp only [mk, mn]
      cases hz : ((varT env x.Name).Kind != 4) with
      | true =>
        simp only [↓reduceIte, fail_ok, Option.bind_some]
        exact ⟨_, i, _, rfl, rfl, okN_empty S, ne _⟩
      | false =>
        simp only [Bool.false_eq_true, ↓reduceIte]
        rw [find_ok (K' + 1) env _ (by omega) (by omega), find_ok (K' + 1) (env.map (mTh o)) _ (by rw [hlm]; omega) (by rw [hlm]; omega), find_map hO hvo he, Option.bind_some, Option.bind_some]
        have hok := findE_ok he (varT env x.Name).Name
        generalize findE env (varT env x.Name).Name = t at hok
        by_cases hfl : t.Rec_Fields.length ≤ 2097152
        · obtain ⟨u, e', r1, r2, r3⟩ := loop23 o S hO (K' + 1) env x b i hx i (varE env x.Name 0) t.Rec_Fields hok.f (by omega) (K' + 2) 0 (Nat.zero_le _) (by omega) t.Rec_Marks_Before t.Rec_Marks_Trail t.Rec_End t.Rec_Name (mapN o t.Rec_Name)
          refine ⟨u, i, e', r1, ?_, by rw [r3]; exact okN_empty S, ne _⟩
          have hu : mTy o u = u := by cases u; simp only at r3; subst r3; rfl
          rw [hu]
          exact r2
        · exact absurd (hok.s) hfl
    · obtain ⟨t, i', e', r1, r2, r3, r4⟩ := hC i 0 env x b hs hx he hl hb (by omega)
      rw [X_call _ _ _ _ _ _ h, X_call _ _ _ _ _ _ (by rw [hop]; exact h), TExpr.re_eq, TExpr.re_eq, r1, r2]
      exact ⟨_, i', e', rfl, rfl, r3, ne _⟩
    · rw [X_bool _ _ _ _ _ _ h, X_bool _ _ _ _ _ _ (by rw [hop]; exact h), hop, mapE_name, mapE_L, mapE_field, mapE_n]
      obtain ⟨i', e', r1, r2⟩ := loop37 o S hO hV env x b i hsl hx he hl hb (by omega) (K' + 2) 0 (Nat.zero_le _) (by omega) i 0
      exact ⟨_, i', e', r1, r2, okN_empty S, ne _⟩
    · rw [X_int _ _ _ _ _ _ h, X_int _ _ _ _ _ _ (by rw [hop]; exact h), hop, mapE_name, mapE_L, mapE_field, mapE_n]
      obtain ⟨i', e', r1, r2⟩ := loop53 o S hO hV env x b i hsl hx he hl hb (by omega) (K' + 2) 0 (Nat.zero_le _) (by omega) i 0
      exact ⟨_, i', e', r1, r2, okN_empty S, ne _⟩
    · have hl2 := hp4 (by omega)
      have hm0 : 0 < x.L.length := by omega
      have hm1 : 1 < x.L.length := by omega
      have hbm := bks_Expr_mem x.L 0 hm0
      have hbm1 := bks_Expr_mem x.L 1 hm1
      have g1 : x.L.getD 0 dd_TExpr = x.L[0] := by simp [hm0]
      have g2 : (x.L.map (mapE o)).getD 0 dd_TExpr = mapE o x.L[0] := by simp [hm0]
      have g3 : x.L.getD 1 dd_TExpr = x.L[1] := by simp [hm1]
      have g4 : (x.L.map (mapE o)).getD 1 dd_TExpr = mapE o x.L[1] := by simp [hm1]
      rw [X_comp _ _ _ _ _ _ h hm1, X_comp _ _ _ _ _ _ (by rw [hop]; exact h) (by rw [mapE_L, List.length_map]; exact hm1), hop, mapE_L]
      simp only [g1, g2, g3, g4, TExpr.re_eq]
      obtain ⟨kd, i1, e1, h1, h2, _⟩ := hV i 0 env x.L[0] 0 (shL_at x.L 0 hm0 hsl) (okE_at hx 0 hm0) he hl (by omega) (by omega)
      rw [h1, h2, Option.bind_some, Option.bind_some]
      have hval := fun e1 => hV i1 e1 env x.L[1] kd (shL_at x.L 1 hm1 hsl) (okE_at hx 1 hm1) he hl (by omega) (by omega)
      cases hz : (decide (x.Op > 20) && kd == 2) with
      | true =>
        simp only [↓reduceIte, fail_ok, Option.bind_some]
        obtain ⟨kd2, i2, e2, h3, h4, _⟩ := hval (failS e1 14)
        rw [h3, h4]
        exact ⟨_, i2, e2, rfl, rfl, okN_empty S, ne _⟩
      | false =>
        simp only [Bool.false_eq_true, ↓reduceIte]
        obtain ⟨kd2, i2, e2, h3, h4, _⟩ := hval e1
        rw [h3, h4]
        exact ⟨_, i2, e2, rfl, rfl, okN_empty S, ne _⟩
  · rw [X_bad _ _ _ _ _ _ e h0, X_bad _ _ _ _ _ _ e h0]
    exact ⟨_, i, e, rfl, rfl, okN_empty S, fun h => h⟩
theorem relV_all (K : Nat) : relV o S (K + 1) := relV_of o S hO (relE_all o S hO K)
end
end Go.Ev
end
section
open Go
namespace Go.Ev
open Go.Proofs.YtlepjafokfhnfaaGreatDoor
set_option maxRecDepth 100000
set_option maxHeartbeats 40000000
set_option linter.unusedVariables false
set_option linter.unusedSimpArgs false
set_option linter.unusedSectionVars false
section
variable (s : Fam) (k : Nat) (x0 : Int × Int × Unit) (x1 : List Tr12_Thing) (x2 : Int) (x3 : List TStmt) (j : Nat) (env : List Tr12_Thing) (res : Int) (l : List TStmt) (m : Int) (st : TStmt)
def tailS (i e : Int) : Option (Unit × (Int × Int × Unit) × Unit) := (s.f_r12_Look_stmts ((i, e, ()), env, res, st.Body, ())).bind fun a => (s.f_r12_Look_stmts ((a.2.1.1, a.2.1.2.1, ()), env, res, st.Else, ())).bind fun b => Lr12_Look_stmts_1 s k x0 x1 x2 x3 j env res l (IntKind.i64.wrap (m + 1)) b.2.1.1 b.2.1.2.1
variable (i i1 : Int) (hm : decide (m < (l.length : Int)) = true) (h0 : 0 ≤ m) (h1 : m < (l.length : Int)) (hn : s.f_r12_Look_next ((i, 0, ()), ()) = some (true, (i1, 0, ()), ())) (hst : l.getD m.toNat dd_TStmt = st)
include hm h0 h1 hn hst
theorem S_1 (hop : st.Op = 1) (hE : (0 : Int) < (st.E.length : Int)) : Lr12_Look_stmts_1 s k x0 x1 x2 x3 (j + 1) env res l m i 0 = (s.f_r12_Look_value ((i1, 0, ()), env, st.sub_P, 0, ())).bind fun t => (s.f_r12_Look_value ((t.2.1.1, t.2.1.2.1, ()), env, (st.E.getD 0 dd_TExpr).re, t.1, ())).bind fun u => tailS s k x0 x1 x2 x3 j env res l m st u.2.1.1 u.2.1.2.1 := by
  simp only [Lr12_Look_stmts_1, tailS, hm, h0, h1, hn, hst, hop, hE, ↓reduceIte, Int.reduceBEq, Int.reduceBNe, Bool.false_eq_true, bne_self_eq_false, beq_self_eq_true, Option.bind_some, Bool.and_self, Int.toNat_zero, Int.toNat_one, Bool.true_and, decide_true]
theorem S_2 (hop : st.Op = 2) (hE : (0 : Int) < (st.E.length : Int)) : Lr12_Look_stmts_1 s k x0 x1 x2 x3 (j + 1) env res l m i 0 = (s.f_r12_Look_expr ((i1, 0, ()), env, (st.E.getD 0 dd_TExpr).re, true, ())).bind fun u => tailS s k x0 x1 x2 x3 j env res l m st u.2.1.1 u.2.1.2.1 := by
  simp only [Lr12_Look_stmts_1, tailS, hm, h0, h1, hn, hst, hop, hE, ↓reduceIte, Int.reduceBEq, Int.reduceBNe, Bool.false_eq_true, bne_self_eq_false, beq_self_eq_true, Option.bind_some, Bool.and_self, Int.toNat_zero, Int.toNat_one, Bool.true_and, decide_true]
theorem S_3 (hop : st.Op = 3 ∨ st.Op = 4 ∨ st.Op = 5) (hE : (0 : Int) < (st.E.length : Int)) : Lr12_Look_stmts_1 s k x0 x1 x2 x3 (j + 1) env res l m i 0 = (s.f_r12_Look_value ((i1, 0, ()), env, (st.E.getD 0 dd_TExpr).re, 2, ())).bind fun u => tailS s k x0 x1 x2 x3 j env res l m st u.2.1.1 u.2.1.2.1 := by
  rcases hop with hop | hop | hop <;> simp only [Lr12_Look_stmts_1, tailS, hm, h0, h1, hn, hst, hop, hE, ↓reduceIte, Int.reduceBEq, Int.reduceBNe, Bool.false_eq_true, bne_self_eq_false, beq_self_eq_true, Option.bind_some, Bool.and_self, Int.toNat_zero, Int.toNat_one, Bool.true_and, decide_true]
theorem S_6 (hop : st.Op = 6) (hE : (0 : Int) < (st.E.length : Int)) (hE1 : (1 : Int) < (st.E.length : Int)) : Lr12_Look_stmts_1 s k x0 x1 x2 x3 (j + 1) env res l m i 0 = (s.f_r12_Look_variable ((i1, 0, ()), env, st.Name, ())).bind fun t => if (t.1.Kind != 1 || t.1.Size != 0) = true then
    (s.f_r12_Look_fail ((t.2.1.1, t.2.1.2.1, ()), 14, ())).bind fun q => (s.f_r12_Look_value ((q.2.1.1, q.2.1.2.1, ()), env, (st.E.getD 0 dd_TExpr).re, 1, ())).bind fun u => (s.f_r12_Look_value ((u.2.1.1, u.2.1.2.1, ()), env, (st.E.getD 1 dd_TExpr).re, 1, ())).bind fun v => tailS s k x0 x1 x2 x3 j env res l m st v.2.1.1 v.2.1.2.1
    else (s.f_r12_Look_value ((t.2.1.1, t.2.1.2.1, ()), env, (st.E.getD 0 dd_TExpr).re, 1, ())).bind fun u => (s.f_r12_Look_value ((u.2.1.1, u.2.1.2.1, ()), env, (st.E.getD 1 dd_TExpr).re, 1, ())).bind fun v => tailS s k x0 x1 x2 x3 j env res l m st v.2.1.1 v.2.1.2.1 := by
  simp only [Lr12_Look_stmts_1, tailS, hm, h0, h1, hn, hst, hop, hE, hE1, ↓reduceIte, Int.reduceBEq, Int.reduceBNe, Bool.false_eq_true, bne_self_eq_false, beq_self_eq_true, Option.bind_some, Bool.and_self, Int.toNat_zero, Int.toNat_one, Bool.true_and, decide_true]
theorem S_7 (hop : st.Op = 7) : Lr12_Look_stmts_1 s k x0 x1 x2 x3 (j + 1) env res l m i 0 = (s.f_r12_Look_value ((i1, 0, ()), env, st.sub_P, 0, ())).bind fun t => if (t.1 == 2) = true then (s.f_r12_Look_fail ((t.2.1.1, t.2.1.2.1, ()), 14, ())).bind fun q => tailS s k x0 x1 x2 x3 j env res l m st q.2.1.1 q.2.1.2.1 else tailS s k x0 x1 x2 x3 j env res l m st t.2.1.1 t.2.1.2.1 := by
  simp only [Lr12_Look_stmts_1, tailS, hm, h0, h1, hn, hst, hop, ↓reduceIte, Int.reduceBEq, Int.reduceBNe, Bool.false_eq_true, bne_self_eq_false, beq_self_eq_true, Option.bind_some, Bool.and_self, Int.toNat_zero, Int.toNat_one, Bool.true_and, decide_true]
theorem S_8 (hop : st.Op = 8) (hE : (0 : Int) < (st.E.length : Int)) : Lr12_Look_stmts_1 s k x0 x1 x2 x3 (j + 1) env res l m i 0 = (s.f_r12_Look_value ((i1, 0, ()), env, (st.E.getD 0 dd_TExpr).re, 0, ())).bind fun u => tailS s k x0 x1 x2 x3 j env res l m st u.2.1.1 u.2.1.2.1 := by
  simp only [Lr12_Look_stmts_1, tailS, hm, h0, h1, hn, hst, hop, hE, ↓reduceIte, Int.reduceBEq, Int.reduceBNe, Bool.false_eq_true, bne_self_eq_false, beq_self_eq_true, Option.bind_some, Bool.and_self, Int.toNat_zero, Int.toNat_one, Bool.true_and, decide_true]
theorem S_9 (hop : st.Op = 9) : Lr12_Look_stmts_1 s k x0 x1 x2 x3 (j + 1) env res l m i 0 = if (!decide (res > 0) == decide ((st.E.length : Int) > 0)) = true then (s.f_r12_Look_fail ((i1, 0, ()), 16, ())).bind fun q => (if decide ((st.E.length : Int) > 0) = true then (if (0 : Int) < (st.E.length : Int) then (s.f_r12_Look_value ((q.2.1.1, q.2.1.2.1, ()), env, (st.E.getD 0 dd_TExpr).re, res, ())).bind fun u => tailS s k x0 x1 x2 x3 j env res l m st u.2.1.1 u.2.1.2.1 else none) else tailS s k x0 x1 x2 x3 j env res l m st q.2.1.1 q.2.1.2.1)
    else (if decide ((st.E.length : Int) > 0) = true then (if (0 : Int) < (st.E.length : Int) then (s.f_r12_Look_value ((i1, 0, ()), env, (st.E.getD 0 dd_TExpr).re, res, ())).bind fun u => tailS s k x0 x1 x2 x3 j env res l m st u.2.1.1 u.2.1.2.1 else none) else tailS s k x0 x1 x2 x3 j env res l m st i1 0) := by
  simp only [Lr12_Look_stmts_1, tailS, hm, h0, h1, hn, hst, hop, ↓reduceIte, Int.reduceBEq, Int.reduceBNe, Bool.false_eq_true, bne_self_eq_false, beq_self_eq_true, Option.bind_some, Bool.and_self, Int.toNat_zero, Int.toNat_one, Bool.true_and, decide_true]
end
mutual
def shS : TStmt → Prop
  | ⟨_, _, op, _, po, pn, pnm, pf, pl, E, _, _, body, els, _, _⟩ => ((1 ≤ op ∧ op ≤ 9) ∧ (op = 1 ∨ op = 7 → shE ⟨po, pn, pnm, pf, pl⟩) ∧ (∀ e ∈ E, shE e) ∧ (op ≠ 7 → op ≠ 9 → 1 ≤ E.length) ∧ (op = 6 → 2 ≤ E.length)) ∧ shSs body ∧ shSs els
def shSs : List TStmt → Prop
  | [] => True
  | x :: r => shS x ∧ shSs r
end
theorem shSs_at : ∀ (l : List TStmt) (i : Nat) (hi : i < l.length), shSs l → shS l[i]
  | x :: r, 0, _, h => by
    simp only [shSs] at h
    exact h.1
  | x :: r, i + 1, hi, h => by
    simp only [shSs] at h
    exact shSs_at r i (by simpa using hi) h.2
theorem shS_parts {x : TStmt} (h : shS x) : ((1 ≤ x.Op ∧ x.Op ≤ 9) ∧ (x.Op = 1 ∨ x.Op = 7 → shE x.sub_P) ∧ (∀ e ∈ x.E, shE e) ∧ (x.Op ≠ 7 → x.Op ≠ 9 → 1 ≤ x.E.length) ∧ (x.Op = 6 → 2 ≤ x.E.length)) ∧ shSs x.Body ∧ shSs x.Else := by
  cases x
  simp only [shS] at h
  exact h
def okS (S : ByteArray → Prop) (x : TStmt) : Prop := ∀ q ∈ nmS x, S q
def okSs (S : ByteArray → Prop) (l : List TStmt) : Prop := ∀ q ∈ nmSs l, S q
theorem okSs_at {S : ByteArray → Prop} {l : List TStmt} (h : okSs S l) (i : Nat) (hi : i < l.length) : okS S l[i] := fun q hq => h q (by
  rw [nmSs_eq]
  exact List.mem_flatMap.2 ⟨_, List.getElem_mem hi, hq⟩)
theorem okS_parts {S : ByteArray → Prop} {x : TStmt} (h : okS S x) : okN S x.Name ∧ okE S x.sub_P ∧ (∀ i (hi : i < x.E.length), okE S x.E[i]) ∧ okSs S x.Body ∧ okSs S x.Else := by
  cases x
  refine ⟨fun q hq => h q ?_, fun q hq => h q ?_, fun i hi q hq => h q ?_, fun q hq => h q ?_, fun q hq => h q ?_⟩ <;> simp only [nmS, List.mem_append]
  · exact .inl hq
  · exact .inr (.inl hq)
  · refine .inr (.inr (.inl ?_))
    rw [nmEs_eq]
    exact List.mem_flatMap.2 ⟨_, List.getElem_mem hi, hq⟩
  · exact .inr (.inr (.inr (.inl hq)))
  · exact .inr (.inr (.inr (.inr hq)))
theorem mapS_parts (o : ByteArray → ByteArray) (x : TStmt) : (mapS o x).Op = x.Op ∧ (mapS o x).Name = mapN o x.Name ∧ (mapS o x).sub_P = mapE o x.sub_P ∧ (mapS o x).E = x.E.map (mapE o) ∧ (mapS o x).Body = x.Body.map (mapS o) ∧ (mapS o x).Else = x.Else.map (mapS o) ∧ (mapS o x).More = x.More := by
  cases x
  simp only [mapS, TStmt.sub_P, mapE, mapEs_eq, mapSs_eq, and_self]
end Go.Ev
end
section
open Go
namespace Go.Ev
open Go.Proofs.YtlepjafokfhnfaaGreatDoor
set_option maxRecDepth 100000
set_option maxHeartbeats 4000000
set_option linter.unusedVariables false
set_option linter.unusedSimpArgs false
set_option linter.unusedSectionVars false
def outU (r r' : Option (Unit × (Int × Int × Unit) × Unit)) : Prop := ∃ i' e', r = some ((), (i', e', ()), ()) ∧ r' = some ((), (i', e', ()), ())
section
variable (o : ByteArray → ByteArray) (S : ByteArray → Prop) (hO : InjO o S)
def relS (K : Nat) : Prop := ∀ (i e : Int) (env : List Tr12_Thing) (res : Int) (l : List TStmt), shSs l → okSs S l → okEnv S env → env.length ≤ 2097152 → bks_TStmt l ≤ 1048576 → 8 * bks_TStmt l + 3000100 ≤ K →
  outU ((FF hFam K).f_r12_Look_stmts ((i, e, ()), env, res, l, ())) ((FF hFam K).f_r12_Look_stmts ((i, e, ()), env.map (mTh o), res, l.map (mapS o), ()))
include hO
theorem relS_all : ∀ K, relS o S K
  | 0 => fun i e env res l _ _ _ _ _ hk => by omega
  | K + 1 => fun i0 e0 env res l hs hx he hl hb hk => by
    have hS := relS_all K
    obtain ⟨K', rfl⟩ : ∃ K', K = K' + 2 := ⟨K - 2, by omega⟩
    have hV := relV_all o S hO (K' + 1)
    have hE := relE_all o S hO (K' + 2)
    have hlm : (env.map (mTh o)).length = env.length := List.length_map ..
    have hlen := bks_Stmt_len l
    show outU (B_r12_Look_stmts (FF hFam (K' + 2)) (K' + 2) (i0, e0, ()) env res l) (B_r12_Look_stmts (FF hFam (K' + 2)) (K' + 2) (i0, e0, ()) (env.map (mTh o)) res (l.map (mapS o)))
    unfold B_r12_Look_stmts
    have key : ∀ j m, m ≤ l.length → l.length - m < j → ∀ i e : Int, outU (Lr12_Look_stmts_1 (FF hFam (K' + 2)) (K' + 2) (i0, e0, ()) env res l j env res l (m : Int) i e) (Lr12_Look_stmts_1 (FF hFam (K' + 2)) (K' + 2) (i0, e0, ()) (env.map (mTh o)) res (l.map (mapS o)) j (env.map (mTh o)) res (l.map (mapS o)) (m : Int) i e) := by
      refine up_ind l.length (fun j i e => ?_) (fun j m hm ih i e => ?_)
      · refine ⟨i, e, ?_, ?_⟩
        · simp only [Lr12_Look_stmts_1]
          rw [if_neg (by simp)]
        · simp only [Lr12_Look_stmts_1, List.length_map]
          rw [if_neg (by simp)]
      · have hm' : m < (l.map (mapS o)).length := by simpa using hm
        by_cases h0 : e = 0
        · subst h0
          have hbm := bks_Stmt_mem l m hm
          have hbn := bk_StmtN l[m]
          obtain ⟨⟨⟨p1, p2⟩, p3, p4, p5, p6⟩, p7, p8⟩ := shS_parts (shSs_at l m hm hs)
          obtain ⟨n1, n2, n3, n4, n5⟩ := okS_parts (okSs_at hx m hm)
          obtain ⟨m1, m2, m3, m4, m5, m6, m7⟩ := mapS_parts o l[m]
          have hn := next_ok (K' + 1) i 0 rfl
          have ew := wrap_succ hm (show l.length ≤ maxLen by simp only [maxLen]; omega)
          have g1 : l.getD (m : Int).toNat dd_TStmt = l[m] := getD_at l m _ hm
          have g2 : (l.map (mapS o)).getD (m : Int).toNat dd_TStmt = mapS o l[m] := by rw [getD_at _ m _ hm']; simp
          have c0 : (0 : Int) ≤ (m : Int) := by omega
          have c1 : (m : Int) < (l.length : Int) := by omega
          have c2 : (m : Int) < ((l.map (mapS o)).length : Int) := by omega
          generalize hi1 : IntKind.i64.wrap (i + 1) = i1 at hn
          generalize hst : l[m] = st at hbm hbn p1 p2 p3 p4 p5 p6 p7 p8 n1 n2 n3 n4 n5 m1 m2 m3 m4 m5 m6 m7 g1 g2
          have tail : ∀ i e : Int, outU (tailS (FF hFam (K' + 2)) (K' + 2) (i0, e0, ()) env res l j env res l (m : Int) st i e) (tailS (FF hFam (K' + 2)) (K' + 2) (i0, e0, ()) (env.map (mTh o)) res (l.map (mapS o)) j (env.map (mTh o)) res (l.map (mapS o)) (m : Int) (mapS o st) i e) := by
            intro i e
            unfold tailS
            obtain ⟨i2, e2, a1, a2⟩ := hS i e env res st.Body p7 n4 he hl (by omega) (by omega)
            obtain ⟨i3, e3, b1, b2⟩ := hS i2 e2 env res st.Else p8 n5 he hl (by omega) (by omega)
            rw [m5, m6, a1, a2, Option.bind_some, Option.bind_some, b1, b2, Option.bind_some, Option.bind_some, ew]
            exact ih i3 e3
          have hEl := bks_Expr_len st.E
          have vE : ∀ (i e : Int) (q : Nat) (hq : q < st.E.length) (kd : Int), outV ((FF hFam (K' + 2)).f_r12_Look_value ((i, e, ()), env, (st.E.getD q dd_TExpr).re, kd, ())) ((FF hFam (K' + 2)).f_r12_Look_value ((i, e, ()), env.map (mTh o), ((mapS o st).E.getD q dd_TExpr).re, kd, ())) e := fun i e q hq kd => by
            have hbq := bks_Expr_mem st.E q hq
            have e1 : st.E.getD q dd_TExpr = st.E[q] := by simp [hq]
            have e2 : (mapS o st).E.getD q dd_TExpr = mapE o st.E[q] := by rw [m4]; simp [hq]
            rw [e1, e2, TExpr.re_eq, TExpr.re_eq]
            exact hV i e env st.E[q] kd (p4 _ (List.getElem_mem hq)) (n3 q hq) he hl (by omega) (by omega)
          have hEm : ((mapS o st).E.length : Int) = (st.E.length : Int) := by rw [m4, List.length_map]
          have cs : st.Op = 1 ∨ st.Op = 2 ∨ (st.Op = 3 ∨ st.Op = 4 ∨ st.Op = 5) ∨ st.Op = 6 ∨ st.Op = 7 ∨ st.Op = 8 ∨ st.Op = 9 := by omega
          rcases cs with h | h | h | h | h | h | h
          · have hE0 := p5 (by omega) (by omega)
            rw [S_1 _ _ _ _ _ _ _ _ _ _ _ st i i1 (lt_dec hm) c0 c1 hn g1 h (by omega), S_1 _ _ _ _ _ _ _ _ _ _ _ (mapS o st) i i1 (lt_dec hm') c0 c2 hn g2 (by rw [m1]; exact h) (by rw [hEm]; omega), m3]
            obtain ⟨kd, i2, e2, a1, a2, _⟩ := hV i1 0 env st.sub_P 0 (p3 (.inl h)) n2 he hl (by omega) (by omega)
            rw [a1, a2, Option.bind_some, Option.bind_some]
            obtain ⟨kd2, i3, e3, b1, b2, _⟩ := vE i2 e2 0 (by omega) kd
            rw [b1, b2]
            exact tail i3 e3
          · have hE0 := p5 (by omega) (by omega)
            rw [S_2 _ _ _ _ _ _ _ _ _ _ _ st i i1 (lt_dec hm) c0 c1 hn g1 h (by omega), S_2 _ _ _ _ _ _ _ _ _ _ _ (mapS o st) i i1 (lt_dec hm') c0 c2 hn g2 (by rw [m1]; exact h) (by rw [hEm]; omega)]
            have hq : 0 < st.E.length := by omega
            have hbq := bks_Expr_mem st.E 0 hq
            have e1 : st.E.getD 0 dd_TExpr = st.E[0] := by simp [hq]
            have e2 : (mapS o st).E.getD 0 dd_TExpr = mapE o st.E[0] := by rw [m4]; simp [hq]
            obtain ⟨t, i2, e3, a1, a2, _, _⟩ := hE i1 0 env st.E[0] true (p4 _ (List.getElem_mem hq)) (n3 0 hq) he hl (by omega) (by omega)
            rw [e1, e2, TExpr.re_eq, TExpr.re_eq, a1, a2]
            exact tail i2 e3
          · have hE0 := p5 (by omega) (by omega)
            rw [S_3 _ _ _ _ _ _ _ _ _ _ _ st i i1 (lt_dec hm) c0 c1 hn g1 h (by omega), S_3 _ _ _ _ _ _ _ _ _ _ _ (mapS o st) i i1 (lt_dec hm') c0 c2 hn g2 (by rw [m1]; exact h) (by rw [hEm]; omega)]
            obtain ⟨kd2, i3, e3, b1, b2, _⟩ := vE i1 0 0 (by omega) 2
            rw [b1, b2]
            exact tail i3 e3
          · have hE0 := p6 h
            rw [S_6 _ _ _ _ _ _ _ _ _ _ _ st i i1 (lt_dec hm) c0 c1 hn g1 h (by omega) (by omega), S_6 _ _ _ _ _ _ _ _ _ _ _ (mapS o st) i i1 (lt_dec hm') c0 c2 hn g2 (by rw [m1]; exact h) (by rw [hEm]; omega) (by rw [hEm]; omega), m2]
            have hv1 := variable_ok K' i1 0 env st.Name (by omega) (by omega)
            have hv2 := variable_ok K' i1 0 (env.map (mTh o)) (mapN o st.Name) (by rw [hlm]; omega) (by rw [hlm]; omega)
            rw [varT_map hO he n1, varE_map hO he n1] at hv2
            rw [hv1, hv2, Option.bind_some, Option.bind_some]
            have mk : (mTy o (varT env st.Name)).Kind = (varT env st.Name).Kind := rfl
            have mz : (mTy o (varT env st.Name)).Size = (varT env st.Name).Size := rfl
            simp only [mk, mz]
            have both : ∀ e : Int, outU (((FF hFam (K' + 2)).f_r12_Look_value ((i1, e, ()), env, (st.E.getD 0 dd_TExpr).re, 1, ())).bind fun u => ((FF hFam (K' + 2)).f_r12_Look_value ((u.2.1.1, u.2.1.2.1, ()), env, (st.E.getD 1 dd_TExpr).re, 1, ())).bind fun v => tailS (FF hFam (K' + 2)) (K' + 2) (i0, e0, ()) env res l j env res l (m : Int) st v.2.1.1 v.2.1.2.1)
                (((FF hFam (K' + 2)).f_r12_Look_value ((i1, e, ()), env.map (mTh o), ((mapS o st).E.getD 0 dd_TExpr).re, 1, ())).bind fun u => ((FF hFam (K' + 2)).f_r12_Look_value ((u.2.1.1, u.2.1.2.1, ()), env.map (mTh o), ((mapS o st).E.getD 1 dd_TExpr).re, 1, ())).bind fun v => tailS (FF hFam (K' + 2)) (K' + 2) (i0, e0, ()) (env.map (mTh o)) res (l.map (mapS o)) j (env.map (mTh o)) res (l.map (mapS o)) (m : Int) (mapS o st) v.2.1.1 v.2.1.2.1) := by
              intro e
              obtain ⟨k2, i2, e2, a1, a2, _⟩ := vE i1 e 0 (by omega) 1
              rw [a1, a2, Option.bind_some, Option.bind_some]
              obtain ⟨k3, i3, e3, b1, b2, _⟩ := vE i2 e2 1 (by omega) 1
              rw [b1, b2]
              exact tail i3 e3
            cases hc : ((varT env st.Name).Kind != 1 || (varT env st.Name).Size != 0) with
            | true =>
              simp only [↓reduceIte, fail_ok, Option.bind_some]
              exact both _
            | false =>
              simp only [Bool.false_eq_true, ↓reduceIte]
              exact both _
          · rw [S_7 _ _ _ _ _ _ _ _ _ _ _ st i i1 (lt_dec hm) c0 c1 hn g1 h, S_7 _ _ _ _ _ _ _ _ _ _ _ (mapS o st) i i1 (lt_dec hm') c0 c2 hn g2 (by rw [m1]; exact h), m3]
            obtain ⟨kd, i2, e2, a1, a2, _⟩ := hV i1 0 env st.sub_P 0 (p3 (.inr h)) n2 he hl (by omega) (by omega)
            rw [a1, a2, Option.bind_some, Option.bind_some]
            simp only
            cases hc : (kd == 2) with
            | true =>
              simp only [↓reduceIte, fail_ok, Option.bind_some]
              exact tail _ _
            | false =>
              simp only [Bool.false_eq_true, ↓reduceIte]
              exact tail _ _
          · have hE0 := p5 (by omega) (by omega)
            rw [S_8 _ _ _ _ _ _ _ _ _ _ _ st i i1 (lt_dec hm) c0 c1 hn g1 h (by omega), S_8 _ _ _ _ _ _ _ _ _ _ _ (mapS o st) i i1 (lt_dec hm') c0 c2 hn g2 (by rw [m1]; exact h) (by rw [hEm]; omega)]
            obtain ⟨kd2, i3, e3, b1, b2, _⟩ := vE i1 0 0 (by omega) 0
            rw [b1, b2]
            exact tail i3 e3
          · rw [S_9 _ _ _ _ _ _ _ _ _ _ _ st i i1 (lt_dec hm) c0 c1 hn g1 h, S_9 _ _ _ _ _ _ _ _ _ _ _ (mapS o st) i i1 (lt_dec hm') c0 c2 hn g2 (by rw [m1]; exact h), hEm]
            have rest : ∀ e : Int, outU (if decide ((st.E.length : Int) > 0) = true then (if (0 : Int) < (st.E.length : Int) then ((FF hFam (K' + 2)).f_r12_Look_value ((i1, e, ()), env, (st.E.getD 0 dd_TExpr).re, res, ())).bind fun u => tailS (FF hFam (K' + 2)) (K' + 2) (i0, e0, ()) env res l j env res l (m : Int) st u.2.1.1 u.2.1.2.1 else none) else tailS (FF hFam (K' + 2)) (K' + 2) (i0, e0, ()) env res l j env res l (m : Int) st i1 e)
                (if decide ((st.E.length : Int) > 0) = true then (if (0 : Int) < (st.E.length : Int) then ((FF hFam (K' + 2)).f_r12_Look_value ((i1, e, ()), env.map (mTh o), ((mapS o st).E.getD 0 dd_TExpr).re, res, ())).bind fun u => tailS (FF hFam (K' + 2)) (K' + 2) (i0, e0, ()) (env.map (mTh o)) res (l.map (mapS o)) j (env.map (mTh o)) res (l.map (mapS o)) (m : Int) (mapS o st) u.2.1.1 u.2.1.2.1 else none) else tailS (FF hFam (K' + 2)) (K' + 2) (i0, e0, ()) (env.map (mTh o)) res (l.map (mapS o)) j (env.map (mTh o)) res (l.map (mapS o)) (m : Int) (mapS o st) i1 e) := by
              intro e
              by_cases hz : 0 < st.E.length
              · have hz1 : decide ((st.E.length : Int) > 0) = true := by simpa using hz
                have hz2 : (0 : Int) < (st.E.length : Int) := by omega
                simp only [hz1, hz2, ↓reduceIte]
                obtain ⟨kd2, i3, e3, b1, b2, _⟩ := vE i1 e 0 hz res
                rw [b1, b2]
                exact tail i3 e3
              · have hz1 : decide ((st.E.length : Int) > 0) = false := by simpa using hz
                simp only [hz1, Bool.false_eq_true, ↓reduceIte]
                exact tail i1 e
            cases hc : (!decide (res > 0) == decide ((st.E.length : Int) > 0)) with
            | true =>
              simp only [↓reduceIte, fail_ok, Option.bind_some]
              exact rest _
            | false =>
              simp only [Bool.false_eq_true, ↓reduceIte]
              exact rest _
        · have hn := next_no (K' + 1) i e h0
          refine ⟨i, e, ?_, ?_⟩
          · simp only [Lr12_Look_stmts_1]
            rw [if_pos (lt_dec hm), hn, Option.bind_some, if_neg (by simp)]
          · simp only [Lr12_Look_stmts_1]
            rw [if_pos (lt_dec hm'), hn, Option.bind_some, if_neg (by simp)]
    have := key (K' + 2) 0 (Nat.zero_le _) (by omega) i0 e0
    exact this
end
end Go.Ev
end
section
open Go
namespace Go.Ev
open Go.Proofs.YtlepjafokfhnfaaGreatDoor
set_option maxRecDepth 100000
set_option maxHeartbeats 4000000
set_option linter.unusedVariables false
set_option linter.unusedSimpArgs false
set_option linter.unusedSectionVars false
theorem Ends_all (o : ByteArray → ByteArray) : ∀ K l, bks_TStmt l ≤ 1048576 → 2 * bks_TStmt l + 10 ≤ K → ∃ b, (FF hFam K).f_r12_Ends (l, ()) = some b ∧ (FF hFam K).f_r12_Ends (l.map (mapS o), ()) = some b
  | 0, l, _, hk => by omega
  | K + 1, l, hb, hk => by
    have hlen := bks_Stmt_len l
    show ∃ b, B_r12_Ends (FF hFam K) K l = some b ∧ B_r12_Ends (FF hFam K) K (l.map (mapS o)) = some b
    unfold B_r12_Ends
    have key : ∀ j m, m ≤ l.length → l.length - m < j → ∃ b, Lr12_Ends_2 (FF hFam K) K l j l (m : Int) = some b ∧ Lr12_Ends_2 (FF hFam K) K (l.map (mapS o)) j (l.map (mapS o)) (m : Int) = some b := by
      refine up_ind l.length (fun j => ?_) (fun j m hm ih => ?_)
      · refine ⟨false, ?_, ?_⟩
        · simp only [Lr12_Ends_2]
          rw [if_neg (by simp)]
        · simp only [Lr12_Ends_2, List.length_map]
          rw [if_neg (by simp)]
      · have hm' : m < (l.map (mapS o)).length := by simpa using hm
        have hbm := bks_Stmt_mem l m hm
        have hbn := bk_StmtN l[m]
        obtain ⟨m1, m2, m3, m4, m5, m6, m7⟩ := mapS_parts o l[m]
        have ew := wrap_succ hm (show l.length ≤ maxLen by simp only [maxLen]; omega)
        have g1 : l.getD (m : Int).toNat dd_TStmt = l[m] := getD_at l m _ hm
        have g2 : (l.map (mapS o)).getD (m : Int).toNat dd_TStmt = mapS o l[m] := by rw [getD_at _ m _ hm']; simp
        have c0 : (0 : Int) ≤ (m : Int) := by omega
        have c1 : (m : Int) < (l.length : Int) := by omega
        have c2 : (m : Int) < ((l.map (mapS o)).length : Int) := by omega
        obtain ⟨b, h1, h2⟩ := ih
        generalize hst : l[m] = st at hbm hbn m1 m2 m3 m4 m5 m6 m7 g1 g2
        obtain ⟨b1, u1, u2⟩ := Ends_all o K st.Body (by omega) (by omega)
        obtain ⟨b2, w1, w2⟩ := Ends_all o K st.Else (by omega) (by omega)
        rw [← m5] at u2
        rw [← m6] at w2
        simp only [Lr12_Ends_2, c0, c1, c2, g1, g2, decide_true, ↓reduceIte, m1, m7, u1, u2, w1, w2, Option.bind_some, ew, h1, h2]
        cases (st.Op == 9) <;> cases (st.Op == 3) <;> cases st.More <;> cases b1 <;> cases b2 <;> exact ⟨_, rfl, rfl⟩
    exact key K 0 (Nat.zero_le _) (by omega)
def thR (r : TRoutine) : Tr12_Thing := { zTh with Name := r.Name, Kind := 2, R_Marks_Before := r.Marks_Before, R_Marks_Trail := r.Marks_Trail, R_Name := r.Name, R_Result := r.Result, R_Params := r.Params, R_Vars := r.Vars, R_Inner := r.Inner, R_Body := r.Body, R_End := r.End }
def thV (v : TVar) : Tr12_Thing := { zTh with Name := v.Name, Kind := 3, T_Kind := v.T_Kind, T_Size := v.T_Size, T_Name := v.T_Name }
def thA (v : TParam) : Tr12_Thing := { zTh with Name := v.Name, Kind := 3, T_Kind := v.T_Kind, T_Size := v.T_Size, T_Name := v.T_Name }
def thC (r : TRec) : Tr12_Thing := { zTh with Name := r.Name, Kind := 1, Rec_Marks_Before := r.Marks_Before, Rec_Marks_Trail := r.Marks_Trail, Rec_Name := r.Name, Rec_Fields := r.Fields, Rec_End := r.End }
theorem thR_map (o : ByteArray → ByteArray) (r : TRoutine) : thR (mapR o r) = mTh o (thR r) := by cases r; simp only [thR, mapR, mTh, zTh, mapN_empty]; rfl
theorem thV_map (o : ByteArray → ByteArray) (r : TVar) : thV (mapV o r) = mTh o (thV r) := by cases r; simp only [thV, mapV, mTh, zTh, mapN_empty]; rfl
theorem thA_map (o : ByteArray → ByteArray) (r : TParam) : thA (mapA o r) = mTh o (thA r) := by cases r; simp only [thA, mapA, mTh, zTh, mapN_empty]; rfl
theorem thC_map (o : ByteArray → ByteArray) (r : TRec) : thC (mapC o r) = mTh o (thC r) := by cases r; simp only [thC, mapC, mTh, zTh, mapN_empty]; rfl
def okV (S : ByteArray → Prop) (v : TVar) : Prop := okN S v.Name ∧ okN S v.T_Name
def okA (S : ByteArray → Prop) (v : TParam) : Prop := okN S v.Name ∧ okN S v.T_Name
def okC (S : ByteArray → Prop) (r : TRec) : Prop := okN S r.Name ∧ (∀ f ∈ r.Fields, okN S f.Name) ∧ r.Fields.length ≤ 2097152
theorem okThV {S : ByteArray → Prop} {v : TVar} (h : okV S v) : okTh S (thV v) := ⟨h.1, fun y hy => (by cases hy), fun y hy => (by cases hy), h.2, Nat.zero_le _⟩
theorem okThA {S : ByteArray → Prop} {v : TParam} (h : okA S v) : okTh S (thA v) := ⟨h.1, fun y hy => (by cases hy), fun y hy => (by cases hy), h.2, Nat.zero_le _⟩
theorem okThC {S : ByteArray → Prop} {v : TRec} (h : okC S v) : okTh S (thC v) := ⟨h.1, h.2.1, fun y hy => (by cases hy), okN_empty S, h.2.2⟩
theorem okEnv_snoc {S : ByteArray → Prop} {env : List Tr12_Thing} {x : Tr12_Thing} (h : okEnv S env) (hx : okTh S x) : okEnv S (env ++ [x]) := fun y hy => by
  rw [List.mem_append] at hy
  rcases hy with hy | hy
  · exact h y hy
  · simp at hy; subst hy; exact hx
theorem Visible_ok (k : Nat) (env : List Tr12_Thing) (l : List TRoutine) (hm : env.length + l.length ≤ 4194304) (hk : l.length < k) : (FF hFam (k + 2)).f_r12_Visible (env, l, ()) = some (env ++ l.map thR) := by
  show B_r12_Visible (FF hFam (k + 1)) (k + 1) env l = _
  unfold B_r12_Visible
  have key : ∀ j m, m ≤ l.length → l.length - m < j → ∀ env' : List Tr12_Thing, env'.length = env.length + m → Lr12_Visible_2 (FF hFam (k + 1)) (k + 1) env l j env' l (m : Int) = some (env' ++ (l.drop m).map thR) := by
    refine up_ind l.length (fun j env' he => ?_) (fun j m hm' ih env' he => ?_)
    · simp only [Lr12_Visible_2]
      rw [if_neg (by simp), List.drop_length]
      simp
    · have hd := List.drop_eq_getElem_cons hm'
      simp only [Lr12_Visible_2]
      rw [if_pos (lt_dec hm'), if_pos (by omega), if_pos (by omega), if_pos (by omega), if_pos (by omega), getD_at l m _ hm', with_ok k env' _ (by omega), Option.bind_some, wrap_succ hm' (by simp only [maxLen]; omega), ih _ (by simp only [List.length_append, List.length_singleton]; omega), hd, List.map_cons, List.append_assoc]
      rfl
  have := key (k + 1) 0 (Nat.zero_le _) (by omega) env (by omega)
  simpa using this
section
variable (o : ByteArray → ByteArray) (S : ByteArray → Prop) (hO : InjO o S)
def outN (r r' : Option (List Tr12_Thing × (Int × Int × Unit) × Unit)) (n : Nat) : Prop := ∃ env' i' e', r = some (env', (i', e', ()), ()) ∧ r' = some (env'.map (mTh o), (i', e', ()), ()) ∧ okEnv S env' ∧ env'.length ≤ n
include hO
theorem kind_map {env : List Tr12_Thing} (he : okEnv S env) {n : ByteArray} (hn : okN S n) : (findE (env.map (mTh o)) (mapN o n)).Kind = (findE env n).Kind := by
  rw [find_map hO hn he]
  rfl
theorem vars_all (k : Nat) (i0 e0 : Int) (env0 : List Tr12_Thing) (vs : List TVar) (rs : List TRoutine) (hv : ∀ v ∈ vs, okV S v) (hr : ∀ r ∈ rs, okN S r.Name) (he : okEnv S env0) (hl : env0.length + vs.length ≤ 2097152) (hrl : rs.length ≤ 2097152) (hk : 3000000 ≤ k) :
    outN o S ((FF hFam (k + 3)).f_r12_Look_vars ((i0, e0, ()), env0, vs, rs, ())) ((FF hFam (k + 3)).f_r12_Look_vars ((i0, e0, ()), env0.map (mTh o), vs.map (mapV o), rs.map (mapR o), ())) (env0.length + vs.length) := by
  show outN o S (B_r12_Look_vars (FF hFam (k + 2)) (k + 2) (i0, e0, ()) env0 vs rs) (B_r12_Look_vars (FF hFam (k + 2)) (k + 2) (i0, e0, ()) (env0.map (mTh o)) (vs.map (mapV o)) (rs.map (mapR o))) _
  unfold B_r12_Look_vars
  have key : ∀ j m, m ≤ vs.length → vs.length - m < j → ∀ (env : List Tr12_Thing) (i e : Int), okEnv S env → env.length = env0.length + m →
      outN o S (Lr12_Look_vars_2 (FF hFam (k + 2)) (k + 2) (i0, e0, ()) env0 vs rs j env vs rs (m : Int) i e) (Lr12_Look_vars_2 (FF hFam (k + 2)) (k + 2) (i0, e0, ()) (env0.map (mTh o)) (vs.map (mapV o)) (rs.map (mapR o)) j (env.map (mTh o)) (vs.map (mapV o)) (rs.map (mapR o)) (m : Int) i e) (env0.length + vs.length) := by
    refine up_ind vs.length (fun j env i e hE hel => ?_) (fun j m hm ih env i e hE hel => ?_)
    · refine ⟨env, i, e, ?_, ?_, hE, by omega⟩
      · simp only [Lr12_Look_vars_2]
        rw [if_neg (by simp)]
      · simp only [Lr12_Look_vars_2, List.length_map]
        rw [if_neg (by simp)]
    · have hm' : m < (vs.map (mapV o)).length := by simpa using hm
      by_cases h0 : e = 0
      · subst h0
        have hlm : (env.map (mTh o)).length = env.length := List.length_map ..
        have ew := wrap_succ hm (show vs.length ≤ maxLen by simp only [maxLen]; omega)
        have g1 : vs.getD (m : Int).toNat dd_TVar = vs[m] := getD_at vs m _ hm
        have g2 : (vs.map (mapV o)).getD (m : Int).toNat dd_TVar = mapV o vs[m] := by rw [getD_at _ m _ hm']; simp
        have c0 : (0 : Int) ≤ (m : Int) := by omega
        have c1 : (m : Int) < (vs.length : Int) := by omega
        have c2 : (m : Int) < ((vs.map (mapV o)).length : Int) := by omega
        have hvm := hv _ (List.getElem_mem hm)
        have hn := next_ok (k + 1) i 0 rfl
        generalize hi1 : IntKind.i64.wrap (i + 1) = i1 at hn
        generalize hst : vs[m] = v at g1 g2 hvm
        have mn : (mapV o v).Name = mapN o v.Name := rfl
        have mt : (mapV o v).sub_T = mTy o v.sub_T := rfl
        have f1 := find_ok (k + 1) env v.Name (by omega) (by omega)
        have f2 := find_ok (k + 1) (env.map (mTh o)) (mapN o v.Name) (by rw [hlm]; omega) (by rw [hlm]; omega)
        have hkd := kind_map o S hO hE hvm.1
        -- behind the routines
        have inner : ∀ j' q, q ≤ rs.length → rs.length - q < j' → ∀ e : Int,
            outN o S (Lr12_Look_vars_7 (FF hFam (k + 2)) (k + 2) (i0, e0, ()) env0 vs rs (Lr12_Look_vars_2 (FF hFam (k + 2)) (k + 2) (i0, e0, ()) env0 vs rs j) j' env vs rs (m : Int) (q : Int) i1 e)
              (Lr12_Look_vars_7 (FF hFam (k + 2)) (k + 2) (i0, e0, ()) (env0.map (mTh o)) (vs.map (mapV o)) (rs.map (mapR o)) (Lr12_Look_vars_2 (FF hFam (k + 2)) (k + 2) (i0, e0, ()) (env0.map (mTh o)) (vs.map (mapV o)) (rs.map (mapR o)) j) j' (env.map (mTh o)) (vs.map (mapV o)) (rs.map (mapR o)) (m : Int) (q : Int) i1 e) (env0.length + vs.length) := by
          refine up_ind rs.length (fun j' e => ?_) (fun j' q hq ihq e => ?_)
          · have t1 := typ_ok k i1 e env v.sub_T (by omega) (by omega)
            have t2 := typ_ok k i1 e (env.map (mTh o)) (mTy o v.sub_T) (by rw [hlm]; omega) (by rw [hlm]; omega)
            rw [typS_map hO hE hvm.2] at t2
            have w1 := with_ok (k + 1) env (thV v) (by omega)
            have w2 := with_ok (k + 1) (env.map (mTh o)) (thV (mapV o v)) (by rw [hlm]; omega)
            have hw1 : ({ Name := v.Name, Kind := 3, Rec_Marks_Before := [], Rec_Marks_Trail := [], Rec_Name := { data := #[] : ByteArray }, Rec_Fields := [], Rec_End := [], R_Marks_Before := [], R_Marks_Trail := [], R_Name := { data := #[] : ByteArray }, R_Result := 0, R_Params := [], R_Vars := [], R_Inner := [], R_Body := [], R_End := [], T_Kind := v.T_Kind, T_Size := v.T_Size, T_Name := v.T_Name } : Tr12_Thing) = thV v := rfl
            have hw2 : ({ Name := (mapV o v).Name, Kind := 3, Rec_Marks_Before := [], Rec_Marks_Trail := [], Rec_Name := { data := #[] : ByteArray }, Rec_Fields := [], Rec_End := [], R_Marks_Before := [], R_Marks_Trail := [], R_Name := { data := #[] : ByteArray }, R_Result := 0, R_Params := [], R_Vars := [], R_Inner := [], R_Body := [], R_End := [], T_Kind := (mapV o v).T_Kind, T_Size := (mapV o v).T_Size, T_Name := (mapV o v).T_Name } : Tr12_Thing) = thV (mapV o v) := rfl
            have hnl : ¬ (decide ((rs.length : Int) < (rs.length : Int)) = true) := by simp
            have hnl' : ¬ (decide ((rs.length : Int) < ((rs.map (mapR o)).length : Int)) = true) := by simp
            simp only [Lr12_Look_vars_7, if_neg hnl, if_neg hnl', c0, c1, c2, g1, g2, ↓reduceIte, mt, t1, t2, Option.bind_some, hw1, hw2, w1, w2, ew]
            have he1 : (env ++ [thV v]).map (mTh o) = env.map (mTh o) ++ [thV (mapV o v)] := by rw [List.map_append, thV_map]; rfl
            rw [← he1]
            exact ih (env ++ [thV v]) i1 _ (okEnv_snoc hE (okThV hvm)) (by simp only [List.length_append, List.length_singleton]; omega)
          · have hq' : q < (rs.map (mapR o)).length := by simpa using hq
            have ewq := wrap_succ hq (show rs.length ≤ maxLen by simp only [maxLen]; omega)
            have q1 : rs.getD (q : Int).toNat dd_TRoutine = rs[q] := getD_at rs q _ hq
            have q2 : (rs.map (mapR o)).getD (q : Int).toNat dd_TRoutine = mapR o rs[q] := by rw [getD_at _ q _ hq']; simp
            have d0 : (0 : Int) ≤ (q : Int) := by omega
            have d1 : (q : Int) < (rs.length : Int) := by omega
            have d2 : (q : Int) < ((rs.map (mapR o)).length : Int) := by omega
            have hb : ((mapR o rs[q]).Name.toList == (mapV o v).Name.toList) = (rs[q].Name.toList == v.Name.toList) := by
              have e1 : (mapR o rs[q]).Name = mapN o rs[q].Name := by cases rs[q]; rfl
              rw [e1, mn]
              exact beq_map hO (hr _ (List.getElem_mem hq)) hvm.1
            simp only [Lr12_Look_vars_7, d0, d1, d2, c0, c1, c2, q1, q2, g1, g2, decide_true, ↓reduceIte, hb, ewq]
            cases rs[q].Name.toList == v.Name.toList with
            | true =>
              simp only [↓reduceIte, fail_ok, Option.bind_some]
              exact ihq _
            | false =>
              simp only [Bool.false_eq_true, ↓reduceIte]
              exact ihq _
        simp only [Lr12_Look_vars_2, c0, c1, c2, g1, g2, hn, decide_true, ↓reduceIte, mn, f1, f2, Option.bind_some, Bool.and_self, hkd]
        cases ((findE env v.Name).Kind != 0) with
        | true =>
          simp only [↓reduceIte, fail_ok, Option.bind_some]
          exact inner (k + 2) 0 (Nat.zero_le _) (by omega) _
        | false =>
          simp only [Bool.false_eq_true, ↓reduceIte]
          exact inner (k + 2) 0 (Nat.zero_le _) (by omega) _
      · have hn := next_no (k + 1) i e h0
        refine ⟨env, i, e, ?_, ?_, hE, by omega⟩
        · simp only [Lr12_Look_vars_2]
          rw [if_pos (lt_dec hm), hn, Option.bind_some, if_neg (by simp)]
        · simp only [Lr12_Look_vars_2]
          rw [if_pos (lt_dec hm'), hn, Option.bind_some, if_neg (by simp)]
  have := key (k + 2) 0 (Nat.zero_le _) (by omega) env0 i0 e0 he (by omega)
  exact this
theorem recs_all (k : Nat) (i0 e0 : Int) (cs : List TRec) (hv : ∀ v ∈ cs, okC S v) (hl : cs.length ≤ 1048576) (hk : 3000000 ≤ k) :
    outN o S ((FF hFam (k + 3)).f_r12_Look_recs ((i0, e0, ()), cs, ())) ((FF hFam (k + 3)).f_r12_Look_recs ((i0, e0, ()), cs.map (mapC o), ())) cs.length := by
  show outN o S (B_r12_Look_recs (FF hFam (k + 2)) (k + 2) (i0, e0, ()) cs) (B_r12_Look_recs (FF hFam (k + 2)) (k + 2) (i0, e0, ()) (cs.map (mapC o))) _
  unfold B_r12_Look_recs
  have key : ∀ j m, m ≤ cs.length → cs.length - m < j → ∀ (env : List Tr12_Thing) (i e : Int), okEnv S env → env.length = m →
      outN o S (Lr12_Look_recs_3 (FF hFam (k + 2)) (k + 2) (i0, e0, ()) cs j cs (m : Int) i e env) (Lr12_Look_recs_3 (FF hFam (k + 2)) (k + 2) (i0, e0, ()) (cs.map (mapC o)) j (cs.map (mapC o)) (m : Int) i e (env.map (mTh o))) cs.length := by
    refine up_ind cs.length (fun j env i e hE hel => ?_) (fun j m hm ih env i e hE hel => ?_)
    · refine ⟨env, i, e, ?_, ?_, hE, by omega⟩
      · simp only [Lr12_Look_recs_3]
        rw [if_neg (by simp)]
      · simp only [Lr12_Look_recs_3, List.length_map]
        rw [if_neg (by simp)]
    · have hm' : m < (cs.map (mapC o)).length := by simpa using hm
      by_cases h0 : e = 0
      · subst h0
        have hlm : (env.map (mTh o)).length = env.length := List.length_map ..
        have ew := wrap_succ hm (show cs.length ≤ maxLen by simp only [maxLen]; omega)
        have g1 : cs.getD (m : Int).toNat dd_TRec = cs[m] := getD_at cs m _ hm
        have g2 : (cs.map (mapC o)).getD (m : Int).toNat dd_TRec = mapC o cs[m] := by rw [getD_at _ m _ hm']; simp
        have c0 : (0 : Int) ≤ (m : Int) := by omega
        have c1 : (m : Int) < (cs.length : Int) := by omega
        have c2 : (m : Int) < ((cs.map (mapC o)).length : Int) := by omega
        have hvm := hv _ (List.getElem_mem hm)
        have hn := next_ok (k + 1) i 0 rfl
        generalize hi1 : IntKind.i64.wrap (i + 1) = i1 at hn
        generalize hst : cs[m] = r at g1 g2 hvm
        have mn : (mapC o r).Name = mapN o r.Name := rfl
        have mf : (mapC o r).Fields = r.Fields.map (mapF o) := rfl
        have f1 := find_ok (k + 1) env r.Name (by omega) (by omega)
        have f2 := find_ok (k + 1) (env.map (mTh o)) (mapN o r.Name) (by rw [hlm]; omega) (by rw [hlm]; omega)
        have hkd := kind_map o S hO hE hvm.1
        have hfl := hvm.2.2
        have inner : ∀ j' a, a ≤ r.Fields.length → r.Fields.length - a < j' → ∀ e : Int,
            outN o S (Lr12_Look_recs_8 (FF hFam (k + 2)) (k + 2) (i0, e0, ()) cs (Lr12_Look_recs_3 (FF hFam (k + 2)) (k + 2) (i0, e0, ()) cs j) j' cs (m : Int) (a : Int) i1 e env)
              (Lr12_Look_recs_8 (FF hFam (k + 2)) (k + 2) (i0, e0, ()) (cs.map (mapC o)) (Lr12_Look_recs_3 (FF hFam (k + 2)) (k + 2) (i0, e0, ()) (cs.map (mapC o)) j) j' (cs.map (mapC o)) (m : Int) (a : Int) i1 e (env.map (mTh o))) cs.length := by
          refine up_ind r.Fields.length (fun j' e => ?_) (fun j' a ha iha e => ?_)
          · have w1 := with_ok (k + 1) env (thC r) (by omega)
            have w2 := with_ok (k + 1) (env.map (mTh o)) (thC (mapC o r)) (by rw [hlm]; omega)
            have hw1 : ({ Name := r.Name, Kind := 1, Rec_Marks_Before := r.Marks_Before, Rec_Marks_Trail := r.Marks_Trail, Rec_Name := r.Name, Rec_Fields := r.Fields, Rec_End := r.End, R_Marks_Before := [], R_Marks_Trail := [], R_Name := { data := #[] : ByteArray }, R_Result := 0, R_Params := [], R_Vars := [], R_Inner := [], R_Body := [], R_End := [], T_Kind := 0, T_Size := 0, T_Name := { data := #[] : ByteArray } } : Tr12_Thing) = thC r := rfl
            have hw2 : ({ Name := (mapC o r).Name, Kind := 1, Rec_Marks_Before := (mapC o r).Marks_Before, Rec_Marks_Trail := (mapC o r).Marks_Trail, Rec_Name := (mapC o r).Name, Rec_Fields := (mapC o r).Fields, Rec_End := (mapC o r).End, R_Marks_Before := [], R_Marks_Trail := [], R_Name := { data := #[] : ByteArray }, R_Result := 0, R_Params := [], R_Vars := [], R_Inner := [], R_Body := [], R_End := [], T_Kind := 0, T_Size := 0, T_Name := { data := #[] : ByteArray } } : Tr12_Thing) = thC (mapC o r) := rfl
            have hnl : ¬ (decide ((r.Fields.length : Int) < (r.Fields.length : Int)) = true) := by simp
            have hnl' : ¬ (decide ((r.Fields.length : Int) < ((mapC o r).Fields.length : Int)) = true) := by rw [mf]; simp
            simp only [Lr12_Look_recs_8, c0, c1, c2, g1, g2, ↓reduceIte, if_neg hnl, if_neg hnl', Option.bind_some, hw1, hw2, w1, w2, ew]
            have he1 : (env ++ [thC r]).map (mTh o) = env.map (mTh o) ++ [thC (mapC o r)] := by rw [List.map_append, thC_map]; rfl
            rw [← he1]
            exact ih (env ++ [thC r]) i1 _ (okEnv_snoc hE (okThC hvm)) (by simp only [List.length_append, List.length_singleton]; omega)
          · have ha' : a < (r.Fields.map (mapF o)).length := by simpa using ha
            have ewa := wrap_succ ha (show r.Fields.length ≤ maxLen by simp only [maxLen]; omega)
            have a1 : r.Fields.getD (a : Int).toNat dd_TField = r.Fields[a] := getD_at r.Fields a _ ha
            have a2 : (r.Fields.map (mapF o)).getD (a : Int).toNat dd_TField = mapF o r.Fields[a] := by rw [getD_at _ a _ ha']; simp
            have da0 : (0 : Int) ≤ (a : Int) := by omega
            have da1 : (a : Int) < (r.Fields.length : Int) := by omega
            have da2 : (a : Int) < ((r.Fields.map (mapF o)).length : Int) := by omega
            have inmost : ∀ j'' q, q ≤ a → a - q < j'' → ∀ e : Int,
                outN o S (Lr12_Look_recs_11 (FF hFam (k + 2)) (k + 2) (i0, e0, ()) cs (Lr12_Look_recs_3 (FF hFam (k + 2)) (k + 2) (i0, e0, ()) cs j) (Lr12_Look_recs_8 (FF hFam (k + 2)) (k + 2) (i0, e0, ()) cs (Lr12_Look_recs_3 (FF hFam (k + 2)) (k + 2) (i0, e0, ()) cs j) j') j'' cs (m : Int) (a : Int) (q : Int) i1 e env)
                  (Lr12_Look_recs_11 (FF hFam (k + 2)) (k + 2) (i0, e0, ()) (cs.map (mapC o)) (Lr12_Look_recs_3 (FF hFam (k + 2)) (k + 2) (i0, e0, ()) (cs.map (mapC o)) j) (Lr12_Look_recs_8 (FF hFam (k + 2)) (k + 2) (i0, e0, ()) (cs.map (mapC o)) (Lr12_Look_recs_3 (FF hFam (k + 2)) (k + 2) (i0, e0, ()) (cs.map (mapC o)) j) j') j'' (cs.map (mapC o)) (m : Int) (a : Int) (q : Int) i1 e (env.map (mTh o))) cs.length := by
              refine up_ind a (fun j'' e => ?_) (fun j'' q hq ihq e => ?_)
              · have hnl : ¬ (decide ((a : Int) < (a : Int)) = true) := by simp
                simp only [Lr12_Look_recs_11, if_neg hnl, ewa]
                exact iha e
              · have hqf : q < r.Fields.length := by omega
                have hqf' : q < (r.Fields.map (mapF o)).length := by simpa using hqf
                have ewq := wrap_succ hqf (show r.Fields.length ≤ maxLen by simp only [maxLen]; omega)
                have q1 : r.Fields.getD (q : Int).toNat dd_TField = r.Fields[q] := getD_at r.Fields q _ hqf
                have q2 : (r.Fields.map (mapF o)).getD (q : Int).toNat dd_TField = mapF o r.Fields[q] := by rw [getD_at _ q _ hqf']; simp
                have d0 : (0 : Int) ≤ (q : Int) := by omega
                have d1 : (q : Int) < (r.Fields.length : Int) := by omega
                have d2 : (q : Int) < ((r.Fields.map (mapF o)).length : Int) := by omega
                have d3 : (q : Int) < (a : Int) := by omega
                have hb : ((mapF o r.Fields[a]).Name.toList == (mapF o r.Fields[q]).Name.toList) = (r.Fields[a].Name.toList == r.Fields[q].Name.toList) := beq_map hO (hvm.2.1 _ (List.getElem_mem ha)) (hvm.2.1 _ (List.getElem_mem hqf))
                simp only [Lr12_Look_recs_11, c0, c1, c2, d0, d1, d2, d3, da0, da1, da2, g1, g2, mf, a1, a2, q1, q2, decide_true, ↓reduceIte, hb, ewq]
                cases r.Fields[a].Name.toList == r.Fields[q].Name.toList with
                | true =>
                  simp only [↓reduceIte, fail_ok, Option.bind_some]
                  exact ihq _
                | false =>
                  simp only [Bool.false_eq_true, ↓reduceIte]
                  exact ihq _
            simp only [Lr12_Look_recs_8, c0, c1, c2, g1, g2, mf, da1, da2, decide_true, ↓reduceIte]
            exact inmost (k + 2) 0 (Nat.zero_le _) (by omega) e
        simp only [Lr12_Look_recs_3, c0, c1, c2, g1, g2, hn, decide_true, ↓reduceIte, mn, f1, f2, Option.bind_some, Bool.and_self, hkd]
        cases ((findE env r.Name).Kind != 0) with
        | true =>
          simp only [↓reduceIte, fail_ok, Option.bind_some]
          exact inner (k + 2) 0 (Nat.zero_le _) (by omega) _
        | false =>
          simp only [Bool.false_eq_true, ↓reduceIte]
          exact inner (k + 2) 0 (Nat.zero_le _) (by omega) _
      · have hn := next_no (k + 1) i e h0
        refine ⟨env, i, e, ?_, ?_, hE, by omega⟩
        · simp only [Lr12_Look_recs_3]
          rw [if_pos (lt_dec hm), hn, Option.bind_some, if_neg (by simp)]
        · simp only [Lr12_Look_recs_3]
          rw [if_pos (lt_dec hm'), hn, Option.bind_some, if_neg (by simp)]
  have := key (k + 2) 0 (Nat.zero_le _) (by omega) [] i0 e0 (fun x hx => by cases hx) rfl
  exact this
end
end Go.Ev
end
section
open Go
namespace Go.Ev
open Go.Proofs.YtlepjafokfhnfaaGreatDoor
set_option maxRecDepth 100000
set_option maxHeartbeats 4000000
set_option linter.unusedVariables false
set_option linter.unusedSimpArgs false
set_option linter.unusedSectionVars false
mutual
def shR : TRoutine → Prop
  | ⟨_, _, _, _, _, _, inner, body, _⟩ => shSs body ∧ shRs inner
def shRs : List TRoutine → Prop
  | [] => True
  | x :: r => shR x ∧ shRs r
end
theorem shRs_at : ∀ (l : List TRoutine) (i : Nat) (hi : i < l.length), shRs l → shR l[i]
  | x :: r, 0, _, h => by
    simp only [shRs] at h
    exact h.1
  | x :: r, i + 1, hi, h => by
    simp only [shRs] at h
    exact shRs_at r i (by simpa using hi) h.2
theorem shR_parts {x : TRoutine} (h : shR x) : shSs x.Body ∧ shRs x.Inner := by
  cases x
  simp only [shR] at h
  exact h
def okR (S : ByteArray → Prop) (x : TRoutine) : Prop := ∀ q ∈ nmR x, S q
def okRs (S : ByteArray → Prop) (l : List TRoutine) : Prop := ∀ q ∈ nmRs l, S q
theorem okRs_at {S : ByteArray → Prop} {l : List TRoutine} (h : okRs S l) (i : Nat) (hi : i < l.length) : okR S l[i] := fun q hq => h q (by
  rw [nmRs_eq]
  exact List.mem_flatMap.2 ⟨_, List.getElem_mem hi, hq⟩)
theorem okRs_mem {S : ByteArray → Prop} {l : List TRoutine} (h : okRs S l) {r : TRoutine} (hr : r ∈ l) : okR S r := fun q hq => h q (by
  rw [nmRs_eq]
  exact List.mem_flatMap.2 ⟨_, hr, hq⟩)
theorem okR_parts {S : ByteArray → Prop} {x : TRoutine} (h : okR S x) : okN S x.Name ∧ (∀ p ∈ x.Params, okA S p) ∧ (∀ v ∈ x.Vars, okV S v) ∧ okRs S x.Inner ∧ okSs S x.Body := by
  cases x
  refine ⟨fun q hq => h q ?_, fun p hp => ⟨fun q hq => h q ?_, fun q hq => h q ?_⟩, fun p hp => ⟨fun q hq => h q ?_, fun q hq => h q ?_⟩, fun q hq => h q ?_, fun q hq => h q ?_⟩ <;> simp only [nmR, List.mem_append]
  · exact .inl hq
  · exact .inr (.inl (List.mem_flatMap.2 ⟨p, hp, by simp only [nmA, List.mem_append]; exact .inl hq⟩))
  · exact .inr (.inl (List.mem_flatMap.2 ⟨p, hp, by simp only [nmA, List.mem_append]; exact .inr hq⟩))
  · exact .inr (.inr (.inl (List.mem_flatMap.2 ⟨p, hp, by simp only [nmV, List.mem_append]; exact .inl hq⟩)))
  · exact .inr (.inr (.inl (List.mem_flatMap.2 ⟨p, hp, by simp only [nmV, List.mem_append]; exact .inr hq⟩)))
  · exact .inr (.inr (.inr (.inl hq)))
  · exact .inr (.inr (.inr (.inr hq)))
theorem mapR_parts (o : ByteArray → ByteArray) (x : TRoutine) : (mapR o x).Marks_Before = x.Marks_Before ∧ (mapR o x).Marks_Trail = x.Marks_Trail ∧ (mapR o x).Name = mapN o x.Name ∧ (mapR o x).Result = x.Result ∧ (mapR o x).Params = x.Params.map (mapA o) ∧ (mapR o x).Vars = x.Vars.map (mapV o) ∧ (mapR o x).Inner = x.Inner.map (mapR o) ∧ (mapR o x).Body = x.Body.map (mapS o) ∧ (mapR o x).End = x.End := by
  cases x
  simp only [mapR, mapRs_eq, mapSs_eq, and_self]
theorem okThR {S : ByteArray → Prop} {r : TRoutine} (h : okR S r) : okTh S (thR r) := ⟨(okR_parts h).1, fun y hy => (by cases hy), fun y hy => ((okR_parts h).2.1 y hy).2, okN_empty S, Nat.zero_le _⟩
theorem okEnv_app {S : ByteArray → Prop} {env : List Tr12_Thing} {l : List TRoutine} (h : okEnv S env) (hl : okRs S l) : okEnv S (env ++ l.map thR) := fun y hy => by
  rw [List.mem_append] at hy
  rcases hy with hy | hy
  · exact h y hy
  · obtain ⟨r, hr, rfl⟩ := List.mem_map.1 hy
    exact okThR (okRs_mem hl hr)
theorem vis_map (o : ByteArray → ByteArray) (env : List Tr12_Thing) (l : List TRoutine) : (env ++ l.map thR).map (mTh o) = env.map (mTh o) ++ (l.map (mapR o)).map thR := by
  rw [List.map_append, List.map_map, List.map_map]
  congr 1
  exact List.map_congr_left fun r _ => (thR_map o r).symm
theorem bks_at : ∀ (l : List TRoutine) (i : Nat) (hi : i < l.length), l.length + bk_TRoutine l[i] ≤ bks_TRoutine l + 1
  | x :: r, 0, _ => by
    have := bks_Routine_len r
    simp only [List.length_cons, List.getElem_cons_zero, bks_TRoutine]
    omega
  | x :: r, i + 1, hi => by
    have := bks_at r i (by simpa using hi)
    have hp := bk_Routine_pos x
    simp only [List.length_cons, List.getElem_cons_succ, bks_TRoutine]
    omega
section
variable (o : ByteArray → ByteArray) (S : ByteArray → Prop) (hO : InjO o S)
def relR (K : Nat) : Prop := ∀ (i e : Int) (env : List Tr12_Thing) (l : List TRoutine), shRs l → okRs S l → okEnv S env → env.length + bks_TRoutine l ≤ 2097152 → bks_TRoutine l ≤ 1048576 → 8 * bks_TRoutine l + 3000200 ≤ K →
  outU ((FF hFam K).f_r12_Look_routines ((i, e, ()), env, l, ())) ((FF hFam K).f_r12_Look_routines ((i, e, ()), env.map (mTh o), l.map (mapR o), ()))
include hO
theorem relR_all : ∀ K, relR o S K
  | 0 => fun i e env l _ _ _ _ _ hk => by omega
  | K + 1 => fun i0 e0 env l hs hx he hl hb hk => by
    have hR := relR_all K
    obtain ⟨K', rfl⟩ : ∃ K', K = K' + 3 := ⟨K - 3, by omega⟩
    have hS := relS_all o S hO (K' + 3)
    have hlen := bks_Routine_len l
    have hlm : (env.map (mTh o)).length = env.length := List.length_map ..
    show outU (B_r12_Look_routines (FF hFam (K' + 3)) (K' + 3) (i0, e0, ()) env l) (B_r12_Look_routines (FF hFam (K' + 3)) (K' + 3) (i0, e0, ()) (env.map (mTh o)) (l.map (mapR o)))
    unfold B_r12_Look_routines
    rw [Visible_ok (K' + 1) env l (by omega) (by omega), Visible_ok (K' + 1) (env.map (mTh o)) (l.map (mapR o)) (by rw [hlm, List.length_map]; omega) (by rw [List.length_map]; omega), Option.bind_some, Option.bind_some, ← vis_map]
    have hall := okEnv_app he hx
    have hallL : (env ++ l.map thR).length = env.length + l.length := by rw [List.length_append, List.length_map]
    generalize env ++ l.map thR = all at hall hallL
    have key : ∀ j m, m ≤ l.length → l.length - m < j → ∀ i e : Int, outU (Lr12_Look_routines_2 (FF hFam (K' + 3)) (K' + 3) (i0, e0, ()) env l j env l all (m : Int) i e) (Lr12_Look_routines_2 (FF hFam (K' + 3)) (K' + 3) (i0, e0, ()) (env.map (mTh o)) (l.map (mapR o)) j (env.map (mTh o)) (l.map (mapR o)) (all.map (mTh o)) (m : Int) i e) := by
      refine up_ind l.length (fun j i e => ?_) (fun j m hm ih i e => ?_)
      · refine ⟨i, e, ?_, ?_⟩
        · simp only [Lr12_Look_routines_2]
          rw [if_neg (by simp)]
        · simp only [Lr12_Look_routines_2, List.length_map]
          rw [if_neg (by simp)]
      · have hm' : m < (l.map (mapR o)).length := by simpa using hm
        by_cases h0 : e = 0
        · subst h0
          have hba := bks_at l m hm
          have hbn := bk_RoutineN l[m]
          have hsr := shR_parts (shRs_at l m hm hs)
          obtain ⟨n1, n2, n3, n4, n5⟩ := okR_parts (okRs_at hx m hm)
          obtain ⟨m1, m2, m3, m4, m5, m6, m7, m8, m9⟩ := mapR_parts o l[m]
          have ew := wrap_succ hm (show l.length ≤ maxLen by simp only [maxLen]; omega)
          have g1 : l.getD (m : Int).toNat dd_TRoutine = l[m] := getD_at l m _ hm
          have g2 : (l.map (mapR o)).getD (m : Int).toNat dd_TRoutine = mapR o l[m] := by rw [getD_at _ m _ hm']; simp
          have c0 : (0 : Int) ≤ (m : Int) := by omega
          have c1 : (m : Int) < (l.length : Int) := by omega
          have c2 : (m : Int) < ((l.map (mapR o)).length : Int) := by omega
          have hn := next_ok (K' + 2) i 0 rfl
          generalize hi1 : IntKind.i64.wrap (i + 1) = i1 at hn
          generalize hst : l[m] = r at hba hbn hsr n1 n2 n3 n4 n5 m1 m2 m3 m4 m5 m6 m7 m8 m9 g1 g2
          have hPl := bks_Param_len r.Params
          have hVl := bks_Var_len r.Vars
          have hIl := bks_Routine_len r.Inner
          have f1 := find_ok (K' + 2) env r.Name (by omega) (by omega)
          have f2 := find_ok (K' + 2) (env.map (mTh o)) (mapN o r.Name) (by rw [hlm]; omega) (by rw [hlm]; omega)
          have hkd := kind_map o S hO he n1
          -- what stands in a routine
          have body : ∀ (inE : List Tr12_Thing) (i e : Int), okEnv S inE → inE.length = env.length + l.length + r.Params.length →
              outU (((FF hFam (K' + 3)).f_r12_Look_vars ((i, e, ()), inE, r.Vars, r.Inner, ())).bind fun a => ((FF hFam (K' + 3)).f_r12_Look_routines ((a.2.1.1, a.2.1.2.1, ()), a.1, r.Inner, ())).bind fun b => ((FF hFam (K' + 3)).f_r12_Visible (a.1, r.Inner, ())).bind fun c => ((FF hFam (K' + 3)).f_r12_Look_stmts ((b.2.1.1, b.2.1.2.1, ()), c, r.Result, r.Body, ())).bind fun d => Lr12_Look_routines_2 (FF hFam (K' + 3)) (K' + 3) (i0, e0, ()) env l j env l all ((m + 1 : Nat) : Int) d.2.1.1 d.2.1.2.1)
                (((FF hFam (K' + 3)).f_r12_Look_vars ((i, e, ()), inE.map (mTh o), r.Vars.map (mapV o), r.Inner.map (mapR o), ())).bind fun a => ((FF hFam (K' + 3)).f_r12_Look_routines ((a.2.1.1, a.2.1.2.1, ()), a.1, r.Inner.map (mapR o), ())).bind fun b => ((FF hFam (K' + 3)).f_r12_Visible (a.1, r.Inner.map (mapR o), ())).bind fun c => ((FF hFam (K' + 3)).f_r12_Look_stmts ((b.2.1.1, b.2.1.2.1, ()), c, r.Result, r.Body.map (mapS o), ())).bind fun d => Lr12_Look_routines_2 (FF hFam (K' + 3)) (K' + 3) (i0, e0, ()) (env.map (mTh o)) (l.map (mapR o)) j (env.map (mTh o)) (l.map (mapR o)) (all.map (mTh o)) ((m + 1 : Nat) : Int) d.2.1.1 d.2.1.2.1) := by
            intro inE i e hin hinL
            obtain ⟨env', i2, e2, a1, a2, a3, a4⟩ := vars_all o S hO K' i e inE r.Vars r.Inner n3 (fun q hq => (okR_parts (okRs_mem n4 hq)).1) hin (by omega) (by omega) (by omega)
            have hlm' : (env'.map (mTh o)).length = env'.length := List.length_map ..
            obtain ⟨i3, e3, b1, b2⟩ := hR i2 e2 env' r.Inner hsr.2 n4 a3 (by omega) (by omega) (by omega)
            obtain ⟨i4, e4, d1, d2⟩ := hS i3 e3 (env' ++ r.Inner.map thR) r.Result r.Body hsr.1 n5 (okEnv_app a3 n4) (by rw [List.length_append, List.length_map]; omega) (by omega) (by omega)
            rw [vis_map] at d2
            rw [a1, a2, Option.bind_some, Option.bind_some, b1, b2, Option.bind_some, Option.bind_some, Visible_ok (K' + 1) env' r.Inner (by omega) (by omega), Visible_ok (K' + 1) (env'.map (mTh o)) (r.Inner.map (mapR o)) (by rw [hlm', List.length_map]; omega) (by rw [List.length_map]; omega), Option.bind_some, Option.bind_some, d1, d2]
            exact ih i4 e4
          have inner : ∀ j' q, q ≤ r.Params.length → r.Params.length - q < j' → ∀ (inE : List Tr12_Thing) (e : Int), okEnv S inE → inE.length = env.length + l.length + q →
              outU (Lr12_Look_routines_9 (FF hFam (K' + 3)) (K' + 3) (i0, e0, ()) env l (Lr12_Look_routines_2 (FF hFam (K' + 3)) (K' + 3) (i0, e0, ()) env l j) j' env l all (m : Int) inE (q : Int) i1 e r.Marks_Before r.Marks_Trail r.Name r.Result r.Params r.Vars r.Inner r.Body r.End)
                (Lr12_Look_routines_9 (FF hFam (K' + 3)) (K' + 3) (i0, e0, ()) (env.map (mTh o)) (l.map (mapR o)) (Lr12_Look_routines_2 (FF hFam (K' + 3)) (K' + 3) (i0, e0, ()) (env.map (mTh o)) (l.map (mapR o)) j) j' (env.map (mTh o)) (l.map (mapR o)) (all.map (mTh o)) (m : Int) (inE.map (mTh o)) (q : Int) i1 e r.Marks_Before r.Marks_Trail (mapN o r.Name) r.Result (r.Params.map (mapA o)) (r.Vars.map (mapV o)) (r.Inner.map (mapR o)) (r.Body.map (mapS o)) r.End) := by
            refine up_ind r.Params.length (fun j' inE e hin hinL => ?_) (fun j' q hq ihq inE e hin hinL => ?_)
            · have hnl : ¬ (decide ((r.Params.length : Int) < (r.Params.length : Int)) = true) := by simp
              have hnl' : ¬ (decide ((r.Params.length : Int) < ((r.Params.map (mapA o)).length : Int)) = true) := by simp
              obtain ⟨b, hb1, hb2⟩ := Ends_all o (K' + 3) r.Body (by omega) (by omega)
              simp only [Lr12_Look_routines_9, if_neg hnl, if_neg hnl', hb1, hb2, Option.bind_some, ew]
              cases hres : decide (r.Result > 0) with
              | true =>
                simp only [↓reduceIte]
                cases hbb : (true && !b) with
                | true =>
                  simp only [↓reduceIte, fail_ok, Option.bind_some]
                  exact body inE i1 _ hin hinL
                | false =>
                  simp only [Bool.false_eq_true, ↓reduceIte]
                  exact body inE i1 _ hin hinL
              | false =>
                simp only [Bool.false_eq_true, ↓reduceIte]
                exact body inE i1 _ hin hinL
            · have hq' : q < (r.Params.map (mapA o)).length := by simpa using hq
              have hlmi : (inE.map (mTh o)).length = inE.length := List.length_map ..
              have ewq := wrap_succ hq (show r.Params.length ≤ maxLen by simp only [maxLen]; omega)
              have q1 : r.Params.getD (q : Int).toNat dd_TParam = r.Params[q] := getD_at r.Params q _ hq
              have q2 : (r.Params.map (mapA o)).getD (q : Int).toNat dd_TParam = mapA o r.Params[q] := by rw [getD_at _ q _ hq']; simp
              have d0 : (0 : Int) ≤ (q : Int) := by omega
              have d1 : (q : Int) < (r.Params.length : Int) := by omega
              have d2 : (q : Int) < ((r.Params.map (mapA o)).length : Int) := by omega
              have hpa := n2 _ (List.getElem_mem hq)
              generalize r.Params[q] = v at q1 q2 hpa
              have mn : (mapA o v).Name = mapN o v.Name := rfl
              have mt : (mapA o v).sub_T = mTy o v.sub_T := rfl
              have F1 := find_ok (K' + 2) inE v.Name (by omega) (by omega)
              have F2 := find_ok (K' + 2) (inE.map (mTh o)) (mapN o v.Name) (by rw [hlmi]; omega) (by rw [hlmi]; omega)
              have hkd' := kind_map o S hO hin hpa.1
              have t1 := fun e => typ_ok (K' + 1) i1 e inE v.sub_T (by omega) (by omega)
              have t2 : ∀ e, _ := fun e => typ_ok (K' + 1) i1 e (inE.map (mTh o)) (mTy o v.sub_T) (by rw [hlmi]; omega) (by rw [hlmi]; omega)
              simp only [typS_map hO hin (t := v.sub_T) hpa.2] at t2
              have w1 := with_ok (K' + 2) inE (thA v) (by omega)
              have w2 := with_ok (K' + 2) (inE.map (mTh o)) (thA (mapA o v)) (by rw [hlmi]; omega)
              have hw1 : ({ Name := v.Name, Kind := 3, Rec_Marks_Before := [], Rec_Marks_Trail := [], Rec_Name := { data := #[] : ByteArray }, Rec_Fields := [], Rec_End := [], R_Marks_Before := [], R_Marks_Trail := [], R_Name := { data := #[] : ByteArray }, R_Result := 0, R_Params := [], R_Vars := [], R_Inner := [], R_Body := [], R_End := [], T_Kind := v.T_Kind, T_Size := v.T_Size, T_Name := v.T_Name } : Tr12_Thing) = thA v := rfl
              have hw2 : ({ Name := (mapA o v).Name, Kind := 3, Rec_Marks_Before := [], Rec_Marks_Trail := [], Rec_Name := { data := #[] : ByteArray }, Rec_Fields := [], Rec_End := [], R_Marks_Before := [], R_Marks_Trail := [], R_Name := { data := #[] : ByteArray }, R_Result := 0, R_Params := [], R_Vars := [], R_Inner := [], R_Body := [], R_End := [], T_Kind := (mapA o v).T_Kind, T_Size := (mapA o v).T_Size, T_Name := (mapA o v).T_Name } : Tr12_Thing) = thA (mapA o v) := rfl
              have he1 : (inE ++ [thA v]).map (mTh o) = inE.map (mTh o) ++ [thA (mapA o v)] := by rw [List.map_append, thA_map]; rfl
              have nxt : ∀ e, _ := fun e => ihq (inE ++ [thA v]) e (okEnv_snoc hin (okThA hpa)) (by simp only [List.length_append, List.length_singleton]; omega)
              rw [he1] at nxt
              simp only [Lr12_Look_routines_9, d0, d1, d2, q1, q2, decide_true, ↓reduceIte, mn, F1, F2, Option.bind_some, hkd']
              rw [← mn]
              cases ((findE inE v.Name).Kind != 0) with
              | true =>
                simp only [↓reduceIte, fail_ok, Option.bind_some, mt, t1, t2, hw1, hw2, w1, w2, ewq]
                exact nxt _
              | false =>
                simp only [Bool.false_eq_true, ↓reduceIte, mt, t1, t2, hw1, hw2, w1, w2, Option.bind_some, ewq]
                exact nxt _
          simp only [Lr12_Look_routines_2, c0, c1, c2, g1, g2, hn, decide_true, ↓reduceIte, m1, m2, m3, m4, m5, m6, m7, m8, m9, f1, f2, Option.bind_some, Bool.and_self, hkd]
          cases ((findE env r.Name).Kind != 0) with
          | true =>
            simp only [↓reduceIte, fail_ok, Option.bind_some]
            exact inner (K' + 3) 0 (Nat.zero_le _) (by omega) all _ hall (by omega)
          | false =>
            simp only [Bool.false_eq_true, ↓reduceIte]
            exact inner (K' + 3) 0 (Nat.zero_le _) (by omega) all _ hall (by omega)
        · have hn := next_no (K' + 2) i e h0
          refine ⟨i, e, ?_, ?_⟩
          · simp only [Lr12_Look_routines_2]
            rw [if_pos (lt_dec hm), hn, Option.bind_some, if_neg (by simp)]
          · simp only [Lr12_Look_routines_2]
            rw [if_pos (lt_dec hm'), hn, Option.bind_some, if_neg (by simp)]
    exact key (K' + 3) 0 (Nat.zero_le _) (by omega) i0 e0
end
end Go.Ev
end
section
open Go
namespace Go.Ev
open Go.Proofs.YtlepjafokfhnfaaGreatDoor
set_option maxRecDepth 100000
set_option maxHeartbeats 4000000
set_option linter.unusedVariables false
set_option linter.unusedSimpArgs false
set_option linter.unusedSectionVars false
mutual
theorem shE_of : ∀ e : TExpr, wfE 0 e → shE e
  | ⟨op, n, nm, f, l⟩, h => by
    simp only [wfE] at h
    simp only [shE]
    have h1 := h.2.1
    unfold hdP at h1
    exact ⟨by omega, shL_of l (op = 7 ∧ (0 : Int) = 1) (fun hc => absurd hc.2 (by decide)) False h.2.2⟩
theorem shL_of : ∀ (l : List TExpr) (c : Prop), ¬ c → ∀ up, wfL 0 c up l → shL l
  | [], _, _, _, _ => by simp only [shL]
  | x :: r, c, hc, up, h => by
    simp only [wfL] at h
    simp only [shL]
    by_cases h25 : x.Op = 25
    · exact absurd (h.1 h25).1 hc
    · have := h.2 h25
      exact ⟨shE_of x this.2.1, shL_of r c hc up this.2.2⟩
end
mutual
theorem shS_of : ∀ (x : TStmt) (deep : Int), wfS 0 x deep → shS x
  | ⟨mb, mt, op, nm, po, pn, pnm, pf, pl, E, down, more, body, els, e1, e2⟩, deep, h => by
    simp only [wfS] at h
    simp only [shS]
    obtain ⟨_, _, hst, hb, he⟩ := h
    unfold stP cntP at hst
    obtain ⟨s1, ⟨c1, c2, c3, c4⟩, s2, s3, _⟩ := hst
    exact ⟨⟨s1, fun hop => shE_of _ (s3 hop).2.1, fun e he => shE_of e (s2 e he).1.1, fun h7 h9 => by by_cases h6 : op = 6 <;> omega, fun h6 => by omega⟩, shSs_of body _ hb.1, shSs_of els _ he.1⟩
theorem shSs_of : ∀ (l : List TStmt) (deep : Int), wfSs 0 l deep → shSs l
  | [], _, _ => by simp only [shSs]
  | x :: r, deep, h => by
    simp only [wfSs] at h
    simp only [shSs]
    exact ⟨shS_of x deep h.1, shSs_of r deep h.2⟩
end
mutual
theorem shR_of : ∀ (x : TRoutine) (deep : Int), wfR 0 x deep → shR x
  | ⟨mb, mt, nm, res, ps, vs, inner, body, e⟩, deep, h => by
    simp only [wfR] at h
    simp only [shR]
    obtain ⟨_, _, _, _, _, _, _, hi, hb⟩ := h
    exact ⟨shSs_of body 1 hb.1, shRs_of inner _ hi.1⟩
theorem shRs_of : ∀ (l : List TRoutine) (deep : Int), wfRs 0 l deep → shRs l
  | [], _, _ => by simp only [shRs]
  | x :: r, deep, h => by
    simp only [wfRs] at h
    simp only [shRs]
    exact ⟨shR_of x deep h.1, shRs_of r deep h.2⟩
end
theorem Check12 (o : ByteArray → ByteArray) (S : ByteArray → Prop) (hO : InjO o S) (k : Nat) (p : TProgram) (hw : progP 0 p) (hn : ∀ q ∈ nmP' p, S q) (hb : bk_TProgram p ≤ 1048576) (hk : 8 * bk_TProgram p + 4000000 ≤ k) :
    ∃ i e : Int, (FF hFam (k + 4)).f_r12_Check (p, ()) = some (i, e, ()) ∧ (FF hFam (k + 4)).f_r12_Check (mapP o p, ()) = some (i, e, ()) := by
  obtain ⟨_, _, _, w1, w2, w3, w4⟩ := hw
  have hv := bk_ProgramN p
  have hRl := bks_Rec_len p.Recs
  have hVl := bks_Var_len p.Vars
  have hTl := bks_Routine_len p.Routines
  have hnm : ∀ q, q ∈ pts p.Name ∨ q ∈ p.Recs.flatMap nmC ∨ q ∈ p.Vars.flatMap nmV ∨ q ∈ nmRs p.Routines ∨ q ∈ nmSs p.Body → S q := fun q hq => hn q (by simpa only [nmP', List.mem_append] using hq)
  have okc : ∀ r ∈ p.Recs, okC S r := fun r hr => ⟨fun q hq => hnm q (.inr (.inl (List.mem_flatMap.2 ⟨r, hr, by simp only [nmC, List.mem_append]; exact .inl hq⟩))),
    fun f hf q hq => hnm q (.inr (.inl (List.mem_flatMap.2 ⟨r, hr, by simp only [nmC, List.mem_append]; exact .inr (List.mem_flatMap.2 ⟨f, hf, hq⟩)⟩))), by have := (w1 r hr).2.2.1.2; omega⟩
  have okv : ∀ v ∈ p.Vars, okV S v := fun v hv => ⟨fun q hq => hnm q (.inr (.inr (.inl (List.mem_flatMap.2 ⟨v, hv, by simp only [nmV, List.mem_append]; exact .inl hq⟩)))),
    fun q hq => hnm q (.inr (.inr (.inl (List.mem_flatMap.2 ⟨v, hv, by simp only [nmV, List.mem_append]; exact .inr hq⟩))))⟩
  have okr : okRs S p.Routines := fun q hq => hnm q (.inr (.inr (.inr (.inl hq))))
  have oks : okSs S p.Body := fun q hq => hnm q (.inr (.inr (.inr (.inr hq))))
  obtain ⟨env1, i1, e1, a1, a2, a3, a4⟩ := recs_all o S hO k (-1) 0 p.Recs okc (by omega) (by omega)
  obtain ⟨env2, i2, e2, b1, b2, b3, b4⟩ := vars_all o S hO k i1 e1 env1 p.Vars p.Routines okv (fun r hr => (okR_parts (okRs_mem okr hr)).1) a3 (by omega) (by omega) (by omega)
  obtain ⟨i3, e3, c1, c2⟩ := relR_all o S hO (k + 3) i2 e2 env2 p.Routines (shRs_of _ 1 w3.1) okr b3 (by omega) (by omega) (by omega)
  have hlm : (env2.map (mTh o)).length = env2.length := List.length_map ..
  obtain ⟨i4, e4, d1, d2⟩ := relS_all o S hO (k + 3) i3 e3 (env2 ++ p.Routines.map thR) 0 p.Body (shSs_of _ 1 w4.1) oks (okEnv_app b3 okr) (by rw [List.length_append, List.length_map]; omega) (by omega) (by omega)
  rw [vis_map] at d2
  have v1 := Visible_ok (k + 1) env2 p.Routines (by omega) (by omega)
  have v2 := Visible_ok (k + 1) (env2.map (mTh o)) (p.Routines.map (mapR o)) (by rw [hlm, List.length_map]; omega) (by rw [List.length_map]; omega)
  have m1 : (mapP o p).Recs = p.Recs.map (mapC o) := rfl
  have m2 : (mapP o p).Vars = p.Vars.map (mapV o) := rfl
  have m3 : (mapP o p).Routines = p.Routines.map (mapR o) := mapRs_eq o p.Routines
  have m4 : (mapP o p).Body = p.Body.map (mapS o) := mapSs_eq o p.Body
  show ∃ i e : Int, B_r12_Check (FF hFam (k + 3)) (k + 3) p = some (i, e, ()) ∧ B_r12_Check (FF hFam (k + 3)) (k + 3) (mapP o p) = some (i, e, ())
  unfold B_r12_Check
  rw [m1, m2, m3, m4]
  simp only [a1, a2, b1, b2, c1, c2, v1, v2, d1, d2, Option.bind_some]
  by_cases h0 : e4 = 0
  · subst h0
    exact ⟨0, 0, rfl, rfl⟩
  · have hz : (e4 != 0) = true := by simpa using h0
    simp only [hz, ↓reduceIte]
    exact ⟨i4, e4, rfl, rfl⟩
theorem RenameSense_ok (k : Nat) (d : Int) (p : TProgram) (fp : ft_TProgram p) (hb : bk_TProgram p ≤ 1048576) (hk : 30000000 ≤ k) (aw : (FF hFam (k + 13)).f_w16_awake () = some true) : (FF hFam (k + 14)).f_w16_RenameSense (d, p, ()) = some true := by
  show B_w16_RenameSense (FF hFam (k + 13)) (k + 13) d p = _
  unfold B_w16_RenameSense
  rw [r07_Check_ok k 0 (.inl rfl) p (by omega) (by omega), Option.bind_some]
  by_cases hw : progP 0 p
  · rw [dc_true hw, if_pos (by rfl)]
    have e1 := r07_Names_ok (k + 9) p (by omega) (by omega)
    have e2 : (nmP' p).foldl addN [] = namesP p := rfl
    rw [e2] at e1
    rw [e1, Option.bind_some]
    by_cases hl : (namesP p).length ≤ 300
    · have hlf : decide (((namesP p).length : Int) > 300) = false := by simpa using (by omega : ((namesP p).length : Int) ≤ 300)
      have hA := Apply_ok (d := d) hl (k + 2) (by omega) (by omega)
      have hO : InjO (newO d p) (· ∈ namesP p) := ⟨fun q hq => newO_good hl q ((namesP_mem p q).1 hq), fun a b ha hb h => newO_inj hl ha hb h⟩
      obtain ⟨i, e, h1, h2⟩ := Check12 (newO d p) (· ∈ namesP p) hO (k + 9) p hw (fun q hq => (namesP_mem p q).2 hq) hb (by omega)
      rw [if_neg (by rw [hlf]; simp), hA, Option.bind_some, h1, Option.bind_some, h2, Option.bind_some, if_pos (by simp), aw]
      rfl
    · have hlf : decide (((namesP p).length : Int) > 300) = true := by simpa using (by omega : ((namesP p).length : Int) > 300)
      rw [if_pos (by rw [hlf]; rfl), aw]
      rfl
  · rw [dc_false hw, if_neg (by simp), aw]
    rfl
end Go.Ev
end
section
open Go Go.Proofs
namespace Go.Ev
open Go.RowKit Go.Proofs.YtlepjafokfhnfaaGreatDoor
set_option linter.unusedVariables false
set_option maxHeartbeats 4000000
set_option maxRecDepth 100000
section
variable {H : Type} {enc : TypeId × Value → H} {W : World} {base : Nat} {spare : Nat → Bool} {held : Bool}
theorem sp_renameSense (s : Fam) : sp s 4 = ansOf c_w16_RenameSense rc_w16_RenameSense.enc s.f_w16_RenameSense := by kernel_rfl
theorem renameSense (n0 : Int) {v1 : Value} {d1 : DataW H} {p1 : List MemPlace} (h1 : DataW.Trod enc Tryz.prog W base spare held 28 v1 d1 p1) (hb1 : Rows.uptoBulk d1 ≤ 1048576) (hi : EE.inv W) : Calls Tryz.prog 4 #[.int .i64 n0, v1] W fun e W' => e = .returned (.bool true) ∧ Below W.heap.size W W' := by
  obtain ⟨_, x1, _, fx1, bx1, rx1⟩ := read_progB h1
  refine call_law (s := FF hFam (30000001 + 14)) (by decide) (specs hand _) (avs := c_w16_RenameSense.enc (n0, x1, ())) ?_ (.cons _ _ _ _ [] [] [] [] (.c _ _ _ _ (.d _ _ (.lit _ rfl))) (.cons _ _ _ _ [] [] [] [] rx1 .nil)) hi
  rw [sp_renameSense]
  exact ans_run _ _ _ (x := (n0, x1, ())) rfl (by exact RenameSense_ok 30000001 n0 x1 fx1 (by omega) (by omega) (awake_ok 30000002))
end
end Go.Ev
end
section
set_option linter.unusedVariables false
namespace Go.Ev.renameSense
open Go Go.Proofs Go.ChangeShapes Go.WideShapes Go.ChangeAt Go.RowKit Go.Proofs.YtlepjafokfhnfaaGreatDoor
theorem own : ownKnob Tryz.prog.godebug = none := by kernel_rfl
theorem laidOut : laidOutB Tryz.prog = true := by kernel_rfl
theorem reads (os : Os) {H : Type} (enc : TypeId × Value → H) : ∃ places, DataW.whole enc Tryz.prog ((World.laidAll Tryz.prog os laidL).forCall (fun _ _ => 0) ⟨#[], #[.int .i64 0, .agg #[.string ⟨#[]⟩, .slice none 0 0, .slice none 0 0, .slice none 0 0, .slice none 0 0, .slice none 0 0, .slice none 0 0, .slice none 0 0, .slice none 0 0]], []⟩).memory Tryz.f4.params.toList Rows.renameSenseSpec.vars false #[Value.int .i64 0, .agg #[.string ⟨#[]⟩, .slice none 0 0, .slice none 0 0, .slice none 0 0, .slice none 0 0, .slice none 0 0, .slice none 0 0, .slice none 0 0, .slice none 0 0]].toList 8 = some ([.lit (.int .i64 0), .agg [.lit (.string []), .nil, .nil, .nil, .nil, .nil, .nil, .nil, .nil]], [], places) :=
  ⟨[], by kernel_rfl⟩
set_option maxRecDepth 100000 in
theorem lifted (os : Os) (started : os.Started) (H : Type) (enc : TypeId × Value → H) (F : Stop.Interp) :
    ReturnsInHanded {} Tryz.checked os 4 .any ((Rows.OpenSpec.upto Rows.renameSenseSpec).preRow enc Tryz.prog Tryz.f4 Rows.renameSenseUptoRow.domain false Rows.renameSenseUptoRow.laid) (((Rows.OpenSpec.upto Rows.renameSenseSpec).at F).post enc Tryz.prog Tryz.f4 false true false false) := by
  obtain ⟨places, hx⟩ := reads os enc
  refine returnsInHanded_of_row (C := Tryz.checked) (s := Rows.OpenSpec.upto Rows.renameSenseSpec) own started (by kernel_rfl) Tryz.func4
    ⟨World.laidAll Tryz.prog os laidL, fun _ _ => 0, ⟨#[], #[.int .i64 0, .agg #[.string ⟨#[]⟩, .slice none 0 0, .slice none 0 0, .slice none 0 0, .slice none 0 0, .slice none 0 0, .slice none 0 0, .slice none 0 0, .slice none 0 0]], []⟩, World.laidAll_os _ _ _, World.shaped_of_ZipB (by kernel_rfl) (by kernel_rfl), rfl, (Input.okWide_of_okWideB (by kernel_rfl)).2,
      OpenSpec.preRow_of_cond 8 hx (by kernel_rfl) (fun k hk => by cases hk; kernel_rfl) (by kernel_rfl) (by show laidMetH Tryz.prog laidL _; rw [MakeChecks.laidMetH_plain _ _ _ (by kernel_rfl)]; exact laidMet_laidAll _ (by kernel_rfl) (by kernel_rfl)), by
        simp only [Assume.holds]
        exact ⟨by simp, by simp, fun _ => Modest.zero, by simp, by simp⟩⟩ ?_
  intro W base args ds gs before hval hW _ hcond _ hlaid hsh _
  have hL : EE.inv W := of_laid hlaid hsh
  have hW' := hW
  obtain ⟨p, q, hA0, hV, rfl, hfz, hnd⟩ := hW
  have hA : DataW.TrodAll enc Tryz.prog W 0 (fun _ => true) true Tryz.f4.params.toList args.toList ds p := hA0
  rw [Tryz.params4] at hA hval
  obtain ⟨v0, vs0, d0, ds0, p0, q0, hargs, rfl, rfl, h0, r0⟩ := trodAll_cons hA
  obtain ⟨v1, vs1, d1, ds1, p1, q1, rfl, rfl, rfl, h1, r1⟩ := trodAll_cons r0
  obtain ⟨rfl, rfl, rfl⟩ := trodAll_nil r1
  obtain rfl : args = #[v0, v1] := by cases args; simp_all
  obtain ⟨rfl, rfl⟩ := trodVars_none hV
  have hbulk := hcond _ rfl
  simp only [Rows.uptoSmall, decide_eq_true_eq, List.append_nil, List.cons_append, List.nil_append, bulkAll_eq, List.map_cons, List.map_nil, List.sum_cons, List.sum_nil] at hbulk
  have lt0 : ∀ x ∈ p0, x.block < W.heap.size := by obtain ⟨m, hm⟩ := h0; exact DataW.trod_lt m _ _ _ hm
  have lt1 : ∀ x ∈ p1, x.block < W.heap.size := by obtain ⟨m, hm⟩ := h1; exact DataW.trod_lt m _ _ _ hm
  obtain ⟨n0, e0, _, _, _⟩ := open_int Tryz.underlying3 (hval 0 3 v0 rfl rfl) h0
  have hcall : Calls Tryz.prog 4 #[v0, v1] W fun e W' => e = .returned (.bool true) ∧ Below W.heap.size W W' := by
    rw [e0]
    exact Go.Ev.renameSense n0 h1 (by omega) hL
  refine hcall.mono fun e W' ⟨he, bel⟩ => ?_
  subst he
  exact ⟨_, rfl, (⟨_, _, _, [], _, [], hW', trodAll_mk1 (shut_bool Tryz.underlying4 _), (trodAll_cons_mk (Below.trod laidOut (by kernel_rfl) (of_decide_eq_true (by kernel_rfl)) h0 bel lt0) (trodAll_cons_mk (Below.trod laidOut (by kernel_rfl) (of_decide_eq_true (by kernel_rfl)) h1 bel lt1) trodAll_mk0)), rfl, bel.frame _, fun h => by cases h⟩ : Rows.renameSenseSpec.post enc Tryz.prog Tryz.f4 false true false false W _ _ W')⟩
theorem over : Rows.RenameSenseUptoSaid :=
  OpenClaim.holds_of_cond 4 Tryz.f4 rfl rfl rfl rfl rfl rfl rfl ⟨rfl, rfl, rfl, rfl, rfl⟩ rfl rfl rfl rfl rfl (by kernel_rfl) Tryz.func4 (by kernel_rfl)
    (of_decide_eq_true (by kernel_rfl)) (by unfold Func.isWrapper; first | (rw [if_pos (by decide +kernel)]; kernel_rfl) | (rw [if_neg (by decide +kernel)]; exact ⟨rfl, rfl⟩))
    (fun os started H enc _ F => by rw [OpenClaim.pre_eq_preRow]; exact lifted os started H enc F)
theorem plain (f : FuncId) (fn : Func) (hf : Tryz.pinned.checked.prog.funcNamed "pantograph/pantographlaw16.RenameSense" = some f) (hfn : Tryz.pinned.checked.prog.funcs[f]? = some fn) :
    false = Tryz.pinned.checked.prog.looks [] ∧ ∀ (j : Nat) t, fn.params[j]? = some t → Tryz.pinned.checked.prog.wantsStandIn t = false := by
  obtain rfl : f = 4 := Option.some.inj ((show Tryz.prog.funcNamed "pantograph/pantographlaw16.RenameSense" = some 4 by kernel_rfl).symm.trans hf) |>.symm
  obtain rfl : fn = Tryz.f4 := (Option.some.inj (Tryz.func4.symm.trans hfn)).symm
  refine ⟨by kernel_rfl, fun j t ht => ?_⟩
  rw [Tryz.params4] at ht
  have hm : t ∈ [3, 28] := by simpa using Array.mem_of_getElem? ht
  have hall : ([3, 28].all fun u => !Tryz.prog.wantsStandIn u) = true := by kernel_rfl
  exact (show Tryz.prog.wantsStandIn t = false by simpa using List.all_eq_true.1 hall t hm)
theorem card : Rows.RenameSenseUptoCardSaid :=
  Claim7.holds_tied_plain_at .later [] _ _ _ _ over (fun _ h => by cases h) (by kernel_rfl) (fun _ h => by cases h) renameSenseUpto_row_tie rfl ⟨rfl, rfl⟩ (by kernel_rfl) rfl plain (by kernel_rfl)
end Go.Ev.renameSense
namespace Go.Proofs.YtlepjafokfhnfaaGreatDoor
theorem renameSense_holds : Rows.RenameSenseUptoCardSaid := Go.Ev.renameSense.card
end Go.Proofs.YtlepjafokfhnfaaGreatDoor
end
