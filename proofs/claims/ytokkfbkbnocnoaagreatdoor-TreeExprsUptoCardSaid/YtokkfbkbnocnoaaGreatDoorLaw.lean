/- Proved here: the statement TreeExprsUpto (any expression is right of a dialect, or is not, as the document says; of what it reads at most 1048576 values and letters), for every input that its row lets in; conditions: those of the row, and none beside. -/
import Derived.Test.YtokkfbkbnocnoaaGreatDoorA4
import Derived.Test.YtokkfbkbnocnoaaGreatDoorRows
import Derived.Deep.DeepHandedRow
section
open Go
namespace Go.Ev
open Go.Proofs.YtokkfbkbnocnoaaGreatDoor
set_option maxRecDepth 100000
set_option maxHeartbeats 4000000
set_option linter.unusedVariables false
set_option linter.unusedSimpArgs false
def rfOK (K : Nat) : Prop := ∀ (d : Int) (e : TExpr) (most : Int), (d = 0 ∨ d = 1) → bk_TExpr e ≤ 1048576 → 3 * bk_TExpr e + 90 ≤ K → 0 ≤ most → most ≤ 48 → (FF hFam K).f_r07_form (d, e, most, ()) = some (dc (wfE d e ∧ (dpE e : Int) ≤ most))
theorem form_loop (K : Nat) (hK : rfOK K) (d : Int) (hd : d = 0 ∨ d = 1) (most : Int) (h0 : 1 ≤ most) (h1 : most ≤ 48) (op : Int) (l : List TExpr) (hb : bks_TExpr l ≤ 1048576) (hk : 3 * bks_TExpr l + 100 ≤ K) (x1 : TExpr) (x2 n : Int) (nm f : ByteArray) :
    ∀ j i, i ≤ l.length → l.length - i < j → ∀ up : Bool, Lr07_form_47 (FF hFam K) K d x1 x2 j d most up (i : Int) op n nm f l = some (dc (wfL d (op = 7 ∧ d = 1) (up = true) (l.drop i) ∧ (dpL (l.drop i) : Int) + 1 ≤ most)) := by
  have hlen := bks_Expr_len l
  have hml : l.length ≤ maxLen := by simp only [maxLen]; omega
  refine up_ind l.length (fun j up => ?_) (fun j i hi ih up => ?_)
  · simp only [Lr07_form_47]
    rw [if_neg (by simp), List.drop_length, dc_true]
    exact ⟨by simp [wfL], by simp only [dpL]; omega⟩
  · have hbi := bks_Expr_mem l i hi
    have hbm := bk_name l[i]
    have hdr : l.drop i = l[i] :: l.drop (i + 1) := (List.getElem_cons_drop hi).symm
    simp only [Lr07_form_47]
    rw [if_pos (lt_dec hi), if_pos (by omega), if_pos (by omega), getD_at l i _ hi, wrap_succ hi hml]
    by_cases hop : l[i].Op = 25
    · rw [if_pos (by simpa using hop)]
      obtain ⟨K', rfl⟩ : ∃ K', K = K' + 3 := ⟨K - 3, by omega⟩
      rw [rname_ok K' 1 l[i].Name (by omega) (by omega) (by simp only [maxLen]; omega), Option.bind_some, ih true]
      simp only [eps_dc, int_ndc, not_dc, or_dc, and_dc, dec_dc, iff_dc, ifn_dc, Bool.false_or]
      refine congrArg some (dc_eq ?_)
      rw [hdr]
      simp only [wfL, dpL, hop, if_true, true_implies, not_true_eq_false, false_implies, and_true, ne_eq]
      constructor
      · rintro ⟨g1, g2, g3, g4⟩
        refine ⟨⟨⟨?_, ?_⟩, ⟨?_, ?_, ?_, ?_⟩, g3⟩, g4⟩
        · exact Classical.byContradiction fun e => g1 (.inr e)
        · exact Classical.byContradiction fun e => g1 (.inl e)
        · exact Classical.byContradiction fun e => g2 (.inl (.inl (.inl e)))
        · exact Classical.byContradiction fun e => g2 (.inl (.inl (.inr e)))
        · exact Classical.byContradiction fun e => g2 (.inl (.inr e))
        · exact Classical.byContradiction fun e => g2 (.inr (by omega))
      · rintro ⟨⟨⟨g1, g2⟩, ⟨u1, u2, u3, u4⟩, g3⟩, g4⟩
        refine ⟨fun e => e.elim (fun e => e g2) (fun e => e g1), ?_, g3, g4⟩
        rintro (((e | e) | e) | e)
        · exact e u1
        · exact e u2
        · exact e u3
        · exact e (by omega)
    · rw [if_neg (by simpa using hop)]
      cases up with
      | true =>
        rw [if_neg (by simp), dc_false]
        rw [hdr]
        rintro ⟨h, _⟩
        simp only [wfL] at h
        exact (h.2 hop).1 trivial
      | false =>
        rw [if_pos rfl, TExpr.re_eq, wrap_ok (n := most - 1) (by omega) (by omega), hK d l[i] (most - 1) hd (by omega) (by omega) (by omega) (by omega), Option.bind_some, ih false]
        simp only [not_dc, Bool.false_or, ifn_dc, Classical.not_not]
        refine congrArg some (dc_eq ?_)
        rw [hdr]
        simp only [wfL, dpL, hop, if_false, false_implies, true_and, ne_eq, not_false_eq_true, true_implies, Bool.false_eq_true]
        constructor
        · rintro ⟨⟨g1, g2⟩, g3, g4⟩
          exact ⟨⟨g1, g3⟩, by omega⟩
        · rintro ⟨⟨g1, g3⟩, g4⟩
          exact ⟨⟨g1, by omega⟩, g3, by omega⟩
theorem form_ok : ∀ K, rfOK K
  | 0 => fun d e most _ hb hk => by omega
  | 1 => fun d e most _ hb hk => by omega
  | 2 => fun d e most _ hb hk => by omega
  | 3 => fun d e most _ hb hk => by omega
  | K + 4 => fun d e most hd hb hk h0 h1 => by
    have hK := form_ok (K + 3)
    have hnm := bk_name e
    have hlen := bks_Expr_len e.L
    have hloop := form_loop (K + 3) hK d hd most
    obtain ⟨K', rfl⟩ : ∃ K', K = K' + 1 := ⟨K - 1, by omega⟩
    have hname := fun s (hs : s.size ≤ bk_TExpr e) => rname_ok (K' + 1) d s (by omega) (by omega) (by simp only [maxLen]; omega)
    have hname1 : (FF hFam (K' + 1 + 3)).f_r07_Name (d, e.Name, ()) = some (dc (nameP d e.Name)) := hname _ (by omega)
    have hname2 : (FF hFam (K' + 1 + 3)).f_r07_Name (d, e.Field, ()) = some (dc (nameP d e.Field)) := hname _ (by omega)
    have hrt : (FF hFam (K' + 1 + 3)).f_r07_Routine (d, e.Name, ()) = some (dc (rtP d e.Name)) := rroutine_ok K' d hd e.Name (by omega) (by omega)
    show B_r07_form (FF hFam (K' + 1 + 3)) (K' + 1 + 3) d e most = _
    by_cases hm : most = 0
    · unfold B_r07_form
      rw [if_pos (by simp [hm]), dc_false]
      rintro ⟨_, h⟩
      have := dpE_pos e
      omega
    have hlp : ∀ (x1 : TExpr) (x2 op n : Int) (nm f : ByteArray), Lr07_form_47 (FF hFam (K' + 1 + 3)) (K' + 1 + 3) d x1 x2 (K' + 1 + 3) d most false 0 op n nm f e.L = some (dc (wfL d (op = 7 ∧ d = 1) False e.L ∧ (dpL e.L : Int) + 1 ≤ most)) := by
      intro x1 x2 op n nm f
      have := hloop (by omega) h1 op e.L (by omega) (by omega) x1 x2 n nm f (K' + 1 + 3) 0 (Nat.zero_le _) (by omega) false
      simpa using this
    clear hloop
    have hre : e.re = e := TExpr.re_eq e
    obtain ⟨op, n, nm, f, l⟩ := e
    simp only at hnm hlen hlp hname1 hname2 hrt ⊢
    have hwf : wfE d ⟨op, n, nm, f, l⟩ ↔ l.length ≤ 512 ∧ hdP d op n nm f l.length ∧ wfL d (op = 7 ∧ d = 1) False l := by simp only [wfE]
    have hdp : dpE ⟨op, n, nm, f, l⟩ = dpL l + 1 := by simp only [dpE]
    have hgoal : dc (wfE d ⟨op, n, nm, f, l⟩ ∧ (dpE ⟨op, n, nm, f, l⟩ : Int) ≤ most) = dc (l.length ≤ 512 ∧ hdP d op n nm f l.length ∧ (wfL d (op = 7 ∧ d = 1) False l ∧ (dpL l : Int) + 1 ≤ most)) :=
      dc_eq (by rw [hwf, hdp]; simp only [and_assoc]; exact Iff.rfl)
    rw [hgoal]
    have hcases : op = 1 ∨ op = 2 ∨ op = 3 ∨ op = 4 ∨ op = 5 ∨ op = 6 ∨ op = 7 ∨ op = 8 ∨ op = 9 ∨ op = 10 ∨ op = 11 ∨ op = 12 ∨ op = 13 ∨ op = 14 ∨ op = 15 ∨ op = 16 ∨ op = 17 ∨ op = 18 ∨ op = 19 ∨ op = 20 ∨ op = 21 ∨ op = 22 ∨ op = 23 ∨ op = 24 ∨ (op < 1 ∨ 24 < op) := by omega
    have hlc : ∀ m : Nat, ((l.length : Int) != (m : Int)) = dc (¬ l.length = m) := fun m => by rw [int_ndc]; exact dc_eq (by omega)
    have hl0 : ((l.length : Int) != 0) = dc (¬ l.length = 0) := hlc 0
    have hl1 : ((l.length : Int) != 1) = dc (¬ l.length = 1) := hlc 1
    have hl2 : ((l.length : Int) != 2) = dc (¬ l.length = 2) := hlc 2
    have hll : ((l.length : Int) != (l.length : Int)) = false := by simp
    have hsm : decide ((l.length : Int) > 512) = dc (¬ l.length ≤ 512) := by rw [dec_dc]; exact dc_eq (by omega)
    have hm0 : (most == 0) = false := by simp [hm]
    simp only [B_r07_form, hlp, hname1, hname2, hrt, Option.bind_some, hl0, hl1, hl2, hll, hsm, hm0, eps_dc, Bool.false_or]
    have hb1 : ∀ c : Int, (op == c) = decide (op = c) := fun c => rfl
    simp only [hb1]
    generalize hW : (wfL d (op = 7 ∧ d = 1) False l ∧ (dpL l : Int) + 1 ≤ most) = W
    clear hname hname1 hname2 hre hwf hdp hgoal hK hb1 hlc hl0 hl1 hl2 hsm hb hnm hlen hk hlp hrt hW hm0 hll
    rcases hcases with h | h | h | h | h | h | h | h | h | h | h | h | h | h | h | h | h | h | h | h | h | h | h | h | h
    case inr.inr.inr.inr.inr.inr.inr.inr.inr.inr.inr.inr.inr.inr.inr.inr.inr.inr.inr.inr.inr.inr.inr.inr =>
      rw [dc_false (p := l.length ≤ 512 ∧ hdP d op n nm f l.length ∧ W) (fun e => by have := hdP_op e.2.1; omega)]
      have e : ∀ c : Int, 1 ≤ c ∧ c ≤ 24 → decide (op = c) = false := fun c hc => decide_eq_false (by omega)
      simp only [e 1 (by decide), e 2 (by decide), e 3 (by decide), e 4 (by decide), e 5 (by decide), e 6 (by decide), e 7 (by decide), e 8 (by decide), e 9 (by decide), e 10 (by decide), e 11 (by decide), e 12 (by decide), e 13 (by decide),
        e 14 (by decide), e 15 (by decide), e 16 (by decide), e 17 (by decide), e 18 (by decide), e 19 (by decide), e 20 (by decide), e 21 (by decide), e 22 (by decide), e 23 (by decide), e 24 (by decide), Bool.false_eq_true, if_false, ite_self]
    all_goals subst h
    all_goals simp only [Int.reduceEq, decide_true, decide_false, if_true, Bool.false_eq_true, if_false, Bool.or_false, Bool.false_or]
    all_goals simp only [not_dc, or_dc, and_dc, int_ndc, int_dc, dec_dc, ifn_dc, iff_dc, if_dc, Classical.not_not]
    all_goals refine congrArg some (dc_eq ?_)
    all_goals simp only [hdP, Int.reduceEq, Int.reduceLE, false_and, and_false, false_or, or_false, true_and, or_true, true_or]
    all_goals generalize nameP d nm = N1
    all_goals generalize nameP d f = N2
    all_goals generalize rtP d nm = N3
    all_goals generalize l.length = len
    all_goals simp only [not_or, Classical.not_not, Classical.not_and_iff_not_or_not, and_assoc]
    all_goals (constructor <;> intro h <;> simp_all)
def deOK (K : Nat) : Prop := ∀ (e : TExpr) (most : Int), bk_TExpr e ≤ 1048576 → 3 * bk_TExpr e + 50 ≤ K → 0 ≤ most → most ≤ 99 → (dpE e : Int) ≤ most + 1 → (FF hFam K).f_r07_Deep (e, most, ()) = some (dpE e : Int)
theorem Deep_ok : ∀ K, deOK K
  | 0 => fun e most hb hk => by omega
  | K + 1 => fun e most hb hk h0 h1 hd => by
    have hK := Deep_ok K
    have hnm := bk_name e
    have hlen := bks_Expr_len e.L
    have hml : e.L.length ≤ maxLen := by simp only [maxLen]; omega
    have hdp : dpE e = dpL e.L + 1 := by cases e; simp only [dpE]
    show B_r07_Deep (FF hFam K) K e most = _
    unfold B_r07_Deep
    rcases Int.lt_or_le 0 most with hm | hm
    · have key : ∀ j i, i ≤ e.L.length → e.L.length - i < j → ∀ v : Nat, v ≤ 100 → dpL (e.L.drop i) ≤ most → Lr07_Deep_3 (FF hFam K) K e most j most (v : Int) (i : Int) e.Op e.N e.Name e.Field e.L = some (((max v (dpL (e.L.drop i)) + 1 : Nat)) : Int) := by
        refine up_ind e.L.length (fun j v hv hle => ?_) (fun j i hi ih v hv hle => ?_)
        · simp only [Lr07_Deep_3]
          rw [if_neg (by simp), List.drop_length, dpL, Nat.max_zero, wrap_ok (by omega) (by omega)]
          rfl
        · have hbi := bks_Expr_mem e.L i hi
          have hdr : e.L.drop i = e.L[i] :: e.L.drop (i + 1) := (List.getElem_cons_drop hi).symm
          rw [hdr] at hle ⊢
          simp only [Lr07_Deep_3]
          have hc : (decide ((i : Int) < (e.L.length : Int)) && decide (most > 0)) = true := by simp; omega
          rw [if_pos hc, if_pos (by omega), if_pos (by omega), getD_at e.L i _ hi, wrap_succ hi hml]
          by_cases hop : e.L[i].Op = 25
          · rw [if_neg (by simp [hop])]
            rw [dpL, if_pos hop] at hle ⊢
            exact ih v hv hle
          · rw [if_pos (by simpa using hop), if_pos (by omega), if_pos (by omega), TExpr.re_eq]
            rw [dpL, if_neg hop] at hle ⊢
            rw [wrap_ok (n := most - 1) (by omega) (by omega), hK e.L[i] (most - 1) (by omega) (by omega) (by omega) (by omega) (by omega), Option.bind_some]
            have hmax : (if ((dpE e.L[i] : Nat) : Int) > (v : Int) then ((dpE e.L[i] : Nat) : Int) else (v : Int)) = ((max v (dpE e.L[i]) : Nat) : Int) := by split <;> omega
            rw [hmax, ih (max v (dpE e.L[i])) (by omega) (by omega), Nat.max_assoc]
      have := key K 0 (Nat.zero_le _) (by omega) 0 (by omega) (by rw [List.drop_zero]; omega)
      simp only [Int.ofNat_zero, List.drop_zero, Nat.zero_max] at this
      rw [hdp]
      exact this
    · have hmz : most = 0 := by omega
      subst hmz
      obtain ⟨K, rfl⟩ : ∃ K', K = K' + 1 := ⟨K - 1, by omega⟩
      simp only [Lr07_Deep_3]
      rw [if_neg (by simp)]
      have : dpE e = 1 := by have := dpE_pos e; omega
      rw [this]
      rfl
theorem TreeExprs_ok (k : Nat) (d : Int) (e : TExpr) (hb : bk_TExpr e ≤ 1048576) (hk : 3 * bk_TExpr e + 100 ≤ k) (aw : (FF hFam (k + 1)).f_w07_awake () = some true) : (FF hFam (k + 2)).f_w07_TreeExprs (d, e, ()) = some true := by
  show B_w07_TreeExprs (FF hFam (k + 1)) (k + 1) d e = _
  have h1 : (FF hFam (k + 1)).f_tree_CheckExpr (d, e, ()) = B_tree_CheckExpr (FF hFam k) k d e := rfl
  have h2 : (FF hFam (k + 1)).f_r07_Expr (d, e, ()) = B_r07_Expr (FF hFam k) k d e := rfl
  unfold B_w07_TreeExprs
  rw [TExpr.re_eq, h1, h2, aw]
  unfold B_tree_CheckExpr B_r07_Expr
  rw [TExpr.re_eq]
  by_cases hd : d = 0 ∨ d = 1
  · have hc : (d != 0 && d != 1) = false := by rcases hd with rfl | rfl <;> rfl
    rw [hc]
    have he := expr_ok k d e hb (by omega)
    have hf := form_ok k d e 48 hd hb (by omega) (by omega) (by omega)
    have hw : (wfE d e ∧ (dpE e : Int) ≤ 48) ↔ (wfE d e ∧ dpE e ≤ 48) := by constructor <;> rintro ⟨a, b⟩ <;> exact ⟨a, by omega⟩
    rw [he, hf, dc_eq hw]
    have hpos := dpE_pos e
    by_cases h : wfE d e ∧ dpE e ≤ 48
    · rw [ic_pos h, dc_true h, Deep_ok k e 99 hb (by omega) (by omega) (by omega) (by omega)]
      have e1 : (((dpE e : Nat) : Int) == 0) = false := by simp; omega
      have e2 : decide (((dpE e : Nat) : Int) ≤ 48) = true := by simp; omega
      have e3 : dpE e ≠ 0 := by omega
      simp [e1, e2, e3]
    · rw [ic_neg h, dc_false h]
      rfl
  · have hc : (d != 0 && d != 1) = true := by simp; omega
    rw [hc]
    rfl
end Go.Ev
end
section
open Go Go.Proofs
namespace Go.Ev
open Go.RowKit Go.Proofs.YtokkfbkbnocnoaaGreatDoor
set_option linter.unusedVariables false
set_option linter.unusedSimpArgs false
set_option maxHeartbeats 4000000
set_option maxRecDepth 100000
theorem bulkAll_eq {H : Type} : ∀ l : List (DataW H), Rows.uptoBulkAll l = (l.map Rows.uptoBulk).sum
  | [] => rfl
  | d :: r => by rw [Rows.uptoBulkAll, bulkAll_eq r]; rfl
theorem bulk_pos {H : Type} (d : DataW H) : 1 ≤ Rows.uptoBulk d := by
  cases d with
  | lit l => cases l <;> simp [Rows.uptoBulk]
  | _ => simp [Rows.uptoBulk]
theorem measB (H : Type) : Meas EE ftt bkk (fun d : DataW H => Rows.uptoBulk d) rowsL :=
  meas EE rfl rfl _ (bulk_pos _) (fun l => bulk_pos _) (fun l => Nat.le_refl _) (fun a b => by show (a.map Rows.uptoBulk).sum + 1 ≤ Rows.uptoBulkAll a + Rows.uptoBulkAll b + 1; rw [bulkAll_eq a]; omega)
    (fun a => by show (a.map Rows.uptoBulk).sum + 1 ≤ Rows.uptoBulkAll a + 1; rw [bulkAll_eq a]; exact Nat.le_refl _)
section
variable {H : Type} {enc : TypeId × Value → H} {W : World} {base : Nat} {spare : Nat → Bool} {held : Bool}
theorem read_anyB {t : Nat} {ti : TI} {l : List KD} (ht : EE.ty t = some ti) (hs : (match ti.td with | .struct _ => true | _ => false) = true) (hl : flatK EE.ty 9 t = some l) (hn : Nat.beq ti.size 1 = false) {v : Value} {d : DataW H} {ps : List MemPlace} (h : DataW.Trod enc Tryz.prog W base spare held t v d ps) :
    ∃ vs : Array Value, v = .agg vs ∧ ∃ ds, DReps EE (allS W) W vs.toList ds ∧ ds.map kd = l ∧ (∀ d ∈ ds, QD ftt d) ∧ (ds.map (bkD bkk)).sum + 1 ≤ Rows.uptoBulk d := by
  obtain ⟨fuel, h⟩ := h
  obtain ⟨⟨ds, h1, h2, h3, h4⟩, h5, hlen⟩ := rd hEE (measB H) fuel t ti _ (d, ps) l ht hl h
  cases htd : ti.td with
  | struct fs =>
    rw [htd] at h4 h5
    simp only at h4 h5
    cases v with
    | agg vs => exact ⟨vs, rfl, ds, h1, h2, h3, by omega⟩
    | _ =>
      have h1 : 1 = ti.size := hlen
      simp only [← h1] at hn
      cases hn
  | _ => rw [htd] at hs; cases hs
theorem read_exprB {v : Value} {d : DataW H} {ps : List MemPlace} (h : DataW.Trod enc Tryz.prog W base spare held 44 v d ps) :
    ∃ (vs : Array Value) (x : TExpr), v = .agg vs ∧ ft_TExpr x ∧ bk_TExpr x ≤ Rows.uptoBulk d ∧ ARep EE (allS W) W (· ∈ ([] : List Nat)) W.heap.size v (c_TExpr.enc x) [] [] := by
  obtain ⟨vs, rfl, ds, h1, h2, h3, h4⟩ := read_anyB (t := 44) (l := [.int .i64, .int .i64, .str, .str, .sl 44]) (ti := tyOfN 44) (by kernel_rfl) (by kernel_rfl) (by kernel_rfl) (by kernel_rfl) h
  obtain ⟨x, rfl⟩ := full_TExpr ds (congrArg some h2.symm)
  refine ⟨vs, x, rfl, ?_, ?_, .agg vs _ [] [] h1.preps⟩
  · cases x
    simp only [row_TExpr, List.mem_cons, List.not_mem_nil, or_false, forall_eq_or_imp, forall_eq, QD] at h3
    simp only [ft_TExpr, fts_TExpr_iff]
    exact h3
  · cases x
    simp only [row_TExpr, List.map_cons, List.map_nil, List.sum_cons, List.sum_nil, bkD, bkk_TExpr] at h4
    simp only [bk_TExpr, bks_TExpr_eq]
    omega
theorem sp6 (s : Fam) : sp s 6 = ansOf c_w07_TreeExprs rc_w07_TreeExprs.enc s.f_w07_TreeExprs := by kernel_rfl
theorem treeExprs (n : Int) {v1 : Value} {d1 : DataW H} {p1 : List MemPlace} (h1 : DataW.Trod enc Tryz.prog W base spare held 44 v1 d1 p1) (hb : Rows.uptoBulk d1 ≤ 1048576) (hi : EE.inv W) :
    Calls Tryz.prog 6 #[.int .i64 n, v1] W fun e W' => e = .returned (.bool true) ∧ Below W.heap.size W W' := by
  obtain ⟨_, x, _, fx, bx, rx⟩ := read_exprB h1
  refine call_law (s := FF hFam (3200000 + 12 + 2)) (by decide) (specs hand _) (avs := c_w07_TreeExprs.enc (n, x, ())) ?_ (.cons _ _ _ _ [] [] [] [] (.c _ _ _ _ (.d _ _ (.lit _ rfl))) (.cons _ _ _ _ [] [] [] [] rx .nil)) hi
  rw [sp6]
  exact ans_run _ _ _ (x := (n, x.re, ())) rfl (by rw [TExpr.re_eq]; exact TreeExprs_ok (3200000 + 12) n x (by omega) (by omega) (awake_ok (3200000 + 1)))
end
end Go.Ev
end
section
set_option linter.unusedVariables false
namespace Go.Ev.treeExprs
open Go Go.Proofs Go.ChangeShapes Go.WideShapes Go.ChangeAt Go.RowKit Go.Proofs.YtokkfbkbnocnoaaGreatDoor
theorem own : ownKnob Tryz.prog.godebug = none := by kernel_rfl
theorem laidOut : laidOutB Tryz.prog = true := by kernel_rfl
theorem reads (os : Os) {H : Type} (enc : TypeId × Value → H) : ∃ places, DataW.whole enc Tryz.prog ((World.laidAll Tryz.prog os laidL).forCall (fun _ _ => 0) ⟨#[], #[.int .i64 0, .agg #[.int .i64 0, .int .i64 0, .string ⟨#[]⟩, .string ⟨#[]⟩, .slice none 0 0]], []⟩).memory Tryz.f6.params.toList Rows.treeExprsSpec.vars false #[Value.int .i64 0, .agg #[.int .i64 0, .int .i64 0, .string ⟨#[]⟩, .string ⟨#[]⟩, .slice none 0 0]].toList 8 = some ([.lit (.int .i64 0), .agg [.lit (.int .i64 0), .lit (.int .i64 0), .lit (.string []), .lit (.string []), .nil]], [], places) :=
  ⟨[], by kernel_rfl⟩
set_option maxRecDepth 100000 in
theorem lifted (os : Os) (started : os.Started) (H : Type) (enc : TypeId × Value → H) (F : Stop.Interp) :
    ReturnsInHanded {} Tryz.checked os 6 .any ((Rows.OpenSpec.upto Rows.treeExprsSpec).preRow enc Tryz.prog Tryz.f6 Rows.treeExprsUptoRow.domain false Rows.treeExprsUptoRow.laid) (((Rows.OpenSpec.upto Rows.treeExprsSpec).at F).post enc Tryz.prog Tryz.f6 false true false false) := by
  obtain ⟨places, hx⟩ := reads os enc
  refine returnsInHanded_of_row (C := Tryz.checked) (s := Rows.OpenSpec.upto Rows.treeExprsSpec) own started (by kernel_rfl) Tryz.func6
    ⟨World.laidAll Tryz.prog os laidL, fun _ _ => 0, ⟨#[], #[.int .i64 0, .agg #[.int .i64 0, .int .i64 0, .string ⟨#[]⟩, .string ⟨#[]⟩, .slice none 0 0]], []⟩, World.laidAll_os _ _ _, World.shaped_of_ZipB (by kernel_rfl) (by kernel_rfl), rfl, (Input.okWide_of_okWideB (by kernel_rfl)).2,
      OpenSpec.preRow_of_cond 8 hx (by kernel_rfl) (fun k hk => by cases hk; kernel_rfl) (by kernel_rfl) (by show laidMetH Tryz.prog laidL _; rw [MakeChecks.laidMetH_plain _ _ _ (by kernel_rfl)]; exact laidMet_laidAll _ (by kernel_rfl) (by kernel_rfl)), by
        simp only [Assume.holds]
        exact ⟨by simp, by simp, fun _ => Modest.zero, by simp, by simp⟩⟩ ?_
  intro W base args ds gs before hval hW _ hcond _ hlaid hsh _
  have hL : EE.inv W := of_laid hlaid hsh
  have hW' := hW
  obtain ⟨p, q, hA0, hV, rfl, hfz, hnd⟩ := hW
  have hA : DataW.TrodAll enc Tryz.prog W 0 (fun _ => true) true Tryz.f6.params.toList args.toList ds p := hA0
  rw [Tryz.params6] at hA hval
  obtain ⟨v0, vs0, d0, ds0, p0, q0, hargs, rfl, rfl, h0, r0⟩ := trodAll_cons hA
  obtain ⟨v1, vs1, d1, ds1, p1, q1, rfl, rfl, rfl, h1, r1⟩ := trodAll_cons r0
  obtain ⟨rfl, rfl, rfl⟩ := trodAll_nil r1
  obtain rfl : args = #[v0, v1] := by cases args; simp_all
  obtain ⟨rfl, rfl⟩ := trodVars_none hV
  have hbulk := hcond _ rfl
  simp only [Rows.uptoSmall, decide_eq_true_eq, List.append_nil, List.cons_append, List.nil_append, bulkAll_eq, List.map_cons, List.map_nil, List.sum_cons, List.sum_nil] at hbulk
  have lt0 : ∀ x ∈ p0, x.block < W.heap.size := by obtain ⟨m, hm⟩ := h0; exact DataW.trod_lt m _ _ _ hm
  have lt1 : ∀ x ∈ p1, x.block < W.heap.size := by obtain ⟨m, hm⟩ := h1; exact DataW.trod_lt m _ _ _ hm
  obtain ⟨n0, e0, _, _, _⟩ := open_int Tryz.underlying3 (hval 0 3 v0 rfl rfl) h0
  have hcall : Calls Tryz.prog 6 #[v0, v1] W fun e W' => e = .returned (.bool true) ∧ Below W.heap.size W W' := by
    rw [e0]
    exact Go.Ev.treeExprs n0 h1 (by omega) hL
  refine hcall.mono fun e W' ⟨he, bel⟩ => ?_
  subst he
  exact ⟨_, rfl, (⟨_, _, _, [], _, [], hW', trodAll_mk1 (shut_bool Tryz.underlying4 _), (trodAll_cons_mk (Below.trod laidOut (by kernel_rfl) (of_decide_eq_true (by kernel_rfl)) h0 bel lt0) (trodAll_cons_mk (Below.trod laidOut (by kernel_rfl) (of_decide_eq_true (by kernel_rfl)) h1 bel lt1) trodAll_mk0)), rfl, bel.frame _, fun h => by cases h⟩ : Rows.treeExprsSpec.post enc Tryz.prog Tryz.f6 false true false false W _ _ W')⟩
theorem over : Rows.TreeExprsUptoSaid :=
  OpenClaim.holds_of_cond 6 Tryz.f6 rfl rfl rfl rfl rfl rfl rfl ⟨rfl, rfl, rfl, rfl, rfl⟩ rfl rfl rfl rfl rfl (by kernel_rfl) Tryz.func6 (by kernel_rfl)
    (of_decide_eq_true (by kernel_rfl)) (by unfold Func.isWrapper; first | (rw [if_pos (by decide +kernel)]; kernel_rfl) | (rw [if_neg (by decide +kernel)]; exact ⟨rfl, rfl⟩))
    (fun os started H enc _ F => by rw [OpenClaim.pre_eq_preRow]; exact lifted os started H enc F)
theorem plain (f : FuncId) (fn : Func) (hf : Tryz.pinned.checked.prog.funcNamed "pantograph/pantographlaw07.TreeExprs" = some f) (hfn : Tryz.pinned.checked.prog.funcs[f]? = some fn) :
    false = Tryz.pinned.checked.prog.looks [] ∧ ∀ (j : Nat) t, fn.params[j]? = some t → Tryz.pinned.checked.prog.wantsStandIn t = false := by
  obtain rfl : f = 6 := Option.some.inj ((show Tryz.prog.funcNamed "pantograph/pantographlaw07.TreeExprs" = some 6 by kernel_rfl).symm.trans hf) |>.symm
  obtain rfl : fn = Tryz.f6 := (Option.some.inj (Tryz.func6.symm.trans hfn)).symm
  refine ⟨by kernel_rfl, fun j t ht => ?_⟩
  rw [Tryz.params6] at ht
  have hm : t ∈ [3, 44] := by simpa using Array.mem_of_getElem? ht
  have hall : ([3, 44].all fun u => !Tryz.prog.wantsStandIn u) = true := by kernel_rfl
  exact (show Tryz.prog.wantsStandIn t = false by simpa using List.all_eq_true.1 hall t hm)
theorem card : Rows.TreeExprsUptoCardSaid :=
  Claim7.holds_tied_plain_at .later [] _ _ _ _ over (fun _ h => by cases h) (by kernel_rfl) (fun _ h => by cases h) treeExprsUpto_row_tie rfl ⟨rfl, rfl⟩ (by kernel_rfl) rfl plain (by kernel_rfl)
end Go.Ev.treeExprs
namespace Go.Proofs.YtokkfbkbnocnoaaGreatDoor
theorem treeExprs_holds : Rows.TreeExprsUptoCardSaid := Go.Ev.treeExprs.card
end Go.Proofs.YtokkfbkbnocnoaaGreatDoor
end
