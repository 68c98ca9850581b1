/- Proved here: the statement TreeChecksUpto (any program is right of a dialect, or is not, as the document says; of what it reads at most 1048576 values and letters), for every input that its row lets in; conditions: those of the row, and none beside. -/
import Derived.Test.YtokkfbkbnocnoaaGreatDoorA4
import Derived.Test.YtokkfbkbnocnoaaGreatDoorRows
import Derived.Deep.DeepHandedRow
section
open Go
namespace Go.Ev
open Go.Proofs.YtokkfbkbnocnoaaGreatDoor
set_option maxRecDepth 100000
set_option maxHeartbeats 4000000
set_option linter.unusedVariables false
set_option linter.unusedSimpArgs false
def eps : ByteArray := ⟨#[]⟩
def upP (x : TExpr) : Prop := nameP 1 x.Name ∧ x.N = 0 ∧ x.Field = eps ∧ x.L.length = 0
def hdP (d op n : Int) (nm f : ByteArray) (len : Nat) : Prop :=
  (op = 1 ∧ 0 ≤ n ∧ nm = eps ∧ f = eps ∧ len = 0) ∨ (op = 2 ∧ (n = 0 ∨ n = 1) ∧ nm = eps ∧ f = eps ∧ len = 0) ∨ (op = 3 ∧ (0 ≤ n ∧ n ≤ 255) ∧ nm = eps ∧ f = eps ∧ len = 0) ∨
  (op = 4 ∧ n = 0 ∧ nameP d nm ∧ f = eps ∧ len = 0) ∨ (op = 5 ∧ n = 0 ∧ nameP d nm ∧ f = eps ∧ len = 1) ∨ (op = 6 ∧ n = 0 ∧ nameP d nm ∧ nameP d f ∧ len = 0) ∨ (op = 7 ∧ n = 0 ∧ rtP d nm ∧ f = eps) ∨
  ((op = 8 ∨ op = 9) ∧ n = 0 ∧ nm = eps ∧ f = eps ∧ len = 1) ∨ ((10 ≤ op ∧ op ≤ 24) ∧ n = 0 ∧ nm = eps ∧ f = eps ∧ len = 2)
theorem hdP_op {d op n : Int} {nm f : ByteArray} {len : Nat} (h : hdP d op n nm f len) : 1 ≤ op ∧ op ≤ 24 := by
  unfold hdP at h
  omega
mutual
def wfE (d : Int) : TExpr → Prop
  | ⟨op, n, nm, f, l⟩ => l.length ≤ 512 ∧ hdP d op n nm f l.length ∧ wfL d (op = 7 ∧ d = 1) False l
def wfL (d : Int) (c : Prop) : Prop → List TExpr → Prop
  | _, [] => True
  | up, x :: r => (x.Op = 25 → c ∧ upP x ∧ wfL d c True r) ∧ (x.Op ≠ 25 → ¬ up ∧ wfE d x ∧ wfL d c up r)
end
mutual
def dpE : TExpr → Nat
  | ⟨_, _, _, _, l⟩ => dpL l + 1
def dpL : List TExpr → Nat
  | [] => 0
  | x :: r => if x.Op = 25 then dpL r else max (dpE x) (dpL r)
end
theorem wfE_op {d : Int} {x : TExpr} (h : wfE d x) : x.Op ≠ 25 := by
  cases x
  simp only [wfE] at h
  have := hdP_op h.2.1
  show _ ≠ _
  simp only
  omega
theorem dpE_pos (x : TExpr) : 1 ≤ dpE x := by cases x; simp [dpE]
theorem wfL_ups {d : Int} {c : Prop} : ∀ {l : List TExpr}, wfL d c True l ↔ ∀ x ∈ l, x.Op = 25 ∧ c ∧ upP x
  | [] => by simp [wfL]
  | x :: r => by
    simp only [wfL, List.mem_cons, forall_eq_or_imp, wfL_ups (l := r), not_true_eq_false, false_and]
    constructor
    · rintro ⟨h1, h2⟩
      have h : x.Op = 25 := Classical.byContradiction fun h => h2 h
      exact ⟨⟨h, (h1 h).1, (h1 h).2.1⟩, (h1 h).2.2⟩
    · rintro ⟨⟨h, h1, h2⟩, h3⟩
      exact ⟨fun _ => ⟨h1, h2, h3⟩, fun e => e h⟩
theorem wfL_iff {d : Int} {c : Prop} : ∀ {l : List TExpr}, wfL d c False l ↔ ∃ a b, l = a ++ b ∧ (∀ x ∈ a, wfE d x) ∧ ∀ x ∈ b, x.Op = 25 ∧ c ∧ upP x
  | [] => by simp only [wfL, true_iff]; exact ⟨[], [], rfl, by simp, by simp⟩
  | x :: r => by
    simp only [wfL, not_false_eq_true, true_and, wfL_ups, wfL_iff (l := r)]
    constructor
    · rintro ⟨h1, h2⟩
      by_cases h : x.Op = 25
      · obtain ⟨a, b, e⟩ := h1 h
        exact ⟨[], x :: r, rfl, by simp, by simp only [List.mem_cons, forall_eq_or_imp]; exact ⟨⟨h, a, b⟩, e⟩⟩
      · obtain ⟨e, a, b, rfl, p, q⟩ := h2 h
        exact ⟨x :: a, b, rfl, by simp only [List.mem_cons, forall_eq_or_imp]; exact ⟨e, p⟩, q⟩
    · rintro ⟨a, b, he, p, q⟩
      cases a with
      | nil =>
        simp only [List.nil_append] at he
        subst he
        simp only [List.mem_cons, forall_eq_or_imp] at q
        exact ⟨fun _ => ⟨q.1.2.1, q.1.2.2, q.2⟩, fun h => absurd q.1.1 h⟩
      | cons y a =>
        simp only [List.cons_append, List.cons.injEq] at he
        obtain ⟨rfl, rfl⟩ := he
        simp only [List.mem_cons, forall_eq_or_imp] at p
        exact ⟨fun h => absurd h (wfE_op p.1), fun _ => ⟨p.1, a, b, rfl, p.2, q⟩⟩
def dpM : List TExpr → Nat
  | [] => 0
  | x :: r => max (dpE x) (dpM r)
theorem dpL_app {d : Int} : ∀ {a b : List TExpr}, (∀ x ∈ a, wfE d x) → (∀ x ∈ b, x.Op = 25) → dpL (a ++ b) = dpM a
  | [], [], _, _ => rfl
  | [], y :: b, _, h => by
    simp only [List.mem_cons, forall_eq_or_imp] at h
    have := dpL_app (d := d) (a := []) (b := b) (by simp) h.2
    simp only [List.nil_append] at this ⊢
    rw [dpL, if_pos h.1, this]
  | x :: a, b, h, hb => by
    simp only [List.mem_cons, forall_eq_or_imp] at h
    rw [List.cons_append, dpL, if_neg (wfE_op h.1), dpL_app h.2 hb, dpM]
noncomputable def ic (p : Prop) (n : Nat) : Int := if dc p = true then (n : Int) else 0
theorem ic_pos {p : Prop} {n : Nat} (h : p) : ic p n = n := by unfold ic; rw [if_pos (dc_true h)]
theorem ic_neg {p : Prop} {n : Nat} (h : ¬ p) : ic p n = 0 := by unfold ic; rw [if_neg (by rw [dc_false h]; simp)]
theorem ic_eq {p q : Prop} {n m : Nat} (h : p ↔ q) (hn : p → n = m) : ic p n = ic q m := by
  by_cases hp : p
  · rw [ic_pos hp, ic_pos (h.1 hp), hn hp]
  · rw [ic_neg hp, ic_neg (fun e => hp (h.2 e))]
theorem bk_name (e : TExpr) : e.Name.size + e.Field.size + bks_TExpr e.L + 6 ≤ bk_TExpr e := by cases e; simp [bk_TExpr]; omega
theorem wrap_dn {n : Nat} (h : 0 < n) (hn : n ≤ maxLen) : IntKind.i64.wrap ((n : Int) - 1) = ((n - 1 : Nat) : Int) := by
  simp only [maxLen] at hn
  rw [wrap_ok (by omega) (by omega)]
  omega
theorem few_ok (k : Nat) (l : List TExpr) : (FF hFam (k + 1)).f_tree_few_Expr (l, ()) = some (decide ((l.length : Int) ≤ 512)) := rfl
def cOK (K : Nat) : Prop := ∀ (d : Int) (e : TExpr), bk_TExpr e ≤ 1048576 → 3 * bk_TExpr e + 50 ≤ K → (FF hFam K).f_tree_checker_expr ({ dialect := d }, e, ()) = some (ic (wfE d e ∧ dpE e ≤ 48) (dpE e))
theorem deepest_ok (K : Nat) (hK : cOK K) (d : Int) (l : List TExpr) (hb : bks_TExpr l ≤ 1048576) (hk : 3 * bks_TExpr l + 50 ≤ K) :
    (FF hFam (K + 1)).f_tree_checker_deepest ({ dialect := d }, l, ()) = some (ic ((∀ x ∈ l, wfE d x) ∧ dpM l + 1 ≤ 48) (dpM l + 1)) := by
  have hlen := bks_Expr_len l
  have hml : l.length ≤ maxLen := by simp only [maxLen]; omega
  have key : ∀ j i, i ≤ l.length → l.length - i < j → ∀ v : Nat, v ≤ 48 → Ltree_checker_deepest_3 (FF hFam K) K { dialect := d } l j (v : Int) l (l.length : Int) (i : Int) d = some (ic ((∀ x ∈ l.drop i, wfE d x) ∧ max v (dpM (l.drop i)) + 1 ≤ 48) (max v (dpM (l.drop i)) + 1)) := by
    refine up_ind l.length (fun j v hv => ?_) (fun j i hi ih v hv => ?_)
    · simp only [Ltree_checker_deepest_3]
      rw [if_neg (by simp)]
      simp only [List.drop_length, dpM, Nat.max_zero]
      by_cases h : 48 ≤ v
      · rw [if_pos (by simp; omega), ic_neg (by omega)]
      · rw [if_neg (by simp; omega), ic_pos (by simp; omega)]
        rw [wrap_ok (by omega) (by omega)]
        rfl
    · have hbi := bks_Expr_mem l i hi
      have hd : l.drop i = l[i] :: l.drop (i + 1) := (List.getElem_cons_drop hi).symm
      simp only [Ltree_checker_deepest_3]
      rw [if_pos (lt_dec hi), if_pos (by omega), if_pos (by omega), getD_at l i _ hi, TExpr.re_eq, hK d l[i] (by omega) (by omega), Option.bind_some, wrap_succ hi hml]
      have hpos := dpE_pos l[i]
      by_cases h : wfE d l[i] ∧ dpE l[i] ≤ 48
      · rw [ic_pos h]
        have hne : (((dpE l[i] : Nat) : Int) == 0) = false := by simp; omega
        rw [if_neg (by rw [hne]; simp)]
        have hmax : (if ((dpE l[i] : Nat) : Int) > (v : Int) then ((dpE l[i] : Nat) : Int) else (v : Int)) = ((max v (dpE l[i]) : Nat) : Int) := by split <;> omega
        rw [hmax, ih (max v (dpE l[i])) (by omega)]
        refine congrArg some (ic_eq ?_ fun _ => ?_)
        · rw [hd]
          simp only [List.mem_cons, forall_eq_or_imp, dpM]
          rw [← Nat.max_assoc]
          exact ⟨fun ⟨a, b⟩ => ⟨⟨h.1, a⟩, b⟩, fun ⟨⟨_, a⟩, b⟩ => ⟨a, b⟩⟩
        · rw [hd, dpM, ← Nat.max_assoc]
      · rw [ic_neg h, if_pos (show ((0 : Int) == 0) = true from rfl), ic_neg]
        rw [hd]
        simp only [List.mem_cons, forall_eq_or_imp, dpM]
        rintro ⟨⟨a, _⟩, b⟩
        exact h ⟨a, by omega⟩
  have := key K 0 (Nat.zero_le _) (by omega) 0 (by omega)
  simp only [Int.ofNat_zero, List.drop_zero, Nat.zero_max] at this
  exact this
theorem take_bks (l : List TExpr) (n : Nat) : bks_TExpr (l.take n) ≤ bks_TExpr l := by
  have := List.take_append_drop n l
  rw [bks_TExpr_eq, bks_TExpr_eq]
  conv => rhs; rw [← this]
  rw [List.map_append, List.sum_append]
  omega
theorem ups_last {d : Int} {c : Prop} {l a b : List TExpr} {n : Nat} (hn : n ≤ l.length) (he : l = a ++ b) (hb : ∀ x ∈ b, x.Op = 25) (hl : ∀ h : 0 < n, (l[n - 1]'(by omega)).Op ≠ 25) : ∀ x ∈ l.take n, x ∈ a := by
  intro x hx
  have hna : n ≤ a.length := by
    rcases Nat.lt_or_ge a.length n with h | h
    · exfalso
      have h0 : 0 < n := by omega
      refine hl h0 (hb _ ?_)
      have hlen : a.length + b.length = l.length := by rw [he, List.length_append]
      have : l[n - 1]'(by omega) = b[n - 1 - a.length]'(by omega) := by
        subst he
        rw [List.getElem_append_right (by omega)]
      rw [this]
      exact List.getElem_mem _
    · exact h
  rw [he, List.take_append_of_le_length hna] at hx
  exact List.mem_of_mem_take hx
theorem call_ok (K : Nat) (hK : cOK K) (d : Int) (e : TExpr) (hb : bk_TExpr e ≤ 1048576) (hk : 3 * bks_TExpr e.L + 52 + e.Name.size ≤ K) :
    (FF hFam (K + 2)).f_tree_checker_call ({ dialect := d }, e, ()) = some (ic (rtP d e.Name ∧ wfL d (d = 1) False e.L ∧ dpL e.L + 1 ≤ 48) (dpL e.L + 1)) := by
  have hnm := bk_name e
  have hlen := bks_Expr_len e.L
  have hml : e.L.length ≤ maxLen := by simp only [maxLen]; omega
  show B_tree_checker_call (FF hFam (K + 1)) (K + 1) { dialect := d } e = _
  unfold B_tree_checker_call
  obtain ⟨k', rfl⟩ : ∃ k', K = k' + 3 := ⟨K - 3, by omega⟩
  rw [croutine_ok k' d e.Name (by omega) (by simp only [maxLen]; omega), Option.bind_some]
  by_cases hr : rtP d e.Name
  · rw [dc_true hr, if_neg (by simp)]
    have key : ∀ n, n ≤ e.L.length → (∀ x ∈ e.L.drop n, x.Op = 25 ∧ d = 1 ∧ upP x) → ∀ j, n < j → Ltree_checker_call_4 (FF hFam (k' + 3 + 1)) (k' + 3 + 1) { dialect := d } e j (n : Int) d e.Op e.N e.Name e.Field e.L =
        some (ic (wfL d (d = 1) False e.L ∧ dpL e.L + 1 ≤ 48) (dpL e.L + 1)) := by
      -- behind the last operand that isn't given up
      have stop : ∀ n, n ≤ e.L.length → (∀ x ∈ e.L.drop n, x.Op = 25 ∧ d = 1 ∧ upP x) → (∀ h : n ≤ e.L.length, ∀ h0 : 0 < n, (e.L[n - 1]'(by omega)).Op ≠ 25) →
          ((FF hFam (k' + 3 + 1)).f_tree_checker_deepest ({ dialect := d }, List.take ((n : Int).toNat - (0 : Int).toNat) (List.drop (0 : Int).toNat e.L), ())) = some (ic (wfL d (d = 1) False e.L ∧ dpL e.L + 1 ≤ 48) (dpL e.L + 1)) := by
        intro n hn hu hl
        have h1 : List.take ((n : Int).toNat - (0 : Int).toNat) (List.drop (0 : Int).toNat e.L) = e.L.take n := by simp
        have htb := take_bks e.L n
        rw [h1, deepest_ok _ hK d (e.L.take n) (by omega) (by omega)]
        have hsplit := (List.take_append_drop n e.L).symm
        have hiff : (∀ x ∈ e.L.take n, wfE d x) ↔ wfL d (d = 1) False e.L := by
          rw [wfL_iff]
          constructor
          · intro h; exact ⟨_, _, hsplit, h, hu⟩
          · rintro ⟨a, b, he, p, q⟩ x hx
            exact p x (ups_last (d := d) (c := d = 1) hn he (fun x hx => (q x hx).1) (hl hn) x hx)
        have hdp : (∀ x ∈ e.L.take n, wfE d x) → dpM (e.L.take n) = dpL e.L := fun h => by
          rw [← dpL_app h (fun x hx => (hu x hx).1), ← hsplit]
        refine congrArg some (ic_eq ?_ fun h => by rw [hdp h.1])
        constructor
        · rintro ⟨a, b⟩; exact ⟨hiff.1 a, by rw [← hdp a]; exact b⟩
        · rintro ⟨a, b⟩; exact ⟨hiff.2 a, by rw [hdp (hiff.2 a)]; exact b⟩
      intro n
      induction n with
      | zero =>
        intro hn hu j hj
        obtain ⟨j, rfl⟩ : ∃ j', j = j' + 1 := ⟨j - 1, by omega⟩
        simp only [Ltree_checker_call_4]
        rw [if_neg (by simp), if_pos (by omega), if_pos (by omega), stop 0 hn hu (fun _ h => by omega), Option.bind_some]
      | succ n ih =>
        intro hn hu j hj
        obtain ⟨j, rfl⟩ : ∃ j', j = j' + 1 := ⟨j - 1, by omega⟩
        have hw : IntKind.i64.wrap (((n + 1 : Nat) : Int) - 1) = (n : Int) := by
          rw [wrap_dn (by omega) (by omega)]; rfl
        have hlt : n < e.L.length := by omega
        simp only [Ltree_checker_call_4, hw]
        rw [if_pos (by simp), if_pos (by omega), if_pos (by omega), getD_at e.L n _ hlt]
        by_cases hop : e.L[n].Op = 25
        · rw [if_pos (by simp [hop]), if_pos (by omega), if_pos (by omega)]
          have hbad : ¬ (d = 1 ∧ upP e.L[n]) → ¬ (wfL d (d = 1) False e.L ∧ dpL e.L + 1 ≤ 48) := by
            rintro h ⟨hw, _⟩
            obtain ⟨a, b, he, p, q⟩ := wfL_iff.1 hw
            have hmem : e.L[n] ∈ a ++ b := by rw [← he]; exact List.getElem_mem hlt
            rcases List.mem_append.1 hmem with hm | hm
            · exact wfE_op (p _ hm) hop
            · exact h (q _ hm).2
          by_cases hd : d = 1
          · rw [if_pos (by simp [hd])]
            have hbn := bks_Expr_mem e.L n hlt
            have hbm := bk_name e.L[n]
            obtain ⟨k'', rfl⟩ : ∃ k'', k' = k'' + 3 := ⟨k' - 3, by omega⟩
            rw [show k'' + 3 + 3 + 1 = (k'' + 4) + 3 by omega, cname_ok (k'' + 4) d _ (by omega) (by simp only [maxLen]; omega), Option.bind_some]
            by_cases hup : upP e.L[n]
            · obtain ⟨u1, u2, u3, u4⟩ := hup
              have hcond : (Bool.false || !dc (nameP d e.L[n].Name) || e.L[n].N != 0 || !e.L[n].Field.toList == (⟨#[]⟩ : ByteArray).toList || ((e.L[n].L.length : Int) != 0)) = false := by
                rw [dc_true (by rw [hd]; exact u1), u2, u3, u4, show (eps.toList == (⟨#[]⟩ : ByteArray).toList) = true from by rw [ba_beq]; exact decide_eq_true rfl]
                rfl
              rw [if_neg (by rw [hcond]; simp)]
              refine ih (by omega) (fun x hx => ?_) j (by omega)
              rw [List.drop_eq_getElem_cons hlt] at hx
              rcases List.mem_cons.1 hx with rfl | hx
              · exact ⟨hop, hd, u1, u2, u3, u4⟩
              · exact hu x hx
            · rw [if_pos, ic_neg (hbad fun h => hup h.2)]
              simp only [ba_dc, int_ndc, not_dc, or_dc, Bool.false_or]
              rw [dc_iff]
              refine Classical.byContradiction fun hn' => hup ?_
              have h4 : (e.L[n].L.length : Int) = 0 := Classical.byContradiction fun h => hn' (Or.inr h)
              have h3 : e.L[n].Field = ⟨#[]⟩ := Classical.byContradiction fun h => hn' (Or.inl (Or.inr h))
              have h2 : e.L[n].N = 0 := Classical.byContradiction fun h => hn' (Or.inl (Or.inl (Or.inr h)))
              have h1 : nameP d e.L[n].Name := Classical.byContradiction fun h => hn' (Or.inl (Or.inl (Or.inl h)))
              exact ⟨by rw [← hd]; exact h1, h2, h3, by omega⟩
          · rw [if_neg (by simpa using hd), ic_neg (hbad fun h => hd h.1)]
        · rw [if_neg (by simp [hop]), if_pos (by omega), if_pos (by simp only [Int.ofNat_le]; omega), stop (n + 1) hn hu (fun _ _ => hop), Option.bind_some]
    have := key e.L.length (Nat.le_refl _) (by simp) (k' + 3 + 1) (by omega)
    rw [this]
    exact congrArg some (ic_eq ⟨fun h => ⟨hr, h⟩, fun h => h.2⟩ fun _ => rfl)
  · rw [dc_false hr, if_pos (by simp), ic_neg (fun h => hr h.1)]
theorem eps_dc (s : ByteArray) : (s.toList == (⟨#[]⟩ : ByteArray).toList) = dc (s = eps) := ba_dc _ _
theorem wfL_none {d : Int} {c : Prop} {l : List TExpr} (hc : ¬ c) : wfL d c False l ↔ ∀ x ∈ l, wfE d x := by
  rw [wfL_iff]
  constructor
  · rintro ⟨a, b, rfl, p, q⟩ x hx
    rcases List.mem_append.1 hx with h | h
    · exact p x h
    · exact absurd (q x h).2.1 hc
  · intro h; exact ⟨l, [], by simp, h, by simp⟩
theorem dpL_all {d : Int} {l : List TExpr} (h : ∀ x ∈ l, wfE d x) : dpL l = dpM l := by
  have := dpL_app (b := []) h (by simp)
  rwa [List.append_nil] at this
theorem ite_ic {p : Prop} {q : Prop} {n : Nat} : (if dc p = true then some (0 : Int) else some (ic q n)) = some (ic (¬ p ∧ q) n) := by
  by_cases h : p
  · rw [if_pos (dc_true h), ic_neg (fun e => e.1 h)]
  · rw [if_neg (by rw [dc_false h]; simp)]
    exact congrArg some (ic_eq ⟨fun e => ⟨h, e⟩, fun e => e.2⟩ fun _ => rfl)
theorem iff_ic {p : Prop} {q : Prop} {n : Nat} : (if dc p = false then some (ic q n) else some (0 : Int)) = some (ic (¬ p ∧ q) n) := by
  by_cases h : p
  · rw [if_neg (by rw [dc_true h]; simp), ic_neg (fun e => e.1 h)]
  · rw [if_pos (dc_false h)]
    exact congrArg some (ic_eq ⟨fun e => ⟨h, e⟩, fun e => e.2⟩ fun _ => rfl)
theorem ift_ic {p : Prop} {q : Prop} {n : Nat} : (if dc p = true then some (ic q n) else some (0 : Int)) = some (ic (p ∧ q) n) := by
  by_cases h : p
  · rw [if_pos (dc_true h)]
    exact congrArg some (ic_eq ⟨fun e => ⟨h, e⟩, fun e => e.2⟩ fun _ => rfl)
  · rw [if_neg (by rw [dc_false h]; simp), ic_neg (fun e => h e.1)]
theorem dec_dc (p : Prop) [Decidable p] : decide p = dc p := (dc_dec p).symm
theorem fin_ic {d : Int} {l : List TExpr} {P Q : Prop} (hPQ : P ↔ Q ∧ (∀ x ∈ l, wfE d x) ∧ dpM l + 1 ≤ 48) {c : Prop} (hc : Q → ¬ c) : some (ic P (dpM l + 1)) = some (ic ((Q ∧ wfL d c False l) ∧ dpL l + 1 ≤ 48) (dpL l + 1)) := by
  refine congrArg some (ic_eq ?_ fun h => by rw [dpL_all (hPQ.1 h).2.1])
  rw [hPQ]
  constructor
  · rintro ⟨h1, h2, h3⟩
    exact ⟨⟨h1, (wfL_none (hc h1)).2 h2⟩, by rw [dpL_all h2]; exact h3⟩
  · rintro ⟨⟨h1, h2⟩, h3⟩
    have h2' := (wfL_none (hc h1)).1 h2
    exact ⟨h1, h2', by rw [← dpL_all h2']; exact h3⟩
theorem expr_ok : ∀ K, cOK K
  | 0 => fun d e hb hk => by omega
  | 1 => fun d e hb hk => by omega
  | 2 => fun d e hb hk => by omega
  | 3 => fun d e hb hk => by omega
  | K + 4 => fun d e hb hk => by
    have hK := expr_ok (K + 2)
    have hK1 := expr_ok (K + 1)
    have hnm := bk_name e
    have hlen := bks_Expr_len e.L
    have hdeep : (FF hFam (K + 3)).f_tree_checker_deepest ({ dialect := d }, e.L, ()) = some (ic ((∀ x ∈ e.L, wfE d x) ∧ dpM e.L + 1 ≤ 48) (dpM e.L + 1)) := deepest_ok (K + 2) hK d e.L (by omega) (by omega)
    have hcall : (FF hFam (K + 3)).f_tree_checker_call ({ dialect := d }, e, ()) = some (ic (rtP d e.Name ∧ wfL d (d = 1) False e.L ∧ dpL e.L + 1 ≤ 48) (dpL e.L + 1)) := call_ok (K + 1) hK1 d e hb (by omega)
    obtain ⟨K', rfl⟩ : ∃ K', K = K' + 1 := ⟨K - 1, by omega⟩
    have hname := fun s (hs : s.size ≤ bk_TExpr e) => cname_ok (K' + 1) d s (by omega) (by simp only [maxLen]; omega)
    have hname1 : (FF hFam (K' + 1 + 3)).f_tree_checker_name ({ dialect := d }, e.Name, ()) = some (dc (nameP d e.Name)) := hname _ (by omega)
    have hname2 : (FF hFam (K' + 1 + 3)).f_tree_checker_name ({ dialect := d }, e.Field, ()) = some (dc (nameP d e.Field)) := hname _ (by omega)
    show B_tree_checker_expr (FF hFam (K' + 1 + 3)) (K' + 1 + 3) { dialect := d } e = _
    have hre : e.re = e := TExpr.re_eq e
    obtain ⟨op, n, nm, f, l⟩ := e
    simp only at hnm hlen hdeep hcall hname1 hname2 ⊢
    have hwf : wfE d ⟨op, n, nm, f, l⟩ ↔ l.length ≤ 512 ∧ hdP d op n nm f l.length ∧ wfL d (op = 7 ∧ d = 1) False l := by simp only [wfE]
    have hdp : dpE ⟨op, n, nm, f, l⟩ = dpL l + 1 := by simp only [dpE]
    have hcases : op = 1 ∨ op = 2 ∨ op = 3 ∨ op = 4 ∨ op = 5 ∨ op = 6 ∨ op = 7 ∨ op = 8 ∨ op = 9 ∨ (10 ≤ op ∧ op ≤ 24) ∨ (op < 1 ∨ 24 < op) := by omega
    have hlc : ∀ m : Nat, ((l.length : Int) != (m : Int)) = dc (¬ l.length = m) := fun m => by rw [int_ndc]; exact dc_eq (by omega)
    have hl0 : ((l.length : Int) != 0) = dc (¬ l.length = 0) := hlc 0
    have hl1 : ((l.length : Int) != 1) = dc (¬ l.length = 1) := hlc 1
    have hl2 : ((l.length : Int) != 2) = dc (¬ l.length = 2) := hlc 2
    have hsm : decide ((l.length : Int) ≤ 512) = dc (l.length ≤ 512) := by rw [dec_dc]; exact dc_eq (by omega)
    simp only [B_tree_checker_expr, hre, few_ok, hdeep, hcall, hname1, hname2, Option.bind_some, hl0, hl1, hl2, hsm, eps_dc]
    have hgoal : ic (wfE d ⟨op, n, nm, f, l⟩ ∧ dpE ⟨op, n, nm, f, l⟩ ≤ 48) (dpE ⟨op, n, nm, f, l⟩) = ic (((l.length ≤ 512 ∧ hdP d op n nm f l.length) ∧ wfL d (op = 7 ∧ d = 1) False l) ∧ dpL l + 1 ≤ 48) (dpL l + 1) :=
      ic_eq (by rw [hwf, hdp]; simp only [and_assoc]) (fun _ => hdp)
    rw [hgoal]
    have hb1 : ∀ c : Int, (op == c) = decide (op = c) := fun c => rfl
    have hb2 : ∀ c : Int, (op != c) = !decide (op = c) := fun c => rfl
    simp only [hb1, hb2]
    clear hdeep hcall hname hname1 hname2 hre hwf hdp hgoal hK hK1 hb1 hb2 hlc hl0 hl1 hl2 hsm hb hnm hlen hk
    rcases hcases with h | h | h | h | h | h | h | h | h | h | h
    case inr.inr.inr.inr.inr.inr.inl =>
      subst h
      simp only [Int.reduceEq, Int.reduceGE, Int.reduceLE, Int.reduceLT, Int.reduceGT, ge_iff_le, gt_iff_lt, decide_true, decide_false, Bool.not_true, Bool.not_false, Bool.and_true, Bool.and_false, Bool.true_and, Bool.false_and, Bool.or_false, Bool.or_true, Bool.false_or, Bool.true_or, if_true, Bool.false_eq_true, if_false, Bool.or_self, Bool.and_self, if_true, reduceCtorEq]
      simp only [not_dc, or_dc, and_dc, int_ndc, int_dc, dec_dc, ite_ic, iff_ic, ift_ic, if_dc, Classical.not_not]
      refine congrArg some (ic_eq ?_ fun _ => rfl)
      rw [show (True ∧ d = 1) = (d = 1) from by simp]
      simp only [hdP, Int.reduceEq, Int.reduceLE, false_and, and_false, false_or, or_false, true_and, or_true, true_or]
      generalize wfL d (d = 1) False l = A
      generalize rtP d nm = N1
      generalize (dpL l + 1 ≤ 48) = B
      constructor <;> intro h <;> simp_all
    case inr.inr.inr.inr.inr.inr.inr.inr.inr.inl =>
      obtain ⟨ha, hb⟩ := h
      have e1 : decide (op = 1) = false := decide_eq_false (by omega)
      have e2 : decide (op = 2) = false := decide_eq_false (by omega)
      have e3 : decide (op = 3) = false := decide_eq_false (by omega)
      have e4 : decide (op = 4) = false := decide_eq_false (by omega)
      have e5 : decide (op = 5) = false := decide_eq_false (by omega)
      have e6 : decide (op = 6) = false := decide_eq_false (by omega)
      have e7 : decide (op = 7) = false := decide_eq_false (by omega)
      have e8 : decide (op = 8) = false := decide_eq_false (by omega)
      have e9 : decide (op = 9) = false := decide_eq_false (by omega)
      have g1 : decide (op ≥ 1) = true := decide_eq_true (by omega)
      have g3 : decide (op ≤ 3) = false := decide_eq_false (by omega)
      have g4 : decide (op ≥ 4) = true := decide_eq_true (by omega)
      have g7 : decide (op ≤ 7) = false := decide_eq_false (by omega)
      have g10 : decide (op ≥ 10) = true := decide_eq_true (by omega)
      have g24 : decide (op ≤ 24) = true := decide_eq_true (by omega)
      simp only [e1, e2, e3, e4, e5, e6, e7, e8, e9, g1, g3, g4, g7, g10, g24, Bool.not_true, Bool.not_false, Bool.and_true, Bool.and_false, Bool.true_and, Bool.false_and, Bool.or_false, Bool.or_true, Bool.false_or, Bool.true_or, if_true, Bool.false_eq_true, if_false, Bool.or_self, Bool.and_self]
      simp only [not_dc, or_dc, and_dc, int_ndc, int_dc, dec_dc, ite_ic, iff_ic, ift_ic, if_dc, Classical.not_not]
      refine fin_ic ?_ (fun _ h => by omega)
      have hh : hdP d op n nm f l.length ↔ n = 0 ∧ nm = eps ∧ f = eps ∧ l.length = 2 := by
        unfold hdP
        constructor
        · rintro (⟨e, _⟩ | ⟨e, _⟩ | ⟨e, _⟩ | ⟨e, _⟩ | ⟨e, _⟩ | ⟨e, _⟩ | ⟨e, _⟩ | ⟨e, _⟩ | ⟨_, h⟩)
          all_goals first | exact h | (exfalso; omega)
        · intro h; exact .inr (.inr (.inr (.inr (.inr (.inr (.inr (.inr ⟨⟨ha, hb⟩, h⟩)))))))
      rw [hh]
      generalize (∀ x ∈ l, wfE d x) = A
      generalize (dpM l + 1 ≤ 48) = B
      constructor <;> intro h <;> simp_all
    case inr.inr.inr.inr.inr.inr.inr.inr.inr.inr =>
      have hn : ¬ (((l.length ≤ 512 ∧ hdP d op n nm f l.length) ∧ wfL d (op = 7 ∧ d = 1) False l) ∧ dpL l + 1 ≤ 48) := fun e => by have := hdP_op e.1.1.2; omega
      rw [ic_neg hn]
      have e1 : decide (op = 1) = false := decide_eq_false (by omega)
      have e2 : decide (op = 2) = false := decide_eq_false (by omega)
      have e3 : decide (op = 3) = false := decide_eq_false (by omega)
      have e4 : decide (op = 4) = false := decide_eq_false (by omega)
      have e5 : decide (op = 5) = false := decide_eq_false (by omega)
      have e6 : decide (op = 6) = false := decide_eq_false (by omega)
      have e7 : decide (op = 7) = false := decide_eq_false (by omega)
      have e8 : decide (op = 8) = false := decide_eq_false (by omega)
      have e9 : decide (op = 9) = false := decide_eq_false (by omega)
      have g10 : (decide (op ≥ 10) && decide (op ≤ 24)) = false := by rw [Bool.and_eq_false_iff]; simp only [decide_eq_false_iff_not]; omega
      simp only [e1, e2, e3, e4, e5, e6, e7, e8, e9, g10, Bool.or_false, Bool.false_eq_true, if_false, ite_self]
    all_goals subst h
    all_goals simp only [Int.reduceEq, Int.reduceGE, Int.reduceLE, Int.reduceLT, Int.reduceGT, ge_iff_le, gt_iff_lt, decide_true, decide_false, Bool.not_true, Bool.not_false, Bool.and_true, Bool.and_false, Bool.true_and, Bool.false_and, Bool.or_false, Bool.or_true, Bool.false_or, Bool.true_or, if_true, Bool.false_eq_true, if_false, Bool.or_self, Bool.and_self, if_true, reduceCtorEq]
    all_goals simp only [not_dc, or_dc, and_dc, int_ndc, int_dc, dec_dc, ite_ic, iff_ic, ift_ic, if_dc, Classical.not_not]
    all_goals refine fin_ic ?_ (fun _ h => absurd h.1 (by decide))
    all_goals simp only [hdP, Int.reduceEq, Int.reduceLE, false_and, and_false, false_or, or_false, true_and, or_true, true_or]
    all_goals generalize (∀ x ∈ l, wfE d x) = A
    all_goals generalize nameP d nm = N1
    all_goals generalize nameP d f = N2
    all_goals generalize (dpM l + 1 ≤ 48) = B
    all_goals (constructor <;> intro h)
    all_goals first
      | (simp_all; done)
      | (obtain ⟨h1, h2, h3, h4, h5⟩ := h
         refine ⟨⟨h2, ?_, ?_, ?_, ?_⟩, h4, h5⟩
         · exact Classical.byContradiction fun e => h3 (.inl e)
         · exact Classical.byContradiction fun e => h1 (.inr e)
         · exact Classical.byContradiction fun e => h1 (.inl e)
         · exact Classical.byContradiction fun e => h3 (.inr e))
end Go.Ev
end
section
open Go
namespace Go.Ev
open Go.Proofs.YtokkfbkbnocnoaaGreatDoor
set_option maxRecDepth 100000
set_option maxHeartbeats 4000000
set_option linter.unusedVariables false
set_option linter.unusedSimpArgs false
def rfOK (K : Nat) : Prop := ∀ (d : Int) (e : TExpr) (most : Int), (d = 0 ∨ d = 1) → bk_TExpr e ≤ 1048576 → 3 * bk_TExpr e + 90 ≤ K → 0 ≤ most → most ≤ 48 → (FF hFam K).f_r07_form (d, e, most, ()) = some (dc (wfE d e ∧ (dpE e : Int) ≤ most))
theorem form_loop (K : Nat) (hK : rfOK K) (d : Int) (hd : d = 0 ∨ d = 1) (most : Int) (h0 : 1 ≤ most) (h1 : most ≤ 48) (op : Int) (l : List TExpr) (hb : bks_TExpr l ≤ 1048576) (hk : 3 * bks_TExpr l + 100 ≤ K) (x1 : TExpr) (x2 n : Int) (nm f : ByteArray) :
    ∀ j i, i ≤ l.length → l.length - i < j → ∀ up : Bool, Lr07_form_47 (FF hFam K) K d x1 x2 j d most up (i : Int) op n nm f l = some (dc (wfL d (op = 7 ∧ d = 1) (up = true) (l.drop i) ∧ (dpL (l.drop i) : Int) + 1 ≤ most)) := by
  have hlen := bks_Expr_len l
  have hml : l.length ≤ maxLen := by simp only [maxLen]; omega
  refine up_ind l.length (fun j up => ?_) (fun j i hi ih up => ?_)
  · simp only [Lr07_form_47]
    rw [if_neg (by simp), List.drop_length, dc_true]
    exact ⟨by simp [wfL], by simp only [dpL]; omega⟩
  · have hbi := bks_Expr_mem l i hi
    have hbm := bk_name l[i]
    have hdr : l.drop i = l[i] :: l.drop (i + 1) := (List.getElem_cons_drop hi).symm
    simp only [Lr07_form_47]
    rw [if_pos (lt_dec hi), if_pos (by omega), if_pos (by omega), getD_at l i _ hi, wrap_succ hi hml]
    by_cases hop : l[i].Op = 25
    · rw [if_pos (by simpa using hop)]
      obtain ⟨K', rfl⟩ : ∃ K', K = K' + 3 := ⟨K - 3, by omega⟩
      rw [rname_ok K' 1 l[i].Name (by omega) (by omega) (by simp only [maxLen]; omega), Option.bind_some, ih true]
      simp only [eps_dc, int_ndc, not_dc, or_dc, and_dc, dec_dc, iff_dc, ifn_dc, Bool.false_or]
      refine congrArg some (dc_eq ?_)
      rw [hdr]
      simp only [wfL, dpL, hop, if_true, true_implies, not_true_eq_false, false_implies, and_true, ne_eq]
      constructor
      · rintro ⟨g1, g2, g3, g4⟩
        refine ⟨⟨⟨?_, ?_⟩, ⟨?_, ?_, ?_, ?_⟩, g3⟩, g4⟩
        · exact Classical.byContradiction fun e => g1 (.inr e)
        · exact Classical.byContradiction fun e => g1 (.inl e)
        · exact Classical.byContradiction fun e => g2 (.inl (.inl (.inl e)))
        · exact Classical.byContradiction fun e => g2 (.inl (.inl (.inr e)))
        · exact Classical.byContradiction fun e => g2 (.inl (.inr e))
        · exact Classical.byContradiction fun e => g2 (.inr (by omega))
      · rintro ⟨⟨⟨g1, g2⟩, ⟨u1, u2, u3, u4⟩, g3⟩, g4⟩
        refine ⟨fun e => e.elim (fun e => e g2) (fun e => e g1), ?_, g3, g4⟩
        rintro (((e | e) | e) | e)
        · exact e u1
        · exact e u2
        · exact e u3
        · exact e (by omega)
    · rw [if_neg (by simpa using hop)]
      cases up with
      | true =>
        rw [if_neg (by simp), dc_false]
        rw [hdr]
        rintro ⟨h, _⟩
        simp only [wfL] at h
        exact (h.2 hop).1 trivial
      | false =>
        rw [if_pos rfl, TExpr.re_eq, wrap_ok (n := most - 1) (by omega) (by omega), hK d l[i] (most - 1) hd (by omega) (by omega) (by omega) (by omega), Option.bind_some, ih false]
        simp only [not_dc, Bool.false_or, ifn_dc, Classical.not_not]
        refine congrArg some (dc_eq ?_)
        rw [hdr]
        simp only [wfL, dpL, hop, if_false, false_implies, true_and, ne_eq, not_false_eq_true, true_implies, Bool.false_eq_true]
        constructor
        · rintro ⟨⟨g1, g2⟩, g3, g4⟩
          exact ⟨⟨g1, g3⟩, by omega⟩
        · rintro ⟨⟨g1, g3⟩, g4⟩
          exact ⟨⟨g1, by omega⟩, g3, by omega⟩
theorem form_ok : ∀ K, rfOK K
  | 0 => fun d e most _ hb hk => by omega
  | 1 => fun d e most _ hb hk => by omega
  | 2 => fun d e most _ hb hk => by omega
  | 3 => fun d e most _ hb hk => by omega
  | K + 4 => fun d e most hd hb hk h0 h1 => by
    have hK := form_ok (K + 3)
    have hnm := bk_name e
    have hlen := bks_Expr_len e.L
    have hloop := form_loop (K + 3) hK d hd most
    obtain ⟨K', rfl⟩ : ∃ K', K = K' + 1 := ⟨K - 1, by omega⟩
    have hname := fun s (hs : s.size ≤ bk_TExpr e) => rname_ok (K' + 1) d s (by omega) (by omega) (by simp only [maxLen]; omega)
    have hname1 : (FF hFam (K' + 1 + 3)).f_r07_Name (d, e.Name, ()) = some (dc (nameP d e.Name)) := hname _ (by omega)
    have hname2 : (FF hFam (K' + 1 + 3)).f_r07_Name (d, e.Field, ()) = some (dc (nameP d e.Field)) := hname _ (by omega)
    have hrt : (FF hFam (K' + 1 + 3)).f_r07_Routine (d, e.Name, ()) = some (dc (rtP d e.Name)) := rroutine_ok K' d hd e.Name (by omega) (by omega)
    show B_r07_form (FF hFam (K' + 1 + 3)) (K' + 1 + 3) d e most = _
    by_cases hm : most = 0
    · unfold B_r07_form
      rw [if_pos (by simp [hm]), dc_false]
      rintro ⟨_, h⟩
      have := dpE_pos e
      omega
    have hlp : ∀ (x1 : TExpr) (x2 op n : Int) (nm f : ByteArray), Lr07_form_47 (FF hFam (K' + 1 + 3)) (K' + 1 + 3) d x1 x2 (K' + 1 + 3) d most false 0 op n nm f e.L = some (dc (wfL d (op = 7 ∧ d = 1) False e.L ∧ (dpL e.L : Int) + 1 ≤ most)) := by
      intro x1 x2 op n nm f
      have := hloop (by omega) h1 op e.L (by omega) (by omega) x1 x2 n nm f (K' + 1 + 3) 0 (Nat.zero_le _) (by omega) false
      simpa using this
    clear hloop
    have hre : e.re = e := TExpr.re_eq e
    obtain ⟨op, n, nm, f, l⟩ := e
    simp only at hnm hlen hlp hname1 hname2 hrt ⊢
    have hwf : wfE d ⟨op, n, nm, f, l⟩ ↔ l.length ≤ 512 ∧ hdP d op n nm f l.length ∧ wfL d (op = 7 ∧ d = 1) False l := by simp only [wfE]
    have hdp : dpE ⟨op, n, nm, f, l⟩ = dpL l + 1 := by simp only [dpE]
    have hgoal : dc (wfE d ⟨op, n, nm, f, l⟩ ∧ (dpE ⟨op, n, nm, f, l⟩ : Int) ≤ most) = dc (l.length ≤ 512 ∧ hdP d op n nm f l.length ∧ (wfL d (op = 7 ∧ d = 1) False l ∧ (dpL l : Int) + 1 ≤ most)) :=
      dc_eq (by rw [hwf, hdp]; simp only [and_assoc]; exact Iff.rfl)
    rw [hgoal]
    have hcases : op = 1 ∨ op = 2 ∨ op = 3 ∨ op = 4 ∨ op = 5 ∨ op = 6 ∨ op = 7 ∨ op = 8 ∨ op = 9 ∨ op = 10 ∨ op = 11 ∨ op = 12 ∨ op = 13 ∨ op = 14 ∨ op = 15 ∨ op = 16 ∨ op = 17 ∨ op = 18 ∨ op = 19 ∨ op = 20 ∨ op = 21 ∨ op = 22 ∨ op = 23 ∨ op = 24 ∨ (op < 1 ∨ 24 < op) := by omega
    have hlc : ∀ m : Nat, ((l.length : Int) != (m : Int)) = dc (¬ l.length = m) := fun m => by rw [int_ndc]; exact dc_eq (by omega)
    have hl0 : ((l.length : Int) != 0) = dc (¬ l.length = 0) := hlc 0
    have hl1 : ((l.length : Int) != 1) = dc (¬ l.length = 1) := hlc 1
    have hl2 : ((l.length : Int) != 2) = dc (¬ l.length = 2) := hlc 2
    have hll : ((l.length : Int) != (l.length : Int)) = false := by simp
    have hsm : decide ((l.length : Int) > 512) = dc (¬ l.length ≤ 512) := by rw [dec_dc]; exact dc_eq (by omega)
    have hm0 : (most == 0) = false := by simp [hm]
    simp only [B_r07_form, hlp, hname1, hname2, hrt, Option.bind_some, hl0, hl1, hl2, hll, hsm, hm0, eps_dc, Bool.false_or]
    have hb1 : ∀ c : Int, (op == c) = decide (op = c) := fun c => rfl
    simp only [hb1]
    generalize hW : (wfL d (op = 7 ∧ d = 1) False l ∧ (dpL l : Int) + 1 ≤ most) = W
    clear hname hname1 hname2 hre hwf hdp hgoal hK hb1 hlc hl0 hl1 hl2 hsm hb hnm hlen hk hlp hrt hW hm0 hll
    rcases hcases with h | h | h | h | h | h | h | h | h | h | h | h | h | h | h | h | h | h | h | h | h | h | h | h | h
    case inr.inr.inr.inr.inr.inr.inr.inr.inr.inr.inr.inr.inr.inr.inr.inr.inr.inr.inr.inr.inr.inr.inr.inr =>
      rw [dc_false (p := l.length ≤ 512 ∧ hdP d op n nm f l.length ∧ W) (fun e => by have := hdP_op e.2.1; omega)]
      have e : ∀ c : Int, 1 ≤ c ∧ c ≤ 24 → decide (op = c) = false := fun c hc => decide_eq_false (by omega)
      simp only [e 1 (by decide), e 2 (by decide), e 3 (by decide), e 4 (by decide), e 5 (by decide), e 6 (by decide), e 7 (by decide), e 8 (by decide), e 9 (by decide), e 10 (by decide), e 11 (by decide), e 12 (by decide), e 13 (by decide),
        e 14 (by decide), e 15 (by decide), e 16 (by decide), e 17 (by decide), e 18 (by decide), e 19 (by decide), e 20 (by decide), e 21 (by decide), e 22 (by decide), e 23 (by decide), e 24 (by decide), Bool.false_eq_true, if_false, ite_self]
    all_goals subst h
    all_goals simp only [Int.reduceEq, decide_true, decide_false, if_true, Bool.false_eq_true, if_false, Bool.or_false, Bool.false_or]
    all_goals simp only [not_dc, or_dc, and_dc, int_ndc, int_dc, dec_dc, ifn_dc, iff_dc, if_dc, Classical.not_not]
    all_goals refine congrArg some (dc_eq ?_)
    all_goals simp only [hdP, Int.reduceEq, Int.reduceLE, false_and, and_false, false_or, or_false, true_and, or_true, true_or]
    all_goals generalize nameP d nm = N1
    all_goals generalize nameP d f = N2
    all_goals generalize rtP d nm = N3
    all_goals generalize l.length = len
    all_goals simp only [not_or, Classical.not_not, Classical.not_and_iff_not_or_not, and_assoc]
    all_goals (constructor <;> intro h <;> simp_all)
def deOK (K : Nat) : Prop := ∀ (e : TExpr) (most : Int), bk_TExpr e ≤ 1048576 → 3 * bk_TExpr e + 50 ≤ K → 0 ≤ most → most ≤ 99 → (dpE e : Int) ≤ most + 1 → (FF hFam K).f_r07_Deep (e, most, ()) = some (dpE e : Int)
theorem Deep_ok : ∀ K, deOK K
  | 0 => fun e most hb hk => by omega
  | K + 1 => fun e most hb hk h0 h1 hd => by
    have hK := Deep_ok K
    have hnm := bk_name e
    have hlen := bks_Expr_len e.L
    have hml : e.L.length ≤ maxLen := by simp only [maxLen]; omega
    have hdp : dpE e = dpL e.L + 1 := by cases e; simp only [dpE]
    show B_r07_Deep (FF hFam K) K e most = _
    unfold B_r07_Deep
    rcases Int.lt_or_le 0 most with hm | hm
    · have key : ∀ j i, i ≤ e.L.length → e.L.length - i < j → ∀ v : Nat, v ≤ 100 → dpL (e.L.drop i) ≤ most → Lr07_Deep_3 (FF hFam K) K e most j most (v : Int) (i : Int) e.Op e.N e.Name e.Field e.L = some (((max v (dpL (e.L.drop i)) + 1 : Nat)) : Int) := by
        refine up_ind e.L.length (fun j v hv hle => ?_) (fun j i hi ih v hv hle => ?_)
        · simp only [Lr07_Deep_3]
          rw [if_neg (by simp), List.drop_length, dpL, Nat.max_zero, wrap_ok (by omega) (by omega)]
          rfl
        · have hbi := bks_Expr_mem e.L i hi
          have hdr : e.L.drop i = e.L[i] :: e.L.drop (i + 1) := (List.getElem_cons_drop hi).symm
          rw [hdr] at hle ⊢
          simp only [Lr07_Deep_3]
          have hc : (decide ((i : Int) < (e.L.length : Int)) && decide (most > 0)) = true := by simp; omega
          rw [if_pos hc, if_pos (by omega), if_pos (by omega), getD_at e.L i _ hi, wrap_succ hi hml]
          by_cases hop : e.L[i].Op = 25
          · rw [if_neg (by simp [hop])]
            rw [dpL, if_pos hop] at hle ⊢
            exact ih v hv hle
          · rw [if_pos (by simpa using hop), if_pos (by omega), if_pos (by omega), TExpr.re_eq]
            rw [dpL, if_neg hop] at hle ⊢
            rw [wrap_ok (n := most - 1) (by omega) (by omega), hK e.L[i] (most - 1) (by omega) (by omega) (by omega) (by omega) (by omega), Option.bind_some]
            have hmax : (if ((dpE e.L[i] : Nat) : Int) > (v : Int) then ((dpE e.L[i] : Nat) : Int) else (v : Int)) = ((max v (dpE e.L[i]) : Nat) : Int) := by split <;> omega
            rw [hmax, ih (max v (dpE e.L[i])) (by omega) (by omega), Nat.max_assoc]
      have := key K 0 (Nat.zero_le _) (by omega) 0 (by omega) (by rw [List.drop_zero]; omega)
      simp only [Int.ofNat_zero, List.drop_zero, Nat.zero_max] at this
      rw [hdp]
      exact this
    · have hmz : most = 0 := by omega
      subst hmz
      obtain ⟨K, rfl⟩ : ∃ K', K = K' + 1 := ⟨K - 1, by omega⟩
      simp only [Lr07_Deep_3]
      rw [if_neg (by simp)]
      have : dpE e = 1 := by have := dpE_pos e; omega
      rw [this]
      rfl
end Go.Ev
end
section
open Go Go.Proofs
namespace Go.Ev
open Go.RowKit Go.Proofs.YtokkfbkbnocnoaaGreatDoor
set_option linter.unusedVariables false
set_option linter.unusedSimpArgs false
set_option maxHeartbeats 4000000
set_option maxRecDepth 100000
theorem bulkAll_eq {H : Type} : ∀ l : List (DataW H), Rows.uptoBulkAll l = (l.map Rows.uptoBulk).sum
  | [] => rfl
  | d :: r => by rw [Rows.uptoBulkAll, bulkAll_eq r]; rfl
theorem bulk_pos {H : Type} (d : DataW H) : 1 ≤ Rows.uptoBulk d := by
  cases d with
  | lit l => cases l <;> simp [Rows.uptoBulk]
  | _ => simp [Rows.uptoBulk]
theorem measB (H : Type) : Meas EE ftt bkk (fun d : DataW H => Rows.uptoBulk d) rowsL :=
  meas EE rfl rfl _ (bulk_pos _) (fun l => bulk_pos _) (fun l => Nat.le_refl _) (fun a b => by show (a.map Rows.uptoBulk).sum + 1 ≤ Rows.uptoBulkAll a + Rows.uptoBulkAll b + 1; rw [bulkAll_eq a]; omega)
    (fun a => by show (a.map Rows.uptoBulk).sum + 1 ≤ Rows.uptoBulkAll a + 1; rw [bulkAll_eq a]; exact Nat.le_refl _)
section
variable {H : Type} {enc : TypeId × Value → H} {W : World} {base : Nat} {spare : Nat → Bool} {held : Bool}
theorem read_anyB {t : Nat} {ti : TI} {l : List KD} (ht : EE.ty t = some ti) (hs : (match ti.td with | .struct _ => true | _ => false) = true) (hl : flatK EE.ty 9 t = some l) (hn : Nat.beq ti.size 1 = false) {v : Value} {d : DataW H} {ps : List MemPlace} (h : DataW.Trod enc Tryz.prog W base spare held t v d ps) :
    ∃ vs : Array Value, v = .agg vs ∧ ∃ ds, DReps EE (allS W) W vs.toList ds ∧ ds.map kd = l ∧ (∀ d ∈ ds, QD ftt d) ∧ (ds.map (bkD bkk)).sum + 1 ≤ Rows.uptoBulk d := by
  obtain ⟨fuel, h⟩ := h
  obtain ⟨⟨ds, h1, h2, h3, h4⟩, h5, hlen⟩ := rd hEE (measB H) fuel t ti _ (d, ps) l ht hl h
  cases htd : ti.td with
  | struct fs =>
    rw [htd] at h4 h5
    simp only at h4 h5
    cases v with
    | agg vs => exact ⟨vs, rfl, ds, h1, h2, h3, by omega⟩
    | _ =>
      have h1 : 1 = ti.size := hlen
      simp only [← h1] at hn
      cases hn
  | _ => rw [htd] at hs; cases hs
end
end Go.Ev
end
section
open Go
namespace Go.Ev
open Go.Proofs.YtokkfbkbnocnoaaGreatDoor
set_option maxRecDepth 100000
set_option maxHeartbeats 4000000
set_option linter.unusedVariables false
set_option linter.unusedSimpArgs false
def rgt (c : Int) : Bool := c == 9 || c == 10 || decide (c ≥ 32) && decide (c ≤ 126)
def noteP (s : ByteArray) : Prop := s.size ≤ 1024 ∧ ∀ m, m < s.size → rgt (bt s (m : Int)) = true
theorem r02_Check_ok (k : Nat) (s : ByteArray) (hk : s.size < k) (hm : s.size ≤ maxLen) : ∃ c, (FF hFam (k + 2)).f_r02_Check (s, ()) = some c ∧ (c = 0 ↔ noteP s) := by
  have key : ∀ j i, i ≤ s.size → s.size - i < j → ∃ c, Lr02_Check_4 (FF hFam (k + 1)) (k + 1) s j s (i : Int) = some c ∧ (c = 0 ↔ ∀ m, i ≤ m → m < s.size → rgt (bt s (m : Int)) = true) := by
    refine up_ind s.size (fun j => ?_) (fun j i hi ih => ?_)
    · simp only [Lr02_Check_4]
      rw [if_neg (by simp)]
      exact ⟨0, rfl, by simp only [true_iff]; intro m h1 h2; omega⟩
    · simp only [Lr02_Check_4]
      have hr : (FF hFam (k + 1)).f_r02_right (bt s (i : Int), ()) = some (rgt (bt s (i : Int))) := rfl
      rw [if_pos (lt_dec hi), if_pos (by omega), if_pos (by omega), hr, Option.bind_some, wrap_succ hi hm]
      cases hl : rgt (bt s (i : Int)) with
      | false =>
        refine ⟨8, by simp, ?_⟩
        constructor
        · intro h; cases h
        · intro h; have := h i (Nat.le_refl _) hi; rw [hl] at this; cases this
      | true =>
        obtain ⟨c, h1, h2⟩ := ih
        refine ⟨c, by simpa using h1, h2.trans ?_⟩
        constructor
        · intro d m hm hm'
          rcases Nat.lt_or_ge i m with h | h
          · exact d m h hm'
          · have : m = i := by omega
            subst this; exact hl
        · intro d m hm hm'; exact d m (by omega) hm'
  show ∃ c, B_r02_Check (FF hFam (k + 1)) (k + 1) s = some c ∧ _
  unfold B_r02_Check
  by_cases h : s.size ≤ 1024
  · rw [if_neg (by simp; omega)]
    obtain ⟨c, h1, h2⟩ := key (k + 1) 0 (Nat.zero_le _) (by omega)
    refine ⟨c, h1, h2.trans ?_⟩
    unfold noteP
    simp [h]
  · rw [if_pos (by simp; omega)]
    refine ⟨3, rfl, ?_⟩
    constructor
    · intro h; cases h
    · intro h'; exact absurd h'.1 h
theorem npr_ok (s : ByteArray) : (Np.npr 0 s).2 = 0 ↔ noteP s := by
  have hr : s.data.toList.all Np.nright = true ↔ ∀ m, m < s.size → rgt (bt s (m : Int)) = true := by
    have h1 : ∀ c : UInt8, Np.nright c = rgt (c.toNat : Int) := by
      intro c
      unfold Np.nright rgt
      rw [Bool.eq_iff_iff]
      simp
      omega
    rw [List.all_eq_true]
    constructor
    · intro h m hm
      rw [bt_at s m hm, ← h1]
      exact h _ (List.getElem_mem _)
    · intro h c hc
      obtain ⟨m, hm, rfl⟩ := List.getElem_of_mem hc
      rw [h1, ← bt_at s m (by simpa using hm)]
      exact h m (by simpa using hm)
  unfold Np.npr noteP
  rw [if_pos (.inl rfl), ← hr]
  by_cases h : 1024 < s.size
  · rw [if_pos h]
    simp; omega
  · rw [if_neg h]
    by_cases h2 : s.data.toList.all Np.nright = true
    · rw [if_pos h2]; simp [h2]; omega
    · rw [if_neg h2]; simp [h2]
def notesP (l : List ByteArray) : Prop := (∀ s ∈ l, noteP s) ∧ l.length ≤ 512
theorem v9_mem (l : List ByteArray) (i : Nat) (hi : i < l.length) : l[i].size + 1 ≤ bks_v9 l := by
  have := mem_sum (fun s : ByteArray => s.size + 1) l i hi
  rw [bks_v9_eq]
  exact this
theorem r07_notes_ok (k : Nat) (l : List ByteArray) (hk : bks_v9 l < k) (hb : bks_v9 l ≤ 1048576) : (FF hFam (k + 3)).f_r07_notes (l, ()) = some (dc (notesP l)) := by
  have hlen := bks_v9_len l
  have key : ∀ j i, i ≤ l.length → l.length - i < j → Lr07_notes_2 (FF hFam (k + 2)) (k + 2) l j l (i : Int) = some (dc ((∀ s ∈ l.drop i, noteP s) ∧ l.length ≤ 512)) := by
    refine up_ind l.length (fun j => ?_) (fun j i hi ih => ?_)
    · simp only [Lr07_notes_2]
      rw [if_neg (by simp), List.drop_length, dec_dc]
      exact congrArg some (dc_eq (by simp; omega))
    · simp only [Lr07_notes_2]
      have hs := v9_mem l i hi
      obtain ⟨c, h1, h2⟩ := r02_Check_ok k l[i] (by omega) (by simp only [maxLen]; omega)
      rw [if_pos (lt_dec hi), if_pos (by omega), if_pos (by omega), wrap_succ hi (by simp only [maxLen]; omega), getD_at l i _ hi, h1, Option.bind_some, ih, int_ndc, ifn_dc]
      refine congrArg some (dc_eq ?_)
      rw [List.drop_eq_getElem_cons hi, h2]
      simp only [List.mem_cons, forall_eq_or_imp, Classical.not_not, and_assoc]
  have := key (k + 2) 0 (Nat.zero_le _) (by omega)
  simp only [Int.ofNat_zero, List.drop_zero] at this
  exact this
theorem r07_marks_ok (k : Nat) (x : TMarks) (h1 : bks_v9 x.Before < k) (b1 : bks_v9 x.Before ≤ 1048576) (h2 : bks_v9 x.Trail < k) (b2 : bks_v9 x.Trail ≤ 1048576) : (FF hFam (k + 4)).f_r07_marks (x, ()) = some (dc (notesP x.Before ∧ notesP x.Trail)) := by
  show B_r07_marks (FF hFam (k + 3)) (k + 3) x = _
  unfold B_r07_marks
  rw [r07_notes_ok k _ h1 b1, r07_notes_ok k _ h2 b2]
  simp only [Option.bind_some, Bool.true_and, if_dc]
theorem tree_notes_ok (k : Nat) (ls : List (List ByteArray)) (hl : ls.length < k) (hk : ∀ l ∈ ls, bks_v9 l < k) (hb : ∀ l ∈ ls, bks_v9 l ≤ 1048576) (hm : ls.length ≤ 1000) : (FF hFam (k + 3)).f_tree_notes (ls, ()) = some (dc (∀ l ∈ ls, notesP l)) := by
  have inner : ∀ (r2 : List (List ByteArray) → Int → Int → Option Bool) (Q : Prop) (u0 : List (List ByteArray)) (u1 u2 : Int) (l : List ByteArray), bks_v9 l < k → bks_v9 l ≤ 1048576 → r2 u0 u1 (IntKind.i64.wrap (u2 + 1)) = some (dc Q) →
      ∀ j i, i ≤ l.length → l.length - i < j → Ltree_notes_7 (FF hFam (k + 2)) (k + 2) ls r2 j u0 u1 u2 l (l.length : Int) (i : Int) = some (dc ((∀ s ∈ l.drop i, noteP s) ∧ Q)) := by
    intro r2 Q u0 u1 u2 l h1 h2 h3
    have hlen := bks_v9_len l
    refine up_ind l.length (fun j => ?_) (fun j i hi ih => ?_)
    · simp only [Ltree_notes_7]
      rw [if_neg (by simp), h3, List.drop_length]
      exact congrArg some (dc_eq (by simp))
    · simp only [Ltree_notes_7]
      have hp : (FF hFam (k + 2)).f_note_Print (0, List.getD l ((i : Int)).toNat ⟨#[]⟩, ()) = some ((Np.npr 0 l[i]).1, (Np.npr 0 l[i]).2, ()) := by rw [getD_at l i _ hi]; rfl
      rw [if_pos (lt_dec hi), if_pos (by omega), if_pos (by omega), wrap_succ hi (by simp only [maxLen]; omega), hp, Option.bind_some, ih]
      simp only [int_ndc, ifn_dc, npr_ok, Classical.not_not]
      refine congrArg some (dc_eq ?_)
      rw [List.drop_eq_getElem_cons hi]
      simp only [List.mem_cons, forall_eq_or_imp, and_assoc]
  have key : ∀ j i, i ≤ ls.length → ls.length - i < j → Ltree_notes_2 (FF hFam (k + 2)) (k + 2) ls j ls (ls.length : Int) (i : Int) = some (dc (∀ l ∈ ls.drop i, notesP l)) := by
    refine up_ind ls.length (fun j => ?_) (fun j i hi ih => ?_)
    · simp only [Ltree_notes_2]
      rw [if_neg (by simp), List.drop_length, dc_true (by simp)]
    · simp only [Ltree_notes_2]
      have hmem := List.getElem_mem hi
      have hf : (FF hFam (k + 2)).f_tree_few_string (List.getD ls ((i : Int)).toNat [], ()) = some (decide ((ls[i].length : Int) ≤ 512)) := by rw [getD_at ls i _ hi]; rfl
      have hlen := bks_v9_len ls[i]
      rw [if_pos (lt_dec hi), if_pos (by omega), if_pos (by omega), hf, Option.bind_some, getD_at ls i _ hi]
      have hin := inner (Ltree_notes_2 (FF hFam (k + 2)) (k + 2) ls j) (∀ l ∈ ls.drop (i + 1), notesP l) ls (ls.length : Int) (i : Int) ls[i] (hk _ hmem) (hb _ hmem) (by rw [wrap_succ hi (by simp only [maxLen]; omega)]; exact ih) (k + 2) 0 (Nat.zero_le _) (by have := hk _ hmem; omega)
      simp only [Int.ofNat_zero, List.drop_zero] at hin
      rw [hin, dec_dc]
      simp only [not_dc, ifn_dc, Classical.not_not]
      refine congrArg some (dc_eq ?_)
      rw [List.drop_eq_getElem_cons hi]
      simp only [List.mem_cons, forall_eq_or_imp, notesP]
      constructor
      · rintro ⟨a, b, c⟩; exact ⟨⟨b, by omega⟩, c⟩
      · rintro ⟨⟨b, a⟩, c⟩; exact ⟨by omega, b, c⟩
  have := key (k + 2) 0 (Nat.zero_le _) (by omega)
  simp only [Int.ofNat_zero, List.drop_zero] at this
  exact this
def typeP (d : Int) (t : TType) : Prop := (t.Kind = 4 ∧ t.Size = 0 ∧ nameP d t.Name) ∨ (1 ≤ t.Kind ∧ t.Kind ≤ 3 ∧ 0 ≤ t.Size ∧ t.Size ≤ 64 ∧ t.Name = eps)
theorem ctyp_ok (k : Nat) (d : Int) (t : TType) (hk : t.Name.size < k) (hm : t.Name.size ≤ maxLen) : (FF hFam (k + 4)).f_tree_checker_typ ({ dialect := d }, t, ()) = some (dc (typeP d t)) := by
  show B_tree_checker_typ (FF hFam (k + 3)) (k + 3) { dialect := d } t = _
  have hkd : (FF hFam (k + 3)).f_tree_kind (t.Kind, ()) = some (decide (t.Kind ≥ 1) && decide (t.Kind ≤ 3)) := rfl
  unfold B_tree_checker_typ
  rw [cname_ok k d _ hk hm, hkd]
  simp only [Option.bind_some, int_dc, eps_dc, dec_dc, and_dc, Bool.true_and, if_dc]
  by_cases h : t.Kind = 4
  · rw [if_pos (dc_true h)]
    refine congrArg some (dc_eq ?_)
    unfold typeP
    simp only [h, true_and]
    constructor
    · exact .inl
    · rintro (h | h)
      · exact h
      · omega
  · rw [if_neg (by rw [dc_false h]; simp)]
    refine congrArg some (dc_eq ?_)
    unfold typeP
    simp only [h, false_and, false_or, ge_iff_le, and_assoc]
theorem rtyp_ok (k : Nat) (d : Int) (t : TType) (hk : t.Name.size < k) (hk' : 34 < k) (hm : t.Name.size ≤ maxLen) : (FF hFam (k + 4)).f_r07_Type (d, t, ()) = some (dc (typeP d t)) := by
  show B_r07_Type (FF hFam (k + 3)) (k + 3) d t = _
  unfold B_r07_Type
  rw [rname_ok k d _ hk hk' hm]
  simp only [Option.bind_some, int_dc, eps_dc, dec_dc, and_dc, Bool.true_and, if_dc]
  by_cases h : t.Kind = 4
  · rw [if_pos (dc_true h)]
    refine congrArg some (dc_eq ?_)
    unfold typeP
    simp only [h, true_and]
    constructor
    · exact .inl
    · rintro (h | h)
      · exact h
      · omega
  · rw [if_neg (by rw [dc_false h]; simp)]
    refine congrArg some (dc_eq ?_)
    unfold typeP
    simp only [h, false_and, false_or, ge_iff_le, and_assoc]
end Go.Ev
end
section
open Go
namespace Go.Ev
open Go.Proofs.YtokkfbkbnocnoaaGreatDoor
set_option maxRecDepth 100000
set_option maxHeartbeats 4000000
set_option linter.unusedVariables false
set_option linter.unusedSimpArgs false
def idxG {α : Type} (d : α) (f : α → Option Bool) : Nat → List α → Int → Int → Option Int
  | 0, _, _, _ => none
  | j + 1, v0, n, i => (if decide (i < n) = true then (if 0 ≤ i then (if i < (v0.length : Int) then ((f (v0.getD i.toNat d)).bind fun t => (if t = true then some i else idxG d f j v0 n (IntKind.i64.wrap (i + 1)))) else none) else none) else some (-1))
theorem idxG_ok {α : Type} (d : α) (f : α → Option Bool) (p : α → Prop) (l : List α) (hm : l.length ≤ maxLen) (hf : ∀ i (h : i < l.length), f l[i] = some (dc (¬ p l[i]))) :
    ∀ j i, i ≤ l.length → l.length - i < j → ∃ c : Int, idxG d f j l (l.length : Int) (i : Int) = some c ∧ (c ≥ 0 ↔ ¬ ∀ x ∈ l.drop i, p x) := by
  refine up_ind l.length (fun j => ?_) (fun j i hi ih => ?_)
  · simp only [idxG]
    rw [if_neg (by simp)]
    exact ⟨-1, rfl, by simp⟩
  · simp only [idxG]
    rw [if_pos (lt_dec hi), if_pos (by omega), if_pos (by omega), getD_at l i _ hi, hf i hi, Option.bind_some, wrap_succ hi hm]
    have hd := List.drop_eq_getElem_cons hi
    by_cases h : p l[i]
    · obtain ⟨c, h1, h2⟩ := ih
      refine ⟨c, by rw [if_neg (by rw [dc_false (p := ¬ p l[i]) (fun e => e h)]; simp)]; exact h1, h2.trans ?_⟩
      rw [hd]
      simp only [List.mem_cons, forall_eq_or_imp, h, true_and]
    · refine ⟨(i : Int), by rw [if_pos (dc_true h)], ?_⟩
      rw [hd]
      simp only [List.mem_cons, forall_eq_or_imp, h, false_and, not_false_eq_true, iff_true]
      omega
theorem has_ok {c : Int} {p : Prop} (h : c ≥ 0 ↔ ¬ p) : decide (c ≥ 0) = dc (¬ p) := by rw [dec_dc]; exact dc_eq h
def varP (d : Int) (v : TVar) : Prop := notesP v.Marks_Before ∧ notesP v.Marks_Trail ∧ nameP d v.Name ∧ typeP d v.sub_T
def varsP (d : Int) (l : List TVar) : Prop := (∀ v ∈ l, varP d v) ∧ l.length ≤ 512
theorem bk_VarN (v : TVar) : bks_v9 v.Marks_Before + bks_v9 v.Marks_Trail + v.Name.size + v.T_Name.size + 6 ≤ bk_TVar v := by cases v; simp only [bk_TVar]; omega
theorem two_notes {a b : List ByteArray} : (∀ l ∈ [a, b], notesP l) ↔ notesP a ∧ notesP b := by simp
theorem three_notes {a b c : List ByteArray} : (∀ l ∈ [a, b, c], notesP l) ↔ notesP a ∧ notesP b ∧ notesP c := by simp
theorem four_notes {a b c e : List ByteArray} : (∀ l ∈ [a, b, c, e], notesP l) ↔ notesP a ∧ notesP b ∧ notesP c ∧ notesP e := by simp
theorem vars_1_ok (k : Nat) (d : Int) (v : TVar) (hk : bk_TVar v + 10 < k) (hb : bk_TVar v ≤ 1048576) : (FF hFam (k + 5)).f_tree_checker_vars_1 (v, { dialect := d }, ()) = some (dc (¬ varP d v)) := by
  have hv := bk_VarN v
  show B_tree_checker_vars_1 (FF hFam (k + 4)) (k + 4) v { dialect := d } = _
  unfold B_tree_checker_vars_1
  rw [tree_notes_ok (k + 1) [v.Marks_Before, v.Marks_Trail] (by simp; omega) (by simp; omega) (by simp; omega) (by simp), cname_ok (k + 1) d v.Name (by omega) (by simp only [maxLen]; omega), ctyp_ok k d v.sub_T (by show v.T_Name.size < k; omega) (by show v.T_Name.size ≤ maxLen; simp only [maxLen]; omega)]
  simp only [Option.bind_some, not_dc, Bool.false_or, two_notes]
  by_cases h1 : notesP v.Marks_Before ∧ notesP v.Marks_Trail
  · rw [if_pos (dc_false (fun e => e h1))]
    by_cases h2 : nameP d v.Name
    · rw [if_pos (dc_false (fun e => e h2))]
      refine congrArg some (dc_eq ?_)
      unfold varP
      simp [h1, h2]
    · rw [if_neg (by rw [dc_true (p := ¬ nameP d v.Name) h2]; simp), dc_true (fun e => h2 e.2.2.1)]
  · rw [if_neg (by rw [dc_true (p := ¬ (notesP v.Marks_Before ∧ notesP v.Marks_Trail)) h1]; simp), dc_true (fun e => h1 ⟨e.1, e.2.1⟩)]
theorem L_IndexFunc_Var (s : Fam) (k : Nat) (x : List TVar) (u : Unit × Ttree_checker × Unit) : ∀ j v0 d v2 v3, Lslices_IndexFunc_Var_2 s k x u j v0 d v2 v3 = idxG dd_TVar (fun v => s.f_tree_checker_vars_1 (v, { dialect := d }, ())) j v0 v2 v3 := by
  intro j
  induction j with
  | zero => intros; rfl
  | succ j ih => intros; simp only [Lslices_IndexFunc_Var_2, idxG, ih]
theorem bks_Var_mem' (l : List TVar) (i : Nat) (hi : i < l.length) : bk_TVar l[i] ≤ bks_TVar l := by rw [bks_TVar_eq]; exact mem_sum _ l i hi
theorem cvars_ok (k : Nat) (d : Int) (l : List TVar) (hk : bks_TVar l + 10 < k) (hb : bks_TVar l ≤ 1048576) : (FF hFam (k + 8)).f_tree_checker_vars ({ dialect := d }, l, ()) = some (dc (varsP d l)) := by
  have hlen := bks_Var_len l
  have hml : l.length ≤ maxLen := by simp only [maxLen]; omega
  show B_tree_checker_vars (FF hFam (k + 7)) (k + 7) { dialect := d } l = _
  unfold B_tree_checker_vars
  have hfew : (FF hFam (k + 7)).f_tree_few_Var (l, ()) = some (decide ((l.length : Int) ≤ 512)) := rfl
  obtain ⟨c, h1, h2⟩ := idxG_ok dd_TVar (fun v => (FF hFam (k + 5)).f_tree_checker_vars_1 (v, { dialect := d }, ())) (varP d) l hml (fun i hi => by have := bks_Var_mem' l i hi; exact vars_1_ok k d l[i] (by omega) (by omega)) (k + 5) 0 (Nat.zero_le _) (by omega)
  simp only [Int.ofNat_zero, List.drop_zero] at h1 h2
  have hidx : (FF hFam (k + 6)).f_slices_IndexFunc_Var (l, ((), { dialect := d }, ()), ()) = some c := by
    show B_slices_IndexFunc_Var (FF hFam (k + 5)) (k + 5) l ((), { dialect := d }, ()) = _
    unfold B_slices_IndexFunc_Var
    rw [L_IndexFunc_Var]
    exact h1
  have hcon : (FF hFam (k + 7)).f_slices_ContainsFunc_Var (l, ((), { dialect := d }, ()), ()) = some (dc (¬ ∀ v ∈ l, varP d v)) := by
    show B_slices_ContainsFunc_Var (FF hFam (k + 6)) (k + 6) l ((), { dialect := d }, ()) = _
    unfold B_slices_ContainsFunc_Var
    rw [hidx, Option.bind_some, has_ok h2]
  rw [hfew, Option.bind_some, hcon, Option.bind_some]
  simp only [dec_dc, not_dc, Bool.true_and, if_dc, Classical.not_not]
  refine congrArg some (dc_eq ?_)
  unfold varsP
  constructor
  · rintro ⟨a, b⟩; exact ⟨b, by omega⟩
  · rintro ⟨b, a⟩; exact ⟨by omega, b⟩
theorem rvars_ok (k : Nat) (d : Int) (l : List TVar) (hk : bks_TVar l + 40 < k) (hb : bks_TVar l ≤ 1048576) : (FF hFam (k + 5)).f_r07_vars (d, l, ()) = some (dc (varsP d l)) := by
  have hlen := bks_Var_len l
  have hml : l.length ≤ maxLen := by simp only [maxLen]; omega
  have key : ∀ j i, i ≤ l.length → l.length - i < j → Lr07_vars_2 (FF hFam (k + 4)) (k + 4) d l j d l (i : Int) = some (dc ((∀ v ∈ l.drop i, varP d v) ∧ l.length ≤ 512)) := by
    refine up_ind l.length (fun j => ?_) (fun j i hi ih => ?_)
    · simp only [Lr07_vars_2]
      rw [if_neg (by simp), List.drop_length, dec_dc]
      exact congrArg some (dc_eq (by simp; omega))
    · have hbi := bks_Var_mem' l i hi
      have hv := bk_VarN l[i]
      simp only [Lr07_vars_2]
      rw [if_pos (lt_dec hi), if_pos (by omega), if_pos (by omega), if_pos (by omega), if_pos (by omega), if_pos (by omega), if_pos (by omega), wrap_succ hi hml, getD_at l i _ hi, ih,
        r07_marks_ok k l[i].sub_Marks (by show bks_v9 l[i].Marks_Before < k; omega) (by show bks_v9 l[i].Marks_Before ≤ _; omega) (by show bks_v9 l[i].Marks_Trail < k; omega) (by show bks_v9 l[i].Marks_Trail ≤ _; omega),
        rname_ok (k + 1) d l[i].Name (by omega) (by omega) (by simp only [maxLen]; omega), rtyp_ok k d l[i].sub_T (by show l[i].T_Name.size < k; omega) (by omega) (by show l[i].T_Name.size ≤ maxLen; simp only [maxLen]; omega)]
      simp only [Option.bind_some, not_dc, Bool.false_or, ifn_dc, iff_dc, Classical.not_not]
      refine congrArg some (dc_eq ?_)
      rw [List.drop_eq_getElem_cons hi]
      simp only [List.mem_cons, forall_eq_or_imp, varP, and_assoc]
      exact Iff.rfl
  have := key (k + 4) 0 (Nat.zero_le _) (by omega)
  simp only [Int.ofNat_zero, List.drop_zero] at this
  exact this
end Go.Ev
end
section
open Go
namespace Go.Ev
open Go.Proofs.YtokkfbkbnocnoaaGreatDoor
set_option maxRecDepth 100000
set_option maxHeartbeats 4000000
set_option linter.unusedVariables false
set_option linter.unusedSimpArgs false
def paramP (d : Int) (p : TParam) : Prop := nameP d p.Name ∧ typeP d p.sub_T ∧ (0 ≤ p.Mode ∧ p.Mode ≤ 2) ∧ (p.Mode = 2 → d = 1) ∧ (p.Mode = 0 → p.T_Size = 0 ∧ p.T_Kind ≠ 4)
def upChain : Prop → List TParam → Prop
  | _, [] => True
  | up, p :: r => (up → p.Mode = 2) ∧ upChain (p.Mode = 2) r
def paramsP (d : Int) (l : List TParam) : Prop := (∀ p ∈ l, paramP d p) ∧ upChain False l ∧ l.length ≤ 512
theorem bk_ParamN (p : TParam) : p.Name.size + p.T_Name.size + 6 ≤ bk_TParam p := by cases p; simp only [bk_TParam]; omega
theorem bks_Param_mem' (l : List TParam) (i : Nat) (hi : i < l.length) : bk_TParam l[i] ≤ bks_TParam l := by rw [bks_TParam_eq]; exact mem_sum _ l i hi
theorem tsize_of {d : Int} {p : TParam} (h : typeP d p.sub_T) : 0 ≤ p.T_Size := by
  have h' : (p.T_Kind = 4 ∧ p.T_Size = 0 ∧ nameP d p.T_Name) ∨ (1 ≤ p.T_Kind ∧ p.T_Kind ≤ 3 ∧ 0 ≤ p.T_Size ∧ p.T_Size ≤ 64 ∧ p.T_Name = eps) := h
  omega
theorem cparams_ok (k : Nat) (d : Int) (l : List TParam) (hk : bks_TParam l + 40 < k) (hb : bks_TParam l ≤ 1048576) : (FF hFam (k + 5)).f_tree_checker_params ({ dialect := d }, l, ()) = some (dc (paramsP d l)) := by
  have hlen := bks_Param_len l
  have hml : l.length ≤ maxLen := by simp only [maxLen]; omega
  have key : ∀ j i, i ≤ l.length → l.length - i < j → ∀ up : Bool, Ltree_checker_params_3 (FF hFam (k + 4)) (k + 4) { dialect := d } l j l up l (l.length : Int) (i : Int) d = some (dc ((∀ p ∈ l.drop i, paramP d p) ∧ upChain (up = true) (l.drop i) ∧ l.length ≤ 512)) := by
    refine up_ind l.length (fun j up => ?_) (fun j i hi ih up => ?_)
    · simp only [Ltree_checker_params_3]
      have hfew : (FF hFam (k + 4)).f_tree_few_Param (l, ()) = some (decide ((l.length : Int) ≤ 512)) := rfl
      rw [if_neg (by simp), List.drop_length, hfew, Option.bind_some, dec_dc]
      exact congrArg some (dc_eq (by simp [upChain]; omega))
    · have hbi := bks_Param_mem' l i hi
      have hv := bk_ParamN l[i]
      simp only [Ltree_checker_params_3]
      have ih' := ih (l[i].Mode == 2)
      simp only [beq_iff_eq] at ih'
      rw [if_pos (lt_dec hi), if_pos (by omega), if_pos (by omega), wrap_succ hi hml, getD_at l i _ hi, ih',
        cname_ok (k + 1) d l[i].Name (by omega) (by simp only [maxLen]; omega), ctyp_ok k d l[i].sub_T (by show l[i].T_Name.size < k; omega) (by show l[i].T_Name.size ≤ maxLen; simp only [maxLen]; omega)]
      have hup : ∀ b, (up && b) = (dc (up = true) && b) := by intro b; cases up <;> simp [dc_false, dc_true]
      simp only [hup]
      simp only [Option.bind_some, not_dc, Bool.false_or, int_dc, int_ndc, dec_dc, and_dc, or_dc, ifn_dc, iff_dc, Classical.not_not]
      refine congrArg some (dc_eq ?_)
      rw [List.drop_eq_getElem_cons hi]
      simp only [List.mem_cons, forall_eq_or_imp, upChain, paramP]
      constructor
      · rintro ⟨g1, g2, g3, g4, g5, g6, g7⟩
        refine ⟨⟨⟨g1, ?_, ⟨?_, ?_⟩, ?_, ?_⟩, g5⟩, ⟨?_, g6⟩, g7⟩
        · exact Classical.byContradiction fun e => g2 (.inl (.inl e))
        · exact Int.not_lt.1 fun e => g2 (.inl (.inr e))
        · exact Int.not_lt.1 fun e => g2 (.inr e)
        · intro e; exact Classical.byContradiction fun e' => g4 (.inr ⟨e, e'⟩)
        · intro e
          have ht := tsize_of (Classical.byContradiction fun e => g2 (.inl (.inl e)) : typeP d l[i].sub_T)
          refine ⟨?_, fun e' => g3 ⟨e, .inr e'⟩⟩
          rcases Int.lt_or_le 0 l[i].T_Size with h | h
          · exact absurd ⟨e, Or.inl h⟩ g3
          · omega
        · intro e; exact Classical.byContradiction fun e' => g4 (.inl ⟨e, e'⟩)
      · rintro ⟨⟨⟨g1, g2, ⟨g3, g4⟩, g5, g6⟩, g7⟩, ⟨g8, g9⟩, g10⟩
        refine ⟨g1, ?_, ?_, ?_, g7, g9, g10⟩
        · rintro ((e | e) | e)
          · exact e g2
          · omega
          · omega
        · rintro ⟨e, e' | e'⟩
          · have := (g6 e).1; omega
          · exact (g6 e).2 e'
        · rintro (⟨e, e'⟩ | ⟨e, e'⟩)
          · exact e' (g8 e)
          · exact e' (g5 e)
  have := key (k + 4) 0 (Nat.zero_le _) (by omega) false
  simp only [Int.ofNat_zero, List.drop_zero, Bool.false_eq_true] at this
  exact this
theorem rparams_ok (k : Nat) (d : Int) (hd : d = 0 ∨ d = 1) (l : List TParam) (hk : bks_TParam l + 40 < k) (hb : bks_TParam l ≤ 1048576) : (FF hFam (k + 5)).f_r07_params (d, l, ()) = some (dc (paramsP d l)) := by
  have hlen := bks_Param_len l
  have hml : l.length ≤ maxLen := by simp only [maxLen]; omega
  have key : ∀ j i, i ≤ l.length → l.length - i < j → Lr07_params_2 (FF hFam (k + 4)) (k + 4) d l j d l (i : Int) = some (dc ((∀ p ∈ l.drop i, paramP d p) ∧ upChain (0 < i ∧ (l.getD (i - 1) dd_TParam).Mode = 2) (l.drop i) ∧ l.length ≤ 512)) := by
    refine up_ind l.length (fun j => ?_) (fun j i hi ih => ?_)
    · simp only [Lr07_params_2]
      rw [if_neg (by simp), List.drop_length, dec_dc]
      exact congrArg some (dc_eq (by simp [upChain]; omega))
    · have hbi := bks_Param_mem' l i hi
      have hv := bk_ParamN l[i]
      have hpv : upChain (0 < i + 1 ∧ (l.getD (i + 1 - 1) dd_TParam).Mode = 2) (l.drop (i + 1)) = upChain (l[i].Mode = 2) (l.drop (i + 1)) := by
        have : l.getD (i + 1 - 1) dd_TParam = l[i] := by rw [Nat.add_sub_cancel]; simp [hi]
        rw [this]
        have h2 : (0 < i + 1 ∧ l[i].Mode = 2) = (l[i].Mode = 2) := propext ⟨fun h => h.2, fun h => ⟨by omega, h⟩⟩
        rw [h2]
      rw [hpv] at ih
      simp only [Lr07_params_2]
      rw [if_pos (lt_dec hi), if_pos (by omega), if_pos (by omega), wrap_succ hi hml, getD_at l i _ hi, ih,
        rname_ok (k + 1) d l[i].Name (by omega) (by omega) (by simp only [maxLen]; omega), rtyp_ok k d l[i].sub_T (by show l[i].T_Name.size < k; omega) (by omega) (by show l[i].T_Name.size ≤ maxLen; simp only [maxLen]; omega)]
      have hprev : (if (l[i].Mode != 2 && decide ((i : Int) > 0)) = true then (if 0 ≤ IntKind.i64.wrap ((i : Int) - 1) then (if IntKind.i64.wrap ((i : Int) - 1) < (l.length : Int) then (if (Bool.false || Bool.true && (l.getD (IntKind.i64.wrap ((i : Int) - 1)).toNat dd_TParam).Mode == 2) = true then some false else some (dc ((∀ p ∈ l.drop (i + 1), paramP d p) ∧ upChain (l[i].Mode = 2) (l.drop (i + 1)) ∧ l.length ≤ 512))) else none) else none) else some (dc ((∀ p ∈ l.drop (i + 1), paramP d p) ∧ upChain (l[i].Mode = 2) (l.drop (i + 1)) ∧ l.length ≤ 512))) =
          some (dc (((0 < i ∧ (l.getD (i - 1) dd_TParam).Mode = 2) → l[i].Mode = 2) ∧ ((∀ p ∈ l.drop (i + 1), paramP d p) ∧ upChain (l[i].Mode = 2) (l.drop (i + 1)) ∧ l.length ≤ 512))) := by
        by_cases h2 : l[i].Mode = 2
        · rw [if_neg (by simp [h2])]
          exact congrArg some (dc_eq ⟨fun h => ⟨fun _ => h2, h⟩, fun h => h.2⟩)
        · by_cases h0 : 0 < i
          · rw [if_pos (by simp [h2]; omega), wrap_dn h0 (by omega), if_pos (by omega), if_pos (by omega)]
            simp only [Int.toNat_natCast, Bool.false_or, Bool.true_and, int_dc, ifn_dc]
            refine congrArg some (dc_eq ⟨fun h => ⟨fun e => absurd e.2 h.1, h.2⟩, fun h => ⟨fun e => h2 (h.1 ⟨h0, e⟩), h.2⟩⟩)
          · rw [if_neg (by simp; intro _; omega)]
            exact congrArg some (dc_eq ⟨fun h => ⟨fun e => absurd e.1 h0, h⟩, fun h => h.2⟩)
      simp only [Option.bind_some] at hprev ⊢
      rw [hprev]
      simp only [not_dc, Bool.false_or, int_dc, int_ndc, dec_dc, and_dc, or_dc, ifn_dc, iff_dc, Classical.not_not]
      refine congrArg some (dc_eq ?_)
      rw [List.drop_eq_getElem_cons hi]
      simp only [List.mem_cons, forall_eq_or_imp, upChain, paramP]
      constructor
      · rintro ⟨g1, g2, g3, g4, g5, g6, g7⟩
        refine ⟨⟨⟨g1, ?_, ⟨?_, ?_⟩, ?_, ?_⟩, g5⟩, ⟨g4, g6⟩, g7⟩
        · exact Classical.byContradiction fun e => g2 (.inl (.inl (.inl e)))
        · exact Int.not_lt.1 fun e => g2 (.inl (.inl (.inr e)))
        · exact Int.not_lt.1 fun e => g2 (.inl (.inr e))
        · intro e
          rcases hd with h | h
          · exact absurd (Or.inr ⟨e, h⟩) g2
          · exact h
        · intro e
          exact ⟨Classical.byContradiction fun e' => g3 ⟨e, .inl e'⟩, fun e' => g3 ⟨e, .inr e'⟩⟩
      · rintro ⟨⟨⟨g1, g2, ⟨g3, g4⟩, g5, g6⟩, g7⟩, ⟨g8, g9⟩, g10⟩
        refine ⟨g1, ?_, ?_, g8, g7, g9, g10⟩
        · rintro (((e | e) | e) | ⟨e, e'⟩)
          · exact e g2
          · omega
          · omega
          · have := g5 e; omega
        · rintro ⟨e, e' | e'⟩
          · exact e' (g6 e).1
          · exact (g6 e).2 e'
  have := key (k + 4) 0 (Nat.zero_le _) (by omega)
  have h3 : (0 < 0 ∧ (l.getD (0 - 1) dd_TParam).Mode = 2) = False := by simp
  rw [h3] at this
  simp only [Int.ofNat_zero, List.drop_zero] at this
  exact this
end Go.Ev
end
section
open Go
namespace Go.Ev
open Go.Proofs.YtokkfbkbnocnoaaGreatDoor
set_option maxRecDepth 100000
set_option maxHeartbeats 4000000
set_option linter.unusedVariables false
set_option linter.unusedSimpArgs false
def exP (d : Int) (e : TExpr) : Prop := wfE d e ∧ dpE e ≤ 48
def placeP (d : Int) (e : TExpr) : Prop := (4 ≤ e.Op ∧ e.Op ≤ 6) ∧ exP d e
def noneP (e : TExpr) : Prop := e.Op = 0 ∧ e.N = 0 ∧ e.Name = eps ∧ e.Field = eps ∧ e.L.length = 0
def cntP (op : Int) (n : Nat) : Prop := (op = 6 → n = 2) ∧ (op = 7 → n = 0) ∧ (op = 9 → n ≤ 1) ∧ (op ≠ 6 → op ≠ 7 → op ≠ 9 → n = 1)
def stP (d op : Int) (nm : ByteArray) (P : TExpr) (E : List TExpr) (down more : Bool) (nb ne n1 n2 : Nat) : Prop :=
  (1 ≤ op ∧ op ≤ 9) ∧ cntP op E.length ∧ (∀ e ∈ E, exP d e ∧ (op = 2 → e.Op = 7)) ∧ (op = 1 ∨ op = 7 → placeP d P) ∧ (¬ (op = 1 ∨ op = 7) → noneP P) ∧ (op = 6 → nameP d nm) ∧ (op ≠ 6 → nm = eps ∧ down = false) ∧
  (more = true → op = 3) ∧ (more = false → ne = 0 ∧ n2 = 0) ∧ ((op < 3 ∨ 6 < op) → nb = 0 ∧ n1 = 0)
mutual
def wfS (d : Int) : TStmt → Int → Prop
  | ⟨mb, mt, op, nm, po, pn, pnm, pf, pl, E, down, more, body, els, e1, e2⟩, deep =>
    deep ≤ 48 ∧ (notesP mb ∧ notesP mt ∧ notesP e1 ∧ notesP e2) ∧ stP d op nm ⟨po, pn, pnm, pf, pl⟩ E down more body.length els.length e1.length e2.length ∧ (wfSs d body (deep + 1) ∧ body.length ≤ 512) ∧ (wfSs d els (deep + 1) ∧ els.length ≤ 512)
def wfSs (d : Int) : List TStmt → Int → Prop
  | [], _ => True
  | x :: r, deep => wfS d x deep ∧ wfSs d r deep
end
def stmtsP (d : Int) (l : List TStmt) (deep : Int) : Prop := wfSs d l deep ∧ l.length ≤ 512
theorem wfSs_iff {d deep : Int} : ∀ l : List TStmt, wfSs d l deep ↔ ∀ x ∈ l, wfS d x deep
  | [] => by simp [wfSs]
  | x :: r => by simp only [wfSs, wfSs_iff r, List.mem_cons, forall_eq_or_imp]
theorem ic_zero {p : Prop} {n : Nat} (hn : 1 ≤ n) : (ic p n == 0) = dc (¬ p) := by
  by_cases h : p
  · rw [ic_pos h, dc_false (fun e => e h)]; simp; omega
  · rw [ic_neg h, dc_true h]; rfl
theorem ic_gt {p : Prop} {n : Nat} (hn : 1 ≤ n) : decide (ic p n > 0) = dc p := by
  by_cases h : p
  · rw [ic_pos h, dc_true h]; simp; omega
  · rw [ic_neg h, dc_false h]; rfl
theorem rExpr_ok (k : Nat) (d : Int) (hd : d = 0 ∨ d = 1) (e : TExpr) (hb : bk_TExpr e ≤ 1048576) (hk : 3 * bk_TExpr e + 100 ≤ k) : (FF hFam (k + 1)).f_r07_Expr (d, e, ()) = some (dc (exP d e)) := by
  show B_r07_Expr (FF hFam k) k d e = _
  unfold B_r07_Expr
  rw [TExpr.re_eq]
  have hc : (d != 0 && d != 1) = false := by rcases hd with rfl | rfl <;> rfl
  rw [hc, if_neg (by simp), form_ok k d e 48 hd hb (by omega) (by omega) (by omega), Option.bind_some]
  have hw : (wfE d e ∧ (dpE e : Int) ≤ 48) ↔ exP d e := by constructor <;> rintro ⟨a, b⟩ <;> exact ⟨a, by omega⟩
  rw [dc_eq hw]
  by_cases h : exP d e
  · have h2 := h.2
    rw [if_pos (dc_true h), Deep_ok k e 99 hb (by omega) (by omega) (by omega) (by omega), Option.bind_some, dc_true h, decide_eq_true (show ((dpE e : Nat) : Int) ≤ 48 by omega)]
    rfl
  · rw [if_neg (by rw [dc_false h]; simp), dc_false h]
theorem rplace_ok (k : Nat) (d : Int) (hd : d = 0 ∨ d = 1) (e : TExpr) (hb : bk_TExpr e ≤ 1048576) (hk : 3 * bk_TExpr e + 100 ≤ k) : (FF hFam (k + 2)).f_r07_place (d, e, ()) = some (dc (placeP d e)) := by
  show B_r07_place (FF hFam (k + 1)) (k + 1) d e = _
  unfold B_r07_place
  rw [TExpr.re_eq, rExpr_ok k d hd e hb hk]
  simp only [Option.bind_some, Bool.true_and, dec_dc, and_dc, if_dc]
  rfl
theorem cplace_ok (k : Nat) (d : Int) (e : TExpr) (hb : bk_TExpr e ≤ 1048576) (hk : 3 * bk_TExpr e + 100 ≤ k) : (FF hFam (k + 1)).f_tree_checker_place ({ dialect := d }, e, ()) = some (dc (placeP d e)) := by
  show B_tree_checker_place (FF hFam k) k { dialect := d } e = _
  unfold B_tree_checker_place
  rw [TExpr.re_eq, expr_ok k d e hb (by omega)]
  simp only [Option.bind_some, Bool.true_and, ic_gt (dpE_pos e), int_dc, or_dc, if_dc]
  refine congrArg some (dc_eq ?_)
  unfold placeP exP
  constructor
  · rintro ⟨a, b⟩; exact ⟨by omega, b⟩
  · rintro ⟨a, b⟩; exact ⟨by omega, b⟩
theorem rnone_ok (k : Nat) (e : TExpr) : (FF hFam (k + 1)).f_r07_none (e, ()) = some (dc (noneP e)) := by
  show B_r07_none (FF hFam k) k e = _
  unfold B_r07_none
  simp only [int_dc, eps_dc, and_dc]
  refine congrArg some (dc_eq ?_)
  unfold noneP
  simp only [and_assoc]
  constructor
  · rintro ⟨a, b, c, d, f⟩; exact ⟨a, b, c, d, by omega⟩
  · rintro ⟨a, b, c, d, f⟩; exact ⟨a, b, c, d, by omega⟩
theorem cnone_ok (k : Nat) (e : TExpr) : (FF hFam (k + 4)).f_tree_none (e, ()) = some (dc (noneP e)) := by
  have heq : (FF hFam (k + 2)).f_slices_EqualFunc_Expr (e.L, [], ((), ()), ()) = some (dc (e.L.length = 0)) := by
    show B_slices_EqualFunc_Expr (FF hFam (k + 1)) (k + 1) e.L [] ((), ()) = _
    unfold B_slices_EqualFunc_Expr
    by_cases h : e.L.length = 0
    · rw [if_neg (by simp [h]), dc_true h]
      simp only [Lslices_EqualFunc_Expr_4]
      rw [if_neg (by simp [h])]
    · rw [if_pos (by simp; intro e'; exact h (by rw [e']; rfl)), dc_false h]
  show B_tree_none (FF hFam (k + 3)) (k + 3) e = _
  unfold B_tree_none
  have hs : (FF hFam (k + 3)).f_tree_SameExpr (e.re, ⟨0, 0, ⟨#[]⟩, ⟨#[]⟩, []⟩, ()) = some (dc (noneP e)) := by
    rw [TExpr.re_eq]
    show B_tree_SameExpr (FF hFam (k + 2)) (k + 2) e ⟨0, 0, ⟨#[]⟩, ⟨#[]⟩, []⟩ = _
    unfold B_tree_SameExpr
    simp only [heq, Option.bind_some, Bool.true_and, int_dc, eps_dc, and_dc, if_dc]
    refine congrArg some (dc_eq ?_)
    unfold noneP
    simp only [and_assoc]
  rw [hs]
  rfl
theorem bk_StmtN (x : TStmt) : bks_v9 x.Marks_Before + bks_v9 x.Marks_Trail + x.Name.size + bk_TExpr x.sub_P + bks_TExpr x.E + bks_TStmt x.Body + bks_TStmt x.Else + bks_v9 x.End + bks_v9 x.End2 + 10 ≤ bk_TStmt x := by
  cases x; simp only [bk_TStmt, TStmt.sub_P, bk_TExpr]; omega
def csOK (K : Nat) : Prop := (∀ (d : Int) (x : TStmt) (deep : Int), bk_TStmt x ≤ 1048576 → 5 * bk_TStmt x + 200 ≤ K → 0 ≤ deep → deep ≤ 49 → (FF hFam K).f_tree_checker_stmt ({ dialect := d }, x, deep, ()) = some (dc (wfS d x deep))) ∧
  (∀ (d : Int) (l : List TStmt) (deep : Int), bks_TStmt l ≤ 1048576 → 5 * bks_TStmt l + 204 ≤ K → 0 ≤ deep → deep ≤ 49 → (FF hFam K).f_tree_checker_stmts ({ dialect := d }, l, deep, ()) = some (dc (stmtsP d l deep)))
theorem L_IndexFunc_Stmt (s : Fam) (k : Nat) (x : List TStmt) (u : Unit × Ttree_checker × Int × Unit) : ∀ j v0 d deep v2 v3, Lslices_IndexFunc_Stmt_2 s k x u j v0 d deep v2 v3 = idxG dd_TStmt (fun v => s.f_tree_checker_stmts_1 (v.re, { dialect := d }, deep, ())) j v0 v2 v3 := by
  intro j
  induction j with
  | zero => intros; rfl
  | succ j ih => intros; simp only [Lslices_IndexFunc_Stmt_2, idxG, ih]
theorem cstmts_step (K : Nat) (hK : csOK K) (d : Int) (l : List TStmt) (deep : Int) (hb : bks_TStmt l ≤ 1048576) (hk : 5 * bks_TStmt l + 200 ≤ K) (h0 : 0 ≤ deep) (h1 : deep ≤ 49) : (FF hFam (K + 4)).f_tree_checker_stmts ({ dialect := d }, l, deep, ()) = some (dc (stmtsP d l deep)) := by
  have hlen := bks_Stmt_len l
  have hml : l.length ≤ maxLen := by simp only [maxLen]; omega
  show B_tree_checker_stmts (FF hFam (K + 3)) (K + 3) { dialect := d } l deep = _
  unfold B_tree_checker_stmts
  have hfew : (FF hFam (K + 3)).f_tree_few_Stmt (l, ()) = some (decide ((l.length : Int) ≤ 512)) := rfl
  have hone : ∀ x : TStmt, (FF hFam (K + 1)).f_tree_checker_stmts_1 (x.re, { dialect := d }, deep, ()) = ((FF hFam K).f_tree_checker_stmt ({ dialect := d }, x, deep, ())).bind fun t => some (!t) := fun x => by
    show B_tree_checker_stmts_1 (FF hFam K) K x.re { dialect := d } deep = _
    unfold B_tree_checker_stmts_1
    rw [TStmt.re_eq, TStmt.re_eq]
  obtain ⟨c, h1', h2⟩ := idxG_ok dd_TStmt (fun v => (FF hFam (K + 1)).f_tree_checker_stmts_1 (v.re, { dialect := d }, deep, ())) (fun x => wfS d x deep) l hml (fun i hi => by
    have := bks_Stmt_mem l i hi
    show (FF hFam (K + 1)).f_tree_checker_stmts_1 (l[i].re, { dialect := d }, deep, ()) = _
    rw [hone, hK.1 d l[i] deep (by omega) (by omega) h0 h1, Option.bind_some, not_dc]) (K + 1) 0 (Nat.zero_le _) (by omega)
  simp only [Int.ofNat_zero, List.drop_zero] at h1' h2
  have hidx : (FF hFam (K + 2)).f_slices_IndexFunc_Stmt (l, ((), { dialect := d }, deep, ()), ()) = some c := by
    show B_slices_IndexFunc_Stmt (FF hFam (K + 1)) (K + 1) l ((), { dialect := d }, deep, ()) = _
    unfold B_slices_IndexFunc_Stmt
    rw [L_IndexFunc_Stmt]
    exact h1'
  have hcon : (FF hFam (K + 3)).f_slices_ContainsFunc_Stmt (l, ((), { dialect := d }, deep, ()), ()) = some (dc (¬ ∀ x ∈ l, wfS d x deep)) := by
    show B_slices_ContainsFunc_Stmt (FF hFam (K + 2)) (K + 2) l ((), { dialect := d }, deep, ()) = _
    unfold B_slices_ContainsFunc_Stmt
    rw [hidx, Option.bind_some, has_ok h2]
  rw [hfew, Option.bind_some, hcon, Option.bind_some]
  simp only [dec_dc, not_dc, Bool.true_and, if_dc, Classical.not_not]
  refine congrArg some (dc_eq ?_)
  unfold stmtsP
  rw [wfSs_iff]
  constructor
  · rintro ⟨a, b⟩; exact ⟨b, by omega⟩
  · rintro ⟨b, a⟩; exact ⟨by omega, b⟩
theorem cstmt_loop (K : Nat) (d : Int) (E : List TExpr) (hb : bks_TExpr E ≤ 1048576) (hk : 3 * bks_TExpr E + 100 ≤ K) (deep op : Int) (body els : List TStmt) (SB : Prop)
    (hrest : (((FF hFam K).f_tree_checker_stmts ({ dialect := d }, body, IntKind.i64.wrap (deep + 1), ())).bind fun t38 => (if t38 = true then ((FF hFam K).f_tree_checker_stmts ({ dialect := d }, els, IntKind.i64.wrap (deep + 1), ())).bind fun t40 => some (true && t40) else some false)) = some (dc SB))
    (x1 : TStmt) (x2 po pn : Int) (mb mt e1 e2 : List ByteArray) (nm pnm pf : ByteArray) (pl E' : List TExpr) (down more : Bool) :
    ∀ j i, i ≤ E.length → E.length - i < j → Ltree_checker_stmt_17 (FF hFam K) K { dialect := d } x1 x2 j deep E (E.length : Int) (i : Int) d mb mt op nm po pn pnm pf pl E' down more body els e1 e2 = some (dc ((∀ e ∈ E.drop i, exP d e ∧ (op = 2 → e.Op = 7)) ∧ SB)) := by
  have hlen := bks_Expr_len E
  have hml : E.length ≤ maxLen := by simp only [maxLen]; omega
  refine up_ind E.length (fun j => ?_) (fun j i hi ih => ?_)
  · simp only [Ltree_checker_stmt_17]
    rw [if_neg (by simp), hrest, List.drop_length]
    exact congrArg some (dc_eq (by simp))
  · have hbi := bks_Expr_mem E i hi
    simp only [Ltree_checker_stmt_17]
    rw [if_pos (lt_dec hi), if_pos (by omega), if_pos (by omega), wrap_succ hi hml, getD_at E i _ hi, TExpr.re_eq, expr_ok K d E[i] (by omega) (by omega), Option.bind_some, ih, ic_zero (dpE_pos _)]
    simp only [int_dc, int_ndc, and_dc, or_dc, ifn_dc]
    refine congrArg some (dc_eq ?_)
    rw [List.drop_eq_getElem_cons hi]
    simp only [List.mem_cons, forall_eq_or_imp]
    constructor
    · rintro ⟨a, b, c⟩
      exact ⟨⟨⟨Classical.byContradiction fun e => a (.inl e), fun e => Classical.byContradiction fun e' => a (.inr ⟨e, e'⟩)⟩, b⟩, c⟩
    · rintro ⟨⟨⟨a, a'⟩, b⟩, c⟩
      exact ⟨fun e => e.elim (fun e => e a) (fun e => e.2 (a' e.1)), b, c⟩
end Go.Ev
end
section
open Go
namespace Go.Ev
open Go.Proofs.YtokkfbkbnocnoaaGreatDoor
set_option maxRecDepth 100000
set_option maxHeartbeats 8000000
set_option linter.unusedVariables false
set_option linter.unusedSimpArgs false
theorem wfS_iff (d : Int) (x : TStmt) (deep : Int) : wfS d x deep ↔ deep ≤ 48 ∧ (notesP x.Marks_Before ∧ notesP x.Marks_Trail ∧ notesP x.End ∧ notesP x.End2) ∧ stP d x.Op x.Name x.sub_P x.E x.Down x.More x.Body.length x.Else.length x.End.length x.End2.length ∧
    stmtsP d x.Body (deep + 1) ∧ stmtsP d x.Else (deep + 1) := by
  cases x; simp only [wfS]; exact Iff.rfl
theorem shape_none (k : Nat) (op : Int) (h : ¬ (1 ≤ op ∧ op ≤ 9)) : (FF hFam (k + 1)).f_tree_shapeOf (op, ()) = some (dd_Ttree_shape, false, ()) := by
  show B_tree_shapeOf (FF hFam k) k op = _
  have hb : ∀ c : Int, (op == c) = decide (op = c) := fun c => rfl
  have e : ∀ c : Int, 1 ≤ c ∧ c ≤ 9 → decide (op = c) = false := fun c hc => decide_eq_false (by omega)
  simp only [B_tree_shapeOf, hb, e 1 (by decide), e 2 (by decide), e 3 (by decide), e 4 (by decide), e 5 (by decide), e 6 (by decide), e 7 (by decide), e 8 (by decide), e 9 (by decide), Bool.false_eq_true, if_false]
theorem pos_dc {α : Type} (l : List α) : decide ((l.length : Int) > 0) = dc (¬ l.length = 0) := by rw [dec_dc]; exact dc_eq (by omega)
theorem cstmt_step (K : Nat) (hK : csOK K) (d : Int) (x : TStmt) (deep : Int) (hb : bk_TStmt x ≤ 1048576) (hk : 5 * bk_TStmt x + 199 ≤ K) (h0 : 0 ≤ deep) (h1 : deep ≤ 49) : (FF hFam (K + 1)).f_tree_checker_stmt ({ dialect := d }, x, deep, ()) = some (dc (wfS d x deep)) := by
  have hn := bk_StmtN x
  obtain ⟨K', rfl⟩ : ∃ K', K = K' + 5 := ⟨K - 5, by omega⟩
  by_cases hdeep : deep ≤ 48
  · have hnotes : (FF hFam (K' + 5)).f_tree_notes ([x.Marks_Before, x.Marks_Trail, x.End, x.End2], ()) = some (dc (notesP x.Marks_Before ∧ notesP x.Marks_Trail ∧ notesP x.End ∧ notesP x.End2)) := by
      rw [tree_notes_ok (K' + 2) [x.Marks_Before, x.Marks_Trail, x.End, x.End2] (by simp; omega) (by simp; omega) (by simp; omega) (by simp)]
      exact congrArg some (dc_eq four_notes)
    have hplace : (FF hFam (K' + 5)).f_tree_checker_place ({ dialect := d }, x.sub_P, ()) = some (dc (placeP d x.sub_P)) := cplace_ok (K' + 4) d x.sub_P (by omega) (by omega)
    have hnone : (FF hFam (K' + 5)).f_tree_none (x.sub_P, ()) = some (dc (noneP x.sub_P)) := cnone_ok (K' + 1) x.sub_P
    have hname : (FF hFam (K' + 5)).f_tree_checker_name ({ dialect := d }, x.Name, ()) = some (dc (nameP d x.Name)) := cname_ok (K' + 2) d x.Name (by omega) (by simp only [maxLen]; omega)
    have hw : IntKind.i64.wrap (deep + 1) = deep + 1 := wrap_ok (by omega) (by omega)
    have hbody := hK.2 d x.Body (deep + 1) (by omega) (by omega) (by omega) (by omega)
    have hels := hK.2 d x.Else (deep + 1) (by omega) (by omega) (by omega) (by omega)
    have hleaf := cstmt_loop (K' + 5) d x.E (by omega) (by omega) deep
    have hleaf2 : ∀ (op : Int) (po pn : Int) (mb mt e1 e2 : List ByteArray) (nm pnm pf : ByteArray) (pl E' : List TExpr) (down more : Bool), Ltree_checker_stmt_17 (FF hFam (K' + 5)) (K' + 5) { dialect := d } x deep (K' + 5) deep x.E (x.E.length : Int) 0 d mb mt op nm po pn pnm pf pl E' down more x.Body x.Else e1 e2 =
        some (dc ((∀ e ∈ x.E, exP d e ∧ (op = 2 → e.Op = 7)) ∧ stmtsP d x.Body (deep + 1) ∧ stmtsP d x.Else (deep + 1))) := by
      intro op po pn mb mt e1 e2 nm pnm pf pl E' down more
      have hl := bks_Expr_len x.E
      have := hleaf op x.Body x.Else (stmtsP d x.Body (deep + 1) ∧ stmtsP d x.Else (deep + 1)) (by
        rw [hw, hbody, hels]
        simp only [Option.bind_some, Bool.true_and, if_dc]) x deep po pn mb mt e1 e2 nm pnm pf pl E' down more (K' + 5) 0 (Nat.zero_le _) (by omega)
      simp only [Int.ofNat_zero, List.drop_zero] at this
      exact this
    clear hleaf hbody hels hw
    have hdd : decide (deep > 48) = false := decide_eq_false (by omega)
    rw [dc_eq (wfS_iff d x deep)]
    show B_tree_checker_stmt (FF hFam (K' + 5)) (K' + 5) { dialect := d } x deep = _
    have hp1 := pos_dc x.Body
    have hp2 := pos_dc x.Else
    have hp3 := pos_dc x.End
    have hp4 := pos_dc x.End2
    have core : ∀ sh : Ttree_shape, (FF hFam (K' + 5)).f_tree_shapeOf (x.Op, ()) = some (sh, true, ()) → B_tree_checker_stmt (FF hFam (K' + 5)) (K' + 5) { dialect := d } x deep =
        some (dc ((notesP x.Marks_Before ∧ notesP x.Marks_Trail ∧ notesP x.End ∧ notesP x.End2) ∧ (sh.place = true → placeP d x.sub_P) ∧ (sh.place = false → noneP x.sub_P) ∧ (sh.name_ = true → nameP d x.Name) ∧ (sh.name_ = false → x.Name = eps) ∧
          ¬ ((x.E.length : Int) < sh.least ∨ (x.E.length : Int) > sh.most) ∧ (sh.body = false → x.Body.length = 0 ∧ x.End.length = 0) ∧ (x.More = true → x.Op = 3) ∧ (x.Down = true → x.Op = 6) ∧ (x.More = false → x.Else.length = 0 ∧ x.End2.length = 0) ∧
          ((∀ e ∈ x.E, exP d e ∧ (x.Op = 2 → e.Op = 7)) ∧ stmtsP d x.Body (deep + 1) ∧ stmtsP d x.Else (deep + 1)))) := by
      rintro ⟨pl, nq, bd, least, most⟩ hsh
      simp only [B_tree_checker_stmt, hsh, hnotes, hplace, hnone, hname, hleaf2, hdd, Option.bind_some, eps_dc, hp1, hp2, hp3, hp4]
      have hb2 : ∀ c : Int, (x.Op != c) = dc (¬ x.Op = c) := fun c => int_ndc _ _
      simp only [hb2]
      generalize (notesP x.Marks_Before ∧ notesP x.Marks_Trail ∧ notesP x.End ∧ notesP x.End2) = A1
      generalize placeP d x.sub_P = A2
      generalize noneP x.sub_P = A3
      generalize nameP d x.Name = A4
      generalize (x.Name = eps) = A5
      generalize ((∀ e ∈ x.E, exP d e ∧ (x.Op = 2 → e.Op = 7)) ∧ stmtsP d x.Body (deep + 1) ∧ stmtsP d x.Else (deep + 1)) = A6
      generalize (x.Op = 3) = B3
      generalize (x.Op = 6) = B6
      generalize (x.Body.length = 0) = N1
      generalize (x.End.length = 0) = N2
      generalize (x.Else.length = 0) = N3
      generalize (x.End2.length = 0) = N4
      generalize x.More = more
      generalize x.Down = down
      have hcn : (decide ((x.E.length : Int) < least) || decide ((x.E.length : Int) > most)) = dc ((x.E.length : Int) < least ∨ (x.E.length : Int) > most) := by rw [dec_dc, dec_dc, or_dc]
      simp only [hcn]
      generalize ((x.E.length : Int) < least ∨ (x.E.length : Int) > most) = C1
      clear hnotes hplace hnone hname hleaf2 hsh hp1 hp2 hp3 hp4 hb2 hcn hn hk hb hK
      cases pl <;> cases nq <;> cases bd <;> cases more <;> cases down
      all_goals simp only [Bool.not_true, Bool.not_false, Bool.true_and, Bool.false_and, Bool.and_true, Bool.and_false, Bool.true_or, Bool.false_or, Bool.or_false, Bool.or_true, if_true, Bool.false_eq_true, if_false, reduceCtorEq]
      all_goals simp only [not_dc, and_dc, or_dc, if_dc, ifn_dc, iff_dc, Classical.not_not]
      all_goals refine congrArg some (dc_eq ?_)
      all_goals simp only [true_implies, false_implies, true_and, and_true, not_or, Classical.not_and_iff_not_or_not, Classical.not_not, and_assoc]
      all_goals (constructor <;> intro h <;> simp_all)
    clear hnotes hplace hnone hname hleaf2 hp1 hp2 hp3 hp4 hn hk hb hK
    have hl11 : (¬ ((x.E.length : Int) < 1 ∨ (x.E.length : Int) > 1)) ↔ x.E.length = 1 := by omega
    have hl22 : (¬ ((x.E.length : Int) < 2 ∨ (x.E.length : Int) > 2)) ↔ x.E.length = 2 := by omega
    have hl00 : (¬ ((x.E.length : Int) < 0 ∨ (x.E.length : Int) > 0)) ↔ x.E.length = 0 := by omega
    have hl01 : (¬ ((x.E.length : Int) < 0 ∨ (x.E.length : Int) > 1)) ↔ x.E.length ≤ 1 := by omega
    have hcases : x.Op = 1 ∨ x.Op = 2 ∨ x.Op = 3 ∨ x.Op = 4 ∨ x.Op = 5 ∨ x.Op = 6 ∨ x.Op = 7 ∨ x.Op = 8 ∨ x.Op = 9 ∨ ¬ (1 ≤ x.Op ∧ x.Op ≤ 9) := by omega
    rcases hcases with h | h | h | h | h | h | h | h | h | h
    · rw [core ⟨true, false, false, 1, 1⟩ (by rw [h]; rfl)]
      clear core
      refine congrArg some (dc_eq ?_)
      unfold stP cntP
      simp only [hl11, hl22, hl00, hl01]
      generalize (∀ e ∈ x.E, exP d e ∧ (x.Op = 2 → e.Op = 7)) = A6
      simp only [h, hdeep, Int.reduceEq, Int.reduceLE, Int.reduceLT, true_and, and_true, true_implies, false_implies, reduceCtorEq, or_false, false_or, or_true, true_or, not_true_eq_false, not_false_eq_true, ne_eq, imp_false]
      clear hl11 hl22 hl00 hl01 hdd h
      generalize (notesP x.Marks_Before ∧ notesP x.Marks_Trail ∧ notesP x.End ∧ notesP x.End2) = A1
      generalize placeP d x.sub_P = A2
      generalize noneP x.sub_P = A3
      generalize nameP d x.Name = A4
      generalize stmtsP d x.Body (deep + 1) = A7
      generalize stmtsP d x.Else (deep + 1) = A8
      constructor <;> intro h <;> simp_all
    · rw [core ⟨false, false, false, 1, 1⟩ (by rw [h]; rfl)]
      clear core
      refine congrArg some (dc_eq ?_)
      unfold stP cntP
      simp only [hl11, hl22, hl00, hl01]
      generalize (∀ e ∈ x.E, exP d e ∧ (x.Op = 2 → e.Op = 7)) = A6
      simp only [h, hdeep, Int.reduceEq, Int.reduceLE, Int.reduceLT, true_and, and_true, true_implies, false_implies, reduceCtorEq, or_false, false_or, or_true, true_or, not_true_eq_false, not_false_eq_true, ne_eq, imp_false]
      clear hl11 hl22 hl00 hl01 hdd h
      generalize (notesP x.Marks_Before ∧ notesP x.Marks_Trail ∧ notesP x.End ∧ notesP x.End2) = A1
      generalize placeP d x.sub_P = A2
      generalize noneP x.sub_P = A3
      generalize nameP d x.Name = A4
      generalize stmtsP d x.Body (deep + 1) = A7
      generalize stmtsP d x.Else (deep + 1) = A8
      constructor <;> intro h <;> simp_all
    · rw [core ⟨false, false, true, 1, 1⟩ (by rw [h]; rfl)]
      clear core
      refine congrArg some (dc_eq ?_)
      unfold stP cntP
      simp only [hl11, hl22, hl00, hl01]
      generalize (∀ e ∈ x.E, exP d e ∧ (x.Op = 2 → e.Op = 7)) = A6
      simp only [h, hdeep, Int.reduceEq, Int.reduceLE, Int.reduceLT, true_and, and_true, true_implies, false_implies, reduceCtorEq, or_false, false_or, or_true, true_or, not_true_eq_false, not_false_eq_true, ne_eq, imp_false]
      clear hl11 hl22 hl00 hl01 hdd h
      generalize (notesP x.Marks_Before ∧ notesP x.Marks_Trail ∧ notesP x.End ∧ notesP x.End2) = A1
      generalize placeP d x.sub_P = A2
      generalize noneP x.sub_P = A3
      generalize nameP d x.Name = A4
      generalize stmtsP d x.Body (deep + 1) = A7
      generalize stmtsP d x.Else (deep + 1) = A8
      constructor <;> intro h <;> simp_all
    · rw [core ⟨false, false, true, 1, 1⟩ (by rw [h]; rfl)]
      clear core
      refine congrArg some (dc_eq ?_)
      unfold stP cntP
      simp only [hl11, hl22, hl00, hl01]
      generalize (∀ e ∈ x.E, exP d e ∧ (x.Op = 2 → e.Op = 7)) = A6
      simp only [h, hdeep, Int.reduceEq, Int.reduceLE, Int.reduceLT, true_and, and_true, true_implies, false_implies, reduceCtorEq, or_false, false_or, or_true, true_or, not_true_eq_false, not_false_eq_true, ne_eq, imp_false]
      clear hl11 hl22 hl00 hl01 hdd h
      generalize (notesP x.Marks_Before ∧ notesP x.Marks_Trail ∧ notesP x.End ∧ notesP x.End2) = A1
      generalize placeP d x.sub_P = A2
      generalize noneP x.sub_P = A3
      generalize nameP d x.Name = A4
      generalize stmtsP d x.Body (deep + 1) = A7
      generalize stmtsP d x.Else (deep + 1) = A8
      constructor <;> intro h <;> simp_all
    · rw [core ⟨false, false, true, 1, 1⟩ (by rw [h]; rfl)]
      clear core
      refine congrArg some (dc_eq ?_)
      unfold stP cntP
      simp only [hl11, hl22, hl00, hl01]
      generalize (∀ e ∈ x.E, exP d e ∧ (x.Op = 2 → e.Op = 7)) = A6
      simp only [h, hdeep, Int.reduceEq, Int.reduceLE, Int.reduceLT, true_and, and_true, true_implies, false_implies, reduceCtorEq, or_false, false_or, or_true, true_or, not_true_eq_false, not_false_eq_true, ne_eq, imp_false]
      clear hl11 hl22 hl00 hl01 hdd h
      generalize (notesP x.Marks_Before ∧ notesP x.Marks_Trail ∧ notesP x.End ∧ notesP x.End2) = A1
      generalize placeP d x.sub_P = A2
      generalize noneP x.sub_P = A3
      generalize nameP d x.Name = A4
      generalize stmtsP d x.Body (deep + 1) = A7
      generalize stmtsP d x.Else (deep + 1) = A8
      constructor <;> intro h <;> simp_all
    · rw [core ⟨false, true, true, 2, 2⟩ (by rw [h]; rfl)]
      clear core
      refine congrArg some (dc_eq ?_)
      unfold stP cntP
      simp only [hl11, hl22, hl00, hl01]
      generalize (∀ e ∈ x.E, exP d e ∧ (x.Op = 2 → e.Op = 7)) = A6
      simp only [h, hdeep, Int.reduceEq, Int.reduceLE, Int.reduceLT, true_and, and_true, true_implies, false_implies, reduceCtorEq, or_false, false_or, or_true, true_or, not_true_eq_false, not_false_eq_true, ne_eq, imp_false]
      clear hl11 hl22 hl00 hl01 hdd h
      generalize (notesP x.Marks_Before ∧ notesP x.Marks_Trail ∧ notesP x.End ∧ notesP x.End2) = A1
      generalize placeP d x.sub_P = A2
      generalize noneP x.sub_P = A3
      generalize nameP d x.Name = A4
      generalize stmtsP d x.Body (deep + 1) = A7
      generalize stmtsP d x.Else (deep + 1) = A8
      constructor <;> intro h <;> simp_all
    · rw [core ⟨true, false, false, 0, 0⟩ (by rw [h]; rfl)]
      clear core
      refine congrArg some (dc_eq ?_)
      unfold stP cntP
      simp only [hl11, hl22, hl00, hl01]
      generalize (∀ e ∈ x.E, exP d e ∧ (x.Op = 2 → e.Op = 7)) = A6
      simp only [h, hdeep, Int.reduceEq, Int.reduceLE, Int.reduceLT, true_and, and_true, true_implies, false_implies, reduceCtorEq, or_false, false_or, or_true, true_or, not_true_eq_false, not_false_eq_true, ne_eq, imp_false]
      clear hl11 hl22 hl00 hl01 hdd h
      generalize (notesP x.Marks_Before ∧ notesP x.Marks_Trail ∧ notesP x.End ∧ notesP x.End2) = A1
      generalize placeP d x.sub_P = A2
      generalize noneP x.sub_P = A3
      generalize nameP d x.Name = A4
      generalize stmtsP d x.Body (deep + 1) = A7
      generalize stmtsP d x.Else (deep + 1) = A8
      constructor <;> intro h <;> simp_all
    · rw [core ⟨false, false, false, 1, 1⟩ (by rw [h]; rfl)]
      clear core
      refine congrArg some (dc_eq ?_)
      unfold stP cntP
      simp only [hl11, hl22, hl00, hl01]
      generalize (∀ e ∈ x.E, exP d e ∧ (x.Op = 2 → e.Op = 7)) = A6
      simp only [h, hdeep, Int.reduceEq, Int.reduceLE, Int.reduceLT, true_and, and_true, true_implies, false_implies, reduceCtorEq, or_false, false_or, or_true, true_or, not_true_eq_false, not_false_eq_true, ne_eq, imp_false]
      clear hl11 hl22 hl00 hl01 hdd h
      generalize (notesP x.Marks_Before ∧ notesP x.Marks_Trail ∧ notesP x.End ∧ notesP x.End2) = A1
      generalize placeP d x.sub_P = A2
      generalize noneP x.sub_P = A3
      generalize nameP d x.Name = A4
      generalize stmtsP d x.Body (deep + 1) = A7
      generalize stmtsP d x.Else (deep + 1) = A8
      constructor <;> intro h <;> simp_all
    · rw [core ⟨false, false, false, 0, 1⟩ (by rw [h]; rfl)]
      clear core
      refine congrArg some (dc_eq ?_)
      unfold stP cntP
      simp only [hl11, hl22, hl00, hl01]
      generalize (∀ e ∈ x.E, exP d e ∧ (x.Op = 2 → e.Op = 7)) = A6
      simp only [h, hdeep, Int.reduceEq, Int.reduceLE, Int.reduceLT, true_and, and_true, true_implies, false_implies, reduceCtorEq, or_false, false_or, or_true, true_or, not_true_eq_false, not_false_eq_true, ne_eq, imp_false]
      clear hl11 hl22 hl00 hl01 hdd h
      generalize (notesP x.Marks_Before ∧ notesP x.Marks_Trail ∧ notesP x.End ∧ notesP x.End2) = A1
      generalize placeP d x.sub_P = A2
      generalize noneP x.sub_P = A3
      generalize nameP d x.Name = A4
      generalize stmtsP d x.Body (deep + 1) = A7
      generalize stmtsP d x.Else (deep + 1) = A8
      constructor <;> intro h <;> simp_all
    · rw [dc_false (fun e => h e.2.2.1.1)]
      simp only [B_tree_checker_stmt, shape_none (K' + 4) x.Op h, Option.bind_some, Bool.not_false, Bool.true_or, if_true, reduceCtorEq, Bool.true_eq_false, if_false]
  · rw [dc_false (fun h => hdeep ((wfS_iff d x deep).1 h).1)]
    show B_tree_checker_stmt (FF hFam (K' + 5)) (K' + 5) { dialect := d } x deep = _
    have hdd : decide (deep > 48) = true := decide_eq_true (by omega)
    have hsh : ∃ sh b, (FF hFam (K' + 5)).f_tree_shapeOf (x.Op, ()) = some (sh, b, ()) := by
      have hcases : x.Op = 1 ∨ x.Op = 2 ∨ x.Op = 3 ∨ x.Op = 4 ∨ x.Op = 5 ∨ x.Op = 6 ∨ x.Op = 7 ∨ x.Op = 8 ∨ x.Op = 9 ∨ ¬ (1 ≤ x.Op ∧ x.Op ≤ 9) := by omega
      rcases hcases with h | h | h | h | h | h | h | h | h | h
      all_goals first | exact ⟨_, _, shape_none (K' + 4) x.Op h⟩ | (rw [h]; exact ⟨_, _, rfl⟩)
    obtain ⟨sh, b, hsh⟩ := hsh
    simp only [B_tree_checker_stmt, hsh, Option.bind_some, hdd, Bool.or_true, Bool.true_eq_false, if_false]
theorem cs_ok : ∀ K, csOK K := by
  intro K
  induction K using Nat.strongRecOn with
  | ind K ih =>
    refine ⟨fun d x deep hb hk h0 h1 => ?_, fun d l deep hb hk h0 h1 => ?_⟩
    · have := bk_Stmt_pos x
      obtain ⟨K', rfl⟩ : ∃ K', K = K' + 1 := ⟨K - 1, by omega⟩
      exact cstmt_step K' (ih K' (by omega)) d x deep hb (by omega) h0 h1
    · obtain ⟨K', rfl⟩ : ∃ K', K = K' + 4 := ⟨K - 4, by omega⟩
      exact cstmts_step K' (ih K' (by omega)) d l deep hb (by omega) h0 h1
end Go.Ev
end
section
open Go
namespace Go.Ev
open Go.Proofs.YtokkfbkbnocnoaaGreatDoor
set_option maxRecDepth 100000
set_option maxHeartbeats 8000000
set_option linter.unusedVariables false
set_option linter.unusedSimpArgs false
def rsOK (K : Nat) : Prop := (∀ (d : Int) (x : TStmt) (deep : Int), (d = 0 ∨ d = 1) → bk_TStmt x ≤ 1048576 → 5 * bk_TStmt x + 200 ≤ K → 0 ≤ deep → deep ≤ 49 → (FF hFam K).f_r07_Stmt (d, x, deep, ()) = some (dc (wfS d x deep))) ∧
  (∀ (d : Int) (l : List TStmt) (deep : Int), (d = 0 ∨ d = 1) → bks_TStmt l ≤ 1048576 → 5 * bks_TStmt l + 204 ≤ K → 0 ≤ deep → deep ≤ 49 → (FF hFam K).f_r07_Stmts (d, l, deep, ()) = some (dc (stmtsP d l deep)))
theorem rstmts_step (K : Nat) (hK : rsOK K) (d : Int) (hd : d = 0 ∨ d = 1) (l : List TStmt) (deep : Int) (hb : bks_TStmt l ≤ 1048576) (hk : 5 * bks_TStmt l + 200 ≤ K) (h0 : 0 ≤ deep) (h1 : deep ≤ 49) : (FF hFam (K + 1)).f_r07_Stmts (d, l, deep, ()) = some (dc (stmtsP d l deep)) := by
  have hlen := bks_Stmt_len l
  have hml : l.length ≤ maxLen := by simp only [maxLen]; omega
  have key : ∀ j i, i ≤ l.length → l.length - i < j → Lr07_Stmts_2 (FF hFam K) K d l deep j d l deep (i : Int) = some (dc ((∀ x ∈ l.drop i, wfS d x deep) ∧ l.length ≤ 512)) := by
    refine up_ind l.length (fun j => ?_) (fun j i hi ih => ?_)
    · simp only [Lr07_Stmts_2]
      rw [if_neg (by simp), List.drop_length, dec_dc]
      exact congrArg some (dc_eq (by simp; omega))
    · have hbi := bks_Stmt_mem l i hi
      simp only [Lr07_Stmts_2]
      rw [if_pos (lt_dec hi), if_pos (by omega), if_pos (by omega), wrap_succ hi hml, getD_at l i _ hi, TStmt.re_eq, ih, hK.1 d l[i] deep hd (by omega) (by omega) h0 h1]
      simp only [Option.bind_some, not_dc, ifn_dc, Classical.not_not]
      refine congrArg some (dc_eq ?_)
      rw [List.drop_eq_getElem_cons hi]
      simp only [List.mem_cons, forall_eq_or_imp, and_assoc]
  have := key K 0 (Nat.zero_le _) (by omega)
  simp only [Int.ofNat_zero, List.drop_zero] at this
  refine Eq.trans this (congrArg some (dc_eq ?_))
  unfold stmtsP
  rw [wfSs_iff]
theorem rstmt_loop (K : Nat) (d : Int) (hd : d = 0 ∨ d = 1) (E : List TExpr) (hb : bks_TExpr E ≤ 1048576) (hk : 3 * bks_TExpr E + 104 ≤ K) (deep op : Int) (R : Prop) (x1 : TStmt) (x2 po pn : Int) (mb mt e1 e2 : List ByteArray) (nm pnm pf : ByteArray) (pl : List TExpr) (down more : Bool) (body els : List TStmt)
    (hrest : ∀ j, Lr07_Stmt_14 (FF hFam K) K d x1 x2 (j + 1) d deep (E.length : Int) mb mt op nm po pn pnm pf pl E down more body els e1 e2 = some (dc R)) :
    ∀ j i, i ≤ E.length → E.length - i < j → Lr07_Stmt_14 (FF hFam K) K d x1 x2 j d deep (i : Int) mb mt op nm po pn pnm pf pl E down more body els e1 e2 = some (dc ((∀ e ∈ E.drop i, exP d e ∧ (op = 2 → e.Op = 7)) ∧ R)) := by
  have hlen := bks_Expr_len E
  have hml : E.length ≤ maxLen := by simp only [maxLen]; omega
  refine up_ind E.length (fun j => ?_) (fun j i hi ih => ?_)
  · rw [hrest, List.drop_length]
    exact congrArg some (dc_eq (by simp))
  · have hbi := bks_Expr_mem E i hi
    obtain ⟨K', rfl⟩ : ∃ K', K = K' + 1 := ⟨K - 1, by omega⟩
    rw [Lr07_Stmt_14]
    rw [if_pos (lt_dec hi), if_pos (by omega), if_pos (by omega), wrap_succ hi hml, getD_at E i _ hi, TExpr.re_eq, rExpr_ok K' d hd E[i] (by omega) (by omega), Option.bind_some, ih]
    have c2 : (0 : Int) ≤ (i : Int) := by omega
    have c3 : (i : Int) < (E.length : Int) := by omega
    simp only [c2, c3, if_true, int_dc, int_ndc, not_dc, Bool.false_or, Bool.true_and, ifn_dc]
    rw [List.drop_eq_getElem_cons hi]
    simp only [List.mem_cons, forall_eq_or_imp]
    by_cases he : exP d E[i]
    · rw [if_pos (dc_false (fun e => e he))]
      by_cases h2 : op = 2
      · rw [if_pos (dc_true h2)]
        refine congrArg some (dc_eq ?_)
        simp only [h2, he, true_implies, true_and, Classical.not_not, and_assoc]
      · rw [if_neg (by rw [dc_false h2]; simp)]
        refine congrArg some (dc_eq ?_)
        simp only [h2, he, false_implies, true_and, and_true]
    · rw [if_neg (by rw [dc_true (p := ¬ exP d E[i]) he]; simp), dc_false (fun e => he e.1.1.1)]
def rsP (d op : Int) (nm : ByteArray) (P : TExpr) (down more : Bool) (nb ne n1 n2 : Nat) (S1 S2 : Prop) : Prop :=
  (op = 1 ∨ op = 7 → placeP d P) ∧ (¬ (op = 1 ∨ op = 7) → noneP P) ∧ (op = 6 → nameP d nm) ∧ (op ≠ 6 → nm = eps ∧ down = false) ∧ (more = true → op = 3) ∧ (more = false → ne = 0 ∧ n2 = 0) ∧ ((op < 3 ∨ 6 < op) → nb = 0 ∧ n1 = 0) ∧ S1 ∧ S2
theorem rstmt_rest (K : Nat) (d deep op : Int) (S1 S2 : Prop) (x1 : TStmt) (x2 po pn : Int) (mb mt e1 e2 : List ByteArray) (nm pnm pf : ByteArray) (pl E : List TExpr) (down more : Bool) (body els : List TStmt)
    (hplace : (FF hFam K).f_r07_place (d, ⟨po, pn, pnm, pf, pl⟩, ()) = some (dc (placeP d ⟨po, pn, pnm, pf, pl⟩))) (hnone : (FF hFam K).f_r07_none (⟨po, pn, pnm, pf, pl⟩, ()) = some (dc (noneP ⟨po, pn, pnm, pf, pl⟩)))
    (hname : (FF hFam K).f_r07_Name (d, nm, ()) = some (dc (nameP d nm))) (hb : (FF hFam K).f_r07_Stmts (d, body, IntKind.i64.wrap (deep + 1), ()) = some (dc S1)) (he : (FF hFam K).f_r07_Stmts (d, els, IntKind.i64.wrap (deep + 1), ()) = some (dc S2)) (hop : 1 ≤ op ∧ op ≤ 9) :
    ∀ j, Lr07_Stmt_14 (FF hFam K) K d x1 x2 (j + 1) d deep (E.length : Int) mb mt op nm po pn pnm pf pl E down more body els e1 e2 = some (dc (rsP d op nm ⟨po, pn, pnm, pf, pl⟩ down more body.length els.length e1.length e2.length S1 S2)) := by
  intro j
  have hp1 := pos_dc body
  have hp2 := pos_dc els
  have hp3 := pos_dc e1
  have hp4 := pos_dc e2
  have hl : decide ((E.length : Int) < (E.length : Int)) = false := by simp
  rw [Lr07_Stmt_14]
  rw [if_neg (by rw [hl]; simp)]
  simp only [hplace, hnone, hname, hb, he, Option.bind_some, hp1, hp2, hp3, hp4, eps_dc, Bool.true_and, if_dc]
  unfold rsP
  generalize placeP d ⟨po, pn, pnm, pf, pl⟩ = A1
  generalize noneP ⟨po, pn, pnm, pf, pl⟩ = A2
  generalize nameP d nm = A3
  generalize (nm = eps) = A4
  generalize (body.length = 0) = N1
  generalize (els.length = 0) = N2
  generalize (e1.length = 0) = N3
  generalize (e2.length = 0) = N4
  clear hplace hnone hname hb he hp1 hp2 hp3 hp4 hl
  have hb1 : ∀ c : Int, (op == c) = decide (op = c) := fun c => rfl
  have hb2 : ∀ c : Int, (op != c) = !decide (op = c) := fun c => rfl
  simp only [hb1, hb2]
  clear hb1 hb2
  have hcases : op = 1 ∨ op = 2 ∨ op = 3 ∨ op = 4 ∨ op = 5 ∨ op = 6 ∨ op = 7 ∨ op = 8 ∨ op = 9 := by omega
  clear hop
  rcases hcases with h | h | h | h | h | h | h | h | h
  all_goals subst h
  all_goals cases more <;> cases down
  all_goals simp only [Int.reduceEq, Int.reduceGE, Int.reduceLE, Int.reduceLT, Int.reduceGT, ge_iff_le, gt_iff_lt, decide_true, decide_false, Bool.not_true, Bool.not_false, Bool.true_and, Bool.false_and, Bool.and_true, Bool.and_false, Bool.true_or, Bool.false_or, Bool.or_false, Bool.or_true, if_true, Bool.false_eq_true, if_false, reduceCtorEq, ite_self]
  all_goals try simp only [not_dc, and_dc, or_dc, if_dc, ifn_dc, iff_dc, Classical.not_not]
  all_goals first
    | (refine congrArg some (dc_eq ?_)
       simp only [true_implies, false_implies, true_and, and_true, not_or, Classical.not_and_iff_not_or_not, Classical.not_not, and_assoc, not_true_eq_false, not_false_eq_true, ne_eq, or_true, true_or, or_false, false_or, Int.reduceEq, Int.reduceNe, eq_self]
       try (constructor <;> intro h <;> simp_all)
       done)
    | (refine congrArg some (dc_false ?_).symm
       intro h
       simp_all)
theorem rstmt_step (K : Nat) (hK : rsOK K) (d : Int) (hd : d = 0 ∨ d = 1) (x : TStmt) (deep : Int) (hb : bk_TStmt x ≤ 1048576) (hk : 5 * bk_TStmt x + 199 ≤ K) (h0 : 0 ≤ deep) (h1 : deep ≤ 49) : (FF hFam (K + 1)).f_r07_Stmt (d, x, deep, ()) = some (dc (wfS d x deep)) := by
  have hn := bk_StmtN x
  obtain ⟨K', rfl⟩ : ∃ K', K = K' + 5 := ⟨K - 5, by omega⟩
  show B_r07_Stmt (FF hFam (K' + 5)) (K' + 5) d x deep = _
  by_cases hdeep : deep ≤ 48
  · have hmarks : (FF hFam (K' + 5)).f_r07_marks (x.sub_Marks, ()) = some (dc (notesP x.Marks_Before ∧ notesP x.Marks_Trail)) :=
      r07_marks_ok (K' + 1) x.sub_Marks (by show bks_v9 x.Marks_Before < _; omega) (by show bks_v9 x.Marks_Before ≤ _; omega) (by show bks_v9 x.Marks_Trail < _; omega) (by show bks_v9 x.Marks_Trail ≤ _; omega)
    have hend : (FF hFam (K' + 5)).f_r07_notes (x.End, ()) = some (dc (notesP x.End)) := r07_notes_ok (K' + 2) x.End (by omega) (by omega)
    have hend2 : (FF hFam (K' + 5)).f_r07_notes (x.End2, ()) = some (dc (notesP x.End2)) := r07_notes_ok (K' + 2) x.End2 (by omega) (by omega)
    have hw : IntKind.i64.wrap (deep + 1) = deep + 1 := wrap_ok (by omega) (by omega)
    rw [dc_eq (wfS_iff d x deep)]
    unfold B_r07_Stmt
    rw [hmarks, hend, hend2]
    have hdd : decide (deep > 48) = false := decide_eq_false (by omega)
    rw [hdd, if_pos rfl]
    simp only [Option.bind_some, not_dc, Bool.false_or]
    by_cases hop : 1 ≤ x.Op ∧ x.Op ≤ 9
    · have hl := bks_Expr_len x.E
      have hbody := hK.2 d x.Body (deep + 1) hd (by omega) (by omega) (by omega) (by omega)
      have hels := hK.2 d x.Else (deep + 1) hd (by omega) (by omega) (by omega) (by omega)
      rw [← hw] at hbody hels
      have hrest := rstmt_rest (K' + 5) d deep x.Op _ _ x deep x.P_Op x.P_N x.Marks_Before x.Marks_Trail x.End x.End2 x.Name x.P_Name x.P_Field x.P_L x.E x.Down x.More x.Body x.Else
        (rplace_ok (K' + 3) d hd x.sub_P (by omega) (by omega)) (rnone_ok (K' + 4) x.sub_P) (rname_ok (K' + 2) d x.Name (by omega) (by omega) (by simp only [maxLen]; omega)) hbody hels hop
      have hloop := rstmt_loop (K' + 5) d hd x.E (by omega) (by omega) deep x.Op _ x deep x.P_Op x.P_N x.Marks_Before x.Marks_Trail x.End x.End2 x.Name x.P_Name x.P_Field x.P_L x.Down x.More x.Body x.Else hrest (K' + 5) 0 (Nat.zero_le _) (by omega)
      simp only [Int.ofNat_zero, List.drop_zero] at hloop
      rw [hw] at hloop
      rw [hloop]
      have hc1 : (decide (x.Op < 1)) = false := decide_eq_false (by omega)
      have hc9 : (decide (x.Op > 9)) = false := decide_eq_false (by omega)
      rw [hc1, hc9]
      have hP : (⟨x.P_Op, x.P_N, x.P_Name, x.P_Field, x.P_L⟩ : TExpr) = x.sub_P := rfl
      rw [hP]
      have hb1 : ∀ c : Int, (x.Op == c) = decide (x.Op = c) := fun c => rfl
      simp only [hb1, Bool.or_false]
      have hl11 : (decide ((x.E.length : Int) < 1) || decide ((x.E.length : Int) > 1)) = dc (¬ x.E.length = 1) := by rw [dec_dc, dec_dc, or_dc]; exact dc_eq (by omega)
      have hl22 : (decide ((x.E.length : Int) < 2) || decide ((x.E.length : Int) > 2)) = dc (¬ x.E.length = 2) := by rw [dec_dc, dec_dc, or_dc]; exact dc_eq (by omega)
      have hl00 : (decide ((x.E.length : Int) < 0) || decide ((x.E.length : Int) > 0)) = dc (¬ x.E.length = 0) := by rw [dec_dc, dec_dc, or_dc]; exact dc_eq (by omega)
      have hl01 : (decide ((x.E.length : Int) < 0) || decide ((x.E.length : Int) > 1)) = dc (¬ x.E.length ≤ 1) := by rw [dec_dc, dec_dc, or_dc]; exact dc_eq (by omega)
      simp only [hl11, hl22, hl00, hl01]
      have hcnt : (if decide (x.Op = 6) = true then (if dc (¬ x.E.length = 2) = true then some false else some (dc ((∀ e ∈ x.E, exP d e ∧ (x.Op = 2 → e.Op = 7)) ∧ rsP d x.Op x.Name x.sub_P x.Down x.More x.Body.length x.Else.length x.End.length x.End2.length (stmtsP d x.Body (deep + 1)) (stmtsP d x.Else (deep + 1)))))
          else if decide (x.Op = 7) = true then (if dc (¬ x.E.length = 0) = true then some false else some (dc ((∀ e ∈ x.E, exP d e ∧ (x.Op = 2 → e.Op = 7)) ∧ rsP d x.Op x.Name x.sub_P x.Down x.More x.Body.length x.Else.length x.End.length x.End2.length (stmtsP d x.Body (deep + 1)) (stmtsP d x.Else (deep + 1)))))
          else if decide (x.Op = 9) = true then (if dc (¬ x.E.length ≤ 1) = true then some false else some (dc ((∀ e ∈ x.E, exP d e ∧ (x.Op = 2 → e.Op = 7)) ∧ rsP d x.Op x.Name x.sub_P x.Down x.More x.Body.length x.Else.length x.End.length x.End2.length (stmtsP d x.Body (deep + 1)) (stmtsP d x.Else (deep + 1)))))
          else (if dc (¬ x.E.length = 1) = true then some false else some (dc ((∀ e ∈ x.E, exP d e ∧ (x.Op = 2 → e.Op = 7)) ∧ rsP d x.Op x.Name x.sub_P x.Down x.More x.Body.length x.Else.length x.End.length x.End2.length (stmtsP d x.Body (deep + 1)) (stmtsP d x.Else (deep + 1)))))) =
          some (dc (cntP x.Op x.E.length ∧ (∀ e ∈ x.E, exP d e ∧ (x.Op = 2 → e.Op = 7)) ∧ rsP d x.Op x.Name x.sub_P x.Down x.More x.Body.length x.Else.length x.End.length x.End2.length (stmtsP d x.Body (deep + 1)) (stmtsP d x.Else (deep + 1)))) := by
        generalize ((∀ e ∈ x.E, exP d e ∧ (x.Op = 2 → e.Op = 7)) ∧ rsP d x.Op x.Name x.sub_P x.Down x.More x.Body.length x.Else.length x.End.length x.End2.length (stmtsP d x.Body (deep + 1)) (stmtsP d x.Else (deep + 1))) = A
        simp only [ifn_dc, Classical.not_not]
        unfold cntP
        by_cases h6 : x.Op = 6
        · rw [if_pos (by simpa using h6)]
          exact congrArg some (dc_eq (by simp [h6]))
        · rw [if_neg (by simpa using h6)]
          by_cases h7 : x.Op = 7
          · rw [if_pos (by simpa using h7)]
            exact congrArg some (dc_eq (by simp [h7]))
          · rw [if_neg (by simpa using h7)]
            by_cases h9 : x.Op = 9
            · rw [if_pos (by simpa using h9)]
              exact congrArg some (dc_eq (by simp [h9]))
            · rw [if_neg (by simpa using h9)]
              exact congrArg some (dc_eq (by simp [h6, h7, h9]))
      rw [hcnt]
      simp only [ifn_dc, iff_dc, Classical.not_not]
      refine congrArg some (dc_eq ?_)
      unfold stP rsP
      simp only [hdeep, hop, true_and, and_assoc]
    · have hc : (decide (x.Op < 1) || decide (x.Op > 9)) = true := by simp; omega
      refine Eq.trans ?_ (congrArg some (dc_false (fun e => hop e.2.2.1.1)).symm)
      simp only [Bool.or_assoc, hc, Bool.or_true, if_true, ite_self]
  · rw [dc_false (fun h => hdeep ((wfS_iff d x deep).1 h).1)]
    have hdd : decide (deep > 48) = true := decide_eq_true (by omega)
    unfold B_r07_Stmt
    rw [hdd, if_neg (by simp)]
theorem rs_ok : ∀ K, rsOK K := by
  intro K
  induction K using Nat.strongRecOn with
  | ind K ih =>
    refine ⟨fun d x deep hd hb hk h0 h1 => ?_, fun d l deep hd hb hk h0 h1 => ?_⟩
    · have := bk_Stmt_pos x
      obtain ⟨K', rfl⟩ : ∃ K', K = K' + 1 := ⟨K - 1, by omega⟩
      exact rstmt_step K' (ih K' (by omega)) d hd x deep hb (by omega) h0 h1
    · obtain ⟨K', rfl⟩ : ∃ K', K = K' + 1 := ⟨K - 1, by omega⟩
      exact rstmts_step K' (ih K' (by omega)) d hd l deep hb (by omega) h0 h1
end Go.Ev
end
section
open Go
namespace Go.Ev
open Go.Proofs.YtokkfbkbnocnoaaGreatDoor
set_option maxRecDepth 100000
set_option maxHeartbeats 8000000
set_option linter.unusedVariables false
set_option linter.unusedSimpArgs false
mutual
def wfR (d : Int) : TRoutine → Int → Prop
  | ⟨mb, mt, nm, res, ps, vs, inner, body, e⟩, deep => deep ≤ 48 ∧ (notesP mb ∧ notesP mt ∧ notesP e) ∧ rtP d nm ∧ (0 ≤ res ∧ res ≤ 3) ∧ paramsP d ps ∧ varsP d vs ∧ (d = 1 → inner.length = 0) ∧
    (wfRs d inner (deep + 1) ∧ inner.length ≤ 512 ∧ (inner.map (·.Name)).Nodup) ∧ stmtsP d body 1
def wfRs (d : Int) : List TRoutine → Int → Prop
  | [], _ => True
  | x :: r, deep => wfR d x deep ∧ wfRs d r deep
end
def routinesP (d : Int) (l : List TRoutine) (deep : Int) : Prop := wfRs d l deep ∧ l.length ≤ 512 ∧ (l.map (·.Name)).Nodup
theorem wfRs_iff {d deep : Int} : ∀ l : List TRoutine, wfRs d l deep ↔ ∀ x ∈ l, wfR d x deep
  | [] => by simp [wfRs]
  | x :: r => by simp only [wfRs, wfRs_iff r, List.mem_cons, forall_eq_or_imp]
theorem wfR_iff (d : Int) (x : TRoutine) (deep : Int) : wfR d x deep ↔ deep ≤ 48 ∧ (notesP x.Marks_Before ∧ notesP x.Marks_Trail ∧ notesP x.End) ∧ rtP d x.Name ∧ (0 ≤ x.Result ∧ x.Result ≤ 3) ∧ paramsP d x.Params ∧ varsP d x.Vars ∧ (d = 1 → x.Inner.length = 0) ∧
    routinesP d x.Inner (deep + 1) ∧ stmtsP d x.Body 1 := by
  cases x; simp only [wfR]; exact Iff.rfl
theorem bk_RoutineN (x : TRoutine) : bks_v9 x.Marks_Before + bks_v9 x.Marks_Trail + x.Name.size + bks_TParam x.Params + bks_TVar x.Vars + bks_TRoutine x.Inner + bks_TStmt x.Body + bks_v9 x.End + 9 ≤ bk_TRoutine x := by
  cases x; simp only [bk_TRoutine]; omega
def crOK (K : Nat) : Prop := (∀ (d : Int) (x : TRoutine) (deep : Int), (d = 0 ∨ d = 1) → bk_TRoutine x ≤ 1048576 → 5 * bk_TRoutine x + 300 ≤ K → 0 ≤ deep → deep ≤ 49 → (FF hFam K).f_tree_checker_routines_1 (x, deep, { dialect := d }, ()) = some (dc (¬ wfR d x deep))) ∧
  (∀ (d : Int) (l : List TRoutine) (deep : Int), (d = 0 ∨ d = 1) → bks_TRoutine l ≤ 1048576 → 5 * bks_TRoutine l + 304 ≤ K → 0 ≤ deep → deep ≤ 49 → (FF hFam K).f_tree_checker_routines ({ dialect := d }, l, deep, ()) = some (dc (routinesP d l deep)))
theorem L_IndexFunc_Routine (s : Fam) (k : Nat) (x : List TRoutine) (u : Unit × Int × Ttree_checker × Unit) : ∀ j v0 deep d v2 v3, Lslices_IndexFunc_Routine_2 s k x u j v0 deep d v2 v3 = idxG dd_TRoutine (fun v => s.f_tree_checker_routines_1 (v.re, deep, { dialect := d }, ())) j v0 v2 v3 := by
  intro j
  induction j with
  | zero => intros; rfl
  | succ j ih => intros; simp only [Lslices_IndexFunc_Routine_2, idxG, ih]
theorem nodup_dc (l : List ByteArray) : apartB [] l = dc l.Nodup := by
  cases h : apartB [] l with
  | true => rw [dc_true ((apartB_iff l).1 h)]
  | false => rw [dc_false (fun e => by rw [(apartB_iff l).2 e] at h; cases h)]
theorem croutines_step (K : Nat) (hK : crOK K) (d : Int) (hd : d = 0 ∨ d = 1) (l : List TRoutine) (deep : Int) (hb : bks_TRoutine l ≤ 1048576) (hk : 5 * bks_TRoutine l + 300 ≤ K) (h0 : 0 ≤ deep) (h1 : deep ≤ 49) : (FF hFam (K + 3)).f_tree_checker_routines ({ dialect := d }, l, deep, ()) = some (dc (routinesP d l deep)) := by
  have hlen := bks_Routine_len l
  have hml : l.length ≤ maxLen := by simp only [maxLen]; omega
  show B_tree_checker_routines (FF hFam (K + 2)) (K + 2) { dialect := d } l deep = _
  unfold B_tree_checker_routines
  have hfew : (FF hFam (K + 2)).f_tree_few_Routine (l, ()) = some (decide ((l.length : Int) ≤ 512)) := rfl
  have hap : (FF hFam (K + 2)).f_tree_apart (l, ()) = some (dc ((l.map (·.Name)).Nodup)) := by
    show (if l.all (fun r => decide (r.Name.size ≤ maxLen)) = true then some (apartB [] (l.map (·.Name))) else none) = _
    rw [if_pos, nodup_dc]
    rw [List.all_eq_true]
    intro r hr
    obtain ⟨i, hi, rfl⟩ := List.getElem_of_mem hr
    have := bks_Routine_mem l i hi
    have := bk_RoutineN l[i]
    show decide (l[i].Name.size ≤ maxLen) = true
    exact decide_eq_true (by simp only [maxLen]; omega)
  obtain ⟨c, h1', h2⟩ := idxG_ok dd_TRoutine (fun v => (FF hFam K).f_tree_checker_routines_1 (v.re, deep, { dialect := d }, ())) (fun x => wfR d x deep) l hml (fun i hi => by
    have := bks_Routine_mem l i hi
    show (FF hFam K).f_tree_checker_routines_1 (l[i].re, deep, { dialect := d }, ()) = _
    rw [TRoutine.re_eq, hK.1 d l[i] deep hd (by omega) (by omega) h0 h1]) K 0 (Nat.zero_le _) (by omega)
  simp only [Int.ofNat_zero, List.drop_zero] at h1' h2
  have hidx : (FF hFam (K + 1)).f_slices_IndexFunc_Routine (l, ((), deep, { dialect := d }, ()), ()) = some c := by
    show B_slices_IndexFunc_Routine (FF hFam K) K l ((), deep, { dialect := d }, ()) = _
    unfold B_slices_IndexFunc_Routine
    rw [L_IndexFunc_Routine]
    exact h1'
  have hcon : (FF hFam (K + 2)).f_slices_ContainsFunc_Routine (l, ((), deep, { dialect := d }, ()), ()) = some (dc (¬ ∀ x ∈ l, wfR d x deep)) := by
    show B_slices_ContainsFunc_Routine (FF hFam (K + 1)) (K + 1) l ((), deep, { dialect := d }, ()) = _
    unfold B_slices_ContainsFunc_Routine
    rw [hidx, Option.bind_some, has_ok h2]
  rw [hfew, hap, hcon]
  simp only [Option.bind_some, dec_dc, not_dc, Bool.true_and, if_dc, Classical.not_not]
  refine congrArg some (dc_eq ?_)
  unfold routinesP
  rw [wfRs_iff]
  constructor
  · rintro ⟨a, b, c⟩; exact ⟨c, by omega, b⟩
  · rintro ⟨c, a, b⟩; exact ⟨by omega, b, c⟩
theorem ifo_dc (p q : Prop) : (if dc p = false then some (dc q) else some Bool.true) = some (dc (p ∨ q)) := by
  by_cases h : p
  · rw [if_neg (by rw [dc_true h]; simp), dc_true (p := p ∨ q) (.inl h)]
  · rw [if_pos (dc_false h)]; exact congrArg some (dc_eq (by simp [h]))
theorem croutine_step (K : Nat) (hK : crOK K) (d : Int) (hd : d = 0 ∨ d = 1) (x : TRoutine) (deep : Int) (hb : bk_TRoutine x ≤ 1048576) (hk : 5 * bk_TRoutine x + 299 ≤ K) (h0 : 0 ≤ deep) (h1 : deep ≤ 49) : (FF hFam (K + 1)).f_tree_checker_routines_1 (x, deep, { dialect := d }, ()) = some (dc (¬ wfR d x deep)) := by
  have hn := bk_RoutineN x
  obtain ⟨K', rfl⟩ : ∃ K', K = K' + 8 := ⟨K - 8, by omega⟩
  show B_tree_checker_routines_1 (FF hFam (K' + 8)) (K' + 8) x deep { dialect := d } = _
  rw [dc_eq (not_congr (wfR_iff d x deep))]
  by_cases hdeep : deep ≤ 48
  · have hnotes : (FF hFam (K' + 8)).f_tree_notes ([x.Marks_Before, x.Marks_Trail, x.End], ()) = some (dc (notesP x.Marks_Before ∧ notesP x.Marks_Trail ∧ notesP x.End)) := by
      rw [tree_notes_ok (K' + 5) [x.Marks_Before, x.Marks_Trail, x.End] (by simp only [List.length_cons, List.length_nil]; omega) (by simp; omega) (by simp; omega) (by simp)]
      exact congrArg some (dc_eq three_notes)
    have hname := croutine_ok (K' + 4) d x.Name (by omega) (by simp only [maxLen]; omega)
    have hparams := cparams_ok (K' + 3) d x.Params (by omega) (by omega)
    have hvars := cvars_ok K' d x.Vars (by omega) (by omega)
    have hw : IntKind.i64.wrap (deep + 1) = deep + 1 := wrap_ok (by omega) (by omega)
    have hinner := hK.2 d x.Inner (deep + 1) hd (by omega) (by omega) (by omega) (by omega)
    have hbody := (cs_ok (K' + 8)).2 d x.Body 1 (by omega) (by omega) (by omega) (by omega)
    have hkind : (FF hFam (K' + 8)).f_tree_kind (x.Result, ()) = some (decide (x.Result ≥ 1) && decide (x.Result ≤ 3)) := rfl
    have hdd : decide (deep > 48) = false := decide_eq_false (by omega)
    have hin : (dc (¬ d = 0) && decide ((x.Inner.length : Int) > 0)) = dc (¬ (d = 1 → x.Inner.length = 0)) := by
      rw [pos_dc, and_dc]
      refine dc_eq ?_
      constructor
      · rintro ⟨a, b⟩ h; exact b (h (by omega))
      · intro h
        exact ⟨fun e => h (fun e' => absurd (e.symm.trans e') (by decide)), fun e => h (fun _ => e)⟩
    unfold B_tree_checker_routines_1
    simp only [hnotes, hname, hparams, hvars, hw, hinner, hbody, hkind, hdd, hin, Option.bind_some, Bool.false_or, Bool.true_and, int_ndc]
    have hres : (decide (x.Result ≥ 1) && decide (x.Result ≤ 3)) = dc (1 ≤ x.Result ∧ x.Result ≤ 3) := by rw [dec_dc, dec_dc, and_dc]
    rw [hres]
    have hri : (0 ≤ x.Result ∧ x.Result ≤ 3) ↔ (¬ x.Result = 0 → 1 ≤ x.Result ∧ x.Result ≤ 3) := by omega
    rw [hri]
    generalize (notesP x.Marks_Before ∧ notesP x.Marks_Trail ∧ notesP x.End) = A1
    generalize rtP d x.Name = A2
    generalize paramsP d x.Params = A3
    generalize varsP d x.Vars = A4
    generalize (d = 1 → x.Inner.length = 0) = A5
    generalize routinesP d x.Inner (deep + 1) = A6
    generalize stmtsP d x.Body 1 = A7
    generalize (1 ≤ x.Result ∧ x.Result ≤ 3) = A8
    generalize (x.Result = 0) = A9
    simp only [hin, not_dc, ifo_dc, if_true]
    by_cases g9 : A9
    · have e9 : dc (¬ A9) = false := dc_false (fun e => e g9)
      simp only [e9, Bool.false_eq_true, if_false, ifo_dc]
      refine congrArg some (dc_eq ?_)
      simp only [hdeep, g9, true_and, not_true_eq_false, false_implies, Classical.not_and_iff_not_or_not]
    · have e9 : dc (¬ A9) = true := dc_true g9
      simp only [e9, if_true, ifo_dc]
      refine congrArg some (dc_eq ?_)
      simp only [hdeep, g9, true_and, not_false_eq_true, true_implies, Classical.not_and_iff_not_or_not]
  · have hdd : decide (deep > 48) = true := decide_eq_true (by omega)
    unfold B_tree_checker_routines_1
    rw [hdd, if_neg (by simp), dc_true (fun e => hdeep e.1)]
theorem cr_ok : ∀ K, crOK K := by
  intro K
  induction K using Nat.strongRecOn with
  | ind K ih =>
    refine ⟨fun d x deep hd hb hk h0 h1 => ?_, fun d l deep hd hb hk h0 h1 => ?_⟩
    · have := bk_Routine_pos x
      obtain ⟨K', rfl⟩ : ∃ K', K = K' + 1 := ⟨K - 1, by omega⟩
      exact croutine_step K' (ih K' (by omega)) d hd x deep hb (by omega) h0 h1
    · obtain ⟨K', rfl⟩ : ∃ K', K = K' + 3 := ⟨K - 3, by omega⟩
      exact croutines_step K' (ih K' (by omega)) d hd l deep hb (by omega) h0 h1
end Go.Ev
end
section
open Go
namespace Go.Ev
open Go.Proofs.YtokkfbkbnocnoaaGreatDoor
set_option maxRecDepth 100000
set_option maxHeartbeats 8000000
set_option linter.unusedVariables false
set_option linter.unusedSimpArgs false
def rrOK (K : Nat) : Prop := ∀ (d : Int) (l : List TRoutine) (deep : Int), (d = 0 ∨ d = 1) → bks_TRoutine l ≤ 1048576 → 5 * bks_TRoutine l + 304 ≤ K → 0 ≤ deep → deep ≤ 49 → (FF hFam K).f_r07_routines (d, l, deep, ()) = some (dc (routinesP d l deep))
def newF (l : List TRoutine) (i : Nat) : Prop := ∀ m (hm : m < l.length), i ≤ m → ∀ k (hk : k < m), l[k].Name ≠ l[m].Name
theorem newF_zero (l : List TRoutine) : newF l 0 ↔ (l.map (·.Name)).Nodup := by
  unfold newF
  rw [List.nodup_iff_pairwise_ne, List.pairwise_iff_getElem]
  constructor
  · intro h i j hi hj hij
    simp only [List.length_map] at hi hj
    simp only [List.getElem_map]
    exact h j hj (Nat.zero_le _) i hij
  · intro h m hm _ k hk
    have := h k m (by simp only [List.length_map]; omega) (by simp only [List.length_map]; omega) hk
    simpa only [List.getElem_map] using this
theorem newF_succ (l : List TRoutine) (i : Nat) (hi : i < l.length) : newF l i ↔ (∀ k (hk : k < i), l[k].Name ≠ l[i].Name) ∧ newF l (i + 1) := by
  unfold newF
  constructor
  · intro h
    exact ⟨h i hi (Nat.le_refl _), fun m hm hm' => h m hm (by omega)⟩
  · rintro ⟨h1, h2⟩ m hm hm'
    rcases Nat.lt_or_ge i m with h | h
    · exact h2 m hm h
    · have : m = i := by omega
      subst this
      exact h1
theorem rr_ok : ∀ K, rrOK K
  | 0 => fun d l deep hd hb hk => by omega
  | K + 1 => fun d l deep hd hb hk h0 h1 => by
    have hK := rr_ok K
    have hlen := bks_Routine_len l
    have hml : l.length ≤ maxLen := by simp only [maxLen]; omega
    show B_r07_routines (FF hFam K) K d l deep = _
    unfold B_r07_routines
    obtain ⟨K', rfl⟩ : ∃ K', K = K' + 8 := ⟨K - 8, by omega⟩
    have key : ∀ j i, i ≤ l.length → l.length - i < j → Lr07_routines_2 (FF hFam (K' + 8)) (K' + 8) d l deep j d l deep (i : Int) = some (dc ((∀ x ∈ l.drop i, wfR d x deep) ∧ newF l i ∧ l.length ≤ 512)) := by
      refine up_ind l.length (fun j => ?_) (fun j i hi ih => ?_)
      · simp only [Lr07_routines_2]
        rw [if_neg (by simp), List.drop_length, dec_dc]
        refine congrArg some (dc_eq ?_)
        constructor
        · intro h; exact ⟨by simp, fun m hm hm' => by omega, by omega⟩
        · rintro ⟨_, _, h⟩; omega
      · have hbi := bks_Routine_mem l i hi
        have hn := bk_RoutineN l[i]
        have hdr := List.drop_eq_getElem_cons hi
        simp only [Lr07_routines_2]
        rw [if_pos (lt_dec hi), if_pos (by omega), if_pos (by omega), getD_at l i _ hi]
        by_cases hdeep : deep ≤ 48
        · have hmarks : (FF hFam (K' + 8)).f_r07_marks (l[i].sub_Marks, ()) = some (dc (notesP l[i].Marks_Before ∧ notesP l[i].Marks_Trail)) :=
            r07_marks_ok (K' + 4) l[i].sub_Marks (by show bks_v9 l[i].Marks_Before < _; omega) (by show bks_v9 l[i].Marks_Before ≤ _; omega) (by show bks_v9 l[i].Marks_Trail < _; omega) (by show bks_v9 l[i].Marks_Trail ≤ _; omega)
          have hend : (FF hFam (K' + 8)).f_r07_notes (l[i].End, ()) = some (dc (notesP l[i].End)) := r07_notes_ok (K' + 5) l[i].End (by omega) (by omega)
          have hname := rroutine_ok (K' + 4) d hd l[i].Name (by omega) (by omega)
          have hparams := rparams_ok (K' + 3) d hd l[i].Params (by omega) (by omega)
          have hvars := rvars_ok (K' + 3) d l[i].Vars (by omega) (by omega)
          have hw : IntKind.i64.wrap (deep + 1) = deep + 1 := wrap_ok (by omega) (by omega)
          have hinner := hK d l[i].Inner (deep + 1) hd (by omega) (by omega) (by omega) (by omega)
          have hbody := (rs_ok (K' + 8)).2 d l[i].Body 1 hd (by omega) (by omega) (by omega) (by omega)
          have hdd : decide (deep > 48) = false := decide_eq_false (by omega)
          have hin : (d == 1 && decide ((l[i].Inner.length : Int) > 0)) = dc (¬ (d = 1 → l[i].Inner.length = 0)) := by
            rw [pos_dc, int_dc, and_dc]
            refine dc_eq ?_
            constructor
            · rintro ⟨a, b⟩ h; exact b (h a)
            · intro h
              exact ⟨Classical.byContradiction fun e => h (fun e' => absurd e' e), fun e => h (fun _ => e)⟩
          -- the names ahead
          have ahead : ∀ j' k, k ≤ i → i - k < j' → ∀ (mb mt e : List ByteArray) (res : Int), Lr07_routines_8 (FF hFam (K' + 8)) (K' + 8) d l deep (Lr07_routines_2 (FF hFam (K' + 8)) (K' + 8) d l deep j) j' d l deep (i : Int) (k : Int) mb mt l[i].Name res l[i].Params l[i].Vars l[i].Inner l[i].Body e =
              some (dc ((∀ m (hm : m < i), k ≤ m → l[m].Name ≠ l[i].Name) ∧ (d = 1 → l[i].Inner.length = 0) ∧ paramsP d l[i].Params ∧ varsP d l[i].Vars ∧ routinesP d l[i].Inner (deep + 1) ∧ stmtsP d l[i].Body 1 ∧ ((∀ x ∈ l.drop (i + 1), wfR d x deep) ∧ newF l (i + 1) ∧ l.length ≤ 512))) := by
            refine up_ind i (fun j' mb mt e res => ?_) (fun j' k hk ihk mb mt e res => ?_)
            · simp only [Lr07_routines_8]
              have hlf : decide ((i : Int) < (i : Int)) = false := by simp
              rw [if_neg (by rw [hlf]; simp), hparams, hvars, hw, hinner, hbody, wrap_succ hi hml, ih, hin]
              simp only [Option.bind_some, not_dc, Bool.false_or, ifn_dc, iff_dc, Classical.not_not]
              refine congrArg some (dc_eq ?_)
              constructor
              · intro h; exact ⟨fun m hm hm' => by omega, h⟩
              · intro h; exact h.2
            · have hkl : k < l.length := by omega
              simp only [Lr07_routines_8]
              rw [if_pos (lt_dec hk), if_pos (by omega), if_pos (by omega), getD_at l k _ hkl, wrap_succ hk (by omega), ihk, ba_dc]
              simp only [ifn_dc]
              refine congrArg some (dc_eq ?_)
              constructor
              · rintro ⟨a, b, r⟩
                refine ⟨fun m hm hm' => ?_, r⟩
                rcases Nat.lt_or_ge k m with h | h
                · exact b m hm h
                · have : m = k := by omega
                  subst this; exact a
              · rintro ⟨b, r⟩
                exact ⟨b k hk (Nat.le_refl _), fun m hm hm' => b m hm (by omega), r⟩
          have ha := ahead (K' + 8) 0 (Nat.zero_le _) (by omega) l[i].Marks_Before l[i].Marks_Trail l[i].End l[i].Result
          simp only [Int.ofNat_zero] at ha
          rw [hdd, if_pos rfl, hmarks, hend, hname, ha]
          simp only [Option.bind_some, not_dc, Bool.false_or, dec_dc, or_dc, ifn_dc, iff_dc, Classical.not_not]
          refine congrArg some (dc_eq ?_)
          rw [hdr]
          simp only [List.mem_cons, forall_eq_or_imp]
          rw [wfR_iff, newF_succ l i hi]
          constructor
          · rintro ⟨⟨a1, a2⟩, a3, a4, a5, a6, a7, a8, a9, a10, a11, a12, a13⟩
            refine ⟨⟨⟨hdeep, ⟨a1, a2, a3⟩, ?_, ⟨?_, ?_⟩, a7, a8, a6, a9, a10⟩, a11⟩, ⟨fun k hk => a5 k hk (Nat.zero_le _), a12⟩, a13⟩
            · exact Classical.byContradiction fun e => a4 (.inl (.inl e))
            · exact Int.not_lt.1 fun e => a4 (.inl (.inr e))
            · exact Int.not_lt.1 fun e => a4 (.inr e)
          · rintro ⟨⟨⟨_, ⟨a1, a2, a3⟩, a4, ⟨a5, a5'⟩, a7, a8, a6, a9, a10⟩, a11⟩, ⟨b1, a12⟩, a13⟩
            refine ⟨⟨a1, a2⟩, a3, ?_, fun m hm _ => b1 m hm, a6, a7, a8, a9, a10, a11, a12, a13⟩
            rintro ((e | e) | e)
            · exact e a4
            · omega
            · omega
        · have hdd : decide (deep > 48) = true := decide_eq_true (by omega)
          rw [hdd, if_neg (by simp), dc_false]
          rintro ⟨h, _⟩
          rw [hdr] at h
          exact hdeep ((wfR_iff d _ deep).1 (h _ List.mem_cons_self)).1
    have := key (K' + 8) 0 (Nat.zero_le _) (by omega)
    simp only [Int.ofNat_zero, List.drop_zero] at this
    refine Eq.trans this (congrArg some (dc_eq ?_))
    unfold routinesP
    rw [wfRs_iff, newF_zero]
    constructor
    · rintro ⟨a, b, c⟩; exact ⟨a, c, b⟩
    · rintro ⟨a, c, b⟩; exact ⟨a, b, c⟩
end Go.Ev
end
section
open Go
namespace Go.Ev
open Go.Proofs.YtokkfbkbnocnoaaGreatDoor
set_option maxRecDepth 100000
set_option maxHeartbeats 8000000
set_option linter.unusedVariables false
set_option linter.unusedSimpArgs false
def fieldP (d : Int) (f : TField) : Prop := (notesP f.Marks_Before ∧ notesP f.Marks_Trail) ∧ nameP d f.Name ∧ (1 ≤ f.Kind ∧ f.Kind ≤ 3)
def recP (d : Int) (r : TRec) : Prop := (notesP r.Marks_Before ∧ notesP r.Marks_Trail ∧ notesP r.End) ∧ nameP d r.Name ∧ (r.Fields.length ≠ 0 ∧ r.Fields.length ≤ 512) ∧ ∀ f ∈ r.Fields, fieldP d f
def progP (d : Int) (p : TProgram) : Prop := nameP d p.Name ∧ (notesP p.Before ∧ notesP p.Mid ∧ notesP p.After ∧ notesP p.End) ∧ p.Recs.length ≤ 512 ∧ (∀ r ∈ p.Recs, recP d r) ∧ varsP d p.Vars ∧ routinesP d p.Routines 1 ∧ stmtsP d p.Body 1
theorem bk_FieldN (x : TField) : bks_v9 x.Marks_Before + bks_v9 x.Marks_Trail + x.Name.size + 4 ≤ bk_TField x := by cases x; simp only [bk_TField]; omega
theorem bk_RecN (x : TRec) : bks_v9 x.Marks_Before + bks_v9 x.Marks_Trail + x.Name.size + bks_TField x.Fields + bks_v9 x.End + 5 ≤ bk_TRec x := by cases x; simp only [bk_TRec]; omega
theorem bk_ProgramN (x : TProgram) : x.Name.size + bks_v9 x.Before + bks_v9 x.Mid + bks_v9 x.After + bks_TRec x.Recs + bks_TVar x.Vars + bks_TRoutine x.Routines + bks_TStmt x.Body + bks_v9 x.End + 9 ≤ bk_TProgram x := by cases x; simp only [bk_TProgram]; omega
theorem kind_ok (k : Nat) (n : Int) : (FF hFam (k + 1)).f_tree_kind (n, ()) = some (dc (1 ≤ n ∧ n ≤ 3)) := by
  show some (decide (n ≥ 1) && decide (n ≤ 3)) = _
  rw [dec_dc, dec_dc, and_dc]
theorem field_ok (k : Nat) (d : Int) (f : TField) (hk : bk_TField f + 10 < k) (hb : bk_TField f ≤ 1048576) : (FF hFam (k + 5)).f_tree_checker_rec_1 (f, { dialect := d }, ()) = some (dc (¬ fieldP d f)) := by
  have hv := bk_FieldN f
  show B_tree_checker_rec_1 (FF hFam (k + 4)) (k + 4) f { dialect := d } = _
  unfold B_tree_checker_rec_1
  rw [tree_notes_ok (k + 1) [f.Marks_Before, f.Marks_Trail] (by simp; omega) (by simp; omega) (by simp; omega) (by simp), cname_ok (k + 1) d f.Name (by omega) (by simp only [maxLen]; omega), kind_ok]
  simp only [Option.bind_some, not_dc, Bool.false_or, ifo_dc, two_notes]
  refine congrArg some (dc_eq ?_)
  unfold fieldP
  simp only [Classical.not_and_iff_not_or_not]
theorem L_IndexFunc_Field (s : Fam) (k : Nat) (x : List TField) (u : Unit × Ttree_checker × Unit) : ∀ j v0 d v2 v3, Lslices_IndexFunc_Field_2 s k x u j v0 d v2 v3 = idxG dd_TField (fun v => s.f_tree_checker_rec_1 (v, { dialect := d }, ())) j v0 v2 v3 := by
  intro j
  induction j with
  | zero => intros; rfl
  | succ j ih => intros; simp only [Lslices_IndexFunc_Field_2, idxG, ih]
theorem crec_ok (k : Nat) (d : Int) (r : TRec) (hk : bk_TRec r + 20 < k) (hb : bk_TRec r ≤ 1048576) : (FF hFam (k + 8)).f_tree_checker_rec ({ dialect := d }, r, ()) = some (dc (recP d r)) := by
  have hv := bk_RecN r
  have hlen := bks_Field_len r.Fields
  have hml : r.Fields.length ≤ maxLen := by simp only [maxLen]; omega
  show B_tree_checker_rec (FF hFam (k + 7)) (k + 7) { dialect := d } r = _
  unfold B_tree_checker_rec
  have hfew : (FF hFam (k + 7)).f_tree_few_Field (r.Fields, ()) = some (decide ((r.Fields.length : Int) ≤ 512)) := rfl
  obtain ⟨c, h1, h2⟩ := idxG_ok dd_TField (fun v => (FF hFam (k + 5)).f_tree_checker_rec_1 (v, { dialect := d }, ())) (fieldP d) r.Fields hml (fun i hi => by have := bks_Field_mem r.Fields i hi; exact field_ok k d r.Fields[i] (by omega) (by omega)) (k + 5) 0 (Nat.zero_le _) (by omega)
  simp only [Int.ofNat_zero, List.drop_zero] at h1 h2
  have hidx : (FF hFam (k + 6)).f_slices_IndexFunc_Field (r.Fields, ((), { dialect := d }, ()), ()) = some c := by
    show B_slices_IndexFunc_Field (FF hFam (k + 5)) (k + 5) r.Fields ((), { dialect := d }, ()) = _
    unfold B_slices_IndexFunc_Field
    rw [L_IndexFunc_Field]
    exact h1
  have hcon : (FF hFam (k + 7)).f_slices_ContainsFunc_Field (r.Fields, ((), { dialect := d }, ()), ()) = some (dc (¬ ∀ f ∈ r.Fields, fieldP d f)) := by
    show B_slices_ContainsFunc_Field (FF hFam (k + 6)) (k + 6) r.Fields ((), { dialect := d }, ()) = _
    unfold B_slices_ContainsFunc_Field
    rw [hidx, Option.bind_some, has_ok h2]
  rw [tree_notes_ok (k + 4) [r.Marks_Before, r.Marks_Trail, r.End] (by simp only [List.length_cons, List.length_nil]; omega) (by simp; omega) (by simp; omega) (by simp), cname_ok (k + 4) d r.Name (by omega) (by simp only [maxLen]; omega), hfew, hcon]
  simp only [Option.bind_some, pos_dc, dec_dc, and_dc, not_dc, Bool.true_and, if_dc, Classical.not_not, three_notes]
  refine congrArg some (dc_eq ?_)
  unfold recP
  constructor
  · rintro ⟨a, b, ⟨c1, c2⟩, e⟩; exact ⟨a, b, ⟨by omega, by omega⟩, e⟩
  · rintro ⟨a, b, ⟨c2, c1⟩, e⟩; exact ⟨a, b, ⟨by omega, by omega⟩, e⟩
theorem L_IndexFunc_Rec (s : Fam) (k : Nat) (x : List TRec) (u : Unit × Ttree_checker × Unit) : ∀ j v0 d v2 v3, Lslices_IndexFunc_Rec_2 s k x u j v0 d v2 v3 = idxG dd_TRec (fun v => s.f_tree_Check_1 (v, { dialect := d }, ())) j v0 v2 v3 := by
  intro j
  induction j with
  | zero => intros; rfl
  | succ j ih => intros; simp only [Lslices_IndexFunc_Rec_2, idxG, ih]
theorem tree_Check_ok (k : Nat) (d : Int) (hd : d = 0 ∨ d = 1) (p : TProgram) (hb : bk_TProgram p ≤ 1048576) (hk : 5 * bk_TProgram p + 400 ≤ k) : (FF hFam (k + 13)).f_tree_Check (d, p, ()) = some (if dc (progP d p) = true then 0 else 1) := by
  have hv := bk_ProgramN p
  have hlen := bks_Rec_len p.Recs
  have hml : p.Recs.length ≤ maxLen := by simp only [maxLen]; omega
  show B_tree_Check (FF hFam (k + 12)) (k + 12) d p = _
  unfold B_tree_Check
  have hc : (d != 0 && d != 1) = false := by rcases hd with rfl | rfl <;> rfl
  have hfew : (FF hFam (k + 12)).f_tree_few_Rec (p.Recs, ()) = some (decide ((p.Recs.length : Int) ≤ 512)) := rfl
  have hone : ∀ r : TRec, bk_TRec r ≤ bk_TProgram p → (FF hFam (k + 10)).f_tree_Check_1 (r, { dialect := d }, ()) = some (dc (¬ recP d r)) := fun r hr => by
    show B_tree_Check_1 (FF hFam (k + 9)) (k + 9) r { dialect := d } = _
    unfold B_tree_Check_1
    rw [crec_ok (k + 1) d r (by omega) (by omega), Option.bind_some, not_dc]
  obtain ⟨c, h1, h2⟩ := idxG_ok dd_TRec (fun v => (FF hFam (k + 10)).f_tree_Check_1 (v, { dialect := d }, ())) (recP d) p.Recs hml (fun i hi => by have := bks_Rec_mem p.Recs i hi; exact hone p.Recs[i] (by omega)) (k + 10) 0 (Nat.zero_le _) (by omega)
  simp only [Int.ofNat_zero, List.drop_zero] at h1 h2
  have hidx : (FF hFam (k + 11)).f_slices_IndexFunc_Rec (p.Recs, ((), { dialect := d }, ()), ()) = some c := by
    show B_slices_IndexFunc_Rec (FF hFam (k + 10)) (k + 10) p.Recs ((), { dialect := d }, ()) = _
    unfold B_slices_IndexFunc_Rec
    rw [L_IndexFunc_Rec]
    exact h1
  have hcon : (FF hFam (k + 12)).f_slices_ContainsFunc_Rec (p.Recs, ((), { dialect := d }, ()), ()) = some (dc (¬ ∀ r ∈ p.Recs, recP d r)) := by
    show B_slices_ContainsFunc_Rec (FF hFam (k + 11)) (k + 11) p.Recs ((), { dialect := d }, ()) = _
    unfold B_slices_ContainsFunc_Rec
    rw [hidx, Option.bind_some, has_ok h2]
  rw [hc, if_pos rfl, cname_ok (k + 9) d p.Name (by omega) (by simp only [maxLen]; omega), tree_notes_ok (k + 9) [p.Before, p.Mid, p.After, p.End] (by simp only [List.length_cons, List.length_nil]; omega) (by simp; omega) (by simp; omega) (by simp), hfew, hcon,
    cvars_ok (k + 4) d p.Vars (by omega) (by omega), (cr_ok (k + 12)).2 d p.Routines 1 hd (by omega) (by omega) (by omega) (by omega), (cs_ok (k + 12)).2 d p.Body 1 (by omega) (by omega) (by omega) (by omega)]
  simp only [Option.bind_some, dec_dc, not_dc, Bool.false_or, four_notes]
  have hl : ((p.Recs.length : Int) ≤ 512) = (p.Recs.length ≤ 512) := propext (by omega)
  rw [hl]
  unfold progP
  generalize nameP d p.Name = A1
  generalize (notesP p.Before ∧ notesP p.Mid ∧ notesP p.After ∧ notesP p.End) = A2
  generalize (p.Recs.length ≤ 512) = A3
  generalize (∀ r ∈ p.Recs, recP d r) = A4
  generalize varsP d p.Vars = A5
  generalize routinesP d p.Routines 1 = A6
  generalize stmtsP d p.Body 1 = A7
  have step : ∀ (A R : Prop), (if dc (¬ A) = false then some (if dc R = true then (0 : Int) else 1) else some 1) = some (if dc (A ∧ R) = true then (0 : Int) else 1) := by
    intro A R
    by_cases h : A
    · rw [if_pos (dc_false (fun e => e h)), dc_eq (show (A ∧ R) ↔ R from ⟨fun e => e.2, fun e => ⟨h, e⟩⟩)]
    · rw [if_neg (by rw [dc_true (p := ¬ A) h]; simp), if_neg (by rw [dc_false (p := A ∧ R) (fun e => h e.1)]; simp)]
  have stepn : ∀ (A R : Prop), (if dc A = false then some (if dc R = true then (0 : Int) else 1) else some 1) = some (if dc (¬ A ∧ R) = true then (0 : Int) else 1) := by
    intro A R
    rw [← step (¬ A) R, dc_eq (show ¬ ¬ A ↔ A from Classical.not_not)]
  have last : (if dc (¬ A7) = true then some (1 : Int) else some 0) = some (if dc A7 = true then (0 : Int) else 1) := by
    by_cases h : A7
    · rw [if_neg (by rw [dc_false (p := ¬ A7) (fun e => e h)]; simp), if_pos (dc_true h)]
    · rw [if_pos (dc_true h), if_neg (by rw [dc_false h]; simp)]
  rw [last]
  simp only [step, stepn, Classical.not_not]
theorem r07_Check_ok (k : Nat) (d : Int) (hd : d = 0 ∨ d = 1) (p : TProgram) (hb : bk_TProgram p ≤ 1048576) (hk : 5 * bk_TProgram p + 400 ≤ k) : (FF hFam (k + 13)).f_r07_Check (d, p, ()) = some (dc (progP d p)) := by
  have hv := bk_ProgramN p
  have hlen := bks_Rec_len p.Recs
  have hml : p.Recs.length ≤ maxLen := by simp only [maxLen]; omega
  show B_r07_Check (FF hFam (k + 12)) (k + 12) d p = _
  unfold B_r07_Check
  have hc : (d != 0 && d != 1) = false := by rcases hd with rfl | rfl <;> rfl
  have fields : ∀ (r4 : Int → Int → ByteArray → List ByteArray → List ByteArray → List ByteArray → List TRec → List TVar → List TRoutine → List TStmt → List ByteArray → Option (Bool)) (i : Int) (R : Prop) (fs : List TField), bks_TField fs ≤ bk_TProgram p →
      r4 d (IntKind.i64.wrap (i + 1)) p.Name p.Before p.Mid p.After p.Recs p.Vars p.Routines p.Body p.End = some (dc R) →
      ∀ j k', k' ≤ fs.length → fs.length - k' < j → ∀ (mb mt e : List ByteArray) (nm : ByteArray), Lr07_Check_10 (FF hFam (k + 12)) (k + 12) d p r4 j d i (k' : Int) p.Name p.Before p.Mid p.After p.Recs p.Vars p.Routines p.Body p.End mb mt nm fs e = some (dc ((∀ f ∈ fs.drop k', fieldP d f) ∧ R)) := by
    intro r4 i R fs hfs hr4
    have hfl := bks_Field_len fs
    refine up_ind fs.length (fun j mb mt e nm => ?_) (fun j k' hk' ihk mb mt e nm => ?_)
    · simp only [Lr07_Check_10]
      rw [if_neg (by simp), hr4, List.drop_length]
      exact congrArg some (dc_eq (by simp))
    · have hbf := bks_Field_mem fs k' hk'
      have hvf := bk_FieldN fs[k']
      simp only [Lr07_Check_10]
      rw [if_pos (lt_dec hk'), if_pos (by omega), if_pos (by omega), getD_at fs k' _ hk', wrap_succ hk' (by simp only [maxLen]; omega), ihk,
        r07_marks_ok (k + 8) fs[k'].sub_Marks (by show bks_v9 fs[k'].Marks_Before < _; omega) (by show bks_v9 fs[k'].Marks_Before ≤ _; omega) (by show bks_v9 fs[k'].Marks_Trail < _; omega) (by show bks_v9 fs[k'].Marks_Trail ≤ _; omega),
        rname_ok (k + 9) d fs[k'].Name (by omega) (by omega) (by simp only [maxLen]; omega)]
      simp only [Option.bind_some, not_dc, Bool.false_or, dec_dc, or_dc, ifn_dc, iff_dc, Classical.not_not]
      refine congrArg some (dc_eq ?_)
      rw [List.drop_eq_getElem_cons hk']
      simp only [List.mem_cons, forall_eq_or_imp]
      unfold fieldP
      constructor
      · rintro ⟨a, b, r⟩
        refine ⟨⟨⟨a, ?_, ?_, ?_⟩, r.1⟩, r.2⟩
        · exact Classical.byContradiction fun e => b (.inl (.inl e))
        · exact Int.not_lt.1 fun e => b (.inl (.inr e))
        · exact Int.not_lt.1 fun e => b (.inr e)
      · rintro ⟨⟨⟨a, b, c1, c2⟩, r1⟩, r2⟩
        refine ⟨a, ?_, r1, r2⟩
        rintro ((e | e) | e)
        · exact e b
        · omega
        · omega
  have key : ∀ j i, i ≤ p.Recs.length → p.Recs.length - i < j → Lr07_Check_4 (FF hFam (k + 12)) (k + 12) d p j d (i : Int) p.Name p.Before p.Mid p.After p.Recs p.Vars p.Routines p.Body p.End = some (dc ((∀ r ∈ p.Recs.drop i, recP d r) ∧ varsP d p.Vars ∧ routinesP d p.Routines 1 ∧ stmtsP d p.Body 1)) := by
    refine up_ind p.Recs.length (fun j => ?_) (fun j i hi ih => ?_)
    · simp only [Lr07_Check_4]
      rw [if_neg (by simp), rvars_ok (k + 7) d p.Vars (by omega) (by omega), rr_ok (k + 12) d p.Routines 1 hd (by omega) (by omega) (by omega) (by omega), (rs_ok (k + 12)).2 d p.Body 1 hd (by omega) (by omega) (by omega) (by omega), List.drop_length]
      simp only [Option.bind_some, Bool.true_and, if_dc]
      exact congrArg some (dc_eq (by simp))
    · have hbi := bks_Rec_mem p.Recs i hi
      have hvr := bk_RecN p.Recs[i]
      have hfl := bks_Field_len p.Recs[i].Fields
      simp only [Lr07_Check_4]
      have hf := fields (Lr07_Check_4 (FF hFam (k + 12)) (k + 12) d p j) (i : Int) _ p.Recs[i].Fields (by omega) (by rw [wrap_succ hi hml]; exact ih) (k + 12) 0 (Nat.zero_le _) (by omega) p.Recs[i].Marks_Before p.Recs[i].Marks_Trail p.Recs[i].End p.Recs[i].Name
      simp only [Int.ofNat_zero, List.drop_zero] at hf
      rw [if_pos (lt_dec hi), if_pos (by omega), if_pos (by omega), getD_at p.Recs i _ hi, hf,
        r07_marks_ok (k + 8) p.Recs[i].sub_Marks (by show bks_v9 p.Recs[i].Marks_Before < _; omega) (by show bks_v9 p.Recs[i].Marks_Before ≤ _; omega) (by show bks_v9 p.Recs[i].Marks_Trail < _; omega) (by show bks_v9 p.Recs[i].Marks_Trail ≤ _; omega),
        r07_notes_ok (k + 9) p.Recs[i].End (by omega) (by omega), rname_ok (k + 9) d p.Recs[i].Name (by omega) (by omega) (by simp only [maxLen]; omega)]
      simp only [Option.bind_some, not_dc, Bool.false_or, int_dc, dec_dc, or_dc, ifn_dc, iff_dc, Classical.not_not]
      refine congrArg some (dc_eq ?_)
      rw [List.drop_eq_getElem_cons hi]
      simp only [List.mem_cons, forall_eq_or_imp]
      unfold recP
      constructor
      · rintro ⟨⟨a1, a2⟩, a3, b, f, r⟩
        refine ⟨⟨⟨⟨a1, a2, a3⟩, ?_, ⟨?_, ?_⟩, f⟩, r.1⟩, r.2⟩
        · exact Classical.byContradiction fun e => b (.inl (.inl e))
        · exact fun e => b (.inl (.inr (by omega)))
        · exact Classical.byContradiction fun e => b (.inr (by omega))
      · rintro ⟨⟨⟨⟨a1, a2, a3⟩, b, ⟨c1, c2⟩, f⟩, r1⟩, r2⟩
        refine ⟨⟨a1, a2⟩, a3, ?_, f, r1, r2⟩
        rintro ((e | e) | e)
        · exact e b
        · omega
        · omega
  have hkey := key (k + 12) 0 (Nat.zero_le _) (by omega)
  simp only [Int.ofNat_zero, List.drop_zero] at hkey
  rw [hc, if_pos rfl, rname_ok (k + 9) d p.Name (by omega) (by omega) (by simp only [maxLen]; omega), r07_notes_ok (k + 9) p.Before (by omega) (by omega), r07_notes_ok (k + 9) p.Mid (by omega) (by omega), r07_notes_ok (k + 9) p.After (by omega) (by omega), r07_notes_ok (k + 9) p.End (by omega) (by omega), hkey]
  simp only [Option.bind_some, not_dc, Bool.false_or, dec_dc, or_dc, ifn_dc, iff_dc, Classical.not_not]
  refine congrArg some (dc_eq ?_)
  unfold progP
  constructor
  · rintro ⟨a, b1, b2, b3, c, r⟩
    exact ⟨a, ⟨b1, b2, b3, Classical.byContradiction fun e => c (.inl e)⟩, Classical.byContradiction fun e => c (.inr (by omega)), r⟩
  · rintro ⟨a, ⟨b1, b2, b3, b4⟩, c, r⟩
    refine ⟨a, b1, b2, b3, ?_, r⟩
    rintro (e | e)
    · exact e b4
    · omega
theorem TreeChecks_ok (k : Nat) (d : Int) (p : TProgram) (hb : bk_TProgram p ≤ 1048576) (hk : 5 * bk_TProgram p + 400 ≤ k) (aw : (FF hFam (k + 13)).f_w07_awake () = some true) : (FF hFam (k + 14)).f_w07_TreeChecks (d, p, ()) = some true := by
  show B_w07_TreeChecks (FF hFam (k + 13)) (k + 13) d p = _
  unfold B_w07_TreeChecks
  by_cases hd : d = 0 ∨ d = 1
  · rw [tree_Check_ok k d hd p hb hk, r07_Check_ok k d hd p hb hk, aw]
    cases dc (progP d p) <;> rfl
  · have hc : (d != 0 && d != 1) = true := by simp; omega
    have h1 : (FF hFam (k + 13)).f_tree_Check (d, p, ()) = some 1 := by
      show B_tree_Check (FF hFam (k + 12)) (k + 12) d p = _
      unfold B_tree_Check
      rw [hc]; rfl
    have h2 : (FF hFam (k + 13)).f_r07_Check (d, p, ()) = some false := by
      show B_r07_Check (FF hFam (k + 12)) (k + 12) d p = _
      unfold B_r07_Check
      rw [hc]; rfl
    rw [h1, h2, aw]
    rfl
end Go.Ev
end
section
open Go Go.Proofs
namespace Go.Ev
open Go.RowKit Go.Proofs.YtokkfbkbnocnoaaGreatDoor
set_option linter.unusedVariables false
set_option linter.unusedSimpArgs false
set_option maxHeartbeats 4000000
set_option maxRecDepth 100000
section
variable {H : Type} {enc : TypeId × Value → H} {W : World} {base : Nat} {spare : Nat → Bool} {held : Bool}
theorem read_progB {v : Value} {d : DataW H} {ps : List MemPlace} (h : DataW.Trod enc Tryz.prog W base spare held 28 v d ps) :
    ∃ (vs : Array Value) (x : TProgram), v = .agg vs ∧ ft_TProgram x ∧ bk_TProgram x ≤ Rows.uptoBulk d ∧ ARep EE (allS W) W (· ∈ ([] : List Nat)) W.heap.size v (c_TProgram.enc x) [] [] := by
  obtain ⟨vs, rfl, ds, h1, h2, h3, h4⟩ := read_anyB (t := 28) (l := [.str, .sl 9, .sl 9, .sl 9, .sl 59, .sl 98, .sl 103, .sl 107, .sl 9]) (ti := tyOfN 28) (by kernel_rfl) (by kernel_rfl) (by kernel_rfl) (by kernel_rfl) h
  obtain ⟨d0, ds, rfl, e0, h⟩ := List.map_eq_cons_iff.1 h2
  obtain ⟨d1, ds, rfl, e1, h⟩ := List.map_eq_cons_iff.1 h
  obtain ⟨d2, ds, rfl, e2, h⟩ := List.map_eq_cons_iff.1 h
  obtain ⟨d3, ds, rfl, e3, h⟩ := List.map_eq_cons_iff.1 h
  obtain ⟨d4, ds, rfl, e4, h⟩ := List.map_eq_cons_iff.1 h
  obtain ⟨d5, ds, rfl, e5, h⟩ := List.map_eq_cons_iff.1 h
  obtain ⟨d6, ds, rfl, e6, h⟩ := List.map_eq_cons_iff.1 h
  obtain ⟨d7, ds, rfl, e7, h⟩ := List.map_eq_cons_iff.1 h
  obtain ⟨d8, ds, rfl, e8, h⟩ := List.map_eq_cons_iff.1 h
  obtain rfl := List.map_eq_nil_iff.1 h
  obtain ⟨y0, rfl⟩ := kd_str e0
  obtain ⟨y1, rfl⟩ := kd_sl e1
  obtain ⟨y2, rfl⟩ := kd_sl e2
  obtain ⟨y3, rfl⟩ := kd_sl e3
  obtain ⟨y4, rfl⟩ := kd_sl e4
  obtain ⟨y5, rfl⟩ := kd_sl e5
  obtain ⟨y6, rfl⟩ := kd_sl e6
  obtain ⟨y7, rfl⟩ := kd_sl e7
  obtain ⟨y8, rfl⟩ := kd_sl e8
  refine ⟨vs, ⟨y0, y1, y2, y3, y4, y5, y6, y7, y8⟩, rfl, ?_, ?_, .agg vs _ [] [] h1.preps⟩
  · simp only [List.mem_cons, List.not_mem_nil, or_false, forall_eq_or_imp, forall_eq, QD] at h3
    simp only [ft_TProgram, fts_v9_iff, fts_TRec_iff, fts_TVar_iff, fts_TRoutine_iff, fts_TStmt_iff]
    exact h3
  · simp only [List.map_cons, List.map_nil, List.sum_cons, List.sum_nil, bkD] at h4
    have e9 : ∀ l : List ByteArray, (l.map (bkk 9)).sum = bks_v9 l := fun l => by rw [bks_v9_eq]; rfl
    have e59 : ∀ l : List TRec, (l.map (bkk 59)).sum = bks_TRec l := fun l => by rw [bks_TRec_eq]; rfl
    have e98 : ∀ l : List TVar, (l.map (bkk 98)).sum = bks_TVar l := fun l => by rw [bks_TVar_eq]; rfl
    have e103 : ∀ l : List TRoutine, (l.map (bkk 103)).sum = bks_TRoutine l := fun l => by rw [bks_TRoutine_eq]; rfl
    have e107 : ∀ l : List TStmt, (l.map (bkk 107)).sum = bks_TStmt l := fun l => by rw [bks_TStmt_eq]; rfl
    have f1 := e9 y1
    have f2 := e9 y2
    have f3 := e9 y3
    have f4 := e59 y4
    have f5 := e98 y5
    have f6 := e103 y6
    have f7 := e107 y7
    have f8 := e9 y8
    simp only [bk_TProgram]
    omega
theorem sp3 (s : Fam) : sp s 3 = ansOf c_w07_TreeChecks rc_w07_TreeChecks.enc s.f_w07_TreeChecks := by kernel_rfl
theorem treeChecks (n : Int) {v1 : Value} {d1 : DataW H} {p1 : List MemPlace} (h1 : DataW.Trod enc Tryz.prog W base spare held 28 v1 d1 p1) (hb : Rows.uptoBulk d1 ≤ 1048576) (hi : EE.inv W) :
    Calls Tryz.prog 3 #[.int .i64 n, v1] W fun e W' => e = .returned (.bool true) ∧ Below W.heap.size W W' := by
  obtain ⟨_, x, _, fx, bx, rx⟩ := read_progB h1
  refine call_law (s := FF hFam (5300000 + 14)) (by decide) (specs hand _) (avs := c_w07_TreeChecks.enc (n, x, ())) ?_ (.cons _ _ _ _ [] [] [] [] (.c _ _ _ _ (.d _ _ (.lit _ rfl))) (.cons _ _ _ _ [] [] [] [] rx .nil)) hi
  rw [sp3]
  exact ans_run _ _ _ (x := (n, x, ())) rfl (TreeChecks_ok 5300000 n x (by omega) (by omega) (awake_ok (5300000 + 1)))
end
end Go.Ev
end
section
set_option linter.unusedVariables false
namespace Go.Ev.treeChecks
open Go Go.Proofs Go.ChangeShapes Go.WideShapes Go.ChangeAt Go.RowKit Go.Proofs.YtokkfbkbnocnoaaGreatDoor
theorem own : ownKnob Tryz.prog.godebug = none := by kernel_rfl
theorem laidOut : laidOutB Tryz.prog = true := by kernel_rfl
theorem reads (os : Os) {H : Type} (enc : TypeId × Value → H) : ∃ places, DataW.whole enc Tryz.prog ((World.laidAll Tryz.prog os laidL).forCall (fun _ _ => 0) ⟨#[], #[.int .i64 0, .agg #[.string ⟨#[]⟩, .slice none 0 0, .slice none 0 0, .slice none 0 0, .slice none 0 0, .slice none 0 0, .slice none 0 0, .slice none 0 0, .slice none 0 0]], []⟩).memory Tryz.f3.params.toList Rows.treeChecksSpec.vars false #[Value.int .i64 0, .agg #[.string ⟨#[]⟩, .slice none 0 0, .slice none 0 0, .slice none 0 0, .slice none 0 0, .slice none 0 0, .slice none 0 0, .slice none 0 0, .slice none 0 0]].toList 8 = some ([.lit (.int .i64 0), .agg [.lit (.string []), .nil, .nil, .nil, .nil, .nil, .nil, .nil, .nil]], [], places) :=
  ⟨[], by kernel_rfl⟩
set_option maxRecDepth 100000 in
theorem lifted (os : Os) (started : os.Started) (H : Type) (enc : TypeId × Value → H) (F : Stop.Interp) :
    ReturnsInHanded {} Tryz.checked os 3 .any ((Rows.OpenSpec.upto Rows.treeChecksSpec).preRow enc Tryz.prog Tryz.f3 Rows.treeChecksUptoRow.domain false Rows.treeChecksUptoRow.laid) (((Rows.OpenSpec.upto Rows.treeChecksSpec).at F).post enc Tryz.prog Tryz.f3 false true false false) := by
  obtain ⟨places, hx⟩ := reads os enc
  refine returnsInHanded_of_row (C := Tryz.checked) (s := Rows.OpenSpec.upto Rows.treeChecksSpec) own started (by kernel_rfl) Tryz.func3
    ⟨World.laidAll Tryz.prog os laidL, fun _ _ => 0, ⟨#[], #[.int .i64 0, .agg #[.string ⟨#[]⟩, .slice none 0 0, .slice none 0 0, .slice none 0 0, .slice none 0 0, .slice none 0 0, .slice none 0 0, .slice none 0 0, .slice none 0 0]], []⟩, World.laidAll_os _ _ _, World.shaped_of_ZipB (by kernel_rfl) (by kernel_rfl), rfl, (Input.okWide_of_okWideB (by kernel_rfl)).2,
      OpenSpec.preRow_of_cond 8 hx (by kernel_rfl) (fun k hk => by cases hk; kernel_rfl) (by kernel_rfl) (by show laidMetH Tryz.prog laidL _; rw [MakeChecks.laidMetH_plain _ _ _ (by kernel_rfl)]; exact laidMet_laidAll _ (by kernel_rfl) (by kernel_rfl)), by
        simp only [Assume.holds]
        exact ⟨by simp, by simp, fun _ => Modest.zero, by simp, by simp⟩⟩ ?_
  intro W base args ds gs before hval hW _ hcond _ hlaid hsh _
  have hL : EE.inv W := of_laid hlaid hsh
  have hW' := hW
  obtain ⟨p, q, hA0, hV, rfl, hfz, hnd⟩ := hW
  have hA : DataW.TrodAll enc Tryz.prog W 0 (fun _ => true) true Tryz.f3.params.toList args.toList ds p := hA0
  rw [Tryz.params3] at hA hval
  obtain ⟨v0, vs0, d0, ds0, p0, q0, hargs, rfl, rfl, h0, r0⟩ := trodAll_cons hA
  obtain ⟨v1, vs1, d1, ds1, p1, q1, rfl, rfl, rfl, h1, r1⟩ := trodAll_cons r0
  obtain ⟨rfl, rfl, rfl⟩ := trodAll_nil r1
  obtain rfl : args = #[v0, v1] := by cases args; simp_all
  obtain ⟨rfl, rfl⟩ := trodVars_none hV
  have hbulk := hcond _ rfl
  simp only [Rows.uptoSmall, decide_eq_true_eq, List.append_nil, List.cons_append, List.nil_append, bulkAll_eq, List.map_cons, List.map_nil, List.sum_cons, List.sum_nil] at hbulk
  have lt0 : ∀ x ∈ p0, x.block < W.heap.size := by obtain ⟨m, hm⟩ := h0; exact DataW.trod_lt m _ _ _ hm
  have lt1 : ∀ x ∈ p1, x.block < W.heap.size := by obtain ⟨m, hm⟩ := h1; exact DataW.trod_lt m _ _ _ hm
  obtain ⟨n0, e0, _, _, _⟩ := open_int Tryz.underlying3 (hval 0 3 v0 rfl rfl) h0
  have hcall : Calls Tryz.prog 3 #[v0, v1] W fun e W' => e = .returned (.bool true) ∧ Below W.heap.size W W' := by
    rw [e0]
    exact Go.Ev.treeChecks n0 h1 (by omega) hL
  refine hcall.mono fun e W' ⟨he, bel⟩ => ?_
  subst he
  exact ⟨_, rfl, (⟨_, _, _, [], _, [], hW', trodAll_mk1 (shut_bool Tryz.underlying4 _), (trodAll_cons_mk (Below.trod laidOut (by kernel_rfl) (of_decide_eq_true (by kernel_rfl)) h0 bel lt0) (trodAll_cons_mk (Below.trod laidOut (by kernel_rfl) (of_decide_eq_true (by kernel_rfl)) h1 bel lt1) trodAll_mk0)), rfl, bel.frame _, fun h => by cases h⟩ : Rows.treeChecksSpec.post enc Tryz.prog Tryz.f3 false true false false W _ _ W')⟩
theorem over : Rows.TreeChecksUptoSaid :=
  OpenClaim.holds_of_cond 3 Tryz.f3 rfl rfl rfl rfl rfl rfl rfl ⟨rfl, rfl, rfl, rfl, rfl⟩ rfl rfl rfl rfl rfl (by kernel_rfl) Tryz.func3 (by kernel_rfl)
    (of_decide_eq_true (by kernel_rfl)) (by unfold Func.isWrapper; first | (rw [if_pos (by decide +kernel)]; kernel_rfl) | (rw [if_neg (by decide +kernel)]; exact ⟨rfl, rfl⟩))
    (fun os started H enc _ F => by rw [OpenClaim.pre_eq_preRow]; exact lifted os started H enc F)
theorem plain (f : FuncId) (fn : Func) (hf : Tryz.pinned.checked.prog.funcNamed "pantograph/pantographlaw07.TreeChecks" = some f) (hfn : Tryz.pinned.checked.prog.funcs[f]? = some fn) :
    false = Tryz.pinned.checked.prog.looks [] ∧ ∀ (j : Nat) t, fn.params[j]? = some t → Tryz.pinned.checked.prog.wantsStandIn t = false := by
  obtain rfl : f = 3 := Option.some.inj ((show Tryz.prog.funcNamed "pantograph/pantographlaw07.TreeChecks" = some 3 by kernel_rfl).symm.trans hf) |>.symm
  obtain rfl : fn = Tryz.f3 := (Option.some.inj (Tryz.func3.symm.trans hfn)).symm
  refine ⟨by kernel_rfl, fun j t ht => ?_⟩
  rw [Tryz.params3] at ht
  have hm : t ∈ [3, 28] := by simpa using Array.mem_of_getElem? ht
  have hall : ([3, 28].all fun u => !Tryz.prog.wantsStandIn u) = true := by kernel_rfl
  exact (show Tryz.prog.wantsStandIn t = false by simpa using List.all_eq_true.1 hall t hm)
theorem card : Rows.TreeChecksUptoCardSaid :=
  Claim7.holds_tied_plain_at .later [] _ _ _ _ over (fun _ h => by cases h) (by kernel_rfl) (fun _ h => by cases h) treeChecksUpto_row_tie rfl ⟨rfl, rfl⟩ (by kernel_rfl) rfl plain (by kernel_rfl)
end Go.Ev.treeChecks
namespace Go.Proofs.YtokkfbkbnocnoaaGreatDoor
theorem treeChecks_holds : Rows.TreeChecksUptoCardSaid := Go.Ev.treeChecks.card
end Go.Proofs.YtokkfbkbnocnoaaGreatDoor
end
