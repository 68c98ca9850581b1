/- LexCeeBlanks: tokens' own texts, with blanks between them, are these tokens again; plain. -/
import Derived.Test.YtidicpngmildkaaDoorUa
import Derived.Test.YtidicpngmildkaaDoorPr
import Derived.Test.YtidicpngmildkaaDoorY
set_option linter.unusedVariables false
set_option linter.unusedSimpArgs false
namespace Go.Proofs.YtidicpngmildkaaDoor.Pl
open Go.RowKit Go.Proofs.YtidicpngmildkaaDoorW.PrintWords Go.Proofs.YtidicpngmildkaaDoorW.PrintLast Go.Proofs.YtidicpngmildkaaDoorW.PrintMore Go.Proofs.YtidicpngmildkaaDoor.R Go.Proofs.YtidicpngmildkaaDoor.Tx Go.Proofs.YtidicpngmildkaaDoor.Fl Go.Proofs.YtidicpngmildkaaDoor.Y Go.Proofs.YtidicpngmildkaaDoor.Aw Go.Proofs.YtidicpngmildkaaDoor.V Go.Proofs.YtidicpngmildkaaDoor.Q Go.Proofs.YtidicpngmildkaaDoor.Pn Go.Proofs.YtidicpngmildkaaDoor.Fm
open Go.Proofs.YtidicpngmildkaaDoor.Wd (mem lst is_any)
/-! ### What tokens may be -/
def okKind (x : Bt) : Prop := (x.1 = 3 → 0 ≤ x.2.2 ∧ x.2.2 ≤ 9223372036854775807) ∧ (x.1 = 4 → 0 ≤ x.2.2 ∧ x.2.2 < 256) ∧ (x.1 = 6 → x.2.1.size ≤ 1024) ∧ 0 ≤ x.1 ∧ x.1 ≤ 6
theorem kind_ok (c : UInt8) (r : B) (hs : (c :: r).length ≤ 900000) (h0 : (fdL (c :: r)).e = 0) : okKind (bare (fdL (c :: r))) := by
  by_cases hp : openL.isPrefixOf (c :: r) = true
  · obtain ⟨r2, hr⟩ := note_open _ hp
    rw [hr] at hs h0 ⊢
    have hn := noteAt_L r2 (by simp at hs; omega)
    rw [fdL_note, hn] at h0 ⊢
    obtain ⟨_, a, e1, e2, e3⟩ := nrd_app [] r2.length r2 [] 2 (Nat.le_refl _) h0
    have := e3 (by simp)
    unfold bare
    rw [e1]
    exact ⟨fun h => absurd h (show ¬ (6 : Int) = 3 by decide), fun h => absurd h (show ¬ (6 : Int) = 4 by decide), fun _ => by show (mk a).size ≤ 1024; rw [mk_size]; exact this, show (0 : Int) ≤ 6 by decide, show (6 : Int) ≤ 6 by decide⟩
  · rw [fdL_cons c r hp] at h0 ⊢
    by_cases c1 : inC smallS c = true
    · rw [if_pos c1]
      unfold bare
      have hk := wordKind_12 (mem (lst 1) (mk ((c :: r).take (nameL (c :: r)).1)))
      have hk3 : wordKind (mem (lst 1) (mk ((c :: r).take (nameL (c :: r)).1))) = 1 ∨ wordKind (mem (lst 1) (mk ((c :: r).take (nameL (c :: r)).1))) = 2 := hk
      refine ⟨fun h => ?_, fun h => ?_, fun h => ?_, ?_, ?_⟩
      · exfalso; have h : wordKind (mem (lst 1) (mk ((c :: r).take (nameL (c :: r)).1))) = 3 := h; omega
      · exfalso; have h : wordKind (mem (lst 1) (mk ((c :: r).take (nameL (c :: r)).1))) = 4 := h; omega
      · exfalso; have h : wordKind (mem (lst 1) (mk ((c :: r).take (nameL (c :: r)).1))) = 6 := h; omega
      · show 0 ≤ wordKind (mem (lst 1) (mk ((c :: r).take (nameL (c :: r)).1))); omega
      · show wordKind (mem (lst 1) (mk ((c :: r).take (nameL (c :: r)).1))) ≤ 6; omega
    · rw [if_neg c1] at h0 ⊢
      by_cases c2 : inC digSet c = true
      · rw [if_pos c2] at h0 ⊢
        obtain ⟨n0, n1, _⟩ := num_facts _ h0
        unfold bare
        exact ⟨fun _ => ⟨n0, n1⟩, fun h => absurd h (show ¬ (3 : Int) = 4 by decide), fun h => absurd h (show ¬ (3 : Int) = 6 by decide), show (0 : Int) ≤ 3 by decide, show (3 : Int) ≤ 6 by decide⟩
      · rw [if_neg c2] at h0 ⊢
        by_cases c3 : c.toNat = 39
        · rw [if_pos c3] at h0 ⊢
          cases hq : qtL (c :: r) with
          | none => rw [hq] at h0; exact absurd h0 (show ¬ (7 : Int) = 0 by decide)
          | some p =>
            obtain ⟨n, j⟩ := p
            obtain ⟨n0, n1, n2⟩ := qtL_range _ n j hq
            unfold bare
            exact ⟨fun h => absurd h (show ¬ (4 : Int) = 3 by decide), fun _ => ⟨n0, by show n < 256; omega⟩, fun h => absurd h (show ¬ (4 : Int) = 6 by decide), show (0 : Int) ≤ 4 by decide, show (4 : Int) ≤ 6 by decide⟩
        · rw [if_neg c3] at h0 ⊢
          cases hq : signsL.find? (fun t => t.data.toList.isPrefixOf (c :: r)) with
          | none => rw [hq] at h0; exact absurd h0 (show ¬ (5 : Int) = 0 by decide)
          | some t =>
            unfold bare
            exact ⟨fun h => absurd h (show ¬ (5 : Int) = 3 by decide), fun h => absurd h (show ¬ (5 : Int) = 4 by decide), fun h => absurd h (show ¬ (5 : Int) = 6 by decide), show (0 : Int) ≤ 5 by decide, show (5 : Int) ≤ 6 by decide⟩
/-- Of a text that has tokens: all but the last one have texts of their own, in all not much longer than it. -/
theorem lexL_toks : ∀ (f : Nat) (u : B) (l : List Bt), u.length ≤ 900000 → lexL f u = .ok l → ∃ l0, l = l0 ++ [endT] ∧ (∀ x ∈ l0, okTok x (textOf x) ∧ okKind x) ∧ (l0.map (fun x => (textOf x).length)).sum ≤ 2 * u.length ∧ l0.length ≤ u.length := by
  intro f
  induction f with
  | zero => intro u l _ h; cases h
  | succ f ih =>
    intro u l hs h
    have hdw := dw_len u
    rw [lexL] at h
    by_cases hd : u.dropWhile blank = []
    · rw [if_pos hd] at h
      injection h with h
      exact ⟨[], h.symm, by simp, by simp, by simp⟩
    · rw [if_neg hd] at h
      by_cases h0 : (fdL (u.dropWhile blank)).e = 0
      · rw [if_pos h0] at h
        have hle := fdL_le _ hd (by omega) h0
        cases hr : lexL f ((u.dropWhile blank).drop (fdL (u.dropWhile blank)).k) with
        | bad c r => rw [hr] at h; cases h
        | ok l1 =>
          rw [hr] at h
          injection h with h
          obtain ⟨l0, e, e1, e2, e3⟩ := ih _ _ (by rw [List.length_drop]; omega) hr
          rw [List.length_drop] at e2 e3
          obtain ⟨c, r, hcr⟩ := List.exists_cons_of_ne_nil hd
          have htk := tok_ok c r (by rw [← hcr]; omega) (by rw [← hcr]; exact h0)
          have hkd := kind_ok c r (by rw [← hcr]; omega) (by rw [← hcr]; exact h0)
          rw [← hcr] at htk hkd
          obtain ⟨t1, t2, _, _⟩ := htk
          refine ⟨bare (fdL (u.dropWhile blank)) :: l0, by rw [← h, e]; rfl, ?_, ?_, ?_⟩
          · intro x hx
            rcases List.mem_cons.1 hx with rfl | hx
            · exact ⟨t1, hkd⟩
            · exact e1 x hx
          · simp only [List.map_cons, List.sum_cons]; omega
          · simp only [List.length_cons]; omega
      · rw [if_neg h0] at h; cases h
theorem print_1 (s : ByteArray) (hs : s.size ≤ 1024) (f : Nat) (hf : 2000 ≤ f) : pantographref02_Print.f f 1 s = some (nform 1 s) := by
  refine at_rounds (pantographref02_Print.mono 1 s) (show s.size + 2 ≤ f by omega) ?_
  have h := print_l0 1 (.inr rfl) s hs s.size 0 (s.size + 1) (nopen 1) (by omega) (by omega) (by have := nopen_len 1; omega)
  rw [List.drop_zero] at h
  unfold pantographref02_Print.f
  rw [if_neg (by omega)]
  simp only [Option.bind_some]
  rw [if_pos (by simp)]
  simp only [pantographref02_Print.j0]
  exact h
theorem rd_mid2 (l1 : List Tok) (t : Tok) (l2 : List Tok) : rd_T35 (l1 ++ t :: l2) (l1.length : Int) = t := by
  show (l1 ++ t :: l2).getD (l1.length : Int).toNat _ = t
  rw [Int.toNat_natCast]
  simp
/-! ### A token's text, as the document's function has it -/
theorem text_f (k : Int) (t : ByteArray) (n : Int) (sm : Bool) (a b c : Int) (h : okKind (k, t, n)) (f : Nat) (hf : 3000 ≤ f) : pantographref05_Text.f f 1 k t n sm a b c = some (mk (textOf (k, t, n))) := by
  obtain ⟨h3, h4, h6, hk0, hk6⟩ := h
  obtain ⟨f, rfl⟩ : ∃ g, f = g + 1 := ⟨f - 1, by omega⟩
  have hj : ∀ b' : Bool, (b' = decide (k = 1 ∨ k = 2 ∨ k = 5)) → pantographref05_Text.j0 (f + 1) 1 k b' k t n sm a b c = some (mk (textOf (k, t, n))) := by
    intro b' hb
    simp only [pantographref05_Text.j0]
    unfold textOf
    by_cases c1 : k = 1 ∨ k = 2 ∨ k = 5
    · rw [if_pos (by rw [hb]; simp [c1]), if_pos c1, mk_of]
    · rw [if_neg (by rw [hb]; simpa using c1), if_neg c1]
      by_cases c3 : k = 3
      · obtain ⟨n0, n1⟩ := h3 c3
        have n0' : 0 ≤ n := n0
        have := refdigits_f n (by omega) n1
        have := at_rounds (pantographref01_Digits.mono n) (show 40 ≤ f by omega) this
        rw [if_pos c3, if_pos c3, this]
        rfl
      · rw [if_neg c3, if_neg c3]
        by_cases c4 : k = 4
        · obtain ⟨n0, n1⟩ := h4 c4
          rw [if_pos c4, if_pos c4]
          unfold pantographref05_CharText.f
          rw [if_pos ⟨rfl, n0, n1⟩]
          rfl
        · rw [if_neg c4, if_neg c4]
          by_cases c6 : k = 6
          · have h6 := h6 c6
            rw [if_pos c6, if_pos c6]
            have := print_1 t h6 f (by omega)
            rw [this]
            rfl
          · rw [if_neg c6, if_neg c6]
            rfl
  unfold pantographref05_Text.f
  by_cases c1 : k = 1
  · rw [if_pos c1]; exact hj _ (by simp [c1])
  · rw [if_neg c1]
    by_cases c2 : k = 2
    · rw [if_pos c2]; exact hj _ (by simp [c2])
    · rw [if_neg c2]; exact hj _ (by rw [Bool.beq_eq_decide_eq, decide_eq_decide]; omega)
/-! ### Blanks -/
def five : List ByteArray := [⟨#[32]⟩, ⟨#[10]⟩, ⟨#[9]⟩, ⟨#[13]⟩, ⟨#[32, 32, 10, 32]⟩]
def blB (x1 : List Int) (j : Nat) : ByteArray := if j < x1.length then rdOf ByteArray.empty five (Int.tmod (rd x1 (j : Int)) 5) else ⟨#[32]⟩
theorem rd_in (x1 : List Int) (hx : ∀ x ∈ x1, 0 ≤ x) (j : Nat) (hj : j < x1.length) : 0 ≤ rd x1 (j : Int) := by
  unfold rd
  rw [Int.toNat_natCast]
  have : x1.getD j 0 = x1[j] := by simp [hj]
  rw [this]
  exact hx _ (List.getElem_mem hj)
theorem blB_ok (x1 : List Int) (hx : ∀ x ∈ x1, 0 ≤ x) (j : Nat) : (blB x1 j).data.toList ≠ [] ∧ (blB x1 j).data.toList.all blank = true ∧ (blB x1 j).size ≤ 4 := by
  unfold blB
  by_cases hj : j < x1.length
  · rw [if_pos hj]
    have h0 := rd_in x1 hx j hj
    generalize rd x1 (j : Int) = v at *
    have h1 : 0 ≤ Int.tmod v 5 := Int.tmod_nonneg 5 h0
    have h2 : Int.tmod v 5 < 5 := Int.tmod_lt_of_pos v (by decide)
    generalize Int.tmod v 5 = m at *
    obtain ⟨m, rfl⟩ := Int.eq_ofNat_of_zero_le h1
    have key : ∀ m : Fin 5, (rdOf ByteArray.empty five (m.1 : Int)).data.toList ≠ [] ∧ (rdOf ByteArray.empty five (m.1 : Int)).data.toList.all blank = true ∧ (rdOf ByteArray.empty five (m.1 : Int)).size ≤ 4 := by decide +kernel
    exact key ⟨m, by omega⟩
  · rw [if_neg hj]
    decide +kernel
/-- The text from a token on. -/
def catB (x1 : List Int) : Nat → List Tok → B
  | _, [] => []
  | j, t :: l => (blB x1 j).data.toList ++ textOf (bareT t) ++ catB x1 (j + 1) l
theorem blanks_l0 (x1 : List Int) (hx : ∀ x ∈ x1, 0 ≤ x) (L : List Tok) : ∀ (l2 l1 : List Tok) (T : B), l1 ++ l2 = L → L.length ≤ 100000 → (∀ t ∈ l2, okKind (bareT t)) → T.length + (catB x1 l1.length l2).length ≤ 1000000 →
    ∀ g, 3000 ≤ g → pantographlaw06_LexCeeBlanks.l0 (g + l2.length) x1 L (mk T) (l1.length : Int) = pantographlaw06_LexCeeBlanks.l0 g x1 L (mk (T ++ catB x1 l1.length l2)) (L.length : Int) := by
  intro l2
  induction l2 with
  | nil =>
    intro l1 T hL _ _ _ g _
    rw [List.append_nil] at hL
    subst hL
    rw [catB, List.append_nil]; rfl
  | cons t l ih =>
    intro l1 T hL hlen hok hT g hg
    have hrd := rd_mid2 l1 t l
    rw [hL] at hrd
    have hin : l1.length + 1 + l.length = L.length := by rw [← hL]; simp; omega
    have hk := hok t (List.mem_cons_self ..)
    have htx := text_f t.f0 t.f1 t.f2 t.f3 t.f4.f0 t.f4.f1 t.f4.f2 hk (g + l.length) (by omega)
    have hb := blB_ok x1 hx l1.length
    have hcat : (catB x1 l1.length (t :: l)).length = (blB x1 l1.length).size + (textOf (bareT t)).length + (catB x1 (l1.length + 1) l).length := by
      rw [catB, List.length_append, List.length_append, data_length]
    have hnext := ih (l1 ++ [t]) (T ++ ((blB x1 l1.length).data.toList ++ textOf (bareT t))) (by rw [List.append_assoc]; exact hL) hlen (fun q hq => hok q (List.mem_cons_of_mem _ hq)) (by
      rw [show (l1 ++ [t]).length = l1.length + 1 by simp, List.length_append, List.length_append, data_length]; omega) g hg
    rw [show (l1 ++ [t]).length = l1.length + 1 by simp] at hnext
    have hgoal : pantographlaw06_LexCeeBlanks.l0 (g + l.length) x1 L (mk T ++ blB x1 l1.length ++ mk (textOf (bareT t))) (wrap64 ((l1.length : Int) + 1)) = pantographlaw06_LexCeeBlanks.l0 g x1 L (mk (T ++ catB x1 l1.length (t :: l))) (L.length : Int) := by
      rw [show wrap64 ((l1.length : Int) + 1) = ((l1.length + 1 : Nat) : Int) by unfold wrap64; omega]
      have e1 : mk T ++ blB x1 l1.length ++ mk (textOf (bareT t)) = mk (T ++ ((blB x1 l1.length).data.toList ++ textOf (bareT t))) := by
        apply eq_mk
        rw [app_data, app_data, mk_data, mk_data, List.append_assoc]
      have e2 : T ++ catB x1 l1.length (t :: l) = T ++ ((blB x1 l1.length).data.toList ++ textOf (bareT t)) ++ catB x1 (l1.length + 1) l := by
        rw [catB]; simp [List.append_assoc]
      rw [e1, e2]
      exact hnext
    rw [List.length_cons, ← Nat.add_assoc]
    simp only [pantographlaw06_LexCeeBlanks.l0]
    rw [if_pos (by omega), hrd]
    have hmk : (mk T).size = T.length := mk_size T
    have hmk2 : (mk (textOf (bareT t))).size = (textOf (bareT t)).length := mk_size _
    by_cases hj : l1.length < x1.length
    · have hbl : blB x1 l1.length = rdOf ByteArray.empty five (Int.tmod (rd x1 (l1.length : Int)) 5) := by unfold blB; rw [if_pos hj]
      have h0 := rd_in x1 hx l1.length hj
      have h1 : 0 ≤ Int.tmod (rd x1 (l1.length : Int)) 5 := Int.tmod_nonneg 5 h0
      have h2 : Int.tmod (rd x1 (l1.length : Int)) 5 < 5 := Int.tmod_lt_of_pos _ (by decide)
      rw [if_pos (by omega), show ([(⟨#[32]⟩ : ByteArray), ⟨#[10]⟩, ⟨#[9]⟩, ⟨#[13]⟩, ⟨#[32, 32, 10, 32]⟩] : List ByteArray) = five from rfl, Option.bind_some]
      show (if 0 ≤ (l1.length : Int) then (if 0 ≤ Int.tmod (rd x1 (l1.length : Int)) 5 then (if Int.tmod (rd x1 (l1.length : Int)) 5 < ((five.length : Nat) : Int) then (if (mk T).size + (rdOf ByteArray.empty five (Int.tmod (rd x1 (l1.length : Int)) 5)).size ≤ 9223372036854775807 then _ else _) else _) else _) else _) = _
      rw [if_pos (by omega), if_pos h1, if_pos (by show _ < (5 : Int); exact h2), ← hbl, if_pos (by omega), htx, Option.bind_some]
      show (if (mk T).size + (blB x1 l1.length).size + (mk (textOf (bareT t))).size ≤ 9223372036854775807 then _ else _) = _
      rw [if_pos (by omega)]
      exact hgoal
    · have hbl : blB x1 l1.length = ⟨#[32]⟩ := by unfold blB; rw [if_neg hj]
      rw [hbl] at hgoal hb hcat
      rw [if_neg (by omega), if_pos (by omega), if_pos (by omega), htx, Option.bind_some]
      show (if (mk T).size + (⟨#[32]⟩ : ByteArray).size + (mk (textOf (bareT t))).size ≤ 9223372036854775807 then _ else _) = _
      rw [if_pos (by omega)]
      exact hgoal
/-- The pieces: a blank, a token, its text. -/
def pieces (x1 : List Int) : Nat → List Tok → List (B × Bt × B)
  | _, [] => []
  | j, t :: l => ((blB x1 j).data.toList, bareT t, textOf (bareT t)) :: pieces x1 (j + 1) l
theorem cat_flat (x1 : List Int) : ∀ (l : List Tok) (j : Nat), catB x1 j l = flat (pieces x1 j l)
  | [], _ => rfl
  | t :: l, j => by rw [catB, pieces, flat, cat_flat x1 l (j + 1)]
theorem cat_app (x1 : List Int) : ∀ (l m : List Tok) (j : Nat), catB x1 j (l ++ m) = catB x1 j l ++ catB x1 (j + l.length) m
  | [], m, j => by simp [catB]
  | t :: l, m, j => by
    rw [List.cons_append, catB, catB, cat_app x1 l m (j + 1), List.length_cons, ← Nat.add_assoc, Nat.add_right_comm]
    simp [List.append_assoc]
theorem pieces_map (x1 : List Int) : ∀ (l : List Tok) (j : Nat), (pieces x1 j l).map (fun p => p.2.1) = l.map bareT
  | [], _ => rfl
  | t :: l, j => by rw [pieces, List.map_cons, List.map_cons, pieces_map x1 l (j + 1)]
theorem pieces_len (x1 : List Int) : ∀ (l : List Tok) (j : Nat), (pieces x1 j l).length = l.length
  | [], _ => rfl
  | t :: l, j => by rw [pieces, List.length_cons, List.length_cons, pieces_len x1 l (j + 1)]
theorem pieces_ok (x1 : List Int) (hx : ∀ x ∈ x1, 0 ≤ x) : ∀ (l : List Tok) (j : Nat), (∀ t ∈ l, okTok (bareT t) (textOf (bareT t))) → okAll (pieces x1 j l)
  | [], _, _ => fun p hp => absurd hp (by simp [pieces])
  | t :: l, j, h => by
    intro p hp
    rw [pieces] at hp
    rcases List.mem_cons.1 hp with rfl | hp
    · exact ⟨(blB_ok x1 hx j).1, (blB_ok x1 hx j).2.1, h t (List.mem_cons_self ..)⟩
    · exact pieces_ok x1 hx l (j + 1) (fun q hq => h q (List.mem_cons_of_mem _ hq)) p hp
theorem cat_len (x1 : List Int) (hx : ∀ x ∈ x1, 0 ≤ x) : ∀ (l : List Tok) (j : Nat), (catB x1 j l).length ≤ 4 * l.length + ((l.map bareT).map (fun x => (textOf x).length)).sum
  | [], _ => by simp [catB]
  | t :: l, j => by
    have h1 := cat_len x1 hx l (j + 1)
    have h2 := (blB_ok x1 hx j).2.2
    rw [catB, List.length_append, List.length_append, data_length]
    simp only [List.map_cons, List.sum_cons, List.length_cons]
    omega
theorem blanks_true (s : ByteArray) (x1 : List Int) (hx : ∀ x ∈ x1, 0 ≤ x) : ∃ f, pantographlaw06_LexCeeBlanks.f f s x1 = some true := by
  refine ⟨200000, ?_⟩
  unfold pantographlaw06_LexCeeBlanks.f
  by_cases hs : (s.size : Int) > 3000
  · rw [if_pos hs, awake_true]; rfl
  · rw [if_neg hs]
    cases hr : lexL 4000 s.data.toList with
    | bad c r =>
      obtain ⟨e1, e2, e3⟩ := res_bad s (by omega) 4000 (by omega) c r hr
      rw [e1, Option.bind_some]
      dsimp only
      rw [if_neg e2, awake_true]
      rfl
    | ok bs =>
      obtain ⟨L, e1, eb, e3, e4⟩ := res_ok s (by omega) 4000 (by omega) bs hr
      obtain ⟨l0, el, hok, hsum, hlen⟩ := lexL_toks 4000 s.data.toList bs (by rw [data_length]; omega) hr
      rw [data_length] at hsum hlen
      rw [e1, Option.bind_some]
      dsimp only
      rw [if_pos rfl]
      rw [el] at eb
      obtain ⟨L1, L2, hL, hb1, hb2⟩ := List.map_eq_append_iff.1 eb
      obtain ⟨tE, hE, hbE⟩ : ∃ t, L2 = [t] ∧ bareT t = endT := by
        have hlen2 : L2.length = 1 := by have := congrArg List.length hb2; simpa using this
        obtain ⟨t, rfl⟩ := List.length_eq_one_iff.1 hlen2
        exact ⟨t, rfl, (List.cons.inj hb2).1⟩
      subst hE
      have hL1 : L1.length = l0.length := by rw [← hb1, List.length_map]
      have hLl : L.length = L1.length + 1 := by rw [hL]; simp
      have hokL : ∀ t ∈ L, okKind (bareT t) := by
        intro t ht
        rw [hL] at ht
        rcases List.mem_append.1 ht with ht | ht
        · exact (hok _ (by rw [← hb1]; exact List.mem_map_of_mem ht)).2
        · rw [List.mem_singleton.1 ht, hbE]
          exact ⟨fun h => absurd h (by decide), fun h => absurd h (by decide), fun h => absurd h (by decide), by decide, by decide⟩
      have hokT : ∀ t ∈ L1, okTok (bareT t) (textOf (bareT t)) := fun t ht => (hok _ (by rw [← hb1]; exact List.mem_map_of_mem ht)).1
      have hcl := cat_len x1 hx L1 0
      rw [hb1] at hcl
      have htE : textOf (bareT tE) = [] := by rw [hbE]; rfl
      have hcat : catB x1 0 L = catB x1 0 L1 ++ (blB x1 L1.length).data.toList := by
        rw [hL, cat_app, Nat.zero_add, catB, catB, htE, List.append_nil, List.append_nil]
      have hbE2 := blB_ok x1 hx L1.length
      have hcl2 : (catB x1 0 L).length ≤ 30000 := by rw [hcat, List.length_append, data_length]; omega
      have hl := blanks_l0 x1 hx L L [] [] rfl (by omega) hokL (by simp only [List.length_nil]; omega) (200000 - L.length) (by omega)
      rw [show 200000 - L.length + L.length = 200000 by omega] at hl
      rw [show (⟨#[]⟩ : ByteArray) = mk [] from rfl]
      show pantographlaw06_LexCeeBlanks.l0 200000 x1 L (mk []) ((([] : List Tok).length : Nat) : Int) = some true
      rw [hl, List.nil_append, List.length_nil]
      obtain ⟨g, hg⟩ : ∃ g, 200000 - L.length = g + 1 := ⟨200000 - L.length - 1, by omega⟩
      rw [hg]
      simp only [pantographlaw06_LexCeeBlanks.l0]
      rw [if_neg (by omega)]
      have hlx := lex_flat (blB x1 L1.length).data.toList hbE2.1 hbE2.2.1 (pieces x1 0 L1) 40000 (pieces_ok x1 hx L1 0 hokT) (by rw [pieces_len]; omega) (by rw [← cat_flat, ← hcat]; omega)
      rw [← cat_flat, ← hcat, pieces_map, hb1, ← el] at hlx
      obtain ⟨M, f1, f2, _, f4⟩ := res_ok (mk (catB x1 0 L)) (by rw [mk_size]; omega) 40000 (by rw [mk_size]; omega) bs (by rw [mk_data]; exact hlx)
      rw [f1, Option.bind_some]
      dsimp only
      rw [if_pos rfl]
      unfold pantographref05_Bare.f
      have hMl : M.length ≤ 1000000 := by rw [mk_size] at f4; omega
      have hsame : M.map bareS = L.map bareS := bareS_map M L (by rw [f2, el, ← eb])
      rw [if_pos (by omega), if_pos hMl, Option.bind_some, Option.bind_some, hsame, same_self _ (by rw [List.length_map]; omega) g (by rw [List.length_map]; omega), Option.bind_some, if_pos rfl, awake_true]
      rfl
end Go.Proofs.YtidicpngmildkaaDoor.Pl
