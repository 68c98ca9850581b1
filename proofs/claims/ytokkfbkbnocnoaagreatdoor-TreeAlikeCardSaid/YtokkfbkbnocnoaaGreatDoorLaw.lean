/- Proved here: the statement TreeAlike (to be the same goes both ways, and on from one to the next), for every input that its row lets in; conditions: those of the row, and none beside. -/
import Derived.Test.YtokkfbkbnocnoaaGreatDoorA3
import Derived.Test.YtokkfbkbnocnoaaGreatDoorRows
import Derived.Test.YtokkfbkbnocnoaaGreatDoorCards
import Derived.Test.YtokkfbkbnocnoaaGreatDoorTie
import Derived.ProofKit
import Derived.LaidMore
import Derived.SevenTiedAt
import Derived.Stop.Joined
import Derived.Lay
import Derived.WalkKit
import Derived.OpenShut
import Derived.ShutString
import Derived.ChangeOld
import Derived.Below
import Derived.SizedLaws
section
open Go Go.Proofs
namespace Go.Ev
open Go.RowKit Go.Proofs.YtokkfbkbnocnoaaGreatDoor Go.Proofs.YtokkfbkbnocnoaaGreatDoorW.PrintWords Go.Proofs.YtokkfbkbnocnoaaGreatDoorW.PrintLast Go.Proofs.YtokkfbkbnocnoaaGreatDoorW.PrintMore
set_option linter.unusedVariables false
set_option linter.unusedSimpArgs false
set_option maxHeartbeats 4000000
set_option maxRecDepth 100000
theorem ok_words_Is : SpecA Tryz.prog EE 66 (ansOf c_words_Is rc_words_Is.enc fun x => some (Wd.mem (Wd.lst x.1) x.2.1)) := by
  refine specA_by _ _ _ fun x y hy Sl w us fp rs hSl hargs hnd hlt hiv => ?_
  injection hy with hy
  subst hy
  obtain ⟨vs, rfl, h1⟩ := areps_lit hargs
  obtain ⟨vs', rfl, h2⟩ := areps_lit h1
  obtain ⟨rfl, rfl, rfl⟩ := areps_nil h2
  refine ⟨66, #[_, _], .inl ⟨by decide, rfl, rfl⟩, ⟨Tryz.f66, Tryz.func66, by kernel_rfl, by kernel_rfl⟩, ?_⟩
  exact (Wd.is_any x.1 x.2.1 w hiv.1).mono fun e w' ⟨he, hb⟩ => ⟨_, he, answers_lit hSl hb rfl⟩
theorem drep_lit {E : Env II} {Sl : Nat → Nat → Prop} {w : World} {v u : Value} (h : DRep E Sl w v (.lit u)) : v = u := by cases h; rfl
theorem ok_Clone : SpecA Tryz.prog EE 96 (ansOf c_slices_Clone_string rc_slices_Clone_string.enc fun x => if x.1.length * 16 ≤ 140737488355328 then some x.1 else none) := by
  refine specA_by _ _ _ fun x y hy Sl w us fp rs hSl hargs hnd hlt hiv => ?_
  obtain ⟨xs, _⟩ := x
  simp only at hy
  split at hy
  · rename_i hb
    injection hy with hy
    subst hy
    obtain ⟨v, vs, rfl, h1, h2⟩ := areps_d hargs
    obtain ⟨rfl, rfl, rfl⟩ := areps_nil h2
    refine ⟨96, #[_], .inl ⟨by decide, rfl, rfl⟩, ⟨Tryz.f96, Tryz.func96, by kernel_rfl, by kernel_rfl⟩, ?_⟩
    cases h1 with
    | sl _ _ A n c g o vals hn hcap hm hA hc hr =>
      have hn : xs.length = n := hn
      rcases Nat.eq_zero_or_pos n with rfl | hpos
      · have hxs : xs = [] := List.eq_nil_of_length_eq_zero hn
        subst hxs
        cases A with
        | none =>
          refine (Tryz.slices_Clone_string_nil 0 c w).mono fun e w' ⟨he, hw⟩ => ?_
          subst hw
          exact ⟨_, he, answers_row (t := 9) (xs := []) (vals := []) (ti := { size := 1, bytes := 16, zero := [.string ⟨#[]⟩], td := .string }) (by kernel_rfl) hSl (Below.refl _ _) ⟨rfl, .inl ⟨rfl, rfl⟩⟩ (fun i r j y hi => by simp at hi)⟩
        | some a =>
          refine (Tryz.slices_Clone_string_zero a c w).mono fun e w' ⟨u, he, ho, _, hb⟩ => ?_
          exact ⟨_, he, answers_row (t := 9) (xs := []) (vals := []) (ti := { size := 1, bytes := 16, zero := [.string ⟨#[]⟩], td := .string }) (by kernel_rfl) hSl hb ho (fun i r j y hi => by simp at hi)⟩
      · rw [hA hpos]
        have hcell : ∀ j, j < xs.length → w.cell? ⟨g, o + j, none⟩ = some (.string (xs.getD j ByteArray.empty)) := by
          intro j hj
          have hi : xs[j]? = some xs[j] := List.getElem?_eq_getElem hj
          have h3 := (hc j xs[j] 0 (.lit (.string xs[j])) hi rfl).1
          have h4 := hr j xs[j] 0 (.lit (.string xs[j])) hi rfl
          have h5 : (EE.row 9 xs[j]).length = 1 := rfl
          rw [h5, Nat.mul_one, Nat.add_zero] at h3 h4
          rw [h3, drep_lit h4, List.getD_eq_getElem?_getD, hi]; rfl
        refine (Tryz.slices_Clone_string g o n c xs w (by omega) (by omega) hcell).mono fun e w' ⟨u, he, ho, _, hb⟩ => ?_
        rw [← hn, List.take_length] at ho
        refine ⟨_, he, answers_row (E := EE) (w' := w') (u := u) (t := 9) (xs := xs) (vals := xs.map .string) (ti := { size := 1, bytes := 16, zero := [.string ⟨#[]⟩], td := .string }) (by kernel_rfl) hSl hb ho (fun i r j y hi hj => ?_)⟩
        have hj' : ([DV.lit (.string r)] : List (DV II))[j]? = some y := hj
        cases j with
        | zero =>
          simp at hj'
          subst hj'
          refine ⟨.string r, by simp [hi], fun Sl' _ => .lit _ rfl⟩
        | succ j => simp at hj'
  · cases hy
theorem ans_run {α β : Type} (c : CodL EE α) (conv : β → RV II) (F : α → Option β) {avs : List (AV II)} {x : α} {y : β} (h : c.dec avs = some x) (hF : F x = some y) : (ansOf c conv F avs).run = some (conv y) := by
  unfold ansOf
  rw [h]
  simp only [Tree.run, hF, Option.bind_some]
theorem drep_env {Sl : Nat → Nat → Prop} {w : World} {v : Value} {x : DV II} (h : DRep EE0 Sl w v x) : DRep EE Sl w v x := by
  induction h with
  | any v h => exact .any v h
  | lit v h => exact .lit v h
  | nils => exact .nils
  | sl t xs A n c g o vs hn hcap hm hA hcell _ ih => exact .sl t xs A n c g o vs hn hcap hm hA hcell ih
theorem drep_env' {Sl : Nat → Nat → Prop} {w : World} {v : Value} {x : DV II} (h : DRep EE Sl w v x) : DRep EE0 Sl w v x := by
  induction h with
  | any v h => exact .any v h
  | lit v h => exact .lit v h
  | nils => exact .nils
  | sl t xs A n c g o vs hn hcap hm hA hcell _ ih => exact .sl t xs A n c g o vs hn hcap hm hA hcell ih
theorem drep_len {Sl : Nat → Nat → Prop} {w : World} {v : Value} {t : Nat} {xs : List (II t)} (h : DRep EE Sl w v (.sl t xs)) : xs.length ≤ maxLen := by
  cases h with
  | sl _ _ A n c g o vals hn hcap hm hA hc hr => rw [hn]; exact hm
theorem find_drop (l : List TPair) (s : ByteArray) (hm : l.length ≤ maxLen) (s' : Fam) (k : Nat) (x0 : ByteArray) (x1 : List TPair) : ∀ j i, i ≤ l.length → l.length - i < j → Ltree_Rename_1_2 s' k x0 x1 j s l (l.length : Int) (i : Int) = some (match (l.drop i).find? (fun p => p.Old.toList == s.toList) with | some p => p.New | none => s) := by
  refine up_ind l.length (fun j => ?_) (fun j i hi ihj => ?_)
  · simp only [Ltree_Rename_1_2]
    rw [if_neg (by simp)]
    simp
  · have c1 : decide ((i : Int) < (l.length : Int)) = true := by simpa using hi
    have c2 : (0 : Int) ≤ (i : Int) := by omega
    have c3 : (i : Int) < (l.length : Int) := by omega
    simp only [Ltree_Rename_1_2, c1, c2, c3, if_true, getD_at l i _ hi, wrap_succ hi hm, ihj, decide_true]
    have hd : l.drop i = l[i] :: l.drop (i + 1) := (List.getElem_cons_drop hi).symm
    rw [hd, List.find?_cons]
    cases (l[i].Old.toList == s.toList) <;> rfl
theorem rename_1_ok (l : List TPair) (s : ByteArray) (hm : l.length ≤ maxLen) : B_tree_Rename_1 nilFam (l.length + 1) s l = some (match l.find? (fun p => p.Old.toList == s.toList) with | some p => p.New | none => s) := by
  have := find_drop l s hm nilFam (l.length + 1) s l (l.length + 1) 0 (Nat.zero_le _) (by omega)
  simp only [Int.ofNat_zero, List.drop_zero] at this
  exact this
theorem spec46 (k : Nat) : SpecA Tryz.prog EE 46 (ansOf c_tree_Rename_1 rc_tree_Rename_1.enc fun x => B_tree_Rename_1 nilFam k x.1 x.2.1) :=
  specA_of hEE (look_ok nil_ok) Tryz.func46 (by kernel_rfl) (by decide) c_tree_Rename_1 rc_tree_Rename_1.enc _ (fun x => e_tree_Rename_1 nilFam k x)
theorem keepX_mono {X X' : Nat → Prop} {B : Nat} {w w' : World} (h : KeepX X B w w') (hX : ∀ k, X k → X' k) : KeepX X' B w w' := ⟨h.os, h.tape, h.output, h.size, fun i hi hn => h.block i hi fun hx => hn (hX i hx)⟩
theorem ext_mono {Sl Sl' : Nat → Nat → Prop} {w w' : World} {fp fp' : List Nat} (h : Ext Sl Sl' w w' fp) (hs : ∀ k ∈ fp, k ∈ fp') : Ext Sl Sl' w w' fp' := ⟨h.s, fun g o hg => (h.n g o hg).imp id fun hx => ⟨hx.1.imp id (hs g), hx.2⟩, h.c⟩
theorem ren_calls {Sl : Nat → Nat → Prop} {w : World} {v : Value} {fp : List Nat} (l : List TPair) (s : ByteArray) (hSl : ∀ g o, Sl g o → g < w.heap.size) (h : EE.frep (Thing.ren l) Sl w v fp) (hk : ∀ k ∈ fp, k < w.heap.size ∧ ∀ j, ¬ Sl k j) (hiv : EE.inv w) :
    ∃ g args, Callee 1000003 [v, .string s] g args ∧ (∃ fn, Tryz.prog.funcs[g]? = some fn ∧ fn.body.isSome = true ∧ (fn.name == "runtime.NumGoroutine") = false) ∧ Calls Tryz.prog g args w fun e w' => ∃ u, e = .returned u ∧
      Answers EE Sl w fp [v] (.c (.d (.lit (.string (match l.find? (fun p => p.Old.toList == s.toList) with | some p => p.New | none => s)))), [.fd (Thing.ren l)]) u w' := by
  have h0 := h
  obtain ⟨g, sv, rfl, rfl, hb, hd⟩ := h
  have hd := drep_env hd
  have hcell : w.cell? ⟨g, 0, none⟩ = some sv := by simp [World.cell?, hb]
  obtain ⟨hg, hng⟩ := hk g (by simp)
  have hrp : PRep EE Sl w (· ∈ ([] : List Nat)) w.heap.size (.pointer (some ⟨g, 0, none⟩)) (.rp [.sl 39 l] 0) [] [] := PRep.rp (I := II) (E := EE) (Sl := Sl) ([.sl 39 l] : List (DV II)) 0 g 0 fun j y hj => by
    cases j with
    | zero => simp at hj; subst hj; exact ⟨sv, hcell, hd, .inl ⟨hg, by simp⟩⟩
    | succ j => simp at hj
  obtain ⟨g', args, hc, hfn, hcalls⟩ := spec46 (l.length + 1) (c_tree_Rename_1.enc (s, l, ())) _ (by
    exact ans_run _ _ _ (x := (s, l, ())) rfl (rename_1_ok l s (drep_len hd))) Sl w [.string s, .pointer (some ⟨g, 0, none⟩)] [] [] hSl
    (.cons _ _ _ _ [] [] [] [] (.c _ _ _ _ (.d _ _ (.lit _ rfl))) (.cons _ _ _ _ [] [] [] [] (.c _ _ _ _ hrp) .nil)) List.nodup_nil (fun k hk => by cases hk) hiv
  rcases hc with ⟨_, rfl, ha⟩ | ⟨hne, _⟩
  · refine ⟨46, args, .inr ⟨rfl, #[], #[.pointer (some ⟨g, 0, none⟩)], [.string s], rfl, by rw [ha]; rfl⟩, hfn, hcalls.mono fun e w' ⟨u, he, Sl', p1, p2, r1, r2, hkeep, hext, ha, hp, hnd, hlt⟩ => ⟨u, he, ?_⟩⟩
    obtain ⟨hu, rfl, rfl⟩ := arep_d ha
    cases hp
    have hnew : ∀ j, ¬ Sl' g j := fun j hj => by
      rcases hext.n g j hj with h1 | ⟨h1 | h1, _⟩
      · exact hng j h1
      · omega
      · cases h1
    have hsame : w'.heap[g]? = w.heap[g]? := hkeep.block g hg (by simp)
    refine ⟨Sl', [], [g], [], [.func (.func 46) #[] #[.pointer (some ⟨g, 0, none⟩)]], keepX_mono hkeep (by simp), ext_mono hext (by simp), .c _ _ _ _ (.d _ _ hu), ?_, by simp, fun k hk => ?_⟩
    · exact .cons _ _ _ _ [g] [] [_] [] (.fd _ _ [g] (EE.frame _ Sl Sl' w w' _ _ h0 hext.s hext.c (by simp [hsame])) rfl (fun k hk => by
        simp at hk; subst hk; exact ⟨Nat.lt_of_lt_of_le hg hkeep.size, hnew⟩)) .nil
    · simp at hk; subst hk; exact ⟨Nat.lt_of_lt_of_le hg hkeep.size, .inr (by simp)⟩
  · cases hne
open Go.Maps Go.ChangeMaps Go.WideMaps
theorem keyed9 : Go.Maps.Keyed Tryz.prog 9 := string_keyed Tryz.underlying9
theorem zero4 (w : World) : (zeroValue 4).run Tryz.prog w = .ok (.bool false) w := Tryz.zeroValue4 w
theorem key_ne {s t : ByteArray} (h : s ≠ t) : (Lit.string s.data.toList) ≠ Lit.string t.data.toList := by
  intro e
  injection e with e
  exact h (by apply ByteArray.ext; exact Array.toList_inj.1 e)
theorem map_lookup {w : World} {b n : Nat} {L : ByteArray → Bool} (h : MapAt w b n L) (s : ByteArray) (hs : s.size ≤ maxLen) : (Instr.lookup 73 (.map (some b)) (.string s) false).run Tryz.prog w = .ok (.bool (L s)) w := by
  obtain ⟨D, hD, hL⟩ := h
  obtain ⟨v, ps, hrun, hv⟩ := hD.lookup keyed9 Tryz.underlying73 (zero4 w) (plainElem_bool Tryz.underlying4 false) (keyOf_string_mk Tryz.underlying9 hs)
  rw [hL s hs] at hv
  rw [hrun]
  unfold plainElem at hv
  rw [Tryz.underlying4] at hv
  cases v <;> simp at hv
  rw [hv.1]
theorem map_put {w : World} {b n : Nat} {L : ByteArray → Bool} (h : MapAt w b n L) (hn : n < maxLen) (s : ByteArray) (hs : s.size ≤ maxLen) :
    ∃ w', (Instr.mapUpdate 73 (.map (some b)) (.string s) (.bool true)).run Tryz.prog w = .ok () w' ∧ MapAt w' b (n + 1) (fun x => decide (x = s) || L x) ∧ w.grownBy w' (some b) := by
  obtain ⟨D, hD, hL⟩ := h
  obtain ⟨w', hrun, hD', ht⟩ := hD.update keyed9 Tryz.underlying73 hn (keyOf_string_mk Tryz.underlying9 hs) (plainElem_bool Tryz.underlying4 true)
  have hm : Go.Maps.IsMap D := by obtain ⟨es, clock, _, _, _, rfl⟩ := hD; exact ⟨_, rfl⟩
  refine ⟨w', hrun, ⟨_, hD', fun x hx => ?_⟩, ht⟩
  by_cases e : x = s
  · subst e
    rw [Go.Maps.atKey_put_same hm (by simp [WideAt.IsKeyLit])]; simp
  · rw [Go.Maps.atKey_put_other (key_ne e), hL x hx]; simp [e]
theorem infoStr9 : (Tryz.prog.info? 9).map (fun i => (i.zero, i.size, i.bytes)) = some (some (.string ⟨#[]⟩), 1, 16) := by kernel_rfl
def NamesTo (w : World) (gm go : Nat) (sv : Value) (s : ByteArray) (l : List ByteArray) (e : Ending) (w' : World) : Prop := e = .returned (.string s) ∧ ∃ v1 n1, n1 ≤ l.length ∧ w'.os = w.os ∧ w'.tape = w.tape ∧ w'.output = w.output ∧ w.heap.size ≤ w'.heap.size ∧
  (∀ i, i < w.heap.size → i ≠ gm → i ≠ go → some i ≠ sv.ownBlock → w'.heap[i]? = w.heap[i]?) ∧ MapAt w' gm n1 (fun y => l.any fun z => z.toList == y.toList) ∧ w'.heap[go]? = some (.cells #[v1] 22 (0, 0)) ∧ w'.ownsRow 0 9 1 v1 l.length (l.map Value.string) ∧
  (v1.ownBlock = sv.ownBlock ∨ ∃ b, v1.ownBlock = some b ∧ w.heap.size ≤ b)
theorem names_in (w : World) (gs gm go n : Nat) (sv : Value) (l : List ByteArray) (s : ByteArray) (h1 : w.heap[gs]? = some (.cells #[.map (some gm)] 73 (0, 0))) (hM : MapAt w gm n (fun y => l.any fun z => z.toList == y.toList)) (hn : n ≤ l.length)
    (h3 : w.heap[go]? = some (.cells #[sv] 22 (0, 0))) (h4 : w.ownsRow 0 9 1 sv l.length (l.map Value.string)) (hs : s.size ≤ maxLen) (hin : (l.any fun z => z.toList == s.toList) = true) :
    Calls Tryz.prog 38 #[.string s, .pointer (some ⟨gs, 0, none⟩), .pointer (some ⟨go, 0, none⟩)] w fun e w' => NamesTo w gm go sv s l e w' := by
  have hlk := map_lookup hM s hs
  rw [hin] at hlk
  have c1 : w.cell? ⟨gs, 0, none⟩ = some (.map (some gm)) := by simp [World.cell?, h1]
  have c3 : w.cell? ⟨go, 0, none⟩ = some sv := by simp [World.cell?, h3]
  have H : Hid (NamesTo w gm go sv s l (.returned (.string s)) w) := Lib.hid ⟨rfl, sv, n, hn, rfl, rfl, rfl, Nat.le_refl _, fun _ _ _ _ _ => rfl, hM, h3, h4, .inl rfl⟩
  clear hM h1 h3 h4 hin
  go_enter Tryz.func38, Tryz.ntmps38
  go_wp2
  go_ret
  exact H.out
theorem cells1_set {w : World} {g t : Nat} {x y : Value} (h : w.heap[g]? = some (.cells #[x] t (0, 0))) : (w.setCell ⟨g, 0, none⟩ y).heap[g]? = some (.cells #[y] t (0, 0)) := by
  simp [World.setCell, Array.getElem?_modify, h]
theorem size_alloc (W : World) (o : Go.Obj) : (W.alloc o).heap.size = W.heap.size + 1 := by
  show (W.heap.push o).size = _
  rw [Array.size_push]
theorem owns_slice {w : World} {B e size n : Nat} {v : Value} {xs : List Value} (h : w.ownsRow B e size v n xs) : ∃ A c, v = .slice A n c := by
  obtain ⟨_, ⟨rfl, rfl⟩ | ⟨g, cap, cur, rfl, _⟩⟩ := h
  · exact ⟨none, 0, rfl⟩
  · exact ⟨_, cap, rfl⟩
theorem names_out (w : World) (gs gm go n : Nat) (sv : Value) (l : List ByteArray) (s : ByteArray) (h1 : w.heap[gs]? = some (.cells #[.map (some gm)] 73 (0, 0))) (hM : MapAt w gm n (fun y => l.any fun z => z.toList == y.toList)) (hn : n ≤ l.length)
    (h3 : w.heap[go]? = some (.cells #[sv] 22 (0, 0))) (h4 : w.ownsRow 0 9 1 sv l.length (l.map Value.string)) (hs : s.size ≤ maxLen) (hin : (l.any fun z => z.toList == s.toList) = false) (hlim : (l.length + 1) * 16 ≤ 140737488355328)
    (d1 : gs ≠ gm) (d2 : gs ≠ go) (d3 : gm ≠ go) (d4 : some gm ≠ sv.ownBlock) (d5 : some go ≠ sv.ownBlock) :
    Calls Tryz.prog 38 #[.string s, .pointer (some ⟨gs, 0, none⟩), .pointer (some ⟨go, 0, none⟩)] w fun e w' => NamesTo w gm go sv s (l ++ [s]) e w' := by
  have hlk := map_lookup hM s hs
  rw [hin] at hlk
  have c1 : w.cell? ⟨gs, 0, none⟩ = some (.map (some gm)) := by simp [World.cell?, h1]
  have hgs : gs < w.heap.size := (Array.getElem?_eq_some_iff.1 h1).1
  have hgo : go < w.heap.size := (Array.getElem?_eq_some_iff.1 h3).1
  obtain ⟨w5, hput, hM5, hg5⟩ := map_put hM (by simp [maxLen]; omega) s hs
  have b3 : w5.heap[go]? = some (.cells #[sv] 22 (0, 0)) := (hg5.block go hgo (fun e => d3 (Option.some.inj e).symm)).trans h3
  have c3 : w5.cell? ⟨go, 0, none⟩ = some sv := by simp [World.cell?, b3]
  have o5 : w5.ownsRow 0 9 1 sv l.length (l.map Value.string) := owns_same h4 fun k hk => by
    have hlt := (h4.lt (k := k) hk).2
    exact hg5.block k hlt fun e => d4 (e.symm.trans hk.symm)
  have O5 := Lib.hid o5
  have M5 := Lib.hid hM5
  have G5 := Lib.hid hg5
  have B3 := Lib.hid b3
  have H4 := Lib.hid h4
  have hgm : gm < w.heap.size := by obtain ⟨D, hD, _⟩ := hM; exact hD.lt
  clear hM h1 h3 h4 hin o5 hM5 hg5 b3
  go_enter Tryz.func38, Tryz.ntmps38
  go_wp2_with (first
    | ((with_reducible refine gate_builtin (b := .append) (xs := #[.tmp 11, .tmp 13]) rfl ?_); at_builtin; go_must ((refine print_append_cells (w0 := w5) 0 rfl (.tmp 11) (.tmp 13) 22 9 (.string ⟨#[]⟩) 1 16 rfl Tryz.underlying22 infoStr9 rfl (by decide) (by decide) sv l.length (l.map Value.string) [.string s] rfl rfl rfl (by simp; rfl) O5.out ⟨rfl, rfl, rfl, Nat.le_refl _, fun _ h => absurd h (Nat.not_lt_zero _)⟩ (Nat.zero_le _) hlim ?_)); go_must (intro v1 w9 ho9 hb hg hat; obtain ⟨A1, k1, rfl⟩ := owns_slice ho9; have O9 := Lib.hid ho9; have HG9 := Lib.hid hg; have HAT := Lib.hid hat; have b9 : w9.heap[go]? = some (.cells #[sv] 22 (0, 0)) := (hg.block go (Nat.lt_of_lt_of_le hgo G5.out.size) d5).trans B3.out; have c9 : w9.cell? ⟨go, 0, none⟩ = some sv := by { simp [World.cell?, b9] }; have f9 := Lib.frozen_of_heap b9 0; have B9 := Lib.hid b9; clear ho9 hb hg hat b9)))
  go_ret
  have hset : ∀ i, i ≠ go → (w9.setCell ⟨go, 0, none⟩ (.slice A1 (l.length + 1) k1)).heap[i]? = w9.heap[i]? := fun i hi => Below.heap_setCell _ _ _ i hi
  have hown : ∀ k, (Value.slice A1 (l.length + 1) k1).ownBlock = some k → k ≠ go := fun k hk e => by
    rcases HAT.out with h | ⟨b, h, hb⟩
    · exact d5 (by rw [← e, ← hk]; exact h)
    · have : b = k := Option.some.inj (h.symm.trans hk)
      have := G5.out.size
      omega
  have hne : some gm ≠ sv.ownBlock := d4
  refine ⟨rfl, _, n + 1, by simp; omega, ?_, ?_, ?_, ?_, fun i hi h1 h2 h3 => ?_, ?_, cells1_set B9.out, ?_, ?_⟩
  · exact HG9.out.os.trans G5.out.os
  · exact HG9.out.tape.trans G5.out.tape
  · exact HG9.out.output.trans G5.out.output
  · have h1 := G5.out.size
    have h2 := HG9.out.size
    simp only [World.setCell, Array.size_modify]
    omega
  · rw [hset i h2, HG9.out.block i (Nat.lt_of_lt_of_le hi G5.out.size) h3, G5.out.block i hi (fun e => h1 (Option.some.inj e))]
  · have := (M5.out.same (w' := w9) (HG9.out.block gm (Nat.lt_of_lt_of_le hgm G5.out.size) d4)).same (w' := w9.setCell ⟨go, 0, none⟩ (.slice A1 (l.length + 1) k1)) (hset gm d3)
    obtain ⟨D, h1, h2⟩ := this
    refine ⟨D, h1, fun x hx => (h2 x hx).trans ?_⟩
    have e : decide (x = s) = (s.toList == x.toList) := by
      rw [ba_dc]
      by_cases e : x = s
      · subst e; rw [dc_true rfl]; simp
      · rw [dc_false (fun e' => e e'.symm)]; simp [e]
    refine congrArg (fun b => DataW.lit (Lit.bool b)) ?_
    simp only [List.any_append, List.any_cons, List.any_nil, Bool.or_false]
    rw [e, Bool.or_comm]
  · have := owns_same (w' := w9.setCell ⟨go, 0, none⟩ (.slice A1 (l.length + 1) k1)) O9.out fun k hk => hset k (hown k hk)
    simpa using this
  · rcases HAT.out with h | ⟨b, h, hb⟩
    · exact .inl h
    · exact .inr ⟨b, h, Nat.le_trans G5.out.size hb⟩
theorem names_answers {Sl : Nat → Nat → Prop} {w w' : World} {gs gm go : Nat} {sv : Value} {n : Nat} {l l' : List ByteArray} {s : ByteArray} {e : Ending} (hSl : ∀ g o, Sl g o → g < w.heap.size)
    (h1 : w.heap[gs]? = some (.cells #[.map (some gm)] 73 (0, 0))) (hk : ∀ k ∈ gs :: gm :: go :: sv.ownBlock.toList, k < w.heap.size ∧ ∀ j, ¬ Sl k j) (hnd : (gs :: gm :: go :: sv.ownBlock.toList).Nodup) (h : NamesTo w gm go sv s l' e w') :
    ∃ u, e = .returned u ∧ Answers EE Sl w (gs :: gm :: go :: sv.ownBlock.toList) [.func (.func 38) #[] #[.pointer (some ⟨gs, 0, none⟩), .pointer (some ⟨go, 0, none⟩)]] (.c (.d (.lit (.string s))), [.fd (Thing.names l')]) u w' := by
  obtain ⟨rfl, v1, n1, hn1, e1, e2, e3, hsz, hkeep, hM, hgo, hown, hblk⟩ := h
  have hsvm : ∀ k, some k = sv.ownBlock ↔ k ∈ sv.ownBlock.toList := fun k => by cases sv.ownBlock <;> simp [eq_comm]
  simp only [List.nodup_cons, List.mem_cons, not_or] at hnd
  obtain ⟨⟨d1, d2, d3⟩, ⟨d4, d5⟩, d6, d7⟩ := hnd
  have kgs := hk gs (by simp)
  have kgm := hk gm (by simp)
  have kgo := hk go (by simp)
  have hsame : ∀ i, i < w.heap.size → ¬ i ∈ gs :: gm :: go :: sv.ownBlock.toList → w'.heap[i]? = w.heap[i]? := fun i hi hn => by
    simp only [List.mem_cons, not_or] at hn
    exact hkeep i hi hn.2.1 hn.2.2.1 fun e => hn.2.2.2 ((hsvm i).1 e)
  have hb : ∀ k, k ∈ v1.ownBlock.toList → k < w'.heap.size ∧ (∀ j, ¬ Sl k j) ∧ (k ∈ sv.ownBlock.toList ∨ w.heap.size ≤ k) := fun k hk' => by
    have hk' : v1.ownBlock = some k := by cases h : v1.ownBlock with
      | none => rw [h] at hk'; simp at hk'
      | some b => rw [h] at hk'; simp at hk'; rw [hk']
    have hlt := (hown.lt k hk').2
    rcases hblk with h | ⟨b, h, hb⟩
    · have hm := (hsvm k).1 (hk'.symm.trans h)
      exact ⟨hlt, (hk k (by simp [hm])).2, .inl hm⟩
    · have : b = k := Option.some.inj (h.symm.trans hk')
      subst this
      exact ⟨hlt, fun j hj => by have := hSl b j hj; omega, .inr hb⟩
  have hall : ∀ k ∈ gs :: gm :: go :: v1.ownBlock.toList, (k < w'.heap.size ∧ ∀ j, ¬ Sl k j) ∧ (w.heap.size ≤ k ∨ k ∈ gs :: gm :: go :: sv.ownBlock.toList) := fun k hk' => by
    simp only [List.mem_cons] at hk'
    rcases hk' with rfl | rfl | rfl | hk'
    · exact ⟨⟨Nat.lt_of_lt_of_le kgs.1 hsz, kgs.2⟩, .inr (by simp)⟩
    · exact ⟨⟨Nat.lt_of_lt_of_le kgm.1 hsz, kgm.2⟩, .inr (by simp)⟩
    · exact ⟨⟨Nat.lt_of_lt_of_le kgo.1 hsz, kgo.2⟩, .inr (by simp)⟩
    · obtain ⟨q1, q2, q3⟩ := hb k hk'
      exact ⟨⟨q1, q2⟩, q3.elim (fun h => .inr (by simp [h])) .inl⟩
  have hfrep : EE.frep (Thing.names l') Sl w' (.func (.func 38) #[] #[.pointer (some ⟨gs, 0, none⟩), .pointer (some ⟨go, 0, none⟩)]) (gs :: gm :: go :: v1.ownBlock.toList) :=
    ⟨gs, gm, go, v1, n1, rfl, rfl, hn1, (hkeep gs kgs.1 d1 d2 (fun e => d3 ((hsvm gs).1 e))).trans h1, hM, hgo, hown⟩
  have hnd' : (gs :: gm :: go :: v1.ownBlock.toList).Nodup := by
    have hno : ∀ k, k ∈ v1.ownBlock.toList → k ≠ gs ∧ k ≠ gm ∧ k ≠ go := fun k hk' => by
      obtain ⟨_, _, h | h⟩ := hb k hk'
      · exact ⟨fun e => d3 (e ▸ h), fun e => d5 (e ▸ h), fun e => d6 (e ▸ h)⟩
      · exact ⟨fun e => by omega, fun e => by omega, fun e => by omega⟩
    simp only [List.nodup_cons, List.mem_cons, not_or]
    refine ⟨⟨d1, d2, fun h => (hno _ h).1 rfl⟩, ⟨d4, fun h => (hno _ h).2.1 rfl⟩, fun h => (hno _ h).2.2 rfl, ?_⟩
    cases v1.ownBlock <;> simp
  refine ⟨_, rfl, Sl, [], gs :: gm :: go :: v1.ownBlock.toList, [], [.func (.func 38) #[] #[.pointer (some ⟨gs, 0, none⟩), .pointer (some ⟨go, 0, none⟩)]], ⟨e1, e2, e3, hsz, fun i hi hn => hsame i hi hn⟩,
    ⟨fun _ _ h => h, fun _ _ h => .inl h, fun g o u hs hu => (cell_same (hsame g (hSl g o hs) fun hm => (hk g hm).2 o hs)).trans hu⟩, .c _ _ _ _ (.d _ _ (.lit _ rfl)), ?_, by simpa using hnd', fun k hk' => ?_⟩
  · have := PReps.cons (E := EE) (Sl := Sl) (w := w') (X0 := fun _ => True) (B0 := 0) _ [] _ [] (gs :: gm :: go :: v1.ownBlock.toList) [] [_] [] (.fd _ _ _ hfrep rfl fun k hk' => (hall k hk').1) .nil
    simpa using this
  · have := hall k (by simpa using hk')
    exact ⟨this.1.1, this.2⟩
theorem arep_fd {Sl : Nat → Nat → Prop} {w : World} {X0 : Nat → Prop} {B0 : Nat} {v : Value} {th : Thing} {p : List Nat} {r : List Value} (h : ARep EE Sl w X0 B0 v (.c (.fd th)) p r) :
    EE.frep th Sl w v p ∧ v.oneCell' = true ∧ (∀ k ∈ p, k < w.heap.size ∧ ∀ j, ¬ Sl k j) ∧ r = [v] := by
  cases h with
  | c _ _ _ _ h => cases h with | fd _ _ _ h h1 hk => exact ⟨h, h1, hk, rfl⟩
theorem by_calls {Sl : Nat → Nat → Prop} {w : World} {v : Value} {th : Thing} {fp : List Nat} {s : ByteArray} {y : b_by} (hy : stepT (th, s, ()) = some y) (hSl : ∀ g o, Sl g o → g < w.heap.size) (hf : EE.frep th Sl w v fp) (hk : ∀ k ∈ fp, k < w.heap.size ∧ ∀ j, ¬ Sl k j) (hnd : fp.Nodup) (hiv : EE.inv w) :
    ∃ g args, Callee 1000003 [v, .string s] g args ∧ (∃ fn, Tryz.prog.funcs[g]? = some fn ∧ fn.body.isSome = true ∧ (fn.name == "runtime.NumGoroutine") = false) ∧ Calls Tryz.prog g args w fun e w' => ∃ u, e = .returned u ∧ Answers EE Sl w fp [v] (rc_by.enc y) u w' := by
  cases th with
  | ren l =>
    simp only [stepT, Option.some.injEq] at hy
    subst hy
    exact ren_calls l s hSl hf hk hiv
  | names l =>
    simp only [stepT] at hy
    split at hy
    · rename_i hs
      obtain ⟨gs, gm, go, sv, n, rfl, rfl, hn, h1, hM, h3, h4⟩ := hf
      have hnd0 := hnd
      simp only [List.nodup_cons, List.mem_cons, not_or] at hnd
      obtain ⟨⟨d1, d2, d3⟩, ⟨d4, d5⟩, d6, d7⟩ := hnd
      have hsvm : ∀ k, some k = sv.ownBlock → k ∈ sv.ownBlock.toList := fun k e => by rw [← e]; simp
      refine ⟨38, #[_, _, _], .inr ⟨rfl, #[], #[_, _], [.string s], rfl, rfl⟩, ⟨Tryz.f38, Tryz.func38, by kernel_rfl, by kernel_rfl⟩, ?_⟩
      split at hy
      · rename_i hin
        injection hy with hy
        subst hy
        exact (names_in w gs gm go n sv l s h1 hM hn h3 h4 hs hin).mono fun e w' h => names_answers (n := n) (l := l) hSl h1 hk hnd0 h
      · rename_i hin
        split at hy
        · rename_i hlim
          injection hy with hy
          subst hy
          exact (names_out w gs gm go n sv l s h1 hM hn h3 h4 hs (by simpa using hin) hlim d1 d2 d4 (fun e => d5 (hsvm _ e)) (fun e => d6 (hsvm _ e))).mono fun e w' h => names_answers (n := n) (l := l) hSl h1 hk hnd0 h
        · cases hy
    · cases hy
theorem ok_by : SpecA Tryz.prog EE 1000003 (ansOf c_by rc_by.enc stepT) := by
  refine specA_by _ _ _ fun x y hy Sl w us fp rs hSl hargs hnd hlt hiv => ?_
  obtain ⟨th, s, _⟩ := x
  obtain ⟨v, vs, p, q, r, t, rfl, rfl, rfl, h1, h2⟩ := areps_cons hargs
  obtain ⟨vs', rfl, h3⟩ := areps_lit h2
  obtain ⟨rfl, rfl, rfl⟩ := areps_nil h3
  obtain ⟨hf, _, hk, rfl⟩ := arep_fd h1
  simp only [List.append_nil] at hnd ⊢
  exact by_calls hy hSl hf hk hnd hiv
theorem dreps_of {Sl : Nat → Nat → Prop} {w : World} {X0 : Nat → Prop} {B0 : Nat} : ∀ {ds : List (DV II)} {us : List Value} {fp : List Nat} {rs : List Value}, PReps EE Sl w X0 B0 us (ds.map .d) fp rs → us.length = ds.length ∧ fp = [] ∧ rs = []
  | [], us, fp, rs, h => by cases h; exact ⟨rfl, rfl, rfl⟩
  | d :: ds, us, fp, rs, h => by
    cases h with
    | cons v vs x xs p q r t h hs =>
      cases h with
      | d =>
        obtain ⟨h1, rfl, rfl⟩ := dreps_of hs
        exact ⟨by simp [h1], rfl, rfl⟩
theorem dreps_move {Sl Sl' : Nat → Nat → Prop} {w w' : World} {X0 X0' : Nat → Prop} {B0 B0' : Nat} (hS : ∀ g o, Sl g o → Sl' g o) (hc : ∀ g o u, Sl g o → w.cell? ⟨g, o, none⟩ = some u → w'.cell? ⟨g, o, none⟩ = some u) :
    ∀ {ds : List (DV II)} {us : List Value} {fp : List Nat} {rs : List Value}, PReps EE Sl w X0 B0 us (ds.map .d) fp rs → PReps EE Sl' w' X0' B0' us (ds.map .d) [] []
  | [], us, fp, rs, h => by cases h; exact .nil
  | d :: ds, us, fp, rs, h => by
    cases h with
    | cons v vs x xs p q r t h hs =>
      cases h with
      | d _ _ h => exact .cons _ _ _ _ [] [] [] [] (.d _ _ (h.move hS hc)) (dreps_move hS hc hs)
theorem sp39 (s : Fam) : sp s 39 = ansOf c_tree_mapper_program rc_tree_mapper_program.enc s.f_tree_mapper_program := by kernel_rfl
def ProgR (Sl : Nat → Nat → Prop) (w : World) (u : Value) (p : TProgram) : Prop := ∃ us : Array Value, u = .agg us ∧ PReps EE Sl w (fun _ => True) 0 us.toList ((row_TProgram p).map .d) [] []
theorem enc_prog (p : TProgram) : c_TProgram.enc p = .agg ((row_TProgram p).map .d) := rfl
theorem arep_prog {Sl : Nat → Nat → Prop} {w : World} {X0 : Nat → Prop} {B0 : Nat} {v : Value} {p : TProgram} {fp : List Nat} {rs : List Value} (h : ARep EE Sl w X0 B0 v (c_TProgram.enc p) fp rs) : ProgR Sl w v p ∧ fp = [] ∧ rs = [] := by
  rw [enc_prog] at h
  cases h with
  | agg us _ _ _ h =>
    have := dreps_of h
    exact ⟨⟨us, rfl, dreps_move (fun _ _ h => h) (fun _ _ _ _ h => h) h⟩, this.2.1, this.2.2⟩
theorem drep_slice {Sl : Nat → Nat → Prop} {w : World} {v : Value} {t : Nat} {xs : List (II t)} (h : DRep EE Sl w v (.sl t xs)) : ∃ A n c, v = .slice A n c := by
  cases h with
  | sl _ _ A n c => exact ⟨A, n, c, rfl⟩
theorem preps_d {Sl : Nat → Nat → Prop} {w : World} {X0 : Nat → Prop} {B0 : Nat} {d : DV II} {ds : List (CV II)} {us : List Value} {fp : List Nat} {rs : List Value} (h : PReps EE Sl w X0 B0 us (.d d :: ds) fp rs) : ∃ v vs, us = v :: vs ∧ DRep EE Sl w v d ∧ PReps EE Sl w X0 B0 vs ds fp rs := by
  cases h with
  | cons v vs x xs p q r t h hs => cases h with | d _ _ h => exact ⟨v, vs, rfl, h, hs⟩
theorem ProgR.nine {Sl : Nat → Nat → Prop} {w : World} {u : Value} {p : TProgram} (h : ProgR Sl w u p) : ∃ s0 A1 n1 c1 A2 n2 c2 A3 n3 c3 A4 n4 c4 A5 n5 c5 A6 n6 c6 A7 n7 c7 A8 n8 c8, u = .agg #[.string s0, .slice A1 n1 c1, .slice A2 n2 c2, .slice A3 n3 c3, .slice A4 n4 c4, .slice A5 n5 c5, .slice A6 n6 c6, .slice A7 n7 c7, .slice A8 n8 c8] := by
  obtain ⟨us, rfl, h⟩ := h
  have h : PReps EE Sl w (fun _ => True) 0 us.toList [.d (.lit (.string p.Name)), .d (.sl 9 p.Before), .d (.sl 9 p.Mid), .d (.sl 9 p.After), .d (.sl 59 p.Recs), .d (.sl 98 p.Vars), .d (.sl 103 p.Routines), .d (.sl 107 p.Body), .d (.sl 9 p.End)] [] [] := h
  obtain ⟨l⟩ := us
  obtain ⟨v0, l0, e0, h0, z0⟩ := preps_d h
  have x0 := drep_lit h0
  obtain ⟨v1, l1, e1, h1, z1⟩ := preps_d z0
  obtain ⟨A1, n1, c1, x1⟩ := drep_slice h1
  obtain ⟨v2, l2, e2, h2, z2⟩ := preps_d z1
  obtain ⟨A2, n2, c2, x2⟩ := drep_slice h2
  obtain ⟨v3, l3, e3, h3, z3⟩ := preps_d z2
  obtain ⟨A3, n3, c3, x3⟩ := drep_slice h3
  obtain ⟨v4, l4, e4, h4, z4⟩ := preps_d z3
  obtain ⟨A4, n4, c4, x4⟩ := drep_slice h4
  obtain ⟨v5, l5, e5, h5, z5⟩ := preps_d z4
  obtain ⟨A5, n5, c5, x5⟩ := drep_slice h5
  obtain ⟨v6, l6, e6, h6, z6⟩ := preps_d z5
  obtain ⟨A6, n6, c6, x6⟩ := drep_slice h6
  obtain ⟨v7, l7, e7, h7, z7⟩ := preps_d z6
  obtain ⟨A7, n7, c7, x7⟩ := drep_slice h7
  obtain ⟨v8, l8, e8, h8, z8⟩ := preps_d z7
  obtain ⟨A8, n8, c8, x8⟩ := drep_slice h8
  cases z8
  subst e8 e7 e6 e5 e4 e3 e2 e1
  have e0 : l = _ := e0
  subst x0 x1 x2 x3 x4 x5 x6 x7 x8 e0
  exact ⟨_, _, _, _, _, _, _, _, _, _, _, _, _, _, _, _, _, _, _, _, _, _, _, _, _, rfl⟩
theorem ProgR.move {Sl Sl' : Nat → Nat → Prop} {w w' : World} {u : Value} {p : TProgram} (h : ProgR Sl w u p) (hS : ∀ g o, Sl g o → Sl' g o) (hc : ∀ g o u, Sl g o → w.cell? ⟨g, o, none⟩ = some u → w'.cell? ⟨g, o, none⟩ = some u) : ProgR Sl' w' u p := by
  obtain ⟨us, rfl, h⟩ := h
  exact ⟨us, rfl, dreps_move hS hc h⟩
structure ProgTo (Sl : Nat → Nat → Prop) (w0 W : World) (v : Value) (fp : List Nat) (q : TProgram) (th : Thing) (u : Value) (w' : World) : Prop where
  ex : ∃ Sl' p2, KeepX (fun _ => False) w0.heap.size w0 w' ∧ Ext Sl Sl' w0 w' [] ∧ (∀ g o, Sl' g o → Sl g o ∨ W.heap.size ≤ g ∨ g ∈ fp) ∧ ProgR Sl' w' u q ∧ EE.frep th Sl' w' v p2 ∧ p2.Nodup ∧ ∀ k ∈ p2, w0.heap.size ≤ k ∧ k < w'.heap.size ∧ ∀ j, ¬ Sl' k j
  size : W.heap.size ≤ w'.heap.size
  same : ∀ k, k < W.heap.size → ¬ k ∈ fp → w'.heap[k]? = W.heap[k]?
theorem inv_below {w W : World} (h : EE.inv w) (hb : Below w.heap.size w W) : EE.inv W := EE.invKeep w W h fun k hk => hb.block k (EE.invLt w k h hk)
theorem prog_calls {s : Fam} (hS : ∀ f, SpecOK Tryz.prog EE (sp s) f) {th : Thing} {p : TProgram} {r : b_tree_mapper_program} (hr : s.f_tree_mapper_program ((th, ()), p, ()) = some r) {Sl : Nat → Nat → Prop} {w0 W : World} {v u : Value} {fp : List Nat}
    (hSl : ∀ g o, Sl g o → g < w0.heap.size) (hb : Below w0.heap.size w0 W) (hiv : EE.inv w0) (hp : ProgR Sl w0 u p) (hf : EE.frep th Sl W v fp) (h1 : v.oneCell' = true) (hk : ∀ k ∈ fp, w0.heap.size ≤ k ∧ k < W.heap.size) (hnd : fp.Nodup) :
    Calls Tryz.prog 39 #[.agg #[v], u] W fun e w' => ∃ u', e = .returned u' ∧ ProgTo Sl w0 W v fp r.1 r.2.1 u' w' := by
  have hcell : ∀ g o u, Sl g o → w0.cell? ⟨g, o, none⟩ = some u → W.cell? ⟨g, o, none⟩ = some u := fun g o u hs hu => (cell_same (hb.block g (hSl g o hs))).trans hu
  have hno : ∀ k ∈ fp, ∀ j, ¬ Sl k j := fun k hk' j hj => by have := hSl k j hj; have := (hk k hk').1; omega
  obtain ⟨us, rfl, hp⟩ := hp
  have hSl' : ∀ g o, Sl g o → g < W.heap.size := fun g o h => Nat.lt_of_lt_of_le (hSl g o h) hb.size
  have hm : PReps EE Sl W (· ∈ fp) W.heap.size [v] [.fd th] fp [v] := by
    have := PReps.cons (E := EE) (Sl := Sl) (w := W) (X0 := (· ∈ fp)) (B0 := W.heap.size) v [] (.fd th) [] fp [] [v] [] (.fd _ _ _ hf h1 fun k hk' => ⟨(hk k hk').2, hno k hk'⟩) .nil
    simpa using this
  have ha : AReps EE Sl W (· ∈ fp) W.heap.size [.agg #[v], .agg us] (c_tree_mapper_program.enc ((th, ()), p, ())) fp [v] := by
    have := AReps.cons (E := EE) (Sl := Sl) (w := W) (X0 := (· ∈ fp)) (B0 := W.heap.size) (.agg #[v]) [.agg us] (.agg [.fd th]) [c_TProgram.enc p] fp [] [v] [] (.agg _ _ _ _ hm) (.cons _ _ _ _ [] [] [] [] (.agg us _ [] [] (dreps_move (fun _ _ h => h) hcell hp)) .nil)
    rw [List.append_nil] at this
    exact this
  obtain ⟨g', args, hc, hfn, hcalls⟩ := hS 39 (c_tree_mapper_program.enc ((th, ()), p, ())) (rc_tree_mapper_program.enc r) (by rw [sp39]; exact ans_run _ _ _ rfl hr) Sl W _ fp [v] hSl' ha hnd
    (fun k hk' => ⟨(hk k hk').2, fun hg => by have := EE.invLt w0 k hiv hg; have := (hk k hk').1; omega⟩) (inv_below hiv hb)
  rcases hc with ⟨_, rfl, hargs⟩ | ⟨hne, _⟩
  · have : args = #[.agg #[v], .agg us] := by cases args; simpa using hargs
    subst this
    refine hcalls.mono fun e w' ⟨u', he, Sl', p1, p2, r1, r2, hkeep, hext, hu, hps, hnd', hlt⟩ => ⟨u', he, ?_⟩
    obtain ⟨hq, rfl, rfl⟩ := arep_prog hu
    refine ⟨⟨Sl', p2, ⟨hkeep.os.trans hb.os, hkeep.tape.trans hb.tape, hkeep.output.trans hb.output, Nat.le_trans hb.size hkeep.size, fun i hi _ => (hkeep.block i (Nat.lt_of_lt_of_le hi hb.size) fun hm => by have := (hk i hm).1; omega).trans (hb.block i hi)⟩,
      ⟨hext.s, fun g o hg => (hext.n g o hg).imp id fun hx => ⟨.inl (hx.1.elim (fun h => Nat.le_trans hb.size h) fun h => (hk g h).1), hx.2⟩, fun g o u hs hu => hext.c g o u hs (hcell g o u hs hu)⟩, fun g o hg => (hext.n g o hg).imp id fun hx => hx.1, hq, ?_⟩, hkeep.size, fun k h1 h2 => hkeep.block k h1 h2⟩
    have hps : PReps EE Sl' w' (fun _ => True) 0 [v] [.fd r.2.1] p2 r2 := hps
    cases hps with
    | cons _ _ _ _ p' q' r' t' h hs =>
      cases hs
      cases h with
      | fd _ _ _ h _ hk2 =>
        simp only [List.append_nil, List.nil_append] at hnd' hlt hk2 ⊢
        exact ⟨h, hnd', fun k hk' => ⟨(hlt k hk').2.elim (fun h => Nat.le_trans hb.size h) fun h => (hk k h).1, hk2 k hk'⟩⟩
  · cases hne
end Go.Ev
end
section
open Go Go.Proofs
namespace Go.Ev
open Go.RowKit Go.Proofs.YtokkfbkbnocnoaaGreatDoor Go.Proofs.YtokkfbkbnocnoaaGreatDoorW.PrintWords Go.Proofs.YtokkfbkbnocnoaaGreatDoorW.PrintLast Go.Proofs.YtokkfbkbnocnoaaGreatDoorW.PrintMore
set_option linter.unusedVariables false
set_option linter.unusedSimpArgs false
set_option maxHeartbeats 4000000
set_option maxRecDepth 100000
theorem heap_top (w : World) (a : Go.Obj) : (w.alloc a).heap[w.heap.size]? = some a := (MapKept.heap_alloc w a).1
theorem heap_mid (w : World) (a b c : Go.Obj) : (((w.alloc a).alloc b).alloc c).heap[w.heap.size + 1]? = some b := by
  rw [Below.heap_alloc _ _ _ (by simp only [size_alloc]; omega)]
  have := heap_top (w.alloc a) b
  rwa [size_alloc] at this
theorem heap_three (w : World) (a b c : Go.Obj) : (((w.alloc a).alloc b).alloc c).heap[w.heap.size + 1 + 1]? = some c := by
  have := heap_top ((w.alloc a).alloc b) c
  rwa [size_alloc, size_alloc] at this
theorem cells_set {w : World} {g t : Nat} {cs : Array Value} (h : w.heap[g]? = some (.cells cs t (0, 0))) (j : Nat) (v : Value) : (w.setCell ⟨g, j, none⟩ v).heap[g]? = some (.cells (cs.setIfInBounds j v) t (0, 0)) := by
  simp [World.setCell, Array.getElem?_modify, h]
theorem so (w : World) (a : Addr) (v : Value) : (w.setCell a v).os = w.os := by simp only [World.setCell]
theorem st (w : World) (a : Addr) (v : Value) : (w.setCell a v).tape = w.tape := by simp only [World.setCell]
theorem su (w : World) (a : Addr) (v : Value) : (w.setCell a v).output = w.output := by simp only [World.setCell]
theorem sz (w : World) (a : Addr) (v : Value) : (w.setCell a v).heap.size = w.heap.size := by simp only [World.setCell, Array.size_modify]
def set9 (w : World) (g : Nat) (b0 b1 b2 b3 b4 b5 b6 b7 b8 : Value) : World := (((((((((w.setCell ⟨g, 0, none⟩ b0).setCell ⟨g, 1, none⟩ b1).setCell ⟨g, 2, none⟩ b2).setCell ⟨g, 3, none⟩ b3).setCell ⟨g, 4, none⟩ b4).setCell ⟨g, 5, none⟩ b5).setCell ⟨g, 6, none⟩ b6).setCell ⟨g, 7, none⟩ b7).setCell ⟨g, 8, none⟩ b8)
theorem set9_at {w : World} {g t : Nat} {a0 a1 a2 a3 a4 a5 a6 a7 a8 b0 b1 b2 b3 b4 b5 b6 b7 b8 : Value} (h : w.heap[g]? = some (.cells #[a0, a1, a2, a3, a4, a5, a6, a7, a8] t (0, 0))) : (set9 w g b0 b1 b2 b3 b4 b5 b6 b7 b8).heap[g]? = some (.cells #[b0, b1, b2, b3, b4, b5, b6, b7, b8] t (0, 0)) := by
  have h0 := cells_set h 0 b0
  have h1 := cells_set h0 1 b1
  have h2 := cells_set h1 2 b2
  have h3 := cells_set h2 3 b3
  have h4 := cells_set h3 4 b4
  have h5 := cells_set h4 5 b5
  have h6 := cells_set h5 6 b6
  have h7 := cells_set h6 7 b7
  have h8 := cells_set h7 8 b8
  simp only [List.setIfInBounds_toArray, List.set_cons_zero, List.set_cons_succ] at h8
  exact h8
theorem set9_ne {w : World} {g : Nat} {b0 b1 b2 b3 b4 b5 b6 b7 b8 : Value} (k : Nat) (hk : k ≠ g) : (set9 w g b0 b1 b2 b3 b4 b5 b6 b7 b8).heap[k]? = w.heap[k]? := by
  exact (Below.heap_setCell _ ⟨g, 8, none⟩ _ k hk).trans ((Below.heap_setCell _ ⟨g, 7, none⟩ _ k hk).trans ((Below.heap_setCell _ ⟨g, 6, none⟩ _ k hk).trans ((Below.heap_setCell _ ⟨g, 5, none⟩ _ k hk).trans ((Below.heap_setCell _ ⟨g, 4, none⟩ _ k hk).trans ((Below.heap_setCell _ ⟨g, 3, none⟩ _ k hk).trans ((Below.heap_setCell _ ⟨g, 2, none⟩ _ k hk).trans ((Below.heap_setCell _ ⟨g, 1, none⟩ _ k hk).trans ((Below.heap_setCell _ ⟨g, 0, none⟩ _ k hk)))))))))
theorem set9_size {w : World} {g : Nat} {b0 b1 b2 b3 b4 b5 b6 b7 b8 : Value} : (set9 w g b0 b1 b2 b3 b4 b5 b6 b7 b8).heap.size = w.heap.size := by
  exact (sz _ _ _).trans ((sz _ _ _).trans ((sz _ _ _).trans ((sz _ _ _).trans ((sz _ _ _).trans ((sz _ _ _).trans ((sz _ _ _).trans ((sz _ _ _).trans (sz _ _ _))))))))
theorem set9_all (w : World) (g : Nat) (b0 b1 b2 b3 b4 b5 b6 b7 b8 : Value) : (set9 w g b0 b1 b2 b3 b4 b5 b6 b7 b8).os = w.os ∧ (set9 w g b0 b1 b2 b3 b4 b5 b6 b7 b8).tape = w.tape ∧ (set9 w g b0 b1 b2 b3 b4 b5 b6 b7 b8).output = w.output ∧ (set9 w g b0 b1 b2 b3 b4 b5 b6 b7 b8).heap.size = w.heap.size ∧ ∀ k, k ≠ g → (set9 w g b0 b1 b2 b3 b4 b5 b6 b7 b8).heap[k]? = w.heap[k]? :=
  ⟨(so _ _ _).trans ((so _ _ _).trans ((so _ _ _).trans ((so _ _ _).trans ((so _ _ _).trans ((so _ _ _).trans ((so _ _ _).trans ((so _ _ _).trans (so _ _ _)))))))), (st _ _ _).trans ((st _ _ _).trans ((st _ _ _).trans ((st _ _ _).trans ((st _ _ _).trans ((st _ _ _).trans ((st _ _ _).trans ((st _ _ _).trans (st _ _ _)))))))), (su _ _ _).trans ((su _ _ _).trans ((su _ _ _).trans ((su _ _ _).trans ((su _ _ _).trans ((su _ _ _).trans ((su _ _ _).trans ((su _ _ _).trans (su _ _ _)))))))), set9_size, fun k hk => set9_ne k hk⟩
theorem res16 (tmps : Array Value) (g : Nat) (w : World) (cs : Array Value) (h4 : tmps.getD 4 undef = .pointer (some ⟨g, 0, none⟩)) (hg : w.heap[g]? = some (.cells cs 28 (0, 0))) (hs : cs.size = 9) : (results Tryz.f16 tmps).run Tryz.prog w = .ok (.agg cs) w :=
  results_cell_row rfl tmps w g 28 cs (0, 0) _ h4 hg Tryz.underlying28 rfl (by rw [hs]; kernel_rfl)
theorem rename_walk {s : Fam} (hS : ∀ f, SpecOK Tryz.prog EE (sp s) f) {p : TProgram} {l : List TPair} {r : b_tree_mapper_program} (hr : s.f_tree_mapper_program ((Thing.ren l, ()), p, ()) = some r) {Sl : Nat → Nat → Prop} {w : World} {sv : Value} {s0 : ByteArray} {A1 A2 A3 A4 A5 A6 A7 A8 : Option Addr} {n1 n2 n3 n4 n5 n6 n7 n8 c1 c2 c3 c4 c5 c6 c7 c8 : Nat}
    (hSl : ∀ g o, Sl g o → g < w.heap.size) (hiv : EE.inv w) (hp : ProgR Sl w (.agg #[.string s0, .slice A1 n1 c1, .slice A2 n2 c2, .slice A3 n3 c3, .slice A4 n4 c4, .slice A5 n5 c5, .slice A6 n6 c6, .slice A7 n7 c7, .slice A8 n8 c8]) p) (hd : DRep EE0 Sl w sv (.sl 39 l)) (A : Option Addr) (n c : Nat) (hsv : sv = .slice A n c) :
    Calls Tryz.prog 16 #[.agg #[.string s0, .slice A1 n1 c1, .slice A2 n2 c2, .slice A3 n3 c3, .slice A4 n4 c4, .slice A5 n5 c5, .slice A6 n6 c6, .slice A7 n7 c7, .slice A8 n8 c8], sv] w fun e w' => ∃ u', e = .returned u' ∧ Answers EE Sl w [] [] (rc_tree_Rename.enc r.1) u' w' := by
  subst hsv
  have HP := Lib.hid hp
  have HD := Lib.hid hd
  have HR := Lib.hid hr
  have HS := Lib.hid hS
  have HSL := Lib.hid hSl
  have HI := Lib.hid hiv
  clear hp hd hr hS hSl hiv
  go_enter Tryz.func16, Tryz.ntmps16
  go_wp2_with (first | (go_at_call 39; go_must (refine (prog_calls HS.out HR.out HSL.out (below_alloc (below_alloc (below_alloc (Below.refl _ _) _) _) _) HI.out HP.out (fp := [w.heap.size + 1]) ?hf rfl ?hk (by simp)).mono ?_; (case hf => exact ⟨w.heap.size + 1, .slice A n c, rfl, rfl, heap_mid _ _ _ _, HD.out.move (fun _ _ h => h) (fun g o u hs hu => (cell_same ((below_alloc (below_alloc (below_alloc (Below.refl _ w) _) _) _).block g (HSL.out g o hs))).trans hu)⟩); (case hk => intro k hk; simp only [List.mem_singleton] at hk; subst hk; simp only [size_alloc]; omega)); go_must (rintro e w5 ⟨u', rfl, H5⟩; have H := Lib.hid H5; obtain ⟨⟨Sl5, p2, _, _, _, hq, _⟩, _, hsame⟩ := H5; obtain ⟨t0, D1, m1, e1, D2, m2, e2, D3, m3, e3, D4, m4, e4, D5, m5, e5, D6, m6, e6, D7, m7, e7, D8, m8, e8, rfl⟩ := hq.nine; have hb := hsame (w.heap.size + 1 + 1) (by simp only [size_alloc]; omega) (by simp); rw [heap_three] at hb; have f0 := Lib.frozen_of_heap hb 0; have c0 : w5.cell? ⟨w.heap.size + 1 + 1, 0, none⟩ = some (.string ⟨#[]⟩) := by { simp [World.cell?, hb] }; have f1 := Lib.frozen_of_heap hb 1; have c1 : w5.cell? ⟨w.heap.size + 1 + 1, 1, none⟩ = some (.slice none 0 0) := by { simp [World.cell?, hb] }; have f2 := Lib.frozen_of_heap hb 2; have c2 : w5.cell? ⟨w.heap.size + 1 + 1, 2, none⟩ = some (.slice none 0 0) := by { simp [World.cell?, hb] }; have f3 := Lib.frozen_of_heap hb 3; have c3 : w5.cell? ⟨w.heap.size + 1 + 1, 3, none⟩ = some (.slice none 0 0) := by { simp [World.cell?, hb] }; have f4 := Lib.frozen_of_heap hb 4; have c4 : w5.cell? ⟨w.heap.size + 1 + 1, 4, none⟩ = some (.slice none 0 0) := by { simp [World.cell?, hb] }; have f5 := Lib.frozen_of_heap hb 5; have c5 : w5.cell? ⟨w.heap.size + 1 + 1, 5, none⟩ = some (.slice none 0 0) := by { simp [World.cell?, hb] }; have f6 := Lib.frozen_of_heap hb 6; have c6 : w5.cell? ⟨w.heap.size + 1 + 1, 6, none⟩ = some (.slice none 0 0) := by { simp [World.cell?, hb] }; have f7 := Lib.frozen_of_heap hb 7; have c7 : w5.cell? ⟨w.heap.size + 1 + 1, 7, none⟩ = some (.slice none 0 0) := by { simp [World.cell?, hb] }; have f8 := Lib.frozen_of_heap hb 8; have c8 : w5.cell? ⟨w.heap.size + 1 + 1, 8, none⟩ = some (.slice none 0 0) := by { simp [World.cell?, hb] }; have HB := Lib.hid hb; clear hb hq hsame)))
  go_wp2
  have hset := set9_at (b0 := .string t0) (b1 := .slice D1 m1 e1) (b2 := .slice D2 m2 e2) (b3 := .slice D3 m3 e3) (b4 := .slice D4 m4 e4) (b5 := .slice D5 m5 e5) (b6 := .slice D6 m6 e6) (b7 := .slice D7 m7 e7) (b8 := .slice D8 m8 e8) HB.out
  change bodyPost _ _ _ _ _ (set9 w5 (w.heap.size + 1 + 1) (.string t0) (.slice D1 m1 e1) (.slice D2 m2 e2) (.slice D3 m3 e3) (.slice D4 m4 e4) (.slice D5 m5 e5) (.slice D6 m6 e6) (.slice D7 m7 e7) (.slice D8 m8 e8))
  obtain ⟨k1, k2, k3, k4, k5⟩ := set9_all w5 (w.heap.size + 1 + 1) (.string t0) (.slice D1 m1 e1) (.slice D2 m2 e2) (.slice D3 m3 e3) (.slice D4 m4 e4) (.slice D5 m5 e5) (.slice D6 m6 e6) (.slice D7 m7 e7) (.slice D8 m8 e8)
  generalize set9 w5 (w.heap.size + 1 + 1) (.string t0) (.slice D1 m1 e1) (.slice D2 m2 e2) (.slice D3 m3 e3) (.slice D4 m4 e4) (.slice D5 m5 e5) (.slice D6 m6 e6) (.slice D7 m7 e7) (.slice D8 m8 e8) = w9 at hset k1 k2 k3 k4 k5 ⊢
  refine bodyPost_ret (res16 _ (w.heap.size + 1 + 1) w9 _ rfl hset rfl) rfl ?_
  obtain ⟨⟨Sl5, p2, hkeep, hext, hnew, hq, hf5, hnd5, hk5⟩, hsize, hsame⟩ := H.out
  have hne : ∀ g o, Sl5 g o → g ≠ w.heap.size + 1 + 1 := fun g o hg e => by
    rcases hnew g o hg with h | h | h
    · have := HSL.out g o h; omega
    · simp only [size_alloc] at h; omega
    · simp at h; omega
  have hq' := hq.move (w' := w9) (fun _ _ h => h) fun g o u hs hu => (cell_same (k5 g (hne g o hs))).trans hu
  refine ⟨_, rfl, Sl5, [], [], [], [], ?_, ?_, ?_, .nil, List.nodup_nil, fun k hk => by cases hk⟩
  · exact ⟨k1.trans hkeep.os, k2.trans hkeep.tape, k3.trans hkeep.output, Nat.le_trans hkeep.size (Nat.le_of_eq k4.symm), fun i hi _ => (k5 i (by omega)).trans (hkeep.block i hi (fun h => h))⟩
  · exact ⟨hext.s, fun g o hg => (hext.n g o hg).imp id fun hx => ⟨hx.1, Nat.lt_of_lt_of_le hx.2 (Nat.le_of_eq k4.symm)⟩, fun g o u hs hu => (cell_same (k5 g (by have := HSL.out g o hs; omega))).trans (hext.c g o u hs hu)⟩
  · obtain ⟨us, he, hps⟩ := hq'
    injection he with he
    subst he
    exact .agg _ _ [] [] hps
theorem ok_tree_Rename (s : Fam) (k : Nat) (hS : ∀ f, SpecOK Tryz.prog EE (sp s) f) : SpecA Tryz.prog EE 16 (ansOf c_tree_Rename rc_tree_Rename.enc fun x => B_tree_Rename s k x.1 x.2.1) := by
  refine specA_by _ _ _ fun x y hy Sl w us fp rs hSl hargs hnd hlt hiv => ?_
  obtain ⟨p, l, _⟩ := x
  obtain ⟨r, hr, rfl⟩ := Option.map_eq_some_iff.1 hy
  obtain ⟨v, vs, fp1, fp2, rs1, rs2, rfl, rfl, rfl, h1, h2⟩ := areps_cons hargs
  obtain ⟨hp, rfl, rfl⟩ := arep_prog h1
  obtain ⟨sv, vs', rfl, hd, h3⟩ := areps_d h2
  obtain ⟨rfl, rfl, rfl⟩ := areps_nil h3
  obtain ⟨A, n, c, hsv⟩ := drep_slice hd
  refine ⟨16, #[_, _], .inl ⟨by decide, rfl, rfl⟩, ⟨Tryz.f16, Tryz.func16, by kernel_rfl, by kernel_rfl⟩, ?_⟩
  obtain ⟨s0, A1, n1, c1, A2, n2, c2, A3, n3, c3, A4, n4, c4, A5, n5, c5, A6, n6, c6, A7, n7, c7, A8, n8, c8, rfl⟩ := hp.nine
  exact rename_walk hS hr hSl hiv hp (drep_env' hd) A n c hsv
end Go.Ev
end
section
open Go Go.Proofs
namespace Go.Ev
open Go.RowKit Go.Proofs.YtokkfbkbnocnoaaGreatDoor Go.Proofs.YtokkfbkbnocnoaaGreatDoorW.PrintWords Go.Proofs.YtokkfbkbnocnoaaGreatDoorW.PrintLast Go.Proofs.YtokkfbkbnocnoaaGreatDoorW.PrintMore
set_option linter.unusedVariables false
set_option linter.unusedSimpArgs false
set_option maxHeartbeats 4000000
set_option maxRecDepth 100000
theorem make_run73 (w : World) : (Instr.makeMap 73 none).run Tryz.prog w = .ok (.map (some w.heap.size)) (w.alloc (.map #[] 0)) := by
  simp [Instr.makeMap, run_underlying Tryz.underlying73]
  try rfl
theorem apart_nil (A : Option Addr) (c : Nat) (w : World) : Calls Tryz.prog 79 #[.slice A 0 c] w fun e w' => e = .returned (.bool true) ∧ Below w.heap.size w w' := by
  have hmk := make_run73 w
  have HB := Lib.hid (below_alloc (Below.refl w.heap.size w) (.map #[] 0))
  go_enter Tryz.func79, Tryz.ntmps79
  go_wp2
  go_loopw [9] (fun i wr => i = .int .i64 0 ∧ Below w.heap.size w wr) (fun _ _ => 0)
  case atStart => exact ⟨rfl, HB.out⟩
  case round =>
    obtain ⟨rfl, hb⟩ := hrel
    have HBB := Lib.hid hb
    clear hb
    go_wp2
    go_ret
    exact ⟨rfl, HBB.out⟩
theorem ok_apart : SpecA Tryz.prog EE 79 (ansOf c_tree_apart rc_tree_apart.enc fun x => match x.1 with | [] => some true | _ => none) := by
  refine specA_by _ _ _ fun x y hy Sl w us fp rs hSl hargs hnd hlt hiv => ?_
  obtain ⟨l, _⟩ := x
  cases l with
  | cons => cases hy
  | nil =>
    injection hy with hy
    subst hy
    obtain ⟨v, vs, rfl, h1, h2⟩ := areps_d hargs
    obtain ⟨rfl, rfl, rfl⟩ := areps_nil h2
    refine ⟨79, #[_], .inl ⟨by decide, rfl, rfl⟩, ⟨Tryz.f79, Tryz.func79, by kernel_rfl, by kernel_rfl⟩, ?_⟩
    cases h1 with
    | sl _ _ A n c g o vals hn hcap hm hA hc hr =>
      have hn : 0 = n := hn
      subst hn
      exact (apart_nil A c w).mono fun e w' ⟨he, hb⟩ => ⟨_, he, answers_lit hSl hb rfl⟩
theorem heap4_1 (w : World) (a b c d : Go.Obj) : ((((w.alloc a).alloc b).alloc c).alloc d).heap[w.heap.size + 1]? = some b := by
  rw [Below.heap_alloc _ _ _ (by simp only [size_alloc]; omega)]
  exact heap_mid w a b c
theorem heap4_2 (w : World) (a b c d : Go.Obj) : ((((w.alloc a).alloc b).alloc c).alloc d).heap[w.heap.size + 1 + 1]? = some c := by
  rw [Below.heap_alloc _ _ _ (by simp only [size_alloc]; omega)]
  exact heap_three w a b c
theorem heap4_3 (w : World) (a b c d : Go.Obj) : ((((w.alloc a).alloc b).alloc c).alloc d).heap[w.heap.size + 1 + 1 + 1]? = some d := by
  have := heap_top (((w.alloc a).alloc b).alloc c) d
  rwa [size_alloc, size_alloc, size_alloc] at this
theorem map_made (w : World) (a b d : Go.Obj) : MapAt ((((w.alloc a).alloc b).alloc (.map #[] 0)).alloc d) (w.heap.size + 1 + 1) 0 (fun y => ([] : List ByteArray).any fun z => z.toList == y.toList) := by
  refine MapAt.same (w := ((w.alloc a).alloc b).alloc (.map #[] 0)) ?_ (Below.heap_alloc _ _ _ (by simp only [size_alloc]; omega))
  have := World.ownsMap_made (H := Unit) ((w.alloc a).alloc b) Tryz.prog 9 (plainElem Tryz.prog 4)
  rw [size_alloc, size_alloc] at this
  exact ⟨_, this, fun s _ => rfl⟩
theorem names_row {Sl : Nat → Nat → Prop} {w : World} {gs go : Nat} {l : List ByteArray} {fp : List Nat} (h : EE.frep (Thing.names l) Sl w (.func (.func 38) #[] #[.pointer (some ⟨gs, 0, none⟩), .pointer (some ⟨go, 0, none⟩)]) fp) :
    ∃ sv, w.heap[go]? = some (.cells #[sv] 22 (0, 0)) ∧ w.ownsRow 0 9 1 sv l.length (l.map Value.string) ∧ ∀ k, sv.ownBlock = some k → k ∈ fp := by
  obtain ⟨gs', gm, go', sv, n, hv, rfl, _, _, _, h3, h4⟩ := h
  simp at hv
  obtain ⟨rfl, rfl⟩ := hv
  exact ⟨sv, h3, h4, fun k hk => by simp [hk]⟩
theorem names_walk {s : Fam} (hS : ∀ f, SpecOK Tryz.prog EE (sp s) f) {p : TProgram} {l : List ByteArray} {r : b_tree_mapper_program} (hr : s.f_tree_mapper_program ((Thing.names [], ()), p, ()) = some r) (hrl : r.2.1 = .names l) {Sl : Nat → Nat → Prop} {w : World} {s0 : ByteArray} {A1 A2 A3 A4 A5 A6 A7 A8 : Option Addr} {n1 n2 n3 n4 n5 n6 n7 n8 c1 c2 c3 c4 c5 c6 c7 c8 : Nat}
    (hSl : ∀ g o, Sl g o → g < w.heap.size) (hiv : EE.inv w) (hp : ProgR Sl w (.agg #[.string s0, .slice A1 n1 c1, .slice A2 n2 c2, .slice A3 n3 c3, .slice A4 n4 c4, .slice A5 n5 c5, .slice A6 n6 c6, .slice A7 n7 c7, .slice A8 n8 c8]) p) :
    Calls Tryz.prog 13 #[.agg #[.string s0, .slice A1 n1 c1, .slice A2 n2 c2, .slice A3 n3 c3, .slice A4 n4 c4, .slice A5 n5 c5, .slice A6 n6 c6, .slice A7 n7 c7, .slice A8 n8 c8]] w fun e w' => ∃ u', e = .returned u' ∧ Answers EE Sl w [] [] (rc_tree_Names.enc l) u' w' := by
  have HP := Lib.hid hp
  have HR := Lib.hid hr
  have HS := Lib.hid hS
  have HSL := Lib.hid hSl
  have HI := Lib.hid hiv
  have hmk := make_run73
  clear hp hr hS hSl hiv
  go_enter Tryz.func13, Tryz.ntmps13
  go_wp2_with (first | (go_at_call 39; go_must (refine (prog_calls HS.out HR.out HSL.out (below_alloc (below_alloc (below_alloc (below_alloc (Below.refl _ _) _) _) _) _) HI.out HP.out (fp := [w.heap.size + 1 + 1 + 1, w.heap.size + 1 + 1, w.heap.size + 1]) ?hf rfl ?hk (by simp; omega)).mono ?_; (case hf => exact ⟨w.heap.size + 1 + 1 + 1, w.heap.size + 1 + 1, w.heap.size + 1, .slice none 0 0, 0, rfl, rfl, Nat.zero_le _, heap4_3 _ _ _ _ _, (map_made w _ _ _).same rfl, heap4_1 _ _ _ _ _, rfl, .inl ⟨rfl, rfl⟩⟩); (case hk => intro k hk; simp only [List.mem_cons, List.not_mem_nil, or_false] at hk; simp only [size_alloc]; omega)); go_must (rintro e w5 ⟨u', rfl, H5⟩; have H := Lib.hid H5; obtain ⟨⟨Sl5, p2, _, _, _, _, hf5, _⟩, _, _⟩ := H5; rw [hrl] at hf5; obtain ⟨sv, hgo, hown, _⟩ := names_row hf5; obtain ⟨A9, c9, rfl⟩ := owns_slice hown; have hc9 : w5.cell? ⟨w.heap.size + 1, 0, none⟩ = some (.slice A9 l.length c9) := by { simp [World.cell?, hgo] }; clear hf5 hgo hown)))
  go_ret
  obtain ⟨⟨Sl5, p2, hkeep, hext, hnew, hq, hf5, hnd5, hk5⟩, _, _⟩ := H.out
  rw [hrl] at hf5
  obtain ⟨sv, hgo, hown, hin⟩ := names_row hf5
  obtain rfl : sv = .slice A9 l.length c9 := by
    simp only [World.cell?, hgo] at hc9
    simpa using hc9
  refine ⟨_, rfl, fun g j => Sl5 g j ∨ ((Value.slice A9 l.length c9).ownBlock = some g ∧ j < l.length), [], [], [], [], keepX_mono hkeep (fun _ h => h.elim), ⟨fun g o h => .inl (hext.s g o h), fun g o h => ?_, hext.c⟩, .c _ _ _ _ (.d _ _ ?_), .nil, List.nodup_nil, fun k hk => by cases hk⟩
  · rcases h with h | ⟨h, _⟩
    · exact hext.n g o h
    · have := hk5 g (hin g h)
      exact .inr ⟨.inl this.1, this.2.1⟩
  · refine own_sl hEE (ti := { size := 1, bytes := 16, zero := [.string ⟨#[]⟩], td := .string }) (by kernel_rfl) hown (fun i r j y hi hj => ?_) (fun k hk j => ?_)
    · have hj' : ([DV.lit (.string r)] : List (DV II))[j]? = some y := hj
      cases j with
      | zero =>
        simp at hj'
        subst hj'
        exact ⟨.string r, by simp [hi], .lit _ rfl⟩
      | succ j => simp at hj'
    · constructor
      · rintro (h | ⟨_, h⟩)
        · exact absurd h ((hk5 k (hin k hk)).2.2 j)
        · simpa using h
      · intro h
        exact .inr ⟨hk, by simpa using h⟩
theorem ok_tree_Names (s : Fam) (k : Nat) (hS : ∀ f, SpecOK Tryz.prog EE (sp s) f) : SpecA Tryz.prog EE 13 (ansOf c_tree_Names rc_tree_Names.enc fun x => B_tree_Names s k x.1) := by
  refine specA_by _ _ _ fun x y hy Sl w us fp rs hSl hargs hnd hlt hiv => ?_
  obtain ⟨p, _⟩ := x
  obtain ⟨r, hr, hy⟩ := Option.bind_eq_some_iff.1 hy
  obtain ⟨v, vs, fp1, fp2, rs1, rs2, rfl, rfl, rfl, h1, h2⟩ := areps_cons hargs
  obtain ⟨hp, rfl, rfl⟩ := arep_prog h1
  obtain ⟨rfl, rfl, rfl⟩ := areps_nil h2
  refine ⟨13, #[_], .inl ⟨by decide, rfl, rfl⟩, ⟨Tryz.f13, Tryz.func13, by kernel_rfl, by kernel_rfl⟩, ?_⟩
  obtain ⟨s0, A1, n1, c1, A2, n2, c2, A3, n3, c3, A4, n4, c4, A5, n5, c5, A6, n6, c6, A7, n7, c7, A8, n8, c8, rfl⟩ := hp.nine
  cases hrl : r.2.1 with
  | ren => rw [hrl] at hy; cases hy
  | names l =>
    rw [hrl] at hy
    injection hy with hy
    subst hy
    exact names_walk hS hr hrl hSl hiv hp
end Go.Ev
end
section
open Go Go.Proofs
namespace Go.Ev
open Go.RowKit Go.Proofs.YtokkfbkbnocnoaaGreatDoor Go.Proofs.YtokkfbkbnocnoaaGreatDoorW.PrintWords Go.Proofs.YtokkfbkbnocnoaaGreatDoorW.PrintLast Go.Proofs.YtokkfbkbnocnoaaGreatDoorW.PrintMore
set_option linter.unusedVariables false
set_option linter.unusedSimpArgs false
set_option maxHeartbeats 4000000
set_option maxRecDepth 100000
structure PIn (Sl : Nat → Nat → Prop) (w : World) (v : Value) (fp : List Nat) (th : Thing) (wr : World) (fp' : List Nat) (Slr : Nat → Nat → Prop) : Prop where
  rep : EE.frep th Slr wr v fp'
  nd : fp'.Nodup
  at_ : ∀ k ∈ fp', k < wr.heap.size ∧ (∀ j, ¬ Slr k j) ∧ (k ∈ fp ∨ w.heap.size + 2 ≤ k)
  keep : KeepX (· ∈ fp) w.heap.size w wr
  size : w.heap.size + 2 ≤ wr.heap.size
  ext : Ext Sl Slr w wr fp
  news : ∀ g o, Slr g o → Sl g o ∨ g ∈ fp ∨ w.heap.size + 2 ≤ g
def PMid (Sl : Nat → Nat → Prop) (w : World) (v : Value) (fp : List Nat) (th : Thing) (wr : World) : Prop := ∃ fp' Slr, PIn Sl w v fp th wr fp' Slr
theorem sp_by (s : Fam) : sp s 1000003 = ansOf c_by rc_by.enc s.f_by := by kernel_rfl
section
variable {s : Fam} {Sl : Nat → Nat → Prop} {w wr : World} {v : Value} {fp : List Nat} {th : Thing}
theorem by_step (hS : ∀ f, SpecOK Tryz.prog EE (sp s) f) (hSl : ∀ g o, Sl g o → g < w.heap.size) (hiv : EE.inv w) (hfp : ∀ k ∈ fp, k < w.heap.size ∧ ¬ EE.glob k) (h1 : v.oneCell' = true) {g : Nat} {cs : Array Value} (hv : v = .func (.func g) #[] cs)
    (hm : PMid Sl w v fp th wr) {p : ByteArray} {t : b_by} (ht : s.f_by (th, p, ()) = some t) {args : Array Value} (ha : args.toList = .string p :: cs.toList) :
    Calls Tryz.prog g args wr fun e w' => e = .returned (.string t.1) ∧ PMid Sl w v fp t.2.1 w' ∧ w'.heap[w.heap.size]? = wr.heap[w.heap.size]? ∧ w'.heap[w.heap.size + 1]? = wr.heap[w.heap.size + 1]? := by
  obtain ⟨fp', Slr, hp⟩ := hm
  have hlt : ∀ g o, Slr g o → g < wr.heap.size := fun g o h => by
    rcases hp.ext.n g o h with h | ⟨_, h⟩
    · exact Nat.lt_of_lt_of_le (hSl g o h) hp.keep.size
    · exact h
  have hinv : EE.inv wr := EE.invKeep w wr hiv fun k hk => hp.keep.block k (EE.invLt w k hiv hk) fun hm => (hfp k hm).2 hk
  have hpp : PReps EE Slr wr (· ∈ fp') wr.heap.size [v] [.fd th] fp' [v] := by
    have := PReps.cons (E := EE) (Sl := Slr) (w := wr) (X0 := (· ∈ fp')) (B0 := wr.heap.size) v [] (.fd th) [] fp' [] [v] [] (.fd _ _ _ hp.rep h1 fun k hk => ⟨(hp.at_ k hk).1, (hp.at_ k hk).2.1⟩) .nil
    simpa using this
  have hargs : AReps EE Slr wr (· ∈ fp') wr.heap.size [v, .string p] (c_by.enc (th, p, ())) fp' [v] := by
    have := AReps.cons (E := EE) (Sl := Slr) (w := wr) (X0 := (· ∈ fp')) (B0 := wr.heap.size) v [.string p] (.c (.fd th)) [.c (.d (.lit (.string p)))] fp' [] [v] [] (.c _ _ _ _ (.fd _ _ _ hp.rep h1 fun k hk => ⟨(hp.at_ k hk).1, (hp.at_ k hk).2.1⟩)) (.cons _ _ _ _ [] [] [] [] (.c _ _ _ _ (.d _ _ (.lit _ rfl))) .nil)
    rw [List.append_nil] at this
    exact this
  obtain ⟨g', args', hc, hfn, hcalls⟩ := hS 1000003 (c_by.enc (th, p, ())) (rc_by.enc t) (by rw [sp_by]; exact ans_run _ _ _ rfl ht) Slr wr [v, .string p] fp' [v] hlt hargs hp.nd
    (fun k hk => ⟨(hp.at_ k hk).1, fun hg => by
      rcases (hp.at_ k hk).2.2 with h | h
      · exact (hfp k h).2 hg
      · have := EE.invLt w k hiv hg; omega⟩) hinv
  rcases hc with ⟨h, _⟩ | ⟨_, fs, cs', rest, he, hargs'⟩
  · exact absurd rfl h
  · rw [hv] at he
    injection he with he1 he2
    injection he1 with e1 e2 e3
    injection e1 with e1
    subst e1 e2 e3
    have : args = args' := by
      apply Array.toList_inj.1
      rw [ha, hargs', ← he2]
      simp
    subst this
    refine hcalls.mono fun e w' ⟨u, he, Sl', p1, p2, r1, r2, hkeep, hext, hu, hps, hnd', hb⟩ => ?_
    obtain ⟨hu1, rfl, rfl⟩ := arep_d hu
    have := drep_lit hu1
    subst this
    have hps : PReps EE Sl' w' (fun _ => True) 0 [v] [.fd t.2.1] p2 r2 := hps
    have hno : ∀ i, i < w.heap.size + 2 → ¬ i ∈ fp → ¬ i ∈ fp' := fun i hi hn hm => by
      rcases (hp.at_ i hm).2.2 with h | h
      · exact hn h
      · omega
    cases hps with
    | cons _ _ _ _ p' q' r' t' h hs =>
      cases hs
      cases h with
      | fd _ _ _ hf _ hk2 =>
        simp only [List.append_nil, List.nil_append] at hnd' hb hk2
        refine ⟨he, ⟨p', Sl', hf, hnd', fun k hk => ⟨(hb k hk).1, (hk2 k hk).2, ?_⟩, ⟨hkeep.os.trans hp.keep.os, hkeep.tape.trans hp.keep.tape, hkeep.output.trans hp.keep.output, Nat.le_trans hp.keep.size hkeep.size, fun i hi hn => (hkeep.block i (Nat.lt_of_lt_of_le hi hp.keep.size) (hno i (by omega) hn)).trans (hp.keep.block i hi hn)⟩, Nat.le_trans hp.size hkeep.size,
          ⟨fun g o h => hext.s g o (hp.ext.s g o h), fun g o h => ?_, fun g o u hs hu => hext.c g o u (hp.ext.s g o hs) (hp.ext.c g o u hs hu)⟩, fun g o h => ?_⟩, hkeep.block _ (by have := hp.size; omega) (hno _ (by omega) fun h => by have := (hfp _ h).1; omega), hkeep.block _ (by have := hp.size; omega) (hno _ (by omega) fun h => by have := (hfp _ h).1; omega)⟩
        · rcases (hb k hk).2 with h | h
          · exact .inr (Nat.le_trans hp.size h)
          · exact (hp.at_ k h).2.2
        · rcases hext.n g o h with h | ⟨h | h, h2⟩
          · rcases hp.ext.n g o h with h | ⟨h, h3⟩
            · exact .inl h
            · exact .inr ⟨h, Nat.lt_of_lt_of_le h3 hkeep.size⟩
          · exact .inr ⟨.inl (Nat.le_trans hp.keep.size h), h2⟩
          · rcases (hp.at_ g h).2.2 with h | h
            · exact .inr ⟨.inr h, h2⟩
            · exact .inr ⟨.inl (by omega), h2⟩
        · rcases hext.n g o h with h | ⟨h | h, h2⟩
          · exact hp.news g o h
          · exact .inr (.inr (Nat.le_trans hp.size h))
          · exact .inr ((hp.at_ g h).2.2)
theorem PMid.set (hSl : ∀ g o, Sl g o → g < w.heap.size) (hfp : ∀ k ∈ fp, k < w.heap.size ∧ ¬ EE.glob k) (hm : PMid Sl w v fp th wr) (j : Nat) (x : Value) : PMid Sl w v fp th (wr.setCell ⟨w.heap.size + 1, j, none⟩ x) := by
  obtain ⟨fp', Slr, hp⟩ := hm
  have hs : ∀ i, i ≠ w.heap.size + 1 → (wr.setCell ⟨w.heap.size + 1, j, none⟩ x).heap[i]? = wr.heap[i]? := fun i hi => Below.heap_setCell _ ⟨w.heap.size + 1, j, none⟩ x i hi
  have hz := sz wr ⟨w.heap.size + 1, j, none⟩ x
  have h1 : ∀ k ∈ fp', k ≠ w.heap.size + 1 := fun k hk e => by
    rcases (hp.at_ k hk).2.2 with h | h
    · have := (hfp k h).1; omega
    · omega
  have h2 : ∀ g o, Slr g o → g ≠ w.heap.size + 1 := fun g o h e => by
    rcases hp.news g o h with h | h | h
    · have := hSl g o h; omega
    · have := (hfp g h).1; omega
    · omega
  refine ⟨fp', Slr, EE.frame _ Slr Slr wr _ _ _ hp.rep (fun _ _ h => h) (fun g o u hg hu => (cell_same (hs g (h2 g o hg))).trans hu) (fun k hk => hs k (h1 k hk)), hp.nd, fun k hk => ⟨by rw [hz]; exact (hp.at_ k hk).1, (hp.at_ k hk).2⟩,
    ⟨(so _ _ _).trans hp.keep.os, (st _ _ _).trans hp.keep.tape, (su _ _ _).trans hp.keep.output, Nat.le_trans hp.keep.size (Nat.le_of_eq hz.symm), fun i hi hn => (hs i (by omega)).trans (hp.keep.block i hi hn)⟩, Nat.le_trans hp.size (Nat.le_of_eq hz.symm),
    ⟨hp.ext.s, fun g o h => (hp.ext.n g o h).imp id fun h => ⟨h.1, by rw [hz]; exact h.2⟩, fun g o u hg hu => (cell_same (hs g (by have := hSl g o hg; omega))).trans (hp.ext.c g o u hg hu)⟩, hp.news⟩
theorem PMid.start (hSl : ∀ g o, Sl g o → g < w.heap.size) (hf : EE.frep th Sl w v fp) (hk : ∀ k ∈ fp, k < w.heap.size ∧ ∀ j, ¬ Sl k j) (hnd : fp.Nodup) (a b : Go.Obj) : PMid Sl w v fp th ((w.alloc a).alloc b) := by
  have hb : Below w.heap.size w ((w.alloc a).alloc b) := below_alloc (below_alloc (Below.refl _ _) _) _
  have hc : ∀ g o u, Sl g o → w.cell? ⟨g, o, none⟩ = some u → ((w.alloc a).alloc b).cell? ⟨g, o, none⟩ = some u := fun g o u hg hu => (cell_same (hb.block g (hSl g o hg))).trans hu
  refine ⟨fp, Sl, EE.frame _ Sl Sl w _ _ _ hf (fun _ _ h => h) hc (fun k hk' => hb.block k (hk k hk').1), hnd, fun k hk' => ⟨Nat.lt_of_lt_of_le (hk k hk').1 hb.size, (hk k hk').2, .inl hk'⟩, keepX_of_below hb _, by simp only [size_alloc]; omega, ⟨fun _ _ h => h, fun _ _ h => .inl h, hc⟩, fun g o h => .inl h⟩
end
end Go.Ev
end
section
open Go Go.Proofs
namespace Go.Ev
open Go.RowKit Go.Proofs.YtokkfbkbnocnoaaGreatDoor Go.Proofs.YtokkfbkbnocnoaaGreatDoorW.PrintWords Go.Proofs.YtokkfbkbnocnoaaGreatDoorW.PrintLast Go.Proofs.YtokkfbkbnocnoaaGreatDoorW.PrintMore
set_option linter.unusedVariables false
set_option linter.unusedSimpArgs false
set_option maxHeartbeats 4000000
set_option maxRecDepth 100000
def PRel (s : Fam) (Sl : Nat → Nat → Prop) (w : World) (v : Value) (fp : List Nat) (L : List ByteArray) (Q : List ByteArray × Thing) (i : Value) (wr : World) : Prop := ∃ (k : Nat) (done : List ByteArray) (th : Thing) (q : List ByteArray × Thing), i = .int .i64 k ∧ k ≤ L.length ∧ done.length = k ∧ partsT s th (L.drop k) = some q ∧ Q = (done ++ q.1, q.2) ∧
  wr.heap[w.heap.size]? = some (.cells #[v] 76 (0, 0)) ∧ wr.heap[w.heap.size + 1]? = some (.cells ((done ++ L.drop k).map Value.string).toArray 9 (0, 0)) ∧ PMid Sl w v fp th wr
theorem split_calls {w W : World} (hiv : EE.inv W) {x : ByteArray} (hx : x.size ≤ 4294967280) :
    Calls Tryz.prog 136 #[.string x, .string ⟨#[36]⟩] W fun e w' => e = .returned (.slice (some ⟨W.heap.size, 0, none⟩) (cutD x).length (cutD x).length) ∧ w' = W.alloc (.cells ((cutD x).map Value.string).toArray 9) := by
  obtain ⟨_, m, hm⟩ := hiv
  have hlen : (cutD x).length = Lib.countB x sep36 + 1 := Lib.splitB_all sep36 (by decide) 0 _ x rfl
  rw [hlen]
  exact Tryz.strings_Split x sep36 m W (by omega) hm (by decide)
section
variable {s : Fam} {Sl : Nat → Nat → Prop} {w : World} {v : Value} {fp : List Nat} {th : Thing}
theorem empty_size (p : ByteArray) : p.toList.isEmpty = true ↔ p.size = 0 := by
  have h0 : (⟨#[]⟩ : ByteArray).toList = [] := by first | rfl | simp | kernel_rfl
  constructor
  · intro h
    have h1 : (p.toList == (⟨#[]⟩ : ByteArray).toList) = true := by rw [h0, List.isEmpty_iff.1 h]; rfl
    rw [ba_dc] at h1
    by_cases e : p = ⟨#[]⟩
    · rw [e]; rfl
    · rw [dc_false e] at h1; cases h1
  · intro h
    have : p = ⟨#[]⟩ := by
      obtain ⟨⟨l⟩⟩ := p
      have : l.length = 0 := h
      rw [List.eq_nil_of_length_eq_zero this]
    rw [this, h0]; rfl
theorem join_calls {wr : World} {b n : Nat} {l : List ByteArray} (hn : l.length = n) (hl : n ≤ 1000000000000) (hb : wr.heap[b]? = some (.cells (l.map Value.string).toArray 9 (0, 0))) (hj : (Lib.join (l.map (·.data.toList)) sep36.data.toList).length ≤ 140737488355328) :
    Calls Tryz.prog 137 #[.slice (some ⟨b, 0, none⟩) n n, .string ⟨#[36]⟩] wr fun e w' => e = .returned (.string (joinD l)) ∧ Below wr.heap.size wr w' := by
  subst hn
  refine Tryz.strings_Join b 0 l.length l sep36 wr (fun j x hx => ?_) (Array.getElem?_eq_some_iff.1 hb).1 (by omega) (Nat.le_refl _) hj
  rw [Nat.zero_add]
  simp only [World.cell?, hb]
  rw [List.getElem?_toArray, List.getElem?_map, hx]
  rfl
theorem PMid.below {wr w' : World} (hm : PMid Sl w v fp th wr) (hSl : ∀ g o, Sl g o → g < w.heap.size) (hb : Below wr.heap.size wr w') : PMid Sl w v fp th w' := by
  obtain ⟨fp', Slr, hp⟩ := hm
  have hlt : ∀ g o, Slr g o → g < wr.heap.size := fun g o h => by
    rcases hp.ext.n g o h with h | ⟨_, h⟩
    · exact Nat.lt_of_lt_of_le (hSl g o h) hp.keep.size
    · exact h
  exact ⟨fp', Slr, EE.frame _ Slr Slr wr _ _ _ hp.rep (fun _ _ h => h) (fun g o u hg hu => (cell_same (hb.block g (hlt g o hg))).trans hu) (fun k hk => hb.block k (hp.at_ k hk).1), hp.nd, fun k hk => ⟨Nat.lt_of_lt_of_le (hp.at_ k hk).1 hb.size, (hp.at_ k hk).2⟩,
    ⟨hb.os.trans hp.keep.os, hb.tape.trans hp.keep.tape, hb.output.trans hp.keep.output, Nat.le_trans hp.keep.size hb.size, fun i hi hn => (hb.block i (Nat.lt_of_lt_of_le hi hp.keep.size)).trans (hp.keep.block i hi hn)⟩, Nat.le_trans hp.size hb.size,
    ⟨hp.ext.s, fun g o h => (hp.ext.n g o h).imp id fun h => ⟨h.1, Nat.lt_of_lt_of_le h.2 hb.size⟩, fun g o u hg hu => (cell_same (hb.block g (Nat.lt_of_lt_of_le (hSl g o hg) hp.keep.size))).trans (hp.ext.c g o u hg hu)⟩, hp.news⟩
theorem prel_next {L : List ByteArray} {Q q2 : List ByteArray × Thing} {k : Nat} {done : List ByteArray} {th : Thing} {x y : ByteArray} {w5 : World} (hlt : k < L.length) (hd : done.length = k) (hdrop : L.drop k = x :: L.drop (k + 1)) (hQ : Q = (done ++ (y :: q2.1, q2.2).1, (y :: q2.1, q2.2).2))
    (hSl : ∀ g o, Sl g o → g < w.heap.size) (hfp : ∀ k ∈ fp, k < w.heap.size ∧ ¬ EE.glob k) (hq : partsT s th (L.drop (k + 1)) = some q2) (hm : PMid Sl w v fp th w5) (h1 : w5.heap[w.heap.size]? = some (.cells #[v] 76 (0, 0)))
    (h2 : w5.heap[w.heap.size + 1]? = some (.cells ((done ++ L.drop k).map Value.string).toArray 9 (0, 0))) : PRel s Sl w v fp L Q (.int .i64 ((k : Int) + 1)) (w5.setCell ⟨w.heap.size + 1, k, none⟩ (.string y)) := by
  refine ⟨k + 1, done ++ [y], th, q2, by simp, hlt, by simp [hd], hq, by rw [hQ]; simp, (Below.heap_setCell _ ⟨w.heap.size + 1, k, none⟩ _ _ (by show w.heap.size ≠ w.heap.size + 1; omega)).trans h1, ?_, hm.set hSl hfp k _⟩
  rw [cells_set h2]
  congr 2
  rw [hdrop]
  subst hd
  simp
theorem parts_walk (hS : ∀ f, SpecOK Tryz.prog EE (sp s) f) (hSl : ∀ g o, Sl g o → g < w.heap.size) (hiv : EE.inv w) (hfp : ∀ k ∈ fp, k < w.heap.size ∧ ¬ EE.glob k) (hf : EE.frep th Sl w v fp) (hk : ∀ k ∈ fp, k < w.heap.size ∧ ∀ j, ¬ Sl k j) (hnd : fp.Nodup)
    {x : ByteArray} {q : List ByteArray × Thing} (hx0 : x.toList.isEmpty = false) (hx : x.size ≤ 4294967280) (hL : (cutD x).length ≤ 1000000000000) (hq : partsT s th (cutD x) = some q) (hj : (Lib.join (q.1.map (·.data.toList)) sep36.data.toList).length ≤ 140737488355328)
    (g : Nat) (cs : Array Value) (hv : v = .func (.func g) #[] cs) (hcs : (g = 46 ∧ ∃ a, cs = #[.pointer a]) ∨ (g = 38 ∧ ∃ a b, cs = #[.pointer a, .pointer b])) :
    Calls Tryz.prog 95 #[.agg #[v], .string x] w fun e w' => e = .returned (.string (joinD q.1)) ∧ PMid Sl w v fp q.2 w' := by
  have hst := PMid.start (th := th) hSl hf hk hnd (.cells #[v] 76) (.cells ((cutD x).map Value.string).toArray 9)
  have HST := Lib.hid hst
  have HS := Lib.hid hS
  have HSL := Lib.hid hSl
  have HI := Lib.hid (inv_below hiv (below_alloc (Below.refl w.heap.size w) (.cells #[v] 76)))
  have HI0 := Lib.hid hiv
  have HFP := Lib.hid hfp
  have HQ := Lib.hid hq
  have HJ := Lib.hid hj
  clear hst hS hSl hiv hfp hf hk hnd hq hj
  subst hv
  go_enter Tryz.func95, Tryz.ntmps95
  go_wp2_with (first | (go_at_call 136; go_must (refine (split_calls (w := w) HI.out hx).mono ?_); go_must (rintro e w1 ⟨rfl, rfl⟩)))
  go_loopw [14] (fun i wr => PRel s Sl w (.func (.func g) #[] cs) fp (cutD x) q i wr) (fun i _ => (cutD x).length - (RowKit.intOf i).toNat)
  case atStart =>
    refine ⟨0, [], th, q, rfl, Nat.zero_le _, rfl, HQ.out, rfl, ?_, ?_, HST.out⟩
    · rw [Below.heap_alloc _ _ _ (by simp only [size_alloc]; omega)]
      exact heap_top _ _
    · have := heap_top (w.alloc (.cells #[.func (.func g) #[] cs] 76)) (.cells ((cutD x).map Value.string).toArray 9)
      rw [size_alloc] at this
      simpa using this
  case round =>
    obtain ⟨k, done, th', q', rfl, hk, hd, hq', hQ, h1, h2, hm⟩ := hrel
    have H2 := Lib.hid h2
    have H1 := Lib.hid h1
    have HM := Lib.hid hm
    have HQ' := Lib.hid hq'
    by_cases hlt : k < (cutD x).length
    · have c1 : wr.cell? ⟨w.heap.size, 0, none⟩ = some (.func (.func g) #[] cs) := by simp [World.cell?, h1]
      have hget : (done ++ (cutD x).drop k)[k]? = some (cutD x)[k] := by
        rw [List.getElem?_append_right (by omega), hd, Nat.sub_self, List.getElem?_drop, Nat.add_zero, List.getElem?_eq_getElem hlt]
      have c2 : wr.cell? ⟨w.heap.size + 1, k, none⟩ = some (.string (cutD x)[k]) := by
        have e : ((done ++ (cutD x).drop k).map Value.string)[k]? = some (.string (cutD x)[k]) := by rw [List.getElem?_map, hget]; rfl
        simp only [World.cell?, h2]
        rw [List.getElem?_toArray]
        exact e
      have hdrop : (cutD x).drop k = (cutD x)[k] :: (cutD x).drop (k + 1) := (List.getElem_cons_drop hlt).symm
      have f2 := Lib.frozen_of_heap h2 k
      clear h1 h2 hm hq'
      cases hemp : (cutD x)[k].toList.isEmpty with
      | true =>
        have hsz := (empty_size (cutD x)[k]).1 hemp
        have hpt := HQ'.out
        rw [hdrop] at hpt
        simp only [partsT, hsz, if_true] at hpt
        obtain ⟨q2, hq2, hqq⟩ := Option.map_eq_some_iff.1 hpt
        have HQ2 := Lib.hid hq2
        subst hqq
        clear hpt hq2
        go_wp2
        go_round
        · refine ⟨k + 1, done ++ [(cutD x)[k]], th', q2, by simp, hlt, by simp [hd], HQ2.out, by rw [hQ]; simp, H1.out, ?_, HM.out⟩
          rw [H2.out, hdrop]
          simp
        · simp only [RowKit.intOf]; omega
      | false =>
        have hsz : ¬ (cutD x)[k].size = 0 := fun h => by rw [(empty_size _).2 h] at hemp; cases hemp
        have hpt := HQ'.out
        rw [hdrop] at hpt
        simp only [partsT, hsz, if_false] at hpt
        obtain ⟨t, ht, hpt⟩ := Option.bind_eq_some_iff.1 hpt
        obtain ⟨q2, hq2, hqq⟩ := Option.map_eq_some_iff.1 hpt
        have HQ2 := Lib.hid hq2
        have HT := Lib.hid ht
        subst hqq
        clear hpt hq2 ht
        rcases hcs with ⟨rfl, a, rfl⟩ | ⟨rfl, a, b, rfl⟩
        · go_wp2_with (first | (go_at_call 46; go_must (refine (by_step HS.out HSL.out HI0.out HFP.out rfl rfl HM.out HT.out rfl).mono ?_); go_must (rintro e w5 ⟨rfl, hm5, e1, e2⟩; have HM5 := Lib.hid hm5; have b5 := e2.trans H2.out; have B5 := Lib.hid b5; have B1 := Lib.hid (e1.trans H1.out); have c5 : w5.cell? ⟨w.heap.size + 1, k, none⟩ = some (.string (cutD x)[k]) := (cell_same e2).trans c2; have f5 := Lib.frozen_of_heap b5 k; clear hm5 e1 e2 b5)))
          go_round
          · exact (prel_next hlt hd hdrop hQ HSL.out HFP.out HQ2.out HM5.out B1.out B5.out)
          · simp only [RowKit.intOf]; omega
        · go_wp2_with (first | (go_at_call 38; go_must (refine (by_step HS.out HSL.out HI0.out HFP.out rfl rfl HM.out HT.out rfl).mono ?_); go_must (rintro e w5 ⟨rfl, hm5, e1, e2⟩; have HM5 := Lib.hid hm5; have b5 := e2.trans H2.out; have B5 := Lib.hid b5; have B1 := Lib.hid (e1.trans H1.out); have c5 : w5.cell? ⟨w.heap.size + 1, k, none⟩ = some (.string (cutD x)[k]) := (cell_same e2).trans c2; have f5 := Lib.frozen_of_heap b5 k; clear hm5 e1 e2 b5)))
          go_round
          · exact (prel_next hlt hd hdrop hQ HSL.out HFP.out HQ2.out HM5.out B1.out B5.out)
          · simp only [RowKit.intOf]; omega
    · have hkl : k = (cutD x).length := by omega
      have hpt := HQ'.out
      rw [hkl, List.drop_length] at hpt
      simp only [partsT, Option.some.injEq] at hpt
      subst hpt
      have hrow : wr.heap[w.heap.size + 1]? = some (.cells (done.map Value.string).toArray 9 (0, 0)) := by
        rw [h2, hkl, List.drop_length, List.append_nil]
      have HROW := Lib.hid hrow
      have hq1 : q.1 = done := by rw [hQ]; simp
      have hq2 : q.2 = th' := by rw [hQ]
      have HJ2 : Hid ((Lib.join (done.map (·.data.toList)) sep36.data.toList).length ≤ 140737488355328) := Lib.hid (by rw [← hq1]; exact HJ.out)
      clear h1 h2 hm hq' hrow
      go_wp2_with (first | (go_at_call 137; go_must (refine (join_calls (hd.trans hkl) hL HROW.out HJ2.out).mono ?_); go_must (rintro e w9 ⟨rfl, hb9⟩; have HB9 := Lib.hid hb9; clear hb9)))
      go_ret
      exact ⟨by rw [hq1]; rfl, by rw [hq2]; exact HM.out.below HSL.out HB9.out⟩
end
theorem walk_empty (w : World) (v : Value) (hv : v.oneCell' = true) (h2 : ∃ g cs, v = .func (.func g) #[] cs) : Calls Tryz.prog 95 #[.agg #[v], .string ⟨#[]⟩] w fun e w' => e = .returned (.string ⟨#[]⟩) ∧ Below w.heap.size w w' := by
  obtain ⟨g, cs, rfl⟩ := h2
  have HB := Lib.hid (below_alloc (Below.refl w.heap.size w) (.cells #[.func (.func g) #[] cs] 76))
  go_enter Tryz.func95, Tryz.ntmps95
  go_wp2
  go_ret
  exact ⟨rfl, HB.out⟩
theorem frep_func {Sl : Nat → Nat → Prop} {w : World} {v : Value} {fp : List Nat} {th : Thing} (h : EE.frep th Sl w v fp) : ∃ g cs, v = .func (.func g) #[] cs ∧ ((g = 46 ∧ ∃ a, cs = #[.pointer a]) ∨ (g = 38 ∧ ∃ a b, cs = #[.pointer a, .pointer b])) := by
  cases th with
  | ren l => obtain ⟨g, sv, rfl, _⟩ := h; exact ⟨46, _, rfl, .inl ⟨rfl, _, rfl⟩⟩
  | names l => obtain ⟨gs, gm, go, sv, n, rfl, _⟩ := h; exact ⟨38, _, rfl, .inr ⟨rfl, _, _, rfl⟩⟩
theorem answers_parts {Sl : Nat → Nat → Prop} {w w' : World} {v : Value} {fp : List Nat} {th : Thing} {y : ByteArray} (h1 : v.oneCell' = true) (hm : PMid Sl w v fp th w') : Answers EE Sl w fp [v] (rc_tree_mapper_parts.enc (y, th, ())) (.string y) w' := by
  obtain ⟨fp', Slr, hp⟩ := hm
  refine ⟨Slr, [], fp', [], [v], hp.keep, hp.ext, .c _ _ _ _ (.d _ _ (.lit _ rfl)), ?_, by simpa using hp.nd, fun k hk => ?_⟩
  · have := PReps.cons (E := EE) (Sl := Slr) (w := w') (X0 := fun _ => True) (B0 := 0) v [] (.fd th) [] fp' [] [v] [] (.fd _ _ _ hp.rep h1 fun k hk => ⟨(hp.at_ k hk).1, (hp.at_ k hk).2.1⟩) .nil
    rw [List.append_nil] at this
    exact this
  · have := hp.at_ k (by simpa using hk)
    exact ⟨this.1, this.2.2.elim .inr fun h => .inl (by omega)⟩
theorem preps_fd {Sl : Nat → Nat → Prop} {w : World} {X0 : Nat → Prop} {B0 : Nat} {us : List Value} {th : Thing} {fp : List Nat} {rs : List Value} (h : PReps EE Sl w X0 B0 us [.fd th] fp rs) : ∃ v, us = [v] ∧ EE.frep th Sl w v fp ∧ v.oneCell' = true ∧ (∀ k ∈ fp, k < w.heap.size ∧ ∀ j, ¬ Sl k j) ∧ rs = [v] := by
  cases h with
  | cons v us x xs p q r t h1 hs =>
    cases hs
    cases h1 with
    | fd _ _ _ hf ho hk =>
      rw [List.append_nil]
      exact ⟨v, rfl, hf, ho, hk, rfl⟩
theorem ok_tree_mapper_parts (s : Fam) (k : Nat) (hS : ∀ f, SpecOK Tryz.prog EE (sp s) f) : SpecA Tryz.prog EE 95 (ansOf c_tree_mapper_parts rc_tree_mapper_parts.enc fun x => B_tree_mapper_parts s k x.1 x.2.1) := by
  refine specA_by _ _ _ fun x y hy Sl w us fp rs hSl hargs hnd hlt hiv => ?_
  obtain ⟨⟨th, _⟩, x, _⟩ := x
  obtain ⟨m, vs, fp1, fp2, rs1, rs2, rfl, rfl, rfl, h1, h2⟩ := areps_cons hargs
  obtain ⟨vs', rfl, h3⟩ := areps_lit h2
  obtain ⟨rfl, rfl, rfl⟩ := areps_nil h3
  obtain ⟨v, hmv, hf, ho, hk, hrs⟩ : ∃ v, m = .agg #[v] ∧ EE.frep th Sl w v fp1 ∧ v.oneCell' = true ∧ (∀ k ∈ fp1, k < w.heap.size ∧ ∀ j, ¬ Sl k j) ∧ rs1 = [v] := by
    cases h1 with
    | agg vs _ _ _ h =>
      obtain ⟨l⟩ := vs
      obtain ⟨v, hl, hf, ho, hk, hr⟩ := preps_fd h
      exact ⟨v, by rw [show l = [v] from hl], hf, ho, hk, hr⟩
  subst hmv hrs
  simp only [List.append_nil] at hnd hlt ⊢
  refine ⟨95, #[_, _], .inl ⟨by decide, rfl, rfl⟩, ⟨Tryz.f95, Tryz.func95, by kernel_rfl, by kernel_rfl⟩, ?_⟩
  obtain ⟨g, cs, hv, hcs⟩ := frep_func hf
  have hy : B_tree_mapper_parts s k (th, ()) x = some y := hy
  unfold B_tree_mapper_parts at hy
  split at hy
  · rename_i hx
    injection hy with hy
    subst hy
    have : x = ⟨#[]⟩ := by
      obtain ⟨⟨l⟩⟩ := x
      have : l.length = 0 := hx
      rw [List.eq_nil_of_length_eq_zero this]
    subst this
    refine (walk_empty w v ho ⟨g, cs, hv⟩).mono fun e w' ⟨he, hb⟩ => ⟨_, he, ?_⟩
    have hc : ∀ g o u, Sl g o → w.cell? ⟨g, o, none⟩ = some u → w'.cell? ⟨g, o, none⟩ = some u := fun g o u hg hu => (cell_same (hb.block g (hSl g o hg))).trans hu
    refine ⟨Sl, [], fp1, [], [v], keepX_of_below hb _, ⟨fun _ _ h => h, fun _ _ h => .inl h, hc⟩, .c _ _ _ _ (.d _ _ (.lit _ rfl)), ?_, by simpa using hnd, fun k hk' => ?_⟩
    · have := PReps.cons (E := EE) (Sl := Sl) (w := w') (X0 := fun _ => True) (B0 := 0) v [] (.fd th) [] fp1 [] [v] [] (.fd _ _ _ (EE.frame _ Sl Sl w _ _ _ hf (fun _ _ h => h) hc fun k hk' => hb.block k (hk k hk').1) ho fun k hk' => ⟨Nat.lt_of_lt_of_le (hk k hk').1 hb.size, (hk k hk').2⟩) .nil
      rw [List.append_nil] at this
      exact this
    · have := hk k (by simpa using hk')
      exact ⟨Nat.lt_of_lt_of_le this.1 hb.size, .inr (by simpa using hk')⟩
  · rename_i hx
    split at hy
    · cases hy
    · rename_i hx2
      split at hy
      · cases hy
      · rename_i hx3
        obtain ⟨q, hq, hy⟩ := Option.bind_eq_some_iff.1 hy
        split at hy
        · rename_i hj
          injection hy with hy
          subst hy
          have hx0 : x.toList.isEmpty = false := by
            cases h : x.toList.isEmpty with
            | true => exact absurd ((empty_size x).1 h) hx
            | false => rfl
          exact (parts_walk hS hSl hiv hlt hf hk hnd hx0 (by omega) (by omega) hq hj g cs hv hcs).mono fun e w' ⟨he, hm⟩ => ⟨_, he, answers_parts ho hm⟩
        · cases hy
end Go.Ev
end
section
open Go
namespace Go.Ev
set_option maxRecDepth 100000
set_option maxHeartbeats 4000000
set_option linter.unusedVariables false
set_option linter.unusedSimpArgs false
variable (h : Fam)
theorem lens_ne {α : Type} (l m : List α) (hlm : ¬ l.length = m.length) : ((l.length : Int) != (m.length : Int)) = true := by simp; omega
theorem lens_eq {α : Type} (l m : List α) (hlm : l.length = m.length) : ((l.length : Int) != (m.length : Int)) = false := by simp [hlm]
theorem lens_dc {α : Type} (l m : List α) : ((l.length : Int) != (m.length : Int)) = dc (¬ l.length = m.length) := by
  rw [int_ndc]; exact dc_eq (by omega)
theorem by_lens {α : Type} (l m : List α) (X : Option Bool) (hX : l.length = m.length → X = some (dc (l = m))) : (if ((l.length : Int) != (m.length : Int)) = true then some false else X) = some (dc (l = m)) := by
  by_cases hlm : l.length = m.length
  · rw [lens_eq l m hlm, if_neg (by simp), hX hlm]
  · rw [lens_ne l m hlm, if_pos rfl]
    have : l ≠ m := fun e => hlm (by rw [e])
    rw [dc_false this]
theorem TVar.eq_iff (x y : TVar) : x = y ↔ x.sub_Marks = y.sub_Marks ∧ x.Name = y.Name ∧ x.T_Kind = y.T_Kind ∧ x.T_Size = y.T_Size ∧ x.T_Name = y.T_Name := by
  cases x; cases y; simp [TVar.sub_Marks]; simp only [and_assoc]
theorem bk_Var_pos (x : TVar) : 1 ≤ bk_TVar x := by cases x; simp [bk_TVar]
theorem bks_Var_len (l : List TVar) : l.length ≤ bks_TVar l := by rw [bks_TVar_eq]; exact len_sum _ bk_Var_pos l
theorem bks_Var_mem (l : List TVar) (i : Nat) (hi : i < l.length) : bk_TVar l[i] ≤ bks_TVar l := by rw [bks_TVar_eq]; exact mem_sum _ l i hi
theorem fts_Var_mem (l : List TVar) (hl : fts_TVar l) (i : Nat) (hi : i < l.length) : ft_TVar l[i] := (fts_TVar_iff l).1 hl _ (List.getElem_mem hi)
theorem bk_Var (x : TVar) : bks_v9 x.Marks_Before + bks_v9 x.Marks_Trail + 5 ≤ bk_TVar x := by cases x; simp [bk_TVar]; omega
theorem ft_Var (x : TVar) (hx : ft_TVar x) : x.Marks_Before.length ≤ maxLen ∧ x.Marks_Trail.length ≤ maxLen := by cases x; simp only [ft_TVar] at hx; exact ⟨hx.1.1, hx.2.1.1⟩
theorem L_EqualFunc_Var (s : Fam) (k : Nat) (x y : List TVar) (u : Unit × Unit) : ∀ j v0 v1 v2 v3, Lslices_EqualFunc_Var_4 s k x y u j v0 v1 v2 v3 = eqG dd_TVar (fun a b => s.f_tree_sameVar (a, b, ())) j v0 v1 v2 v3 := by
  intro j
  induction j with
  | zero => intros; rfl
  | succ j ih => intros; simp only [Lslices_EqualFunc_Var_4, eqG, ih]
theorem sameVar_ok (k : Nat) (a b : TVar) (ha : ft_TVar a) (hk : bk_TVar a ≤ k) : (FF h (k + 3)).f_tree_sameVar (a, b, ()) = some (dc (a = b)) := by
  show B_tree_sameVar (FF h (k + 2)) (k + 2) a b = _
  have hb := bk_Var a
  obtain ⟨a1, a2⟩ := ft_Var a ha
  have l1 := bks_v9_len a.Marks_Before
  have l2 := bks_v9_len a.Marks_Trail
  simp only [B_tree_sameVar, marks_ok h k a.sub_Marks b.sub_Marks (by show a.Marks_Before.length < _; omega) a1 (by show a.Marks_Trail.length < _; omega) a2, Option.bind_some, Bool.true_and, Bool.and_true, int_dc, ba_dc, and_dc]
  exact congrArg some (dc_eq (by rw [TVar.eq_iff]; simp only [and_assoc]))
theorem EqualFunc_Var_ok (k : Nat) (l m : List TVar) (hm : l.length ≤ maxLen) (hl : fts_TVar l) (hk : bks_TVar l ≤ k) : (FF h (k + 4)).f_slices_EqualFunc_Var (l, m, ((), ()), ()) = some (dc (l = m)) := by
  show B_slices_EqualFunc_Var (FF h (k + 3)) (k + 3) l m ((), ()) = _
  unfold B_slices_EqualFunc_Var
  rw [L_EqualFunc_Var]
  have := bks_Var_len l
  exact eqF _ _ l m (k + 3) (by omega) hm fun i hi hi' => sameVar_ok h k _ _ (fts_Var_mem l hl i hi) (by have := bks_Var_mem l i hi; omega)
theorem sameVars_ok (k : Nat) (l m : List TVar) (hm : l.length ≤ maxLen) (hl : fts_TVar l) (hk : bks_TVar l ≤ k) : (FF h (k + 3)).f_r07_sameVars (l, m, ()) = some (dc (l = m)) := by
  show B_r07_sameVars (FF h (k + 2)) (k + 2) l m = _
  unfold B_r07_sameVars
  refine by_lens l m _ fun hlm => ?_
  have hlen := bks_Var_len l
  have key : ∀ j i, i ≤ l.length → l.length - i < j → Lr07_sameVars_4 (FF h (k + 2)) (k + 2) l m j l m (i : Int) = some (dc (l.drop i = m.drop i)) := by
    refine up_ind l.length (fun j => ?_) (fun j i hi ihj => ?_)
    · simp only [Lr07_sameVars_4]
      rw [if_neg (by simp), dc_true (by simp [hlm])]
    · have h' : i < m.length := by omega
      have c1 : decide ((i : Int) < (l.length : Int)) = true := by simpa using hi
      have c2 : (0 : Int) ≤ (i : Int) := by omega
      have c3 : (i : Int) < (l.length : Int) := by omega
      have c4 : (i : Int) < (m.length : Int) := by omega
      have hbi := bks_Var_mem l i hi
      have hb := bk_Var l[i]
      obtain ⟨a1, a2⟩ := ft_Var l[i] (fts_Var_mem l hl i hi)
      have l1 := bks_v9_len l[i].Marks_Before
      have l2 := bks_v9_len l[i].Marks_Trail
      simp only [Lr07_sameVars_4, c1, c2, c3, c4, if_true, getD_at l i _ hi, getD_at m i _ h', wrap_succ hi hm, ihj,
        sameMarks_ok h k l[i].sub_Marks m[i].sub_Marks (by show l[i].Marks_Before.length < _; omega) a1 (by show l[i].Marks_Trail.length < _; omega) a2, Option.bind_some, Bool.false_or, Bool.and_true, int_dc, ba_dc, and_dc, not_dc, or_dc, ifn_dc, iff_dc]
      refine congrArg some (dc_eq ?_)
      rw [drop_iff l m i hi h', TVar.eq_iff]
      simp only [not_or, Classical.not_not, and_assoc]
  have := key (k + 2) 0 (Nat.zero_le _) (by omega)
  simpa using this
theorem TField.eq_iff (x y : TField) : x = y ↔ x.sub_Marks = y.sub_Marks ∧ x.Name = y.Name ∧ x.Kind = y.Kind := by
  cases x; cases y; simp [TField.sub_Marks]; simp only [and_assoc]
theorem bk_Field_pos (x : TField) : 1 ≤ bk_TField x := by cases x; simp [bk_TField]
theorem bks_Field_len (l : List TField) : l.length ≤ bks_TField l := by rw [bks_TField_eq]; exact len_sum _ bk_Field_pos l
theorem bks_Field_mem (l : List TField) (i : Nat) (hi : i < l.length) : bk_TField l[i] ≤ bks_TField l := by rw [bks_TField_eq]; exact mem_sum _ l i hi
theorem fts_Field_mem (l : List TField) (hl : fts_TField l) (i : Nat) (hi : i < l.length) : ft_TField l[i] := (fts_TField_iff l).1 hl _ (List.getElem_mem hi)
theorem bk_Field (x : TField) : bks_v9 x.Marks_Before + bks_v9 x.Marks_Trail + 4 ≤ bk_TField x := by cases x; simp [bk_TField]; omega
theorem ft_Field (x : TField) (hx : ft_TField x) : x.Marks_Before.length ≤ maxLen ∧ x.Marks_Trail.length ≤ maxLen := by cases x; simp only [ft_TField] at hx; exact ⟨hx.1.1, hx.2.1.1⟩
theorem L_EqualFunc_Field (s : Fam) (k : Nat) (x y : List TField) (u : Unit × Unit) : ∀ j v0 v1 v2 v3, Lslices_EqualFunc_Field_4 s k x y u j v0 v1 v2 v3 = eqG dd_TField (fun a b => s.f_tree_sameRec_1 (a, b, ())) j v0 v1 v2 v3 := by
  intro j
  induction j with
  | zero => intros; rfl
  | succ j ih => intros; simp only [Lslices_EqualFunc_Field_4, eqG, ih]
theorem sameField_ok (k : Nat) (a b : TField) (ha : ft_TField a) (hk : bk_TField a ≤ k) : (FF h (k + 3)).f_tree_sameRec_1 (a, b, ()) = some (dc (a = b)) := by
  show B_tree_sameRec_1 (FF h (k + 2)) (k + 2) a b = _
  have hb := bk_Field a
  obtain ⟨a1, a2⟩ := ft_Field a ha
  have l1 := bks_v9_len a.Marks_Before
  have l2 := bks_v9_len a.Marks_Trail
  simp only [B_tree_sameRec_1, marks_ok h k a.sub_Marks b.sub_Marks (by show a.Marks_Before.length < _; omega) a1 (by show a.Marks_Trail.length < _; omega) a2, Option.bind_some, Bool.true_and, Bool.and_true, int_dc, ba_dc, and_dc]
  exact congrArg some (dc_eq (by rw [TField.eq_iff]; simp only [and_assoc]))
theorem EqualFunc_Field_ok (k : Nat) (l m : List TField) (hm : l.length ≤ maxLen) (hl : fts_TField l) (hk : bks_TField l ≤ k) : (FF h (k + 4)).f_slices_EqualFunc_Field (l, m, ((), ()), ()) = some (dc (l = m)) := by
  show B_slices_EqualFunc_Field (FF h (k + 3)) (k + 3) l m ((), ()) = _
  unfold B_slices_EqualFunc_Field
  rw [L_EqualFunc_Field]
  have := bks_Field_len l
  exact eqF _ _ l m (k + 3) (by omega) hm fun i hi hi' => sameField_ok h k _ _ (fts_Field_mem l hl i hi) (by have := bks_Field_mem l i hi; omega)
theorem TRec.eq_iff (x y : TRec) : x = y ↔ x.sub_Marks = y.sub_Marks ∧ x.Name = y.Name ∧ x.End = y.End ∧ x.Fields = y.Fields := by
  cases x; cases y; simp [TRec.sub_Marks]
  constructor
  · rintro ⟨a, b, c, d, e⟩; exact ⟨⟨a, b⟩, c, e, d⟩
  · rintro ⟨⟨a, b⟩, c, e, d⟩; exact ⟨a, b, c, d, e⟩
theorem bk_Rec_pos (x : TRec) : 1 ≤ bk_TRec x := by cases x; simp [bk_TRec]
theorem bks_Rec_len (l : List TRec) : l.length ≤ bks_TRec l := by rw [bks_TRec_eq]; exact len_sum _ bk_Rec_pos l
theorem bks_Rec_mem (l : List TRec) (i : Nat) (hi : i < l.length) : bk_TRec l[i] ≤ bks_TRec l := by rw [bks_TRec_eq]; exact mem_sum _ l i hi
theorem fts_Rec_mem (l : List TRec) (hl : fts_TRec l) (i : Nat) (hi : i < l.length) : ft_TRec l[i] := (fts_TRec_iff l).1 hl _ (List.getElem_mem hi)
theorem bk_Rec (x : TRec) : bks_v9 x.Marks_Before + bks_v9 x.Marks_Trail + bks_TField x.Fields + bks_v9 x.End + 5 ≤ bk_TRec x := by cases x; simp [bk_TRec]; omega
theorem ft_Rec (x : TRec) (hx : ft_TRec x) : x.Marks_Before.length ≤ maxLen ∧ x.Marks_Trail.length ≤ maxLen ∧ (x.Fields.length ≤ maxLen ∧ fts_TField x.Fields) ∧ x.End.length ≤ maxLen := by cases x; simp only [ft_TRec] at hx; exact ⟨hx.1.1, hx.2.1.1, hx.2.2.2.1, hx.2.2.2.2.1⟩
theorem L_EqualFunc_Rec (s : Fam) (k : Nat) (x y : List TRec) (u : Unit × Unit) : ∀ j v0 v1 v2 v3, Lslices_EqualFunc_Rec_4 s k x y u j v0 v1 v2 v3 = eqG dd_TRec (fun a b => s.f_tree_sameRec (a, b, ())) j v0 v1 v2 v3 := by
  intro j
  induction j with
  | zero => intros; rfl
  | succ j ih => intros; simp only [Lslices_EqualFunc_Rec_4, eqG, ih]
theorem sameRec_ok (k : Nat) (a b : TRec) (ha : ft_TRec a) (hk : bk_TRec a ≤ k) : (FF h (k + 5)).f_tree_sameRec (a, b, ()) = some (dc (a = b)) := by
  show B_tree_sameRec (FF h (k + 4)) (k + 4) a b = _
  have hb := bk_Rec a
  obtain ⟨a1, a2, a3, a4⟩ := ft_Rec a ha
  have l1 := bks_v9_len a.Marks_Before
  have l2 := bks_v9_len a.Marks_Trail
  have l3 := bks_v9_len a.End
  simp only [B_tree_sameRec, marks_ok h (k + 2) a.sub_Marks b.sub_Marks (by show a.Marks_Before.length < _; omega) a1 (by show a.Marks_Trail.length < _; omega) a2, Equal_string_ok h (k + 3) a.End b.End (by omega) a4, EqualFunc_Field_ok h k a.Fields b.Fields a3.1 a3.2 (by omega), Option.bind_some, Bool.true_and, Bool.and_true, int_dc, ba_dc, and_dc, if_dc]
  exact congrArg some (dc_eq (by rw [TRec.eq_iff]; simp only [and_assoc]))
theorem EqualFunc_Rec_ok (k : Nat) (l m : List TRec) (hm : l.length ≤ maxLen) (hl : fts_TRec l) (hk : bks_TRec l ≤ k) : (FF h (k + 6)).f_slices_EqualFunc_Rec (l, m, ((), ()), ()) = some (dc (l = m)) := by
  show B_slices_EqualFunc_Rec (FF h (k + 5)) (k + 5) l m ((), ()) = _
  unfold B_slices_EqualFunc_Rec
  rw [L_EqualFunc_Rec]
  have := bks_Rec_len l
  exact eqF _ _ l m (k + 5) (by omega) hm fun i hi hi' => sameRec_ok h k _ _ (fts_Rec_mem l hl i hi) (by have := bks_Rec_mem l i hi; omega)
theorem TRoutine.eq_iff (x y : TRoutine) : x = y ↔ x.sub_Marks = y.sub_Marks ∧ x.Name = y.Name ∧ x.Result = y.Result ∧ x.Params = y.Params ∧ x.Vars = y.Vars ∧ x.Inner = y.Inner ∧ x.Body = y.Body ∧ x.End = y.End := by
  cases x; cases y; simp [TRoutine.sub_Marks]; simp only [and_assoc]
theorem bk_Routine_pos (x : TRoutine) : 1 ≤ bk_TRoutine x := by cases x; simp [bk_TRoutine]
theorem bk_Param_pos (x : TParam) : 1 ≤ bk_TParam x := by cases x; simp [bk_TParam]
theorem bks_Param_len (l : List TParam) : l.length ≤ bks_TParam l := by rw [bks_TParam_eq]; exact len_sum _ bk_Param_pos l
theorem bks_Routine_len (l : List TRoutine) : l.length ≤ bks_TRoutine l := by rw [bks_TRoutine_eq]; exact len_sum _ bk_Routine_pos l
theorem bks_Routine_mem (l : List TRoutine) (i : Nat) (hi : i < l.length) : bk_TRoutine l[i] ≤ bks_TRoutine l := by rw [bks_TRoutine_eq]; exact mem_sum _ l i hi
theorem fts_Routine_mem (l : List TRoutine) (hl : fts_TRoutine l) (i : Nat) (hi : i < l.length) : ft_TRoutine l[i] := (fts_TRoutine_iff l).1 hl _ (List.getElem_mem hi)
theorem bk_Routine (x : TRoutine) : bks_v9 x.Marks_Before + bks_v9 x.Marks_Trail + bks_TParam x.Params + bks_TVar x.Vars + bks_TRoutine x.Inner + bks_TStmt x.Body + bks_v9 x.End + 9 ≤ bk_TRoutine x := by cases x; simp [bk_TRoutine]; omega
theorem ft_Routine (x : TRoutine) (hx : ft_TRoutine x) : x.Marks_Before.length ≤ maxLen ∧ x.Marks_Trail.length ≤ maxLen ∧ x.Params.length ≤ maxLen ∧ (x.Vars.length ≤ maxLen ∧ fts_TVar x.Vars) ∧ (x.Inner.length ≤ maxLen ∧ fts_TRoutine x.Inner) ∧ (x.Body.length ≤ maxLen ∧ fts_TStmt x.Body) ∧ x.End.length ≤ maxLen := by
  cases x; simp only [ft_TRoutine] at hx
  obtain ⟨⟨a1, _⟩, ⟨a2, _⟩, a3, _, ⟨a4, _⟩, a5, a6, a7, ⟨a8, _⟩⟩ := hx
  exact ⟨a1, a2, a4, a5, a6, a7, a8⟩
theorem L_EqualFunc_Routine (s : Fam) (k : Nat) (x y : List TRoutine) (u : Unit × Unit) : ∀ j v0 v1 v2 v3, Lslices_EqualFunc_Routine_4 s k x y u j v0 v1 v2 v3 = eqG dd_TRoutine (fun a b => s.f_tree_sameRoutine (a.re, b.re, ())) j v0 v1 v2 v3 := by
  intro j
  induction j with
  | zero => intros; rfl
  | succ j ih => intros; simp only [Lslices_EqualFunc_Routine_4, eqG, ih]
theorem SameRoutines_10_ok (s : Fam) (k : Nat) (x y : List TRoutine) (r4 : List TRoutine → List TRoutine → Int → Option Bool) (u0 u1 : List TRoutine) (u2 : Int) (u4 u5 : List ByteArray) (u6 : ByteArray) (u7 : Int) (P : List TParam) (u9 : List TVar) (u10 : List TRoutine) (u11 : List TStmt) (u12 u13 u14 : List ByteArray) (u15 : ByteArray) (u16 : Int) (R : List TParam) (u18 : List TVar) (u19 : List TRoutine) (u20 : List TStmt) (u21 : List ByteArray)
    (hl : P.length = R.length) (hm : P.length ≤ maxLen) {p1 p2 p3 p4 : Prop} (h1 : s.f_r07_sameVars (u9, u18, ()) = some (dc p1)) (h2 : s.f_r07_SameRoutines (u10, u19, ()) = some (dc p2)) (h3 : s.f_r07_SameStmts (u11, u20, ()) = some (dc p3)) (h4 : r4 u0 u1 (IntKind.i64.wrap (u2 + 1)) = some (dc p4)) :
    ∀ j i, i ≤ P.length → P.length - i < j → Lr07_SameRoutines_10 s k x y r4 j u0 u1 u2 (i : Int) u4 u5 u6 u7 P u9 u10 u11 u12 u13 u14 u15 u16 R u18 u19 u20 u21 = some (dc (P.drop i = R.drop i ∧ p1 ∧ p2 ∧ p3 ∧ p4)) := by
  refine up_ind P.length (fun j => ?_) (fun j i hi ihj => ?_)
  · simp only [Lr07_SameRoutines_10]
    rw [if_neg (by simp)]
    simp only [h1, h2, h3, h4, Option.bind_some, Bool.false_or, not_dc, ifn_dc, iff_dc, Classical.not_not]
    exact congrArg some (dc_eq (by simp [hl]))
  · have h' : i < R.length := by omega
    have c1 : decide ((i : Int) < (P.length : Int)) = true := by simpa using hi
    have c2 : (0 : Int) ≤ (i : Int) := by omega
    have c3 : (i : Int) < (P.length : Int) := by omega
    have c4 : (i : Int) < (R.length : Int) := by omega
    simp only [Lr07_SameRoutines_10, c1, c2, c3, c4, if_true, getD_at P i _ hi, getD_at R i _ h', wrap_succ hi hm, ihj, Bool.and_true, int_dc, ba_dc, and_dc, not_dc, ifn_dc]
    refine congrArg some (dc_eq ?_)
    rw [drop_iff P R i hi h', TParam.eq_iff]
    simp only [Classical.not_not, and_assoc]
theorem Routine_all : ∀ k, (∀ a b, ft_TRoutine a → bk_TRoutine a < k → (FF h k).f_tree_sameRoutine (a, b, ()) = some (dc (a = b))) ∧
    (∀ l m, l.length ≤ maxLen → fts_TRoutine l → bks_TRoutine l + 1 < k → (FF h k).f_slices_EqualFunc_Routine (l, m, ((), ()), ()) = some (dc (l = m))) ∧
    (∀ l m, l.length ≤ maxLen → fts_TRoutine l → bks_TRoutine l + 1 < k → (FF h k).f_r07_SameRoutines (l, m, ()) = some (dc (l = m))) := by
  intro k
  induction k with
  | zero => exact ⟨fun _ _ _ h => absurd h (Nat.not_lt_zero _), fun _ _ _ _ h => absurd h (Nat.not_lt_zero _), fun _ _ _ _ h => absurd h (Nat.not_lt_zero _)⟩
  | succ k ih =>
    obtain ⟨i1, i2, i3⟩ := ih
    refine ⟨fun a b ha hk => ?_, fun l m hm hl hk => ?_, fun l m hm hl hk => ?_⟩
    · show B_tree_sameRoutine (FF h k) k a b = _
      have hb := bk_Routine a
      obtain ⟨a1, a2, a3, a4, a5, a6, a7⟩ := ft_Routine a ha
      have l1 := bks_v9_len a.Marks_Before
      have l2 := bks_v9_len a.Marks_Trail
      have l3 := bks_v9_len a.End
      have l4 := bks_Param_len a.Params
      obtain ⟨k', rfl⟩ : ∃ k', k = k' + 4 := ⟨k - 4, by omega⟩
      obtain ⟨_, e2, _⟩ := Stmt_all h (k' + 4)
      simp only [B_tree_sameRoutine, marks_ok h (k' + 2) a.sub_Marks b.sub_Marks (by show a.Marks_Before.length < _; omega) a1 (by show a.Marks_Trail.length < _; omega) a2, Equal_Param_ok h (k' + 3) a.Params b.Params (by omega) a3, EqualFunc_Var_ok h k' a.Vars b.Vars a4.1 a4.2 (by omega), i2 a.Inner b.Inner a5.1 a5.2 (by omega), e2 a.Body b.Body a6.1 a6.2 (by omega), Equal_string_ok h (k' + 3) a.End b.End (by omega) a7, Option.bind_some, Bool.true_and, int_dc, ba_dc, and_dc, if_dc]
      exact congrArg some (dc_eq (by rw [TRoutine.eq_iff]; simp only [and_assoc]))
    · show B_slices_EqualFunc_Routine (FF h k) k l m ((), ()) = _
      unfold B_slices_EqualFunc_Routine
      rw [L_EqualFunc_Routine]
      have := bks_Routine_len l
      exact eqF _ _ l m k (by omega) hm fun i hi hi' => by
        have := bks_Routine_mem l i hi
        rw [TRoutine.re_eq, TRoutine.re_eq]
        exact i1 _ _ (fts_Routine_mem l hl i hi) (by omega)
    · show B_r07_SameRoutines (FF h k) k l m = _
      unfold B_r07_SameRoutines
      refine by_lens l m _ fun hlm => ?_
      have hlen := bks_Routine_len l
      have key : ∀ j i, i ≤ l.length → l.length - i < j → Lr07_SameRoutines_4 (FF h k) k l m j l m (i : Int) = some (dc (l.drop i = m.drop i)) := by
        refine up_ind l.length (fun j => ?_) (fun j i hi ihj => ?_)
        · simp only [Lr07_SameRoutines_4]
          rw [if_neg (by simp), dc_true (by simp [hlm])]
        · have h' : i < m.length := by omega
          have c1 : decide ((i : Int) < (l.length : Int)) = true := by simpa using hi
          have c2 : (0 : Int) ≤ (i : Int) := by omega
          have c3 : (i : Int) < (l.length : Int) := by omega
          have c4 : (i : Int) < (m.length : Int) := by omega
          have hbi := bks_Routine_mem l i hi
          have hb := bk_Routine l[i]
          obtain ⟨a1, a2, a3, a4, a5, a6, a7⟩ := ft_Routine l[i] (fts_Routine_mem l hl i hi)
          have l1 := bks_v9_len l[i].Marks_Before
          have l2 := bks_v9_len l[i].Marks_Trail
          have l3 := bks_v9_len l[i].End
          have l4 := bks_Param_len l[i].Params
          obtain ⟨k', rfl⟩ : ∃ k', k = k' + 3 := ⟨k - 3, by omega⟩
          obtain ⟨_, _, e3⟩ := Stmt_all h (k' + 3)
          have w4 : Lr07_SameRoutines_4 (FF h (k' + 3)) (k' + 3) l m j l m (IntKind.i64.wrap ((i : Int) + 1)) = some (dc (l.drop (i + 1) = m.drop (i + 1))) := by rw [wrap_succ hi hm]; exact ihj
          simp only [Lr07_SameRoutines_4, c1, c2, c3, c4, if_true, getD_at l i _ hi, getD_at m i _ h',
            sameMarks_ok h (k' + 1) l[i].sub_Marks m[i].sub_Marks (by show l[i].Marks_Before.length < _; omega) a1 (by show l[i].Marks_Trail.length < _; omega) a2, SameTexts_ok h (k' + 2) l[i].End m[i].End (by omega) a7, Option.bind_some, Bool.false_or, lens_dc, int_ndc, ba_dc, not_dc, or_dc, decide_true]
          by_cases hpl : l[i].Params.length = m[i].Params.length
          · have := SameRoutines_10_ok (FF h (k' + 3)) (k' + 3) l m (Lr07_SameRoutines_4 (FF h (k' + 3)) (k' + 3) l m j) l m (i : Int) l[i].Marks_Before l[i].Marks_Trail l[i].Name l[i].Result l[i].Params l[i].Vars l[i].Inner l[i].Body l[i].End m[i].Marks_Before m[i].Marks_Trail m[i].Name m[i].Result m[i].Params m[i].Vars m[i].Inner m[i].Body m[i].End hpl a3 (sameVars_ok h k' l[i].Vars m[i].Vars a4.1 a4.2 (by omega)) (i3 l[i].Inner m[i].Inner a5.1 a5.2 (by omega)) (e3 l[i].Body m[i].Body a6.1 a6.2 (by omega)) w4 (k' + 3) 0 (Nat.zero_le _) (by omega)
            simp only [Int.ofNat_zero, List.drop_zero] at this
            rw [this, ifn_dc, iff_dc]
            refine congrArg some (dc_eq ?_)
            rw [drop_iff l m i hi h', TRoutine.eq_iff]
            simp only [not_or, Classical.not_not, hpl, and_true]
            constructor
            · rintro ⟨⟨⟨b1, b2⟩, b3⟩, b8, b4, b5, b6, b7, b9⟩
              exact ⟨⟨b1, b2, b3, b4, b5, b6, b7, b8⟩, b9⟩
            · rintro ⟨⟨b1, b2, b3, b4, b5, b6, b7, b8⟩, b9⟩
              exact ⟨⟨⟨b1, b2⟩, b3⟩, b8, b4, b5, b6, b7, b9⟩
          · rw [if_neg (by rw [dc_true (Or.inr (by omega))]; simp)]
            have : ¬ l.drop i = m.drop i := by
              rw [drop_iff l m i hi h', TRoutine.eq_iff]
              rintro ⟨⟨_, _, _, b4, _⟩, _⟩
              exact hpl (by rw [b4])
            rw [dc_false this]
      have := key k 0 (Nat.zero_le _) (by omega)
      simpa using this
end Go.Ev
end
section
open Go
namespace Go.Ev
set_option maxRecDepth 100000
set_option maxHeartbeats 4000000
set_option linter.unusedVariables false
set_option linter.unusedSimpArgs false
variable (h : Fam)
theorem TProgram.eq_iff (x y : TProgram) : x = y ↔ x.Name = y.Name ∧ x.Before = y.Before ∧ x.Mid = y.Mid ∧ x.After = y.After ∧ x.Recs = y.Recs ∧ x.Vars = y.Vars ∧ x.Routines = y.Routines ∧ x.Body = y.Body ∧ x.End = y.End := by
  cases x; cases y; simp
theorem bk_Program (x : TProgram) : bks_v9 x.Before + bks_v9 x.Mid + bks_v9 x.After + bks_TRec x.Recs + bks_TVar x.Vars + bks_TRoutine x.Routines + bks_TStmt x.Body + bks_v9 x.End + 9 ≤ bk_TProgram x := by cases x; simp [bk_TProgram]; omega
theorem ft_Program (x : TProgram) (hx : ft_TProgram x) : x.Before.length ≤ maxLen ∧ x.Mid.length ≤ maxLen ∧ x.After.length ≤ maxLen ∧ (x.Recs.length ≤ maxLen ∧ fts_TRec x.Recs) ∧ (x.Vars.length ≤ maxLen ∧ fts_TVar x.Vars) ∧ (x.Routines.length ≤ maxLen ∧ fts_TRoutine x.Routines) ∧ (x.Body.length ≤ maxLen ∧ fts_TStmt x.Body) ∧ x.End.length ≤ maxLen := by
  cases x; simp only [ft_TProgram] at hx
  obtain ⟨_, ⟨a1, _⟩, ⟨a2, _⟩, ⟨a3, _⟩, a4, a5, a6, a7, a8, _⟩ := hx
  exact ⟨a1, a2, a3, a4, a5, a6, a7, a8⟩
theorem tree_Same_ok (k : Nat) (a b : TProgram) (ha : ft_TProgram a) (hk : bk_TProgram a < k) : (FF h (k + 6)).f_tree_Same (a, b, ()) = some (dc (a = b)) := by
  show B_tree_Same (FF h (k + 5)) (k + 5) a b = _
  have hb := bk_Program a
  obtain ⟨a1, a2, a3, a4, a5, a6, a7, a8⟩ := ft_Program a ha
  have l1 := bks_v9_len a.Before
  have l2 := bks_v9_len a.Mid
  have l3 := bks_v9_len a.After
  have l4 := bks_v9_len a.End
  obtain ⟨k, rfl⟩ : ∃ k', k = k' + 1 := ⟨k - 1, by omega⟩
  obtain ⟨_, e2, _⟩ := Stmt_all h (k + 6)
  obtain ⟨_, i2, _⟩ := Routine_all h (k + 6)
  simp only [B_tree_Same, Equal_string_ok h (k + 5) a.Before b.Before (by omega) a1, Equal_string_ok h (k + 5) a.Mid b.Mid (by omega) a2, Equal_string_ok h (k + 5) a.After b.After (by omega) a3, EqualFunc_Rec_ok h k a.Recs b.Recs a4.1 a4.2 (by omega), EqualFunc_Var_ok h (k + 2) a.Vars b.Vars a5.1 a5.2 (by omega), i2 a.Routines b.Routines a6.1 a6.2 (by omega), e2 a.Body b.Body a7.1 a7.2 (by omega), Equal_string_ok h (k + 5) a.End b.End (by omega) a8, Option.bind_some, Bool.true_and, ba_dc, and_dc, if_dc]
  exact congrArg some (dc_eq (by rw [TProgram.eq_iff]))
theorem TreeAlike_ok (k : Nat) (a b c : TProgram) (ha : ft_TProgram a) (hka : bk_TProgram a < k) (hb : ft_TProgram b) (hkb : bk_TProgram b < k) (aw : (FF h (k + 6)).f_w07_awake () = some true) : (FF h (k + 7)).f_w07_TreeAlike (a, b, c, ()) = some true := by
  show B_w07_TreeAlike (FF h (k + 6)) (k + 6) a b c = _
  simp only [B_w07_TreeAlike, tree_Same_ok h k a _ ha hka, tree_Same_ok h k b _ hb hkb, Option.bind_some, aw]
  have h4 : dc (b = a) = dc (a = b) := dc_eq eq_comm
  rw [h4]
  by_cases e1 : a = b
  · by_cases e2 : b = c
    · rw [dc_true e1, dc_true e2, dc_true (e1.trans e2)]; rfl
    · rw [dc_true e1, dc_false e2, dc_false (fun e => e2 (e1.symm.trans e))]; rfl
  · rw [dc_false e1]
    cases dc (b = c) <;> cases dc (a = c) <;> rfl
end Go.Ev
end
section
open Go Go.Proofs
namespace Go.Ev
open Go.Proofs.YtokkfbkbnocnoaaGreatDoor
set_option linter.unusedVariables false
set_option maxHeartbeats 4000000
set_option maxRecDepth 100000
def hFam : Fam := { nilFam with
  f_words_Is := fun x => some (Wd.mem (Wd.lst x.1) x.2.1)
  f_slices_Clone_string := fun x => if x.1.length * 16 ≤ 140737488355328 then some x.1 else none
  f_tree_apart := fun x => match x.1 with | [] => some true | _ => none
  f_by := stepT }
theorem hand : HandOK hFam where
  o_tree_Names := ok_tree_Names
  o_tree_Rename := ok_tree_Rename
  o_words_Is := ok_words_Is
  o_note_Print := specA_none _ _
  o_tree_apart := ok_apart
  o_tree_checker_routine := specA_none _ _
  o_tree_mapper_parts := ok_tree_mapper_parts
  o_slices_Clone_string := ok_Clone
  o_by := ok_by
theorem awake_ok (k : Nat) : (FF hFam (k + 12)).f_w07_awake () = some true := by kernel_rfl
end Go.Ev
end
section
open Go Go.Proofs
namespace Go.Ev
open Go.RowKit Go.Proofs.YtokkfbkbnocnoaaGreatDoor
set_option linter.unusedVariables false
set_option linter.unusedSimpArgs false
set_option maxHeartbeats 4000000
set_option maxRecDepth 100000
theorem len_size {α : Type} [SizeOf α] : ∀ l : List α, l.length ≤ SizeOf.sizeOf l
  | [] => by simp
  | x :: r => by have := len_size r; simp; omega
theorem sum_size {α : Type} [SizeOf α] : ∀ l : List α, (l.map SizeOf.sizeOf).sum ≤ SizeOf.sizeOf l
  | [] => by simp
  | x :: r => by have := sum_size r; simp; omega
theorem measT (H : Type) : Meas EE ftt bkk (fun d : DataW H => SizeOf.sizeOf d) rowsL :=
  meas EE rfl rfl _ (by simp) (fun l => by simp) (fun l => by have := len_size l; simp; omega) (fun a b => Nat.le_trans (Nat.add_le_add_right (sum_size a) 1) (by show SizeOf.sizeOf a + 1 ≤ SizeOf.sizeOf (DataW.slice a b : DataW H); simp; omega)) (fun a => Nat.le_trans (Nat.add_le_add_right (sum_size a) 1) (by show SizeOf.sizeOf a + 1 ≤ SizeOf.sizeOf (DataW.agg a : DataW H); simp; omega))
section
variable {H : Type} {enc : TypeId × Value → H} {W : World} {base : Nat} {spare : Nat → Bool} {held : Bool}
def tyOfN (t : Nat) : TI := match EE.ty t with | some ti => ti | none => ⟨0, 0, [], .other, true⟩
theorem read_any {t : Nat} {ti : TI} {l : List KD} (ht : EE.ty t = some ti) (hl : flatK EE.ty 9 t = some l) (hn : (match EE.ty t with | some ti => Nat.beq ti.size 1 | none => true) = false) {v : Value} {d : DataW H} {ps : List MemPlace} (h : DataW.Trod enc Tryz.prog W base spare held t v d ps) :
    ∃ vs : Array Value, v = .agg vs ∧ ∃ ds, DReps EE (allS W) W vs.toList ds ∧ ds.map kd = l ∧ ∀ d ∈ ds, QD ftt d := by
  obtain ⟨fuel, h⟩ := h
  obtain ⟨⟨ds, h1, h2, h3, _⟩, _, hlen⟩ := rd hEE (measT H) fuel t ti _ (d, ps) l ht hl h
  cases v with
  | agg vs => exact ⟨vs, rfl, ds, h1, h2, h3⟩
  | _ =>
    rw [ht] at hn
    have h1 : 1 = ti.size := hlen
    simp only [← h1] at hn
    cases hn
theorem read_prog {v : Value} {d : DataW H} {ps : List MemPlace} (h : DataW.Trod enc Tryz.prog W base spare held 28 v d ps) : ∃ (vs : Array Value) (x : TProgram), v = .agg vs ∧ ft_TProgram x ∧ ARep EE (allS W) W (· ∈ ([] : List Nat)) W.heap.size v (c_TProgram.enc x) [] [] := by
  obtain ⟨vs, rfl, ds, h1, h2, h3⟩ := read_any (t := 28) (l := [.str, .sl 9, .sl 9, .sl 9, .sl 59, .sl 98, .sl 103, .sl 107, .sl 9]) (ti := tyOfN 28) (by kernel_rfl) (by kernel_rfl) (by kernel_rfl) h
  obtain ⟨d0, ds, rfl, e0, h⟩ := List.map_eq_cons_iff.1 h2
  obtain ⟨d1, ds, rfl, e1, h⟩ := List.map_eq_cons_iff.1 h
  obtain ⟨d2, ds, rfl, e2, h⟩ := List.map_eq_cons_iff.1 h
  obtain ⟨d3, ds, rfl, e3, h⟩ := List.map_eq_cons_iff.1 h
  obtain ⟨d4, ds, rfl, e4, h⟩ := List.map_eq_cons_iff.1 h
  obtain ⟨d5, ds, rfl, e5, h⟩ := List.map_eq_cons_iff.1 h
  obtain ⟨d6, ds, rfl, e6, h⟩ := List.map_eq_cons_iff.1 h
  obtain ⟨d7, ds, rfl, e7, h⟩ := List.map_eq_cons_iff.1 h
  obtain ⟨d8, ds, rfl, e8, h⟩ := List.map_eq_cons_iff.1 h
  obtain rfl := List.map_eq_nil_iff.1 h
  obtain ⟨y0, rfl⟩ := kd_str e0
  obtain ⟨y1, rfl⟩ := kd_sl e1
  obtain ⟨y2, rfl⟩ := kd_sl e2
  obtain ⟨y3, rfl⟩ := kd_sl e3
  obtain ⟨y4, rfl⟩ := kd_sl e4
  obtain ⟨y5, rfl⟩ := kd_sl e5
  obtain ⟨y6, rfl⟩ := kd_sl e6
  obtain ⟨y7, rfl⟩ := kd_sl e7
  obtain ⟨y8, rfl⟩ := kd_sl e8
  refine ⟨vs, ⟨y0, y1, y2, y3, y4, y5, y6, y7, y8⟩, rfl, ?_, .agg vs _ [] [] h1.preps⟩
  simp only [List.mem_cons, List.not_mem_nil, or_false, forall_eq_or_imp, forall_eq, QD] at h3
  simp only [ft_TProgram, fts_v9_iff, fts_TRec_iff, fts_TVar_iff, fts_TRoutine_iff, fts_TStmt_iff]
  exact h3
theorem below_of {w w' : World} {u : Value} (h : Answers EE (allS w) w [] [] (rc_w07_TreeSame.enc true) u w') : u = .bool true ∧ Below w.heap.size w w' := by
  obtain ⟨Sl', p1, p2, r1, r2, hkeep, hext, hu, hps, hnd, hlt⟩ := h
  obtain ⟨hu1, rfl, rfl⟩ := arep_d hu
  exact ⟨drep_lit hu1, ⟨hkeep.os, hkeep.tape, hkeep.output, hkeep.size, fun i hi => hkeep.block i hi (by simp)⟩⟩
theorem sp8 (s : Fam) : sp s 8 = ansOf c_w07_TreeAlike rc_w07_TreeAlike.enc s.f_w07_TreeAlike := by kernel_rfl
theorem call_law {f : Nat} (hf : f ≠ 1000003) {s : Fam} (hS : ∀ f, SpecOK Tryz.prog EE (sp s) f) {avs : List (AV II)} (hr : (sp s f avs).run = some (rc_w07_TreeSame.enc true)) {args : Array Value} (ha : AReps EE (allS W) W (· ∈ ([] : List Nat)) W.heap.size args.toList avs [] []) (hi : EE.inv W) :
    Calls Tryz.prog f args W fun e W' => e = .returned (.bool true) ∧ Below W.heap.size W W' := by
  obtain ⟨g, args', hc, hfn, hcalls⟩ := hS f avs _ hr (allS W) W args.toList [] [] (fun _ _ h => h) ha List.nodup_nil (fun k hk => by cases hk) hi
  rcases hc with ⟨_, rfl, he⟩ | ⟨h, _⟩
  · have : args' = args := Array.toList_inj.1 he
    subst this
    refine hcalls.mono fun e w' ⟨u, he, h⟩ => ?_
    obtain ⟨rfl, hb⟩ := below_of h
    exact ⟨he, hb⟩
  · exact absurd h hf
theorem treeAlike {v0 v1 v2 : Value} {d0 d1 d2 : DataW H} {p0 p1 p2 : List MemPlace} (h0 : DataW.Trod enc Tryz.prog W base spare held 28 v0 d0 p0) (h1 : DataW.Trod enc Tryz.prog W base spare held 28 v1 d1 p1)
    (h2 : DataW.Trod enc Tryz.prog W base spare held 28 v2 d2 p2) (hi : EE.inv W) : Calls Tryz.prog 8 #[v0, v1, v2] W fun e W' => e = .returned (.bool true) ∧ Below W.heap.size W W' := by
  obtain ⟨_, a, _, fa, ra⟩ := read_prog h0
  obtain ⟨_, b, _, fb, rb⟩ := read_prog h1
  obtain ⟨_, c, _, fc, rc⟩ := read_prog h2
  refine call_law (s := FF hFam (bk_TProgram a + bk_TProgram b + 7 + 7)) (by decide) (specs hand _) (avs := c_w07_TreeAlike.enc (a, b, c, ())) ?_ (.cons _ _ _ _ [] [] [] [] ra (.cons _ _ _ _ [] [] [] [] rb (.cons _ _ _ _ [] [] [] [] rc .nil))) hi
  rw [sp8]
  exact ans_run _ _ _ (x := (a, b, c, ())) rfl (TreeAlike_ok hFam _ a b c fa (by omega) fb (by omega) (awake_ok (bk_TProgram a + bk_TProgram b + 1)))
end
end Go.Ev
end
section
open Go Go.Proofs
namespace Go.Ev
open Go.RowKit Go.Proofs.YtokkfbkbnocnoaaGreatDoor
set_option linter.unusedVariables false
def laidL : List (String × DataW Unit) := [("unicode/utf8.acceptRanges", Rows.laid_unicode_utf8_acceptRanges), ("unicode.White_Space", Rows.laid_unicode_White_Space), ("strings.asciiSpace", Rows.laid_strings_asciiSpace), ("unicode/utf8.first", Rows.laid_unicode_utf8_first)]
theorem tab_datum : (Rows.laid_strings_asciiSpace : DataW Unit) = Lib.tabData .u8 Lib.asciiSpaceTab := by kernel_rfl
theorem of_laid {W : World} (h : laidMetH Tryz.prog laidL W) (hs : W.ShapedOpen Tryz.prog) : EE.inv W := by
  rw [MakeChecks.laidMetH_plain _ _ _ (by kernel_rfl)] at h
  obtain ⟨ps, ⟨g0, t0, cs0, f0, p0, q0, hg0, ht0, hv0, hd0, ⟨g1, t1, cs1, f1, p1, q1, hg1, ht1, hv1, hd1, ⟨g, t, cs, f, p, q, hg, ht, hvar, hd, _⟩, _⟩, _⟩, _⟩ := h
  rw [tab_datum] at hd
  obtain rfl := Option.some.inj ((show Tryz.prog.globalNamed "strings.asciiSpace" = some 0 by kernel_rfl).symm.trans hg)
  obtain rfl := Option.some.inj ((show (Tryz.prog.globals[0]?).map (·.type) = some 199 by kernel_rfl).symm.trans ht)
  refine ⟨?_, Tryz.laysM146.s1_3 W hs⟩
  unfold Lib.TabIs
  rw [hvar, ← Lib.cells_of_tab Tryz.underlying199 Tryz.underlying5 (by kernel_rfl) (by kernel_rfl) hd]
end Go.Ev
end
section
set_option linter.unusedVariables false
namespace Go.Ev.treeAlike
open Go Go.Proofs Go.ChangeShapes Go.WideShapes Go.ChangeAt Go.RowKit Go.Proofs.YtokkfbkbnocnoaaGreatDoor
theorem own : ownKnob Tryz.prog.godebug = none := by kernel_rfl
theorem laidOut : laidOutB Tryz.prog = true := by kernel_rfl
set_option maxRecDepth 100000 in
theorem lifted (os : Os) (started : os.Started) (H : Type) (enc : TypeId × Value → H) :
    ReturnsInHanded {} Tryz.checked os 8 .any (fun w args => (Rows.treeAlikeSpec.pre enc Tryz.prog Tryz.f8 [] false w args ∧ laidMetH Tryz.prog laidL w) ∧ sizedMet enc Tryz.prog Tryz.f8 (OpenSpec.ofChange Rows.treeAlikeSpec) false w args) (Rows.treeAlikeSpec.post enc Tryz.prog Tryz.f8 false true false false) := by
  refine returnsInHanded_of_calls (C := Tryz.checked) own started (by kernel_rfl)
    (ChangeSpec.witness_shaped (enc := enc) (C := Tryz.checked) (os := os) (X := fun w _ => laidMetH Tryz.prog laidL w) false (World.laidAll Tryz.prog os laidL) #[.agg #[.string ⟨#[]⟩, .slice none 0 0, .slice none 0 0, .slice none 0 0, .slice none 0 0, .slice none 0 0, .slice none 0 0, .slice none 0 0, .slice none 0 0], .agg #[.string ⟨#[]⟩, .slice none 0 0, .slice none 0 0, .slice none 0 0, .slice none 0 0, .slice none 0 0, .slice none 0 0, .slice none 0 0, .slice none 0 0], .agg #[.string ⟨#[]⟩, .slice none 0 0, .slice none 0 0, .slice none 0 0, .slice none 0 0, .slice none 0 0, .slice none 0 0, .slice none 0 0, .slice none 0 0]] 8 (World.laidAll_os _ _ _) (World.shaped_of_ZipB (by kernel_rfl) (by kernel_rfl)) (by kernel_rfl) (by kernel_rfl) (by kernel_rfl) (by rw [MakeChecks.laidMetH_plain _ _ _ (by kernel_rfl)]; exact laidMet_laidAll _ (by kernel_rfl) (by kernel_rfl))) ?_
  intro w tape i _ hsh _ hok hpre hholds
  obtain ⟨_, _, _, fn, hfn, _, _, _, _, hval⟩ := hok
  obtain rfl : fn = Tryz.f8 := Option.some.inj (hfn.symm.trans Tryz.func8)
  obtain ⟨⟨⟨ds, gs, before, hw, hc⟩, hx⟩, hz⟩ := hpre
  have hW := DataW.Whole.of_heap (w' := w.forCall tape i) (by rfl) hw
  have hL : EE.inv (w.forCall tape i) := of_laid (hx.of_heap (by rfl)) hsh
  generalize w.forCall tape i = W at hW hL hsh hholds hval ⊢
  generalize i.args = args at hW hval hholds ⊢
  have hW' := hW
  obtain ⟨p, q, hA0, hV, rfl, hfz, hnd⟩ := hW
  have hA : DataW.TrodAll enc Tryz.prog W 0 (fun _ => true) true Tryz.f8.params.toList args.toList ds p := hA0
  rw [Tryz.params8] at hA
  obtain ⟨v0, vs0, d0, ds0, p0, q0, hargs, rfl, rfl, h0, r0⟩ := trodAll_cons hA
  obtain ⟨v1, vs1, d1, ds1, p1, q1, rfl, rfl, rfl, h1, r1⟩ := trodAll_cons r0
  obtain ⟨v2, vs2, d2, ds2, p2, q2, rfl, rfl, rfl, h2, r2⟩ := trodAll_cons r1
  obtain ⟨rfl, rfl, rfl⟩ := trodAll_nil r2
  obtain rfl : args = #[v0, v1, v2] := by cases args; simp_all
  obtain ⟨rfl, rfl⟩ := trodVars_none hV
  have lt0 : ∀ x ∈ p0, x.block < W.heap.size := by obtain ⟨m, hm⟩ := h0; exact DataW.trod_lt m _ _ _ hm
  have lt1 : ∀ x ∈ p1, x.block < W.heap.size := by obtain ⟨m, hm⟩ := h1; exact DataW.trod_lt m _ _ _ hm
  have lt2 : ∀ x ∈ p2, x.block < W.heap.size := by obtain ⟨m, hm⟩ := h2; exact DataW.trod_lt m _ _ _ hm
  refine (Go.Ev.treeAlike h0 h1 h2 hL).mono fun e W' ⟨he, bel⟩ => ?_
  subst he
  exact ChangeSpec.post_blind ⟨_, _, _, [], _, [], hW', trodAll_mk1 (shut_bool Tryz.underlying4 _), (trodAll_cons_mk (Below.trod laidOut (by kernel_rfl) (of_decide_eq_true (by kernel_rfl)) h0 bel lt0) (trodAll_cons_mk (Below.trod laidOut (by kernel_rfl) (of_decide_eq_true (by kernel_rfl)) h1 bel lt1) (trodAll_cons_mk (Below.trod laidOut (by kernel_rfl) (of_decide_eq_true (by kernel_rfl)) h2 bel lt2) trodAll_mk0))), rfl, bel.frame _, fun h => by cases h⟩
theorem over : Rows.treeAlikeRow.holds Tryz.pinned (OpenSpec.ofChange Rows.treeAlikeSpec) :=
  OpenClaim.holds_of_wide 8 Tryz.f8 rfl rfl rfl rfl rfl rfl rfl ⟨rfl, rfl, rfl, rfl, rfl⟩ rfl rfl rfl rfl rfl (by kernel_rfl) Tryz.func8 (by kernel_rfl)
    (of_decide_eq_true (by kernel_rfl)) (by unfold Func.isWrapper; first | (rw [if_pos (by decide +kernel)]; kernel_rfl) | (rw [if_neg (by decide +kernel)]; exact ⟨rfl, rfl⟩))
    (fun os started H enc _ => lifted os started H enc)
theorem proved : Rows.TreeAlikeSaid := over
theorem card : Rows.TreeAlikeCardSaid :=
  Claim7.holds_tied_plain_at .later [] [.data, .listed, .data, .pinned] true (true, "2f188ac51300e0765bca8dbf6f4eeb406a15f7aecf0c215bbf8078e9a60772bd") false proved (fun _ h => by cases h) (by kernel_rfl) (fun _ h => by cases h) treeAlike_row_tie rfl ⟨rfl, rfl⟩ (by kernel_rfl) rfl
    (fun f fn hf hfn => by
      obtain rfl : f = 8 := Option.some.inj ((show Tryz.prog.funcNamed "pantograph/pantographlaw07.TreeAlike" = some 8 by kernel_rfl).symm.trans hf) |>.symm
      obtain rfl : fn = Tryz.f8 := (Option.some.inj (Tryz.func8.symm.trans hfn)).symm
      exact ⟨by kernel_rfl, fun j t ht => by
        rw [Tryz.params8] at ht
        have hm : t ∈ [28, 28, 28] := by simpa using Array.mem_of_getElem? ht
        have hall : ([28, 28, 28].all fun u => !Tryz.prog.wantsStandIn u) = true := by kernel_rfl
        exact (show Tryz.prog.wantsStandIn t = false by simpa using List.all_eq_true.1 hall t hm)⟩)
    (by kernel_rfl)
end Go.Ev.treeAlike
namespace Go.Proofs.YtokkfbkbnocnoaaGreatDoor
theorem treeAlike_holds : Rows.TreeAlikeCardSaid := Go.Ev.treeAlike.card
end Go.Proofs.YtokkfbkbnocnoaaGreatDoor
end
