/- A part of the proof of RenameSenseUpto (a program makes as much sense as it did, at the same item): a reckoner of the code over data, shown right, and what it gives; conditions stand with each theorem. -/
import Derived.Test.YtlepjafokfhnfaaGreatDoorA3
import Derived.Maps.OwnSet
import Derived.Maps.Keyed
import Derived.StringKeys
import Derived.Test.YtlepjafokfhnfaaGreatDoorRows
import Derived.Test.YtlepjafokfhnfaaGreatDoorCards
import Derived.Test.YtlepjafokfhnfaaGreatDoorTie
import Derived.ProofKit
import Derived.LaidMore
import Derived.SevenTiedAt
import Derived.Stop.Joined
import Derived.Lay
import Derived.WalkKit
import Derived.OpenShut
import Derived.ShutString
import Derived.ChangeOld
import Derived.Below
import Derived.SizedLaws
import Derived.Lib.CutLaws
import Derived.Lib.SplitLaws
import Derived.Lib.ItoaNum
section
open Go Go.Proofs
namespace Go.Ev
open Go.RowKit Go.Proofs.YtlepjafokfhnfaaGreatDoor Go.Proofs.YtlepjafokfhnfaaGreatDoorW.PrintWords Go.Proofs.YtlepjafokfhnfaaGreatDoorW.PrintLast Go.Proofs.YtlepjafokfhnfaaGreatDoorW.PrintMore
set_option linter.unusedVariables false
set_option linter.unusedSimpArgs false
set_option maxHeartbeats 4000000
set_option maxRecDepth 100000
def PRel (s : Fam) (Sl : Nat → Nat → Prop) (w : World) (v : Value) (fp : List Nat) (L : List ByteArray) (Q : List ByteArray × Thing) (i : Value) (wr : World) : Prop := ∃ (k : Nat) (done : List ByteArray) (th : Thing) (q : List ByteArray × Thing), i = .int .i64 k ∧ k ≤ L.length ∧ done.length = k ∧ partsT s th (L.drop k) = some q ∧ Q = (done ++ q.1, q.2) ∧
  wr.heap[w.heap.size]? = some (.cells #[v] 103 (0, 0)) ∧ wr.heap[w.heap.size + 1]? = some (.cells ((done ++ L.drop k).map Value.string).toArray 9 (0, 0)) ∧ PMid Sl w v fp th wr
theorem split_calls {w W : World} (hiv : EE.inv W) {x : ByteArray} (hx : x.size ≤ 4294967280) :
    Calls Tryz.prog 95 #[.string x, .string ⟨#[36]⟩] W fun e w' => e = .returned (.slice (some ⟨W.heap.size, 0, none⟩) (cutD x).length (cutD x).length) ∧ w' = W.alloc (.cells ((cutD x).map Value.string).toArray 9) := by
  obtain ⟨_, ⟨m, hm⟩, _⟩ := hiv
  have hlen : (cutD x).length = Lib.countB x sep36 + 1 := Lib.splitB_all sep36 (by decide) 0 _ x rfl
  rw [hlen]
  exact Tryz.strings_Split x sep36 m W (by omega) hm (by decide)
section
variable {s : Fam} {Sl : Nat → Nat → Prop} {w : World} {v : Value} {fp : List Nat} {th : Thing}
theorem empty_size (p : ByteArray) : p.toList.isEmpty = true ↔ p.size = 0 := by
  have h0 : (⟨#[]⟩ : ByteArray).toList = [] := by first | rfl | simp | kernel_rfl
  constructor
  · intro h
    have h1 : (p.toList == (⟨#[]⟩ : ByteArray).toList) = true := by rw [h0, List.isEmpty_iff.1 h]; rfl
    rw [ba_dc] at h1
    by_cases e : p = ⟨#[]⟩
    · rw [e]; rfl
    · rw [dc_false e] at h1; cases h1
  · intro h
    have : p = ⟨#[]⟩ := by
      obtain ⟨⟨l⟩⟩ := p
      have : l.length = 0 := h
      rw [List.eq_nil_of_length_eq_zero this]
    rw [this, h0]; rfl
theorem join_calls {wr : World} {b n : Nat} {l : List ByteArray} (hn : l.length = n) (hl : n ≤ 1000000000000) (hb : wr.heap[b]? = some (.cells (l.map Value.string).toArray 9 (0, 0))) (hj : (Lib.join (l.map (·.data.toList)) sep36.data.toList).length ≤ 140737488355328) :
    Calls Tryz.prog 96 #[.slice (some ⟨b, 0, none⟩) n n, .string ⟨#[36]⟩] wr fun e w' => e = .returned (.string (joinD l)) ∧ Below wr.heap.size wr w' := by
  subst hn
  refine Tryz.strings_Join b 0 l.length l sep36 wr (fun j x hx => ?_) (Array.getElem?_eq_some_iff.1 hb).1 (by omega) (Nat.le_refl _) hj
  rw [Nat.zero_add]
  simp only [World.cell?, hb]
  rw [List.getElem?_toArray, List.getElem?_map, hx]
  rfl
theorem PMid.below {wr w' : World} (hm : PMid Sl w v fp th wr) (hSl : ∀ g o, Sl g o → g < w.heap.size) (hb : Below wr.heap.size wr w') : PMid Sl w v fp th w' := by
  obtain ⟨fp', Slr, hp⟩ := hm
  have hlt : ∀ g o, Slr g o → g < wr.heap.size := fun g o h => by
    rcases hp.ext.n g o h with h | ⟨_, h⟩
    · exact Nat.lt_of_lt_of_le (hSl g o h) hp.keep.size
    · exact h
  exact ⟨fp', Slr, EE.frame _ Slr Slr wr _ _ _ hp.rep (fun _ _ h => h) (fun g o u hg hu => (cell_same (hb.block g (hlt g o hg))).trans hu) (fun k hk => hb.block k (hp.at_ k hk).1), hp.nd, fun k hk => ⟨Nat.lt_of_lt_of_le (hp.at_ k hk).1 hb.size, (hp.at_ k hk).2⟩,
    ⟨hb.os.trans hp.keep.os, hb.tape.trans hp.keep.tape, hb.output.trans hp.keep.output, Nat.le_trans hp.keep.size hb.size, fun i hi hn => (hb.block i (Nat.lt_of_lt_of_le hi hp.keep.size)).trans (hp.keep.block i hi hn)⟩, Nat.le_trans hp.size hb.size,
    ⟨hp.ext.s, fun g o h => (hp.ext.n g o h).imp id fun h => ⟨h.1, Nat.lt_of_lt_of_le h.2 hb.size⟩, fun g o u hg hu => (cell_same (hb.block g (Nat.lt_of_lt_of_le (hSl g o hg) hp.keep.size))).trans (hp.ext.c g o u hg hu)⟩, hp.news⟩
theorem prel_next {L : List ByteArray} {Q q2 : List ByteArray × Thing} {k : Nat} {done : List ByteArray} {th : Thing} {x y : ByteArray} {w5 : World} (hlt : k < L.length) (hd : done.length = k) (hdrop : L.drop k = x :: L.drop (k + 1)) (hQ : Q = (done ++ (y :: q2.1, q2.2).1, (y :: q2.1, q2.2).2))
    (hSl : ∀ g o, Sl g o → g < w.heap.size) (hfp : ∀ k ∈ fp, k < w.heap.size ∧ ¬ EE.glob k) (hq : partsT s th (L.drop (k + 1)) = some q2) (hm : PMid Sl w v fp th w5) (h1 : w5.heap[w.heap.size]? = some (.cells #[v] 103 (0, 0)))
    (h2 : w5.heap[w.heap.size + 1]? = some (.cells ((done ++ L.drop k).map Value.string).toArray 9 (0, 0))) : PRel s Sl w v fp L Q (.int .i64 ((k : Int) + 1)) (w5.setCell ⟨w.heap.size + 1, k, none⟩ (.string y)) := by
  refine ⟨k + 1, done ++ [y], th, q2, by simp, hlt, by simp [hd], hq, by rw [hQ]; simp, (Below.heap_setCell _ ⟨w.heap.size + 1, k, none⟩ _ _ (by show w.heap.size ≠ w.heap.size + 1; omega)).trans h1, ?_, hm.set hSl hfp k _⟩
  rw [cells_set h2]
  congr 2
  rw [hdrop]
  subst hd
  simp
theorem parts_walk (hS : ∀ f, SpecOK Tryz.prog EE (sp s) f) (hSl : ∀ g o, Sl g o → g < w.heap.size) (hiv : EE.inv w) (hfp : ∀ k ∈ fp, k < w.heap.size ∧ ¬ EE.glob k) (hf : EE.frep th Sl w v fp) (hk : ∀ k ∈ fp, k < w.heap.size ∧ ∀ j, ¬ Sl k j) (hnd : fp.Nodup)
    {x : ByteArray} {q : List ByteArray × Thing} (hx0 : x.toList.isEmpty = false) (hx : x.size ≤ 4294967280) (hL : (cutD x).length ≤ 1000000000000) (hq : partsT s th (cutD x) = some q) (hj : (Lib.join (q.1.map (·.data.toList)) sep36.data.toList).length ≤ 140737488355328)
    (g : Nat) (cs : Array Value) (hv : v = .func (.func g) #[] cs) (hcs : (g = 55 ∧ ∃ a, cs = #[.pointer a]) ∨ (g = 49 ∧ ∃ a b, cs = #[.pointer a, .pointer b])) :
    Calls Tryz.prog 75 #[.agg #[v], .string x] w fun e w' => e = .returned (.string (joinD q.1)) ∧ PMid Sl w v fp q.2 w' := by
  have hst := PMid.start (th := th) hSl hf hk hnd (.cells #[v] 103) (.cells ((cutD x).map Value.string).toArray 9)
  have HST := Lib.hid hst
  have HS := Lib.hid hS
  have HSL := Lib.hid hSl
  have HI := Lib.hid (inv_below hiv (below_alloc (Below.refl w.heap.size w) (.cells #[v] 103)))
  have HI0 := Lib.hid hiv
  have HFP := Lib.hid hfp
  have HQ := Lib.hid hq
  have HJ := Lib.hid hj
  clear hst hS hSl hiv hfp hf hk hnd hq hj
  subst hv
  go_enter Tryz.func75, Tryz.ntmps75
  go_wp2_with (first | (go_at_call 95; go_must (refine (split_calls (w := w) HI.out hx).mono ?_); go_must (rintro e w1 ⟨rfl, rfl⟩)))
  go_loopw [14] (fun i wr => PRel s Sl w (.func (.func g) #[] cs) fp (cutD x) q i wr) (fun i _ => (cutD x).length - (RowKit.intOf i).toNat)
  case atStart =>
    refine ⟨0, [], th, q, rfl, Nat.zero_le _, rfl, HQ.out, rfl, ?_, ?_, HST.out⟩
    · rw [Below.heap_alloc _ _ _ (by simp only [size_alloc]; omega)]
      exact heap_top _ _
    · have := heap_top (w.alloc (.cells #[.func (.func g) #[] cs] 103)) (.cells ((cutD x).map Value.string).toArray 9)
      rw [size_alloc] at this
      simpa using this
  case round =>
    obtain ⟨k, done, th', q', rfl, hk, hd, hq', hQ, h1, h2, hm⟩ := hrel
    have H2 := Lib.hid h2
    have H1 := Lib.hid h1
    have HM := Lib.hid hm
    have HQ' := Lib.hid hq'
    by_cases hlt : k < (cutD x).length
    · have c1 : wr.cell? ⟨w.heap.size, 0, none⟩ = some (.func (.func g) #[] cs) := by simp [World.cell?, h1]
      have hget : (done ++ (cutD x).drop k)[k]? = some (cutD x)[k] := by
        rw [List.getElem?_append_right (by omega), hd, Nat.sub_self, List.getElem?_drop, Nat.add_zero, List.getElem?_eq_getElem hlt]
      have c2 : wr.cell? ⟨w.heap.size + 1, k, none⟩ = some (.string (cutD x)[k]) := by
        have e : ((done ++ (cutD x).drop k).map Value.string)[k]? = some (.string (cutD x)[k]) := by rw [List.getElem?_map, hget]; rfl
        simp only [World.cell?, h2]
        rw [List.getElem?_toArray]
        exact e
      have hdrop : (cutD x).drop k = (cutD x)[k] :: (cutD x).drop (k + 1) := (List.getElem_cons_drop hlt).symm
      have f2 := Lib.frozen_of_heap h2 k
      clear h1 h2 hm hq'
      cases hemp : (cutD x)[k].toList.isEmpty with
      | true =>
        have hsz := (empty_size (cutD x)[k]).1 hemp
        have hpt := HQ'.out
        rw [hdrop] at hpt
        simp only [partsT, hsz, if_true] at hpt
        obtain ⟨q2, hq2, hqq⟩ := Option.map_eq_some_iff.1 hpt
        have HQ2 := Lib.hid hq2
        subst hqq
        clear hpt hq2
        go_wp2
        go_round
        · refine ⟨k + 1, done ++ [(cutD x)[k]], th', q2, by simp, hlt, by simp [hd], HQ2.out, by rw [hQ]; simp, H1.out, ?_, HM.out⟩
          rw [H2.out, hdrop]
          simp
        · simp only [RowKit.intOf]; omega
      | false =>
        have hsz : ¬ (cutD x)[k].size = 0 := fun h => by rw [(empty_size _).2 h] at hemp; cases hemp
        have hpt := HQ'.out
        rw [hdrop] at hpt
        simp only [partsT, hsz, if_false] at hpt
        obtain ⟨t, ht, hpt⟩ := Option.bind_eq_some_iff.1 hpt
        obtain ⟨q2, hq2, hqq⟩ := Option.map_eq_some_iff.1 hpt
        have HQ2 := Lib.hid hq2
        have HT := Lib.hid ht
        subst hqq
        clear hpt hq2 ht
        rcases hcs with ⟨rfl, a, rfl⟩ | ⟨rfl, a, b, rfl⟩
        · go_wp2_with (first | (go_at_call 55; go_must (refine (by_step HS.out HSL.out HI0.out HFP.out rfl rfl HM.out HT.out rfl).mono ?_); go_must (rintro e w5 ⟨rfl, hm5, e1, e2⟩; have HM5 := Lib.hid hm5; have b5 := e2.trans H2.out; have B5 := Lib.hid b5; have B1 := Lib.hid (e1.trans H1.out); have c5 : w5.cell? ⟨w.heap.size + 1, k, none⟩ = some (.string (cutD x)[k]) := (cell_same e2).trans c2; have f5 := Lib.frozen_of_heap b5 k; clear hm5 e1 e2 b5)))
          go_round
          · exact (prel_next hlt hd hdrop hQ HSL.out HFP.out HQ2.out HM5.out B1.out B5.out)
          · simp only [RowKit.intOf]; omega
        · go_wp2_with (first | (go_at_call 49; go_must (refine (by_step HS.out HSL.out HI0.out HFP.out rfl rfl HM.out HT.out rfl).mono ?_); go_must (rintro e w5 ⟨rfl, hm5, e1, e2⟩; have HM5 := Lib.hid hm5; have b5 := e2.trans H2.out; have B5 := Lib.hid b5; have B1 := Lib.hid (e1.trans H1.out); have c5 : w5.cell? ⟨w.heap.size + 1, k, none⟩ = some (.string (cutD x)[k]) := (cell_same e2).trans c2; have f5 := Lib.frozen_of_heap b5 k; clear hm5 e1 e2 b5)))
          go_round
          · exact (prel_next hlt hd hdrop hQ HSL.out HFP.out HQ2.out HM5.out B1.out B5.out)
          · simp only [RowKit.intOf]; omega
    · have hkl : k = (cutD x).length := by omega
      have hpt := HQ'.out
      rw [hkl, List.drop_length] at hpt
      simp only [partsT, Option.some.injEq] at hpt
      subst hpt
      have hrow : wr.heap[w.heap.size + 1]? = some (.cells (done.map Value.string).toArray 9 (0, 0)) := by
        rw [h2, hkl, List.drop_length, List.append_nil]
      have HROW := Lib.hid hrow
      have hq1 : q.1 = done := by rw [hQ]; simp
      have hq2 : q.2 = th' := by rw [hQ]
      have HJ2 : Hid ((Lib.join (done.map (·.data.toList)) sep36.data.toList).length ≤ 140737488355328) := Lib.hid (by rw [← hq1]; exact HJ.out)
      clear h1 h2 hm hq' hrow
      go_wp2_with (first | (go_at_call 96; go_must (refine (join_calls (hd.trans hkl) hL HROW.out HJ2.out).mono ?_); go_must (rintro e w9 ⟨rfl, hb9⟩; have HB9 := Lib.hid hb9; clear hb9)))
      go_ret
      exact ⟨by rw [hq1]; rfl, by rw [hq2]; exact HM.out.below HSL.out HB9.out⟩
end
theorem walk_empty (w : World) (v : Value) (hv : v.oneCell' = true) (h2 : ∃ g cs, v = .func (.func g) #[] cs) : Calls Tryz.prog 75 #[.agg #[v], .string ⟨#[]⟩] w fun e w' => e = .returned (.string ⟨#[]⟩) ∧ Below w.heap.size w w' := by
  obtain ⟨g, cs, rfl⟩ := h2
  have HB := Lib.hid (below_alloc (Below.refl w.heap.size w) (.cells #[.func (.func g) #[] cs] 103))
  go_enter Tryz.func75, Tryz.ntmps75
  go_wp2
  go_ret
  exact ⟨rfl, HB.out⟩
theorem frep_func {Sl : Nat → Nat → Prop} {w : World} {v : Value} {fp : List Nat} {th : Thing} (h : EE.frep th Sl w v fp) : ∃ g cs, v = .func (.func g) #[] cs ∧ ((g = 55 ∧ ∃ a, cs = #[.pointer a]) ∨ (g = 49 ∧ ∃ a b, cs = #[.pointer a, .pointer b])) := by
  cases th with
  | ren l => obtain ⟨g, sv, rfl, _⟩ := h; exact ⟨55, _, rfl, .inl ⟨rfl, _, rfl⟩⟩
  | names l => obtain ⟨gs, gm, go, sv, n, rfl, _⟩ := h; exact ⟨49, _, rfl, .inr ⟨rfl, _, _, rfl⟩⟩
theorem answers_parts {Sl : Nat → Nat → Prop} {w w' : World} {v : Value} {fp : List Nat} {th : Thing} {y : ByteArray} (h1 : v.oneCell' = true) (hm : PMid Sl w v fp th w') : Answers EE Sl w fp [v] (rc_tree_mapper_parts.enc (y, th, ())) (.string y) w' := by
  obtain ⟨fp', Slr, hp⟩ := hm
  refine ⟨Slr, [], fp', [], [v], hp.keep, hp.ext, .c _ _ _ _ (.d _ _ (.lit _ rfl)), ?_, by simpa using hp.nd, fun k hk => ?_⟩
  · have := PReps.cons (E := EE) (Sl := Slr) (w := w') (X0 := fun _ => True) (B0 := 0) v [] (.fd th) [] fp' [] [v] [] (.fd _ _ _ hp.rep h1 fun k hk => ⟨(hp.at_ k hk).1, (hp.at_ k hk).2.1⟩) .nil
    rw [List.append_nil] at this
    exact this
  · have := hp.at_ k (by simpa using hk)
    exact ⟨this.1, this.2.2.elim .inr fun h => .inl (by omega)⟩
theorem preps_fd {Sl : Nat → Nat → Prop} {w : World} {X0 : Nat → Prop} {B0 : Nat} {us : List Value} {th : Thing} {fp : List Nat} {rs : List Value} (h : PReps EE Sl w X0 B0 us [.fd th] fp rs) : ∃ v, us = [v] ∧ EE.frep th Sl w v fp ∧ v.oneCell' = true ∧ (∀ k ∈ fp, k < w.heap.size ∧ ∀ j, ¬ Sl k j) ∧ rs = [v] := by
  cases h with
  | cons v us x xs p q r t h1 hs =>
    cases hs
    cases h1 with
    | fd _ _ _ hf ho hk =>
      rw [List.append_nil]
      exact ⟨v, rfl, hf, ho, hk, rfl⟩
theorem ok_tree_mapper_parts (s : Fam) (k : Nat) (hS : ∀ f, SpecOK Tryz.prog EE (sp s) f) : SpecA Tryz.prog EE 75 (ansOf c_tree_mapper_parts rc_tree_mapper_parts.enc fun x => B_tree_mapper_parts s k x.1 x.2.1) := by
  refine specA_by _ _ _ fun x y hy Sl w us fp rs hSl hargs hnd hlt hiv => ?_
  obtain ⟨⟨th, _⟩, x, _⟩ := x
  obtain ⟨m, vs, fp1, fp2, rs1, rs2, rfl, rfl, rfl, h1, h2⟩ := areps_cons hargs
  obtain ⟨vs', rfl, h3⟩ := areps_lit h2
  obtain ⟨rfl, rfl, rfl⟩ := areps_nil h3
  obtain ⟨v, hmv, hf, ho, hk, hrs⟩ : ∃ v, m = .agg #[v] ∧ EE.frep th Sl w v fp1 ∧ v.oneCell' = true ∧ (∀ k ∈ fp1, k < w.heap.size ∧ ∀ j, ¬ Sl k j) ∧ rs1 = [v] := by
    cases h1 with
    | agg vs _ _ _ h =>
      obtain ⟨l⟩ := vs
      obtain ⟨v, hl, hf, ho, hk, hr⟩ := preps_fd h
      exact ⟨v, by rw [show l = [v] from hl], hf, ho, hk, hr⟩
  subst hmv hrs
  simp only [List.append_nil] at hnd hlt ⊢
  refine ⟨75, #[_, _], .inl ⟨by decide, rfl, rfl⟩, ⟨Tryz.f75, Tryz.func75, by kernel_rfl, by kernel_rfl⟩, ?_⟩
  obtain ⟨g, cs, hv, hcs⟩ := frep_func hf
  have hy : B_tree_mapper_parts s k (th, ()) x = some y := hy
  unfold B_tree_mapper_parts at hy
  split at hy
  · rename_i hx
    injection hy with hy
    subst hy
    have : x = ⟨#[]⟩ := by
      obtain ⟨⟨l⟩⟩ := x
      have : l.length = 0 := hx
      rw [List.eq_nil_of_length_eq_zero this]
    subst this
    refine (walk_empty w v ho ⟨g, cs, hv⟩).mono fun e w' ⟨he, hb⟩ => ⟨_, he, ?_⟩
    have hc : ∀ g o u, Sl g o → w.cell? ⟨g, o, none⟩ = some u → w'.cell? ⟨g, o, none⟩ = some u := fun g o u hg hu => (cell_same (hb.block g (hSl g o hg))).trans hu
    refine ⟨Sl, [], fp1, [], [v], keepX_of_below hb _, ⟨fun _ _ h => h, fun _ _ h => .inl h, hc⟩, .c _ _ _ _ (.d _ _ (.lit _ rfl)), ?_, by simpa using hnd, fun k hk' => ?_⟩
    · have := PReps.cons (E := EE) (Sl := Sl) (w := w') (X0 := fun _ => True) (B0 := 0) v [] (.fd th) [] fp1 [] [v] [] (.fd _ _ _ (EE.frame _ Sl Sl w _ _ _ hf (fun _ _ h => h) hc fun k hk' => hb.block k (hk k hk').1) ho fun k hk' => ⟨Nat.lt_of_lt_of_le (hk k hk').1 hb.size, (hk k hk').2⟩) .nil
      rw [List.append_nil] at this
      exact this
    · have := hk k (by simpa using hk')
      exact ⟨Nat.lt_of_lt_of_le this.1 hb.size, .inr (by simpa using hk')⟩
  · rename_i hx
    split at hy
    · cases hy
    · rename_i hx2
      split at hy
      · cases hy
      · rename_i hx3
        obtain ⟨q, hq, hy⟩ := Option.bind_eq_some_iff.1 hy
        split at hy
        · rename_i hj
          injection hy with hy
          subst hy
          have hx0 : x.toList.isEmpty = false := by
            cases h : x.toList.isEmpty with
            | true => exact absurd ((empty_size x).1 h) hx
            | false => rfl
          exact (parts_walk hS hSl hiv hlt hf hk hnd hx0 (by omega) (by omega) hq hj g cs hv hcs).mono fun e w' ⟨he, hm⟩ => ⟨_, he, answers_parts ho hm⟩
        · cases hy
end Go.Ev
end
section
set_option linter.unusedVariables false
set_option linter.unusedSimpArgs false
namespace Go.Proofs.YtlepjafokfhnfaaGreatDoor.Wd
open Go.RowKit Go.Proofs.YtlepjafokfhnfaaGreatDoorW.PrintWords Go.Proofs.YtlepjafokfhnfaaGreatDoorW.PrintLast Go.Proofs.YtlepjafokfhnfaaGreatDoorW.PrintMore
open Go.Maps Go.ChangeMaps Go.WideMaps
theorem at_s {W : World} {A : Option Addr} {l : List ByteArray} (h : Kd.C Kd.string W A l.length l) (k : Nat) (hk : k < l.length) : ∃ ad, A = some ad ∧ W.cell? (ad.add k) = some (.string l[k]) := by
  obtain ⟨ad, hA, hc⟩ := Kd.at_string h (k : Int) (by omega) (by omega)
  refine ⟨ad, hA, ?_⟩
  rw [show ((k : Int)).toNat = k from by omega] at hc
  rw [hc]
  rw [show rdOf ByteArray.empty l (k : Int) = l.getD (k : Int).toNat ByteArray.empty from rfl]
  simp [hk]
def unitR (v : Value) : Option (DataW Unit × List MemPlace) :=
  match v with
  | .agg ⟨[]⟩ => some (.agg [], [])
  | _ => none
theorem keyed : Keyed Tryz.prog 9 := string_keyed Tryz.underlying9
def MapAt (w : World) (b n : Nat) (L : ByteArray → Bool) : Prop := ∃ D : DataW Unit, w.ownsMap Tryz.prog 9 unitR b n D ∧ ∀ s : ByteArray, s.size ≤ maxLen → has D (.string s.data.toList) = L s
theorem lit_ne {s t : ByteArray} (h : s ≠ t) : (Lit.string s.data.toList) ≠ Lit.string t.data.toList := by
  intro e
  injection e with e
  exact h (by apply ByteArray.ext; exact Array.toList_inj.1 e)
theorem zero44 (w : World) : (zeroValue 107).run Tryz.prog w = .ok (.agg #[]) w := Tryz.zeroValue107 w
section
variable {w : World} {b n : Nat} {L : ByteArray → Bool}
theorem make_run (w : World) : (Instr.makeMap 105 none).run Tryz.prog w = .ok (.map (some w.heap.size)) (w.alloc (.map #[] 0)) := by
  simp [Instr.makeMap, run_underlying Tryz.underlying105]
  try rfl
theorem map_made (w : World) : MapAt (w.alloc (.map #[] 0)) w.heap.size 0 (fun _ => false) := ⟨_, World.ownsMap_made w _ _ _, fun s _ => rfl⟩
theorem map_put (h : MapAt w b n L) (hn : n < maxLen) (s : ByteArray) (hs : s.size ≤ maxLen) :
    ∃ w', (Instr.mapUpdate 105 (.map (some b)) (.string s) (.agg #[])).run Tryz.prog w = .ok () w' ∧ MapAt w' b (n + 1) (fun x => decide (x = s) || L x) ∧ w.mapTurned w' b := by
  obtain ⟨D, hD, hL⟩ := h
  obtain ⟨w', hrun, hD', ht⟩ := hD.store keyed Tryz.underlying105 hn (keyOf_string_mk Tryz.underlying9 hs) (show unitR (.agg #[]) = some (.agg [], []) from rfl)
  refine ⟨w', hrun, ⟨_, hD', fun x hx => ?_⟩, ht⟩
  by_cases e : x = s
  · subst e
    rw [has_put_same hD.isMap (by simp [WideAt.IsKeyLit])]; simp
  · rw [has_put_other (lit_ne e), hL x hx]; simp [e]
theorem map_look (h : MapAt w b n L) (s : ByteArray) (hs : s.size ≤ maxLen) :
    (Instr.lookup 105 (.map (some b)) (.string s) true).run Tryz.prog w = .ok (.tuple #[.agg #[], .bool (L s)]) w := by
  obtain ⟨D, hD, hL⟩ := h
  obtain ⟨v, ps, hrun, hv⟩ := hD.look_ok keyed Tryz.underlying105 (zero44 w) (show unitR (.agg #[]) = some (.agg [], []) from rfl) (keyOf_string_mk Tryz.underlying9 hs)
  rw [hrun, hL s hs]
  have : v = .agg #[] := by
    unfold unitR at hv
    split at hv
    · rfl
    · cases hv
  rw [this]
theorem map_drop (h : MapAt w b n L) (s : ByteArray) (hs : s.size ≤ maxLen) (ty : TypeId) :
    ∃ w', (Builtin.delete_ #[105, 9] ty #[.map (some b), .string s]).run Tryz.prog w = .ok (.tuple #[]) w' ∧ MapAt w' b n (fun x => !decide (x = s) && L x) ∧ w.mapTurned w' b := by
  obtain ⟨D, hD, hL⟩ := h
  obtain ⟨w', hrun, hD', ht⟩ := hD.drop keyed Tryz.underlying105 (keyOf_string_mk Tryz.underlying9 hs) ty
  refine ⟨w', hrun, ⟨_, hD', fun x hx => ?_⟩, ht⟩
  by_cases e : x = s
  · subst e
    rw [has_del_same]; simp
  · rw [has_del_other (lit_ne e), hL x hx]; simp [e]
end
theorem turned_grown {w w' : World} {b : Nat} (h : w.mapTurned w' b) : w.grownBy w' (some b) := by
  obtain ⟨es, clock, es', clock', hb, rfl⟩ := h
  refine ⟨rfl, rfl, rfl, by simp [setBlock], fun k hk hne => ?_⟩
  show (w.heap.setIfInBounds b _)[k]? = _
  rw [Array.getElem?_setIfInBounds]
  rw [if_neg (fun e => hne (by rw [e]))]
theorem R_turned {w w' : World} {b n : Nat} {L : ByteArray → Bool} {base : Nat} {v : Value} {xs : List ByteArray} (hm : MapAt w b n L) (h : Kd.string.R 9 w base (fun _ => True) v xs) (ht : w.mapTurned w' b) : Kd.string.R 9 w' base (fun _ => True) v xs := by
  have hg := turned_grown ht
  obtain ⟨D, ⟨es, clock, hb, _⟩, _⟩ := hm
  refine Kd.R_mono (ok' := fun _ => True) (Kd.R_move (Kd.R_bound h) ?_) (fun _ _ => trivial)
  rintro k ⟨_, _, hlt, q, hq, cells, hc⟩
  refine hg.block k hlt ?_
  intro e
  have := Option.some.inj e
  subst this
  rw [hc] at hb
  cases hb
theorem MapAt.below {w w' : World} {b n : Nat} {L : ByteArray → Bool} (h : MapAt w b n L) (hb : Below w.heap.size w w') : MapAt w' b n L := by
  obtain ⟨D, hD, hL⟩ := h
  exact ⟨D, hD.kept (row := none) ⟨hb.os, hb.tape, hb.output, hb.size, fun k hk _ => hb.block k hk⟩ (by simp), hL⟩
theorem MapAt.grown {w w' : World} {b n : Nat} {L : ByteArray → Bool} {row : Option Nat} (h : MapAt w b n L) (hg : w.grownBy w' row) (hne : some b ≠ row) : MapAt w' b n L := by
  obtain ⟨D, hD, hL⟩ := h
  exact ⟨D, hD.kept hg hne, hL⟩
theorem MapAt.congr {w : World} {b n : Nat} {L L' : ByteArray → Bool} (h : MapAt w b n L) (hl : ∀ x, L x = L' x) : MapAt w b n L' := by
  obtain ⟨D, hD, hL⟩ := h
  exact ⟨D, hD, fun s hs => (hL s hs).trans (hl s)⟩
def C1Rel (w : World) (b : Nat) (r : Value) (l : List ByteArray) (i : Value) (wr : World) : Prop :=
  ∃ k : Nat, k ≤ l.length ∧ i = .int .i64 k ∧ MapAt wr b k (fun x => mem (l.take k) x) ∧ Kd.string.R 9 wr w.heap.size (fun _ => True) r l ∧ Below w.heap.size w wr
def step (ws out : List ByteArray) (x : ByteArray) : List ByteArray := if (mem ws x && !mem out x) = true then out ++ [x] else out
def clash (ws names : List ByteArray) : List ByteArray := names.foldl (step ws) []
theorem clash_take (ws names : List ByteArray) (k : Nat) (hk : k < names.length) : clash ws (names.take (k + 1)) = step ws (clash ws (names.take k)) names[k] := by
  unfold clash
  rw [List.take_succ_eq_append_getElem hk, List.foldl_append]; rfl
theorem clash_len (ws names : List ByteArray) : (clash ws names).length ≤ names.length := by
  have : ∀ (l out : List ByteArray), (l.foldl (step ws) out).length ≤ out.length + l.length := by
    intro l
    induction l with
    | nil => intro out; simp
    | cons x r ih =>
      intro out
      have := ih (step ws out x)
      have h2 : (step ws out x).length ≤ out.length + 1 := by unfold step; split <;> simp
      simp only [List.foldl_cons, List.length_cons]; omega
  simpa [clash] using this names []
theorem infoStr : (Tryz.prog.info? 9).map (fun i => (i.zero, i.size, i.bytes)) = some (some (.string ⟨#[]⟩), 1, 16) := by kernel_rfl
theorem size_alloc (W : World) (o : Obj) : (W.alloc o).heap.size = W.heap.size + 1 := by
  show (W.heap.push o).size = _
  rw [Array.size_push]
theorem le_alloc (W : World) (o : Obj) {n : Nat} (h : n ≤ W.heap.size) : n ≤ (W.alloc o).heap.size := by
  show n ≤ (W.heap.push o).size
  rw [Array.size_push]; omega
theorem ne_map {w : World} {b n : Nat} {L : ByteArray → Bool} {base : Nat} {v : Value} {xs : List ByteArray} (hm : MapAt w b n L) (h : Kd.string.R 9 w base (fun _ => True) v xs) : some b ≠ v.ownBlock := by
  obtain ⟨D, ⟨es, clock, hb, _⟩, _⟩ := hm
  intro e
  obtain ⟨h0, _⟩ := Kd.R_bound h
  obtain ⟨_, _, _, q, _, cells, hc⟩ := h0 b e.symm
  rw [hc] at hb
  cases hb
theorem clash_left (ws out : List ByteArray) (x y : ByteArray) : (!decide (y = x) && (mem ws y && !mem out y)) = (mem ws y && !mem (out ++ [x]) y) := by
  have h : mem (out ++ [x]) y = (mem out y || decide (y = x)) := by
    unfold mem
    rw [List.any_append]
    congr 1
    by_cases e : y = x
    · subst e; simp
    · have e' : ¬ x = y := fun h => e h.symm
      simp [e, e']
  rw [h]
  cases mem ws y <;> cases mem out y <;> cases decide (y = x) <;> rfl
theorem turned_below {w W W' : World} (hb : Below w.heap.size w W) (ht : W.mapTurned W' w.heap.size) : Below w.heap.size w W' := by
  have hg := turned_grown ht
  exact ⟨hg.os.trans hb.os, hg.tape.trans hb.tape, hg.output.trans hb.output, Nat.le_trans hb.size hg.size, fun j hj => (hg.block j (Nat.lt_of_lt_of_le hj hb.size) (fun e => by have := Option.some.inj e; omega)).trans (hb.block j hj)⟩
def C2Rel (w : World) (b : Nat) (ws names : List ByteArray) (out i : Value) (wr : World) : Prop :=
  ∃ j n : Nat, j ≤ names.length ∧ i = .int .i64 j ∧ MapAt wr b n (fun x => mem ws x && !mem (clash ws (names.take j)) x) ∧ Kd.string.R 9 wr w.heap.size (fun _ => True) out (clash ws (names.take j)) ∧ Below w.heap.size w wr
theorem mem_take (l : List ByteArray) (k : Nat) (hk : k < l.length) (x : ByteArray) : mem (l.take (k + 1)) x = (decide (x = l[k]) || mem (l.take k) x) := by
  rw [List.take_succ_eq_append_getElem hk]
  unfold mem
  rw [List.any_append, Bool.or_comm]
  have : ∀ y : ByteArray, decide (y = x) = decide (x = y) := fun y => by
    by_cases e : y = x
    · subst e; rfl
    · rw [decide_eq_false e, decide_eq_false (fun e' => e e'.symm)]
  simp [this]
theorem lst_sizes (d : Int) : ∀ x ∈ lst d, x.size ≤ 1000 := by
  have h0 : ((lst 0).all fun x => decide (x.size ≤ 1000)) = true := by kernel_rfl
  have h1 : ((lst 1).all fun x => decide (x.size ≤ 1000)) = true := by kernel_rfl
  have key : ∀ l : List ByteArray, (l.all fun x => decide (x.size ≤ 1000)) = true → ∀ x ∈ l, x.size ≤ 1000 := fun l h x hx => of_decide_eq_true (List.all_eq_true.1 h x hx)
  by_cases e0 : d = 0
  · subst e0; exact key _ h0
  · by_cases e1 : d = 1
    · subst e1; exact key _ h1
    · have hl : lst d = [] := by unfold lst; rw [if_neg e0, if_neg e1]
      rw [hl]; simp
set_option maxHeartbeats 8000000 in
set_option maxRecDepth 1000000 in
theorem clash_any (d : Int) (A : Option Addr) (c : Nat) (names : List ByteArray) (w : World) (ht : Tab w) (hr : Kd.C Kd.string w A names.length names) (ho : ∀ x ∈ names, x.size ≤ maxLen) (hl : names.length ≤ 1000) :
    Calls Tryz.prog 26 #[.int .i64 d, .slice A names.length c] w fun e w' => ∃ r, e = .returned r ∧ Kd.string.R 9 w' w.heap.size (fun _ => True) r (clash (lst d) names) ∧ Below w.heap.size w w' := by
  have HR := Lib.hid hr
  have HT := Lib.hid (tab_below ht (below_alloc (Below.refl _ _) (.map #[] 0)))
  have HM := Lib.hid (map_made w)
  have HB := Lib.hid (below_alloc (Below.refl w.heap.size w) (.map #[] 0))
  have hln := lst_len d
  have hmk := make_run w
  clear hr ht
  go_enter Tryz.func26, Tryz.ntmps26
  go_wp2_with (first | (go_at_call 51; go_must (refine (all_any d _ HT.out).mono ?_)))
  rintro e w1 ⟨r, rfl, hR, hb⟩
  have HM1 := Lib.hid (HM.out.below hb)
  have HB1 := Lib.hid (below_weaken HB.out HB.out.size hb)
  have HR1 := Lib.hid (Kd.R_lower hR HB.out.size)
  clear hR hb HM HB HT
  obtain ⟨A2, c2, rfl, hlc2, _⟩ := Kd.R_reads HR1.out
  go_wp2
  go_loopw [17] (fun i wr => C1Rel w w.heap.size (.slice A2 (lst d).length c2) (lst d) i wr) (fun i _ => (lst d).length - (intOf i).toNat)
  case atStart => exact ⟨0, Nat.zero_le _, rfl, HM1.out.congr (fun x => rfl), HR1.out, HB1.out⟩
  case round =>
    obtain ⟨k, hk, rfl, hm, hR, hb⟩ := hrel
    have HMk := Lib.hid hm
    have HRk := Lib.hid hR
    have HBk := Lib.hid hb
    clear hm hR hb HM1 HR1 HB1 hmk
    by_cases hlt : k < (lst d).length
    · obtain ⟨A3, c3, he3, _, hC⟩ := Kd.R_reads HRk.out
      injection he3 with he1 he2 he3
      subst he1
      obtain ⟨ad, rfl, hcell⟩ := at_s hC k hlt
      have hsz := lst_sizes d (lst d)[k] (List.getElem_mem _)
      obtain ⟨w5, hup, hm5, ht5⟩ := map_put HMk.out (by simp [maxLen]; omega) (lst d)[k] (by simp [maxLen]; omega)
      have HM5 := Lib.hid hm5
      have HR5 := Lib.hid (R_turned HMk.out HRk.out ht5)
      have HB5 : Hid (Below w.heap.size w w5) := Lib.hid (by
        have hg := turned_grown ht5
        exact ⟨hg.os.trans HBk.out.os, hg.tape.trans HBk.out.tape, hg.output.trans HBk.out.output, Nat.le_trans HBk.out.size hg.size, fun j hj => (hg.block j (Nat.lt_of_lt_of_le hj HBk.out.size) (fun e => by have := Option.some.inj e; omega)).trans (HBk.out.block j hj)⟩)
      clear hm5 ht5 hC
      go_wp2
      go_round
      · exact ⟨k + 1, by omega, by simp, HM5.out.congr (fun x => (mem_take (lst d) k hlt x).symm), HR5.out, HB5.out⟩
      · simp only [intOf]; omega
    · obtain rfl : k = (lst d).length := by omega
      have HM2 := Lib.hid (HMk.out.congr (L' := fun x => mem (lst d) x && !mem [] x) (fun x => by rw [List.take_length]; simp [mem]))
      clear HMk HRk
      go_wp2
      go_loopw [8, 27] (fun out i wr => C2Rel w w.heap.size (lst d) names out i wr) (fun _ i _ => names.length - (intOf i).toNat)
      case atStart => exact ⟨0, _, Nat.zero_le _, rfl, HM2.out, Kd.R_nil _ _ _ _ _, HBk.out⟩
      case round =>
        obtain ⟨j, n, hj, rfl, hm, hR, hb⟩ := hrel
        have HMj := Lib.hid hm
        have HRj := Lib.hid hR
        have HBj := Lib.hid hb
        clear hm hR hb HM2 HBk
        by_cases hlt : j < names.length
        · obtain ⟨ad, rfl, hcell⟩ := at_s (Kd.C_below HR.out HBj.out) j hlt
          have hx := ho names[j] (List.getElem_mem _)
          have hlk := map_look HMj.out names[j] hx
          have hct := clash_take (lst d) names j hlt
          have HRa := Lib.hid (Kd.R_alloc HRj.out (.cells #[] 107))
          have HMa := Lib.hid (HMj.out.below (below_alloc (Below.refl wr.heap.size wr) (.cells #[] 107)))
          have HBa := Lib.hid (below_alloc HBj.out (.cells #[] 107))
          have HNa := Lib.hid (ne_map HMa.out HRa.out)
          have hln2 := clash_len (lst d) (names.take j)
          have hln3 : (names.take j).length ≤ 1000 := by rw [List.length_take]; omega
          cases hbv : (mem (lst d) names[j] && !mem (clash (lst d) (names.take j)) names[j]) with
          | true =>
            rw [hbv] at hlk
            have hst : clash (lst d) (names.take (j + 1)) = clash (lst d) (names.take j) ++ [names[j]] := by rw [hct, step, if_pos hbv]
            go_wp2_with (first
              | ((with_reducible refine gate_builtin (b := .append) (xs := #[.tmp 38, .tmp 40]) rfl ?_); at_builtin; go_must ((refine Kd.R_append Kd.string w.heap.size rfl (.tmp 38) (.tmp 40) 22 9 (.string ⟨#[]⟩) 16 rfl Tryz.underlying22 infoStr rfl (by decide) (by omega) u8 (clash (lst d) (names.take j)) names[j] [.string names[j]] (fun _ => True) (fun _ => False) rfl ?hx ?aP (fun _ hk => hk.elim) (fun _ _ => trivial) HRa.out (Below.refl _ _) (le_alloc _ _ HBj.out.size) ?aL ?_; (case hx => show Value.slice (some ⟨wr.heap.size + 1, 0, none⟩) 1 1 = Value.slice (some ⟨(wr.alloc _).heap.size, 0, none⟩) 1 1; rw [size_alloc]); (case aP => exact rfl); (case aL => omega))); go_must (intro v1 w9 ho9 hb hg hat; rw [← hst] at ho9; have HO9 := Lib.hid ho9; have HB9 := Lib.hid (HBa.out.trans hb); have HM9 := Lib.hid (HMa.out.grown hg HNa.out); obtain ⟨w10, hdl, hmd, htd⟩ := map_drop HM9.out names[j] hx 0; have HMD := Lib.hid hmd; have HTD := Lib.hid htd; clear ho9 hb hg hat hmd htd)))
            go_round
            · refine ⟨j + 1, n, by omega, by simp, ?_, R_turned HM9.out HO9.out HTD.out, turned_below HB9.out HTD.out⟩
              rw [hst]
              exact HMD.out.congr (fun y => clash_left (lst d) (clash (lst d) (names.take j)) names[j] y)
            · simp only [intOf]; omega
          | false =>
            rw [hbv] at hlk
            have hst : clash (lst d) (names.take (j + 1)) = clash (lst d) (names.take j) := by rw [hct, step, if_neg (by rw [hbv]; simp)]
            go_wp2
            go_round
            · refine ⟨j + 1, n, by omega, by simp, ?_, ?_, HBa.out⟩
              · rw [hst]; exact HMa.out
              · rw [hst]; exact HRa.out
            · simp only [intOf]; omega
        · obtain rfl : j = names.length := by omega
          rw [List.take_length] at HRj
          go_wp2
          go_ret
          exact ⟨_, rfl, HRj.out, HBj.out⟩
end Go.Proofs.YtlepjafokfhnfaaGreatDoor.Wd
end
section
open Go Go.Proofs
namespace Go.Ev
open Go.RowKit Go.Proofs.YtlepjafokfhnfaaGreatDoor Go.Proofs.YtlepjafokfhnfaaGreatDoorW.PrintWords Go.Proofs.YtlepjafokfhnfaaGreatDoorW.PrintLast Go.Proofs.YtlepjafokfhnfaaGreatDoorW.PrintMore
set_option linter.unusedVariables false
set_option linter.unusedSimpArgs false
set_option maxHeartbeats 4000000
set_option maxRecDepth 100000
theorem c_string {Sl : Nat → Nat → Prop} {w : World} {v : Value} {xs : List ByteArray} (h : DRep EE Sl w v (.sl 9 xs)) :
    ∃ A c, v = .slice A xs.length c ∧ Kd.C Kd.string w A xs.length xs := by
  cases h with
  | sl _ _ A n c g o vals hn hcap hm hA hc hr =>
    have hn : xs.length = n := hn
    subst hn
    refine ⟨A, c, rfl, rfl, Nat.le_trans hm (by decide), fun hpos => ?_⟩
    rw [hA hpos]
    refine ⟨_, rfl, fun j p hp => ⟨[.string p], rfl, rfl, fun i u hu => ?_⟩⟩
    have h3 := (hc j p 0 (.lit (.string p)) hp rfl).1
    have h4 := hr j p 0 (.lit (.string p)) hp rfl
    have h5 : (EE.row 9 p).length = 1 := rfl
    rw [h5, Nat.mul_one, Nat.add_zero] at h3 h4
    cases i with
    | zero =>
      simp at hu
      subst hu
      rw [drep_lit h4] at h3
      have e : (⟨g, o, none⟩ : Addr).add (j * 1 + 0) = ⟨g, o + j, none⟩ := by simp [Addr.add]
      show w.cell? ((⟨g, o, none⟩ : Addr).add (j * 1 + 0)) = _
      rw [e]
      exact h3
    | succ i => simp at hu
theorem r_string {Sl : Nat → Nat → Prop} {w w' : World} {u : Value} {xs : List ByteArray} (hSl : ∀ g o, Sl g o → g < w.heap.size) (hb : Below w.heap.size w w') (hR : Kd.string.R 9 w' w.heap.size (fun _ => True) u xs) :
    Answers EE Sl w [] [] (.c (.ow 9 xs), []) u w' := by
  obtain ⟨_, inner, hown, hlen, hrep⟩ := hR
  refine answers_row (ti := { size := 1, bytes := 16, zero := [.string ⟨#[]⟩], td := .string }) (by kernel_rfl) hSl hb hown (fun i r j y hi hj => ?_)
  have hj' : ([DV.lit (.string r)] : List (DV II))[j]? = some y := hj
  have h1 : (inner.drop (i * 1)).take 1 = [Value.string r] := hrep i r hi
  cases j with
  | zero =>
    simp at hj'
    subst hj'
    refine ⟨.string r, ?_, fun Sl' _ => .lit _ rfl⟩
    have h2 : ((inner.drop (i * 1)).take 1)[0]? = some (Value.string r) := by rw [h1]; rfl
    rw [List.getElem?_take_of_lt (by omega), List.getElem?_drop] at h2
    exact h2
  | succ j => simp at hj'
theorem ok_words_Clash : SpecA Tryz.prog EE 26 (ansOf c_words_Clash rc_words_Clash.enc fun x => if x.2.1.length ≤ 1000 ∧ (x.2.1.all fun z => decide (z.size ≤ maxLen)) = true then some (Wd.clash (Wd.lst x.1) x.2.1) else none) := by
  refine specA_by _ _ _ fun x y hy Sl w us fp rs hSl hargs hnd hlt hiv => ?_
  obtain ⟨d, xs, _⟩ := x
  simp only at hy
  split at hy
  · rename_i hb
    injection hy with hy
    subst hy
    obtain ⟨vs, rfl, h1⟩ := areps_lit hargs
    obtain ⟨v, vs', rfl, h2, h3⟩ := areps_d h1
    obtain ⟨rfl, rfl, rfl⟩ := areps_nil h3
    obtain ⟨A, c, rfl, hC⟩ := c_string h2
    refine ⟨26, #[_, _], .inl ⟨by decide, rfl, rfl⟩, ⟨Tryz.f26, Tryz.func26, by kernel_rfl, by kernel_rfl⟩, ?_⟩
    exact (Wd.clash_any d A c xs w hiv.1 hC (fun z hz => of_decide_eq_true (List.all_eq_true.1 hb.2 z hz)) hb.1).mono fun e w' ⟨r, he, hR, hbel⟩ => ⟨r, he, r_string hSl hbel hR⟩
  · cases hy
theorem below_grown (w : World) (k : Nat) (os : Array Go.Obj) : Below w.heap.size w (Go.Sort.grow (w.drewN k) os) := by
  have h := pw_below_drewN (Below.refl w.heap.size w) k
  refine ⟨h.os, h.tape, h.output, ?_, fun i hi => ?_⟩
  · show w.heap.size ≤ ((w.drewN k).heap ++ os).size
    rw [Array.size_append]
    exact Nat.le_trans h.size (Nat.le_add_right _ _)
  · show ((w.drewN k).heap ++ os)[i]? = _
    rw [Array.getElem?_append_left (Nat.lt_of_lt_of_le hi h.size)]
    exact h.block i hi
def itoaB (n : Int) : ByteArray := ⟨(Lib.itoa n).toArray⟩
theorem ok_strconv_Itoa : SpecA Tryz.prog EE 54 (ansOf c_strconv_Itoa rc_strconv_Itoa.enc fun x => if 0 ≤ x.1 ∧ x.1 ≤ 9223372036854775807 then some (itoaB x.1) else none) := by
  refine specA_by _ _ _ fun x y hy Sl w us fp rs hSl hargs hnd hlt hiv => ?_
  obtain ⟨n, _⟩ := x
  simp only at hy
  split at hy
  · rename_i hb
    injection hy with hy
    subst hy
    obtain ⟨vs, rfl, h1⟩ := areps_lit hargs
    obtain ⟨rfl, rfl, rfl⟩ := areps_nil h1
    refine ⟨54, #[_], .inl ⟨by decide, rfl, rfl⟩, ⟨Tryz.f54, Tryz.func54, by kernel_rfl, by kernel_rfl⟩, ?_⟩
    refine (Tryz.strconv_Itoa n (by omega) hb.2 w hiv.2.2).mono fun e w' ⟨he, k, os, hw⟩ => ⟨_, he, ?_⟩
    subst hw
    exact answers_lit hSl (below_grown w k os) rfl
  · cases hy
def hFam : Fam := { nilFam with
  f_words_Is := fun x => some (Wd.mem (Wd.lst x.1) x.2.1)
  f_slices_Clone_string := fun x => if x.1.length * 16 ≤ 140737488355328 then some x.1 else none
  f_words_Clash := fun x => if x.2.1.length ≤ 1000 ∧ (x.2.1.all fun z => decide (z.size ≤ maxLen)) = true then some (Wd.clash (Wd.lst x.1) x.2.1) else none
  f_strconv_Itoa := fun x => if 0 ≤ x.1 ∧ x.1 ≤ 9223372036854775807 then some (itoaB x.1) else none
  f_by := stepT }
theorem hand : HandOK hFam where
  o_tree_Names := ok_tree_Names
  o_tree_Rename := ok_tree_Rename
  o_words_Is := ok_words_Is
  o_words_Clash := ok_words_Clash
  o_strconv_Itoa := ok_strconv_Itoa
  o_tree_mapper_parts := ok_tree_mapper_parts
  o_slices_Clone_string := ok_Clone
  o_by := ok_by
theorem awake_ok (k : Nat) : (FF hFam (k + 12)).f_w16_awake () = some true := by kernel_rfl
end Go.Ev
end
section
open Go Go.Proofs
namespace Go.Ev
open Go.RowKit Go.Proofs.YtlepjafokfhnfaaGreatDoor
set_option linter.unusedVariables false
set_option linter.unusedSimpArgs false
set_option maxHeartbeats 4000000
set_option maxRecDepth 100000
theorem bulkAll_eq {H : Type} : ∀ l : List (DataW H), Rows.uptoBulkAll l = (l.map Rows.uptoBulk).sum
  | [] => rfl
  | d :: r => by rw [Rows.uptoBulkAll, bulkAll_eq r]; rfl
theorem bulk_pos {H : Type} (d : DataW H) : 1 ≤ Rows.uptoBulk d := by
  cases d with
  | lit l => cases l <;> simp [Rows.uptoBulk]
  | _ => simp [Rows.uptoBulk]
theorem measB (H : Type) : Meas EE ftt bkk (fun d : DataW H => Rows.uptoBulk d) rowsL :=
  meas EE rfl rfl _ (bulk_pos _) (fun l => bulk_pos _) (fun l => Nat.le_refl _) (fun a b => by show (a.map Rows.uptoBulk).sum + 1 ≤ Rows.uptoBulkAll a + Rows.uptoBulkAll b + 1; rw [bulkAll_eq a]; omega)
    (fun a => by show (a.map Rows.uptoBulk).sum + 1 ≤ Rows.uptoBulkAll a + 1; rw [bulkAll_eq a]; exact Nat.le_refl _)
section
variable {H : Type} {enc : TypeId × Value → H} {W : World} {base : Nat} {spare : Nat → Bool} {held : Bool}
def tyOfN (t : Nat) : TI := match EE.ty t with | some ti => ti | none => ⟨0, 0, [], .other, true⟩
def yesR : RV II := (.c (.d (.lit (.bool true))), [])
theorem below_of {w w' : World} {u : Value} (h : Answers EE (allS w) w [] [] yesR u w') : u = .bool true ∧ Below w.heap.size w w' := by
  obtain ⟨Sl', p1, p2, r1, r2, hkeep, hext, hu, hps, hnd, hlt⟩ := h
  obtain ⟨hu1, rfl, rfl⟩ := arep_d hu
  exact ⟨drep_lit hu1, ⟨hkeep.os, hkeep.tape, hkeep.output, hkeep.size, fun i hi => hkeep.block i hi (by simp)⟩⟩
theorem call_law {f : Nat} (hf : f ≠ 1000003) {s : Fam} (hS : ∀ f, SpecOK Tryz.prog EE (sp s) f) {avs : List (AV II)} (hr : (sp s f avs).run = some yesR) {args : Array Value} (ha : AReps EE (allS W) W (· ∈ ([] : List Nat)) W.heap.size args.toList avs [] []) (hi : EE.inv W) :
    Calls Tryz.prog f args W fun e W' => e = .returned (.bool true) ∧ Below W.heap.size W W' := by
  obtain ⟨g, args', hc, hfn, hcalls⟩ := hS f avs _ hr (allS W) W args.toList [] [] (fun _ _ h => h) ha List.nodup_nil (fun k hk => by cases hk) hi
  rcases hc with ⟨_, rfl, he⟩ | ⟨h, _⟩
  · have : args' = args := Array.toList_inj.1 he
    subst this
    refine hcalls.mono fun e w' ⟨u, he, h⟩ => ?_
    obtain ⟨rfl, hb⟩ := below_of h
    exact ⟨he, hb⟩
  · exact absurd h hf
theorem read_anyB {t : Nat} {ti : TI} {l : List KD} (ht : EE.ty t = some ti) (hs : (match ti.td with | .struct _ => true | _ => false) = true) (hl : flatK EE.ty 9 t = some l) (hn : Nat.beq ti.size 1 = false) {v : Value} {d : DataW H} {ps : List MemPlace} (h : DataW.Trod enc Tryz.prog W base spare held t v d ps) :
    ∃ vs : Array Value, v = .agg vs ∧ ∃ ds, DReps EE (allS W) W vs.toList ds ∧ ds.map kd = l ∧ (∀ d ∈ ds, QD ftt d) ∧ (ds.map (bkD bkk)).sum + 1 ≤ Rows.uptoBulk d := by
  obtain ⟨fuel, h⟩ := h
  obtain ⟨⟨ds, h1, h2, h3, h4⟩, h5, hlen⟩ := rd hEE (measB H) fuel t ti _ (d, ps) l ht hl h
  cases htd : ti.td with
  | struct fs =>
    rw [htd] at h4 h5
    simp only at h4 h5
    cases v with
    | agg vs => exact ⟨vs, rfl, ds, h1, h2, h3, by omega⟩
    | _ =>
      have h1 : 1 = ti.size := hlen
      simp only [← h1] at hn
      cases hn
  | _ => rw [htd] at hs; cases hs
theorem read_exprB {v : Value} {d : DataW H} {ps : List MemPlace} (h : DataW.Trod enc Tryz.prog W base spare held 95 v d ps) :
    ∃ (vs : Array Value) (x : TExpr), v = .agg vs ∧ ft_TExpr x ∧ bk_TExpr x ≤ Rows.uptoBulk d ∧ ARep EE (allS W) W (· ∈ ([] : List Nat)) W.heap.size v (c_TExpr.enc x) [] [] := by
  obtain ⟨vs, rfl, ds, h1, h2, h3, h4⟩ := read_anyB (t := 95) (l := [.int .i64, .int .i64, .str, .str, .sl 95]) (ti := tyOfN 95) (by kernel_rfl) (by kernel_rfl) (by kernel_rfl) (by kernel_rfl) h
  obtain ⟨x, rfl⟩ := full_TExpr ds (congrArg some h2.symm)
  refine ⟨vs, x, rfl, ?_, ?_, .agg vs _ [] [] h1.preps⟩
  · cases x
    simp only [row_TExpr, List.mem_cons, List.not_mem_nil, or_false, forall_eq_or_imp, forall_eq, QD] at h3
    simp only [ft_TExpr, fts_TExpr_iff]
    exact h3
  · cases x
    simp only [row_TExpr, List.map_cons, List.map_nil, List.sum_cons, List.sum_nil, bkD, bkk_TExpr] at h4
    simp only [bk_TExpr, bks_TExpr_eq]
    omega
theorem read_progB {v : Value} {d : DataW H} {ps : List MemPlace} (h : DataW.Trod enc Tryz.prog W base spare held 28 v d ps) :
    ∃ (vs : Array Value) (x : TProgram), v = .agg vs ∧ ft_TProgram x ∧ bk_TProgram x ≤ Rows.uptoBulk d ∧ ARep EE (allS W) W (· ∈ ([] : List Nat)) W.heap.size v (c_TProgram.enc x) [] [] := by
  obtain ⟨vs, rfl, ds, h1, h2, h3, h4⟩ := read_anyB (t := 28) (l := [.str, .sl 9, .sl 9, .sl 9, .sl 46, .sl 56, .sl 90, .sl 97, .sl 9]) (ti := tyOfN 28) (by kernel_rfl) (by kernel_rfl) (by kernel_rfl) (by kernel_rfl) h
  obtain ⟨d0, ds, rfl, e0, h⟩ := List.map_eq_cons_iff.1 h2
  obtain ⟨d1, ds, rfl, e1, h⟩ := List.map_eq_cons_iff.1 h
  obtain ⟨d2, ds, rfl, e2, h⟩ := List.map_eq_cons_iff.1 h
  obtain ⟨d3, ds, rfl, e3, h⟩ := List.map_eq_cons_iff.1 h
  obtain ⟨d4, ds, rfl, e4, h⟩ := List.map_eq_cons_iff.1 h
  obtain ⟨d5, ds, rfl, e5, h⟩ := List.map_eq_cons_iff.1 h
  obtain ⟨d6, ds, rfl, e6, h⟩ := List.map_eq_cons_iff.1 h
  obtain ⟨d7, ds, rfl, e7, h⟩ := List.map_eq_cons_iff.1 h
  obtain ⟨d8, ds, rfl, e8, h⟩ := List.map_eq_cons_iff.1 h
  obtain rfl := List.map_eq_nil_iff.1 h
  obtain ⟨y0, rfl⟩ := kd_str e0
  obtain ⟨y1, rfl⟩ := kd_sl e1
  obtain ⟨y2, rfl⟩ := kd_sl e2
  obtain ⟨y3, rfl⟩ := kd_sl e3
  obtain ⟨y4, rfl⟩ := kd_sl e4
  obtain ⟨y5, rfl⟩ := kd_sl e5
  obtain ⟨y6, rfl⟩ := kd_sl e6
  obtain ⟨y7, rfl⟩ := kd_sl e7
  obtain ⟨y8, rfl⟩ := kd_sl e8
  refine ⟨vs, ⟨y0, y1, y2, y3, y4, y5, y6, y7, y8⟩, rfl, ?_, ?_, .agg vs _ [] [] h1.preps⟩
  · simp only [List.mem_cons, List.not_mem_nil, or_false, forall_eq_or_imp, forall_eq, QD] at h3
    simp only [ft_TProgram, fts_v9_iff, fts_TRec_iff, fts_TVar_iff, fts_TRoutine_iff, fts_TStmt_iff]
    exact h3
  · simp only [List.map_cons, List.map_nil, List.sum_cons, List.sum_nil, bkD] at h4
    have e9 : ∀ l : List ByteArray, (l.map (bkk 9)).sum = bks_v9 l := fun l => by rw [bks_v9_eq]; rfl
    have e59 : ∀ l : List TRec, (l.map (bkk 46)).sum = bks_TRec l := fun l => by rw [bks_TRec_eq]; rfl
    have e98 : ∀ l : List TVar, (l.map (bkk 56)).sum = bks_TVar l := fun l => by rw [bks_TVar_eq]; rfl
    have e103 : ∀ l : List TRoutine, (l.map (bkk 90)).sum = bks_TRoutine l := fun l => by rw [bks_TRoutine_eq]; rfl
    have e107 : ∀ l : List TStmt, (l.map (bkk 97)).sum = bks_TStmt l := fun l => by rw [bks_TStmt_eq]; rfl
    have f1 := e9 y1
    have f2 := e9 y2
    have f3 := e9 y3
    have f4 := e59 y4
    have f5 := e98 y5
    have f6 := e103 y6
    have f7 := e107 y7
    have f8 := e9 y8
    simp only [bk_TProgram]
    omega
end
end Go.Ev
end
section
open Go Go.Proofs
namespace Go.Ev
open Go.RowKit Go.Proofs.YtlepjafokfhnfaaGreatDoor
set_option linter.unusedVariables false
def laidL : List (String × DataW Unit) := [("math/bits.deBruijn32tab", Rows.laid_math_bits_deBruijn32tab), ("math/bits.deBruijn64tab", Rows.laid_math_bits_deBruijn64tab), ("internal/strconv.uint64pow10", Rows.laid_internal_strconv_uint64pow10), ("unicode/utf8.acceptRanges", Rows.laid_unicode_utf8_acceptRanges), ("unicode.White_Space", Rows.laid_unicode_White_Space), ("strings.asciiSpace", Rows.laid_strings_asciiSpace), ("unicode/utf8.first", Rows.laid_unicode_utf8_first)]
theorem tab_datum0 : (Rows.laid_strings_asciiSpace : DataW Unit) = Lib.tabData .u8 Lib.asciiSpaceTab := by kernel_rfl
theorem tab_datum1 : (Rows.laid_internal_strconv_uint64pow10 : DataW Unit) = Lib.tabData .u64 Lib.pow10Tab := by kernel_rfl
theorem of_laid {W : World} (h : laidMetH Tryz.prog laidL W) (hs : W.ShapedOpen Tryz.prog) : EE.inv W := by
  rw [MakeChecks.laidMetH_plain _ _ _ (by kernel_rfl)] at h
  obtain ⟨ps, ⟨g0, t0, cs0, f0, p0, q0, hg0, ht0, hv0, hd0, ⟨g1, t1, cs1, f1, p1, q1, hg1, ht1, hv1, hd1, ⟨g2, t2, cs2, f2, p2, q2, hg2, ht2, hv2, hd2, ⟨g3, t3, cs3, f3, p3, q3, hg3, ht3, hv3, hd3, ⟨g4, t4, cs4, f4, p4, q4, hg4, ht4, hv4, hd4, ⟨g5, t5, cs5, f5, p5, q5, hg5, ht5, hv5, hd5, _⟩, _⟩, _⟩, _⟩, _⟩, _⟩, _⟩ := h
  rw [tab_datum0] at hd5
  obtain rfl := Option.some.inj ((show Tryz.prog.globalNamed "strings.asciiSpace" = some 0 by kernel_rfl).symm.trans hg5)
  obtain rfl := Option.some.inj ((show (Tryz.prog.globals[0]?).map (·.type) = some 154 by kernel_rfl).symm.trans ht5)
  rw [tab_datum1] at hd2
  obtain rfl := Option.some.inj ((show Tryz.prog.globalNamed "internal/strconv.uint64pow10" = some 2 by kernel_rfl).symm.trans hg2)
  obtain rfl := Option.some.inj ((show (Tryz.prog.globals[2]?).map (·.type) = some 200 by kernel_rfl).symm.trans ht2)
  refine ⟨?_, Tryz.laysM146.s1_3 W hs, ?_⟩
  · unfold Lib.TabIs
    rw [hv5, ← Lib.cells_of_tab Tryz.underlying154 Tryz.underlying5 (by kernel_rfl) (by kernel_rfl) hd5]
  · unfold Lib.TabIs
    rw [hv2, ← Lib.cells_of_tab Tryz.underlying200 Tryz.underlying139 (by kernel_rfl) (by kernel_rfl) hd2]
end Go.Ev
end
section
open Go
namespace Go.Ev
set_option maxRecDepth 100000
set_option maxHeartbeats 4000000
set_option linter.unusedVariables false
set_option linter.unusedSimpArgs false
variable (h : Fam)
theorem bk_Var_pos (x : TVar) : 1 ≤ bk_TVar x := by cases x; simp [bk_TVar]
theorem bks_Var_len (l : List TVar) : l.length ≤ bks_TVar l := by rw [bks_TVar_eq]; exact len_sum _ bk_Var_pos l
theorem bks_Var_mem (l : List TVar) (i : Nat) (hi : i < l.length) : bk_TVar l[i] ≤ bks_TVar l := by rw [bks_TVar_eq]; exact mem_sum _ l i hi
theorem bk_Field_pos (x : TField) : 1 ≤ bk_TField x := by cases x; simp [bk_TField]
theorem bks_Field_len (l : List TField) : l.length ≤ bks_TField l := by rw [bks_TField_eq]; exact len_sum _ bk_Field_pos l
theorem bks_Field_mem (l : List TField) (i : Nat) (hi : i < l.length) : bk_TField l[i] ≤ bks_TField l := by rw [bks_TField_eq]; exact mem_sum _ l i hi
theorem bk_Rec_pos (x : TRec) : 1 ≤ bk_TRec x := by cases x; simp [bk_TRec]
theorem bks_Rec_len (l : List TRec) : l.length ≤ bks_TRec l := by rw [bks_TRec_eq]; exact len_sum _ bk_Rec_pos l
theorem bks_Rec_mem (l : List TRec) (i : Nat) (hi : i < l.length) : bk_TRec l[i] ≤ bks_TRec l := by rw [bks_TRec_eq]; exact mem_sum _ l i hi
theorem bk_Routine_pos (x : TRoutine) : 1 ≤ bk_TRoutine x := by cases x; simp [bk_TRoutine]
theorem bk_Param_pos (x : TParam) : 1 ≤ bk_TParam x := by cases x; simp [bk_TParam]
theorem bks_Param_len (l : List TParam) : l.length ≤ bks_TParam l := by rw [bks_TParam_eq]; exact len_sum _ bk_Param_pos l
theorem bks_Routine_len (l : List TRoutine) : l.length ≤ bks_TRoutine l := by rw [bks_TRoutine_eq]; exact len_sum _ bk_Routine_pos l
theorem bks_Routine_mem (l : List TRoutine) (i : Nat) (hi : i < l.length) : bk_TRoutine l[i] ≤ bks_TRoutine l := by rw [bks_TRoutine_eq]; exact mem_sum _ l i hi
end Go.Ev
end
section
open Go Go.Proofs
namespace Go.Ev
open Go.RowKit Go.Shelf
attribute [local go_sem] Oper.semAt_some
set_option linter.unusedVariables false
set_option linter.unusedSimpArgs false
set_option maxHeartbeats 4000000
set_option maxRecDepth 100000
theorem cutL_none : ∀ l : List UInt8, Lib.indexByte l 36 = -1 → cutL l = [l]
  | [], _ => rfl
  | c :: r, h => by
    have hc := Lib.indexByte_none h 0
    have hne : c ≠ 36 := fun e => hc (by simp [e])
    have hr : Lib.indexByte r 36 = -1 := by
      have hge := Lib.indexByte_ge r 36
      unfold Lib.indexByte at h
      split at h
      · cases h
      · split at h
        · rename_i h2; simpa using h2
        · omega
    rw [cutL, if_neg hne, cutL_none r hr]
theorem cutL_some : ∀ (l : List UInt8) (i : Nat), Lib.indexByte l 36 = i → cutL l = l.take i :: cutL (l.drop (i + 1))
  | [], i, h => by simp [Lib.indexByte] at h
  | c :: r, 0, h => by
    have := (Lib.indexByte_some h).1
    simp at this
    rw [cutL, if_pos this]
    rfl
  | c :: r, i + 1, h => by
    have hne : c ≠ 36 := fun e => (Lib.indexByte_some h).2 0 (by omega) (by simp [e])
    have hr : Lib.indexByte r 36 = i := by
      unfold Lib.indexByte at h
      split at h
      · omega
      · split at h
        · omega
        · push_cast at h; omega
    rw [cutL, if_neg hne, cutL_some r i hr]
    rfl
theorem cutP_none (s : ByteArray) (h : Lib.indexByte s.data.toList 36 = -1) : cutP s = [s] := by
  unfold cutP
  rw [cutL_none _ h]
  simp
theorem cutP_some (s : ByteArray) (i : Nat) (h : Lib.indexByte s.data.toList 36 = i) : cutP s = s.extract 0 i :: cutP (s.extract (i + 1) s.size) := by
  unfold cutP
  rw [cutL_some _ i h]
  simp only [List.map_cons, List.cons.injEq]
  constructor
  · apply ByteArray.ext
    apply Array.toList_inj.1
    rw [Lib.extract_data]
    simp
  · congr 2
    rw [Lib.extract_data, List.take_of_length_le (by simp)]
end Go.Ev
end
section
open Go
namespace Go.Ev
open Go.Proofs.YtlepjafokfhnfaaGreatDoor
set_option maxRecDepth 100000
set_option maxHeartbeats 4000000
set_option linter.unusedVariables false
set_option linter.unusedSimpArgs false
theorem lt_dec {i n : Nat} (h : i < n) : decide ((i : Int) < (n : Int)) = true := by simpa using h
theorem bool_some {a b : Bool} (h : a = true ↔ b = true) : some a = some b := by cases a <;> cases b <;> simp_all
def ltr (c : Int) (f : Bool) : Bool := decide (c ≥ 97) && decide (c ≤ 122) || !f && (c == 95 || decide (c ≥ 48) && decide (c ≤ 57))
theorem Letter_ok (k : Nat) (c : Int) (f : Bool) : (FF hFam (k + 1)).f_r04_Letter (c, f, ()) = some (ltr c f) := by
  show B_r04_Letter (FF hFam k) k c f = _
  unfold B_r04_Letter ltr
  cases (decide (c ≥ 97) && decide (c ≤ 122)) <;> simp
def nmP (s : ByteArray) : Prop := s.size ≠ 0 ∧ s.size ≤ 32 ∧ ∀ m, m < s.size → ltr (bt s (m : Int)) ((m : Int) == 0) = true
theorem eps_size (s : ByteArray) : (s.toList == (⟨#[]⟩ : ByteArray).toList) = decide (s.size = 0) := by
  rw [ba_beq]
  refine decide_eq_decide.2 ⟨fun h => by rw [h]; rfl, fun h => ?_⟩
  apply ByteArray.ext
  exact Array.eq_empty_of_size_eq_zero h
theorem r04_Check_ok (k : Nat) (s : ByteArray) (hk : s.size < k) (hm : s.size ≤ maxLen) : ∃ c, (FF hFam (k + 2)).f_r04_Check (s, ()) = some c ∧ (c = 0 ↔ nmP s) := by
  have key : s.size ≠ 0 → ∀ j i, i ≤ s.size → s.size - i < j → ∃ c, Lr04_Check_4 (FF hFam (k + 1)) (k + 1) s j s (i : Int) = some c ∧ (c = 0 ↔ s.size ≤ 32 ∧ ∀ m, i ≤ m → m < s.size → ltr (bt s (m : Int)) ((m : Int) == 0) = true) := by
    intro h0
    refine up_ind s.size (fun j => ?_) (fun j i hi ih => ?_)
    · simp only [Lr04_Check_4]
      rw [if_neg (by simp)]
      by_cases h1 : s.size ≤ 32
      · exact ⟨0, by rw [if_neg (by simp; omega)], by simp only [true_iff]; exact ⟨h1, fun m hm hm' => by omega⟩⟩
      · exact ⟨3, by rw [if_pos (by simp; omega)], by constructor <;> intro h; (· cases h); exact absurd h.1 h1⟩
    · simp only [Lr04_Check_4]
      rw [if_pos (lt_dec hi), if_pos (by omega), if_pos (by omega), Letter_ok, Option.bind_some, wrap_succ hi hm]
      cases hl : ltr (bt s (i : Int)) ((i : Int) == 0) with
      | false =>
        refine ⟨11, by simp, ?_⟩
        constructor
        · intro h; cases h
        · intro h; have := h.2 i (Nat.le_refl _) hi; rw [hl] at this; cases this
      | true =>
        obtain ⟨c, h1, h2⟩ := ih
        refine ⟨c, by simpa using h1, h2.trans ?_⟩
        constructor
        · rintro ⟨b, d⟩
          refine ⟨b, fun m hm hm' => ?_⟩
          rcases Nat.lt_or_ge i m with h | h
          · exact d m h hm'
          · have : m = i := by omega
            subst this; exact hl
        · rintro ⟨b, d⟩
          exact ⟨b, fun m hm hm' => d m (by omega) hm'⟩
  show ∃ c, B_r04_Check (FF hFam (k + 1)) (k + 1) s = some c ∧ _
  unfold B_r04_Check
  rw [eps_size]
  by_cases h0 : s.size = 0
  · refine ⟨11, by rw [if_pos (by simpa using h0)], ?_⟩
    unfold nmP
    simp [h0]
  · rw [if_neg (by simpa using h0)]
    obtain ⟨c, h1, h2⟩ := key h0 (k + 1) 0 (Nat.zero_le _) (by omega)
    refine ⟨c, h1, h2.trans ?_⟩
    unfold nmP
    simp [h0]
def nameP (d : Int) (s : ByteArray) : Prop := nmP s ∧ Wd.mem (Wd.lst d) s = false
end Go.Ev
end
section
open Go
namespace Go.Ev
open Go.Proofs.YtlepjafokfhnfaaGreatDoor
set_option maxRecDepth 100000
set_option maxHeartbeats 4000000
set_option linter.unusedVariables false
set_option linter.unusedSimpArgs false
theorem Among_ok (k : Nat) (l : List ByteArray) (x : ByteArray) (hk : l.length < k) (hm : l.length ≤ maxLen) : (FF hFam (k + 1)).f_r04_Among (l, x, ()) = some (Wd.mem l x) := by
  have key : ∀ j i, i ≤ l.length → l.length - i < j → Lr04_Among_2 (FF hFam k) k l x j l x (i : Int) = some (Wd.mem (l.drop i) x) := by
    refine up_ind l.length (fun j => ?_) (fun j i hi ih => ?_)
    · simp only [Lr04_Among_2]
      rw [if_neg (by simp)]
      simp [Wd.mem]
    · simp only [Lr04_Among_2]
      rw [if_pos (lt_dec hi), if_pos (by omega), if_pos (by omega), wrap_succ hi hm, ih, getD_at l i _ hi, ba_beq]
      have hd : l.drop i = l[i] :: l.drop (i + 1) := (List.getElem_cons_drop hi).symm
      by_cases h : l[i] = x
      · rw [if_pos (by simpa using h), hd]
        simp only [Wd.mem, List.any_cons, h, decide_true, Bool.true_or]
      · rw [if_neg (by simpa using h), hd]
        simp only [Wd.mem, List.any_cons, h, decide_false, Bool.false_or]
  have := key k 0 (Nat.zero_le _) (by omega)
  simp only [Int.ofNat_zero, List.drop_zero] at this
  exact this
theorem lst_len (d : Int) : (Wd.lst d).length ≤ 34 := by
  by_cases h0 : d = 0
  · subst h0; exact of_decide_eq_true (by kernel_rfl)
  · by_cases h1 : d = 1
    · subst h1; exact of_decide_eq_true (by kernel_rfl)
    · unfold Wd.lst; rw [if_neg h0, if_neg h1]; simp
theorem All_ok (k : Nat) (d : Int) : (FF hFam (k + 1)).f_r04_All (d, ()) = some (Wd.lst d) := by
  by_cases h0 : d = 0
  · subst h0; kernel_rfl
  · by_cases h1 : d = 1
    · subst h1; kernel_rfl
    · show B_r04_All (FF hFam k) k d = _
      unfold B_r04_All
      rw [if_neg (by simpa using h0), if_neg (by simpa using h1)]
      unfold Wd.lst; rw [if_neg h0, if_neg h1]
theorem r04_Is_ok (k : Nat) (d : Int) (s : ByteArray) (hk : 34 < k) : (FF hFam (k + 2)).f_r04_Is (d, s, ()) = some (Wd.mem (Wd.lst d) s) := by
  have hl := lst_len d
  show B_r04_Is (FF hFam (k + 1)) (k + 1) d s = _
  unfold B_r04_Is
  rw [All_ok, Option.bind_some, Among_ok k _ s (by omega) (by simp only [maxLen]; omega)]
  rfl
theorem rname_ok (k : Nat) (d : Int) (s : ByteArray) (hk : s.size < k) (hk' : 34 < k) (hm : s.size ≤ maxLen) : (FF hFam (k + 3)).f_r07_Name (d, s, ()) = some (dc (nameP d s)) := by
  obtain ⟨c, h1, h2⟩ := r04_Check_ok k s hk hm
  show B_r07_Name (FF hFam (k + 2)) (k + 2) d s = _
  unfold B_r07_Name
  rw [h1, Option.bind_some]
  by_cases hc : nmP s
  · rw [if_pos (by simpa using h2.2 hc), r04_Is_ok k d s hk']
    refine bool_some ?_
    rw [dc_iff]
    unfold nameP
    simp [hc]
  · rw [if_neg (by simpa using fun e => hc (h2.1 e)), dc_false (fun h => hc h.1)]
def mkB (l : List UInt8) : ByteArray := ⟨l.toArray⟩
theorem ext_mk (s : ByteArray) (a b : Nat) : s.extract a b = mkB ((s.data.toList.drop a).take (b - a)) := by
  apply ByteArray.ext
  apply Array.toList_inj.1
  rw [Lib.extract_data]
  simp [mkB]
theorem cutL_len : ∀ l : List UInt8, (cutL l).length ≤ l.length + 1
  | [] => by simp [cutL]
  | c :: r => by
    have := cutL_len r
    rw [cutL]
    split
    · simp; omega
    · split
      · simp
      · rename_i h; rw [h] at this; simp at this ⊢; omega
theorem cutL_free : ∀ l : List UInt8, (∀ x ∈ l, x ≠ 36) → cutL l = [l]
  | [], _ => rfl
  | c :: r, h => by rw [cutL, if_neg (h c List.mem_cons_self), cutL_free r fun x hx => h x (List.mem_cons_of_mem _ hx)]
theorem cutL_at : ∀ (l r : List UInt8), (∀ x ∈ l, x ≠ 36) → cutL (l ++ 36 :: r) = l :: cutL r
  | [], r, _ => by rw [List.nil_append, cutL, if_pos rfl]
  | c :: l, r, h => by rw [List.cons_append, cutL, if_neg (h c List.mem_cons_self), cutL_at l r fun x hx => h x (List.mem_cons_of_mem _ hx)]
theorem bt_at (s : ByteArray) (i : Nat) (h : i < s.size) : bt s (i : Int) = ((s.data.toList[i]'(by simpa using h)).toNat : Int) := by
  unfold bt
  rw [dif_pos (by simpa using h)]
  rfl
theorem Parts_ok (k : Nat) (s : ByteArray) (hk : s.size + 1 < k) (hm : s.size ≤ 8388608) : (FF hFam (k + 1)).f_r07_Parts (s, ()) = some (cutP s) := by
  have hml : s.size + 1 ≤ maxLen := by simp only [maxLen]; omega
  have hlen : s.data.toList.length = s.size := by simp
  have key : ∀ j i, i ≤ s.size + 1 → s.size + 1 - i < j →
      (i ≤ s.size → ∀ (f : Nat) out, f ≤ i → (∀ x ∈ (s.data.toList.drop f).take (i - f), x ≠ 36) → out.length ≤ f → Lr07_Parts_4 (FF hFam k) k s j s (f : Int) (i : Int) out = some (out ++ (cutL (s.data.toList.drop f)).map mkB)) ∧
      (i = s.size + 1 → ∀ (f : Int) out, Lr07_Parts_4 (FF hFam k) k s j s f (i : Int) out = some out) := by
    refine up_ind (s.size + 1) (fun j => ⟨fun h => by omega, fun _ f out => ?_⟩) (fun j i hi ih => ⟨fun hle f out hf hno hout => ?_, fun h => by omega⟩)
    · simp only [Lr07_Parts_4]
      rw [if_neg (by simp; omega)]
    · simp only [Lr07_Parts_4]
      rw [if_pos (by simp; omega)]
      have hpush : (out ++ [s.extract f i]).length * 16 ≤ 140737488355328 := by simp only [List.length_append, List.length_singleton]; omega
      rcases Nat.lt_or_ge i s.size with hlt | hge
      · rw [if_pos (by simp; omega), if_pos (by omega), if_pos (by omega), wrap_succ hi hml]
        have hget : s.data.toList[i]? = some (s.data.toList[i]'(by omega)) := List.getElem?_eq_getElem _
        by_cases h36 : s.data.toList[i]'(by omega) = 36
        · rw [if_pos (by rw [bt_at s i hlt, h36]; rfl), if_pos (by omega), if_pos (by omega), if_pos (by omega)]
          simp only [Int.toNat_natCast]
          rw [if_pos hpush, (ih.1 (by omega)) (i + 1) _ (Nat.le_refl _) (by simp) (by simp; omega)]
          have hsplit : s.data.toList.drop f = (s.data.toList.drop f).take (i - f) ++ 36 :: s.data.toList.drop (i + 1) := by
            have h1 : (s.data.toList.drop f).drop (i - f) = 36 :: s.data.toList.drop (i + 1) := by
              rw [List.drop_drop, show f + (i - f) = i by omega, List.drop_eq_getElem_cons (by omega), h36]
            rw [← h1, List.take_append_drop]
          have hcut : cutL (s.data.toList.drop f) = (s.data.toList.drop f).take (i - f) :: cutL (s.data.toList.drop (i + 1)) := by
            have := cutL_at _ (s.data.toList.drop (i + 1)) hno
            rwa [← hsplit] at this
          rw [hcut, ext_mk]
          simp [mkB]
        · have hne : (Bool.false || bt s (i : Int) == 36) = false := by
            rw [bt_at s i hlt]
            simp only [Bool.false_or, beq_eq_false_iff_ne, ne_eq]
            intro e
            apply h36
            apply UInt8.toNat_inj.1
            have : (36 : UInt8).toNat = 36 := rfl
            omega
          rw [if_neg (by rw [hne]; simp)]
          refine (ih.1 (by omega)) f out (by omega) (fun x hx => ?_) hout
          rw [show i + 1 - f = (i - f) + 1 by omega, List.take_add_one] at hx
          rcases List.mem_append.1 hx with hx | hx
          · exact hno x hx
          · rw [List.getElem?_drop, show f + (i - f) = i by omega, hget] at hx
            simp at hx
            rw [hx]; exact h36
      · have hi' : i = s.size := by omega
        subst hi'
        rw [if_neg (by simp), if_pos (by omega), if_pos (by omega), if_pos (by omega), wrap_succ hi hml]
        simp only [Int.toNat_natCast]
        rw [if_pos hpush, ih.2 rfl]
        have hall : (s.data.toList.drop f).take (s.size - f) = s.data.toList.drop f := List.take_of_length_le (by simp)
        rw [ext_mk, hall, cutL_free _ (by rw [← hall]; exact hno)]
        rfl
  have := (key k 0 (Nat.zero_le _) (by omega)).1 (Nat.zero_le _) 0 [] (Nat.le_refl _) (by simp) (Nat.le_refl _)
  simp only [Int.ofNat_zero, List.drop_zero, List.nil_append] at this
  exact this
theorem cutP_len (s : ByteArray) : (cutP s).length ≤ s.size + 1 := by
  unfold cutP
  rw [List.length_map]
  have := cutL_len s.data.toList
  simpa using this
theorem cutL_mem : ∀ (l : List UInt8), ∀ p ∈ cutL l, p.length ≤ l.length
  | [], p, h => by simp [cutL] at h; subst h; simp
  | c :: r, p, h => by
    have ih := cutL_mem r
    rw [cutL] at h
    split at h
    · rcases List.mem_cons.1 h with rfl | h
      · simp
      · have := ih p h; simp; omega
    · split at h
      · simp at h; subst h; simp
      · rename_i q t hq
        rcases List.mem_cons.1 h with rfl | h
        · have := ih q (by rw [hq]; exact List.mem_cons_self); simp; omega
        · have := ih p (by rw [hq]; exact List.mem_cons_of_mem _ h); simp; omega
theorem cutP_mem (s p : ByteArray) (h : p ∈ cutP s) : p.size ≤ s.size := by
  unfold cutP at h
  obtain ⟨l, hl, rfl⟩ := List.mem_map.1 h
  have := cutL_mem _ l hl
  show l.toArray.size ≤ _
  simpa using this
def rtP (d : Int) (s : ByteArray) : Prop := if d = 1 then ∀ p ∈ cutP s, nameP 1 p else nameP d s
theorem rroutine_ok (k : Nat) (d : Int) (hd : d = 0 ∨ d = 1) (s : ByteArray) (hk : s.size + 40 < k) (hm : s.size ≤ 8388608) : (FF hFam (k + 4)).f_r07_Routine (d, s, ()) = some (dc (rtP d s)) := by
  have hml : s.size ≤ maxLen := by simp only [maxLen]; omega
  show B_r07_Routine (FF hFam (k + 3)) (k + 3) d s = _
  unfold B_r07_Routine
  rcases hd with rfl | rfl
  · rw [if_pos (show ((0 : Int) == 0) = true from rfl), rname_ok (k + 0) 0 s (by omega) (by omega) hml]
    exact congrArg some (dc_eq (by unfold rtP; rw [if_neg (by decide)]))
  · rw [if_neg (by simp), Parts_ok (k + 2) s (by omega) hm, Option.bind_some]
    have hcl := cutP_len s
    have key : ∀ j i, i ≤ (cutP s).length → (cutP s).length - i < j → Lr07_Routine_5 (FF hFam (k + 3)) (k + 3) 1 s j (i : Int) (cutP s) = some (dc (∀ p ∈ (cutP s).drop i, nameP 1 p)) := by
      refine up_ind (cutP s).length (fun j => ?_) (fun j i hi ih => ?_)
      · simp only [Lr07_Routine_5]
        rw [if_neg (by simp), dc_true (by simp)]
      · simp only [Lr07_Routine_5]
        have hp := cutP_mem s (cutP s)[i] (List.getElem_mem hi)
        rw [if_pos (lt_dec hi), if_pos (by omega), if_pos (by omega), wrap_succ hi (by simp only [maxLen]; omega), ih, getD_at (cutP s) i _ hi, rname_ok k 1 _ (by omega) (by omega) (by omega), Option.bind_some]
        simp only [not_dc, ifn_dc]
        refine congrArg some (dc_eq ?_)
        rw [List.drop_eq_getElem_cons hi]
        simp only [List.mem_cons, forall_eq_or_imp, Classical.not_not]
    have := key (k + 3) 0 (Nat.zero_le _) (by omega)
    simp only [Int.ofNat_zero, List.drop_zero] at this
    rw [this]
    exact congrArg some (dc_eq (by unfold rtP; rw [if_pos rfl]))
end Go.Ev
end
section
open Go
namespace Go.Ev
open Go.Proofs.YtlepjafokfhnfaaGreatDoor
set_option maxRecDepth 100000
set_option maxHeartbeats 4000000
set_option linter.unusedVariables false
set_option linter.unusedSimpArgs false
def eps : ByteArray := ⟨#[]⟩
def upP (x : TExpr) : Prop := nameP 1 x.Name ∧ x.N = 0 ∧ x.Field = eps ∧ x.L.length = 0
def hdP (d op n : Int) (nm f : ByteArray) (len : Nat) : Prop :=
  (op = 1 ∧ 0 ≤ n ∧ nm = eps ∧ f = eps ∧ len = 0) ∨ (op = 2 ∧ (n = 0 ∨ n = 1) ∧ nm = eps ∧ f = eps ∧ len = 0) ∨ (op = 3 ∧ (0 ≤ n ∧ n ≤ 255) ∧ nm = eps ∧ f = eps ∧ len = 0) ∨
  (op = 4 ∧ n = 0 ∧ nameP d nm ∧ f = eps ∧ len = 0) ∨ (op = 5 ∧ n = 0 ∧ nameP d nm ∧ f = eps ∧ len = 1) ∨ (op = 6 ∧ n = 0 ∧ nameP d nm ∧ nameP d f ∧ len = 0) ∨ (op = 7 ∧ n = 0 ∧ rtP d nm ∧ f = eps) ∨
  ((op = 8 ∨ op = 9) ∧ n = 0 ∧ nm = eps ∧ f = eps ∧ len = 1) ∨ ((10 ≤ op ∧ op ≤ 24) ∧ n = 0 ∧ nm = eps ∧ f = eps ∧ len = 2)
theorem hdP_op {d op n : Int} {nm f : ByteArray} {len : Nat} (h : hdP d op n nm f len) : 1 ≤ op ∧ op ≤ 24 := by
  unfold hdP at h
  omega
mutual
def wfE (d : Int) : TExpr → Prop
  | ⟨op, n, nm, f, l⟩ => l.length ≤ 512 ∧ hdP d op n nm f l.length ∧ wfL d (op = 7 ∧ d = 1) False l
def wfL (d : Int) (c : Prop) : Prop → List TExpr → Prop
  | _, [] => True
  | up, x :: r => (x.Op = 25 → c ∧ upP x ∧ wfL d c True r) ∧ (x.Op ≠ 25 → ¬ up ∧ wfE d x ∧ wfL d c up r)
end
mutual
def dpE : TExpr → Nat
  | ⟨_, _, _, _, l⟩ => dpL l + 1
def dpL : List TExpr → Nat
  | [] => 0
  | x :: r => if x.Op = 25 then dpL r else max (dpE x) (dpL r)
end
theorem dpE_pos (x : TExpr) : 1 ≤ dpE x := by cases x; simp [dpE]
theorem bk_name (e : TExpr) : e.Name.size + e.Field.size + bks_TExpr e.L + 6 ≤ bk_TExpr e := by cases e; simp [bk_TExpr]; omega
theorem wrap_dn {n : Nat} (h : 0 < n) (hn : n ≤ maxLen) : IntKind.i64.wrap ((n : Int) - 1) = ((n - 1 : Nat) : Int) := by
  simp only [maxLen] at hn
  rw [wrap_ok (by omega) (by omega)]
  omega
theorem eps_dc (s : ByteArray) : (s.toList == (⟨#[]⟩ : ByteArray).toList) = dc (s = eps) := ba_dc _ _
theorem dec_dc (p : Prop) [Decidable p] : decide p = dc p := (dc_dec p).symm
end Go.Ev
end
section
open Go
namespace Go.Ev
open Go.Proofs.YtlepjafokfhnfaaGreatDoor
set_option maxRecDepth 100000
set_option maxHeartbeats 4000000
set_option linter.unusedVariables false
set_option linter.unusedSimpArgs false
def rfOK (K : Nat) : Prop := ∀ (d : Int) (e : TExpr) (most : Int), (d = 0 ∨ d = 1) → bk_TExpr e ≤ 8388608 → 3 * bk_TExpr e + 90 ≤ K → 0 ≤ most → most ≤ 48 → (FF hFam K).f_r07_form (d, e, most, ()) = some (dc (wfE d e ∧ (dpE e : Int) ≤ most))
theorem form_loop (K : Nat) (hK : rfOK K) (d : Int) (hd : d = 0 ∨ d = 1) (most : Int) (h0 : 1 ≤ most) (h1 : most ≤ 48) (op : Int) (l : List TExpr) (hb : bks_TExpr l ≤ 8388608) (hk : 3 * bks_TExpr l + 100 ≤ K) (x1 : TExpr) (x2 n : Int) (nm f : ByteArray) :
    ∀ j i, i ≤ l.length → l.length - i < j → ∀ up : Bool, Lr07_form_47 (FF hFam K) K d x1 x2 j d most up (i : Int) op n nm f l = some (dc (wfL d (op = 7 ∧ d = 1) (up = true) (l.drop i) ∧ (dpL (l.drop i) : Int) + 1 ≤ most)) := by
  have hlen := bks_Expr_len l
  have hml : l.length ≤ maxLen := by simp only [maxLen]; omega
  refine up_ind l.length (fun j up => ?_) (fun j i hi ih up => ?_)
  · simp only [Lr07_form_47]
    rw [if_neg (by simp), List.drop_length, dc_true]
    exact ⟨by simp [wfL], by simp only [dpL]; omega⟩
  · have hbi := bks_Expr_mem l i hi
    have hbm := bk_name l[i]
    have hdr : l.drop i = l[i] :: l.drop (i + 1) := (List.getElem_cons_drop hi).symm
    simp only [Lr07_form_47]
    rw [if_pos (lt_dec hi), if_pos (by omega), if_pos (by omega), getD_at l i _ hi, wrap_succ hi hml]
    by_cases hop : l[i].Op = 25
    · rw [if_pos (by simpa using hop)]
      obtain ⟨K', rfl⟩ : ∃ K', K = K' + 3 := ⟨K - 3, by omega⟩
      rw [rname_ok K' 1 l[i].Name (by omega) (by omega) (by simp only [maxLen]; omega), Option.bind_some, ih true]
      simp only [eps_dc, int_ndc, not_dc, or_dc, and_dc, dec_dc, iff_dc, ifn_dc, Bool.false_or]
      refine congrArg some (dc_eq ?_)
      rw [hdr]
      simp only [wfL, dpL, hop, if_true, true_implies, not_true_eq_false, false_implies, and_true, ne_eq]
      constructor
      · rintro ⟨g1, g2, g3, g4⟩
        refine ⟨⟨⟨?_, ?_⟩, ⟨?_, ?_, ?_, ?_⟩, g3⟩, g4⟩
        · exact Classical.byContradiction fun e => g1 (.inr e)
        · exact Classical.byContradiction fun e => g1 (.inl e)
        · exact Classical.byContradiction fun e => g2 (.inl (.inl (.inl e)))
        · exact Classical.byContradiction fun e => g2 (.inl (.inl (.inr e)))
        · exact Classical.byContradiction fun e => g2 (.inl (.inr e))
        · exact Classical.byContradiction fun e => g2 (.inr (by omega))
      · rintro ⟨⟨⟨g1, g2⟩, ⟨u1, u2, u3, u4⟩, g3⟩, g4⟩
        refine ⟨fun e => e.elim (fun e => e g2) (fun e => e g1), ?_, g3, g4⟩
        rintro (((e | e) | e) | e)
        · exact e u1
        · exact e u2
        · exact e u3
        · exact e (by omega)
    · rw [if_neg (by simpa using hop)]
      cases up with
      | true =>
        rw [if_neg (by simp), dc_false]
        rw [hdr]
        rintro ⟨h, _⟩
        simp only [wfL] at h
        exact (h.2 hop).1 trivial
      | false =>
        rw [if_pos rfl, TExpr.re_eq, wrap_ok (n := most - 1) (by omega) (by omega), hK d l[i] (most - 1) hd (by omega) (by omega) (by omega) (by omega), Option.bind_some, ih false]
        simp only [not_dc, Bool.false_or, ifn_dc, Classical.not_not]
        refine congrArg some (dc_eq ?_)
        rw [hdr]
        simp only [wfL, dpL, hop, if_false, false_implies, true_and, ne_eq, not_false_eq_true, true_implies, Bool.false_eq_true]
        constructor
        · rintro ⟨⟨g1, g2⟩, g3, g4⟩
          exact ⟨⟨g1, g3⟩, by omega⟩
        · rintro ⟨⟨g1, g3⟩, g4⟩
          exact ⟨⟨g1, by omega⟩, g3, by omega⟩
theorem form_ok : ∀ K, rfOK K
  | 0 => fun d e most _ hb hk => by omega
  | 1 => fun d e most _ hb hk => by omega
  | 2 => fun d e most _ hb hk => by omega
  | 3 => fun d e most _ hb hk => by omega
  | K + 4 => fun d e most hd hb hk h0 h1 => by
    have hK := form_ok (K + 3)
    have hnm := bk_name e
    have hlen := bks_Expr_len e.L
    have hloop := form_loop (K + 3) hK d hd most
    obtain ⟨K', rfl⟩ : ∃ K', K = K' + 1 := ⟨K - 1, by omega⟩
    have hname := fun s (hs : s.size ≤ bk_TExpr e) => rname_ok (K' + 1) d s (by omega) (by omega) (by simp only [maxLen]; omega)
    have hname1 : (FF hFam (K' + 1 + 3)).f_r07_Name (d, e.Name, ()) = some (dc (nameP d e.Name)) := hname _ (by omega)
    have hname2 : (FF hFam (K' + 1 + 3)).f_r07_Name (d, e.Field, ()) = some (dc (nameP d e.Field)) := hname _ (by omega)
    have hrt : (FF hFam (K' + 1 + 3)).f_r07_Routine (d, e.Name, ()) = some (dc (rtP d e.Name)) := rroutine_ok K' d hd e.Name (by omega) (by omega)
    show B_r07_form (FF hFam (K' + 1 + 3)) (K' + 1 + 3) d e most = _
    by_cases hm : most = 0
    · unfold B_r07_form
      rw [if_pos (by simp [hm]), dc_false]
      rintro ⟨_, h⟩
      have := dpE_pos e
      omega
    have hlp : ∀ (x1 : TExpr) (x2 op n : Int) (nm f : ByteArray), Lr07_form_47 (FF hFam (K' + 1 + 3)) (K' + 1 + 3) d x1 x2 (K' + 1 + 3) d most false 0 op n nm f e.L = some (dc (wfL d (op = 7 ∧ d = 1) False e.L ∧ (dpL e.L : Int) + 1 ≤ most)) := by
      intro x1 x2 op n nm f
      have := hloop (by omega) h1 op e.L (by omega) (by omega) x1 x2 n nm f (K' + 1 + 3) 0 (Nat.zero_le _) (by omega) false
      simpa using this
    clear hloop
    have hre : e.re = e := TExpr.re_eq e
    obtain ⟨op, n, nm, f, l⟩ := e
    simp only at hnm hlen hlp hname1 hname2 hrt ⊢
    have hwf : wfE d ⟨op, n, nm, f, l⟩ ↔ l.length ≤ 512 ∧ hdP d op n nm f l.length ∧ wfL d (op = 7 ∧ d = 1) False l := by simp only [wfE]
    have hdp : dpE ⟨op, n, nm, f, l⟩ = dpL l + 1 := by simp only [dpE]
    have hgoal : dc (wfE d ⟨op, n, nm, f, l⟩ ∧ (dpE ⟨op, n, nm, f, l⟩ : Int) ≤ most) = dc (l.length ≤ 512 ∧ hdP d op n nm f l.length ∧ (wfL d (op = 7 ∧ d = 1) False l ∧ (dpL l : Int) + 1 ≤ most)) :=
      dc_eq (by rw [hwf, hdp]; simp only [and_assoc]; exact Iff.rfl)
    rw [hgoal]
    have hcases : op = 1 ∨ op = 2 ∨ op = 3 ∨ op = 4 ∨ op = 5 ∨ op = 6 ∨ op = 7 ∨ op = 8 ∨ op = 9 ∨ op = 10 ∨ op = 11 ∨ op = 12 ∨ op = 13 ∨ op = 14 ∨ op = 15 ∨ op = 16 ∨ op = 17 ∨ op = 18 ∨ op = 19 ∨ op = 20 ∨ op = 21 ∨ op = 22 ∨ op = 23 ∨ op = 24 ∨ (op < 1 ∨ 24 < op) := by omega
    have hlc : ∀ m : Nat, ((l.length : Int) != (m : Int)) = dc (¬ l.length = m) := fun m => by rw [int_ndc]; exact dc_eq (by omega)
    have hl0 : ((l.length : Int) != 0) = dc (¬ l.length = 0) := hlc 0
    have hl1 : ((l.length : Int) != 1) = dc (¬ l.length = 1) := hlc 1
    have hl2 : ((l.length : Int) != 2) = dc (¬ l.length = 2) := hlc 2
    have hll : ((l.length : Int) != (l.length : Int)) = false := by simp
    have hsm : decide ((l.length : Int) > 512) = dc (¬ l.length ≤ 512) := by rw [dec_dc]; exact dc_eq (by omega)
    have hm0 : (most == 0) = false := by simp [hm]
    simp only [B_r07_form, hlp, hname1, hname2, hrt, Option.bind_some, hl0, hl1, hl2, hll, hsm, hm0, eps_dc, Bool.false_or]
    have hb1 : ∀ c : Int, (op == c) = decide (op = c) := fun c => rfl
    simp only [hb1]
    generalize hW : (wfL d (op = 7 ∧ d = 1) False l ∧ (dpL l : Int) + 1 ≤ most) = W
    clear hname hname1 hname2 hre hwf hdp hgoal hK hb1 hlc hl0 hl1 hl2 hsm hb hnm hlen hk hlp hrt hW hm0 hll
    rcases hcases with h | h | h | h | h | h | h | h | h | h | h | h | h | h | h | h | h | h | h | h | h | h | h | h | h
    case inr.inr.inr.inr.inr.inr.inr.inr.inr.inr.inr.inr.inr.inr.inr.inr.inr.inr.inr.inr.inr.inr.inr.inr =>
      rw [dc_false (p := l.length ≤ 512 ∧ hdP d op n nm f l.length ∧ W) (fun e => by have := hdP_op e.2.1; omega)]
      have e : ∀ c : Int, 1 ≤ c ∧ c ≤ 24 → decide (op = c) = false := fun c hc => decide_eq_false (by omega)
      simp only [e 1 (by decide), e 2 (by decide), e 3 (by decide), e 4 (by decide), e 5 (by decide), e 6 (by decide), e 7 (by decide), e 8 (by decide), e 9 (by decide), e 10 (by decide), e 11 (by decide), e 12 (by decide), e 13 (by decide),
        e 14 (by decide), e 15 (by decide), e 16 (by decide), e 17 (by decide), e 18 (by decide), e 19 (by decide), e 20 (by decide), e 21 (by decide), e 22 (by decide), e 23 (by decide), e 24 (by decide), Bool.false_eq_true, if_false, ite_self]
    all_goals subst h
    all_goals simp only [Int.reduceEq, decide_true, decide_false, if_true, Bool.false_eq_true, if_false, Bool.or_false, Bool.false_or]
    all_goals simp only [not_dc, or_dc, and_dc, int_ndc, int_dc, dec_dc, ifn_dc, iff_dc, if_dc, Classical.not_not]
    all_goals refine congrArg some (dc_eq ?_)
    all_goals simp only [hdP, Int.reduceEq, Int.reduceLE, false_and, and_false, false_or, or_false, true_and, or_true, true_or]
    all_goals generalize nameP d nm = N1
    all_goals generalize nameP d f = N2
    all_goals generalize rtP d nm = N3
    all_goals generalize l.length = len
    all_goals simp only [not_or, Classical.not_not, Classical.not_and_iff_not_or_not, and_assoc]
    all_goals (constructor <;> intro h <;> simp_all)
def deOK (K : Nat) : Prop := ∀ (e : TExpr) (most : Int), bk_TExpr e ≤ 8388608 → 3 * bk_TExpr e + 50 ≤ K → 0 ≤ most → most ≤ 99 → (dpE e : Int) ≤ most + 1 → (FF hFam K).f_r07_Deep (e, most, ()) = some (dpE e : Int)
theorem Deep_ok : ∀ K, deOK K
  | 0 => fun e most hb hk => by omega
  | K + 1 => fun e most hb hk h0 h1 hd => by
    have hK := Deep_ok K
    have hnm := bk_name e
    have hlen := bks_Expr_len e.L
    have hml : e.L.length ≤ maxLen := by simp only [maxLen]; omega
    have hdp : dpE e = dpL e.L + 1 := by cases e; simp only [dpE]
    show B_r07_Deep (FF hFam K) K e most = _
    unfold B_r07_Deep
    rcases Int.lt_or_le 0 most with hm | hm
    · have key : ∀ j i, i ≤ e.L.length → e.L.length - i < j → ∀ v : Nat, v ≤ 100 → dpL (e.L.drop i) ≤ most → Lr07_Deep_3 (FF hFam K) K e most j most (v : Int) (i : Int) e.Op e.N e.Name e.Field e.L = some (((max v (dpL (e.L.drop i)) + 1 : Nat)) : Int) := by
        refine up_ind e.L.length (fun j v hv hle => ?_) (fun j i hi ih v hv hle => ?_)
        · simp only [Lr07_Deep_3]
          rw [if_neg (by simp), List.drop_length, dpL, Nat.max_zero, wrap_ok (by omega) (by omega)]
          rfl
        · have hbi := bks_Expr_mem e.L i hi
          have hdr : e.L.drop i = e.L[i] :: e.L.drop (i + 1) := (List.getElem_cons_drop hi).symm
          rw [hdr] at hle ⊢
          simp only [Lr07_Deep_3]
          have hc : (decide ((i : Int) < (e.L.length : Int)) && decide (most > 0)) = true := by simp; omega
          rw [if_pos hc, if_pos (by omega), if_pos (by omega), getD_at e.L i _ hi, wrap_succ hi hml]
          by_cases hop : e.L[i].Op = 25
          · rw [if_neg (by simp [hop])]
            rw [dpL, if_pos hop] at hle ⊢
            exact ih v hv hle
          · rw [if_pos (by simpa using hop), if_pos (by omega), if_pos (by omega), TExpr.re_eq]
            rw [dpL, if_neg hop] at hle ⊢
            rw [wrap_ok (n := most - 1) (by omega) (by omega), hK e.L[i] (most - 1) (by omega) (by omega) (by omega) (by omega) (by omega), Option.bind_some]
            have hmax : (if ((dpE e.L[i] : Nat) : Int) > (v : Int) then ((dpE e.L[i] : Nat) : Int) else (v : Int)) = ((max v (dpE e.L[i]) : Nat) : Int) := by split <;> omega
            rw [hmax, ih (max v (dpE e.L[i])) (by omega) (by omega), Nat.max_assoc]
      have := key K 0 (Nat.zero_le _) (by omega) 0 (by omega) (by rw [List.drop_zero]; omega)
      simp only [Int.ofNat_zero, List.drop_zero, Nat.zero_max] at this
      rw [hdp]
      exact this
    · have hmz : most = 0 := by omega
      subst hmz
      obtain ⟨K, rfl⟩ : ∃ K', K = K' + 1 := ⟨K - 1, by omega⟩
      simp only [Lr07_Deep_3]
      rw [if_neg (by simp)]
      have : dpE e = 1 := by have := dpE_pos e; omega
      rw [this]
      rfl
end Go.Ev
end
section
open Go
namespace Go.Ev
open Go.Proofs.YtlepjafokfhnfaaGreatDoor
set_option maxRecDepth 100000
set_option maxHeartbeats 4000000
set_option linter.unusedVariables false
set_option linter.unusedSimpArgs false
def rgt (c : Int) : Bool := c == 9 || c == 10 || decide (c ≥ 32) && decide (c ≤ 126)
def noteP (s : ByteArray) : Prop := s.size ≤ 1024 ∧ ∀ m, m < s.size → rgt (bt s (m : Int)) = true
theorem r02_Check_ok (k : Nat) (s : ByteArray) (hk : s.size < k) (hm : s.size ≤ maxLen) : ∃ c, (FF hFam (k + 2)).f_r02_Check (s, ()) = some c ∧ (c = 0 ↔ noteP s) := by
  have key : ∀ j i, i ≤ s.size → s.size - i < j → ∃ c, Lr02_Check_4 (FF hFam (k + 1)) (k + 1) s j s (i : Int) = some c ∧ (c = 0 ↔ ∀ m, i ≤ m → m < s.size → rgt (bt s (m : Int)) = true) := by
    refine up_ind s.size (fun j => ?_) (fun j i hi ih => ?_)
    · simp only [Lr02_Check_4]
      rw [if_neg (by simp)]
      exact ⟨0, rfl, by simp only [true_iff]; intro m h1 h2; omega⟩
    · simp only [Lr02_Check_4]
      have hr : (FF hFam (k + 1)).f_r02_right (bt s (i : Int), ()) = some (rgt (bt s (i : Int))) := rfl
      rw [if_pos (lt_dec hi), if_pos (by omega), if_pos (by omega), hr, Option.bind_some, wrap_succ hi hm]
      cases hl : rgt (bt s (i : Int)) with
      | false =>
        refine ⟨8, by simp, ?_⟩
        constructor
        · intro h; cases h
        · intro h; have := h i (Nat.le_refl _) hi; rw [hl] at this; cases this
      | true =>
        obtain ⟨c, h1, h2⟩ := ih
        refine ⟨c, by simpa using h1, h2.trans ?_⟩
        constructor
        · intro d m hm hm'
          rcases Nat.lt_or_ge i m with h | h
          · exact d m h hm'
          · have : m = i := by omega
            subst this; exact hl
        · intro d m hm hm'; exact d m (by omega) hm'
  show ∃ c, B_r02_Check (FF hFam (k + 1)) (k + 1) s = some c ∧ _
  unfold B_r02_Check
  by_cases h : s.size ≤ 1024
  · rw [if_neg (by simp; omega)]
    obtain ⟨c, h1, h2⟩ := key (k + 1) 0 (Nat.zero_le _) (by omega)
    refine ⟨c, h1, h2.trans ?_⟩
    unfold noteP
    simp [h]
  · rw [if_pos (by simp; omega)]
    refine ⟨3, rfl, ?_⟩
    constructor
    · intro h; cases h
    · intro h'; exact absurd h'.1 h
def notesP (l : List ByteArray) : Prop := (∀ s ∈ l, noteP s) ∧ l.length ≤ 512
theorem v9_mem (l : List ByteArray) (i : Nat) (hi : i < l.length) : l[i].size + 1 ≤ bks_v9 l := by
  have := mem_sum (fun s : ByteArray => s.size + 1) l i hi
  rw [bks_v9_eq]
  exact this
theorem r07_notes_ok (k : Nat) (l : List ByteArray) (hk : bks_v9 l < k) (hb : bks_v9 l ≤ 8388608) : (FF hFam (k + 3)).f_r07_notes (l, ()) = some (dc (notesP l)) := by
  have hlen := bks_v9_len l
  have key : ∀ j i, i ≤ l.length → l.length - i < j → Lr07_notes_2 (FF hFam (k + 2)) (k + 2) l j l (i : Int) = some (dc ((∀ s ∈ l.drop i, noteP s) ∧ l.length ≤ 512)) := by
    refine up_ind l.length (fun j => ?_) (fun j i hi ih => ?_)
    · simp only [Lr07_notes_2]
      rw [if_neg (by simp), List.drop_length, dec_dc]
      exact congrArg some (dc_eq (by simp; omega))
    · simp only [Lr07_notes_2]
      have hs := v9_mem l i hi
      obtain ⟨c, h1, h2⟩ := r02_Check_ok k l[i] (by omega) (by simp only [maxLen]; omega)
      rw [if_pos (lt_dec hi), if_pos (by omega), if_pos (by omega), wrap_succ hi (by simp only [maxLen]; omega), getD_at l i _ hi, h1, Option.bind_some, ih, int_ndc, ifn_dc]
      refine congrArg some (dc_eq ?_)
      rw [List.drop_eq_getElem_cons hi, h2]
      simp only [List.mem_cons, forall_eq_or_imp, Classical.not_not, and_assoc]
  have := key (k + 2) 0 (Nat.zero_le _) (by omega)
  simp only [Int.ofNat_zero, List.drop_zero] at this
  exact this
theorem r07_marks_ok (k : Nat) (x : TMarks) (h1 : bks_v9 x.Before < k) (b1 : bks_v9 x.Before ≤ 8388608) (h2 : bks_v9 x.Trail < k) (b2 : bks_v9 x.Trail ≤ 8388608) : (FF hFam (k + 4)).f_r07_marks (x, ()) = some (dc (notesP x.Before ∧ notesP x.Trail)) := by
  show B_r07_marks (FF hFam (k + 3)) (k + 3) x = _
  unfold B_r07_marks
  rw [r07_notes_ok k _ h1 b1, r07_notes_ok k _ h2 b2]
  simp only [Option.bind_some, Bool.true_and, if_dc]
def typeP (d : Int) (t : TType) : Prop := (t.Kind = 4 ∧ t.Size = 0 ∧ nameP d t.Name) ∨ (1 ≤ t.Kind ∧ t.Kind ≤ 3 ∧ 0 ≤ t.Size ∧ t.Size ≤ 64 ∧ t.Name = eps)
theorem rtyp_ok (k : Nat) (d : Int) (t : TType) (hk : t.Name.size < k) (hk' : 34 < k) (hm : t.Name.size ≤ maxLen) : (FF hFam (k + 4)).f_r07_Type (d, t, ()) = some (dc (typeP d t)) := by
  show B_r07_Type (FF hFam (k + 3)) (k + 3) d t = _
  unfold B_r07_Type
  rw [rname_ok k d _ hk hk' hm]
  simp only [Option.bind_some, int_dc, eps_dc, dec_dc, and_dc, Bool.true_and, if_dc]
  by_cases h : t.Kind = 4
  · rw [if_pos (dc_true h)]
    refine congrArg some (dc_eq ?_)
    unfold typeP
    simp only [h, true_and]
    constructor
    · exact .inl
    · rintro (h | h)
      · exact h
      · omega
  · rw [if_neg (by rw [dc_false h]; simp)]
    refine congrArg some (dc_eq ?_)
    unfold typeP
    simp only [h, false_and, false_or, ge_iff_le, and_assoc]
end Go.Ev
end
section
open Go
namespace Go.Ev
open Go.Proofs.YtlepjafokfhnfaaGreatDoor
set_option maxRecDepth 100000
set_option maxHeartbeats 4000000
set_option linter.unusedVariables false
set_option linter.unusedSimpArgs false
def idxG {α : Type} (d : α) (f : α → Option Bool) : Nat → List α → Int → Int → Option Int
  | 0, _, _, _ => none
  | j + 1, v0, n, i => (if decide (i < n) = true then (if 0 ≤ i then (if i < (v0.length : Int) then ((f (v0.getD i.toNat d)).bind fun t => (if t = true then some i else idxG d f j v0 n (IntKind.i64.wrap (i + 1)))) else none) else none) else some (-1))
theorem idxG_ok {α : Type} (d : α) (f : α → Option Bool) (p : α → Prop) (l : List α) (hm : l.length ≤ maxLen) (hf : ∀ i (h : i < l.length), f l[i] = some (dc (¬ p l[i]))) :
    ∀ j i, i ≤ l.length → l.length - i < j → ∃ c : Int, idxG d f j l (l.length : Int) (i : Int) = some c ∧ (c ≥ 0 ↔ ¬ ∀ x ∈ l.drop i, p x) := by
  refine up_ind l.length (fun j => ?_) (fun j i hi ih => ?_)
  · simp only [idxG]
    rw [if_neg (by simp)]
    exact ⟨-1, rfl, by simp⟩
  · simp only [idxG]
    rw [if_pos (lt_dec hi), if_pos (by omega), if_pos (by omega), getD_at l i _ hi, hf i hi, Option.bind_some, wrap_succ hi hm]
    have hd := List.drop_eq_getElem_cons hi
    by_cases h : p l[i]
    · obtain ⟨c, h1, h2⟩ := ih
      refine ⟨c, by rw [if_neg (by rw [dc_false (p := ¬ p l[i]) (fun e => e h)]; simp)]; exact h1, h2.trans ?_⟩
      rw [hd]
      simp only [List.mem_cons, forall_eq_or_imp, h, true_and]
    · refine ⟨(i : Int), by rw [if_pos (dc_true h)], ?_⟩
      rw [hd]
      simp only [List.mem_cons, forall_eq_or_imp, h, false_and, not_false_eq_true, iff_true]
      omega
def varP (d : Int) (v : TVar) : Prop := notesP v.Marks_Before ∧ notesP v.Marks_Trail ∧ nameP d v.Name ∧ typeP d v.sub_T
def varsP (d : Int) (l : List TVar) : Prop := (∀ v ∈ l, varP d v) ∧ l.length ≤ 512
theorem bk_VarN (v : TVar) : bks_v9 v.Marks_Before + bks_v9 v.Marks_Trail + v.Name.size + v.T_Name.size + 6 ≤ bk_TVar v := by cases v; simp only [bk_TVar]; omega
theorem bks_Var_mem' (l : List TVar) (i : Nat) (hi : i < l.length) : bk_TVar l[i] ≤ bks_TVar l := by rw [bks_TVar_eq]; exact mem_sum _ l i hi
theorem rvars_ok (k : Nat) (d : Int) (l : List TVar) (hk : bks_TVar l + 40 < k) (hb : bks_TVar l ≤ 8388608) : (FF hFam (k + 5)).f_r07_vars (d, l, ()) = some (dc (varsP d l)) := by
  have hlen := bks_Var_len l
  have hml : l.length ≤ maxLen := by simp only [maxLen]; omega
  have key : ∀ j i, i ≤ l.length → l.length - i < j → Lr07_vars_2 (FF hFam (k + 4)) (k + 4) d l j d l (i : Int) = some (dc ((∀ v ∈ l.drop i, varP d v) ∧ l.length ≤ 512)) := by
    refine up_ind l.length (fun j => ?_) (fun j i hi ih => ?_)
    · simp only [Lr07_vars_2]
      rw [if_neg (by simp), List.drop_length, dec_dc]
      exact congrArg some (dc_eq (by simp; omega))
    · have hbi := bks_Var_mem' l i hi
      have hv := bk_VarN l[i]
      simp only [Lr07_vars_2]
      rw [if_pos (lt_dec hi), if_pos (by omega), if_pos (by omega), if_pos (by omega), if_pos (by omega), if_pos (by omega), if_pos (by omega), wrap_succ hi hml, getD_at l i _ hi, ih,
        r07_marks_ok k l[i].sub_Marks (by show bks_v9 l[i].Marks_Before < k; omega) (by show bks_v9 l[i].Marks_Before ≤ _; omega) (by show bks_v9 l[i].Marks_Trail < k; omega) (by show bks_v9 l[i].Marks_Trail ≤ _; omega),
        rname_ok (k + 1) d l[i].Name (by omega) (by omega) (by simp only [maxLen]; omega), rtyp_ok k d l[i].sub_T (by show l[i].T_Name.size < k; omega) (by omega) (by show l[i].T_Name.size ≤ maxLen; simp only [maxLen]; omega)]
      simp only [Option.bind_some, not_dc, Bool.false_or, ifn_dc, iff_dc, Classical.not_not]
      refine congrArg some (dc_eq ?_)
      rw [List.drop_eq_getElem_cons hi]
      simp only [List.mem_cons, forall_eq_or_imp, varP, and_assoc]
      exact Iff.rfl
  have := key (k + 4) 0 (Nat.zero_le _) (by omega)
  simp only [Int.ofNat_zero, List.drop_zero] at this
  exact this
end Go.Ev
end
section
open Go
namespace Go.Ev
open Go.Proofs.YtlepjafokfhnfaaGreatDoor
set_option maxRecDepth 100000
set_option maxHeartbeats 4000000
set_option linter.unusedVariables false
set_option linter.unusedSimpArgs false
def paramP (d : Int) (p : TParam) : Prop := nameP d p.Name ∧ typeP d p.sub_T ∧ (0 ≤ p.Mode ∧ p.Mode ≤ 2) ∧ (p.Mode = 2 → d = 1) ∧ (p.Mode = 0 → p.T_Size = 0 ∧ p.T_Kind ≠ 4)
def upChain : Prop → List TParam → Prop
  | _, [] => True
  | up, p :: r => (up → p.Mode = 2) ∧ upChain (p.Mode = 2) r
def paramsP (d : Int) (l : List TParam) : Prop := (∀ p ∈ l, paramP d p) ∧ upChain False l ∧ l.length ≤ 512
theorem bk_ParamN (p : TParam) : p.Name.size + p.T_Name.size + 6 ≤ bk_TParam p := by cases p; simp only [bk_TParam]; omega
theorem bks_Param_mem' (l : List TParam) (i : Nat) (hi : i < l.length) : bk_TParam l[i] ≤ bks_TParam l := by rw [bks_TParam_eq]; exact mem_sum _ l i hi
theorem rparams_ok (k : Nat) (d : Int) (hd : d = 0 ∨ d = 1) (l : List TParam) (hk : bks_TParam l + 40 < k) (hb : bks_TParam l ≤ 8388608) : (FF hFam (k + 5)).f_r07_params (d, l, ()) = some (dc (paramsP d l)) := by
  have hlen := bks_Param_len l
  have hml : l.length ≤ maxLen := by simp only [maxLen]; omega
  have key : ∀ j i, i ≤ l.length → l.length - i < j → Lr07_params_2 (FF hFam (k + 4)) (k + 4) d l j d l (i : Int) = some (dc ((∀ p ∈ l.drop i, paramP d p) ∧ upChain (0 < i ∧ (l.getD (i - 1) dd_TParam).Mode = 2) (l.drop i) ∧ l.length ≤ 512)) := by
    refine up_ind l.length (fun j => ?_) (fun j i hi ih => ?_)
    · simp only [Lr07_params_2]
      rw [if_neg (by simp), List.drop_length, dec_dc]
      exact congrArg some (dc_eq (by simp [upChain]; omega))
    · have hbi := bks_Param_mem' l i hi
      have hv := bk_ParamN l[i]
      have hpv : upChain (0 < i + 1 ∧ (l.getD (i + 1 - 1) dd_TParam).Mode = 2) (l.drop (i + 1)) = upChain (l[i].Mode = 2) (l.drop (i + 1)) := by
        have : l.getD (i + 1 - 1) dd_TParam = l[i] := by rw [Nat.add_sub_cancel]; simp [hi]
        rw [this]
        have h2 : (0 < i + 1 ∧ l[i].Mode = 2) = (l[i].Mode = 2) := propext ⟨fun h => h.2, fun h => ⟨by omega, h⟩⟩
        rw [h2]
      rw [hpv] at ih
      simp only [Lr07_params_2]
      rw [if_pos (lt_dec hi), if_pos (by omega), if_pos (by omega), wrap_succ hi hml, getD_at l i _ hi, ih,
        rname_ok (k + 1) d l[i].Name (by omega) (by omega) (by simp only [maxLen]; omega), rtyp_ok k d l[i].sub_T (by show l[i].T_Name.size < k; omega) (by omega) (by show l[i].T_Name.size ≤ maxLen; simp only [maxLen]; omega)]
      have hprev : (if (l[i].Mode != 2 && decide ((i : Int) > 0)) = true then (if 0 ≤ IntKind.i64.wrap ((i : Int) - 1) then (if IntKind.i64.wrap ((i : Int) - 1) < (l.length : Int) then (if (Bool.false || Bool.true && (l.getD (IntKind.i64.wrap ((i : Int) - 1)).toNat dd_TParam).Mode == 2) = true then some false else some (dc ((∀ p ∈ l.drop (i + 1), paramP d p) ∧ upChain (l[i].Mode = 2) (l.drop (i + 1)) ∧ l.length ≤ 512))) else none) else none) else some (dc ((∀ p ∈ l.drop (i + 1), paramP d p) ∧ upChain (l[i].Mode = 2) (l.drop (i + 1)) ∧ l.length ≤ 512))) =
          some (dc (((0 < i ∧ (l.getD (i - 1) dd_TParam).Mode = 2) → l[i].Mode = 2) ∧ ((∀ p ∈ l.drop (i + 1), paramP d p) ∧ upChain (l[i].Mode = 2) (l.drop (i + 1)) ∧ l.length ≤ 512))) := by
        by_cases h2 : l[i].Mode = 2
        · rw [if_neg (by simp [h2])]
          exact congrArg some (dc_eq ⟨fun h => ⟨fun _ => h2, h⟩, fun h => h.2⟩)
        · by_cases h0 : 0 < i
          · rw [if_pos (by simp [h2]; omega), wrap_dn h0 (by omega), if_pos (by omega), if_pos (by omega)]
            simp only [Int.toNat_natCast, Bool.false_or, Bool.true_and, int_dc, ifn_dc]
            refine congrArg some (dc_eq ⟨fun h => ⟨fun e => absurd e.2 h.1, h.2⟩, fun h => ⟨fun e => h2 (h.1 ⟨h0, e⟩), h.2⟩⟩)
          · rw [if_neg (by simp; intro _; omega)]
            exact congrArg some (dc_eq ⟨fun h => ⟨fun e => absurd e.1 h0, h⟩, fun h => h.2⟩)
      simp only [Option.bind_some] at hprev ⊢
      rw [hprev]
      simp only [not_dc, Bool.false_or, int_dc, int_ndc, dec_dc, and_dc, or_dc, ifn_dc, iff_dc, Classical.not_not]
      refine congrArg some (dc_eq ?_)
      rw [List.drop_eq_getElem_cons hi]
      simp only [List.mem_cons, forall_eq_or_imp, upChain, paramP]
      constructor
      · rintro ⟨g1, g2, g3, g4, g5, g6, g7⟩
        refine ⟨⟨⟨g1, ?_, ⟨?_, ?_⟩, ?_, ?_⟩, g5⟩, ⟨g4, g6⟩, g7⟩
        · exact Classical.byContradiction fun e => g2 (.inl (.inl (.inl e)))
        · exact Int.not_lt.1 fun e => g2 (.inl (.inl (.inr e)))
        · exact Int.not_lt.1 fun e => g2 (.inl (.inr e))
        · intro e
          rcases hd with h | h
          · exact absurd (Or.inr ⟨e, h⟩) g2
          · exact h
        · intro e
          exact ⟨Classical.byContradiction fun e' => g3 ⟨e, .inl e'⟩, fun e' => g3 ⟨e, .inr e'⟩⟩
      · rintro ⟨⟨⟨g1, g2, ⟨g3, g4⟩, g5, g6⟩, g7⟩, ⟨g8, g9⟩, g10⟩
        refine ⟨g1, ?_, ?_, g8, g7, g9, g10⟩
        · rintro (((e | e) | e) | ⟨e, e'⟩)
          · exact e g2
          · omega
          · omega
          · have := g5 e; omega
        · rintro ⟨e, e' | e'⟩
          · exact e' (g6 e).1
          · exact (g6 e).2 e'
  have := key (k + 4) 0 (Nat.zero_le _) (by omega)
  have h3 : (0 < 0 ∧ (l.getD (0 - 1) dd_TParam).Mode = 2) = False := by simp
  rw [h3] at this
  simp only [Int.ofNat_zero, List.drop_zero] at this
  exact this
end Go.Ev
end
section
open Go
namespace Go.Ev
open Go.Proofs.YtlepjafokfhnfaaGreatDoor
set_option maxRecDepth 100000
set_option maxHeartbeats 4000000
set_option linter.unusedVariables false
set_option linter.unusedSimpArgs false
def exP (d : Int) (e : TExpr) : Prop := wfE d e ∧ dpE e ≤ 48
def placeP (d : Int) (e : TExpr) : Prop := (4 ≤ e.Op ∧ e.Op ≤ 6) ∧ exP d e
def noneP (e : TExpr) : Prop := e.Op = 0 ∧ e.N = 0 ∧ e.Name = eps ∧ e.Field = eps ∧ e.L.length = 0
def cntP (op : Int) (n : Nat) : Prop := (op = 6 → n = 2) ∧ (op = 7 → n = 0) ∧ (op = 9 → n ≤ 1) ∧ (op ≠ 6 → op ≠ 7 → op ≠ 9 → n = 1)
def stP (d op : Int) (nm : ByteArray) (P : TExpr) (E : List TExpr) (down more : Bool) (nb ne n1 n2 : Nat) : Prop :=
  (1 ≤ op ∧ op ≤ 9) ∧ cntP op E.length ∧ (∀ e ∈ E, exP d e ∧ (op = 2 → e.Op = 7)) ∧ (op = 1 ∨ op = 7 → placeP d P) ∧ (¬ (op = 1 ∨ op = 7) → noneP P) ∧ (op = 6 → nameP d nm) ∧ (op ≠ 6 → nm = eps ∧ down = false) ∧
  (more = true → op = 3) ∧ (more = false → ne = 0 ∧ n2 = 0) ∧ ((op < 3 ∨ 6 < op) → nb = 0 ∧ n1 = 0)
mutual
def wfS (d : Int) : TStmt → Int → Prop
  | ⟨mb, mt, op, nm, po, pn, pnm, pf, pl, E, down, more, body, els, e1, e2⟩, deep =>
    deep ≤ 48 ∧ (notesP mb ∧ notesP mt ∧ notesP e1 ∧ notesP e2) ∧ stP d op nm ⟨po, pn, pnm, pf, pl⟩ E down more body.length els.length e1.length e2.length ∧ (wfSs d body (deep + 1) ∧ body.length ≤ 512) ∧ (wfSs d els (deep + 1) ∧ els.length ≤ 512)
def wfSs (d : Int) : List TStmt → Int → Prop
  | [], _ => True
  | x :: r, deep => wfS d x deep ∧ wfSs d r deep
end
def stmtsP (d : Int) (l : List TStmt) (deep : Int) : Prop := wfSs d l deep ∧ l.length ≤ 512
theorem wfSs_iff {d deep : Int} : ∀ l : List TStmt, wfSs d l deep ↔ ∀ x ∈ l, wfS d x deep
  | [] => by simp [wfSs]
  | x :: r => by simp only [wfSs, wfSs_iff r, List.mem_cons, forall_eq_or_imp]
theorem rExpr_ok (k : Nat) (d : Int) (hd : d = 0 ∨ d = 1) (e : TExpr) (hb : bk_TExpr e ≤ 8388608) (hk : 3 * bk_TExpr e + 100 ≤ k) : (FF hFam (k + 1)).f_r07_Expr (d, e, ()) = some (dc (exP d e)) := by
  show B_r07_Expr (FF hFam k) k d e = _
  unfold B_r07_Expr
  rw [TExpr.re_eq]
  have hc : (d != 0 && d != 1) = false := by rcases hd with rfl | rfl <;> rfl
  rw [hc, if_neg (by simp), form_ok k d e 48 hd hb (by omega) (by omega) (by omega), Option.bind_some]
  have hw : (wfE d e ∧ (dpE e : Int) ≤ 48) ↔ exP d e := by constructor <;> rintro ⟨a, b⟩ <;> exact ⟨a, by omega⟩
  rw [dc_eq hw]
  by_cases h : exP d e
  · have h2 := h.2
    rw [if_pos (dc_true h), Deep_ok k e 99 hb (by omega) (by omega) (by omega) (by omega), Option.bind_some, dc_true h, decide_eq_true (show ((dpE e : Nat) : Int) ≤ 48 by omega)]
    rfl
  · rw [if_neg (by rw [dc_false h]; simp), dc_false h]
theorem rplace_ok (k : Nat) (d : Int) (hd : d = 0 ∨ d = 1) (e : TExpr) (hb : bk_TExpr e ≤ 8388608) (hk : 3 * bk_TExpr e + 100 ≤ k) : (FF hFam (k + 2)).f_r07_place (d, e, ()) = some (dc (placeP d e)) := by
  show B_r07_place (FF hFam (k + 1)) (k + 1) d e = _
  unfold B_r07_place
  rw [TExpr.re_eq, rExpr_ok k d hd e hb hk]
  simp only [Option.bind_some, Bool.true_and, dec_dc, and_dc, if_dc]
  rfl
theorem rnone_ok (k : Nat) (e : TExpr) : (FF hFam (k + 1)).f_r07_none (e, ()) = some (dc (noneP e)) := by
  show B_r07_none (FF hFam k) k e = _
  unfold B_r07_none
  simp only [int_dc, eps_dc, and_dc]
  refine congrArg some (dc_eq ?_)
  unfold noneP
  simp only [and_assoc]
  constructor
  · rintro ⟨a, b, c, d, f⟩; exact ⟨a, b, c, d, by omega⟩
  · rintro ⟨a, b, c, d, f⟩; exact ⟨a, b, c, d, by omega⟩
theorem bk_StmtN (x : TStmt) : bks_v9 x.Marks_Before + bks_v9 x.Marks_Trail + x.Name.size + bk_TExpr x.sub_P + bks_TExpr x.E + bks_TStmt x.Body + bks_TStmt x.Else + bks_v9 x.End + bks_v9 x.End2 + 10 ≤ bk_TStmt x := by
  cases x; simp only [bk_TStmt, TStmt.sub_P, bk_TExpr]; omega
end Go.Ev
end
section
open Go
namespace Go.Ev
open Go.Proofs.YtlepjafokfhnfaaGreatDoor
set_option maxRecDepth 100000
set_option maxHeartbeats 8000000
set_option linter.unusedVariables false
set_option linter.unusedSimpArgs false
theorem wfS_iff (d : Int) (x : TStmt) (deep : Int) : wfS d x deep ↔ deep ≤ 48 ∧ (notesP x.Marks_Before ∧ notesP x.Marks_Trail ∧ notesP x.End ∧ notesP x.End2) ∧ stP d x.Op x.Name x.sub_P x.E x.Down x.More x.Body.length x.Else.length x.End.length x.End2.length ∧
    stmtsP d x.Body (deep + 1) ∧ stmtsP d x.Else (deep + 1) := by
  cases x; simp only [wfS]; exact Iff.rfl
theorem pos_dc {α : Type} (l : List α) : decide ((l.length : Int) > 0) = dc (¬ l.length = 0) := by rw [dec_dc]; exact dc_eq (by omega)
end Go.Ev
end
section
open Go
namespace Go.Ev
open Go.Proofs.YtlepjafokfhnfaaGreatDoor
set_option maxRecDepth 100000
set_option maxHeartbeats 8000000
set_option linter.unusedVariables false
set_option linter.unusedSimpArgs false
def rsOK (K : Nat) : Prop := (∀ (d : Int) (x : TStmt) (deep : Int), (d = 0 ∨ d = 1) → bk_TStmt x ≤ 8388608 → 5 * bk_TStmt x + 200 ≤ K → 0 ≤ deep → deep ≤ 49 → (FF hFam K).f_r07_Stmt (d, x, deep, ()) = some (dc (wfS d x deep))) ∧
  (∀ (d : Int) (l : List TStmt) (deep : Int), (d = 0 ∨ d = 1) → bks_TStmt l ≤ 8388608 → 5 * bks_TStmt l + 204 ≤ K → 0 ≤ deep → deep ≤ 49 → (FF hFam K).f_r07_Stmts (d, l, deep, ()) = some (dc (stmtsP d l deep)))
theorem rstmts_step (K : Nat) (hK : rsOK K) (d : Int) (hd : d = 0 ∨ d = 1) (l : List TStmt) (deep : Int) (hb : bks_TStmt l ≤ 8388608) (hk : 5 * bks_TStmt l + 200 ≤ K) (h0 : 0 ≤ deep) (h1 : deep ≤ 49) : (FF hFam (K + 1)).f_r07_Stmts (d, l, deep, ()) = some (dc (stmtsP d l deep)) := by
  have hlen := bks_Stmt_len l
  have hml : l.length ≤ maxLen := by simp only [maxLen]; omega
  have key : ∀ j i, i ≤ l.length → l.length - i < j → Lr07_Stmts_2 (FF hFam K) K d l deep j d l deep (i : Int) = some (dc ((∀ x ∈ l.drop i, wfS d x deep) ∧ l.length ≤ 512)) := by
    refine up_ind l.length (fun j => ?_) (fun j i hi ih => ?_)
    · simp only [Lr07_Stmts_2]
      rw [if_neg (by simp), List.drop_length, dec_dc]
      exact congrArg some (dc_eq (by simp; omega))
    · have hbi := bks_Stmt_mem l i hi
      simp only [Lr07_Stmts_2]
      rw [if_pos (lt_dec hi), if_pos (by omega), if_pos (by omega), wrap_succ hi hml, getD_at l i _ hi, TStmt.re_eq, ih, hK.1 d l[i] deep hd (by omega) (by omega) h0 h1]
      simp only [Option.bind_some, not_dc, ifn_dc, Classical.not_not]
      refine congrArg some (dc_eq ?_)
      rw [List.drop_eq_getElem_cons hi]
      simp only [List.mem_cons, forall_eq_or_imp, and_assoc]
  have := key K 0 (Nat.zero_le _) (by omega)
  simp only [Int.ofNat_zero, List.drop_zero] at this
  refine Eq.trans this (congrArg some (dc_eq ?_))
  unfold stmtsP
  rw [wfSs_iff]
theorem rstmt_loop (K : Nat) (d : Int) (hd : d = 0 ∨ d = 1) (E : List TExpr) (hb : bks_TExpr E ≤ 8388608) (hk : 3 * bks_TExpr E + 104 ≤ K) (deep op : Int) (R : Prop) (x1 : TStmt) (x2 po pn : Int) (mb mt e1 e2 : List ByteArray) (nm pnm pf : ByteArray) (pl : List TExpr) (down more : Bool) (body els : List TStmt)
    (hrest : ∀ j, Lr07_Stmt_14 (FF hFam K) K d x1 x2 (j + 1) d deep (E.length : Int) mb mt op nm po pn pnm pf pl E down more body els e1 e2 = some (dc R)) :
    ∀ j i, i ≤ E.length → E.length - i < j → Lr07_Stmt_14 (FF hFam K) K d x1 x2 j d deep (i : Int) mb mt op nm po pn pnm pf pl E down more body els e1 e2 = some (dc ((∀ e ∈ E.drop i, exP d e ∧ (op = 2 → e.Op = 7)) ∧ R)) := by
  have hlen := bks_Expr_len E
  have hml : E.length ≤ maxLen := by simp only [maxLen]; omega
  refine up_ind E.length (fun j => ?_) (fun j i hi ih => ?_)
  · rw [hrest, List.drop_length]
    exact congrArg some (dc_eq (by simp))
  · have hbi := bks_Expr_mem E i hi
    obtain ⟨K', rfl⟩ : ∃ K', K = K' + 1 := ⟨K - 1, by omega⟩
    rw [Lr07_Stmt_14]
    rw [if_pos (lt_dec hi), if_pos (by omega), if_pos (by omega), wrap_succ hi hml, getD_at E i _ hi, TExpr.re_eq, rExpr_ok K' d hd E[i] (by omega) (by omega), Option.bind_some, ih]
    have c2 : (0 : Int) ≤ (i : Int) := by omega
    have c3 : (i : Int) < (E.length : Int) := by omega
    simp only [c2, c3, if_true, int_dc, int_ndc, not_dc, Bool.false_or, Bool.true_and, ifn_dc]
    rw [List.drop_eq_getElem_cons hi]
    simp only [List.mem_cons, forall_eq_or_imp]
    by_cases he : exP d E[i]
    · rw [if_pos (dc_false (fun e => e he))]
      by_cases h2 : op = 2
      · rw [if_pos (dc_true h2)]
        refine congrArg some (dc_eq ?_)
        simp only [h2, he, true_implies, true_and, Classical.not_not, and_assoc]
      · rw [if_neg (by rw [dc_false h2]; simp)]
        refine congrArg some (dc_eq ?_)
        simp only [h2, he, false_implies, true_and, and_true]
    · rw [if_neg (by rw [dc_true (p := ¬ exP d E[i]) he]; simp), dc_false (fun e => he e.1.1.1)]
def rsP (d op : Int) (nm : ByteArray) (P : TExpr) (down more : Bool) (nb ne n1 n2 : Nat) (S1 S2 : Prop) : Prop :=
  (op = 1 ∨ op = 7 → placeP d P) ∧ (¬ (op = 1 ∨ op = 7) → noneP P) ∧ (op = 6 → nameP d nm) ∧ (op ≠ 6 → nm = eps ∧ down = false) ∧ (more = true → op = 3) ∧ (more = false → ne = 0 ∧ n2 = 0) ∧ ((op < 3 ∨ 6 < op) → nb = 0 ∧ n1 = 0) ∧ S1 ∧ S2
theorem rstmt_rest (K : Nat) (d deep op : Int) (S1 S2 : Prop) (x1 : TStmt) (x2 po pn : Int) (mb mt e1 e2 : List ByteArray) (nm pnm pf : ByteArray) (pl E : List TExpr) (down more : Bool) (body els : List TStmt)
    (hplace : (FF hFam K).f_r07_place (d, ⟨po, pn, pnm, pf, pl⟩, ()) = some (dc (placeP d ⟨po, pn, pnm, pf, pl⟩))) (hnone : (FF hFam K).f_r07_none (⟨po, pn, pnm, pf, pl⟩, ()) = some (dc (noneP ⟨po, pn, pnm, pf, pl⟩)))
    (hname : (FF hFam K).f_r07_Name (d, nm, ()) = some (dc (nameP d nm))) (hb : (FF hFam K).f_r07_Stmts (d, body, IntKind.i64.wrap (deep + 1), ()) = some (dc S1)) (he : (FF hFam K).f_r07_Stmts (d, els, IntKind.i64.wrap (deep + 1), ()) = some (dc S2)) (hop : 1 ≤ op ∧ op ≤ 9) :
    ∀ j, Lr07_Stmt_14 (FF hFam K) K d x1 x2 (j + 1) d deep (E.length : Int) mb mt op nm po pn pnm pf pl E down more body els e1 e2 = some (dc (rsP d op nm ⟨po, pn, pnm, pf, pl⟩ down more body.length els.length e1.length e2.length S1 S2)) := by
  intro j
  have hp1 := pos_dc body
  have hp2 := pos_dc els
  have hp3 := pos_dc e1
  have hp4 := pos_dc e2
  have hl : decide ((E.length : Int) < (E.length : Int)) = false := by simp
  rw [Lr07_Stmt_14]
  rw [if_neg (by rw [hl]; simp)]
  simp only [hplace, hnone, hname, hb, he, Option.bind_some, hp1, hp2, hp3, hp4, eps_dc, Bool.true_and, if_dc]
  unfold rsP
  generalize placeP d ⟨po, pn, pnm, pf, pl⟩ = A1
  generalize noneP ⟨po, pn, pnm, pf, pl⟩ = A2
  generalize nameP d nm = A3
  generalize (nm = eps) = A4
  generalize (body.length = 0) = N1
  generalize (els.length = 0) = N2
  generalize (e1.length = 0) = N3
  generalize (e2.length = 0) = N4
  clear hplace hnone hname hb he hp1 hp2 hp3 hp4 hl
  have hb1 : ∀ c : Int, (op == c) = decide (op = c) := fun c => rfl
  have hb2 : ∀ c : Int, (op != c) = !decide (op = c) := fun c => rfl
  simp only [hb1, hb2]
  clear hb1 hb2
  have hcases : op = 1 ∨ op = 2 ∨ op = 3 ∨ op = 4 ∨ op = 5 ∨ op = 6 ∨ op = 7 ∨ op = 8 ∨ op = 9 := by omega
  clear hop
  rcases hcases with h | h | h | h | h | h | h | h | h
  all_goals subst h
  all_goals cases more <;> cases down
  all_goals simp only [Int.reduceEq, Int.reduceGE, Int.reduceLE, Int.reduceLT, Int.reduceGT, ge_iff_le, gt_iff_lt, decide_true, decide_false, Bool.not_true, Bool.not_false, Bool.true_and, Bool.false_and, Bool.and_true, Bool.and_false, Bool.true_or, Bool.false_or, Bool.or_false, Bool.or_true, if_true, Bool.false_eq_true, if_false, reduceCtorEq, ite_self]
  all_goals try simp only [not_dc, and_dc, or_dc, if_dc, ifn_dc, iff_dc, Classical.not_not]
  all_goals first
    | (refine congrArg some (dc_eq ?_)
       simp only [true_implies, false_implies, true_and, and_true, not_or, Classical.not_and_iff_not_or_not, Classical.not_not, and_assoc, not_true_eq_false, not_false_eq_true, ne_eq, or_true, true_or, or_false, false_or, Int.reduceEq, Int.reduceNe, eq_self]
       try (constructor <;> intro h <;> simp_all)
       done)
    | (refine congrArg some (dc_false ?_).symm
       intro h
       simp_all)
theorem rstmt_step (K : Nat) (hK : rsOK K) (d : Int) (hd : d = 0 ∨ d = 1) (x : TStmt) (deep : Int) (hb : bk_TStmt x ≤ 8388608) (hk : 5 * bk_TStmt x + 199 ≤ K) (h0 : 0 ≤ deep) (h1 : deep ≤ 49) : (FF hFam (K + 1)).f_r07_Stmt (d, x, deep, ()) = some (dc (wfS d x deep)) := by
  have hn := bk_StmtN x
  obtain ⟨K', rfl⟩ : ∃ K', K = K' + 5 := ⟨K - 5, by omega⟩
  show B_r07_Stmt (FF hFam (K' + 5)) (K' + 5) d x deep = _
  by_cases hdeep : deep ≤ 48
  · have hmarks : (FF hFam (K' + 5)).f_r07_marks (x.sub_Marks, ()) = some (dc (notesP x.Marks_Before ∧ notesP x.Marks_Trail)) :=
      r07_marks_ok (K' + 1) x.sub_Marks (by show bks_v9 x.Marks_Before < _; omega) (by show bks_v9 x.Marks_Before ≤ _; omega) (by show bks_v9 x.Marks_Trail < _; omega) (by show bks_v9 x.Marks_Trail ≤ _; omega)
    have hend : (FF hFam (K' + 5)).f_r07_notes (x.End, ()) = some (dc (notesP x.End)) := r07_notes_ok (K' + 2) x.End (by omega) (by omega)
    have hend2 : (FF hFam (K' + 5)).f_r07_notes (x.End2, ()) = some (dc (notesP x.End2)) := r07_notes_ok (K' + 2) x.End2 (by omega) (by omega)
    have hw : IntKind.i64.wrap (deep + 1) = deep + 1 := wrap_ok (by omega) (by omega)
    rw [dc_eq (wfS_iff d x deep)]
    unfold B_r07_Stmt
    rw [hmarks, hend, hend2]
    have hdd : decide (deep > 48) = false := decide_eq_false (by omega)
    rw [hdd, if_pos rfl]
    simp only [Option.bind_some, not_dc, Bool.false_or]
    by_cases hop : 1 ≤ x.Op ∧ x.Op ≤ 9
    · have hl := bks_Expr_len x.E
      have hbody := hK.2 d x.Body (deep + 1) hd (by omega) (by omega) (by omega) (by omega)
      have hels := hK.2 d x.Else (deep + 1) hd (by omega) (by omega) (by omega) (by omega)
      rw [← hw] at hbody hels
      have hrest := rstmt_rest (K' + 5) d deep x.Op _ _ x deep x.P_Op x.P_N x.Marks_Before x.Marks_Trail x.End x.End2 x.Name x.P_Name x.P_Field x.P_L x.E x.Down x.More x.Body x.Else
        (rplace_ok (K' + 3) d hd x.sub_P (by omega) (by omega)) (rnone_ok (K' + 4) x.sub_P) (rname_ok (K' + 2) d x.Name (by omega) (by omega) (by simp only [maxLen]; omega)) hbody hels hop
      have hloop := rstmt_loop (K' + 5) d hd x.E (by omega) (by omega) deep x.Op _ x deep x.P_Op x.P_N x.Marks_Before x.Marks_Trail x.End x.End2 x.Name x.P_Name x.P_Field x.P_L x.Down x.More x.Body x.Else hrest (K' + 5) 0 (Nat.zero_le _) (by omega)
      simp only [Int.ofNat_zero, List.drop_zero] at hloop
      rw [hw] at hloop
      rw [hloop]
      have hc1 : (decide (x.Op < 1)) = false := decide_eq_false (by omega)
      have hc9 : (decide (x.Op > 9)) = false := decide_eq_false (by omega)
      rw [hc1, hc9]
      have hP : (⟨x.P_Op, x.P_N, x.P_Name, x.P_Field, x.P_L⟩ : TExpr) = x.sub_P := rfl
      rw [hP]
      have hb1 : ∀ c : Int, (x.Op == c) = decide (x.Op = c) := fun c => rfl
      simp only [hb1, Bool.or_false]
      have hl11 : (decide ((x.E.length : Int) < 1) || decide ((x.E.length : Int) > 1)) = dc (¬ x.E.length = 1) := by rw [dec_dc, dec_dc, or_dc]; exact dc_eq (by omega)
      have hl22 : (decide ((x.E.length : Int) < 2) || decide ((x.E.length : Int) > 2)) = dc (¬ x.E.length = 2) := by rw [dec_dc, dec_dc, or_dc]; exact dc_eq (by omega)
      have hl00 : (decide ((x.E.length : Int) < 0) || decide ((x.E.length : Int) > 0)) = dc (¬ x.E.length = 0) := by rw [dec_dc, dec_dc, or_dc]; exact dc_eq (by omega)
      have hl01 : (decide ((x.E.length : Int) < 0) || decide ((x.E.length : Int) > 1)) = dc (¬ x.E.length ≤ 1) := by rw [dec_dc, dec_dc, or_dc]; exact dc_eq (by omega)
      simp only [hl11, hl22, hl00, hl01]
      have hcnt : (if decide (x.Op = 6) = true then (if dc (¬ x.E.length = 2) = true then some false else some (dc ((∀ e ∈ x.E, exP d e ∧ (x.Op = 2 → e.Op = 7)) ∧ rsP d x.Op x.Name x.sub_P x.Down x.More x.Body.length x.Else.length x.End.length x.End2.length (stmtsP d x.Body (deep + 1)) (stmtsP d x.Else (deep + 1)))))
          else if decide (x.Op = 7) = true then (if dc (¬ x.E.length = 0) = true then some false else some (dc ((∀ e ∈ x.E, exP d e ∧ (x.Op = 2 → e.Op = 7)) ∧ rsP d x.Op x.Name x.sub_P x.Down x.More x.Body.length x.Else.length x.End.length x.End2.length (stmtsP d x.Body (deep + 1)) (stmtsP d x.Else (deep + 1)))))
          else if decide (x.Op = 9) = true then (if dc (¬ x.E.length ≤ 1) = true then some false else some (dc ((∀ e ∈ x.E, exP d e ∧ (x.Op = 2 → e.Op = 7)) ∧ rsP d x.Op x.Name x.sub_P x.Down x.More x.Body.length x.Else.length x.End.length x.End2.length (stmtsP d x.Body (deep + 1)) (stmtsP d x.Else (deep + 1)))))
          else (if dc (¬ x.E.length = 1) = true then some false else some (dc ((∀ e ∈ x.E, exP d e ∧ (x.Op = 2 → e.Op = 7)) ∧ rsP d x.Op x.Name x.sub_P x.Down x.More x.Body.length x.Else.length x.End.length x.End2.length (stmtsP d x.Body (deep + 1)) (stmtsP d x.Else (deep + 1)))))) =
          some (dc (cntP x.Op x.E.length ∧ (∀ e ∈ x.E, exP d e ∧ (x.Op = 2 → e.Op = 7)) ∧ rsP d x.Op x.Name x.sub_P x.Down x.More x.Body.length x.Else.length x.End.length x.End2.length (stmtsP d x.Body (deep + 1)) (stmtsP d x.Else (deep + 1)))) := by
        generalize ((∀ e ∈ x.E, exP d e ∧ (x.Op = 2 → e.Op = 7)) ∧ rsP d x.Op x.Name x.sub_P x.Down x.More x.Body.length x.Else.length x.End.length x.End2.length (stmtsP d x.Body (deep + 1)) (stmtsP d x.Else (deep + 1))) = A
        simp only [ifn_dc, Classical.not_not]
        unfold cntP
        by_cases h6 : x.Op = 6
        · rw [if_pos (by simpa using h6)]
          exact congrArg some (dc_eq (by simp [h6]))
        · rw [if_neg (by simpa using h6)]
          by_cases h7 : x.Op = 7
          · rw [if_pos (by simpa using h7)]
            exact congrArg some (dc_eq (by simp [h7]))
          · rw [if_neg (by simpa using h7)]
            by_cases h9 : x.Op = 9
            · rw [if_pos (by simpa using h9)]
              exact congrArg some (dc_eq (by simp [h9]))
            · rw [if_neg (by simpa using h9)]
              exact congrArg some (dc_eq (by simp [h6, h7, h9]))
      rw [hcnt]
      simp only [ifn_dc, iff_dc, Classical.not_not]
      refine congrArg some (dc_eq ?_)
      unfold stP rsP
      simp only [hdeep, hop, true_and, and_assoc]
    · have hc : (decide (x.Op < 1) || decide (x.Op > 9)) = true := by simp; omega
      refine Eq.trans ?_ (congrArg some (dc_false (fun e => hop e.2.2.1.1)).symm)
      simp only [Bool.or_assoc, hc, Bool.or_true, if_true, ite_self]
  · rw [dc_false (fun h => hdeep ((wfS_iff d x deep).1 h).1)]
    have hdd : decide (deep > 48) = true := decide_eq_true (by omega)
    unfold B_r07_Stmt
    rw [hdd, if_neg (by simp)]
theorem rs_ok : ∀ K, rsOK K := by
  intro K
  induction K using Nat.strongRecOn with
  | ind K ih =>
    refine ⟨fun d x deep hd hb hk h0 h1 => ?_, fun d l deep hd hb hk h0 h1 => ?_⟩
    · have := bk_Stmt_pos x
      obtain ⟨K', rfl⟩ : ∃ K', K = K' + 1 := ⟨K - 1, by omega⟩
      exact rstmt_step K' (ih K' (by omega)) d hd x deep hb (by omega) h0 h1
    · obtain ⟨K', rfl⟩ : ∃ K', K = K' + 1 := ⟨K - 1, by omega⟩
      exact rstmts_step K' (ih K' (by omega)) d hd l deep hb (by omega) h0 h1
end Go.Ev
end
section
open Go
namespace Go.Ev
open Go.Proofs.YtlepjafokfhnfaaGreatDoor
set_option maxRecDepth 100000
set_option maxHeartbeats 8000000
set_option linter.unusedVariables false
set_option linter.unusedSimpArgs false
mutual
def wfR (d : Int) : TRoutine → Int → Prop
  | ⟨mb, mt, nm, res, ps, vs, inner, body, e⟩, deep => deep ≤ 48 ∧ (notesP mb ∧ notesP mt ∧ notesP e) ∧ rtP d nm ∧ (0 ≤ res ∧ res ≤ 3) ∧ paramsP d ps ∧ varsP d vs ∧ (d = 1 → inner.length = 0) ∧
    (wfRs d inner (deep + 1) ∧ inner.length ≤ 512 ∧ (inner.map (·.Name)).Nodup) ∧ stmtsP d body 1
def wfRs (d : Int) : List TRoutine → Int → Prop
  | [], _ => True
  | x :: r, deep => wfR d x deep ∧ wfRs d r deep
end
def routinesP (d : Int) (l : List TRoutine) (deep : Int) : Prop := wfRs d l deep ∧ l.length ≤ 512 ∧ (l.map (·.Name)).Nodup
theorem wfRs_iff {d deep : Int} : ∀ l : List TRoutine, wfRs d l deep ↔ ∀ x ∈ l, wfR d x deep
  | [] => by simp [wfRs]
  | x :: r => by simp only [wfRs, wfRs_iff r, List.mem_cons, forall_eq_or_imp]
theorem wfR_iff (d : Int) (x : TRoutine) (deep : Int) : wfR d x deep ↔ deep ≤ 48 ∧ (notesP x.Marks_Before ∧ notesP x.Marks_Trail ∧ notesP x.End) ∧ rtP d x.Name ∧ (0 ≤ x.Result ∧ x.Result ≤ 3) ∧ paramsP d x.Params ∧ varsP d x.Vars ∧ (d = 1 → x.Inner.length = 0) ∧
    routinesP d x.Inner (deep + 1) ∧ stmtsP d x.Body 1 := by
  cases x; simp only [wfR]; exact Iff.rfl
theorem bk_RoutineN (x : TRoutine) : bks_v9 x.Marks_Before + bks_v9 x.Marks_Trail + x.Name.size + bks_TParam x.Params + bks_TVar x.Vars + bks_TRoutine x.Inner + bks_TStmt x.Body + bks_v9 x.End + 9 ≤ bk_TRoutine x := by
  cases x; simp only [bk_TRoutine]; omega
end Go.Ev
end
section
open Go
namespace Go.Ev
open Go.Proofs.YtlepjafokfhnfaaGreatDoor
set_option maxRecDepth 100000
set_option maxHeartbeats 8000000
set_option linter.unusedVariables false
set_option linter.unusedSimpArgs false
def rrOK (K : Nat) : Prop := ∀ (d : Int) (l : List TRoutine) (deep : Int), (d = 0 ∨ d = 1) → bks_TRoutine l ≤ 8388608 → 5 * bks_TRoutine l + 304 ≤ K → 0 ≤ deep → deep ≤ 49 → (FF hFam K).f_r07_routines (d, l, deep, ()) = some (dc (routinesP d l deep))
def newF (l : List TRoutine) (i : Nat) : Prop := ∀ m (hm : m < l.length), i ≤ m → ∀ k (hk : k < m), l[k].Name ≠ l[m].Name
theorem newF_zero (l : List TRoutine) : newF l 0 ↔ (l.map (·.Name)).Nodup := by
  unfold newF
  rw [List.nodup_iff_pairwise_ne, List.pairwise_iff_getElem]
  constructor
  · intro h i j hi hj hij
    simp only [List.length_map] at hi hj
    simp only [List.getElem_map]
    exact h j hj (Nat.zero_le _) i hij
  · intro h m hm _ k hk
    have := h k m (by simp only [List.length_map]; omega) (by simp only [List.length_map]; omega) hk
    simpa only [List.getElem_map] using this
theorem newF_succ (l : List TRoutine) (i : Nat) (hi : i < l.length) : newF l i ↔ (∀ k (hk : k < i), l[k].Name ≠ l[i].Name) ∧ newF l (i + 1) := by
  unfold newF
  constructor
  · intro h
    exact ⟨h i hi (Nat.le_refl _), fun m hm hm' => h m hm (by omega)⟩
  · rintro ⟨h1, h2⟩ m hm hm'
    rcases Nat.lt_or_ge i m with h | h
    · exact h2 m hm h
    · have : m = i := by omega
      subst this
      exact h1
theorem rr_ok : ∀ K, rrOK K
  | 0 => fun d l deep hd hb hk => by omega
  | K + 1 => fun d l deep hd hb hk h0 h1 => by
    have hK := rr_ok K
    have hlen := bks_Routine_len l
    have hml : l.length ≤ maxLen := by simp only [maxLen]; omega
    show B_r07_routines (FF hFam K) K d l deep = _
    unfold B_r07_routines
    obtain ⟨K', rfl⟩ : ∃ K', K = K' + 8 := ⟨K - 8, by omega⟩
    have key : ∀ j i, i ≤ l.length → l.length - i < j → Lr07_routines_2 (FF hFam (K' + 8)) (K' + 8) d l deep j d l deep (i : Int) = some (dc ((∀ x ∈ l.drop i, wfR d x deep) ∧ newF l i ∧ l.length ≤ 512)) := by
      refine up_ind l.length (fun j => ?_) (fun j i hi ih => ?_)
      · simp only [Lr07_routines_2]
        rw [if_neg (by simp), List.drop_length, dec_dc]
        refine congrArg some (dc_eq ?_)
        constructor
        · intro h; exact ⟨by simp, fun m hm hm' => by omega, by omega⟩
        · rintro ⟨_, _, h⟩; omega
      · have hbi := bks_Routine_mem l i hi
        have hn := bk_RoutineN l[i]
        have hdr := List.drop_eq_getElem_cons hi
        simp only [Lr07_routines_2]
        rw [if_pos (lt_dec hi), if_pos (by omega), if_pos (by omega), getD_at l i _ hi]
        by_cases hdeep : deep ≤ 48
        · have hmarks : (FF hFam (K' + 8)).f_r07_marks (l[i].sub_Marks, ()) = some (dc (notesP l[i].Marks_Before ∧ notesP l[i].Marks_Trail)) :=
            r07_marks_ok (K' + 4) l[i].sub_Marks (by show bks_v9 l[i].Marks_Before < _; omega) (by show bks_v9 l[i].Marks_Before ≤ _; omega) (by show bks_v9 l[i].Marks_Trail < _; omega) (by show bks_v9 l[i].Marks_Trail ≤ _; omega)
          have hend : (FF hFam (K' + 8)).f_r07_notes (l[i].End, ()) = some (dc (notesP l[i].End)) := r07_notes_ok (K' + 5) l[i].End (by omega) (by omega)
          have hname := rroutine_ok (K' + 4) d hd l[i].Name (by omega) (by omega)
          have hparams := rparams_ok (K' + 3) d hd l[i].Params (by omega) (by omega)
          have hvars := rvars_ok (K' + 3) d l[i].Vars (by omega) (by omega)
          have hw : IntKind.i64.wrap (deep + 1) = deep + 1 := wrap_ok (by omega) (by omega)
          have hinner := hK d l[i].Inner (deep + 1) hd (by omega) (by omega) (by omega) (by omega)
          have hbody := (rs_ok (K' + 8)).2 d l[i].Body 1 hd (by omega) (by omega) (by omega) (by omega)
          have hdd : decide (deep > 48) = false := decide_eq_false (by omega)
          have hin : (d == 1 && decide ((l[i].Inner.length : Int) > 0)) = dc (¬ (d = 1 → l[i].Inner.length = 0)) := by
            rw [pos_dc, int_dc, and_dc]
            refine dc_eq ?_
            constructor
            · rintro ⟨a, b⟩ h; exact b (h a)
            · intro h
              exact ⟨Classical.byContradiction fun e => h (fun e' => absurd e' e), fun e => h (fun _ => e)⟩
          -- the names ahead
          have ahead : ∀ j' k, k ≤ i → i - k < j' → ∀ (mb mt e : List ByteArray) (res : Int), Lr07_routines_8 (FF hFam (K' + 8)) (K' + 8) d l deep (Lr07_routines_2 (FF hFam (K' + 8)) (K' + 8) d l deep j) j' d l deep (i : Int) (k : Int) mb mt l[i].Name res l[i].Params l[i].Vars l[i].Inner l[i].Body e =
              some (dc ((∀ m (hm : m < i), k ≤ m → l[m].Name ≠ l[i].Name) ∧ (d = 1 → l[i].Inner.length = 0) ∧ paramsP d l[i].Params ∧ varsP d l[i].Vars ∧ routinesP d l[i].Inner (deep + 1) ∧ stmtsP d l[i].Body 1 ∧ ((∀ x ∈ l.drop (i + 1), wfR d x deep) ∧ newF l (i + 1) ∧ l.length ≤ 512))) := by
            refine up_ind i (fun j' mb mt e res => ?_) (fun j' k hk ihk mb mt e res => ?_)
            · simp only [Lr07_routines_8]
              have hlf : decide ((i : Int) < (i : Int)) = false := by simp
              rw [if_neg (by rw [hlf]; simp), hparams, hvars, hw, hinner, hbody, wrap_succ hi hml, ih, hin]
              simp only [Option.bind_some, not_dc, Bool.false_or, ifn_dc, iff_dc, Classical.not_not]
              refine congrArg some (dc_eq ?_)
              constructor
              · intro h; exact ⟨fun m hm hm' => by omega, h⟩
              · intro h; exact h.2
            · have hkl : k < l.length := by omega
              simp only [Lr07_routines_8]
              rw [if_pos (lt_dec hk), if_pos (by omega), if_pos (by omega), getD_at l k _ hkl, wrap_succ hk (by omega), ihk, ba_dc]
              simp only [ifn_dc]
              refine congrArg some (dc_eq ?_)
              constructor
              · rintro ⟨a, b, r⟩
                refine ⟨fun m hm hm' => ?_, r⟩
                rcases Nat.lt_or_ge k m with h | h
                · exact b m hm h
                · have : m = k := by omega
                  subst this; exact a
              · rintro ⟨b, r⟩
                exact ⟨b k hk (Nat.le_refl _), fun m hm hm' => b m hm (by omega), r⟩
          have ha := ahead (K' + 8) 0 (Nat.zero_le _) (by omega) l[i].Marks_Before l[i].Marks_Trail l[i].End l[i].Result
          simp only [Int.ofNat_zero] at ha
          rw [hdd, if_pos rfl, hmarks, hend, hname, ha]
          simp only [Option.bind_some, not_dc, Bool.false_or, dec_dc, or_dc, ifn_dc, iff_dc, Classical.not_not]
          refine congrArg some (dc_eq ?_)
          rw [hdr]
          simp only [List.mem_cons, forall_eq_or_imp]
          rw [wfR_iff, newF_succ l i hi]
          constructor
          · rintro ⟨⟨a1, a2⟩, a3, a4, a5, a6, a7, a8, a9, a10, a11, a12, a13⟩
            refine ⟨⟨⟨hdeep, ⟨a1, a2, a3⟩, ?_, ⟨?_, ?_⟩, a7, a8, a6, a9, a10⟩, a11⟩, ⟨fun k hk => a5 k hk (Nat.zero_le _), a12⟩, a13⟩
            · exact Classical.byContradiction fun e => a4 (.inl (.inl e))
            · exact Int.not_lt.1 fun e => a4 (.inl (.inr e))
            · exact Int.not_lt.1 fun e => a4 (.inr e)
          · rintro ⟨⟨⟨_, ⟨a1, a2, a3⟩, a4, ⟨a5, a5'⟩, a7, a8, a6, a9, a10⟩, a11⟩, ⟨b1, a12⟩, a13⟩
            refine ⟨⟨a1, a2⟩, a3, ?_, fun m hm _ => b1 m hm, a6, a7, a8, a9, a10, a11, a12, a13⟩
            rintro ((e | e) | e)
            · exact e a4
            · omega
            · omega
        · have hdd : decide (deep > 48) = true := decide_eq_true (by omega)
          rw [hdd, if_neg (by simp), dc_false]
          rintro ⟨h, _⟩
          rw [hdr] at h
          exact hdeep ((wfR_iff d _ deep).1 (h _ List.mem_cons_self)).1
    have := key (K' + 8) 0 (Nat.zero_le _) (by omega)
    simp only [Int.ofNat_zero, List.drop_zero] at this
    refine Eq.trans this (congrArg some (dc_eq ?_))
    unfold routinesP
    rw [wfRs_iff, newF_zero]
    constructor
    · rintro ⟨a, b, c⟩; exact ⟨a, c, b⟩
    · rintro ⟨a, c, b⟩; exact ⟨a, b, c⟩
end Go.Ev
end
section
open Go
namespace Go.Ev
open Go.Proofs.YtlepjafokfhnfaaGreatDoor
set_option maxRecDepth 100000
set_option maxHeartbeats 8000000
set_option linter.unusedVariables false
set_option linter.unusedSimpArgs false
def fieldP (d : Int) (f : TField) : Prop := (notesP f.Marks_Before ∧ notesP f.Marks_Trail) ∧ nameP d f.Name ∧ (1 ≤ f.Kind ∧ f.Kind ≤ 3)
def recP (d : Int) (r : TRec) : Prop := (notesP r.Marks_Before ∧ notesP r.Marks_Trail ∧ notesP r.End) ∧ nameP d r.Name ∧ (r.Fields.length ≠ 0 ∧ r.Fields.length ≤ 512) ∧ ∀ f ∈ r.Fields, fieldP d f
def progP (d : Int) (p : TProgram) : Prop := nameP d p.Name ∧ (notesP p.Before ∧ notesP p.Mid ∧ notesP p.After ∧ notesP p.End) ∧ p.Recs.length ≤ 512 ∧ (∀ r ∈ p.Recs, recP d r) ∧ varsP d p.Vars ∧ routinesP d p.Routines 1 ∧ stmtsP d p.Body 1
theorem bk_FieldN (x : TField) : bks_v9 x.Marks_Before + bks_v9 x.Marks_Trail + x.Name.size + 4 ≤ bk_TField x := by cases x; simp only [bk_TField]; omega
theorem bk_RecN (x : TRec) : bks_v9 x.Marks_Before + bks_v9 x.Marks_Trail + x.Name.size + bks_TField x.Fields + bks_v9 x.End + 5 ≤ bk_TRec x := by cases x; simp only [bk_TRec]; omega
theorem bk_ProgramN (x : TProgram) : x.Name.size + bks_v9 x.Before + bks_v9 x.Mid + bks_v9 x.After + bks_TRec x.Recs + bks_TVar x.Vars + bks_TRoutine x.Routines + bks_TStmt x.Body + bks_v9 x.End + 9 ≤ bk_TProgram x := by cases x; simp only [bk_TProgram]; omega
theorem r07_Check_ok (k : Nat) (d : Int) (hd : d = 0 ∨ d = 1) (p : TProgram) (hb : bk_TProgram p ≤ 8388608) (hk : 5 * bk_TProgram p + 400 ≤ k) : (FF hFam (k + 13)).f_r07_Check (d, p, ()) = some (dc (progP d p)) := by
  have hv := bk_ProgramN p
  have hlen := bks_Rec_len p.Recs
  have hml : p.Recs.length ≤ maxLen := by simp only [maxLen]; omega
  show B_r07_Check (FF hFam (k + 12)) (k + 12) d p = _
  unfold B_r07_Check
  have hc : (d != 0 && d != 1) = false := by rcases hd with rfl | rfl <;> rfl
  have fields : ∀ (r4 : Int → Int → ByteArray → List ByteArray → List ByteArray → List ByteArray → List TRec → List TVar → List TRoutine → List TStmt → List ByteArray → Option (Bool)) (i : Int) (R : Prop) (fs : List TField), bks_TField fs ≤ bk_TProgram p →
      r4 d (IntKind.i64.wrap (i + 1)) p.Name p.Before p.Mid p.After p.Recs p.Vars p.Routines p.Body p.End = some (dc R) →
      ∀ j k', k' ≤ fs.length → fs.length - k' < j → ∀ (mb mt e : List ByteArray) (nm : ByteArray), Lr07_Check_10 (FF hFam (k + 12)) (k + 12) d p r4 j d i (k' : Int) p.Name p.Before p.Mid p.After p.Recs p.Vars p.Routines p.Body p.End mb mt nm fs e = some (dc ((∀ f ∈ fs.drop k', fieldP d f) ∧ R)) := by
    intro r4 i R fs hfs hr4
    have hfl := bks_Field_len fs
    refine up_ind fs.length (fun j mb mt e nm => ?_) (fun j k' hk' ihk mb mt e nm => ?_)
    · simp only [Lr07_Check_10]
      rw [if_neg (by simp), hr4, List.drop_length]
      exact congrArg some (dc_eq (by simp))
    · have hbf := bks_Field_mem fs k' hk'
      have hvf := bk_FieldN fs[k']
      simp only [Lr07_Check_10]
      rw [if_pos (lt_dec hk'), if_pos (by omega), if_pos (by omega), getD_at fs k' _ hk', wrap_succ hk' (by simp only [maxLen]; omega), ihk,
        r07_marks_ok (k + 8) fs[k'].sub_Marks (by show bks_v9 fs[k'].Marks_Before < _; omega) (by show bks_v9 fs[k'].Marks_Before ≤ _; omega) (by show bks_v9 fs[k'].Marks_Trail < _; omega) (by show bks_v9 fs[k'].Marks_Trail ≤ _; omega),
        rname_ok (k + 9) d fs[k'].Name (by omega) (by omega) (by simp only [maxLen]; omega)]
      simp only [Option.bind_some, not_dc, Bool.false_or, dec_dc, or_dc, ifn_dc, iff_dc, Classical.not_not]
      refine congrArg some (dc_eq ?_)
      rw [List.drop_eq_getElem_cons hk']
      simp only [List.mem_cons, forall_eq_or_imp]
      unfold fieldP
      constructor
      · rintro ⟨a, b, r⟩
        refine ⟨⟨⟨a, ?_, ?_, ?_⟩, r.1⟩, r.2⟩
        · exact Classical.byContradiction fun e => b (.inl (.inl e))
        · exact Int.not_lt.1 fun e => b (.inl (.inr e))
        · exact Int.not_lt.1 fun e => b (.inr e)
      · rintro ⟨⟨⟨a, b, c1, c2⟩, r1⟩, r2⟩
        refine ⟨a, ?_, r1, r2⟩
        rintro ((e | e) | e)
        · exact e b
        · omega
        · omega
  have key : ∀ j i, i ≤ p.Recs.length → p.Recs.length - i < j → Lr07_Check_4 (FF hFam (k + 12)) (k + 12) d p j d (i : Int) p.Name p.Before p.Mid p.After p.Recs p.Vars p.Routines p.Body p.End = some (dc ((∀ r ∈ p.Recs.drop i, recP d r) ∧ varsP d p.Vars ∧ routinesP d p.Routines 1 ∧ stmtsP d p.Body 1)) := by
    refine up_ind p.Recs.length (fun j => ?_) (fun j i hi ih => ?_)
    · simp only [Lr07_Check_4]
      rw [if_neg (by simp), rvars_ok (k + 7) d p.Vars (by omega) (by omega), rr_ok (k + 12) d p.Routines 1 hd (by omega) (by omega) (by omega) (by omega), (rs_ok (k + 12)).2 d p.Body 1 hd (by omega) (by omega) (by omega) (by omega), List.drop_length]
      simp only [Option.bind_some, Bool.true_and, if_dc]
      exact congrArg some (dc_eq (by simp))
    · have hbi := bks_Rec_mem p.Recs i hi
      have hvr := bk_RecN p.Recs[i]
      have hfl := bks_Field_len p.Recs[i].Fields
      simp only [Lr07_Check_4]
      have hf := fields (Lr07_Check_4 (FF hFam (k + 12)) (k + 12) d p j) (i : Int) _ p.Recs[i].Fields (by omega) (by rw [wrap_succ hi hml]; exact ih) (k + 12) 0 (Nat.zero_le _) (by omega) p.Recs[i].Marks_Before p.Recs[i].Marks_Trail p.Recs[i].End p.Recs[i].Name
      simp only [Int.ofNat_zero, List.drop_zero] at hf
      rw [if_pos (lt_dec hi), if_pos (by omega), if_pos (by omega), getD_at p.Recs i _ hi, hf,
        r07_marks_ok (k + 8) p.Recs[i].sub_Marks (by show bks_v9 p.Recs[i].Marks_Before < _; omega) (by show bks_v9 p.Recs[i].Marks_Before ≤ _; omega) (by show bks_v9 p.Recs[i].Marks_Trail < _; omega) (by show bks_v9 p.Recs[i].Marks_Trail ≤ _; omega),
        r07_notes_ok (k + 9) p.Recs[i].End (by omega) (by omega), rname_ok (k + 9) d p.Recs[i].Name (by omega) (by omega) (by simp only [maxLen]; omega)]
      simp only [Option.bind_some, not_dc, Bool.false_or, int_dc, dec_dc, or_dc, ifn_dc, iff_dc, Classical.not_not]
      refine congrArg some (dc_eq ?_)
      rw [List.drop_eq_getElem_cons hi]
      simp only [List.mem_cons, forall_eq_or_imp]
      unfold recP
      constructor
      · rintro ⟨⟨a1, a2⟩, a3, b, f, r⟩
        refine ⟨⟨⟨⟨a1, a2, a3⟩, ?_, ⟨?_, ?_⟩, f⟩, r.1⟩, r.2⟩
        · exact Classical.byContradiction fun e => b (.inl (.inl e))
        · exact fun e => b (.inl (.inr (by omega)))
        · exact Classical.byContradiction fun e => b (.inr (by omega))
      · rintro ⟨⟨⟨⟨a1, a2, a3⟩, b, ⟨c1, c2⟩, f⟩, r1⟩, r2⟩
        refine ⟨⟨a1, a2⟩, a3, ?_, f, r1, r2⟩
        rintro ((e | e) | e)
        · exact e b
        · omega
        · omega
  have hkey := key (k + 12) 0 (Nat.zero_le _) (by omega)
  simp only [Int.ofNat_zero, List.drop_zero] at hkey
  rw [hc, if_pos rfl, rname_ok (k + 9) d p.Name (by omega) (by omega) (by simp only [maxLen]; omega), r07_notes_ok (k + 9) p.Before (by omega) (by omega), r07_notes_ok (k + 9) p.Mid (by omega) (by omega), r07_notes_ok (k + 9) p.After (by omega) (by omega), r07_notes_ok (k + 9) p.End (by omega) (by omega), hkey]
  simp only [Option.bind_some, not_dc, Bool.false_or, dec_dc, or_dc, ifn_dc, iff_dc, Classical.not_not]
  refine congrArg some (dc_eq ?_)
  unfold progP
  constructor
  · rintro ⟨a, b1, b2, b3, c, r⟩
    exact ⟨a, ⟨b1, b2, b3, Classical.byContradiction fun e => c (.inl e)⟩, Classical.byContradiction fun e => c (.inr (by omega)), r⟩
  · rintro ⟨a, ⟨b1, b2, b3, b4⟩, c, r⟩
    refine ⟨a, b1, b2, b3, ?_, r⟩
    rintro (e | e)
    · exact e b4
    · omega
end Go.Ev
end
section
open Go
namespace Go.Ev
open Go.Proofs.YtlepjafokfhnfaaGreatDoor
set_option maxRecDepth 100000
set_option maxHeartbeats 4000000
set_option linter.unusedVariables false
set_option linter.unusedSimpArgs false
theorem idx36 (s : ByteArray) : Lib.indexB s sep36 = Lib.indexByte s.data.toList 36 := Lib.index_one s.data.toList 36
theorem cutD_eq : ∀ (n : Nat) (s : ByteArray), s.size ≤ n → cutD s = cutP s := by
  intro n
  induction n with
  | zero =>
    intro s hs
    have h : Lib.indexByte s.data.toList 36 = -1 := by
      have : s.data.toList = [] := List.eq_nil_of_length_eq_zero (by simpa using hs)
      rw [this]; rfl
    unfold cutD
    rw [Lib.splitB_miss _ _ _ _ (by rw [idx36]; exact h), cutP_none s h]
  | succ n ih =>
    intro s hs
    unfold cutD
    rcases Int.lt_or_le (Lib.indexByte s.data.toList 36) 0 with hi | hi
    · have h : Lib.indexByte s.data.toList 36 = -1 := by have := Lib.indexByte_ge s.data.toList 36; omega
      rw [Lib.splitB_miss _ _ _ _ (by rw [idx36]; exact h), cutP_none s h]
    · obtain ⟨i, h⟩ := Int.eq_ofNat_of_zero_le hi
      have hb : Lib.indexB s sep36 = (i : Int) := by rw [idx36]; exact h
      have hlt : i < s.size := by
        have h1 := (Lib.indexByte_some h).1
        have h2 := (List.getElem?_eq_some_iff.1 h1).1
        simpa using h2
      have h1 : 1 ≤ sep36.size := by decide
      rw [Lib.countB_hit s sep36 i h1 hb, Nat.add_comm, Lib.splitB_hit sep36 0 _ s i hb, cutP_some s i h]
      have := ih (s.extract (i + 1) s.size) (by rw [ByteArray.size_extract]; omega)
      unfold cutD at this
      show s.extract 0 (i + 0) :: Lib.splitB sep36 0 (Lib.countB (s.extract (i + 1) s.size) sep36) (s.extract (i + 1) s.size) = _
      rw [this]
      rfl
theorem cutD_cutP (s : ByteArray) : cutD s = cutP s := cutD_eq s.size s (Nat.le_refl _)
theorem cutL_ne : ∀ l : List UInt8, cutL l ≠ []
  | [] => by simp [cutL]
  | c :: r => by
    rw [cutL]
    split
    · simp
    · split <;> simp
theorem join_cutL : ∀ l : List UInt8, Lib.join (cutL l) [36] = l
  | [] => by simp [cutL, Lib.join_one]
  | c :: r => by
    have ih := join_cutL r
    have hne := cutL_ne r
    rw [cutL]
    unfold Lib.join at ih ⊢
    split
    · rename_i h
      subst h
      cases hr : cutL r with
      | nil => exact absurd hr hne
      | cons p q =>
        rw [hr] at ih
        rw [List.intercalate_cons_cons]
        simp [ih]
    · split
      · rename_i h; exact absurd h hne
      · rename_i p q hq
        rw [hq] at ih
        cases q with
        | nil => simp [List.intercalate_singleton] at ih ⊢; exact ih
        | cons x y =>
          rw [List.intercalate_cons_cons] at ih ⊢
          simp only [List.cons_append, List.append_assoc] at ih ⊢
          rw [ih]
theorem joinD_cutP (s : ByteArray) : joinD (cutP s) = s := by
  unfold joinD cutP
  apply ByteArray.ext
  apply Array.toList_inj.1
  rw [List.map_map]
  have h : (List.map ((fun x : ByteArray => x.data.toList) ∘ fun l : List UInt8 => (⟨l.toArray⟩ : ByteArray)) (cutL s.data.toList)) = cutL s.data.toList := by
    rw [List.map_congr_left (g := id) (fun l _ => by simp)]; simp
  rw [h]
  exact (join_cutL s.data.toList)
def outT (th : Thing) (p : ByteArray) : ByteArray := match th with
  | .ren l => (match l.find? fun q => q.Old.toList == p.toList with | some q => q.New | none => p)
  | .names _ => p
def addN (l : List ByteArray) (p : ByteArray) : List ByteArray := if (l.any fun z => z.toList == p.toList) = true then l else l ++ [p]
def nxtT (th : Thing) (ps : List ByteArray) : Thing := match th with
  | .ren l => .ren l
  | .names l => .names (ps.foldl addN l)
theorem nxtT_nil (th : Thing) : nxtT th [] = th := by cases th <;> rfl
theorem nxtT_app (th : Thing) (a b : List ByteArray) : nxtT th (a ++ b) = nxtT (nxtT th a) b := by cases th <;> simp [nxtT]
theorem outT_nxt (th : Thing) (a : List ByteArray) (p : ByteArray) : outT (nxtT th a) p = outT th p := by cases th <;> rfl
def roomT (th : Thing) (n : Nat) : Prop := match th with
  | .ren l => ∀ q ∈ l, q.New.size ≤ 8388608
  | .names l => l.length + n ≤ 1099511627776
theorem addN_len (l : List ByteArray) (p : ByteArray) : (addN l p).length ≤ l.length + 1 := by unfold addN; split <;> simp
theorem foldN_len : ∀ (ps l : List ByteArray), (ps.foldl addN l).length ≤ l.length + ps.length
  | [], l => by simp
  | p :: r, l => by
    have := foldN_len r (addN l p)
    have := addN_len l p
    simp only [List.foldl_cons, List.length_cons]; omega
theorem roomT_nxt {th : Thing} {a : List ByteArray} {n : Nat} (h : roomT th (a.length + n)) : roomT (nxtT th a) n := by
  cases th with
  | ren l => exact h
  | names l =>
    have h' : l.length + (a.length + n) ≤ 1099511627776 := h
    have := foldN_len a l
    show (a.foldl addN l).length + n ≤ _
    omega
theorem roomT_le {th : Thing} {m n : Nat} (h : roomT th n) (hm : m ≤ n) : roomT th m := by
  cases th with
  | ren l => exact h
  | names l =>
    have h' : l.length + n ≤ 1099511627776 := h
    show l.length + m ≤ _
    omega
theorem outT_size {th : Thing} {n : Nat} (h : roomT th n) (p : ByteArray) (hp : p.size ≤ 8388608) : (outT th p).size ≤ 8388608 := by
  cases th with
  | ren l =>
    simp only [outT]
    split
    · rename_i q hq
      exact h q (List.mem_of_find?_eq_some hq)
    · exact hp
  | names l => exact hp
theorem stepT_ok {th : Thing} (h : roomT th 1) (p : ByteArray) (hp : p.size ≤ 8388608) : stepT (th, p, ()) = some (outT th p, nxtT th [p], ()) := by
  cases th with
  | ren l => rfl
  | names l =>
    have h' : l.length + 1 ≤ 1099511627776 := h
    simp only [stepT]
    rw [if_pos (by simp only [maxLen]; omega)]
    show _ = some (p, Thing.names (addN l p), ())
    unfold addN
    split
    · rfl
    · rw [if_pos (by omega)]
def someP (l : List ByteArray) : List ByteArray := l.filter fun p => decide (p.size ≠ 0)
def mapPart (th : Thing) (p : ByteArray) : ByteArray := if p.size = 0 then p else outT th p
theorem mapPart_nxt (th : Thing) (a : List ByteArray) : mapPart (nxtT th a) = mapPart th := by funext p; unfold mapPart; rw [outT_nxt]
theorem partsT_ok (k : Nat) : ∀ (ps : List ByteArray) (th : Thing), roomT th ps.length → (∀ p ∈ ps, p.size ≤ 8388608) → partsT (FF hFam k) th ps = some (ps.map (mapPart th), nxtT th (someP ps))
  | [], th, _, _ => by simp [partsT, someP, nxtT_nil]
  | p :: r, th, h, hp => by
    have hp0 := hp p List.mem_cons_self
    have hpr : ∀ q ∈ r, q.size ≤ 8388608 := fun q hq => hp q (List.mem_cons_of_mem _ hq)
    simp only [List.length_cons] at h
    unfold partsT
    by_cases hz : p.size = 0
    · rw [if_pos hz, partsT_ok k r th (roomT_le h (by omega)) hpr]
      simp only [Option.map_some, List.map_cons]
      have h1 : mapPart th p = p := by unfold mapPart; rw [if_pos hz]
      have h2 : someP (p :: r) = someP r := by unfold someP; rw [List.filter_cons_of_neg (by simp [hz])]
      rw [h1, h2]
    · have hby : (FF hFam k).f_by (th, p, ()) = stepT (th, p, ()) := by cases k <;> rfl
      have hr := partsT_ok k r (nxtT th [p]) (roomT_nxt (a := [p]) (by show roomT th (1 + r.length); rwa [Nat.add_comm])) hpr
      rw [if_neg hz, hby, stepT_ok (roomT_le h (by omega)) p hp0, Option.bind_some, hr, Option.map_some]
      simp only [List.map_cons]
      have h1 : mapPart th p = outT th p := by unfold mapPart; rw [if_neg hz]
      have h2 : someP (p :: r) = p :: someP r := by unfold someP; rw [List.filter_cons_of_pos (by simp [hz])]
      rw [h1, h2, mapPart_nxt, show p :: someP r = [p] ++ someP r from rfl, nxtT_app]
end Go.Ev
end
section
open Go
namespace Go.Ev
open Go.Proofs.YtlepjafokfhnfaaGreatDoor
set_option maxRecDepth 100000
set_option maxHeartbeats 4000000
set_option linter.unusedVariables false
set_option linter.unusedSimpArgs false
def mapPo (o : ByteArray → ByteArray) (p : ByteArray) : ByteArray := if p.size = 0 then p else o p
def mapN (o : ByteArray → ByteArray) (s : ByteArray) : ByteArray := if s.size = 0 then ByteArray.empty else joinD ((cutP s).map (mapPo o))
def pts (s : ByteArray) : List ByteArray := someP (cutP s)
theorem outT_nxt' (th : Thing) (a : List ByteArray) : outT (nxtT th a) = outT th := by funext p; exact outT_nxt th a p
theorem pts_len (s : ByteArray) : (pts s).length ≤ s.size + 1 := Nat.le_trans (List.length_filter_le _ _) (cutP_len s)
theorem join_len : ∀ (ls : List (List UInt8)) (c : Nat), (∀ l ∈ ls, l.length ≤ c) → (Lib.join ls [36]).length ≤ ls.length * (c + 1)
  | [], c, _ => by simp [Lib.join, List.intercalate]
  | [x], c, h => by
    rw [Lib.join_one]
    have := h x List.mem_cons_self
    simp; omega
  | x :: y :: r, c, h => by
    have ih := join_len (y :: r) c fun l hl => h l (List.mem_cons_of_mem _ hl)
    have := h x List.mem_cons_self
    unfold Lib.join at ih ⊢
    rw [List.intercalate_cons_cons]
    simp only [List.length_append, List.length_cons, List.length_nil] at ih ⊢
    rw [Nat.add_mul (r.length + 1) 1 (c + 1)]
    omega
theorem parts_ok (k : Nat) (th : Thing) (s : ByteArray) (hr : roomT th (s.size + 1)) (hs : s.size ≤ 8388608) : (FF hFam (k + 1)).f_tree_mapper_parts ((th, ()), s, ()) = some (mapN (outT th) s, nxtT th (pts s), ()) := by
  show B_tree_mapper_parts (FF hFam k) k (th, ()) s = _
  unfold B_tree_mapper_parts mapN
  by_cases hz : s.size = 0
  · rw [if_pos hz, if_pos hz]
    have h : pts s = [] := by
      have h0 : s.data.toList = [] := List.eq_nil_of_length_eq_zero (by simpa using hz)
      have : cutP s = [⟨#[]⟩] := by unfold cutP; rw [h0]; rfl
      unfold pts
      rw [this]
      rfl
    rw [h, nxtT_nil]
  · rw [if_neg hz, if_neg hz, if_neg (by omega)]
    have hcl := cutP_len s
    rw [cutD_cutP, if_neg (by omega), partsT_ok k (cutP s) th (roomT_le hr hcl) (fun p hp => Nat.le_trans (cutP_mem s p hp) hs), Option.bind_some]
    have hm : (cutP s).map (mapPart th) = (cutP s).map (mapPo (outT th)) := rfl
    simp only [hm]
    have hlen : (Lib.join (((cutP s).map (mapPo (outT th))).map (·.data.toList)) sep36.data.toList).length ≤ (cutP s).length * (8388608 + 1) := by
      have := join_len (((cutP s).map (mapPo (outT th))).map (·.data.toList)) 8388608 (fun l hl => by
        obtain ⟨q, hq, rfl⟩ := List.mem_map.1 hl
        obtain ⟨p, hp, rfl⟩ := List.mem_map.1 hq
        have h1 := Nat.le_trans (cutP_mem s p hp) hs
        have h2 := outT_size hr p h1
        show (mapPo (outT th) p).data.toList.length ≤ _
        unfold mapPo
        split
        · simpa using h1
        · simpa using h2)
      have h36 : sep36.data.toList = [36] := rfl
      rw [h36]
      simpa using this
    have hprod : (cutP s).length * (8388608 + 1) ≤ 8388609 * 8388609 := Nat.mul_le_mul (by omega) (Nat.le_refl _)
    rw [if_pos (by omega)]
    rfl
def eachG {α : Type} (d : α) (sz : Nat) (f : Thing → α → Option (α × Thing × Unit)) : Nat → List α → Int → Int → List α → Thing → Option (List α × Thing × Unit)
  | 0, _, _, _, _, _ => none
  | j + 1, v0, v1, v2, v3, v4 => (if decide (v2 < v1) = true then (if 0 ≤ v2 then (if v2 < (v0.length : Int) then ((f v4 (v0.getD v2.toNat d)).bind fun t5 => (if (v3 ++ [t5.1]).length * sz ≤ 140737488355328 then eachG d sz f j v0 v1 (IntKind.i64.wrap (v2 + 1)) (v3 ++ [t5.1]) t5.2.1 else none)) else none) else none) else some ((v3, v4, ())))
theorem eachG_ok {α : Type} (d : α) (sz : Nat) (hsz : sz ≤ 1000) (f : Thing → α → Option (α × Thing × Unit)) (o : ByteArray → ByteArray) (m : α → α) (nm : α → List ByteArray) (w : α → Nat) (hnm : ∀ x, (nm x).length ≤ w x) (l : List α) (hl : l.length ≤ 8388608)
    (hf : ∀ i (h : i < l.length) th, outT th = o → roomT th (w l[i]) → f th l[i] = some (m l[i], nxtT th (nm l[i]), ())) :
    ∀ j i, i ≤ l.length → l.length - i < j → ∀ out th, outT th = o → roomT th (((l.drop i).map w).sum) → out.length ≤ i → eachG d sz f j l (l.length : Int) (i : Int) out th = some (out ++ (l.drop i).map m, nxtT th ((l.drop i).flatMap nm), ()) := by
  refine up_ind l.length (fun j out th ho hr hout => ?_) (fun j i hi ih out th ho hr hout => ?_)
  · simp only [eachG]
    rw [if_neg (by simp), List.drop_length]
    simp [nxtT_nil]
  · have hd := List.drop_eq_getElem_cons hi
    rw [hd] at hr ⊢
    simp only [List.map_cons, List.sum_cons] at hr
    simp only [eachG]
    rw [if_pos (lt_dec hi), if_pos (by omega), if_pos (by omega), getD_at l i _ hi, hf i hi th ho (roomT_le hr (by omega)), Option.bind_some, wrap_succ hi (by simp only [maxLen]; omega)]
    have hlen : (out ++ [m l[i]]).length * sz ≤ 140737488355328 := by
      have h1 : (out ++ [m l[i]]).length ≤ 8388609 := by simp; omega
      have := Nat.mul_le_mul h1 hsz
      omega
    have hn := hnm l[i]
    rw [if_pos hlen, ih (out ++ [m l[i]]) (nxtT th (nm l[i])) (by rw [outT_nxt', ho]) (roomT_nxt (roomT_le hr (by omega))) (by simp; omega)]
    simp only [List.map_cons, List.flatMap_cons, List.append_assoc, List.cons_append, List.nil_append, nxtT_app]
mutual
def nmE : TExpr → List ByteArray
  | ⟨_, _, nm, f, l⟩ => pts nm ++ (pts f ++ nmEs l)
def nmEs : List TExpr → List ByteArray
  | [] => []
  | x :: r => nmE x ++ nmEs r
end
mutual
def mapE (o : ByteArray → ByteArray) : TExpr → TExpr
  | ⟨op, n, nm, f, l⟩ => ⟨op, n, mapN o nm, mapN o f, mapEs o l⟩
def mapEs (o : ByteArray → ByteArray) : List TExpr → List TExpr
  | [] => []
  | x :: r => mapE o x :: mapEs o r
end
theorem nmEs_eq : ∀ l : List TExpr, nmEs l = l.flatMap nmE
  | [] => rfl
  | x :: r => by simp [nmEs, nmEs_eq r]
theorem mapEs_eq (o : ByteArray → ByteArray) : ∀ l : List TExpr, mapEs o l = l.map (mapE o)
  | [] => rfl
  | x :: r => by simp [mapEs, mapEs_eq o r]
mutual
theorem nmE_len : ∀ e : TExpr, (nmE e).length ≤ bk_TExpr e
  | ⟨_, _, nm, f, l⟩ => by
    have h1 := pts_len nm
    have h2 := pts_len f
    have h3 := nmEs_len l
    simp only [nmE, bk_TExpr, List.length_append]
    omega
theorem nmEs_len : ∀ l : List TExpr, (nmEs l).length ≤ bks_TExpr l
  | [] => by simp [nmEs]
  | x :: r => by
    have h1 := nmE_len x
    have h2 := nmEs_len r
    simp only [nmEs, bks_TExpr, List.length_append]
    omega
end
theorem L_each_Expr (s : Fam) (k : Nat) (x0 : List TExpr) (x1 : Thing × Unit) : ∀ j v0 v1 v2 v3 v4, Ltree_each_Expr_3 s k x0 x1 j v0 v1 v2 v3 v4 = eachG dd_TExpr 72 (fun th x => s.f_tree_mapper_expr ((th, ()), x, ())) j v0 v1 v2 v3 v4 := by
  intro j
  induction j with
  | zero => intros; rfl
  | succ j ih => intros; simp only [Ltree_each_Expr_3, eachG, ih, TExpr.re_eq]
theorem mexpr_ok : ∀ K, (∀ th e, roomT th (bk_TExpr e) → bk_TExpr e ≤ 8388608 → 3 * bk_TExpr e + 10 ≤ K → (FF hFam K).f_tree_mapper_expr ((th, ()), e, ()) = some (mapE (outT th) e, nxtT th (nmE e), ())) ∧
    (∀ th l, roomT th (bks_TExpr l) → bks_TExpr l ≤ 8388608 → 3 * bks_TExpr l + 11 ≤ K → (FF hFam K).f_tree_each_Expr (l, (th, ()), ()) = some (mapEs (outT th) l, nxtT th (nmEs l), ())) := by
  intro K
  induction K with
  | zero => exact ⟨fun th e _ _ h => by omega, fun th l _ _ h => by omega⟩
  | succ K ih =>
    refine ⟨fun th e hr hb hk => ?_, fun th l hr hb hk => ?_⟩
    · have hn := bk_name e
      have p1 := pts_len e.Name
      have p2 := pts_len e.Field
      show B_tree_mapper_expr (FF hFam K) K (th, ()) e = _
      unfold B_tree_mapper_expr
      obtain ⟨K', rfl⟩ : ∃ K', K = K' + 1 := ⟨K - 1, by omega⟩
      have hbk : bk_TExpr e = e.Name.size + e.Field.size + bks_TExpr e.L + 6 := by cases e; simp only [bk_TExpr]; omega
      rw [parts_ok K' th e.Name (roomT_le hr (by omega)) (by omega)]
      simp only [Option.bind_some]
      rw [parts_ok K' (nxtT th (pts e.Name)) e.Field (roomT_nxt (roomT_le hr (by omega))) (by omega)]
      simp only [Option.bind_some]
      rw [ih.2 (nxtT (nxtT th (pts e.Name)) (pts e.Field)) e.L (roomT_nxt (roomT_nxt (roomT_le hr (by omega)))) (by omega) (by omega)]
      simp only [Option.bind_some, outT_nxt']
      rw [← nxtT_app, ← nxtT_app]
      cases e
      simp only [mapE, nmE]
    · have hlen := bks_Expr_len l
      show B_tree_each_Expr (FF hFam K) K l (th, ()) = _
      unfold B_tree_each_Expr
      rw [L_each_Expr]
      have := eachG_ok dd_TExpr 72 (by decide) (fun th x => (FF hFam K).f_tree_mapper_expr ((th, ()), x, ())) (outT th) (mapE (outT th)) nmE bk_TExpr nmE_len l (by omega) (fun i hi th' ho hr' => by
        have := bks_Expr_mem l i hi
        rw [← ho]
        exact ih.1 th' l[i] hr' (by omega) (by omega)) K 0 (Nat.zero_le _) (by omega) [] th rfl (by rw [List.drop_zero, ← bks_TExpr_eq]; exact hr) (Nat.le_refl _)
      simp only [Int.ofNat_zero, List.drop_zero, List.nil_append] at this
      rw [mapEs_eq, nmEs_eq]
      exact this
end Go.Ev
end
section
open Go
namespace Go.Ev
open Go.Proofs.YtlepjafokfhnfaaGreatDoor
set_option maxRecDepth 100000
set_option maxHeartbeats 4000000
set_option linter.unusedVariables false
set_option linter.unusedSimpArgs false
theorem clone_ok (k : Nat) (l : List ByteArray) (h : l.length ≤ 8388608) : (FF hFam k).f_slices_Clone_string (l, ()) = some l := by
  have : (FF hFam k).f_slices_Clone_string (l, ()) = (if l.length * 16 ≤ 140737488355328 then some l else none) := by cases k <;> rfl
  rw [this, if_pos (by omega)]
theorem mmarks_ok (k : Nat) (th : Thing) (x : TMarks) (h1 : x.Before.length ≤ 8388608) (h2 : x.Trail.length ≤ 8388608) : (FF hFam (k + 1)).f_tree_mapper_marks ((th, ()), x, ()) = some (x, th, ()) := by
  show B_tree_mapper_marks (FF hFam k) k (th, ()) x = _
  unfold B_tree_mapper_marks
  rw [clone_ok k _ h1, clone_ok k _ h2]
  rfl
theorem mtyp_ok (k : Nat) (th : Thing) (t : TType) (hr : roomT th (t.Name.size + 1)) (hs : t.Name.size ≤ 8388608) : (FF hFam (k + 2)).f_tree_mapper_typ ((th, ()), t, ()) = some (⟨t.Kind, t.Size, mapN (outT th) t.Name⟩, nxtT th (pts t.Name), ()) := by
  show B_tree_mapper_typ (FF hFam (k + 1)) (k + 1) (th, ()) t = _
  unfold B_tree_mapper_typ
  rw [parts_ok k th t.Name hr hs]
  rfl
def mapV (o : ByteArray → ByteArray) (v : TVar) : TVar := ⟨v.Marks_Before, v.Marks_Trail, mapN o v.Name, v.T_Kind, v.T_Size, mapN o v.T_Name⟩
def nmV (v : TVar) : List ByteArray := pts v.Name ++ pts v.T_Name
theorem nmV_len (v : TVar) : (nmV v).length ≤ bk_TVar v := by
  have h1 := pts_len v.Name
  have h2 := pts_len v.T_Name
  have := bk_VarN v
  simp only [nmV, List.length_append]
  omega
theorem mvar_ok (k : Nat) (th : Thing) (v : TVar) (hr : roomT th (bk_TVar v)) (hb : bk_TVar v ≤ 8388608) : (FF hFam (k + 3)).f_tree_mapper_variable ((th, ()), v, ()) = some (mapV (outT th) v, nxtT th (nmV v), ()) := by
  have hn := bk_VarN v
  have p1 := pts_len v.Name
  have l1 := bks_v9_len v.Marks_Before
  have l2 := bks_v9_len v.Marks_Trail
  show B_tree_mapper_variable (FF hFam (k + 2)) (k + 2) (th, ()) v = _
  unfold B_tree_mapper_variable
  rw [mmarks_ok (k + 1) th v.sub_Marks (by show v.Marks_Before.length ≤ _; omega) (by show v.Marks_Trail.length ≤ _; omega)]
  simp only [Option.bind_some]
  rw [parts_ok (k + 1) th v.Name (roomT_le hr (by omega)) (by omega)]
  simp only [Option.bind_some]
  rw [mtyp_ok k (nxtT th (pts v.Name)) v.sub_T (by show roomT _ (v.T_Name.size + 1); exact roomT_nxt (roomT_le hr (by omega))) (by show v.T_Name.size ≤ _; omega)]
  simp only [Option.bind_some, outT_nxt', ← nxtT_app]
  rfl
theorem L_each_Var (s : Fam) (k : Nat) (x0 : List TVar) (x1 : Thing × Unit) : ∀ j v0 v1 v2 v3 v4, Ltree_each_Var_3 s k x0 x1 j v0 v1 v2 v3 v4 = eachG dd_TVar 96 (fun th x => s.f_tree_mapper_variable ((th, ()), x, ())) j v0 v1 v2 v3 v4 := by
  intro j
  induction j with
  | zero => intros; rfl
  | succ j ih => intros; simp only [Ltree_each_Var_3, eachG, ih]
theorem each_Var_ok (k : Nat) (th : Thing) (l : List TVar) (hr : roomT th (bks_TVar l)) (hb : bks_TVar l ≤ 8388608) (hk : bks_TVar l + 1 ≤ k) : (FF hFam (k + 4)).f_tree_each_Var (l, (th, ()), ()) = some (l.map (mapV (outT th)), nxtT th (l.flatMap nmV), ()) := by
  have hlen := bks_Var_len l
  show B_tree_each_Var (FF hFam (k + 3)) (k + 3) l (th, ()) = _
  unfold B_tree_each_Var
  rw [L_each_Var]
  have := eachG_ok dd_TVar 96 (by decide) (fun th x => (FF hFam (k + 3)).f_tree_mapper_variable ((th, ()), x, ())) (outT th) (mapV (outT th)) nmV bk_TVar nmV_len l (by omega) (fun i hi th' ho hr' => by
    have := bks_Var_mem l i hi
    rw [← ho]
    exact mvar_ok k th' l[i] hr' (by omega)) (k + 3) 0 (Nat.zero_le _) (by omega) [] th rfl (by rw [List.drop_zero, ← bks_TVar_eq]; exact hr) (Nat.le_refl _)
  simp only [Int.ofNat_zero, List.drop_zero, List.nil_append] at this
  exact this
def mapF (o : ByteArray → ByteArray) (f : TField) : TField := ⟨f.Marks_Before, f.Marks_Trail, mapN o f.Name, f.Kind⟩
def nmF (f : TField) : List ByteArray := pts f.Name
theorem nmF_len (f : TField) : (nmF f).length ≤ bk_TField f := by
  have h1 := pts_len f.Name
  have := bk_FieldN f
  simp only [nmF]
  omega
theorem mfield_ok (k : Nat) (th : Thing) (f : TField) (hr : roomT th (bk_TField f)) (hb : bk_TField f ≤ 8388608) : (FF hFam (k + 3)).f_tree_mapper_rec_1 (f, (th, ()), ()) = some (mapF (outT th) f, nxtT th (nmF f), ()) := by
  have hn := bk_FieldN f
  have l1 := bks_v9_len f.Marks_Before
  have l2 := bks_v9_len f.Marks_Trail
  show B_tree_mapper_rec_1 (FF hFam (k + 2)) (k + 2) f (th, ()) = _
  unfold B_tree_mapper_rec_1
  rw [mmarks_ok (k + 1) th f.sub_Marks (by show f.Marks_Before.length ≤ _; omega) (by show f.Marks_Trail.length ≤ _; omega)]
  simp only [Option.bind_some]
  rw [parts_ok (k + 1) th f.Name (roomT_le hr (by omega)) (by omega)]
  rfl
theorem L_each_Field (s : Fam) (k : Nat) (x0 : List TField) (x1 : Unit × (Thing × Unit) × Unit) : ∀ j v0 v1 v2 v3 v4, Ltree_each_Field_3 s k x0 x1 j v0 v1 v2 v3 v4 = eachG dd_TField 72 (fun th x => s.f_tree_mapper_rec_1 (x, (th, ()), ())) j v0 v1 v2 v3 v4 := by
  intro j
  induction j with
  | zero => intros; rfl
  | succ j ih => intros; simp only [Ltree_each_Field_3, eachG, ih]
theorem each_Field_ok (k : Nat) (th : Thing) (l : List TField) (hr : roomT th (bks_TField l)) (hb : bks_TField l ≤ 8388608) (hk : bks_TField l + 1 ≤ k) : (FF hFam (k + 4)).f_tree_each_Field (l, ((), (th, ()), ()), ()) = some (l.map (mapF (outT th)), nxtT th (l.flatMap nmF), ()) := by
  have hlen := bks_Field_len l
  show B_tree_each_Field (FF hFam (k + 3)) (k + 3) l ((), (th, ()), ()) = _
  unfold B_tree_each_Field
  rw [L_each_Field]
  have := eachG_ok dd_TField 72 (by decide) (fun th x => (FF hFam (k + 3)).f_tree_mapper_rec_1 (x, (th, ()), ())) (outT th) (mapF (outT th)) nmF bk_TField nmF_len l (by omega) (fun i hi th' ho hr' => by
    have := bks_Field_mem l i hi
    rw [← ho]
    exact mfield_ok k th' l[i] hr' (by omega)) (k + 3) 0 (Nat.zero_le _) (by omega) [] th rfl (by rw [List.drop_zero, ← bks_TField_eq]; exact hr) (Nat.le_refl _)
  simp only [Int.ofNat_zero, List.drop_zero, List.nil_append] at this
  exact this
def mapC (o : ByteArray → ByteArray) (r : TRec) : TRec := ⟨r.Marks_Before, r.Marks_Trail, mapN o r.Name, r.Fields.map (mapF o), r.End⟩
def nmC (r : TRec) : List ByteArray := pts r.Name ++ r.Fields.flatMap nmF
theorem flat_len {α : Type} (nm : α → List ByteArray) (w : α → Nat) (h : ∀ x, (nm x).length ≤ w x) : ∀ l : List α, (l.flatMap nm).length ≤ (l.map w).sum
  | [] => by simp
  | x :: r => by
    have := h x
    have := flat_len nm w h r
    simp only [List.flatMap_cons, List.length_append, List.map_cons, List.sum_cons]
    omega
theorem nmC_len (r : TRec) : (nmC r).length ≤ bk_TRec r := by
  have h1 := pts_len r.Name
  have h2 := flat_len nmF bk_TField nmF_len r.Fields
  rw [← bks_TField_eq] at h2
  have := bk_RecN r
  simp only [nmC, List.length_append]
  omega
theorem mrec_ok (k : Nat) (th : Thing) (r : TRec) (hr : roomT th (bk_TRec r)) (hb : bk_TRec r ≤ 8388608) (hk : bk_TRec r ≤ k) : (FF hFam (k + 6)).f_tree_mapper_rec ((th, ()), r, ()) = some (mapC (outT th) r, nxtT th (nmC r), ()) := by
  have hn := bk_RecN r
  have p1 := pts_len r.Name
  have l1 := bks_v9_len r.Marks_Before
  have l2 := bks_v9_len r.Marks_Trail
  have l3 := bks_v9_len r.End
  show B_tree_mapper_rec (FF hFam (k + 5)) (k + 5) (th, ()) r = _
  unfold B_tree_mapper_rec
  rw [mmarks_ok (k + 4) th r.sub_Marks (by show r.Marks_Before.length ≤ _; omega) (by show r.Marks_Trail.length ≤ _; omega)]
  simp only [Option.bind_some]
  rw [parts_ok (k + 4) th r.Name (roomT_le hr (by omega)) (by omega)]
  simp only [Option.bind_some]
  rw [each_Field_ok (k + 1) (nxtT th (pts r.Name)) r.Fields (roomT_nxt (roomT_le hr (by omega))) (by omega) (by omega)]
  simp only [Option.bind_some]
  rw [clone_ok _ r.End (by omega)]
  simp only [Option.bind_some, outT_nxt', ← nxtT_app]
  rfl
theorem L_each_Rec (s : Fam) (k : Nat) (x0 : List TRec) (x1 : Thing × Unit) : ∀ j v0 v1 v2 v3 v4, Ltree_each_Rec_3 s k x0 x1 j v0 v1 v2 v3 v4 = eachG dd_TRec 112 (fun th x => s.f_tree_mapper_rec ((th, ()), x, ())) j v0 v1 v2 v3 v4 := by
  intro j
  induction j with
  | zero => intros; rfl
  | succ j ih => intros; simp only [Ltree_each_Rec_3, eachG, ih]
theorem each_Rec_ok (k : Nat) (th : Thing) (l : List TRec) (hr : roomT th (bks_TRec l)) (hb : bks_TRec l ≤ 8388608) (hk : bks_TRec l + 1 ≤ k) : (FF hFam (k + 7)).f_tree_each_Rec (l, (th, ()), ()) = some (l.map (mapC (outT th)), nxtT th (l.flatMap nmC), ()) := by
  have hlen := bks_Rec_len l
  show B_tree_each_Rec (FF hFam (k + 6)) (k + 6) l (th, ()) = _
  unfold B_tree_each_Rec
  rw [L_each_Rec]
  have := eachG_ok dd_TRec 112 (by decide) (fun th x => (FF hFam (k + 6)).f_tree_mapper_rec ((th, ()), x, ())) (outT th) (mapC (outT th)) nmC bk_TRec nmC_len l (by omega) (fun i hi th' ho hr' => by
    have := bks_Rec_mem l i hi
    rw [← ho]
    exact mrec_ok k th' l[i] hr' (by omega) (by omega)) (k + 6) 0 (Nat.zero_le _) (by omega) [] th rfl (by rw [List.drop_zero, ← bks_TRec_eq]; exact hr) (Nat.le_refl _)
  simp only [Int.ofNat_zero, List.drop_zero, List.nil_append] at this
  exact this
def mapA (o : ByteArray → ByteArray) (p : TParam) : TParam := ⟨mapN o p.Name, p.T_Kind, p.T_Size, mapN o p.T_Name, p.Mode⟩
def nmA (p : TParam) : List ByteArray := pts p.Name ++ pts p.T_Name
theorem nmA_len (p : TParam) : (nmA p).length ≤ bk_TParam p := by
  have h1 := pts_len p.Name
  have h2 := pts_len p.T_Name
  have := bk_ParamN p
  simp only [nmA, List.length_append]
  omega
theorem mparam_ok (k : Nat) (th : Thing) (p : TParam) (hr : roomT th (bk_TParam p)) (hb : bk_TParam p ≤ 8388608) : (FF hFam (k + 3)).f_tree_mapper_routine_1 (p, (th, ()), ()) = some (mapA (outT th) p, nxtT th (nmA p), ()) := by
  have hn := bk_ParamN p
  have p1 := pts_len p.Name
  show B_tree_mapper_routine_1 (FF hFam (k + 2)) (k + 2) p (th, ()) = _
  unfold B_tree_mapper_routine_1
  rw [parts_ok (k + 1) th p.Name (roomT_le hr (by omega)) (by omega)]
  simp only [Option.bind_some]
  rw [mtyp_ok k (nxtT th (pts p.Name)) p.sub_T (by show roomT _ (p.T_Name.size + 1); exact roomT_nxt (roomT_le hr (by omega))) (by show p.T_Name.size ≤ _; omega)]
  simp only [Option.bind_some, outT_nxt', ← nxtT_app]
  rfl
theorem L_each_Param (s : Fam) (k : Nat) (x0 : List TParam) (x1 : Unit × (Thing × Unit) × Unit) : ∀ j v0 v1 v2 v3 v4, Ltree_each_Param_3 s k x0 x1 j v0 v1 v2 v3 v4 = eachG dd_TParam 56 (fun th x => s.f_tree_mapper_routine_1 (x, (th, ()), ())) j v0 v1 v2 v3 v4 := by
  intro j
  induction j with
  | zero => intros; rfl
  | succ j ih => intros; simp only [Ltree_each_Param_3, eachG, ih]
theorem each_Param_ok (k : Nat) (th : Thing) (l : List TParam) (hr : roomT th (bks_TParam l)) (hb : bks_TParam l ≤ 8388608) (hk : bks_TParam l + 1 ≤ k) : (FF hFam (k + 4)).f_tree_each_Param (l, ((), (th, ()), ()), ()) = some (l.map (mapA (outT th)), nxtT th (l.flatMap nmA), ()) := by
  have hlen := bks_Param_len l
  show B_tree_each_Param (FF hFam (k + 3)) (k + 3) l ((), (th, ()), ()) = _
  unfold B_tree_each_Param
  rw [L_each_Param]
  have := eachG_ok dd_TParam 56 (by decide) (fun th x => (FF hFam (k + 3)).f_tree_mapper_routine_1 (x, (th, ()), ())) (outT th) (mapA (outT th)) nmA bk_TParam nmA_len l (by omega) (fun i hi th' ho hr' => by
    have := bks_Param_mem' l i hi
    rw [← ho]
    exact mparam_ok k th' l[i] hr' (by omega)) (k + 3) 0 (Nat.zero_le _) (by omega) [] th rfl (by rw [List.drop_zero, ← bks_TParam_eq]; exact hr) (Nat.le_refl _)
  simp only [Int.ofNat_zero, List.drop_zero, List.nil_append] at this
  exact this
mutual
def nmS : TStmt → List ByteArray
  | ⟨_, _, _, nm, po, pn, pnm, pf, pl, E, _, _, body, els, _, _⟩ => pts nm ++ (nmE ⟨po, pn, pnm, pf, pl⟩ ++ (nmEs E ++ (nmSs body ++ nmSs els)))
def nmSs : List TStmt → List ByteArray
  | [] => []
  | x :: r => nmS x ++ nmSs r
end
mutual
def mapS (o : ByteArray → ByteArray) : TStmt → TStmt
  | ⟨mb, mt, op, nm, po, pn, pnm, pf, pl, E, down, more, body, els, e1, e2⟩ => ⟨mb, mt, op, mapN o nm, po, pn, mapN o pnm, mapN o pf, mapEs o pl, mapEs o E, down, more, mapSs o body, mapSs o els, e1, e2⟩
def mapSs (o : ByteArray → ByteArray) : List TStmt → List TStmt
  | [] => []
  | x :: r => mapS o x :: mapSs o r
end
theorem nmSs_eq : ∀ l : List TStmt, nmSs l = l.flatMap nmS
  | [] => rfl
  | x :: r => by simp [nmSs, nmSs_eq r]
theorem mapSs_eq (o : ByteArray → ByteArray) : ∀ l : List TStmt, mapSs o l = l.map (mapS o)
  | [] => rfl
  | x :: r => by simp [mapSs, mapSs_eq o r]
mutual
theorem nmS_len : ∀ x : TStmt, (nmS x).length ≤ bk_TStmt x
  | ⟨_, _, _, nm, po, pn, pnm, pf, pl, E, _, _, body, els, _, _⟩ => by
    have h1 := pts_len nm
    have h2 := pts_len pnm
    have h2' := pts_len pf
    have h2'' := nmEs_len pl
    have h3 := nmEs_len E
    have h4 := nmSs_len body
    have h5 := nmSs_len els
    simp only [nmS, nmE, bk_TStmt, List.length_append]
    omega
theorem nmSs_len : ∀ l : List TStmt, (nmSs l).length ≤ bks_TStmt l
  | [] => by simp [nmSs]
  | x :: r => by
    have h1 := nmS_len x
    have h2 := nmSs_len r
    simp only [nmSs, bks_TStmt, List.length_append]
    omega
end
theorem L_each_Stmt (s : Fam) (k : Nat) (x0 : List TStmt) (x1 : Thing × Unit) : ∀ j v0 v1 v2 v3 v4, Ltree_each_Stmt_3 s k x0 x1 j v0 v1 v2 v3 v4 = eachG dd_TStmt 272 (fun th x => s.f_tree_mapper_stmt ((th, ()), x, ())) j v0 v1 v2 v3 v4 := by
  intro j
  induction j with
  | zero => intros; rfl
  | succ j ih => intros; simp only [Ltree_each_Stmt_3, eachG, ih, TStmt.re_eq]
theorem mstmt_ok : ∀ K, (∀ th x, roomT th (bk_TStmt x) → bk_TStmt x ≤ 8388608 → 3 * bk_TStmt x + 10 ≤ K → (FF hFam K).f_tree_mapper_stmt ((th, ()), x, ()) = some (mapS (outT th) x, nxtT th (nmS x), ())) ∧
    (∀ th l, roomT th (bks_TStmt l) → bks_TStmt l ≤ 8388608 → 3 * bks_TStmt l + 11 ≤ K → (FF hFam K).f_tree_each_Stmt (l, (th, ()), ()) = some (mapSs (outT th) l, nxtT th (nmSs l), ())) := by
  intro K
  induction K with
  | zero => exact ⟨fun th e _ _ h => by omega, fun th l _ _ h => by omega⟩
  | succ K ih =>
    refine ⟨fun th x hr hb hk => ?_, fun th l hr hb hk => ?_⟩
    · have hn := bk_StmtN x
      have p1 := pts_len x.Name
      have p2 := nmE_len x.sub_P
      have p3 := nmEs_len x.E
      have p4 := nmSs_len x.Body
      have p5 := nmSs_len x.Else
      have l1 := bks_v9_len x.Marks_Before
      have l2 := bks_v9_len x.Marks_Trail
      have l3 := bks_v9_len x.End
      have l4 := bks_v9_len x.End2
      show B_tree_mapper_stmt (FF hFam K) K (th, ()) x = _
      unfold B_tree_mapper_stmt
      obtain ⟨K', rfl⟩ : ∃ K', K = K' + 1 := ⟨K - 1, by omega⟩
      have hE := mexpr_ok (K' + 1)
      rw [mmarks_ok K' th x.sub_Marks (by show x.Marks_Before.length ≤ _; omega) (by show x.Marks_Trail.length ≤ _; omega)]
      simp only [Option.bind_some]
      rw [parts_ok K' th x.Name (roomT_le hr (by omega)) (by omega)]
      simp only [Option.bind_some]
      rw [hE.1 _ x.sub_P (roomT_nxt (roomT_le hr (by omega))) (by omega) (by omega)]
      simp only [Option.bind_some]
      rw [hE.2 _ x.E (roomT_nxt (roomT_nxt (roomT_le hr (by omega)))) (by omega) (by omega)]
      simp only [Option.bind_some]
      rw [ih.2 _ x.Body (roomT_nxt (roomT_nxt (roomT_nxt (roomT_le hr (by omega))))) (by omega) (by omega)]
      simp only [Option.bind_some]
      rw [ih.2 _ x.Else (roomT_nxt (roomT_nxt (roomT_nxt (roomT_nxt (roomT_le hr (by omega)))))) (by omega) (by omega)]
      simp only [Option.bind_some]
      rw [clone_ok _ x.End (by omega), clone_ok _ x.End2 (by omega)]
      simp only [Option.bind_some, outT_nxt', ← nxtT_app]
      cases x
      simp only [mapS, nmS, mapE, nmE, TStmt.sub_P, TStmt.sub_Marks, List.append_assoc]
    · have hlen := bks_Stmt_len l
      show B_tree_each_Stmt (FF hFam K) K l (th, ()) = _
      unfold B_tree_each_Stmt
      rw [L_each_Stmt]
      have := eachG_ok dd_TStmt 272 (by decide) (fun th x => (FF hFam K).f_tree_mapper_stmt ((th, ()), x, ())) (outT th) (mapS (outT th)) nmS bk_TStmt nmS_len l (by omega) (fun i hi th' ho hr' => by
        have := bks_Stmt_mem l i hi
        rw [← ho]
        exact ih.1 th' l[i] hr' (by omega) (by omega)) K 0 (Nat.zero_le _) (by omega) [] th rfl (by rw [List.drop_zero, ← bks_TStmt_eq]; exact hr) (Nat.le_refl _)
      simp only [Int.ofNat_zero, List.drop_zero, List.nil_append] at this
      rw [mapSs_eq, nmSs_eq]
      exact this
mutual
def nmR : TRoutine → List ByteArray
  | ⟨_, _, nm, _, ps, vs, inner, body, _⟩ => pts nm ++ (ps.flatMap nmA ++ (vs.flatMap nmV ++ (nmRs inner ++ nmSs body)))
def nmRs : List TRoutine → List ByteArray
  | [] => []
  | x :: r => nmR x ++ nmRs r
end
mutual
def mapR (o : ByteArray → ByteArray) : TRoutine → TRoutine
  | ⟨mb, mt, nm, res, ps, vs, inner, body, e⟩ => ⟨mb, mt, mapN o nm, res, ps.map (mapA o), vs.map (mapV o), mapRs o inner, mapSs o body, e⟩
def mapRs (o : ByteArray → ByteArray) : List TRoutine → List TRoutine
  | [] => []
  | x :: r => mapR o x :: mapRs o r
end
theorem nmRs_eq : ∀ l : List TRoutine, nmRs l = l.flatMap nmR
  | [] => rfl
  | x :: r => by simp [nmRs, nmRs_eq r]
theorem mapRs_eq (o : ByteArray → ByteArray) : ∀ l : List TRoutine, mapRs o l = l.map (mapR o)
  | [] => rfl
  | x :: r => by simp [mapRs, mapRs_eq o r]
mutual
theorem nmR_len : ∀ x : TRoutine, (nmR x).length ≤ bk_TRoutine x
  | ⟨_, _, nm, _, ps, vs, inner, body, _⟩ => by
    have h1 := pts_len nm
    have h2 := flat_len nmA bk_TParam nmA_len ps
    have h3 := flat_len nmV bk_TVar nmV_len vs
    rw [← bks_TParam_eq] at h2
    rw [← bks_TVar_eq] at h3
    have h4 := nmRs_len inner
    have h5 := nmSs_len body
    simp only [nmR, bk_TRoutine, List.length_append]
    omega
theorem nmRs_len : ∀ l : List TRoutine, (nmRs l).length ≤ bks_TRoutine l
  | [] => by simp [nmRs]
  | x :: r => by
    have h1 := nmR_len x
    have h2 := nmRs_len r
    simp only [nmRs, bks_TRoutine, List.length_append]
    omega
end
theorem L_each_Routine (s : Fam) (k : Nat) (x0 : List TRoutine) (x1 : Thing × Unit) : ∀ j v0 v1 v2 v3 v4, Ltree_each_Routine_3 s k x0 x1 j v0 v1 v2 v3 v4 = eachG dd_TRoutine 192 (fun th x => s.f_tree_mapper_routine ((th, ()), x, ())) j v0 v1 v2 v3 v4 := by
  intro j
  induction j with
  | zero => intros; rfl
  | succ j ih => intros; simp only [Ltree_each_Routine_3, eachG, ih, TRoutine.re_eq]
theorem mroutine_ok : ∀ K, (∀ th x, roomT th (bk_TRoutine x) → bk_TRoutine x ≤ 8388608 → 3 * bk_TRoutine x + 20 ≤ K → (FF hFam K).f_tree_mapper_routine ((th, ()), x, ()) = some (mapR (outT th) x, nxtT th (nmR x), ())) ∧
    (∀ th l, roomT th (bks_TRoutine l) → bks_TRoutine l ≤ 8388608 → 3 * bks_TRoutine l + 21 ≤ K → (FF hFam K).f_tree_each_Routine (l, (th, ()), ()) = some (mapRs (outT th) l, nxtT th (nmRs l), ())) := by
  intro K
  induction K with
  | zero => exact ⟨fun th e _ _ h => by omega, fun th l _ _ h => by omega⟩
  | succ K ih =>
    refine ⟨fun th x hr hb hk => ?_, fun th l hr hb hk => ?_⟩
    · have hn := bk_RoutineN x
      have p1 := pts_len x.Name
      have p2 := flat_len nmA bk_TParam nmA_len x.Params
      have p3 := flat_len nmV bk_TVar nmV_len x.Vars
      rw [← bks_TParam_eq] at p2
      rw [← bks_TVar_eq] at p3
      have p4 := nmRs_len x.Inner
      have p5 := nmSs_len x.Body
      have l1 := bks_v9_len x.Marks_Before
      have l2 := bks_v9_len x.Marks_Trail
      have l3 := bks_v9_len x.End
      show B_tree_mapper_routine (FF hFam K) K (th, ()) x = _
      unfold B_tree_mapper_routine
      obtain ⟨K', rfl⟩ : ∃ K', K = K' + 4 := ⟨K - 4, by omega⟩
      rw [mmarks_ok (K' + 3) th x.sub_Marks (by show x.Marks_Before.length ≤ _; omega) (by show x.Marks_Trail.length ≤ _; omega)]
      simp only [Option.bind_some]
      rw [parts_ok (K' + 3) th x.Name (roomT_le hr (by omega)) (by omega)]
      simp only [Option.bind_some]
      rw [each_Param_ok K' _ x.Params (roomT_nxt (roomT_le hr (by omega))) (by omega) (by omega)]
      simp only [Option.bind_some]
      rw [each_Var_ok K' _ x.Vars (roomT_nxt (roomT_nxt (roomT_le hr (by omega)))) (by omega) (by omega)]
      simp only [Option.bind_some]
      rw [ih.2 _ x.Inner (roomT_nxt (roomT_nxt (roomT_nxt (roomT_le hr (by omega))))) (by omega) (by omega)]
      simp only [Option.bind_some]
      rw [(mstmt_ok (K' + 4)).2 _ x.Body (roomT_nxt (roomT_nxt (roomT_nxt (roomT_nxt (roomT_le hr (by omega)))))) (by omega) (by omega)]
      simp only [Option.bind_some]
      rw [clone_ok _ x.End (by omega)]
      simp only [Option.bind_some, outT_nxt', ← nxtT_app]
      cases x
      simp only [mapR, nmR, TRoutine.sub_Marks, List.append_assoc]
    · have hlen := bks_Routine_len l
      show B_tree_each_Routine (FF hFam K) K l (th, ()) = _
      unfold B_tree_each_Routine
      rw [L_each_Routine]
      have := eachG_ok dd_TRoutine 192 (by decide) (fun th x => (FF hFam K).f_tree_mapper_routine ((th, ()), x, ())) (outT th) (mapR (outT th)) nmR bk_TRoutine nmR_len l (by omega) (fun i hi th' ho hr' => by
        have := bks_Routine_mem l i hi
        rw [← ho]
        exact ih.1 th' l[i] hr' (by omega) (by omega)) K 0 (Nat.zero_le _) (by omega) [] th rfl (by rw [List.drop_zero, ← bks_TRoutine_eq]; exact hr) (Nat.le_refl _)
      simp only [Int.ofNat_zero, List.drop_zero, List.nil_append] at this
      rw [mapRs_eq, nmRs_eq]
      exact this
def nmP' (p : TProgram) : List ByteArray := pts p.Name ++ (p.Recs.flatMap nmC ++ (p.Vars.flatMap nmV ++ (nmRs p.Routines ++ nmSs p.Body)))
def mapP (o : ByteArray → ByteArray) (p : TProgram) : TProgram := ⟨mapN o p.Name, p.Before, p.Mid, p.After, p.Recs.map (mapC o), p.Vars.map (mapV o), mapRs o p.Routines, mapSs o p.Body, p.End⟩
theorem mprog_ok (k : Nat) (th : Thing) (p : TProgram) (hr : roomT th (bk_TProgram p)) (hb : bk_TProgram p ≤ 8388608) (hk : 3 * bk_TProgram p + 30 ≤ k) : (FF hFam (k + 8)).f_tree_mapper_program ((th, ()), p, ()) = some (mapP (outT th) p, nxtT th (nmP' p), ()) := by
  have hn := bk_ProgramN p
  have p1 := pts_len p.Name
  have p2 := flat_len nmC bk_TRec nmC_len p.Recs
  have p3 := flat_len nmV bk_TVar nmV_len p.Vars
  rw [← bks_TRec_eq] at p2
  rw [← bks_TVar_eq] at p3
  have p4 := nmRs_len p.Routines
  have p5 := nmSs_len p.Body
  have l1 := bks_v9_len p.Before
  have l2 := bks_v9_len p.Mid
  have l3 := bks_v9_len p.After
  have l4 := bks_v9_len p.End
  show B_tree_mapper_program (FF hFam (k + 7)) (k + 7) (th, ()) p = _
  unfold B_tree_mapper_program
  rw [parts_ok (k + 6) th p.Name (roomT_le hr (by omega)) (by omega)]
  simp only [Option.bind_some]
  rw [clone_ok _ p.Before (by omega), clone_ok _ p.Mid (by omega), clone_ok _ p.After (by omega), clone_ok _ p.End (by omega)]
  simp only [Option.bind_some]
  rw [each_Rec_ok k _ p.Recs (roomT_nxt (roomT_le hr (by omega))) (by omega) (by omega)]
  simp only [Option.bind_some]
  rw [each_Var_ok (k + 3) _ p.Vars (roomT_nxt (roomT_nxt (roomT_le hr (by omega)))) (by omega) (by omega)]
  simp only [Option.bind_some]
  rw [(mroutine_ok (k + 7)).2 _ p.Routines (roomT_nxt (roomT_nxt (roomT_nxt (roomT_le hr (by omega))))) (by omega) (by omega)]
  simp only [Option.bind_some]
  rw [(mstmt_ok (k + 7)).2 _ p.Body (roomT_nxt (roomT_nxt (roomT_nxt (roomT_nxt (roomT_le hr (by omega)))))) (by omega) (by omega)]
  simp only [Option.bind_some, outT_nxt', ← nxtT_app, List.append_assoc]
  rfl
theorem tree_Names_ok (k : Nat) (p : TProgram) (hb : bk_TProgram p ≤ 8388608) (hk : 3 * bk_TProgram p + 30 ≤ k) : (FF hFam (k + 9)).f_tree_Names (p, ()) = some ((nmP' p).foldl addN []) := by
  show B_tree_Names (FF hFam (k + 8)) (k + 8) p = _
  unfold B_tree_Names
  rw [mprog_ok k (.names []) p (by show 0 + _ ≤ _; omega) hb hk]
  rfl
end Go.Ev
end
section
open Go
namespace Go.Ev
open Go.Proofs.YtlepjafokfhnfaaGreatDoor
set_option maxRecDepth 100000
set_option maxHeartbeats 4000000
set_option linter.unusedVariables false
set_option linter.unusedSimpArgs false
mutual
def pE : TExpr → List ByteArray
  | ⟨_, _, nm, f, l⟩ => cutP nm ++ cutP f ++ pEs l
def pEs : List TExpr → List ByteArray
  | [] => []
  | x :: r => pE x ++ pEs r
end
mutual
theorem pE_len : ∀ e : TExpr, (pE e).length ≤ bk_TExpr e
  | ⟨_, _, nm, f, l⟩ => by
    have h1 := cutP_len nm
    have h2 := cutP_len f
    have h3 := pEs_len l
    simp only [pE, bk_TExpr, List.length_append]
    omega
theorem pEs_len : ∀ l : List TExpr, (pEs l).length ≤ bks_TExpr l
  | [] => by simp [pEs]
  | x :: r => by
    have h1 := pE_len x
    have h2 := pEs_len r
    simp only [pEs, bks_TExpr, List.length_append]
    omega
end
theorem someP_app (a b : List ByteArray) : someP (a ++ b) = someP a ++ someP b := by simp [someP]
mutual
theorem pE_nm : ∀ e : TExpr, someP (pE e) = nmE e
  | ⟨_, _, nm, f, l⟩ => by simp only [pE, nmE, someP_app, pEs_nm l, pts, List.append_assoc]
theorem pEs_nm : ∀ l : List TExpr, someP (pEs l) = nmEs l
  | [] => rfl
  | x :: r => by simp only [pEs, nmEs, someP_app, pE_nm x, pEs_nm r]
end
theorem bks_drop (l : List TExpr) (i : Nat) (hi : i < l.length) : bks_TExpr (l.drop i) = bk_TExpr l[i] + bks_TExpr (l.drop (i + 1)) := by rw [List.drop_eq_getElem_cons hi, bks_TExpr]
theorem rE_ok : ∀ K e, bk_TExpr e ≤ 8388608 → 2 * bk_TExpr e + 10 ≤ K → (FF hFam K).f_r07_ExprNames (e, ()) = some (pE e)
  | 0, e, hb, hk => by omega
  | K + 1, e, hb, hk => by
    have hn := bk_name e
    have p1 := cutP_len e.Name
    have p2 := cutP_len e.Field
    have hl := bks_Expr_len e.L
    show B_r07_ExprNames (FF hFam K) K e = _
    unfold B_r07_ExprNames
    obtain ⟨K', rfl⟩ : ∃ K', K = K' + 1 := ⟨K - 1, by omega⟩
    have hbk : bk_TExpr e = e.Name.size + e.Field.size + bks_TExpr e.L + 6 := by cases e; simp only [bk_TExpr]; omega
    rw [Parts_ok K' e.Name (by omega) (by omega), Parts_ok K' e.Field (by omega) (by omega)]
    simp only [Option.bind_some]
    rw [if_pos (by simp only [List.length_append]; omega)]
    have key : ∀ j i, i ≤ e.L.length → e.L.length - i < j → ∀ out : List ByteArray, out.length + bks_TExpr (e.L.drop i) ≤ 1099511627776 → Lr07_ExprNames_3 (FF hFam (K' + 1)) (K' + 1) e j (i : Int) e.Op e.N e.Name e.Field e.L out = some (out ++ pEs (e.L.drop i)) := by
      refine up_ind e.L.length (fun j out _ => ?_) (fun j i hi ih out ho => ?_)
      · simp only [Lr07_ExprNames_3]
        rw [if_neg (by simp), List.drop_length]
        simp [pEs]
      · have hbi := bks_Expr_mem e.L i hi
        have hd := bks_drop e.L i hi
        have hp := pE_len e.L[i]
        simp only [Lr07_ExprNames_3]
        rw [if_pos (lt_dec hi), if_pos (by omega), if_pos (by omega), getD_at e.L i _ hi, TExpr.re_eq, rE_ok (K' + 1) e.L[i] (by omega) (by omega), Option.bind_some, wrap_succ hi (by simp only [maxLen]; omega),
          if_pos (by simp only [List.length_append]; omega), ih (out ++ pE e.L[i]) (by simp only [List.length_append]; omega), List.drop_eq_getElem_cons hi]
        simp only [pEs, List.append_assoc]
    have := key (K' + 1) 0 (Nat.zero_le _) (by omega) (cutP e.Name ++ cutP e.Field) (by simp only [List.drop_zero, List.length_append]; omega)
    simp only [Int.ofNat_zero, List.drop_zero] at this
    rw [this]
    cases e
    simp only [pE]
def pV (v : TVar) : List ByteArray := cutP v.Name ++ cutP v.T_Name
theorem pV_len (v : TVar) : (pV v).length ≤ bk_TVar v := by
  have h1 := cutP_len v.Name
  have h2 := cutP_len v.T_Name
  have := bk_VarN v
  simp only [pV, List.length_append]
  omega
theorem pV_nm (v : TVar) : someP (pV v) = nmV v := by simp only [pV, nmV, someP_app, pts]
theorem flat_nm {α : Type} (p q : α → List ByteArray) (h : ∀ x, someP (p x) = q x) : ∀ l : List α, someP (l.flatMap p) = l.flatMap q
  | [] => rfl
  | x :: r => by simp only [List.flatMap_cons, someP_app, h, flat_nm p q h r]
theorem rV_ok (k : Nat) (l : List TVar) (hb : bks_TVar l ≤ 8388608) (hk : bks_TVar l + 10 ≤ k) : (FF hFam (k + 2)).f_r07_varNames (l, ()) = some (l.flatMap pV) := by
  have hlen := bks_Var_len l
  show B_r07_varNames (FF hFam (k + 1)) (k + 1) l = _
  unfold B_r07_varNames
  have key : ∀ j i, i ≤ l.length → l.length - i < j → ∀ out : List ByteArray, out.length + bks_TVar (l.drop i) ≤ 1099511627776 → Lr07_varNames_3 (FF hFam (k + 1)) (k + 1) l j l (i : Int) out = some (out ++ (l.drop i).flatMap pV) := by
    refine up_ind l.length (fun j out _ => ?_) (fun j i hi ih out ho => ?_)
    · simp only [Lr07_varNames_3]
      rw [if_neg (by simp), List.drop_length]
      simp
    · have hbi := bks_Var_mem l i hi
      have hv := bk_VarN l[i]
      have hd : bks_TVar (l.drop i) = bk_TVar l[i] + bks_TVar (l.drop (i + 1)) := by rw [List.drop_eq_getElem_cons hi, bks_TVar]
      have p1 := cutP_len l[i].Name
      have p2 := cutP_len l[i].T_Name
      simp only [Lr07_varNames_3]
      rw [if_pos (lt_dec hi), if_pos (by omega), if_pos (by omega), getD_at l i _ hi, Parts_ok k l[i].Name (by omega) (by omega), Option.bind_some, if_pos (by simp only [List.length_append]; omega), if_pos (by omega), if_pos (by omega),
        Parts_ok k l[i].T_Name (by omega) (by omega), Option.bind_some, if_pos (by simp only [List.length_append]; omega), wrap_succ hi (by simp only [maxLen]; omega), ih _ (by simp only [List.length_append]; omega), List.drop_eq_getElem_cons hi]
      simp only [List.flatMap_cons, pV, List.append_assoc]
  have := key (k + 1) 0 (Nat.zero_le _) (by omega) [] (by simp only [List.drop_zero, List.length_nil]; omega)
  simp only [Int.ofNat_zero, List.drop_zero, List.nil_append] at this
  exact this
mutual
def pS : TStmt → List ByteArray
  | ⟨_, _, _, nm, po, pn, pnm, pf, pl, E, _, _, body, els, _, _⟩ => cutP nm ++ pE ⟨po, pn, pnm, pf, pl⟩ ++ pEs E ++ pSs body ++ pSs els
def pSs : List TStmt → List ByteArray
  | [] => []
  | x :: r => pS x ++ pSs r
end
mutual
theorem pS_len : ∀ x : TStmt, (pS x).length ≤ bk_TStmt x
  | ⟨_, _, _, nm, po, pn, pnm, pf, pl, E, _, _, body, els, _, _⟩ => by
    have h1 := cutP_len nm
    have h2 := cutP_len pnm
    have h2' := cutP_len pf
    have h2'' := pEs_len pl
    have h3 := pEs_len E
    have h4 := pSs_len body
    have h5 := pSs_len els
    simp only [pS, pE, bk_TStmt, List.length_append]
    omega
theorem pSs_len : ∀ l : List TStmt, (pSs l).length ≤ bks_TStmt l
  | [] => by simp [pSs]
  | x :: r => by
    have h1 := pS_len x
    have h2 := pSs_len r
    simp only [pSs, bks_TStmt, List.length_append]
    omega
end
mutual
theorem pS_nm : ∀ x : TStmt, someP (pS x) = nmS x
  | ⟨_, _, _, nm, po, pn, pnm, pf, pl, E, _, _, body, els, _, _⟩ => by simp only [pS, nmS, someP_app, pE_nm, pEs_nm, pSs_nm body, pSs_nm els, pts, List.append_assoc]
theorem pSs_nm : ∀ l : List TStmt, someP (pSs l) = nmSs l
  | [] => rfl
  | x :: r => by simp only [pSs, nmSs, someP_app, pS_nm x, pSs_nm r]
end
theorem pS_eq (x : TStmt) : pS x = cutP x.Name ++ pE x.sub_P ++ pEs x.E ++ pSs x.Body ++ pSs x.Else := by cases x; simp only [pS, TStmt.sub_P]
theorem rS_ok : ∀ K l, bks_TStmt l ≤ 8388608 → 2 * bks_TStmt l + 20 ≤ K → (FF hFam K).f_r07_stmtNames (l, ()) = some (pSs l)
  | 0, l, hb, hk => by omega
  | K + 1, l, hb, hk => by
    have hlen := bks_Stmt_len l
    show B_r07_stmtNames (FF hFam K) K l = _
    unfold B_r07_stmtNames
    obtain ⟨K', rfl⟩ : ∃ K', K = K' + 1 := ⟨K - 1, by omega⟩
    have key : ∀ j i, i ≤ l.length → l.length - i < j → ∀ out : List ByteArray, out.length + bks_TStmt (l.drop i) ≤ 1099511627776 → Lr07_stmtNames_3 (FF hFam (K' + 1)) (K' + 1) l j l (i : Int) out = some (out ++ pSs (l.drop i)) := by
      refine up_ind l.length (fun j out _ => ?_) (fun j i hi ih out ho => ?_)
      · simp only [Lr07_stmtNames_3]
        rw [if_neg (by simp), List.drop_length]
        simp [pSs]
      · have hbi := bks_Stmt_mem l i hi
        have hv := bk_StmtN l[i]
        have hd : bks_TStmt (l.drop i) = bk_TStmt l[i] + bks_TStmt (l.drop (i + 1)) := by rw [List.drop_eq_getElem_cons hi, bks_TStmt]
        have p1 := cutP_len l[i].Name
        have p2 := pE_len l[i].sub_P
        have p4 := pSs_len l[i].Body
        have p5 := pSs_len l[i].Else
        have hEl := bks_Expr_len l[i].E
        -- the expressions, and what stands in the statement
        have inner : ∀ j' m, m ≤ l[i].E.length → l[i].E.length - m < j' → ∀ out' : List ByteArray, out'.length + bks_TExpr (l[i].E.drop m) + bks_TStmt l[i].Body + bks_TStmt l[i].Else + bks_TStmt (l.drop (i + 1)) ≤ 1099511627776 →
            Lr07_stmtNames_8 (FF hFam (K' + 1)) (K' + 1) l (Lr07_stmtNames_3 (FF hFam (K' + 1)) (K' + 1) l j) j' l (i : Int) (m : Int) out' = some (out' ++ pEs (l[i].E.drop m) ++ pSs l[i].Body ++ pSs l[i].Else ++ pSs (l.drop (i + 1))) := by
          refine up_ind l[i].E.length (fun j' out' ho' => ?_) (fun j' m hm ihm out' ho' => ?_)
          · simp only [Lr07_stmtNames_8, getD_at l i _ hi]
            rw [List.drop_length] at ho' ⊢
            simp only [bks_TExpr] at ho'
            have hlf : decide ((l[i].E.length : Int) < (l[i].E.length : Int)) = false := by simp
            rw [if_pos (by omega), if_pos (by omega), if_neg (by rw [hlf]; simp), if_pos (by omega), if_pos (by omega), rS_ok (K' + 1) l[i].Body (by omega) (by omega), Option.bind_some, if_pos (by simp only [List.length_append]; omega), if_pos (by omega), if_pos (by omega),
              rS_ok (K' + 1) l[i].Else (by omega) (by omega), Option.bind_some, if_pos (by simp only [List.length_append]; omega), wrap_succ hi (by simp only [maxLen]; omega), ih _ (by simp only [List.length_append]; omega)]
            simp only [pEs, List.append_nil, List.append_assoc]
          · have hbm := bks_Expr_mem l[i].E m hm
            have hdm := bks_drop l[i].E m hm
            have hpm := pE_len l[i].E[m]
            simp only [Lr07_stmtNames_8, getD_at l i _ hi]
            rw [if_pos (by omega), if_pos (by omega), if_pos (lt_dec hm), if_pos (by omega), if_pos (by omega), if_pos (by omega), if_pos (by omega), getD_at l[i].E m _ hm, TExpr.re_eq, rE_ok (K' + 1) l[i].E[m] (by omega) (by omega), Option.bind_some,
              if_pos (by simp only [List.length_append]; omega), wrap_succ hm (by simp only [maxLen]; omega), ihm _ (by simp only [List.length_append]; omega), List.drop_eq_getElem_cons hm]
            simp only [pEs, List.append_assoc]
        simp only [Lr07_stmtNames_3]
        rw [if_pos (lt_dec hi), if_pos (by omega), if_pos (by omega), getD_at l i _ hi, Parts_ok K' l[i].Name (by omega) (by omega), Option.bind_some, if_pos (by simp only [List.length_append]; omega), if_pos (by omega), if_pos (by omega),
          rE_ok (K' + 1) l[i].sub_P (by omega) (by omega), Option.bind_some, if_pos (by simp only [List.length_append]; omega)]
        have hin := inner (K' + 1) 0 (Nat.zero_le _) (by omega) (out ++ cutP l[i].Name ++ pE l[i].sub_P) (by simp only [List.drop_zero, List.length_append]; omega)
        simp only [Int.ofNat_zero, List.drop_zero] at hin
        rw [hin, List.drop_eq_getElem_cons hi]
        simp only [pSs, pS_eq, List.append_assoc]
    have := key (K' + 1) 0 (Nat.zero_le _) (by omega) [] (by simp only [List.drop_zero, List.length_nil]; omega)
    simp only [Int.ofNat_zero, List.drop_zero, List.nil_append] at this
    exact this
end Go.Ev
end
section
open Go
namespace Go.Ev
open Go.Proofs.YtlepjafokfhnfaaGreatDoor
set_option maxRecDepth 100000
set_option maxHeartbeats 4000000
set_option linter.unusedVariables false
set_option linter.unusedSimpArgs false
def pA (p : TParam) : List ByteArray := cutP p.Name ++ cutP p.T_Name
theorem pA_nm (p : TParam) : someP (pA p) = nmA p := by simp only [pA, nmA, someP_app, pts]
theorem pA_len (p : TParam) : (pA p).length ≤ bk_TParam p := by
  have h1 := cutP_len p.Name
  have h2 := cutP_len p.T_Name
  have := bk_ParamN p
  simp only [pA, List.length_append]
  omega
mutual
def pR : TRoutine → List ByteArray
  | ⟨_, _, nm, _, ps, vs, inner, body, _⟩ => cutP nm ++ ps.flatMap pA ++ vs.flatMap pV ++ pRs inner ++ pSs body
def pRs : List TRoutine → List ByteArray
  | [] => []
  | x :: r => pR x ++ pRs r
end
mutual
theorem pR_len : ∀ x : TRoutine, (pR x).length ≤ bk_TRoutine x
  | ⟨_, _, nm, _, ps, vs, inner, body, _⟩ => by
    have h1 := cutP_len nm
    have h2 := flat_len pA bk_TParam pA_len ps
    have h3 := flat_len pV bk_TVar pV_len vs
    rw [← bks_TParam_eq] at h2
    rw [← bks_TVar_eq] at h3
    have h4 := pRs_len inner
    have h5 := pSs_len body
    simp only [pR, bk_TRoutine, List.length_append]
    omega
theorem pRs_len : ∀ l : List TRoutine, (pRs l).length ≤ bks_TRoutine l
  | [] => by simp [pRs]
  | x :: r => by
    have h1 := pR_len x
    have h2 := pRs_len r
    simp only [pRs, bks_TRoutine, List.length_append]
    omega
end
mutual
theorem pR_nm : ∀ x : TRoutine, someP (pR x) = nmR x
  | ⟨_, _, nm, _, ps, vs, inner, body, _⟩ => by simp only [pR, nmR, someP_app, flat_nm pA nmA pA_nm, flat_nm pV nmV pV_nm, pRs_nm inner, pSs_nm, pts, List.append_assoc]
theorem pRs_nm : ∀ l : List TRoutine, someP (pRs l) = nmRs l
  | [] => rfl
  | x :: r => by simp only [pRs, nmRs, someP_app, pR_nm x, pRs_nm r]
end
theorem pR_eq (x : TRoutine) : pR x = cutP x.Name ++ x.Params.flatMap pA ++ x.Vars.flatMap pV ++ pRs x.Inner ++ pSs x.Body := by cases x; simp only [pR]
theorem rR_ok : ∀ K l, bks_TRoutine l ≤ 8388608 → 2 * bks_TRoutine l + 30 ≤ K → (FF hFam K).f_r07_routineNames (l, ()) = some (pRs l)
  | 0, l, hb, hk => by omega
  | K + 1, l, hb, hk => by
    have hlen := bks_Routine_len l
    show B_r07_routineNames (FF hFam K) K l = _
    unfold B_r07_routineNames
    obtain ⟨K', rfl⟩ : ∃ K', K = K' + 2 := ⟨K - 2, by omega⟩
    have key : ∀ j i, i ≤ l.length → l.length - i < j → ∀ out : List ByteArray, out.length + bks_TRoutine (l.drop i) ≤ 1099511627776 → Lr07_routineNames_3 (FF hFam (K' + 2)) (K' + 2) l j l (i : Int) out = some (out ++ pRs (l.drop i)) := by
      refine up_ind l.length (fun j out _ => ?_) (fun j i hi ih out ho => ?_)
      · simp only [Lr07_routineNames_3]
        rw [if_neg (by simp), List.drop_length]
        simp [pRs]
      · have hbi := bks_Routine_mem l i hi
        have hv := bk_RoutineN l[i]
        have hd : bks_TRoutine (l.drop i) = bk_TRoutine l[i] + bks_TRoutine (l.drop (i + 1)) := by rw [List.drop_eq_getElem_cons hi, bks_TRoutine]
        have p1 := cutP_len l[i].Name
        have p3 := flat_len pV bk_TVar pV_len l[i].Vars
        rw [← bks_TVar_eq] at p3
        have p4 := pRs_len l[i].Inner
        have p5 := pSs_len l[i].Body
        have hPl := bks_Param_len l[i].Params
        have inner : ∀ j' m, m ≤ l[i].Params.length → l[i].Params.length - m < j' → ∀ out' : List ByteArray, out'.length + bks_TParam (l[i].Params.drop m) + bks_TVar l[i].Vars + bks_TRoutine l[i].Inner + bks_TStmt l[i].Body + bks_TRoutine (l.drop (i + 1)) ≤ 1099511627776 →
            ∀ (mb mt e : List ByteArray) (nm : ByteArray) (res : Int), Lr07_routineNames_8 (FF hFam (K' + 2)) (K' + 2) l (Lr07_routineNames_3 (FF hFam (K' + 2)) (K' + 2) l j) j' l (i : Int) (m : Int) mb mt nm res l[i].Params l[i].Vars l[i].Inner l[i].Body e out' =
              some (out' ++ (l[i].Params.drop m).flatMap pA ++ l[i].Vars.flatMap pV ++ pRs l[i].Inner ++ pSs l[i].Body ++ pRs (l.drop (i + 1))) := by
          refine up_ind l[i].Params.length (fun j' out' ho' mb mt e nm res => ?_) (fun j' m hm ihm out' ho' mb mt e nm res => ?_)
          · simp only [Lr07_routineNames_8]
            rw [List.drop_length] at ho' ⊢
            simp only [bks_TParam] at ho'
            rw [if_neg (by simp), rV_ok K' l[i].Vars (by omega) (by omega), Option.bind_some, if_pos (by simp only [List.length_append]; omega), rR_ok (K' + 2) l[i].Inner (by omega) (by omega), Option.bind_some, if_pos (by simp only [List.length_append]; omega),
              rS_ok (K' + 2) l[i].Body (by omega) (by omega), Option.bind_some, if_pos (by simp only [List.length_append]; omega), wrap_succ hi (by simp only [maxLen]; omega), ih _ (by simp only [List.length_append]; omega)]
            simp only [List.flatMap_nil, List.append_nil, List.append_assoc]
          · have hbm := bks_Param_mem' l[i].Params m hm
            have hvm := bk_ParamN l[i].Params[m]
            have hdm : bks_TParam (l[i].Params.drop m) = bk_TParam l[i].Params[m] + bks_TParam (l[i].Params.drop (m + 1)) := by rw [List.drop_eq_getElem_cons hm, bks_TParam]
            have q1 := cutP_len l[i].Params[m].Name
            have q2 := cutP_len l[i].Params[m].T_Name
            simp only [Lr07_routineNames_8]
            rw [if_pos (lt_dec hm), if_pos (by omega), if_pos (by omega), getD_at l[i].Params m _ hm, Parts_ok (K' + 1) l[i].Params[m].Name (by omega) (by omega), Option.bind_some, if_pos (by simp only [List.length_append]; omega), if_pos (by omega), if_pos (by omega),
              Parts_ok (K' + 1) l[i].Params[m].T_Name (by omega) (by omega), Option.bind_some, if_pos (by simp only [List.length_append]; omega), wrap_succ hm (by simp only [maxLen]; omega), ihm _ (by simp only [List.length_append]; omega), List.drop_eq_getElem_cons hm]
            simp only [List.flatMap_cons, pA, List.append_assoc]
        simp only [Lr07_routineNames_3]
        have hin := inner (K' + 2) 0 (Nat.zero_le _) (by omega) (out ++ cutP l[i].Name) (by simp only [List.drop_zero, List.length_append]; omega) l[i].Marks_Before l[i].Marks_Trail l[i].End l[i].Name l[i].Result
        simp only [Int.ofNat_zero, List.drop_zero] at hin
        rw [if_pos (lt_dec hi), if_pos (by omega), if_pos (by omega), getD_at l i _ hi, Parts_ok (K' + 1) l[i].Name (by omega) (by omega), Option.bind_some, if_pos (by simp only [List.length_append]; omega), hin, List.drop_eq_getElem_cons hi]
        simp only [pRs, pR_eq, List.append_assoc]
    have := key (K' + 2) 0 (Nat.zero_le _) (by omega) [] (by simp only [List.drop_zero, List.length_nil]; omega)
    simp only [Int.ofNat_zero, List.drop_zero, List.nil_append] at this
    exact this
def pF (f : TField) : List ByteArray := cutP f.Name
def pC (r : TRec) : List ByteArray := cutP r.Name ++ r.Fields.flatMap pF
theorem pC_len (r : TRec) : (pC r).length ≤ bk_TRec r := by
  have h1 := cutP_len r.Name
  have h2 := flat_len pF bk_TField (fun f => by have := cutP_len f.Name; have := bk_FieldN f; simp only [pF]; omega) r.Fields
  rw [← bks_TField_eq] at h2
  have := bk_RecN r
  simp only [pC, List.length_append]
  omega
theorem pC_nm (r : TRec) : someP (pC r) = nmC r := by simp only [pC, nmC, someP_app, pts, flat_nm pF nmF (fun _ => rfl)]
def pP (p : TProgram) : List ByteArray := cutP p.Name ++ p.Recs.flatMap pC ++ p.Vars.flatMap pV ++ pRs p.Routines ++ pSs p.Body
theorem pP_nm (p : TProgram) : someP (pP p) = nmP' p := by simp only [pP, nmP', someP_app, pts, flat_nm pC nmC pC_nm, flat_nm pV nmV pV_nm, pRs_nm, pSs_nm, List.append_assoc]
theorem pP_len (p : TProgram) : (pP p).length ≤ bk_TProgram p := by
  have h1 := cutP_len p.Name
  have h2 := flat_len pC bk_TRec pC_len p.Recs
  have h3 := flat_len pV bk_TVar pV_len p.Vars
  rw [← bks_TRec_eq] at h2
  rw [← bks_TVar_eq] at h3
  have h4 := pRs_len p.Routines
  have h5 := pSs_len p.Body
  have := bk_ProgramN p
  simp only [pP, List.length_append]
  omega
theorem mem_any (l : List ByteArray) (x : ByteArray) : Wd.mem l x = l.any fun z => z.toList == x.toList := by
  unfold Wd.mem
  congr 1
  funext z
  rw [ba_beq]
theorem dedup_loop (K : Nat) (x0 : TProgram) (r3 : Int → ByteArray → List ByteArray → List ByteArray → List ByteArray → List TRec → List TVar → List TRoutine → List TStmt → List ByteArray → List ByteArray → Option (List ByteArray)) (l : List ByteArray) (hl : l.length ≤ 8388608) (hk : 8388700 + l.length ≤ K) :
    ∀ j i, i ≤ l.length → l.length - i < j → ∀ out : List ByteArray, out.length ≤ i → Lr07_Names_15 (FF hFam (K + 1)) (K + 1) x0 r3 j (i : Int) l out = some ((someP (l.drop i)).foldl addN out) := by
  refine up_ind l.length (fun j out _ => ?_) (fun j i hi ih out ho => ?_)
  · simp only [Lr07_Names_15]
    rw [if_neg (by simp), List.drop_length]
    rfl
  · have hd := List.drop_eq_getElem_cons hi
    simp only [Lr07_Names_15]
    rw [if_pos (lt_dec hi), if_pos (by omega), if_pos (by omega), getD_at l i _ hi, wrap_succ hi (by simp only [maxLen]; omega), hd, eps_size]
    by_cases hz : l[i].size = 0
    · rw [if_neg (by simp [hz]), ih out (by omega)]
      unfold someP
      rw [List.filter_cons_of_neg (by simp [hz])]
    · rw [if_pos (by simp [hz]), if_pos (by omega), if_pos (by omega), Among_ok K out l[i] (by omega) (by simp only [maxLen]; omega), Option.bind_some, mem_any]
      have hs : someP (l[i] :: l.drop (i + 1)) = l[i] :: someP (l.drop (i + 1)) := by unfold someP; rw [List.filter_cons_of_pos (by simp [hz])]
      rw [hs, List.foldl_cons]
      unfold addN
      cases hany : out.any fun z => z.toList == l[i].toList with
      | true =>
        rw [if_neg (by simp), if_pos rfl]
        exact ih out (by omega)
      | false =>
        rw [if_pos (by simp), if_pos (by omega), if_pos (by omega), if_pos (by simp only [List.length_append, List.length_singleton]; omega), if_neg (by simp)]
        exact ih _ (by simp only [List.length_append, List.length_singleton]; omega)
theorem r07_Names_ok (k : Nat) (p : TProgram) (hb : bk_TProgram p ≤ 8388608) (hk : 3 * bk_TProgram p + 17000000 ≤ k) : (FF hFam (k + 4)).f_r07_Names (p, ()) = some ((nmP' p).foldl addN []) := by
  have hv := bk_ProgramN p
  have hlen := bks_Rec_len p.Recs
  have hpl := pP_len p
  show B_r07_Names (FF hFam (k + 3)) (k + 3) p = _
  unfold B_r07_Names
  have q1 := cutP_len p.Name
  have q3 := flat_len pV bk_TVar pV_len p.Vars
  rw [← bks_TVar_eq] at q3
  have q4 := pRs_len p.Routines
  have q5 := pSs_len p.Body
  rw [Parts_ok (k + 2) p.Name (by omega) (by omega), Option.bind_some]
  have key : ∀ j i, i ≤ p.Recs.length → p.Recs.length - i < j → ∀ out : List ByteArray, out.length + bks_TRec (p.Recs.drop i) ≤ 8388608 → (out ++ (p.Recs.drop i).flatMap pC ++ p.Vars.flatMap pV ++ pRs p.Routines ++ pSs p.Body).length ≤ 8388608 →
      Lr07_Names_3 (FF hFam (k + 3)) (k + 3) p j (i : Int) p.Name p.Before p.Mid p.After p.Recs p.Vars p.Routines p.Body p.End out = some ((someP (out ++ (p.Recs.drop i).flatMap pC ++ p.Vars.flatMap pV ++ pRs p.Routines ++ pSs p.Body)).foldl addN []) := by
    refine up_ind p.Recs.length (fun j out ho hall => ?_) (fun j i hi ih out ho hall => ?_)
    · rw [List.drop_length] at hall ⊢
      simp only [List.flatMap_nil, List.append_nil] at hall ⊢
      simp only [Lr07_Names_3]
      simp only [List.length_append] at hall
      have hdl := dedup_loop (k + 2) p (Lr07_Names_3 (FF hFam (k + 3)) (k + 3) p j) (out ++ p.Vars.flatMap pV ++ pRs p.Routines ++ pSs p.Body) (by simp only [List.length_append]; omega) (by simp only [List.length_append]; omega) (k + 3) 0 (Nat.zero_le _) (by simp only [List.length_append]; omega) [] (Nat.le_refl _)
      simp only [Int.ofNat_zero, List.drop_zero] at hdl
      rw [if_neg (by simp), rV_ok (k + 1) p.Vars (by omega) (by omega), Option.bind_some, if_pos (by simp only [List.length_append]; omega), rR_ok (k + 3) p.Routines (by omega) (by omega), Option.bind_some, if_pos (by simp only [List.length_append]; omega),
        rS_ok (k + 3) p.Body (by omega) (by omega), Option.bind_some, if_pos (by simp only [List.length_append]; omega), hdl]
    · have hbi := bks_Rec_mem p.Recs i hi
      have hvr := bk_RecN p.Recs[i]
      have hd : bks_TRec (p.Recs.drop i) = bk_TRec p.Recs[i] + bks_TRec (p.Recs.drop (i + 1)) := by rw [List.drop_eq_getElem_cons hi, bks_TRec]
      have r1 := cutP_len p.Recs[i].Name
      have hFl := bks_Field_len p.Recs[i].Fields
      have inner : ∀ j' m, m ≤ p.Recs[i].Fields.length → p.Recs[i].Fields.length - m < j' → ∀ out' : List ByteArray, out'.length + bks_TField (p.Recs[i].Fields.drop m) + bks_TRec (p.Recs.drop (i + 1)) ≤ 8388608 →
          (out' ++ (p.Recs[i].Fields.drop m).flatMap pF ++ (p.Recs.drop (i + 1)).flatMap pC ++ p.Vars.flatMap pV ++ pRs p.Routines ++ pSs p.Body).length ≤ 8388608 →
          Lr07_Names_7 (FF hFam (k + 3)) (k + 3) p (Lr07_Names_3 (FF hFam (k + 3)) (k + 3) p j) j' (i : Int) (m : Int) p.Name p.Before p.Mid p.After p.Recs p.Vars p.Routines p.Body p.End out' =
            some ((someP (out' ++ (p.Recs[i].Fields.drop m).flatMap pF ++ (p.Recs.drop (i + 1)).flatMap pC ++ p.Vars.flatMap pV ++ pRs p.Routines ++ pSs p.Body)).foldl addN []) := by
        refine up_ind p.Recs[i].Fields.length (fun j' out' ho' hall' => ?_) (fun j' m hm ihm out' ho' hall' => ?_)
        · rw [List.drop_length] at ho' hall' ⊢
          simp only [bks_TField, List.flatMap_nil, List.append_nil] at ho' hall' ⊢
          simp only [Lr07_Names_7, getD_at p.Recs i _ hi]
          have hlf : decide ((p.Recs[i].Fields.length : Int) < (p.Recs[i].Fields.length : Int)) = false := by simp
          rw [if_pos (by omega), if_pos (by omega), if_neg (by rw [hlf]; simp), wrap_succ hi (by simp only [maxLen]; omega), ih out' (by omega) hall']
        · have hbm := bks_Field_mem p.Recs[i].Fields m hm
          have hvm := bk_FieldN p.Recs[i].Fields[m]
          have hdm : bks_TField (p.Recs[i].Fields.drop m) = bk_TField p.Recs[i].Fields[m] + bks_TField (p.Recs[i].Fields.drop (m + 1)) := by rw [List.drop_eq_getElem_cons hm, bks_TField]
          have s1 := cutP_len p.Recs[i].Fields[m].Name
          have hsh : out' ++ (p.Recs[i].Fields.drop m).flatMap pF = (out' ++ cutP p.Recs[i].Fields[m].Name) ++ (p.Recs[i].Fields.drop (m + 1)).flatMap pF := by
            rw [List.drop_eq_getElem_cons hm]
            simp only [List.flatMap_cons, pF, List.append_assoc]
          rw [hsh] at hall' ⊢
          simp only [Lr07_Names_7, getD_at p.Recs i _ hi]
          rw [if_pos (by omega), if_pos (by omega), if_pos (lt_dec hm), if_pos (by omega), if_pos (by omega), if_pos (by omega), if_pos (by omega), getD_at p.Recs[i].Fields m _ hm, Parts_ok (k + 2) p.Recs[i].Fields[m].Name (by omega) (by omega), Option.bind_some,
            if_pos (by simp only [List.length_append]; omega), wrap_succ hm (by simp only [maxLen]; omega), ihm _ (by simp only [List.length_append]; omega) hall']
      have hsh : out ++ (p.Recs.drop i).flatMap pC = (out ++ cutP p.Recs[i].Name) ++ p.Recs[i].Fields.flatMap pF ++ (p.Recs.drop (i + 1)).flatMap pC := by
        rw [List.drop_eq_getElem_cons hi]
        simp only [List.flatMap_cons, pC, List.append_assoc]
      rw [hsh] at hall ⊢
      have hin := inner (k + 3) 0 (Nat.zero_le _) (by omega) (out ++ cutP p.Recs[i].Name) (by simp only [List.drop_zero, List.length_append]; omega) (by rw [List.drop_zero]; exact hall)
      simp only [Int.ofNat_zero, List.drop_zero] at hin
      simp only [Lr07_Names_3]
      rw [if_pos (lt_dec hi), if_pos (by omega), if_pos (by omega), getD_at p.Recs i _ hi, Parts_ok (k + 2) p.Recs[i].Name (by omega) (by omega), Option.bind_some, if_pos (by simp only [List.length_append]; omega), hin]
  have := key (k + 3) 0 (Nat.zero_le _) (by omega) (cutP p.Name) (by simp only [List.drop_zero]; omega) (by rw [List.drop_zero]; exact Nat.le_trans hpl hb)
  simp only [Int.ofNat_zero, List.drop_zero] at this
  rw [this]
  have hpp : cutP p.Name ++ p.Recs.flatMap pC ++ p.Vars.flatMap pV ++ pRs p.Routines ++ pSs p.Body = pP p := rfl
  rw [hpp, pP_nm]
end Go.Ev
end
section
open Go
namespace Go.Ev
open Go.Proofs.YtlepjafokfhnfaaGreatDoor
set_option maxRecDepth 100000
set_option maxHeartbeats 4000000
set_option linter.unusedVariables false
set_option linter.unusedSimpArgs false
def freeO (p : ByteArray) : Prop := ∀ c ∈ p.data.toList, c ≠ 36
def goodO (o : ByteArray → ByteArray) (p : ByteArray) : Prop := freeO (o p) ∧ (o p).size ≠ 0
theorem cut_join : ∀ ls : List (List UInt8), ls ≠ [] → (∀ l ∈ ls, ∀ c ∈ l, c ≠ 36) → cutL (Lib.join ls [36]) = ls
  | [], h, _ => absurd rfl h
  | [x], _, h => by rw [Lib.join_one]; exact cutL_free x (h x List.mem_cons_self)
  | x :: y :: r, _, h => by
    have ih := cut_join (y :: r) (by simp) fun l hl => h l (List.mem_cons_of_mem _ hl)
    unfold Lib.join at ih ⊢
    rw [List.intercalate_cons_cons, List.append_assoc, List.cons_append, List.nil_append, cutL_at x _ (h x List.mem_cons_self), ih]
theorem joinD_data (ps : List ByteArray) : (joinD ps).data.toList = Lib.join (ps.map (·.data.toList)) [36] := by
  unfold joinD
  have h36 : sep36.data.toList = [36] := rfl
  rw [h36]
theorem cutP_ne (s : ByteArray) : cutP s ≠ [] := by
  unfold cutP
  intro h
  exact cutL_ne _ (List.map_eq_nil_iff.1 h)
theorem cutP_joinD (ps : List ByteArray) (hne : ps ≠ []) (h : ∀ p ∈ ps, freeO p) : cutP (joinD ps) = ps := by
  unfold cutP
  rw [joinD_data, cut_join _ (by simpa using hne) (fun l hl => by
    obtain ⟨p, hp, rfl⟩ := List.mem_map.1 hl
    exact h p hp), List.map_map]
  have : (fun l : List UInt8 => (⟨l.toArray⟩ : ByteArray)) ∘ (fun p : ByteArray => p.data.toList) = id := by
    funext p
    apply ByteArray.ext
    simp
  rw [this, List.map_id]
theorem cutL_free_mem : ∀ (l : List UInt8), ∀ p ∈ cutL l, ∀ c ∈ p, c ≠ 36
  | [], p, h => by simp [cutL] at h; subst h; simp
  | c :: r, p, h => by
    have ih := cutL_free_mem r
    rw [cutL] at h
    split at h
    · rcases List.mem_cons.1 h with rfl | h
      · simp
      · exact ih p h
    · rename_i hc
      split at h
      · simp at h; subst h; simpa using hc
      · rename_i q t hq
        rcases List.mem_cons.1 h with rfl | h
        · intro d hd
          rcases List.mem_cons.1 hd with rfl | hd
          · exact hc
          · exact ih q (by rw [hq]; exact List.mem_cons_self) d hd
        · exact ih p (by rw [hq]; exact List.mem_cons_of_mem _ h)
theorem cutP_free (s p : ByteArray) (h : p ∈ cutP s) : freeO p := by
  unfold cutP at h
  obtain ⟨l, hl, rfl⟩ := List.mem_map.1 h
  intro c hc
  exact cutL_free_mem _ l hl c (by simpa using hc)
theorem size_zero {s : ByteArray} (h : s.size = 0) : s = ByteArray.empty := by
  apply ByteArray.ext
  exact Array.eq_empty_of_size_eq_zero h
theorem cutP_empty : cutP ByteArray.empty = [ByteArray.empty] := rfl
theorem mem_pts {s p : ByteArray} : p ∈ pts s ↔ p ∈ cutP s ∧ p.size ≠ 0 := by simp [pts, someP]
theorem mapN_join (o : ByteArray → ByteArray) (s : ByteArray) : mapN o s = joinD ((cutP s).map (mapPo o)) := by
  unfold mapN
  by_cases h : s.size = 0
  · rw [if_pos h, size_zero h, cutP_empty]
    have : mapPo o ByteArray.empty = ByteArray.empty := rfl
    rw [List.map_cons, this, List.map_nil]
    rfl
  · rw [if_neg h]
theorem cutP_mapN (o : ByteArray → ByteArray) (s : ByteArray) (h : ∀ p ∈ pts s, goodO o p) : cutP (mapN o s) = (cutP s).map (mapPo o) := by
  rw [mapN_join]
  refine cutP_joinD _ (by simpa using cutP_ne s) fun q hq => ?_
  obtain ⟨p, hp, rfl⟩ := List.mem_map.1 hq
  unfold mapPo
  split
  · exact cutP_free s p hp
  · rename_i hz
    exact (h p (mem_pts.2 ⟨hp, hz⟩)).1
theorem mapN_back (o o' : ByteArray → ByteArray) (s : ByteArray) (h : ∀ p ∈ pts s, goodO o p) (hb : ∀ p ∈ pts s, o' (o p) = p) : mapN o' (mapN o s) = s := by
  rw [mapN_join o', cutP_mapN o s h, List.map_map]
  have : (cutP s).map (mapPo o' ∘ mapPo o) = cutP s := by
    conv => rhs; rw [← List.map_id (cutP s)]
    refine List.map_congr_left fun p hp => ?_
    show mapPo o' (mapPo o p) = p
    by_cases hz : p.size = 0
    · unfold mapPo; rw [if_pos hz, if_pos hz]
    · have hm := mem_pts.2 ⟨hp, hz⟩
      have h1 : mapPo o p = o p := by unfold mapPo; rw [if_neg hz]
      rw [h1]
      unfold mapPo
      rw [if_neg (h p hm).2]
      exact hb p hm
  rw [this, joinD_cutP]
def growO (o : ByteArray → ByteArray) : Prop := ∀ p, (o p).size ≤ 5 * p.size
section
variable (o o' : ByteArray → ByteArray)
end
end Go.Ev
end
section
open Go
namespace Go.Ev
open Go.Proofs.YtlepjafokfhnfaaGreatDoor
set_option maxRecDepth 100000
set_option maxHeartbeats 4000000
set_option linter.unusedVariables false
set_option linter.unusedSimpArgs false
theorem pts_mem {s q : ByteArray} (h : q ∈ pts s) : q.size ≠ 0 ∧ q.size ≤ s.size := by
  obtain ⟨h1, h2⟩ := mem_pts.1 h
  exact ⟨h2, cutP_mem s q h1⟩
def okP (n : Nat) (q : ByteArray) : Prop := q.size ≠ 0 ∧ q.size ≤ n
theorem okP_mono {n m : Nat} {q : ByteArray} (h : okP n q) (hm : n ≤ m) : okP m q := ⟨h.1, Nat.le_trans h.2 hm⟩
theorem okP_pts {s q : ByteArray} {m : Nat} (h : q ∈ pts s) (hm : s.size ≤ m) : okP m q := okP_mono (pts_mem h) hm
theorem okP_list {α : Type} (nm : α → List ByteArray) (w : α → Nat) (h : ∀ x, ∀ q ∈ nm x, okP (w x) q) : ∀ l : List α, ∀ q ∈ l.flatMap nm, okP (l.map w).sum q
  | [], q, hq => by simp at hq
  | x :: r, q, hq => by
    simp only [List.flatMap_cons, List.mem_append] at hq
    simp only [List.map_cons, List.sum_cons]
    rcases hq with hq | hq
    · exact okP_mono (h x q hq) (by omega)
    · exact okP_mono (okP_list nm w h r q hq) (by omega)
mutual
theorem okP_E : ∀ e : TExpr, ∀ q ∈ nmE e, okP (bk_TExpr e) q
  | ⟨op, n, nm, f, l⟩, q, hq => by
    simp only [nmE, List.mem_append] at hq
    simp only [bk_TExpr]
    rcases hq with hq | hq | hq
    · exact okP_pts hq (by omega)
    · exact okP_pts hq (by omega)
    · exact okP_mono (okP_Es l q hq) (by omega)
theorem okP_Es : ∀ l : List TExpr, ∀ q ∈ nmEs l, okP (bks_TExpr l) q
  | [], q, hq => by simp [nmEs] at hq
  | x :: r, q, hq => by
    simp only [nmEs, List.mem_append] at hq
    simp only [bks_TExpr]
    rcases hq with hq | hq
    · exact okP_mono (okP_E x q hq) (by omega)
    · exact okP_mono (okP_Es r q hq) (by omega)
end
theorem okP_V (v : TVar) : ∀ q ∈ nmV v, okP (bk_TVar v) q := by
  obtain ⟨a1, a2, a3, a4, a5, a6⟩ := v
  intro q hq
  simp only [nmV, List.mem_append] at hq
  simp only [bk_TVar]
  rcases hq with hq | hq <;> exact okP_pts hq (by omega)
theorem okP_A (v : TParam) : ∀ q ∈ nmA v, okP (bk_TParam v) q := by
  obtain ⟨a1, a2, a3, a4, a5⟩ := v
  intro q hq
  simp only [nmA, List.mem_append] at hq
  simp only [bk_TParam]
  rcases hq with hq | hq <;> exact okP_pts hq (by omega)
theorem okP_F (v : TField) : ∀ q ∈ nmF v, okP (bk_TField v) q := by
  obtain ⟨a1, a2, a3, a4⟩ := v
  intro q hq
  simp only [nmF] at hq
  simp only [bk_TField]
  exact okP_pts hq (by omega)
theorem okP_C (v : TRec) : ∀ q ∈ nmC v, okP (bk_TRec v) q := by
  obtain ⟨a1, a2, a3, a4, a5⟩ := v
  intro q hq
  simp only [nmC, List.mem_append] at hq
  simp only [bk_TRec, bks_TField_eq]
  rcases hq with hq | hq
  · exact okP_pts hq (by omega)
  · exact okP_mono (okP_list nmF bk_TField okP_F a4 q hq) (by omega)
mutual
theorem okP_S : ∀ e : TStmt, ∀ q ∈ nmS e, okP (bk_TStmt e) q
  | ⟨mb, mt, op, nm, po, pn, pnm, pf, pl, E, down, more, body, els, e1, e2⟩, q, hq => by
    simp only [nmS, nmE, List.mem_append] at hq
    simp only [bk_TStmt]
    rcases hq with hq | (hq | hq | hq) | hq | hq | hq
    · exact okP_pts hq (by omega)
    · exact okP_pts hq (by omega)
    · exact okP_pts hq (by omega)
    · exact okP_mono (okP_Es pl q hq) (by omega)
    · exact okP_mono (okP_Es E q hq) (by omega)
    · exact okP_mono (okP_Ss body q hq) (by omega)
    · exact okP_mono (okP_Ss els q hq) (by omega)
theorem okP_Ss : ∀ l : List TStmt, ∀ q ∈ nmSs l, okP (bks_TStmt l) q
  | [], q, hq => by simp [nmSs] at hq
  | x :: r, q, hq => by
    simp only [nmSs, List.mem_append] at hq
    simp only [bks_TStmt]
    rcases hq with hq | hq
    · exact okP_mono (okP_S x q hq) (by omega)
    · exact okP_mono (okP_Ss r q hq) (by omega)
end
mutual
theorem okP_R : ∀ e : TRoutine, ∀ q ∈ nmR e, okP (bk_TRoutine e) q
  | ⟨mb, mt, nm, res, ps, vs, inner, body, e⟩, q, hq => by
    simp only [nmR, List.mem_append] at hq
    simp only [bk_TRoutine, bks_TParam_eq, bks_TVar_eq]
    rcases hq with hq | hq | hq | hq | hq
    · exact okP_pts hq (by omega)
    · exact okP_mono (okP_list nmA bk_TParam okP_A ps q hq) (by omega)
    · exact okP_mono (okP_list nmV bk_TVar okP_V vs q hq) (by omega)
    · exact okP_mono (okP_Rs inner q hq) (by omega)
    · exact okP_mono (okP_Ss body q hq) (by omega)
theorem okP_Rs : ∀ l : List TRoutine, ∀ q ∈ nmRs l, okP (bks_TRoutine l) q
  | [], q, hq => by simp [nmRs] at hq
  | x :: r, q, hq => by
    simp only [nmRs, List.mem_append] at hq
    simp only [bks_TRoutine]
    rcases hq with hq | hq
    · exact okP_mono (okP_R x q hq) (by omega)
    · exact okP_mono (okP_Rs r q hq) (by omega)
end
theorem okP_P (v : TProgram) : ∀ q ∈ nmP' v, okP (bk_TProgram v) q := by
  obtain ⟨a1, a2, a3, a4, a5, a6, a7, a8, a9⟩ := v
  intro q hq
  simp only [nmP', List.mem_append] at hq
  simp only [bk_TProgram, bks_TRec_eq, bks_TVar_eq]
  rcases hq with hq | hq | hq | hq | hq
  · exact okP_pts hq (by omega)
  · exact okP_mono (okP_list nmC bk_TRec okP_C a5 q hq) (by omega)
  · exact okP_mono (okP_list nmV bk_TVar okP_V a6 q hq) (by omega)
  · exact okP_mono (okP_Rs a7 q hq) (by omega)
  · exact okP_mono (okP_Ss a8 q hq) (by omega)
theorem any_mem (l : List ByteArray) (p : ByteArray) : (l.any fun z => z.toList == p.toList) = true ↔ p ∈ l := by
  simp only [List.any_eq_true, ba_dc]
  constructor
  · rintro ⟨z, hz, h⟩
    rw [(dc_iff _).1 h] at hz
    exact hz
  · intro h
    exact ⟨p, h, dc_true rfl⟩
theorem addN_mem {l : List ByteArray} {p q : ByteArray} : q ∈ addN l p ↔ q ∈ l ∨ q = p := by
  unfold addN
  split
  · rename_i h
    have := (any_mem l p).1 h
    constructor
    · exact .inl
    · rintro (h | rfl)
      · exact h
      · exact this
  · simp
theorem foldN_mem : ∀ (ps l : List ByteArray) (q : ByteArray), q ∈ ps.foldl addN l ↔ q ∈ l ∨ q ∈ ps
  | [], l, q => by simp
  | p :: r, l, q => by
    rw [List.foldl_cons, foldN_mem r, addN_mem, List.mem_cons, or_assoc]
def digB (i : Nat) : ByteArray := if i < 10 then ⟨#[UInt8.ofNat (48 + i)]⟩ else if i < 100 then ⟨#[UInt8.ofNat (48 + i / 10), UInt8.ofNat (48 + i % 10)]⟩ else ⟨#[UInt8.ofNat (48 + i / 100), UInt8.ofNat (48 + i / 10 % 10), UInt8.ofNat (48 + i % 10)]⟩
def decB (s : ByteArray) : Nat := s.data.toList.foldl (fun a c => if c = 126 then a else a * 10 + (c.toNat - 48)) 0
end Go.Ev
end
section
set_option linter.unusedVariables false
namespace Go.Proofs.YtlepjafokfhnfaaGreatDoor.Wd
open Go.RowKit Go.Proofs.YtlepjafokfhnfaaGreatDoorW.PrintWords
def decB (n : Nat) : ByteArray := ⟨(Lib.decDigits n).toArray⟩
def val (l : List UInt8) : Nat := l.foldl (fun a b => a * 10 + (b.toNat - 48)) 0
theorem val_snoc (l : List UInt8) (b : UInt8) : val (l ++ [b]) = val l * 10 + (b.toNat - 48) := by simp [val]
theorem val_dec (n : Nat) : val (Lib.decDigits n) = n := by
  induction n using Nat.strongRecOn with
  | _ n ih =>
    rw [Lib.decDigits]
    by_cases h : n < 10
    · rw [dif_pos h]
      show 0 * 10 + ((UInt8.ofNat (48 + n)).toNat - 48) = n
      rw [UInt8.toNat_ofNat']; omega
    · rw [dif_neg h, val_snoc, ih (n / 10) (by omega), UInt8.toNat_ofNat']; omega
theorem dec_inj {a b : Nat} (h : decB a = decB b) : a = b := by
  have : Lib.decDigits a = Lib.decDigits b := by
    have h1 : (decB a).data.toList = (decB b).data.toList := by rw [h]
    simpa [decB] using h1
  rw [← val_dec a, ← val_dec b, this]
def base (s : ByteArray) : ByteArray := s.extract 0 (min s.size 24)
def name (s : ByteArray) : Nat → ByteArray
  | 0 => s
  | n + 1 => base s ++ ⟨#[95]⟩ ++ decB (n + 1)
theorem name_inj (s : ByteArray) {a b : Nat} (h : name s (a + 1) = name s (b + 1)) : a = b := by
  have h1 : (base s ++ ⟨#[95]⟩ ++ decB (a + 1)).data.toList = (base s ++ ⟨#[95]⟩ ++ decB (b + 1)).data.toList := by
    show (name s (a + 1)).data.toList = (name s (b + 1)).data.toList
    rw [h]
  have h2 : (decB (a + 1)).data.toList = (decB (b + 1)).data.toList := by
    simpa using h1
  have h3 : decB (a + 1) = decB (b + 1) := by
    apply ByteArray.ext
    exact Array.toList_inj.1 h2
  have := dec_inj h3
  omega
theorem no_bar (d : Int) : ∀ x ∈ lst d, (95 : UInt8) ∉ x.data.toList := by
  have h0 : ((lst 0).all fun x => !x.data.toList.contains 95) = true := by kernel_rfl
  have h1 : ((lst 1).all fun x => !x.data.toList.contains 95) = true := by kernel_rfl
  have key : ∀ l : List ByteArray, (l.all fun x => !x.data.toList.contains 95) = true → ∀ x ∈ l, (95 : UInt8) ∉ x.data.toList := by
    intro l h x hx hm
    have := List.all_eq_true.1 h x hx
    simp [hm] at this
  by_cases e0 : d = 0
  · subst e0; exact key _ h0
  · by_cases e1 : d = 1
    · subst e1; exact key _ h1
    · have hl : lst d = [] := by unfold lst; rw [if_neg e0, if_neg e1]
      rw [hl]; simp
theorem name_word (s : ByteArray) (n : Nat) (d : Int) : mem (lst d) (name s (n + 1)) = false := by
  cases h : mem (lst d) (name s (n + 1)) with
  | false => rfl
  | true => exact absurd (by simp [name]) (no_bar d _ ((mem_iff _ _).1 h))
def bad (taken : List ByteArray) (x : ByteArray) : Bool := mem (lst 0) x || mem (lst 1) x || mem taken x
theorem bad_name (taken : List ByteArray) (s : ByteArray) (n : Nat) : bad taken (name s (n + 1)) = mem taken (name s (n + 1)) := by
  simp [bad, name_word]
theorem length_le_of_sub {α : Type} : ∀ (l m : List α), l.Nodup → (∀ x ∈ l, x ∈ m) → l.length ≤ m.length
  | [], m, _, _ => by simp
  | a :: l, m, hn, hs => by
    obtain ⟨p, q, rfl⟩ := List.append_of_mem (hs a (by simp))
    have hn' := List.nodup_cons.1 hn
    have := length_le_of_sub l (p ++ q) hn'.2 (fun x hx => by
      have := hs x (by simp [hx])
      have hne : x ≠ a := fun e => hn'.1 (e ▸ hx)
      simpa [hne] using this)
    simp at this ⊢
    omega
theorem some_free (taken : List ByteArray) (s : ByteArray) : ∃ n, n ≤ taken.length + 1 ∧ bad taken (name s n) = false := by
  by_cases hex : ∃ n, n ≤ taken.length + 1 ∧ bad taken (name s n) = false
  · exact hex
  · exfalso
    have hall : ∀ n, n ≤ taken.length + 1 → bad taken (name s n) = true := by
      intro n hn
      cases h : bad taken (name s n) with
      | true => rfl
      | false => exact absurd ⟨n, hn, h⟩ hex
    have := length_le_of_sub ((List.range (taken.length + 1)).map fun n => name s (n + 1)) taken ?_ ?_
    · simp at this; omega
    · rw [List.nodup_iff_pairwise_ne, List.pairwise_map]
      refine List.Pairwise.imp ?_ (List.nodup_iff_pairwise_ne.1 List.nodup_range)
      intro a b hab e
      exact hab (name_inj s e)
    · intro x hx
      obtain ⟨n, hn, rfl⟩ := List.mem_map.1 hx
      have h1 := hall (n + 1) (by have := List.mem_range.1 hn; omega)
      rw [bad_name] at h1
      exact (mem_iff _ _).1 h1
def tries (taken : List ByteArray) (s : ByteArray) : Nat := (List.range (taken.length + 2)).findIdx fun n => !bad taken (name s n)
theorem tries_le (taken : List ByteArray) (s : ByteArray) : tries taken s ≤ taken.length + 1 := by
  obtain ⟨n, hn, hf⟩ := some_free taken s
  have : tries taken s < (List.range (taken.length + 2)).length := List.findIdx_lt_length_of_exists ⟨n, by rw [List.mem_range]; omega, by simp [hf]⟩
  rw [List.length_range] at this
  omega
theorem tries_free (taken : List ByteArray) (s : ByteArray) : bad taken (name s (tries taken s)) = false := by
  have hlt : tries taken s < (List.range (taken.length + 2)).length := by rw [List.length_range]; have := tries_le taken s; omega
  have := List.findIdx_getElem (xs := List.range (taken.length + 2)) (p := fun n => !bad taken (name s n)) (w := hlt)
  have h3 : (!bad taken (name s ((List.range (taken.length + 2))[tries taken s]'hlt))) = true := this
  rw [show (List.range (taken.length + 2))[tries taken s]'hlt = tries taken s from List.getElem_range _] at h3
  simpa using h3
theorem tries_bad (taken : List ByteArray) (s : ByteArray) (k : Nat) (hk : k < tries taken s) : bad taken (name s k) = true := by
  have := List.not_of_lt_findIdx (show k < (List.range (taken.length + 2)).findIdx (fun n => !bad taken (name s n)) from hk)
  rw [List.getElem_range] at this
  simpa using this
def fresh (s : ByteArray) (taken : List ByteArray) : ByteArray := name s (tries taken s)
end Go.Proofs.YtlepjafokfhnfaaGreatDoor.Wd
end
section
open Go
namespace Go.Ev
open Go.Proofs.YtlepjafokfhnfaaGreatDoor
set_option maxRecDepth 100000
set_option maxHeartbeats 4000000
set_option linter.unusedVariables false
set_option linter.unusedSimpArgs false
theorem index_ok (k : Nat) (l : List ByteArray) (x : ByteArray) (hk : l.length < k) (hm : l.length ≤ maxLen) : ∃ r : Int, (FF hFam (k + 1)).f_slices_Index_string (l, x, ()) = some r ∧ (decide (r ≥ 0)) = Wd.mem l x := by
  show ∃ r : Int, B_slices_Index_string (FF hFam k) k l x = some r ∧ _
  unfold B_slices_Index_string
  have key : ∀ j i, i ≤ l.length → l.length - i < j → ∃ r : Int, Lslices_Index_string_2 (FF hFam k) k l x j l x (l.length : Int) (i : Int) = some r ∧ (decide (r ≥ 0)) = Wd.mem (l.drop i) x := by
    refine up_ind l.length (fun j => ?_) (fun j i hi ih => ?_)
    · refine ⟨-1, ?_, ?_⟩
      · simp only [Lslices_Index_string_2]
        rw [if_neg (by simp)]
      · rw [List.drop_length]
        rfl
    · have hd := List.drop_eq_getElem_cons hi
      simp only [Lslices_Index_string_2]
      rw [if_pos (lt_dec hi), if_pos (by omega), if_pos (by omega), getD_at l i _ hi, wrap_succ hi hm, ba_beq]
      by_cases he : x = l[i]
      · refine ⟨(i : Int), by rw [if_pos (by simpa using he)], ?_⟩
        rw [hd]
        have h1 : Wd.mem (l[i] :: l.drop (i + 1)) x = true := by unfold Wd.mem; rw [List.any_cons, decide_eq_true he.symm, Bool.true_or]
        rw [h1]
        simp
      · rw [if_neg (by simpa using he)]
        obtain ⟨r, h1, h2⟩ := ih
        refine ⟨r, h1, ?_⟩
        rw [h2, hd]
        have h3 : decide (l[i] = x) = false := by simpa using fun e : l[i] = x => he e.symm
        simp only [Wd.mem, List.any_cons, h3, Bool.false_or]
  obtain ⟨r, h1, h2⟩ := key k 0 (Nat.zero_le _) (by omega)
  exact ⟨r, h1, by rw [h2, List.drop_zero]⟩
theorem contains_ok (k : Nat) (l : List ByteArray) (x : ByteArray) (hk : l.length < k) (hm : l.length ≤ maxLen) : (FF hFam (k + 2)).f_slices_Contains_string (l, x, ()) = some (Wd.mem l x) := by
  obtain ⟨r, h1, h2⟩ := index_ok k l x hk hm
  show B_slices_Contains_string (FF hFam (k + 1)) (k + 1) l x = _
  unfold B_slices_Contains_string
  rw [h1, Option.bind_some, h2]
theorem decB_dig (n : Nat) (h : n < 1000) : Wd.decB n = digB n := by
  unfold Wd.decB digB
  by_cases h1 : n < 10
  · rw [if_pos h1, Lib.decDigits_one h1]
  · rw [if_neg h1]
    by_cases h2 : n < 100
    · rw [if_pos h2, Lib.decDigits_two h1 h2]
    · rw [if_neg h2]
      have h3 : ¬ n / 10 < 10 := by omega
      rw [Lib.decDigits, dif_neg h1, Lib.decDigits_two h3 (by omega)]
      have e1 : n / 10 / 10 = n / 100 := by omega
      rw [e1]
      rfl
theorem decB_size (n : Nat) (h : n < 1000) : (Wd.decB n).size ≤ 3 := by
  rw [decB_dig n h]
  unfold digB
  split
  · exact Nat.le_of_ble_eq_true rfl
  · split
    · exact Nat.le_of_ble_eq_true rfl
    · exact Nat.le_of_ble_eq_true rfl
theorem itoa_at (k i : Nat) : (FF hFam (k + 1)).f_strconv_Itoa ((i : Int), ()) = if i ≤ 9223372036854775807 then some (Wd.decB i) else none := by
  show (if 0 ≤ (i : Int) ∧ (i : Int) ≤ 9223372036854775807 then some (itoaB i) else none) = _
  have e : itoaB (i : Int) = Wd.decB i := by
    unfold itoaB Wd.decB Lib.itoa
    rw [if_neg (by omega)]
    rfl
  rw [e]
  by_cases h : i ≤ 9223372036854775807
  · rw [if_pos h, if_pos (by omega)]
  · rw [if_neg h, if_neg (by omega)]
theorem base_small {s : ByteArray} (hs : s.size ≤ 24) : Wd.base s = s := by
  unfold Wd.base
  rw [Nat.min_eq_left hs]
  simp
theorem name_succ {s : ByteArray} (hs : s.size ≤ 24) (n : Nat) : Wd.name s (n + 1) = s ++ { data := #[95] : ByteArray } ++ Wd.decB (n + 1) := by
  show Wd.base s ++ ⟨#[95]⟩ ++ Wd.decB (n + 1) = _
  rw [base_small hs]
theorem s95 : ({ data := #[95] : ByteArray } : ByteArray).size = 1 := rfl
theorem Fresh_ok (k : Nat) (s : ByteArray) (taken : List ByteArray) (hs : s.size ≤ 24) (ht : taken.length ≤ 650) (hk : taken.length + 10 ≤ k) : (FF hFam (k + 3)).f_words_Fresh (s, taken, ()) = some (Wd.fresh s taken) := by
  have htr := Wd.tries_le taken s
  show B_words_Fresh (FF hFam (k + 2)) (k + 2) s taken = _
  unfold B_words_Fresh
  have key : ∀ j i, i ≤ Wd.tries taken s → Wd.tries taken s - i < j → Lwords_Fresh_3 (FF hFam (k + 2)) (k + 2) s taken j s taken (Wd.name s i) ((i + 1 : Nat) : Int) = some (Wd.fresh s taken) := by
    refine up_ind (Wd.tries taken s) (fun j => ?_) (fun j i hi ih => ?_)
    · have hf := Wd.tries_free taken s
      unfold Wd.bad at hf
      simp only [Bool.or_eq_false_iff] at hf
      obtain ⟨⟨h1, h2⟩, h3⟩ := hf
      have e1 : (FF hFam (k + 2)).f_words_Is (0, Wd.name s (Wd.tries taken s), ()) = some (Wd.mem (Wd.lst 0) (Wd.name s (Wd.tries taken s))) := rfl
      have e2 : (FF hFam (k + 2)).f_words_Is (1, Wd.name s (Wd.tries taken s), ()) = some (Wd.mem (Wd.lst 1) (Wd.name s (Wd.tries taken s))) := rfl
      simp only [Lwords_Fresh_3]
      rw [e1, Option.bind_some, if_pos h1, e2, Option.bind_some, h2, if_pos (by rfl), contains_ok k taken _ (by omega) (by simp only [maxLen]; omega), Option.bind_some, h3, if_neg (by simp)]
      rfl
    · have hb := Wd.tries_bad taken s i hi
      have hi' : i + 1 < 1000 := by omega
      have hdz := decB_size (i + 1) hi'
      have e1 : (FF hFam (k + 2)).f_words_Is (0, Wd.name s i, ()) = some (Wd.mem (Wd.lst 0) (Wd.name s i)) := rfl
      have e2 : (FF hFam (k + 2)).f_words_Is (1, Wd.name s i, ()) = some (Wd.mem (Wd.lst 1) (Wd.name s i)) := rfl
      have e3 := contains_ok k taken (Wd.name s i) (by omega) (by simp only [maxLen]; omega)
      have e4 : (if 24 < (s.size : Int) then 24 else (s.size : Int)) = (s.size : Int) := by rw [if_neg (by omega)]
      have e5 : (FF hFam (k + 2)).f_strconv_Itoa (((i + 1 : Nat) : Int), ()) = some (Wd.decB (i + 1)) := by rw [itoa_at (k + 1), if_pos (by omega)]
      have e6 : s.extract 0 s.size = s := by simp
      have hm1 : ¬ ((s.size + 1 : Nat) : Int) > IntKind.i64.max := by
        show ¬ ((s.size + 1 : Nat) : Int) > 9223372036854775807
        omega
      have hm2 : ¬ ((s.size + 1 + (Wd.decB (i + 1)).size : Nat) : Int) > IntKind.i64.max := by
        show ¬ ((s.size + 1 + (Wd.decB (i + 1)).size : Nat) : Int) > 9223372036854775807
        omega
      have ew : IntKind.i64.wrap (((i + 1 : Nat) : Int) + 1) = ((i + 1 + 1 : Nat) : Int) := wrap_succ (n := i + 2) (by omega) (by simp only [maxLen]; omega)
      rw [name_succ hs] at ih
      have tail : (if (↑0 : Int) ≤ (s.size : Int) then (if (s.size : Int) ≤ (s.size : Int) then (if ((s.extract (0 : Int).toNat ((s.size : Nat) : Int).toNat).size + ({ data := #[95] : ByteArray } : ByteArray).size : Nat) > IntKind.i64.max then none else
          (some (Wd.decB (i + 1))).bind fun t => if (((s.extract (0 : Int).toNat ((s.size : Nat) : Int).toNat ++ { data := #[95] : ByteArray }).size + ByteArray.size t : Nat) : Int) > IntKind.i64.max then none else
            Lwords_Fresh_3 (FF hFam (k + 2)) (k + 2) s taken j s taken (s.extract (0 : Int).toNat ((s.size : Nat) : Int).toNat ++ { data := #[95] : ByteArray } ++ t) (((i + 1 + 1 : Nat) : Int))) else none) else none) = some (Wd.fresh s taken) := by
        simp only [Int.toNat_natCast, Int.toNat_zero, e6, ByteArray.size_append, s95]
        rw [if_pos (by omega), if_pos (by omega), if_neg hm1, Option.bind_some, if_neg hm2]
        exact ih
      simp only [Lwords_Fresh_3, e4]
      rw [e1, Option.bind_some]
      unfold Wd.bad at hb
      by_cases h1 : Wd.mem (Wd.lst 0) (Wd.name s i) = true
      · rw [if_neg (by rw [h1]; simp), e5, ew]
        exact tail
      · have h1' := Bool.eq_false_iff.2 h1
        rw [if_pos h1', e2, Option.bind_some, e5, ew]
        by_cases h2 : Wd.mem (Wd.lst 1) (Wd.name s i) = true
        · rw [if_neg (by rw [h2]; simp)]
          exact tail
        · have h2' := Bool.eq_false_iff.2 h2
          rw [h1', h2', Bool.false_or, Bool.false_or] at hb
          rw [if_pos (by rw [h2']; rfl), e3, Option.bind_some, hb, if_pos (by rfl)]
          exact tail
  have := key (k + 2) 0 (Nat.zero_le _) (by omega)
  exact this
end Go.Ev
end
section
open Go
namespace Go.Ev
open Go.Proofs.YtlepjafokfhnfaaGreatDoor
set_option maxRecDepth 100000
set_option maxHeartbeats 4000000
set_option linter.unusedVariables false
set_option linter.unusedSimpArgs false
def isW (d : Int) (n : ByteArray) : Bool := Wd.mem (Wd.lst d) n
def tblN (d : Int) : List ByteArray → List ByteArray → List TPair
  | [], _ => []
  | n :: r, taken => if isW d n = true then ⟨n, Wd.fresh n taken⟩ :: tblN d r (taken ++ [Wd.fresh n taken]) else tblN d r taken
theorem word_small {d : Int} {n : ByteArray} (h : isW d n = true) : n.size ≤ 12 ∧ 2 ≤ n.size := by
  have hm := (Wd.mem_iff _ _).1 h
  have h0 : ((Wd.lst 0).all fun x => Nat.ble x.size 12 && Nat.ble 2 x.size) = true := by kernel_rfl
  have h1 : ((Wd.lst 1).all fun x => Nat.ble x.size 12 && Nat.ble 2 x.size) = true := by kernel_rfl
  have key : ∀ l : List ByteArray, (l.all fun x => Nat.ble x.size 12 && Nat.ble 2 x.size) = true → ∀ x ∈ l, x.size ≤ 12 ∧ 2 ≤ x.size := fun l h x hx => by
    have := List.all_eq_true.1 h x hx
    simp only [Bool.and_eq_true] at this
    exact ⟨Nat.le_of_ble_eq_true this.1, Nat.le_of_ble_eq_true this.2⟩
  by_cases e0 : d = 0
  · subst e0; exact key _ h0 n hm
  · by_cases e1 : d = 1
    · subst e1; exact key _ h1 n hm
    · have hl : Wd.lst d = [] := by unfold Wd.lst; rw [if_neg e0, if_neg e1]
      rw [hl] at hm; simp at hm
theorem tblN_filter (d : Int) : ∀ (l taken : List ByteArray), tblN d (l.filter (isW d)) taken = tblN d l taken
  | [], _ => rfl
  | n :: r, taken => by
    by_cases h : isW d n = true
    · rw [List.filter_cons_of_pos h, tblN, tblN, if_pos h, if_pos h, tblN_filter d r]
    · rw [List.filter_cons_of_neg h, tblN, if_neg h, tblN_filter d r]
theorem addN_nodup {l : List ByteArray} (h : l.Nodup) (p : ByteArray) : (addN l p).Nodup := by
  unfold addN
  split
  · exact h
  · rename_i hn
    rw [List.nodup_append]
    refine ⟨h, by simp, fun a ha b hb e => ?_⟩
    simp at hb
    subst hb
    subst e
    exact hn ((any_mem l a).2 ha)
theorem foldN_nodup : ∀ (ps l : List ByteArray), l.Nodup → (ps.foldl addN l).Nodup
  | [], l, h => h
  | p :: r, l, h => by rw [List.foldl_cons]; exact foldN_nodup r _ (addN_nodup h p)
theorem clash_filter (d : Int) (l : List ByteArray) (h : l.Nodup) : Wd.clash (Wd.lst d) l = l.filter (isW d) := by
  have key : ∀ (l out : List ByteArray), l.Nodup → (∀ x ∈ l, x ∉ out) → l.foldl (Wd.step (Wd.lst d)) out = out ++ l.filter (isW d) := by
    intro l
    induction l with
    | nil => intro out _ _; simp
    | cons x r ih =>
      intro out hn ho
      have hn' := List.nodup_cons.1 hn
      rw [List.foldl_cons]
      have hx : Wd.mem out x = false := by
        cases hq : Wd.mem out x with
        | false => rfl
        | true => exact absurd ((Wd.mem_iff _ _).1 hq) (ho x List.mem_cons_self)
      by_cases hw : isW d x = true
      · have e : Wd.step (Wd.lst d) out x = out ++ [x] := by
          unfold Wd.step
          have hw' : Wd.mem (Wd.lst d) x = true := hw
          rw [hw', hx, if_pos (by rfl)]
        rw [e, ih _ hn'.2, List.filter_cons_of_pos hw, List.append_assoc]
        · rfl
        · intro y hy hyo
          rw [List.mem_append] at hyo
          rcases hyo with hyo | hyo
          · exact ho y (List.mem_cons_of_mem _ hy) hyo
          · simp at hyo
            subst hyo
            exact hn'.1 hy
      · have e : Wd.step (Wd.lst d) out x = out := by
          unfold Wd.step
          have hw' : Wd.mem (Wd.lst d) x = false := Bool.eq_false_iff.2 hw
          rw [hw', if_neg (by simp)]
        rw [e, ih _ hn'.2 (fun y hy => ho y (List.mem_cons_of_mem _ hy)), List.filter_cons_of_neg hw]
  have := key l [] h (by simp)
  simpa [Wd.clash] using this
def namesP (p : TProgram) : List ByteArray := (nmP' p).foldl addN []
theorem namesP_mem (p : TProgram) (q : ByteArray) : q ∈ namesP p ↔ q ∈ nmP' p := by unfold namesP; rw [foldN_mem]; simp
theorem namesP_nodup (p : TProgram) : (namesP p).Nodup := foldN_nodup _ _ List.nodup_nil
theorem namesP_size (p : TProgram) {q : ByteArray} (h : q ∈ namesP p) : q.size ≠ 0 ∧ q.size ≤ bk_TProgram p := okP_P p q ((namesP_mem p q).1 h)
theorem table_loop (k : Nat) (d : Int) (p : TProgram) (c : List ByteArray) (hc : ∀ x ∈ c, isW d x = true) (hl : c.length ≤ 300) (hk : 1000 ≤ k) :
    ∀ j i, i ≤ c.length → c.length - i < j → ∀ (taken : List ByteArray) (out : List TPair), taken.length ≤ 300 + i → out.length ≤ i → Lrename_Table_5 (FF hFam (k + 3)) (k + 3) d p j (c.length : Int) (i : Int) taken out c = some (out ++ tblN d (c.drop i) taken) := by
  refine up_ind c.length (fun j taken out ht ho => ?_) (fun j i hi ih taken out ht ho => ?_)
  · simp only [Lrename_Table_5]
    rw [if_neg (by simp), List.drop_length]
    simp [tblN]
  · have hd := List.drop_eq_getElem_cons hi
    have hw := hc c[i] (List.getElem_mem hi)
    simp only [Lrename_Table_5]
    rw [if_pos (lt_dec hi), if_pos (by omega), if_pos (by omega), getD_at c i _ hi, Fresh_ok k c[i] taken (by have := word_small hw; omega) (by omega) (by omega), Option.bind_some,
      if_pos (by simp only [List.length_append, List.length_singleton]; omega), if_pos (by simp only [List.length_append, List.length_singleton]; omega), wrap_succ hi (by simp only [maxLen]; omega),
      ih _ _ (by simp only [List.length_append, List.length_singleton]; omega) (by simp only [List.length_append, List.length_singleton]; omega), hd]
    rw [tblN, if_pos hw, List.append_assoc]
    rfl
def tblP (d : Int) (p : TProgram) : List TPair := tblN d (namesP p) (namesP p)
theorem Table_ok (k : Nat) (d : Int) (p : TProgram) (hb : bk_TProgram p ≤ 8388608) (hk : 3 * bk_TProgram p + 1030 ≤ k) (hl : (namesP p).length ≤ 300) : (FF hFam (k + 10)).f_rename_Table (d, p, ()) = some (tblP d p) := by
  show B_rename_Table (FF hFam (k + 9)) (k + 9) d p = _
  unfold B_rename_Table
  have e1 := tree_Names_ok k p hb (by omega)
  have e2 : (nmP' p).foldl addN [] = namesP p := rfl
  rw [e2] at e1
  have e3 : (FF hFam (k + 9)).f_words_Clash (d, namesP p, ()) = some ((namesP p).filter (isW d)) := by
    show (if (namesP p).length ≤ 1000 ∧ ((namesP p).all fun z => decide (z.size ≤ maxLen)) = true then some (Wd.clash (Wd.lst d) (namesP p)) else none) = _
    rw [if_pos ⟨by omega, List.all_eq_true.2 fun z hz => by have := (namesP_size p hz).2; simp only [maxLen]; exact decide_eq_true (by omega)⟩, clash_filter d _ (namesP_nodup p)]
  have hfl := List.length_filter_le (isW d) (namesP p)
  rw [e1, Option.bind_some, clone_ok (k + 9) _ (by omega), Option.bind_some, e3, Option.bind_some]
  have := table_loop (k + 6) d p ((namesP p).filter (isW d)) (fun x hx => (List.mem_filter.1 hx).2) (by omega) (by omega) (k + 9) 0 (Nat.zero_le _) (by omega) (namesP p) [] (by omega) (by simp)
  simp only [Int.ofNat_zero, List.drop_zero, List.nil_append] at this
  rw [tblN_filter] at this
  exact this
end Go.Ev
end
section
open Go
namespace Go.Ev
open Go.Proofs.YtlepjafokfhnfaaGreatDoor
set_option maxRecDepth 100000
set_option maxHeartbeats 4000000
set_option linter.unusedVariables false
set_option linter.unusedSimpArgs false
set_option linter.unusedSectionVars false
section
variable (o : ByteArray → ByteArray) (ho : ∀ q, o q = q)
include ho
end
section
variable (o : ByteArray → ByteArray) (ho : growO o)
include ho
end
section
variable {P : ByteArray → Prop} (hP : ∀ s q, q ∈ pts s → P q)
include hP
mutual
theorem all_E : ∀ e : TExpr, ∀ q ∈ nmE e, P q
  | ⟨op, n, nm, f, l⟩, q, hq => by
    simp only [nmE, List.mem_append] at hq
    rcases hq with hq | hq | hq
    · exact hP _ _ hq
    · exact hP _ _ hq
    · exact all_Es l q hq
theorem all_Es : ∀ l : List TExpr, ∀ q ∈ nmEs l, P q
  | [], q, hq => by simp [nmEs] at hq
  | x :: r, q, hq => by
    simp only [nmEs, List.mem_append] at hq
    rcases hq with hq | hq
    · exact all_E x q hq
    · exact all_Es r q hq
end
theorem all_list {α : Type} (nm : α → List ByteArray) (h : ∀ x, ∀ q ∈ nm x, P q) (l : List α) : ∀ q ∈ l.flatMap nm, P q := fun q hq => by
  obtain ⟨x, _, hx⟩ := List.mem_flatMap.1 hq
  exact h x q hx
theorem all_V (v : TVar) : ∀ q ∈ nmV v, P q := fun q hq => by
  simp only [nmV, List.mem_append] at hq
  rcases hq with hq | hq <;> exact hP _ _ hq
theorem all_A (v : TParam) : ∀ q ∈ nmA v, P q := fun q hq => by
  simp only [nmA, List.mem_append] at hq
  rcases hq with hq | hq <;> exact hP _ _ hq
theorem all_C (v : TRec) : ∀ q ∈ nmC v, P q := fun q hq => by
  simp only [nmC, List.mem_append] at hq
  rcases hq with hq | hq
  · exact hP _ _ hq
  · exact all_list hP nmF (fun x q hq => hP _ _ hq) _ q hq
mutual
theorem all_S : ∀ x : TStmt, ∀ q ∈ nmS x, P q
  | ⟨mb, mt, op, nm, po, pn, pnm, pf, pl, E, down, more, body, els, e1, e2⟩, q, hq => by
    simp only [nmS, List.mem_append] at hq
    rcases hq with hq | hq | hq | hq | hq
    · exact hP _ _ hq
    · exact all_E hP _ q hq
    · exact all_Es hP E q hq
    · exact all_Ss body q hq
    · exact all_Ss els q hq
theorem all_Ss : ∀ l : List TStmt, ∀ q ∈ nmSs l, P q
  | [], q, hq => by simp [nmSs] at hq
  | x :: r, q, hq => by
    simp only [nmSs, List.mem_append] at hq
    rcases hq with hq | hq
    · exact all_S x q hq
    · exact all_Ss r q hq
end
mutual
theorem all_R : ∀ x : TRoutine, ∀ q ∈ nmR x, P q
  | ⟨mb, mt, nm, res, ps, vs, inner, body, e⟩, q, hq => by
    simp only [nmR, List.mem_append] at hq
    rcases hq with hq | hq | hq | hq | hq
    · exact hP _ _ hq
    · exact all_list hP nmA (all_A hP) ps q hq
    · exact all_list hP nmV (all_V hP) vs q hq
    · exact all_Rs inner q hq
    · exact all_Ss hP body q hq
theorem all_Rs : ∀ l : List TRoutine, ∀ q ∈ nmRs l, P q
  | [], q, hq => by simp [nmRs] at hq
  | x :: r, q, hq => by
    simp only [nmRs, List.mem_append] at hq
    rcases hq with hq | hq
    · exact all_R x q hq
    · exact all_Rs r q hq
end
theorem all_P (p : TProgram) : ∀ q ∈ nmP' p, P q := fun q hq => by
  simp only [nmP', List.mem_append] at hq
  rcases hq with hq | hq | hq | hq | hq
  · exact hP _ _ hq
  · exact all_list hP nmC (all_C hP) _ q hq
  · exact all_list hP nmV (all_V hP) _ q hq
  · exact all_Rs hP _ q hq
  · exact all_Ss hP _ q hq
end
theorem dec_free (n : Nat) : ∀ c ∈ Lib.decDigits n, c ≠ 36 := by
  have dig : ∀ d, d < 10 → UInt8.ofNat (48 + d) ≠ 36 := by decide
  induction n using Nat.strongRecOn with
  | _ n ih =>
    rw [Lib.decDigits]
    by_cases h : n < 10
    · rw [dif_pos h]
      intro c hc
      simp only [List.mem_singleton] at hc
      subst hc
      exact dig n h
    · rw [dif_neg h]
      intro c hc
      rw [List.mem_append] at hc
      rcases hc with hc | hc
      · exact ih (n / 10) (by omega) c hc
      · simp only [List.mem_singleton] at hc
        subst hc
        exact dig _ (by omega)
theorem word_free {d : Int} {n : ByteArray} (h : isW d n = true) : freeO n := by
  have hm := (Wd.mem_iff _ _).1 h
  have h0 : ((Wd.lst 0).all fun x => x.data.toList.all fun c => c != 36) = true := by kernel_rfl
  have h1 : ((Wd.lst 1).all fun x => x.data.toList.all fun c => c != 36) = true := by kernel_rfl
  have key : ∀ l : List ByteArray, (l.all fun x => x.data.toList.all fun c => c != 36) = true → ∀ x ∈ l, freeO x := fun l h x hx c hc => by
    have := List.all_eq_true.1 (List.all_eq_true.1 h x hx) c hc
    simpa using this
  by_cases e0 : d = 0
  · subst e0; exact key _ h0 n hm
  · by_cases e1 : d = 1
    · subst e1; exact key _ h1 n hm
    · have hl : Wd.lst d = [] := by unfold Wd.lst; rw [if_neg e0, if_neg e1]
      rw [hl] at hm; simp at hm
theorem tblN_old (d : Int) : ∀ (l taken : List ByteArray), (tblN d l taken).map (·.Old) = l.filter (isW d)
  | [], _ => rfl
  | n :: r, taken => by
    by_cases h : isW d n = true
    · rw [List.filter_cons_of_pos h, tblN, if_pos h, List.map_cons, tblN_old d r]
    · rw [List.filter_cons_of_neg h, tblN, if_neg h, tblN_old d r]
theorem fresh_taken (n : ByteArray) (taken : List ByteArray) (h : n ∈ taken) : Wd.fresh n taken ∉ taken ∧ ∃ k, k ≤ taken.length ∧ Wd.fresh n taken = Wd.name n (k + 1) := by
  have hf := Wd.tries_free taken n
  have hle := Wd.tries_le taken n
  refine ⟨fun hm => ?_, ?_⟩
  · unfold Wd.bad at hf
    simp only [Bool.or_eq_false_iff] at hf
    have : Wd.mem taken (Wd.name n (Wd.tries taken n)) = true := (Wd.mem_iff _ _).2 hm
    rw [this] at hf
    exact absurd hf.2 (by simp)
  · rcases Nat.eq_zero_or_pos (Wd.tries taken n) with h0 | h0
    · exfalso
      rw [h0] at hf
      unfold Wd.bad at hf
      simp only [Bool.or_eq_false_iff] at hf
      have : Wd.mem taken (Wd.name n 0) = true := (Wd.mem_iff _ _).2 h
      rw [this] at hf
      exact absurd hf.2 (by simp)
    · refine ⟨Wd.tries taken n - 1, by omega, ?_⟩
      unfold Wd.fresh
      rw [show Wd.tries taken n - 1 + 1 = Wd.tries taken n by omega]
theorem tblN_props (d : Int) : ∀ (l taken : List ByteArray), (∀ x ∈ l, x ∈ taken) → (∀ q ∈ tblN d l taken, isW d q.Old = true ∧ q.Old ∈ l ∧ q.New ∉ taken ∧ ∃ k, k ≤ taken.length + l.length ∧ q.New = Wd.name q.Old (k + 1)) ∧ ((tblN d l taken).map (·.New)).Nodup
  | [], taken, _ => ⟨fun q hq => by simp [tblN] at hq, by simp [tblN]⟩
  | n :: r, taken, hs => by
    by_cases h : isW d n = true
    · rw [tblN, if_pos h]
      obtain ⟨hf, k, hk, hn⟩ := fresh_taken n taken (hs n List.mem_cons_self)
      obtain ⟨i1, i2⟩ := tblN_props d r (taken ++ [Wd.fresh n taken]) fun x hx => List.mem_append_left _ (hs x (List.mem_cons_of_mem _ hx))
      refine ⟨fun q hq => ?_, ?_⟩
      · rcases List.mem_cons.1 hq with rfl | hq
        · exact ⟨h, List.mem_cons_self, hf, k, by omega, hn⟩
        · obtain ⟨a1, a2, a3, k', hk', a4⟩ := i1 q hq
          refine ⟨a1, List.mem_cons_of_mem _ a2, fun hm => a3 (List.mem_append_left _ hm), k', ?_, a4⟩
          simp only [List.length_append, List.length_cons, List.length_nil] at hk' ⊢
          omega
      · rw [List.map_cons, List.nodup_cons]
        refine ⟨fun hm => ?_, i2⟩
        obtain ⟨q, hq, he⟩ := List.mem_map.1 hm
        have he : q.New = Wd.fresh n taken := he
        exact (i1 q hq).2.2.1 (by rw [he]; simp)
    · rw [tblN, if_neg h]
      obtain ⟨i1, i2⟩ := tblN_props d r taken fun x hx => hs x (List.mem_cons_of_mem _ hx)
      refine ⟨fun q hq => ?_, i2⟩
      obtain ⟨a1, a2, a3, k', hk', a4⟩ := i1 q hq
      exact ⟨a1, List.mem_cons_of_mem _ a2, a3, k', by simp only [List.length_cons]; omega, a4⟩
def newO (d : Int) (p : TProgram) : ByteArray → ByteArray := outT (.ren (tblP d p))
theorem newO_word {d : Int} {p : TProgram} {n : ByteArray} (hn : n ∈ namesP p) (h : isW d n = true) : ∃ q ∈ tblP d p, q.Old = n ∧ newO d p n = q.New := by
  have hm : n ∈ (tblP d p).map (·.Old) := by unfold tblP; rw [tblN_old]; exact List.mem_filter.2 ⟨hn, h⟩
  obtain ⟨q, hq, he⟩ := List.mem_map.1 hm
  unfold newO
  simp only [outT]
  split
  · rename_i q' hq'
    have h1 := List.mem_of_find?_eq_some hq'
    have h2 := List.find?_some hq'
    rw [ba_dc] at h2
    exact ⟨q', h1, (dc_iff _).1 h2, rfl⟩
  · rename_i hnone
    have := List.find?_eq_none.1 hnone q hq
    rw [ba_dc] at this
    exact absurd (dc_true he) this
theorem newO_not {d : Int} {p : TProgram} {n : ByteArray} (h : ¬ isW d n = true) : newO d p n = n := by
  unfold newO
  simp only [outT]
  split
  · rename_i q hq
    have h1 := List.mem_of_find?_eq_some hq
    have h2 := List.find?_some hq
    rw [ba_dc] at h2
    have h3 := (dc_iff _).1 h2
    have h4 := ((tblN_props d (namesP p) (namesP p) fun _ h => h).1 q h1).1
    rw [h3] at h4
    exact absurd h4 h
  · rfl
section
variable {d : Int} {p : TProgram} (hl : (namesP p).length ≤ 300)
include hl
theorem pair_props {q : TPair} (hq : q ∈ tblP d p) : isW d q.Old = true ∧ q.Old ∈ namesP p ∧ q.New ∉ namesP p ∧ (∀ e, isW e q.New = false) ∧ freeO q.New ∧ q.New.size ≤ q.Old.size + 4 ∧ q.New.size ≠ 0 ∧ q.New ≠ q.Old := by
  obtain ⟨h1, h2, h3, k, hk, h4⟩ := (tblN_props d (namesP p) (namesP p) fun _ h => h).1 q hq
  have hs := word_small h1
  have hnm := name_succ (s := q.Old) (by omega) k
  have hdz := decB_size (k + 1) (by omega)
  refine ⟨h1, h2, h3, fun e => by rw [h4]; exact Wd.name_word q.Old k e, ?_, ?_, ?_, fun e => h3 (e ▸ h2)⟩
  · rw [h4, hnm]
    intro c hc
    simp only [ByteArray.data_append, Array.toList_append, List.mem_append] at hc
    rcases hc with (hc | hc) | hc
    · exact word_free h1 c hc
    · simp at hc; subst hc; decide
    · exact dec_free (k + 1) c (by simpa [Wd.decB] using hc)
  · rw [h4, hnm]
    simp only [ByteArray.size_append, s95]
    omega
  · rw [h4, hnm]
    simp only [ByteArray.size_append, s95]
    omega
theorem newO_good : ∀ q ∈ nmP' p, goodO (newO d p) q := fun n hn => by
  have hfree : freeO n := all_P (P := freeO) (fun s q hq => cutP_free s q (mem_pts.1 hq).1) p n hn
  have hz := (okP_P p n hn).1
  unfold goodO
  by_cases h : isW d n = true
  · obtain ⟨q, hq, rfl, he⟩ := newO_word ((namesP_mem p n).2 hn) h
    have := pair_props hl hq
    rw [he]
    exact ⟨this.2.2.2.2.1, this.2.2.2.2.2.2.1⟩
  · rw [newO_not h]
    exact ⟨hfree, hz⟩
theorem nodup_inj {α β : Type} (f : α → β) : ∀ (l : List α), (l.map f).Nodup → ∀ a ∈ l, ∀ b ∈ l, f a = f b → a = b
  | [], _, a, ha, _, _, _ => by simp at ha
  | x :: r, h, a, ha, b, hb, e => by
    rw [List.map_cons, List.nodup_cons] at h
    rcases List.mem_cons.1 ha with h1 | h1
    · rcases List.mem_cons.1 hb with h2 | h2
      · rw [h1, h2]
      · exact absurd (List.mem_map.2 ⟨b, h2, by rw [← e, h1]⟩) h.1
    · rcases List.mem_cons.1 hb with h2 | h2
      · exact absurd (List.mem_map.2 ⟨a, h1, by rw [e, h2]⟩) h.1
      · exact nodup_inj f r h.2 a h1 b h2 e
theorem newO_inj {a b : ByteArray} (ha : a ∈ namesP p) (hb : b ∈ namesP p) (h : newO d p a = newO d p b) : a = b := by
  have hnd := (tblN_props d (namesP p) (namesP p) fun _ h => h).2
  by_cases h1 : isW d a = true
  · obtain ⟨q, hq, rfl, he⟩ := newO_word ha h1
    have hp := pair_props hl hq
    by_cases h2 : isW d b = true
    · obtain ⟨q', hq', rfl, he'⟩ := newO_word hb h2
      rw [he, he'] at h
      rw [nodup_inj hl (·.New) _ hnd q hq q' hq' h]
    · rw [he, newO_not h2] at h
      exact absurd (h ▸ hb) hp.2.2.1
  · by_cases h2 : isW d b = true
    · obtain ⟨q', hq', rfl, he'⟩ := newO_word hb h2
      rw [he', newO_not h1] at h
      exact absurd (h ▸ ha) (pair_props hl hq').2.2.1
    · rw [newO_not h1, newO_not h2] at h
      exact h
theorem tblP_room (n : Nat) : roomT (.ren (tblP d p)) n := fun q hq => by
  have h := pair_props hl hq
  have := word_small h.1
  omega
theorem Apply_ok (k : Nat) (hb : bk_TProgram p ≤ 8388608) (hk : 3 * bk_TProgram p + 1030 ≤ k) : (FF hFam (k + 11)).f_rename_Apply (d, p, ()) = some (mapP (newO d p) p, tblP d p, ()) := by
  show B_rename_Apply (FF hFam (k + 10)) (k + 10) d p = _
  unfold B_rename_Apply
  rw [Table_ok k d p hb hk hl, Option.bind_some]
  have e : (FF hFam (k + 10)).f_tree_Rename (p, tblP d p, ()) = some (mapP (newO d p) p) := by
    show B_tree_Rename (FF hFam (k + 9)) (k + 9) p (tblP d p) = _
    unfold B_tree_Rename
    rw [mprog_ok (k + 1) (.ren (tblP d p)) p (tblP_room hl _) hb (by omega)]
    rfl
  rw [e]
  rfl
end
end Go.Ev
end
section
open Go
namespace Go.Ev
open Go.Proofs.YtlepjafokfhnfaaGreatDoor
set_option maxRecDepth 100000
set_option maxHeartbeats 4000000
set_option linter.unusedVariables false
set_option linter.unusedSimpArgs false
set_option linter.unusedSectionVars false
structure InjO (o : ByteArray → ByteArray) (S : ByteArray → Prop) : Prop where
  good : ∀ q, S q → goodO o q
  inj : ∀ a b, S a → S b → o a = o b → a = b
def okN (S : ByteArray → Prop) (s : ByteArray) : Prop := ∀ q ∈ pts s, S q
section
variable {o : ByteArray → ByteArray} {S : ByteArray → Prop} (h : InjO o S)
include h
theorem mapN_inj {s t : ByteArray} (hs : okN S s) (ht : okN S t) : mapN o s = mapN o t ↔ s = t := by
  refine ⟨fun e => ?_, fun e => by rw [e]⟩
  haveI : ∀ p : Prop, Decidable p := Classical.propDecidable
  let o' : ByteArray → ByteArray := fun x => if hx : ∃ q, S q ∧ o q = x then hx.choose else x
  have hb : ∀ q, S q → o' (o q) = q := fun q hq => by
    have hx : ∃ r, S r ∧ o r = o q := ⟨q, hq, rfl⟩
    show (if hx : ∃ r, S r ∧ o r = o q then hx.choose else o q) = q
    rw [dif_pos hx]
    exact h.inj _ _ hx.choose_spec.1 hq hx.choose_spec.2
  have h1 := mapN_back o o' s (fun q hq => h.good q (hs q hq)) fun q hq => hb q (hs q hq)
  have h2 := mapN_back o o' t (fun q hq => h.good q (ht q hq)) fun q hq => hb q (ht q hq)
  rw [← h1, e, h2]
theorem beq_map {s t : ByteArray} (hs : okN S s) (ht : okN S t) : ((mapN o s).toList == (mapN o t).toList) = (s.toList == t.toList) := by
  rw [ba_dc, ba_dc]
  exact dc_eq (mapN_inj h hs ht)
end
theorem okN_empty (S : ByteArray → Prop) : okN S { data := #[] : ByteArray } := fun q hq => by
  have : pts { data := #[] : ByteArray } = [] := rfl
  rw [this] at hq; cases hq
theorem mapN_empty (o : ByteArray → ByteArray) : mapN o { data := #[] : ByteArray } = { data := #[] : ByteArray } := rfl
def mTh (o : ByteArray → ByteArray) (x : Tr12_Thing) : Tr12_Thing :=
  { x with Name := mapN o x.Name, Rec_Name := mapN o x.Rec_Name, Rec_Fields := x.Rec_Fields.map (mapF o), R_Name := mapN o x.R_Name, R_Params := x.R_Params.map (mapA o), R_Vars := x.R_Vars.map (mapV o), R_Inner := mapRs o x.R_Inner, R_Body := mapSs o x.R_Body, T_Name := mapN o x.T_Name }
def mTy (o : ByteArray → ByteArray) (t : TType) : TType := ⟨t.Kind, t.Size, mapN o t.Name⟩
structure okTh (S : ByteArray → Prop) (x : Tr12_Thing) : Prop where
  n : okN S x.Name
  f : ∀ y ∈ x.Rec_Fields, okN S y.Name
  p : ∀ y ∈ x.R_Params, okN S y.T_Name
  t : okN S x.T_Name
  s : x.Rec_Fields.length ≤ 2097152
def zTh : Tr12_Thing := { Name := { data := #[] : ByteArray }, Kind := 0, Rec_Marks_Before := [], Rec_Marks_Trail := [], Rec_Name := { data := #[] : ByteArray }, Rec_Fields := [], Rec_End := [], R_Marks_Before := [], R_Marks_Trail := [], R_Name := { data := #[] : ByteArray }, R_Result := 0, R_Params := [], R_Vars := [], R_Inner := [], R_Body := [], R_End := [], T_Kind := 0, T_Size := 0, T_Name := { data := #[] : ByteArray } }
theorem okTh_z (S : ByteArray → Prop) : okTh S zTh := ⟨okN_empty S, fun y hy => (by cases hy), fun y hy => (by cases hy), okN_empty S, Nat.zero_le _⟩
def findE (env : List Tr12_Thing) (name : ByteArray) : Tr12_Thing := (env.find? fun x => x.Name.toList == name.toList).getD zTh
def okEnv (S : ByteArray → Prop) (env : List Tr12_Thing) : Prop := ∀ x ∈ env, okTh S x
theorem findE_ok {S : ByteArray → Prop} {env : List Tr12_Thing} (he : okEnv S env) (name : ByteArray) : okTh S (findE env name) := by
  unfold findE
  cases hf : env.find? fun x => x.Name.toList == name.toList with
  | none => exact okTh_z S
  | some x => exact he x (List.mem_of_find?_eq_some hf)
theorem find_map {o : ByteArray → ByteArray} {S : ByteArray → Prop} (h : InjO o S) {name : ByteArray} (hn : okN S name) : ∀ {env : List Tr12_Thing}, okEnv S env → findE (env.map (mTh o)) (mapN o name) = mTh o (findE env name)
  | [], _ => rfl
  | x :: r, he => by
    have ih := find_map h hn (env := r) fun y hy => he y (List.mem_cons_of_mem _ hy)
    have hx := he x List.mem_cons_self
    unfold findE at ih ⊢
    have hb : ((mTh o x).Name.toList == (mapN o name).toList) = (x.Name.toList == name.toList) := beq_map h hx.n hn
    rw [List.map_cons, List.find?_cons, List.find?_cons, hb]
    cases x.Name.toList == name.toList with
    | true => rfl
    | false => exact ih
theorem find_ok (k : Nat) (env : List Tr12_Thing) (name : ByteArray) (hk : env.length < k) (hm : env.length ≤ 4194304) : (FF hFam (k + 1)).f_r12_find (env, name, ()) = some (findE env name) := by
  show B_r12_find (FF hFam k) k env name = _
  unfold B_r12_find
  have key : ∀ j i, i ≤ env.length → env.length - i < j → ∀ v3 v4 v5 v6 v7 v8 v9 v10 v11 v12 v13 v14 v15 v16 v17 v18 v19 v20 v21, Lr12_find_2 (FF hFam k) k env name j env name (i : Int) v3 v4 v5 v6 v7 v8 v9 v10 v11 v12 v13 v14 v15 v16 v17 v18 v19 v20 v21 = some (findE (env.drop i) name) := by
    refine up_ind env.length (fun j => ?_) (fun j i hi ih => ?_)
    · intros
      simp only [Lr12_find_2]
      rw [if_neg (by simp), List.drop_length]
      rfl
    · intros
      have hd := List.drop_eq_getElem_cons hi
      simp only [Lr12_find_2]
      rw [if_pos (lt_dec hi), if_pos (by omega), if_pos (by omega), getD_at env i _ hi, wrap_succ hi (by simp only [maxLen]; omega), ih, hd]
      unfold findE
      rw [List.find?_cons]
      cases hb : env[i].Name.toList == name.toList with
      | true =>
        rw [if_pos rfl, if_pos (by omega), if_pos (by omega)]
        rfl
      | false =>
        rw [if_neg (by simp)]
  have := key k 0 (Nat.zero_le _) (by omega)
  simp only [Int.ofNat_zero, List.drop_zero] at this
  exact this _ _ _ _ _ _ _ _ _ _ _ _ _ _ _ _ _ _ _
theorem with_ok (k : Nat) (env : List Tr12_Thing) (x : Tr12_Thing) (hm : env.length ≤ 4194304) : (FF hFam (k + 1)).f_r12_with (env, x, ()) = some (env ++ [x]) := by
  show B_r12_with (FF hFam k) k env x = _
  unfold B_r12_with
  rw [List.nil_append, if_pos (by omega), if_pos (by simp only [List.length_append, List.length_singleton]; omega)]
def failS (e c : Int) : Int := if e = 0 then c else e
theorem fail_ok (k : Nat) (i e c : Int) : (FF hFam (k + 1)).f_r12_Look_fail ((i, e, ()), c, ()) = some ((), (i, failS e c, ()), ()) := by
  show B_r12_Look_fail (FF hFam k) k (i, e, ()) c = _
  unfold B_r12_Look_fail failS
  by_cases h : e = 0
  · subst h
    rw [if_pos (by rfl), if_pos rfl]
  · rw [if_neg (by simpa using h), if_neg h]
theorem failS_ne {e c : Int} (h : e ≠ 0) : failS e c ≠ 0 := by unfold failS; rw [if_neg h]; exact h
theorem failS_c {e c : Int} (h : c ≠ 0) : failS e c ≠ 0 := by unfold failS; split; exact h; assumption
theorem next_ok (k : Nat) (i e : Int) (h0 : e = 0) : (FF hFam (k + 1)).f_r12_Look_next ((i, e, ()), ()) = some (true, (IntKind.i64.wrap (i + 1), e, ()), ()) := by
  show B_r12_Look_next (FF hFam k) k (i, e, ()) = _
  unfold B_r12_Look_next
  subst h0
  rw [if_neg (by simp)]
theorem next_no (k : Nat) (i e : Int) (h0 : e ≠ 0) : (FF hFam (k + 1)).f_r12_Look_next ((i, e, ()), ()) = some (false, (i, e, ()), ()) := by
  show B_r12_Look_next (FF hFam k) k (i, e, ()) = _
  unfold B_r12_Look_next
  rw [if_pos (by simpa using h0)]
def typS (env : List Tr12_Thing) (t : TType) (e : Int) : Int := if t.Kind = 4 ∧ (findE env t.Name).Kind ≠ 1 then failS e 13 else e
theorem typ_ok (k : Nat) (i e : Int) (env : List Tr12_Thing) (t : TType) (hk : env.length < k) (hm : env.length ≤ 4194304) : (FF hFam (k + 2)).f_r12_Look_typ ((i, e, ()), env, t, ()) = some ((), (i, typS env t e, ()), ()) := by
  show B_r12_Look_typ (FF hFam (k + 1)) (k + 1) (i, e, ()) env t = _
  unfold B_r12_Look_typ typS
  by_cases h4 : t.Kind = 4
  · rw [if_pos (by simpa using h4), find_ok k env t.Name hk hm, Option.bind_some]
    by_cases h1 : (findE env t.Name).Kind = 1
    · rw [if_neg (by simp [h1]), if_neg (by simp [h1])]
    · rw [if_pos (by simp [h1]), fail_ok, Option.bind_some, if_pos ⟨h4, h1⟩]
  · rw [if_neg (by simpa using h4), if_neg (by simp [h4])]
theorem typS_map {o : ByteArray → ByteArray} {S : ByteArray → Prop} (h : InjO o S) {env : List Tr12_Thing} (he : okEnv S env) {t : TType} (ht : okN S t.Name) (e : Int) : typS (env.map (mTh o)) (mTy o t) e = typS env t e := by
  unfold typS
  have : findE (env.map (mTh o)) (mTy o t).Name = mTh o (findE env t.Name) := find_map h ht he
  rw [this]
  rfl
def varT (env : List Tr12_Thing) (name : ByteArray) : TType := if (findE env name).Kind = 3 then (findE env name).sub_T else ⟨0, 0, { data := #[] : ByteArray }⟩
def varE (env : List Tr12_Thing) (name : ByteArray) (e : Int) : Int := if (findE env name).Kind = 3 then e else failS e 13
theorem variable_ok (k : Nat) (i e : Int) (env : List Tr12_Thing) (name : ByteArray) (hk : env.length < k) (hm : env.length ≤ 4194304) : (FF hFam (k + 2)).f_r12_Look_variable ((i, e, ()), env, name, ()) = some (varT env name, (i, varE env name e, ()), ()) := by
  show B_r12_Look_variable (FF hFam (k + 1)) (k + 1) (i, e, ()) env name = _
  unfold B_r12_Look_variable varT varE
  rw [find_ok k env name hk hm, Option.bind_some]
  by_cases h3 : (findE env name).Kind = 3
  · rw [if_neg (by simp [h3]), if_pos h3, if_pos h3]
  · rw [if_pos (by simp [h3]), fail_ok, Option.bind_some, if_neg h3, if_neg h3]
section
variable {o : ByteArray → ByteArray} {S : ByteArray → Prop} (h : InjO o S) {env : List Tr12_Thing} (he : okEnv S env) {name : ByteArray} (hn : okN S name)
include h he hn
theorem varT_map : varT (env.map (mTh o)) (mapN o name) = mTy o (varT env name) := by
  unfold varT
  rw [find_map h hn he]
  have hk : (mTh o (findE env name)).Kind = (findE env name).Kind := rfl
  rw [hk]
  split <;> rfl
theorem varE_map (e : Int) : varE (env.map (mTh o)) (mapN o name) e = varE env name e := by
  unfold varE
  rw [find_map h hn he]
  rfl
end
theorem varT_ok {S : ByteArray → Prop} {env : List Tr12_Thing} (he : okEnv S env) (name : ByteArray) : okN S (varT env name).Name := by
  unfold varT
  split
  · exact (findE_ok he name).t
  · exact okN_empty S
end Go.Ev
end
section
open Go
namespace Go.Ev
open Go.Proofs.YtlepjafokfhnfaaGreatDoor
set_option maxRecDepth 100000
set_option maxHeartbeats 40000000
set_option linter.unusedVariables false
set_option linter.unusedSimpArgs false
set_option linter.unusedSectionVars false
section
variable (s : Fam) (k : Nat) (i : Int) (env : List Tr12_Thing) (x : TExpr) (b : Bool)
theorem X_bad (e : Int) (h : e ≠ 0) : B_r12_Look_expr s k (i, e, ()) env x b = some (⟨0, 0, { data := #[] : ByteArray }⟩, (i, e, ()), ()) := by
  unfold B_r12_Look_expr
  rw [if_pos (by simpa using h)]
theorem X_lit (h : x.Op = 1 ∨ x.Op = 2 ∨ x.Op = 3) : B_r12_Look_expr s k (i, 0, ()) env x b = some (⟨x.Op, 0, { data := #[] : ByteArray }⟩, (i, 0, ()), ()) := by
  rcases h with h | h | h <;> simp only [B_r12_Look_expr, B_r12_Look_expr_h1, B_r12_Look_expr_h0, B_r12_Look_expr_h2, h, ↓reduceIte, Int.reduceBEq, Int.reduceBNe, Bool.false_eq_true, bne_self_eq_false, beq_self_eq_true]
theorem X_var (h : x.Op = 4) : B_r12_Look_expr s k (i, 0, ()) env x b = (s.f_r12_Look_variable ((i, 0, ()), env, x.Name, ())).bind fun t => some (t.1, (t.2.1.1, t.2.1.2.1, ()), ()) := by
  simp only [B_r12_Look_expr, B_r12_Look_expr_h1, B_r12_Look_expr_h0, B_r12_Look_expr_h2, h, ↓reduceIte, Int.reduceBEq, Int.reduceBNe, Bool.false_eq_true, bne_self_eq_false, beq_self_eq_true]
theorem X_call (h : x.Op = 7) : B_r12_Look_expr s k (i, 0, ()) env x b = (s.f_r12_Look_call ((i, 0, ()), env, x.re, b, ())).bind fun t => some (t.1, (t.2.1.1, t.2.1.2.1, ()), ()) := by
  simp only [B_r12_Look_expr, B_r12_Look_expr_h1, B_r12_Look_expr_h0, B_r12_Look_expr_h2, h, ↓reduceIte, Int.reduceBEq, Int.reduceBNe, Bool.false_eq_true, bne_self_eq_false, beq_self_eq_true]
theorem X_field (h : x.Op = 6) : B_r12_Look_expr s k (i, 0, ()) env x b = (s.f_r12_Look_variable ((i, 0, ()), env, x.Name, ())).bind fun t => if (t.1.Kind != 4) = true then (s.f_r12_Look_fail ((t.2.1.1, t.2.1.2.1, ()), 14, ())).bind fun u => some (⟨0, 0, { data := #[] : ByteArray }⟩, (u.2.1.1, u.2.1.2.1, ()), ()) else
    (s.f_r12_find (env, t.1.Name, ())).bind fun u => Lr12_Look_expr_23 s k (i, 0, ()) env x b k 0 t.2.1.1 t.2.1.2.1 6 x.N x.Name x.Field x.L 0 0 { data := #[] : ByteArray } u.Rec_Marks_Before u.Rec_Marks_Trail u.Rec_Name u.Rec_Fields u.Rec_End := by
  simp only [B_r12_Look_expr, B_r12_Look_expr_h1, B_r12_Look_expr_h0, B_r12_Look_expr_h2, h, ↓reduceIte, Int.reduceBEq, Int.reduceBNe, Bool.false_eq_true, bne_self_eq_false, beq_self_eq_true]
theorem X_bool (h : x.Op = 9 ∨ x.Op = 13 ∨ x.Op = 14 ∨ x.Op = 17 ∨ x.Op = 18) : B_r12_Look_expr s k (i, 0, ()) env x b = Lr12_Look_expr_37 s k (i, 0, ()) env x b k env 0 i 0 x.Op x.N x.Name x.Field x.L 0 0 { data := #[] : ByteArray } := by
  rcases h with h | h | h | h | h <;> simp only [B_r12_Look_expr, B_r12_Look_expr_h1, B_r12_Look_expr_h0, B_r12_Look_expr_h2, h, ↓reduceIte, Int.reduceBEq, Int.reduceBNe, Bool.false_eq_true, bne_self_eq_false, beq_self_eq_true]
theorem X_int (h : x.Op = 8 ∨ x.Op = 10 ∨ x.Op = 11 ∨ x.Op = 12 ∨ x.Op = 15 ∨ x.Op = 16) : B_r12_Look_expr s k (i, 0, ()) env x b = Lr12_Look_expr_53 s k (i, 0, ()) env x b k env 0 i 0 x.Op x.N x.Name x.Field x.L 0 0 { data := #[] : ByteArray } := by
  rcases h with h | h | h | h | h | h <;> simp only [B_r12_Look_expr, B_r12_Look_expr_h1, B_r12_Look_expr_h0, B_r12_Look_expr_h2, h, ↓reduceIte, Int.reduceBEq, Int.reduceBNe, Bool.false_eq_true, bne_self_eq_false, beq_self_eq_true]
theorem X_index (h : x.Op = 5) (hl : 0 < x.L.length) : B_r12_Look_expr s k (i, 0, ()) env x b = (s.f_r12_Look_variable ((i, 0, ()), env, x.Name, ())).bind fun t => if (t.1.Size == 0) = true then (s.f_r12_Look_fail ((t.2.1.1, t.2.1.2.1, ()), 14, ())).bind fun u => (s.f_r12_Look_value ((u.2.1.1, u.2.1.2.1, ()), env, (x.L.getD 0 dd_TExpr).re, 1, ())).bind fun v => some (⟨t.1.Kind, 0, { data := #[] : ByteArray }⟩, (v.2.1.1, v.2.1.2.1, ()), ()) else
    (s.f_r12_Look_value ((t.2.1.1, t.2.1.2.1, ()), env, (x.L.getD 0 dd_TExpr).re, 1, ())).bind fun v => some (⟨t.1.Kind, 0, { data := #[] : ByteArray }⟩, (v.2.1.1, v.2.1.2.1, ()), ()) := by
  have h0 : (0 : Int) < (x.L.length : Int) := by omega
  simp only [B_r12_Look_expr, B_r12_Look_expr_h1, B_r12_Look_expr_h0, B_r12_Look_expr_h2, h, ↓reduceIte, Int.reduceBEq, Int.reduceBNe, Bool.false_eq_true, bne_self_eq_false, beq_self_eq_true, h0, Int.toNat_zero]
theorem X_comp (h : x.Op = 19 ∨ x.Op = 20 ∨ x.Op = 21 ∨ x.Op = 22 ∨ x.Op = 23 ∨ x.Op = 24) (hl : 1 < x.L.length) : B_r12_Look_expr s k (i, 0, ()) env x b = (s.f_r12_Look_value ((i, 0, ()), env, (x.L.getD 0 dd_TExpr).re, 0, ())).bind fun t => if (decide (x.Op > 20) && t.1 == 2) = true then (s.f_r12_Look_fail ((t.2.1.1, t.2.1.2.1, ()), 14, ())).bind fun u => (s.f_r12_Look_value ((u.2.1.1, u.2.1.2.1, ()), env, (x.L.getD 1 dd_TExpr).re, t.1, ())).bind fun v => some (⟨2, 0, { data := #[] : ByteArray }⟩, (v.2.1.1, v.2.1.2.1, ()), ()) else
    (s.f_r12_Look_value ((t.2.1.1, t.2.1.2.1, ()), env, (x.L.getD 1 dd_TExpr).re, t.1, ())).bind fun v => some (⟨2, 0, { data := #[] : ByteArray }⟩, (v.2.1.1, v.2.1.2.1, ()), ()) := by
  have h0 : (0 : Int) < (x.L.length : Int) := by omega
  have h1 : (1 : Int) < (x.L.length : Int) := by omega
  rcases h with h | h | h | h | h | h <;> simp only [B_r12_Look_expr, B_r12_Look_expr_h1, B_r12_Look_expr_h0, B_r12_Look_expr_h2, h, ↓reduceIte, Int.reduceBEq, Int.reduceBNe, Bool.false_eq_true, bne_self_eq_false, beq_self_eq_true, h0, h1, Int.toNat_zero, Int.toNat_one]
end
end Go.Ev
end
section
open Go
namespace Go.Ev
open Go.Proofs.YtlepjafokfhnfaaGreatDoor
set_option maxRecDepth 100000
set_option maxHeartbeats 4000000
set_option linter.unusedVariables false
set_option linter.unusedSimpArgs false
set_option linter.unusedSectionVars false
mutual
def shE : TExpr → Prop
  | ⟨op, _, _, _, l⟩ => (1 ≤ op ∧ op ≤ 24 ∧ (op = 5 → l.length = 1) ∧ (19 ≤ op → l.length = 2)) ∧ shL l
def shL : List TExpr → Prop
  | [] => True
  | x :: r => shE x ∧ shL r
end
theorem shL_at : ∀ (l : List TExpr) (i : Nat) (hi : i < l.length), shL l → shE l[i]
  | x :: r, 0, _, h => by
    simp only [shL] at h
    exact h.1
  | x :: r, i + 1, hi, h => by
    simp only [shL] at h
    exact shL_at r i (by simpa using hi) h.2
theorem shE_parts {x : TExpr} (h : shE x) : (1 ≤ x.Op ∧ x.Op ≤ 24 ∧ (x.Op = 5 → x.L.length = 1) ∧ (19 ≤ x.Op → x.L.length = 2)) ∧ shL x.L := by
  cases x
  simpa only [shE] using h
def okE (S : ByteArray → Prop) (x : TExpr) : Prop := ∀ q ∈ nmE x, S q
theorem okE_name {S : ByteArray → Prop} {x : TExpr} (h : okE S x) : okN S x.Name := fun q hq => h q (by cases x; simp only [nmE, List.mem_append]; exact .inl hq)
theorem okE_field {S : ByteArray → Prop} {x : TExpr} (h : okE S x) : okN S x.Field := fun q hq => h q (by cases x; simp only [nmE, List.mem_append]; exact .inr (.inl hq))
theorem okE_at {S : ByteArray → Prop} {x : TExpr} (h : okE S x) (i : Nat) (hi : i < x.L.length) : okE S x.L[i] := fun q hq => h q (by
  cases x
  simp only [nmE, List.mem_append]
  refine .inr (.inr ?_)
  rw [nmEs_eq]
  exact List.mem_flatMap.2 ⟨_, List.getElem_mem hi, hq⟩)
theorem mapE_op (o : ByteArray → ByteArray) (x : TExpr) : (mapE o x).Op = x.Op := by cases x; rfl
theorem mapE_n (o : ByteArray → ByteArray) (x : TExpr) : (mapE o x).N = x.N := by cases x; rfl
theorem mapE_name (o : ByteArray → ByteArray) (x : TExpr) : (mapE o x).Name = mapN o x.Name := by cases x; rfl
theorem mapE_field (o : ByteArray → ByteArray) (x : TExpr) : (mapE o x).Field = mapN o x.Field := by cases x; rfl
theorem mapE_L (o : ByteArray → ByteArray) (x : TExpr) : (mapE o x).L = x.L.map (mapE o) := by cases x; simp only [mapE, mapEs_eq]
def outE (o : ByteArray → ByteArray) (S : ByteArray → Prop) (r r' : Option (TType × (Int × Int × Unit) × Unit)) (e : Int) : Prop :=
  ∃ t i' e', r = some (t, (i', e', ()), ()) ∧ r' = some (mTy o t, (i', e', ()), ()) ∧ okN S t.Name ∧ (e ≠ 0 → e' ≠ 0)
def outV (r r' : Option (Int × (Int × Int × Unit) × Unit)) (e : Int) : Prop := ∃ kd i' e', r = some (kd, (i', e', ()), ()) ∧ r' = some (kd, (i', e', ()), ()) ∧ (e ≠ 0 → e' ≠ 0)
section
variable (o : ByteArray → ByteArray) (S : ByteArray → Prop) (hO : InjO o S)
def relE (K : Nat) : Prop := ∀ (i e : Int) (env : List Tr12_Thing) (x : TExpr) (b : Bool), shE x → okE S x → okEnv S env → env.length ≤ 2097152 → bk_TExpr x ≤ 1048576 → 8 * bk_TExpr x + 3000000 ≤ K →
  outE o S ((FF hFam K).f_r12_Look_expr ((i, e, ()), env, x, b, ())) ((FF hFam K).f_r12_Look_expr ((i, e, ()), env.map (mTh o), mapE o x, b, ())) e
def relV (K : Nat) : Prop := ∀ (i e : Int) (env : List Tr12_Thing) (x : TExpr) (kd : Int), shE x → okE S x → okEnv S env → env.length ≤ 2097152 → bk_TExpr x ≤ 1048576 → 8 * bk_TExpr x + 3000001 ≤ K →
  outV ((FF hFam K).f_r12_Look_value ((i, e, ()), env, x, kd, ())) ((FF hFam K).f_r12_Look_value ((i, e, ()), env.map (mTh o), mapE o x, kd, ())) e
include hO
theorem relV_of {K : Nat} (h : relE o S K) : relV o S (K + 1) := by
  intro i e env x kd hs hx he hl hb hk
  obtain ⟨t, i', e', h1, h2, h3, h4⟩ := h i e env x false hs hx he hl hb (by omega)
  have hfk : ∃ K', K = K' + 1 := ⟨K - 1, by omega⟩
  obtain ⟨K', rfl⟩ := hfk
  show outV (B_r12_Look_value (FF hFam (K' + 1)) (K' + 1) (i, e, ()) env x kd) (B_r12_Look_value (FF hFam (K' + 1)) (K' + 1) (i, e, ()) (env.map (mTh o)) (mapE o x) kd) e
  unfold B_r12_Look_value
  rw [TExpr.re_eq, TExpr.re_eq, h1, h2, Option.bind_some, Option.bind_some]
  have hk1 : (mTy o t).Kind = t.Kind := rfl
  have hk2 : (mTy o t).Size = t.Size := rfl
  simp only [hk1, hk2]
  by_cases hc : (decide (t.Size > 0) || decide (t.Kind < 1) || decide (t.Kind > 3) || decide (kd > 0) && t.Kind != kd) = true
  · rw [if_pos hc, fail_ok, Option.bind_some]
    exact ⟨t.Kind, i', failS e' 14, rfl, rfl, fun hn => failS_ne (h4 hn)⟩
  · rw [if_neg hc]
    exact ⟨t.Kind, i', e', rfl, rfl, h4⟩
theorem loop37 {K : Nat} (hV : relV o S K) (env : List Tr12_Thing) (x : TExpr) (b : Bool) (i0 : Int) (hs : shL x.L) (hx : okE S x) (he : okEnv S env) (hl : env.length ≤ 2097152) (hb : bk_TExpr x ≤ 1048576) (hk : 8 * bk_TExpr x + 2999995 ≤ K) :
    ∀ j m, m ≤ x.L.length → x.L.length - m < j → ∀ i e : Int, ∃ i' e', Lr12_Look_expr_37 (FF hFam K) K (i0, 0, ()) env x b j env (m : Int) i e x.Op x.N x.Name x.Field x.L 0 0 { data := #[] : ByteArray } = some (⟨2, 0, { data := #[] : ByteArray }⟩, (i', e', ()), ()) ∧
      Lr12_Look_expr_37 (FF hFam K) K (i0, 0, ()) (env.map (mTh o)) (mapE o x) b j (env.map (mTh o)) (m : Int) i e x.Op x.N (mapN o x.Name) (mapN o x.Field) (x.L.map (mapE o)) 0 0 { data := #[] : ByteArray } = some (⟨2, 0, { data := #[] : ByteArray }⟩, (i', e', ()), ()) := by
  have hL := bks_Expr_len x.L
  have hbk : bks_TExpr x.L + 1 ≤ bk_TExpr x := by cases x; simp only [bk_TExpr]; omega
  refine up_ind x.L.length (fun j i e => ?_) (fun j m hm ih i e => ?_)
  · simp only [Lr12_Look_expr_37, List.length_map]
    rw [if_neg (by simp), if_neg (by simp)]
    exact ⟨i, e, rfl, rfl⟩
  · have hm' : m < (x.L.map (mapE o)).length := by simpa using hm
    have hbm := bks_Expr_mem x.L m hm
    simp only [Lr12_Look_expr_37, List.length_map]
    rw [if_pos (lt_dec hm), if_pos (by omega), if_pos (by omega), if_pos (lt_dec hm), if_pos (by omega), if_pos (by omega), getD_at x.L m _ hm, getD_at _ m _ hm', List.getElem_map, TExpr.re_eq, TExpr.re_eq, wrap_succ hm (by simp only [maxLen]; omega)]
    obtain ⟨kd, i1, e1, h1, h2, _⟩ := hV i e env x.L[m] 2 (shL_at x.L m hm hs) (okE_at hx m hm) he hl (by omega) (by omega)
    rw [h1, h2, Option.bind_some, Option.bind_some]
    exact ih i1 e1
theorem loop53 {K : Nat} (hV : relV o S K) (env : List Tr12_Thing) (x : TExpr) (b : Bool) (i0 : Int) (hs : shL x.L) (hx : okE S x) (he : okEnv S env) (hl : env.length ≤ 2097152) (hb : bk_TExpr x ≤ 1048576) (hk : 8 * bk_TExpr x + 2999995 ≤ K) :
    ∀ j m, m ≤ x.L.length → x.L.length - m < j → ∀ i e : Int, ∃ i' e', Lr12_Look_expr_53 (FF hFam K) K (i0, 0, ()) env x b j env (m : Int) i e x.Op x.N x.Name x.Field x.L 0 0 { data := #[] : ByteArray } = some (⟨1, 0, { data := #[] : ByteArray }⟩, (i', e', ()), ()) ∧
      Lr12_Look_expr_53 (FF hFam K) K (i0, 0, ()) (env.map (mTh o)) (mapE o x) b j (env.map (mTh o)) (m : Int) i e x.Op x.N (mapN o x.Name) (mapN o x.Field) (x.L.map (mapE o)) 0 0 { data := #[] : ByteArray } = some (⟨1, 0, { data := #[] : ByteArray }⟩, (i', e', ()), ()) := by
  have hL := bks_Expr_len x.L
  have hbk : bks_TExpr x.L + 1 ≤ bk_TExpr x := by cases x; simp only [bk_TExpr]; omega
  refine up_ind x.L.length (fun j i e => ?_) (fun j m hm ih i e => ?_)
  · simp only [Lr12_Look_expr_53, List.length_map]
    rw [if_neg (by simp), if_neg (by simp)]
    exact ⟨i, e, rfl, rfl⟩
  · have hm' : m < (x.L.map (mapE o)).length := by simpa using hm
    have hbm := bks_Expr_mem x.L m hm
    simp only [Lr12_Look_expr_53, List.length_map]
    rw [if_pos (lt_dec hm), if_pos (by omega), if_pos (by omega), if_pos (lt_dec hm), if_pos (by omega), if_pos (by omega), getD_at x.L m _ hm, getD_at _ m _ hm', List.getElem_map, TExpr.re_eq, TExpr.re_eq, wrap_succ hm (by simp only [maxLen]; omega)]
    obtain ⟨kd, i1, e1, h1, h2, _⟩ := hV i e env x.L[m] 1 (shL_at x.L m hm hs) (okE_at hx m hm) he hl (by omega) (by omega)
    rw [h1, h2, Option.bind_some, Option.bind_some]
    exact ih i1 e1
theorem loop23 (K : Nat) (env : List Tr12_Thing) (x : TExpr) (b : Bool) (i0 : Int) (hx : okE S x) (i e : Int) (fs : List TField) (hf : ∀ y ∈ fs, okN S y.Name) (hfl : fs.length ≤ 4194304) :
    ∀ j m, m ≤ fs.length → fs.length - m < j → ∀ (a1 a2 a3 : List ByteArray) (n n' : ByteArray), ∃ t e', Lr12_Look_expr_23 (FF hFam (K + 1)) (K + 1) (i0, 0, ()) env x b j (m : Int) i e 6 x.N x.Name x.Field x.L 0 0 { data := #[] : ByteArray } a1 a2 n fs a3 = some (t, (i, e', ()), ()) ∧
      Lr12_Look_expr_23 (FF hFam (K + 1)) (K + 1) (i0, 0, ()) (env.map (mTh o)) (mapE o x) b j (m : Int) i e 6 x.N (mapN o x.Name) (mapN o x.Field) (x.L.map (mapE o)) 0 0 { data := #[] : ByteArray } a1 a2 n' (fs.map (mapF o)) a3 = some (t, (i, e', ()), ()) ∧ t.Name = { data := #[] : ByteArray } := by
  refine up_ind fs.length (fun j a1 a2 a3 n n' => ?_) (fun j m hm ih a1 a2 a3 n n' => ?_)
  · simp only [Lr12_Look_expr_23, List.length_map]
    rw [if_neg (by simp), if_neg (by simp), fail_ok, Option.bind_some]
    exact ⟨_, _, rfl, rfl, rfl⟩
  · have hm' : m < (fs.map (mapF o)).length := by simpa using hm
    have hb : ((mapF o fs[m]).Name.toList == (mapN o x.Field).toList) = (fs[m].Name.toList == x.Field.toList) := beq_map hO (hf _ (List.getElem_mem hm)) (okE_field hx)
    have ew := wrap_succ hm (show fs.length ≤ maxLen by simp only [maxLen]; omega)
    have hat : (fs.map (mapF o))[m] = mapF o fs[m] := by simp
    cases hq : fs[m].Name.toList == x.Field.toList with
    | true =>
      refine ⟨⟨fs[m].Kind, 0, { data := #[] : ByteArray }⟩, e, ?_, ?_, rfl⟩
      · simp only [Lr12_Look_expr_23]
        rw [if_pos (lt_dec hm), if_pos (by omega), if_pos (by omega), getD_at fs m _ hm, hq, if_pos rfl, if_pos (by omega), if_pos (by omega)]
      · simp only [Lr12_Look_expr_23]
        rw [if_pos (lt_dec hm'), if_pos (by omega), if_pos (by omega), getD_at _ m _ hm', hat, hb, hq, if_pos rfl, if_pos (by omega), if_pos (by omega)]
        rfl
    | false =>
      obtain ⟨t, e', h1, h2, h3⟩ := ih a1 a2 a3 n n'
      refine ⟨t, e', ?_, ?_, h3⟩
      · simp only [Lr12_Look_expr_23]
        rw [if_pos (lt_dec hm), if_pos (by omega), if_pos (by omega), getD_at fs m _ hm, hq, if_neg (by simp), ew]
        exact h1
      · simp only [Lr12_Look_expr_23]
        rw [if_pos (lt_dec hm'), if_pos (by omega), if_pos (by omega), getD_at _ m _ hm', hat, hb, hq, if_neg (by simp), ew]
        exact h2
end
end Go.Ev
end
