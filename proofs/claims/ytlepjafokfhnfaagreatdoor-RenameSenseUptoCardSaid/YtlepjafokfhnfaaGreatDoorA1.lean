/- A part of the proof of RenameSenseUpto (a program makes as much sense as it did, at the same item): a reckoner of the code over data, shown right, and what it gives; conditions stand with each theorem. -/
import Derived.Test.YtlepjafokfhnfaaGreatDoorA0
import Derived.Laws.Small
import Derived.Tactics
import Derived.LoopN
import Derived.Scope
section
namespace Go.Ev
open Go.RowKit
variable {I : Nat → Type}
section
variable {P : Program} {E : Env I} {sp : Nat → List (AV I) → Tree (RV I)} {X : Nat → Prop} {B : Nat} {w0 : World} {Sl0 : Nat → Nat → Prop} {Ex : Value → AV I → Prop} {γ : Gam} {Sl Sl' : Nat → Nat → Prop} {s : AS I} {a : Act} {w w' : World} {bx : Nat → Option (List (CV I))} {ob : Nat → Option (Obj I)} {fx : Nat → Option (I 1000003)} {X0 : Nat → Prop} {B0 : Nat}
theorem apart_nodup : ∀ {ks : List Key}, apartK ks = true → ks.Nodup
  | [], _ => List.nodup_nil
  | k :: r, h => by
    obtain ⟨h1, h2⟩ := apart_cons h
    exact List.nodup_cons.2 ⟨fun hk => h1 k hk rfl, apart_nodup h2⟩
def RootsOf (ks qs : List Key) : Prop := qs.Sublist ks ∧ ∀ K ∈ ks, (∀ o, K ≠ .obj o) → K ∈ qs
theorem RootsOf.append {a b c d : List Key} (h : RootsOf a b) (k : RootsOf c d) : RootsOf (a ++ c) (b ++ d) :=
  ⟨h.1.append k.1, fun K hK hn => by
    rcases List.mem_append.1 hK with hK | hK
    · exact List.mem_append_left _ (h.2 K hK hn)
    · exact List.mem_append_right _ (k.2 K hK hn)⟩
theorem RootsOf.nil : RootsOf [] [] := ⟨List.Sublist.refl _, fun K hK => by cases hK⟩
theorem packO_objs (ob : Nat → Option (Obj I)) (o v : Nat) : ∀ K ∈ (packO ob o v).2, ∃ o, K = .obj o := by
  intro K hK
  unfold packO at hK
  split at hK
  · split at hK
    · simp at hK; exact ⟨_, hK⟩
    · cases hK
  · cases hK
theorem packL_objs (ob : Nat → Option (Obj I)) : ∀ (xs : List (CV I)), ∀ K ∈ (packL ob xs).2, ∃ o, K = .obj o
  | [], K, hK => by cases hK
  | x :: xs, K, hK => by
    have ih := packL_objs ob xs
    simp only [packL] at hK
    cases x with
    | own o v =>
      rcases List.mem_append.1 hK with hK | hK
      · exact packO_objs ob o v K hK
      · exact ih K hK
    | _ => exact ih K hK
theorem RootsOf.objs {ks : List Key} (h : ∀ K ∈ ks, ∃ o, K = .obj o) : RootsOf ks [] := ⟨List.nil_sublist _, fun K hK hn => by obtain ⟨o, ho⟩ := h K hK; exact absurd ho (hn o)⟩
theorem packQ_roots : ∀ (xs : List (CV I)), RootsOf (packQ fx xs).2.1 (packQ fx xs).2.2
  | [] => .nil
  | x :: xs => by
    have ih := packQ_roots xs
    simp only [packQ]
    generalize packQ fx xs = q at ih ⊢
    obtain ⟨ys, ks, qs⟩ := q
    cases x with
    | fx r =>
      simp only
      split
      · exact RootsOf.append (a := [_]) (b := [_]) ⟨List.Sublist.refl _, fun K hK _ => hK⟩ ih
      · exact ih
    | _ => exact ih
mutual
theorem packC_roots (mv : Bool) : ∀ (x : CV I), RootsOf (packC bx ob fx mv x).2.1 (packC bx ob fx mv x).2.2
  | .d x => .nil
  | .own o ver => by
    simp only [packC]
    cases mv with
    | true => exact .objs (packO_objs ob o ver)
    | false => exact .nil
  | .ptr b off => by
    simp only [packC]
    split
    · rename_i cs _
      split
      · exact packQ_roots cs
      have := RootsOf.objs (packL_objs ob cs)
      exact ⟨List.Sublist.cons_cons _ (List.nil_sublist _), fun K hK hn => by
        rcases List.mem_cons.1 hK with hK | hK
        · rw [hK]; exact List.mem_cons_self
        · exact absurd (this.2 K hK hn) (by simp)⟩
    · exact .nil
  | .rp cs off => by simp only [packC]; cases mv <;> exact .nil
  | .rq cs off => by
    simp only [packC]
    cases mv with
    | true => exact .nil
    | false => exact packCs_roots false cs
  | .clo f p c => (packCs_roots mv p).append (packCs_roots mv c)
  | .mth f m => packCs_roots mv m
  | .fx r => by
    simp only [packC]
    split
    · exact ⟨List.Sublist.refl _, fun K hK _ => hK⟩
    · exact .nil
  | .ow _ _ => .nil
  | .io _ _ => .nil
  | .fd _ => .nil
theorem packCs_roots (mv : Bool) : ∀ (xs : List (CV I)), RootsOf (packCs bx ob fx mv xs).2.1 (packCs bx ob fx mv xs).2.2
  | [] => .nil
  | x :: xs => (packC_roots mv x).append (packCs_roots mv xs)
end
mutual
theorem packA_roots (mv : Bool) : ∀ (x : AV I), RootsOf (packA bx ob fx mv x).2.1 (packA bx ob fx mv x).2.2
  | .c x => packC_roots mv x
  | .agg xs => packCs_roots mv xs
  | .tup xs => packAs_roots mv xs
  | .any => .nil
theorem packAs_roots (mv : Bool) : ∀ (xs : List (AV I)), RootsOf (packAs bx ob fx mv xs).2.1 (packAs bx ob fx mv xs).2.2
  | [] => .nil
  | x :: xs => (packA_roots mv x).append (packAs_roots mv xs)
end
theorem Con.recells : ∀ (bs : List (MW I)) (s : AS I), Con E X B w0 Sl0 Ex γ Sl s a w →
    (∀ m ∈ bs, ∃ b ys, m = .box b ys ∧ s.boxes b ≠ none ∧ ∃ vs e, w.heap[γ.b b]? = some (.cells vs e (0, 0)) ∧ vs.size = ys.length ∧ ∀ j y, ys[j]? = some y → CRep E Sl w X B γ s.boxes s.objs s.fxs (vs.getD j undef) y) →
    Con E X B w0 Sl0 Ex γ Sl (applyM bs s) a w ∧ Moves Sl Sl w w X B γ γ s.boxes (applyM bs s).boxes s.objs (applyM bs s).objs s.fxs (applyM bs s).fxs
  | [], s, h, _ => ⟨h, (Got.refl h).mv⟩
  | m :: bs, s, h, hb => by
    obtain ⟨b, ys, rfl, hl, vs, e, hg, hs, hc⟩ := hb m List.mem_cons_self
    cases hcs : s.boxes b with
    | none => exact absurd hcs hl
    | some cs =>
      have c1 := h.recell hcs (ys := ys) fun vs' e' hg' _ _ => by
        rw [hg] at hg'
        injection hg' with hg'
        injection hg' with e1 e2 e3
        subst e1
        exact ⟨hs, hc⟩
      have m1 : Moves Sl Sl w w X B γ γ s.boxes (upd s.boxes b (some ys)) s.objs s.objs s.fxs s.fxs := by
        refine ⟨fun _ _ h => h, fun _ _ _ _ h => h, fun b' hb' => ⟨?_, rfl⟩, fun o x hx => ⟨x, hx, Nat.le_refl _, fun _ => rfl⟩, fun r hr => ⟨hr, rfl⟩⟩
        rw [upd_eq]; split
        · simp
        · exact hb'
      obtain ⟨c2, m2⟩ := Con.recells bs _ c1 fun m hm => by
        obtain ⟨b', ys', k1, k2, vs', e', k3, k4, k5⟩ := hb m (List.mem_cons_of_mem _ hm)
        exact ⟨b', ys', k1, (m1.b b' k2).1, vs', e', k3, k4, fun j y hj => (k5 j y hj).move m1⟩
      exact ⟨c2, m1.trans m2⟩
theorem fresh_of (hbx : ∀ k, 10000000 ≤ k → bx k = none → s.boxes k = none) (hob : ∀ k, 10000000 ≤ k → ob k = none → s.objs k = none) (hfx : ∀ k, 10000000 ≤ k → fx k = none → s.fxs k = none) {n m : Nat} {ws : List (MW I)} (hn : 10000000 ≤ n) (hr : InR n m ws) (h : freshM bx ob fx ws = true) : Fresh s ws := by
  intro q hq hl
  have h1 := (hr.2 q hq).1
  have h2 := List.all_eq_true.1 h q hq
  cases q with
  | box b cs => exact hl (hbx b (Nat.le_trans hn h1) (Option.isNone_iff_eq_none.1 h2))
  | obj b cs => exact hl (hob b (Nat.le_trans hn h1) (Option.isNone_iff_eq_none.1 h2))
  | fx b cs => exact hl (hfx b (Nat.le_trans hn h1) (Option.isNone_iff_eq_none.1 h2))
def Gives (P : Program) (f : Nat) (us : List Value) (w : World) (R : Value → World → Prop) : Prop :=
  ∃ g args, Callee f us g args ∧ (∃ fn, P.funcs[g]? = some fn ∧ fn.body.isSome = true ∧ (fn.name == "runtime.NumGoroutine") = false) ∧ Calls P g args w fun e w' => ∃ u, e = .returned u ∧ R u w'
set_option maxHeartbeats 1000000 in
theorem callM_ok (hE : EnvOK P E) (hS : ∀ f, SpecOK P E sp f) (h : Con E X B w0 Sl0 Ex γ Sl s a w) (hbx : ∀ b cs, bx b = some cs → s.boxes b = some cs) (hob : ∀ o y, ob o = some y → s.objs o = some y) (hfx : ∀ r y, fx r = some y → s.fxs r = some y)
    (nbx : ∀ k, 10000000 ≤ k → bx k = none → s.boxes k = none) (nob : ∀ k, 10000000 ≤ k → ob k = none → s.objs k = none) (nfx : ∀ k, 10000000 ≤ k → fx k = none → s.fxs k = none)
    {nm f : Nat} {args : List (AV I)} {us : List Value} (hlen : us.length = args.length) (hargs : ∀ i x, args[i]? = some x → VRep E Sl w X B γ s.boxes s.objs s.fxs (us.getD i undef) x) {v : AV I} {ws : List (MW I)} (hr : (callM sp nm bx ob fx f args).run = some (v, ws)) :
    Gives P f us w fun u w' => Post E X B w0 Sl0 Ex (applyM ws s) a v u w' := by
  unfold callM at hr
  generalize hp : packAs bx ob fx false args = pk at hr
  obtain ⟨az, ks, qs⟩ := pk
  simp only at hr
  split at hr
  · rename_i hap
    rw [Tree.run_bind] at hr
    cases hspec : (sp f az).run with
    | none => rw [hspec] at hr; cases hr
    | some rv =>
      rw [hspec] at hr
      simp only [Option.bind_some] at hr
      generalize hu : unA (baseOf nm) rv.1 = un at hr
      obtain ⟨y, wr, m0⟩ := un
      simp only at hr
      split at hr
      · rename_i news bs fs hafter
        split at hr
        · rename_i hfresh
          have hfin := Tree.run_ret hr
          simp only [Prod.mk.injEq] at hfin
          obtain ⟨rfl, rfl⟩ := hfin
          -- what is handed over
          have hks : ∀ K ∈ ks, Live s.boxes s.objs s.fxs K := by
            have := (packAs_live (s := s) hbx hob hfx false args).1
            rw [hp] at this; exact this
          have hks0 : ∀ K ∈ ks, Live bx ob fx K := by
            have := (packAs_live (s := ⟨s.tmps, bx, ob, fx⟩) (bx := bx) (ob := ob) (fx := fx) (fun _ _ h => h) (fun _ _ h => h) (fun _ _ h => h) false args).1
            rw [hp] at this; exact this
          have hqs : ∀ K ∈ qs, K ∈ ks ∧ ∀ o, K ≠ .obj o := by
            have := (packAs_live (s := s) hbx hob hfx false args).2
            rw [hp] at this; exact this
          have hro : RootsOf ks qs := by
            have := packAs_roots (bx := bx) (ob := ob) (fx := fx) false args
            rw [hp] at this; exact this
          have hfp1 : ∀ k ∈ fpKs γ ks, k < w.heap.size ∧ (B ≤ k ∨ X k) := by
            intro k hk
            obtain ⟨K, hK, hkK⟩ := mem_fpKs.1 hk
            exact ⟨h.fp_lt (hks K hK) hkK, h.mine K k (hks K hK) hkK⟩
          have hreps : AReps E Sl w (· ∈ fpKs γ ks) w.heap.size us az (fpKs γ ks) (qs.map γ.valK) := by
            have := packAs_rep (X0 := (· ∈ fpKs γ ks)) (B0 := w.heap.size) hE h hbx hob hfx false (fun _ g hg hx => ⟨Nat.lt_of_lt_of_le hg h.hB, fun hf => by rcases (hfp1 g hf).2 with h3 | h3; omega; exact hx h3⟩) (fun _ b cs hb hq => by
              have hl : Live s.boxes s.objs s.fxs (.box b) := by show s.boxes b ≠ none; rw [hbx b cs hb]; simp
              refine ⟨h.box_lt hl, fun hin => ?_⟩
              obtain ⟨K, hK, hkK⟩ := mem_fpKs.1 hin
              have hKb : K = .box b := h.dj K (.box b) (γ.b b) (hks K hK) hl hkK (by simp [Gam.fpK])
              rw [hKb] at hK
              have := packAs_nofx (bx := bx) (ob := ob) (fx := fx) args b (by rw [hp]; exact hK)
              obtain ⟨cs', h1, h2⟩ := this
              rw [hb] at h1
              injection h1 with h1
              rw [← h1, hq] at h2
              cases h2) args us hlen hargs
            rw [hp] at this; exact this
          have hnd := h.nodupKs ks hks hap
          obtain ⟨g, ar, hcal, hfn, hcalls⟩ := hS f az rv hspec Sl w us (fpKs γ ks) _ h.sh hreps hnd (fun k hk => ⟨(hfp1 k hk).1, h.kp.apart (hfp1 k hk).2⟩) h.kp.now
          refine ⟨g, ar, hcal, hfn, hcalls.mono fun e w' he => ?_⟩
          obtain ⟨u, rfl, Sl', p1, p2, r1, r2, kp, ext, hres, houts, hn12, hrange⟩ := he
          refine ⟨u, rfl, ?_⟩
          -- before the call
          obtain ⟨γ1, c1, K1⟩ := Con.kills ks γ s h hap (ob := ob) (fun o x _ hx => hob o x hx)
          have hqsnd : qs.Nodup := hro.1.nodup (apart_nodup hap)
          obtain ⟨c2, K2⟩ := Con.blanks (bx := bx) (s := s) hbx qs _ c1 (fun b hb => hks0 _ (hqs _ hb).1) (fun b => .inl (by rw [K1.bx]))
          have hval : qs.map γ.valK = qs.map γ1.valK := by
            refine List.map_congr_left fun K hK => ?_
            cases K with
            | obj o => exact absurd rfl ((hqs _ hK).2 o)
            | box b => simp [Gam.valK, K1.b]
            | fx r => simp [Gam.valK, K1.f]
          rw [hval] at houts
          obtain ⟨n1, n2, n3⟩ := List.nodup_append.1 hn12
          have hlive2 : ∀ K, Live (applyM (blanks bx qs) (applyM (kills ob ks) s)).boxes (applyM (blanks bx qs) (applyM (kills ob ks) s)).objs (applyM (blanks bx qs) (applyM (kills ob ks) s)).fxs K → Live s.boxes s.objs s.fxs K := by
            intro K hK
            cases K with
            | box b =>
              by_cases hb : Key.box b ∈ qs
              · exact hks _ (hqs _ hb).1
              · have hK : (applyM (blanks bx qs) (applyM (kills ob ks) s)).boxes b ≠ none := hK
                rw [K2.no b hb, K1.bx] at hK; exact hK
            | obj o =>
              have hK : (applyM (blanks bx qs) (applyM (kills ob ks) s)).objs o ≠ none := hK
              rw [K2.ob] at hK; exact K1.live o hK
            | fx r =>
              have hK : (applyM (blanks bx qs) (applyM (kills ob ks) s)).fxs r ≠ none := hK
              rw [K2.fx, K1.fx] at hK; exact hK
          have hfpK1 : ∀ K, (∀ o, K ≠ .obj o) → γ1.fpK K = γ.fpK K := by
            intro K hK
            cases K with
            | obj o => exact absurd rfl (hK o)
            | box b => simp [Gam.fpK, K1.b]
            | fx r => simp [Gam.fpK, K1.fp]
          have hrest : ∀ K k, Live s.boxes s.objs s.fxs K → K ∉ qs → k ∈ γ1.fpK K → k ∉ fpKs γ ks ∧ k ∈ γ.fpK K := by
            intro K k hK hq hk
            by_cases hKo : ∃ o, K = .obj o
            · obtain ⟨o, rfl⟩ := hKo
              by_cases hin : Key.obj o ∈ ks
              · have := K1.gone o hin (hks0 _ hin)
                simp [Gam.fpK, this] at hk
              · have e1 : γ1.fpK (.obj o) = γ.fpK (.obj o) := by simp [Gam.fpK, (K1.rest o hin).1]
                rw [e1] at hk
                refine ⟨fun hf => ?_, hk⟩
                obtain ⟨K', hK', hk'⟩ := mem_fpKs.1 hf
                exact hin (h.dj (.obj o) K' k hK (hks K' hK') hk hk' ▸ hK')
            · have hno : ∀ o, K ≠ .obj o := fun o e => hKo ⟨o, e⟩
              rw [hfpK1 K hno] at hk
              refine ⟨fun hf => ?_, hk⟩
              obtain ⟨K', hK', hk'⟩ := mem_fpKs.1 hf
              have := h.dj K K' k hK (hks K' hK') hk hk'
              subst this
              exact hq (hro.2 K hK' hno)
          have hxp : RpOK (fun _ => True) 0 X B := fun g hg => absurd hg (Nat.not_lt_zero _)
          obtain ⟨fpn, q, O, hq, ⟨mm, hmm⟩, habs⟩ := after_ok (E := E) (X := X) (B := B) (w0 := w0) (Sl0 := Sl0) (Ex := Ex) (a := a) (w' := w') (Sl' := Sl') (γ := γ1) hxp qs rv.2 m0 news bs fs p2 r2 hafter houts n2 hqsnd
          -- the call
          obtain ⟨c3, mv3⟩ := c2.world (w' := w') (Sl' := Sl') (fp := fpKs γ ks) (qs := qs) (fpn := fpn) (fx2 := (applyM fs (applyM (blanks bx qs) (applyM (kills ob ks) s))).fxs) kp ext (fun k hk => (hfp1 k hk).2)
            (fun K k hK hq hk => (hrest K k (hlive2 K hK) hq hk).1) (fun o ho => (hqs _ ho).2 o rfl)
            (fun b cs hb hcs => by
              obtain ⟨_, vs, e, k1, k2, k3, k4⟩ := O.bx b hb
              have hbl : bx b ≠ none := hks0 _ (hqs _ hb).1
              cases hbc : bx b with
              | none => exact absurd hbc hbl
              | some cs0 =>
                obtain ⟨cs', j1, j2, j3⟩ := K2.yes b cs0 hb (by rw [K1.bx]; exact hbx b cs0 hbc)
                rw [j1] at hcs
                injection hcs with hcs
                subst hcs
                exact ⟨j3, vs, e, k1, (k2 cs0 hbc).trans j2.symm, k3, k4⟩)
            (fun r hr => by rw [K2.fx, K1.fx]; exact hks _ (hqs _ hr).1)
            (fun r hr => by
              obtain ⟨x, k1, k2, k3, k4⟩ := O.fx r hr
              exact ⟨x, k1 _, k2, k3, fun k hk => ⟨(k4 k hk).1, (hrange k (List.mem_append_right _ (k4 k hk).2)).2⟩⟩)
            (fun r hr => (O.mem _).2.2.2 r hr) O.ff O.fb
          have hs3 : applyM fs (applyM (blanks bx qs) (applyM (kills ob ks) s)) = { applyM (blanks bx qs) (applyM (kills ob ks) s) with fxs := (applyM fs (applyM (blanks bx qs) (applyM (kills ob ks) s))).fxs } := by
            obtain ⟨e1, e2, e3, _⟩ := O.mem (applyM (blanks bx qs) (applyM (kills ob ks) s))
            generalize applyM fs (applyM (blanks bx qs) (applyM (kills ob ks) s)) = s3 at e1 e2 e3 ⊢
            cases s3
            simp only at e1 e2 e3
            subst e1 e2 e3
            rfl
          rw [← hs3] at c3
          generalize hS2 : applyM (blanks bx qs) (applyM (kills ob ks) s) = s2 at *
          generalize hS3 : applyM fs s2 = s3 at *
          have hlive3 : ∀ K, Live s3.boxes s3.objs s3.fxs K → Live s.boxes s.objs s.fxs K := by
            intro K hK
            rw [hs3] at hK
            cases K with
            | box b => exact hlive2 (.box b) hK
            | obj o => exact hlive2 (.obj o) hK
            | fx r =>
              by_cases hr : Key.fx r ∈ qs
              · exact hks _ (hqs _ hr).1
              · have := (O.mem s2).2.2.2 r hr
                rw [hS3] at this
                exact hlive2 (.fx r) (by show s2.fxs r ≠ none; rw [← this]; exact hK)
          -- whose block is one of those that came back
          have owner : ∀ K k, Live s3.boxes s3.objs s3.fxs K → k ∈ (γ1.setFs qs fpn).fpK K → (w.heap.size ≤ k ∨ k ∈ fpKs γ ks) → (∃ b, Key.box b ∈ qs ∧ k = γ1.b b) ∨ ∃ r, Key.fx r ∈ qs ∧ k ∈ fpn r := by
            intro K k hK hk hnew
            have hKl := hlive3 K hK
            by_cases hq' : K ∈ qs
            · cases K with
              | obj o => exact absurd rfl ((hqs _ hq').2 o)
              | box b => exact .inl ⟨b, hq', by simpa [Gam.fpK, Gam.setFs] using hk⟩
              | fx r => exact .inr ⟨r, hq', by simpa [Gam.fpK, Gam.setFs, hq'] using hk⟩
            · exfalso
              have hk1 : k ∈ γ1.fpK K := by
                cases K with
                | obj o => exact hk
                | box b => exact hk
                | fx r => simpa [Gam.fpK, Gam.setFs, hq'] using hk
              obtain ⟨h1, h2⟩ := hrest K k hKl hq' hk1
              rcases hnew with h3 | h3
              · have := h.fp_lt hKl h2; omega
              · exact h1 h3
          have isNew : ∀ {k}, (w.heap.size ≤ k ∨ k ∈ fpKs γ ks) → B ≤ k ∨ X k := fun hk => hk.elim (fun h1 => .inl (Nat.le_trans h.hB h1)) fun h1 => (hfp1 _ h1).2
          have hbase : 10000000 ≤ baseOf nm := by unfold baseOf; omega
          have hrr : InR (baseOf nm) m0 wr := by have := unA_range rv.1 (baseOf nm); rw [hu] at this; exact this
          have hfr : Fresh s (wr ++ news) := fresh_of nbx nob nfx hbase (hrr.append hmm) hfresh
          have hfr3 : Fresh s3 (wr ++ news) := fun m hm hl => hfr m hm (hlive3 _ hl)
          have hun1 : (unA (baseOf nm) rv.1).2.1 = wr := by rw [hu]
          have hun0 : (unA (baseOf nm) rv.1).1 = y := by rw [hu]
          obtain ⟨γ4, g4, v4, _⟩ := absorbA hxp rv.1 (baseOf nm) u p1 r1 _ _ c3 hres n1 (fun k hk => isNew (hrange k (List.mem_append_left _ hk)).2) (fun K k hK hk hk' => by
            rcases owner K k hK hk' (hrange k (List.mem_append_left _ hk)).2 with ⟨b, hb, rfl⟩ | ⟨r, hr, hk2⟩
            · exact n3 _ hk _ (O.bx b hb).1 rfl
            · obtain ⟨x, _, _, _, k4⟩ := O.fx r hr
              exact n3 k hk k (k4 k hk2).2 rfl) (by rw [hun1]; exact fun m hm => hfr3 m (List.mem_append_left _ hm))
          rw [hun1] at g4 v4
          rw [hun0] at v4
          obtain ⟨γ5, g5, hcells⟩ := habs γ4 _ g4.con (fun k hk => isNew (hrange k (List.mem_append_right _ (hq k hk).1)).2) (fun K k hK hk hk' => by
            obtain ⟨k1, k2, k3⟩ := hq k hk
            rcases g4.fp K k hK hk' with h3 | h3
            · rcases owner K k h3.1 h3.2 (hrange k (List.mem_append_right _ k1)).2 with ⟨b, hb, e⟩ | ⟨r, hr, hk2⟩
              · exact k2 b hb e
              · exact k3 r hr hk2
            · exact n3 k h3 k k1 rfl) (hfr3.next hrr hmm)
          obtain ⟨c6, m6⟩ := Con.recells bs _ g5.con fun m hm => by
            obtain ⟨b, ys, k1, k2, vs, e, k3, k4, k5⟩ := hcells m hm
            have hb3 : s3.boxes b ≠ none := by
              have : s3.boxes = s2.boxes := by rw [hs3]
              rw [this]
              have hbl : bx b ≠ none := hks0 _ (hqs _ k2).1
              cases hbc : bx b with
              | none => exact absurd hbc hbl
              | some cs0 =>
                obtain ⟨cs', j1, _, _⟩ := K2.yes b cs0 k2 (by rw [K1.bx]; exact hbx b cs0 hbc)
                rw [j1]; simp
            have hb4 := g4.mv.b b hb3
            have hb5 := g5.mv.b b hb4.1
            exact ⟨b, ys, k1, hb5.1, vs, e, by rw [hb5.2, hb4.2]; exact k3, k4, k5⟩
          refine ⟨γ5, Sl', ?_, ?_⟩
          · rw [applyM_append, applyM_append, hS2, applyM_append, hS3, applyM_append, applyM_append]
            exact c6
          · rw [applyM_append, applyM_append, hS2, applyM_append, hS3, applyM_append, applyM_append]
            exact (v4.move g5.mv).move m6
        · exact (Tree.run_fail hr).elim
      · exact (Tree.run_fail hr).elim
  · exact (Tree.run_fail hr).elim
end
end Go.Ev
end
section
namespace Go.Ev
open Go.RowKit
variable {I : Nat → Type}
theorem flatCs_length : ∀ (xs : List (CV I)), (flatCs xs).length = xs.length
  | [] => rfl
  | x :: xs => by simp only [flatCs, List.length_cons]; rw [flatCs_length xs]
theorem flatAs_length : ∀ (xs : List (AV I)), (flatAs xs).length = xs.length
  | [] => rfl
  | x :: xs => by simp only [flatAs, List.length_cons]; rw [flatAs_length xs]
section
variable {P : Program} {E : Env I} {sp : Nat → List (AV I) → Tree (RV I)} {X : Nat → Prop} {B : Nat} {w0 : World} {Sl0 : Nat → Nat → Prop} {Ex : Value → AV I → Prop} {γ : Gam} {Sl Sl' : Nat → Nat → Prop} {s : AS I} {a : Act} {w w' : World} {bx : Nat → Option (List (CV I))} {ob : Nat → Option (Obj I)} {fx : Nat → Option (I 1000003)} {X0 : Nat → Prop} {B0 : Nat}
mutual
theorem flatC_rep (hE : EnvOK P E) {bx : Nat → Option (List (CV I))} {ob : Nat → Option (Obj I)} {fx : Nat → Option (I 1000003)} : ∀ (x : CV I) (v : Value) (fp : List Nat) (rs : List Value), PRep E Sl w (fun _ => True) 0 v x fp rs → CRep E Sl w X B γ bx ob fx v (flatC x)
  | .d x, v, fp, rs, h => by cases h with | d _ _ h => exact .d _ _ h
  | .ow t xs, v, fp, rs, h => by cases h with | ow _ _ _ vals ti ht hown hr hk => exact .d _ _ (own_sl hE ht hown hr hk)
  | .rp cs off, v, fp, rs, h => by
    cases h with
    | rp _ _ g o hc =>
      refine .rp cs off g o fun j y hj => ?_
      obtain ⟨u, h1, h2, h3⟩ := hc j y hj
      exact ⟨u, h1, h2, h3.imp (fun hx => absurd hx.1 (Nat.not_lt_zero _)) id⟩
  | .io _ _, v, fp, rs, h => .d _ _ (.any _ (prep_one h))
  | .fd _, v, fp, rs, h => .d _ _ (.any _ (prep_one h))
  | .rq _ _, v, fp, rs, h => .d _ _ (.any _ (prep_one h))
  | .clo f p c, v, fp, rs, h => by
    cases h with
    | clo _ fs cs _ _ p1 p2 r1 r2 h1 h2 =>
      refine .clo f fs cs _ _ ?_ ?_ (fun i x hi => ?_) (fun i x hi => ?_)
      · have := hps_length h1; rw [flatCs_length]; simpa using this
      · have := hps_length h2; rw [flatCs_length]; simpa using this
      · rw [show fs.getD i undef = fs.toList.getD i undef by simp [Array.getD_eq_getD_getElem?, List.getD_eq_getElem?_getD]]
        exact flatCs_rep hE p fs.toList p1 r1 h1 i x hi
      · rw [show cs.getD i undef = cs.toList.getD i undef by simp [Array.getD_eq_getD_getElem?, List.getD_eq_getElem?_getD]]
        exact flatCs_rep hE c cs.toList p2 r2 h2 i x hi
  | .mth f c, v, fp, rs, h => by
    cases h with
    | mth _ vs _ _ _ h1 =>
      refine .mth f vs _ ?_ (fun i x hi => ?_)
      · have := hps_length h1; rw [flatCs_length]; simpa using this
      · rw [show vs.getD i undef = vs.toList.getD i undef by simp [Array.getD_eq_getD_getElem?, List.getD_eq_getElem?_getD]]
        exact flatCs_rep hE c vs.toList fp rs h1 i x hi
  | .own _ _, v, fp, rs, h => by cases h
  | .ptr _ _, v, fp, rs, h => by cases h
  | .fx _, v, fp, rs, h => by cases h
theorem flatCs_rep (hE : EnvOK P E) {bx : Nat → Option (List (CV I))} {ob : Nat → Option (Obj I)} {fx : Nat → Option (I 1000003)} : ∀ (xs : List (CV I)) (us : List Value) (fp : List Nat) (rs : List Value), PReps E Sl w (fun _ => True) 0 us xs fp rs → ∀ i x, (flatCs xs)[i]? = some x → CRep E Sl w X B γ bx ob fx (us.getD i undef) x
  | [], us, fp, rs, h, i, x, hi => by simp [flatCs] at hi
  | y :: xs, us, fp, rs, h, i, x, hi => by
    cases h with
    | cons v us _ _ p1 p2 r1 r2 h1 h2 =>
      cases i with
      | zero =>
        simp [flatCs] at hi; subst hi
        simpa using flatC_rep hE y v p1 r1 h1
      | succ i =>
        simp [flatCs] at hi
        simpa using flatCs_rep hE xs us p2 r2 h2 i x hi
end
mutual
theorem flatA_rep (hE : EnvOK P E) {bx : Nat → Option (List (CV I))} {ob : Nat → Option (Obj I)} {fx : Nat → Option (I 1000003)} : ∀ (x : AV I) (v : Value) (fp : List Nat) (rs : List Value), ARep E Sl w (fun _ => True) 0 v x fp rs → VRep E Sl w X B γ bx ob fx v (flatA x)
  | .c x, v, fp, rs, h => by cases h with | c _ _ _ _ h => exact .c _ _ (flatC_rep hE x v fp rs h)
  | .agg xs, v, fp, rs, h => by
    cases h with
    | agg vs _ _ _ h =>
      refine .agg vs _ ?_ fun i x hi => ?_
      · have := hps_length h; rw [flatCs_length]; simpa using this
      · rw [show vs.getD i undef = vs.toList.getD i undef by simp [Array.getD_eq_getD_getElem?, List.getD_eq_getElem?_getD]]
        exact flatCs_rep hE xs vs.toList fp rs h i x hi
  | .tup xs, v, fp, rs, h => by
    cases h with
    | tup vs _ _ _ h =>
      refine .tup vs _ ?_ fun i x hi => ?_
      · have := ar_length h; rw [flatAs_length]; simpa using this
      · rw [show vs.getD i undef = vs.toList.getD i undef by simp [Array.getD_eq_getD_getElem?, List.getD_eq_getElem?_getD]]
        exact flatAs_rep hE xs vs.toList fp rs h i x hi
  | .any, v, fp, rs, h => .any _
theorem flatAs_rep (hE : EnvOK P E) {bx : Nat → Option (List (CV I))} {ob : Nat → Option (Obj I)} {fx : Nat → Option (I 1000003)} : ∀ (xs : List (AV I)) (us : List Value) (fp : List Nat) (rs : List Value), AReps E Sl w (fun _ => True) 0 us xs fp rs → ∀ i x, (flatAs xs)[i]? = some x → VRep E Sl w X B γ bx ob fx (us.getD i undef) x
  | [], us, fp, rs, h, i, x, hi => by simp [flatAs] at hi
  | y :: xs, us, fp, rs, h, i, x, hi => by
    cases h with
    | cons v us _ _ p1 p2 r1 r2 h1 h2 =>
      cases i with
      | zero =>
        simp [flatAs] at hi; subst hi
        simpa using flatA_rep hE y v p1 r1 h1
      | succ i =>
        simp [flatAs] at hi
        simpa using flatAs_rep hE xs us p2 r2 h2 i x hi
end
theorem argAs_rep (hE : EnvOK P E) (h : Con E X B w0 Sl0 Ex γ Sl s a w) (hbx : ∀ b cs, bx b = some cs → s.boxes b = some cs) (hob : ∀ o y, ob o = some y → s.objs o = some y) : ∀ (xs : List (AV I)) (us : List Value), us.length = xs.length →
    (∀ i x, xs[i]? = some x → VRep E Sl w X B γ s.boxes s.objs s.fxs (us.getD i undef) x) → AReps E Sl w (fun k => k ∈ ([] : List Nat)) w.heap.size us (xs.map (argA bx ob)) [] []
  | [], us, hl, _ => by
    have : us = [] := List.eq_nil_of_length_eq_zero (by simpa using hl)
    subst this
    exact .nil
  | x :: xs, us, hl, hf => by
    cases us with
    | nil => simp at hl
    | cons u us =>
      have r := argAs_rep hE h hbx hob xs us (by simpa using hl) (fun i y hi => by simpa using hf (i + 1) y (by simpa using hi))
      have r0 := argA_rep hE h hbx hob (by simpa using hf 0 x (by simp) : VRep E Sl w X B γ s.boxes s.objs s.fxs u x)
      exact .cons u us _ _ [] [] [] [] r0 r
theorem callF_ok (hE : EnvOK P E) (hS : ∀ f, SpecOK P E sp f) (h : Con E X B w0 Sl0 Ex γ Sl s a w) (hbx : ∀ b cs, bx b = some cs → s.boxes b = some cs) (hob : ∀ o y, ob o = some y → s.objs o = some y)
    {nm : Nat} (nbx : ∀ k, k = nm ∨ 10000000 ≤ k → bx k = none → s.boxes k = none) (nob : ∀ k, k = nm ∨ 10000000 ≤ k → ob k = none → s.objs k = none) (nfx : ∀ k, k = nm ∨ 10000000 ≤ k → fx k = none → s.fxs k = none)
    {cc : Bool} {f : Nat} {args : List (AV I)} {us : List Value} (hlen : us.length = args.length) (hargs : ∀ i x, args[i]? = some x → VRep E Sl w X B γ s.boxes s.objs s.fxs (us.getD i undef) x) {v : AV I} {ws : List (MW I)} (hr : (callF sp cc nm bx ob fx f (args.map (argA bx ob))).run = some (v, ws)) :
    Gives P f us w fun u w' => Post E X B w0 Sl0 Ex (applyM ws s) a v u w' := by
  unfold callF at hr
  rw [Tree.run_bind] at hr
  cases hspec : (sp f (args.map (argA bx ob))).run with
  | none => rw [hspec] at hr; cases hr
  | some rv =>
    rw [hspec] at hr
    simp only [Option.bind_some] at hr
    obtain ⟨g, ar, hcal, hfn, hcalls⟩ := hS f _ rv hspec Sl w us [] [] h.sh (argAs_rep hE h hbx hob args us hlen hargs) List.nodup_nil (fun k hk => by cases hk) h.kp.now
    refine ⟨g, ar, hcal, hfn, hcalls.mono fun e w' he => ?_⟩
    obtain ⟨u, rfl, Sl', p1, p2, r1, r2, kp, ext, hres, houts, hn12, hrange⟩ := he
    refine ⟨u, rfl, ?_⟩
    obtain ⟨n1, n2, n3⟩ := List.nodup_append.1 hn12
    have hblk : ∀ k, k < w.heap.size → w'.heap[k]? = w.heap[k]? := fun k hk => kp.block k hk (by simp)
    have hnew : ∀ g o, Sl' g o → Sl g o ∨ (w.heap.size ≤ g ∧ g < w'.heap.size) := fun g o hs => (ext.n g o hs).imp id fun hx => ⟨hx.1.elim id (fun hf => by cases hf), hx.2⟩
    have hon := h.on kp.os kp.tape kp.output kp.size hblk ext.s hnew
    have hp1 : ∀ k ∈ p1, w.heap.size ≤ k := fun k hk => (hrange k (List.mem_append_left _ hk)).2.elim id fun hf => by cases hf
    obtain ⟨r, os⟩ := rv
    have gen : (callR cc nm bx ob fx r).run = some (v, ws) → Post E X B w0 Sl0 Ex (applyM ws s) a v u w' := by
      clear hr hspec
      intro hr
      unfold callR at hr
      cases cc with
      | true =>
        simp only at hr
        generalize hu : unA (baseOf nm) r = un at hr
        obtain ⟨y, wr, m0⟩ := un
        simp only at hr
        split at hr
        · rename_i hfresh
          have hfin := Tree.run_ret hr
          simp only [Prod.mk.injEq] at hfin
          obtain ⟨rfl, rfl⟩ := hfin
          have hun1 : (unA (baseOf nm) r).2.1 = wr := by rw [hu]
          have hun0 : (unA (baseOf nm) r).1 = y := by rw [hu]
          have hrr : InR (baseOf nm) m0 wr := by have := unA_range r (baseOf nm); rw [hu] at this; exact this
          have hfr : Fresh s wr := fresh_of (fun k hk => nbx k (.inr hk)) (fun k hk => nob k (.inr hk)) (fun k hk => nfx k (.inr hk)) (by unfold baseOf; omega) hrr hfresh
          have hxp : RpOK (fun _ => True) 0 X B := fun g hg => absurd hg (Nat.not_lt_zero _)
          obtain ⟨γ4, g4, v4, _⟩ := absorbA hxp r (baseOf nm) u p1 r1 _ _ hon hres n1 (fun k hk => .inl (Nat.le_trans h.hB (hp1 k hk))) (fun K k hK hk hk' => by have := h.fp_lt hK hk'; have := hp1 k hk; omega) (by rw [hun1]; exact hfr)
          rw [hun1] at g4 v4
          rw [hun0] at v4
          exact ⟨γ4, Sl', g4.con, v4⟩
        · exact (Tree.run_fail hr).elim
      | false =>
        have hfin := Tree.run_ret hr
        simp only [Prod.mk.injEq] at hfin
        obtain ⟨rfl, rfl⟩ := hfin
        exact hon.post (flatA_rep hE r u p1 r1 hres)
    split at hr
    · rename_i t xs heq
      injection heq with e1 e2
      subst e1
      split at hr
      · rename_i hnm
        have hfin := Tree.run_ret hr
        simp only [Prod.mk.injEq] at hfin
        obtain ⟨rfl, rfl⟩ := hfin
        cases hres with
        | c _ _ _ _ hres =>
          cases hres with
          | ow _ _ _ vals ti ht hown hrow hk =>
            exact h.addRow kp.os kp.tape kp.output kp.size hblk ext.s hnew (nob nm (.inl rfl) hnm) ht hown ⟨hown.1, hrow⟩ (fun k hk' => ⟨hp1 k (by simp [hk']), hk k hk'⟩) (ownsRow_slice hown)
      · exact (Tree.run_fail hr).elim
    · rename_i x hno heq
      injection heq with e1 e2
      subst e1
      exact gen hr
    · exact (Tree.run_fail hr).elim
theorem callG_ok (hE : EnvOK P E) (hS : ∀ f, SpecOK P E sp f) (h : Con E X B w0 Sl0 Ex γ Sl s a w) (hbx : ∀ b cs, bx b = some cs → s.boxes b = some cs) (hob : ∀ o y, ob o = some y → s.objs o = some y) (hfx : ∀ r y, fx r = some y → s.fxs r = some y)
    {nm : Nat} (nbx : ∀ k, k = nm ∨ 10000000 ≤ k → bx k = none → s.boxes k = none) (nob : ∀ k, k = nm ∨ 10000000 ≤ k → ob k = none → s.objs k = none) (nfx : ∀ k, k = nm ∨ 10000000 ≤ k → fx k = none → s.fxs k = none)
    {cc : Bool} {f : Nat} {args : List (AV I)} {us : List Value} (hlen : us.length = args.length) (hargs : ∀ i x, args[i]? = some x → VRep E Sl w X B γ s.boxes s.objs s.fxs (us.getD i undef) x) {v : AV I} {ws : List (MW I)} (hr : (callG E sp cc nm bx ob fx f args).run = some (v, ws)) :
    Gives P f us w fun u w' => Post E X B w0 Sl0 Ex (applyM ws s) a v u w' := by
  unfold callG at hr
  split at hr
  · split at hr
    · exact callM_ok hE hS h hbx hob hfx (fun k hk => nbx k (.inr hk)) (fun k hk => nob k (.inr hk)) (fun k hk => nfx k (.inr hk)) hlen hargs hr
    · exact (Tree.run_fail hr).elim
  · exact callF_ok hE hS h hbx hob nbx nob nfx hlen hargs hr
theorem bound_ok {ev : Operand → Value} {ρ : Operand → AV I} (hρ : ∀ x, VRep E Sl w X B γ s.boxes s.objs s.fxs (ev x) (ρ x)) {x : Option Operand} {d : Nat} {i : Int} (h : bound ρ x d = some i) : (x.map ev = none ∧ i = d) ∨ ∃ k, x.map ev = some (.int k i) := by
  unfold bound at h
  split at h
  · injection h with h; exact .inl ⟨rfl, h.symm⟩
  · rename_i x
    split at h
    · rename_i k j hx
      injection h with h
      subst h
      have := hρ x
      rw [hx] at this
      exact .inr ⟨k, by simp [this.ofLit]⟩
    · cases h
theorem bounds_ok (isS : Bool) {len cap : Nat} {lo hi : Option Value} {l h : Int} (hlo : (lo = none ∧ l = (0 : Nat)) ∨ ∃ k, lo = some (.int k l)) (hhi : (hi = none ∧ h = len) ∨ ∃ k, hi = some (.int k h)) (h0 : 0 ≤ l) (h1 : l ≤ h) (h2 : h ≤ len) (hc : len ≤ cap) :
    (Instr.sliceBounds isS len cap lo hi none).run P w = .ok (l.toNat, h.toNat, cap) w := by
  have a1 : ∀ (k : IntKind) (code : BoundsCode), (Instr.sliceBound (.int k h) cap code).run P w = .ok h.toNat w := fun k code => by
    simp only [Instr.sliceBound, asIntOf, Sem.run_bind, Sem.run_pure, Result.andThen_ok]
    rw [if_pos ⟨by omega, by omega⟩, Sem.run_pure]
  have a2 : ∀ (k : IntKind) (code : BoundsCode), (Instr.sliceBound (.int k l) h.toNat code).run P w = .ok l.toNat w := fun k code => by
    simp only [Instr.sliceBound, asIntOf, Sem.run_bind, Sem.run_pure, Result.andThen_ok]
    rw [if_pos ⟨h0, by omega⟩, Sem.run_pure]
  have e0 : ∀ k : IntKind, k = k := fun _ => rfl
  rcases hhi with ⟨rfl, rfl⟩ | ⟨k, rfl⟩ <;> rcases hlo with ⟨rfl, rfl⟩ | ⟨k', rfl⟩
  · simp [Instr.sliceBounds]
  · have := a2 k' .sliceB
    simp only [Int.toNat_natCast] at this
    simp [Instr.sliceBounds, this]
  · simp [Instr.sliceBounds, a1]
  · simp [Instr.sliceBounds, a1, a2]
theorem part_sl (hE : EnvOK P E) {e : Nat} {ei : TI} (he : E.ty e = some ei) {v : Value} {xs : List (I e)} (h : DRep E Sl w v (.sl e xs)) {l k : Nat} (h1 : l ≤ k) (h2 : k ≤ xs.length) :
    ∃ A c, v = .slice A xs.length c ∧ xs.length ≤ c ∧ DRep E Sl w (.slice (if c = l then A else A.map (·.add (l * ei.size))) (k - l) (c - l)) (.sl e ((xs.drop l).take (k - l))) := by
  cases h with
  | sl _ _ A n c g o vs hn hcap hm hA hc hr =>
    subst hn
    refine ⟨A, c, rfl, hcap, ?_⟩
    have hrl : ∀ r, (E.row e r).length = ei.size := fun r => hE.row e ei r he
    have hget : ∀ i x, ((xs.drop l).take (k - l))[i]? = some x → xs[l + i]? = some x := by
      intro i x hi
      rw [List.getElem?_take] at hi
      split at hi
      · rw [List.getElem?_drop] at hi; exact hi
      · cases hi
    refine .sl e _ _ _ _ g (o + l * ei.size) (fun i => vs (l * ei.size + i)) (by simp; omega) (by omega) (by omega) (fun hpos => ?_) (fun i x j y hi hj => ?_) (fun i x j y hi hj => ?_)
    · rw [if_neg (by omega), hA (by omega)]
      simp [add_at]
    · have hg := hget i x hi
      have := hc (l + i) x j y hg hj
      rw [hrl] at this ⊢
      have e1 : o + ((l + i) * ei.size + j) = o + l * ei.size + (i * ei.size + j) := by rw [Nat.add_mul]; omega
      have e2 : (l + i) * ei.size + j = l * ei.size + (i * ei.size + j) := by rw [Nat.add_mul]; omega
      rw [e1, e2] at this
      exact this
    · have hg := hget i x hi
      have := hr (l + i) x j y hg hj
      rw [hrl] at this ⊢
      have e2 : (l + i) * ei.size + j = l * ei.size + (i * ei.size + j) := by rw [Nat.add_mul]; omega
      rw [e2] at this
      exact this
end
end Go.Ev
end
section
namespace Go.Ev
open Go.RowKit
variable {I : Nat → Type}
section
variable {P : Program} {E : Env I} {sp : Nat → List (AV I) → Tree (RV I)} {X : Nat → Prop} {B : Nat} {w0 : World} {Sl0 : Nat → Nat → Prop} {Ex : Value → AV I → Prop} {γ : Gam} {Sl Sl' : Nat → Nat → Prop} {s : AS I} {a : Act} {w w' : World} {bx : Nat → Option (List (CV I))} {ob : Nat → Option (Obj I)} {fx : Nat → Option (I 1000003)}
theorem allCells_ok {us : List Value} {xs : List (AV I)} {cs : List (CV I)} (hl : us.length = xs.length) (h : ∀ (i : Nat) (x : AV I), xs[i]? = some x → ∃ u : Value, us[i]? = some u ∧ VRep E Sl w X B γ s.boxes s.objs s.fxs u x) (hc : allCells xs = some cs) :
    us.length = cs.length ∧ ∀ (i : Nat) (c : CV I), cs[i]? = some c → ∃ u : Value, us[i]? = some u ∧ CRep E Sl w X B γ s.boxes s.objs s.fxs u c := by
  induction xs generalizing us cs with
  | nil => simp [allCells] at hc; subst hc; exact ⟨by simpa using hl, by simp⟩
  | cons x xs ih =>
    cases us with
    | nil => simp at hl
    | cons u us =>
      cases x with
      | c y =>
        simp only [allCells] at hc
        cases hr : allCells xs with
        | none => rw [hr] at hc; cases hc
        | some ds =>
          rw [hr] at hc; simp at hc; subst hc
          obtain ⟨i1, i2⟩ := ih (us := us) (by simpa using hl) (fun i x hi => by have := h (i + 1) x (by simpa using hi); simpa using this) hr
          refine ⟨by simp [i1], fun i c hi => ?_⟩
          cases i with
          | zero =>
            simp at hi; subst hi
            obtain ⟨u', h1, h2⟩ := h 0 (.c y) (by simp)
            simp at h1; subst h1
            exact ⟨u, by simp, h2.ofC⟩
          | succ i => simp at hi; simpa using i2 i c hi
      | _ => simp [allCells] at hc
theorem evOp_sound (hE : EnvOK P E) (hS : ∀ f, SpecOK P E sp f) (h : Con E X B w0 Sl0 Ex γ Sl s a w) (hbx : ∀ b cs, bx b = some cs → s.boxes b = some cs) (hob : ∀ o y, ob o = some y → s.objs o = some y) (hfx : ∀ r y, fx r = some y → s.fxs r = some y)
    {nm : Nat} (nbx : ∀ k, k = nm ∨ 10000000 ≤ k → bx k = none → s.boxes k = none) (nob : ∀ k, k = nm ∨ 10000000 ≤ k → ob k = none → s.objs k = none) (nfx : ∀ k, k = nm ∨ 10000000 ≤ k → fx k = none → s.fxs k = none) {cc : Bool}
    {o : Oper} {op : Op} (ho : o.op = op) {ρ : Operand → AV I} (hρ : ∀ x, VRep E Sl w X B γ s.boxes s.objs s.fxs (a.eval x) (ρ x)) {v : AV I} {ws : List (MW I)} (hr : (evOp E sp cc nm op ρ bx ob fx).run = some (v, ws)) :
    Does P o a w (Post E X B w0 Sl0 Ex (applyM ws s) a v) := by
  have hbn : bx nm = none → s.boxes nm = none := nbx nm (.inl rfl)
  have hon : ob nm = none → s.objs nm = none := nob nm (.inl rfl)
  have pureR : ∀ {x : AV I} {u : Value}, (Tree.ret (x, ([] : List (MW I)))).run = some (v, ws) → (execOp a.eval o).run P w = .ok (.value u) w → VRep E Sl w X B γ s.boxes s.objs s.fxs u x → Does P o a w (Post E X B w0 Sl0 Ex (applyM ws s) a v) := by
    intro x u h1 h2 h3
    have := Tree.run_ret h1
    simp only [Prod.mk.injEq] at this
    obtain ⟨rfl, rfl⟩ := this
    exact does_value h2 (h.post h3)
  cases op with
  | move x => exact pureR hr (by unfold execOp; simp only [ho, Sem.run_pure]) (hρ x)
  | assign x => exact pureR hr (by unfold execOp; simp only [ho, Sem.run_pure]) (hρ x)
  | box t x =>
    simp only [evOp] at hr
    split at hr
    · rename_i cs hb hcs
      have := Tree.run_ret hr
      simp only [Prod.mk.injEq] at this
      obtain ⟨rfl, rfl⟩ := this
      obtain ⟨k1, k2⟩ := (hρ x).cells hcs
      refine does_value (w' := w.alloc (.cells (a.eval x).cells t)) (u := .pointer (some ⟨w.heap.size, 0, none⟩)) ?_ (h.made (hbn hb) k1 k2)
      unfold execOp
      simp only [ho, Instr.box, newVar, newRow, Sem.run_bind, run_newObj_alloc, Result.andThen_ok, Sem.run_pure]
    · exact (Tree.run_fail hr).elim
  | alloc t =>
    simp only [evOp] at hr
    split at hr
    · rename_i ti hb ht
      have := Tree.run_ret hr
      simp only [Prod.mk.injEq] at this
      obtain ⟨rfl, rfl⟩ := this
      obtain ⟨z, hz, hzc⟩ := hE.zeroV ht w
      obtain ⟨k1, k2⟩ := (zero_LR (X := X) (B := B) (γ := γ) (Sl := Sl) (s := s) (w := w) hE ht).back
      rw [← hzc, Array.toArray_toList] at k1 k2
      rw [← hzc]
      refine does_value (w' := w.alloc (.cells z.cells t)) (u := .pointer (some ⟨w.heap.size, 0, none⟩)) ?_ (h.made (hbn hb) k1 k2)
      unfold execOp
      simp only [ho, Instr.alloc, newVar, newRow, Sem.run_bind, hz, run_newObj_alloc, Result.andThen_ok, Sem.run_pure]
    · exact (Tree.run_fail hr).elim
  | load t x =>
    simp only [evOp] at hr
    split at hr
    · rename_i ti ht
      split at hr
      · rename_i y0 hx
        have hv := hρ x
        rw [hx] at hv
        have hc := hv.ofC
        split at hr
        · rename_i b off
          split at hr
          · rename_i cs hb
            obtain ⟨y, h1, h2⟩ := Tree.run_pure (f := fun v => (v, ([] : List (MW I)))) hr
            generalize hF : a.eval x = F at hc
            cases hc with
            | ptr _ _ _ =>
              obtain ⟨u, k1, k2⟩ := load_ok (P := P) (o := 0) hE ht (h.cells (hbx b cs hb)) h1
              rw [Nat.zero_add] at k1
              exact pureR (by rw [← h2]; rfl) (by unfold execOp; simp only [ho, hF, Sem.run_bind, k1, Result.andThen_ok, Sem.run_pure]) k2
          · exact (Tree.run_fail hr).elim
        · rename_i cs off
          obtain ⟨y, h1, h2⟩ := Tree.run_pure (f := fun v => (v, ([] : List (MW I)))) hr
          obtain ⟨g, oo, hF, hc⟩ := rp_cells hc
          obtain ⟨u, k1, k2⟩ := load_ok (P := P) hE ht hc h1
          exact pureR (by rw [← h2]; rfl) (by unfold execOp; simp only [ho, hF, Sem.run_bind, k1, Result.andThen_ok, Sem.run_pure]) k2
        · rename_i cs off
          obtain ⟨y, h1, h2⟩ := Tree.run_pure (f := fun v => (v, ([] : List (MW I)))) hr
          generalize hF : a.eval x = F at hc
          cases hc with
          | rq _ _ g oo vs q1 q2 =>
            obtain ⟨u, k1, k2⟩ := load_ok (P := P) hE ht (o := oo) (g := g) (fun j y hj => ⟨vs j, (q1 j y hj).1, q2 j y hj⟩) h1
            exact pureR (by rw [← h2]; rfl) (by unfold execOp; simp only [ho, hF, Sem.run_bind, k1, Result.andThen_ok, Sem.run_pure]) k2
        · exact (Tree.run_fail hr).elim
      · exact (Tree.run_fail hr).elim
    · exact (Tree.run_fail hr).elim
  | store t x y =>
    simp only [evOp] at hr
    split at hr
    · rename_i ti b off ht hx
      split at hr
      · rename_i cs vs hb hvs
        split at hr
        · rename_i hl
          have := Tree.run_ret hr
          simp only [Prod.mk.injEq] at this
          obtain ⟨rfl, rfl⟩ := this
          have hv := hρ x
          rw [hx] at hv
          have hc := hv.ofC
          generalize hF : a.eval x = F at hc
          cases hc with
          | ptr _ _ _ =>
            obtain ⟨w', k1, k2⟩ := store_ok hE h ht (hbx b cs hb) hvs (hρ y) hl.1 hl.2
            exact does_skip (w' := w') (by unfold execOp; simp only [ho, hF, Sem.run_bind, k1, Result.andThen_ok, Sem.run_pure]) ⟨γ, Sl, k2, .tup #[] [] rfl (by simp)⟩
        · exact (Tree.run_fail hr).elim
      · exact (Tree.run_fail hr).elim
    · exact (Tree.run_fail hr).elim
  | nilCheck x =>
    simp only [evOp] at hr
    have hv := hρ x
    split at hr
    · rename_i y0 hx
      rw [hx] at hv
      have hc := hv.ofC
      split at hr
      · rename_i b off
        generalize hF : a.eval x = F at hc
        cases hc with
        | ptr _ _ hb => exact pureR (u := .pointer (some ⟨γ.b b, off, none⟩)) hr (by unfold execOp; simp only [ho, hF, Sem.run_pure]) (.c _ _ (.ptr b off hb))
      · rename_i cs off
        obtain ⟨g, oo, hF, hc⟩ := rp_cells hc
        exact pureR (u := .pointer (some ⟨g, oo + off, none⟩)) hr (by unfold execOp; simp only [ho, hF, Sem.run_pure]) (by rw [← hF]; exact hv)
      · rename_i cs off
        generalize hF : a.eval x = F at hc hv
        cases hc with
        | rq _ _ g oo vs _ _ => exact pureR (u := .pointer (some ⟨g, oo + off, none⟩)) hr (by unfold execOp; simp only [ho, hF, Sem.run_pure]) hv
      · rename_i f fs cs
        generalize hF : a.eval x = F at hc hv
        cases hc with
        | clo _ fs' cs' _ _ _ _ _ _ => exact pureR hr (by unfold execOp; simp only [ho, hF, Sem.run_pure]) hv
      · rename_i f m
        generalize hF : a.eval x = F at hc hv
        cases hc with
        | mth _ vs _ _ _ => exact pureR hr (by unfold execOp; simp only [ho, hF, Sem.run_pure]) hv
      · exact (Tree.run_fail hr).elim
    · exact (Tree.run_fail hr).elim
  | binOp op t x y ty =>
    obtain ⟨z, h1, h2⟩ := Tree.run_pure (f := fun v => (v, ([] : List (MW I)))) hr
    obtain ⟨u, k1, k2⟩ := binT_ok (P := P) (ox := x) (oy := y) hE (hρ x) (hρ y) h1
    refine pureR (by rw [← h2]; rfl) ?_ k2
    unfold execOp
    simp only [ho]
    rw [Sem.run_bind, k1, Result.andThen_ok, Sem.run_pure]
  | unOp op t x =>
    obtain ⟨z, h1, h2⟩ := Tree.run_pure (f := fun v => (v, ([] : List (MW I)))) hr
    obtain ⟨u, k1, k2⟩ := un_ok (P := P) (hρ x) h1
    exact pureR (by rw [← h2]; rfl) (by unfold execOp; simp only [ho, Sem.run_bind, k1, Result.andThen_ok, Sem.run_pure]) k2
  | convert src dst x =>
    simp only [evOp] at hr
    split at hr
    · rename_i si ti k0 n hs ht hx
      have hv := hρ x
      rw [hx] at hv
      have hF := hv.ofLit
      split at hr
      · rename_i k htd
        obtain ⟨ds, hds, _⟩ := hE.desc hs
        obtain ⟨dd, hdd, hdt⟩ := hE.desc ht
        rw [htd] at hdt
        have hdk : dd = .int k := by
          cases dd <;> simp [tdOf] at hdt
          rw [hdt]
        subst hdk
        refine pureR (u := .int k (k.wrap n)) hr ?_ (.c _ _ (.d _ _ (.lit _ rfl)))
        unfold execOp
        simp only [ho, hF]
        unfold Go.convert
        simp only [Sem.run_bind, run_underlying hds, run_underlying hdd, Result.andThen_ok, Conv.intToInt, Sem.run_pure]
      · exact (Tree.run_fail hr).elim
    · exact (Tree.run_fail hr).elim
  | fieldAddr t x f =>
    simp only [evOp] at hr
    split at hr
    · rename_i off fi hf
      split at hr
      · exact (Tree.run_fail hr).elim
      · rename_i hz
        have hv := hρ x
        split at hr
        · rename_i y0 hx
          rw [hx] at hv
          have hc := hv.ofC
          split at hr
          · rename_i b oo
            generalize hF : a.eval x = F at hc
            cases hc with
            | ptr _ _ hb => exact pureR (u := .pointer (some ⟨γ.b b, oo + off, none⟩)) hr (by unfold execOp; simp only [ho, hF, Sem.run_bind, fieldAt_ok hE hf hz, Result.andThen_ok, Sem.run_pure]) (.c _ _ (.ptr b (oo + off) hb))
          · rename_i cs oo
            generalize hF : a.eval x = F at hc
            cases hc with
            | rp _ _ g o' hcc => exact pureR (u := .pointer (some ⟨g, o' + (oo + off), none⟩)) hr (by unfold execOp; simp only [ho, hF, Sem.run_bind, fieldAt_ok hE hf hz, Result.andThen_ok, Sem.run_pure, Nat.add_assoc]) (.c _ _ (.rp cs (oo + off) g o' hcc))
          · rename_i cs oo
            generalize hF : a.eval x = F at hc
            cases hc with
            | rq _ _ g o' vs q1 q2 => exact pureR (u := .pointer (some ⟨g, o' + (oo + off), none⟩)) hr (by unfold execOp; simp only [ho, hF, Sem.run_bind, fieldAt_ok hE hf hz, Result.andThen_ok, Sem.run_pure, Nat.add_assoc]) (.c _ _ (.rq cs (oo + off) g o' vs q1 q2))
          · exact (Tree.run_fail hr).elim
        · exact (Tree.run_fail hr).elim
    · exact (Tree.run_fail hr).elim
  | field t x f =>
    simp only [evOp] at hr
    split at hr
    · rename_i off fi cs hf hx
      obtain ⟨z, h1, h2⟩ := Tree.run_pure (f := fun v => (v, ([] : List (MW I)))) hr
      have hv := hρ x
      rw [hx] at hv
      generalize hF : a.eval x = F at hv
      cases hv with
      | agg vs _ hl hc =>
        obtain ⟨fs, fl, q1, q2, q3, q4⟩ := hE.field hf
        obtain ⟨u, k1, k2⟩ := part_ok hE q4 hl hc h1
        refine pureR (by rw [← h2]; rfl) ?_ k2
        unfold execOp
        simp only [ho, hF, Instr.field, Sem.run_bind, run_underlying q1 w, Result.andThen_ok, q2, asAgg, Sem.run_pure, q3, k1]
    · exact (Tree.run_fail hr).elim
  | indexAddr t x y =>
    simp only [evOp] at hr
    split at hr
    · rename_i e ei he
      split at hr
      · rename_i xs k i hx hy
        rcases Tree.run_ite hr with ⟨h0, hr⟩ | ⟨_, hr⟩
        · rcases Tree.run_ite hr with ⟨hlt, hr⟩ | ⟨_, hr⟩
          · obtain ⟨hu, hte⟩ := hE.elem he
            have hd := elems_rep hE h hob hx (hρ x)
            have hi := hρ y
            rw [hy] at hi
            have hie := hi.ofLit
            generalize hF : a.eval x = F at hd
            cases hd with
            | sl _ _ A n c g o' vs hn hcap hm hA hc hrr =>
              have hpos : 0 < n := by omega
              have hiN : i.toNat < xs.length := by omega
              have hget : xs[i.toNat]? = some (xs.getD i.toNat (E.dflt e)) := by
                rw [List.getD_eq_getElem?_getD, List.getElem?_eq_getElem hiN]; rfl
              have hrl := hE.row e ei (xs.getD i.toNat (E.dflt e)) hte
              refine pureR (u := .pointer (some ⟨g, (o' + i.toNat * ei.size) + 0, none⟩)) hr ?_ (.c _ _ (.rp _ 0 g (o' + i.toNat * ei.size) fun j z hj => ?_))
              · unfold execOp
                simp only [ho, hF, hie, Instr.indexAt, asIntOf, Sem.run_bind, Sem.run_pure, Result.andThen_ok, run_underlying hu w, hA hpos]
                rw [if_pos ⟨h0, by omega⟩]
                simp only [Sem.run_bind, hE.sizeOf hte w, Result.andThen_ok, Sem.run_pure, add_at, Nat.add_zero]
              · have h1 := hc i.toNat _ j z hget hj
                have h2 := hrr i.toNat _ j z hget hj
                rw [hrl] at h1 h2
                exact ⟨_, by rw [Nat.add_assoc]; exact h1.1, h2, .inr (by rw [Nat.add_assoc]; exact h1.2)⟩
          · exact (Tree.run_fail hr).elim
        · exact (Tree.run_fail hr).elim
      · exact (Tree.run_fail hr).elim
    · exact (Tree.run_fail hr).elim
  | index t x y =>
    simp only [evOp] at hr
    split at hr
    · rename_i ti st k i ht hx hy
      split at hr
      · rename_i htd
        obtain ⟨D, hD, hDt⟩ := hE.desc ht
        rw [htd] at hDt
        cases D <;> simp [tdOf] at hDt
        have e1 := hρ x; rw [hx] at e1; have e1 := e1.ofLit
        have e2 := hρ y; rw [hy] at e2; have e2 := e2.ofLit
        rcases Tree.run_ite hr with ⟨h0, hr⟩ | ⟨_, hr⟩
        · rcases Tree.run_ite hr with ⟨hlt, hr⟩ | ⟨_, hr⟩
          · have hN : i.toNat < st.size := by omega
            refine pureR hr ?_ (VRep.lit rfl)
            unfold execOp
            have hg : st[i.toNat]? = some (st[i.toNat]'hN) := by simp [hN]
            simp only [ho, e1, e2, Instr.index, asIntOf, Sem.run_bind, Sem.run_pure, Result.andThen_ok, run_underlying hD w, h0, if_true, hg, bt, hN, dif_pos]
          · exact (Tree.run_fail hr).elim
        · exact (Tree.run_fail hr).elim
      · exact (Tree.run_fail hr).elim
    · exact (Tree.run_fail hr).elim
  | extract x i =>
    simp only [evOp] at hr
    split at hr
    · rename_i vs hx
      split at hr
      · rename_i z hz
        have hv := hρ x
        rw [hx] at hv
        generalize hF : a.eval x = F at hv
        cases hv with
        | tup us _ hl hc =>
          have hlt : i < us.size := by rw [hl]; exact (List.getElem?_eq_some_iff.1 hz).1
          have := hc i z hz
          simp [Array.getD_eq_getD_getElem?, hlt] at this
          exact pureR (u := us[i]) hr (by unfold execOp; simp [ho, hF, Instr.extract, hlt]) this
      · exact (Tree.run_fail hr).elim
    · exact (Tree.run_fail hr).elim
  | makeFunc fn first caps =>
    cases fn with
    | func f =>
      simp only [evOp] at hr
      split at hr
      · rename_i m hm1 hm2
        have ef : first.toList.map ρ = [.agg m] := hm1
        have ec : caps.toList.map ρ = [] := hm2
        have hcaps : caps = #[] := by
          have : caps.toList = [] := by simpa using ec
          rw [← Array.toArray_toList (xs := caps), this]
        obtain ⟨z, hz1, hz2⟩ : ∃ z, first = #[z] ∧ ρ z = .agg m := by
          cases hl : first.toList with
          | nil => rw [hl] at ef; cases ef
          | cons z r =>
            rw [hl] at ef
            simp only [List.map_cons, List.cons.injEq] at ef
            have hr0 : r = [] := by simpa using ef.2
            exact ⟨z, by rw [← Array.toArray_toList (xs := first), hl, hr0], ef.1⟩
        subst hcaps; subst hz1
        have hv := hρ z
        rw [hz2] at hv
        generalize hF : a.eval z = F at hv
        cases hv with
        | agg vs _ hl hc =>
          refine pureR (u := .func (.func f) #[.agg vs] #[]) hr ?_ (.c _ _ (.mth f vs m hl hc))
          unfold execOp
          simp only [ho, Instr.makeFunc, Sem.run_bind, Sem.run_pure, Result.andThen_ok, List.map_toArray, List.map_cons, List.map_nil, hF]
      · split at hr
        · rename_i c1 c2 h1 h2
          have e1 : ∀ (l : Array Operand), ∀ (i : Nat) (x : AV I), (l.toList.map ρ)[i]? = some x → ∃ u : Value, (l.map a.eval).toList[i]? = some u ∧ VRep E Sl w X B γ s.boxes s.objs s.fxs u x := by
            intro l i x hi
            simp [List.getElem?_map] at hi
            obtain ⟨z, hz, rfl⟩ := hi
            exact ⟨a.eval z, by simp [hz], hρ z⟩
          obtain ⟨l1, r1⟩ := allCells_ok (us := (first.map a.eval).toList) (by simp) (e1 first) h1
          obtain ⟨l2, r2⟩ := allCells_ok (us := (caps.map a.eval).toList) (by simp) (e1 caps) h2
          have getB : ∀ {l : Array Value} {cs : List (CV I)}, (∀ (i : Nat) (c : CV I), cs[i]? = some c → ∃ u : Value, l.toList[i]? = some u ∧ CRep E Sl w X B γ s.boxes s.objs s.fxs u c) → ∀ (i : Nat) (c : CV I), cs[i]? = some c → CRep E Sl w X B γ s.boxes s.objs s.fxs (l.getD i undef) c := by
            intro l cs hh i c hi
            obtain ⟨u, h1, h2⟩ := hh i c hi
            have : l.getD i undef = u := by rw [Array.getD_eq_getD_getElem?, ← Array.getElem?_toList, h1]; rfl
            rw [this]; exact h2
          refine pureR (u := .func (.func f) (first.map a.eval) (caps.map a.eval)) hr ?_ (.c _ _ (.clo f _ _ c1 c2 (by simpa using l1) (by simpa using l2) (getB r1) (getB r2)))
          unfold execOp
          simp only [ho, Instr.makeFunc, Sem.run_bind, Sem.run_pure, Result.andThen_ok]
        · exact (Tree.run_fail hr).elim
    | _ => exact (Tree.run_fail (by simpa [evOp] using hr)).elim
  | build t ps =>
    simp only [evOp] at hr
    split at hr
    · rename_i ti ht
      split at hr
      · rename_i fs hfs
        split at hr
        · rename_i hall
          split at hr
          · rename_i cs hcs
            obtain ⟨u, k1, k2⟩ := build_ok (P := P) (ps := ps) hE ht hfs hall hρ hcs
            exact pureR hr (by unfold execOp; simp only [ho, Sem.run_bind, k1, Result.andThen_ok, Sem.run_pure]) k2
          · exact (Tree.run_fail hr).elim
        · exact (Tree.run_fail hr).elim
      · exact (Tree.run_fail hr).elim
    · exact (Tree.run_fail hr).elim
  | buildSlice t n ps =>
    simp only [evOp] at hr
    split at hr
    · rename_i e ei he
      split at hr
      · rename_i xs hx hn
        split at hr
        · rename_i hh
          have := Tree.run_ret hr
          simp only [Prod.mk.injEq] at this
          obtain ⟨rfl, rfl⟩ := this
          obtain ⟨u, w', k1, k2⟩ := buildSlice_ok hE h hob he a.eval ρ hρ hx (hon hn) hh.1 hh.2.1 hh.2.2
          exact does_value (by unfold execOp; simp only [ho, Sem.run_bind, k1, Result.andThen_ok, Sem.run_pure]) k2
        · exact (Tree.run_fail hr).elim
      · exact (Tree.run_fail hr).elim
    · exact (Tree.run_fail hr).elim
  | call c =>
    obtain ⟨callee, args, tys⟩ := c
    cases callee with
    | value f =>
      have fin : ∀ {fn : Nat} {us : List Value} {fs cs : Array Value}, a.eval f = .func (.func fn) fs cs → us = fs.toList ++ args.toList.map a.eval ++ cs.toList → (Nat.beq fn 1000003) = false →
          Gives P fn us w (fun u w' => Post E X B w0 Sl0 Ex (applyM ws s) a v u w') → Does P o a w (Post E X B w0 Sl0 Ex (applyM ws s) a v) := by
        intro fn us fs cs hF hus hne hg
        obtain ⟨g, ar, hcal, ⟨func, g1, g2, g3⟩, hcalls⟩ := hg
        rcases hcal with ⟨_, rfl, har⟩ | ⟨hcon, _⟩
        · have hbody : func.body.isNone = false := by
            cases hb : func.body with
            | none => rw [hb] at g2; cases g2
            | some _ => rfl
          have hea : fs ++ args.map a.eval ++ cs = ar := by
            apply Array.toList_inj.1
            rw [har, hus]; simp
          refine does_enter (f := g) (args := fs ++ args.map a.eval ++ cs) (w' := w) ?_ (hea ▸ hcalls)
          unfold execOp
          simp only [ho, resolve, hF, Deferred.ofValue, Sem.run_bind, Sem.run_pure, Result.andThen_ok, invoke, callFunc, run_program, g1, g3, Bool.false_eq_true, if_false, hbody]
        · rw [hcon] at hne; exact absurd hne (by decide)
      have argR : ∀ i x, (args.toList.map ρ)[i]? = some x → VRep E Sl w X B γ s.boxes s.objs s.fxs ((args.toList.map a.eval).getD i undef) x := by
        intro i x hi
        rw [List.getElem?_map, Option.map_eq_some_iff] at hi
        obtain ⟨z, hz, rfl⟩ := hi
        have : (args.toList.map a.eval).getD i undef = a.eval z := by simp [List.getD_eq_getElem?_getD, List.getElem?_map, hz]
        rw [this]; exact hρ z
      simp only [evOp] at hr
      split at hr
      · rename_i fn first caps hf
        split at hr
        · exact (Tree.run_fail hr).elim
        · rename_i hne
          have hfv := hρ f
          rw [hf] at hfv
          have hfc := hfv.ofC
          generalize hF : a.eval f = F at hfc
          cases hfc with
          | clo _ fs cs _ _ hfl hcl k1 k2 =>
            refine fin hF rfl hne (callG_ok hE hS h hbx hob hfx nbx nob nfx (us := fs.toList ++ args.toList.map a.eval ++ cs.toList) (by simp [hfl, hcl]) (fun i x hi => ?_) hr)
            rw [List.getElem?_append] at hi
            split at hi
            · rename_i hlt
              rw [List.getElem?_append] at hi
              split at hi
              · rename_i hlt2
                rw [List.getElem?_map, Option.map_eq_some_iff] at hi
                obtain ⟨c, hc, rfl⟩ := hi
                have hlt3 : i < fs.toList.length := by simpa [hfl] using hlt2
                rw [List.getD_eq_getElem?_getD, List.append_assoc, List.getElem?_append_left hlt3, ← List.getD_eq_getElem?_getD]
                exact .c _ _ (getA k1 i c hc)
              · rename_i hge2
                have hge3 : fs.toList.length ≤ i := by simpa [hfl] using hge2
                have hlt4 : i - fs.toList.length < (args.toList.map a.eval).length := by
                  simp only [List.length_append, List.length_map] at hlt
                  simp only [List.length_map, Array.length_toList] at hge3 ⊢
                  simp only [Array.length_toList] at hlt
                  omega
                rw [List.getD_eq_getElem?_getD, List.append_assoc, List.getElem?_append_right hge3, List.getElem?_append_left hlt4, ← List.getD_eq_getElem?_getD]
                refine argR _ x ?_
                have : (first.map (AV.c ·)).length = fs.toList.length := by simp [hfl]
                rw [this] at hi
                exact hi
            · rename_i hge
              rw [List.getElem?_map, Option.map_eq_some_iff] at hi
              obtain ⟨c, hc, rfl⟩ := hi
              have hle : (first.map (AV.c ·) ++ args.toList.map ρ).length = (fs.toList ++ args.toList.map a.eval).length := by simp [hfl]
              rw [hle] at hge hc
              rw [List.getD_eq_getElem?_getD, List.getElem?_append_right (by omega), ← List.getD_eq_getElem?_getD]
              exact .c _ _ (getA k2 _ c hc)
      · rename_i fn m hf
        split at hr
        · exact (Tree.run_fail hr).elim
        · rename_i hne
          have hfv := hρ f
          rw [hf] at hfv
          have hfc := hfv.ofC
          generalize hF : a.eval f = F at hfc
          cases hfc with
          | mth _ vs _ hl k1 =>
            refine fin hF rfl hne (callG_ok hE hS h hbx hob hfx nbx nob nfx (us := (#[Value.agg vs] : Array Value).toList ++ args.toList.map a.eval ++ (#[] : Array Value).toList) (by simp) (fun i x hi => ?_) hr)
            cases i with
            | zero => simp at hi; subst hi; exact .agg vs m hl k1
            | succ i =>
              simp only [List.getElem?_cons_succ] at hi
              have := argR i x hi
              simpa using this
      · rename_i r hf
        have hfv := hρ f
        rw [hf] at hfv
        have hg := callG_ok hE hS h hbx hob hfx nbx nob nfx (us := a.eval f :: args.toList.map a.eval) (by simp) (fun i x hi => by
          cases i with
          | zero => simp at hi; subst hi; simpa using hfv
          | succ i => simp only [List.getElem?_cons_succ] at hi; simpa using argR i x hi) hr
        obtain ⟨g, ar, hcal, ⟨func, g1, g2, g3⟩, hcalls⟩ := hg
        rcases hcal with ⟨hcon, _⟩ | ⟨_, fs, cs, rest, hF, har⟩
        · exact absurd rfl hcon
        · simp only [List.cons.injEq] at hF
          obtain ⟨hF, hrest⟩ := hF
          have hbody : func.body.isNone = false := by
            cases hb : func.body with
            | none => rw [hb] at g2; cases g2
            | some _ => rfl
          have hea : fs ++ args.map a.eval ++ cs = ar := by
            apply Array.toList_inj.1
            rw [har, ← hrest]; simp
          refine does_enter (f := g) (args := fs ++ args.map a.eval ++ cs) (w' := w) ?_ (hea ▸ hcalls)
          unfold execOp
          simp only [ho, resolve, hF, Deferred.ofValue, Sem.run_bind, Sem.run_pure, Result.andThen_ok, invoke, callFunc, run_program, g1, g3, Bool.false_eq_true, if_false, hbody]
      · exact (Tree.run_fail hr).elim
    | invoke r m => exact (Tree.run_fail (by simpa [evOp] using hr)).elim
    | builtin b =>
      cases b with
      | len =>
        simp only [evOp] at hr
        split at hr
        · rename_i x t hargs htys
          split at hr
          · rename_i ti ht
            split at hr
            · rename_i n hn
              have ea : args = #[x] := by rw [← Array.toArray_toList (xs := args), hargs]
              have et : tys = #[t] := by rw [← Array.toArray_toList (xs := tys), htys]
              subst ea; subst et
              refine pureR hr ?_ (VRep.lit rfl)
              unfold execOp
              simp only [ho, resolve, invoke, builtin, Sem.run_bind, Sem.run_pure, Result.andThen_ok, List.map_toArray, List.map_cons, List.map_nil, slen_ok hE h hob ht (hρ x) hn]
            · exact (Tree.run_fail hr).elim
          · exact (Tree.run_fail hr).elim
        · exact (Tree.run_fail hr).elim
      | append =>
        simp only [evOp] at hr
        split at hr
        · rename_i sx x t t2 hargs htys
          split at hr
          · rename_i e ei hbq he
            have et2 : t = t2 := Nat.eq_of_beq_eq_true hbq
            subst et2
            have ea : args = #[sx, x] := by rw [← Array.toArray_toList (xs := args), hargs]
            have et : tys = #[t, t] := by rw [← Array.toArray_toList (xs := tys), htys]
            subst ea; subst et
            obtain ⟨hu, hte⟩ := hE.elem he
            have run_of : ∀ {r : Value → World → Prop} {u1 u2 : Value}, a.eval sx = u1 → a.eval x = u2 → (∃ v' w', (Builtin.append_ #[t, t] o.type #[u1, u2]).run P w = .ok v' w' ∧ r v' w') → Does P o a w r := by
              intro r u1 u2 h1 h2 ⟨v', w', k1, k2⟩
              refine does_value (w' := w') (u := v') ?_ k2
              unfold execOp
              simp only [ho, resolve, invoke, builtin, Sem.run_bind, Sem.run_pure, Result.andThen_ok, List.map_toArray, List.map_cons, List.map_nil, h1, h2, k1]
            unfold appendT at hr
            split at hr
            · rename_i ys ti hel hti
              rw [hte] at hti
              injection hti with hti
              subst hti
              have hd := elems_rep hE h hob hel (hρ x)
              split at hr
              · exact (Tree.run_fail hr).elim
              · rename_i hz
                have hs0 : ei.size ≠ 0 := fun h => hz (.inl h)
                have hb0 : ei.bytes ≠ 0 := fun h => hz (.inr h)
                split at hr
                · rename_i hsx
                  split at hr
                  · rename_i hn
                    rcases Tree.run_ite hr with ⟨hb, hr⟩ | ⟨_, hr⟩
                    · have := Tree.run_ret hr
                      simp only [Prod.mk.injEq] at this
                      obtain ⟨rfl, rfl⟩ := this
                      have hsv := hρ sx
                      rw [hsx] at hsv
                      have hsc := hsv.ofC
                      generalize hF : a.eval sx = F at hsc
                      cases hsc with
                      | d _ _ hdd =>
                        cases hdd
                        exact run_of hF rfl (append_new hE h he hs0 hb0 o.type (hon hn) hd hb)
                    · exact (Tree.run_fail hr).elim
                  · exact (Tree.run_fail hr).elim
                · rename_i oo ver hsx
                  split at hr
                  · rename_i wob hwob
                    split at hr
                    · rename_i hver
                      split at hr
                      · rename_i xs hxs
                        rcases Tree.run_ite hr with ⟨hb, hr⟩ | ⟨_, hr⟩
                        · have := Tree.run_ret hr
                          simp only [Prod.mk.injEq] at this
                          obtain ⟨rfl, rfl⟩ := this
                          have hsv := hρ sx
                          rw [hsx] at hsv
                          have hsc := hsv.ofC
                          have hlive := hob oo wob hwob
                          obtain ⟨wv, wt, wx⟩ := wob
                          obtain ⟨rfl, rfl⟩ := cast?_eq hxs
                          have hvv : wv = ver := Nat.eq_of_beq_eq_true hver
                          subst hvv
                          have hF : a.eval sx = γ.o oo := by
                            generalize a.eval sx = F at hsc
                            cases hsc with
                            | own _ _ _ y hy hle h1 hv =>
                              rw [hlive] at hy
                              injection hy with hy
                              subst hy
                              exact hv rfl
                          exact run_of hF rfl (append_onto hE h he hs0 hb0 o.type hlive hd hb)
                        · exact (Tree.run_fail hr).elim
                      · exact (Tree.run_fail hr).elim
                    · exact (Tree.run_fail hr).elim
                  · exact (Tree.run_fail hr).elim
                · exact (Tree.run_fail hr).elim
            · exact (Tree.run_fail hr).elim
          · exact (Tree.run_fail hr).elim
        · exact (Tree.run_fail hr).elim
      | min =>
        simp only [evOp] at hr
        split at hr
        · rename_i k p k' q hxs
          split at hr
          · rename_i hk
            have ha : args.map a.eval = #[.int k p, .int k' q] := by
              cases hl : args.toList with
              | nil => rw [hl] at hxs; cases hxs
              | cons x r =>
                cases r with
                | nil => rw [hl] at hxs; simp at hxs
                | cons y r =>
                  rw [hl] at hxs
                  simp only [List.map_cons, List.cons.injEq, List.map_eq_nil_iff] at hxs
                  obtain ⟨e1, e2, rfl⟩ := hxs
                  have h1 := hρ x; rw [e1] at h1
                  have h2 := hρ y; rw [e2] at h2
                  rw [← Array.toArray_toList (xs := args), hl]
                  simp [h1.ofLit, h2.ofLit]
            refine pureR hr ?_ (VRep.lit rfl)
            unfold execOp
            simp only [ho, resolve, invoke, builtin, Sem.run_bind, Sem.run_pure, Result.andThen_ok, ha, run_min_int2]
          · exact (Tree.run_fail hr).elim
        · exact (Tree.run_fail hr).elim
      | max =>
        simp only [evOp] at hr
        split at hr
        · rename_i k p k' q hxs
          split at hr
          · rename_i hk
            have ha : args.map a.eval = #[.int k p, .int k' q] := by
              cases hl : args.toList with
              | nil => rw [hl] at hxs; cases hxs
              | cons x r =>
                cases r with
                | nil => rw [hl] at hxs; simp at hxs
                | cons y r =>
                  rw [hl] at hxs
                  simp only [List.map_cons, List.cons.injEq, List.map_eq_nil_iff] at hxs
                  obtain ⟨e1, e2, rfl⟩ := hxs
                  have h1 := hρ x; rw [e1] at h1
                  have h2 := hρ y; rw [e2] at h2
                  rw [← Array.toArray_toList (xs := args), hl]
                  simp [h1.ofLit, h2.ofLit]
            refine pureR hr ?_ (VRep.lit rfl)
            unfold execOp
            simp only [ho, resolve, invoke, builtin, Sem.run_bind, Sem.run_pure, Result.andThen_ok, ha, run_max_int2]
          · exact (Tree.run_fail hr).elim
        · exact (Tree.run_fail hr).elim
      | _ => exact (Tree.run_fail (by simpa [evOp] using hr)).elim
  | slice t x lo hi mx =>
    cases mx with
    | some z => exact (Tree.run_fail (by simpa [evOp] using hr)).elim
    | none =>
      simp only [evOp] at hr
      split at hr
      · rename_i ti ht
        obtain ⟨D, hD, hDt⟩ := hE.desc ht
        split at hr
        · rename_i st htd hx
          rw [htd] at hDt
          cases D <;> simp [tdOf] at hDt
          split at hr
          · rename_i l k hl hk
            rcases Tree.run_ite hr with ⟨h0, hr⟩ | ⟨_, hr⟩
            · rcases Tree.run_ite hr with ⟨h1, hr⟩ | ⟨_, hr⟩
              · rcases Tree.run_ite hr with ⟨h2, hr⟩ | ⟨_, hr⟩
                · have e1 := hρ x; rw [hx] at e1; have e1 := e1.ofLit
                  refine pureR hr ?_ (VRep.lit rfl)
                  unfold execOp
                  have hb := bounds_ok (P := P) (w := w) false (bound_ok hρ hl) (bound_ok hρ hk) h0 h1 h2 (Nat.le_refl _)
                  simp only [ho, e1, Instr.sliceAt, Instr.slice, Sem.run_bind, Sem.run_pure, Result.andThen_ok, run_underlying hD w, Option.map_none, Option.isSome_none, Bool.false_eq_true, if_false, hb]
                · exact (Tree.run_fail hr).elim
              · exact (Tree.run_fail hr).elim
            · exact (Tree.run_fail hr).elim
          · exact (Tree.run_fail hr).elim
        · rename_i e htd
          rw [htd] at hDt
          cases D <;> simp [tdOf] at hDt
          subst hDt
          split at hr
          · rename_i xs ei hxs hei
            split at hr
            · rename_i l k hl hk
              rcases Tree.run_ite hr with ⟨h0, hr⟩ | ⟨_, hr⟩
              · rcases Tree.run_ite hr with ⟨h1, hr⟩ | ⟨_, hr⟩
                · rcases Tree.run_ite hr with ⟨h2, hr⟩ | ⟨_, hr⟩
                  · have hd := elems_rep hE h hob hxs (hρ x)
                    obtain ⟨A, c, e1, e2, e3⟩ := part_sl hE hei hd (l := l.toNat) (k := k.toNat) (by omega) (by omega)
                    refine pureR hr ?_ (.c _ _ (.d _ _ e3))
                    unfold execOp
                    have hb := bounds_ok (P := P) (w := w) true (bound_ok hρ hl) (bound_ok hρ hk) h0 h1 h2 e2
                    simp only [ho, e1, Instr.sliceAt, Instr.slice, Sem.run_bind, Sem.run_pure, Result.andThen_ok, run_underlying hD w, Option.map_none, hb, hE.sizeOf hei w]
                  · exact (Tree.run_fail hr).elim
                · exact (Tree.run_fail hr).elim
              · exact (Tree.run_fail hr).elim
            · exact (Tree.run_fail hr).elim
          · exact (Tree.run_fail hr).elim
        · exact (Tree.run_fail hr).elim
      · exact (Tree.run_fail hr).elim
  | _ => exact (Tree.run_fail (by simpa [evOp] using hr)).elim
end
end Go.Ev
end
section
namespace Go.Ev
open Go.RowKit
variable {I : Nat → Type}
section
variable {P : Program} {E : Env I} {sp : Nat → List (AV I) → Tree (RV I)} {X : Nat → Prop} {B : Nat} {w0 : World} {Sl0 : Nat → Nat → Prop} {Ex Ex' Ex0 : Value → AV I → Prop} {γ : Gam} {Sl Sl' : Nat → Nat → Prop} {s s' : AS I} {a : Act} {w w' : World}
theorem Con.withEx (h : Con E X B w0 Sl0 Ex γ Sl s a w) (hx : ∀ v x, Ex' v x → VRep E Sl w X B γ s.boxes s.objs s.fxs v x) : Con E X B w0 Sl0 Ex' γ Sl s a w := { h with ex := hx }
theorem Con.drew (h : Con E X B w0 Sl0 Ex γ Sl s a w) : Con E X B w0 Sl0 Ex γ Sl s a { w with drawn := w.drawn + 1 } :=
  h.on rfl rfl rfl (Nat.le_refl _) (fun _ _ => rfl) (fun _ _ h => h) (fun _ _ h => .inl h)
theorem applyM_tmps (ws : List (MW I)) : ∀ s : AS I, (applyM ws s).tmps = s.tmps := by
  induction ws with
  | nil => intro s; rfl
  | cons m ws ih => intro s; cases m <;> exact ih _
theorem applyM_putT (dst : Option Nat) (v : AV I) : ∀ (ws : List (MW I)) (s : AS I), applyM ws (putT s dst v) = putT (applyM ws s) dst v := by
  intro ws
  induction ws with
  | nil => intro s; rfl
  | cons m ws ih =>
    intro s
    cases m with
    | box b cs =>
      have : ({ putT s dst v with boxes := upd (putT s dst v).boxes b (some cs) } : AS I) = putT { s with boxes := upd s.boxes b (some cs) } dst v := by cases dst <;> rfl
      show applyM ws _ = putT (applyM ws _) dst v
      rw [this, ih]
    | obj o x =>
      have : ({ putT s dst v with objs := upd (putT s dst v).objs o (some x) } : AS I) = putT { s with objs := upd s.objs o (some x) } dst v := by cases dst <;> rfl
      show applyM ws _ = putT (applyM ws _) dst v
      rw [this, ih]
    | fx o x =>
      have : ({ putT s dst v with fxs := upd (putT s dst v).fxs o (some x) } : AS I) = putT { s with fxs := upd s.fxs o (some x) } dst v := by cases dst <;> rfl
      show applyM ws _ = putT (applyM ws _) dst v
      rw [this, ih]
def exG (Ex0 : Value → AV I → Prop) (gs : Nat → Option (GV I)) (a : Act) : Value → AV I → Prop := fun v x => Ex0 v x ∨ ∃ t g, gs t = some g ∧ a.tmps.getD g.d undef = .bool g.b ∧ v = a.tmps.getD t undef ∧ x = g.v
structure Sub (s' s : AS I) (gs' gs : Nat → Option (GV I)) : Prop where
  t : ∀ t, s'.tmps t = s.tmps t ∨ s'.tmps t = .any
  b : ∀ b cs, s'.boxes b = some cs → s.boxes b = some cs
  o : ∀ o y, s'.objs o = some y → s.objs o = some y
  f : ∀ o y, s'.fxs o = some y → s.fxs o = some y
  g : ∀ t g, gs' t = some g → gs t = some g
theorem viewF_some {α : Type} {p : Nat → Bool} {f : Nat → Option α} {t : Nat} {x : α} (h : viewF none p f t = some x) : f t = some x := by
  unfold viewF at h
  split at h
  · exact h
  · cases h
theorem Sub.view (v : View) (i : Nat) (s : AS I) (gs : Nat → Option (GV I)) : Sub (viewS v i s) s (viewF none (v.tm i) gs) gs := by
  refine ⟨fun t => ?_, fun b cs h => viewF_some h, fun o y h => viewF_some h, fun o y h => viewF_some h, fun t g h => viewF_some h⟩
  show viewF .any (v.tm i) s.tmps t = _ ∨ _
  unfold viewF
  split
  · exact .inl rfl
  · rename_i h; right; show viewF .any (v.tm i) s.tmps t = .any; unfold viewF; rw [h]
theorem opd_rep (h : Con E X B w0 Sl0 Ex γ Sl s a w) {s' : AS I} (ht : ∀ t, s'.tmps t = s.tmps t ∨ s'.tmps t = .any) (x : Operand) : VRep E Sl w X B γ s.boxes s.objs s.fxs (a.eval x) (s'.opd x) := by
  cases x with
  | tmp t =>
    show VRep E Sl w X B γ s.boxes s.objs s.fxs (a.tmps.getD t undef) (s'.tmps t)
    rcases ht t with h1 | h1
    · rw [h1]; exact h.tm t
    · rw [h1]; exact .any _
  | const v => exact av_rep v
  | global g => exact .c _ _ (.d _ _ (.any _ rfl))
  | func f => exact .c _ _ (.clo f #[] #[] [] [] rfl rfl (by simp) (by simp))
theorem lookG_rep {gs gs' : Nat → Option (GV I)} (h : Con E X B w0 Sl0 (exG Ex0 gs a) γ Sl s a w) (hs : Sub s' s gs' gs) {p : Nat → Bool → Bool} (hp : ∀ d b, p d b = true → a.tmps.getD d undef = .bool b) (x : Operand) :
    VRep E Sl w X B γ s.boxes s.objs s.fxs (a.eval x) (lookG gs' s' p x) := by
  cases x with
  | tmp t =>
    simp only [lookG]
    split
    · rename_i g hg
      split
      · rename_i hpp
        exact h.ex _ _ (.inr ⟨t, g, hs.g t g hg, hp _ _ hpp, rfl, rfl⟩)
      · exact opd_rep h hs.t (.tmp t)
    · exact opd_rep h hs.t (.tmp t)
  | const v => exact opd_rep h hs.t (.const v)
  | global g => exact opd_rep h hs.t (.global g)
  | func f => exact opd_rep h hs.t (.func f)
theorem isB_eq {d0 : Nat} {b0 : Bool} {d : Nat} {b : Bool} (h : isB d0 b0 d b = true) : d0 = d ∧ b0 = b := by
  unfold isB at h
  rw [Bool.and_eq_true] at h
  exact ⟨Nat.eq_of_beq_eq_true h.1, by cases b0 <;> cases b <;> simp at h <;> rfl⟩
theorem pickV_ok {t : Bool} {x y v : AV I} {ox oy : Operand} {ux uy : Value} (hx : t = true → VRep E Sl w X B γ s.boxes s.objs s.fxs ux x) (hy : t = false → VRep E Sl w X B γ s.boxes s.objs s.fxs uy y)
    (hoy : ∀ c, oy = .const c → y = av c) (hox : ∀ c, ox = .const c → x = av c) (hr : (pickV t x y ox oy).run = some v) : VRep E Sl w X B γ s.boxes s.objs s.fxs (if t = true then ux else uy) v := by
  unfold pickV at hr
  split at hr
  · rename_i p q
    split at hr
    · have hq := hoy _ rfl
      have hq : q = false := by
        have : (AV.c (CV.d (DV.lit (Value.bool q))) : AV I) = .c (.d (.lit (.bool false))) := hq
        injection this with this; injection this with this; injection this with this; injection this
      subst hq
      have := Tree.run_ret hr; subst this
      cases t
      · rw [if_neg (by simp), (hy rfl).ofLit]; exact VRep.lit rfl
      · rw [if_pos rfl, (hx rfl).ofLit]; exact VRep.lit rfl
    · have hp := hox _ rfl
      have hp : p = true := by
        have : (AV.c (CV.d (DV.lit (Value.bool p))) : AV I) = .c (.d (.lit (.bool true))) := hp
        injection this with this; injection this with this; injection this with this; injection this
      subst hp
      have := Tree.run_ret hr; subst this
      cases t
      · rw [if_neg (by simp), (hy rfl).ofLit]; exact VRep.lit rfl
      · rw [if_pos rfl, (hx rfl).ofLit]; exact VRep.lit rfl
    · have := Tree.run_ret hr; subst this
      cases t
      · rw [if_neg (by simp), (hy rfl).ofLit]; exact VRep.lit rfl
      · rw [if_pos rfl, (hx rfl).ofLit]; exact VRep.lit rfl
  · rcases Tree.run_ite hr with ⟨ht, hr⟩ | ⟨ht, hr⟩
    · have := Tree.run_ret hr; subst this
      rw [if_pos ht]; exact hx ht
    · have := Tree.run_ret hr; subst this
      rw [if_neg ht]; exact hy (by simpa using ht)
theorem class0 (E : Env I) (sp : Nat → List (AV I) → Tree (RV I)) {nm : Nat} {op : Op} (ρ : Operand → AV I) {cc : Bool} (bx bx' : Nat → Option (List (CV I))) (ob ob' : Nat → Option (Obj I)) (fx fx' : Nat → Option (I 1000003)) (h : class_ cc op = 0) : evOp E sp cc nm op ρ bx ob fx = evOp E sp cc nm op ρ bx' ob' fx' := by
  cases op with
  | makeFunc fn a b => cases fn <;> rfl
  | call c =>
    obtain ⟨callee, args, tys⟩ := c
    cases callee with
    | value f => cases cc <;> simp [class_] at h
    | invoke r m => simp [class_] at h
    | builtin b => cases b <;> first | rfl | (simp [class_] at h)
  | _ => first | rfl | (simp [class_] at h)
theorem load_more (E : Env I) (sp : Nat → List (AV I) → Tree (RV I)) {nm : Nat} {op : Op} (ρ : Operand → AV I) {cc : Bool} {bx bx' : Nat → Option (List (CV I))} (ob ob' : Nat → Option (Obj I)) (fx fx' : Nat → Option (I 1000003)) (h : isLd op = true) (hb : ∀ b cs, bx b = some cs → bx' b = some cs)
    {r : AV I × List (MW I)} (hr : (evOp E sp cc nm op ρ bx ob fx).run = some r) : (evOp E sp cc nm op ρ bx' ob' fx').run = some r := by
  cases op with
  | load t a =>
    simp only [evOp] at hr ⊢
    split at hr
    · split at hr
      · split at hr
        · split at hr
          · rename_i cs hcs
            simp only [hb _ _ hcs]
            exact hr
          · cases hr
        · exact hr
        · exact hr
        · cases hr
      · cases hr
    · cases hr
  | _ => simp [isLd] at h
theorem evOpG_sound (hE : EnvOK P E) (hS : ∀ f, SpecOK P E sp f) {gs gs' : Nat → Option (GV I)} (h : Con E X B w0 Sl0 (exG Ex0 gs a) γ Sl s a w) (hs : Sub s' s gs' gs) {p : Nat → Bool → Bool} (hp : ∀ d b, p d b = true → a.tmps.getD d undef = .bool b)
    {cc : Bool} {nm : Nat} {o : Oper} (hnn : class_ cc o.op ≠ 0 → isLd o.op = false → ∀ k, k = nm ∨ 10000000 ≤ k → (s'.boxes k = none → s.boxes k = none) ∧ (s'.objs k = none → s.objs k = none) ∧ (s'.fxs k = none → s.fxs k = none)) {v : AV I} {ws : List (MW I)} (hr : (evOpG E sp cc gs' s' p nm o.op).run = some (v, ws)) :
    Does P o a w (Post E X B w0 Sl0 (exG Ex0 gs a) (applyM ws s) a v) := by
  have gen : ∀ {op : Op}, o.op = op → (evOp E sp cc nm op (lookG gs' s' p) s'.boxes s'.objs s'.fxs).run = some (v, ws) → Does P o a w (Post E X B w0 Sl0 (exG Ex0 gs a) (applyM ws s) a v) := by
    intro op ho hr
    by_cases hc : class_ cc op = 0
    · rw [class0 E sp _ s'.boxes s.boxes s'.objs s.objs s'.fxs s.fxs hc] at hr
      exact evOp_sound hE hS h (fun _ _ h => h) (fun _ _ h => h) (fun _ _ h => h) (fun _ _ h => h) (fun _ _ h => h) (fun _ _ h => h) ho (fun x => lookG_rep h hs hp x) hr
    · cases hld : isLd op with
      | true => exact evOp_sound hE hS h (fun _ _ h => h) (fun _ _ h => h) (fun _ _ h => h) (fun _ _ h => h) (fun _ _ h => h) (fun _ _ h => h) ho (fun x => lookG_rep h hs hp x) (load_more E sp _ s'.objs s.objs s'.fxs s.fxs hld hs.b hr)
      | false => exact evOp_sound hE hS h hs.b hs.o hs.f (fun k hk => (hnn (ho ▸ hc) (ho ▸ hld) k hk).1) (fun k hk => (hnn (ho ▸ hc) (ho ▸ hld) k hk).2.1) (fun k hk => (hnn (ho ▸ hc) (ho ▸ hld) k hk).2.2) ho (fun x => lookG_rep h hs hp x) hr
  generalize ho : o.op = op at hr
  cases op with
  | pick c x y =>
    simp only [evOpG] at hr
    obtain ⟨z, h1, h2⟩ := Tree.run_pure (f := fun v => (v, ([] : List (MW I)))) hr
    simp only [Prod.mk.injEq] at h2
    obtain ⟨rfl, rfl⟩ := h2
    unfold evPick at h1
    split at h1
    · rename_i t hc
      have hcv := lookG_rep h hs hp c
      rw [hc] at hcv
      have hcl := hcv.ofLit
      have fin : ∀ {r : Value}, r = (if t = true then a.eval x else a.eval y) → VRep E Sl w X B γ s.boxes s.objs s.fxs r z → Does P o a w (Post E X B w0 Sl0 (exG Ex0 gs a) (applyM [] s) a z) := by
        intro r hrr hv
        refine does_value (w' := w) (u := r) ?_ (h.post hv)
        unfold execOp
        simp only [ho, hcl, asBool, Sem.run_bind, Sem.run_pure, Result.andThen_ok]
        rw [hrr]
      have lc : ∀ (q : Nat → Bool → Bool) (k : Value), lookG gs' s' q (.const k) = av k := fun q k => rfl
      split at h1
      · rename_i d
        have hd : a.tmps.getD d undef = .bool t := hcl
        refine fin rfl (pickV_ok (fun ht => ?_) (fun ht => ?_) (fun k hk => by subst hk; exact lc _ _) (fun k hk => by subst hk; exact lc _ _) h1)
        · refine lookG_rep h hs (fun e b hb => ?_) x
          rcases Bool.or_eq_true_iff.1 hb with hb | hb
          · exact hp e b hb
          · obtain ⟨rfl, rfl⟩ := isB_eq hb
            rw [hd, ht]
        · refine lookG_rep h hs (fun e b hb => ?_) y
          rcases Bool.or_eq_true_iff.1 hb with hb | hb
          · exact hp e b hb
          · obtain ⟨rfl, rfl⟩ := isB_eq hb
            rw [hd, ht]
      · exact fin rfl (pickV_ok (fun _ => lookG_rep h hs hp x) (fun _ => lookG_rep h hs hp y) (fun k hk => by subst hk; exact lc _ _) (fun k hk => by subst hk; exact lc _ _) h1)
    · exact (Tree.run_fail h1).elim
  | _ => exact gen ho hr
inductive StepR (E : Env I) (sp : Nat → List (AV I) → Tree (RV I)) (cc : Bool) (ops : Array Oper) (o : Oper) (gs : Nat → Option (GV I)) (s : AS I) : AV I → List (MW I) → Option (GV I) → Prop
  | free (x : AV I) (ws : List (MW I)) (hg : o.guard = none) (h : (evOpG E sp cc gs s no2 (o.dst.getD 1000003) o.op).run = some (x, ws)) : StepR E sp cc ops o gs s x ws none
  | spec (x : AV I) (j d : Nat) (b : Bool) (hg : o.guard = some (j, b)) (hd : (ops[j]?).bind (·.dst) = some d) (h : (evOpG E sp cc gs s (isB d b) (o.dst.getD 1000003) o.op).run = some (x, [])) : StepR E sp cc ops o gs s .any [] (some ⟨d, b, x⟩)
  | yes (x : AV I) (ws : List (MW I)) (j d : Nat) (b : Bool) (hg : o.guard = some (j, b)) (hd : (ops[j]?).bind (·.dst) = some d) (ht : s.tmps d = .c (.d (.lit (.bool b)))) (h : (evOpG E sp cc gs s (isB d b) (o.dst.getD 1000003) o.op).run = some (x, ws)) : StepR E sp cc ops o gs s x ws none
  | no (j d : Nat) (b t : Bool) (hg : o.guard = some (j, b)) (hd : (ops[j]?).bind (·.dst) = some d) (ht : s.tmps d = .c (.d (.lit (.bool t)))) (hn : t ≠ b) : StepR E sp cc ops o gs s (.tup []) [] none
  | gone (j d : Nat) (b : Bool) (hg : o.guard = some (j, b)) (hd : (ops[j]?).bind (·.dst) = some d) (ht : s.tmps d = .tup []) : StepR E sp cc ops o gs s (.tup []) [] none
theorem know_id {s : AS I} {d : Nat} {b : Bool} (h : s.tmps d = .c (.d (.lit (.bool b)))) : know s d b = s := by
  have : upd s.tmps d (.c (.d (.lit (.bool b)))) = s.tmps := by
    funext k
    rw [upd_eq]
    split
    · rename_i e; rw [e, h]
    · rfl
  unfold know
  rw [this]
theorem view_tm {v : View} {i : Nat} {s : AS I} {d : Nat} {x : AV I} (h : (viewS v i s).tmps d = x) (hx : x ≠ .any) : s.tmps d = x := by
  have h : viewF .any (v.tm i) s.tmps d = x := h
  unfold viewF at h
  split at h
  · exact h
  · exact absurd h.symm hx
theorem chk1_run {wb : Option Nat} {t : Tree (AV I × List (MW I))} {r : AV I × List (MW I)} (h : (chk1 wb t).run = some r) : t.run = some r ∧ ∀ d, wb = some d → ∀ m ∈ r.2, nameM m = d := by
  cases wb with
  | none => exact ⟨h, fun d hd => by cases hd⟩
  | some e =>
    simp only [chk1, Tree.run_bind] at h
    cases hr : t.run with
    | none => rw [hr] at h; cases h
    | some q =>
      rw [hr] at h
      simp only [Option.bind_some] at h
      split at h
      · rename_i hall
        have := Tree.run_ret h
        subst this
        refine ⟨rfl, fun d hd m hm => ?_⟩
        injection hd with hd
        subst hd
        exact Nat.eq_of_beq_eq_true (List.all_eq_true.1 hall m hm)
      · cases h
theorem chk_run {wb : Option Nat} {nw : List Nat} {t : Tree (AV I × List (MW I))} {r : AV I × List (MW I)} (h : (chk wb nw t).run = some r) : t.run = some r ∧ (∀ d, wb = some d → ∀ m ∈ r.2, nameM m = d) ∧ ∀ m ∈ r.2, nameM m ∉ nw := by
  unfold chk at h
  split at h
  · obtain ⟨h1, h2⟩ := chk1_run h
    exact ⟨h1, h2, fun m _ hm => by cases hm⟩
  · rw [Tree.run_bind] at h
    cases hr : (chk1 wb t).run with
    | none => rw [hr] at h; cases h
    | some q =>
      rw [hr] at h
      simp only [Option.bind_some] at h
      split at h
      · rename_i hall
        have := Tree.run_ret h
        subst this
        obtain ⟨h1, h2⟩ := chk1_run hr
        refine ⟨h1, h2, fun m hm hk => ?_⟩
        have := List.all_eq_true.1 (List.all_eq_true.1 hall m hm) _ hk
        simp at this
      · cases h
theorem way_some {led : Bool} {t : AV I} {r : Tree (AV I × List (MW I))} {x : AV I} (h : way led t r = some x) : r = .ret (x, []) := by
  unfold way at h
  split at h
  · split at h
    · cases h
    · cases h
    · injection h with h; subst h; rfl
  · cases h
theorem evOps_cons {cc : Op → Bool} {v : View} {ops : Array Oper} {o : Oper} {rest : List Oper} {i : Nat} {gs : Nat → Option (GV I)} {s s' : AS I} (h : (evOps E sp cc v ops (o :: rest) i gs s).run = some s') :
    ∃ x ws g, StepR E sp (cc o.op) ops o (viewF none (v.tm i) gs) (viewS v i s) x ws g ∧ (∀ d, v.wb i = some d → ∀ m ∈ ws, nameM m = d) ∧ (∀ m ∈ ws, nameM m ∉ v.nw i) ∧ (evOps E sp cc v ops rest (i + 1) (putG gs o.dst g) (applyM ws (putT s o.dst x))).run = some s' := by
  simp only [evOps] at h
  split at h
  · rename_i hg
    rw [Tree.run_bind] at h
    cases hr : (chk (v.wb i) (v.nw i) (evOpG E sp (cc o.op) (viewF none (v.tm i) gs) (viewS v i s) no2 (o.dst.getD 1000003) o.op)).run with
    | none => rw [hr] at h; cases h
    | some r =>
      rw [hr] at h
      obtain ⟨c1, c2, c3⟩ := chk_run hr
      exact ⟨r.1, r.2, none, .free _ _ hg c1, c2, c3, h⟩
  · rename_i j b hg
    split at h
    · rename_i d hd
      split at h
      · rename_i x hx
        have hx := way_some hx
        refine ⟨.any, [], some ⟨d, b, x⟩, .spec x j d b hg hd (by rw [hx]; rfl), fun _ _ m hm => (by cases hm), fun m hm => (by cases hm), h⟩
      · split at h
        · rename_i t ht
          rcases Tree.run_ite h with ⟨htb, h⟩ | ⟨htb, h⟩
          · subst htb
            have hk := know_id (view_tm ht (by simp))
            rw [Tree.run_bind, hk] at h
            cases hr : (chk (v.wb i) (v.nw i) (evOpG E sp (cc o.op) (viewF none (v.tm i) gs) (viewS v i s) (isB d t) (o.dst.getD 1000003) o.op)).run with
            | none => rw [hr] at h; cases h
            | some r =>
              rw [hr] at h
              obtain ⟨c1, c2, c3⟩ := chk_run hr
              exact ⟨r.1, r.2, none, .yes _ _ j d t hg hd ht c1, c2, c3, h⟩
          · have hk : know s d (!b) = s := know_id (by rw [view_tm ht (by simp)]; cases t <;> cases b <;> simp_all)
            rw [hk] at h
            exact ⟨.tup [], [], none, .no j d b t hg hd ht htb, fun _ _ m hm => (by cases hm), fun m hm => (by cases hm), h⟩
        · rename_i ht
          exact ⟨.tup [], [], none, .gone j d b hg hd ht, fun _ _ m hm => (by cases hm), fun m hm => (by cases hm), h⟩
        · cases h
    · cases h
end
end Go.Ev
end
section
namespace Go.Ev
open Go.RowKit
variable {I : Nat → Type}
section
variable {P : Program} {E : Env I} {sp : Nat → List (AV I) → Tree (RV I)} {X : Nat → Prop} {B : Nat} {w0 : World} {Sl0 : Nat → Nat → Prop} {Ex Ex' Ex0 : Value → AV I → Prop} {γ : Gam} {Sl Sl' : Nat → Nat → Prop} {s s' : AS I} {a : Act} {w w' : World}
theorem put_size (a : Act) (dst : Option Nat) (u : Value) : (a.put dst u).tmps.size = a.tmps.size := by cases dst <;> simp [Act.put]
theorem put_getD (a : Act) (dst : Option Nat) (u : Value) (t : Nat) (h : dst ≠ some t) : (a.put dst u).tmps.getD t undef = a.tmps.getD t undef := by
  cases dst with
  | none => rfl
  | some d =>
    have : d ≠ t := fun e => h (by rw [e])
    simp [Act.put, Array.getD_eq_getD_getElem?, Array.getElem?_setIfInBounds_ne this]
theorem put_same (a : Act) (d : Nat) (u : Value) (h : d < a.tmps.size) : (a.put (some d) u).tmps.getD d undef = u := by
  simp [Act.put, Array.getD_eq_getD_getElem?, Array.getElem?_setIfInBounds, h]
theorem yield_of {ops : Array Oper} {j d : Nat} (hd : (ops[j]?).bind (·.dst) = some d) {t : Bool} (h : a.tmps.getD d undef = .bool t) : yielded ops a.tmps j = some t := by
  unfold yielded
  rw [hd]
  have : a.tmps[d]? = some (.bool t) := by
    rw [Array.getD_eq_getD_getElem?] at h
    cases hq : a.tmps[d]? with
    | none => rw [hq] at h; cases h
    | some u => rw [hq] at h; simp at h; rw [h]
  simp [this]
theorem of_yield {ops : Array Oper} {j d : Nat} (hd : (ops[j]?).bind (·.dst) = some d) {t : Bool} (h : yielded ops a.tmps j = some t) : a.tmps.getD d undef = .bool t := by
  unfold yielded at h
  rw [hd] at h
  cases hq : a.tmps[d]? with
  | none => rw [Option.bind_some, hq] at h; cases h
  | some u =>
    rw [Option.bind_some, hq] at h
    cases u <;> simp at h
    subst h
    rw [Array.getD_eq_getD_getElem?, hq]; rfl
theorem region_step (hE : EnvOK P E) (hS : ∀ f, SpecOK P E sp f) {ops : Array Oper} {o : Oper} {i : Nat} (ho : ops[i]? = some o) {gs gs' : Nat → Option (GV I)} (h : Con E X B w0 Sl0 (exG Ex0 gs a) γ Sl s a w) (hs : Sub s' s gs' gs)
    {cc : Bool} (hnn : class_ cc o.op ≠ 0 → isLd o.op = false → ∀ k, k = o.dst.getD 1000003 ∨ 10000000 ≤ k → (s'.boxes k = none → s.boxes k = none) ∧ (s'.objs k = none → s.objs k = none) ∧ (s'.fxs k = none → s.fxs k = none))
    (hdst : ∀ d, o.dst = some d → d < a.tmps.size) (hgd : ∀ t g, gs t = some g → o.dst ≠ some g.d) (hgu : ∀ j b d, o.guard = some (j, b) → (ops[j]?).bind (·.dst) = some d → o.dst ≠ some d)
    {x : AV I} {ws : List (MW I)} {g : Option (GV I)} (hst : StepR E sp cc ops o gs' s' x ws g) {Q : Exit → Act → World → Prop} {K : Act → World → Prop}
    (hK : ∀ a1 w1 γ1 Sl1, a1.tmps.size = a.tmps.size → Con E X B w0 Sl0 (exG Ex0 (putG gs o.dst g) a1) γ1 Sl1 (applyM ws (putT s o.dst x)) a1 w1 → K a1 w1) : wpOp P ops Q i K a w := by
  -- no speculation is made
  have plain : ∀ {x : AV I} {ws : List (MW I)} {u : Value} {w1 : World} {γ1 : Gam} {Sl1 : Nat → Nat → Prop}, Con E X B w0 Sl0 (exG Ex0 gs a) γ1 Sl1 (applyM ws s) a w1 → VRep E Sl1 w1 X B γ1 (applyM ws s).boxes (applyM ws s).objs (applyM ws s).fxs u x →
      Con E X B w0 Sl0 (exG Ex0 (putG gs o.dst none) (a.put o.dst u)) γ1 Sl1 (applyM ws (putT s o.dst x)) (a.put o.dst u) w1 := by
    intro x ws u w1 γ1 Sl1 hc hv
    have hp := hc.put hdst hv
    rw [applyM_putT]
    refine hp.withEx fun v y hex => ?_
    rcases hex with hex | ⟨t, g, h1, h2, h3, h4⟩
    · exact hp.ex v y (.inl hex)
    have hold : gs t = some g ∧ o.dst ≠ some t := by
      cases hd : o.dst with
      | none => rw [hd] at h1; exact ⟨h1, by simp⟩
      | some d =>
        rw [hd] at h1
        simp only [putG, upd_eq] at h1
        split at h1
        · cases h1
        · rename_i hne; exact ⟨h1, fun e => hne (by injection e with e; exact e.symm)⟩
    rw [put_getD a o.dst u g.d (hgd t g hold.1)] at h2
    rw [put_getD a o.dst u t hold.2] at h3
    exact hp.ex v y (.inr ⟨t, g, hold.1, h2, h3, h4⟩)
  have does : ∀ {p : Nat → Bool → Bool} {x : AV I} {ws : List (MW I)}, (∀ d b, p d b = true → a.tmps.getD d undef = .bool b) → (evOpG E sp cc gs' s' p (o.dst.getD 1000003) o.op).run = some (x, ws) →
      ∀ K : Act → World → Prop, (∀ u w1 γ1 Sl1, Con E X B w0 Sl0 (exG Ex0 gs a) γ1 Sl1 (applyM ws s) a w1 → VRep E Sl1 w1 X B γ1 (applyM ws s).boxes (applyM ws s).objs (applyM ws s).fxs u x → K (a.put o.dst u) w1) → o.wp P a w K Q := by
    intro p x ws hp hr K hK
    have hd := evOpG_sound hE hS h hs hp hnn hr Q
    refine Oper.wp_mono (fun a1 w1 hh => ?_) hd
    obtain ⟨u, rfl, γ1, Sl1, hc, hv⟩ := hh
    exact hK u w1 γ1 Sl1 hc hv
  unfold wpOp
  simp only [ho]
  cases hst with
  | free x ws hg hr =>
    have hw : Region.wanted o (yielded ops a.tmps) = true := by simp [Region.wanted, hg]
    rw [if_pos hw]
    exact .inl (does (p := no2) (fun _ _ hh => by cases hh) hr K fun u w1 γ1 Sl1 hc hv => hK _ _ _ _ (put_size _ _ _) (plain hc hv))
  | spec x j d b hg hd hr =>
    have hne := hgu j b d hg hd
    by_cases hw : Region.wanted o (yielded ops a.tmps) = true
    · rw [if_pos hw]
      have hb : a.tmps.getD d undef = .bool b := of_yield hd (by simpa [Region.wanted, hg] using hw)
      refine .inl (does (p := isB d b) (fun e c hh => by obtain ⟨rfl, rfl⟩ := isB_eq hh; exact hb) hr K fun u w1 γ1 Sl1 hc hv => hK _ _ γ1 Sl1 (put_size _ _ _) ?_)
      have hc1 := plain (x := .any) (u := u) hc (.any _)
      refine hc1.withEx fun v y hex => ?_
      rcases hex with hex | ⟨t, g, h1, h2, h3, h4⟩
      · exact hc1.ex v y (.inl hex)
      cases hdd : o.dst with
      | none =>
        rw [hdd] at h1 h2 h3 hc1
        exact hc1.ex v y (.inr ⟨t, g, h1, h2, h3, h4⟩)
      | some dd =>
        rw [hdd] at h1
        simp only [putG, upd_eq] at h1
        split at h1
        · rename_i e
          injection h1 with h1
          subst h1
          subst e
          have hput := put_same a t u (hdst t hdd)
          rw [hdd, hput] at h3
          rw [h3, h4]
          rw [applyM_putT]
          exact hv
        · rename_i hnt
          have hex' := hc1.ex v y (.inr ⟨t, g, ?_, h2, h3, h4⟩)
          · rw [hdd] at hex'; exact hex'
          rw [hdd]
          simp only [putG, upd_eq]
          rw [if_neg hnt]
          exact h1
    · rw [if_neg hw]
      refine hK _ _ γ Sl (put_size _ _ _) ?_
      have hc1 := plain (ws := []) (x := .any) (u := undef) h (.any _)
      refine hc1.withEx fun v y hex => ?_
      rcases hex with hex | ⟨t, g, h1, h2, h3, h4⟩
      · exact hc1.ex v y (.inl hex)
      cases hdd : o.dst with
      | none =>
        rw [hdd] at h1 h2 h3 hc1
        exact hc1.ex v y (.inr ⟨t, g, h1, h2, h3, h4⟩)
      | some dd =>
        rw [hdd] at h1
        simp only [putG, upd_eq] at h1
        split at h1
        · rename_i e
          injection h1 with h1
          subst h1
          rw [put_getD a o.dst undef d hne] at h2
          exact absurd (by simp [Region.wanted, hg, yield_of hd h2]) hw
        · rename_i hnt
          have hex' := hc1.ex v y (.inr ⟨t, g, ?_, h2, h3, h4⟩)
          · rw [hdd] at hex'; exact hex'
          rw [hdd]
          simp only [putG, upd_eq]
          rw [if_neg hnt]
          exact h1
  | yes x ws j d b hg hd ht hr =>
    have hb : a.tmps.getD d undef = .bool b := by
      have := opd_rep h hs.t (.tmp d)
      rw [show s'.opd (.tmp d) = s'.tmps d from rfl, ht] at this
      exact this.ofLit
    have hw : Region.wanted o (yielded ops a.tmps) = true := by simp [Region.wanted, hg, yield_of hd hb]
    rw [if_pos hw]
    exact .inl (does (p := isB d b) (fun e c hh => by obtain ⟨rfl, rfl⟩ := isB_eq hh; exact hb) hr K fun u w1 γ1 Sl1 hc hv => hK _ _ _ _ (put_size _ _ _) (plain hc hv))
  | no j d b t hg hd ht hn =>
    have hb : a.tmps.getD d undef = .bool t := by
      have := opd_rep h hs.t (.tmp d)
      rw [show s'.opd (.tmp d) = s'.tmps d from rfl, ht] at this
      exact this.ofLit
    have hw : ¬ Region.wanted o (yielded ops a.tmps) = true := by simp [Region.wanted, hg, yield_of hd hb, hn]
    rw [if_neg hw]
    exact hK _ _ _ _ (put_size _ _ _) (plain (ws := []) h (.tup #[] [] rfl (by simp)))
  | gone j d b hg hd ht =>
    have hb : ∀ t, a.tmps.getD d undef ≠ .bool t := by
      intro t hh
      have := opd_rep h hs.t (.tmp d)
      rw [show s'.opd (.tmp d) = s'.tmps d from rfl, ht] at this
      rw [show a.eval (.tmp d) = a.tmps.getD d undef from rfl, hh] at this
      cases this
    have hw : ¬ Region.wanted o (yielded ops a.tmps) = true := by
      intro hw
      have : yielded ops a.tmps j = some b := by simpa [Region.wanted, hg] using hw
      exact hb b (of_yield hd this)
    rw [if_neg hw]
    exact hK _ _ _ _ (put_size _ _ _) (plain (ws := []) h (.tup #[] [] rfl (by simp)))
theorem plainOk_spec {n : Nat} {ops : Array Oper} (h : plainOk n ops.toList = true) {i : Nat} {o : Oper} (ho : ops[i]? = some o) :
    n ≤ 1000000 ∧ (∀ d, o.dst = some d → d < n) ∧ ∀ j b, o.guard = some (j, b) → j < i ∧ ∃ d, (ops[j]?).bind (·.dst) = some d ∧ ∀ k q, ops[k]? = some q → k ≠ j → q.dst ≠ some d := by
  unfold plainOk at h
  rw [Bool.and_eq_true] at h
  have hn := Nat.le_of_ble_eq_true h.1
  have h := h.2
  have h1 := List.all_eq_true.1 h (o, i) (by
    rw [List.mem_zipIdx_iff_getElem?]; simpa using ho)
  simp only [Bool.and_eq_true] at h1
  refine ⟨hn, fun d hd => ?_, fun j b hg => ?_⟩
  · have := h1.1
    rw [hd] at this
    simpa [Nat.blt_eq] using this
  · have h2 := h1.2
    rw [hg] at h2
    simp only [Bool.and_eq_true, Nat.blt_eq] at h2
    refine ⟨h2.1, ?_⟩
    have h3 := h2.2
    rw [Array.getElem?_toList] at h3
    cases hd : (ops[j]?).bind (·.dst) with
    | none => rw [hd] at h3; cases h3
    | some d =>
      rw [hd] at h3
      refine ⟨d, rfl, fun k q hq hk he => ?_⟩
      have h4 := List.all_eq_true.1 h3 (q, k) (by rw [List.mem_zipIdx_iff_getElem?]; simpa using hq)
      simp only [Bool.or_eq_true, he] at h4
      rcases h4 with h4 | h4
      · exact hk (Nat.eq_of_beq_eq_true h4)
      · simp at h4
theorem ops_text {cc : Op → Bool} (hE : EnvOK P E) (hS : ∀ f, SpecOK P E sp f) {n : Nat} {ops : Array Oper} (hp : plainOk n ops.toList = true) {Q : Exit → Act → World → Prop} :
    ∀ (rest : List Oper) (i : Nat) (gs : Nat → Option (GV I)) (s : AS I) (a : Act) (w : World) (γ : Gam) (Sl : Nat → Nat → Prop), ops.toList.drop i = rest → n ≤ a.tmps.size → Con E X B w0 Sl0 (exG Ex0 gs a) γ Sl s a w →
      (∀ t g, gs t = some g → ∃ j, j < i ∧ ∀ k q, ops[k]? = some q → k ≠ j → q.dst ≠ some g.d) → (evOps E sp cc full ops rest i gs s).run = some s' →
      (∀ a1 w1 γ1 Sl1, a1.tmps.size = a.tmps.size → Con E X B w0 Sl0 Ex0 γ1 Sl1 s' a1 w1 → Q .normal a1 w1) → wpList P ops Q rest a w
  | [], i, gs, s, a, w, γ, Sl, _, _, h, _, hr, hQ => by
    have := Tree.run_ret hr
    subst this
    exact hQ a w γ Sl rfl (h.withEx fun v x hh => h.ex v x (.inl hh))
  | o :: rest, i, gs, s, a, w, γ, Sl, hd, hn, h, hgs, hr, hQ => by
    have ho : ops[i]? = some o := by
      have := congrArg List.head? hd
      simpa [List.head?_drop] using this
    have hrest : ops.toList.drop (i + 1) = rest := by
      have := congrArg List.tail hd
      simpa [List.tail_drop] using this
    obtain ⟨x, ws, g, hst, _, _, hr'⟩ := evOps_cons hr
    obtain ⟨_, p1, p2⟩ := plainOk_spec hp ho
    have e : wpList P ops Q (o :: rest) a w = wpOp P ops Q i (wpList P ops Q rest) a w := by simp [wpOp, ho, wpList]
    rw [e]
    have hsub : Sub (viewS full i s) s (viewF none (full.tm i) gs) gs := Sub.view full i s gs
    refine region_step hE hS ho h hsub (fun _ _ k _ => ⟨fun h => h, fun h => h, fun h => h⟩) (fun d hd => Nat.lt_of_lt_of_le (p1 d hd) hn) (fun t g hg => ?_) (fun j b d hg hd => ?_) hst fun a1 w1 γ1 Sl1 hsz hc => ?_
    · obtain ⟨j, hj, hu⟩ := hgs t g hg
      exact hu i o ho (by omega)
    · obtain ⟨hj, d', hd', hu⟩ := p2 j b hg
      rw [hd] at hd'
      injection hd' with hd'
      subst hd'
      exact hu i o ho (by omega)
    · refine ops_text hE hS hp rest (i + 1) _ _ a1 w1 γ1 Sl1 hrest (by rw [hsz]; exact hn) hc (fun t g' hg' => ?_) hr' (fun a2 w2 γ2 Sl2 h2 hc2 => hQ a2 w2 γ2 Sl2 (h2.trans hsz) hc2)
      have old : gs t = some g' → ∃ j, j < i + 1 ∧ ∀ k q, ops[k]? = some q → k ≠ j → q.dst ≠ some g'.d := fun hh => by
        obtain ⟨j, hj, hu⟩ := hgs t g' hh
        exact ⟨j, by omega, hu⟩
      cases hdd : o.dst with
      | none => rw [hdd] at hg'; exact old hg'
      | some dd =>
        rw [hdd] at hg'
        simp only [putG, upd_eq] at hg'
        split at hg'
        · cases hst with
          | spec x j d b hg hd _ =>
            injection hg' with hg'
            subst hg'
            obtain ⟨hj, d', hd', hu⟩ := p2 j b hg
            rw [hd] at hd'
            injection hd' with hd'
            subst hd'
            exact ⟨j, by omega, hu⟩
          | _ => cases hg'
        · exact old hg'
theorem region_text {cc : Op → Bool} (hE : EnvOK P E) (hS : ∀ f, SpecOK P E sp f) {n : Nat} {ops : Array Oper} {id : Nat} (hp : plainOk n ops.toList = true) {Q : Exit → Act → World → Prop} (hn : n ≤ a.tmps.size) (h : Con E X B w0 Sl0 Ex0 γ Sl s a w)
    (hr : (evOps E sp cc full ops ops.toList 0 (fun _ => none) s).run = some s') (hQ : ∀ a1 w1 γ1 Sl1, a1.tmps.size = a.tmps.size → Con E X B w0 Sl0 Ex0 γ1 Sl1 s' a1 w1 → Q .normal a1 w1) : (Code.region id ops false).wp P Q a w :=
  wp_region_list (ops_text hE hS hp ops.toList 0 (fun _ => none) s a w γ Sl rfl hn (h.withEx fun v x hh => by
    rcases hh with hh | ⟨t, g, hg, _⟩
    · exact h.ex v x hh
    · cases hg) (fun t g hg => by cases hg) hr hQ)
end
end Go.Ev
end
section
namespace Go.Ev
open Go.RowKit
variable {I : Nat → Type}
section
variable {P : Program} {E : Env I} {sp : Nat → List (AV I) → Tree (RV I)} {X : Nat → Prop} {B : Nat} {w0 : World} {Sl0 : Nat → Nat → Prop} {Ex Ex' Ex0 : Value → AV I → Prop} {γ : Gam} {Sl Sl' : Nat → Nat → Prop} {s s' : AS I} {a : Act} {w w' : World}
mutual
theorem scrubC_rep (hE : EnvOK P E) (h : Con E X B w0 Sl0 Ex γ Sl s a w) {kb kf : List Nat} {bx' : Nat → Option (List (CV I))} (hkb : ∀ b, kb.contains b = true → bx' b ≠ none) :
    ∀ (x : CV I) (v : Value), CRep E Sl w X B γ s.boxes s.objs s.fxs v x → CRep E Sl w X B γ bx' (fun _ => none) (keepF kf s.fxs) v (scrubC kb kf s.objs x)
  | .d x, v, hv => by cases hv with | d v x hd => exact .d v x hd
  | .own o ver, v, hv => .d _ _ (settle_rep (ob' := s.objs) (fun _ _ h => h) (h.objRep hE) hv)
  | .ptr b off, v, hv => by
    cases hv with
    | ptr b off hb =>
      simp only [scrubC]
      split
      · rename_i hc; exact .ptr b off (hkb b hc)
      · exact .d _ _ (.any _ rfl)
  | .rp cs off, v, hv => by cases hv with | rp cs off g o hc => exact .rp cs off g o hc
  | .rq cs off, v, hv => by
    cases hv with
    | rq cs off g o vs hc h1 =>
      obtain ⟨l1, r1⟩ := scrubCs_rep (kf := kf) hE h hkb cs vs h1
      refine .rq _ off g o vs (fun j y hj => ?_) r1
      have hlt : j < cs.length := by rw [← l1]; exact (List.getElem?_eq_some_iff.1 hj).1
      exact hc j cs[j] (List.getElem?_eq_getElem hlt)
  | .clo f first caps, v, hv => by
    cases hv with
    | clo f fs cs first caps hf hc h1 h2 =>
      obtain ⟨l1, r1⟩ := scrubCs_rep (kf := kf) hE h hkb first (fun i => fs.getD i undef) h1
      obtain ⟨l2, r2⟩ := scrubCs_rep (kf := kf) hE h hkb caps (fun i => cs.getD i undef) h2
      exact .clo f fs cs _ _ (hf.trans l1.symm) (hc.trans l2.symm) r1 r2
  | .mth f m, v, hv => by
    cases hv with
    | mth f vs m hl h1 =>
      obtain ⟨l1, r1⟩ := scrubCs_rep (kf := kf) hE h hkb m (fun i => vs.getD i undef) h1
      exact .mth f vs _ (hl.trans l1.symm) r1
  | .fx r, v, hv => by
    simp only [scrubC]
    split
    · rename_i hc
      cases hv with | fx _ h h1 => exact .fx r (by simp only [keepF, hc]; exact h) h1
    · exact .d _ _ (.any _ hv.one)
  | .ow _ _, v, hv => by cases hv
  | .io _ _, v, hv => by cases hv
  | .fd _, v, hv => by cases hv
theorem scrubCs_rep (hE : EnvOK P E) (h : Con E X B w0 Sl0 Ex γ Sl s a w) {kb kf : List Nat} {bx' : Nat → Option (List (CV I))} (hkb : ∀ b, kb.contains b = true → bx' b ≠ none) :
    ∀ (xs : List (CV I)) (f : Nat → Value), (∀ i x, xs[i]? = some x → CRep E Sl w X B γ s.boxes s.objs s.fxs (f i) x) →
      (scrubCs kb kf s.objs xs).length = xs.length ∧ ∀ i x, (scrubCs kb kf s.objs xs)[i]? = some x → CRep E Sl w X B γ bx' (fun _ => none) (keepF kf s.fxs) (f i) x
  | [], f, _ => ⟨rfl, fun i x hi => by simp [scrubCs] at hi⟩
  | x :: xs, f, hf => by
    obtain ⟨l, r⟩ := scrubCs_rep (kf := kf) hE h hkb xs (fun i => f (i + 1)) (fun i y hi => hf (i + 1) y (by simpa using hi))
    refine ⟨by simp [scrubCs, l], fun i y hi => ?_⟩
    cases i with
    | zero =>
      simp [scrubCs] at hi
      subst hi
      exact scrubC_rep (kf := kf) hE h hkb x (f 0) (hf 0 x (by simp))
    | succ i =>
      simp [scrubCs] at hi
      exact r i y hi
end
theorem keepT_rep (hE : EnvOK P E) (h : Con E X B w0 Sl0 Ex γ Sl s a w) {kb kf : List Nat} {bx' : Nat → Option (List (CV I))} (hkb : ∀ b, kb.contains b = true → bx' b ≠ none) :
    ∀ (l : List Nat) (t : Nat), VRep E Sl w X B γ bx' (fun _ => none) (keepF kf s.fxs) (a.tmps.getD t undef) (keepT kb kf s l t)
  | [], t => .any _
  | q :: l, t => by
    show VRep _ _ _ _ _ _ _ _ _ _ (upd (keepT kb kf s l) q (scrubA kb kf s.objs (s.tmps q)) t)
    rw [upd_eq]
    split
    · rename_i e
      subst e
      have hv := h.tm t
      generalize s.tmps t = x at hv
      generalize a.tmps.getD t undef = v at hv
      cases hv with
      | c v x hc => exact .c _ _ (scrubC_rep hE h hkb x v hc)
      | agg vs cs hl hc =>
        obtain ⟨l1, r1⟩ := scrubCs_rep (kf := kf) hE h hkb cs (fun i => vs.getD i undef) hc
        exact .agg vs _ (hl.trans l1.symm) r1
      | tup => exact .any _
      | any => exact .any _
    · exact keepT_rep hE h hkb l t
theorem keepB_spec (kb kf : List Nat) (s : AS I) : ∀ (l : List Nat) (b : Nat), keepB kb kf s l b = if b ∈ l then (s.boxes b).map (scrubCs kb kf s.objs) else none
  | [], b => by simp [keepB]
  | q :: l, b => by
    show upd (keepB kb kf s l) q _ b = _
    rw [upd_eq, keepB_spec kb kf s l b]
    by_cases e : b = q
    · subst e; simp
    · simp [e]
theorem liveB_spec (s : AS I) : ∀ (l : List Nat) (b : Nat), b ∈ liveB s l ↔ b ∈ l ∧ s.boxes b ≠ none
  | [], b => by simp [liveB]
  | q :: l, b => by
    simp only [liveB]
    split
    · rename_i cs hq
      rw [List.mem_cons, liveB_spec s l b, List.mem_cons]
      constructor
      · rintro (rfl | h)
        · exact ⟨.inl rfl, by rw [hq]; simp⟩
        · exact ⟨.inr h.1, h.2⟩
      · rintro ⟨rfl | h, h2⟩
        · exact .inl rfl
        · exact .inr ⟨h, h2⟩
    · rename_i hq
      rw [liveB_spec s l b, List.mem_cons]
      constructor
      · exact fun h => ⟨.inr h.1, h.2⟩
      · rintro ⟨rfl | h, h2⟩
        · exact absurd hq h2
        · exact ⟨h, h2⟩
def ExOK (Ex0 : Value → AV I → Prop) (rts : List Nat) : Prop := ∀ v x, Ex0 v x → (∃ b off, x = .c (.ptr b off) ∧ b ∈ rts) ∨ ∃ r, x = .c (.fx r) ∧ r ∈ rts
theorem Con.forget (hE : EnvOK P E) (h : Con E X B w0 Sl0 Ex0 γ Sl s a w) (l bs : List Nat) (hx : ExOK Ex0 bs) :
    Con E X B w0 Sl0 Ex0 γ Sl { tmps := keepT (liveB s bs) bs s l, boxes := keepB (liveB s bs) bs s (liveB s bs), objs := fun _ => none, fxs := keepF bs s.fxs } a w := by
  have hfk : ∀ r, keepF bs s.fxs r ≠ none → s.fxs r ≠ none := fun r hr => by
    unfold keepF at hr
    split at hr
    · exact hr
    · exact absurd rfl hr
  have hkb : ∀ b, (liveB s bs).contains b = true → keepB (liveB s bs) bs s (liveB s bs) b ≠ none := by
    intro b hb
    have hm : b ∈ liveB s bs := by simpa using hb
    rw [keepB_spec, if_pos hm]
    have := ((liveB_spec s bs b).1 hm).2
    cases hq : s.boxes b with
    | none => exact absurd hq this
    | some cs => simp
  have sub : ∀ b, keepB (liveB s bs) bs s (liveB s bs) b ≠ none → s.boxes b ≠ none := by
    intro b hb
    rw [keepB_spec] at hb
    split at hb
    · rename_i hm; exact ((liveB_spec s bs b).1 hm).2
    · exact absurd rfl hb
  have hL : ∀ K, Live (keepB (liveB s bs) bs s (liveB s bs)) (fun _ => none) (keepF bs s.fxs) K → Live s.boxes s.objs s.fxs K := by
    intro K hK
    cases K with
    | box b => exact sub b hK
    | obj o => exact absurd rfl hK
    | fx r => exact hfk r hK
  refine ⟨h.df, fun t => keepT_rep hE h hkb l t, fun v x hex => ?_, fun b cs hb => ?_, (fun o x ho => by cases ho), fun r x hr => h.fx r x (by
    have hr : keepF bs s.fxs r = some x := hr
    unfold keepF at hr
    split at hr
    · exact hr
    · cases hr), fun K k hK => h.mine K k (hL K hK), fun K K' k h1 h2 => h.dj K K' k (hL K h1) (hL K' h2), h.s0, h.s1, h.sh, h.sc, h.kp, h.hB⟩
  · have hv := h.ex v x hex
    rcases hx v x hex with ⟨b, off, rfl, hb⟩ | ⟨r, rfl, hr⟩
    · cases hv with
      | c _ _ hv =>
        cases hv with
        | ptr _ _ hlive =>
          have hm : b ∈ liveB s bs := (liveB_spec s bs b).2 ⟨hb, hlive⟩
          exact .c _ _ (.ptr b off (hkb b (by simpa using hm)))
    · cases hv with
      | c _ _ hv => cases hv with | fx _ h1 h2 => exact .c _ _ (.fx r (by show keepF bs s.fxs r ≠ none; simp only [keepF, show bs.contains r = true by simpa using hr]; exact h1) h2)
  · have hb' : keepB (liveB s bs) bs s (liveB s bs) b = some cs := hb
    rw [keepB_spec] at hb'
    split at hb'
    · cases hq : s.boxes b with
      | none => rw [hq] at hb'; cases hb'
      | some cs0 =>
        rw [hq] at hb'
        simp at hb'
        subst hb'
        obtain ⟨vs, e, c1, c2, c3, c5⟩ := h.bx b cs0 hq
        obtain ⟨l1, r1⟩ := scrubCs_rep hE h hkb cs0 (fun i => vs.getD i undef) c3
        exact ⟨vs, e, c1, c2.trans l1.symm, r1, c5⟩
    · cases hb'
theorem Con.retm (h : Con E X B w0 Sl0 Ex γ Sl s a w) (t : Nat) {x : AV I} (hx : VRep E Sl w X B γ s.boxes s.objs s.fxs (a.tmps.getD t undef) x) : Con E X B w0 Sl0 Ex γ Sl { s with tmps := upd s.tmps t x } a w := by
  refine { h with df := h.df, tm := fun k => ?_ }
  show VRep _ _ _ _ _ _ _ _ _ _ (upd s.tmps t x k)
  rw [upd_eq]
  split
  · rename_i e; subst e; exact hx
  · exact h.tm k
structure Owning (γ γ1 : Gam) (s0 s : AS I) (used : List Nat) : Prop where
  k : ∀ K, (∀ o, K ≠ .obj o) → Live s.boxes s.objs s.fxs K → Live s0.boxes s0.objs s0.fxs K ∧ γ1.fpK K = γ.fpK K
  o : ∀ t, s.objs t ≠ none → (γ1.o t).ownBlock = none ∨ ∃ o, o ∈ used ∧ s0.objs o ≠ none ∧ γ1.o t = γ.o o
theorem ownOf_ok {ok : Nat → Bool} (hok : ∀ e, ok e = true → (E.ty e).isSome = true) {s0 : AS I} (h0 : Con E X B w0 Sl0 Ex γ Sl s0 a w) {used us : List Nat} {x : CV I} {e : Nat} {y : Obj I} {v : Value} (hv : CRep E Sl w X B γ s0.boxes s0.objs s0.fxs v x)
    (h : ownOf ok s0 used (some x) e = some (us, y)) {γ1 : Gam} {s : AS I} (hw : Owning γ γ1 s0 s used) :
    y.ver = 0 ∧ (∃ vals ti, E.ty y.t = some ti ∧ w.ownsRow 0 y.t ti.size v y.xs.length vals ∧ (∀ i r j z, y.xs[i]? = some r → (E.row y.t r)[j]? = some z → ∃ u, vals[i * ti.size + j]? = some u ∧ DRep E Sl w u z) ∧
      ∀ k, v.ownBlock = some k → (B ≤ k ∨ X k) ∧ ∀ j, Sl k j ↔ j < y.xs.length * ti.size) ∧ (∀ K k, Live s.boxes s.objs s.fxs K → v.ownBlock = some k → k ∉ γ1.fpK K) ∧ (v.ownBlock = none ∨ ∃ o, o ∈ us ++ used ∧ s0.objs o ≠ none ∧ v = γ.o o) := by
  unfold ownOf at h
  split at h
  · rename_i o ver hx
    injection hx with hx
    subst hx
    split at h
    · rename_i z hz hused
      split at h
      · rename_i hver
        have hver := Nat.eq_of_beq_eq_true hver
        injection h with h
        simp only [Prod.mk.injEq] at h
        obtain ⟨rfl, rfl⟩ := h
        have hnu : o ∉ used := by simpa using hused
        have hval : v = γ.o o := by
          cases hv with
          | own _ _ _ q hq hle h1 hv =>
            rw [hz] at hq
            injection hq with hq
            subst hq
            exact hv hver
        have hol : Live s0.boxes s0.objs s0.fxs (.obj o) := by show s0.objs o ≠ none; rw [hz]; simp
        subst hval
        obtain ⟨vals, ti, k0, k1, k2, k3⟩ := h0.ob o z hz
        have hin : ∀ {k}, (γ.o o).ownBlock = some k → k ∈ γ.fpK (.obj o) := fun hk => by simp [Gam.fpK, hk]
        refine ⟨rfl, ⟨vals, ti, k0, k1, k2, fun k hk => ⟨h0.mine (.obj o) k hol (hin hk), k3 k hk⟩⟩, fun K k hK hk hkK => ?_, .inr ⟨o, by simp, hol, rfl⟩⟩
        by_cases hKo : ∃ q, K = .obj q
        · obtain ⟨q, rfl⟩ := hKo
          have hkq : (γ1.o q).ownBlock = some k := by simpa [Gam.fpK] using hkK
          rcases hw.o q hK with h1 | ⟨o', h1, h2, h3⟩
          · rw [h1] at hkq; cases hkq
          · rw [h3] at hkq
            have := h0.dj (.obj o) (.obj o') k hol h2 (hin hk) (by simp [Gam.fpK, hkq])
            injection this with this
            exact hnu (this ▸ h1)
        · have hno : ∀ q, K ≠ .obj q := fun q e => hKo ⟨q, e⟩
          obtain ⟨h1, h2⟩ := hw.k K hno hK
          rw [h2] at hkK
          exact hno o (h0.dj (.obj o) K k hol h1 (hin hk) hkK).symm
      · cases h
    · cases h
  · rename_i hx
    injection hx with hx
    subst hx
    split at h
    · rename_i hoke
      injection h with h
      simp only [Prod.mk.injEq] at h
      obtain ⟨rfl, rfl⟩ := h
      have hsome := hok e hoke
      cases hte : E.ty e with
      | none => rw [hte] at hsome; cases hsome
      | some ti =>
        have hval : v = .slice none 0 0 := by
          cases hv with
          | d _ _ hd => cases hd; rfl
        subst hval
        exact ⟨rfl, ⟨[], ti, rfl, World.ownsRow_nil w 0 e ti.size, by simp, fun k hk => (by cases hk)⟩, fun K k _ hk => (by cases hk), .inl rfl⟩
    · cases h
  · cases h
theorem ownIt_sound {ok : Nat → Bool} (hok : ∀ e, ok e = true → (E.ty e).isSome = true) {s0 : AS I} (h0 : Con E X B w0 Sl0 Ex' γ Sl s0 a w) :
    ∀ (l : List (Nat × Nat)) (used : List Nat) (s : AS I) (γ1 : Gam), Con E X B w0 Sl0 Ex γ1 Sl s a w → Owning γ γ1 s0 s used →
      ∃ γ2, Con E X B w0 Sl0 Ex γ2 Sl (ownIt ok s0 l used s).2 a w ∧ Owning γ γ2 s0 (ownIt ok s0 l used s).2 (ownIt ok s0 l used s).1
  | [], used, s, γ1, h, hw => ⟨γ1, h, hw⟩
  | (t, e) :: l, used, s, γ1, h, hw => by
    simp only [ownIt]
    split
    · rename_i us y hnone hown
      cases hone : oneC (s0.tmps t) with
      | none => rw [hone] at hown; simp [ownOf] at hown
      | some x =>
        rw [hone] at hown
        have hx : s0.tmps t = .c x := by
          unfold oneC at hone
          split at hone
          · rename_i hq; injection hone with hone; rw [hq, hone]
          · cases hone
        have hv := h0.tm t
        rw [hx] at hv
        obtain ⟨hver, ⟨vals, ti, k0, k1, k2, k3⟩, hdis, hval⟩ := ownOf_ok hok h0 hv.ofC hown hw
        obtain ⟨yv, yt, yx⟩ := y
        simp only at hver k0 k1 k2 k3
        subst hver
        obtain ⟨c1, m1⟩ := h.obj (nm := t) (x := ⟨0, yt, yx⟩) (v := a.tmps.getD t undef) hnone k0 k1 k2 k3 hdis
        have c2 := c1.retm t (x := .c (.own t 0)) (.c _ _ (.own _ t 0 ⟨0, yt, yx⟩ (by simp [upd_same]) (Nat.le_refl _) (ownsRow_slice k1) fun _ => by simp [Gam.setO]))
        refine ownIt_sound hok h0 l (us ++ used) _ _ c2 ⟨fun K hK hl => ?_, fun q hq => ?_⟩
        · cases K with
          | obj o => exact absurd rfl (hK o)
          | box b => exact hw.k (.box b) hK hl
          | fx r => exact hw.k (.fx r) hK hl
        · by_cases e1 : q = t
          · subst e1
            rcases hval with h1 | ⟨o, h1, h2, h3⟩
            · left; simpa [Gam.setO] using h1
            · right; exact ⟨o, h1, h2, by simp [Gam.setO, h3]⟩
          · have hq' : upd s.objs t (some ⟨0, yt, yx⟩) q ≠ none := hq
            rw [upd_other _ _ _ _ e1] at hq'
            have hg : (γ1.setO t (a.tmps.getD t undef)).o q = γ1.o q := by simp [Gam.setO, e1]
            rw [hg]
            rcases hw.o q hq' with h1 | ⟨o, h1, h2, h3⟩
            · exact .inl h1
            · exact .inr ⟨o, List.mem_append_right _ h1, h2, h3⟩
    · exact ownIt_sound hok h0 l used s γ1 h hw
theorem ownCells_sound {ok : Nat → Bool} (hok : ∀ e, ok e = true → (E.ty e).isSome = true) {s0 : AS I} (h0 : Con E X B w0 Sl0 Ex' γ Sl s0 a w) :
    ∀ (l : List (Nat × Nat × Nat)) (used : List Nat) (s : AS I) (γ1 : Gam), Con E X B w0 Sl0 Ex γ1 Sl s a w → Owning γ γ1 s0 s used →
      ∃ γ2, Con E X B w0 Sl0 Ex γ2 Sl (ownCells ok s0 l used s) a w
  | [], used, s, γ1, h, hw => ⟨γ1, h⟩
  | (b, j, e) :: l, used, s, γ1, h, hw => by
    simp only [ownCells]
    split
    · rename_i cs us y hcs hnone hown
      cases hb0 : s0.boxes b with
      | none => rw [hb0] at hown; simp [ownOf] at hown
      | some cs0 =>
        rw [hb0] at hown
        simp only [Option.bind_some] at hown
        cases hj0 : cs0[j]? with
        | none => rw [hj0] at hown; simp [ownOf] at hown
        | some x =>
          rw [hj0] at hown
          obtain ⟨vs0, e0, d1, d2, d3, d5⟩ := h0.bx b cs0 hb0
          obtain ⟨vs1, e1, c1, c2, c3, c5⟩ := h.bx b cs hcs
          have hbb : γ1.b b = γ.b b := by
            have := (hw.k (.box b) (fun o he => by cases he) (by show s.boxes b ≠ none; rw [hcs]; simp)).2
            simpa [Gam.fpK] using this
          rw [hbb, d1] at c1
          injection c1 with c1
          injection c1 with c1 _ _
          subst c1
          obtain ⟨hver, ⟨vals, ti, k0, k1, k2, k3⟩, hdis, hval⟩ := ownOf_ok hok h0 (d3 j x hj0) hown hw
          obtain ⟨yv, yt, yx⟩ := y
          simp only at hver k0 k1 k2 k3
          subst hver
          obtain ⟨q1, m1⟩ := h.obj (nm := cellName b j) (x := ⟨0, yt, yx⟩) (v := vs0.getD j undef) hnone k0 k1 k2 k3 hdis
          have q2 := q1.recell (b := b) (cs := cs) (ys := cs.set j (.own (cellName b j) 0)) hcs fun vs' e' hg' _ hc' => by
            have hg' : w.heap[γ1.b b]? = some (.cells vs' e' (0, 0)) := hg'
            rw [hbb, d1] at hg'
            injection hg' with hg'
            injection hg' with hg' _ _
            subst hg'
            refine ⟨by rw [List.length_set]; exact c2, fun i z hz => ?_⟩
            rw [List.getElem?_set] at hz
            split at hz
            · rename_i hij
              subst hij
              split at hz
              · injection hz with hz
                subst hz
                exact .own _ (cellName b j) 0 ⟨0, yt, yx⟩ (by simp [upd_same]) (Nat.le_refl _) (ownsRow_slice k1) fun _ => by simp [Gam.setO]
              · cases hz
            · exact hc' i z hz
          refine ownCells_sound hok h0 l (us ++ used) _ _ q2 ⟨fun K hK hl => ?_, fun q hq => ?_⟩
          · cases K with
            | obj o => exact absurd rfl (hK o)
            | fx r => exact hw.k (.fx r) hK hl
            | box b' =>
              refine hw.k (.box b') hK ?_
              have hl : upd s.boxes b (some (cs.set j (.own (cellName b j) 0))) b' ≠ none := hl
              rw [upd_eq] at hl
              split at hl
              · rename_i he; show s.boxes b' ≠ none; rw [he, hcs]; simp
              · exact hl
          · by_cases e1 : q = cellName b j
            · subst e1
              rcases hval with h1 | ⟨o, h1, h2, h3⟩
              · left; simpa [Gam.setO] using h1
              · right; exact ⟨o, h1, h2, by simp [Gam.setO, h3]⟩
            · have hq' : upd s.objs (cellName b j) (some ⟨0, yt, yx⟩) q ≠ none := hq
              rw [upd_other _ _ _ _ e1] at hq'
              have hg : (γ1.setO (cellName b j) (vs0.getD j undef)).o q = γ1.o q := by simp [Gam.setO, e1]
              rw [hg]
              rcases hw.o q hq' with h1 | ⟨o, h1, h2, h3⟩
              · exact .inl h1
              · exact .inr ⟨o, List.mem_append_right _ h1, h2, h3⟩
    · exact ownCells_sound hok h0 l used s γ1 h hw
theorem ownIt_mem (ok : Nat → Bool) (s0 : AS I) : ∀ (l : List (Nat × Nat)) (used : List Nat) (s : AS I), (ownIt ok s0 l used s).2.boxes = s.boxes ∧ ∀ k, k ∉ l.map (·.1) → (ownIt ok s0 l used s).2.objs k = s.objs k
  | [], used, s => ⟨rfl, fun _ _ => rfl⟩
  | (t, e) :: r, used, s => by
    simp only [ownIt]
    split
    · rename_i us x _ _
      obtain ⟨h1, h2⟩ := ownIt_mem ok s0 r (us ++ used) { s with tmps := upd s.tmps t (.c (.own t 0)), objs := upd s.objs t (some x) }
      refine ⟨h1, fun k hk => ?_⟩
      simp only [List.map_cons, List.mem_cons, not_or] at hk
      rw [h2 k hk.2]
      exact upd_other _ _ _ _ hk.1
    · obtain ⟨h1, h2⟩ := ownIt_mem ok s0 r used s
      refine ⟨h1, fun k hk => ?_⟩
      simp only [List.map_cons, List.mem_cons, not_or] at hk
      exact h2 k hk.2
theorem ownCells_mem (ok : Nat → Bool) (s0 : AS I) : ∀ (l : List (Nat × Nat × Nat)) (used : List Nat) (s : AS I), (∀ k, s.boxes k = none → (ownCells ok s0 l used s).boxes k = none) ∧ ∀ k, k ∉ l.map (fun c => cellName c.1 c.2.1) → (ownCells ok s0 l used s).objs k = s.objs k
  | [], used, s => ⟨fun _ h => h, fun _ _ => rfl⟩
  | (b, j, e) :: r, used, s => by
    simp only [ownCells]
    split
    · rename_i cs us x hcs _ _
      obtain ⟨h1, h2⟩ := ownCells_mem ok s0 r (us ++ used) { s with boxes := upd s.boxes b (some (cs.set j (.own (cellName b j) 0))), objs := upd s.objs (cellName b j) (some x) }
      refine ⟨fun k hk => h1 k ?_, fun k hk => ?_⟩
      · have : k ≠ b := fun e => by rw [e, hcs] at hk; cases hk
        exact (upd_other _ _ _ _ this).trans hk
      · simp only [List.map_cons, List.mem_cons, not_or] at hk
        rw [h2 k hk.2]
        exact upd_other _ _ _ _ hk.1
    · obtain ⟨h1, h2⟩ := ownCells_mem ok s0 r used s
      refine ⟨h1, fun k hk => ?_⟩
      simp only [List.map_cons, List.mem_cons, not_or] at hk
      exact h2 k hk.2
theorem norm0_boxes (ok : Nat → Bool) (rts : List Nat) (hi : Hint) (s : AS I) (k : Nat) (hk : k ∉ rts ++ hi.boxes) : (norm0 ok rts hi s).boxes k = none := by
  simp only [norm0]
  refine (ownCells_mem ok s hi.cells _ _).1 k ?_
  rw [(ownIt_mem ok s hi.own [] _).1]
  show keepB _ _ s _ k = none
  rw [keepB_spec, if_neg]
  exact fun h => hk ((liveB_spec s _ k).1 h).1
theorem ownIt_fxs (ok : Nat → Bool) (s0 : AS I) : ∀ (l : List (Nat × Nat)) (used : List Nat) (s : AS I), (ownIt ok s0 l used s).2.fxs = s.fxs
  | [], used, s => rfl
  | (t, e) :: r, used, s => by
    simp only [ownIt]
    split
    · rw [ownIt_fxs ok s0 r]
    · rw [ownIt_fxs ok s0 r]
theorem ownCells_fxs (ok : Nat → Bool) (s0 : AS I) : ∀ (l : List (Nat × Nat × Nat)) (used : List Nat) (s : AS I), (ownCells ok s0 l used s).fxs = s.fxs
  | [], used, s => rfl
  | (b, j, e) :: r, used, s => by
    simp only [ownCells]
    split
    · rw [ownCells_fxs ok s0 r]
    · rw [ownCells_fxs ok s0 r]
theorem norm0_fxs (ok : Nat → Bool) (rts : List Nat) (hi : Hint) (s : AS I) (k : Nat) (hk : k ∉ rts ++ hi.boxes) : (norm0 ok rts hi s).fxs k = none := by
  simp only [norm0]
  rw [ownCells_fxs, ownIt_fxs]
  show keepF _ _ k = none
  unfold keepF
  split
  · rename_i h; exact absurd (by simpa using h) hk
  · rfl
theorem norm0_objs (ok : Nat → Bool) (rts : List Nat) (hi : Hint) (s : AS I) (k : Nat) (hk : k ∉ hi.own.map (·.1) ++ hi.cells.map fun c => cellName c.1 c.2.1) : (norm0 ok rts hi s).objs k = none := by
  rw [List.mem_append, not_or] at hk
  simp only [norm0]
  rw [(ownCells_mem ok s hi.cells _ _).2 k hk.2, (ownIt_mem ok s hi.own [] _).2 k hk.1]
theorem ofL_spec {α : Type} (z : α) (f : Nat → α) : ∀ (l : List Nat) (k : Nat), ofL z (l.map fun i => (i, f i)) k = if k ∈ l then f k else z
  | [], k => by simp [ofL]
  | i :: r, k => by
    simp only [List.map_cons, ofL]
    split
    · rename_i he
      have := Nat.eq_of_beq_eq_true he
      subst this
      simp
    · rename_i he
      have hne : k ≠ i := fun e => by subst e; simp at he
      rw [ofL_spec z f r k]
      simp [hne]
theorem Con.canon (h : Con E X B w0 Sl0 Ex γ Sl s a w) (rts : List Nat) (hi : Hint) (hb : ∀ k, k ∉ rts ++ hi.boxes → s.boxes k = none) (hfx : ∀ k, k ∉ rts ++ hi.boxes → s.fxs k = none) (ho : ∀ k, k ∉ hi.own.map (·.1) ++ hi.cells.map (fun c => cellName c.1 c.2.1) → s.objs k = none) :
    Con E X B w0 Sl0 Ex γ Sl (canon rts hi s) a w := by
  have e1 : ofL none ((rts ++ hi.boxes).map fun b => (b, s.boxes b)) = s.boxes := by
    funext k
    rw [ofL_spec]
    split
    · rfl
    · rename_i hk; exact (hb k hk).symm
  have e2 : ofL none ((hi.own.map (·.1) ++ hi.cells.map fun c => cellName c.1 c.2.1).map fun o => (o, s.objs o)) = s.objs := by
    funext k
    rw [ofL_spec]
    split
    · rfl
    · rename_i hk; exact (ho k hk).symm
  have e3 : ofL none ((rts ++ hi.boxes).map fun b => (b, s.fxs b)) = s.fxs := by
    funext k
    rw [ofL_spec]
    split
    · rfl
    · rename_i hk; exact (hfx k hk).symm
  unfold Go.Ev.canon
  rw [e1, e2, e3]
  refine { h with df := h.df, tm := fun t => ?_ }
  show VRep _ _ _ _ _ _ _ _ _ _ (ofL .any (hi.tmps.map fun t => (t, s.tmps t)) t)
  rw [ofL_spec]
  split
  · exact h.tm t
  · exact .any _
theorem Con.norm (hE : EnvOK P E) (h : Con E X B w0 Sl0 Ex0 γ Sl s a w) (rts : List Nat) (hx : ExOK Ex0 rts) (hi : Hint) : ∃ γ2, Con E X B w0 Sl0 Ex0 γ2 Sl (norm (fun e => (E.ty e).isSome) rts hi s) a w := by
  have hf := h.forget hE hi.tmps (rts ++ hi.boxes) (fun v x hv => (hx v x hv).imp (fun ⟨b, off, h1, h2⟩ => ⟨b, off, h1, List.mem_append_left _ h2⟩) fun ⟨r, h1, h2⟩ => ⟨r, h1, List.mem_append_left _ h2⟩)
  have hw0 : Owning γ γ s { tmps := keepT (liveB s (rts ++ hi.boxes)) (rts ++ hi.boxes) s hi.tmps, boxes := keepB (liveB s (rts ++ hi.boxes)) (rts ++ hi.boxes) s (liveB s (rts ++ hi.boxes)), objs := fun _ => none, fxs := keepF (rts ++ hi.boxes) s.fxs } [] := by
    refine ⟨fun K hK hl => ⟨?_, rfl⟩, fun t ht => absurd rfl ht⟩
    cases K with
    | obj o => exact absurd rfl (hK o)
    | fx r =>
      have hl : keepF (rts ++ hi.boxes) s.fxs r ≠ none := hl
      unfold keepF at hl
      split at hl
      · exact hl
      · exact absurd rfl hl
    | box b =>
      have hb' : keepB (liveB s (rts ++ hi.boxes)) (rts ++ hi.boxes) s (liveB s (rts ++ hi.boxes)) b ≠ none := hl
      rw [keepB_spec] at hb'
      split at hb'
      · rename_i hm; exact ((liveB_spec s _ b).1 hm).2
      · exact absurd rfl hb'
  obtain ⟨γ2, c2, w2⟩ := ownIt_sound (ok := fun e => (E.ty e).isSome) (fun e h => h) h hi.own [] _ γ hf hw0
  have c3 := ownCells_sound (ok := fun e => (E.ty e).isSome) (fun e h => h) h hi.cells _ _ γ2 c2 w2
  obtain ⟨γ3, c3⟩ := c3
  refine ⟨γ3, ?_⟩
  have c4 : Con E X B w0 Sl0 Ex0 γ3 Sl (norm0 (fun e => (E.ty e).isSome) rts hi s) a w := c3
  exact c4.canon rts hi (fun k hk => norm0_boxes _ rts hi s k hk) (fun k hk => norm0_fxs _ rts hi s k hk) (fun k hk => norm0_objs _ rts hi s k hk)
end
end Go.Ev
end
section
namespace Go.Ev
open Go.RowKit
variable {I : Nat → Type}
theorem mask1_bit (acc : List Nat) (q : Nat) : ∀ (es : List Edge) (m0 : Nat), (es.foldl (fun m e => match Region.binds .any e && Nat.blt e.on acc.length with | true => m ||| (2 ^ e.on) ||| acc.getD e.on 0 | false => m) m0).testBit q = true →
    m0.testBit q = true ∨ ∃ e ∈ es, Region.binds .any e = true ∧ e.on < acc.length ∧ (q = e.on ∨ (acc.getD e.on 0).testBit q = true)
  | [], m0, h => .inl h
  | e :: es, m0, h => by
    rw [List.foldl_cons] at h
    rcases mask1_bit acc q es _ h with h1 | ⟨e', h1, h2⟩
    · split at h1
      · rename_i hc
        rw [Bool.and_eq_true, Nat.blt_eq] at hc
        rw [Nat.testBit_or, Nat.testBit_or, Bool.or_eq_true, Bool.or_eq_true] at h1
        rcases h1 with (h1 | h1) | h1
        · exact .inl h1
        · rw [Nat.testBit_two_pow] at h1
          exact .inr ⟨e, List.mem_cons_self, hc.1, hc.2, .inl (by simpa using (of_decide_eq_true h1).symm)⟩
        · exact .inr ⟨e, List.mem_cons_self, hc.1, hc.2, .inr h1⟩
      · exact .inl h1
    · exact .inr ⟨e', List.mem_cons_of_mem _ h1, h2⟩
theorem masks_spec : ∀ (l : List Oper) (acc : List Nat), (masks l acc).length = acc.length + l.length ∧ (∀ k, k < acc.length → (masks l acc)[k]? = acc[k]?) ∧
    ∀ k o, l[k]? = some o → (masks l acc)[acc.length + k]? = some (mask1 ((masks l acc).take (acc.length + k)) o.after.toList)
  | [], acc => ⟨by simp [masks], fun _ _ => rfl, by simp⟩
  | o :: r, acc => by
    obtain ⟨h1, h2, h3⟩ := masks_spec r (acc ++ [mask1 acc o.after.toList])
    simp only [masks]
    simp only [List.length_append, List.length_cons, List.length_nil] at h1 h2 h3
    refine ⟨by rw [h1]; simp; omega, fun k hk => ?_, fun k o' hk => ?_⟩
    · rw [h2 k (by omega), List.getElem?_append_left hk]
    · cases k with
      | zero =>
        simp at hk
        subst hk
        have ht : (masks r (acc ++ [mask1 acc o.after.toList])).take acc.length = acc := by
          apply List.ext_getElem?
          intro k
          rw [List.getElem?_take]
          split
          · rename_i hlt
            rw [h2 k (by omega), List.getElem?_append_left hlt]
          · rename_i hge
            rw [List.getElem?_eq_none (by omega)]
        rw [Nat.add_zero, ht, h2 acc.length (by omega), List.getElem?_append_right (Nat.le_refl _)]
        simp
      | succ k =>
        simp at hk
        have := h3 k o' hk
        rw [show acc.length + (k + 1) = acc.length + (0 + 1) + k by omega]
        exact this
def ahead (ops : List Oper) (i j : Nat) : Bool := ((masks ops []).getD j 0).testBit i
theorem ahead_edge {ops : List Oper} {i j : Nat} {o : Oper} (ho : ops[j]? = some o) (h : ahead ops i j = true) : ∃ e ∈ o.after.toList, Region.binds .any e = true ∧ e.on < j ∧ (i = e.on ∨ ahead ops i e.on = true) := by
  obtain ⟨h1, _, h3⟩ := masks_spec ops []
  have hj := h3 j o ho
  simp only [List.length_nil, Nat.zero_add] at hj h1
  unfold ahead at h
  rw [List.getD_eq_getElem?_getD, hj, Option.getD_some] at h
  have hlt : j < ops.length := (List.getElem?_eq_some_iff.1 ho).1
  rcases mask1_bit _ i o.after.toList 0 h with h0 | ⟨e, he1, he2, he3, he4⟩
  · simp at h0
  · have hlen : ((masks ops []).take j).length = j := by rw [List.length_take, h1]; omega
    rw [hlen] at he3
    refine ⟨e, he1, he2, he3, he4.imp id fun h => ?_⟩
    unfold ahead
    have : ((masks ops []).take j).getD e.on 0 = (masks ops []).getD e.on 0 := by
      rw [List.getD_eq_getElem?_getD, List.getD_eq_getElem?_getD, List.getElem?_take, if_pos he3]
    rw [← this]; exact h
theorem ahead_lt {ops : List Oper} {i : Nat} : ∀ (j : Nat), j < ops.length → ahead ops i j = true → i < j := by
  intro j
  induction j using Nat.strongRecOn with
  | _ j ih =>
    intro hj h
    obtain ⟨e, _, _, h3, h4⟩ := ahead_edge (List.getElem?_eq_getElem hj) h
    rcases h4 with h4 | h4
    · omega
    · have := ih e.on h3 (by omega) h4
      omega
inductive Valid (ops : List Oper) : List Nat → Prop
  | nil : Valid ops []
  | snoc (l : List Nat) (i : Nat) (h : Valid ops l) (hi : i ∉ l) (hn : i < ops.length) (ha : ∀ q, ahead ops q i = true → q ∈ l) : Valid ops (l ++ [i])
theorem Valid.closed {ops : List Oper} {l : List Nat} (h : Valid ops l) : ∀ j ∈ l, ∀ q, ahead ops q j = true → q ∈ l := by
  induction h with
  | nil => intro j hj; cases hj
  | snoc l i _ _ _ ha ih =>
    intro j hj q hq
    rcases List.mem_append.1 hj with hj | hj
    · exact List.mem_append_left _ (ih j hj q hq)
    · have : j = i := by simpa using hj
      subst this
      exact List.mem_append_left _ (ha q hq)
theorem Valid.lt {ops : List Oper} {l : List Nat} (h : Valid ops l) : ∀ j ∈ l, j < ops.length := by
  induction h with
  | nil => intro j hj; cases hj
  | snoc l i _ _ hn _ ih =>
    intro j hj
    rcases List.mem_append.1 hj with hj | hj
    · exact ih j hj
    · have : j = i := by simpa using hj
      omega
theorem Valid.nodup {ops : List Oper} {l : List Nat} (h : Valid ops l) : l.Nodup := by
  induction h with
  | nil => simp
  | snoc l i _ hi _ _ ih => exact List.nodup_append.2 ⟨ih, by simp, fun a ha b hb => by simp at hb; subst hb; exact fun e => hi (e ▸ ha)⟩
theorem valid_range (ops : List Oper) : ∀ i, i ≤ ops.length → Valid ops (List.range i)
  | 0, _ => .nil
  | i + 1, h => by
    rw [List.range_succ]
    exact .snoc _ i (valid_range ops i (by omega)) (by simp) (by omega) fun q hq => by simpa using ahead_lt i (by omega) hq
theorem Valid.sorted {ops : List Oper} {l : List Nat} (h : Valid ops l) {p : Nat → Bool} (hp : ∀ i j, i < j → j < ops.length → p i = true → p j = true → ahead ops i j = true) : (l.filter p).Pairwise (· < ·) := by
  induction h with
  | nil => simp
  | snoc l i hv hi hn ha ih =>
    rw [List.filter_append, List.pairwise_append]
    refine ⟨ih, ?_, fun a ha' b hb => ?_⟩
    · cases hpi : p i <;> simp [hpi]
    · rw [List.mem_filter] at ha' hb
      have : b = i := by simpa using hb.1
      subst this
      rcases Nat.lt_trichotomy a b with h1 | h1 | h1
      · exact h1
      · subst h1; exact absurd ha'.1 hi
      · exact absurd (hv.closed a ha'.1 b (hp b a h1 (hv.lt a ha'.1) hb.2 ha'.2)) hi
theorem sorted_eq : ∀ (l l' : List Nat), l.Pairwise (· < ·) → l'.Pairwise (· < ·) → (∀ x, x ∈ l ↔ x ∈ l') → l = l'
  | [], [], _, _, _ => rfl
  | [], y :: l', _, _, h => by have := (h y).2 List.mem_cons_self; cases this
  | x :: l, [], _, _, h => by have := (h x).1 List.mem_cons_self; cases this
  | x :: l, y :: l', h1, h2, h => by
    rw [List.pairwise_cons] at h1 h2
    have hxy : x = y := by
      have a1 := (h x).1 List.mem_cons_self
      have a2 := (h y).2 List.mem_cons_self
      rcases List.mem_cons.1 a1 with a1 | a1
      · exact a1
      · rcases List.mem_cons.1 a2 with a2 | a2
        · exact a2.symm
        · have := h2.1 x a1; have := h1.1 y a2; omega
    subst hxy
    congr 1
    refine sorted_eq l l' h1.2 h2.2 fun z => ⟨fun hz => ?_, fun hz => ?_⟩
    · rcases List.mem_cons.1 ((h z).1 (List.mem_cons_of_mem _ hz)) with h3 | h3
      · have := h1.1 z hz; omega
      · exact h3
    · rcases List.mem_cons.1 ((h z).2 (List.mem_cons_of_mem _ hz)) with h3 | h3
      · have := h2.1 z hz; omega
      · exact h3
structure Rc (I : Nat → Type) where
  x : AV I
  ws : List (MW I)
  g : Option (GV I)
structure RS (I : Nat → Type) where
  s : AS I
  g : Nat → Option (GV I)
def eff (ops : List Oper) (rec : Nat → Rc I) (c : RS I) (j : Nat) : RS I :=
  match ops[j]? with
  | some o => ⟨applyM (rec j).ws (putT c.s o.dst (rec j).x), putG c.g o.dst (rec j).g⟩
  | none => c
def St (ops : List Oper) (rec : Nat → Rc I) (c : RS I) (l : List Nat) : RS I := l.foldl (eff ops rec) c
theorem St_snoc (ops : List Oper) (rec : Nat → Rc I) (c : RS I) (l : List Nat) (i : Nat) : St ops rec c (l ++ [i]) = eff ops rec (St ops rec c l) i := by simp [St]
def lastW {α : Type} (f : Nat → Option α) (z : α) (l : List Nat) : α := l.foldl (fun acc j => (f j).getD acc) z
theorem lastW_filter {α : Type} (f : Nat → Option α) : ∀ (l : List Nat) (z : α), lastW f z l = lastW f z (l.filter fun j => (f j).isSome)
  | [], z => rfl
  | j :: l, z => by
    simp only [lastW, List.foldl_cons]
    cases hj : f j with
    | none =>
      have := lastW_filter f l z
      simp only [lastW] at this
      simp [hj, this]
    | some y =>
      have := lastW_filter f l y
      simp only [lastW] at this
      simp [hj, this]
def wB : List (MW I) → Nat → Option (List (CV I))
  | [], _ => none
  | .box b cs :: r, k => match wB r k with | some c => some c | none => if k = b then some cs else none
  | .obj _ _ :: r, k => wB r k
  | .fx _ _ :: r, k => wB r k
def wO : List (MW I) → Nat → Option (Obj I)
  | [], _ => none
  | .obj b x :: r, k => match wO r k with | some c => some c | none => if k = b then some x else none
  | .box _ _ :: r, k => wO r k
  | .fx _ _ :: r, k => wO r k
def wF : List (MW I) → Nat → Option (I 1000003)
  | [], _ => none
  | .fx b x :: r, k => match wF r k with | some c => some c | none => if k = b then some x else none
  | .box _ _ :: r, k => wF r k
  | .obj _ _ :: r, k => wF r k
theorem applyM_boxes : ∀ (ws : List (MW I)) (s : AS I) (k : Nat), (applyM ws s).boxes k = ((wB ws k).map some).getD (s.boxes k)
  | [], s, k => rfl
  | .box b cs :: r, s, k => by
    simp only [applyM, wB]
    rw [applyM_boxes r]
    cases hr : wB r k with
    | some c => simp
    | none =>
      simp only [Option.map_none, Option.getD_none, upd_eq]
      split <;> simp [*]
  | .obj b x :: r, s, k => by simp only [applyM, wB]; rw [applyM_boxes r]
  | .fx b x :: r, s, k => by simp only [applyM, wB]; rw [applyM_boxes r]
theorem applyM_objs : ∀ (ws : List (MW I)) (s : AS I) (k : Nat), (applyM ws s).objs k = ((wO ws k).map some).getD (s.objs k)
  | [], s, k => rfl
  | .obj b cs :: r, s, k => by
    simp only [applyM, wO]
    rw [applyM_objs r]
    cases hr : wO r k with
    | some c => simp
    | none =>
      simp only [Option.map_none, Option.getD_none, upd_eq]
      split <;> simp [*]
  | .box b x :: r, s, k => by simp only [applyM, wO]; rw [applyM_objs r]
  | .fx b x :: r, s, k => by simp only [applyM, wO]; rw [applyM_objs r]
theorem applyM_fxs : ∀ (ws : List (MW I)) (s : AS I) (k : Nat), (applyM ws s).fxs k = ((wF ws k).map some).getD (s.fxs k)
  | [], s, k => rfl
  | .fx b cs :: r, s, k => by
    simp only [applyM, wF]
    rw [applyM_fxs r]
    cases hr : wF r k with
    | some c => simp
    | none =>
      simp only [Option.map_none, Option.getD_none, upd_eq]
      split <;> simp [*]
  | .box b x :: r, s, k => by simp only [applyM, wF]; rw [applyM_fxs r]
  | .obj b x :: r, s, k => by simp only [applyM, wF]; rw [applyM_fxs r]
def fT (ops : List Oper) (rec : Nat → Rc I) (t j : Nat) : Option (AV I) := if (ops[j]?).bind (·.dst) = some t then some (rec j).x else none
def fG (ops : List Oper) (rec : Nat → Rc I) (t j : Nat) : Option (Option (GV I)) := if (ops[j]?).bind (·.dst) = some t then some (rec j).g else none
def fB (ops : List Oper) (rec : Nat → Rc I) (k j : Nat) : Option (Option (List (CV I))) := if (ops[j]?).isSome then (wB (rec j).ws k).map some else none
def fF (ops : List Oper) (rec : Nat → Rc I) (k j : Nat) : Option (Option (I 1000003)) := if (ops[j]?).isSome then (wF (rec j).ws k).map some else none
def fO (ops : List Oper) (rec : Nat → Rc I) (k j : Nat) : Option (Option (Obj I)) := if (ops[j]?).isSome then (wO (rec j).ws k).map some else none
theorem putT_other (s : AS I) (d : Option Nat) (x : AV I) (t : Nat) (h : d ≠ some t) : (putT s d x).tmps t = s.tmps t := by
  cases d with
  | none => rfl
  | some d => exact upd_other _ _ _ _ fun e => h (by rw [e])
theorem putG_other (g : Nat → Option (GV I)) (d : Option Nat) (x : Option (GV I)) (t : Nat) (h : d ≠ some t) : putG g d x t = g t := by
  cases d with
  | none => rfl
  | some d => exact upd_other _ _ _ _ fun e => h (by rw [e])
theorem St_tmps (ops : List Oper) (rec : Nat → Rc I) (t : Nat) : ∀ (l : List Nat) (c : RS I), (St ops rec c l).s.tmps t = lastW (fT ops rec t) (c.s.tmps t) l
  | [], c => rfl
  | j :: l, c => by
    show (St ops rec (eff ops rec c j) l).s.tmps t = lastW (fT ops rec t) ((fT ops rec t j).getD (c.s.tmps t)) l
    rw [St_tmps ops rec t l]
    congr 1
    unfold eff fT
    cases hj : ops[j]? with
    | none => simp
    | some o =>
      simp only [Option.bind_some, applyM_tmps]
      by_cases hd : o.dst = some t
      · rw [if_pos hd, hd]; simp [putT, upd_same]
      · rw [if_neg hd, putT_other _ _ _ _ hd]; rfl
theorem St_g (ops : List Oper) (rec : Nat → Rc I) (t : Nat) : ∀ (l : List Nat) (c : RS I), (St ops rec c l).g t = lastW (fG ops rec t) (c.g t) l
  | [], c => rfl
  | j :: l, c => by
    show (St ops rec (eff ops rec c j) l).g t = lastW (fG ops rec t) ((fG ops rec t j).getD (c.g t)) l
    rw [St_g ops rec t l]
    congr 1
    unfold eff fG
    cases hj : ops[j]? with
    | none => simp
    | some o =>
      simp only [Option.bind_some]
      by_cases hd : o.dst = some t
      · rw [if_pos hd, hd]; simp [putG, upd_same]
      · rw [if_neg hd, putG_other _ _ _ _ hd]; rfl
theorem putT_mem (s : AS I) (d : Option Nat) (x : AV I) : (putT s d x).boxes = s.boxes ∧ (putT s d x).objs = s.objs ∧ (putT s d x).fxs = s.fxs := by cases d <;> exact ⟨rfl, rfl, rfl⟩
theorem St_boxes (ops : List Oper) (rec : Nat → Rc I) (k : Nat) : ∀ (l : List Nat) (c : RS I), (St ops rec c l).s.boxes k = lastW (fB ops rec k) (c.s.boxes k) l
  | [], c => rfl
  | j :: l, c => by
    show (St ops rec (eff ops rec c j) l).s.boxes k = lastW (fB ops rec k) ((fB ops rec k j).getD (c.s.boxes k)) l
    rw [St_boxes ops rec k l]
    congr 1
    unfold eff fB
    cases hj : ops[j]? with
    | none => simp
    | some o => simp only [applyM_boxes, (putT_mem _ _ _).1]; rfl
theorem St_objs (ops : List Oper) (rec : Nat → Rc I) (k : Nat) : ∀ (l : List Nat) (c : RS I), (St ops rec c l).s.objs k = lastW (fO ops rec k) (c.s.objs k) l
  | [], c => rfl
  | j :: l, c => by
    show (St ops rec (eff ops rec c j) l).s.objs k = lastW (fO ops rec k) ((fO ops rec k j).getD (c.s.objs k)) l
    rw [St_objs ops rec k l]
    congr 1
    unfold eff fO
    cases hj : ops[j]? with
    | none => simp
    | some o => simp only [applyM_objs, (putT_mem _ _ _).2.1]; rfl
theorem St_fxs (ops : List Oper) (rec : Nat → Rc I) (k : Nat) : ∀ (l : List Nat) (c : RS I), (St ops rec c l).s.fxs k = lastW (fF ops rec k) (c.s.fxs k) l
  | [], c => rfl
  | j :: l, c => by
    show (St ops rec (eff ops rec c j) l).s.fxs k = lastW (fF ops rec k) ((fF ops rec k j).getD (c.s.fxs k)) l
    rw [St_fxs ops rec k l]
    congr 1
    unfold eff fF
    cases hj : ops[j]? with
    | none => simp
    | some o => simp only [applyM_fxs, (putT_mem _ _ _).2.2]; rfl
end Go.Ev
end
section
namespace Go.Ev
open Go.RowKit
variable {I : Nat → Type}
section
variable {P : Program} {E : Env I} {sp : Nat → List (AV I) → Tree (RV I)} {X : Nat → Prop} {B : Nat} {w0 : World} {Sl0 : Nat → Nat → Prop} {Ex Ex' Ex0 : Value → AV I → Prop} {cc : Bool} {γ : Gam} {Sl Sl' : Nat → Nat → Prop} {s s' : AS I} {a : Act} {w w' : World}
def keyOf (m : MW I) : Nat := nameK (keyM m)
theorem pure_ws {t : Tree (AV I)} {v : AV I} {ws : List (MW I)} (h : (t.bind fun x => .ret (x, ([] : List (MW I)))).run = some (v, ws)) : ws = [] := by
  obtain ⟨x, _, h2⟩ := Tree.run_pure (f := fun v => (v, ([] : List (MW I)))) h
  simp only [Prod.mk.injEq] at h2
  exact h2.2.symm
theorem ret_ws {x v : AV I} {ws ws' : List (MW I)} (h : (Tree.ret (x, ws')).run = some (v, ws)) : ws = ws' := by
  have := Tree.run_ret h
  simp only [Prod.mk.injEq] at this
  exact this.2.symm
theorem Tree.run_bind2 {α β : Type} {t : Tree α} {f : α → Tree β} {r : β} (h : (t.bind f).run = some r) : ∃ x, t.run = some x ∧ (f x).run = some r := by
  rw [Tree.run_bind] at h
  cases ht : t.run with
  | none => rw [ht] at h; cases h
  | some x => rw [ht] at h; exact ⟨x, rfl, h⟩
theorem evOp_ws {nm : Nat} {op : Op} {ρ : Operand → AV I} {bx : Nat → Option (List (CV I))} {ob : Nat → Option (Obj I)} {fx : Nat → Option (I 1000003)} {v : AV I} {ws : List (MW I)} (hr : (evOp E sp cc nm op ρ bx ob fx).run = some (v, ws)) :
    (class_ cc op ≤ 1 → ws = []) ∧ (class_ cc op = 2 → ∀ m ∈ ws, keyOf m = nm) := by
  have nil : ws = [] → (class_ cc op ≤ 1 → ws = []) ∧ (class_ cc op = 2 → ∀ m ∈ ws, keyOf m = nm) := fun h => ⟨fun _ => h, fun _ m hm => by rw [h] at hm; cases hm⟩
  cases op with
  | box t x =>
    refine ⟨fun h => by simp [class_] at h, fun _ m hm => ?_⟩
    simp only [evOp] at hr
    split at hr
    · rw [ret_ws hr] at hm; simp at hm; subst hm; rfl
    · exact (Tree.run_fail hr).elim
  | alloc t =>
    refine ⟨fun h => by simp [class_] at h, fun _ m hm => ?_⟩
    simp only [evOp] at hr
    split at hr
    · rw [ret_ws hr] at hm; simp at hm; subst hm; rfl
    · exact (Tree.run_fail hr).elim
  | buildSlice t n ps =>
    refine ⟨fun h => by simp [class_] at h, fun _ m hm => ?_⟩
    simp only [evOp] at hr
    split at hr
    · split at hr
      · split at hr
        · rw [ret_ws hr] at hm; simp at hm; subst hm; rfl
        · exact (Tree.run_fail hr).elim
      · exact (Tree.run_fail hr).elim
    · exact (Tree.run_fail hr).elim
  | pick c a b => exact (Tree.run_fail (by simpa [evOp] using hr)).elim
  | move x => exact nil (ret_ws hr)
  | assign x => exact nil (ret_ws hr)
  | load t x =>
    simp only [evOp] at hr
    split at hr
    · split at hr
      · split at hr
        · split at hr
          · exact nil (pure_ws hr)
          · exact (Tree.run_fail hr).elim
        · exact nil (pure_ws hr)
        · exact nil (pure_ws hr)
        · exact (Tree.run_fail hr).elim
      · exact (Tree.run_fail hr).elim
    · exact (Tree.run_fail hr).elim
  | nilCheck x =>
    simp only [evOp] at hr
    split at hr
    · split at hr <;> first | exact nil (ret_ws hr) | exact (Tree.run_fail hr).elim
    · exact (Tree.run_fail hr).elim
  | binOp op t x y ty => exact nil (pure_ws hr)
  | unOp op t x => exact nil (pure_ws hr)
  | convert src dst x =>
    simp only [evOp] at hr
    split at hr
    · split at hr
      · exact nil (ret_ws hr)
      · exact (Tree.run_fail hr).elim
    · exact (Tree.run_fail hr).elim
  | fieldAddr t x f =>
    simp only [evOp] at hr
    split at hr
    · split at hr
      · exact (Tree.run_fail hr).elim
      · split at hr
        · split at hr <;> first | exact nil (ret_ws hr) | exact (Tree.run_fail hr).elim
        · exact (Tree.run_fail hr).elim
    · exact (Tree.run_fail hr).elim
  | field t x f =>
    simp only [evOp] at hr
    split at hr
    · exact nil (pure_ws hr)
    · exact (Tree.run_fail hr).elim
  | indexAddr t x y =>
    simp only [evOp] at hr
    split at hr
    · split at hr
      · rcases Tree.run_ite hr with ⟨_, hr⟩ | ⟨_, hr⟩
        · rcases Tree.run_ite hr with ⟨_, hr⟩ | ⟨_, hr⟩
          · exact nil (ret_ws hr)
          · exact (Tree.run_fail hr).elim
        · exact (Tree.run_fail hr).elim
      · exact (Tree.run_fail hr).elim
    · exact (Tree.run_fail hr).elim
  | index t x y =>
    simp only [evOp] at hr
    split at hr
    · split at hr
      · rcases Tree.run_ite hr with ⟨_, hr⟩ | ⟨_, hr⟩
        · rcases Tree.run_ite hr with ⟨_, hr⟩ | ⟨_, hr⟩
          · exact nil (ret_ws hr)
          · exact (Tree.run_fail hr).elim
        · exact (Tree.run_fail hr).elim
      · exact (Tree.run_fail hr).elim
    · exact (Tree.run_fail hr).elim
  | extract x i =>
    simp only [evOp] at hr
    split at hr
    · split at hr
      · exact nil (ret_ws hr)
      · exact (Tree.run_fail hr).elim
    · exact (Tree.run_fail hr).elim
  | makeFunc fn first caps =>
    cases fn with
    | func f =>
      simp only [evOp] at hr
      split at hr
      · exact nil (ret_ws hr)
      · split at hr
        · exact nil (ret_ws hr)
        · exact (Tree.run_fail hr).elim
    | _ => exact (Tree.run_fail (by simpa [evOp] using hr)).elim
  | build t ps =>
    simp only [evOp] at hr
    split at hr
    · split at hr
      · split at hr
        · split at hr
          · exact nil (ret_ws hr)
          · exact (Tree.run_fail hr).elim
        · exact (Tree.run_fail hr).elim
      · exact (Tree.run_fail hr).elim
    · exact (Tree.run_fail hr).elim
  | call c =>
    obtain ⟨callee, args, tys⟩ := c
    cases callee with
    | value f =>
      refine ⟨fun h => by cases cc <;> simp [class_] at h, fun hcl m hm => ?_⟩
      have hcc : cc = false := by cases cc <;> simp [class_] at hcl <;> rfl
      subst hcc
      have key : ∀ {f : Nat} {az : List (AV I)}, (callG E sp false nm bx ob fx f az).run = some (v, ws) → keyOf m = nm := by
        intro f az hr
        unfold callG at hr
        split at hr
        · exact (Tree.run_fail hr).elim
        · unfold callF at hr
          obtain ⟨rv, _, h2⟩ := Tree.run_bind2 hr
          split at h2
          · split at h2
            · rw [ret_ws h2] at hm; simp at hm; subst hm; rfl
            · exact (Tree.run_fail h2).elim
          · unfold callR at h2
            rw [ret_ws h2] at hm; cases hm
          · exact (Tree.run_fail h2).elim
      simp only [evOp] at hr
      split at hr
      · split at hr
        · exact (Tree.run_fail hr).elim
        · exact key hr
      · split at hr
        · exact (Tree.run_fail hr).elim
        · exact key hr
      · exact key hr
      · exact (Tree.run_fail hr).elim
    | invoke r m => exact (Tree.run_fail (by simpa [evOp] using hr)).elim
    | builtin b =>
      cases b with
      | len =>
        simp only [evOp] at hr
        split at hr
        · split at hr
          · split at hr
            · exact nil (ret_ws hr)
            · exact (Tree.run_fail hr).elim
          · exact (Tree.run_fail hr).elim
        · exact (Tree.run_fail hr).elim
      | min =>
        simp only [evOp] at hr
        split at hr
        · split at hr
          · exact nil (ret_ws hr)
          · exact (Tree.run_fail hr).elim
        · exact (Tree.run_fail hr).elim
      | max =>
        simp only [evOp] at hr
        split at hr
        · split at hr
          · exact nil (ret_ws hr)
          · exact (Tree.run_fail hr).elim
        · exact (Tree.run_fail hr).elim
      | _ => exact ⟨fun h => by simp [class_] at h, fun h => by simp [class_] at h⟩
  | slice t x lo hi mx =>
    cases mx with
    | some z => exact (Tree.run_fail (by simpa [evOp] using hr)).elim
    | none =>
      simp only [evOp] at hr
      split at hr
      · split at hr
        · split at hr
          · rcases Tree.run_ite hr with ⟨_, hr⟩ | ⟨_, hr⟩
            · rcases Tree.run_ite hr with ⟨_, hr⟩ | ⟨_, hr⟩
              · rcases Tree.run_ite hr with ⟨_, hr⟩ | ⟨_, hr⟩
                · exact nil (ret_ws hr)
                · exact (Tree.run_fail hr).elim
              · exact (Tree.run_fail hr).elim
            · exact (Tree.run_fail hr).elim
          · exact (Tree.run_fail hr).elim
        · split at hr
          · split at hr
            · rcases Tree.run_ite hr with ⟨_, hr⟩ | ⟨_, hr⟩
              · rcases Tree.run_ite hr with ⟨_, hr⟩ | ⟨_, hr⟩
                · rcases Tree.run_ite hr with ⟨_, hr⟩ | ⟨_, hr⟩
                  · exact nil (ret_ws hr)
                  · exact (Tree.run_fail hr).elim
                · exact (Tree.run_fail hr).elim
              · exact (Tree.run_fail hr).elim
            · exact (Tree.run_fail hr).elim
          · exact (Tree.run_fail hr).elim
        · exact (Tree.run_fail hr).elim
      · exact (Tree.run_fail hr).elim
  | _ => exact ⟨fun h => by simp [class_] at h, fun h => by simp [class_] at h⟩
theorem stepR_ws {ops : Array Oper} {o : Oper} {gs : Nat → Option (GV I)} {x : AV I} {ws : List (MW I)} {g : Option (GV I)} (h : StepR E sp cc ops o gs s x ws g) : (class_ cc o.op ≤ 1 → ws = []) ∧ (class_ cc o.op = 2 → ∀ m ∈ ws, keyOf m = o.dst.getD 1000003) := by
  have key : ∀ {p : Nat → Bool → Bool} {x : AV I} {ws : List (MW I)}, (evOpG E sp cc gs s p (o.dst.getD 1000003) o.op).run = some (x, ws) → (class_ cc o.op ≤ 1 → ws = []) ∧ (class_ cc o.op = 2 → ∀ m ∈ ws, keyOf m = o.dst.getD 1000003) := by
    intro p x ws hr
    generalize o.op = op at hr ⊢
    cases op with
    | pick c x y =>
      have := pure_ws hr
      exact ⟨fun _ => this, fun _ m hm => by rw [this] at hm; cases hm⟩
    | _ => exact evOp_ws (E := E) (sp := sp) (ρ := lookG gs s p) (bx := s.boxes) (ob := s.objs) (fx := s.fxs) hr
  cases h with
  | free _ _ _ hr => exact key hr
  | yes _ _ _ _ _ _ _ _ hr => exact key hr
  | _ => exact ⟨fun _ => rfl, fun _ m hm => by cases hm⟩
theorem wB_key {k : Nat} : ∀ {ws : List (MW I)}, wB ws k ≠ none → ∃ m ∈ ws, keyOf m = k
  | [], h => absurd rfl h
  | .box b cs :: r, h => by
    simp only [wB] at h
    cases hr : wB r k with
    | some c => obtain ⟨m, h1, h2⟩ := wB_key (ws := r) (k := k) (by rw [hr]; simp); exact ⟨m, List.mem_cons_of_mem _ h1, h2⟩
    | none =>
      rw [hr] at h
      simp only at h
      split at h
      · rename_i e; exact ⟨_, List.mem_cons_self, e.symm⟩
      · exact absurd rfl h
  | .obj b cs :: r, h => by
    obtain ⟨m, h1, h2⟩ := wB_key (ws := r) (k := k) h
    exact ⟨m, List.mem_cons_of_mem _ h1, h2⟩
  | .fx b cs :: r, h => by
    obtain ⟨m, h1, h2⟩ := wB_key (ws := r) (k := k) h
    exact ⟨m, List.mem_cons_of_mem _ h1, h2⟩
theorem wO_key {k : Nat} : ∀ {ws : List (MW I)}, wO ws k ≠ none → ∃ m ∈ ws, keyOf m = k
  | [], h => absurd rfl h
  | .obj b cs :: r, h => by
    simp only [wO] at h
    cases hr : wO r k with
    | some c => obtain ⟨m, h1, h2⟩ := wO_key (ws := r) (k := k) (by rw [hr]; simp); exact ⟨m, List.mem_cons_of_mem _ h1, h2⟩
    | none =>
      rw [hr] at h
      simp only at h
      split at h
      · rename_i e; exact ⟨_, List.mem_cons_self, e.symm⟩
      · exact absurd rfl h
  | .box b cs :: r, h => by
    obtain ⟨m, h1, h2⟩ := wO_key (ws := r) (k := k) h
    exact ⟨m, List.mem_cons_of_mem _ h1, h2⟩
  | .fx b cs :: r, h => by
    obtain ⟨m, h1, h2⟩ := wO_key (ws := r) (k := k) h
    exact ⟨m, List.mem_cons_of_mem _ h1, h2⟩
theorem wF_key {k : Nat} : ∀ {ws : List (MW I)}, wF ws k ≠ none → ∃ m ∈ ws, keyOf m = k
  | [], h => absurd rfl h
  | .fx b cs :: r, h => by
    simp only [wF] at h
    cases hr : wF r k with
    | some c => obtain ⟨m, h1, h2⟩ := wF_key (ws := r) (k := k) (by rw [hr]; simp); exact ⟨m, List.mem_cons_of_mem _ h1, h2⟩
    | none =>
      rw [hr] at h
      simp only at h
      split at h
      · rename_i e; exact ⟨_, List.mem_cons_self, e.symm⟩
      · exact absurd rfl h
  | .box b cs :: r, h => by
    obtain ⟨m, h1, h2⟩ := wF_key (ws := r) (k := k) h
    exact ⟨m, List.mem_cons_of_mem _ h1, h2⟩
  | .obj b cs :: r, h => by
    obtain ⟨m, h1, h2⟩ := wF_key (ws := r) (k := k) h
    exact ⟨m, List.mem_cons_of_mem _ h1, h2⟩
theorem isD_some {a b : Option Nat} {d : Nat} (h : isD a b = false) (ha : a = some d) : b ≠ some d := by
  intro hb
  rw [ha, hb] at h
  simp [isD] at h
theorem drawOk_spec {cc : Op → Bool} {ops : List Oper} (h : drawOk cc ops = true) {i : Nat} {x : Oper} (hx : ops[i]? = some x) :
    (∀ e ∈ x.after.toList, Region.binds .any e = true → e.on < i) ∧ (∀ j b, x.guard = some (j, b) → ahead ops j i = true) ∧ (cls cc ops x = 2 → x.dst ≠ none) ∧
    ∀ j y, ops[j]? = some y → i < j → ahead ops i j = false → x.apart ops.toArray y = true ∧ (cls cc ops x = 3 → okL (cls cc ops y) y.op = true) ∧ (cls cc ops y = 3 → okL (cls cc ops x) x.op = true) ∧
      isD (wbox ops x) (wbox ops y) = false ∧ isD (wbox ops x) y.dst = false ∧ isD x.dst (wbox ops y) = false := by
  unfold drawOk at h
  have h1 := List.all_eq_true.1 h (x, i) (by rw [List.mem_zipIdx_iff_getElem?]; simpa using hx)
  simp only [Bool.and_eq_true] at h1
  refine ⟨fun e he hb => ?_, fun j b hg => ?_, fun hc hn => ?_, fun j y hy hij ha => ?_⟩
  · have := List.all_eq_true.1 h1.1.1.1 e he
    rw [hb] at this
    simpa [Nat.blt_eq] using this
  · have := h1.1.1.2
    rw [hg] at this
    exact this
  · have := h1.1.2
    rw [hc, hn] at this
    exact absurd this (by decide)
  · have h2 := List.all_eq_true.1 h1.2 (y, j) (by rw [List.mem_zipIdx_iff_getElem?]; simpa using hy)
    have hb : Nat.blt i j = true := by simpa [Nat.blt_eq] using hij
    have ha' : ((masks ops []).getD j 0).testBit i = false := ha
    simp only [hb, ha', Bool.not_true, Bool.false_or, Bool.and_eq_true] at h2
    refine ⟨h2.1.1.1.1.1, fun hc => ?_, fun hc => ?_, by simpa using h2.1.1.2, by simpa using h2.1.2, by simpa using h2.2⟩
    · have := h2.1.1.1.1.2
      rw [hc] at this
      cases hz : okL (cls cc ops y) y.op with
      | true => rfl
      | false => rw [hz] at this; exact absurd this (by decide)
    · have := h2.1.1.1.2
      rw [hc] at this
      cases hz : okL (cls cc ops x) x.op with
      | true => rfl
      | false => rw [hz] at this; exact absurd this (by decide)
def free2 (ops : List Oper) (i j : Nat) : Prop := i ≠ j ∧ ahead ops i j = false ∧ ahead ops j i = false
theorem free2_spec {cc : Op → Bool} {ops : List Oper} (h : drawOk cc ops = true) {i j : Nat} {x y : Oper} (hx : ops[i]? = some x) (hy : ops[j]? = some y) (hf : free2 ops i j) :
    (∀ d, x.dst = some d → d ∉ y.looksAt ops.toArray) ∧ (∀ d, x.dst = some d → y.dst ≠ some d) ∧ (cls cc ops x = 3 → okL (cls cc ops y) y.op = true) ∧
      (∀ d, wbox ops x = some d → wbox ops y ≠ some d) ∧ (∀ d, wbox ops x = some d → y.dst ≠ some d) ∧ (∀ d, x.dst = some d → wbox ops y ≠ some d) := by
  rcases Nat.lt_trichotomy i j with hij | hij | hij
  · obtain ⟨_, _, _, h3⟩ := drawOk_spec h hx
    obtain ⟨k1, k2, _, k4, k5, k6⟩ := h3 j y hy hij hf.2.1
    obtain ⟨a1, a2, _⟩ := Oper.apart_spec k1
    exact ⟨a1, a2, k2, fun d hd => isD_some k4 hd, fun d hd => isD_some k5 hd, fun d hd => isD_some k6 hd⟩
  · exact absurd hij hf.1
  · obtain ⟨_, _, _, h3⟩ := drawOk_spec h hy
    obtain ⟨k1, _, k3, k4, k5, k6⟩ := h3 i x hx hij hf.2.2
    obtain ⟨a1, a2, a3⟩ := Oper.apart_spec k1
    exact ⟨a3, fun d hd he => a2 d he hd, k3, fun d hd he => isD_some k4 he hd, fun d hd he => isD_some k6 he hd, fun d hd he => isD_some k5 he hd⟩
def RunTo (ops : List Oper) (rec : Nat → Rc I) (i m : Nat) (c : RS I) : RS I := St ops rec c (List.range' i m)
theorem St_congr (ops : List Oper) {rec rec' : Nat → Rc I} : ∀ (l : List Nat) (c : RS I), (∀ j ∈ l, rec j = rec' j) → St ops rec c l = St ops rec' c l
  | [], _, _ => rfl
  | j :: l, c, h => by
    show St ops rec (eff ops rec c j) l = St ops rec' (eff ops rec' c j) l
    have : eff ops rec c j = eff ops rec' c j := by unfold eff; rw [h j List.mem_cons_self]
    rw [this]
    exact St_congr ops l _ fun j hj => h j (List.mem_cons_of_mem _ hj)
theorem records {cc : Op → Bool} {v : View} {ops : Array Oper} : ∀ (rest : List Oper) (i : Nat) (c : RS I), ops.toList.drop i = rest → (evOps E sp cc v ops rest i c.g c.s).run = some s' →
    ∃ rec : Nat → Rc I, (∀ m o, ops.toList[i + m]? = some o → StepR E sp (cc o.op) ops o (viewF none (v.tm (i + m)) (RunTo ops.toList rec i m c).g) (viewS v (i + m) (RunTo ops.toList rec i m c).s) (rec (i + m)).x (rec (i + m)).ws (rec (i + m)).g ∧ (∀ d, v.wb (i + m) = some d → ∀ q ∈ (rec (i + m)).ws, nameM q = d) ∧ ∀ q ∈ (rec (i + m)).ws, nameM q ∉ v.nw (i + m)) ∧
      (RunTo ops.toList rec i rest.length c).s = s'
  | [], i, c, hd, h => by
    refine ⟨fun _ => ⟨.any, [], none⟩, fun m o ho => ?_, ?_⟩
    · have : (ops.toList.drop i)[m]? = some o := by rw [List.getElem?_drop]; exact ho
      rw [hd] at this; cases this
    · have := Tree.run_ret h
      exact this
  | o :: rest, i, c, hd, h => by
    have ho : ops.toList[i]? = some o := by
      have := congrArg List.head? hd
      simpa [List.head?_drop] using this
    have hrest : ops.toList.drop (i + 1) = rest := by
      have := congrArg List.tail hd
      simpa [List.tail_drop] using this
    obtain ⟨x, ws, g, hst, hwb, hnw, hr⟩ := evOps_cons h
    obtain ⟨rec', h1, h2⟩ := records rest (i + 1) ⟨applyM ws (putT c.s o.dst x), putG c.g o.dst g⟩ hrest hr
    let rec0 : Nat → Rc I := fun j => if j = i then ⟨x, ws, g⟩ else rec' j
    have hi : rec0 i = ⟨x, ws, g⟩ := if_pos rfl
    have he : eff ops.toList rec0 c i = ⟨applyM ws (putT c.s o.dst x), putG c.g o.dst g⟩ := by
      unfold eff
      rw [ho, hi]
    have run : ∀ m, RunTo ops.toList rec0 i (m + 1) c = RunTo ops.toList rec' (i + 1) m ⟨applyM ws (putT c.s o.dst x), putG c.g o.dst g⟩ := by
      intro m
      unfold RunTo
      rw [List.range'_succ]
      show St ops.toList rec0 (eff ops.toList rec0 c i) _ = _
      rw [he]
      refine St_congr _ _ _ fun j hj => if_neg ?_
      have := (List.mem_range'_1.1 hj).1
      omega
    refine ⟨rec0, fun m q hq => ?_, ?_⟩
    · cases m with
      | zero =>
        rw [Nat.add_zero] at hq ⊢
        rw [ho] at hq
        injection hq with hq
        subst hq
        rw [hi]
        exact ⟨hst, hwb, hnw⟩
      | succ m =>
        have hq' : ops.toList[i + 1 + m]? = some q := by rw [show i + 1 + m = i + (m + 1) by omega]; exact hq
        have := h1 m q hq'
        rw [run m, show i + (m + 1) = i + 1 + m by omega]
        rw [show rec0 (i + 1 + m) = rec' (i + 1 + m) from if_neg (by omega)]
        exact this
    · rw [List.length_cons, run rest.length]
      exact h2
end
end Go.Ev
end
section
namespace Go.Ev
open Go.RowKit
variable {I : Nat → Type}
theorem class_le (cc : Bool) (op : Op) : class_ cc op ≤ 3 := by
  cases op with
  | call c =>
    obtain ⟨callee, args, tys⟩ := c
    cases callee with
    | builtin b => cases b <;> simp [class_]
    | _ => cases cc <;> simp [class_]
  | _ => simp [class_]
theorem nodup_le : ∀ (n : Nat) (l : List Nat), l.Nodup → (∀ x ∈ l, x < n) → l.length ≤ n
  | 0, l, _, h => by
    cases l with
    | nil => simp
    | cons x l => have := h x List.mem_cons_self; omega
  | n + 1, l, hn, h => by
    have h1 := nodup_le n (l.erase n) (hn.erase n) fun x hx => by
      have := (List.Nodup.mem_erase_iff hn).1 hx
      have := h x this.2
      omega
    rw [List.length_erase] at h1
    split at h1 <;> omega
theorem okL_le {cc : Op → Bool} {ops : List Oper} {o : Oper} (h : okL (cls cc ops o) o.op = true) : cls cc ops o ≤ 1 := by
  unfold okL at h
  cases hb : Nat.beq (cls cc ops o) 0 with
  | true => rw [Nat.eq_of_beq_eq_true hb]; omega
  | false =>
    rw [hb, Bool.false_or] at h
    have hw : wbox ops o = none := by
      unfold wbox
      split
      · rename_i e; rw [e] at h; simp [isLd] at h
      · rfl
    unfold cls
    rw [hw]
    cases ho : o.op <;> rw [ho] at h <;> simp [isLd] at h
    simp [class_]
theorem cls_ne {cc : Op → Bool} {ops : List Oper} {o : Oper} (h : class_ (cc o.op) o.op ≠ 0) : cls cc ops o ≠ 0 := by
  unfold cls
  split
  · decide
  · exact h
theorem wbox_dst {ops : List Oper} {o : Oper} {d : Nat} (h : wbox ops o = some d) : ∃ q ∈ ops, q.dst = some d := by
  unfold wbox at h
  split at h
  · split at h
    · rename_i e _ hany
      injection h with h
      subst h
      obtain ⟨q, hq, hp⟩ := List.any_eq_true.1 hany
      rw [Bool.and_eq_true] at hp
      refine ⟨q, hq, ?_⟩
      have := hp.1
      split at this
      · rename_i c hc
        rw [hc, Nat.eq_of_beq_eq_true this]
      · cases this
    · cases h
  · cases h
section
variable {P : Program} {E : Env I} {sp : Nat → List (AV I) → Tree (RV I)} {X : Nat → Prop} {B : Nat} {w0 : World} {Sl0 : Nat → Nat → Prop} {Ex Ex' Ex0 : Value → AV I → Prop} {cc : Op → Bool} {γ : Gam} {Sl Sl' : Nat → Nat → Prop} {s s' : AS I} {a : Act} {w w' : World}
theorem lastW_eq {α : Type} (f : Nat → Option α) (z : α) {l l' : List Nat} (h : (l.filter fun j => (f j).isSome) = l'.filter fun j => (f j).isSome) : lastW f z l = lastW f z l' := by
  rw [lastW_filter f l, lastW_filter f l', h]
theorem seen_eq {ops : List Oper} {l : List Nat} (hv : Valid ops l) {i : Nat} (hi : i ∉ l) (hn : i < ops.length) (ha : ∀ q, ahead ops q i = true → q ∈ l) {α : Type} (f : Nat → Option α) (z : α)
    (hord : ∀ j k, j < k → k < ops.length → (f j).isSome = true → (f k).isSome = true → ahead ops j k = true) (hfree : ∀ j, j < ops.length → (f j).isSome = true → free2 ops i j → False) : lastW f z l = lastW f z (List.range i) := by
  refine lastW_eq f z (sorted_eq _ _ (hv.sorted hord) ((valid_range ops i (by omega)).sorted hord) fun j => ?_)
  rw [List.mem_filter, List.mem_filter, List.mem_range]
  refine ⟨fun ⟨hj, hp⟩ => ⟨?_, hp⟩, fun ⟨hj, hp⟩ => ⟨?_, hp⟩⟩
  · have hjn := hv.lt j hj
    rcases Nat.lt_trichotomy j i with h1 | h1 | h1
    · exact h1
    · subst h1; exact absurd hj hi
    · exfalso
      refine hfree j hjn hp ⟨by omega, ?_, ?_⟩
      · cases h2 : ahead ops i j with
        | false => rfl
        | true => exact absurd (hv.closed j hj i h2) hi
      · cases h2 : ahead ops j i with
        | false => rfl
        | true => have := ahead_lt i hn h2; omega
  · cases h2 : ahead ops j i with
    | true => exact ha j h2
    | false =>
      exfalso
      refine hfree j (by omega) hp ⟨by omega, ?_, h2⟩
      cases h3 : ahead ops i j with
      | false => rfl
      | true => have := ahead_lt j (by omega) h3; omega
theorem all_eq {ops : List Oper} {l : List Nat} (hv : Valid ops l) (hall : ∀ i, i < ops.length → i ∈ l) {α : Type} (f : Nat → Option α) (z : α)
    (hord : ∀ j k, j < k → k < ops.length → (f j).isSome = true → (f k).isSome = true → ahead ops j k = true) : lastW f z l = lastW f z (List.range ops.length) := by
  refine lastW_eq f z (sorted_eq _ _ (hv.sorted hord) ((valid_range ops ops.length (Nat.le_refl _)).sorted hord) fun j => ?_)
  rw [List.mem_filter, List.mem_filter, List.mem_range]
  exact ⟨fun ⟨hj, hp⟩ => ⟨hv.lt j hj, hp⟩, fun ⟨hj, hp⟩ => ⟨hall j hj, hp⟩⟩
theorem region_draw (hE : EnvOK P E) (hS : ∀ f, SpecOK P E sp f) {n : Nat} {ops : Array Oper} {id : Nat} (hp : plainOk n ops.toList = true) (hd : drawOk cc ops.toList = true) {Q : Exit → Act → World → Prop} (hn : n ≤ a.tmps.size) (h : Con E X B w0 Sl0 Ex0 γ Sl s a w)
    (hr : (evOps E sp cc (drawView cc ops.toList) ops ops.toList 0 (fun _ => none) s).run = some s') (hQ : ∀ a1 w1 γ1 Sl1, a1.tmps.size = a.tmps.size → Con E X B w0 Sl0 Ex0 γ1 Sl1 s' a1 w1 → Q .normal a1 w1) : (Code.region id ops true).wp P Q a w := by
  let c0 : RS I := ⟨s, fun _ => none⟩
  obtain ⟨rec, hrec, hend⟩ := records (E := E) (sp := sp) (v := drawView cc ops.toList) (ops := ops) ops.toList 0 c0 rfl hr
  have hrun : ∀ m, RunTo ops.toList rec 0 m c0 = St ops.toList rec c0 (List.range m) := fun m => by unfold RunTo; rw [List.range_eq_range']
  simp only [Nat.zero_add, hrun] at hrec
  rw [hrun] at hend
  have some_of : ∀ {j}, j < ops.toList.length → ∃ o, ops.toList[j]? = some o := fun hj => ⟨_, List.getElem?_eq_getElem hj⟩
  -- who writes the same is ordered
  have ordT : ∀ t j k, j < k → k < ops.toList.length → (ops.toList[j]?).bind (·.dst) = some t → (ops.toList[k]?).bind (·.dst) = some t → ahead ops.toList j k = true := by
    intro t j k hjk hk h1 h2
    obtain ⟨x, hx⟩ := some_of (show j < _ by omega)
    obtain ⟨y, hy⟩ := some_of hk
    rw [hx] at h1; rw [hy] at h2
    cases h3 : ahead ops.toList j k with
    | true => rfl
    | false =>
      have hf : free2 ops.toList j k := ⟨by omega, h3, by
        cases h4 : ahead ops.toList k j with
        | false => rfl
        | true => have := ahead_lt j (by omega) h4; omega⟩
      exact absurd h2 ((free2_spec hd hx hy hf).2.1 t h1)
  -- who writes memory
  have wr : ∀ {j o}, ops.toList[j]? = some o → ∀ {m}, m ∈ (rec j).ws → (cls cc ops.toList o = 2 ∧ o.dst = some (keyOf m)) ∨ (cls cc ops.toList o = 3) ∨ wbox ops.toList o = some (keyOf m) := by
    intro j o ho m hm
    obtain ⟨hstp, hwb, _⟩ := hrec j o ho
    cases hwo : wbox ops.toList o with
    | some d =>
      right; right
      have := hwb d (by simp only [drawView, ho]; exact hwo) m hm
      rw [← this]
      cases m <;> rfl
    | none =>
    have hcl : cls cc ops.toList o = class_ (cc o.op) o.op := by unfold cls; rw [hwo]
    rw [hcl]
    obtain ⟨k1, k2⟩ := stepR_ws hstp
    have hle := class_le (cc o.op) o.op
    rcases Nat.lt_or_ge (class_ (cc o.op) o.op) 2 with h1 | h1
    · rw [k1 (by omega)] at hm; cases hm
    · rcases Nat.lt_or_ge (class_ (cc o.op) o.op) 3 with h2 | h2
      · have hc : class_ (cc o.op) o.op = 2 := by omega
        have hk := k2 hc m hm
        have hds := (drawOk_spec hd ho).2.2.1 (by rw [hcl]; exact hc)
        cases hdd : o.dst with
        | none => exact absurd hdd hds
        | some d => rw [hdd] at hk; left; exact ⟨hc, by rw [hk]; rfl⟩
      · right; left; omega
  have freeM : ∀ {j k x y}, ops.toList[j]? = some x → ops.toList[k]? = some y → free2 ops.toList j k → ∀ {m m'}, m ∈ (rec j).ws → m' ∈ (rec k).ws → keyOf m = keyOf m' → False := by
    intro j k x y hx hy hf m m' hm hm' he
    obtain ⟨_, f2, f3, f4, f5, f6⟩ := free2_spec hd hx hy hf
    obtain ⟨_, _, f3', _⟩ := free2_spec hd hy hx ⟨hf.1.symm, hf.2.2, hf.2.1⟩
    have nz : ∀ {o : Oper} {q : Nat}, wbox ops.toList o = some q → cls cc ops.toList o = 4 := by intro o q hq; unfold cls; rw [hq]
    have ok2 : ∀ {o : Oper}, okL (cls cc ops.toList o) o.op = true → cls cc ops.toList o ≤ 1 := okL_le
    rcases wr hx hm with ⟨c1, d1⟩ | c1 | d1
    · rcases wr hy hm' with ⟨c2, d2⟩ | c2 | d2
      · exact f2 _ d1 (by rw [d2, he])
      · have := ok2 (f3' c2); omega
      · exact f6 _ d1 (by rw [d2, he])
    · have := ok2 (f3 c1)
      rcases wr hy hm' with ⟨c2, _⟩ | c2 | d2
      · omega
      · omega
      · have := nz d2; omega
    · rcases wr hy hm' with ⟨c2, d2⟩ | c2 | d2
      · exact f5 _ d1 (by rw [d2, he])
      · have := ok2 (f3' c2); have := nz d1; omega
      · exact f4 _ d1 (by rw [d2, he])
  have ordM : ∀ j k, j < k → k < ops.toList.length → ∀ {m m'}, m ∈ (rec j).ws → m' ∈ (rec k).ws → keyOf m = keyOf m' → ahead ops.toList j k = true := by
    intro j k hjk hk m m' hm hm' he
    obtain ⟨x, hx⟩ := some_of (show j < _ by omega)
    obtain ⟨y, hy⟩ := some_of hk
    cases h3 : ahead ops.toList j k with
    | true => rfl
    | false =>
      exact (freeM hx hy ⟨by omega, h3, by
        cases h4 : ahead ops.toList k j with
        | false => rfl
        | true => have := ahead_lt j (by omega) h4; omega⟩ hm hm' he).elim
  have isT : ∀ {t j}, (fT ops.toList rec t j).isSome = true → (ops.toList[j]?).bind (·.dst) = some t := by
    intro t j hh; unfold fT at hh; split at hh <;> first | assumption | cases hh
  have isG : ∀ {t j}, (fG ops.toList rec t j).isSome = true → (ops.toList[j]?).bind (·.dst) = some t := by
    intro t j hh; unfold fG at hh; split at hh <;> first | assumption | cases hh
  have isB : ∀ {k j}, (fB ops.toList rec k j).isSome = true → ∃ m ∈ (rec j).ws, keyOf m = k := by
    intro k j hh
    unfold fB at hh
    split at hh
    · exact wB_key (by intro h0; rw [h0] at hh; cases hh)
    · cases hh
  have isO : ∀ {k j}, (fO ops.toList rec k j).isSome = true → ∃ m ∈ (rec j).ws, keyOf m = k := by
    intro k j hh
    unfold fO at hh
    split at hh
    · exact wO_key (by intro h0; rw [h0] at hh; cases hh)
    · cases hh
  have isF : ∀ {k j}, (fF ops.toList rec k j).isSome = true → ∃ m ∈ (rec j).ws, keyOf m = k := by
    intro k j hh
    unfold fF at hh
    split at hh
    · exact wF_key (by intro h0; rw [h0] at hh; cases hh)
    · cases hh
  have oF : ∀ t j k, j < k → k < ops.toList.length → (fF ops.toList rec t j).isSome = true → (fF ops.toList rec t k).isSome = true → ahead ops.toList j k = true := fun t j k h1 h2 h3 h4 => by
    obtain ⟨m, m1, m2⟩ := isF h3
    obtain ⟨m', m1', m2'⟩ := isF h4
    exact ordM j k h1 h2 m1 m1' (m2.trans m2'.symm)
  have oT : ∀ t j k, j < k → k < ops.toList.length → (fT ops.toList rec t j).isSome = true → (fT ops.toList rec t k).isSome = true → ahead ops.toList j k = true := fun t j k h1 h2 h3 h4 => ordT t j k h1 h2 (isT h3) (isT h4)
  have oG : ∀ t j k, j < k → k < ops.toList.length → (fG ops.toList rec t j).isSome = true → (fG ops.toList rec t k).isSome = true → ahead ops.toList j k = true := fun t j k h1 h2 h3 h4 => ordT t j k h1 h2 (isG h3) (isG h4)
  have oB : ∀ t j k, j < k → k < ops.toList.length → (fB ops.toList rec t j).isSome = true → (fB ops.toList rec t k).isSome = true → ahead ops.toList j k = true := fun t j k h1 h2 h3 h4 => by
    obtain ⟨m, m1, m2⟩ := isB h3
    obtain ⟨m', m1', m2'⟩ := isB h4
    exact ordM j k h1 h2 m1 m1' (m2.trans m2'.symm)
  have oO : ∀ t j k, j < k → k < ops.toList.length → (fO ops.toList rec t j).isSome = true → (fO ops.toList rec t k).isSome = true → ahead ops.toList j k = true := fun t j k h1 h2 h3 h4 => by
    obtain ⟨m, m1, m2⟩ := isO h3
    obtain ⟨m', m1', m2'⟩ := isO h4
    exact ordM j k h1 h2 m1 m1' (m2.trans m2'.symm)
  have hlen : ops.toList.length = ops.size := Array.length_toList
  have getA : ∀ i : Nat, ops[i]? = ops.toList[i]? := fun i => Array.getElem?_toList.symm
  -- any order
  have key : ∀ (fuel : Nat) (l : List Nat) (listed : Array Bool) (a1 : Act) (w1 : World) (γ1 : Gam) (Sl1 : Nat → Nat → Prop), Valid ops.toList l → listed.size = ops.size → (∀ j, j < ops.size → (listed.getD j true = true ↔ j ∈ l)) → l.length + fuel = ops.size → a1.tmps.size = a.tmps.size →
      Con E X B w0 Sl0 (exG Ex0 (St ops.toList rec c0 l).g a1) γ1 Sl1 (St ops.toList rec c0 l).s a1 w1 → wpAny P .any ops Q fuel listed a1 w1 := by
    intro fuel
    have ready_in : ∀ {l : List Nat} {listed : Array Bool} {i : Nat}, Valid ops.toList l → listed.size = ops.size → (∀ j, j < ops.size → (listed.getD j true = true ↔ j ∈ l)) → i ∈ Region.ready .any ops listed →
        i < ops.size ∧ i ∉ l ∧ ∀ q, ahead ops.toList q i = true → q ∈ l := by
      intro l listed i hv hsz hli hi
      unfold Region.ready at hi
      rw [List.mem_filter, List.mem_range, Bool.and_eq_true] at hi
      obtain ⟨h1, h2, h3⟩ := hi
      have hnl : i ∉ l := fun hm => by
        have := (hli i h1).2 hm
        rw [this] at h2
        cases h2
      refine ⟨h1, hnl, fun q hq => ?_⟩
      have ho : ops.toList[i]? = some (ops.toList[i]'(by omega)) := List.getElem?_eq_getElem (by omega)
      obtain ⟨e, he, hb, hlt, hor⟩ := ahead_edge ho hq
      rw [getA, ho] at h3
      simp only [Option.map_some, Option.getD_some] at h3
      have h4 := Array.all_eq_true_iff_forall_mem.1 h3 e (by simpa using he)
      rw [hb] at h4
      simp only [Bool.not_true, Bool.false_or] at h4
      have hon : e.on ∈ l := by
        refine (hli e.on (by omega)).1 ?_
        have : e.on < listed.size := by omega
        simp [Array.getD_eq_getD_getElem?, this] at h4 ⊢
        exact h4
      rcases hor with h5 | h5
      · rw [h5]; exact hon
      · exact hv.closed e.on hon q h5
    have done : ∀ {l : List Nat} {listed : Array Bool} {a1 : Act} {w1 : World} {γ1 : Gam} {Sl1 : Nat → Nat → Prop}, Valid ops.toList l → listed.size = ops.size → (∀ j, j < ops.size → (listed.getD j true = true ↔ j ∈ l)) → a1.tmps.size = a.tmps.size →
        Con E X B w0 Sl0 (exG Ex0 (St ops.toList rec c0 l).g a1) γ1 Sl1 (St ops.toList rec c0 l).s a1 w1 → Region.ready .any ops listed = [] → Q .normal a1 w1 := by
      intro l listed a1 w1 γ1 Sl1 hv hsz hli ha1 hc hempty
      have hall : ∀ i, i < ops.toList.length → i ∈ l := by
        intro i
        induction i using Nat.strongRecOn with
        | _ i ih =>
          intro hi
          by_cases hm : i ∈ l
          · exact hm
          · exfalso
            have hin : i ∈ Region.ready .any ops listed := by
              unfold Region.ready
              rw [List.mem_filter, List.mem_range, Bool.and_eq_true]
              refine ⟨by omega, ?_, ?_⟩
              · cases hq : listed.getD i true with
                | false => rfl
                | true => exact absurd ((hli i (by omega)).1 hq) hm
              · have ho : ops.toList[i]? = some (ops.toList[i]'hi) := List.getElem?_eq_getElem hi
                rw [getA, ho]
                simp only [Option.map_some, Option.getD_some]
                refine Array.all_eq_true_iff_forall_mem.2 fun e he => ?_
                cases hb : Region.binds .any e with
                | false => rfl
                | true =>
                  have hlt := (drawOk_spec hd ho).1 e (by simpa using he) hb
                  have := (hli e.on (by omega)).2 (ih e.on hlt (by omega))
                  have hsz' : e.on < listed.size := by omega
                  simp [Array.getD_eq_getD_getElem?, hsz'] at this ⊢
                  exact this
            rw [hempty] at hin
            cases hin
      have hst : (St ops.toList rec c0 l).s = s' := by
        rw [← hend]
        have e1 : (St ops.toList rec c0 l).s.tmps = (St ops.toList rec c0 (List.range ops.toList.length)).s.tmps := by
          funext t; rw [St_tmps, St_tmps]; exact all_eq hv hall _ _ (oT t)
        have e2 : (St ops.toList rec c0 l).s.boxes = (St ops.toList rec c0 (List.range ops.toList.length)).s.boxes := by
          funext t; rw [St_boxes, St_boxes]; exact all_eq hv hall _ _ (oB t)
        have e3 : (St ops.toList rec c0 l).s.objs = (St ops.toList rec c0 (List.range ops.toList.length)).s.objs := by
          funext t; rw [St_objs, St_objs]; exact all_eq hv hall _ _ (oO t)
        have e4 : (St ops.toList rec c0 l).s.fxs = (St ops.toList rec c0 (List.range ops.toList.length)).s.fxs := by
          funext t; rw [St_fxs, St_fxs]; exact all_eq hv hall _ _ (oF t)
        cases hA : (St ops.toList rec c0 l).s
        cases hB : (St ops.toList rec c0 (List.range ops.toList.length)).s
        rw [hA, hB] at e1 e2 e3 e4
        simp only at e1 e2 e3 e4
        rw [e1, e2, e3, e4]
      rw [hst] at hc
      exact hQ a1 w1 γ1 Sl1 ha1 (hc.withEx fun v x hh => hc.ex v x (.inl hh))
    induction fuel with
    | zero =>
      intro l listed a1 w1 γ1 Sl1 hv hsz hli hfu ha1 hc
      have hempty : Region.ready .any ops listed = [] := by
        cases hq : Region.ready .any ops listed with
        | nil => rfl
        | cons i r =>
          exfalso
          obtain ⟨k1, k2, k3⟩ := ready_in hv hsz hli (i := i) (by rw [hq]; exact List.mem_cons_self)
          have hv2 := Valid.snoc l i hv k2 (by omega) k3
          have := nodup_le ops.size _ hv2.nodup (fun x hx => by have := hv2.lt x hx; omega)
          simp at this
          omega
      exact ⟨hempty, done hv hsz hli ha1 hc hempty⟩
    | succ fuel ih =>
      intro l listed a1 w1 γ1 Sl1 hv hsz hli hfu ha1 hc
      refine ⟨fun he => done hv hsz hli ha1 hc he, fun i hi => ?_⟩
      obtain ⟨k1, k2, k3⟩ := ready_in hv hsz hli hi
      have hil : i < ops.toList.length := by omega
      obtain ⟨o, ho⟩ := some_of hil
      have hoA : ops[i]? = some o := by rw [getA]; exact ho
      obtain ⟨pn, p1, p2⟩ := plainOk_spec hp hoA
      have hst := (hrec i o ho).1
      -- what it sees
      have eG : viewF none ((drawView cc ops.toList).tm i) (St ops.toList rec c0 (List.range i)).g = viewF none ((drawView cc ops.toList).tm i) (St ops.toList rec c0 l).g := by
        funext t
        unfold viewF
        cases ht : (drawView cc ops.toList).tm i t with
        | false => rfl
        | true =>
          simp only
          rw [St_g, St_g]
          refine (seen_eq hv k2 hil k3 _ _ (oG t) fun j hj hp' hf => ?_).symm
          obtain ⟨y, hy⟩ := some_of hj
          have hdst := isG hp'
          rw [hy] at hdst
          have hlook : t ∈ o.looksAt ops.toList.toArray := by
            simp only [drawView, ho] at ht
            simpa using ht
          exact (free2_spec hd hy ho ⟨hf.1.symm, hf.2.2, hf.2.1⟩).1 t hdst hlook
      have eT : viewF .any ((drawView cc ops.toList).tm i) (St ops.toList rec c0 (List.range i)).s.tmps = viewF .any ((drawView cc ops.toList).tm i) (St ops.toList rec c0 l).s.tmps := by
        funext t
        unfold viewF
        cases ht : (drawView cc ops.toList).tm i t with
        | false => rfl
        | true =>
          simp only
          rw [St_tmps, St_tmps]
          refine (seen_eq hv k2 hil k3 _ _ (oT t) fun j hj hp' hf => ?_).symm
          obtain ⟨y, hy⟩ := some_of hj
          have hdst := isT hp'
          rw [hy] at hdst
          have hlook : t ∈ o.looksAt ops.toList.toArray := by
            simp only [drawView, ho] at ht
            simpa using ht
          exact (free2_spec hd hy ho ⟨hf.1.symm, hf.2.2, hf.2.1⟩).1 t hdst hlook
      have memV : ∀ {k}, (drawView cc ops.toList).mem i k = true → cls cc ops.toList o ≠ 0 ∧ ∀ {j y}, ops.toList[j]? = some y → free2 ops.toList i j → y.dst ≠ some k ∧ wbox ops.toList y ≠ some k := by
        intro k hk
        simp only [drawView, ho, Bool.and_eq_true] at hk
        refine ⟨fun h0 => ?_, fun {j y} hy hf => ?_⟩
        · rw [h0] at hk; exact absurd hk.1.1 (by decide)
        · have := List.all_eq_true.1 hk.1.2 (y, j) (by rw [List.mem_zipIdx_iff_getElem?]; simpa using hy)
          have a1 : ((masks ops.toList []).getD i 0).testBit j = false := hf.2.2
          have a2 : ((masks ops.toList []).getD j 0).testBit i = false := hf.2.1
          have a3 : Nat.beq j i = false := by
            cases hb : Nat.beq j i with
            | false => rfl
            | true => exact absurd (Nat.eq_of_beq_eq_true hb).symm hf.1
          simp only [a1, a2, a3, Bool.false_or, Bool.and_eq_true] at this
          refine ⟨fun hdy => ?_, fun hdy => ?_⟩
          · have h1 := this.1; rw [hdy] at h1; simp at h1
          · have h1 := this.2; rw [hdy] at h1; simp at h1
      have noW : ∀ {k j}, (drawView cc ops.toList).mem i k = true → j < ops.toList.length → (∃ m ∈ (rec j).ws, keyOf m = k) → free2 ops.toList i j → False := by
        intro k j hk hj hm hf
        obtain ⟨m, m1, m2⟩ := hm
        obtain ⟨y, hy⟩ := some_of hj
        obtain ⟨v1, v2⟩ := memV hk
        rcases wr hy m1 with ⟨_, d1⟩ | c1 | d1
        · exact (v2 hy hf).1 (by rw [d1, m2])
        · have hok := (free2_spec hd hy ho ⟨hf.1.symm, hf.2.2, hf.2.1⟩).2.2.1 c1
          unfold okL at hok
          cases hb0 : Nat.beq (cls cc ops.toList o) 0 with
          | true => exact v1 (Nat.eq_of_beq_eq_true hb0)
          | false =>
            rw [hb0, Bool.false_or] at hok
            have hfb : freeB (masks ops.toList []) i j = true := by
              have a1 : ((masks ops.toList []).getD i 0).testBit j = false := hf.2.2
              have a2 : ((masks ops.toList []).getD j 0).testBit i = false := hf.2.1
              have a3 : Nat.beq j i = false := by
                cases hb : Nat.beq j i with
                | false => rfl
                | true => exact absurd (Nat.eq_of_beq_eq_true hb).symm hf.1
              unfold freeB
              rw [a1, a2, a3]; rfl
            have hb3 : Nat.beq (cls cc ops.toList y) 3 = true := by rw [c1]; rfl
            have hk' := hk
            simp only [drawView, ho, Bool.and_eq_true, hok, Bool.not_true, Bool.false_or, Bool.or_eq_true] at hk'
            rcases hk'.2 with hall | hroot
            · have := List.all_eq_true.1 hall (y, j) (by rw [List.mem_zipIdx_iff_getElem?]; simpa using hy)
              rw [hfb, hb3] at this
              exact absurd this (by decide)
            · have hkr := Nat.eq_of_beq_eq_true hroot
              obtain ⟨_, _, hnw⟩ := hrec j y hy
              refine hnw m m1 ?_
              have hnk : nameM m = k := by rw [← m2]; cases m <;> rfl
              simp only [drawView, hy, hb3]
              refine List.mem_filterMap.2 ⟨(o, i), by rw [List.mem_zipIdx_iff_getElem?]; simpa using ho, ?_⟩
              rw [hok, hfb, hnk, hkr]
              rfl
        · exact (v2 hy hf).2 (by rw [d1, m2])
      have eB : viewF none ((drawView cc ops.toList).mem i) (St ops.toList rec c0 (List.range i)).s.boxes = viewF none ((drawView cc ops.toList).mem i) (St ops.toList rec c0 l).s.boxes := by
        funext k
        unfold viewF
        cases hk : (drawView cc ops.toList).mem i k with
        | false => rfl
        | true =>
          simp only
          rw [St_boxes, St_boxes]
          exact (seen_eq hv k2 hil k3 _ _ (oB k) fun j hj hp' hf => noW hk hj (isB hp') hf).symm
      have eO : viewF none ((drawView cc ops.toList).mem i) (St ops.toList rec c0 (List.range i)).s.objs = viewF none ((drawView cc ops.toList).mem i) (St ops.toList rec c0 l).s.objs := by
        funext k
        unfold viewF
        cases hk : (drawView cc ops.toList).mem i k with
        | false => rfl
        | true =>
          simp only
          rw [St_objs, St_objs]
          exact (seen_eq hv k2 hil k3 _ _ (oO k) fun j hj hp' hf => noW hk hj (isO hp') hf).symm
      have eF : viewF none ((drawView cc ops.toList).mem i) (St ops.toList rec c0 (List.range i)).s.fxs = viewF none ((drawView cc ops.toList).mem i) (St ops.toList rec c0 l).s.fxs := by
        funext k
        unfold viewF
        cases hk : (drawView cc ops.toList).mem i k with
        | false => rfl
        | true =>
          simp only
          rw [St_fxs, St_fxs]
          exact (seen_eq hv k2 hil k3 _ _ (oF k) fun j hj hp' hf => noW hk hj (isF hp') hf).symm
      have eS : viewS (drawView cc ops.toList) i (St ops.toList rec c0 (List.range i)).s = viewS (drawView cc ops.toList) i (St ops.toList rec c0 l).s := by
        unfold viewS; rw [eT, eB, eO, eF]
      rw [eG, eS] at hst
      have nmV : cls cc ops.toList o ≠ 0 → isLd o.op = false → ∀ k, k = o.dst.getD 1000003 ∨ 10000000 ≤ k → (drawView cc ops.toList).mem i k = true := by
        intro hc0 hld k hk
        simp only [drawView, ho, Bool.and_eq_true, hld, Bool.not_false, Bool.true_or, and_true]
        refine ⟨?_, List.all_eq_true.2 fun ⟨q, j⟩ hq => ?_⟩
        · cases hb : Nat.beq (cls cc ops.toList o) 0 with
          | false => rfl
          | true => exact absurd (Nat.eq_of_beq_eq_true hb) hc0
        · have hqj : ops.toList[j]? = some q := by rw [List.mem_zipIdx_iff_getElem?] at hq; simpa using hq
          cases hb : Nat.beq j i with
          | true => rfl
          | false =>
            have hji : i ≠ j := fun e => by subst e; simp at hb
            cases h1 : ((masks ops.toList []).getD i 0).testBit j with
            | true => rfl
            | false =>
              cases h2 : ((masks ops.toList []).getD j 0).testBit i with
              | true => rfl
              | false =>
                have hf : free2 ops.toList i j := ⟨hji, h2, h1⟩
                simp only [Bool.false_or, Bool.and_eq_true]
                refine ⟨?_, ?_⟩
                rotate_left
                · cases hdq : wbox ops.toList q with
                  | none => rfl
                  | some e =>
                    simp only
                    cases hbe : Nat.beq e k with
                    | false => rfl
                    | true =>
                      exfalso
                      have hee := Nat.eq_of_beq_eq_true hbe
                      obtain ⟨q', hq', hdst'⟩ := wbox_dst hdq
                      obtain ⟨j', hj'⟩ := List.getElem?_of_mem hq'
                      have hqA' : ops[j']? = some q' := by rw [getA]; exact hj'
                      obtain ⟨_, q1', _⟩ := plainOk_spec hp hqA'
                      have h7 : e < n := q1' e hdst'
                      rcases hk with hk | hk
                      · cases hdo : o.dst with
                        | none =>
                          rw [hdo] at hk
                          have hk2 : e = (1000003 : Nat) := hee.trans (hk.trans (rfl : (none : Option Nat).getD 1000003 = 1000003))
                          rw [hk2] at h7
                          exact absurd h7 (Nat.not_lt.2 (Nat.le_trans pn (by decide)))
                        | some d =>
                          rw [hdo] at hk
                          have hkd : k = d := hk
                          exact (free2_spec hd ho hqj hf).2.2.2.2.2 d hdo (by rw [hdq, hee, hkd])
                      · exact absurd (hee ▸ hk : 10000000 ≤ e) (Nat.not_le.2 (Nat.lt_of_lt_of_le h7 (Nat.le_trans pn (by decide))))
                cases hdq : q.dst with
                | none => rfl
                | some e =>
                  simp only
                  cases hbe : Nat.beq e k with
                  | false => rfl
                  | true =>
                    exfalso
                    have hee := Nat.eq_of_beq_eq_true hbe
                    have hek : e = o.dst.getD 1000003 := by
                      rcases hk with hk | hk
                      · rw [hee, hk]
                      · have hqA : ops[j]? = some q := by rw [getA]; exact hqj
                        obtain ⟨_, q1, _⟩ := plainOk_spec hp hqA
                        have h7 : e < n := q1 e hdq
                        have h8 : n ≤ 1000000 := pn
                        exfalso
                        exact absurd (hee ▸ hk : 10000000 ≤ e) (Nat.not_le.2 (Nat.lt_of_lt_of_le h7 (Nat.le_trans h8 (by decide))))
                    clear hee
                    have hee := hek
                    have hqA : ops[j]? = some q := by rw [getA]; exact hqj
                    obtain ⟨_, q1, _⟩ := plainOk_spec hp hqA
                    have := q1 e hdq
                    cases hdo : o.dst with
                    | none => rw [hdo] at hee; have h9 : e = (1000003 : Nat) := hee.trans (rfl : (none : Option Nat).getD 1000003 = 1000003); rw [h9] at this; exact absurd this (Nat.not_lt.2 (Nat.le_trans pn (by decide)))
                    | some d =>
                      rw [hdo] at hee
                      simp at hee
                      exact (free2_spec hd ho hqj hf).2.1 d hdo (by rw [hdq, hee])
      have gOf : ∀ {t g}, (St ops.toList rec c0 l).g t = some g → ∃ j ∈ l, ∃ y, ops.toList[j]? = some y ∧ (rec j).g = some g := by
        intro t g hg
        have aux : ∀ (l : List Nat) (c : RS I), (∀ j ∈ l, j < ops.toList.length) → (St ops.toList rec c l).g t = some g → c.g t = some g ∨ ∃ j ∈ l, ∃ y, ops.toList[j]? = some y ∧ (rec j).g = some g := by
          intro l
          induction l with
          | nil => intro c _ hh; exact .inl hh
          | cons j l ihl =>
            intro c hlt hh
            rcases ihl (eff ops.toList rec c j) (fun q hq => hlt q (List.mem_cons_of_mem _ hq)) hh with h1 | ⟨q, h1, h2⟩
            · obtain ⟨y, hy⟩ := some_of (hlt j List.mem_cons_self)
              unfold eff at h1
              rw [hy] at h1
              simp only at h1
              by_cases hdt : y.dst = some t
              · rw [hdt] at h1
                simp only [putG, upd_same] at h1
                exact .inr ⟨j, List.mem_cons_self, y, hy, h1⟩
              · rw [putG_other _ _ _ _ hdt] at h1
                exact .inl h1
            · exact .inr ⟨q, List.mem_cons_of_mem _ h1, h2⟩
        rcases aux l c0 (fun j hj => hv.lt j hj) hg with h1 | h1
        · cases h1
        · exact h1
      refine region_step hE hS hoA hc (Sub.view (drawView cc ops.toList) i _ _) (fun hc0 hld k hk => ⟨fun hnone => ?_, fun hnone => ?_, fun hnone => ?_⟩) (fun d hd' => Nat.lt_of_lt_of_le (p1 d hd') (by rw [ha1]; exact hn)) (fun t g hg => ?_) (fun j b d hg hd' => ?_) hst fun a2 w2 γ2 Sl2 hsz2 hc2 => ?_
      · have : viewF none ((drawView cc ops.toList).mem i) (St ops.toList rec c0 l).s.boxes k = none := hnone
        unfold viewF at this
        rw [nmV (cls_ne hc0) hld k hk] at this
        exact this
      · have : viewF none ((drawView cc ops.toList).mem i) (St ops.toList rec c0 l).s.objs k = none := hnone
        unfold viewF at this
        rw [nmV (cls_ne hc0) hld k hk] at this
        exact this
      · have : viewF none ((drawView cc ops.toList).mem i) (St ops.toList rec c0 l).s.fxs k = none := hnone
        unfold viewF at this
        rw [nmV (cls_ne hc0) hld k hk] at this
        exact this
      · obtain ⟨j, hj, y, hy, hgj⟩ := gOf hg
        have hsj := (hrec j y hy).1
        rw [hgj] at hsj
        generalize (rec j).x = xx at hsj
        generalize (rec j).ws = ww at hsj
        cases hsj with
        | spec x q d b hgu hdd _ =>
          have hyA : ops[j]? = some y := by rw [getA]; exact hy
          obtain ⟨_, _, q2⟩ := plainOk_spec hp hyA
          obtain ⟨hqj, d', hd', hu⟩ := q2 q b hgu
          rw [hdd] at hd'
          injection hd' with hd'
          subst hd'
          have hql : q ∈ l := hv.closed j hj q ((drawOk_spec hd hy).2.1 q b hgu)
          exact hu i o hoA (fun e => k2 (e ▸ hql))
      · obtain ⟨hj, d', hd'', hu⟩ := p2 j b hg
        rw [hd'] at hd''
        injection hd'' with hd''
        subst hd''
        exact hu i o hoA (by omega)
      · have he : eff ops.toList rec (St ops.toList rec c0 l) i = ⟨applyM (rec i).ws (putT (St ops.toList rec c0 l).s o.dst (rec i).x), putG (St ops.toList rec c0 l).g o.dst (rec i).g⟩ := by
          unfold eff; rw [ho]
        refine ih (l ++ [i]) _ a2 w2 γ2 Sl2 (.snoc l i hv k2 hil k3) (by simpa using hsz) (fun j hj => ?_) (by simp; omega) (hsz2.trans ha1) ?_
        · rw [Array.getD_eq_getD_getElem?, Array.getElem?_setIfInBounds]
          by_cases e : i = j
          · subst e
            have : i < listed.size := by omega
            simp [this]
          · rw [if_neg e, ← Array.getD_eq_getD_getElem?, hli j hj]
            simp [Ne.symm e]
        · rw [St_snoc, he]
          exact hc2
  refine wp_region_any hE.mixed (key ops.size [] (Array.replicate ops.size false) a _ γ Sl .nil (by simp) (fun j hj => by simp [Array.getD_eq_getD_getElem?, hj]) (by simp) rfl ?_)
  exact (h.drew).withEx fun v x hh => by
    rcases hh with hh | ⟨t, g, hg, _⟩
    · exact h.drew.ex v x hh
    · cases hg
end
end Go.Ev
end
section
namespace Go.Ev
open Go.RowKit
variable {I : Nat → Type}
def Out.exit' : Out → Exit
  | .normal => .normal
  | .exit id => .exit id
  | .ret => .ret
section
variable {P : Program} {E : Env I} {sp : Nat → List (AV I) → Tree (RV I)} {X : Nat → Prop} {B : Nat} {w0 : World} {Sl0 : Nat → Nat → Prop} {Ex Ex' Ex0 : Value → AV I → Prop} {γ : Gam} {Sl Sl' : Nat → Nat → Prop} {s s' : AS I} {a : Act} {w w' : World}
theorem Tree.run_bind' {α β : Type} {t : Tree α} {f : α → Tree β} {r : β} (h : (t.bind f).run = some r) : ∃ x, t.run = some x ∧ (f x).run = some r := by
  rw [Tree.run_bind] at h
  cases ht : t.run with
  | none => rw [ht] at h; cases h
  | some x => rw [ht] at h; exact ⟨x, rfl, h⟩
theorem loop_sound (hE : EnvOK P E) {rts : List Nat} (hx : ExOK Ex0 rts) {c : Code} {n : Nat} {body : AS I → Tree (Out × AS I)} {hi : Hint} {Q : Exit → Act → World → Prop}
    (hb : ∀ (s : AS I) (a : Act) (w : World) (γ : Gam) (Sl : Nat → Nat → Prop) (out : Out) (s' : AS I) (Q : Exit → Act → World → Prop), n ≤ a.tmps.size → Con E X B w0 Sl0 Ex0 γ Sl s a w → (body s).run = some (out, s') →
      (∀ a1 w1 γ1 Sl1, n ≤ a1.tmps.size → Con E X B w0 Sl0 Ex0 γ1 Sl1 s' a1 w1 → Q out.exit' a1 w1) → c.wp P Q a w) :
    ∀ (k : Nat) (s : AS I) (a : Act) (w : World) (γ : Gam) (Sl : Nat → Nat → Prop) (out : Out) (s' : AS I), n ≤ a.tmps.size → Con E X B w0 Sl0 Ex0 γ Sl s a w → (loopN body (norm (fun e => (E.ty e).isSome) rts hi) k s).run = some (out, s') →
      (∀ a1 w1 γ1 Sl1, n ≤ a1.tmps.size → Con E X B w0 Sl0 Ex0 γ1 Sl1 s' a1 w1 → Q out.exit' a1 w1) → Code.rounds P c Q k a w
  | 0, s, a, w, γ, Sl, out, s', _, _, hr, _ => (Tree.run_fail hr).elim
  | k + 1, s, a, w, γ, Sl, out, s', hn, h, hr, hQ => by
    obtain ⟨γ2, h2⟩ := h.norm hE rts hx hi
    obtain ⟨⟨o1, s1⟩, h3, h4⟩ := Tree.run_bind' hr
    refine hb _ a w γ2 Sl o1 s1 _ hn h2 h3 fun a1 w1 γ1 Sl1 hn1 hc1 => ?_
    cases o1 with
    | normal => exact loop_sound hE hx hb k s1 a1 w1 γ1 Sl1 out s' hn1 hc1 h4 hQ
    | exit id =>
      have := Tree.run_ret h4
      simp only [Prod.mk.injEq] at this
      obtain ⟨rfl, rfl⟩ := this
      exact hQ a1 w1 γ1 Sl1 hn1 hc1
    | ret =>
      have := Tree.run_ret h4
      simp only [Prod.mk.injEq] at this
      obtain ⟨rfl, rfl⟩ := this
      exact hQ a1 w1 γ1 Sl1 hn1 hc1
theorem ev_sound (hE : EnvOK P E) (hS : ∀ f, SpecOK P E sp f) {rts : List Nat} (hx : ExOK Ex0 rts) {hints : Nat → Hint} {k n : Nat} :
    ∀ (c : Code) (s : AS I) (a : Act) (w : World) (γ : Gam) (Sl : Nat → Nat → Prop) (out : Out) (s' : AS I) (Q : Exit → Act → World → Prop), n ≤ a.tmps.size → Con E X B w0 Sl0 Ex0 γ Sl s a w → (ev E sp hints rts k n c s).run = some (out, s') →
      (∀ a1 w1 γ1 Sl1, n ≤ a1.tmps.size → Con E X B w0 Sl0 Ex0 γ1 Sl1 s' a1 w1 → Q out.exit' a1 w1) → c.wp P Q a w := by
  intro c
  induction c with
  | skip =>
    intro s a w γ Sl out s' Q hn h hr hQ
    have := Tree.run_ret hr
    simp only [Prod.mk.injEq] at this
    obtain ⟨rfl, rfl⟩ := this
    exact wp_skip (hQ a w γ Sl hn h)
  | region id ops draw =>
    intro s a w γ Sl out s' Q hn h hr hQ
    simp only [ev] at hr
    obtain ⟨s1, h1, h2⟩ := Tree.run_bind' hr
    have := Tree.run_ret h2
    simp only [Prod.mk.injEq] at this
    obtain ⟨rfl, rfl⟩ := this
    have hQ' : ∀ a1 w1 γ1 Sl1, a1.tmps.size = a.tmps.size → Con E X B w0 Sl0 Ex0 γ1 Sl1 s1 a1 w1 → Q .normal a1 w1 := fun a1 w1 γ1 Sl1 hsz hc => hQ a1 w1 γ1 Sl1 (by rw [hsz]; exact hn) hc
    unfold evRegion at h1
    split at h1
    · rename_i hp
      exact region_text hE hS hp hn h h1 hQ'
    · rename_i hp
      split at h1
      · rename_i hd
        exact region_draw hE hS hp hd hn h h1 hQ'
      · split at h1
        · rename_i hd
          exact region_draw hE hS hp hd hn h h1 hQ'
        · split at h1
          · rename_i hd
            exact region_draw hE hS hp hd hn h h1 hQ'
          · exact (Tree.run_fail h1).elim
    · exact (Tree.run_fail h1).elim
  | seq x y ihx ihy =>
    intro s a w γ Sl out s' Q hn h hr hQ
    simp only [ev] at hr
    obtain ⟨⟨o1, s1⟩, h1, h2⟩ := Tree.run_bind' hr
    refine wp_seq (ihx s a w γ Sl o1 s1 _ hn h h1 fun a1 w1 γ1 Sl1 hn1 hc1 => ?_)
    cases o1 with
    | normal => exact ihy s1 a1 w1 γ1 Sl1 out s' Q hn1 hc1 h2 hQ
    | exit id =>
      have := Tree.run_ret h2
      simp only [Prod.mk.injEq] at this
      obtain ⟨rfl, rfl⟩ := this
      exact hQ a1 w1 γ1 Sl1 hn1 hc1
    | ret =>
      have := Tree.run_ret h2
      simp only [Prod.mk.injEq] at this
      obtain ⟨rfl, rfl⟩ := this
      exact hQ a1 w1 γ1 Sl1 hn1 hc1
  | cond c x y ihx ihy =>
    intro s a w γ Sl out s' Q hn h hr hQ
    simp only [ev] at hr
    split at hr
    · rename_i b hb
      have hv := opd_rep h (s' := s) (fun _ => .inl rfl) c
      rw [hb] at hv
      have hcv := hv.ofLit
      refine wp_cond hcv ?_
      rcases Tree.run_ite hr with ⟨hbt, hr⟩ | ⟨hbt, hr⟩
      · rw [if_pos hbt]; exact ihx s a w γ Sl out s' Q hn h hr hQ
      · rw [if_neg hbt]; exact ihy s a w γ Sl out s' Q hn h hr hQ
    · exact (Tree.run_fail hr).elim
  | block id c ih =>
    intro s a w γ Sl out s' Q hn h hr hQ
    simp only [ev] at hr
    obtain ⟨⟨o1, s1⟩, h1, h2⟩ := Tree.run_bind' hr
    refine wp_block (ih s a w γ Sl o1 s1 _ hn h h1 fun a1 w1 γ1 Sl1 hn1 hc1 => ?_)
    cases o1 with
    | normal =>
      have := Tree.run_ret h2
      simp only [Prod.mk.injEq] at this
      obtain ⟨rfl, rfl⟩ := this
      exact hQ a1 w1 γ1 Sl1 hn1 hc1
    | exit id' =>
      simp only at h2
      split at h2
      · rename_i he
        have := Tree.run_ret h2
        simp only [Prod.mk.injEq] at this
        obtain ⟨rfl, rfl⟩ := this
        have e : id' = id := Nat.eq_of_beq_eq_true he
        simp only [Out.exit', Exit.inBlock, e, if_true]
        exact hQ a1 w1 γ1 Sl1 hn1 hc1
      · rename_i he
        have := Tree.run_ret h2
        simp only [Prod.mk.injEq] at this
        obtain ⟨rfl, rfl⟩ := this
        have e : id' ≠ id := fun h => by subst h; simp at he
        simp only [Out.exit', Exit.inBlock, e, if_false]
        exact hQ a1 w1 γ1 Sl1 hn1 hc1
    | ret =>
      have := Tree.run_ret h2
      simp only [Prod.mk.injEq] at this
      obtain ⟨rfl, rfl⟩ := this
      exact hQ a1 w1 γ1 Sl1 hn1 hc1
  | loop c ih =>
    intro s a w γ Sl out s' Q hn h hr hQ
    simp only [ev] at hr
    exact wp_loop_rounds k (loop_sound hE hx (fun s a w γ Sl out s' Q hn h hr hQ => ih s a w γ Sl out s' Q hn h hr hQ) k s a w γ Sl out s' hn h hr hQ)
  | exit id =>
    intro s a w γ Sl out s' Q hn h hr hQ
    have := Tree.run_ret hr
    simp only [Prod.mk.injEq] at this
    obtain ⟨rfl, rfl⟩ := this
    exact wp_exit (hQ a w γ Sl hn h)
  | label l =>
    intro s a w γ Sl out s' Q hn h hr hQ
    have := Tree.run_ret hr
    simp only [Prod.mk.injEq] at this
    obtain ⟨rfl, rfl⟩ := this
    exact wp_label (hQ a w γ Sl hn h)
  | ret =>
    intro s a w γ Sl out s' Q hn h hr hQ
    have := Tree.run_ret hr
    simp only [Prod.mk.injEq] at this
    obtain ⟨rfl, rfl⟩ := this
    exact wp_ret (hQ a w γ Sl hn h)
  | _ => intro s a w γ Sl out s' Q hn h hr hQ; exact (Tree.run_fail hr).elim
theorem enterT_at : ∀ (args : List (AV I)) (i k : Nat), i ≤ k → enterT args i k = (args[k - i]?).getD (.tup [])
  | [], i, k, _ => by simp [enterT]
  | x :: r, i, k, h => by
    simp only [enterT]
    split
    · rename_i he
      have : k = i := Nat.eq_of_beq_eq_true he
      subst this
      simp
    · rename_i he
      have hne : k ≠ i := fun e => by subst e; simp at he
      rw [enterT_at r (i + 1) k (by omega)]
      have : k - i = (k - (i + 1)) + 1 := by omega
      rw [this]
      simp
theorem result_ok (hE : EnvOK P E) (h : Con E X B w0 Sl0 Ex γ Sl s a w) {r : ResultVar} {x : AV I} (hr : resultOf E s r = some x) :
    ∃ u, (match r with | .tmp t => pure (a.tmps.getD t undef) | .cell p t => do loadVar t (← asAddr (a.tmps.getD p undef)) : Sem Value).run P w = .ok u w ∧ VRep E Sl w X B γ s.boxes s.objs s.fxs u x ∧ ((∃ c, x = .c c) ∨ ∃ cs, x = .agg cs) := by
  cases r with
  | tmp t =>
    simp only [resultOf] at hr
    have hv := h.tm t
    split at hr
    · rename_i c hc
      injection hr with hr
      subst hr
      rw [hc] at hv
      exact ⟨_, rfl, hv, .inl ⟨_, rfl⟩⟩
    · rename_i cs hc
      injection hr with hr
      subst hr
      rw [hc] at hv
      exact ⟨_, rfl, hv, .inr ⟨_, rfl⟩⟩
    · cases hr
  | cell p t =>
    simp only [resultOf] at hr
    split at hr
    · rename_i b off ti hp ht
      split at hr
      · rename_i cs hb
        have hv := h.tm p
        rw [hp] at hv
        have hc := hv.ofC
        generalize hF : a.tmps.getD p undef = F at hc
        cases hc with
        | ptr _ _ _ =>
          obtain ⟨u, k1, k2⟩ := load_ok (P := P) (o := 0) hE ht (h.cells hb) hr
          rw [Nat.zero_add] at k1
          refine ⟨u, ?_, k2, ?_⟩
          · simp only [hF, asAddr, Sem.run_bind, Sem.run_pure, Result.andThen_ok]
            simpa [Instr.loadAt, Instr.sureAddr] using k1
          · unfold rdC at hr
            split at hr
            · split at hr
              · have := Tree.run_ret hr; subst this; exact .inr ⟨_, rfl⟩
              · cases hr
            · split at hr
              · have := Tree.run_ret hr; subst this; exact .inl ⟨_, rfl⟩
              · cases hr
      · cases hr
    · cases hr
theorem results_ok (hE : EnvOK P E) (h : Con E X B w0 Sl0 Ex γ Sl s a w) : ∀ (rs : List ResultVar) (xs : List (AV I)), resultsOf E s rs = some xs →
    ∃ us : List Value, (rs.mapM (fun r => match r with | .tmp t => pure (a.tmps.getD t undef) | .cell p t => do loadVar t (← asAddr (a.tmps.getD p undef)) : ResultVar → Sem Value)).run P w = .ok us w ∧ us.length = xs.length ∧
      ∀ (i : Nat) (x : AV I), xs[i]? = some x → ∃ u : Value, us[i]? = some u ∧ VRep E Sl w X B γ s.boxes s.objs s.fxs u x ∧ ((∃ c, x = .c c) ∨ ∃ cs, x = .agg cs)
  | [], xs, h1 => by simp [resultsOf] at h1; subst h1; exact ⟨[], rfl, rfl, by simp⟩
  | r :: rs, xs, h1 => by
    simp only [resultsOf] at h1
    split at h1
    · rename_i x hx
      cases hr : resultsOf E s rs with
      | none => rw [hr] at h1; cases h1
      | some ys =>
        rw [hr] at h1; simp at h1; subst h1
        obtain ⟨u, k1, k2, k3⟩ := result_ok (P := P) hE h hx
        obtain ⟨us, i1, i2, i3⟩ := results_ok hE h rs ys hr
        refine ⟨u :: us, ?_, by simp [i2], fun i y hi => ?_⟩
        · rw [List.mapM_cons, Sem.run_bind, k1, Result.andThen_ok, Sem.run_bind, i1, Result.andThen_ok, Sem.run_pure]
        · cases i with
          | zero => simp at hi; subst hi; exact ⟨u, by simp, k2, k3⟩
          | succ i => simp at hi; simpa using i3 i y hi
    · cases h1
theorem applyM_withT (t : Nat → AV I) : ∀ (ws : List (MW I)) (s : AS I), applyM ws { s with tmps := t } = { applyM ws s with tmps := t } := by
  intro ws
  induction ws with
  | nil => intro s; rfl
  | cons m ws ih =>
    intro s
    cases m with
    | box b cs => exact ih { s with boxes := upd s.boxes b (some cs) }
    | obj b cs => exact ih { s with objs := upd s.objs b (some cs) }
    | fx b cs => exact ih { s with fxs := upd s.fxs b (some cs) }
theorem boxKs_mem : ∀ (ks : List Key) (b : Nat), Key.box b ∈ ks → b ∈ boxKs ks
  | [], b, h => by cases h
  | .box c :: r, b, h => by
    rcases List.mem_cons.1 h with h | h
    · injection h with h; subst h; exact List.mem_cons_self
    · exact List.mem_cons_of_mem _ (boxKs_mem r b h)
  | .obj c :: r, b, h => by
    rcases List.mem_cons.1 h with h | h
    · cases h
    · exact boxKs_mem r b h
  | .fx c :: r, b, h => by
    rcases List.mem_cons.1 h with h | h
    · cases h
    · exact List.mem_cons_of_mem _ (boxKs_mem r b h)
theorem boxKs_fx : ∀ (ks : List Key) (b : Nat), Key.fx b ∈ ks → b ∈ boxKs ks
  | [], b, h => by cases h
  | .fx c :: r, b, h => by
    rcases List.mem_cons.1 h with h | h
    · injection h with h; subst h; exact List.mem_cons_self
    · exact List.mem_cons_of_mem _ (boxKs_fx r b h)
  | .obj c :: r, b, h => by
    rcases List.mem_cons.1 h with h | h
    · cases h
    · exact boxKs_fx r b h
  | .box c :: r, b, h => by
    rcases List.mem_cons.1 h with h | h
    · cases h
    · exact List.mem_cons_of_mem _ (boxKs_fx r b h)
mutual
theorem rootC_no (o : Nat) : ∀ (x : CV I), Key.obj o ∉ rootC x
  | .clo _ a c => by
    simp only [rootC, List.mem_append]
    rintro (h | h)
    · exact rootCs_no o a h
    · exact rootCs_no o c h
  | .mth _ m => rootCs_no o m
  | .ptr _ _ => by simp [rootC]
  | .fx _ => by simp [rootC]
  | .d _ => by simp [rootC]
  | .own _ _ => by simp [rootC]
  | .rp _ _ => by simp [rootC]
  | .rq m _ => rootCs_no o m
  | .ow _ _ => by simp [rootC]
  | .io _ _ => by simp [rootC]
  | .fd _ => by simp [rootC]
theorem rootCs_no (o : Nat) : ∀ (xs : List (CV I)), Key.obj o ∉ rootCs xs
  | [] => by simp [rootCs]
  | x :: xs => by
    simp only [rootCs, List.mem_append]
    rintro (h | h)
    · exact rootC_no o x h
    · exact rootCs_no o xs h
end
mutual
theorem rootA_no (o : Nat) : ∀ (x : AV I), Key.obj o ∉ rootA x
  | .c x => rootC_no o x
  | .agg xs => rootCs_no o xs
  | .tup xs => rootAs_no o xs
  | .any => by simp [rootA]
theorem rootAs_no (o : Nat) : ∀ (xs : List (AV I)), Key.obj o ∉ rootAs xs
  | [] => by simp [rootAs]
  | x :: xs => by
    simp only [rootAs, List.mem_append]
    rintro (h | h)
    · exact rootA_no o x h
    · exact rootAs_no o xs h
end
theorem packR_rep (h : Con E X B w0 Sl0 Ex γ Sl s a w) : ∀ (ks : List Key), (∀ K ∈ ks, Live s.boxes s.objs s.fxs K) → (∃ r, PReps E Sl w (fun _ => True) 0 (ks.map γ.valK) (packR s.boxes s.objs s.fxs ks).1 (fpKs γ (packR s.boxes s.objs s.fxs ks).2) r) ∧
    ∀ K ∈ (packR s.boxes s.objs s.fxs ks).2, Live s.boxes s.objs s.fxs K
  | [], _ => ⟨⟨[], .nil⟩, fun K hK => (by cases hK)⟩
  | k :: ks, hl => by
    obtain ⟨⟨r, ih⟩, il⟩ := packR_rep h ks (fun K hK => hl K (List.mem_cons_of_mem _ hK))
    have hk := hl k List.mem_cons_self
    simp only [packR]
    cases k with
    | box b =>
      cases hb : s.boxes b with
      | none => exact absurd hb hk
      | some cs =>
        simp only [hb]
        obtain ⟨vs, e, c1, c2, c3, c5⟩ := h.bx b cs hb
        have hr := packL_rep (X0 := fun _ => True) (B0 := 0) h (fun _ _ h => h) cs vs.toList (by simpa using c2) (getA c3)
        have hlen : (packL s.objs cs).1.length = cs.length := by
          have aux : ∀ cs : List (CV I), (packL s.objs cs).1.length = cs.length := by
            intro cs
            induction cs with
            | nil => rfl
            | cons x xs ih =>
              simp only [packL]
              cases x <;> simp [ih]
          exact aux cs
        refine ⟨⟨[.pointer (some ⟨γ.b b, 0, none⟩)] ++ r, ?_⟩, fun K hK => ?_⟩
        · rw [fpKs_append, fpKs_cons]
          exact .cons _ _ _ _ _ _ _ _ (.io (γ.b b) 0 vs e _ _ _ c1 (c2.trans hlen.symm) hr c5) ih
        · rcases List.mem_append.1 hK with hK | hK
          · rcases List.mem_cons.1 hK with hK | hK
            · rw [hK]; exact hk
            · exact packL_live (fun _ _ h => h) cs K hK
          · exact il K hK
    | fx q =>
      cases hb : s.fxs q with
      | none => exact absurd hb hk
      | some x =>
        simp only [hb]
        obtain ⟨k1, k2, _, k3⟩ := h.fx q x hb
        refine ⟨⟨[γ.f q] ++ r, ?_⟩, fun K hK => ?_⟩
        · rw [fpKs_append, fpKs_one]
          exact .cons _ _ _ _ _ _ _ _ (.fd (γ.f q) x (γ.fp q) k1 k2 k3) ih
        · rcases List.mem_append.1 hK with hK | hK
          · rw [List.mem_singleton] at hK; rw [hK]; exact hk
          · exact il K hK
    | obj o =>
      cases hb : s.objs o with
      | none => exact absurd hb hk
      | some x =>
        obtain ⟨vals, ti, k0, k1, k2, k3⟩ := h.ob o x hb
        refine ⟨⟨[] ++ r, ?_⟩, il⟩
        have := PReps.cons (E := E) (Sl := Sl) (w := w) (X0 := fun _ => True) (B0 := 0) (γ.o o) _ (.d .any) _ [] _ [] _ (.d _ _ (.any _ (ownsRow_slice k1))) ih
        exact this
theorem one_rep {vs : List Value} : ∀ {xs : List (AV I)}, vs.length = xs.length → (∀ (i : Nat) (x : AV I), xs[i]? = some x → ∃ u : Value, vs[i]? = some u ∧ VRep E Sl w X B γ s.boxes s.objs s.fxs u x) →
    VRep E Sl w X B γ s.boxes s.objs s.fxs (if h : vs.toArray.size = 1 then vs.toArray[0] else .tuple vs.toArray) (one xs)
  | [x], hl, h => by
    obtain ⟨u, hu, hd⟩ := h 0 x (by simp)
    have hu1 : vs = [u] := by
      match vs, hl, hu with
      | [q], _, hq => simp at hq; rw [hq]
    subst hu1
    exact hd
  | [], hl, h => by
    have : vs = [] := List.eq_nil_of_length_eq_zero (by simpa using hl)
    subst this
    exact .tup _ _ rfl (by simp)
  | x :: y :: r, hl, h => by
    rw [dif_neg (by simp at hl; simp [hl])]
    refine .tup _ _ (by simpa using hl) fun i d hi => ?_
    obtain ⟨u, hu, hd⟩ := h i d hi
    have : vs.toArray.getD i undef = u := by rw [Array.getD_eq_getD_getElem?]; simp [hu]
    rw [this]
    exact hd
theorem fn_sound (hE : EnvOK P E) (hS : ∀ f, SpecOK P E sp f) {f : Nat} {fn : Func} (hf : P.funcs[f]? = some fn) (hnr : (fn.name == "runtime.NumGoroutine") = false) (hne : f ≠ 1000003) {hints : Nat → Hint} {k : Nat} {avs : List (AV I)} {rv : RV I} (hr : (evFun E sp hints k fn avs).run = some rv)
    {Sl : Nat → Nat → Prop} {w : World} {us : List Value} {fp : List Nat} {rs : List Value} (hSl : ∀ g o, Sl g o → g < w.heap.size) (hargs : AReps E Sl w (· ∈ fp) w.heap.size us avs fp rs) (hnd : fp.Nodup) (hlg : ∀ k ∈ fp, k < w.heap.size ∧ ¬ E.glob k) (hiv : E.inv w) :
    ∃ g args, Callee f us g args ∧ (∃ fn, P.funcs[g]? = some fn ∧ fn.body.isSome = true ∧ (fn.name == "runtime.NumGoroutine") = false) ∧ Calls P g args w fun e w' => ∃ u, e = .returned u ∧ Answers E Sl w fp rs rv u w' := by
  unfold evFun at hr
  split at hr
  · cases hr
  · rename_i c hb
    have hlt : ∀ k ∈ fp, k < w.heap.size := fun k hk => (hlg k hk).1
    refine ⟨f, us.toArray, .inl ⟨hne, rfl, by simp⟩, ⟨fn, hf, by rw [hb]; rfl, hnr⟩, ?_⟩
    generalize hun : unAs 1000004 avs = un at hr
    obtain ⟨az, ws, m0⟩ := un
    simp only at hr
    obtain ⟨⟨out, s1⟩, h1, h2⟩ := Tree.run_bind' hr
    refine calls_of_wp hf hb ?_
    generalize hA : ({ tmps := us.toArray ++ Array.replicate (fn.ntmps - us.toArray.size) undef, defers := [] } : Act) = act
    have hsz : fn.ntmps ≤ act.tmps.size := by rw [← hA]; simp; omega
    have hdf : act.defers = [] := by rw [← hA]
    have hgetA : ∀ t, act.tmps.getD t undef = us.getD t undef := by
      intro t
      rw [← hA]
      simp only [Array.getD_eq_getD_getElem?, List.getD_eq_getElem?_getD]
      by_cases ht : t < us.length
      · rw [Array.getElem?_append_left (by simpa using ht)]; simp
      · rw [Array.getElem?_append_right (by simpa using ht), Array.getElem?_replicate, List.getElem?_eq_none (by omega)]
        split <;> rfl
    -- nothing has a name
    have c00 : Con E (· ∈ fp) w.heap.size w Sl (fun _ _ => False) γ0 Sl { tmps := fun _ => .any, boxes := fun _ => none, objs := fun _ => none, fxs := fun _ => none } act w :=
      ⟨hdf, fun _ => .any _, fun _ _ h => h.elim, fun b cs hb => (by cases hb), fun o x ho => (by cases ho), fun r x hr => (by cases hr), fun K k hK => (by cases K <;> exact absurd rfl hK), fun K K' k hK => (by cases K <;> exact absurd rfl hK), fun _ _ h => h, fun _ _ h => .inl h, hSl, fun _ _ _ _ h => h, ⟨KeepX.refl _ _ _, fun k hk => (hlg k hk).2, hiv, fun k hk => E.invLt w k hiv hk⟩, Nat.le_refl _⟩
    have hun1 : (unAs 1000004 avs).2.1 = ws := by rw [hun]
    have hun0 : (unAs 1000004 avs).1 = az := by rw [hun]
    obtain ⟨γ1, g1, v1, t1⟩ := absorbAs (fun g h1 h2 => ⟨h1, h2⟩) avs 1000004 us fp rs γ0 _ c00 hargs hnd (fun k hk => .inr hk) (fun K k hK => by cases K <;> exact absurd rfl hK) (fun m _ hl => by cases hm : keyM m <;> (rw [hm] at hl; exact absurd rfl hl))
    rw [hun1] at g1 v1
    rw [hun0] at v1 t1
    have hlen : az.length = us.length := by rw [← hun0, unAs_length]; exact (ar_length hargs).symm
    -- what is known to the end
    let Ex0 : Value → AV I → Prop := fun v x => (∃ b, Key.box b ∈ rootAs az ∧ v = γ1.valK (.box b) ∧ x = .c (.ptr b 0)) ∨ ∃ r, Key.fx r ∈ rootAs az ∧ v = γ1.valK (.fx r) ∧ x = .c (.fx r)
    have hEx : ExOK Ex0 (boxKs (rootAs az)) := by
      rintro v x (⟨b, h1, _, rfl⟩ | ⟨r, h1, _, rfl⟩)
      · exact .inl ⟨b, 0, rfl, boxKs_mem _ b h1⟩
      · exact .inr ⟨r, rfl, boxKs_fx _ r h1⟩
    generalize hs0 : applyM ws ({ tmps := fun _ => .any, boxes := fun _ => none, objs := fun _ => none, fxs := fun _ => none } : AS I) = s0 at g1 v1
    have hst : applyM ws ({ tmps := enterT az 0, boxes := fun _ => none, objs := fun _ => none, fxs := fun _ => none } : AS I) = { s0 with tmps := enterT az 0 } := by
      rw [← hs0]
      exact applyM_withT (enterT az 0) ws { tmps := fun _ => .any, boxes := fun _ => none, objs := fun _ => none, fxs := fun _ => none }
    rw [hst] at h1
    have hroots : ∀ K ∈ rootAs az, Live s0.boxes s0.objs s0.fxs K := rootAs_live az _ v1
    have c01 : Con E (· ∈ fp) w.heap.size w Sl Ex0 γ1 Sl { s0 with tmps := enterT az 0 } act w := by
      refine { g1.con with df := hdf, tm := fun t => ?_, ex := fun v x hx => ?_ }
      · show VRep E Sl w _ _ _ s0.boxes s0.objs s0.fxs (act.tmps.getD t undef) (enterT az 0 t)
        rw [enterT_at az 0 t (Nat.zero_le _), Nat.sub_zero, hgetA]
        by_cases ht : t < az.length
        · rw [List.getElem?_eq_getElem ht]
          exact v1 t _ (List.getElem?_eq_getElem ht)
        · rw [List.getElem?_eq_none (by omega), List.getD_eq_getElem?_getD, List.getElem?_eq_none (by omega)]
          exact .tup #[] [] rfl (by simp)
      · rcases hx with ⟨b, h1, rfl, rfl⟩ | ⟨r, h1, rfl, rfl⟩
        · exact .c _ _ (.ptr b 0 (hroots _ h1))
        · have hl := hroots _ h1
          cases hq : s0.fxs r with
          | none => exact absurd hq hl
          | some x => exact .c _ _ (.fx r hl (g1.con.fx r x hq).2.1)
    refine ev_sound hE hS hEx c _ _ w γ1 Sl out s1 _ hsz c01 h1 fun a1 w1 γ2 Sl1 hn1 hc1 => ?_
    have hval : ∀ K ∈ rootAs az, Live s1.boxes s1.objs s1.fxs K ∧ γ2.valK K = γ1.valK K := by
      intro K hK
      cases K with
      | obj o => exact absurd hK (rootAs_no o az)
      | box b =>
        have hv := (hc1.ex _ _ (.inl ⟨b, hK, rfl, rfl⟩)).ofC
        generalize hF : γ1.valK (.box b) = F at hv
        cases hv with
        | ptr _ _ hl => exact ⟨hl, rfl⟩
      | fx r =>
        have hv := (hc1.ex _ _ (.inr ⟨r, hK, rfl, rfl⟩)).ofC
        generalize hF : γ1.valK (.fx r) = F at hv
        cases hv with
        | fx _ hl _ => exact ⟨hl, rfl⟩
    have fin : (match resultsOf E s1 fn.results.toList with | some vs => giveBack s1 (one vs) (rootAs az) | none => .fail : Tree (RV I)).run = some rv →
        a1.defers = [] ∧ ∃ v, (results fn a1.tmps).run P w1 = .ok v w1 ∧ ∃ u, Ending.returned v = .returned u ∧ Answers E Sl w fp rs rv u w1 := by
      intro hh
      refine ⟨hc1.df, ?_⟩
      cases hres : resultsOf E s1 fn.results.toList with
      | none => rw [hres] at hh; cases hh
      | some xs =>
        obtain ⟨vs, i1, i2, i3⟩ := results_ok hE hc1 fn.results.toList xs hres
        have hrun : ∀ v, v = (if h : vs.toArray.size = 1 then vs.toArray[0] else .tuple vs.toArray) → (results fn a1.tmps).run P w1 = .ok v w1 := by
          intro v hv
          have h3 : ∀ r : Result (List Value), r = .ok vs w1 → (((r.andThen fun a w' => Sem.run P (pure a.toArray) w').andThen fun a w' => Sem.run P (pure (if h : a.size = 1 then a[0] else Value.tuple a)) w')) = .ok v w1 := by
            rintro _ rfl
            rw [Result.andThen_ok, Sem.run_pure, Result.andThen_ok, Sem.run_pure, hv]
          unfold results
          rw [Array.mapM_eq_mapM_toList, map_eq_pure_bind, Sem.run_bind, Sem.run_bind]
          exact h3 _ i1
        refine ⟨_, hrun _ rfl, _, rfl, ?_⟩
        rw [hres] at hh
        simp only at hh
        have hone : VRep E Sl1 w1 (· ∈ fp) w.heap.size γ2 s1.boxes s1.objs s1.fxs (if h : vs.toArray.size = 1 then vs.toArray[0] else .tuple vs.toArray) (one xs) := by
          exact one_rep i2 fun i x hi => by obtain ⟨u, h1, h2, _⟩ := i3 i x hi; exact ⟨u, h1, h2⟩
        generalize (if h : vs.toArray.size = 1 then vs.toArray[0] else .tuple vs.toArray : Value) = u at hone
        unfold giveBack at hh
        have hpa := packA_rep (bx := s1.boxes) (ob := s1.objs) (fx := s1.fxs) (X0 := fun _ => True) (B0 := 0) hE hc1 (fun _ _ h => h) (fun _ _ h => h) (fun _ _ h => h) true (fun h => by cases h) (fun h => by cases h) (one xs) u hone
        have hpl := (packA_live (s := s1) (bx := s1.boxes) (ob := s1.objs) (fx := s1.fxs) (fun _ _ h => h) (fun _ _ h => h) (fun _ _ h => h) true (one xs)).1
        obtain ⟨⟨r2, hpr⟩, hrl⟩ := packR_rep hc1 (rootAs az) (fun K hK => (hval K hK).1)
        generalize packA s1.boxes s1.objs s1.fxs true (one xs) = pa at hh hpa hpl
        generalize packR s1.boxes s1.objs s1.fxs (rootAs az) = pr at hh hpr hrl
        obtain ⟨r, k1, q1⟩ := pa
        obtain ⟨os, k2⟩ := pr
        simp only at hh hpa hpl hpr hrl
        split at hh
        · rename_i hap
          have := Tree.run_ret hh
          subst this
          have hlive : ∀ K ∈ k1 ++ k2, Live s1.boxes s1.objs s1.fxs K := fun K hK => (List.mem_append.1 hK).elim (hpl K) (hrl K)
          have hnd2 := hc1.nodupKs (k1 ++ k2) hlive hap
          rw [fpKs_append] at hnd2
          have hmap : (rootAs az).map γ2.valK = rs := by
            rw [← t1]
            exact List.map_congr_left fun K hK => (hval K hK).2
          rw [hmap] at hpr
          refine ⟨Sl1, _, _, _, r2, hc1.kp.toKeepX, ⟨hc1.s0, fun g o hs => ?_, hc1.sc⟩, hpa, hpr, hnd2, fun k hk => ?_⟩
          · rcases hc1.s1 g o hs with h3 | h3 | h3
            · exact .inl h3
            · exact .inr ⟨.inl h3, hc1.sh g o hs⟩
            · exact .inr ⟨.inr h3, hc1.sh g o hs⟩
          · rw [← fpKs_append] at hk
            obtain ⟨K, hK, hkK⟩ := mem_fpKs.1 hk
            exact ⟨hc1.fp_lt (hlive K hK) hkK, hc1.mine K k (hlive K hK) hkK⟩
        · cases hh
    cases out with
    | normal => exact fin h2
    | exit id => exact (Tree.run_fail h2).elim
    | ret => exact fin h2
end
end Go.Ev
end
section
namespace Go.Ev
variable {I : Nat → Type}
section
variable {E : Env I} {sp : Nat → List (AV I) → Tree (RV I)} {hints : Nat → Hint} {rts : List Nat} {k n : Nat}
theorem loopC_run {body : AS I → Tree (Out × AS I)} {bodyC : AS I → Cont I → Tree (RV I)} (nrm : AS I → AS I) (hb : ∀ s κ, (bodyC s κ).run = (body s).run.bind fun r => (κ r.1 r.2).run) :
    ∀ (j : Nat) (s : AS I) (κ : Cont I), (loopC bodyC nrm j (nrm s) κ).run = (loopN body nrm j s).run.bind fun r => (κ r.1 r.2).run
  | 0, s, κ => rfl
  | j + 1, s, κ => by
    simp only [loopC, loopN, hb, Tree.run_bind]
    cases (body (nrm s)).run with
    | none => rfl
    | some r =>
      obtain ⟨o, s'⟩ := r
      cases o with
      | normal => exact loopC_run nrm hb j s' κ
      | exit id => rfl
      | ret => rfl
theorem evC_run : ∀ (c : Code) (s : AS I) (κ : Cont I), (evC E sp hints rts k n c s κ).run = (ev E sp hints rts k n c s).run.bind fun r => (κ r.1 r.2).run := by
  intro c
  induction c with
  | skip => intro s κ; rfl
  | region id ops draw =>
    intro s κ
    simp only [evC, ev, Tree.run_bind]
    cases (evRegion E sp n ops draw s).run <;> rfl
  | seq a b iha ihb =>
    intro s κ
    simp only [evC, ev, iha, Tree.run_bind]
    cases (ev E sp hints rts k n a s).run with
    | none => rfl
    | some r =>
      obtain ⟨o, s'⟩ := r
      cases o with
      | normal => exact ihb s' κ
      | exit id => rfl
      | ret => rfl
  | cond c a b iha ihb =>
    intro s κ
    simp only [evC, ev]
    split
    · simp only [Tree.run]
      split
      · exact iha s κ
      · exact ihb s κ
    · rfl
  | block id a ih =>
    intro s κ
    simp only [evC, ev, ih, Tree.run_bind]
    cases (ev E sp hints rts k n a s).run with
    | none => rfl
    | some r =>
      obtain ⟨o, s'⟩ := r
      cases o with
      | normal => rfl
      | exit id' =>
        simp only [Option.bind_some, unblock]
        cases Nat.beq id' id <;> rfl
      | ret => rfl
  | loop a ih =>
    intro s κ
    simp only [evC, ev]
    exact loopC_run _ (fun s κ => ih s κ) k s κ
  | exit id => intro s κ; rfl
  | label l => intro s κ; rfl
  | ret => intro s κ; rfl
  | _ => intro s κ; rfl
theorem evFunC_run (fn : Func) (c : Co) (args : List (AV I)) : (evFunC E sp hints c k fn args).run = (evFun E sp hints k fn args).run.map (co E c) := by
  unfold evFunC evFun
  split
  · rfl
  · rename_i b hb
    generalize unAs 1000004 args = un
    obtain ⟨az, ws, m⟩ := un
    simp only [evC_run, Tree.run_bind]
    cases (ev E sp hints (boxKs (rootAs az)) k fn.ntmps b (applyM ws { tmps := enterT az 0, boxes := fun _ => none, objs := fun _ => none, fxs := fun _ => none })).run with
    | none => rfl
    | some r =>
      obtain ⟨o, s⟩ := r
      cases o with
      | exit id => rfl
      | _ =>
        simp only [Option.bind_some, finC]
        cases resultsOf E s fn.results.toList with
        | none => rfl
        | some vs =>
          simp only [Tree.run_bind]
          cases (giveBack s (one vs) (rootAs az)).run <;> rfl
end
end Go.Ev
end
section
namespace Go.Ev
variable {I : Nat → Type}
def gI (k : IntKind) : DV I → Option Int
  | .lit (.int k' a) => if k' = k then some a else none
  | _ => none
def gB : DV I → Option Bool
  | .lit (.bool a) => some a
  | _ => none
def gS : DV I → Option ByteArray
  | .lit (.string a) => some a
  | _ => none
def gL (t : Nat) : DV I → Option (List (I t))
  | .sl u xs => cast? u t xs
  | .nils => some []
  | _ => none
theorem gI_le {k : IntKind} {x : DV I} {a : Int} (h : gI k x = some a) : DLe x (.lit (.int k a)) := by
  unfold gI at h
  split at h
  · split at h
    · rename_i e; injection h with h; subst h; subst e; exact .refl _
    · cases h
  · cases h
theorem gB_le {x : DV I} {a : Bool} (h : gB x = some a) : DLe x (.lit (.bool a)) := by
  unfold gB at h
  split at h
  · injection h with h; subst h; exact .refl _
  · cases h
theorem gS_le {x : DV I} {a : ByteArray} (h : gS x = some a) : DLe x (.lit (.string a)) := by
  unfold gS at h
  split at h
  · injection h with h; subst h; exact .refl _
  · cases h
theorem gL_le {t : Nat} {x : DV I} {a : List (I t)} (h : gL t x = some a) : DLe x (.sl t a) := by
  unfold gL at h
  split at h
  · obtain ⟨rfl, rfl⟩ := cast?_eq h; exact .refl _
  · injection h with h; subst h; exact .nil t
  · cases h
inductive DLes : List (DV I) → List (DV I) → Prop
  | nil : DLes [] []
  | cons {x y : DV I} {xs ys : List (DV I)} (h : DLe x y) (hs : DLes xs ys) : DLes (x :: xs) (y :: ys)
theorem DLes.len {xs ys : List (DV I)} (h : DLes xs ys) : xs.length = ys.length := by
  induction h with
  | nil => rfl
  | cons _ _ ih => simp [ih]
theorem DLes.get {xs ys : List (DV I)} (h : DLes xs ys) : ∀ (j : Nat) (y : DV I), ys[j]? = some y → ∃ y' : DV I, xs[j]? = some y' ∧ DLe y' y := by
  induction h with
  | nil => intro j y h; simp at h
  | cons h _ ih =>
    intro j y hj
    cases j with
    | zero => simp at hj; subst hj; exact ⟨_, by simp, h⟩
    | succ j => simp at hj; simpa using ih j y hj
def tyOf : List (Nat × TI) → Nat → Option TI
  | [], _ => none
  | (u, ti) :: r, t => match Nat.beq t u with
    | true => some ti
    | false => tyOf r t
theorem tyOf_mem : ∀ (L : List (Nat × TI)) (t : Nat) (ti : TI), tyOf L t = some ti → (t, ti) ∈ L
  | [], t, ti, h => by cases h
  | (u, tj) :: r, t, ti, h => by
    simp only [tyOf] at h
    split at h
    · rename_i he
      injection h with h
      subst h
      have := Nat.eq_of_beq_eq_true he
      subst this
      exact List.mem_cons_self
    · exact List.mem_cons_of_mem _ (tyOf_mem r t ti h)
def cmpOk (P : Program) (p : Nat × TI) : Bool :=
  match p.2.cmp with
  | false => true
  | true => !P.stoodInHeld p.1 && (!P.eqGuardType P.depth p.1 && match P.underlying p.1 with | some (.struct fs) => fs.toList.all (fun f => f.name != "_") | _ => true)
theorem envOK_of {P : Program} {E : Env I} (L : List (Nat × TI)) (hty : E.ty = tyOf L) (hm : P.follows .mixedOrders = true)
    (hinfo : L.map (fun p => (P.info? p.1).map (fun i => (i.size, i.bytes, i.zero.map fun z => z.cells.toList))) = L.map fun p => some (p.2.size, p.2.bytes, some p.2.zero))
    (hund : L.map (fun p => (P.underlying p.1).map tdOf) = L.map fun p => some p.2.td)
    (hzero : L.all (fun p => Nat.beq p.2.zero.length p.2.size && p.2.zero.all oneB) = true)
    (hcmp : L.all (cmpOk P) = true)
    (hrow : ∀ t ti x, E.ty t = some ti → (E.row t x).length = ti.size)
    (hmade : ∀ (t : Nat) (cs : List (DV I)) (x : I t), E.made t cs = some x → DLes cs (E.row t x)) : EnvOK P E := by
  have mem : ∀ t ti, E.ty t = some ti → (t, ti) ∈ L := fun t ti h => tyOf_mem L t ti (by rw [← hty]; exact h)
  refine ⟨hm, fun t ti h => ?_, fun t ti h => ?_, fun t ti h => ?_, fun t ti h hc => ?_, hrow, fun t cs x h => (hmade t cs x h).len, fun t cs x h => (hmade t cs x h).get⟩
  · exact List.map_inj_left.1 hinfo (t, ti) (mem t ti h)
  · exact List.map_inj_left.1 hund (t, ti) (mem t ti h)
  · have := List.all_eq_true.1 hzero (t, ti) (mem t ti h)
    rw [Bool.and_eq_true] at this
    exact ⟨Nat.eq_of_beq_eq_true this.1, List.all_eq_true.1 this.2⟩
  · have := List.all_eq_true.1 hcmp (t, ti) (mem t ti h)
    simp only [cmpOk, hc, Bool.and_eq_true, Bool.not_eq_true'] at this
    refine ⟨this.1, this.2.1, fun fs hfs f hf => ?_⟩
    have h3 := this.2.2
    rw [hfs] at h3
    have := List.all_eq_true.1 h3 f hf
    simpa using this
end Go.Ev
end
section
namespace Go.Ev
variable {I : Nat → Type}
section
variable {P : Program} {E : Env I} {Sl : Nat → Nat → Prop} {w : World} {X0 : Nat → Prop} {B0 : Nat}
theorem prep_co (hE : EnvOK P E) (k : Kc) {v : Value} {x : CV I} {p : List Nat} {r : List Value} (h : PRep E Sl w X0 B0 v x p r) : ∃ p', List.Sublist p' p ∧ PRep E Sl w X0 B0 v (coC E k x) p' r := by
  unfold coC
  split
  · cases h with
    | d _ _ h => exact ⟨[], List.nil_sublist _, .d _ _ (h.le (.nil _))⟩
  · cases h with
    | ow _ _ _ vals ti ht hown hr hk => exact ⟨[], List.nil_sublist _, .d _ _ (own_sl hE ht hown hr hk)⟩
  · split
    · rename_i t _ ti ht
      cases h with
      | d _ _ h =>
        cases h with
        | nils => exact ⟨[], List.nil_sublist _, .ow (.slice none 0 0) t [] [] ti ht (World.ownsRow_nil w 0 t ti.size) (by simp) (by intro k hk; simp [Value.ownBlock] at hk)⟩
    · exact ⟨p, List.Sublist.refl _, h⟩
  · exact ⟨p, List.Sublist.refl _, h⟩
theorem preps_co (hE : EnvOK P E) : ∀ (ks : List Kc) {vs : List Value} {xs : List (CV I)} {p : List Nat} {r : List Value}, PReps E Sl w X0 B0 vs xs p r → ∃ p', List.Sublist p' p ∧ PReps E Sl w X0 B0 vs (coCs E ks xs) p' r
  | [], vs, xs, p, r, h => ⟨p, List.Sublist.refl _, h⟩
  | k :: ks, vs, xs, p, r, h => by
    cases h with
    | nil => exact ⟨[], List.Sublist.refl _, .nil⟩
    | cons v vs x xs p q r t h hs =>
      obtain ⟨p', h1, h2⟩ := prep_co hE k h
      obtain ⟨q', h3, h4⟩ := preps_co hE ks hs
      exact ⟨p' ++ q', h1.append h3, .cons _ _ _ _ _ _ _ _ h2 h4⟩
theorem arep_co (hE : EnvOK P E) (ks : List Kc) {v : Value} {x : AV I} {p : List Nat} {r : List Value} (h : ARep E Sl w X0 B0 v x p r) : ∃ p', List.Sublist p' p ∧ ARep E Sl w X0 B0 v (coV E ks x) p' r := by
  cases h with
  | c v x p r h =>
    cases ks with
    | nil => exact ⟨p, List.Sublist.refl _, .c _ _ _ _ h⟩
    | cons k ks =>
      obtain ⟨p', h1, h2⟩ := prep_co hE k h
      exact ⟨p', h1, .c _ _ _ _ h2⟩
  | agg vs xs p r h =>
    obtain ⟨p', h1, h2⟩ := preps_co hE ks h
    exact ⟨p', h1, .agg _ _ _ _ h2⟩
  | tup vs xs p r h => exact ⟨p, List.Sublist.refl _, .tup _ _ _ _ h⟩
  | any v => exact ⟨[], List.Sublist.refl _, .any v⟩
theorem areps_co (hE : EnvOK P E) : ∀ (ks : List (List Kc)) {vs : List Value} {xs : List (AV I)} {p : List Nat} {r : List Value}, AReps E Sl w X0 B0 vs xs p r → ∃ p', List.Sublist p' p ∧ AReps E Sl w X0 B0 vs (coVs E ks xs) p' r
  | [], vs, xs, p, r, h => ⟨p, List.Sublist.refl _, h⟩
  | k :: ks, vs, xs, p, r, h => by
    cases h with
    | nil => exact ⟨[], List.Sublist.refl _, .nil⟩
    | cons v vs x xs p q r t h hs =>
      obtain ⟨p', h1, h2⟩ := arep_co hE k h
      obtain ⟨q', h3, h4⟩ := areps_co hE ks hs
      exact ⟨p' ++ q', h1.append h3, .cons _ _ _ _ _ _ _ _ h2 h4⟩
theorem arep_coR (hE : EnvOK P E) (kr : List (List Kc)) {v : Value} {x : AV I} {p : List Nat} {r : List Value} (h : ARep E Sl w X0 B0 v x p r) : ∃ p', List.Sublist p' p ∧ ARep E Sl w X0 B0 v (coR E kr x) p' r := by
  unfold coR
  split
  · cases h with
    | tup vs xs p r h =>
      obtain ⟨p', h1, h2⟩ := areps_co hE kr h
      exact ⟨p', h1, .tup _ _ _ _ h2⟩
  · split
    · exact arep_co hE _ h
    · exact ⟨p, List.Sublist.refl _, h⟩
theorem preps_coIO (hE : EnvOK P E) : ∀ (ks : List (List Kc)) {vs : List Value} {xs : List (CV I)} {p : List Nat} {r : List Value}, PReps E Sl w X0 B0 vs xs p r → ∃ p', List.Sublist p' p ∧ PReps E Sl w X0 B0 vs (coIOs E ks xs) p' r
  | [], vs, xs, p, r, h => ⟨p, List.Sublist.refl _, h⟩
  | k :: ks, vs, xs, p, r, h => by
    cases h with
    | nil => exact ⟨[], List.Sublist.refl _, .nil⟩
    | cons v vs x xs p q r t h hs =>
      obtain ⟨q', h3, h4⟩ := preps_coIO hE ks hs
      have : ∃ p', List.Sublist p' p ∧ PRep E Sl w X0 B0 v (coIO E k x) p' r := by
        unfold coIO
        split
        · rename_i cs off
          cases h with
          | io g _ vs e _ fp rs hg hl h hs =>
            obtain ⟨p', h1, h2⟩ := preps_co hE k h
            exact ⟨g :: p', h1.cons_cons g, .io g off vs e _ p' rs hg (by rw [hl]; exact (coCs_len k cs).symm) h2 hs⟩
        · exact ⟨p, List.Sublist.refl _, h⟩
      obtain ⟨p', h1, h2⟩ := this
      exact ⟨p' ++ q', h1.append h3, .cons _ _ _ _ _ _ _ _ h2 h4⟩
where
  coCs_len : ∀ (ks : List Kc) (cs : List (CV I)), (coCs E ks cs).length = cs.length
    | [], cs => rfl
    | k :: ks, [] => rfl
    | k :: ks, c :: cs => by simp [coCs, coCs_len ks cs]
theorem Answers.co (hE : EnvOK P E) (c : Co) {fp : List Nat} {rs : List Value} {rv : RV I} {u : Value} {w' : World} (h : Answers E Sl w fp rs rv u w') : Answers E Sl w fp rs (co E c rv) u w' := by
  obtain ⟨Sl', p1, p2, r1, r2, h1, h2, h3, h4, h5, h6⟩ := h
  obtain ⟨p1', k1, k2⟩ := arep_coR hE c.res h3
  obtain ⟨p2', k3, k4⟩ := preps_coIO hE c.io h4
  have hs := k1.append k3
  exact ⟨Sl', p1', p2', r1, r2, h1, h2, k2, k4, h5.sublist hs, fun k hk => h6 k (hs.subset hk)⟩
end
end Go.Ev
end
section
namespace Go.Ev
variable {I : Nat → Type}
def Wk (E : Env I) (a b : AV I) : Prop := ∀ Sl w X0 B0 v fp rs, ARep E Sl w X0 B0 v a fp rs → ARep E Sl w X0 B0 v b fp rs
def WkL (E : Env I) (a b : List (AV I)) : Prop := ∀ Sl w X0 B0 us fp rs, AReps E Sl w X0 B0 us a fp rs → AReps E Sl w X0 B0 us b fp rs
theorem Wk.refl {E : Env I} (a : AV I) : Wk E a a := fun _ _ _ _ _ _ _ h => h
theorem WkL.cons {E : Env I} {a b : AV I} {az bs : List (AV I)} (h : Wk E a b) (k : WkL E az bs) : WkL E (a :: az) (b :: bs) := by
  intro Sl w X0 B0 us fp rs hr
  cases hr with
  | cons v vs _ _ p q r t h1 h2 => exact .cons v vs _ _ p q r t (h _ _ _ _ _ _ _ h1) (k _ _ _ _ _ _ _ h2)
structure Cod (E : Env I) (α : Type) where
  enc : α → AV I
  dec : AV I → Option α
  le : ∀ a x, dec a = some x → Wk E a (enc x)
structure CodL (E : Env I) (α : Type) where
  enc : α → List (AV I)
  dec : List (AV I) → Option α
  le : ∀ a x, dec a = some x → WkL E a (enc x)
def CodL.nil {E : Env I} : CodL E Unit where
  enc _ := []
  dec az := match az with | [] => some () | _ => none
  le a x h := by
    cases a with
    | nil => intro _ _ _ _ _ _ _ h; exact h
    | cons => cases h
def CodL.cons {E : Env I} {α β : Type} (c : Cod E α) (r : CodL E β) : CodL E (α × β) where
  enc x := c.enc x.1 :: r.enc x.2
  dec az := match az with
    | [] => none
    | a :: az => (c.dec a).bind fun x => (r.dec az).bind fun y => some (x, y)
  le az x h := by
    cases az with
    | nil => cases h
    | cons a az =>
      obtain ⟨y, h1, h⟩ := Option.bind_eq_some_iff.1 h
      obtain ⟨z, h2, h⟩ := Option.bind_eq_some_iff.1 h
      injection h with h
      subst h
      exact .cons (c.le a y h1) (r.le az z h2)
theorem wk_d {E : Env I} {x y : DV I} (h : DLe x y) : Wk E (.c (.d x)) (.c (.d y)) := by
  intro Sl w X0 B0 v fp rs hr
  cases hr with
  | c _ _ _ _ hr => cases hr with | d _ _ hr => exact .c _ _ _ _ (.d _ _ (hr.le h))
def oneD : AV I → Option (DV I)
  | .c (.d x) => some x
  | _ => none
theorem oneD_eq {a : AV I} {x : DV I} (h : oneD a = some x) : a = .c (.d x) := by
  unfold oneD at h
  split at h
  · injection h with h; rw [h]
  · cases h
def codD {E : Env I} {α : Type} (g : DV I → Option α) (e : α → DV I) (h : ∀ x a, g x = some a → DLe x (e a)) : Cod E α where
  enc a := .c (.d (e a))
  dec a := (oneD a).bind g
  le a x hx := by
    obtain ⟨y, h1, h2⟩ := Option.bind_eq_some_iff.1 hx
    rw [oneD_eq h1]
    exact wk_d (h y x h2)
def cInt {E : Env I} (k : IntKind) : Cod E Int := codD (gI k) (fun a => .lit (.int k a)) fun _ _ => gI_le
def cBool {E : Env I} : Cod E Bool := codD gB (fun a => .lit (.bool a)) fun _ _ => gB_le
def cStr {E : Env I} : Cod E ByteArray := codD gS (fun a => .lit (.string a)) fun _ _ => gS_le
def cSl {E : Env I} (t : Nat) : Cod E (List (I t)) := codD (gL t) (fun a => .sl t a) fun _ _ => gL_le
def allD : List (CV I) → Option (List (DV I))
  | [] => some []
  | x :: r => match x with
    | .d y => (allD r).map (y :: ·)
    | _ => none
theorem allD_eq : ∀ {cs : List (CV I)} {ds : List (DV I)}, allD cs = some ds → cs = ds.map .d
  | [], ds, h => by simp [allD] at h; subst h; rfl
  | x :: r, ds, h => by
    cases x with
    | d y =>
      simp only [allD] at h
      obtain ⟨es, h1, rfl⟩ := Option.map_eq_some_iff.1 h
      rw [allD_eq h1]; rfl
    | _ => simp [allD] at h
theorem preps_le {E : Env I} {Sl : Nat → Nat → Prop} {w : World} {X0 : Nat → Prop} {B0 : Nat} {xs ys : List (DV I)} (h : DLes xs ys) : ∀ {us : List Value} {fp : List Nat} {rs : List Value}, PReps E Sl w X0 B0 us (xs.map .d) fp rs → PReps E Sl w X0 B0 us (ys.map .d) fp rs := by
  induction h with
  | nil => intro us fp rs h; exact h
  | cons hd _ ih =>
    intro us fp rs h
    cases h with
    | cons v vs _ _ p q r t h1 h2 =>
      cases h1 with
      | d _ _ h1 => exact .cons v vs _ _ [] q [] t (.d _ _ (h1.le hd)) (ih h2)
def codS {E : Env I} {α : Type} (g : List (DV I) → Option α) (e : α → List (DV I)) (h : ∀ xs a, g xs = some a → DLes xs (e a)) : Cod E α where
  enc a := .agg ((e a).map .d)
  dec a := match a with
    | .agg cs => (allD cs).bind g
    | _ => none
  le a x hx := by
    cases a with
    | agg cs =>
      obtain ⟨ds, h1, h2⟩ := Option.bind_eq_some_iff.1 hx
      rw [allD_eq h1]
      intro Sl w X0 B0 v fp rs hr
      cases hr with
      | agg vs _ _ _ hr => exact .agg vs _ _ _ (preps_le (h ds x h2) hr)
    | _ => cases hx
def WkC (E : Env I) (a b : CV I) : Prop := ∀ Sl w X0 B0 v fp rs, PRep E Sl w X0 B0 v a fp rs → PRep E Sl w X0 B0 v b fp rs
def WkCs (E : Env I) (a b : List (CV I)) : Prop := ∀ Sl w X0 B0 us fp rs, PReps E Sl w X0 B0 us a fp rs → PReps E Sl w X0 B0 us b fp rs
theorem preps_len {E : Env I} {Sl : Nat → Nat → Prop} {w : World} {X0 : Nat → Prop} {B0 : Nat} : ∀ {xs : List (CV I)} {us : List Value} {fp : List Nat} {rs : List Value}, PReps E Sl w X0 B0 us xs fp rs → us.length = xs.length
  | [], us, fp, rs, h => by cases h; rfl
  | x :: xs, us, fp, rs, h => by
    cases h with
    | cons v vs x xs p q r t h hs => simp [preps_len hs]
structure CodC (E : Env I) (α : Type) where
  enc : α → CV I
  dec : CV I → Option α
  le : ∀ a x, dec a = some x → WkC E a (enc x)
structure CodCs (E : Env I) (α : Type) where
  enc : α → List (CV I)
  dec : List (CV I) → Option α
  le : ∀ a x, dec a = some x → WkCs E a (enc x)
def CodC.d {E : Env I} {α : Type} (g : DV I → Option α) (e : α → DV I) (h : ∀ x a, g x = some a → DLe x (e a)) : CodC E α where
  enc a := .d (e a)
  dec a := match a with
    | .d x => g x
    | _ => none
  le a x hx := by
    cases a with
    | d y =>
      intro Sl w X0 B0 v fp rs hr
      cases hr with | d _ _ hr => exact .d _ _ (hr.le (h y x hx))
    | _ => cases hx
def cellI {E : Env I} (k : IntKind) : CodC E Int := CodC.d (gI k) (fun a => .lit (.int k a)) fun _ _ => gI_le
def cellO {E : Env I} (t : Nat) : CodC E (List (I t)) where
  enc a := .ow t a
  dec a := match a with
    | .ow u xs => cast? u t xs
    | .d .nils => match E.ty t with
      | some _ => some []
      | none => none
    | _ => none
  le a x hx := by
    cases a with
    | ow u xs => obtain ⟨rfl, rfl⟩ := cast?_eq hx; intro _ _ _ _ _ _ _ h; exact h
    | d y =>
      cases y with
      | nils =>
        simp only at hx
        split at hx
        · rename_i ti ht
          injection hx with hx
          subst hx
          intro Sl w X0 B0 v fp rs hr
          cases hr with
          | d _ _ hr => cases hr with | nils => exact .ow (.slice none 0 0) t [] [] ti ht (World.ownsRow_nil w 0 t ti.size) (by simp) (by intro k hk; simp [Value.ownBlock] at hk)
        · cases hx
      | _ => cases hx
    | _ => cases hx
def cellT {E : Env I} {α : Type} (g : I 1000003 → Option α) (e : α → I 1000003) (h : ∀ x a, g x = some a → e a = x) : CodC E α where
  enc a := .fd (e a)
  dec a := match a with
    | .fd x => g x
    | _ => none
  le a x hx := by
    cases a with
    | fd y => intro _ _ _ _ _ _ _ hr; rw [h y x hx]; exact hr
    | _ => cases hx
def CodCs.nil {E : Env I} : CodCs E Unit where
  enc _ := []
  dec az := match az with | [] => some () | _ => none
  le a x h := by
    cases a with
    | nil => intro _ _ _ _ _ _ _ h; exact h
    | cons => cases h
def CodCs.cons {E : Env I} {α β : Type} (c : CodC E α) (r : CodCs E β) : CodCs E (α × β) where
  enc x := c.enc x.1 :: r.enc x.2
  dec az := match az with
    | [] => none
    | a :: az => (c.dec a).bind fun x => (r.dec az).bind fun y => some (x, y)
  le az x h := by
    cases az with
    | nil => cases h
    | cons a az =>
      obtain ⟨y, h1, h⟩ := Option.bind_eq_some_iff.1 h
      obtain ⟨z, h2, h⟩ := Option.bind_eq_some_iff.1 h
      injection h with h
      subst h
      intro Sl w X0 B0 us fp rs hr
      cases hr with
      | cons v vs _ _ p q r' t h3 h4 => exact .cons v vs _ _ p q r' t (c.le a y h1 _ _ _ _ _ _ _ h3) (r.le az z h2 _ _ _ _ _ _ _ h4)
def cellIO {E : Env I} {α : Type} (off : Nat) (c : CodCs E α) : CodC E α where
  enc a := .io (c.enc a) off
  dec a := match a with
    | .io cs o => match Nat.beq o off with
      | true => c.dec cs
      | false => none
    | _ => none
  le a x hx := by
    cases a with
    | io cs o =>
      simp only at hx
      split at hx
      · rename_i he
        have := Nat.eq_of_beq_eq_true he
        subst this
        intro Sl w X0 B0 v fp rs hr
        cases hr with
        | io g _ vs e _ fp rs hg hl h hs =>
          have h2 := c.le cs x hx _ _ _ _ _ _ _ h
          exact .io g _ vs e _ fp rs hg (by have := preps_len h2; simpa using this) h2 hs
      · cases hx
    | _ => cases hx
def cellRP {E : Env I} {α : Type} (off : Nat) (g : List (DV I) → Option α) (e : α → List (DV I)) (h : ∀ xs a, g xs = some a → DLes xs (e a)) : CodC E α where
  enc a := .rp (e a) off
  dec a := match a with
    | .rp cs o => match Nat.beq o off with
      | true => g cs
      | false => none
    | _ => none
  le a x hx := by
    cases a with
    | rp cs o =>
      simp only at hx
      split at hx
      · rename_i he
        have := Nat.eq_of_beq_eq_true he
        subst this
        intro Sl w X0 B0 v fp rs hr
        cases hr with
        | rp _ _ b p hc =>
          refine .rp _ _ b p fun j y hj => ?_
          obtain ⟨y', h1, h2⟩ := (h cs x hx).get j y hj
          obtain ⟨u, h3, h4, h5⟩ := hc j y' h1
          exact ⟨u, h3, h4.le h2, h5⟩
      · cases hx
    | _ => cases hx
def cellRQ {E : Env I} {α : Type} (off : Nat) (c : CodCs E α) : CodC E α where
  enc a := .rq (c.enc a) off
  dec a := match a with
    | .rq cs o => match Nat.beq o off with
      | true => c.dec cs
      | false => none
    | _ => none
  le a x hx := by
    cases a with
    | rq cs o =>
      simp only at hx
      split at hx
      · rename_i he
        have := Nat.eq_of_beq_eq_true he
        subst this
        intro Sl w X0 B0 v fp rs hr
        cases hr with
        | rq us _ _ g p _ _ hc h => exact .rq us _ _ g p _ _ hc (c.le cs x hx _ _ _ _ _ _ _ h)
      · cases hx
    | _ => cases hx
def cellRPI {E : Env I} (k : IntKind) : CodC E Int := cellRP 0 (fun l => match l with | [c] => gI k c | _ => none) (fun a => [.lit (.int k a)]) fun xs a h => by
  split at h
  · exact .cons (gI_le h) .nil
  · cases h
def cellRPL {E : Env I} (t : Nat) : CodC E (List (I t)) := cellRP 0 (fun l => match l with | [c] => gL t c | _ => none) (fun a => [.sl t a]) fun xs a h => by
  split at h
  · exact .cons (gL_le h) .nil
  · cases h
def cellMth {E : Env I} {α : Type} (f : Nat) (c : CodCs E α) : CodC E α where
  enc a := .mth f (c.enc a)
  dec a := match a with
    | .mth g cs => match Nat.beq g f with
      | true => c.dec cs
      | false => none
    | _ => none
  le a x hx := by
    cases a with
    | mth g cs =>
      simp only at hx
      split at hx
      · rename_i he
        have := Nat.eq_of_beq_eq_true he
        subst this
        intro Sl w X0 B0 v fp rs hr
        cases hr with
        | mth _ vs _ fp rs h => exact .mth _ vs _ fp rs (c.le cs x hx _ _ _ _ _ _ _ h)
      · cases hx
    | _ => cases hx
def cellClo {E : Env I} {α β : Type} (f : Nat) (c : CodCs E α) (d : CodCs E β) : CodC E (α × β) where
  enc a := .clo f (c.enc a.1) (d.enc a.2)
  dec a := match a with
    | .clo g cs ds => match Nat.beq g f with
      | true => (c.dec cs).bind fun x => (d.dec ds).bind fun y => some (x, y)
      | false => none
    | _ => none
  le a x hx := by
    cases a with
    | clo g cs ds =>
      simp only at hx
      split at hx
      · rename_i he
        have := Nat.eq_of_beq_eq_true he
        subst this
        obtain ⟨y, h1, hx⟩ := Option.bind_eq_some_iff.1 hx
        obtain ⟨z, h2, hx⟩ := Option.bind_eq_some_iff.1 hx
        injection hx with hx
        subst hx
        intro Sl w X0 B0 v fp rs hr
        cases hr with
        | clo _ fs cs' _ _ p1 p2 r1 r2 h3 h4 => exact .clo _ fs cs' _ _ p1 p2 r1 r2 (c.le cs y h1 _ _ _ _ _ _ _ h3) (d.le ds z h2 _ _ _ _ _ _ _ h4)
      · cases hx
    | _ => cases hx
def Cod.c {E : Env I} {α : Type} (c : CodC E α) : Cod E α where
  enc a := .c (c.enc a)
  dec a := match a with
    | .c x => c.dec x
    | _ => none
  le a x hx := by
    cases a with
    | c y =>
      intro Sl w X0 B0 v fp rs hr
      cases hr with | c _ _ _ _ hr => exact .c _ _ _ _ (c.le y x hx _ _ _ _ _ _ _ hr)
    | _ => cases hx
def Cod.agg {E : Env I} {α : Type} (c : CodCs E α) : Cod E α where
  enc a := .agg (c.enc a)
  dec a := match a with
    | .agg cs => c.dec cs
    | _ => none
  le a x hx := by
    cases a with
    | agg cs =>
      intro Sl w X0 B0 v fp rs hr
      cases hr with | agg vs _ _ _ hr => exact .agg vs _ _ _ (c.le cs x hx _ _ _ _ _ _ _ hr)
    | _ => cases hx
structure RC (E : Env I) (β : Type) where
  enc : β → RV I
  dec : RV I → Option β
def RC.one {E : Env I} {ρ : Type} (c : Cod E ρ) : RC E ρ where
  enc x := (c.enc x, [])
  dec r := match r with
    | (a, []) => c.dec a
    | _ => none
def RC.many {E : Env I} {ρ : Type} (c : CodL E ρ) : RC E ρ where
  enc x := (.tup (c.enc x), [])
  dec r := match r with
    | (.tup az, []) => c.dec az
    | _ => none
def RC.oneR {E : Env I} {ρ σ : Type} (c : Cod E ρ) (d : CodCs E σ) : RC E (ρ × σ) where
  enc x := (c.enc x.1, d.enc x.2)
  dec r := (c.dec r.1).bind fun x => (d.dec r.2).bind fun y => some (x, y)
def RC.manyR {E : Env I} {ρ σ : Type} (c : CodL E ρ) (d : CodCs E σ) : RC E (ρ × σ) where
  enc x := (.tup (c.enc x.1), d.enc x.2)
  dec r := match r with
    | (.tup az, os) => (c.dec az).bind fun x => (d.dec os).bind fun y => some (x, y)
    | _ => none
def ansOf {E : Env I} {α β : Type} (c : CodL E α) (conv : β → RV I) (F : α → Option β) (avs : List (AV I)) : Tree (RV I) :=
  match c.dec avs with
  | some x => .bnd β (F x) fun r => .ret (conv r)
  | none => .fail
theorem spec_of {P : Program} {E : Env I} {sp0 sp : Nat → List (AV I) → Tree (RV I)} (hE : EnvOK P E) (hS : ∀ f, SpecOK P E sp0 f) {f : Nat} {fn : Func} (hf : P.funcs[f]? = some fn) (hnr : (fn.name == "runtime.NumGoroutine") = false) (hne : f ≠ 1000003) {hints : Nat → Hint} {ck : Co} {k : Nat} {α β : Type}
    (c : CodL E α) (conv : β → RV I) (F : α → Option β) (hF : ∀ x, (evFunC E sp0 hints ck k fn (c.enc x)).run = (F x).map conv) (hsp : ∀ avs, sp f avs = ansOf c conv F avs) : SpecOK P E sp f := by
  intro avs rv hr Sl w us fp rs hSl hargs hnd hlt hiv
  rw [hsp] at hr
  unfold ansOf at hr
  split at hr
  · rename_i x hx
    simp only [Tree.run] at hr
    have h2 := hF x
    rw [evFunC_run] at h2
    have h3 : (F x).map conv = some rv := by
      cases hq : F x with
      | none => rw [hq] at hr; cases hr
      | some y => rw [hq] at hr; simpa using hr
    rw [h3] at h2
    obtain ⟨rv0, h4, rfl⟩ := Option.map_eq_some_iff.1 h2
    obtain ⟨g, args, k1, k2, k3⟩ := fn_sound hE hS hf hnr hne h4 hSl (c.le avs x hx _ _ _ _ _ _ _ hargs) hnd hlt hiv
    exact ⟨g, args, k1, k2, k3.mono fun e w' he => by obtain ⟨u, rfl, ha⟩ := he; exact ⟨u, rfl, ha.co hE ck⟩⟩
  · cases hr
theorem map_ite {α β : Type} (f : α → β) (c : Prop) [Decidable c] (a b : Option α) : (if c then a else b).map f = if c then a.map f else b.map f := by split <;> rfl
theorem map_bindO {α β γ : Type} (f : β → γ) (a : Option α) (g : α → Option β) : (a.bind g).map f = a.bind fun x => (g x).map f := by cases a <;> rfl
theorem map_someO {α β : Type} (f : α → β) (a : α) : (some a).map f = some (f a) := rfl
theorem map_noneO {α β : Type} (f : α → β) : (none : Option α).map f = none := rfl
end Go.Ev
end
section
namespace Go.Ev
open Go.RowKit
variable {I : Nat → Type}
def SpecA (P : Program) (E : Env I) (f : Nat) (a : List (AV I) → Tree (RV I)) : Prop := SpecOK P E (fun _ => a) f
def look : List (Nat × (List (AV I) → Tree (RV I))) → Nat → List (AV I) → Tree (RV I)
  | [], _ => fun _ => .fail
  | (g, a) :: r, f => match Nat.beq f g with
    | true => a
    | false => look r f
inductive AllA (P : Program) (E : Env I) : List (Nat × (List (AV I) → Tree (RV I))) → Prop
  | nil : AllA P E []
  | cons {f : Nat} {a : List (AV I) → Tree (RV I)} {r : List (Nat × (List (AV I) → Tree (RV I)))} (h : SpecA P E f a) (hs : AllA P E r) : AllA P E ((f, a) :: r)
theorem look_ok {P : Program} {E : Env I} {L : List (Nat × (List (AV I) → Tree (RV I)))} (h : AllA P E L) : ∀ f, SpecOK P E (look L) f := by
  induction h with
  | nil => intro f avs rv hr; cases hr
  | @cons g a r h _ ih =>
    intro f avs rv hr
    cases hb : Nat.beq f g with
    | true =>
      have := Nat.eq_of_beq_eq_true hb
      subst this
      have e : look ((f, a) :: r) f = a := by simp only [look, hb]
      rw [e] at hr
      exact h avs rv hr
    | false =>
      have e : look ((g, a) :: r) f = look r f := by simp only [look, hb]
      rw [e] at hr
      exact ih f avs rv hr
theorem specA_none {P : Program} {E : Env I} {f : Nat} {α β : Type} (c : CodL E α) (conv : β → RV I) : SpecA P E f (ansOf c conv fun _ => none) := by
  intro avs rv hr
  have hr : (ansOf c conv (fun _ => none) avs).run = some rv := hr
  unfold ansOf at hr
  split at hr <;> cases hr
theorem specA_of {P : Program} {E : Env I} {sp0 : Nat → List (AV I) → Tree (RV I)} (hE : EnvOK P E) (hS : ∀ f, SpecOK P E sp0 f) {f : Nat} {fn : Func} (hf : P.funcs[f]? = some fn) (hnr : (fn.name == "runtime.NumGoroutine") = false) (hne : f ≠ 1000003) {hints : Nat → Hint} {ck : Co} {k : Nat} {α β : Type}
    (c : CodL E α) (conv : β → RV I) (F : α → Option β) (hF : ∀ x, (evFunC E sp0 hints ck k fn (c.enc x)).run = (F x).map conv) : SpecA P E f (ansOf c conv F) :=
  spec_of (sp := fun _ => ansOf c conv F) hE hS hf hnr hne c conv F hF fun _ => rfl
theorem specA_by {P : Program} {E : Env I} {f : Nat} {α β : Type} (c : CodL E α) (conv : β → RV I) (F : α → Option β)
    (h : ∀ (x : α) (y : β), F x = some y → ∀ Sl w us fp rs, (∀ g o, Sl g o → g < w.heap.size) → AReps E Sl w (· ∈ fp) w.heap.size us (c.enc x) fp rs → fp.Nodup → (∀ k ∈ fp, k < w.heap.size ∧ ¬ E.glob k) → E.inv w →
      ∃ g args, Callee f us g args ∧ (∃ fn, P.funcs[g]? = some fn ∧ fn.body.isSome = true ∧ (fn.name == "runtime.NumGoroutine") = false) ∧ Calls P g args w fun e w' => ∃ u, e = .returned u ∧ Answers E Sl w fp rs (conv y) u w') : SpecA P E f (ansOf c conv F) := by
  intro avs rv hr Sl w us fp rs hSl hargs hnd hlt hiv
  have hr : (ansOf c conv F avs).run = some rv := hr
  unfold ansOf at hr
  split at hr
  · rename_i x hx
    simp only [Tree.run] at hr
    cases hq : F x with
    | none => rw [hq] at hr; cases hr
    | some y =>
      rw [hq] at hr
      simp only [Option.bind_some, Option.some.injEq] at hr
      subst hr
      exact h x y hq Sl w us fp rs hSl (c.le avs x hx _ _ _ _ _ _ _ hargs) hnd hlt hiv
  · cases hr
section
variable {P : Program} {E : Env I} {Sl : Nat → Nat → Prop} {w w' : World} {X0 : Nat → Prop} {B0 : Nat}
theorem areps_nil {us : List Value} {fp : List Nat} {rs : List Value} (h : AReps E Sl w X0 B0 us [] fp rs) : us = [] ∧ fp = [] ∧ rs = [] := by cases h; exact ⟨rfl, rfl, rfl⟩
theorem areps_cons {us : List Value} {a : AV I} {az : List (AV I)} {fp : List Nat} {rs : List Value} (h : AReps E Sl w X0 B0 us (a :: az) fp rs) :
    ∃ v vs p q r t, us = v :: vs ∧ fp = p ++ q ∧ rs = r ++ t ∧ ARep E Sl w X0 B0 v a p r ∧ AReps E Sl w X0 B0 vs az q t := by
  cases h with
  | cons v vs _ _ p q r t h hs => exact ⟨v, vs, p, q, r, t, rfl, rfl, rfl, h, hs⟩
theorem arep_lit {v u : Value} {p : List Nat} {r : List Value} (h : ARep E Sl w X0 B0 v (.c (.d (.lit u))) p r) : v = u ∧ p = [] ∧ r = [] := by
  cases h with
  | c _ _ _ _ h => cases h with | d _ _ h => cases h with | lit _ _ => exact ⟨rfl, rfl, rfl⟩
theorem arep_d {v : Value} {x : DV I} {p : List Nat} {r : List Value} (h : ARep E Sl w X0 B0 v (.c (.d x)) p r) : DRep E Sl w v x ∧ p = [] ∧ r = [] := by
  cases h with
  | c _ _ _ _ h => cases h with | d _ _ h => exact ⟨h, rfl, rfl⟩
theorem areps_lit {u : Value} {us : List Value} {az : List (AV I)} {fp : List Nat} {rs : List Value} (h : AReps E Sl w X0 B0 us (.c (.d (.lit u)) :: az) fp rs) : ∃ vs, us = u :: vs ∧ AReps E Sl w X0 B0 vs az fp rs := by
  obtain ⟨v, vs, p, q, r, t, rfl, rfl, rfl, h1, h2⟩ := areps_cons h
  obtain ⟨rfl, rfl, rfl⟩ := arep_lit h1
  exact ⟨vs, rfl, h2⟩
theorem areps_d {x : DV I} {us : List Value} {az : List (AV I)} {fp : List Nat} {rs : List Value} (h : AReps E Sl w X0 B0 us (.c (.d x) :: az) fp rs) : ∃ v vs, us = v :: vs ∧ DRep E Sl w v x ∧ AReps E Sl w X0 B0 vs az fp rs := by
  obtain ⟨v, vs, p, q, r, t, rfl, rfl, rfl, h1, h2⟩ := areps_cons h
  obtain ⟨h3, rfl, rfl⟩ := arep_d h1
  exact ⟨v, vs, rfl, h3, h2⟩
theorem keepX_of_below (h : Below w.heap.size w w') (X : Nat → Prop) : KeepX X w.heap.size w w' := ⟨h.os, h.tape, h.output, h.size, fun i hi _ => h.block i hi⟩
theorem ext_below (hSl : ∀ g o, Sl g o → g < w.heap.size) (h : Below w.heap.size w w') (fp : List Nat) : Ext Sl Sl w w' fp :=
  ⟨fun _ _ h => h, fun _ _ h => .inl h, fun g o u hs hu => (cell_same (h.block g (hSl g o hs))).trans hu⟩
theorem answers_lit (hSl : ∀ g o, Sl g o → g < w.heap.size) (h : Below w.heap.size w w') {u : Value} (h1 : u.oneCell' = true) : Answers E Sl w [] [] (.c (.d (.lit u)), []) u w' :=
  ⟨Sl, [], [], [], [], keepX_of_below h _, ext_below hSl h _, .c _ _ _ _ (.d _ _ (.lit _ h1)), .nil, List.nodup_nil, fun k hk => by cases hk⟩
theorem answers_row {t : Nat} {ti : TI} {xs : List (I t)} {vals : List Value} {u : Value} (ht : E.ty t = some ti) (hSl : ∀ g o, Sl g o → g < w.heap.size) (h : Below w.heap.size w w') (hown : w'.ownsRow w.heap.size t ti.size u xs.length vals)
    (hr : ∀ i r j y, xs[i]? = some r → (E.row t r)[j]? = some y → ∃ u, vals[i * ti.size + j]? = some u ∧ ∀ Sl', (∀ g o, Sl g o → Sl' g o) → DRep E Sl' w' u y) : Answers E Sl w [] [] (.c (.ow t xs), []) u w' := by
  let Sl' : Nat → Nat → Prop := fun g j => Sl g j ∨ (u.ownBlock = some g ∧ j < xs.length * ti.size)
  have hlt : ∀ k, u.ownBlock = some k → w.heap.size ≤ k ∧ k < w'.heap.size := fun k hk => hown.lt k hk
  have hown0 : w'.ownsRow 0 t ti.size u xs.length vals := by
    refine ⟨hown.1, ?_⟩
    rcases hown.2 with h1 | ⟨g, cap, cur, h1, _, h3⟩
    · exact .inl h1
    · exact .inr ⟨g, cap, cur, h1, Nat.zero_le _, h3⟩
  refine ⟨Sl', u.ownBlock.toList, [], [], [], keepX_of_below h _, ⟨fun g o hs => .inl hs, fun g o hs => hs.imp id fun hx => ⟨.inl (hlt g hx.1).1, (hlt g hx.1).2⟩, (ext_below hSl h []).c⟩, .c _ _ _ _ (.ow u t xs vals ti ht hown0 (fun i r j y hi hj => ?_) (fun k hk j => ⟨fun hs => ?_, fun hj => .inr ⟨hk, hj⟩⟩)), .nil, ?_, fun k hk => ?_⟩
  · obtain ⟨v, h1, h2⟩ := hr i r j y hi hj
    exact ⟨v, h1, h2 Sl' fun g o hs => .inl hs⟩
  · rcases hs with hs | hs
    · have := hSl _ _ hs; have := hlt k hk; omega
    · exact hs.2
  · rw [List.append_nil]
    cases u.ownBlock <;> simp
  · simp at hk
    exact ⟨(hlt k hk).2, .inl (hlt k hk).1⟩
end
end Go.Ev
end
