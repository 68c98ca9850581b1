-- Printed by this session's own program over the printer of the kit (wip/tools/xprint.py); not by print.sh. Lean checks it.
import Derived.Test.YtmmbpbamkiheaaaDoorLe
import Derived.LaidMore
import Derived.SevenTiedAt
import Derived.Stop.Joined
import Derived.Test.YtmmbpbamkiheaaaDoorCards
import Derived.Test.YtmmbpbamkiheaaaDoorTie
import Derived.Test.YtmmbpbamkiheaaaDoorRows
import Derived.Test.YtmmbpbamkiheaaaDoorRk
import Derived.Test.YtmmbpbamkiheaaaDoorTxTextGoes
import Derived.WalkKit
import Derived.ProofKit
import Derived.OpenShut
import Derived.ShutString
import Derived.ChangeOld
import Derived.Below
import Derived.SizedLaws
set_option linter.unusedVariables false
namespace Go.Proofs.YtmmbpbamkiheaaaDoor.textGoes
open Go.ChangeShapes Go.WideShapes Go.ChangeAt Go.RowKit Go.Proofs.YtmmbpbamkiheaaaDoor.R Go.Proofs.YtmmbpbamkiheaaaDoor Go.Proofs.YtmmbpbamkiheaaaDoorW.PrintWords
open Go.ChangeMaps (open_string shut_string)
theorem own : ownKnob Tryd.prog.godebug = none := by kernel_rfl
theorem laidOut : laidOutB Tryd.prog = true := by kernel_rfl
def ok47 (x : S47) : Prop := (fun x => (Lit.int .i64 x).wf = true) x.f0 ∧ (fun x => (Lit.int .i64 x).wf = true) x.f1 ∧ (fun x : ByteArray => x.size ≤ maxLen) x.f2
set_option maxRecDepth 100000 in
theorem rd47 {H : Type} {enc : TypeId × Value → H} {w : World} {base : Nat} {spare : Nat → Bool} {held : Bool} : ∀ (n : Nat) (cs : List Value) (y : DataW H × List MemPlace), DataW.trod enc Tryd.prog w base spare held n 47 cs = some y → ∃ x, k47.K w x cs ∧ ok47 x := by
  intro n cs y h
  obtain ⟨xs, m, hn, _, hl, hxl, hf⟩ := DataW.trod_struct Tryd.underlying47 h
  have hlen : cs.length = 3 := by rw [hl]; kernel_rfl
  clear h
  have h0 := hf 0 _ rfl
  rw [List.getElem?_eq_getElem (by rw [hxl]; decide)] at h0
  replace h0 : DataW.trod enc Tryd.prog w base spare held m 3 ((cs.drop 0).take (Program.cellsOf Tryd.prog 3)) = some _ := h0
  rw [show Program.cellsOf Tryd.prog 3 = 1 from by kernel_rfl] at h0
  obtain ⟨x0, K0, o0⟩ := Rk.int_K Tryd.underlying3 h0
  have h1 := hf 1 _ rfl
  rw [List.getElem?_eq_getElem (by rw [hxl]; decide)] at h1
  replace h1 : DataW.trod enc Tryd.prog w base spare held m 3 ((cs.drop 1).take (Program.cellsOf Tryd.prog 3)) = some _ := h1
  rw [show Program.cellsOf Tryd.prog 3 = 1 from by kernel_rfl] at h1
  obtain ⟨x1, K1, o1⟩ := Rk.int_K Tryd.underlying3 h1
  have h2 := hf 2 _ rfl
  rw [List.getElem?_eq_getElem (by rw [hxl]; decide)] at h2
  replace h2 : DataW.trod enc Tryd.prog w base spare held m 9 ((cs.drop 2).take (Program.cellsOf Tryd.prog 9)) = some _ := h2
  rw [show Program.cellsOf Tryd.prog 9 = 1 from by kernel_rfl] at h2
  obtain ⟨x2, K2, o2⟩ := Rk.string_K Tryd.underlying9 h2
  refine ⟨(⟨x0, x1, x2⟩ : S47), ?_, ⟨o0, o1, o2⟩⟩
  have hK : k47.K w (⟨x0, x1, x2⟩ : S47) (cs.drop 0) := ⟨(cs.drop 0).take 1, cs.drop 1, Rk.split_ cs 0 1, K0, ⟨(cs.drop 1).take 1, cs.drop 2, Rk.split_ cs 1 1, K1, (Rk.last_ cs 2 1 (by rw [hlen]) ▸ K2)⟩⟩
  exact hK
set_option maxRecDepth 100000 in
theorem lifted (os : Os) (started : os.Started) (H : Type) (enc : TypeId × Value → H) :
    ReturnsInHanded {} Tryd.checked os 8 .any (fun w args => (Rows.textGoesSpec.pre enc Tryd.prog Tryd.f8 [] false w args ∧ laidMetH Tryd.prog Tx.laidL w) ∧ sizedMet enc Tryd.prog Tryd.f8 (OpenSpec.ofChange Rows.textGoesSpec) false w args) (Rows.textGoesSpec.post enc Tryd.prog Tryd.f8 false true false false) := by
  refine returnsInHanded_of_change_and (C := Tryd.checked) (X := fun w _ => laidMetH Tryd.prog Tx.laidL w) (fun _ _ _ hh h => h.of_heap hh) own started (by kernel_rfl) Tryd.func8
    (ChangeSpec.witness_shaped (enc := enc) (C := Tryd.checked) (os := os) (X := fun w _ => laidMetH Tryd.prog Tx.laidL w) false (World.laidAll Tryd.prog os Tx.laidL) #[.string ByteArray.empty, .slice none 0 0] 8 (World.laidAll_os _ _ _) (World.shaped_of_ZipB (by kernel_rfl) (by kernel_rfl)) (by kernel_rfl) (by kernel_rfl) (by kernel_rfl) (by rw [MakeChecks.laidMetH_plain _ _ _ (by kernel_rfl)]; exact laidMet_laidAll _ (by kernel_rfl) (by kernel_rfl))) ?_
  intro W base args ds gs before hval0 hW hcnd hsz0 hL _
  have hsz : (DataW.weightsEach Tryd.prog (Tryd.f8.params.toList ++ Rows.textGoesSpec.plain.varTypes Tryd.prog) (ds ++ gs)).all (· ≤ reachBytes) = true := hsz0
  have hval : ∀ (j : Nat) t v, Tryd.f8.params[j]? = some t → args[j]? = some v → Value.okWide Tryd.prog W .any base t v := hval0
  have hW' := hW
  obtain ⟨p, q, hA0, hV, rfl, hfz, hnd⟩ := hW
  have hA : DataW.TrodAll enc Tryd.prog W 0 (fun _ => true) true Tryd.f8.params.toList args.toList ds p := hA0
  rw [Tryd.params8] at hA hval hsz
  obtain ⟨v0, vs0, d0, ds0, p0, q0, hargs, rfl, rfl, h0, r0⟩ := trodAll_cons hA
  obtain ⟨v1, vs1, d1, ds1, p1, q1, rfl, rfl, rfl, h1, r1⟩ := trodAll_cons r0
  obtain ⟨rfl, rfl, rfl⟩ := trodAll_nil r1
  obtain rfl : args = #[v0, v1] := by cases args; simp_all
  obtain ⟨rfl, rfl⟩ := trodVars_none hV
  obtain ⟨a0, rfl, rfl, rfl, y0⟩ := open_string Tryd.underlying9 (hval 0 9 v0 rfl rfl) h0
  have w0 : a0.size ≤ 140737488351232 := by
    have z := sized_string hsz (j := 0) (t := 9) rfl rfl
    rw [Array.length_toList] at z
    exact z
  obtain ⟨A1, len1, c1, rfl⟩ := okWide_slice Tryd.underlying45 (hval 1 45 v1 rfl rfl)
  have k1 := h1
  have lt1 : ∀ x ∈ p1, x.block < W.heap.size := by obtain ⟨m, hm⟩ := k1; exact DataW.trod_lt m _ _ _ hm
  obtain ⟨l1, rfl, hc1, hr1, o1⟩ := Rk.slice_arg k47 ok47 Tryd.underlying45 (by kernel_rfl) (fun n cs y h => rd47 n cs y h) h1
  clear hA0 hval0 hsz0 hsz
  refine (Tx.textGoes a0 A1 c1 l1 W (Tx.of_laid hL) hr1 hc1 w0 o1).mono fun e W' ⟨he, bel⟩ => ?_
  subst he
  exact ⟨_, rfl, _, _, _, [], _, [], hW', trodAll_mk1 (shut_bool Tryd.underlying4 _), (trodAll_cons_mk (shut_string Tryd.underlying9 y0) (trodAll_cons_mk (Below.trod laidOut (by kernel_rfl) (of_decide_eq_true (by kernel_rfl)) k1 bel lt1) trodAll_mk0)), rfl, bel.frame _, fun h => by cases h⟩
theorem over : Rows.textGoesRow.holds Tryd.pinned (OpenSpec.ofChange Rows.textGoesSpec) :=
  OpenClaim.holds_of_wide 8 Tryd.f8 rfl rfl rfl rfl rfl rfl rfl ⟨rfl, rfl, rfl, rfl, rfl⟩ rfl rfl rfl rfl rfl (by kernel_rfl) Tryd.func8 (by kernel_rfl)
    (of_decide_eq_true (by kernel_rfl)) (by unfold Func.isWrapper; first | (rw [if_pos (by decide +kernel)]; kernel_rfl) | (rw [if_neg (by decide +kernel)]; exact ⟨rfl, rfl⟩))
    (fun os started H enc _ => lifted os started H enc)
theorem proved : Rows.TextGoesSaid := over
theorem card : Rows.TextGoesCardSaid :=
  Claim7.holds_tied_plain_at .later [] [.data, .data, .data, .data, .pinned] true (true, "c83ccd908de7d6b16eabed10bf4fe9b873ccecc71275394230008a02c4f394f3") false proved (fun _ h => by cases h) (by kernel_rfl) (fun _ h => by cases h) textGoes_row_tie rfl ⟨rfl, rfl⟩ (by kernel_rfl) rfl
    (fun f fn hf hfn => by
      obtain rfl : f = 8 := Option.some.inj ((show Tryd.prog.funcNamed "pantograph/pantographlaw01.TextGoes" = some 8 by kernel_rfl).symm.trans hf) |>.symm
      obtain rfl : fn = Tryd.f8 := (Option.some.inj (Tryd.func8.symm.trans hfn)).symm
      exact ⟨by kernel_rfl, fun j t ht => by
        rw [Tryd.params8] at ht
        have hm : t ∈ [9, 45] := by simpa using Array.mem_of_getElem? ht
        have hall : ([9, 45].all fun u => !Tryd.prog.wantsStandIn u) = true := by kernel_rfl
        exact (show Tryd.prog.wantsStandIn t = false by simpa using List.all_eq_true.1 hall t hm)⟩)
    (by kernel_rfl)
end Go.Proofs.YtmmbpbamkiheaaaDoor.textGoes
namespace Go.Proofs.YtmmbpbamkiheaaaDoor
/-- The row, under a short name, for the claim. -/
theorem textGoes_holds : Rows.TextGoesCardSaid := textGoes.card
end Go.Proofs.YtmmbpbamkiheaaaDoor
