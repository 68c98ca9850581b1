-- Printed by this session's own program over the printer of the kit (wip/tools/xprint.py); not by print.sh. Lean checks it.
import Derived.Test.YtchdcklalgadhaaRows
import Derived.Test.YtchdcklalgadhaaRk
import Derived.Test.YtchdcklalgadhaaSkSinkPlays
import Derived.WalkKit
import Derived.ProofKit
import Derived.OpenShut
import Derived.ShutString
import Derived.ChangeOld
import Derived.Below
import Derived.SizedLaws
set_option linter.unusedVariables false
namespace Go.Proofs.Ytchdcklalgadhaa.sinkPlays
open Go.ChangeShapes Go.WideShapes Go.ChangeAt Go.RowKit Go.Proofs.Ytchdcklalgadhaa.R Go.Proofs.Ytchdcklalgadhaa Go.Proofs.YtchdcklalgadhaaW.PrintWords
open Go.ChangeMaps (open_string shut_string)
theorem own : ownKnob Try.prog.godebug = none := by kernel_rfl
theorem laidOut : laidOutB Try.prog = true := by kernel_rfl
def ok33 (x : S33) : Prop := (fun x => (Lit.int .i64 x).wf = true) x.f0 ∧ (fun xs : List ByteArray => (∀ x ∈ xs, (fun x : ByteArray => x.size ≤ maxLen) x) ∧ xs.length ≤ maxLen) x.f1
set_option maxRecDepth 100000 in
theorem rd33 {H : Type} {enc : TypeId × Value → H} {w : World} {base : Nat} {spare : Nat → Bool} {held : Bool} : ∀ (n : Nat) (cs : List Value) (y : DataW H × List MemPlace), DataW.trod enc Try.prog w base spare held n 33 cs = some y → ∃ x, k33.K w x cs ∧ ok33 x := by
  intro n cs y h
  obtain ⟨xs, m, hn, _, hl, hxl, hf⟩ := DataW.trod_struct Try.underlying33 h
  have hlen : cs.length = 2 := by rw [hl]; kernel_rfl
  clear h
  have h0 := hf 0 _ rfl
  rw [List.getElem?_eq_getElem (by rw [hxl]; decide)] at h0
  replace h0 : DataW.trod enc Try.prog w base spare held m 3 ((cs.drop 0).take (Program.cellsOf Try.prog 3)) = some _ := h0
  rw [show Program.cellsOf Try.prog 3 = 1 from by kernel_rfl] at h0
  obtain ⟨x0, K0, o0⟩ := Rk.int_K Try.underlying3 h0
  have h1 := hf 1 _ rfl
  rw [List.getElem?_eq_getElem (by rw [hxl]; decide)] at h1
  replace h1 : DataW.trod enc Try.prog w base spare held m 31 ((cs.drop 1).take (Program.cellsOf Try.prog 31)) = some _ := h1
  rw [show Program.cellsOf Try.prog 31 = 1 from by kernel_rfl] at h1
  obtain ⟨x1, K1, o1⟩ := Rk.slice_K Kd.string (fun x : ByteArray => x.size ≤ maxLen) Try.underlying31 (by kernel_rfl) (fun m _ cs y h => Rk.string_K Try.underlying9 h) h1
  refine ⟨(⟨x0, x1⟩ : S33), ?_, ⟨o0, o1⟩⟩
  have hK : k33.K w (⟨x0, x1⟩ : S33) (cs.drop 0) := ⟨(cs.drop 0).take 1, cs.drop 1, Rk.split_ cs 0 1, K0, (Rk.last_ cs 1 1 (by rw [hlen]) ▸ K1)⟩
  exact hK
set_option maxRecDepth 100000 in
theorem lifted (os : Os) (started : os.Started) (H : Type) (enc : TypeId × Value → H) :
    ReturnsInHanded {} Try.checked os 6 .any (Rows.sinkPlaysSpec.pre6 enc Try.prog Try.f6 Rows.sinkPlaysRow.domain false) (Rows.sinkPlaysSpec.post enc Try.prog Try.f6 false true false false) := by
  refine returnsInHanded_of_change_sized (C := Try.checked) own started (by kernel_rfl) Try.func6
    (ChangeSpec.witness6 (enc := enc) (C := Try.checked) false ⟨#[], #[.int .i64 0, .slice none 0 0], []⟩ 8 (by kernel_rfl) (by kernel_rfl) (by kernel_rfl) (by kernel_rfl)) ?_
  intro W base args ds gs before hval0 hW hcnd hsz0 _
  have hsz : (DataW.weightsEach Try.prog (Try.f6.params.toList ++ Rows.sinkPlaysSpec.plain.varTypes Try.prog) (ds ++ gs)).all (· ≤ reachBytes) = true := hsz0
  have hval : ∀ (j : Nat) t v, Try.f6.params[j]? = some t → args[j]? = some v → Value.okWide Try.prog W .any base t v := hval0
  have hW' := hW
  obtain ⟨p, q, hA0, hV, rfl, hfz, hnd⟩ := hW
  have hA : DataW.TrodAll enc Try.prog W 0 (fun _ => true) true Try.f6.params.toList args.toList ds p := hA0
  rw [Try.params6] at hA hval hsz
  obtain ⟨v0, vs0, d0, ds0, p0, q0, hargs, rfl, rfl, h0, r0⟩ := trodAll_cons hA
  obtain ⟨v1, vs1, d1, ds1, p1, q1, rfl, rfl, rfl, h1, r1⟩ := trodAll_cons r0
  obtain ⟨rfl, rfl, rfl⟩ := trodAll_nil r1
  obtain rfl : args = #[v0, v1] := by cases args; simp_all
  obtain ⟨rfl, rfl⟩ := trodVars_none hV
  obtain ⟨a0, rfl, rfl, rfl, w0⟩ := open_int Try.underlying3 (hval 0 3 v0 rfl rfl) h0
  obtain ⟨A1, len1, c1, rfl⟩ := okWide_slice Try.underlying29 (hval 1 29 v1 rfl rfl)
  have k1 := h1
  have lt1 : ∀ x ∈ p1, x.block < W.heap.size := by obtain ⟨m, hm⟩ := k1; exact DataW.trod_lt m _ _ _ hm
  obtain ⟨l1, rfl, hc1, hr1, o1⟩ := Rk.slice_arg k33 ok33 Try.underlying29 (by kernel_rfl) (fun n cs y h => rd33 n cs y h) h1
  clear hA0 hval0 hsz0 hsz
  refine (Sk.sinkPlays a0 A1 c1 l1 W hr1 hc1 w0).mono fun e W' ⟨he, bel⟩ => ?_
  subst he
  exact ⟨_, rfl, _, _, _, [], _, [], hW', trodAll_mk1 (shut_bool Try.underlying4 _), (trodAll_cons_mk (shut_int Try.underlying3 w0) (trodAll_cons_mk (Below.trod laidOut (by kernel_rfl) (of_decide_eq_true (by kernel_rfl)) k1 bel lt1) trodAll_mk0)), rfl, bel.frame _, fun h => by cases h⟩
theorem over : Rows.sinkPlaysRow.holds Try.pinned (OpenSpec.ofChange Rows.sinkPlaysSpec) :=
  OpenClaim.holds_of_wide 6 Try.f6 rfl rfl rfl rfl rfl rfl rfl ⟨rfl, rfl, rfl, rfl, rfl⟩ rfl rfl rfl rfl rfl (by kernel_rfl) Try.func6 (by kernel_rfl)
    (of_decide_eq_true (by kernel_rfl)) (by unfold Func.isWrapper; first | (rw [if_pos (by decide +kernel)]; kernel_rfl) | (rw [if_neg (by decide +kernel)]; exact ⟨rfl, rfl⟩))
    (fun os started H enc _ => lifted os started H enc)
theorem proved : Rows.SinkPlaysSaid := over
end Go.Proofs.Ytchdcklalgadhaa.sinkPlays
namespace Go.Proofs.Ytchdcklalgadhaa
/-- The row, under a short name, for the claim. -/
theorem sinkPlays_holds : Rows.SinkPlaysSaid := sinkPlays.proved
end Go.Proofs.Ytchdcklalgadhaa
