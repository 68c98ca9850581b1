/- LexCeeJoins: behind a text that has tokens, and a blank, another text has its own tokens; plain. -/
import Derived.Test.YtidicpngmildkaaDoorUa
set_option linter.unusedVariables false
set_option linter.unusedSimpArgs false
namespace Go.Proofs.YtidicpngmildkaaDoor.Pl
open Go.RowKit Go.Proofs.YtidicpngmildkaaDoorW.PrintWords Go.Proofs.YtidicpngmildkaaDoorW.PrintLast Go.Proofs.YtidicpngmildkaaDoorW.PrintMore Go.Proofs.YtidicpngmildkaaDoor.R Go.Proofs.YtidicpngmildkaaDoor.Tx Go.Proofs.YtidicpngmildkaaDoor.Fl Go.Proofs.YtidicpngmildkaaDoor.Aw Go.Proofs.YtidicpngmildkaaDoor.Fm
def spB : ByteArray := ⟨#[32]⟩
theorem blank_32 : blank 32 = true := by decide +kernel
theorem joins_facts (s t : ByteArray) (hs : s.size ≤ 3000) (ht : t.size ≤ 3000) :
    (∃ c1 k1 l1 m1 r2 r3, lexcee_All.f s = some ([], c1, k1, l1, m1) ∧ c1 ≠ 0 ∧ lexcee_All.f t = some r2 ∧ lexcee_All.f (s ++ spB ++ t) = some r3) ∨
    (∃ la c k l3 m3 l m, lexcee_All.f s = some (la, 0, 0, 0, 0) ∧ lexcee_All.f t = some ([], c, ((k : Nat) : Int), l, m) ∧ c ≠ 0 ∧ k ≤ 3000 ∧ lexcee_All.f (s ++ spB ++ t) = some ([], c, ((s.size + 1 + k : Nat) : Int), l3, m3)) ∨
    (∃ la lb lc, lexcee_All.f s = some (la, 0, 0, 0, 0) ∧ lexcee_All.f t = some (lb, 0, 0, 0, 0) ∧ lexcee_All.f (s ++ spB ++ t) = some (lc, 0, 0, 0, 0) ∧ lc.map bareS = (la.map bareS).take (la.length - 1) ++ lb.map bareS ∧ 0 < la.length ∧ la.length ≤ 3001 ∧ lb.length ≤ 3001 ∧ lc.length ≤ 6002) := by
  have hsz : (s ++ spB ++ t).size = s.size + 1 + t.size := by
    rw [ByteArray.size_append, ByteArray.size_append]; rfl
  have hd : (s ++ spB ++ t).data.toList = s.data.toList ++ 32 :: t.data.toList := by
    rw [app_data, app_data, List.append_assoc]; rfl
  cases h1 : lexL 4000 s.data.toList with
  | bad c r =>
    obtain ⟨e1, e2, _⟩ := res_bad s (by omega) 4000 (by omega) c r h1
    exact .inl ⟨_, _, _, _, _, _, e1, e2, rfl, rfl⟩
  | ok bs =>
    obtain ⟨la, e1, e2, _, e3⟩ := res_ok s (by omega) 4000 (by omega) bs h1
    obtain ⟨l0, e4, e5⟩ := lexL_app t.data.toList 32 blank_32 4000 s.data.toList bs (by rw [data_length]; omega) h1 9000 4000 (by rw [List.length_append, List.length_cons, data_length, data_length]; omega) (by rw [data_length]; omega) (by rw [List.length_append, List.length_cons, data_length, data_length]; omega)
    cases h2 : lexL 4000 t.data.toList with
    | bad c r =>
      obtain ⟨f1, f2, f3⟩ := res_bad t (by omega) 4000 (by omega) c r h2
      rw [h2] at e5
      obtain ⟨g1, g2, g3⟩ := res_bad (s ++ spB ++ t) (by omega) 9000 (by omega) c r (by rw [hd]; exact e5)
      rw [show (s ++ spB ++ t).size - r = s.size + 1 + (t.size - r) by omega] at g1
      exact .inr (.inl ⟨la, c, t.size - r, _, _, _, _, e1, f1, f2, by omega, g1⟩)
    | ok bt =>
      obtain ⟨lb, f1, f2, _, f3⟩ := res_ok t (by omega) 4000 (by omega) bt h2
      rw [h2] at e5
      obtain ⟨lc, g1, g2, _, g3⟩ := res_ok (s ++ spB ++ t) (by omega) 9000 (by omega) _ (by rw [hd]; exact e5)
      have hla : la.length = l0.length + 1 := by
        have := congrArg List.length (e2.trans e4)
        simpa using this
      obtain ⟨L1, L2, hL, hb1, hb2⟩ := List.map_eq_append_iff.1 (e2.trans e4)
      have hL1 : L1.length = l0.length := by rw [← hb1, List.length_map]
      refine .inr (.inr ⟨la, lb, lc, e1, f1, g1, ?_, by omega, by omega, by omega, by omega⟩)
      have h3 : lc.map bareS = (L1 ++ lb).map bareS := bareS_map lc (L1 ++ lb) (by rw [g2, List.map_append, hb1, f2])
      rw [h3, List.map_append, hL, List.map_append, List.take_append_of_le_length (by rw [List.length_map, List.length_append]; have : L2.length = 1 := by { have := congrArg List.length hb2; simpa using this }; omega)]
      congr 1
      rw [List.take_of_length_le]
      rw [List.length_map, List.length_append]
      have : L2.length = 1 := by
        have := congrArg List.length hb2
        simpa using this
      omega
end Go.Proofs.YtidicpngmildkaaDoor.Pl
