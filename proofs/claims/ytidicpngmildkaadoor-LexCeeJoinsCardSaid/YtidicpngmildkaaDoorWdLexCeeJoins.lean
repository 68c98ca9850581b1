/- LexCeeJoins: the walk. -/
import Derived.Test.YtidicpngmildkaaDoorLa
import Derived.Test.YtidicpngmildkaaDoorJo
set_option linter.unusedVariables false
namespace Go.Proofs.YtidicpngmildkaaDoor.Wd
open Go.RowKit Go.Proofs.YtidicpngmildkaaDoorW.PrintWords Go.Proofs.YtidicpngmildkaaDoorW.PrintLast Go.Proofs.YtidicpngmildkaaDoorW.PrintMore Go.Proofs.YtidicpngmildkaaDoor.Jo
theorem lexCeeJoins (s t : ByteArray) (w : World) (ht : Tab w) (hs : s.size ≤ 140737488351232) (ht2 : t.size ≤ 140737488351232) : Calls Tryd.prog 6 #[.string s, .string t] w fun e w' => e = .returned (.bool true) ∧ Below w.heap.size w w' := by
  by_cases hb : 3000 < s.size ∨ 3000 < t.size
  · exact joins_big s t w ht hb
  · have h1 : s.size ≤ 3000 := by omega
    have h2 : t.size ≤ 3000 := by omega
    rcases Pl.joins_facts s t h1 h2 with ⟨c1, k1, l1, m1, r2, r3, e1, e2, e3, e4⟩ | ⟨la, c, k, l3, m3, l, m, e1, e2, e3, e4, e5⟩ | ⟨la, lb, lc, e1, e2, e3, e4⟩
    · obtain ⟨lb, c2, k2, l2, m2⟩ := r2
      obtain ⟨lc, c3, k3, l3, m3⟩ := r3
      exact joins_walk s t w ht h1 h2 _ _ _ _ _ _ _ _ _ _ _ _ _ _ _ e1 e3 e4 (.inl e2)
    · exact joins_walk s t w ht h1 h2 _ _ _ _ _ _ _ _ _ _ _ _ _ _ _ e1 e2 e5 (.inr (.inl ⟨rfl, e3, rfl, k, rfl, e4, rfl⟩))
    · exact joins_walk s t w ht h1 h2 _ _ _ _ _ _ _ _ _ _ _ _ _ _ _ e1 e2 e3 (.inr (.inr ⟨rfl, rfl, rfl, e4⟩))
end Go.Proofs.YtidicpngmildkaaDoor.Wd
