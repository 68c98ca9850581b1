/- LexCeeBlanks: the walk. -/
import Derived.Test.YtidicpngmildkaaDoorLa
import Derived.Test.YtidicpngmildkaaDoorUb
set_option linter.unusedVariables false
namespace Go.Proofs.YtidicpngmildkaaDoor.Wd
open Go.RowKit Go.Proofs.YtidicpngmildkaaDoorW.PrintWords Go.Proofs.YtidicpngmildkaaDoorW.PrintLast Go.Proofs.YtidicpngmildkaaDoorW.PrintMore Go.Proofs.YtidicpngmildkaaDoor.Y Go.Proofs.YtidicpngmildkaaDoor.Aw Go.Proofs.YtidicpngmildkaaDoor.Aw
theorem lexCeeBlanks (s : ByteArray) (A : Option Addr) (c : Nat) (l : List Int) (w : World) (ht : Tab w) (hr : Kd.C (Kd.int .u8) w A l.length l) (hc : l.length ≤ c) (hs : s.size ≤ 140737488351232) (ho : ∀ x ∈ l, (Lit.int .u8 x).wf = true) : Calls Tryd.prog 3 #[.string s, .slice A l.length c] w fun e w' => e = .returned (.bool true) ∧ Below w.heap.size w w' := by
  obtain ⟨f, hf⟩ := Pl.blanks_true s l (fun x hx => (bounds_u8 (ho x hx)).1)
  exact pantographlaw06_LexCeeBlanks.calls f s A c l true w hr hc ht hf
end Go.Proofs.YtidicpngmildkaaDoor.Wd
