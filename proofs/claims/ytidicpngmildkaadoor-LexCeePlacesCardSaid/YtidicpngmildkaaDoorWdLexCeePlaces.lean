/- LexCeePlaces: the walk. -/
import Derived.Test.YtidicpngmildkaaDoorLa
import Derived.Test.YtidicpngmildkaaDoorUp
set_option linter.unusedVariables false
namespace Go.Proofs.YtidicpngmildkaaDoor.Wd
open Go.RowKit Go.Proofs.YtidicpngmildkaaDoorW.PrintWords Go.Proofs.YtidicpngmildkaaDoorW.PrintLast Go.Proofs.YtidicpngmildkaaDoorW.PrintMore Go.Proofs.YtidicpngmildkaaDoor.U Go.Proofs.YtidicpngmildkaaDoor.Aw Go.Proofs.YtidicpngmildkaaDoor.Aw
theorem lexCeePlaces (b : ByteArray) (w : World) (ht : Tab w) (hb : b.size ≤ 140737488351232) : Calls Tryd.prog 5 #[.string b] w fun e w' => e = .returned (.bool true) ∧ Below w.heap.size w w' := by
  obtain ⟨f, hf⟩ := Pl.places_true b
  exact pantographlaw06_LexCeePlaces.calls f b true w ht hf
end Go.Proofs.YtidicpngmildkaaDoor.Wd
