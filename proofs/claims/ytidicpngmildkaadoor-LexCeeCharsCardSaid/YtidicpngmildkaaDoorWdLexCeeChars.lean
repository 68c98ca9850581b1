/- LexCeeChars: the walk. -/
import Derived.Test.YtidicpngmildkaaDoorLa
import Derived.Test.YtidicpngmildkaaDoorUc
set_option linter.unusedVariables false
namespace Go.Proofs.YtidicpngmildkaaDoor.Wd
open Go.RowKit Go.Proofs.YtidicpngmildkaaDoorW.PrintWords Go.Proofs.YtidicpngmildkaaDoorW.PrintLast Go.Proofs.YtidicpngmildkaaDoorW.PrintMore Go.Proofs.YtidicpngmildkaaDoor.U Go.Proofs.YtidicpngmildkaaDoor.Aw Go.Proofs.YtidicpngmildkaaDoor.Aw
theorem lexCeeChars (c : Int) (b : ByteArray) (w : World) (ht : Tab w) (hc : (Lit.int .u8 c).wf = true) (hb : b.size ≤ 140737488351232) : Calls Tryd.prog 4 #[.int .u8 c, .string b] w fun e w' => e = .returned (.bool true) ∧ Below w.heap.size w w' := by
  obtain ⟨h0, h1⟩ := bounds_u8 hc
  obtain ⟨n, rfl⟩ := Int.eq_ofNat_of_zero_le h0
  exact pantographlaw06_LexCeeChars.calls 2 (n : Int) b true w ht (Pl.chars_true n (by omega) b)
end Go.Proofs.YtidicpngmildkaaDoor.Wd
