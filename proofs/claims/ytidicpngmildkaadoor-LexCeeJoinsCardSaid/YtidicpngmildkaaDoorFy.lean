/- The contract of strings.IndexByte in the printer's form, off the shelf. -/
import Derived.Test.YtidicpngmildkaaDoorShelf
import Derived.Test.YtidicpngmildkaaDoorWMore
namespace Go.Proofs.YtidicpngmildkaaDoor.Fy
open Go.RowKit Go.Proofs.YtidicpngmildkaaDoorW.PrintWords Go.Proofs.YtidicpngmildkaaDoorW.PrintLast Go.Proofs.YtidicpngmildkaaDoorW.PrintMore
def strings_IndexByte.f (a0 : ByteArray) (a1 : Int) : Option Int := some (Lib.indexByte a0.data.toList a1.toNat.toUInt8)
theorem strings_IndexByte.calls (a0 : ByteArray) (a1 : Int) (r : Int) (w : World) (h : strings_IndexByte.f a0 a1 = some r) :
    Calls Tryd.prog 24 #[.string a0, .int .u8 a1] w fun e w' => e = .returned (.int .i64 r) ∧ Drawn0 w w' := by
  refine (Tryd.strings_IndexByte a0 a1 w).mono ?_
  rintro e w' ⟨rfl, rfl⟩
  obtain rfl := Option.some.inj h
  exact ⟨rfl, Drawn0.refl _⟩
end Go.Proofs.YtidicpngmildkaaDoor.Fy
