/- slices.BinarySearch at texts: the shelf's contract at this translation (laid by hand: the tool does not lay it). -/
import Derived.Shelf.Spec.SearchS
import Derived.Test.YtmgdbmojfadahaaDoorProg
set_option linter.unusedVariables false
namespace Go.Proofs.YtmgdbmojfadahaaDoor.Wd
open Go.Shelf
def ren26 : Ren := ⟨fun | 26 => 23 | 33 => 31 | 34 => 32 | 38 => 37 | n => n, fun | 24 => 22 | 40 => 50 | n => n, fun | n => n⟩
theorem lays26 : Go.Proofs.Lays2.n26 Tryd.prog ren26 := {
  mixed := by kernel_rfl
  f26 := Tryd.func23.trans (congrArg some (by kernel_rfl))
  f33 := Tryd.func31.trans (congrArg some (by kernel_rfl))
  f34 := Tryd.func32.trans (congrArg some (by kernel_rfl))
  f38 := Tryd.func37.trans (congrArg some (by kernel_rfl))
  t0 := Tryd.underlying0
  a0 := Tryd.isAgg0
  z0 := Tryd.sizeOf0
  v0 := Tryd.zeroValue0
  t3 := Tryd.underlying3
  a3 := Tryd.isAgg3
  z3 := Tryd.sizeOf3
  v3 := Tryd.zeroValue3
  t4 := Tryd.underlying4
  a4 := Tryd.isAgg4
  z4 := Tryd.sizeOf4
  v4 := Tryd.zeroValue4
  t9 := Tryd.underlying9
  a9 := Tryd.isAgg9
  z9 := Tryd.sizeOf9
  v9 := Tryd.zeroValue9
  t24 := Tryd.underlying22
  a24 := Tryd.isAgg22
  z24 := Tryd.sizeOf22
  v24 := Tryd.zeroValue22
  t40 := Tryd.underlying50
  a40 := Tryd.isAgg50
  z40 := Tryd.sizeOf50
  v40 := Tryd.zeroValue50 }
end Go.Proofs.YtmgdbmojfadahaaDoor.Wd
