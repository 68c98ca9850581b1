/-
  No cell of these rows narrows 'for every input' (looked for: loops, veiled, ifaces, maps, wideKeys, modest, calm, conditions, laid).
  DERIVED. THE GIVEN ROWS OF THIS SEAT. 6 by the template 'for every input the law returns true; each argument reads behind the call as it read before'; 0 by the template 'total and deterministic' (their statements: YtnommbcendoncaaTotals.lean).
  GIVEN WITH THE SEED: the statements are not yours to turn. If you find one false, say at which input.
  Laid BY PROGRAM, IN A SANDBOX (cutbox-rows.mjs): the forced cells as the released guide's own fill.sh prints them over the translation 43402a22c07b3252… (all of the seat's roots in one cut). By AI agents, Wed Nov 11 2026. No macro, syntax, notation, axiom, sorry.
-/
import Derived.Test.YtnommbcendoncaaChecked
import GoSem.Claim
import GoSem.ClaimJoined
import GoSem.ClaimMapViews
import Derived.JoinedTies
import Derived.KernelRfl
namespace Go.Proofs.Ytnommbcendoncaa
/- THE CELL 'sum', in the pinned program and in every row, IS THE sha256 OF THE DUMP (.gsa) THAT YtnommbcendoncaaProg.lean LOADS. Nothing in Lean hashes anything: it is a label: what it is worth is what the hold of that sum in a sandbox is worth. -/
noncomputable def Try.pinned : Pinned := { name := "ytnommbcendoncaa", sum := "43402a22c07b3252e77a959e1e2442aa0b5c8142c2a2bd91f416e33126f2479a", checked := Try.checked }
namespace Rows
def none {H : Type} : Left H := { results := [], args := [] }

/-- 'pantographlaw02.NotePrints': WHATEVER THE INPUT: true; the input reads as it did. -/
def notePrintsSpec : ChangeSpec := { name := "notePrints", fn := fun _ => fun
  | [d1, d2] => { results := [.lit (.bool true)], args := [d1, d2] }
  | _ => none }
def notePrintsRow : OpenClaim := { program := "ytnommbcendoncaa", sum := "43402a22c07b3252e77a959e1e2442aa0b5c8142c2a2bd91f416e33126f2479a", func := "pantograph/pantographlaw02.NotePrints", spec := "notePrints", inPlace := ["internal/abi.NoEscape"], apart := false }
def NotePrintsSaid : Prop := notePrintsRow.holds Try.pinned (OpenSpec.ofChange notePrintsSpec)

/-- ITS FALSE NEIGHBOUR: 'it returns false'. Refute it at one input. -/
def notePrintsWrong : ChangeSpec := { name := "notePrints", fn := fun _ => fun
  | [d1, d2] => { results := [.lit (.bool false)], args := [d1, d2] }
  | _ => none }
def NotePrintsWrongFalsely : Prop := notePrintsRow.holds Try.pinned (OpenSpec.ofChange notePrintsWrong)

/-- 'pantographlaw02.NoteApart': WHATEVER THE INPUT: true; the input reads as it did. -/
def noteApartSpec : ChangeSpec := { name := "noteApart", fn := fun _ => fun
  | [d1, d2, d3] => { results := [.lit (.bool true)], args := [d1, d2, d3] }
  | _ => none }
def noteApartRow : OpenClaim := { program := "ytnommbcendoncaa", sum := "43402a22c07b3252e77a959e1e2442aa0b5c8142c2a2bd91f416e33126f2479a", func := "pantograph/pantographlaw02.NoteApart", spec := "noteApart", inPlace := ["internal/abi.NoEscape"], apart := false }
def NoteApartSaid : Prop := noteApartRow.holds Try.pinned (OpenSpec.ofChange noteApartSpec)

/-- ITS FALSE NEIGHBOUR: 'it returns false'. Refute it at one input. -/
def noteApartWrong : ChangeSpec := { name := "noteApart", fn := fun _ => fun
  | [d1, d2, d3] => { results := [.lit (.bool false)], args := [d1, d2, d3] }
  | _ => none }
def NoteApartWrongFalsely : Prop := noteApartRow.holds Try.pinned (OpenSpec.ofChange noteApartWrong)

/-- 'pantographlaw02.NoteLong': WHATEVER THE INPUT: true; the input reads as it did. -/
def noteLongSpec : ChangeSpec := { name := "noteLong", fn := fun _ => fun
  | [d1, d2] => { results := [.lit (.bool true)], args := [d1, d2] }
  | _ => none }
def noteLongRow : OpenClaim := { program := "ytnommbcendoncaa", sum := "43402a22c07b3252e77a959e1e2442aa0b5c8142c2a2bd91f416e33126f2479a", func := "pantograph/pantographlaw02.NoteLong", spec := "noteLong", inPlace := ["internal/abi.NoEscape"], apart := false }
def NoteLongSaid : Prop := noteLongRow.holds Try.pinned (OpenSpec.ofChange noteLongSpec)

/-- ITS FALSE NEIGHBOUR: 'it returns false'. Refute it at one input. -/
def noteLongWrong : ChangeSpec := { name := "noteLong", fn := fun _ => fun
  | [d1, d2] => { results := [.lit (.bool false)], args := [d1, d2] }
  | _ => none }
def NoteLongWrongFalsely : Prop := noteLongRow.holds Try.pinned (OpenSpec.ofChange noteLongWrong)

/-- 'pantographlaw02.NoteMany': WHATEVER THE INPUT: true; the input reads as it did. -/
def noteManySpec : ChangeSpec := { name := "noteMany", fn := fun _ => fun
  | [d1, d2] => { results := [.lit (.bool true)], args := [d1, d2] }
  | _ => none }
def noteManyRow : OpenClaim := { program := "ytnommbcendoncaa", sum := "43402a22c07b3252e77a959e1e2442aa0b5c8142c2a2bd91f416e33126f2479a", func := "pantograph/pantographlaw02.NoteMany", spec := "noteMany", inPlace := ["internal/abi.NoEscape"], apart := false }
def NoteManySaid : Prop := noteManyRow.holds Try.pinned (OpenSpec.ofChange noteManySpec)

/-- ITS FALSE NEIGHBOUR: 'it returns false'. Refute it at one input. -/
def noteManyWrong : ChangeSpec := { name := "noteMany", fn := fun _ => fun
  | [d1, d2] => { results := [.lit (.bool false)], args := [d1, d2] }
  | _ => none }
def NoteManyWrongFalsely : Prop := noteManyRow.holds Try.pinned (OpenSpec.ofChange noteManyWrong)

/-- 'pantographlaw02.NoteReads': WHATEVER THE INPUT: true; the input reads as it did. -/
def noteReadsSpec : ChangeSpec := { name := "noteReads", fn := fun _ => fun
  | [d1, d2] => { results := [.lit (.bool true)], args := [d1, d2] }
  | _ => none }
def noteReadsRow : OpenClaim := { program := "ytnommbcendoncaa", sum := "43402a22c07b3252e77a959e1e2442aa0b5c8142c2a2bd91f416e33126f2479a", func := "pantograph/pantographlaw02.NoteReads", spec := "noteReads", inPlace := ["internal/bytealg.IndexByteString", "internal/abi.NoEscape"], apart := false }
def NoteReadsSaid : Prop := noteReadsRow.holds Try.pinned (OpenSpec.ofChange noteReadsSpec)

/-- ITS FALSE NEIGHBOUR: 'it returns false'. Refute it at one input. -/
def noteReadsWrong : ChangeSpec := { name := "noteReads", fn := fun _ => fun
  | [d1, d2] => { results := [.lit (.bool false)], args := [d1, d2] }
  | _ => none }
def NoteReadsWrongFalsely : Prop := noteReadsRow.holds Try.pinned (OpenSpec.ofChange noteReadsWrong)

/-- 'pantographlaw02.NoteBack': WHATEVER THE INPUT: true; the input reads as it did. -/
def noteBackSpec : ChangeSpec := { name := "noteBack", fn := fun _ => fun
  | [d1, d2] => { results := [.lit (.bool true)], args := [d1, d2] }
  | _ => none }
def noteBackRow : OpenClaim := { program := "ytnommbcendoncaa", sum := "43402a22c07b3252e77a959e1e2442aa0b5c8142c2a2bd91f416e33126f2479a", func := "pantograph/pantographlaw02.NoteBack", spec := "noteBack", inPlace := ["internal/abi.NoEscape", "internal/bytealg.IndexByteString"], apart := false }
def NoteBackSaid : Prop := noteBackRow.holds Try.pinned (OpenSpec.ofChange noteBackSpec)

/-- ITS FALSE NEIGHBOUR: 'it returns false'. Refute it at one input. -/
def noteBackWrong : ChangeSpec := { name := "noteBack", fn := fun _ => fun
  | [d1, d2] => { results := [.lit (.bool false)], args := [d1, d2] }
  | _ => none }
def NoteBackWrongFalsely : Prop := noteBackRow.holds Try.pinned (OpenSpec.ofChange noteBackWrong)

/- THE SECOND FORM. 'bulk': how many values and letters a reading holds, each counted each time it is reached (what is shared counts as often as it is met; a slice's spare places count too). A statement '..UptoSaid' is the law's where the arguments, and the package variables that the reading takes, are together of bulk at most 1048576: NARROWER than '..Said'. Prove '..Said' where nothing that the law and all that it calls make is longer than what came in: it says more and counts as full. Else prove '..UptoSaid'. A law counts once. -/
mutual
def uptoBulk {H : Type} : DataW H → Nat
  | .lit (.string bytes) => bytes.length + 1
  | .lit _ => 1
  | .nil => 1
  | .ptr d => uptoBulk d + 1
  | .slice elems spare => uptoBulkAll elems + uptoBulkAll spare + 1
  | .agg parts => uptoBulkAll parts + 1
  | .iface _ d => uptoBulk d + 1
  | .map entries => uptoBulkEntries entries + 1
  | .held _ => 1
def uptoBulkAll {H : Type} : List (DataW H) → Nat
  | [] => 0
  | d :: r => uptoBulk d + uptoBulkAll r
def uptoBulkEntries {H : Type} : List (Lit × DataW H) → Nat
  | [] => 0
  | x :: r => uptoBulkEntry x + uptoBulkEntries r
def uptoBulkEntry {H : Type} : Lit × DataW H → Nat
  | (.string bytes, d) => bytes.length + uptoBulk d + 1
  | (_, d) => uptoBulk d + 1
 end
def uptoSmall : (H : Type) → List (DataW H) → Bool := fun _ ds => decide (uptoBulkAll ds ≤ 1048576)
def OpenSpec.upto (s : _root_.Go.ChangeSpec) : _root_.Go.OpenSpec := { _root_.Go.OpenSpec.ofChange s with cond := some uptoSmall }

/-- 'pantographlaw02.NotePrints', WHERE WHAT IT READS IS OF BULK AT MOST 1048576: true; the input reads as it did. -/
def notePrintsUptoRow : OpenClaim := { program := "ytnommbcendoncaa", sum := "43402a22c07b3252e77a959e1e2442aa0b5c8142c2a2bd91f416e33126f2479a", func := "pantograph/pantographlaw02.NotePrints", spec := "notePrints", inPlace := ["internal/abi.NoEscape"], apart := false, narrowed := true }
def NotePrintsUptoSaid : Prop := notePrintsUptoRow.holds Try.pinned (OpenSpec.upto notePrintsSpec)

/-- 'pantographlaw02.NoteApart', WHERE WHAT IT READS IS OF BULK AT MOST 1048576: true; the input reads as it did. -/
def noteApartUptoRow : OpenClaim := { program := "ytnommbcendoncaa", sum := "43402a22c07b3252e77a959e1e2442aa0b5c8142c2a2bd91f416e33126f2479a", func := "pantograph/pantographlaw02.NoteApart", spec := "noteApart", inPlace := ["internal/abi.NoEscape"], apart := false, narrowed := true }
def NoteApartUptoSaid : Prop := noteApartUptoRow.holds Try.pinned (OpenSpec.upto noteApartSpec)

/-- 'pantographlaw02.NoteLong', WHERE WHAT IT READS IS OF BULK AT MOST 1048576: true; the input reads as it did. -/
def noteLongUptoRow : OpenClaim := { program := "ytnommbcendoncaa", sum := "43402a22c07b3252e77a959e1e2442aa0b5c8142c2a2bd91f416e33126f2479a", func := "pantograph/pantographlaw02.NoteLong", spec := "noteLong", inPlace := ["internal/abi.NoEscape"], apart := false, narrowed := true }
def NoteLongUptoSaid : Prop := noteLongUptoRow.holds Try.pinned (OpenSpec.upto noteLongSpec)

/-- 'pantographlaw02.NoteMany', WHERE WHAT IT READS IS OF BULK AT MOST 1048576: true; the input reads as it did. -/
def noteManyUptoRow : OpenClaim := { program := "ytnommbcendoncaa", sum := "43402a22c07b3252e77a959e1e2442aa0b5c8142c2a2bd91f416e33126f2479a", func := "pantograph/pantographlaw02.NoteMany", spec := "noteMany", inPlace := ["internal/abi.NoEscape"], apart := false, narrowed := true }
def NoteManyUptoSaid : Prop := noteManyUptoRow.holds Try.pinned (OpenSpec.upto noteManySpec)

/-- 'pantographlaw02.NoteReads', WHERE WHAT IT READS IS OF BULK AT MOST 1048576: true; the input reads as it did. -/
def noteReadsUptoRow : OpenClaim := { program := "ytnommbcendoncaa", sum := "43402a22c07b3252e77a959e1e2442aa0b5c8142c2a2bd91f416e33126f2479a", func := "pantograph/pantographlaw02.NoteReads", spec := "noteReads", inPlace := ["internal/bytealg.IndexByteString", "internal/abi.NoEscape"], apart := false, narrowed := true }
def NoteReadsUptoSaid : Prop := noteReadsUptoRow.holds Try.pinned (OpenSpec.upto noteReadsSpec)

/-- 'pantographlaw02.NoteBack', WHERE WHAT IT READS IS OF BULK AT MOST 1048576: true; the input reads as it did. -/
def noteBackUptoRow : OpenClaim := { program := "ytnommbcendoncaa", sum := "43402a22c07b3252e77a959e1e2442aa0b5c8142c2a2bd91f416e33126f2479a", func := "pantograph/pantographlaw02.NoteBack", spec := "noteBack", inPlace := ["internal/abi.NoEscape", "internal/bytealg.IndexByteString"], apart := false, narrowed := true }
def NoteBackUptoSaid : Prop := noteBackUptoRow.holds Try.pinned (OpenSpec.upto noteBackSpec)

end Rows
end Go.Proofs.Ytnommbcendoncaa
