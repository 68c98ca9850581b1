/-
  No cell of these rows narrows 'for every input' (looked for: loops, veiled, ifaces, maps, wideKeys, modest, calm, conditions, laid).
  DERIVED. THE GIVEN ROWS OF THIS SEAT. 5 by the template 'for every input the law returns true; each argument reads behind the call as it read before'; 0 by the template 'total and deterministic' (their statements: YtchdcklalgadhaaTotals.lean).
  GIVEN WITH THE SEED: the statements are not yours to turn. If you find one false, say at which input.
  Laid BY PROGRAM, IN A SANDBOX (cutbox-rows.mjs): the forced cells as the released guide's own fill.sh prints them over the translation 23dc28a25621780b… (all of the seat's roots in one cut). By AI agents, Wed Nov 11 2026. No macro, syntax, notation, axiom, sorry.
-/
import Derived.Test.YtchdcklalgadhaaChecked
import GoSem.Claim
import GoSem.ClaimJoined
import GoSem.ClaimMapViews
import Derived.JoinedTies
import Derived.KernelRfl
namespace Go.Proofs.Ytchdcklalgadhaa
/- THE CELL 'sum', in the pinned program and in every row, IS THE sha256 OF THE DUMP (.gsa) THAT YtchdcklalgadhaaProg.lean LOADS. Nothing in Lean hashes anything: it is a label: what it is worth is what the hold of that sum in a sandbox is worth. -/
noncomputable def Try.pinned : Pinned := { name := "ytchdcklalgadhaa", sum := "23dc28a25621780bb1a3530503529f85d608b9c7f26646588f58caf9de2b61b9", checked := Try.checked }
namespace Rows
def none {H : Type} : Left H := { results := [], args := [] }

/-- 'pantographlaw03.SinkDeep': WHATEVER THE INPUT: true; the input reads as it did. -/
def sinkDeepSpec : ChangeSpec := { name := "sinkDeep", fn := fun _ => fun
  | [d] => { results := [.lit (.bool true)], args := [d] }
  | _ => none }
def sinkDeepRow : OpenClaim := { program := "ytchdcklalgadhaa", sum := "23dc28a25621780bb1a3530503529f85d608b9c7f26646588f58caf9de2b61b9", func := "pantograph/pantographlaw03.SinkDeep", spec := "sinkDeep", inPlace := ["internal/abi.NoEscape", "internal/bytealg.MakeNoZero"], apart := false }
def SinkDeepSaid : Prop := sinkDeepRow.holds Try.pinned (OpenSpec.ofChange sinkDeepSpec)

/-- ITS FALSE NEIGHBOUR: 'it returns false'. Refute it at one input. -/
def sinkDeepWrong : ChangeSpec := { name := "sinkDeep", fn := fun _ => fun
  | [d] => { results := [.lit (.bool false)], args := [d] }
  | _ => none }
def SinkDeepWrongFalsely : Prop := sinkDeepRow.holds Try.pinned (OpenSpec.ofChange sinkDeepWrong)

/-- 'pantographlaw03.SinkRoom': WHATEVER THE INPUT: true; the input reads as it did. -/
def sinkRoomSpec : ChangeSpec := { name := "sinkRoom", fn := fun _ => fun
  | [d1, d2] => { results := [.lit (.bool true)], args := [d1, d2] }
  | _ => none }
def sinkRoomRow : OpenClaim := { program := "ytchdcklalgadhaa", sum := "23dc28a25621780bb1a3530503529f85d608b9c7f26646588f58caf9de2b61b9", func := "pantograph/pantographlaw03.SinkRoom", spec := "sinkRoom", inPlace := ["internal/abi.NoEscape", "internal/bytealg.MakeNoZero"], apart := false }
def SinkRoomSaid : Prop := sinkRoomRow.holds Try.pinned (OpenSpec.ofChange sinkRoomSpec)

/-- ITS FALSE NEIGHBOUR: 'it returns false'. Refute it at one input. -/
def sinkRoomWrong : ChangeSpec := { name := "sinkRoom", fn := fun _ => fun
  | [d1, d2] => { results := [.lit (.bool false)], args := [d1, d2] }
  | _ => none }
def SinkRoomWrongFalsely : Prop := sinkRoomRow.holds Try.pinned (OpenSpec.ofChange sinkRoomWrong)

/-- 'pantographlaw03.SinkLines': WHATEVER THE INPUT: true; the input reads as it did. -/
def sinkLinesSpec : ChangeSpec := { name := "sinkLines", fn := fun _ => fun
  | [d1, d2] => { results := [.lit (.bool true)], args := [d1, d2] }
  | _ => none }
def sinkLinesRow : OpenClaim := { program := "ytchdcklalgadhaa", sum := "23dc28a25621780bb1a3530503529f85d608b9c7f26646588f58caf9de2b61b9", func := "pantograph/pantographlaw03.SinkLines", spec := "sinkLines", inPlace := ["internal/abi.NoEscape", "internal/bytealg.MakeNoZero"], apart := false }
def SinkLinesSaid : Prop := sinkLinesRow.holds Try.pinned (OpenSpec.ofChange sinkLinesSpec)

/-- ITS FALSE NEIGHBOUR: 'it returns false'. Refute it at one input. -/
def sinkLinesWrong : ChangeSpec := { name := "sinkLines", fn := fun _ => fun
  | [d1, d2] => { results := [.lit (.bool false)], args := [d1, d2] }
  | _ => none }
def SinkLinesWrongFalsely : Prop := sinkLinesRow.holds Try.pinned (OpenSpec.ofChange sinkLinesWrong)

/-- 'pantographlaw03.SinkPlays': WHATEVER THE INPUT: true; the input reads as it did. -/
def sinkPlaysSpec : ChangeSpec := { name := "sinkPlays", fn := fun _ => fun
  | [d1, d2] => { results := [.lit (.bool true)], args := [d1, d2] }
  | _ => none }
def sinkPlaysRow : OpenClaim := { program := "ytchdcklalgadhaa", sum := "23dc28a25621780bb1a3530503529f85d608b9c7f26646588f58caf9de2b61b9", func := "pantograph/pantographlaw03.SinkPlays", spec := "sinkPlays", inPlace := ["internal/abi.NoEscape", "internal/bytealg.MakeNoZero"], apart := false }
def SinkPlaysSaid : Prop := sinkPlaysRow.holds Try.pinned (OpenSpec.ofChange sinkPlaysSpec)

/-- ITS FALSE NEIGHBOUR: 'it returns false'. Refute it at one input. -/
def sinkPlaysWrong : ChangeSpec := { name := "sinkPlays", fn := fun _ => fun
  | [d1, d2] => { results := [.lit (.bool false)], args := [d1, d2] }
  | _ => none }
def SinkPlaysWrongFalsely : Prop := sinkPlaysRow.holds Try.pinned (OpenSpec.ofChange sinkPlaysWrong)

/-- 'pantographlaw03.SinkNil': WHATEVER THE INPUT: true; the input reads as it did. -/
def sinkNilSpec : ChangeSpec := { name := "sinkNil", fn := fun _ => fun
  | [d] => { results := [.lit (.bool true)], args := [d] }
  | _ => none }
def sinkNilRow : OpenClaim := { program := "ytchdcklalgadhaa", sum := "23dc28a25621780bb1a3530503529f85d608b9c7f26646588f58caf9de2b61b9", func := "pantograph/pantographlaw03.SinkNil", spec := "sinkNil", inPlace := ["internal/abi.NoEscape", "internal/bytealg.MakeNoZero"], apart := false }
def SinkNilSaid : Prop := sinkNilRow.holds Try.pinned (OpenSpec.ofChange sinkNilSpec)

/-- ITS FALSE NEIGHBOUR: 'it returns false'. Refute it at one input. -/
def sinkNilWrong : ChangeSpec := { name := "sinkNil", fn := fun _ => fun
  | [d] => { results := [.lit (.bool false)], args := [d] }
  | _ => none }
def SinkNilWrongFalsely : Prop := sinkNilRow.holds Try.pinned (OpenSpec.ofChange sinkNilWrong)

/- THE SECOND FORM. 'bulk': how many values and letters a reading holds, each counted each time it is reached (what is shared counts as often as it is met; a slice's spare places count too). A statement '..UptoSaid' is the law's where the arguments, and the package variables that the reading takes, are together of bulk at most 1048576: NARROWER than '..Said'. Prove '..Said' where nothing that the law and all that it calls make is longer than what came in: it says more and counts as full. Else prove '..UptoSaid'. A law counts once. -/
mutual
def uptoBulk {H : Type} : DataW H → Nat
  | .lit (.string bytes) => bytes.length + 1
  | .lit _ => 1
  | .nil => 1
  | .ptr d => uptoBulk d + 1
  | .slice elems spare => uptoBulkAll elems + uptoBulkAll spare + 1
  | .agg parts => uptoBulkAll parts + 1
  | .iface _ d => uptoBulk d + 1
  | .map entries => uptoBulkEntries entries + 1
  | .held _ => 1
def uptoBulkAll {H : Type} : List (DataW H) → Nat
  | [] => 0
  | d :: r => uptoBulk d + uptoBulkAll r
def uptoBulkEntries {H : Type} : List (Lit × DataW H) → Nat
  | [] => 0
  | x :: r => uptoBulkEntry x + uptoBulkEntries r
def uptoBulkEntry {H : Type} : Lit × DataW H → Nat
  | (.string bytes, d) => bytes.length + uptoBulk d + 1
  | (_, d) => uptoBulk d + 1
 end
def uptoSmall : (H : Type) → List (DataW H) → Bool := fun _ ds => decide (uptoBulkAll ds ≤ 1048576)
def OpenSpec.upto (s : _root_.Go.ChangeSpec) : _root_.Go.OpenSpec := { _root_.Go.OpenSpec.ofChange s with cond := some uptoSmall }

/-- 'pantographlaw03.SinkDeep', WHERE WHAT IT READS IS OF BULK AT MOST 1048576: true; the input reads as it did. -/
def sinkDeepUptoRow : OpenClaim := { program := "ytchdcklalgadhaa", sum := "23dc28a25621780bb1a3530503529f85d608b9c7f26646588f58caf9de2b61b9", func := "pantograph/pantographlaw03.SinkDeep", spec := "sinkDeep", inPlace := ["internal/abi.NoEscape", "internal/bytealg.MakeNoZero"], apart := false, narrowed := true }
def SinkDeepUptoSaid : Prop := sinkDeepUptoRow.holds Try.pinned (OpenSpec.upto sinkDeepSpec)

/-- 'pantographlaw03.SinkRoom', WHERE WHAT IT READS IS OF BULK AT MOST 1048576: true; the input reads as it did. -/
def sinkRoomUptoRow : OpenClaim := { program := "ytchdcklalgadhaa", sum := "23dc28a25621780bb1a3530503529f85d608b9c7f26646588f58caf9de2b61b9", func := "pantograph/pantographlaw03.SinkRoom", spec := "sinkRoom", inPlace := ["internal/abi.NoEscape", "internal/bytealg.MakeNoZero"], apart := false, narrowed := true }
def SinkRoomUptoSaid : Prop := sinkRoomUptoRow.holds Try.pinned (OpenSpec.upto sinkRoomSpec)

/-- 'pantographlaw03.SinkLines', WHERE WHAT IT READS IS OF BULK AT MOST 1048576: true; the input reads as it did. -/
def sinkLinesUptoRow : OpenClaim := { program := "ytchdcklalgadhaa", sum := "23dc28a25621780bb1a3530503529f85d608b9c7f26646588f58caf9de2b61b9", func := "pantograph/pantographlaw03.SinkLines", spec := "sinkLines", inPlace := ["internal/abi.NoEscape", "internal/bytealg.MakeNoZero"], apart := false, narrowed := true }
def SinkLinesUptoSaid : Prop := sinkLinesUptoRow.holds Try.pinned (OpenSpec.upto sinkLinesSpec)

/-- 'pantographlaw03.SinkPlays', WHERE WHAT IT READS IS OF BULK AT MOST 1048576: true; the input reads as it did. -/
def sinkPlaysUptoRow : OpenClaim := { program := "ytchdcklalgadhaa", sum := "23dc28a25621780bb1a3530503529f85d608b9c7f26646588f58caf9de2b61b9", func := "pantograph/pantographlaw03.SinkPlays", spec := "sinkPlays", inPlace := ["internal/abi.NoEscape", "internal/bytealg.MakeNoZero"], apart := false, narrowed := true }
def SinkPlaysUptoSaid : Prop := sinkPlaysUptoRow.holds Try.pinned (OpenSpec.upto sinkPlaysSpec)

/-- 'pantographlaw03.SinkNil', WHERE WHAT IT READS IS OF BULK AT MOST 1048576: true; the input reads as it did. -/
def sinkNilUptoRow : OpenClaim := { program := "ytchdcklalgadhaa", sum := "23dc28a25621780bb1a3530503529f85d608b9c7f26646588f58caf9de2b61b9", func := "pantograph/pantographlaw03.SinkNil", spec := "sinkNil", inPlace := ["internal/abi.NoEscape", "internal/bytealg.MakeNoZero"], apart := false, narrowed := true }
def SinkNilUptoSaid : Prop := sinkNilUptoRow.holds Try.pinned (OpenSpec.upto sinkNilSpec)

end Rows
end Go.Proofs.Ytchdcklalgadhaa
