/-
  DERIVED. GIVEN WITH THE SEED: THE CARDS: each row of YtlepjafokfhnfaaGreatDoorRows.lean that lists a variable, with what it lists TIED to the program's text (the seventh form; the later family's looks); each row that meets fmt, with fmt's text TOLD by the authors' own Lean function (tested against real Go, not proved from fmt's source: count such statements apart). THE CARD IS WHAT COUNTS. Prove the row's statement (the work); the ties are given (YtlepjafokfhnfaaGreatDoorTie.lean); close each card by the builder's one call (the guide's Derived/Test/ToyasCard.lean, 'card_holds'). Laid BY PROGRAM, IN A SANDBOX (cutbox-door.mjs). By AI agents, Wed Nov 11 2026. No macro, syntax, notation, axiom, sorry.
-/
import Derived.Test.YtlepjafokfhnfaaGreatDoorRows
import GoSem.ClaimSeven
namespace Go.Proofs.YtlepjafokfhnfaaGreatDoor
namespace Rows

/-- THE TIED CARD OF 'pantographlaw16.RenameTables'. -/
def renameTablesCard : Claim7 := { stood := { row := renameTablesRow, standIns := [], harness := (true, "bd2247e5b44b3c34e8d136c820132d9534dead57fdf7866964b9f597077fd87e"), looks := false }, kinds := [], alts := [], laidByText := true, laidKinds := [.data, .data, .data, .data, .listed, .data, .pinned], laidTests := true, laidLooks := .later }
def RenameTablesCardSaid : Prop := Claim7.holds Tryz.pinned (.plain (OpenSpec.ofChange renameTablesSpec)) renameTablesCard

/-- THE TIED CARD OF 'pantographlaw16.RenameSense'. -/
def renameSenseCard : Claim7 := { stood := { row := renameSenseRow, standIns := [], harness := (true, "bd2247e5b44b3c34e8d136c820132d9534dead57fdf7866964b9f597077fd87e"), looks := false }, kinds := [], alts := [], laidByText := true, laidKinds := [.data, .data, .data, .data, .listed, .data, .pinned], laidTests := true, laidLooks := .later }
def RenameSenseCardSaid : Prop := Claim7.holds Tryz.pinned (.plain (OpenSpec.ofChange renameSenseSpec)) renameSenseCard

/-- THE SECOND FORM's CARD OF 'pantographlaw16.RenameTables'. -/
def renameTablesUptoCard : Claim7 := { stood := { row := renameTablesUptoRow, standIns := [], harness := (true, "bd2247e5b44b3c34e8d136c820132d9534dead57fdf7866964b9f597077fd87e"), looks := false }, kinds := [], alts := [], laidByText := true, laidKinds := [.data, .data, .data, .data, .listed, .data, .pinned], laidTests := true, laidLooks := .later }
def RenameTablesUptoCardSaid : Prop := Claim7.holds Tryz.pinned (.plain (OpenSpec.upto renameTablesSpec)) renameTablesUptoCard

/-- THE SECOND FORM's CARD OF 'pantographlaw16.RenameSense'. -/
def renameSenseUptoCard : Claim7 := { stood := { row := renameSenseUptoRow, standIns := [], harness := (true, "bd2247e5b44b3c34e8d136c820132d9534dead57fdf7866964b9f597077fd87e"), looks := false }, kinds := [], alts := [], laidByText := true, laidKinds := [.data, .data, .data, .data, .listed, .data, .pinned], laidTests := true, laidLooks := .later }
def RenameSenseUptoCardSaid : Prop := Claim7.holds Tryz.pinned (.plain (OpenSpec.upto renameSenseSpec)) renameSenseUptoCard
end Rows
end Go.Proofs.YtlepjafokfhnfaaGreatDoor
