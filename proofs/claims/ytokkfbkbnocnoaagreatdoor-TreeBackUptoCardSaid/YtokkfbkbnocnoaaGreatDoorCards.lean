/-
  DERIVED. GIVEN WITH THE SEED: THE CARDS: each row of YtokkfbkbnocnoaaGreatDoorRows.lean that lists a variable, with what it lists TIED to the program's text (the seventh form; the later family's looks); each row that meets fmt, with fmt's text TOLD by the authors' own Lean function (tested against real Go, not proved from fmt's source: count such statements apart). THE CARD IS WHAT COUNTS. Prove the row's statement (the work); the ties are given (YtokkfbkbnocnoaaGreatDoorTie.lean); close each card by the builder's one call (the guide's Derived/Test/ToyasCard.lean, 'card_holds'). Laid BY PROGRAM, IN A SANDBOX (cutbox-door.mjs). By AI agents, Wed Nov 11 2026. No macro, syntax, notation, axiom, sorry.
-/
import Derived.Test.YtokkfbkbnocnoaaGreatDoorRows
import GoSem.ClaimSeven
namespace Go.Proofs.YtokkfbkbnocnoaaGreatDoor
namespace Rows

/-- THE TIED CARD OF 'pantographlaw07.TreeChecks'. -/
def treeChecksCard : Claim7 := { stood := { row := treeChecksRow, standIns := [], harness := (true, "2f188ac51300e0765bca8dbf6f4eeb406a15f7aecf0c215bbf8078e9a60772bd"), looks := false }, kinds := [], alts := [], laidByText := true, laidKinds := [.data, .listed, .data, .pinned], laidTests := true, laidLooks := .later }
def TreeChecksCardSaid : Prop := Claim7.holds Tryz.pinned (.plain (OpenSpec.ofChange treeChecksSpec)) treeChecksCard

/-- THE TIED CARD OF 'pantographlaw07.TreeNames'. -/
def treeNamesCard : Claim7 := { stood := { row := treeNamesRow, standIns := [], harness := (true, "2f188ac51300e0765bca8dbf6f4eeb406a15f7aecf0c215bbf8078e9a60772bd"), looks := false }, kinds := [], alts := [], laidByText := true, laidKinds := [.data, .listed, .data, .pinned], laidTests := true, laidLooks := .later }
def TreeNamesCardSaid : Prop := Claim7.holds Tryz.pinned (.plain (OpenSpec.ofChange treeNamesSpec)) treeNamesCard

/-- THE TIED CARD OF 'pantographlaw07.TreeBack'. -/
def treeBackCard : Claim7 := { stood := { row := treeBackRow, standIns := [], harness := (true, "2f188ac51300e0765bca8dbf6f4eeb406a15f7aecf0c215bbf8078e9a60772bd"), looks := false }, kinds := [], alts := [], laidByText := true, laidKinds := [.data, .listed, .data, .pinned], laidTests := true, laidLooks := .later }
def TreeBackCardSaid : Prop := Claim7.holds Tryz.pinned (.plain (OpenSpec.ofChange treeBackSpec)) treeBackCard

/-- THE TIED CARD OF 'pantographlaw07.TreeExprs'. -/
def treeExprsCard : Claim7 := { stood := { row := treeExprsRow, standIns := [], harness := (true, "2f188ac51300e0765bca8dbf6f4eeb406a15f7aecf0c215bbf8078e9a60772bd"), looks := false }, kinds := [], alts := [], laidByText := true, laidKinds := [.data, .listed, .data, .pinned], laidTests := true, laidLooks := .later }
def TreeExprsCardSaid : Prop := Claim7.holds Tryz.pinned (.plain (OpenSpec.ofChange treeExprsSpec)) treeExprsCard

/-- THE TIED CARD OF 'pantographlaw07.TreeSame'. -/
def treeSameCard : Claim7 := { stood := { row := treeSameRow, standIns := [], harness := (true, "2f188ac51300e0765bca8dbf6f4eeb406a15f7aecf0c215bbf8078e9a60772bd"), looks := false }, kinds := [], alts := [], laidByText := true, laidKinds := [.data, .listed, .data, .pinned], laidTests := true, laidLooks := .later }
def TreeSameCardSaid : Prop := Claim7.holds Tryz.pinned (.plain (OpenSpec.ofChange treeSameSpec)) treeSameCard

/-- THE TIED CARD OF 'pantographlaw07.TreeAlike'. -/
def treeAlikeCard : Claim7 := { stood := { row := treeAlikeRow, standIns := [], harness := (true, "2f188ac51300e0765bca8dbf6f4eeb406a15f7aecf0c215bbf8078e9a60772bd"), looks := false }, kinds := [], alts := [], laidByText := true, laidKinds := [.data, .listed, .data, .pinned], laidTests := true, laidLooks := .later }
def TreeAlikeCardSaid : Prop := Claim7.holds Tryz.pinned (.plain (OpenSpec.ofChange treeAlikeSpec)) treeAlikeCard

/-- THE SECOND FORM's CARD OF 'pantographlaw07.TreeChecks'. -/
def treeChecksUptoCard : Claim7 := { stood := { row := treeChecksUptoRow, standIns := [], harness := (true, "2f188ac51300e0765bca8dbf6f4eeb406a15f7aecf0c215bbf8078e9a60772bd"), looks := false }, kinds := [], alts := [], laidByText := true, laidKinds := [.data, .listed, .data, .pinned], laidTests := true, laidLooks := .later }
def TreeChecksUptoCardSaid : Prop := Claim7.holds Tryz.pinned (.plain (OpenSpec.upto treeChecksSpec)) treeChecksUptoCard

/-- THE SECOND FORM's CARD OF 'pantographlaw07.TreeNames'. -/
def treeNamesUptoCard : Claim7 := { stood := { row := treeNamesUptoRow, standIns := [], harness := (true, "2f188ac51300e0765bca8dbf6f4eeb406a15f7aecf0c215bbf8078e9a60772bd"), looks := false }, kinds := [], alts := [], laidByText := true, laidKinds := [.data, .listed, .data, .pinned], laidTests := true, laidLooks := .later }
def TreeNamesUptoCardSaid : Prop := Claim7.holds Tryz.pinned (.plain (OpenSpec.upto treeNamesSpec)) treeNamesUptoCard

/-- THE SECOND FORM's CARD OF 'pantographlaw07.TreeBack'. -/
def treeBackUptoCard : Claim7 := { stood := { row := treeBackUptoRow, standIns := [], harness := (true, "2f188ac51300e0765bca8dbf6f4eeb406a15f7aecf0c215bbf8078e9a60772bd"), looks := false }, kinds := [], alts := [], laidByText := true, laidKinds := [.data, .listed, .data, .pinned], laidTests := true, laidLooks := .later }
def TreeBackUptoCardSaid : Prop := Claim7.holds Tryz.pinned (.plain (OpenSpec.upto treeBackSpec)) treeBackUptoCard

/-- THE SECOND FORM's CARD OF 'pantographlaw07.TreeExprs'. -/
def treeExprsUptoCard : Claim7 := { stood := { row := treeExprsUptoRow, standIns := [], harness := (true, "2f188ac51300e0765bca8dbf6f4eeb406a15f7aecf0c215bbf8078e9a60772bd"), looks := false }, kinds := [], alts := [], laidByText := true, laidKinds := [.data, .listed, .data, .pinned], laidTests := true, laidLooks := .later }
def TreeExprsUptoCardSaid : Prop := Claim7.holds Tryz.pinned (.plain (OpenSpec.upto treeExprsSpec)) treeExprsUptoCard

/-- THE SECOND FORM's CARD OF 'pantographlaw07.TreeSame'. -/
def treeSameUptoCard : Claim7 := { stood := { row := treeSameUptoRow, standIns := [], harness := (true, "2f188ac51300e0765bca8dbf6f4eeb406a15f7aecf0c215bbf8078e9a60772bd"), looks := false }, kinds := [], alts := [], laidByText := true, laidKinds := [.data, .listed, .data, .pinned], laidTests := true, laidLooks := .later }
def TreeSameUptoCardSaid : Prop := Claim7.holds Tryz.pinned (.plain (OpenSpec.upto treeSameSpec)) treeSameUptoCard

/-- THE SECOND FORM's CARD OF 'pantographlaw07.TreeAlike'. -/
def treeAlikeUptoCard : Claim7 := { stood := { row := treeAlikeUptoRow, standIns := [], harness := (true, "2f188ac51300e0765bca8dbf6f4eeb406a15f7aecf0c215bbf8078e9a60772bd"), looks := false }, kinds := [], alts := [], laidByText := true, laidKinds := [.data, .listed, .data, .pinned], laidTests := true, laidLooks := .later }
def TreeAlikeUptoCardSaid : Prop := Claim7.holds Tryz.pinned (.plain (OpenSpec.upto treeAlikeSpec)) treeAlikeUptoCard
end Rows
end Go.Proofs.YtokkfbkbnocnoaaGreatDoor
