/-
  DERIVED. GIVEN WITH THE SEED: THE CARDS: each row of YtlepjafokfhnfaaDoorRows.lean that lists a variable, with what it lists TIED to the program's text (the seventh form; the later family's looks); each row that meets fmt, with fmt's text TOLD by the authors' own Lean function (tested against real Go, not proved from fmt's source: count such statements apart). THE CARD IS WHAT COUNTS. Prove the row's statement (the work); the ties are given (YtlepjafokfhnfaaDoorTie.lean); close each card by the builder's one call (the guide's Derived/Test/ToyasCard.lean, 'card_holds'). Laid BY PROGRAM, IN A SANDBOX (cutbox-door.mjs). By AI agents, Wed Nov 11 2026. No macro, syntax, notation, axiom, sorry.
-/
import Derived.Test.YtlepjafokfhnfaaDoorRows
import GoSem.ClaimSeven
namespace Go.Proofs.YtlepjafokfhnfaaDoor
namespace Rows

/-- THE TIED CARD OF 'pantographlaw16.RenameApart'. -/
def renameApartCard : Claim7 := { stood := { row := renameApartRow, standIns := [], harness := (true, "a20e0e0aef788dd94bfed5807a113331ad9a59586c4a850d1f48b0aeaa1fae15"), looks := false }, kinds := [], alts := [], laidByText := true, laidKinds := [.data, .data, .data, .data, .listed, .data, .pinned], laidTests := true, laidLooks := .later }
def RenameApartCardSaid : Prop := Claim7.holds Tryd.pinned (.plain (OpenSpec.ofChange renameApartSpec)) renameApartCard

/-- THE TIED CARD OF 'pantographlaw16.RenameTwice'. -/
def renameTwiceCard : Claim7 := { stood := { row := renameTwiceRow, standIns := [], harness := (true, "a20e0e0aef788dd94bfed5807a113331ad9a59586c4a850d1f48b0aeaa1fae15"), looks := false }, kinds := [], alts := [], laidByText := true, laidKinds := [.data, .data, .data, .data, .listed, .data, .pinned], laidTests := true, laidLooks := .later }
def RenameTwiceCardSaid : Prop := Claim7.holds Tryd.pinned (.plain (OpenSpec.ofChange renameTwiceSpec)) renameTwiceCard

/-- THE TIED CARD OF 'pantographlaw16.RenameNone'. -/
def renameNoneCard : Claim7 := { stood := { row := renameNoneRow, standIns := [], harness := (true, "a20e0e0aef788dd94bfed5807a113331ad9a59586c4a850d1f48b0aeaa1fae15"), looks := false }, kinds := [], alts := [], laidByText := true, laidKinds := [.data, .data, .data, .data, .listed, .data, .pinned], laidTests := true, laidLooks := .later }
def RenameNoneCardSaid : Prop := Claim7.holds Tryd.pinned (.plain (OpenSpec.ofChange renameNoneSpec)) renameNoneCard

/-- THE SECOND FORM's CARD OF 'pantographlaw16.RenameApart'. -/
def renameApartUptoCard : Claim7 := { stood := { row := renameApartUptoRow, standIns := [], harness := (true, "a20e0e0aef788dd94bfed5807a113331ad9a59586c4a850d1f48b0aeaa1fae15"), looks := false }, kinds := [], alts := [], laidByText := true, laidKinds := [.data, .data, .data, .data, .listed, .data, .pinned], laidTests := true, laidLooks := .later }
def RenameApartUptoCardSaid : Prop := Claim7.holds Tryd.pinned (.plain (OpenSpec.upto renameApartSpec)) renameApartUptoCard

/-- THE SECOND FORM's CARD OF 'pantographlaw16.RenameTwice'. -/
def renameTwiceUptoCard : Claim7 := { stood := { row := renameTwiceUptoRow, standIns := [], harness := (true, "a20e0e0aef788dd94bfed5807a113331ad9a59586c4a850d1f48b0aeaa1fae15"), looks := false }, kinds := [], alts := [], laidByText := true, laidKinds := [.data, .data, .data, .data, .listed, .data, .pinned], laidTests := true, laidLooks := .later }
def RenameTwiceUptoCardSaid : Prop := Claim7.holds Tryd.pinned (.plain (OpenSpec.upto renameTwiceSpec)) renameTwiceUptoCard

/-- THE SECOND FORM's CARD OF 'pantographlaw16.RenameNone'. -/
def renameNoneUptoCard : Claim7 := { stood := { row := renameNoneUptoRow, standIns := [], harness := (true, "a20e0e0aef788dd94bfed5807a113331ad9a59586c4a850d1f48b0aeaa1fae15"), looks := false }, kinds := [], alts := [], laidByText := true, laidKinds := [.data, .data, .data, .data, .listed, .data, .pinned], laidTests := true, laidLooks := .later }
def RenameNoneUptoCardSaid : Prop := Claim7.holds Tryd.pinned (.plain (OpenSpec.upto renameNoneSpec)) renameNoneUptoCard
end Rows
end Go.Proofs.YtlepjafokfhnfaaDoor
