/-
  DERIVED. GIVEN WITH THE SEED: THE CARDS: each row of YtmmbpbamkiheaaaDoorRows.lean that lists a variable, with what it lists TIED to the program's text (the seventh form; the later family's looks); each row that meets fmt, with fmt's text TOLD by the authors' own Lean function (tested against real Go, not proved from fmt's source: count such statements apart). THE CARD IS WHAT COUNTS. Prove the row's statement (the work); the ties are given (YtmmbpbamkiheaaaDoorTie.lean); close each card by the builder's one call (the guide's Derived/Test/ToyasCard.lean, 'card_holds'). Laid BY PROGRAM, IN A SANDBOX (cutbox-door.mjs). By AI agents, Wed Nov 11 2026. No macro, syntax, notation, axiom, sorry.
-/
import Derived.Test.YtmmbpbamkiheaaaDoorRows
import GoSem.ClaimSeven
namespace Go.Proofs.YtmmbpbamkiheaaaDoor
namespace Rows

/-- THE TIED CARD OF 'pantographlaw01.TextNumbers'. -/
def textNumbersCard : Claim7 := { stood := { row := textNumbersRow, standIns := [], harness := (true, "c83ccd908de7d6b16eabed10bf4fe9b873ccecc71275394230008a02c4f394f3"), looks := false }, kinds := [], alts := [], laidByText := true, laidKinds := [.data, .data, .data, .data, .pinned], laidTests := true, laidLooks := .later }
def TextNumbersCardSaid : Prop := Claim7.holds Tryd.pinned (.plain (OpenSpec.ofChange textNumbersSpec)) textNumbersCard

/-- THE TIED CARD OF 'pantographlaw01.TextDigits'. -/
def textDigitsCard : Claim7 := { stood := { row := textDigitsRow, standIns := [], harness := (true, "c83ccd908de7d6b16eabed10bf4fe9b873ccecc71275394230008a02c4f394f3"), looks := false }, kinds := [], alts := [], laidByText := true, laidKinds := [.data, .data, .data, .data, .pinned], laidTests := true, laidLooks := .later }
def TextDigitsCardSaid : Prop := Claim7.holds Tryd.pinned (.plain (OpenSpec.ofChange textDigitsSpec)) textDigitsCard

/-- THE TIED CARD OF 'pantographlaw01.TextJoins'. -/
def textJoinsCard : Claim7 := { stood := { row := textJoinsRow, standIns := [], harness := (true, "c83ccd908de7d6b16eabed10bf4fe9b873ccecc71275394230008a02c4f394f3"), looks := false }, kinds := [], alts := [], laidByText := true, laidKinds := [.data, .data, .data, .data, .pinned], laidTests := true, laidLooks := .later }
def TextJoinsCardSaid : Prop := Claim7.holds Tryd.pinned (.plain (OpenSpec.ofChange textJoinsSpec)) textJoinsCard

/-- THE TIED CARD OF 'pantographlaw01.TextPlaces'. -/
def textPlacesCard : Claim7 := { stood := { row := textPlacesRow, standIns := [], harness := (true, "c83ccd908de7d6b16eabed10bf4fe9b873ccecc71275394230008a02c4f394f3"), looks := false }, kinds := [], alts := [], laidByText := true, laidKinds := [.data, .data, .data, .data, .pinned], laidTests := true, laidLooks := .later }
def TextPlacesCardSaid : Prop := Claim7.holds Tryd.pinned (.plain (OpenSpec.ofChange textPlacesSpec)) textPlacesCard

/-- THE TIED CARD OF 'pantographlaw01.TextSkips'. -/
def textSkipsCard : Claim7 := { stood := { row := textSkipsRow, standIns := [], harness := (true, "c83ccd908de7d6b16eabed10bf4fe9b873ccecc71275394230008a02c4f394f3"), looks := false }, kinds := [], alts := [], laidByText := true, laidKinds := [.data, .data, .data, .data, .pinned], laidTests := true, laidLooks := .later }
def TextSkipsCardSaid : Prop := Claim7.holds Tryd.pinned (.plain (OpenSpec.ofChange textSkipsSpec)) textSkipsCard

/-- THE TIED CARD OF 'pantographlaw01.TextGoes'. -/
def textGoesCard : Claim7 := { stood := { row := textGoesRow, standIns := [], harness := (true, "c83ccd908de7d6b16eabed10bf4fe9b873ccecc71275394230008a02c4f394f3"), looks := false }, kinds := [], alts := [], laidByText := true, laidKinds := [.data, .data, .data, .data, .pinned], laidTests := true, laidLooks := .later }
def TextGoesCardSaid : Prop := Claim7.holds Tryd.pinned (.plain (OpenSpec.ofChange textGoesSpec)) textGoesCard

/-- THE TIED CARD OF 'pantographlaw01.TextNil'. -/
def textNilCard : Claim7 := { stood := { row := textNilRow, standIns := [], harness := (true, "c83ccd908de7d6b16eabed10bf4fe9b873ccecc71275394230008a02c4f394f3"), looks := false }, kinds := [], alts := [], laidByText := true, laidKinds := [.data, .data, .data, .data, .pinned], laidTests := true, laidLooks := .later }
def TextNilCardSaid : Prop := Claim7.holds Tryd.pinned (.plain (OpenSpec.ofChange textNilSpec)) textNilCard

/-- THE TIED CARD OF 'pantographlaw01.TextParts'. -/
def textPartsCard : Claim7 := { stood := { row := textPartsRow, standIns := [], harness := (true, "c83ccd908de7d6b16eabed10bf4fe9b873ccecc71275394230008a02c4f394f3"), looks := false }, kinds := [], alts := [], laidByText := true, laidKinds := [.data, .data, .data, .data, .pinned], laidTests := true, laidLooks := .later }
def TextPartsCardSaid : Prop := Claim7.holds Tryd.pinned (.plain (OpenSpec.ofChange textPartsSpec)) textPartsCard

/-- THE SECOND FORM's CARD OF 'pantographlaw01.TextNumbers'. -/
def textNumbersUptoCard : Claim7 := { stood := { row := textNumbersUptoRow, standIns := [], harness := (true, "c83ccd908de7d6b16eabed10bf4fe9b873ccecc71275394230008a02c4f394f3"), looks := false }, kinds := [], alts := [], laidByText := true, laidKinds := [.data, .data, .data, .data, .pinned], laidTests := true, laidLooks := .later }
def TextNumbersUptoCardSaid : Prop := Claim7.holds Tryd.pinned (.plain (OpenSpec.upto textNumbersSpec)) textNumbersUptoCard

/-- THE SECOND FORM's CARD OF 'pantographlaw01.TextDigits'. -/
def textDigitsUptoCard : Claim7 := { stood := { row := textDigitsUptoRow, standIns := [], harness := (true, "c83ccd908de7d6b16eabed10bf4fe9b873ccecc71275394230008a02c4f394f3"), looks := false }, kinds := [], alts := [], laidByText := true, laidKinds := [.data, .data, .data, .data, .pinned], laidTests := true, laidLooks := .later }
def TextDigitsUptoCardSaid : Prop := Claim7.holds Tryd.pinned (.plain (OpenSpec.upto textDigitsSpec)) textDigitsUptoCard

/-- THE SECOND FORM's CARD OF 'pantographlaw01.TextJoins'. -/
def textJoinsUptoCard : Claim7 := { stood := { row := textJoinsUptoRow, standIns := [], harness := (true, "c83ccd908de7d6b16eabed10bf4fe9b873ccecc71275394230008a02c4f394f3"), looks := false }, kinds := [], alts := [], laidByText := true, laidKinds := [.data, .data, .data, .data, .pinned], laidTests := true, laidLooks := .later }
def TextJoinsUptoCardSaid : Prop := Claim7.holds Tryd.pinned (.plain (OpenSpec.upto textJoinsSpec)) textJoinsUptoCard

/-- THE SECOND FORM's CARD OF 'pantographlaw01.TextPlaces'. -/
def textPlacesUptoCard : Claim7 := { stood := { row := textPlacesUptoRow, standIns := [], harness := (true, "c83ccd908de7d6b16eabed10bf4fe9b873ccecc71275394230008a02c4f394f3"), looks := false }, kinds := [], alts := [], laidByText := true, laidKinds := [.data, .data, .data, .data, .pinned], laidTests := true, laidLooks := .later }
def TextPlacesUptoCardSaid : Prop := Claim7.holds Tryd.pinned (.plain (OpenSpec.upto textPlacesSpec)) textPlacesUptoCard

/-- THE SECOND FORM's CARD OF 'pantographlaw01.TextSkips'. -/
def textSkipsUptoCard : Claim7 := { stood := { row := textSkipsUptoRow, standIns := [], harness := (true, "c83ccd908de7d6b16eabed10bf4fe9b873ccecc71275394230008a02c4f394f3"), looks := false }, kinds := [], alts := [], laidByText := true, laidKinds := [.data, .data, .data, .data, .pinned], laidTests := true, laidLooks := .later }
def TextSkipsUptoCardSaid : Prop := Claim7.holds Tryd.pinned (.plain (OpenSpec.upto textSkipsSpec)) textSkipsUptoCard

/-- THE SECOND FORM's CARD OF 'pantographlaw01.TextGoes'. -/
def textGoesUptoCard : Claim7 := { stood := { row := textGoesUptoRow, standIns := [], harness := (true, "c83ccd908de7d6b16eabed10bf4fe9b873ccecc71275394230008a02c4f394f3"), looks := false }, kinds := [], alts := [], laidByText := true, laidKinds := [.data, .data, .data, .data, .pinned], laidTests := true, laidLooks := .later }
def TextGoesUptoCardSaid : Prop := Claim7.holds Tryd.pinned (.plain (OpenSpec.upto textGoesSpec)) textGoesUptoCard

/-- THE SECOND FORM's CARD OF 'pantographlaw01.TextNil'. -/
def textNilUptoCard : Claim7 := { stood := { row := textNilUptoRow, standIns := [], harness := (true, "c83ccd908de7d6b16eabed10bf4fe9b873ccecc71275394230008a02c4f394f3"), looks := false }, kinds := [], alts := [], laidByText := true, laidKinds := [.data, .data, .data, .data, .pinned], laidTests := true, laidLooks := .later }
def TextNilUptoCardSaid : Prop := Claim7.holds Tryd.pinned (.plain (OpenSpec.upto textNilSpec)) textNilUptoCard

/-- THE SECOND FORM's CARD OF 'pantographlaw01.TextParts'. -/
def textPartsUptoCard : Claim7 := { stood := { row := textPartsUptoRow, standIns := [], harness := (true, "c83ccd908de7d6b16eabed10bf4fe9b873ccecc71275394230008a02c4f394f3"), looks := false }, kinds := [], alts := [], laidByText := true, laidKinds := [.data, .data, .data, .data, .pinned], laidTests := true, laidLooks := .later }
def TextPartsUptoCardSaid : Prop := Claim7.holds Tryd.pinned (.plain (OpenSpec.upto textPartsSpec)) textPartsUptoCard
end Rows
end Go.Proofs.YtmmbpbamkiheaaaDoor
