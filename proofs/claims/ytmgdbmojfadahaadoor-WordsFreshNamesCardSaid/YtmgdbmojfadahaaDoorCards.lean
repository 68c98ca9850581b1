/-
  DERIVED. GIVEN WITH THE SEED: THE CARDS: each row of YtmgdbmojfadahaaDoorRows.lean that lists a variable, with what it lists TIED to the program's text (the seventh form; the later family's looks); each row that meets fmt, with fmt's text TOLD by the authors' own Lean function (tested against real Go, not proved from fmt's source: count such statements apart). THE CARD IS WHAT COUNTS. Prove the row's statement (the work); the ties are given (YtmgdbmojfadahaaDoorTie.lean); close each card by the builder's one call (the guide's Derived/Test/ToyasCard.lean, 'card_holds'). Laid BY PROGRAM, IN A SANDBOX (cutbox-door.mjs). By AI agents, Wed Nov 11 2026. No macro, syntax, notation, axiom, sorry.
-/
import Derived.Test.YtmgdbmojfadahaaDoorRows
import GoSem.ClaimSeven
namespace Go.Proofs.YtmgdbmojfadahaaDoor
namespace Rows

/-- THE TIED CARD OF 'pantographlaw04.WordsAre'. -/
def wordsAreCard : Claim7 := { stood := { row := wordsAreRow, standIns := [], harness := (true, "b2a8e7819b6f44756f2e0e903feb6835ce7fcac39dddfb3404f783c384595c50"), looks := false }, kinds := [], alts := [], laidByText := true, laidKinds := [.data, .data, .data, .listed, .data], laidTests := true, laidLooks := .later }
def WordsAreCardSaid : Prop := Claim7.holds Tryd.pinned (.plain (OpenSpec.ofChange wordsAreSpec)) wordsAreCard

/-- THE TIED CARD OF 'pantographlaw04.WordsFresh'. -/
def wordsFreshCard : Claim7 := { stood := { row := wordsFreshRow, standIns := [], harness := (true, "b2a8e7819b6f44756f2e0e903feb6835ce7fcac39dddfb3404f783c384595c50"), looks := false }, kinds := [], alts := [], laidByText := true, laidKinds := [.data, .data, .data, .listed, .data], laidTests := true, laidLooks := .later }
def WordsFreshCardSaid : Prop := Claim7.holds Tryd.pinned (.plain (OpenSpec.ofChange wordsFreshSpec)) wordsFreshCard

/-- THE TIED CARD OF 'pantographlaw04.WordsClash'. -/
def wordsClashCard : Claim7 := { stood := { row := wordsClashRow, standIns := [], harness := (true, "b2a8e7819b6f44756f2e0e903feb6835ce7fcac39dddfb3404f783c384595c50"), looks := false }, kinds := [], alts := [], laidByText := true, laidKinds := [.data, .data, .data, .listed, .data], laidTests := true, laidLooks := .later }
def WordsClashCardSaid : Prop := Claim7.holds Tryd.pinned (.plain (OpenSpec.ofChange wordsClashSpec)) wordsClashCard

/-- THE TIED CARD OF 'pantographlaw04.WordsAgain'. -/
def wordsAgainCard : Claim7 := { stood := { row := wordsAgainRow, standIns := [], harness := (true, "b2a8e7819b6f44756f2e0e903feb6835ce7fcac39dddfb3404f783c384595c50"), looks := false }, kinds := [], alts := [], laidByText := true, laidKinds := [.data, .data, .data, .listed, .data], laidTests := true, laidLooks := .later }
def WordsAgainCardSaid : Prop := Claim7.holds Tryd.pinned (.plain (OpenSpec.ofChange wordsAgainSpec)) wordsAgainCard

/-- THE TIED CARD OF 'pantographlaw04.WordsNames'. -/
def wordsNamesCard : Claim7 := { stood := { row := wordsNamesRow, standIns := [], harness := (true, "b2a8e7819b6f44756f2e0e903feb6835ce7fcac39dddfb3404f783c384595c50"), looks := false }, kinds := [], alts := [], laidByText := true, laidKinds := [.data, .data, .data, .listed, .data], laidTests := true, laidLooks := .later }
def WordsNamesCardSaid : Prop := Claim7.holds Tryd.pinned (.plain (OpenSpec.ofChange wordsNamesSpec)) wordsNamesCard

/-- THE TIED CARD OF 'pantographlaw04.WordsFreshNames'. -/
def wordsFreshNamesCard : Claim7 := { stood := { row := wordsFreshNamesRow, standIns := [], harness := (true, "b2a8e7819b6f44756f2e0e903feb6835ce7fcac39dddfb3404f783c384595c50"), looks := false }, kinds := [], alts := [], laidByText := true, laidKinds := [.data, .data, .data, .listed, .data], laidTests := true, laidLooks := .later }
def WordsFreshNamesCardSaid : Prop := Claim7.holds Tryd.pinned (.plain (OpenSpec.ofChange wordsFreshNamesSpec)) wordsFreshNamesCard

/-- THE SECOND FORM's CARD OF 'pantographlaw04.WordsAre'. -/
def wordsAreUptoCard : Claim7 := { stood := { row := wordsAreUptoRow, standIns := [], harness := (true, "b2a8e7819b6f44756f2e0e903feb6835ce7fcac39dddfb3404f783c384595c50"), looks := false }, kinds := [], alts := [], laidByText := true, laidKinds := [.data, .data, .data, .listed, .data], laidTests := true, laidLooks := .later }
def WordsAreUptoCardSaid : Prop := Claim7.holds Tryd.pinned (.plain (OpenSpec.upto wordsAreSpec)) wordsAreUptoCard

/-- THE SECOND FORM's CARD OF 'pantographlaw04.WordsFresh'. -/
def wordsFreshUptoCard : Claim7 := { stood := { row := wordsFreshUptoRow, standIns := [], harness := (true, "b2a8e7819b6f44756f2e0e903feb6835ce7fcac39dddfb3404f783c384595c50"), looks := false }, kinds := [], alts := [], laidByText := true, laidKinds := [.data, .data, .data, .listed, .data], laidTests := true, laidLooks := .later }
def WordsFreshUptoCardSaid : Prop := Claim7.holds Tryd.pinned (.plain (OpenSpec.upto wordsFreshSpec)) wordsFreshUptoCard

/-- THE SECOND FORM's CARD OF 'pantographlaw04.WordsClash'. -/
def wordsClashUptoCard : Claim7 := { stood := { row := wordsClashUptoRow, standIns := [], harness := (true, "b2a8e7819b6f44756f2e0e903feb6835ce7fcac39dddfb3404f783c384595c50"), looks := false }, kinds := [], alts := [], laidByText := true, laidKinds := [.data, .data, .data, .listed, .data], laidTests := true, laidLooks := .later }
def WordsClashUptoCardSaid : Prop := Claim7.holds Tryd.pinned (.plain (OpenSpec.upto wordsClashSpec)) wordsClashUptoCard

/-- THE SECOND FORM's CARD OF 'pantographlaw04.WordsAgain'. -/
def wordsAgainUptoCard : Claim7 := { stood := { row := wordsAgainUptoRow, standIns := [], harness := (true, "b2a8e7819b6f44756f2e0e903feb6835ce7fcac39dddfb3404f783c384595c50"), looks := false }, kinds := [], alts := [], laidByText := true, laidKinds := [.data, .data, .data, .listed, .data], laidTests := true, laidLooks := .later }
def WordsAgainUptoCardSaid : Prop := Claim7.holds Tryd.pinned (.plain (OpenSpec.upto wordsAgainSpec)) wordsAgainUptoCard

/-- THE SECOND FORM's CARD OF 'pantographlaw04.WordsNames'. -/
def wordsNamesUptoCard : Claim7 := { stood := { row := wordsNamesUptoRow, standIns := [], harness := (true, "b2a8e7819b6f44756f2e0e903feb6835ce7fcac39dddfb3404f783c384595c50"), looks := false }, kinds := [], alts := [], laidByText := true, laidKinds := [.data, .data, .data, .listed, .data], laidTests := true, laidLooks := .later }
def WordsNamesUptoCardSaid : Prop := Claim7.holds Tryd.pinned (.plain (OpenSpec.upto wordsNamesSpec)) wordsNamesUptoCard

/-- THE SECOND FORM's CARD OF 'pantographlaw04.WordsFreshNames'. -/
def wordsFreshNamesUptoCard : Claim7 := { stood := { row := wordsFreshNamesUptoRow, standIns := [], harness := (true, "b2a8e7819b6f44756f2e0e903feb6835ce7fcac39dddfb3404f783c384595c50"), looks := false }, kinds := [], alts := [], laidByText := true, laidKinds := [.data, .data, .data, .listed, .data], laidTests := true, laidLooks := .later }
def WordsFreshNamesUptoCardSaid : Prop := Claim7.holds Tryd.pinned (.plain (OpenSpec.upto wordsFreshNamesSpec)) wordsFreshNamesUptoCard
end Rows
end Go.Proofs.YtmgdbmojfadahaaDoor
