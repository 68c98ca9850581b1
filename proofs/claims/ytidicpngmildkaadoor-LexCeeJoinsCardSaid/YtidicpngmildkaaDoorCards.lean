/-
  DERIVED. GIVEN WITH THE SEED: THE CARDS: each row of YtidicpngmildkaaDoorRows.lean that lists a variable, with what it lists TIED to the program's text (the seventh form; the later family's looks); each row that meets fmt, with fmt's text TOLD by the authors' own Lean function (tested against real Go, not proved from fmt's source: count such statements apart). THE CARD IS WHAT COUNTS. Prove the row's statement (the work); the ties are given (YtidicpngmildkaaDoorTie.lean); close each card by the builder's one call (the guide's Derived/Test/ToyasCard.lean, 'card_holds'). Laid BY PROGRAM, IN A SANDBOX (cutbox-door.mjs). By AI agents, Wed Nov 11 2026. No macro, syntax, notation, axiom, sorry.
-/
import Derived.Test.YtidicpngmildkaaDoorRows
import GoSem.ClaimSeven
namespace Go.Proofs.YtidicpngmildkaaDoor
namespace Rows

/-- THE TIED CARD OF 'pantographlaw06.LexCeeBlanks'. -/
def lexCeeBlanksCard : Claim7 := { stood := { row := lexCeeBlanksRow, standIns := [], harness := (true, "6618a69303a217b0ae262ce661f37dcc0a21f733803866bea3959966c8b55b9e"), looks := true }, kinds := [], alts := [], laidByText := true, laidKinds := [.data, .data, .data, .data, .sentinel, .sentinel, .listed, .data, .pinned], laidTests := true, laidLooks := .later }
def LexCeeBlanksCardSaid : Prop := Claim7.holds Tryd.pinned (.plain (OpenSpec.ofChange lexCeeBlanksSpec)) lexCeeBlanksCard

/-- THE TIED CARD OF 'pantographlaw06.LexCeeChars'. -/
def lexCeeCharsCard : Claim7 := { stood := { row := lexCeeCharsRow, standIns := [], harness := (true, "6618a69303a217b0ae262ce661f37dcc0a21f733803866bea3959966c8b55b9e"), looks := true }, kinds := [], alts := [], laidByText := true, laidKinds := [.data, .data, .data, .data, .sentinel, .sentinel, .listed, .data, .pinned], laidTests := true, laidLooks := .later }
def LexCeeCharsCardSaid : Prop := Claim7.holds Tryd.pinned (.plain (OpenSpec.ofChange lexCeeCharsSpec)) lexCeeCharsCard

/-- THE TIED CARD OF 'pantographlaw06.LexCeePlaces'. -/
def lexCeePlacesCard : Claim7 := { stood := { row := lexCeePlacesRow, standIns := [], harness := (true, "6618a69303a217b0ae262ce661f37dcc0a21f733803866bea3959966c8b55b9e"), looks := true }, kinds := [], alts := [], laidByText := true, laidKinds := [.data, .data, .data, .data, .sentinel, .sentinel, .listed, .data, .pinned], laidTests := true, laidLooks := .later }
def LexCeePlacesCardSaid : Prop := Claim7.holds Tryd.pinned (.plain (OpenSpec.ofChange lexCeePlacesSpec)) lexCeePlacesCard

/-- THE TIED CARD OF 'pantographlaw06.LexCeeJoins'. -/
def lexCeeJoinsCard : Claim7 := { stood := { row := lexCeeJoinsRow, standIns := [], harness := (true, "6618a69303a217b0ae262ce661f37dcc0a21f733803866bea3959966c8b55b9e"), looks := true }, kinds := [], alts := [], laidByText := true, laidKinds := [.data, .data, .data, .data, .sentinel, .sentinel, .listed, .data, .pinned], laidTests := true, laidLooks := .later }
def LexCeeJoinsCardSaid : Prop := Claim7.holds Tryd.pinned (.plain (OpenSpec.ofChange lexCeeJoinsSpec)) lexCeeJoinsCard

/-- THE SECOND FORM's CARD OF 'pantographlaw06.LexCeeBlanks'. -/
def lexCeeBlanksUptoCard : Claim7 := { stood := { row := lexCeeBlanksUptoRow, standIns := [], harness := (true, "6618a69303a217b0ae262ce661f37dcc0a21f733803866bea3959966c8b55b9e"), looks := true }, kinds := [], alts := [], laidByText := true, laidKinds := [.data, .data, .data, .data, .sentinel, .sentinel, .listed, .data, .pinned], laidTests := true, laidLooks := .later }
def LexCeeBlanksUptoCardSaid : Prop := Claim7.holds Tryd.pinned (.plain (OpenSpec.upto lexCeeBlanksSpec)) lexCeeBlanksUptoCard

/-- THE SECOND FORM's CARD OF 'pantographlaw06.LexCeeChars'. -/
def lexCeeCharsUptoCard : Claim7 := { stood := { row := lexCeeCharsUptoRow, standIns := [], harness := (true, "6618a69303a217b0ae262ce661f37dcc0a21f733803866bea3959966c8b55b9e"), looks := true }, kinds := [], alts := [], laidByText := true, laidKinds := [.data, .data, .data, .data, .sentinel, .sentinel, .listed, .data, .pinned], laidTests := true, laidLooks := .later }
def LexCeeCharsUptoCardSaid : Prop := Claim7.holds Tryd.pinned (.plain (OpenSpec.upto lexCeeCharsSpec)) lexCeeCharsUptoCard

/-- THE SECOND FORM's CARD OF 'pantographlaw06.LexCeePlaces'. -/
def lexCeePlacesUptoCard : Claim7 := { stood := { row := lexCeePlacesUptoRow, standIns := [], harness := (true, "6618a69303a217b0ae262ce661f37dcc0a21f733803866bea3959966c8b55b9e"), looks := true }, kinds := [], alts := [], laidByText := true, laidKinds := [.data, .data, .data, .data, .sentinel, .sentinel, .listed, .data, .pinned], laidTests := true, laidLooks := .later }
def LexCeePlacesUptoCardSaid : Prop := Claim7.holds Tryd.pinned (.plain (OpenSpec.upto lexCeePlacesSpec)) lexCeePlacesUptoCard

/-- THE SECOND FORM's CARD OF 'pantographlaw06.LexCeeJoins'. -/
def lexCeeJoinsUptoCard : Claim7 := { stood := { row := lexCeeJoinsUptoRow, standIns := [], harness := (true, "6618a69303a217b0ae262ce661f37dcc0a21f733803866bea3959966c8b55b9e"), looks := true }, kinds := [], alts := [], laidByText := true, laidKinds := [.data, .data, .data, .data, .sentinel, .sentinel, .listed, .data, .pinned], laidTests := true, laidLooks := .later }
def LexCeeJoinsUptoCardSaid : Prop := Claim7.holds Tryd.pinned (.plain (OpenSpec.upto lexCeeJoinsSpec)) lexCeeJoinsUptoCard
end Rows
end Go.Proofs.YtidicpngmildkaaDoor
