/-
  DERIVED. GIVEN WITH THE SEED: THE CARDS: each row of YtkdkcffaohmedaaDoorRows.lean that lists a variable, with what it lists TIED to the program's text (the seventh form; the later family's looks); each row that meets fmt, with fmt's text TOLD by the authors' own Lean function (tested against real Go, not proved from fmt's source: count such statements apart). THE CARD IS WHAT COUNTS. Prove the row's statement (the work); the ties are given (YtkdkcffaohmedaaDoorTie.lean); close each card by the builder's one call (the guide's Derived/Test/ToyasCard.lean, 'card_holds'). Laid BY PROGRAM, IN A SANDBOX (cutbox-door.mjs). By AI agents, Wed Nov 11 2026. No macro, syntax, notation, axiom, sorry.
-/
import Derived.Test.YtkdkcffaohmedaaDoorRows
import GoSem.ClaimSeven
namespace Go.Proofs.YtkdkcffaohmedaaDoor
namespace Rows

/-- THE TIED CARD OF 'leakresponselaw13.ObjectNames'. -/
def objectNamesCard : Claim7 := { stood := { row := objectNamesRow, standIns := [], harness := (true, "2d5cdcfd764acbd1874b5bebbe3690f550b6c19c2f55edbe2d144d26eb1375c6"), looks := true }, kinds := [], alts := [], laidByText := true, laidKinds := [.data, .data, .data], laidTests := true, laidLooks := .later }
def ObjectNamesCardSaid : Prop := Claim7.holds Tryd.pinned (.plain (OpenSpec.ofChange objectNamesSpec)) objectNamesCard

/-- THE TIED CARD OF 'leakresponselaw13.ObjectFormats'. -/
def objectFormatsCard : Claim7 := { stood := { row := objectFormatsRow, standIns := [], harness := (true, "2d5cdcfd764acbd1874b5bebbe3690f550b6c19c2f55edbe2d144d26eb1375c6"), looks := true }, kinds := [], alts := [], laidByText := true, laidKinds := [.data, .data, .data], laidTests := true, laidLooks := .later }
def ObjectFormatsCardSaid : Prop := Claim7.holds Tryd.pinned (.plain (OpenSpec.ofChange objectFormatsSpec)) objectFormatsCard

/-- THE TIED CARD OF 'leakresponselaw13.ObjectParses'. -/
def objectParsesCard : Claim7 := { stood := { row := objectParsesRow, standIns := [], harness := (true, "2d5cdcfd764acbd1874b5bebbe3690f550b6c19c2f55edbe2d144d26eb1375c6"), looks := true }, kinds := [], alts := [], laidByText := true, laidKinds := [.data, .data, .data, .sentinel, .sentinel], laidTests := true, laidLooks := .later }
def ObjectParsesCardSaid : Prop := Claim7.holds Tryd.pinned (.plain (OpenSpec.ofChange objectParsesSpec)) objectParsesCard

/-- THE TIED CARD OF 'leakresponselaw13.ObjectBack'. -/
def objectBackCard : Claim7 := { stood := { row := objectBackRow, standIns := [], harness := (true, "2d5cdcfd764acbd1874b5bebbe3690f550b6c19c2f55edbe2d144d26eb1375c6"), looks := true }, kinds := [], alts := [], laidByText := true, laidKinds := [.data, .data, .data, .sentinel, .sentinel], laidTests := true, laidLooks := .later }
def ObjectBackCardSaid : Prop := Claim7.holds Tryd.pinned (.plain (OpenSpec.ofChange objectBackSpec)) objectBackCard

/-- THE SECOND FORM's CARD OF 'leakresponselaw13.ObjectNames'. -/
def objectNamesUptoCard : Claim7 := { stood := { row := objectNamesUptoRow, standIns := [], harness := (true, "2d5cdcfd764acbd1874b5bebbe3690f550b6c19c2f55edbe2d144d26eb1375c6"), looks := true }, kinds := [], alts := [], laidByText := true, laidKinds := [.data, .data, .data], laidTests := true, laidLooks := .later }
def ObjectNamesUptoCardSaid : Prop := Claim7.holds Tryd.pinned (.plain (OpenSpec.upto objectNamesSpec)) objectNamesUptoCard

/-- THE SECOND FORM's CARD OF 'leakresponselaw13.ObjectFormats'. -/
def objectFormatsUptoCard : Claim7 := { stood := { row := objectFormatsUptoRow, standIns := [], harness := (true, "2d5cdcfd764acbd1874b5bebbe3690f550b6c19c2f55edbe2d144d26eb1375c6"), looks := true }, kinds := [], alts := [], laidByText := true, laidKinds := [.data, .data, .data], laidTests := true, laidLooks := .later }
def ObjectFormatsUptoCardSaid : Prop := Claim7.holds Tryd.pinned (.plain (OpenSpec.upto objectFormatsSpec)) objectFormatsUptoCard

/-- THE SECOND FORM's CARD OF 'leakresponselaw13.ObjectParses'. -/
def objectParsesUptoCard : Claim7 := { stood := { row := objectParsesUptoRow, standIns := [], harness := (true, "2d5cdcfd764acbd1874b5bebbe3690f550b6c19c2f55edbe2d144d26eb1375c6"), looks := true }, kinds := [], alts := [], laidByText := true, laidKinds := [.data, .data, .data, .sentinel, .sentinel], laidTests := true, laidLooks := .later }
def ObjectParsesUptoCardSaid : Prop := Claim7.holds Tryd.pinned (.plain (OpenSpec.upto objectParsesSpec)) objectParsesUptoCard

/-- THE SECOND FORM's CARD OF 'leakresponselaw13.ObjectBack'. -/
def objectBackUptoCard : Claim7 := { stood := { row := objectBackUptoRow, standIns := [], harness := (true, "2d5cdcfd764acbd1874b5bebbe3690f550b6c19c2f55edbe2d144d26eb1375c6"), looks := true }, kinds := [], alts := [], laidByText := true, laidKinds := [.data, .data, .data, .sentinel, .sentinel], laidTests := true, laidLooks := .later }
def ObjectBackUptoCardSaid : Prop := Claim7.holds Tryd.pinned (.plain (OpenSpec.upto objectBackSpec)) objectBackUptoCard
end Rows
end Go.Proofs.YtkdkcffaohmedaaDoor
