/-
  DERIVED. GIVEN WITH THE SEED: THE CARDS: each row of YtnaeedamiaoipaaGreatDoorRows.lean that lists a variable, with what it lists TIED to the program's text (the seventh form; the later family's looks); each row that meets fmt, with fmt's text TOLD by the authors' own Lean function (tested against real Go, not proved from fmt's source: count such statements apart). THE CARD IS WHAT COUNTS. Prove the row's statement (the work); the ties are given (YtnaeedamiaoipaaGreatDoorTie.lean); close each card by the builder's one call (the guide's Derived/Test/ToyasCard.lean, 'card_holds'). Laid BY PROGRAM, IN A SANDBOX (cutbox-door.mjs). By AI agents, Wed Nov 11 2026. No macro, syntax, notation, axiom, sorry.
-/
import Derived.Test.YtnaeedamiaoipaaGreatDoorRows
import GoSem.ClaimSeven
namespace Go.Proofs.YtnaeedamiaoipaaGreatDoor
namespace Rows

/-- THE TIED CARD OF 'leakresponselaw44.ConsoleOrder'. -/
def consoleOrderCard : Claim7 := { stood := { row := consoleOrderRow, standIns := [], harness := (true, "e1ebc03ae83bd10e460a4c54fd6683ce1e36f00d0bd79a7a024e43a8233d33de"), looks := true }, kinds := [], alts := [], laidByText := true, laidKinds := [.data, .data, .data, .data, .sentinel, .sentinel, .pinned], laidTests := true, laidLooks := .later }
def ConsoleOrderCardSaid : Prop := Claim7.holds Tryz.pinned (.plain (OpenSpec.ofChange consoleOrderSpec)) consoleOrderCard

/-- THE TIED CARD OF 'leakresponselaw44.ConsoleTells'. -/
def consoleTellsCard : Claim7 := { stood := { row := consoleTellsRow, standIns := [], harness := (true, "e1ebc03ae83bd10e460a4c54fd6683ce1e36f00d0bd79a7a024e43a8233d33de"), looks := true }, kinds := [], alts := [], laidByText := true, laidKinds := [.data, .data, .data, .data, .sentinel, .sentinel, .pinned], laidTests := true, laidLooks := .later }
def ConsoleTellsCardSaid : Prop := Claim7.holds Tryz.pinned (.plain (OpenSpec.ofChange consoleTellsSpec)) consoleTellsCard

/-- THE TIED CARD OF 'leakresponselaw44.ConsoleNames'. -/
def consoleNamesCard : Claim7 := { stood := { row := consoleNamesRow, standIns := [], harness := (true, "e1ebc03ae83bd10e460a4c54fd6683ce1e36f00d0bd79a7a024e43a8233d33de"), looks := true }, kinds := [], alts := [], laidByText := true, laidKinds := [.data, .data, .data, .data, .sentinel, .sentinel, .pinned], laidTests := true, laidLooks := .later }
def ConsoleNamesCardSaid : Prop := Claim7.holds Tryz.pinned (.plain (OpenSpec.ofChange consoleNamesSpec)) consoleNamesCard

/-- THE TIED CARD OF 'leakresponselaw44.ConsoleExact'. -/
def consoleExactCard : Claim7 := { stood := { row := consoleExactRow, standIns := [], harness := (true, "e1ebc03ae83bd10e460a4c54fd6683ce1e36f00d0bd79a7a024e43a8233d33de"), looks := true }, kinds := [], alts := [], laidByText := true, laidKinds := [.data, .data, .data, .data, .sentinel, .sentinel, .pinned], laidTests := true, laidLooks := .later }
def ConsoleExactCardSaid : Prop := Claim7.holds Tryz.pinned (.plain (OpenSpec.ofChange consoleExactSpec)) consoleExactCard

/-- THE TIED CARD OF 'leakresponselaw44.ConsoleBack'. -/
def consoleBackCard : Claim7 := { stood := { row := consoleBackRow, standIns := [], harness := (true, "e1ebc03ae83bd10e460a4c54fd6683ce1e36f00d0bd79a7a024e43a8233d33de"), looks := true }, kinds := [], alts := [], laidByText := true, laidKinds := [.data, .data, .data, .data, .sentinel, .sentinel, .pinned], laidTests := true, laidLooks := .later }
def ConsoleBackCardSaid : Prop := Claim7.holds Tryz.pinned (.plain (OpenSpec.ofChange consoleBackSpec)) consoleBackCard

/-- THE SECOND FORM's CARD OF 'leakresponselaw44.ConsoleOrder'. -/
def consoleOrderUptoCard : Claim7 := { stood := { row := consoleOrderUptoRow, standIns := [], harness := (true, "e1ebc03ae83bd10e460a4c54fd6683ce1e36f00d0bd79a7a024e43a8233d33de"), looks := true }, kinds := [], alts := [], laidByText := true, laidKinds := [.data, .data, .data, .data, .sentinel, .sentinel, .pinned], laidTests := true, laidLooks := .later }
def ConsoleOrderUptoCardSaid : Prop := Claim7.holds Tryz.pinned (.plain (OpenSpec.upto consoleOrderSpec)) consoleOrderUptoCard

/-- THE SECOND FORM's CARD OF 'leakresponselaw44.ConsoleTells'. -/
def consoleTellsUptoCard : Claim7 := { stood := { row := consoleTellsUptoRow, standIns := [], harness := (true, "e1ebc03ae83bd10e460a4c54fd6683ce1e36f00d0bd79a7a024e43a8233d33de"), looks := true }, kinds := [], alts := [], laidByText := true, laidKinds := [.data, .data, .data, .data, .sentinel, .sentinel, .pinned], laidTests := true, laidLooks := .later }
def ConsoleTellsUptoCardSaid : Prop := Claim7.holds Tryz.pinned (.plain (OpenSpec.upto consoleTellsSpec)) consoleTellsUptoCard

/-- THE SECOND FORM's CARD OF 'leakresponselaw44.ConsoleNames'. -/
def consoleNamesUptoCard : Claim7 := { stood := { row := consoleNamesUptoRow, standIns := [], harness := (true, "e1ebc03ae83bd10e460a4c54fd6683ce1e36f00d0bd79a7a024e43a8233d33de"), looks := true }, kinds := [], alts := [], laidByText := true, laidKinds := [.data, .data, .data, .data, .sentinel, .sentinel, .pinned], laidTests := true, laidLooks := .later }
def ConsoleNamesUptoCardSaid : Prop := Claim7.holds Tryz.pinned (.plain (OpenSpec.upto consoleNamesSpec)) consoleNamesUptoCard

/-- THE SECOND FORM's CARD OF 'leakresponselaw44.ConsoleExact'. -/
def consoleExactUptoCard : Claim7 := { stood := { row := consoleExactUptoRow, standIns := [], harness := (true, "e1ebc03ae83bd10e460a4c54fd6683ce1e36f00d0bd79a7a024e43a8233d33de"), looks := true }, kinds := [], alts := [], laidByText := true, laidKinds := [.data, .data, .data, .data, .sentinel, .sentinel, .pinned], laidTests := true, laidLooks := .later }
def ConsoleExactUptoCardSaid : Prop := Claim7.holds Tryz.pinned (.plain (OpenSpec.upto consoleExactSpec)) consoleExactUptoCard

/-- THE SECOND FORM's CARD OF 'leakresponselaw44.ConsoleBack'. -/
def consoleBackUptoCard : Claim7 := { stood := { row := consoleBackUptoRow, standIns := [], harness := (true, "e1ebc03ae83bd10e460a4c54fd6683ce1e36f00d0bd79a7a024e43a8233d33de"), looks := true }, kinds := [], alts := [], laidByText := true, laidKinds := [.data, .data, .data, .data, .sentinel, .sentinel, .pinned], laidTests := true, laidLooks := .later }
def ConsoleBackUptoCardSaid : Prop := Claim7.holds Tryz.pinned (.plain (OpenSpec.upto consoleBackSpec)) consoleBackUptoCard
end Rows
end Go.Proofs.YtnaeedamiaoipaaGreatDoor
