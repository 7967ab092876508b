/-
  DERIVED. GIVEN WITH THE SEED: THE CARDS: each row of YtbmjlaknnpmgpaaGreatDoorRows.lean that lists a variable, with what it lists TIED to the program's text (the seventh form; the later family's looks); each row that meets fmt, with fmt's text TOLD by the authors' own Lean function (tested against real Go, not proved from fmt's source: count such statements apart). THE CARD IS WHAT COUNTS. Prove the row's statement (the work); the ties are given (YtbmjlaknnpmgpaaGreatDoorTie.lean); close each card by the builder's one call (the guide's Derived/Test/ToyasCard.lean, 'card_holds'). Laid BY PROGRAM, IN A SANDBOX (cutbox-door.mjs). By AI agents, Wed Nov 11 2026. No macro, syntax, notation, axiom, sorry.
-/
import Derived.Test.YtbmjlaknnpmgpaaGreatDoorRows
import GoSem.ClaimSeven
namespace Go.Proofs.YtbmjlaknnpmgpaaGreatDoor
namespace Rows

/-- THE TIED CARD OF 'leakresponselaw43.IncidentExact'. -/
def incidentExactCard : Claim7 := { stood := { row := incidentExactRow, standIns := [], harness := (true, "09c72a92443f4b040c644e2b51f85c659353fb62b7716568a7ab318d19448b48"), looks := true }, kinds := [], alts := [], laidByText := true, laidKinds := [.data, .data, .data, .data, .data, .sentinel, .sentinel, .pinned], laidTests := true, laidLooks := .later }
def IncidentExactCardSaid : Prop := Claim7.holds Tryz.pinned (.plain (OpenSpec.ofChange incidentExactSpec)) incidentExactCard

/-- THE TIED CARD OF 'leakresponselaw43.IncidentBack'. -/
def incidentBackCard : Claim7 := { stood := { row := incidentBackRow, standIns := [], harness := (true, "09c72a92443f4b040c644e2b51f85c659353fb62b7716568a7ab318d19448b48"), looks := true }, kinds := [], alts := [], laidByText := true, laidKinds := [.data, .data, .data, .data, .data, .sentinel, .sentinel, .pinned], laidTests := true, laidLooks := .later }
def IncidentBackCardSaid : Prop := Claim7.holds Tryz.pinned (.plain (OpenSpec.ofChange incidentBackSpec)) incidentBackCard

/-- THE TIED CARD OF 'leakresponselaw43.IncidentTells'. -/
def incidentTellsCard : Claim7 := { stood := { row := incidentTellsRow, standIns := [], harness := (true, "09c72a92443f4b040c644e2b51f85c659353fb62b7716568a7ab318d19448b48"), looks := true }, kinds := [], alts := [], laidByText := true, laidKinds := [.data, .data, .data, .data, .data, .sentinel, .sentinel, .pinned], laidTests := true, laidLooks := .later }
def IncidentTellsCardSaid : Prop := Claim7.holds Tryz.pinned (.plain (OpenSpec.ofChange incidentTellsSpec)) incidentTellsCard

/-- THE TIED CARD OF 'leakresponselaw43.IncidentMore'. -/
def incidentMoreCard : Claim7 := { stood := { row := incidentMoreRow, standIns := [], harness := (true, "09c72a92443f4b040c644e2b51f85c659353fb62b7716568a7ab318d19448b48"), looks := true }, kinds := [], alts := [], laidByText := true, laidKinds := [.data, .data, .data, .data, .data, .sentinel, .sentinel, .pinned], laidTests := true, laidLooks := .later }
def IncidentMoreCardSaid : Prop := Claim7.holds Tryz.pinned (.plain (OpenSpec.ofChange incidentMoreSpec)) incidentMoreCard

/-- THE SECOND FORM's CARD OF 'leakresponselaw43.IncidentExact'. -/
def incidentExactUptoCard : Claim7 := { stood := { row := incidentExactUptoRow, standIns := [], harness := (true, "09c72a92443f4b040c644e2b51f85c659353fb62b7716568a7ab318d19448b48"), looks := true }, kinds := [], alts := [], laidByText := true, laidKinds := [.data, .data, .data, .data, .data, .sentinel, .sentinel, .pinned], laidTests := true, laidLooks := .later }
def IncidentExactUptoCardSaid : Prop := Claim7.holds Tryz.pinned (.plain (OpenSpec.upto incidentExactSpec)) incidentExactUptoCard

/-- THE SECOND FORM's CARD OF 'leakresponselaw43.IncidentBack'. -/
def incidentBackUptoCard : Claim7 := { stood := { row := incidentBackUptoRow, standIns := [], harness := (true, "09c72a92443f4b040c644e2b51f85c659353fb62b7716568a7ab318d19448b48"), looks := true }, kinds := [], alts := [], laidByText := true, laidKinds := [.data, .data, .data, .data, .data, .sentinel, .sentinel, .pinned], laidTests := true, laidLooks := .later }
def IncidentBackUptoCardSaid : Prop := Claim7.holds Tryz.pinned (.plain (OpenSpec.upto incidentBackSpec)) incidentBackUptoCard

/-- THE SECOND FORM's CARD OF 'leakresponselaw43.IncidentTells'. -/
def incidentTellsUptoCard : Claim7 := { stood := { row := incidentTellsUptoRow, standIns := [], harness := (true, "09c72a92443f4b040c644e2b51f85c659353fb62b7716568a7ab318d19448b48"), looks := true }, kinds := [], alts := [], laidByText := true, laidKinds := [.data, .data, .data, .data, .data, .sentinel, .sentinel, .pinned], laidTests := true, laidLooks := .later }
def IncidentTellsUptoCardSaid : Prop := Claim7.holds Tryz.pinned (.plain (OpenSpec.upto incidentTellsSpec)) incidentTellsUptoCard

/-- THE SECOND FORM's CARD OF 'leakresponselaw43.IncidentMore'. -/
def incidentMoreUptoCard : Claim7 := { stood := { row := incidentMoreUptoRow, standIns := [], harness := (true, "09c72a92443f4b040c644e2b51f85c659353fb62b7716568a7ab318d19448b48"), looks := true }, kinds := [], alts := [], laidByText := true, laidKinds := [.data, .data, .data, .data, .data, .sentinel, .sentinel, .pinned], laidTests := true, laidLooks := .later }
def IncidentMoreUptoCardSaid : Prop := Claim7.holds Tryz.pinned (.plain (OpenSpec.upto incidentMoreSpec)) incidentMoreUptoCard
end Rows
end Go.Proofs.YtbmjlaknnpmgpaaGreatDoor
