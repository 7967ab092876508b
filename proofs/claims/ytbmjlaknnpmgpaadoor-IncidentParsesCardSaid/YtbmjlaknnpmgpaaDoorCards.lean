/-
  DERIVED. GIVEN WITH THE SEED: THE CARDS: each row of YtbmjlaknnpmgpaaDoorRows.lean that lists a variable, with what it lists TIED to the program's text (the seventh form; the later family's looks); each row that meets fmt, with fmt's text TOLD by the authors' own Lean function (tested against real Go, not proved from fmt's source: count such statements apart). THE CARD IS WHAT COUNTS. Prove the row's statement (the work); the ties are given (YtbmjlaknnpmgpaaDoorTie.lean); close each card by the builder's one call (the guide's Derived/Test/ToyasCard.lean, 'card_holds'). Laid BY PROGRAM, IN A SANDBOX (cutbox-door.mjs). By AI agents, Wed Nov 11 2026. No macro, syntax, notation, axiom, sorry.
-/
import Derived.Test.YtbmjlaknnpmgpaaDoorRows
import GoSem.ClaimSeven
namespace Go.Proofs.YtbmjlaknnpmgpaaDoor
namespace Rows

/-- THE TIED CARD OF 'leakresponselaw43.IncidentParses'. -/
def incidentParsesCard : Claim7 := { stood := { row := incidentParsesRow, standIns := [], harness := (true, "9fa5ef882d60d7143589a8fd1e64c28451d1239c279ab94e96d1f4b848087833"), looks := true }, kinds := [], alts := [], laidByText := true, laidKinds := [.data, .data, .data, .data, .sentinel, .sentinel, .pinned], laidTests := true, laidLooks := .later }
def IncidentParsesCardSaid : Prop := Claim7.holds Tryd.pinned (.plain (OpenSpec.ofChange incidentParsesSpec)) incidentParsesCard

/-- THE SECOND FORM's CARD OF 'leakresponselaw43.IncidentParses'. -/
def incidentParsesUptoCard : Claim7 := { stood := { row := incidentParsesUptoRow, standIns := [], harness := (true, "9fa5ef882d60d7143589a8fd1e64c28451d1239c279ab94e96d1f4b848087833"), looks := true }, kinds := [], alts := [], laidByText := true, laidKinds := [.data, .data, .data, .data, .sentinel, .sentinel, .pinned], laidTests := true, laidLooks := .later }
def IncidentParsesUptoCardSaid : Prop := Claim7.holds Tryd.pinned (.plain (OpenSpec.upto incidentParsesSpec)) incidentParsesUptoCard
end Rows
end Go.Proofs.YtbmjlaknnpmgpaaDoor
