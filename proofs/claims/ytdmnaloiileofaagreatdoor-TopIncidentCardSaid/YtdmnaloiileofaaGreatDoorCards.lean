/-
  DERIVED. GIVEN WITH THE SEED: THE CARDS: each row of YtdmnaloiileofaaGreatDoorRows.lean that lists a variable, with what it lists TIED to the program's text (the seventh form; the later family's looks); each row that meets fmt, with fmt's text TOLD by the authors' own Lean function (tested against real Go, not proved from fmt's source: count such statements apart). THE CARD IS WHAT COUNTS. Prove the row's statement (the work); the ties are given (YtdmnaloiileofaaGreatDoorTie.lean); close each card by the builder's one call (the guide's Derived/Test/ToyasCard.lean, 'card_holds'). Laid BY PROGRAM, IN A SANDBOX (cutbox-door.mjs). By AI agents, Wed Nov 11 2026. No macro, syntax, notation, axiom, sorry.
-/
import Derived.Test.YtdmnaloiileofaaGreatDoorRows
import GoSem.ClaimSeven
namespace Go.Proofs.YtdmnaloiileofaaGreatDoor
namespace Rows

/-- THE TIED CARD OF 'leakresponsetop.TopIncident'. -/
def topIncidentCard : Claim7 := { stood := { row := topIncidentRow, standIns := [], harness := (true, "40671f07c5b6c750291959d61d7611a6d1857fb594c9f3cb4f59638412b4739b"), looks := true }, kinds := [], alts := [], laidByText := true, laidKinds := [.data, .data, .data, .data, .data, .sentinel, .sentinel, .pinned], laidTests := true, laidLooks := .later }
def TopIncidentCardSaid : Prop := Claim7.holds Tryz.pinned (.plain (OpenSpec.ofChange topIncidentSpec)) topIncidentCard

/-- THE SECOND FORM's CARD OF 'leakresponsetop.TopIncident'. -/
def topIncidentUptoCard : Claim7 := { stood := { row := topIncidentUptoRow, standIns := [], harness := (true, "40671f07c5b6c750291959d61d7611a6d1857fb594c9f3cb4f59638412b4739b"), looks := true }, kinds := [], alts := [], laidByText := true, laidKinds := [.data, .data, .data, .data, .data, .sentinel, .sentinel, .pinned], laidTests := true, laidLooks := .later }
def TopIncidentUptoCardSaid : Prop := Claim7.holds Tryz.pinned (.plain (OpenSpec.upto topIncidentSpec)) topIncidentUptoCard
end Rows
end Go.Proofs.YtdmnaloiileofaaGreatDoor
