/-
  DERIVED. GIVEN WITH THE SEED: THE CARDS: each row of YtdcjekffkibboaaGreatDoorRows.lean that lists a variable, with what it lists TIED to the program's text (the seventh form; the later family's looks); each row that meets fmt, with fmt's text TOLD by the authors' own Lean function (tested against real Go, not proved from fmt's source: count such statements apart). THE CARD IS WHAT COUNTS. Prove the row's statement (the work); the ties are given (YtdcjekffkibboaaGreatDoorTie.lean); close each card by the builder's one call (the guide's Derived/Test/ToyasCard.lean, 'card_holds'). Laid BY PROGRAM, IN A SANDBOX (cutbox-door.mjs). By AI agents, Wed Nov 11 2026. No macro, syntax, notation, axiom, sorry.
-/
import Derived.Test.YtdcjekffkibboaaGreatDoorRows
import GoSem.ClaimSeven
namespace Go.Proofs.YtdcjekffkibboaaGreatDoor
namespace Rows

/-- THE TIED CARD OF 'leakresponselaw14.PackMakes'. -/
def packMakesCard : Claim7 := { stood := { row := packMakesRow, standIns := [], harness := (true, "1d1eb47577249e3980c260fbd18e481bea6e4527a101faee64c77249f7b94a6e"), looks := true }, kinds := [], alts := [], laidByText := true, laidKinds := [.data, .data, .data, .sentinel, .sentinel], laidTests := true, laidLooks := .later }
def PackMakesCardSaid : Prop := Claim7.holds Tryz.pinned (.plain (OpenSpec.ofChange packMakesSpec)) packMakesCard

/-- THE SECOND FORM's CARD OF 'leakresponselaw14.PackMakes'. -/
def packMakesUptoCard : Claim7 := { stood := { row := packMakesUptoRow, standIns := [], harness := (true, "1d1eb47577249e3980c260fbd18e481bea6e4527a101faee64c77249f7b94a6e"), looks := true }, kinds := [], alts := [], laidByText := true, laidKinds := [.data, .data, .data, .sentinel, .sentinel], laidTests := true, laidLooks := .later }
def PackMakesUptoCardSaid : Prop := Claim7.holds Tryz.pinned (.plain (OpenSpec.upto packMakesSpec)) packMakesUptoCard
end Rows
end Go.Proofs.YtdcjekffkibboaaGreatDoor
