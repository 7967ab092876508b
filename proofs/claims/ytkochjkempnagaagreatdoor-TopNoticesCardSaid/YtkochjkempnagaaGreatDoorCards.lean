/-
  DERIVED. GIVEN WITH THE SEED: THE CARDS: each row of YtkochjkempnagaaGreatDoorRows.lean that lists a variable, with what it lists TIED to the program's text (the seventh form; the later family's looks); each row that meets fmt, with fmt's text TOLD by the authors' own Lean function (tested against real Go, not proved from fmt's source: count such statements apart). THE CARD IS WHAT COUNTS. Prove the row's statement (the work); the ties are given (YtkochjkempnagaaGreatDoorTie.lean); close each card by the builder's one call (the guide's Derived/Test/ToyasCard.lean, 'card_holds'). Laid BY PROGRAM, IN A SANDBOX (cutbox-door.mjs). By AI agents, Wed Nov 11 2026. No macro, syntax, notation, axiom, sorry.
-/
import Derived.Test.YtkochjkempnagaaGreatDoorRows
import GoSem.ClaimSeven
namespace Go.Proofs.YtkochjkempnagaaGreatDoor
namespace Rows

/-- THE TIED CARD OF 'leakresponsetop.TopNotices'. -/
def topNoticesCard : Claim7 := { stood := { row := topNoticesRow, standIns := [], harness := (true, "793f583f5fc2bb37f0390fbb8660de4d07276d57b44711c7fd923b2322da15ac"), looks := true }, kinds := [], alts := [], laidByText := true, laidKinds := [.data, .data, .data, .data, .data, .sentinel, .sentinel, .pinned], laidTests := true, laidLooks := .later }
def TopNoticesCardSaid : Prop := Claim7.holds Tryz.pinned (.plain (OpenSpec.ofChange topNoticesSpec)) topNoticesCard

/-- THE SECOND FORM's CARD OF 'leakresponsetop.TopNotices'. -/
def topNoticesUptoCard : Claim7 := { stood := { row := topNoticesUptoRow, standIns := [], harness := (true, "793f583f5fc2bb37f0390fbb8660de4d07276d57b44711c7fd923b2322da15ac"), looks := true }, kinds := [], alts := [], laidByText := true, laidKinds := [.data, .data, .data, .data, .data, .sentinel, .sentinel, .pinned], laidTests := true, laidLooks := .later }
def TopNoticesUptoCardSaid : Prop := Claim7.holds Tryz.pinned (.plain (OpenSpec.upto topNoticesSpec)) topNoticesUptoCard
end Rows
end Go.Proofs.YtkochjkempnagaaGreatDoor
