/-
  DERIVED. GIVEN WITH THE SEED: THE CARDS: each row of YtopbblhkapgdkaaDoorRows.lean that lists a variable, with what it lists TIED to the program's text (the seventh form; the later family's looks); each row that meets fmt, with fmt's text TOLD by the authors' own Lean function (tested against real Go, not proved from fmt's source: count such statements apart). THE CARD IS WHAT COUNTS. Prove the row's statement (the work); the ties are given (YtopbblhkapgdkaaDoorTie.lean); close each card by the builder's one call (the guide's Derived/Test/ToyasCard.lean, 'card_holds'). Laid BY PROGRAM, IN A SANDBOX (cutbox-door.mjs). By AI agents, Wed Nov 11 2026. No macro, syntax, notation, axiom, sorry.
-/
import Derived.Test.YtopbblhkapgdkaaDoorRows
import GoSem.ClaimSeven
namespace Go.Proofs.YtopbblhkapgdkaaDoor
namespace Rows

/-- THE TIED CARD OF 'leakresponselaw31.SeverityGrows'. -/
def severityGrowsCard : Claim7 := { stood := { row := severityGrowsRow, standIns := [], harness := (true, "3bde15928ab67176fbfbcf632db98ec628608e83bb8a9a4ca7b2161b649dc9b6"), looks := false }, kinds := [], alts := [], laidByText := true, laidKinds := [.data], laidTests := true, laidLooks := .later }
def SeverityGrowsCardSaid : Prop := Claim7.holds Tryd.pinned (.plain (OpenSpec.ofChange severityGrowsSpec)) severityGrowsCard

/-- THE TIED CARD OF 'leakresponselaw31.SeverityParts'. -/
def severityPartsCard : Claim7 := { stood := { row := severityPartsRow, standIns := [], harness := (true, "3bde15928ab67176fbfbcf632db98ec628608e83bb8a9a4ca7b2161b649dc9b6"), looks := false }, kinds := [], alts := [], laidByText := true, laidKinds := [.data], laidTests := true, laidLooks := .later }
def SeverityPartsCardSaid : Prop := Claim7.holds Tryd.pinned (.plain (OpenSpec.ofChange severityPartsSpec)) severityPartsCard

/-- THE TIED CARD OF 'leakresponselaw31.SeverityLevels'. -/
def severityLevelsCard : Claim7 := { stood := { row := severityLevelsRow, standIns := [], harness := (true, "3bde15928ab67176fbfbcf632db98ec628608e83bb8a9a4ca7b2161b649dc9b6"), looks := false }, kinds := [], alts := [], laidByText := true, laidKinds := [.data], laidTests := true, laidLooks := .later }
def SeverityLevelsCardSaid : Prop := Claim7.holds Tryd.pinned (.plain (OpenSpec.ofChange severityLevelsSpec)) severityLevelsCard

/-- THE TIED CARD OF 'leakresponselaw31.SeverityExact'. -/
def severityExactCard : Claim7 := { stood := { row := severityExactRow, standIns := [], harness := (true, "3bde15928ab67176fbfbcf632db98ec628608e83bb8a9a4ca7b2161b649dc9b6"), looks := false }, kinds := [], alts := [], laidByText := true, laidKinds := [.data], laidTests := true, laidLooks := .later }
def SeverityExactCardSaid : Prop := Claim7.holds Tryd.pinned (.plain (OpenSpec.ofChange severityExactSpec)) severityExactCard

/-- THE TIED CARD OF 'leakresponselaw31.SeverityWorst'. -/
def severityWorstCard : Claim7 := { stood := { row := severityWorstRow, standIns := [], harness := (true, "3bde15928ab67176fbfbcf632db98ec628608e83bb8a9a4ca7b2161b649dc9b6"), looks := false }, kinds := [], alts := [], laidByText := true, laidKinds := [.data], laidTests := true, laidLooks := .later }
def SeverityWorstCardSaid : Prop := Claim7.holds Tryd.pinned (.plain (OpenSpec.ofChange severityWorstSpec)) severityWorstCard

/-- THE SECOND FORM's CARD OF 'leakresponselaw31.SeverityGrows'. -/
def severityGrowsUptoCard : Claim7 := { stood := { row := severityGrowsUptoRow, standIns := [], harness := (true, "3bde15928ab67176fbfbcf632db98ec628608e83bb8a9a4ca7b2161b649dc9b6"), looks := false }, kinds := [], alts := [], laidByText := true, laidKinds := [.data], laidTests := true, laidLooks := .later }
def SeverityGrowsUptoCardSaid : Prop := Claim7.holds Tryd.pinned (.plain (OpenSpec.upto severityGrowsSpec)) severityGrowsUptoCard

/-- THE SECOND FORM's CARD OF 'leakresponselaw31.SeverityParts'. -/
def severityPartsUptoCard : Claim7 := { stood := { row := severityPartsUptoRow, standIns := [], harness := (true, "3bde15928ab67176fbfbcf632db98ec628608e83bb8a9a4ca7b2161b649dc9b6"), looks := false }, kinds := [], alts := [], laidByText := true, laidKinds := [.data], laidTests := true, laidLooks := .later }
def SeverityPartsUptoCardSaid : Prop := Claim7.holds Tryd.pinned (.plain (OpenSpec.upto severityPartsSpec)) severityPartsUptoCard

/-- THE SECOND FORM's CARD OF 'leakresponselaw31.SeverityLevels'. -/
def severityLevelsUptoCard : Claim7 := { stood := { row := severityLevelsUptoRow, standIns := [], harness := (true, "3bde15928ab67176fbfbcf632db98ec628608e83bb8a9a4ca7b2161b649dc9b6"), looks := false }, kinds := [], alts := [], laidByText := true, laidKinds := [.data], laidTests := true, laidLooks := .later }
def SeverityLevelsUptoCardSaid : Prop := Claim7.holds Tryd.pinned (.plain (OpenSpec.upto severityLevelsSpec)) severityLevelsUptoCard

/-- THE SECOND FORM's CARD OF 'leakresponselaw31.SeverityExact'. -/
def severityExactUptoCard : Claim7 := { stood := { row := severityExactUptoRow, standIns := [], harness := (true, "3bde15928ab67176fbfbcf632db98ec628608e83bb8a9a4ca7b2161b649dc9b6"), looks := false }, kinds := [], alts := [], laidByText := true, laidKinds := [.data], laidTests := true, laidLooks := .later }
def SeverityExactUptoCardSaid : Prop := Claim7.holds Tryd.pinned (.plain (OpenSpec.upto severityExactSpec)) severityExactUptoCard

/-- THE SECOND FORM's CARD OF 'leakresponselaw31.SeverityWorst'. -/
def severityWorstUptoCard : Claim7 := { stood := { row := severityWorstUptoRow, standIns := [], harness := (true, "3bde15928ab67176fbfbcf632db98ec628608e83bb8a9a4ca7b2161b649dc9b6"), looks := false }, kinds := [], alts := [], laidByText := true, laidKinds := [.data], laidTests := true, laidLooks := .later }
def SeverityWorstUptoCardSaid : Prop := Claim7.holds Tryd.pinned (.plain (OpenSpec.upto severityWorstSpec)) severityWorstUptoCard
end Rows
end Go.Proofs.YtopbblhkapgdkaaDoor
