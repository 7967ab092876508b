/-
  DERIVED. GIVEN WITH THE SEED: THE CARDS: each row of YtgbaffbfggjmgaaGreatDoorRows.lean that lists a variable, with what it lists TIED to the program's text (the seventh form; the later family's looks); each row that meets fmt, with fmt's text TOLD by the authors' own Lean function (tested against real Go, not proved from fmt's source: count such statements apart). THE CARD IS WHAT COUNTS. Prove the row's statement (the work); the ties are given (YtgbaffbfggjmgaaGreatDoorTie.lean); close each card by the builder's one call (the guide's Derived/Test/ToyasCard.lean, 'card_holds'). Laid BY PROGRAM, IN A SANDBOX (cutbox-door.mjs). By AI agents, Wed Nov 11 2026. No macro, syntax, notation, axiom, sorry.
-/
import Derived.Test.YtgbaffbfggjmgaaGreatDoorRows
import GoSem.ClaimSeven
namespace Go.Proofs.YtgbaffbfggjmgaaGreatDoor
namespace Rows

/-- THE TIED CARD OF 'leakresponselaw05.PatternMeasures'. -/
def patternMeasuresCard : Claim7 := { stood := { row := patternMeasuresRow, standIns := [], harness := (true, "76611152aba823b37053284c39efef415854853f0ea38ea0c2f3fbae40f88950"), looks := true }, kinds := [], alts := [], laidByText := true, laidKinds := [.data, .data, .data, .data, .sentinel, .sentinel, .pinned], laidTests := true, laidLooks := .later }
def PatternMeasuresCardSaid : Prop := Claim7.holds Tryz.pinned (.plain (OpenSpec.ofChange patternMeasuresSpec)) patternMeasuresCard

/-- THE TIED CARD OF 'leakresponselaw05.PatternTexts'. -/
def patternTextsCard : Claim7 := { stood := { row := patternTextsRow, standIns := [], harness := (true, "76611152aba823b37053284c39efef415854853f0ea38ea0c2f3fbae40f88950"), looks := true }, kinds := [], alts := [], laidByText := true, laidKinds := [.data, .data, .data, .data, .sentinel, .sentinel, .pinned], laidTests := true, laidLooks := .later }
def PatternTextsCardSaid : Prop := Claim7.holds Tryz.pinned (.plain (OpenSpec.ofChange patternTextsSpec)) patternTextsCard

/-- THE TIED CARD OF 'leakresponselaw05.PatternParses'. -/
def patternParsesCard : Claim7 := { stood := { row := patternParsesRow, standIns := [], harness := (true, "76611152aba823b37053284c39efef415854853f0ea38ea0c2f3fbae40f88950"), looks := true }, kinds := [], alts := [], laidByText := true, laidKinds := [.data, .data, .data, .data, .sentinel, .sentinel, .pinned], laidTests := true, laidLooks := .later }
def PatternParsesCardSaid : Prop := Claim7.holds Tryz.pinned (.plain (OpenSpec.ofChange patternParsesSpec)) patternParsesCard

/-- THE TIED CARD OF 'leakresponselaw05.PatternBack'. -/
def patternBackCard : Claim7 := { stood := { row := patternBackRow, standIns := [], harness := (true, "76611152aba823b37053284c39efef415854853f0ea38ea0c2f3fbae40f88950"), looks := true }, kinds := [], alts := [], laidByText := true, laidKinds := [.data, .data, .data, .data, .sentinel, .sentinel, .pinned], laidTests := true, laidLooks := .later }
def PatternBackCardSaid : Prop := Claim7.holds Tryz.pinned (.plain (OpenSpec.ofChange patternBackSpec)) patternBackCard

/-- THE TIED CARD OF 'leakresponselaw05.PatternBelongs'. -/
def patternBelongsCard : Claim7 := { stood := { row := patternBelongsRow, standIns := [], harness := (true, "76611152aba823b37053284c39efef415854853f0ea38ea0c2f3fbae40f88950"), looks := true }, kinds := [], alts := [], laidByText := true, laidKinds := [.data, .data, .data, .data, .sentinel, .sentinel, .pinned], laidTests := true, laidLooks := .later }
def PatternBelongsCardSaid : Prop := Claim7.holds Tryz.pinned (.plain (OpenSpec.ofChange patternBelongsSpec)) patternBelongsCard

/-- THE TIED CARD OF 'leakresponselaw05.PatternMembers'. -/
def patternMembersCard : Claim7 := { stood := { row := patternMembersRow, standIns := [], harness := (true, "76611152aba823b37053284c39efef415854853f0ea38ea0c2f3fbae40f88950"), looks := true }, kinds := [], alts := [], laidByText := true, laidKinds := [.data, .data, .data, .data, .sentinel, .sentinel, .pinned], laidTests := true, laidLooks := .later }
def PatternMembersCardSaid : Prop := Claim7.holds Tryz.pinned (.plain (OpenSpec.ofChange patternMembersSpec)) patternMembersCard

/-- THE SECOND FORM's CARD OF 'leakresponselaw05.PatternMeasures'. -/
def patternMeasuresUptoCard : Claim7 := { stood := { row := patternMeasuresUptoRow, standIns := [], harness := (true, "76611152aba823b37053284c39efef415854853f0ea38ea0c2f3fbae40f88950"), looks := true }, kinds := [], alts := [], laidByText := true, laidKinds := [.data, .data, .data, .data, .sentinel, .sentinel, .pinned], laidTests := true, laidLooks := .later }
def PatternMeasuresUptoCardSaid : Prop := Claim7.holds Tryz.pinned (.plain (OpenSpec.upto patternMeasuresSpec)) patternMeasuresUptoCard

/-- THE SECOND FORM's CARD OF 'leakresponselaw05.PatternTexts'. -/
def patternTextsUptoCard : Claim7 := { stood := { row := patternTextsUptoRow, standIns := [], harness := (true, "76611152aba823b37053284c39efef415854853f0ea38ea0c2f3fbae40f88950"), looks := true }, kinds := [], alts := [], laidByText := true, laidKinds := [.data, .data, .data, .data, .sentinel, .sentinel, .pinned], laidTests := true, laidLooks := .later }
def PatternTextsUptoCardSaid : Prop := Claim7.holds Tryz.pinned (.plain (OpenSpec.upto patternTextsSpec)) patternTextsUptoCard

/-- THE SECOND FORM's CARD OF 'leakresponselaw05.PatternParses'. -/
def patternParsesUptoCard : Claim7 := { stood := { row := patternParsesUptoRow, standIns := [], harness := (true, "76611152aba823b37053284c39efef415854853f0ea38ea0c2f3fbae40f88950"), looks := true }, kinds := [], alts := [], laidByText := true, laidKinds := [.data, .data, .data, .data, .sentinel, .sentinel, .pinned], laidTests := true, laidLooks := .later }
def PatternParsesUptoCardSaid : Prop := Claim7.holds Tryz.pinned (.plain (OpenSpec.upto patternParsesSpec)) patternParsesUptoCard

/-- THE SECOND FORM's CARD OF 'leakresponselaw05.PatternBack'. -/
def patternBackUptoCard : Claim7 := { stood := { row := patternBackUptoRow, standIns := [], harness := (true, "76611152aba823b37053284c39efef415854853f0ea38ea0c2f3fbae40f88950"), looks := true }, kinds := [], alts := [], laidByText := true, laidKinds := [.data, .data, .data, .data, .sentinel, .sentinel, .pinned], laidTests := true, laidLooks := .later }
def PatternBackUptoCardSaid : Prop := Claim7.holds Tryz.pinned (.plain (OpenSpec.upto patternBackSpec)) patternBackUptoCard

/-- THE SECOND FORM's CARD OF 'leakresponselaw05.PatternBelongs'. -/
def patternBelongsUptoCard : Claim7 := { stood := { row := patternBelongsUptoRow, standIns := [], harness := (true, "76611152aba823b37053284c39efef415854853f0ea38ea0c2f3fbae40f88950"), looks := true }, kinds := [], alts := [], laidByText := true, laidKinds := [.data, .data, .data, .data, .sentinel, .sentinel, .pinned], laidTests := true, laidLooks := .later }
def PatternBelongsUptoCardSaid : Prop := Claim7.holds Tryz.pinned (.plain (OpenSpec.upto patternBelongsSpec)) patternBelongsUptoCard

/-- THE SECOND FORM's CARD OF 'leakresponselaw05.PatternMembers'. -/
def patternMembersUptoCard : Claim7 := { stood := { row := patternMembersUptoRow, standIns := [], harness := (true, "76611152aba823b37053284c39efef415854853f0ea38ea0c2f3fbae40f88950"), looks := true }, kinds := [], alts := [], laidByText := true, laidKinds := [.data, .data, .data, .data, .sentinel, .sentinel, .pinned], laidTests := true, laidLooks := .later }
def PatternMembersUptoCardSaid : Prop := Claim7.holds Tryz.pinned (.plain (OpenSpec.upto patternMembersSpec)) patternMembersUptoCard
end Rows
end Go.Proofs.YtgbaffbfggjmgaaGreatDoor
