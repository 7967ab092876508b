/-
  DERIVED. GIVEN WITH THE SEED: THE CARDS: each row of YtoojdaakeiadjaaGreatDoorRows.lean that lists a variable, with what it lists TIED to the program's text (the seventh form; the later family's looks); each row that meets fmt, with fmt's text TOLD by the authors' own Lean function (tested against real Go, not proved from fmt's source: count such statements apart). THE CARD IS WHAT COUNTS. Prove the row's statement (the work); the ties are given (YtoojdaakeiadjaaGreatDoorTie.lean); close each card by the builder's one call (the guide's Derived/Test/ToyasCard.lean, 'card_holds'). Laid BY PROGRAM, IN A SANDBOX (cutbox-door.mjs). By AI agents, Wed Nov 11 2026. No macro, syntax, notation, axiom, sorry.
-/
import Derived.Test.YtoojdaakeiadjaaGreatDoorRows
import GoSem.ClaimSeven
namespace Go.Proofs.YtoojdaakeiadjaaGreatDoor
namespace Rows

/-- THE TIED CARD OF 'leakresponselaw21.RuleParses'. -/
def ruleParsesCard : Claim7 := { stood := { row := ruleParsesRow, standIns := [], harness := (true, "435863e3c183cbe5679b32a9542ef8b1663a7755ef21bf4bf2a95e5cc9f74183"), looks := true }, kinds := [], alts := [], laidByText := true, laidKinds := [.data, .data, .data, .data, .sentinel, .sentinel, .pinned], laidTests := true, laidLooks := .later }
def RuleParsesCardSaid : Prop := Claim7.holds Tryz.pinned (.plain (OpenSpec.ofChange ruleParsesSpec)) ruleParsesCard

/-- THE TIED CARD OF 'leakresponselaw21.RuleFirst'. -/
def ruleFirstCard : Claim7 := { stood := { row := ruleFirstRow, standIns := [], harness := (true, "435863e3c183cbe5679b32a9542ef8b1663a7755ef21bf4bf2a95e5cc9f74183"), looks := true }, kinds := [], alts := [], laidByText := true, laidKinds := [.data, .data, .data, .data, .sentinel, .sentinel, .pinned], laidTests := true, laidLooks := .later }
def RuleFirstCardSaid : Prop := Claim7.holds Tryz.pinned (.plain (OpenSpec.ofChange ruleFirstSpec)) ruleFirstCard

/-- THE TIED CARD OF 'leakresponselaw21.RuleLogic'. -/
def ruleLogicCard : Claim7 := { stood := { row := ruleLogicRow, standIns := [], harness := (true, "435863e3c183cbe5679b32a9542ef8b1663a7755ef21bf4bf2a95e5cc9f74183"), looks := true }, kinds := [], alts := [], laidByText := true, laidKinds := [.data, .data, .data, .data, .sentinel, .sentinel, .pinned], laidTests := true, laidLooks := .later }
def RuleLogicCardSaid : Prop := Claim7.holds Tryz.pinned (.plain (OpenSpec.ofChange ruleLogicSpec)) ruleLogicCard

/-- THE TIED CARD OF 'leakresponselaw21.RuleExact'. -/
def ruleExactCard : Claim7 := { stood := { row := ruleExactRow, standIns := [], harness := (true, "435863e3c183cbe5679b32a9542ef8b1663a7755ef21bf4bf2a95e5cc9f74183"), looks := true }, kinds := [], alts := [], laidByText := true, laidKinds := [.data, .data, .data, .data, .sentinel, .sentinel, .pinned], laidTests := true, laidLooks := .later }
def RuleExactCardSaid : Prop := Claim7.holds Tryz.pinned (.plain (OpenSpec.ofChange ruleExactSpec)) ruleExactCard

/-- THE TIED CARD OF 'leakresponselaw21.RuleTexts'. -/
def ruleTextsCard : Claim7 := { stood := { row := ruleTextsRow, standIns := [], harness := (true, "435863e3c183cbe5679b32a9542ef8b1663a7755ef21bf4bf2a95e5cc9f74183"), looks := true }, kinds := [], alts := [], laidByText := true, laidKinds := [.data, .data, .data, .data, .sentinel, .sentinel, .pinned], laidTests := true, laidLooks := .later }
def RuleTextsCardSaid : Prop := Claim7.holds Tryz.pinned (.plain (OpenSpec.ofChange ruleTextsSpec)) ruleTextsCard

/-- THE TIED CARD OF 'leakresponselaw21.RuleBack'. -/
def ruleBackCard : Claim7 := { stood := { row := ruleBackRow, standIns := [], harness := (true, "435863e3c183cbe5679b32a9542ef8b1663a7755ef21bf4bf2a95e5cc9f74183"), looks := true }, kinds := [], alts := [], laidByText := true, laidKinds := [.data, .data, .data, .data, .sentinel, .sentinel, .pinned], laidTests := true, laidLooks := .later }
def RuleBackCardSaid : Prop := Claim7.holds Tryz.pinned (.plain (OpenSpec.ofChange ruleBackSpec)) ruleBackCard

/-- THE SECOND FORM's CARD OF 'leakresponselaw21.RuleParses'. -/
def ruleParsesUptoCard : Claim7 := { stood := { row := ruleParsesUptoRow, standIns := [], harness := (true, "435863e3c183cbe5679b32a9542ef8b1663a7755ef21bf4bf2a95e5cc9f74183"), looks := true }, kinds := [], alts := [], laidByText := true, laidKinds := [.data, .data, .data, .data, .sentinel, .sentinel, .pinned], laidTests := true, laidLooks := .later }
def RuleParsesUptoCardSaid : Prop := Claim7.holds Tryz.pinned (.plain (OpenSpec.upto ruleParsesSpec)) ruleParsesUptoCard

/-- THE SECOND FORM's CARD OF 'leakresponselaw21.RuleFirst'. -/
def ruleFirstUptoCard : Claim7 := { stood := { row := ruleFirstUptoRow, standIns := [], harness := (true, "435863e3c183cbe5679b32a9542ef8b1663a7755ef21bf4bf2a95e5cc9f74183"), looks := true }, kinds := [], alts := [], laidByText := true, laidKinds := [.data, .data, .data, .data, .sentinel, .sentinel, .pinned], laidTests := true, laidLooks := .later }
def RuleFirstUptoCardSaid : Prop := Claim7.holds Tryz.pinned (.plain (OpenSpec.upto ruleFirstSpec)) ruleFirstUptoCard

/-- THE SECOND FORM's CARD OF 'leakresponselaw21.RuleLogic'. -/
def ruleLogicUptoCard : Claim7 := { stood := { row := ruleLogicUptoRow, standIns := [], harness := (true, "435863e3c183cbe5679b32a9542ef8b1663a7755ef21bf4bf2a95e5cc9f74183"), looks := true }, kinds := [], alts := [], laidByText := true, laidKinds := [.data, .data, .data, .data, .sentinel, .sentinel, .pinned], laidTests := true, laidLooks := .later }
def RuleLogicUptoCardSaid : Prop := Claim7.holds Tryz.pinned (.plain (OpenSpec.upto ruleLogicSpec)) ruleLogicUptoCard

/-- THE SECOND FORM's CARD OF 'leakresponselaw21.RuleExact'. -/
def ruleExactUptoCard : Claim7 := { stood := { row := ruleExactUptoRow, standIns := [], harness := (true, "435863e3c183cbe5679b32a9542ef8b1663a7755ef21bf4bf2a95e5cc9f74183"), looks := true }, kinds := [], alts := [], laidByText := true, laidKinds := [.data, .data, .data, .data, .sentinel, .sentinel, .pinned], laidTests := true, laidLooks := .later }
def RuleExactUptoCardSaid : Prop := Claim7.holds Tryz.pinned (.plain (OpenSpec.upto ruleExactSpec)) ruleExactUptoCard

/-- THE SECOND FORM's CARD OF 'leakresponselaw21.RuleTexts'. -/
def ruleTextsUptoCard : Claim7 := { stood := { row := ruleTextsUptoRow, standIns := [], harness := (true, "435863e3c183cbe5679b32a9542ef8b1663a7755ef21bf4bf2a95e5cc9f74183"), looks := true }, kinds := [], alts := [], laidByText := true, laidKinds := [.data, .data, .data, .data, .sentinel, .sentinel, .pinned], laidTests := true, laidLooks := .later }
def RuleTextsUptoCardSaid : Prop := Claim7.holds Tryz.pinned (.plain (OpenSpec.upto ruleTextsSpec)) ruleTextsUptoCard

/-- THE SECOND FORM's CARD OF 'leakresponselaw21.RuleBack'. -/
def ruleBackUptoCard : Claim7 := { stood := { row := ruleBackUptoRow, standIns := [], harness := (true, "435863e3c183cbe5679b32a9542ef8b1663a7755ef21bf4bf2a95e5cc9f74183"), looks := true }, kinds := [], alts := [], laidByText := true, laidKinds := [.data, .data, .data, .data, .sentinel, .sentinel, .pinned], laidTests := true, laidLooks := .later }
def RuleBackUptoCardSaid : Prop := Claim7.holds Tryz.pinned (.plain (OpenSpec.upto ruleBackSpec)) ruleBackUptoCard
end Rows
end Go.Proofs.YtoojdaakeiadjaaGreatDoor
