/-
  DERIVED. GIVEN WITH THE SEED: THE CARDS: each row of YtdcjekffkibboaaDoorRows.lean that lists a variable, with what it lists TIED to the program's text (the seventh form; the later family's looks); each row that meets fmt, with fmt's text TOLD by the authors' own Lean function (tested against real Go, not proved from fmt's source: count such statements apart). THE CARD IS WHAT COUNTS. Prove the row's statement (the work); the ties are given (YtdcjekffkibboaaDoorTie.lean); close each card by the builder's one call (the guide's Derived/Test/ToyasCard.lean, 'card_holds'). Laid BY PROGRAM, IN A SANDBOX (cutbox-door.mjs). By AI agents, Wed Nov 11 2026. No macro, syntax, notation, axiom, sorry.
-/
import Derived.Test.YtdcjekffkibboaaDoorRows
import GoSem.ClaimSeven
namespace Go.Proofs.YtdcjekffkibboaaDoor
namespace Rows

/-- THE TIED CARD OF 'leakresponselaw14.PackOrder'. -/
def packOrderCard : Claim7 := { stood := { row := packOrderRow, standIns := [], harness := (true, "1357e8fe76bbed2736684ffc499e4fd2bd2988f5cdf299d10910714ad153635b"), looks := true }, kinds := [], alts := [], laidByText := true, laidKinds := [.data, .data, .data, .sentinel, .sentinel], laidTests := true, laidLooks := .later }
def PackOrderCardSaid : Prop := Claim7.holds Tryd.pinned (.plain (OpenSpec.ofChange packOrderSpec)) packOrderCard

/-- THE TIED CARD OF 'leakresponselaw14.PackChains'. -/
def packChainsCard : Claim7 := { stood := { row := packChainsRow, standIns := [], harness := (true, "1357e8fe76bbed2736684ffc499e4fd2bd2988f5cdf299d10910714ad153635b"), looks := true }, kinds := [], alts := [], laidByText := true, laidKinds := [.data, .data, .data, .sentinel, .sentinel], laidTests := true, laidLooks := .later }
def PackChainsCardSaid : Prop := Claim7.holds Tryd.pinned (.plain (OpenSpec.ofChange packChainsSpec)) packChainsCard

/-- THE TIED CARD OF 'leakresponselaw14.PackPlain'. -/
def packPlainCard : Claim7 := { stood := { row := packPlainRow, standIns := [], harness := (true, "1357e8fe76bbed2736684ffc499e4fd2bd2988f5cdf299d10910714ad153635b"), looks := true }, kinds := [], alts := [], laidByText := true, laidKinds := [.data, .data, .data, .sentinel, .sentinel], laidTests := true, laidLooks := .later }
def PackPlainCardSaid : Prop := Claim7.holds Tryd.pinned (.plain (OpenSpec.ofChange packPlainSpec)) packPlainCard

/-- THE SECOND FORM's CARD OF 'leakresponselaw14.PackOrder'. -/
def packOrderUptoCard : Claim7 := { stood := { row := packOrderUptoRow, standIns := [], harness := (true, "1357e8fe76bbed2736684ffc499e4fd2bd2988f5cdf299d10910714ad153635b"), looks := true }, kinds := [], alts := [], laidByText := true, laidKinds := [.data, .data, .data, .sentinel, .sentinel], laidTests := true, laidLooks := .later }
def PackOrderUptoCardSaid : Prop := Claim7.holds Tryd.pinned (.plain (OpenSpec.upto packOrderSpec)) packOrderUptoCard

/-- THE SECOND FORM's CARD OF 'leakresponselaw14.PackChains'. -/
def packChainsUptoCard : Claim7 := { stood := { row := packChainsUptoRow, standIns := [], harness := (true, "1357e8fe76bbed2736684ffc499e4fd2bd2988f5cdf299d10910714ad153635b"), looks := true }, kinds := [], alts := [], laidByText := true, laidKinds := [.data, .data, .data, .sentinel, .sentinel], laidTests := true, laidLooks := .later }
def PackChainsUptoCardSaid : Prop := Claim7.holds Tryd.pinned (.plain (OpenSpec.upto packChainsSpec)) packChainsUptoCard

/-- THE SECOND FORM's CARD OF 'leakresponselaw14.PackPlain'. -/
def packPlainUptoCard : Claim7 := { stood := { row := packPlainUptoRow, standIns := [], harness := (true, "1357e8fe76bbed2736684ffc499e4fd2bd2988f5cdf299d10910714ad153635b"), looks := true }, kinds := [], alts := [], laidByText := true, laidKinds := [.data, .data, .data, .sentinel, .sentinel], laidTests := true, laidLooks := .later }
def PackPlainUptoCardSaid : Prop := Claim7.holds Tryd.pinned (.plain (OpenSpec.upto packPlainSpec)) packPlainUptoCard
end Rows
end Go.Proofs.YtdcjekffkibboaaDoor
