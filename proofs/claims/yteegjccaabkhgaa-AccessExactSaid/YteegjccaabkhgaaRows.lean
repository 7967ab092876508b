/-
  No cell of these rows narrows 'for every input' (looked for: loops, veiled, ifaces, maps, wideKeys, modest, calm, conditions, laid).
  DERIVED. THE GIVEN ROWS OF THIS SEAT. 6 by the template 'for every input the law returns true; each argument reads behind the call as it read before'; 0 by the template 'total and deterministic' (their statements: YteegjccaabkhgaaTotals.lean).
  GIVEN WITH THE SEED: the statements are not yours to turn. If you find one false, say at which input.
  Laid BY PROGRAM, IN A SANDBOX (cutbox-rows.mjs): the forced cells as the released guide's own fill.sh prints them over the translation 9349d94613718150… (all of the seat's roots in one cut). By AI agents, Wed Nov 11 2026. No macro, syntax, notation, axiom, sorry.
-/
import Derived.Test.YteegjccaabkhgaaChecked
import GoSem.Claim
import GoSem.ClaimJoined
import GoSem.ClaimMapViews
import Derived.JoinedTies
import Derived.KernelRfl
namespace Go.Proofs.Yteegjccaabkhgaa
/- THE CELL 'sum', in the pinned program and in every row, IS THE sha256 OF THE DUMP (.gsa) THAT YteegjccaabkhgaaProg.lean LOADS. Nothing in Lean hashes anything: it is a label: what it is worth is what the hold of that sum in a sandbox is worth. -/
noncomputable def Try.pinned : Pinned := { name := "yteegjccaabkhgaa", sum := "9349d9461371815069ce0bc991f42b7fbc0209aafd0f916abe10c56600901e28", checked := Try.checked }
namespace Rows
def none {H : Type} : Left H := { results := [], args := [] }

/-- 'leakresponselaw27.AccessRevokes': WHATEVER THE INPUT: true; the input reads as it did. -/
def accessRevokesSpec : ChangeSpec := { name := "accessRevokes", fn := fun _ => fun
  | [d] => { results := [.lit (.bool true)], args := [d] }
  | _ => none }
def accessRevokesRow : OpenClaim := { program := "yteegjccaabkhgaa", sum := "9349d9461371815069ce0bc991f42b7fbc0209aafd0f916abe10c56600901e28", func := "leakresponse/leakresponselaw27.AccessRevokes", spec := "accessRevokes", unfollowed := true, recurses := true, apart := false }
def AccessRevokesSaid : Prop := accessRevokesRow.holds Try.pinned (OpenSpec.ofChange accessRevokesSpec)

/-- ITS FALSE NEIGHBOUR: 'it returns false'. Refute it at one input. -/
def accessRevokesWrong : ChangeSpec := { name := "accessRevokes", fn := fun _ => fun
  | [d] => { results := [.lit (.bool false)], args := [d] }
  | _ => none }
def AccessRevokesWrongFalsely : Prop := accessRevokesRow.holds Try.pinned (OpenSpec.ofChange accessRevokesWrong)

/-- 'leakresponselaw27.AccessCut': WHATEVER THE INPUT: true; the input reads as it did. -/
def accessCutSpec : ChangeSpec := { name := "accessCut", fn := fun _ => fun
  | [d] => { results := [.lit (.bool true)], args := [d] }
  | _ => none }
def accessCutRow : OpenClaim := { program := "yteegjccaabkhgaa", sum := "9349d9461371815069ce0bc991f42b7fbc0209aafd0f916abe10c56600901e28", func := "leakresponse/leakresponselaw27.AccessCut", spec := "accessCut", unfollowed := true, recurses := true, apart := false }
def AccessCutSaid : Prop := accessCutRow.holds Try.pinned (OpenSpec.ofChange accessCutSpec)

/-- ITS FALSE NEIGHBOUR: 'it returns false'. Refute it at one input. -/
def accessCutWrong : ChangeSpec := { name := "accessCut", fn := fun _ => fun
  | [d] => { results := [.lit (.bool false)], args := [d] }
  | _ => none }
def AccessCutWrongFalsely : Prop := accessCutRow.holds Try.pinned (OpenSpec.ofChange accessCutWrong)

/-- 'leakresponselaw27.AccessPlaces': WHATEVER THE INPUT: true; the input reads as it did. -/
def accessPlacesSpec : ChangeSpec := { name := "accessPlaces", fn := fun _ => fun
  | [d] => { results := [.lit (.bool true)], args := [d] }
  | _ => none }
def accessPlacesRow : OpenClaim := { program := "yteegjccaabkhgaa", sum := "9349d9461371815069ce0bc991f42b7fbc0209aafd0f916abe10c56600901e28", func := "leakresponse/leakresponselaw27.AccessPlaces", spec := "accessPlaces", unfollowed := true, recurses := true, apart := false }
def AccessPlacesSaid : Prop := accessPlacesRow.holds Try.pinned (OpenSpec.ofChange accessPlacesSpec)

/-- ITS FALSE NEIGHBOUR: 'it returns false'. Refute it at one input. -/
def accessPlacesWrong : ChangeSpec := { name := "accessPlaces", fn := fun _ => fun
  | [d] => { results := [.lit (.bool false)], args := [d] }
  | _ => none }
def AccessPlacesWrongFalsely : Prop := accessPlacesRow.holds Try.pinned (OpenSpec.ofChange accessPlacesWrong)

/-- 'leakresponselaw27.AccessGrants': WHATEVER THE INPUT: true; the input reads as it did. -/
def accessGrantsSpec : ChangeSpec := { name := "accessGrants", fn := fun _ => fun
  | [d] => { results := [.lit (.bool true)], args := [d] }
  | _ => none }
def accessGrantsRow : OpenClaim := { program := "yteegjccaabkhgaa", sum := "9349d9461371815069ce0bc991f42b7fbc0209aafd0f916abe10c56600901e28", func := "leakresponse/leakresponselaw27.AccessGrants", spec := "accessGrants", unfollowed := true, recurses := true, apart := false }
def AccessGrantsSaid : Prop := accessGrantsRow.holds Try.pinned (OpenSpec.ofChange accessGrantsSpec)

/-- ITS FALSE NEIGHBOUR: 'it returns false'. Refute it at one input. -/
def accessGrantsWrong : ChangeSpec := { name := "accessGrants", fn := fun _ => fun
  | [d] => { results := [.lit (.bool false)], args := [d] }
  | _ => none }
def AccessGrantsWrongFalsely : Prop := accessGrantsRow.holds Try.pinned (OpenSpec.ofChange accessGrantsWrong)

/-- 'leakresponselaw27.AccessQuiet': WHATEVER THE INPUT: true; the input reads as it did. -/
def accessQuietSpec : ChangeSpec := { name := "accessQuiet", fn := fun _ => fun
  | [d] => { results := [.lit (.bool true)], args := [d] }
  | _ => none }
def accessQuietRow : OpenClaim := { program := "yteegjccaabkhgaa", sum := "9349d9461371815069ce0bc991f42b7fbc0209aafd0f916abe10c56600901e28", func := "leakresponse/leakresponselaw27.AccessQuiet", spec := "accessQuiet", unfollowed := true, recurses := true, apart := false }
def AccessQuietSaid : Prop := accessQuietRow.holds Try.pinned (OpenSpec.ofChange accessQuietSpec)

/-- ITS FALSE NEIGHBOUR: 'it returns false'. Refute it at one input. -/
def accessQuietWrong : ChangeSpec := { name := "accessQuiet", fn := fun _ => fun
  | [d] => { results := [.lit (.bool false)], args := [d] }
  | _ => none }
def AccessQuietWrongFalsely : Prop := accessQuietRow.holds Try.pinned (OpenSpec.ofChange accessQuietWrong)

/-- 'leakresponselaw27.AccessExact': WHATEVER THE INPUT: true; the input reads as it did. -/
def accessExactSpec : ChangeSpec := { name := "accessExact", fn := fun _ => fun
  | [d1, d2, d3, d4, d5] => { results := [.lit (.bool true)], args := [d1, d2, d3, d4, d5] }
  | _ => none }
def accessExactRow : OpenClaim := { program := "yteegjccaabkhgaa", sum := "9349d9461371815069ce0bc991f42b7fbc0209aafd0f916abe10c56600901e28", func := "leakresponse/leakresponselaw27.AccessExact", spec := "accessExact", unfollowed := true, recurses := true, apart := false }
def AccessExactSaid : Prop := accessExactRow.holds Try.pinned (OpenSpec.ofChange accessExactSpec)

/-- ITS FALSE NEIGHBOUR: 'it returns false'. Refute it at one input. -/
def accessExactWrong : ChangeSpec := { name := "accessExact", fn := fun _ => fun
  | [d1, d2, d3, d4, d5] => { results := [.lit (.bool false)], args := [d1, d2, d3, d4, d5] }
  | _ => none }
def AccessExactWrongFalsely : Prop := accessExactRow.holds Try.pinned (OpenSpec.ofChange accessExactWrong)

/- THE SECOND FORM. 'bulk': how many values and letters a reading holds, each counted each time it is reached (what is shared counts as often as it is met; a slice's spare places count too). A statement '..UptoSaid' is the law's where the arguments, and the package variables that the reading takes, are together of bulk at most 1048576: NARROWER than '..Said'. Prove '..Said' where nothing that the law and all that it calls make is longer than what came in: it says more and counts as full. Else prove '..UptoSaid'. A law counts once. -/
mutual
def uptoBulk {H : Type} : DataW H → Nat
  | .lit (.string bytes) => bytes.length + 1
  | .lit _ => 1
  | .nil => 1
  | .ptr d => uptoBulk d + 1
  | .slice elems spare => uptoBulkAll elems + uptoBulkAll spare + 1
  | .agg parts => uptoBulkAll parts + 1
  | .iface _ d => uptoBulk d + 1
  | .map entries => uptoBulkEntries entries + 1
  | .held _ => 1
def uptoBulkAll {H : Type} : List (DataW H) → Nat
  | [] => 0
  | d :: r => uptoBulk d + uptoBulkAll r
def uptoBulkEntries {H : Type} : List (Lit × DataW H) → Nat
  | [] => 0
  | x :: r => uptoBulkEntry x + uptoBulkEntries r
def uptoBulkEntry {H : Type} : Lit × DataW H → Nat
  | (.string bytes, d) => bytes.length + uptoBulk d + 1
  | (_, d) => uptoBulk d + 1
 end
def uptoSmall : (H : Type) → List (DataW H) → Bool := fun _ ds => decide (uptoBulkAll ds ≤ 1048576)
def OpenSpec.upto (s : _root_.Go.ChangeSpec) : _root_.Go.OpenSpec := { _root_.Go.OpenSpec.ofChange s with cond := some uptoSmall }

/-- 'leakresponselaw27.AccessRevokes', WHERE WHAT IT READS IS OF BULK AT MOST 1048576: true; the input reads as it did. -/
def accessRevokesUptoRow : OpenClaim := { program := "yteegjccaabkhgaa", sum := "9349d9461371815069ce0bc991f42b7fbc0209aafd0f916abe10c56600901e28", func := "leakresponse/leakresponselaw27.AccessRevokes", spec := "accessRevokes", unfollowed := true, recurses := true, apart := false, narrowed := true }
def AccessRevokesUptoSaid : Prop := accessRevokesUptoRow.holds Try.pinned (OpenSpec.upto accessRevokesSpec)

/-- 'leakresponselaw27.AccessCut', WHERE WHAT IT READS IS OF BULK AT MOST 1048576: true; the input reads as it did. -/
def accessCutUptoRow : OpenClaim := { program := "yteegjccaabkhgaa", sum := "9349d9461371815069ce0bc991f42b7fbc0209aafd0f916abe10c56600901e28", func := "leakresponse/leakresponselaw27.AccessCut", spec := "accessCut", unfollowed := true, recurses := true, apart := false, narrowed := true }
def AccessCutUptoSaid : Prop := accessCutUptoRow.holds Try.pinned (OpenSpec.upto accessCutSpec)

/-- 'leakresponselaw27.AccessPlaces', WHERE WHAT IT READS IS OF BULK AT MOST 1048576: true; the input reads as it did. -/
def accessPlacesUptoRow : OpenClaim := { program := "yteegjccaabkhgaa", sum := "9349d9461371815069ce0bc991f42b7fbc0209aafd0f916abe10c56600901e28", func := "leakresponse/leakresponselaw27.AccessPlaces", spec := "accessPlaces", unfollowed := true, recurses := true, apart := false, narrowed := true }
def AccessPlacesUptoSaid : Prop := accessPlacesUptoRow.holds Try.pinned (OpenSpec.upto accessPlacesSpec)

/-- 'leakresponselaw27.AccessGrants', WHERE WHAT IT READS IS OF BULK AT MOST 1048576: true; the input reads as it did. -/
def accessGrantsUptoRow : OpenClaim := { program := "yteegjccaabkhgaa", sum := "9349d9461371815069ce0bc991f42b7fbc0209aafd0f916abe10c56600901e28", func := "leakresponse/leakresponselaw27.AccessGrants", spec := "accessGrants", unfollowed := true, recurses := true, apart := false, narrowed := true }
def AccessGrantsUptoSaid : Prop := accessGrantsUptoRow.holds Try.pinned (OpenSpec.upto accessGrantsSpec)

/-- 'leakresponselaw27.AccessQuiet', WHERE WHAT IT READS IS OF BULK AT MOST 1048576: true; the input reads as it did. -/
def accessQuietUptoRow : OpenClaim := { program := "yteegjccaabkhgaa", sum := "9349d9461371815069ce0bc991f42b7fbc0209aafd0f916abe10c56600901e28", func := "leakresponse/leakresponselaw27.AccessQuiet", spec := "accessQuiet", unfollowed := true, recurses := true, apart := false, narrowed := true }
def AccessQuietUptoSaid : Prop := accessQuietUptoRow.holds Try.pinned (OpenSpec.upto accessQuietSpec)

/-- 'leakresponselaw27.AccessExact', WHERE WHAT IT READS IS OF BULK AT MOST 1048576: true; the input reads as it did. -/
def accessExactUptoRow : OpenClaim := { program := "yteegjccaabkhgaa", sum := "9349d9461371815069ce0bc991f42b7fbc0209aafd0f916abe10c56600901e28", func := "leakresponse/leakresponselaw27.AccessExact", spec := "accessExact", unfollowed := true, recurses := true, apart := false, narrowed := true }
def AccessExactUptoSaid : Prop := accessExactUptoRow.holds Try.pinned (OpenSpec.upto accessExactSpec)

end Rows
end Go.Proofs.Yteegjccaabkhgaa
