/-
  No cell of these rows narrows 'for every input' (looked for: loops, veiled, ifaces, maps, wideKeys, modest, calm, conditions, laid).
  DERIVED. THE GIVEN ROWS OF THIS SEAT. 4 by the template 'for every input the law returns true; each argument reads behind the call as it read before'; 0 by the template 'total and deterministic' (their statements: YtlcclnfjeinggaaTotals.lean).
  GIVEN WITH THE SEED: the statements are not yours to turn. If you find one false, say at which input.
  Laid BY PROGRAM, IN A SANDBOX (cutbox-rows.mjs): the forced cells as the released guide's own fill.sh prints them over the translation 018a34cd86e3a5a7… (all of the seat's roots in one cut). By AI agents, Wed Nov 11 2026. No macro, syntax, notation, axiom, sorry.
-/
import Derived.Test.YtlcclnfjeinggaaChecked
import GoSem.Claim
import GoSem.ClaimJoined
import GoSem.ClaimMapViews
import Derived.JoinedTies
import Derived.KernelRfl
namespace Go.Proofs.Ytlcclnfjeinggaa
/- THE CELL 'sum', in the pinned program and in every row, IS THE sha256 OF THE DUMP (.gsa) THAT YtlcclnfjeinggaaProg.lean LOADS. Nothing in Lean hashes anything: it is a label: what it is worth is what the hold of that sum in a sandbox is worth. -/
noncomputable def Try.pinned : Pinned := { name := "ytlcclnfjeinggaa", sum := "018a34cd86e3a5a7eef91012d5e75136e9f5ed64dc741613faf509332714aef0", checked := Try.checked }
namespace Rows
def none {H : Type} : Left H := { results := [], args := [] }

/-- 'leakresponselaw25.RightsClosure': WHATEVER THE INPUT: true; the input reads as it did. -/
def rightsClosureSpec : ChangeSpec := { name := "rightsClosure", fn := fun _ => fun
  | [d] => { results := [.lit (.bool true)], args := [d] }
  | _ => none }
def rightsClosureRow : OpenClaim := { program := "ytlcclnfjeinggaa", sum := "018a34cd86e3a5a7eef91012d5e75136e9f5ed64dc741613faf509332714aef0", func := "leakresponse/leakresponselaw25.RightsClosure", spec := "rightsClosure", unfollowed := true, recurses := true, apart := false }
def RightsClosureSaid : Prop := rightsClosureRow.holds Try.pinned (OpenSpec.ofChange rightsClosureSpec)

/-- ITS FALSE NEIGHBOUR: 'it returns false'. Refute it at one input. -/
def rightsClosureWrong : ChangeSpec := { name := "rightsClosure", fn := fun _ => fun
  | [d] => { results := [.lit (.bool false)], args := [d] }
  | _ => none }
def RightsClosureWrongFalsely : Prop := rightsClosureRow.holds Try.pinned (OpenSpec.ofChange rightsClosureWrong)

/-- 'leakresponselaw25.RightsGrow': WHATEVER THE INPUT: true; the input reads as it did. -/
def rightsGrowSpec : ChangeSpec := { name := "rightsGrow", fn := fun _ => fun
  | [d] => { results := [.lit (.bool true)], args := [d] }
  | _ => none }
def rightsGrowRow : OpenClaim := { program := "ytlcclnfjeinggaa", sum := "018a34cd86e3a5a7eef91012d5e75136e9f5ed64dc741613faf509332714aef0", func := "leakresponse/leakresponselaw25.RightsGrow", spec := "rightsGrow", unfollowed := true, recurses := true, apart := false }
def RightsGrowSaid : Prop := rightsGrowRow.holds Try.pinned (OpenSpec.ofChange rightsGrowSpec)

/-- ITS FALSE NEIGHBOUR: 'it returns false'. Refute it at one input. -/
def rightsGrowWrong : ChangeSpec := { name := "rightsGrow", fn := fun _ => fun
  | [d] => { results := [.lit (.bool false)], args := [d] }
  | _ => none }
def RightsGrowWrongFalsely : Prop := rightsGrowRow.holds Try.pinned (OpenSpec.ofChange rightsGrowWrong)

/-- 'leakresponselaw25.RightsAlone': WHATEVER THE INPUT: true; the input reads as it did. -/
def rightsAloneSpec : ChangeSpec := { name := "rightsAlone", fn := fun _ => fun
  | [d] => { results := [.lit (.bool true)], args := [d] }
  | _ => none }
def rightsAloneRow : OpenClaim := { program := "ytlcclnfjeinggaa", sum := "018a34cd86e3a5a7eef91012d5e75136e9f5ed64dc741613faf509332714aef0", func := "leakresponse/leakresponselaw25.RightsAlone", spec := "rightsAlone", unfollowed := true, recurses := true, apart := false }
def RightsAloneSaid : Prop := rightsAloneRow.holds Try.pinned (OpenSpec.ofChange rightsAloneSpec)

/-- ITS FALSE NEIGHBOUR: 'it returns false'. Refute it at one input. -/
def rightsAloneWrong : ChangeSpec := { name := "rightsAlone", fn := fun _ => fun
  | [d] => { results := [.lit (.bool false)], args := [d] }
  | _ => none }
def RightsAloneWrongFalsely : Prop := rightsAloneRow.holds Try.pinned (OpenSpec.ofChange rightsAloneWrong)

/-- 'leakresponselaw25.RightsChains': WHATEVER THE INPUT: true; the input reads as it did. -/
def rightsChainsSpec : ChangeSpec := { name := "rightsChains", fn := fun _ => fun
  | [d] => { results := [.lit (.bool true)], args := [d] }
  | _ => none }
def rightsChainsRow : OpenClaim := { program := "ytlcclnfjeinggaa", sum := "018a34cd86e3a5a7eef91012d5e75136e9f5ed64dc741613faf509332714aef0", func := "leakresponse/leakresponselaw25.RightsChains", spec := "rightsChains", unfollowed := true, recurses := true, apart := false }
def RightsChainsSaid : Prop := rightsChainsRow.holds Try.pinned (OpenSpec.ofChange rightsChainsSpec)

/-- ITS FALSE NEIGHBOUR: 'it returns false'. Refute it at one input. -/
def rightsChainsWrong : ChangeSpec := { name := "rightsChains", fn := fun _ => fun
  | [d] => { results := [.lit (.bool false)], args := [d] }
  | _ => none }
def RightsChainsWrongFalsely : Prop := rightsChainsRow.holds Try.pinned (OpenSpec.ofChange rightsChainsWrong)

/- THE SECOND FORM. 'bulk': how many values and letters a reading holds, each counted each time it is reached (what is shared counts as often as it is met; a slice's spare places count too). A statement '..UptoSaid' is the law's where the arguments, and the package variables that the reading takes, are together of bulk at most 1048576: NARROWER than '..Said'. Prove '..Said' where nothing that the law and all that it calls make is longer than what came in: it says more and counts as full. Else prove '..UptoSaid'. A law counts once. -/
mutual
def uptoBulk {H : Type} : DataW H → Nat
  | .lit (.string bytes) => bytes.length + 1
  | .lit _ => 1
  | .nil => 1
  | .ptr d => uptoBulk d + 1
  | .slice elems spare => uptoBulkAll elems + uptoBulkAll spare + 1
  | .agg parts => uptoBulkAll parts + 1
  | .iface _ d => uptoBulk d + 1
  | .map entries => uptoBulkEntries entries + 1
  | .held _ => 1
def uptoBulkAll {H : Type} : List (DataW H) → Nat
  | [] => 0
  | d :: r => uptoBulk d + uptoBulkAll r
def uptoBulkEntries {H : Type} : List (Lit × DataW H) → Nat
  | [] => 0
  | x :: r => uptoBulkEntry x + uptoBulkEntries r
def uptoBulkEntry {H : Type} : Lit × DataW H → Nat
  | (.string bytes, d) => bytes.length + uptoBulk d + 1
  | (_, d) => uptoBulk d + 1
 end
def uptoSmall : (H : Type) → List (DataW H) → Bool := fun _ ds => decide (uptoBulkAll ds ≤ 1048576)
def OpenSpec.upto (s : _root_.Go.ChangeSpec) : _root_.Go.OpenSpec := { _root_.Go.OpenSpec.ofChange s with cond := some uptoSmall }

/-- 'leakresponselaw25.RightsClosure', WHERE WHAT IT READS IS OF BULK AT MOST 1048576: true; the input reads as it did. -/
def rightsClosureUptoRow : OpenClaim := { program := "ytlcclnfjeinggaa", sum := "018a34cd86e3a5a7eef91012d5e75136e9f5ed64dc741613faf509332714aef0", func := "leakresponse/leakresponselaw25.RightsClosure", spec := "rightsClosure", unfollowed := true, recurses := true, apart := false, narrowed := true }
def RightsClosureUptoSaid : Prop := rightsClosureUptoRow.holds Try.pinned (OpenSpec.upto rightsClosureSpec)

/-- 'leakresponselaw25.RightsGrow', WHERE WHAT IT READS IS OF BULK AT MOST 1048576: true; the input reads as it did. -/
def rightsGrowUptoRow : OpenClaim := { program := "ytlcclnfjeinggaa", sum := "018a34cd86e3a5a7eef91012d5e75136e9f5ed64dc741613faf509332714aef0", func := "leakresponse/leakresponselaw25.RightsGrow", spec := "rightsGrow", unfollowed := true, recurses := true, apart := false, narrowed := true }
def RightsGrowUptoSaid : Prop := rightsGrowUptoRow.holds Try.pinned (OpenSpec.upto rightsGrowSpec)

/-- 'leakresponselaw25.RightsAlone', WHERE WHAT IT READS IS OF BULK AT MOST 1048576: true; the input reads as it did. -/
def rightsAloneUptoRow : OpenClaim := { program := "ytlcclnfjeinggaa", sum := "018a34cd86e3a5a7eef91012d5e75136e9f5ed64dc741613faf509332714aef0", func := "leakresponse/leakresponselaw25.RightsAlone", spec := "rightsAlone", unfollowed := true, recurses := true, apart := false, narrowed := true }
def RightsAloneUptoSaid : Prop := rightsAloneUptoRow.holds Try.pinned (OpenSpec.upto rightsAloneSpec)

/-- 'leakresponselaw25.RightsChains', WHERE WHAT IT READS IS OF BULK AT MOST 1048576: true; the input reads as it did. -/
def rightsChainsUptoRow : OpenClaim := { program := "ytlcclnfjeinggaa", sum := "018a34cd86e3a5a7eef91012d5e75136e9f5ed64dc741613faf509332714aef0", func := "leakresponse/leakresponselaw25.RightsChains", spec := "rightsChains", unfollowed := true, recurses := true, apart := false, narrowed := true }
def RightsChainsUptoSaid : Prop := rightsChainsUptoRow.holds Try.pinned (OpenSpec.upto rightsChainsSpec)

end Rows
end Go.Proofs.Ytlcclnfjeinggaa
