/-
  No cell of these rows narrows 'for every input' (looked for: loops, veiled, ifaces, maps, wideKeys, modest, calm, conditions, laid).
  DERIVED. THE GIVEN ROWS OF THIS SEAT. 5 by the template 'for every input the law returns true; each argument reads behind the call as it read before'; 0 by the template 'total and deterministic' (their statements: YtgjicmoegmbipaaGreatTotals.lean).
  GIVEN WITH THE SEED: the statements are not yours to turn. If you find one false, say at which input.
  Laid BY PROGRAM, IN A SANDBOX (cutbox-rows.mjs): the forced cells as the released guide's own fill.sh prints them over the translation 78f7f4778020f812… (all of the seat's roots in one cut). By AI agents, Wed Nov 11 2026. No macro, syntax, notation, axiom, sorry.
-/
import Derived.Test.YtgjicmoegmbipaaGreatChecked
import GoSem.Claim
import GoSem.ClaimJoined
import GoSem.ClaimMapViews
import Derived.JoinedTies
import Derived.KernelRfl
namespace Go.Proofs.YtgjicmoegmbipaaGreat
/- THE CELL 'sum', in the pinned program and in every row, IS THE sha256 OF THE DUMP (.gsa) THAT YtgjicmoegmbipaaGreatProg.lean LOADS. Nothing in Lean hashes anything: it is a label: what it is worth is what the hold of that sum in a sandbox is worth. -/
noncomputable def Tryz.pinned : Pinned := { name := "ytgjicmoegmbipaagreat", sum := "78f7f4778020f8120eb515bcee84cbd0c75c70613d1b0a76a0f6662a265ae018", checked := Tryz.checked }
namespace Rows
def none {H : Type} : Left H := { results := [], args := [] }

/-- 'leakresponselaw30.ExposureGrow': WHATEVER THE INPUT: true; the input reads as it did. -/
def exposureGrowSpec : ChangeSpec := { name := "exposureGrow", fn := fun _ => fun
  | [d] => { results := [.lit (.bool true)], args := [d] }
  | _ => none }
def exposureGrowRow : OpenClaim := { program := "ytgjicmoegmbipaagreat", sum := "78f7f4778020f8120eb515bcee84cbd0c75c70613d1b0a76a0f6662a265ae018", func := "leakresponse/leakresponselaw30.ExposureGrow", spec := "exposureGrow", inPlace := ["slices.overlaps[int]"], unfollowed := true, recurses := true, apart := false }
def ExposureGrowSaid : Prop := exposureGrowRow.holds Tryz.pinned (OpenSpec.ofChange exposureGrowSpec)

/-- ITS FALSE NEIGHBOUR: 'it returns false'. Refute it at one input. -/
def exposureGrowWrong : ChangeSpec := { name := "exposureGrow", fn := fun _ => fun
  | [d] => { results := [.lit (.bool false)], args := [d] }
  | _ => none }
def ExposureGrowWrongFalsely : Prop := exposureGrowRow.holds Tryz.pinned (OpenSpec.ofChange exposureGrowWrong)

/-- 'leakresponselaw30.ExposureCut': WHATEVER THE INPUT: true; the input reads as it did. -/
def exposureCutSpec : ChangeSpec := { name := "exposureCut", fn := fun _ => fun
  | [d] => { results := [.lit (.bool true)], args := [d] }
  | _ => none }
def exposureCutRow : OpenClaim := { program := "ytgjicmoegmbipaagreat", sum := "78f7f4778020f8120eb515bcee84cbd0c75c70613d1b0a76a0f6662a265ae018", func := "leakresponse/leakresponselaw30.ExposureCut", spec := "exposureCut", inPlace := ["slices.overlaps[int]"], unfollowed := true, recurses := true, apart := false }
def ExposureCutSaid : Prop := exposureCutRow.holds Tryz.pinned (OpenSpec.ofChange exposureCutSpec)

/-- ITS FALSE NEIGHBOUR: 'it returns false'. Refute it at one input. -/
def exposureCutWrong : ChangeSpec := { name := "exposureCut", fn := fun _ => fun
  | [d] => { results := [.lit (.bool false)], args := [d] }
  | _ => none }
def ExposureCutWrongFalsely : Prop := exposureCutRow.holds Tryz.pinned (OpenSpec.ofChange exposureCutWrong)

/-- 'leakresponselaw30.ExposureCopies': WHATEVER THE INPUT: true; the input reads as it did. -/
def exposureCopiesSpec : ChangeSpec := { name := "exposureCopies", fn := fun _ => fun
  | [d] => { results := [.lit (.bool true)], args := [d] }
  | _ => none }
def exposureCopiesRow : OpenClaim := { program := "ytgjicmoegmbipaagreat", sum := "78f7f4778020f8120eb515bcee84cbd0c75c70613d1b0a76a0f6662a265ae018", func := "leakresponse/leakresponselaw30.ExposureCopies", spec := "exposureCopies", inPlace := ["slices.overlaps[int]"], unfollowed := true, recurses := true, apart := false }
def ExposureCopiesSaid : Prop := exposureCopiesRow.holds Tryz.pinned (OpenSpec.ofChange exposureCopiesSpec)

/-- ITS FALSE NEIGHBOUR: 'it returns false'. Refute it at one input. -/
def exposureCopiesWrong : ChangeSpec := { name := "exposureCopies", fn := fun _ => fun
  | [d] => { results := [.lit (.bool false)], args := [d] }
  | _ => none }
def ExposureCopiesWrongFalsely : Prop := exposureCopiesRow.holds Tryz.pinned (OpenSpec.ofChange exposureCopiesWrong)

/-- 'leakresponselaw30.ExposurePublic': WHATEVER THE INPUT: true; the input reads as it did. -/
def exposurePublicSpec : ChangeSpec := { name := "exposurePublic", fn := fun _ => fun
  | [d] => { results := [.lit (.bool true)], args := [d] }
  | _ => none }
def exposurePublicRow : OpenClaim := { program := "ytgjicmoegmbipaagreat", sum := "78f7f4778020f8120eb515bcee84cbd0c75c70613d1b0a76a0f6662a265ae018", func := "leakresponse/leakresponselaw30.ExposurePublic", spec := "exposurePublic", inPlace := ["slices.overlaps[int]"], unfollowed := true, recurses := true, apart := false }
def ExposurePublicSaid : Prop := exposurePublicRow.holds Tryz.pinned (OpenSpec.ofChange exposurePublicSpec)

/-- ITS FALSE NEIGHBOUR: 'it returns false'. Refute it at one input. -/
def exposurePublicWrong : ChangeSpec := { name := "exposurePublic", fn := fun _ => fun
  | [d] => { results := [.lit (.bool false)], args := [d] }
  | _ => none }
def ExposurePublicWrongFalsely : Prop := exposurePublicRow.holds Tryz.pinned (OpenSpec.ofChange exposurePublicWrong)

/-- 'leakresponselaw30.ExposureReaders': WHATEVER THE INPUT: true; the input reads as it did. -/
def exposureReadersSpec : ChangeSpec := { name := "exposureReaders", fn := fun _ => fun
  | [d] => { results := [.lit (.bool true)], args := [d] }
  | _ => none }
def exposureReadersRow : OpenClaim := { program := "ytgjicmoegmbipaagreat", sum := "78f7f4778020f8120eb515bcee84cbd0c75c70613d1b0a76a0f6662a265ae018", func := "leakresponse/leakresponselaw30.ExposureReaders", spec := "exposureReaders", inPlace := ["slices.overlaps[int]"], unfollowed := true, recurses := true, apart := false }
def ExposureReadersSaid : Prop := exposureReadersRow.holds Tryz.pinned (OpenSpec.ofChange exposureReadersSpec)

/-- ITS FALSE NEIGHBOUR: 'it returns false'. Refute it at one input. -/
def exposureReadersWrong : ChangeSpec := { name := "exposureReaders", fn := fun _ => fun
  | [d] => { results := [.lit (.bool false)], args := [d] }
  | _ => none }
def ExposureReadersWrongFalsely : Prop := exposureReadersRow.holds Tryz.pinned (OpenSpec.ofChange exposureReadersWrong)

/- THE SECOND FORM. 'bulk': how many values and letters a reading holds, each counted each time it is reached (what is shared counts as often as it is met; a slice's spare places count too). A statement '..UptoSaid' is the law's where the arguments, and the package variables that the reading takes, are together of bulk at most 1048576: NARROWER than '..Said'. Prove '..Said' where nothing that the law and all that it calls make is longer than what came in: it says more and counts as full. Else prove '..UptoSaid'. A law counts once. -/
mutual
def uptoBulk {H : Type} : DataW H → Nat
  | .lit (.string bytes) => bytes.length + 1
  | .lit _ => 1
  | .nil => 1
  | .ptr d => uptoBulk d + 1
  | .slice elems spare => uptoBulkAll elems + uptoBulkAll spare + 1
  | .agg parts => uptoBulkAll parts + 1
  | .iface _ d => uptoBulk d + 1
  | .map entries => uptoBulkEntries entries + 1
  | .held _ => 1
def uptoBulkAll {H : Type} : List (DataW H) → Nat
  | [] => 0
  | d :: r => uptoBulk d + uptoBulkAll r
def uptoBulkEntries {H : Type} : List (Lit × DataW H) → Nat
  | [] => 0
  | x :: r => uptoBulkEntry x + uptoBulkEntries r
def uptoBulkEntry {H : Type} : Lit × DataW H → Nat
  | (.string bytes, d) => bytes.length + uptoBulk d + 1
  | (_, d) => uptoBulk d + 1
 end
def uptoSmall : (H : Type) → List (DataW H) → Bool := fun _ ds => decide (uptoBulkAll ds ≤ 1048576)
def OpenSpec.upto (s : _root_.Go.ChangeSpec) : _root_.Go.OpenSpec := { _root_.Go.OpenSpec.ofChange s with cond := some uptoSmall }

/-- 'leakresponselaw30.ExposureGrow', WHERE WHAT IT READS IS OF BULK AT MOST 1048576: true; the input reads as it did. -/
def exposureGrowUptoRow : OpenClaim := { program := "ytgjicmoegmbipaagreat", sum := "78f7f4778020f8120eb515bcee84cbd0c75c70613d1b0a76a0f6662a265ae018", func := "leakresponse/leakresponselaw30.ExposureGrow", spec := "exposureGrow", inPlace := ["slices.overlaps[int]"], unfollowed := true, recurses := true, apart := false, narrowed := true }
def ExposureGrowUptoSaid : Prop := exposureGrowUptoRow.holds Tryz.pinned (OpenSpec.upto exposureGrowSpec)

/-- 'leakresponselaw30.ExposureCut', WHERE WHAT IT READS IS OF BULK AT MOST 1048576: true; the input reads as it did. -/
def exposureCutUptoRow : OpenClaim := { program := "ytgjicmoegmbipaagreat", sum := "78f7f4778020f8120eb515bcee84cbd0c75c70613d1b0a76a0f6662a265ae018", func := "leakresponse/leakresponselaw30.ExposureCut", spec := "exposureCut", inPlace := ["slices.overlaps[int]"], unfollowed := true, recurses := true, apart := false, narrowed := true }
def ExposureCutUptoSaid : Prop := exposureCutUptoRow.holds Tryz.pinned (OpenSpec.upto exposureCutSpec)

/-- 'leakresponselaw30.ExposureCopies', WHERE WHAT IT READS IS OF BULK AT MOST 1048576: true; the input reads as it did. -/
def exposureCopiesUptoRow : OpenClaim := { program := "ytgjicmoegmbipaagreat", sum := "78f7f4778020f8120eb515bcee84cbd0c75c70613d1b0a76a0f6662a265ae018", func := "leakresponse/leakresponselaw30.ExposureCopies", spec := "exposureCopies", inPlace := ["slices.overlaps[int]"], unfollowed := true, recurses := true, apart := false, narrowed := true }
def ExposureCopiesUptoSaid : Prop := exposureCopiesUptoRow.holds Tryz.pinned (OpenSpec.upto exposureCopiesSpec)

/-- 'leakresponselaw30.ExposurePublic', WHERE WHAT IT READS IS OF BULK AT MOST 1048576: true; the input reads as it did. -/
def exposurePublicUptoRow : OpenClaim := { program := "ytgjicmoegmbipaagreat", sum := "78f7f4778020f8120eb515bcee84cbd0c75c70613d1b0a76a0f6662a265ae018", func := "leakresponse/leakresponselaw30.ExposurePublic", spec := "exposurePublic", inPlace := ["slices.overlaps[int]"], unfollowed := true, recurses := true, apart := false, narrowed := true }
def ExposurePublicUptoSaid : Prop := exposurePublicUptoRow.holds Tryz.pinned (OpenSpec.upto exposurePublicSpec)

/-- 'leakresponselaw30.ExposureReaders', WHERE WHAT IT READS IS OF BULK AT MOST 1048576: true; the input reads as it did. -/
def exposureReadersUptoRow : OpenClaim := { program := "ytgjicmoegmbipaagreat", sum := "78f7f4778020f8120eb515bcee84cbd0c75c70613d1b0a76a0f6662a265ae018", func := "leakresponse/leakresponselaw30.ExposureReaders", spec := "exposureReaders", inPlace := ["slices.overlaps[int]"], unfollowed := true, recurses := true, apart := false, narrowed := true }
def ExposureReadersUptoSaid : Prop := exposureReadersUptoRow.holds Tryz.pinned (OpenSpec.upto exposureReadersSpec)

end Rows
end Go.Proofs.YtgjicmoegmbipaaGreat
