/-
  No cell of these rows narrows 'for every input' (looked for: loops, veiled, ifaces, maps, wideKeys, modest, calm, conditions, laid).
  DERIVED. THE GIVEN ROWS OF THIS SEAT. 4 by the template 'for every input the law returns true; each argument reads behind the call as it read before'; 0 by the template 'total and deterministic' (their statements: YtmodfifkcbpibaaTotals.lean).
  GIVEN WITH THE SEED: the statements are not yours to turn. If you find one false, say at which input.
  Laid BY PROGRAM, IN A SANDBOX (cutbox-rows.mjs): the forced cells as the released guide's own fill.sh prints them over the translation 59a4afea6fcfca85… (all of the seat's roots in one cut). By AI agents, Wed Nov 11 2026. No macro, syntax, notation, axiom, sorry.
-/
import Derived.Test.YtmodfifkcbpibaaChecked
import GoSem.Claim
import GoSem.ClaimJoined
import GoSem.ClaimMapViews
import Derived.JoinedTies
import Derived.KernelRfl
namespace Go.Proofs.Ytmodfifkcbpibaa
/- THE CELL 'sum', in the pinned program and in every row, IS THE sha256 OF THE DUMP (.gsa) THAT YtmodfifkcbpibaaProg.lean LOADS. Nothing in Lean hashes anything: it is a label: what it is worth is what the hold of that sum in a sandbox is worth. -/
noncomputable def Try.pinned : Pinned := { name := "ytmodfifkcbpibaa", sum := "59a4afea6fcfca85513caa54b7c42920d2ee5ee46ac96d4ad2561b9952a96141", checked := Try.checked }
namespace Rows
def none {H : Type} : Left H := { results := [], args := [] }

/-- 'leakresponselaw28.ReadersOpen': WHATEVER THE INPUT: true; the input reads as it did. -/
def readersOpenSpec : ChangeSpec := { name := "readersOpen", fn := fun _ => fun
  | [d] => { results := [.lit (.bool true)], args := [d] }
  | _ => none }
def readersOpenRow : OpenClaim := { program := "ytmodfifkcbpibaa", sum := "59a4afea6fcfca85513caa54b7c42920d2ee5ee46ac96d4ad2561b9952a96141", func := "leakresponse/leakresponselaw28.ReadersOpen", spec := "readersOpen", inPlace := ["slices.overlaps[int]"], unfollowed := true, recurses := true, apart := false }
def ReadersOpenSaid : Prop := readersOpenRow.holds Try.pinned (OpenSpec.ofChange readersOpenSpec)

/-- ITS FALSE NEIGHBOUR: 'it returns false'. Refute it at one input. -/
def readersOpenWrong : ChangeSpec := { name := "readersOpen", fn := fun _ => fun
  | [d] => { results := [.lit (.bool false)], args := [d] }
  | _ => none }
def ReadersOpenWrongFalsely : Prop := readersOpenRow.holds Try.pinned (OpenSpec.ofChange readersOpenWrong)

/-- 'leakresponselaw28.ReadersGrow': WHATEVER THE INPUT: true; the input reads as it did. -/
def readersGrowSpec : ChangeSpec := { name := "readersGrow", fn := fun _ => fun
  | [d] => { results := [.lit (.bool true)], args := [d] }
  | _ => none }
def readersGrowRow : OpenClaim := { program := "ytmodfifkcbpibaa", sum := "59a4afea6fcfca85513caa54b7c42920d2ee5ee46ac96d4ad2561b9952a96141", func := "leakresponse/leakresponselaw28.ReadersGrow", spec := "readersGrow", inPlace := ["slices.overlaps[int]"], unfollowed := true, recurses := true, apart := false }
def ReadersGrowSaid : Prop := readersGrowRow.holds Try.pinned (OpenSpec.ofChange readersGrowSpec)

/-- ITS FALSE NEIGHBOUR: 'it returns false'. Refute it at one input. -/
def readersGrowWrong : ChangeSpec := { name := "readersGrow", fn := fun _ => fun
  | [d] => { results := [.lit (.bool false)], args := [d] }
  | _ => none }
def ReadersGrowWrongFalsely : Prop := readersGrowRow.holds Try.pinned (OpenSpec.ofChange readersGrowWrong)

/-- 'leakresponselaw28.ReadersGroups': WHATEVER THE INPUT: true; the input reads as it did. -/
def readersGroupsSpec : ChangeSpec := { name := "readersGroups", fn := fun _ => fun
  | [d] => { results := [.lit (.bool true)], args := [d] }
  | _ => none }
def readersGroupsRow : OpenClaim := { program := "ytmodfifkcbpibaa", sum := "59a4afea6fcfca85513caa54b7c42920d2ee5ee46ac96d4ad2561b9952a96141", func := "leakresponse/leakresponselaw28.ReadersGroups", spec := "readersGroups", inPlace := ["slices.overlaps[int]"], unfollowed := true, recurses := true, apart := false }
def ReadersGroupsSaid : Prop := readersGroupsRow.holds Try.pinned (OpenSpec.ofChange readersGroupsSpec)

/-- ITS FALSE NEIGHBOUR: 'it returns false'. Refute it at one input. -/
def readersGroupsWrong : ChangeSpec := { name := "readersGroups", fn := fun _ => fun
  | [d] => { results := [.lit (.bool false)], args := [d] }
  | _ => none }
def ReadersGroupsWrongFalsely : Prop := readersGroupsRow.holds Try.pinned (OpenSpec.ofChange readersGroupsWrong)

/-- 'leakresponselaw28.ReadersCut': WHATEVER THE INPUT: true; the input reads as it did. -/
def readersCutSpec : ChangeSpec := { name := "readersCut", fn := fun _ => fun
  | [d] => { results := [.lit (.bool true)], args := [d] }
  | _ => none }
def readersCutRow : OpenClaim := { program := "ytmodfifkcbpibaa", sum := "59a4afea6fcfca85513caa54b7c42920d2ee5ee46ac96d4ad2561b9952a96141", func := "leakresponse/leakresponselaw28.ReadersCut", spec := "readersCut", inPlace := ["slices.overlaps[int]"], unfollowed := true, recurses := true, apart := false }
def ReadersCutSaid : Prop := readersCutRow.holds Try.pinned (OpenSpec.ofChange readersCutSpec)

/-- ITS FALSE NEIGHBOUR: 'it returns false'. Refute it at one input. -/
def readersCutWrong : ChangeSpec := { name := "readersCut", fn := fun _ => fun
  | [d] => { results := [.lit (.bool false)], args := [d] }
  | _ => none }
def ReadersCutWrongFalsely : Prop := readersCutRow.holds Try.pinned (OpenSpec.ofChange readersCutWrong)

/- THE SECOND FORM. 'bulk': how many values and letters a reading holds, each counted each time it is reached (what is shared counts as often as it is met; a slice's spare places count too). A statement '..UptoSaid' is the law's where the arguments, and the package variables that the reading takes, are together of bulk at most 1048576: NARROWER than '..Said'. Prove '..Said' where nothing that the law and all that it calls make is longer than what came in: it says more and counts as full. Else prove '..UptoSaid'. A law counts once. -/
mutual
def uptoBulk {H : Type} : DataW H → Nat
  | .lit (.string bytes) => bytes.length + 1
  | .lit _ => 1
  | .nil => 1
  | .ptr d => uptoBulk d + 1
  | .slice elems spare => uptoBulkAll elems + uptoBulkAll spare + 1
  | .agg parts => uptoBulkAll parts + 1
  | .iface _ d => uptoBulk d + 1
  | .map entries => uptoBulkEntries entries + 1
  | .held _ => 1
def uptoBulkAll {H : Type} : List (DataW H) → Nat
  | [] => 0
  | d :: r => uptoBulk d + uptoBulkAll r
def uptoBulkEntries {H : Type} : List (Lit × DataW H) → Nat
  | [] => 0
  | x :: r => uptoBulkEntry x + uptoBulkEntries r
def uptoBulkEntry {H : Type} : Lit × DataW H → Nat
  | (.string bytes, d) => bytes.length + uptoBulk d + 1
  | (_, d) => uptoBulk d + 1
 end
def uptoSmall : (H : Type) → List (DataW H) → Bool := fun _ ds => decide (uptoBulkAll ds ≤ 1048576)
def OpenSpec.upto (s : _root_.Go.ChangeSpec) : _root_.Go.OpenSpec := { _root_.Go.OpenSpec.ofChange s with cond := some uptoSmall }

/-- 'leakresponselaw28.ReadersOpen', WHERE WHAT IT READS IS OF BULK AT MOST 1048576: true; the input reads as it did. -/
def readersOpenUptoRow : OpenClaim := { program := "ytmodfifkcbpibaa", sum := "59a4afea6fcfca85513caa54b7c42920d2ee5ee46ac96d4ad2561b9952a96141", func := "leakresponse/leakresponselaw28.ReadersOpen", spec := "readersOpen", inPlace := ["slices.overlaps[int]"], unfollowed := true, recurses := true, apart := false, narrowed := true }
def ReadersOpenUptoSaid : Prop := readersOpenUptoRow.holds Try.pinned (OpenSpec.upto readersOpenSpec)

/-- 'leakresponselaw28.ReadersGrow', WHERE WHAT IT READS IS OF BULK AT MOST 1048576: true; the input reads as it did. -/
def readersGrowUptoRow : OpenClaim := { program := "ytmodfifkcbpibaa", sum := "59a4afea6fcfca85513caa54b7c42920d2ee5ee46ac96d4ad2561b9952a96141", func := "leakresponse/leakresponselaw28.ReadersGrow", spec := "readersGrow", inPlace := ["slices.overlaps[int]"], unfollowed := true, recurses := true, apart := false, narrowed := true }
def ReadersGrowUptoSaid : Prop := readersGrowUptoRow.holds Try.pinned (OpenSpec.upto readersGrowSpec)

/-- 'leakresponselaw28.ReadersGroups', WHERE WHAT IT READS IS OF BULK AT MOST 1048576: true; the input reads as it did. -/
def readersGroupsUptoRow : OpenClaim := { program := "ytmodfifkcbpibaa", sum := "59a4afea6fcfca85513caa54b7c42920d2ee5ee46ac96d4ad2561b9952a96141", func := "leakresponse/leakresponselaw28.ReadersGroups", spec := "readersGroups", inPlace := ["slices.overlaps[int]"], unfollowed := true, recurses := true, apart := false, narrowed := true }
def ReadersGroupsUptoSaid : Prop := readersGroupsUptoRow.holds Try.pinned (OpenSpec.upto readersGroupsSpec)

/-- 'leakresponselaw28.ReadersCut', WHERE WHAT IT READS IS OF BULK AT MOST 1048576: true; the input reads as it did. -/
def readersCutUptoRow : OpenClaim := { program := "ytmodfifkcbpibaa", sum := "59a4afea6fcfca85513caa54b7c42920d2ee5ee46ac96d4ad2561b9952a96141", func := "leakresponse/leakresponselaw28.ReadersCut", spec := "readersCut", inPlace := ["slices.overlaps[int]"], unfollowed := true, recurses := true, apart := false, narrowed := true }
def ReadersCutUptoSaid : Prop := readersCutUptoRow.holds Try.pinned (OpenSpec.upto readersCutSpec)

end Rows
end Go.Proofs.Ytmodfifkcbpibaa
