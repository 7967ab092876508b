/-
  NARROWER THAN 'FOR EVERY INPUT', by the rows' own cells (each row's printed sentence says how): SeverityGrows: laid · SeverityParts: laid · SeverityLevels: laid · SeverityExact: laid · SeverityWorst: laid.
  DERIVED. THE GIVEN ROWS OF THIS SEAT. 5 by the template 'for every input the law returns true; each argument reads behind the call as it read before'; 0 by the template 'total and deterministic' (their statements: YtopbblhkapgdkaaDoorTotals.lean).
  GIVEN WITH THE SEED: the statements are not yours to turn. If you find one false, say at which input.
  Laid BY PROGRAM, IN A SANDBOX (cutbox-rows.mjs): the forced cells as the released guide's own fill.sh prints them over the translation ad6f9b36d4b115eb… (all of the seat's roots in one cut). By AI agents, Wed Nov 11 2026. No macro, syntax, notation, axiom, sorry.
-/
import Derived.Test.YtopbblhkapgdkaaDoorChecked
import GoSem.Claim
import GoSem.ClaimJoined
import GoSem.ClaimMapViews
import Derived.JoinedTies
import Derived.KernelRfl
namespace Go.Proofs.YtopbblhkapgdkaaDoor
/- THE CELL 'sum', in the pinned program and in every row, IS THE sha256 OF THE DUMP (.gsa) THAT YtopbblhkapgdkaaDoorProg.lean LOADS. Nothing in Lean hashes anything: it is a label: what it is worth is what the hold of that sum in a sandbox is worth. -/
noncomputable def Tryd.pinned : Pinned := { name := "ytopbblhkapgdkaadoor", sum := "ad6f9b36d4b115eb29756a01b62082508f286216b9edb3308f89e5ddbbeda149", checked := Tryd.checked }
namespace Rows
def none {H : Type} : Left H := { results := [], args := [] }

/- WHAT THE LISTED PACKAGE-LEVEL VARIABLES READ AS WHEN THE CALL BEGINS. Each datum BY PROGRAM (the guide's laid-datum.mjs) off the statement by which the dump's own 'gosem.cut.vars' lays the variable. In a bare row this is a premise. The card (YtopbblhkapgdkaaDoorCards.lean) ties it to the program's text. -/
def laid_leakresponse_severity_levels {H : Type} : DataW H := .agg [.lit (.int .i64 1), .lit (.int .i64 100), .lit (.int .i64 1000), .lit (.int .i64 10000)]

/-- 'leakresponselaw31.SeverityGrows': WHATEVER THE INPUT: true; the input reads as it did. -/
def severityGrowsSpec : ChangeSpec := { name := "severityGrows", fn := fun _ => fun
  | [d] => { results := [.lit (.bool true)], args := [d] }
  | _ => none }
def severityGrowsRow : OpenClaim := { program := "ytopbblhkapgdkaadoor", sum := "ad6f9b36d4b115eb29756a01b62082508f286216b9edb3308f89e5ddbbeda149", func := "leakresponse/leakresponselaw31.SeverityGrows", spec := "severityGrows", unfollowed := true, recurses := true, named := ["leakresponse/severity.levels"], apart := false, laid := [("leakresponse/severity.levels", laid_leakresponse_severity_levels)] }
def SeverityGrowsSaid : Prop := severityGrowsRow.holds Tryd.pinned (OpenSpec.ofChange severityGrowsSpec)

/-- ITS FALSE NEIGHBOUR: 'it returns false'. Refute it at one input. -/
def severityGrowsWrong : ChangeSpec := { name := "severityGrows", fn := fun _ => fun
  | [d] => { results := [.lit (.bool false)], args := [d] }
  | _ => none }
def SeverityGrowsWrongFalsely : Prop := severityGrowsRow.holds Tryd.pinned (OpenSpec.ofChange severityGrowsWrong)

/-- 'leakresponselaw31.SeverityParts': WHATEVER THE INPUT: true; the input reads as it did. -/
def severityPartsSpec : ChangeSpec := { name := "severityParts", fn := fun _ => fun
  | [d] => { results := [.lit (.bool true)], args := [d] }
  | _ => none }
def severityPartsRow : OpenClaim := { program := "ytopbblhkapgdkaadoor", sum := "ad6f9b36d4b115eb29756a01b62082508f286216b9edb3308f89e5ddbbeda149", func := "leakresponse/leakresponselaw31.SeverityParts", spec := "severityParts", unfollowed := true, recurses := true, named := ["leakresponse/severity.levels"], apart := false, laid := [("leakresponse/severity.levels", laid_leakresponse_severity_levels)] }
def SeverityPartsSaid : Prop := severityPartsRow.holds Tryd.pinned (OpenSpec.ofChange severityPartsSpec)

/-- ITS FALSE NEIGHBOUR: 'it returns false'. Refute it at one input. -/
def severityPartsWrong : ChangeSpec := { name := "severityParts", fn := fun _ => fun
  | [d] => { results := [.lit (.bool false)], args := [d] }
  | _ => none }
def SeverityPartsWrongFalsely : Prop := severityPartsRow.holds Tryd.pinned (OpenSpec.ofChange severityPartsWrong)

/-- 'leakresponselaw31.SeverityLevels': WHATEVER THE INPUT: true; the input reads as it did. -/
def severityLevelsSpec : ChangeSpec := { name := "severityLevels", fn := fun _ => fun
  | [d1, d2] => { results := [.lit (.bool true)], args := [d1, d2] }
  | _ => none }
def severityLevelsRow : OpenClaim := { program := "ytopbblhkapgdkaadoor", sum := "ad6f9b36d4b115eb29756a01b62082508f286216b9edb3308f89e5ddbbeda149", func := "leakresponse/leakresponselaw31.SeverityLevels", spec := "severityLevels", unfollowed := true, recurses := true, named := ["leakresponse/severity.levels"], apart := false, laid := [("leakresponse/severity.levels", laid_leakresponse_severity_levels)] }
def SeverityLevelsSaid : Prop := severityLevelsRow.holds Tryd.pinned (OpenSpec.ofChange severityLevelsSpec)

/-- ITS FALSE NEIGHBOUR: 'it returns false'. Refute it at one input. -/
def severityLevelsWrong : ChangeSpec := { name := "severityLevels", fn := fun _ => fun
  | [d1, d2] => { results := [.lit (.bool false)], args := [d1, d2] }
  | _ => none }
def SeverityLevelsWrongFalsely : Prop := severityLevelsRow.holds Tryd.pinned (OpenSpec.ofChange severityLevelsWrong)

/-- 'leakresponselaw31.SeverityExact': WHATEVER THE INPUT: true; the input reads as it did. -/
def severityExactSpec : ChangeSpec := { name := "severityExact", fn := fun _ => fun
  | [d1, d2, d3, d4, d5, d6, d7] => { results := [.lit (.bool true)], args := [d1, d2, d3, d4, d5, d6, d7] }
  | _ => none }
def severityExactRow : OpenClaim := { program := "ytopbblhkapgdkaadoor", sum := "ad6f9b36d4b115eb29756a01b62082508f286216b9edb3308f89e5ddbbeda149", func := "leakresponse/leakresponselaw31.SeverityExact", spec := "severityExact", unfollowed := true, recurses := true, named := ["leakresponse/severity.levels"], apart := false, laid := [("leakresponse/severity.levels", laid_leakresponse_severity_levels)] }
def SeverityExactSaid : Prop := severityExactRow.holds Tryd.pinned (OpenSpec.ofChange severityExactSpec)

/-- ITS FALSE NEIGHBOUR: 'it returns false'. Refute it at one input. -/
def severityExactWrong : ChangeSpec := { name := "severityExact", fn := fun _ => fun
  | [d1, d2, d3, d4, d5, d6, d7] => { results := [.lit (.bool false)], args := [d1, d2, d3, d4, d5, d6, d7] }
  | _ => none }
def SeverityExactWrongFalsely : Prop := severityExactRow.holds Tryd.pinned (OpenSpec.ofChange severityExactWrong)

/-- 'leakresponselaw31.SeverityWorst': WHATEVER THE INPUT: true; the input reads as it did. -/
def severityWorstSpec : ChangeSpec := { name := "severityWorst", fn := fun _ => fun
  | [d] => { results := [.lit (.bool true)], args := [d] }
  | _ => none }
def severityWorstRow : OpenClaim := { program := "ytopbblhkapgdkaadoor", sum := "ad6f9b36d4b115eb29756a01b62082508f286216b9edb3308f89e5ddbbeda149", func := "leakresponse/leakresponselaw31.SeverityWorst", spec := "severityWorst", unfollowed := true, recurses := true, named := ["leakresponse/severity.levels"], apart := false, laid := [("leakresponse/severity.levels", laid_leakresponse_severity_levels)] }
def SeverityWorstSaid : Prop := severityWorstRow.holds Tryd.pinned (OpenSpec.ofChange severityWorstSpec)

/-- ITS FALSE NEIGHBOUR: 'it returns false'. Refute it at one input. -/
def severityWorstWrong : ChangeSpec := { name := "severityWorst", fn := fun _ => fun
  | [d] => { results := [.lit (.bool false)], args := [d] }
  | _ => none }
def SeverityWorstWrongFalsely : Prop := severityWorstRow.holds Tryd.pinned (OpenSpec.ofChange severityWorstWrong)

/- THE SECOND FORM. 'bulk': how many values and letters a reading holds, each counted each time it is reached (what is shared counts as often as it is met; a slice's spare places count too). A statement '..UptoSaid' is the law's where the arguments, and the package variables that the reading takes, are together of bulk at most 1048576: NARROWER than '..Said'. Prove '..Said' where nothing that the law and all that it calls make is longer than what came in: it says more and counts as full. Else prove '..UptoSaid'. A law counts once. -/
mutual
def uptoBulk {H : Type} : DataW H → Nat
  | .lit (.string bytes) => bytes.length + 1
  | .lit _ => 1
  | .nil => 1
  | .ptr d => uptoBulk d + 1
  | .slice elems spare => uptoBulkAll elems + uptoBulkAll spare + 1
  | .agg parts => uptoBulkAll parts + 1
  | .iface _ d => uptoBulk d + 1
  | .map entries => uptoBulkEntries entries + 1
  | .held _ => 1
def uptoBulkAll {H : Type} : List (DataW H) → Nat
  | [] => 0
  | d :: r => uptoBulk d + uptoBulkAll r
def uptoBulkEntries {H : Type} : List (Lit × DataW H) → Nat
  | [] => 0
  | x :: r => uptoBulkEntry x + uptoBulkEntries r
def uptoBulkEntry {H : Type} : Lit × DataW H → Nat
  | (.string bytes, d) => bytes.length + uptoBulk d + 1
  | (_, d) => uptoBulk d + 1
 end
def uptoSmall : (H : Type) → List (DataW H) → Bool := fun _ ds => decide (uptoBulkAll ds ≤ 1048576)
def OpenSpec.upto (s : _root_.Go.ChangeSpec) : _root_.Go.OpenSpec := { _root_.Go.OpenSpec.ofChange s with cond := some uptoSmall }

/-- 'leakresponselaw31.SeverityGrows', WHERE WHAT IT READS IS OF BULK AT MOST 1048576: true; the input reads as it did. -/
def severityGrowsUptoRow : OpenClaim := { program := "ytopbblhkapgdkaadoor", sum := "ad6f9b36d4b115eb29756a01b62082508f286216b9edb3308f89e5ddbbeda149", func := "leakresponse/leakresponselaw31.SeverityGrows", spec := "severityGrows", unfollowed := true, recurses := true, named := ["leakresponse/severity.levels"], apart := false, laid := [("leakresponse/severity.levels", laid_leakresponse_severity_levels)], narrowed := true }
def SeverityGrowsUptoSaid : Prop := severityGrowsUptoRow.holds Tryd.pinned (OpenSpec.upto severityGrowsSpec)

/-- 'leakresponselaw31.SeverityParts', WHERE WHAT IT READS IS OF BULK AT MOST 1048576: true; the input reads as it did. -/
def severityPartsUptoRow : OpenClaim := { program := "ytopbblhkapgdkaadoor", sum := "ad6f9b36d4b115eb29756a01b62082508f286216b9edb3308f89e5ddbbeda149", func := "leakresponse/leakresponselaw31.SeverityParts", spec := "severityParts", unfollowed := true, recurses := true, named := ["leakresponse/severity.levels"], apart := false, laid := [("leakresponse/severity.levels", laid_leakresponse_severity_levels)], narrowed := true }
def SeverityPartsUptoSaid : Prop := severityPartsUptoRow.holds Tryd.pinned (OpenSpec.upto severityPartsSpec)

/-- 'leakresponselaw31.SeverityLevels', WHERE WHAT IT READS IS OF BULK AT MOST 1048576: true; the input reads as it did. -/
def severityLevelsUptoRow : OpenClaim := { program := "ytopbblhkapgdkaadoor", sum := "ad6f9b36d4b115eb29756a01b62082508f286216b9edb3308f89e5ddbbeda149", func := "leakresponse/leakresponselaw31.SeverityLevels", spec := "severityLevels", unfollowed := true, recurses := true, named := ["leakresponse/severity.levels"], apart := false, laid := [("leakresponse/severity.levels", laid_leakresponse_severity_levels)], narrowed := true }
def SeverityLevelsUptoSaid : Prop := severityLevelsUptoRow.holds Tryd.pinned (OpenSpec.upto severityLevelsSpec)

/-- 'leakresponselaw31.SeverityExact', WHERE WHAT IT READS IS OF BULK AT MOST 1048576: true; the input reads as it did. -/
def severityExactUptoRow : OpenClaim := { program := "ytopbblhkapgdkaadoor", sum := "ad6f9b36d4b115eb29756a01b62082508f286216b9edb3308f89e5ddbbeda149", func := "leakresponse/leakresponselaw31.SeverityExact", spec := "severityExact", unfollowed := true, recurses := true, named := ["leakresponse/severity.levels"], apart := false, laid := [("leakresponse/severity.levels", laid_leakresponse_severity_levels)], narrowed := true }
def SeverityExactUptoSaid : Prop := severityExactUptoRow.holds Tryd.pinned (OpenSpec.upto severityExactSpec)

/-- 'leakresponselaw31.SeverityWorst', WHERE WHAT IT READS IS OF BULK AT MOST 1048576: true; the input reads as it did. -/
def severityWorstUptoRow : OpenClaim := { program := "ytopbblhkapgdkaadoor", sum := "ad6f9b36d4b115eb29756a01b62082508f286216b9edb3308f89e5ddbbeda149", func := "leakresponse/leakresponselaw31.SeverityWorst", spec := "severityWorst", unfollowed := true, recurses := true, named := ["leakresponse/severity.levels"], apart := false, laid := [("leakresponse/severity.levels", laid_leakresponse_severity_levels)], narrowed := true }
def SeverityWorstUptoSaid : Prop := severityWorstUptoRow.holds Tryd.pinned (OpenSpec.upto severityWorstSpec)

end Rows
end Go.Proofs.YtopbblhkapgdkaaDoor
