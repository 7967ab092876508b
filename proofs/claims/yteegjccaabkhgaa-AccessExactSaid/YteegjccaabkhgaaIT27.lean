/- What the functions of this seat that lie on the laws' road compute (part IT27), each for every input. By AI agents. -/
import Derived.Test.YteegjccaabkhgaaBI
set_option linter.all false
namespace Go.Ab
open Go.RowKit Go.Proofs
/-- the members of a list with their places, from the end -/
def revp {α : Type} [Inhabited α] (l : List α) : List (Int × α) := (List.range l.length).map fun k => (((l.length - 1 - k : Nat) : Int), l.getD (l.length - 1 - k) default)
def backF {α : Type} (_ : List α) : Option Unit := some ()
theorem W_backward {α : Type} {f : α → V} {l : List α} {y : Unit} (_ : backF l = some y) : ACall Try.prog 32 [.sl (l.map f)] [] (fun r H' => r = .fn (.func 43) [.eptr (.agg [.sl (l.map f)]) 0] ∧ H' = []) :=
  acall_backward (by kernel_rfl) (fun a len cap w => calls_wf (r := none) (n := 1) (back_in (WF none) 1 trivial rfl a len cap w)) _
theorem W_itback {α : Type} [Inhabited α] {f : α → V} {l : List α} (hf : ∀ a, ∃ cs, f a = .agg cs ∧ (f a).cells = cs ∧ cs.length = 7) : AIter Try.prog 43 [.eptr (.agg [.sl (l.map f)]) 0] [] ((revp l).map fun a => [.int .i64 a.1, f a.2]) := by
  have h := aiter_back (l.map f) (fun x hx => by obtain ⟨a, _, rfl⟩ := List.mem_map.1 hx; exact hf a)
  have e : revs (l.map f) = (revp l).map fun a => [.int .i64 a.1, f a.2] := by
    unfold revs revp
    rw [List.map_map, List.length_map]
    refine List.map_congr_left fun k hk => ?_
    have := List.mem_range.1 hk
    have hl : l.length - 1 - k < l.length := by omega
    simp [hl]
  rwa [e] at h
end Go.Ab
