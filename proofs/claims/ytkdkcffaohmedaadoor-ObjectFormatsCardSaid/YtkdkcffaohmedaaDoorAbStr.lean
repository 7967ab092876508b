/- Texts: a Builder's steps and numbers in decimal, as plain functions. -/
import Derived.Test.YtkdkcffaohmedaaDoorAbFun
import Derived.Lib.ItoaLen
set_option linter.all false
set_option linter.unusedVariables false
namespace Go.Ab
open Go.RowKit
def bws (b s : Str) : Option Str := chk (room (b.length + s.length) 1) (some (b ++ s))
def bstr (b : Str) : Option Str := some b
def itoaI (n : Int) : Option Str := chk (in64 n) (some (Lib.itoa n))
theorem bws_inv {b s y : Str} (h : bws b s = some y) : b.length + s.length ≤ 140737488355328 ∧ y = b ++ s := by
 unfold bws chk at h
 cases hc : room (b.length + s.length) 1 with
 | false => rw [hc] at h; cases h
 | true =>
  rw [hc] at h
  have := room_iff.1 hc
  refine ⟨by simpa using this, ?_⟩
  cases h; rfl
theorem itoaI_inv {n : Int} {y : Str} (h : itoaI n = some y) : rng .i64 n ∧ y = Lib.itoa n := by
 unfold itoaI chk at h
 cases hc : in64 n with
 | false => rw [hc] at h; cases h
 | true =>
  rw [hc] at h
  refine ⟨in64_iff.1 hc, ?_⟩
  cases h; rfl
end Go.Ab
