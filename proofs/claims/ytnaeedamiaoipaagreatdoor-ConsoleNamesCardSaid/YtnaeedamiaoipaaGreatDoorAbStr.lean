/- Texts: a Builder's steps and numbers in decimal, as plain functions. -/
import Derived.Test.YtnaeedamiaoipaaGreatDoorAbFun
import Derived.Lib.ItoaLen
import Derived.Lib.AtoiAllCases
import Derived.Lib.SmallJoins
set_option linter.all false
set_option linter.unusedVariables false
namespace Go.Ab
open Go.RowKit
def bws (b s:Str):Option Str:=chk (room (b.length+s.length) 1) (some (b++s))
def bstr (b:Str):Option Str:=some b
def itoaI (n:Int):Option Str:=chk (in64 n) (some (Lib.itoa n))
def atoiV (s:Str):Int:=match Lib.atoiAll s with
 | .ok v=>v
 | .range=>Lib.atoiSat s
 | _=>0
def atoiI (s:Str):Option Int:=chk (decide (s.length≤281474976710656)) (some (atoiV s))
theorem atoiI_inv {s:Str} {y:Int} (h:atoiI s=some y):s.length≤281474976710656∧y=atoiV s:=by
 unfold atoiI chk at h
 cases hc:decide (s.length≤281474976710656) with
 | false=>rw [hc] at h;cases h
 | true =>
  rw [hc] at h
  exact ⟨of_decide_eq_true hc,(Option.some.inj h).symm⟩
def atoiB (s:Str):Bool:=match Lib.atoiAll s with
 | .ok _=>true
 | _=>false
def atoiE (s:Str):Option (Int×Bool):=chk (decide (s.length≤281474976710656)) (some (atoiV s,atoiB s))
theorem atoiE_inv {s:Str} {y:Int×Bool} (h:atoiE s=some y):s.length≤281474976710656∧y=(atoiV s,atoiB s):=by
 unfold atoiE chk at h
 cases hc:decide (s.length≤281474976710656) with
 | false=>rw [hc] at h;cases h
 | true =>
  rw [hc] at h
  exact ⟨of_decide_eq_true hc,(Option.some.inj h).symm⟩
theorem atoiV_rng (s:Str):rng .i64 (atoiV s):=by
 unfold atoiV
 split
 ·rename_i v h;exact Lib.atoiAll_bounds h
 ·unfold Lib.atoiSat
  split<;>exact ⟨by decide,by decide⟩
 ·exact ⟨by decide,by decide⟩
theorem bws_inv {b s y:Str} (h:bws b s=some y):b.length+s.length≤140737488355328∧y=b++s:=by
 unfold bws chk at h
 cases hc:room (b.length+s.length) 1 with
 | false=>rw [hc] at h;cases h
 | true =>
  rw [hc] at h
  have:=room_iff.1 hc
  refine ⟨by simpa using this,?_⟩
  cases h;rfl
theorem itoaI_inv {n:Int} {y:Str} (h:itoaI n=some y):rng .i64 n∧y=Lib.itoa n:=by
 unfold itoaI chk at h
 cases hc:in64 n with
 | false=>rw [hc] at h;cases h
 | true =>
  rw [hc] at h
  refine ⟨in64_iff.1 hc,?_⟩
  cases h;rfl
end Go.Ab
