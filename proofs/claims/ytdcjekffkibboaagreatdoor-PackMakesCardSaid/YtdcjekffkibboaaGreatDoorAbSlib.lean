/- The abstract layer: slices.Insert ahead of the first element, slices.DeleteFunc of one number, at ints. -/
import Derived.Test.YtdcjekffkibboaaGreatDoorAbRows
import Derived.Lib.Overlaps
import Derived.Shelf.SlicesE.DeleteFunc
set_option linter.all false
set_option linter.unusedVariables false
namespace Go.Ab
open Go.RowKit
section
variable {P : Program}
theorem arr2' {vals : Array Value} (h : vals.size = 2) : vals = #[vals.getD 0 undef, vals.getD 1 undef] := by
 apply Array.ext
 ·simp [h]
 ·intro i h1 h2
  have : i = 0 ∨ i = 1 := by omega
  rcases this with rfl | rfl <;> simp [Array.getD_eq_getD_getElem?, h1]
theorem acall_growB {f : Nat} {te : TypeId} (hc : callable P f = true)
  (h1 : ∀ (n : Nat) (w : World), 0 < n → n ≤ 140737488355328 → Calls P f #[.slice none 0 0, .int .i64 n] w fun e w' => ∃ (cap : Nat) (c : Array Value), e = .returned (.slice (some ⟨w.heap.size, 0, none⟩) 0 cap) ∧ w' = w.drew.alloc (.cells c te) ∧ c.size = cap ∧ cap ≤ maxLen)
  (n : Nat) (h0 : 0 < n) (hn : n ≤ 140737488355328) :
  ACall P f [.nils, .int .i64 n] [] (fun r H' => r = .osl 1900 1 0 0 ∧ H' = [(1900, .arr 1 [])]) := by
 refine acall_step ⟨.osl 1900 1 0 0, [], [(1900, .arr 1 [])]⟩ hc fun g w vals hH hsz hv => ?_
 have v1 := (hv 1 _ rfl).int_inv.1
 have v0 : vals.getD 0 undef = .slice none 0 0 := nils_val (hv 0 _ rfl)
 rw [arr2' hsz, v1, v0]
 refine (h1 n w h0 hn).mono ?_
 rintro en w' ⟨cap, c, rfl, rfl, hcs, hmax⟩
 have e1' : (g.set 1900 w.heap.size 0 cap).ρ 1900 = w.heap.size := by simp [Gh.set]
 have e2' : (g.set 1900 w.heap.size 0 cap).base 1900 = 0 := by simp [Gh.set]
 have e3' : (g.set 1900 w.heap.size 0 cap).cap 1900 = cap := by simp [Gh.set]
 have e4' : ¬ (g.set 1900 w.heap.size 0 cap).nil 1900 := by simp [Gh.set]
 have hb' : (w.drew.alloc (.cells c te)).heap[w.heap.size]? = some (.cells c te (0, 0)) := by
  show (w.heap.push _)[w.heap.size]? = _
  simp
 refine ⟨_, g.set 1900 w.heap.size 0 cap, rfl, StepOK.allocDrop _ 1900 0 cap _ [] (.cells c te (0, 0)) hH.lt rfl rfl rfl rfl ?_, ?_, ?_⟩
 ·refine .inr ⟨e4', ?_⟩
  rw [e1', e2', e3']
  exact ⟨by omega, ⟨c, te, (0, 0), hb', by omega, ⟨unfrozen_zero _, trivial⟩, fun i j x y hi hj => by simp at hi⟩, by simp, by omega, fun x hx => by cases hx⟩
 ·intro id o' ho'
  simp only [List.mem_singleton, Prod.mk.injEq] at ho'
  obtain ⟨rfl, rfl⟩ := ho'
  exact .inr ⟨rfl, fun s x hx => by simp [find] at hx, fun n o' hn' _ => by simp [find] at hn'⟩
 ·have := VR.osl (g := g.set 1900 w.heap.size 0 cap) (w := w.drew.alloc (.cells c te)) 1900 1 0 0 0 cap e4' (.inr (by rw [e2'])) (by rw [e3']; omega) (Nat.zero_le _) hmax
  rw [e1'] at this
  exact this
def growF (s : List UInt8) (n : Int) : Option (List UInt8) := chk (decide (s = []) && decide (0 < n) && decide (n ≤ 140737488355328)) (some [])
theorem growF_inv {s y : List UInt8} {n : Int} (h : growF s n = some y) : y = [] ∧ ∃ m : Nat, n = m ∧ 0 < m ∧ m ≤ 140737488355328 := by
 unfold growF at h
 by_cases c : (decide (s = []) && decide (0 < n) && decide (n ≤ 140737488355328)) = true
 ·rw [chk_true c] at h
  simp only [Bool.and_eq_true, decide_eq_true_eq] at c
  exact ⟨(Option.some.inj h).symm, n.toNat, by omega, by omega, by omega⟩
 ·rw [Bool.not_eq_true] at c
  rw [c] at h; simp [chk] at h
end
end Go.Ab
