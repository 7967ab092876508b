/- What the functions of this seat that lie on the laws' road compute (part BK), each for every input. By AI agents. -/
import Derived.Test.YteegjccaabkhgaaProg
import Derived.KernelRfl
import Derived.Test.YteegjccaabkhgaaAbSort
import Derived.RangeFuncBox
import Derived.RangeFuncLeaves
import Derived.Shelf.Abstract
import Derived.WalkKit
import Derived.OwnWalkIn
import Derived.TacticsInMore
import Derived.LoopNIn
import Derived.LoopIn
set_option linter.all false
namespace Go.Proofs
open Go.RowKit Go.Shelf
attribute [local go_sem] Oper.semAt_some
set_option maxRecDepth 100000 in
set_option maxHeartbeats 1000000 in
theorem back_in (F : Fence) (n : Nat) (h5 : F.fn 32) (hro : F.round = none) (a : Option Addr) (len cap : Nat) (w : World) :
    CallsIn F n Try.prog 32 #[.slice a len cap] w fun e w' => e = .returned (.func (.func 43) #[] #[.pointer (some ⟨w.heap.size, 0, none⟩)]) ∧ w' = w.alloc (.cells #[.slice a len cap] 27) := by
  refine callsIn_of_wp Try.func32 rfl h5 ?_ hro
  simp only [Try.ntmps32, List.size_toArray, List.length_cons, List.length_nil, Nat.reduceAdd, Nat.reduceSub, Array.replicate_succ, Array.replicate_zero, List.push_toArray, List.append_toArray, List.nil_append, List.cons_append]
  gi_wp2
  go_ret
  exact ⟨rfl, rfl⟩
set_option maxRecDepth 100000 in
set_option maxHeartbeats 2000000 in
theorem back1_in (F : Fence) (n : Nat) (h8 : F.fn 43) (hro : F.round = none) (hn : 1 ≤ n) (l bb bo b off len cap : Nat) (cs : Nat → Nat → Value) (hlen : len ≤ 9223372036854775807) (J : Nat → World → Prop) (Jx : World → Prop)
    (hbox : ∀ k W, J k W → W.cell? ⟨bb, bo, none⟩ = some (.slice (some ⟨b, off, none⟩) len cap))
    (hld : ∀ k W, J k W → ∀ i, i < len → W.cell? ⟨b, off + i * 7, none⟩ = some (cs i 0) ∧ W.cell? ⟨b, off + i * 7 + 1, none⟩ = some (cs i 1) ∧ W.cell? ⟨b, off + i * 7 + 2, none⟩ = some (cs i 2) ∧ W.cell? ⟨b, off + i * 7 + 3, none⟩ = some (cs i 3) ∧ W.cell? ⟨b, off + i * 7 + 4, none⟩ = some (cs i 4) ∧ W.cell? ⟨b, off + i * 7 + 5, none⟩ = some (cs i 5) ∧ W.cell? ⟨b, off + i * 7 + 6, none⟩ = some (cs i 6))
    (hY : ∀ k W, J k W → k < len → YieldAt F (n - 1) Try.prog l #[.int .i64 (((len - 1 - k : Nat) : Int)), Value.agg #[cs (len - 1 - k) 0, cs (len - 1 - k) 1, cs (len - 1 - k) 2, cs (len - 1 - k) 3, cs (len - 1 - k) 4, cs (len - 1 - k) 5, cs (len - 1 - k) 6]] W fun e W' =>
      (e = .returned (.bool true) ∧ J (k + 1) W') ∨ (e = .returned (.bool false) ∧ Jx W'))
    (W : World) (h0 : J 0 W) :
    CallsIn F n Try.prog 43 #[.func (.yield l) #[] #[], .pointer (some ⟨bb, bo, none⟩)] W fun e W' => (∃ v, e = .returned v) ∧ (J len W' ∨ Jx W') := by
  refine callsIn_of_wp Try.func43 rfl h8 ?_ hro
  simp only [Try.ntmps43, List.size_toArray, List.length_cons, List.length_nil, Nat.reduceAdd, Nat.reduceSub, Array.replicate_succ, Array.replicate_zero, List.push_toArray, List.append_toArray, List.nil_append, List.cons_append]
  have hb0 := hbox 0 W h0
  gi_wp2
  gi_loopw [3] (fun i wr => ∃ k : Nat, k ≤ len ∧ i = .int .i64 ((len : Int) - 1 - k) ∧ J k wr) (fun i _ => (intOf i + 1).toNat)
  case atStart =>
    exact ⟨0, Nat.zero_le _, by simp, h0⟩
  case round =>
    obtain ⟨k, hk, rfl, hJk⟩ := hrel
    have hbk := hbox k _ hJk
    by_cases hlt : k < len
    · obtain ⟨fn, tmps, assign, body, hy, hR⟩ := hY k _ hJk hlt
      obtain ⟨c0, c1, c2, c3, c4, c5, c6⟩ := hld k _ hJk (len - 1 - k) (by omega)
      have hidx : ((len - 1 - k : Nat) : Int) = (len : Int) - 1 - k := by omega
      rw [hidx] at hy
      have hpos : (0 : Int) ≤ (len : Int) - 1 - k := by omega
      have hkb : (k : Int) ≤ (len : Int) - 1 := by omega
      gi_wp2
      refine hR.mono ?_
      rintro e W3 (⟨rfl, hJ3⟩ | ⟨rfl, hJx3⟩)
      · gi_wp2
        go_roundw
        case rel => exact ⟨k + 1, by omega, by simp; omega, hJ3⟩
        case measure => simp [intOf]; omega
      · gi_wp2
        refine bodyPost_ret (results_none rfl _ _ _) rfl ?_
        exact ⟨⟨_, rfl⟩, .inr hJx3⟩
    · obtain rfl : k = len := by omega
      gi_wp2
      go_end0
      exact ⟨⟨_, rfl⟩, .inl hJk⟩
set_option maxRecDepth 100000 in
set_option maxHeartbeats 1000000 in
theorem back1_nil_in (F : Fence) (n : Nat) (h8 : F.fn 43) (hro : F.round = none) (l bb bo cap : Nat) (a : Option Addr) (J : World → Prop) (W : World)
    (hb0 : W.cell? ⟨bb, bo, none⟩ = some (.slice a 0 cap)) (h0 : J W) :
    CallsIn F n Try.prog 43 #[.func (.yield l) #[] #[], .pointer (some ⟨bb, bo, none⟩)] W fun e W' => (∃ v, e = .returned v) ∧ J W' := by
  refine callsIn_of_wp Try.func43 rfl h8 ?_ hro
  simp only [Try.ntmps43, List.size_toArray, List.length_cons, List.length_nil, Nat.reduceAdd, Nat.reduceSub, Array.replicate_succ, Array.replicate_zero, List.push_toArray, List.append_toArray, List.nil_append, List.cons_append]
  gi_wp2
  gi_loopw [3] (fun i wr => i = .int .i64 (-1) ∧ J wr) (fun _ _ => 0)
  case atStart => exact ⟨rfl, h0⟩
  case round =>
    obtain ⟨rfl, hJs⟩ := hrel
    gi_wp2
    go_end0
    exact ⟨⟨_, rfl⟩, hJs⟩
end Go.Proofs
