/- What the functions of this seat that lie on the laws' road compute (part A1), each for every input. By AI agents. -/
import Derived.Test.YtkdkcffaohmedaaDoorProg
import Derived.KernelRfl
import Derived.Test.YtkdkcffaohmedaaDoorAbMach
import Derived.Test.YtkdkcffaohmedaaDoorAbSwap
import Derived.Lib.ItoaLen
import Derived.Test.YtkdkcffaohmedaaDoorr13SH
set_option linter.all false
set_option maxRecDepth 20000
set_option linter.unusedSimpArgs false
set_option linter.unusedVariables false
namespace Go.Ab
open Go.Proofs
def nextV (l : List Int) (k : Nat) (n : Int) : Int := if k < l.length then (l.getD k 0 % 65536) % n else 0
def nextK (l : List Int) (k : Nat) : Nat := if k < l.length then k + 1 else k
/- (*leakresponse/leakresponsemake.Tape).Next -/
def m_made_Tape_Next : MC :=
  (.seq (.reg [⟨.mv (.c (.int .i64 0)), (some 4), none⟩])
  (.seq (.seq (.regD [⟨.mv (.t 0), (some 6), none⟩,
    ⟨.nck (.t 6), (some 7), none⟩,
    ⟨.fad 1 (.t 7), (some 8), none⟩,
    ⟨.ld none (.t 8), (some 9), none⟩,
    ⟨.mv (.t 0), (some 10), none⟩,
    ⟨.nck (.t 10), (some 11), none⟩,
    ⟨.fad 0 (.t 11), (some 12), none⟩,
    ⟨.ld none (.t 12), (some 13), none⟩,
    ⟨.len false (.t 13), (some 14), none⟩,
    ⟨.bin false .geq (.t 9) (.t 14), (some 15), none⟩]
    [[], [0], [1], [2], [], [4], [5], [6], [7], [3, 8]]
    [[], [0], [0, 1], [0, 1, 2], [], [4], [4, 5], [4, 5, 6], [4, 5, 6, 7], [0, 1, 2, 3, 4, 5, 6, 7, 8]])
  (.cond (.t 15)
    (.seq (.reg [⟨.mv (.c (.int .i64 0)), (some 4), none⟩])
    .ret)
    .skip))
  (.seq (.regD [⟨.mv (.t 0), (some 16), none⟩,
    ⟨.nck (.t 16), (some 17), none⟩,
    ⟨.fad 0 (.t 17), (some 18), none⟩,
    ⟨.ld none (.t 18), (some 19), none⟩,
    ⟨.mv (.t 0), (some 20), none⟩,
    ⟨.nck (.t 20), (some 21), none⟩,
    ⟨.fad 1 (.t 21), (some 22), none⟩,
    ⟨.ld none (.t 22), (some 23), none⟩,
    ⟨.iad 1 (.t 19) (.t 23), (some 24), none⟩,
    ⟨.ld none (.t 24), (some 25), none⟩,
    ⟨.mask 16 (.t 25) .i64, (some 26), none⟩,
    ⟨.mv (.t 26), (some 5), none⟩]
    [[], [0], [1], [2], [], [4], [5], [6], [3, 7], [8], [9], [10, 0, 1, 2, 3, 4, 5, 6, 7, 8, 9, 10]]
    [[], [0], [0, 1], [0, 1, 2], [], [4], [4, 5], [4, 5, 6], [0, 1, 2, 3, 4, 5, 6, 7], [0, 1, 2, 3, 4, 5, 6, 7, 8], [0, 1, 2, 3, 4, 5, 6, 7, 8, 9], [0, 1, 2, 3, 4, 5, 6, 7, 8, 9, 10]])
  (.seq (.reg [⟨.mv (.t 0), (some 27), none⟩,
    ⟨.nck (.t 27), (some 28), none⟩,
    ⟨.fad 1 (.t 28), (some 29), none⟩,
    ⟨.ld none (.t 29), (some 30), none⟩,
    ⟨.bin true .add (.t 30) (.c (.int .i64 1)), (some 31), none⟩,
    ⟨.nck (.t 27), (some 32), none⟩,
    ⟨.fad 1 (.t 32), (some 33), none⟩,
    ⟨.st 1 (.t 33) (.t 31), none, none⟩])
  (.seq (.reg [⟨.mv (.t 5), (some 34), none⟩,
    ⟨.mv (.t 1), (some 35), none⟩,
    ⟨.bin true .rem (.t 34) (.t 35), (some 36), none⟩,
    ⟨.mv (.t 36), (some 4), none⟩])
  .ret)))))
theorem ok_made_Tape_Next : m_made_Tape_Next.ok Tryd.prog Tryd.f8.ntmps (Tryd.f8.body.getD .skip) = true := by kernel_rfl

theorem c_Next (l : List Int) (k : Nat) (n : Int) (hn : 0 < n) : ACall Tryd.prog 8 [.ptr 1000 0, .int .i64 n] [(1000, tape l k)] (fun r H => r = .int .i64 (nextV l k n) ∧ H = [(1000, tape l (nextK l k))]) := by
  refine acall_mach [1000] [.t 4] Tryd.func8 rfl (by kernel_rfl) ok_made_Tape_Next (by kernel_rfl) rfl rfl fun M hf => ?_
  have hlen : l.length ≤ 9223372036854775807 := by
    have := hf.2.1.1.1
    simpa using this
  unfold m_made_Tape_Next tape ints
  simp only [go_sem, Nat.reduceBEq, Nat.reduceAdd, Nat.reduceLeDiff, Nat.reduceSub]
  repeat' (first
    | (rw [M.opsG_any]; refine ⟨fun h => ?_, fun h => ?_⟩ <;> simp only [go_sem, Nat.reduceBEq, Nat.reduceAdd, Nat.reduceLeDiff, Nat.reduceSub])
    | (rw [M.opsDG_bool]; refine ⟨fun h => ?_, fun h => ?_⟩ <;> simp only [go_sem, Nat.reduceBEq, Nat.reduceAdd, Nat.reduceLeDiff, Nat.reduceSub])
    | (rw [M.goC_any]; refine ⟨fun h => ?_, fun h => ?_⟩ <;> simp only [go_sem, Nat.reduceBEq, Nat.reduceAdd, Nat.reduceLeDiff, Nat.reduceSub])
    | (refine chk_of ?_; rfl)
    | apply And.intro
    | intro h)
  all_goals (try first | omega | (simp only [rng]; omega) | rfl)
  all_goals (by_cases hk : k < l.length <;> first | omega | simp [nextV, nextK, hk])
/- leakresponse/object.Name -/
def m_object_Name : MC :=
  (.seq (.reg [⟨.mv (.c (.bool false)), (some 2), none⟩])
  (.seq (.seq (.reg [⟨.mv (.t 0), (some 5), none⟩,
    ⟨.s2b (.t 5), (some 6), none⟩,
    ⟨.len false (.t 6), (some 7), none⟩,
    ⟨.mv (.c (.int .i64 0)), (some 8), none⟩])
  (.block 0
  (.loop
    (.seq (.reg [⟨.bin false .lss (.t 8) (.t 7), (some 9), none⟩])
    (.seq (.cond (.t 9)
      .skip
      (.exit 0))
    (.seq (.block 1
    (.seq (.reg [⟨.iad 1 (.t 6) (.t 8), (some 10), none⟩,
      ⟨.ld none (.t 10), (some 11), none⟩,
      ⟨.mv (.t 11), (some 4), none⟩])
    (.seq (.reg [⟨.mv (.t 4), (some 12), none⟩,
      ⟨.bin false .lss (.t 12) (.c (.int .u8 33)), (some 13), none⟩,
      ⟨.mv (.t 13), (some 14), none⟩,
      ⟨.mv (.t 4), (some 15), (some (14, false))⟩,
      ⟨.bin false .gtr (.t 15) (.c (.int .u8 126)), (some 16), (some (14, false))⟩,
      ⟨.pick (.t 14) (.c (.bool true)) (.t 16), (some 17), none⟩,
      ⟨.mv (.t 17), (some 18), none⟩,
      ⟨.mv (.t 4), (some 19), (some (18, false))⟩,
      ⟨.bin false .eql (.t 19) (.c (.int .u8 47)), (some 20), (some (18, false))⟩,
      ⟨.pick (.t 18) (.c (.bool true)) (.t 20), (some 21), none⟩])
    (.cond (.t 21)
      (.seq (.reg [⟨.mv (.c (.bool false)), (some 2), none⟩])
      .ret)
      .skip))))
    (.reg [⟨.bin true .add (.t 8) (.c (.int .i64 1)), (some 22), none⟩,
      ⟨.mv (.t 22), (some 8), none⟩])))))))
  (.seq (.reg [⟨.mv (.t 0), (some 23), none⟩,
    ⟨.len true (.t 23), (some 24), none⟩,
    ⟨.bin false .geq (.t 24) (.c (.int .i64 1)), (some 25), none⟩,
    ⟨.mv (.t 25), (some 26), none⟩,
    ⟨.mv (.t 0), (some 27), (some (26, true))⟩,
    ⟨.len true (.t 27), (some 28), (some (26, true))⟩,
    ⟨.bin false .leq (.t 28) (.c (.int .i64 40)), (some 29), (some (26, true))⟩,
    ⟨.pick (.t 26) (.t 29) (.c (.bool false)), (some 30), none⟩,
    ⟨.mv (.t 30), (some 2), none⟩])
  .ret)))
theorem ok_object_Name : m_object_Name.ok Tryd.prog Tryd.f9.ntmps (Tryd.f9.body.getD .skip) = true := by kernel_rfl

def okC (c : UInt8) : Bool := !(decide (c.toNat < 33) || decide (126 < c.toNat) || decide (c.toNat = 47))
def nameOK (s : List UInt8) : Bool := s.all okC && decide (1 ≤ s.length) && decide (s.length ≤ 40)
theorem okC_false (c : UInt8) : okC c = false ↔ (c.toNat : Int) < 33 ∨ (126 : Int) < c.toNat ∨ (c.toNat : Int) = 47 := by
  simp only [okC, Bool.not_eq_false', Bool.or_eq_true, decide_eq_true_eq]; omega
theorem nameOK_bad {s : List UInt8} {i : Nat} (h : i < s.length) (hc : (s[i].toNat : Int) < 33 ∨ (126 : Int) < s[i].toNat ∨ (s[i].toNat : Int) = 47) : nameOK s = false := by
  have : s.all okC = false := by
    rw [List.all_eq_false]
    exact ⟨s[i], List.getElem_mem h, by simp [(okC_false _).2 hc]⟩
  simp [nameOK, this]
theorem okC_next {s : List UInt8} {i : Nat} (h : i < s.length) (hs : ∀ c ∈ s.take i, okC c = true) (hc : ¬ (s[i].toNat : Int) < 33 ∧ ¬ (126 : Int) < s[i].toNat ∧ ¬ (s[i].toNat : Int) = 47) : ∀ c ∈ s.take (i + 1), okC c = true := by
  intro c hcm
  rw [List.take_add_one, List.mem_append] at hcm
  rcases hcm with hcm | hcm
  · exact hs c hcm
  · simp [h] at hcm
    rw [hcm]
    cases hk : okC s[i] with
    | true => rfl
    | false => have := (okC_false _).1 hk; omega
theorem nameOK_end {s : List UInt8} {i : Nat} (hi : i ≤ s.length) (hge : ¬ (i : Int) < s.length) (hs : ∀ c ∈ s.take i, okC c = true) : nameOK s = (decide (1 ≤ s.length) && decide (s.length ≤ 40)) := by
  have e : i = s.length := by omega
  subst e
  rw [List.take_length] at hs
  have : s.all okC = true := List.all_eq_true.2 hs
  simp [nameOK, this]
theorem c_object_Name (s : List UInt8) : ACall Tryd.prog 9 [.str s] [] (fun r H => r = .bool (nameOK s) ∧ H = []) := by
  refine acall_mach [] [.t 2] Tryd.func9 rfl (by kernel_rfl) ok_object_Name (by kernel_rfl) rfl rfl fun M hf => ?_
  have hlen : s.length ≤ 9223372036854775807 := hf.1.1
  unfold m_object_Name
  simp only [go_sem, Nat.reduceBEq, Nat.reduceAdd, Nat.reduceLeDiff, Nat.reduceSub]
  refine M.go_loop (fun i : Nat => ⟨[(0, .str s), (6, .osl 6 1 0 s.length), (7, .int .i64 s.length), (8, .int .i64 i)], [(6, .arr 1 (s.map byteV))]⟩) (fun i => i ≤ s.length ∧ ∀ c ∈ s.take i, okC c = true) (fun i => s.length - i)
    ⟨0, ⟨Nat.zero_le _, fun c hc => by simp at hc⟩, rfl, ⟨rfl, rfl, rfl, rfl, trivial⟩, rfl, trivial⟩ fun i hi hfi => ?_
  simp only [go_sem, Nat.reduceBEq, Nat.reduceAdd, Nat.reduceLeDiff, Nat.reduceSub]
  refine ⟨fun hlt => ?_, fun hge => ?_⟩
  · have hi' : i < s.length := by omega
    have hg : s.getD i default = s[i] := by simp [hi']
    simp only [hg, byteV, go_sem, Nat.reduceBEq, Nat.reduceAdd, Nat.reduceLeDiff, Nat.reduceSub]
    refine ⟨⟨by omega, by omega⟩, hi', fun h1 => ⟨fun h2 => ⟨fun h3 => ?_, fun h3 => ?_⟩, fun h2 => ?_⟩, fun h1 => ?_⟩
    · rw [nameOK_bad hi' (.inr (.inr h3))]
    rotate_left
    · rw [nameOK_bad hi' (.inr (.inl h2))]
    · rw [nameOK_bad hi' (.inl h1)]
    · refine ⟨by simp only [rng]; omega, Lk.mk ⟨i + 1, ⟨hi', okC_next hi' hi.2 ⟨h1, h2, h3⟩⟩, by omega, rfl, ⟨rfl, rfl, rfl, rfl, trivial⟩, rfl, trivial⟩⟩
  · rw [nameOK_end hi.1 hge hi.2]
    refine ⟨fun h1 => ?_, fun h1 => ?_⟩
    · have : 1 ≤ s.length := by omega
      simp [this]; omega
    · have : ¬ 1 ≤ s.length := by omega
      simp [this]
/- leakresponse/leakresponseref13.Name -/
def m_ref13_Name : MC :=
  (.seq (.reg [⟨.mv (.c (.bool false)), (some 2), none⟩])
  (.seq (.seq (.reg [⟨.mv (.c (.int .i64 0)), (some 3), none⟩])
  (.block 0
  (.loop
    (.seq (.seq (.reg [⟨.mv (.t 3), (some 4), none⟩,
      ⟨.mv (.t 0), (some 5), none⟩,
      ⟨.len true (.t 5), (some 6), none⟩,
      ⟨.bin false .lss (.t 4) (.t 6), (some 7), none⟩])
    (.cond (.t 7)
      .skip
      (.exit 0)))
    (.seq (.block 1
    (.seq (.reg [⟨.mv (.t 0), (some 10), none⟩,
      ⟨.mv (.t 3), (some 11), none⟩,
      ⟨.idx (.t 10) (.t 11), (some 12), none⟩,
      ⟨.bin false .lss (.t 12) (.c (.int .u8 33)), (some 13), none⟩,
      ⟨.mv (.t 13), (some 14), none⟩,
      ⟨.mv (.t 0), (some 15), (some (14, false))⟩,
      ⟨.mv (.t 3), (some 16), (some (14, false))⟩,
      ⟨.idx (.t 15) (.t 16), (some 17), (some (14, false))⟩,
      ⟨.bin false .gtr (.t 17) (.c (.int .u8 126)), (some 18), (some (14, false))⟩,
      ⟨.pick (.t 14) (.c (.bool true)) (.t 18), (some 19), none⟩,
      ⟨.mv (.t 19), (some 20), none⟩,
      ⟨.mv (.t 0), (some 21), (some (20, false))⟩,
      ⟨.mv (.t 3), (some 22), (some (20, false))⟩,
      ⟨.idx (.t 21) (.t 22), (some 23), (some (20, false))⟩,
      ⟨.bin false .eql (.t 23) (.c (.int .u8 47)), (some 24), (some (20, false))⟩,
      ⟨.pick (.t 20) (.c (.bool true)) (.t 24), (some 25), none⟩])
    (.cond (.t 25)
      (.seq (.reg [⟨.mv (.c (.bool false)), (some 2), none⟩])
      .ret)
      .skip)))
    (.reg [⟨.mv (.t 3), (some 8), none⟩,
      ⟨.bin true .add (.t 8) (.c (.int .i64 1)), (some 9), none⟩,
      ⟨.mv (.t 9), (some 3), none⟩]))))))
  (.seq (.reg [⟨.mv (.t 0), (some 26), none⟩,
    ⟨.len true (.t 26), (some 27), none⟩,
    ⟨.bin false .geq (.t 27) (.c (.int .i64 1)), (some 28), none⟩,
    ⟨.mv (.t 28), (some 29), none⟩,
    ⟨.mv (.t 0), (some 30), (some (29, true))⟩,
    ⟨.len true (.t 30), (some 31), (some (29, true))⟩,
    ⟨.bin false .leq (.t 31) (.c (.int .i64 40)), (some 32), (some (29, true))⟩,
    ⟨.pick (.t 29) (.t 32) (.c (.bool false)), (some 33), none⟩,
    ⟨.mv (.t 33), (some 2), none⟩])
  .ret)))
theorem ok_ref13_Name : m_ref13_Name.ok Tryd.prog Tryd.f10.ntmps (Tryd.f10.body.getD .skip) = true := by kernel_rfl

theorem c_ref13_Name (s : List UInt8) : ACall Tryd.prog 10 [.str s] [] (fun r H => r = .bool (nameOK s) ∧ H = []) := by
  refine acall_mach [] [.t 2] Tryd.func10 rfl (by kernel_rfl) ok_ref13_Name (by kernel_rfl) rfl rfl fun M hf => ?_
  have hlen : s.length ≤ 9223372036854775807 := hf.1.1
  unfold m_ref13_Name
  simp only [go_sem, Nat.reduceBEq, Nat.reduceAdd, Nat.reduceLeDiff, Nat.reduceSub]
  refine M.go_loop (fun i : Nat => ⟨[(0, .str s), (3, .int .i64 i)], []⟩) (fun i => i ≤ s.length ∧ ∀ c ∈ s.take i, okC c = true) (fun i => s.length - i)
    ⟨0, ⟨Nat.zero_le _, fun c hc => by simp at hc⟩, rfl, ⟨rfl, rfl, trivial⟩, trivial⟩ fun i hi hfi => ?_
  simp only [go_sem, Nat.reduceBEq, Nat.reduceAdd, Nat.reduceLeDiff, Nat.reduceSub]
  refine ⟨fun hlt => ?_, fun hge => ?_⟩
  · have hi' : i < s.length := by omega
    have hg : s.getD i 0 = s[i] := by simp [hi']
    simp only [hg]
    refine ⟨⟨by omega, by omega⟩, fun h1 => ⟨⟨by omega, by omega⟩, fun h2 => ⟨⟨by omega, by omega⟩, fun h3 => ?_, fun h3 => ?_⟩, fun h2 => ?_⟩, fun h1 => ?_⟩
    · rw [nameOK_bad hi' (.inr (.inr h3))]
    rotate_left
    · rw [nameOK_bad hi' (.inr (.inl h2))]
    · rw [nameOK_bad hi' (.inl h1)]
    · refine ⟨by simp only [rng]; omega, Lk.mk ⟨i + 1, ⟨hi', okC_next hi' hi.2 ⟨h1, h2, h3⟩⟩, by omega, rfl, ⟨rfl, rfl, trivial⟩, trivial⟩⟩
  · rw [nameOK_end hi.1 hge hi.2]
    refine ⟨fun h1 => ?_, fun h1 => ?_⟩
    · have : 1 ≤ s.length := by omega
      simp [this]; omega
    · have : ¬ 1 ≤ s.length := by omega
      simp [this]
/- leakresponse/leakresponsemake.Bytes -/
def m_made_Bytes : MC :=
  (.seq (.reg [⟨.mv (.c .nils), (some 4), none⟩])
  (.seq (.reg [⟨.mv (.c .nils), (some 5), none⟩])
  (.seq (.seq (.reg [⟨.mv (.c (.int .i64 0)), (some 6), none⟩])
  (.note (.acc 5 500 1) (.block 0
  (.loop
    (.seq (.seq (.reg [⟨.mv (.t 6), (some 7), none⟩,
      ⟨.mv (.t 1), (some 8), none⟩,
      ⟨.bin false .lss (.t 7) (.t 8), (some 9), none⟩])
    (.cond (.t 9)
      .skip
      (.exit 0)))
    (.seq (.block 1
    (.seq (.reg [⟨.mv (.t 0), (some 12), none⟩,
      ⟨.call (.f 8) [(.t 12), (.c (.int .i64 8))] [1000] [], (some 13), none⟩])
    (.block 2
    (.seq (.reg [⟨.bin false .eql (.t 13) (.c (.int .i64 0)), (some 21), none⟩,
      ⟨.mv (.t 21), (some 20), none⟩])
    (.cond (.t 20)
      (.reg [⟨.mv (.t 5), (some 22), none⟩,
        ⟨.mv (.t 0), (some 23), none⟩,
        ⟨.call (.f 8) [(.t 23), (.c (.int .i64 8))] [1000] [], (some 24), none⟩,
        ⟨.idx (.c (.str [32, 10, 61, 37, 43, 47, 45, 46])) (.t 24), (some 25), none⟩,
        ⟨.bslice 1 [(.t 25)], (some 26), none⟩,
        ⟨.app 1 1 (.t 22) (.t 26), (some 27), none⟩,
        ⟨.mv (.t 27), (some 5), none⟩])
      (.seq (.reg [⟨.bin false .eql (.t 13) (.c (.int .i64 1)), (some 29), none⟩,
        ⟨.mv (.t 29), (some 28), none⟩])
      (.cond (.t 28)
        (.reg [⟨.mv (.t 5), (some 30), none⟩,
          ⟨.mv (.t 0), (some 31), none⟩,
          ⟨.call (.f 8) [(.t 31), (.c (.int .i64 256))] [1000] [], (some 32), none⟩,
          ⟨.i2i false .u8 (.t 32), (some 33), none⟩,
          ⟨.bslice 1 [(.t 33)], (some 34), none⟩,
          ⟨.app 1 1 (.t 30) (.t 34), (some 35), none⟩,
          ⟨.mv (.t 35), (some 5), none⟩])
        (.seq (.seq (.reg [⟨.bin false .eql (.t 13) (.c (.int .i64 2)), (some 37), none⟩,
          ⟨.mv (.t 37), (some 36), none⟩])
        (.cond (.t 36)
          .skip
          (.reg [⟨.bin false .eql (.t 13) (.c (.int .i64 3)), (some 38), none⟩,
            ⟨.mv (.t 38), (some 36), none⟩])))
        (.cond (.t 36)
          (.reg [⟨.mv (.t 5), (some 39), none⟩,
            ⟨.mv (.t 0), (some 40), none⟩,
            ⟨.call (.f 8) [(.t 40), (.c (.int .i64 10))] [1000] [], (some 41), none⟩,
            ⟨.bin true .add (.c (.int .i64 48)) (.t 41), (some 42), none⟩,
            ⟨.i2i false .u8 (.t 42), (some 43), none⟩,
            ⟨.bslice 1 [(.t 43)], (some 44), none⟩,
            ⟨.app 1 1 (.t 39) (.t 44), (some 45), none⟩,
            ⟨.mv (.t 45), (some 5), none⟩])
          (.reg [⟨.mv (.t 5), (some 14), none⟩,
            ⟨.mv (.t 0), (some 15), none⟩,
            ⟨.call (.f 8) [(.t 15), (.c (.int .i64 8))] [1000] [], (some 16), none⟩,
            ⟨.idx (.c (.str [97, 98, 99, 100, 101, 102, 116, 107])) (.t 16), (some 17), none⟩,
            ⟨.bslice 1 [(.t 17)], (some 18), none⟩,
            ⟨.app 1 1 (.t 14) (.t 18), (some 19), none⟩,
            ⟨.mv (.t 19), (some 5), none⟩]))))))))))
    (.note (.gc [0, 1, 5, 6]) (.note (.acc 5 500 1) (.reg [⟨.mv (.t 6), (some 10), none⟩,
      ⟨.bin true .add (.t 10) (.c (.int .i64 1)), (some 11), none⟩,
      ⟨.mv (.t 11), (some 6), none⟩])))))))))
  (.seq (.note (.shut 500) (.reg [⟨.mv (.t 5), (some 46), none⟩,
    ⟨.mv (.t 46), (some 4), none⟩]))
  .ret))))
theorem ok_made_Bytes : m_made_Bytes.ok Tryd.prog Tryd.f7.ntmps (Tryd.f7.body.getD .skip) = true := by kernel_rfl

def byteOf (n : Int) : UInt8 := UInt8.ofNat n.toNat
def mkByte (l : List Int) (k : Nat) : UInt8 × Nat :=
  let c := nextV l k 8
  let k1 := nextK l k
  if c = 0 then (([32, 10, 61, 37, 43, 47, 45, 46] : List UInt8).getD (nextV l k1 8).toNat 0, nextK l k1)
  else if c = 1 then (byteOf (nextV l k1 256), nextK l k1)
  else if c = 2 ∨ c = 3 then (byteOf (48 + nextV l k1 10), nextK l k1)
  else (([97, 98, 99, 100, 101, 102, 116, 107] : List UInt8).getD (nextV l k1 8).toNat 0, nextK l k1)
def mkBytes (l : List Int) (k : Nat) : Nat → List UInt8 × Nat
  | 0 => ([], k)
  | i + 1 => ((mkBytes l k i).1 ++ [(mkByte l (mkBytes l k i).2).1], (mkByte l (mkBytes l k i).2).2)
theorem mkBytes_len (l : List Int) (k : Nat) : ∀ i, (mkBytes l k i).1.length = i
  | 0 => rfl
  | i + 1 => by simp [mkBytes, mkBytes_len l k i]
theorem nextV_bound (l : List Int) (k : Nat) (n : Int) (h : 0 < n) : 0 ≤ nextV l k n ∧ nextV l k n < n := by
  unfold nextV
  split
  · exact ⟨Int.emod_nonneg _ (by omega), Int.emod_lt_of_pos _ h⟩
  · omega
theorem byteOf_u8 {n : Int} (h0 : 0 ≤ n) (h : n < 256) : V.int .u8 (IntKind.u8.wrap n) = byteV (byteOf n) := by
  have e : IntKind.u8.wrap n = n := wrap_of_rng (by simp only [rng]; omega)
  have e2 : ((byteOf n).toNat : Int) = n := by
    have : (byteOf n).toNat = n.toNat % 256 := by unfold byteOf; simp
    rw [this]; omega
  simp only [byteV, e, e2]
theorem c_Bytes (l : List Int) (k : Nat) (n : Int) (hn : n ≤ 1000000) : ACall Tryd.prog 7 [.ptr 1000 0, .int .i64 n] [(1000, tape l k)] (fun r H => r = .sl ((mkBytes l k n.toNat).1.map byteV) ∧ H = [(1000, tape l (mkBytes l k n.toNat).2)]) := by
  refine acall_mach [1000] [.t 4] Tryd.func7 rfl (by kernel_rfl) ok_made_Bytes (by kernel_rfl) rfl rfl fun M hf => ?_
  unfold m_made_Bytes
  simp only [go_sem, Nat.reduceBEq, Nat.reduceAdd, Nat.reduceLeDiff, Nat.reduceSub]
  refine M.go_loop (fun i : Nat => ⟨[(0, .ptr 1000 0), (1, .int .i64 n), (5, .osl 500 1 0 i), (6, .int .i64 i)], [(1000, tape l (mkBytes l k i).2), (500, .arr 1 ((mkBytes l k i).1.map byteV))]⟩) (fun i => i = 0 ∨ (i : Int) ≤ n) (fun i => n.toNat - i)
    ⟨0, .inl rfl, rfl, ⟨rfl, rfl, rfl, rfl, trivial⟩, rfl, rfl, trivial⟩ fun i hi hfi => ?_
  simp only [go_sem, Nat.reduceBEq, Nat.reduceAdd, Nat.reduceLeDiff, Nat.reduceSub]
  refine ⟨fun hlt => ?_, fun hge => ?_⟩
  · refine sCall_of (c_Next l _ 8 (by decide)) rfl rfl ?_
    rw [M.lok_eq]
    simp only [go_sem, Nat.reduceBEq, Nat.reduceAdd, Nat.reduceLeDiff, Nat.reduceSub]
    refine ⟨fun h0 => ?_, fun h0 => ⟨fun h1 => ?_, fun h1 => ?_⟩⟩
    · refine sCall_of (c_Next l _ 8 (by decide)) rfl rfl ?_
      rw [M.lok_eq]
      simp only [go_sem, Nat.reduceBEq, Nat.reduceAdd, Nat.reduceLeDiff, Nat.reduceSub]
      have hb := nextV_bound l (nextK l (mkBytes l k i).2) 8 (by decide)
      refine ⟨⟨hb.1, by omega⟩, ⟨(mkBytes_len l k i).symm, by omega⟩, by simp only [rng]; omega, Lk.mk ⟨i + 1, .inr (by omega), by omega, rfl, ⟨rfl, rfl, rfl, rfl, trivial⟩, ?_, ?_, trivial⟩⟩
      · simp [mkBytes, mkByte, h0, find, beqq, tape, ints]
      · simp [mkBytes, mkByte, h0, find, beqq, byteV]
    · refine sCall_of (c_Next l _ 256 (by decide)) rfl rfl ?_
      rw [M.lok_eq]
      simp only [go_sem, Nat.reduceBEq, Nat.reduceAdd, Nat.reduceLeDiff, Nat.reduceSub]
      have hb := nextV_bound l (nextK l (mkBytes l k i).2) 256 (by decide)
      rw [byteOf_u8 hb.1 hb.2]
      refine ⟨⟨(mkBytes_len l k i).symm, by omega⟩, by simp only [rng]; omega, Lk.mk ⟨i + 1, .inr (by omega), by omega, rfl, ⟨rfl, rfl, rfl, rfl, trivial⟩, ?_, ?_, trivial⟩⟩
      · simp [mkBytes, mkByte, h1, find, beqq, tape, ints]
      · simp [mkBytes, mkByte, h1, find, beqq]
    · refine ⟨fun h2 => ?_, fun h2 => ⟨fun h3 => ?_, fun h3 => ?_⟩⟩
      · refine sCall_of (c_Next l _ 10 (by decide)) rfl rfl ?_
        rw [M.lok_eq]
        simp only [go_sem, Nat.reduceBEq, Nat.reduceAdd, Nat.reduceLeDiff, Nat.reduceSub]
        have hb := nextV_bound l (nextK l (mkBytes l k i).2) 10 (by decide)
        rw [byteOf_u8 (by omega) (by omega)]
        refine ⟨by simp only [rng]; omega, ⟨(mkBytes_len l k i).symm, by omega⟩, by simp only [rng]; omega, Lk.mk ⟨i + 1, .inr (by omega), by omega, rfl, ⟨rfl, rfl, rfl, rfl, trivial⟩, ?_, ?_, trivial⟩⟩
        · simp [mkBytes, mkByte, h2, find, beqq, tape, ints]
        · simp [mkBytes, mkByte, h2, find, beqq]
      · refine sCall_of (c_Next l _ 10 (by decide)) rfl rfl ?_
        rw [M.lok_eq]
        simp only [go_sem, Nat.reduceBEq, Nat.reduceAdd, Nat.reduceLeDiff, Nat.reduceSub]
        have hb := nextV_bound l (nextK l (mkBytes l k i).2) 10 (by decide)
        rw [byteOf_u8 (by omega) (by omega)]
        refine ⟨by simp only [rng]; omega, ⟨(mkBytes_len l k i).symm, by omega⟩, by simp only [rng]; omega, Lk.mk ⟨i + 1, .inr (by omega), by omega, rfl, ⟨rfl, rfl, rfl, rfl, trivial⟩, ?_, ?_, trivial⟩⟩
        · simp [mkBytes, mkByte, h3, find, beqq, tape, ints]
        · simp [mkBytes, mkByte, h3, find, beqq]
      · refine sCall_of (c_Next l _ 8 (by decide)) rfl rfl ?_
        rw [M.lok_eq]
        simp only [go_sem, Nat.reduceBEq, Nat.reduceAdd, Nat.reduceLeDiff, Nat.reduceSub]
        have hb := nextV_bound l (nextK l (mkBytes l k i).2) 8 (by decide)
        refine ⟨⟨hb.1, by omega⟩, ⟨(mkBytes_len l k i).symm, by omega⟩, by simp only [rng]; omega, Lk.mk ⟨i + 1, .inr (by omega), by omega, rfl, ⟨rfl, rfl, rfl, rfl, trivial⟩, ?_, ?_, trivial⟩⟩
        · simp [mkBytes, mkByte, h0, h1, h2, h3, find, beqq, tape, ints]
        · simp [mkBytes, mkByte, h0, h1, h2, h3, find, beqq, byteV]
  · have hl := mkBytes_len l k i
    have hin : n.toNat = i := by omega
    rw [hin]
    refine ⟨by omega, ?_, rfl⟩
    rw [List.take_of_length_le (by simp [hl])]
/- leakresponse/leakresponselaw13.ObjectNames -/
def m_law13_ObjectNames : MC :=
  (.seq (.reg [⟨.mv (.c (.bool false)), (some 6), none⟩])
  (.seq (.reg [⟨.mv (.t 0), (some 12), none⟩,
    ⟨.build [.nils, (.int .i64 0)] [(0, 1, (.t 12))], (some 13), none⟩,
    ⟨.box (.t 13), (some 14), none⟩,
    ⟨.mv (.t 14), (some 7), none⟩])
  (.seq (.note (.ren 14 1000) (.reg [⟨.mv (.t 2), (some 15), none⟩,
    ⟨.mask 6 (.t 15) .i64, (some 16), none⟩,
    ⟨.mksl 1 1 (.int .u8 0) (.t 16) (.t 16), (some 17), none⟩,
    ⟨.mv (.t 17), (some 8), none⟩]))
  (.seq (.seq (.reg [⟨.mv (.c (.int .i64 0)), (some 9), none⟩])
  (.block 0
  (.loop
    (.seq (.seq (.reg [⟨.mv (.t 9), (some 18), none⟩,
      ⟨.mv (.t 8), (some 19), none⟩,
      ⟨.len false (.t 19), (some 20), none⟩,
      ⟨.bin false .lss (.t 18) (.t 20), (some 21), none⟩])
    (.cond (.t 21)
      .skip
      (.exit 0)))
    (.seq (.block 1
    (.reg [⟨.mv (.t 8), (some 24), none⟩,
      ⟨.mv (.t 9), (some 25), none⟩,
      ⟨.iad 1 (.t 24) (.t 25), (some 26), none⟩,
      ⟨.st 1 (.t 26) (.c (.int .u8 110)), none, none⟩]))
    (.reg [⟨.mv (.t 9), (some 22), none⟩,
      ⟨.bin true .add (.t 22) (.c (.int .i64 1)), (some 23), none⟩,
      ⟨.mv (.t 23), (some 9), none⟩]))))))
  (.seq (.seq (.regD [⟨.mv (.t 1), (some 27), none⟩,
    ⟨.mv (.t 8), (some 28), none⟩,
    ⟨.b2s (.t 28), (some 29), none⟩,
    ⟨.mv (.t 7), (some 30), none⟩,
    ⟨.mv (.t 7), (some 31), none⟩,
    ⟨.call (.f 8) [(.t 31), (.c (.int .i64 5))] [1000] [], (some 32), none⟩,
    ⟨.call (.f 7) [(.t 30), (.t 32)] [1000] [], (some 33), none⟩,
    ⟨.b2s (.t 33), (some 34), none⟩,
    ⟨.bslice 1 [(.t 27), (.t 29), (.t 34), (.c (.str [97, 47, 98])), (.c (.str [97, 32, 98]))], (some 35), none⟩,
    ⟨.len false (.t 35), (some 36), none⟩,
    ⟨.mv (.c (.int .i64 0)), (some 37), none⟩]
    [[], [], [1], [], [], [4], [3, 5, 5], [6], [0, 2, 7], [8], []]
    [[], [], [1], [], [], [4], [3, 4, 5], [3, 4, 5, 6], [0, 1, 2, 3, 4, 5, 6, 7], [0, 1, 2, 3, 4, 5, 6, 7, 8], []])
  (.block 2
  (.loop
    (.seq (.reg [⟨.bin false .lss (.t 37) (.t 36), (some 38), none⟩])
    (.seq (.cond (.t 38)
      .skip
      (.exit 2))
    (.seq (.block 3
    (.seq (.reg [⟨.iad 1 (.t 35) (.t 37), (some 39), none⟩,
      ⟨.ld none (.t 39), (some 40), none⟩,
      ⟨.mv (.t 40), (some 11), none⟩])
    (.seq (.reg [⟨.mv (.t 11), (some 41), none⟩,
      ⟨.len true (.t 41), (some 42), none⟩,
      ⟨.bin false .lss (.t 42) (.c (.int .i64 3000)), (some 43), none⟩,
      ⟨.mv (.t 43), (some 44), none⟩,
      ⟨.mv (.t 11), (some 45), (some (44, true))⟩,
      ⟨.call (.f 9) [(.t 45)] [] [], (some 46), (some (44, true))⟩,
      ⟨.mv (.t 11), (some 47), (some (44, true))⟩,
      ⟨.call (.f 10) [(.t 47)] [] [], (some 48), (some (44, true))⟩,
      ⟨.beq true (.t 46) (.t 48), (some 49), (some (44, true))⟩,
      ⟨.pick (.t 44) (.t 49) (.c (.bool false)), (some 50), none⟩])
    (.cond (.t 50)
      (.seq (.reg [⟨.mv (.c (.bool false)), (some 6), none⟩])
      .ret)
      .skip))))
    (.reg [⟨.bin true .add (.t 37) (.c (.int .i64 1)), (some 51), none⟩,
      ⟨.mv (.t 51), (some 37), none⟩])))))))
  (.seq (.reg [⟨.call (.f 11) [] [] [], (some 52), none⟩,
    ⟨.mv (.t 52), (some 6), none⟩])
  .ret))))))
theorem ok_law13_ObjectNames : m_law13_ObjectNames.ok Tryd.prog Tryd.f3.ntmps (Tryd.f3.body.getD .skip) = true := by kernel_rfl

theorem c_ObjectNames (tp : List Int) (s : List UInt8) (n : Int) (hA : ACall Tryd.prog 11 [] [] (fun r H => r = .bool true ∧ H = [])) :
    ACall Tryd.prog 3 [ints tp, .str s, .int .i64 n] [] (fun r H => r = .bool true ∧ H = []) := by
  refine acall_mach [] [.t 6] Tryd.func3 rfl (by kernel_rfl) ok_law13_ObjectNames (by kernel_rfl) rfl rfl fun M hf => ?_
  have hlen : s.length ≤ 9223372036854775807 := hf.1.2.1
  unfold m_law13_ObjectNames
  simp only [go_sem, Nat.reduceBEq, Nat.reduceAdd, Nat.reduceLeDiff, Nat.reduceSub, fillV, List.zip, List.zipWith]
  have hm : 0 ≤ n % 2 ^ 6 ∧ n % 2 ^ 6 < 64 := by omega
  refine ⟨by omega, ?_⟩
  refine M.go_loop (fun x : List UInt8 × Nat => ⟨[(1, .str s), (6, .bool false), (7, .ptr 1000 0), (8, .osl 17 1 0 (n % 2 ^ 6).toNat), (9, .int .i64 x.2)], [(1000, tape tp 0), (17, .arr 1 (x.1.map byteV))]⟩)
    (fun x => x.1.length = (n % 2 ^ 6).toNat ∧ x.2 ≤ (n % 2 ^ 6).toNat) (fun x => (n % 2 ^ 6).toNat - x.2)
    ⟨(List.replicate (n % 2 ^ 6).toNat 0, 0), ⟨by simp, by simp⟩, rfl, ⟨rfl, rfl, rfl, rfl, rfl, trivial⟩, rfl, by simp [find, beqq, byteV], trivial⟩ fun x hx hfx => ?_
  obtain ⟨xs, i⟩ := x
  simp only at hx
  simp only [go_sem, Nat.reduceBEq, Nat.reduceAdd, Nat.reduceLeDiff, Nat.reduceSub]
  refine ⟨fun hlt => ?_, fun hge => ?_⟩
  · refine ⟨⟨by omega, by omega⟩, by omega, by simp only [rng]; omega, Lk.mk ⟨(xs.set i 110, i + 1), ⟨by simp; omega, by simp; omega⟩, by simp; omega, rfl, ⟨rfl, rfl, rfl, rfl, rfl, trivial⟩, rfl, ?_, trivial⟩⟩
    simp [find, beqq, byteV, List.map_set]
  · refine ⟨by simp; omega, ?_⟩
    refine sCallD_of (c_Next tp 0 5 (by decide)) rfl rfl ?_
    rw [M.lokD_eq]
    simp only [go_sem, Nat.reduceBEq, Nat.reduceAdd, Nat.reduceLeDiff, Nat.reduceSub]
    have hb := nextV_bound tp 0 5 (by decide)
    refine sCallD_of (c_Bytes tp _ _ (by omega)) rfl rfl ?_
    rw [M.lokD_eq]
    simp only [go_sem, Nat.reduceBEq, Nat.reduceAdd, Nat.reduceLeDiff, Nat.reduceSub]
    refine ⟨rfl, ?_⟩
    refine M.go_loop (fun x : List V × Nat => ⟨[(6, .bool false), (35, .osl 35 1 0 5), (36, .int .i64 5), (37, .int .i64 x.2)], [(35, .arr 1 x.1)]⟩)
      (fun x => x.1.length = 5 ∧ (∀ y ∈ x.1, ∃ t, y = .str t) ∧ x.2 ≤ 5) (fun x => 5 - x.2) ⟨(_, 0), ⟨rfl, by simp, by simp⟩, rfl, ⟨rfl, rfl, rfl, rfl, trivial⟩, rfl, trivial⟩ fun x hx hfx => ?_
    obtain ⟨ys, j⟩ := x
    obtain ⟨hy1, hy2, hj⟩ := hx
    simp only at hy1 hy2 hj
    simp only [go_sem, Nat.reduceBEq, Nat.reduceAdd, Nat.reduceLeDiff, Nat.reduceSub]
    refine ⟨fun hlt => ?_, fun hge => ?_⟩
    · have hjl : j < ys.length := by omega
      obtain ⟨t, ht⟩ := hy2 ys[j] (List.getElem_mem hjl)
      refine ⟨⟨by omega, by omega⟩, .str t, by simp [hjl, ht], ?_⟩
      simp only [M.lok_comp, go_sem, Nat.reduceBEq, Nat.reduceAdd, Nat.reduceLeDiff, Nat.reduceSub]
      refine ⟨fun h1 => ?_, fun h1 => ?_⟩
      · refine sCall_of (c_object_Name t) rfl rfl ?_
        rw [M.lok_eq]
        simp only [go_sem, Nat.reduceBEq, Nat.reduceAdd, Nat.reduceLeDiff, Nat.reduceSub]
        refine sCall_of (c_ref13_Name t) rfl rfl ?_
        rw [M.lok_eq]
        simp only [go_sem, Nat.reduceBEq, Nat.reduceAdd, Nat.reduceLeDiff, Nat.reduceSub, beq_self_eq_true]
        refine ⟨by simp only [rng]; omega, Lk.mk ⟨(ys, j + 1), ⟨hy1, hy2, by simp; omega⟩, by simp; omega, rfl, ⟨rfl, rfl, rfl, rfl, trivial⟩, rfl, trivial⟩⟩
      · refine ⟨by simp only [rng]; omega, Lk.mk ⟨(ys, j + 1), ⟨hy1, hy2, by simp; omega⟩, by simp; omega, rfl, ⟨rfl, rfl, rfl, rfl, trivial⟩, rfl, trivial⟩⟩
    · refine sCall_of hA rfl rfl ?_
      rw [M.lok_eq]
      simp only [go_sem, Nat.reduceBEq, Nat.reduceAdd, Nat.reduceLeDiff, Nat.reduceSub]
/- leakresponse/object.Number -/
def m_object_Number : MC :=
  (.seq (.reg [⟨.mv (.c (.bool false)), (some 2), none⟩])
  (.seq (.reg [⟨.mv (.t 0), (some 3), none⟩,
    ⟨.bin false .geq (.t 3) (.c (.int .i64 1)), (some 4), none⟩,
    ⟨.mv (.t 4), (some 5), none⟩,
    ⟨.mv (.t 0), (some 6), (some (5, true))⟩,
    ⟨.bin false .leq (.t 6) (.c (.int .i64 1073741824)), (some 7), (some (5, true))⟩,
    ⟨.pick (.t 5) (.t 7) (.c (.bool false)), (some 8), none⟩,
    ⟨.mv (.t 8), (some 2), none⟩])
  .ret))
theorem ok_object_Number : m_object_Number.ok Tryd.prog Tryd.f26.ntmps (Tryd.f26.body.getD .skip) = true := by kernel_rfl

def numOK (n : Int) : Bool := decide (1 ≤ n) && decide (n ≤ 1073741824)
theorem c_object_Number (n : Int) : ACall Tryd.prog 26 [.int .i64 n] [] (fun r H => r = .bool (numOK n) ∧ H = []) := by
  refine acall_mach [] [.t 2] Tryd.func26 rfl (by kernel_rfl) ok_object_Number (by kernel_rfl) rfl rfl fun M hf => ?_
  unfold m_object_Number
  simp only [go_sem, Nat.reduceBEq, Nat.reduceAdd, Nat.reduceLeDiff, Nat.reduceSub]
  refine ⟨fun h1 => ?_, fun h1 => ?_⟩ <;> simp [numOK, h1]
def allI (n : Nat) (p : Nat → Bool) : Bool := (List.range n).all p
theorem allI_f {n : Nat} {p : Nat → Bool} {i : Nat} (h : i < n) (hp : p i = false) : allI n p = false := by
  unfold allI
  rw [List.all_eq_false]
  exact ⟨i, by simpa using h, by simp [hp]⟩
theorem allI_iff {n : Nat} {p : Nat → Bool} : allI n p = true ↔ ∀ j, j < n → p j = true := by
  unfold allI
  simp
theorem allI_t {n : Nat} {p : Nat → Bool} (h : ∀ j, j < n → p j = true) : allI n p = true := allI_iff.2 h
theorem all_succ {p : Nat → Bool} {i : Nat} (h : ∀ j, j < i → p j = true) (hp : p i = true) : ∀ j, j < i + 1 → p j = true := fun j hj => by
  by_cases e : j = i
  · rw [e]; exact hp
  · exact h j (by omega)
structure Item where
  name : List UInt8
  id : Int
instance : Inhabited Item := ⟨⟨[], 0⟩⟩
structure Ob where
  id : Int
  kind : Int
  data : List UInt8
  items : List Item
  tree : Int
  parents : List Int
  author : List UInt8
  time : Int
def Item.v (x : Item) : V := .agg [.str x.name, .int .i64 x.id]
def Ob.cs (o : Ob) : List V := [.int .i64 o.id, .int .i64 o.kind, .sl (o.data.map byteV), .sl (o.items.map Item.v), .int .i64 o.tree, ints o.parents, .str o.author, .int .i64 o.time]
def Ob.v (o : Ob) : V := .agg o.cs
def treeAt (l : List Item) (i : Nat) : Bool := nameOK (l.getD i default).name && numOK (l.getD i default).id && (decide (i = 0) || Op.bytesLess (l.getD (i - 1) default).name (l.getD i default).name)
def treeOK (l : List Item) : Bool := allI l.length (treeAt l)
def firstI (n : Nat) (p : Nat → Bool) : Int := match (List.range n).find? p with
  | some i => i
  | none => -1
theorem firstI_hit {n : Nat} {p : Nat → Bool} {i : Nat} (h : i < n) (hp : p i = true) (ha : ∀ j, j < i → p j = false) : firstI n p = i := by
  have : (List.range n).find? p = some i := by
    rw [List.find?_range_eq_some]
    exact ⟨hp, by simpa using h, fun j hj => by simp [ha j hj]⟩
  simp [firstI, this]
theorem firstI_none {n : Nat} {p : Nat → Bool} (ha : ∀ j, j < n → p j = false) : firstI n p = -1 := by
  have : (List.range n).find? p = none := by
    rw [List.find?_eq_none]
    intro j hj
    simp [ha j (by simpa using hj)]
  simp [firstI, this]
theorem firstI_ge {n : Nat} {p : Nat → Bool} : 0 ≤ firstI n p ↔ ∃ j, j < n ∧ p j = true := by
  cases h : (List.range n).find? p with
  | none =>
    rw [List.find?_eq_none] at h
    simp only [firstI, List.find?_eq_none.2 h]
    refine ⟨fun h => by omega, fun ⟨j, hj, hp⟩ => absurd hp (by simpa using h j (by simpa using hj))⟩
  | some i =>
    simp only [firstI, h]
    refine ⟨fun _ => ⟨i, ?_, ?_⟩, fun _ => by omega⟩
    · have := List.mem_of_find?_eq_some h; simpa using this
    · exact List.find?_some h
def inL (l : List Int) (x : Int) : Bool := decide (x ∈ l)
theorem inL_iff {l : List Int} {x : Int} : inL l x = true ↔ ∃ j, j < l.length ∧ l.getD j 0 = x := by
  unfold inL
  rw [decide_eq_true_eq, List.mem_iff_getElem]
  refine ⟨fun ⟨j, hj, e⟩ => ⟨j, hj, by simp [hj, e]⟩, fun ⟨j, hj, e⟩ => ⟨j, hj, ?_⟩⟩
  simpa [hj] using e
def parAt (l : List Int) (i : Nat) : Bool := numOK (l.getD i 0) && !inL (l.take i) (l.getD i 0)
def parOK (l : List Int) : Bool := allI l.length (parAt l)
def timeOK (n : Int) : Bool := decide (0 ≤ n) && decide (n ≤ 1099511627776)
def commitOK (o : Ob) : Bool := parOK o.parents && numOK o.tree && nameOK o.author && timeOK o.time
def otherOK (o : Ob) : Bool := decide (o.tree = 0) && decide (o.parents.length = 0) && decide (o.author = []) && decide (o.time = 0)
def rightOK (o : Ob) : Bool :=
  if o.kind = 1 then decide (o.items.length = 0) && otherOK o
  else if o.kind = 2 then decide (o.data.length = 0) && otherOK o && treeOK o.items
  else if o.kind = 3 then decide (o.data.length = 0) && decide (o.items.length = 0) && commitOK o
  else false
def validN (o : Ob) : Int :=
  if numOK o.id = false then 2
  else if 65536 < o.data.length ∨ 64 < o.items.length ∨ 8 < o.parents.length then 3
  else if rightOK o = false then 1 else 0
theorem parents_fact {o : Ob} (h : o.v.fact) : o.parents.length ≤ 9223372036854775807 ∧ o.items.length ≤ 9223372036854775807 ∧ o.data.length ≤ 9223372036854775807 := by
  simp only [Ob.v, Ob.cs, ints, V.fact, V.factL, List.length_map] at h
  exact ⟨h.2.2.2.2.2.1.1, h.2.2.2.1.1, h.2.2.1.1⟩
/- strings.Builder -/
theorem cc_used (b : Nat) (w : World) (h0 : w.cell? ⟨b, 0, none⟩ = some (.pointer (some ⟨b, 0, none⟩))) :
    Calls Tryd.prog 56 #[.pointer (some ⟨b, 0, none⟩)] w fun e w' => e = .returned (.tuple #[]) ∧ w' = w := by
  obtain ⟨j, hj, hjs⟩ := Option.map_eq_some_iff.1 (show (Tryd.prog.info? 71).map (·.size) = some 2 by kernel_rfl)
  go_enter Tryd.func56, Tryd.ntmps56
  go_wp2
  rw [Lib.run_neq_ptr_same w _ Tryd.underlying69 hj]
  go_wp2
  go_end0
  exact ⟨rfl, rfl⟩
theorem cc_fresh (b : Nat) (w : World) (h0 : w.cell? ⟨b, 0, none⟩ = some (.pointer none)) (hsh : w.shape? b = some (71, 2)) (hfz : w.frozen? ⟨b, 0, none⟩ = false) :
    Calls Tryd.prog 56 #[.pointer (some ⟨b, 0, none⟩)] w fun e w' => e = .returned (.tuple #[]) ∧ w' = w.setCell ⟨b, 0, none⟩ (.pointer (some ⟨b, 0, none⟩)) := by
  obtain ⟨j, hj, hjs⟩ := Option.map_eq_some_iff.1 (show (Tryd.prog.info? 71).map (·.size) = some 2 by kernel_rfl)
  go_enter Tryd.func56, Tryd.ntmps56
  go_wp2
  rw [Lib.run_to_unsafe w ⟨b, 0, none⟩ Tryd.underlying69 Tryd.underlying96 hj (by rw [hjs]; decide) hsh (Nat.zero_lt_succ 1)]
  simp only [Result.andThen]
  rw [Oper.upon_value]
  go_wp2
  rw [run_callFunc_extern Tryd.func66 (by kernel_rfl) (by kernel_rfl) (by kernel_rfl) (e := Extern.AbiNoEscape.same) (by kernel_rfl)]
  rw [Lib.run_noEscape]
  simp only [Result.andThen]
  rw [Oper.upon_value]
  go_wp2
  rw [Lib.run_from_unsafe w ⟨b, 0, none⟩ Tryd.underlying96 Tryd.underlying69 hj hsh (by kernel_rfl)]
  simp only [Result.andThen]
  rw [Oper.upon_value]
  go_wp2
  go_end0
  exact ⟨rfl, rfl⟩
theorem c_copyCheck (p x : V) (hp : p = .nilp ∨ p = .ptr 1000 0) : ACall Tryd.prog 56 [.ptr 1000 0] [(1000, .cells [p, x] (some 71))]
    (fun r H => r = .tup [] ∧ H = [(1000, .cells [.ptr 1000 0, x] (some 71))]) := by
  refine acall_step ⟨.tup [], [], [(1000, .cells [.ptr 1000 0, x] (some 71))]⟩ (by kernel_rfl) fun g w vals hH hl hv => ?_
  rw [arr1 hl]
  have h0 := (hv 0 _ rfl).ptr_inv
  rw [h0]
  obtain ⟨hn, cur, e, fz, h1, h2, ⟨h3, h4⟩, h5⟩ := hH.obj 1000 _ rfl
  simp only [tyOK] at h4
  subst h4
  simp only [List.length_cons, List.length_nil, Nat.zero_add, Nat.reduceAdd] at h2
  have hc0 : w.cell? ⟨g.ρ 1000, 0, none⟩ = some (cur.getD 0 undef) := by
    simp [World.cell?, h1, Array.getD_eq_getD_getElem?, h2]
  have hp0 := h5 0 _ rfl
  rcases hp with rfl | rfl
  · have hv0 := hp0.nilp_inv
    rw [hv0] at hc0
    refine (cc_fresh (g.ρ 1000) w hc0 (by simp [World.shape?, h1, h2]) ?_).mono ?_
    · have := h3.at (i := 0) (by omega)
      simp only [World.frozen?, h1]
      exact this
    rintro en w' ⟨rfl, rfl⟩
    have hlt : g.ρ 1000 < w.heap.size := (Array.getElem?_eq_some_iff.1 h1).1
    have hother : ∀ b, b ≠ g.ρ 1000 → (w.setCell ⟨g.ρ 1000, 0, none⟩ (.pointer (some ⟨g.ρ 1000, 0, none⟩))).heap[b]? = w.heap[b]? := by
      intro b hb
      simp only [World.setCell, Array.getElem?_modify]
      rw [if_neg fun e => hb e.symm]
    have hkeep : Keep g.S w (w.setCell ⟨g.ρ 1000, 0, none⟩ (.pointer (some ⟨g.ρ 1000, 0, none⟩))) := Keep.upd hH (n := 1000) rfl hn hother
    refine ⟨_, g, rfl, StepOK.upd _ 1000 _ _ hH rfl hn rfl rfl rfl (by simp [World.setCell]) hother ?_, Fresh.upd _, .tup _ _ rfl fun i x hx => by simp at hx⟩
    refine ⟨hn, cur.setIfInBounds 0 (.pointer (some ⟨g.ρ 1000, 0, none⟩)), _, fz, ?_, by simp [h2], ⟨by simpa using h3, rfl⟩, fun i c hc => ?_⟩
    · simp [World.setCell, Array.getElem?_modify, h1]
    · match i with
      | 0 => simp at hc; subst hc; simp [Array.getD_eq_getD_getElem?, h2]; exact .ptr 1000 0
      | 1 =>
        simp at hc; subst hc
        have := (h5 1 x rfl).mono (g' := g) hkeep (fun _ h => h) fun id _ => Gh.agree.refl _ _
        have e1 : (cur.setIfInBounds 0 (.pointer (some ⟨g.ρ 1000, 0, none⟩))).getD 1 undef = cur.getD 1 undef := by
          simp [Array.getD_eq_getD_getElem?, Array.getElem?_setIfInBounds]
        rw [e1]; exact this
      | i + 2 => simp at hc
  · have hv0 := hp0.ptr_inv
    rw [hv0] at hc0
    refine (cc_used (g.ρ 1000) w hc0).mono ?_
    rintro en w' ⟨rfl, rfl⟩
    refine ⟨_, g, rfl, StepOK.upd _ 1000 _ _ hH rfl hn rfl rfl rfl rfl (fun _ _ => rfl) (hH.obj 1000 _ rfl), Fresh.upd _, .tup _ _ rfl fun i x hx => by simp at hx⟩
/- (*strings.Builder).WriteString -/
def m_strings_Builder_WriteString : MC :=
  (.seq (.reg [⟨.mv (.c (.int .i64 0)), (some 4), none⟩,
    ⟨.mv (.c .nili), (some 5), none⟩])
  (.seq (.reg [⟨.mv (.t 0), (some 6), none⟩,
    ⟨.call (.f 56) [(.t 6)] [1000] [], (some 7), none⟩])
  (.seq (.reg [⟨.mv (.t 0), (some 8), none⟩,
    ⟨.mv (.t 0), (some 9), none⟩,
    ⟨.nck (.t 9), (some 10), none⟩,
    ⟨.fad 1 (.t 10), (some 11), none⟩,
    ⟨.ld none (.t 11), (some 12), none⟩,
    ⟨.mv (.t 1), (some 13), none⟩,
    ⟨.app 1 1 (.t 12) (.t 13) (some 5), (some 14), none⟩,
    ⟨.nck (.t 8), (some 15), none⟩,
    ⟨.fad 1 (.t 15), (some 16), none⟩,
    ⟨.st 1 (.t 16) (.t 14), none, none⟩])
  (.seq (.note (.ren 14 1002) (.reg [⟨.mv (.t 1), (some 17), none⟩,
    ⟨.len true (.t 17), (some 18), none⟩,
    ⟨.mv (.t 18), (some 4), none⟩,
    ⟨.mv (.c .nili), (some 5), none⟩]))
  .ret))))
theorem ok_strings_Builder_WriteString : m_strings_Builder_WriteString.ok Tryd.prog Tryd.f43.ntmps (Tryd.f43.body.getD .skip) = true := by kernel_rfl

theorem c_WriteString (p : V) (hp : p = .nilp ∨ p = .ptr 1000 0) (bs s : List UInt8) (hlen : bs.length + s.length ≤ 140737488355328) : ACall Tryd.prog 43 [.ptr 1000 0, .str s]
    [(1000, .cells [p, .osl 1001 1 0 bs.length] (some 71)), (1001, .arr 1 (bs.map byteV) (some 5))]
    (fun r H => r = .tup [.int .i64 s.length, .nili] ∧ H = [(1000, .cells [.ptr 1000 0, .osl 1002 1 0 (bs.length + s.length)] (some 71)), (1002, .arr 1 ((bs ++ s).map byteV) (some 5))]) := by
  refine acall_mach [1000, 1002] [.t 4, .t 5] Tryd.func43 rfl (by kernel_rfl) ok_strings_Builder_WriteString (by kernel_rfl) rfl rfl fun M hf => ?_
  unfold m_strings_Builder_WriteString
  simp only [go_sem, Nat.reduceBEq, Nat.reduceAdd, Nat.reduceLeDiff, Nat.reduceSub]
  refine sCall_of (c_copyCheck p _ hp) rfl rfl ?_
  rw [M.lok_eq]
  simp only [go_sem, Nat.reduceBEq, Nat.reduceAdd, Nat.reduceLeDiff, Nat.reduceSub]
  exact ⟨by omega, by omega⟩
theorem bs_some (b g o cap : Nat) (p : Value) (cur : Array Value) (fz : Nat × Nat) (l : List UInt8) (w : World) (T : TypeId) (fb : Nat × Nat) (hbk : w.heap[b]? = some (.cells #[p, .slice (some ⟨g, o, none⟩) l.length cap] T fb)) (hg : w.heap[g]? = some (.cells cur 5 fz)) (h0 : l ≠ [])
    (hcap : l.length ≤ cap) (hn : o + l.length ≤ cur.size) (h63 : l.length ≤ 9223372036854775807) (hcell : ∀ j x, l[j]? = some x → w.cell? ((⟨g, o, none⟩ : Addr).add j) = some (.int .u8 x.toNat)) :
    Calls Tryd.prog 45 #[.pointer (some ⟨b, 0, none⟩)] w fun e w' => e = .returned (.string ⟨l.toArray⟩) ∧ w' = w.drew.freeze ⟨g, o, none⟩ l.length := by
  have hl0 : l.length ≠ 0 := by simpa using h0
  have c1 : w.drew.cell? ⟨b, 1, none⟩ = some (.slice (some ⟨g, o, none⟩) l.length cap) := by
    have : w.drew.heap[b]? = some (.cells #[p, .slice (some ⟨g, o, none⟩) l.length cap] T fb) := hbk
    simp [World.cell?, this]
  have hSD : (Builtin.unsafeSliceData_ #[26] 91 #[.slice (some ⟨g, o, none⟩) l.length cap]).run Tryd.prog w.drew = .ok (.pointer (some ⟨g, o, none⟩)) w.drew :=
    Lib.run_unsafeSliceData_row _ _ _ _ _ _ (by omega)
  have hUS : (Builtin.unsafeString_ #[91, 3] 9 #[.pointer (some ⟨g, o, none⟩), .int .i64 l.length]).run Tryd.prog w.drew = .ok (.string ⟨l.toArray⟩) (w.drew.freeze ⟨g, o, none⟩ l.length) := by
    refine run_unsafeString_at w.drew 91 3 9 5 Tryd.underlying91 (by kernel_rfl) g o cur.size (by have hg' : w.drew.heap[g]? = some (.cells cur 5 fz) := hg; simp [World.shape?, hg']) l h0 hn h63 hcell
  clear hcell hn h63 h0
  have mixed : Tryd.prog.follows .mixedOrders = true := by kernel_rfl
  go_enter Tryd.func45, Tryd.ntmps45
  go_wp2
  go_region_o
  all_goals (go_wp2; go_ret; exact ⟨rfl, rfl⟩)
theorem bs_nil (b : Nat) (p : Value) (w : World) (T : TypeId) (fb : Nat × Nat) (hbk : w.heap[b]? = some (.cells #[p, .slice none 0 0] T fb)) :
    Calls Tryd.prog 45 #[.pointer (some ⟨b, 0, none⟩)] w fun e w' => e = .returned (.string ⟨#[]⟩) ∧ w' = w.drew := by
  have hUS : ∀ (W : World) (q : Option Addr), (Builtin.unsafeString_ #[91, 3] 9 #[.pointer q, .int .i64 0]).run Tryd.prog W = .ok (.string .empty) W := fun W q => Lib.run_unsafeString_none W _ _ _ q
  have c1 : w.drew.cell? ⟨b, 1, none⟩ = some (.slice none 0 0) := by
    have : w.drew.heap[b]? = some (.cells #[p, .slice none 0 0] T fb) := hbk
    simp [World.cell?, this]
  have hSD : (Builtin.unsafeSliceData_ #[26] 91 #[.slice none 0 0]).run Tryd.prog w.drew = .ok (.pointer none) w.drew := rfl
  have mixed : Tryd.prog.follows .mixedOrders = true := by kernel_rfl
  go_enter Tryd.func45, Tryd.ntmps45
  go_wp2
  go_region_o
  all_goals (go_wp2; go_ret; exact ⟨rfl, rfl⟩)
theorem bs_room (b g o cap : Nat) (p : Value) (w : World) (T : TypeId) (fb : Nat × Nat) (hc0 : cap ≠ 0) (hbk : w.heap[b]? = some (.cells #[p, .slice (some ⟨g, o, none⟩) 0 cap] T fb)) :
    Calls Tryd.prog 45 #[.pointer (some ⟨b, 0, none⟩)] w fun e w' => e = .returned (.string ⟨#[]⟩) ∧ w' = w.drew := by
  have hUS : ∀ (W : World) (q : Option Addr), (Builtin.unsafeString_ #[91, 3] 9 #[.pointer q, .int .i64 0]).run Tryd.prog W = .ok (.string .empty) W := fun W q => Lib.run_unsafeString_none W _ _ _ q
  have c1 : w.drew.cell? ⟨b, 1, none⟩ = some (.slice (some ⟨g, o, none⟩) 0 cap) := by
    have : w.drew.heap[b]? = some (.cells #[p, .slice (some ⟨g, o, none⟩) 0 cap] T fb) := hbk
    simp [World.cell?, this]
  have hSD : (Builtin.unsafeSliceData_ #[26] 91 #[.slice (some ⟨g, o, none⟩) 0 cap]).run Tryd.prog w.drew = .ok (.pointer (some ⟨g, o, none⟩)) w.drew :=
    Lib.run_unsafeSliceData_row _ _ _ _ _ _ hc0
  clear hc0
  have mixed : Tryd.prog.follows .mixedOrders = true := by kernel_rfl
  go_enter Tryd.func45, Tryd.ntmps45
  go_wp2
  go_region_o
  all_goals (go_wp2; go_ret; exact ⟨rfl, rfl⟩)
theorem bs_noroom (b g o : Nat) (p : Value) (w : World) (T : TypeId) (fb fz : Nat × Nat) (cur : Array Value) (e : TypeId) (hg : w.heap[g]? = some (.cells cur e fz)) (hbk : w.heap[b]? = some (.cells #[p, .slice (some ⟨g, o, none⟩) 0 0] T fb)) :
    Calls Tryd.prog 45 #[.pointer (some ⟨b, 0, none⟩)] w fun e w' => e = .returned (.string ⟨#[]⟩) ∧ w' = w.drew.alloc (.view ⟨g, o, none⟩ 5) := by
  have hUS : ∀ (W : World) (q : Option Addr), (Builtin.unsafeString_ #[91, 3] 9 #[.pointer q, .int .i64 0]).run Tryd.prog W = .ok (.string .empty) W := fun W q => Lib.run_unsafeString_none W _ _ _ q
  have hlt : b < w.heap.size := (Array.getElem?_eq_some_iff.1 hbk).1
  have c1 : w.drew.cell? ⟨b, 1, none⟩ = some (.slice (some ⟨g, o, none⟩) 0 0) := by
    have : w.drew.heap[b]? = some (.cells #[p, .slice (some ⟨g, o, none⟩) 0 0] T fb) := hbk
    simp [World.cell?, this]
  have hSD : (Builtin.unsafeSliceData_ #[26] 91 #[.slice (some ⟨g, o, none⟩) 0 0]).run Tryd.prog w.drew = .ok (.pointer (some ⟨w.drew.heap.size, 0, none⟩)) (w.drew.alloc (.view ⟨g, o, none⟩ 5)) :=
    Lib.run_unsafeSliceData_zero w.drew _ _ 5 Tryd.underlying91 ⟨g, o, none⟩ 0 (e, cur.size) (by have hg' : w.drew.heap[g]? = some (.cells cur e fz) := hg; simp [World.shape?, hg'])
  have c2 : (w.drew.alloc (.view ⟨g, o, none⟩ 5)).cell? ⟨b, 1, none⟩ = some (.slice (some ⟨g, o, none⟩) 0 0) := by
    have : (w.drew.alloc (.view ⟨g, o, none⟩ 5)).heap[b]? = some (.cells #[p, .slice (some ⟨g, o, none⟩) 0 0] T fb) := by
      simp only [World.alloc, World.drew]
      rw [Array.getElem?_push, if_neg (by omega)]; exact hbk
    simp [World.cell?, this]
  have c0 : w.cell? ⟨b, 1, none⟩ = some (.slice (some ⟨g, o, none⟩) 0 0) := by simp [World.cell?, hbk]
  clear hbk hg
  have mixed : Tryd.prog.follows .mixedOrders = true := by kernel_rfl
  go_enter Tryd.func45, Tryd.ntmps45
  go_wp2
  go_region_o
  all_goals (go_wp2; go_ret; exact ⟨rfl, rfl⟩)
theorem c_String (p : V) (bs : List UInt8) : ACall Tryd.prog 45 [.ptr 1000 0]
    [(1000, .cells [p, .osl 1001 1 0 bs.length] (some 71)), (1001, .arr 1 (bs.map byteV) (some 5))] (fun r H => r = .str bs ∧ H = []) := by
  refine acall_step ⟨.str bs, [1000, 1001], []⟩ (by kernel_rfl) fun g w vals hH hl hv => ?_
  rw [arr1 hl, (hv 0 _ rfl).ptr_inv]
  obtain ⟨hn, cur, e, fz, h1, h2, ⟨h3, h4⟩, h5⟩ := hH.obj 1000 _ rfl
  simp only [List.length_cons, List.length_nil, Nat.zero_add, Nat.reduceAdd] at h2
  have hcur : cur = #[cur.getD 0 undef, cur.getD 1 undef] := arr2 h2
  have hv1 := h5 1 _ rfl
  rw [hcur] at h1
  have hrow := hH.obj 1001 _ rfl
  have hlen : ∀ rb : Nat, rb = rb → True := fun _ _ => trivial
  have fin : ∀ (en : Ending) (w' : World), (en = .returned (.string ⟨bs.toArray⟩) ∧ (w' = w.drew ∨ (∃ a t, w' = w.drew.alloc (.view a t)) ∨ ∃ o n, ¬ g.nil 1001 ∧ w' = w.drew.freeze ⟨g.ρ 1001, o, none⟩ n)) → bs.length ≤ 9223372036854775807 →
      ∃ v g', en = .returned v ∧ StepOK g [(1000, .cells [p, .osl 1001 1 0 bs.length] (some 71)), (1001, .arr 1 (bs.map byteV) (some 5))] w ⟨.str bs, [1000, 1001], []⟩ g' w' ∧
        Fresh [(1000, .cells [p, .osl 1001 1 0 bs.length] (some 71)), (1001, .arr 1 (bs.map byteV) (some 5))] g g' ⟨[], [(1000, .cells [p, .osl 1001 1 0 bs.length] (some 71)), (1001, .arr 1 (bs.map byteV) (some 5))]⟩ ⟨.str bs, [1000, 1001], []⟩ ∧ VR g' w' v (.str bs) := by
    rintro en w' ⟨rfl, hw⟩ hb
    refine ⟨_, g, rfl, ?_, Fresh.none _ _, str_vr bs hb⟩
    rcases hw with rfl | ⟨a, t, rfl⟩ | ⟨o, n, hnn, rfl⟩
    · exact StepOK.grown _ _ hH.lt rfl rfl rfl (Nat.le_refl _) fun _ _ _ => rfl
    · refine StepOK.grown _ _ hH.lt rfl rfl rfl (by show w.heap.size ≤ (w.heap.push _).size; simp) fun b hb _ => ?_
      simp only [World.alloc, World.drew]
      rw [Array.getElem?_push, if_neg (by omega)]
    · unfold World.freeze
      split
      · exact StepOK.grown _ _ hH.lt rfl rfl rfl (Nat.le_refl _) fun _ _ _ => rfl
      · refine StepOK.grown _ _ hH.lt rfl rfl rfl (by show w.heap.size ≤ (w.heap.modify _ _).size; simp) fun b hb hne => ?_
        have := hne 1001 _ (by simp) rfl hnn
        simp only [World.drew, Array.getElem?_modify]
        rw [if_neg this]
  rcases hv1.osl_inv with ⟨hnil, ev, hn0⟩ | ⟨hnn, o', cc, ev, ho', hcap, hlc, hm⟩
  · rw [ev] at h1
    have hb0 : bs = [] := List.eq_nil_of_length_eq_zero hn0
    subst hb0
    exact (bs_nil (g.ρ 1000) _ w e fz h1).mono fun en w' ⟨h6, h7⟩ => fin en w' ⟨h6, .inl h7⟩ (by simp)
  · rcases hrow with ⟨hnil, _⟩ | ⟨_, hp, ⟨rc, re, rf, k1, k2, ⟨k3, k4⟩, k5⟩, k6, k7, k8⟩
    · exact absurd hnil hnn
    simp only [tyOK] at k4
    subst k4
    rw [ev] at h1
    by_cases hb0 : bs = []
    · subst hb0
      by_cases hc0 : cc = 0
      · subst hc0
        exact (bs_noroom (g.ρ 1000) (g.ρ 1001) o' _ w e fz rf rc _ k1 h1).mono fun en w' ⟨h6, h7⟩ => fin en w' ⟨h6, .inr (.inl ⟨_, _, h7⟩)⟩ (by simp)
      · exact (bs_room (g.ρ 1000) (g.ρ 1001) o' cc _ w e fz hc0 h1).mono fun en w' ⟨h6, h7⟩ => fin en w' ⟨h6, .inl h7⟩ (by simp)
    · have hbl : bs.length ≠ 0 := by simpa using hb0
      have ho : o' = g.base 1001 := by
        rcases ho' with h | h
        · omega
        · simpa using h
      have h63 : bs.length ≤ 9223372036854775807 := maxLen_le (by omega)
      refine (bs_some (g.ρ 1000) (g.ρ 1001) o' cc _ rc rf bs w e fz h1 k1 hb0 hlc (by simp at k6; rw [k2, ho]; omega) h63 ?_).mono fun en w' ⟨h6, h7⟩ => fin en w' ⟨h6, .inr (.inr ⟨_, _, hnn, h7⟩)⟩ h63
      intro j x hx
      have hrd := k5 j 0 (byteV x) (byteV x) (by simp [hx]) rfl
      simp only [Nat.mul_one, Nat.add_zero] at hrd
      have hlt : g.base 1001 + j < rc.size := by
        have := (List.getElem?_eq_some_iff.1 hx).1
        simp at k6; rw [k2]; omega
      have hc : rc[g.base 1001 + j]? = some (.int .u8 x.toNat) := by
        have h8 : rc.getD (g.base 1001 + j) undef = .int .u8 x.toNat := by
          generalize rc.getD (g.base 1001 + j) undef = u at hrd
          cases hrd; rfl
        rw [← h8]; simp [Array.getD_eq_getD_getElem?, hlt]
      rw [Addr.add_lit]
      simp only [World.cell?, k1, ho, hc]
      rfl
theorem c_Itoa (n : Int) (hn : rng .i64 n) : ACall Tryd.prog 44 [.int .i64 n] [] (fun r H => r = .str (Lib.itoa n) ∧ H = []) := by
  have hn' : -9223372036854775808 ≤ n ∧ n ≤ 9223372036854775807 := hn
  refine acall_grow (by kernel_rfl) fun g w vals hH hl hv => ?_
  rw [arr1 hl, (hv 0 _ rfl).int_inv.1]
  have ht := hH.tabs w (fun _ _ => rfl) _ List.mem_cons_self (by kernel_rfl)
  refine (Tryd.strconv_Itoa n hn'.1 hn'.2 w ht).mono ?_
  rintro en w' ⟨rfl, k, os, rfl⟩
  exact ⟨_, rfl, fun g w' => str_vr _ (Nat.le_trans (Lib.itoa_length_le n hn'.1 hn'.2) (by decide)), k, os, rfl⟩
/- leakresponse/object.tree -/
def m_object_tree : MC :=
  (.seq (.reg [⟨.box (.t 0), (some 1), none⟩,
    ⟨.mv (.c (.bool false)), (some 2), none⟩])
  (.seq (.seq (.reg [⟨.fad 3 (.t 1), (some 5), none⟩,
    ⟨.ld none (.t 5), (some 6), none⟩,
    ⟨.len false (.t 6), (some 7), none⟩,
    ⟨.mv (.c (.int .i64 0)), (some 8), none⟩])
  (.block 0
  (.loop
    (.seq (.reg [⟨.bin false .lss (.t 8) (.t 7), (some 9), none⟩])
    (.seq (.cond (.t 9)
      .skip
      (.exit 0))
    (.seq (.block 1
    (.seq (.reg [⟨.mv (.t 8), (some 10), none⟩,
      ⟨.iad 2 (.t 6) (.t 8), (some 11), none⟩,
      ⟨.ld (some 2) (.t 11), (some 12), none⟩,
      ⟨.alloc [(.str []), (.int .i64 0)], (some 4), none⟩,
      ⟨.mv (.t 10), (some 3), none⟩,
      ⟨.st 2 (.t 4) (.t 12), none, none⟩])
    (.seq (.regD [⟨.fad 0 (.t 4), (some 13), none⟩,
      ⟨.ld none (.t 13), (some 14), none⟩,
      ⟨.call (.f 9) [(.t 14)] [] [], (some 15), none⟩,
      ⟨.not (.t 15), (some 16), none⟩,
      ⟨.mv (.t 16), (some 17), none⟩,
      ⟨.fad 1 (.t 4), (some 18), (some (17, false))⟩,
      ⟨.ld none (.t 18), (some 19), (some (17, false))⟩,
      ⟨.call (.f 26) [(.t 19)] [] [], (some 20), (some (17, false))⟩,
      ⟨.not (.t 20), (some 21), (some (17, false))⟩,
      ⟨.pick (.t 17) (.c (.bool true)) (.t 21), (some 22), none⟩,
      ⟨.mv (.t 22), (some 23), none⟩,
      ⟨.mv (.t 3), (some 24), (some (23, false))⟩,
      ⟨.bin false .gtr (.t 24) (.c (.int .i64 0)), (some 25), (some (23, false))⟩,
      ⟨.mv (.t 25), (some 26), (some (23, false))⟩,
      ⟨.fad 3 (.t 1), (some 27), (some (26, true))⟩,
      ⟨.ld none (.t 27), (some 28), (some (26, true))⟩,
      ⟨.mv (.t 3), (some 29), (some (26, true))⟩,
      ⟨.bin true .sub (.t 29) (.c (.int .i64 1)), (some 30), (some (26, true))⟩,
      ⟨.iad 2 (.t 28) (.t 30), (some 31), (some (26, true))⟩,
      ⟨.fad 0 (.t 31), (some 32), (some (26, true))⟩,
      ⟨.ld none (.t 32), (some 33), (some (26, true))⟩,
      ⟨.fad 0 (.t 4), (some 34), (some (26, true))⟩,
      ⟨.ld none (.t 34), (some 35), (some (26, true))⟩,
      ⟨.bin false .geq (.t 33) (.t 35), (some 36), (some (26, true))⟩,
      ⟨.pick (.t 26) (.t 36) (.c (.bool false)), (some 37), (some (23, false))⟩,
      ⟨.pick (.t 23) (.c (.bool true)) (.t 37), (some 38), none⟩]
      [[], [0], [1], [2], [3, 2], [4], [5, 4], [6, 4, 4], [7, 4], [4, 8], [9, 7], [10], [11, 10], [12, 10, 10], [13], [14, 13], [13], [16, 13], [15, 17, 13], [18, 13], [19, 13], [13], [21, 13], [20, 22, 13], [13, 23, 10], [10, 24]]
      [[], [0], [0, 1], [0, 1, 2], [0, 1, 2, 3], [0, 1, 2, 3, 4], [0, 1, 2, 3, 4, 5], [0, 1, 2, 3, 4, 5, 6], [0, 1, 2, 3, 4, 5, 6, 7], [0, 1, 2, 3, 4, 5, 6, 7, 8], [0, 1, 2, 3, 4, 5, 6, 7, 8, 9], [0, 1, 2, 3, 4, 5, 6, 7, 8, 9, 10], [0, 1, 2, 3, 4, 5, 6, 7, 8, 9, 10, 11], [0, 1, 2, 3, 4, 5, 6, 7, 8, 9, 10, 11, 12], [0, 1, 2, 3, 4, 5, 6, 7, 8, 9, 10, 11, 12, 13], [0, 1, 2, 3, 4, 5, 6, 7, 8, 9, 10, 11, 12, 13, 14], [0, 1, 2, 3, 4, 5, 6, 7, 8, 9, 10, 11, 12, 13], [0, 1, 2, 3, 4, 5, 6, 7, 8, 9, 10, 11, 12, 13, 16], [0, 1, 2, 3, 4, 5, 6, 7, 8, 9, 10, 11, 12, 13, 14, 15, 16, 17], [0, 1, 2, 3, 4, 5, 6, 7, 8, 9, 10, 11, 12, 13, 14, 15, 16, 17, 18], [0, 1, 2, 3, 4, 5, 6, 7, 8, 9, 10, 11, 12, 13, 14, 15, 16, 17, 18, 19], [0, 1, 2, 3, 4, 5, 6, 7, 8, 9, 10, 11, 12, 13], [0, 1, 2, 3, 4, 5, 6, 7, 8, 9, 10, 11, 12, 13, 21], [0, 1, 2, 3, 4, 5, 6, 7, 8, 9, 10, 11, 12, 13, 14, 15, 16, 17, 18, 19, 20, 21, 22], [0, 1, 2, 3, 4, 5, 6, 7, 8, 9, 10, 11, 12, 13, 14, 15, 16, 17, 18, 19, 20, 21, 22, 23], [0, 1, 2, 3, 4, 5, 6, 7, 8, 9, 10, 11, 12, 13, 14, 15, 16, 17, 18, 19, 20, 21, 22, 23, 24]])
    (.cond (.t 38)
      (.seq (.reg [⟨.mv (.c (.bool false)), (some 2), none⟩])
      .ret)
      .skip))))
    (.reg [⟨.bin true .add (.t 8) (.c (.int .i64 1)), (some 39), none⟩,
      ⟨.mv (.t 39), (some 8), none⟩])))))))
  (.seq (.reg [⟨.mv (.c (.bool true)), (some 2), none⟩])
  .ret)))
theorem ok_object_tree : m_object_tree.ok Tryd.prog Tryd.f46.ntmps (Tryd.f46.body.getD .skip) = true := by kernel_rfl

theorem c_object_tree (o : Ob) : ACall Tryd.prog 46 [o.v] [] (fun r H => r = .bool (treeOK o.items) ∧ H = []) := by
  refine acall_mach [] [.t 2] Tryd.func46 rfl (by kernel_rfl) ok_object_tree (by kernel_rfl) rfl rfl fun M hf => ?_
  have hlen : o.items.length ≤ 9223372036854775807 := by
    have := hf.1.1
    simp only [Ob.v, Ob.cs, V.fact, V.factL] at this
    simpa using this.2.2.2.1.1
  unfold m_object_tree
  simp only [go_sem, Nat.reduceBEq, Nat.reduceAdd, Nat.reduceLeDiff, Nat.reduceSub, Item.v, Ob.v, Ob.cs, ints]
  refine M.go_loop (fun i : Nat => ⟨[(1, .ptr 1 0), (6, .sl (o.items.map Item.v)), (7, .int .i64 o.items.length), (8, .int .i64 i)], [(1, .cells o.cs)]⟩) (fun i => i ≤ o.items.length ∧ ∀ j, j < i → treeAt o.items j = true) (fun i => o.items.length - i)
    ⟨0, ⟨Nat.zero_le _, fun j hj => by omega⟩, ⟨rfl, by repeat' (first | exact trivial | rfl | apply And.intro), by repeat' (first | exact trivial | rfl | apply And.intro)⟩⟩ fun i hi hfi => ?_
  simp only [go_sem, Nat.reduceBEq, Nat.reduceAdd, Nat.reduceLeDiff, Nat.reduceSub, Item.v, Ob.v, Ob.cs, ints]
  repeat' (first
    | (refine sCall_of (c_object_Name _) rfl rfl ?_; rw [M.lok_eq]; simp only [go_sem, Nat.reduceBEq, Nat.reduceAdd, Nat.reduceLeDiff, Nat.reduceSub, Item.v, Ob.v, Ob.cs, ints])
    | (refine sCallD_of (c_object_Name _) rfl rfl ?_; rw [M.lokD_eq]; simp only [go_sem, Nat.reduceBEq, Nat.reduceAdd, Nat.reduceLeDiff, Nat.reduceSub, Item.v, Ob.v, Ob.cs, ints])
    | (refine sCall_of (c_object_Number _) rfl rfl ?_; rw [M.lok_eq]; simp only [go_sem, Nat.reduceBEq, Nat.reduceAdd, Nat.reduceLeDiff, Nat.reduceSub, Item.v, Ob.v, Ob.cs, ints])
    | (refine sCallD_of (c_object_Number _) rfl rfl ?_; rw [M.lokD_eq]; simp only [go_sem, Nat.reduceBEq, Nat.reduceAdd, Nat.reduceLeDiff, Nat.reduceSub, Item.v, Ob.v, Ob.cs, ints])
    | (rw [M.opsG_any]; refine ⟨fun h => ?_, fun h => ?_⟩ <;> simp only [go_sem, Nat.reduceBEq, Nat.reduceAdd, Nat.reduceLeDiff, Nat.reduceSub, Item.v, Ob.v, Ob.cs, ints])
    | (rw [M.opsDG_bool]; refine ⟨fun h => ?_, fun h => ?_⟩ <;> simp only [go_sem, Nat.reduceBEq, Nat.reduceAdd, Nat.reduceLeDiff, Nat.reduceSub, Item.v, Ob.v, Ob.cs, ints])
    | (rw [M.goC_any]; refine ⟨fun h => ?_, fun h => ?_⟩ <;> simp only [go_sem, Nat.reduceBEq, Nat.reduceAdd, Nat.reduceLeDiff, Nat.reduceSub, Item.v, Ob.v, Ob.cs, ints])
    | (refine chk_of ?_; rfl)
    | apply And.intro
    | intro h)
  all_goals (try first | omega | (simp only [rng]; omega) | rfl)
  all_goals clear hf hfi
  all_goals have e1 : ((i : Int) - 1).toNat = i - 1 := by omega
  all_goals first
    | (rw [show treeOK o.items = false from allI_f (i := i) (by omega) (by simp_all [treeAt]; try omega)])
    | (refine Lk.mk ⟨i + 1, ⟨by omega, all_succ hi.2 (by simp_all [treeAt]; try omega)⟩, by omega, ⟨rfl, by repeat' (first | exact trivial | rfl | apply And.intro), by repeat' (first | exact trivial | rfl | apply And.intro)⟩⟩)
    | (rw [show treeOK o.items = true from allI_t fun j hj => hi.2 j (by omega)])
/- slices.Index[[]int,int] -/
def m_slices_Index___int_int_ : MC :=
  (.seq (.reg [⟨.mv (.c (.int .i64 0)), (some 4), none⟩])
  (.seq (.seq (.reg [⟨.mv (.t 0), (some 6), none⟩,
    ⟨.len false (.t 6), (some 7), none⟩,
    ⟨.mv (.c (.int .i64 0)), (some 8), none⟩])
  (.block 0
  (.loop
    (.seq (.reg [⟨.bin false .lss (.t 8) (.t 7), (some 9), none⟩])
    (.seq (.cond (.t 9)
      .skip
      (.exit 0))
    (.seq (.block 1
    (.seq (.reg [⟨.mv (.t 8), (some 10), none⟩,
      ⟨.mv (.t 10), (some 5), none⟩])
    (.seq (.reg [⟨.mv (.t 1), (some 11), none⟩,
      ⟨.mv (.t 0), (some 12), none⟩,
      ⟨.mv (.t 5), (some 13), none⟩,
      ⟨.iad 1 (.t 12) (.t 13), (some 14), none⟩,
      ⟨.ld none (.t 14), (some 15), none⟩,
      ⟨.bin false .eql (.t 11) (.t 15), (some 16), none⟩])
    (.cond (.t 16)
      (.seq (.reg [⟨.mv (.t 5), (some 17), none⟩,
        ⟨.mv (.t 17), (some 4), none⟩])
      .ret)
      .skip))))
    (.reg [⟨.bin true .add (.t 8) (.c (.int .i64 1)), (some 18), none⟩,
      ⟨.mv (.t 18), (some 8), none⟩])))))))
  (.seq (.reg [⟨.mv (.c (.int .i64 (-1))), (some 4), none⟩])
  .ret)))
theorem ok_slices_Index___int_int_ : m_slices_Index___int_int_.ok Tryd.prog Tryd.f68.ntmps (Tryd.f68.body.getD .skip) = true := by kernel_rfl

theorem c_IndexI (l : List Int) (x : Int) : ACall Tryd.prog 68 [ints l, .int .i64 x] [] (fun r H => r = .int .i64 (firstI l.length fun j => decide (x = l.getD j 0)) ∧ H = []) := by
  refine acall_mach [] [.t 4] Tryd.func68 rfl (by kernel_rfl) ok_slices_Index___int_int_ (by kernel_rfl) rfl rfl fun M hf => ?_
  have hlen : l.length ≤ 9223372036854775807 := by
    have := hf.1.1
    simp only [ints, V.fact, List.length_map] at this
    exact this.1
  unfold m_slices_Index___int_int_
  simp only [go_sem, Nat.reduceBEq, Nat.reduceAdd, Nat.reduceLeDiff, Nat.reduceSub, Item.v, Ob.v, Ob.cs, ints]
  refine M.go_loop (fun i : Nat => ⟨[(0, ints l), (1, .int .i64 x), (7, .int .i64 l.length), (8, .int .i64 i)], []⟩) (fun i => i ≤ l.length ∧ ∀ j, j < i → ¬ x = l.getD j 0) (fun i => l.length - i)
    ⟨0, ⟨Nat.zero_le _, fun j hj => by omega⟩, ⟨rfl, by repeat' (first | exact trivial | rfl | apply And.intro), by repeat' (first | exact trivial | rfl | apply And.intro)⟩⟩ fun i hi hfi => ?_
  simp only [go_sem, Nat.reduceBEq, Nat.reduceAdd, Nat.reduceLeDiff, Nat.reduceSub, Item.v, Ob.v, Ob.cs, ints]
  repeat' (first
    | (rw [M.opsG_any]; refine ⟨fun h => ?_, fun h => ?_⟩ <;> simp only [go_sem, Nat.reduceBEq, Nat.reduceAdd, Nat.reduceLeDiff, Nat.reduceSub, Item.v, Ob.v, Ob.cs, ints])
    | (rw [M.opsDG_bool]; refine ⟨fun h => ?_, fun h => ?_⟩ <;> simp only [go_sem, Nat.reduceBEq, Nat.reduceAdd, Nat.reduceLeDiff, Nat.reduceSub, Item.v, Ob.v, Ob.cs, ints])
    | (rw [M.goC_any]; refine ⟨fun h => ?_, fun h => ?_⟩ <;> simp only [go_sem, Nat.reduceBEq, Nat.reduceAdd, Nat.reduceLeDiff, Nat.reduceSub, Item.v, Ob.v, Ob.cs, ints])
    | (refine chk_of ?_; rfl)
    | apply And.intro
    | intro h)
  all_goals (try first | omega | (simp only [rng]; omega) | rfl)
  · rw [firstI_hit (i := i) (by omega) (by simp [h]) fun j hj => decide_eq_false (hi.2 j hj)]
  · refine Lk.mk ⟨i + 1, ⟨by omega, fun j hj => by
      by_cases e : j = i
      · rw [e]; exact h
      · exact hi.2 j (by omega)⟩, by omega, ⟨rfl, by repeat' (first | exact trivial | rfl | apply And.intro), by repeat' (first | exact trivial | rfl | apply And.intro)⟩⟩
  · rw [firstI_none fun j hj => decide_eq_false (hi.2 j (by omega))]
/- slices.Contains[[]int,int] -/
def m_slices_Contains___int_int_ : MC :=
  (.seq (.reg [⟨.mv (.c (.bool false)), (some 4), none⟩])
  (.seq (.reg [⟨.mv (.t 0), (some 5), none⟩,
    ⟨.mv (.t 1), (some 6), none⟩,
    ⟨.call (.f 68) [(.t 5), (.t 6)] [] [], (some 7), none⟩,
    ⟨.bin false .geq (.t 7) (.c (.int .i64 0)), (some 8), none⟩,
    ⟨.mv (.t 8), (some 4), none⟩])
  .ret))
theorem ok_slices_Contains___int_int_ : m_slices_Contains___int_int_.ok Tryd.prog Tryd.f58.ntmps (Tryd.f58.body.getD .skip) = true := by kernel_rfl

theorem c_ContainsI (l : List Int) (x : Int) : ACall Tryd.prog 58 [ints l, .int .i64 x] [] (fun r H => r = .bool (inL l x) ∧ H = []) := by
  refine acall_mach [] [.t 4] Tryd.func58 rfl (by kernel_rfl) ok_slices_Contains___int_int_ (by kernel_rfl) rfl rfl fun M hf => ?_
  unfold m_slices_Contains___int_int_
  simp only [go_sem, Nat.reduceBEq, Nat.reduceAdd, Nat.reduceLeDiff, Nat.reduceSub, Item.v, Ob.v, Ob.cs, ints]
  repeat' (first
    | (refine sCall_of (c_IndexI _ _) rfl rfl ?_; rw [M.lok_eq]; simp only [go_sem, Nat.reduceBEq, Nat.reduceAdd, Nat.reduceLeDiff, Nat.reduceSub, Item.v, Ob.v, Ob.cs, ints])
    | (refine sCallD_of (c_IndexI _ _) rfl rfl ?_; rw [M.lokD_eq]; simp only [go_sem, Nat.reduceBEq, Nat.reduceAdd, Nat.reduceLeDiff, Nat.reduceSub, Item.v, Ob.v, Ob.cs, ints])
    | (rw [M.opsG_any]; refine ⟨fun h => ?_, fun h => ?_⟩ <;> simp only [go_sem, Nat.reduceBEq, Nat.reduceAdd, Nat.reduceLeDiff, Nat.reduceSub, Item.v, Ob.v, Ob.cs, ints])
    | (rw [M.opsDG_bool]; refine ⟨fun h => ?_, fun h => ?_⟩ <;> simp only [go_sem, Nat.reduceBEq, Nat.reduceAdd, Nat.reduceLeDiff, Nat.reduceSub, Item.v, Ob.v, Ob.cs, ints])
    | (rw [M.goC_any]; refine ⟨fun h => ?_, fun h => ?_⟩ <;> simp only [go_sem, Nat.reduceBEq, Nat.reduceAdd, Nat.reduceLeDiff, Nat.reduceSub, Item.v, Ob.v, Ob.cs, ints])
    | (refine chk_of ?_; rfl)
    | apply And.intro
    | intro h)
  all_goals (try first | omega | (simp only [rng]; omega) | rfl)
  rw [show inL l x = decide (0 ≤ firstI l.length fun j => decide (x = l.getD j 0)) from by
    rw [Bool.eq_iff_iff, inL_iff, decide_eq_true_eq, firstI_ge]
    simp [eq_comm]]
/- leakresponse/object.commit -/
def m_object_commit : MC :=
  (.seq (.reg [⟨.box (.t 0), (some 1), none⟩,
    ⟨.mv (.c (.bool false)), (some 2), none⟩])
  (.seq (.seq (.reg [⟨.fad 5 (.t 1), (some 5), none⟩,
    ⟨.ld none (.t 5), (some 6), none⟩,
    ⟨.len false (.t 6), (some 7), none⟩,
    ⟨.mv (.c (.int .i64 0)), (some 8), none⟩])
  (.block 0
  (.loop
    (.seq (.reg [⟨.bin false .lss (.t 8) (.t 7), (some 9), none⟩])
    (.seq (.cond (.t 9)
      .skip
      (.exit 0))
    (.seq (.block 1
    (.seq (.reg [⟨.mv (.t 8), (some 10), none⟩,
      ⟨.iad 1 (.t 6) (.t 8), (some 11), none⟩,
      ⟨.ld none (.t 11), (some 12), none⟩,
      ⟨.mv (.t 10), (some 3), none⟩,
      ⟨.mv (.t 12), (some 4), none⟩])
    (.seq (.reg [⟨.mv (.t 4), (some 13), none⟩,
      ⟨.call (.f 26) [(.t 13)] [] [], (some 14), none⟩,
      ⟨.not (.t 14), (some 15), none⟩,
      ⟨.mv (.t 15), (some 16), none⟩,
      ⟨.fad 5 (.t 1), (some 17), (some (16, false))⟩,
      ⟨.ld none (.t 17), (some 18), (some (16, false))⟩,
      ⟨.mv (.t 3), (some 19), (some (16, false))⟩,
      ⟨.slc 1 (.t 18) none (some (.t 19)), (some 20), (some (16, false))⟩,
      ⟨.mv (.t 4), (some 21), (some (16, false))⟩,
      ⟨.call (.f 58) [(.t 20), (.t 21)] [] [], (some 22), (some (16, false))⟩,
      ⟨.pick (.t 16) (.c (.bool true)) (.t 22), (some 23), none⟩])
    (.cond (.t 23)
      (.seq (.reg [⟨.mv (.c (.bool false)), (some 2), none⟩])
      .ret)
      .skip))))
    (.reg [⟨.bin true .add (.t 8) (.c (.int .i64 1)), (some 24), none⟩,
      ⟨.mv (.t 24), (some 8), none⟩])))))))
  (.seq (.reg [⟨.fad 4 (.t 1), (some 25), none⟩,
    ⟨.ld none (.t 25), (some 26), none⟩,
    ⟨.call (.f 26) [(.t 26)] [] [], (some 27), none⟩,
    ⟨.mv (.t 27), (some 28), none⟩,
    ⟨.fad 6 (.t 1), (some 29), (some (28, true))⟩,
    ⟨.ld none (.t 29), (some 30), (some (28, true))⟩,
    ⟨.call (.f 9) [(.t 30)] [] [], (some 31), (some (28, true))⟩,
    ⟨.pick (.t 28) (.t 31) (.c (.bool false)), (some 32), none⟩,
    ⟨.mv (.t 32), (some 33), none⟩,
    ⟨.fad 7 (.t 1), (some 34), (some (33, true))⟩,
    ⟨.ld none (.t 34), (some 35), (some (33, true))⟩,
    ⟨.bin false .geq (.t 35) (.c (.int .i64 0)), (some 36), (some (33, true))⟩,
    ⟨.pick (.t 33) (.t 36) (.c (.bool false)), (some 37), none⟩,
    ⟨.mv (.t 37), (some 38), none⟩,
    ⟨.fad 7 (.t 1), (some 39), (some (38, true))⟩,
    ⟨.ld none (.t 39), (some 40), (some (38, true))⟩,
    ⟨.bin false .leq (.t 40) (.c (.int .i64 1099511627776)), (some 41), (some (38, true))⟩,
    ⟨.pick (.t 38) (.t 41) (.c (.bool false)), (some 42), none⟩,
    ⟨.mv (.t 42), (some 2), none⟩])
  .ret)))
theorem ok_object_commit : m_object_commit.ok Tryd.prog Tryd.f47.ntmps (Tryd.f47.body.getD .skip) = true := by kernel_rfl

theorem c_object_commit (o : Ob) : ACall Tryd.prog 47 [o.v] [] (fun r H => r = .bool (commitOK o) ∧ H = []) := by
  refine acall_mach [] [.t 2] Tryd.func47 rfl (by kernel_rfl) ok_object_commit (by kernel_rfl) rfl rfl fun M hf => ?_
  have hlen := (parents_fact hf.1.1).1
  unfold m_object_commit
  simp only [go_sem, Nat.reduceBEq, Nat.reduceAdd, Nat.reduceLeDiff, Nat.reduceSub, Item.v, Ob.v, Ob.cs, ints]
  refine M.go_loop (fun i : Nat => ⟨[(1, .ptr 1 0), (6, ints o.parents), (7, .int .i64 o.parents.length), (8, .int .i64 i)], [(1, .cells o.cs)]⟩) (fun i => i ≤ o.parents.length ∧ ∀ j, j < i → parAt o.parents j = true) (fun i => o.parents.length - i)
    ⟨0, ⟨Nat.zero_le _, fun j hj => by omega⟩, ⟨rfl, by repeat' (first | exact trivial | rfl | apply And.intro), by repeat' (first | exact trivial | rfl | apply And.intro)⟩⟩ fun i hi hfi => ?_
  simp only [go_sem, Nat.reduceBEq, Nat.reduceAdd, Nat.reduceLeDiff, Nat.reduceSub, Item.v, Ob.v, Ob.cs, ints]
  repeat' (first
    | (refine sCall_of (c_object_Number _) rfl rfl ?_; rw [M.lok_eq]; simp only [go_sem, Nat.reduceBEq, Nat.reduceAdd, Nat.reduceLeDiff, Nat.reduceSub, Item.v, Ob.v, Ob.cs, ints])
    | (refine sCallD_of (c_object_Number _) rfl rfl ?_; rw [M.lokD_eq]; simp only [go_sem, Nat.reduceBEq, Nat.reduceAdd, Nat.reduceLeDiff, Nat.reduceSub, Item.v, Ob.v, Ob.cs, ints])
    | (refine sCall_of (c_ContainsI _ _) rfl rfl ?_; rw [M.lok_eq]; simp only [go_sem, Nat.reduceBEq, Nat.reduceAdd, Nat.reduceLeDiff, Nat.reduceSub, Item.v, Ob.v, Ob.cs, ints])
    | (refine sCallD_of (c_ContainsI _ _) rfl rfl ?_; rw [M.lokD_eq]; simp only [go_sem, Nat.reduceBEq, Nat.reduceAdd, Nat.reduceLeDiff, Nat.reduceSub, Item.v, Ob.v, Ob.cs, ints])
    | (refine sCall_of (c_object_Name _) rfl rfl ?_; rw [M.lok_eq]; simp only [go_sem, Nat.reduceBEq, Nat.reduceAdd, Nat.reduceLeDiff, Nat.reduceSub, Item.v, Ob.v, Ob.cs, ints])
    | (refine sCallD_of (c_object_Name _) rfl rfl ?_; rw [M.lokD_eq]; simp only [go_sem, Nat.reduceBEq, Nat.reduceAdd, Nat.reduceLeDiff, Nat.reduceSub, Item.v, Ob.v, Ob.cs, ints])
    | (rw [M.opsG_any]; refine ⟨fun h => ?_, fun h => ?_⟩ <;> simp only [go_sem, Nat.reduceBEq, Nat.reduceAdd, Nat.reduceLeDiff, Nat.reduceSub, Item.v, Ob.v, Ob.cs, ints])
    | (rw [M.opsDG_bool]; refine ⟨fun h => ?_, fun h => ?_⟩ <;> simp only [go_sem, Nat.reduceBEq, Nat.reduceAdd, Nat.reduceLeDiff, Nat.reduceSub, Item.v, Ob.v, Ob.cs, ints])
    | (rw [M.goC_any]; refine ⟨fun h => ?_, fun h => ?_⟩ <;> simp only [go_sem, Nat.reduceBEq, Nat.reduceAdd, Nat.reduceLeDiff, Nat.reduceSub, Item.v, Ob.v, Ob.cs, ints])
    | (refine chk_of ?_; rfl)
    | apply And.intro
    | intro h)
  all_goals (try first | omega | (simp only [rng]; omega) | rfl)
  all_goals clear hf hfi
  all_goals first
    | (refine Lk.mk ⟨i + 1, ⟨by omega, all_succ hi.2 (by simp_all [parAt])⟩, by omega, ⟨rfl, by repeat' (first | exact trivial | rfl | apply And.intro), by repeat' (first | exact trivial | rfl | apply And.intro)⟩⟩)
    | (have hp : parOK o.parents = false := allI_f (i := i) (by omega) (by simp_all [parAt]); simp [commitOK, hp]; done)
    | (have hp : parOK o.parents = true := allI_t fun j hj => hi.2 j (by omega); simp_all [commitOK, timeOK]; try omega)
/- leakresponse/object.right -/
def m_object_right : MC :=
  (.seq (.reg [⟨.box (.t 0), (some 1), none⟩,
    ⟨.mv (.c (.bool false)), (some 2), none⟩])
  (.cut (.reg [⟨.fad 4 (.t 1), (some 4), none⟩,
    ⟨.ld none (.t 4), (some 5), none⟩,
    ⟨.bin false .neq (.t 5) (.c (.int .i64 0)), (some 6), none⟩,
    ⟨.mv (.t 6), (some 7), none⟩,
    ⟨.fad 5 (.t 1), (some 8), (some (7, false))⟩,
    ⟨.ld none (.t 8), (some 9), (some (7, false))⟩,
    ⟨.len false (.t 9), (some 10), (some (7, false))⟩,
    ⟨.bin false .gtr (.t 10) (.c (.int .i64 0)), (some 11), (some (7, false))⟩,
    ⟨.pick (.t 7) (.c (.bool true)) (.t 11), (some 12), none⟩,
    ⟨.mv (.t 12), (some 13), none⟩,
    ⟨.fad 6 (.t 1), (some 14), (some (13, false))⟩,
    ⟨.ld none (.t 14), (some 15), (some (13, false))⟩,
    ⟨.bin false .neq (.t 15) (.c (.str [])), (some 16), (some (13, false))⟩,
    ⟨.pick (.t 13) (.c (.bool true)) (.t 16), (some 17), none⟩,
    ⟨.mv (.t 17), (some 18), none⟩,
    ⟨.fad 7 (.t 1), (some 19), (some (18, false))⟩,
    ⟨.ld none (.t 19), (some 20), (some (18, false))⟩,
    ⟨.bin false .neq (.t 20) (.c (.int .i64 0)), (some 21), (some (18, false))⟩,
    ⟨.pick (.t 18) (.c (.bool true)) (.t 21), (some 22), none⟩,
    ⟨.mv (.t 22), (some 3), none⟩])
  (.seq (.seq (.reg [⟨.fad 1 (.t 1), (some 23), none⟩,
    ⟨.ld none (.t 23), (some 24), none⟩])
  (.block 0
  (.seq (.reg [⟨.bin false .eql (.t 24) (.c (.int .i64 1)), (some 26), none⟩,
    ⟨.mv (.t 26), (some 25), none⟩])
  (.cond (.t 25)
    (.seq (.reg [⟨.fad 3 (.t 1), (some 27), none⟩,
      ⟨.ld none (.t 27), (some 28), none⟩,
      ⟨.len false (.t 28), (some 29), none⟩,
      ⟨.bin false .eql (.t 29) (.c (.int .i64 0)), (some 30), none⟩,
      ⟨.mv (.t 30), (some 31), none⟩,
      ⟨.mv (.t 3), (some 32), (some (31, true))⟩,
      ⟨.not (.t 32), (some 33), (some (31, true))⟩,
      ⟨.pick (.t 31) (.t 33) (.c (.bool false)), (some 34), none⟩,
      ⟨.mv (.t 34), (some 2), none⟩])
    .ret)
    (.seq (.reg [⟨.bin false .eql (.t 24) (.c (.int .i64 2)), (some 36), none⟩,
      ⟨.mv (.t 36), (some 35), none⟩])
    (.cond (.t 35)
      (.seq (.reg [⟨.fad 2 (.t 1), (some 37), none⟩,
        ⟨.ld none (.t 37), (some 38), none⟩,
        ⟨.len false (.t 38), (some 39), none⟩,
        ⟨.bin false .eql (.t 39) (.c (.int .i64 0)), (some 40), none⟩,
        ⟨.mv (.t 40), (some 41), none⟩,
        ⟨.mv (.t 3), (some 42), (some (41, true))⟩,
        ⟨.not (.t 42), (some 43), (some (41, true))⟩,
        ⟨.pick (.t 41) (.t 43) (.c (.bool false)), (some 44), none⟩,
        ⟨.mv (.t 44), (some 45), none⟩,
        ⟨.ld (some 8) (.t 1), (some 46), (some (45, true))⟩,
        ⟨.call (.f 46) [(.t 46)] [] [], (some 47), (some (45, true))⟩,
        ⟨.pick (.t 45) (.t 47) (.c (.bool false)), (some 48), none⟩,
        ⟨.mv (.t 48), (some 2), none⟩])
      .ret)
      (.seq (.reg [⟨.bin false .eql (.t 24) (.c (.int .i64 3)), (some 50), none⟩,
        ⟨.mv (.t 50), (some 49), none⟩])
      (.cond (.t 49)
        (.seq (.reg [⟨.fad 2 (.t 1), (some 51), none⟩,
          ⟨.ld none (.t 51), (some 52), none⟩,
          ⟨.len false (.t 52), (some 53), none⟩,
          ⟨.bin false .eql (.t 53) (.c (.int .i64 0)), (some 54), none⟩,
          ⟨.mv (.t 54), (some 55), none⟩,
          ⟨.fad 3 (.t 1), (some 56), (some (55, true))⟩,
          ⟨.ld none (.t 56), (some 57), (some (55, true))⟩,
          ⟨.len false (.t 57), (some 58), (some (55, true))⟩,
          ⟨.bin false .eql (.t 58) (.c (.int .i64 0)), (some 59), (some (55, true))⟩,
          ⟨.pick (.t 55) (.t 59) (.c (.bool false)), (some 60), none⟩,
          ⟨.mv (.t 60), (some 61), none⟩,
          ⟨.ld (some 8) (.t 1), (some 62), (some (61, true))⟩,
          ⟨.call (.f 47) [(.t 62)] [] [], (some 63), (some (61, true))⟩,
          ⟨.pick (.t 61) (.t 63) (.c (.bool false)), (some 64), none⟩,
          ⟨.mv (.t 64), (some 2), none⟩])
        .ret)
        .skip))))))))
  (.seq (.reg [⟨.mv (.c (.bool false)), (some 2), none⟩])
  .ret))))
theorem ok_object_right : m_object_right.ok Tryd.prog Tryd.f27.ntmps (Tryd.f27.body.getD .skip) = true := by kernel_rfl

theorem c_object_right (o : Ob) : ACall Tryd.prog 27 [o.v] [] (fun r H => r = .bool (rightOK o) ∧ H = []) := by
  refine acall_mach [] [.t 2] Tryd.func27 rfl (by kernel_rfl) ok_object_right (by kernel_rfl) rfl rfl fun M hf => ?_
  unfold m_object_right
  simp only [go_sem, Nat.reduceBEq, Nat.reduceAdd, Nat.reduceLeDiff, Nat.reduceSub, Item.v, Ob.v, Ob.cs, ints]
  refine M.go_cut (fun _ : Unit => ⟨[(1, .ptr 1 0), (3, .bool (!otherOK o))], [(1, .cells o.cs)]⟩) (fun _ => True) ?_ fun _ _ _ => ?_
  · simp only [go_sem, Nat.reduceBEq, Nat.reduceAdd, Nat.reduceLeDiff, Nat.reduceSub, Item.v, Ob.v, Ob.cs, ints]
    repeat' (first
      | (rw [M.opsG_any]; refine ⟨fun h => ?_, fun h => ?_⟩ <;> simp only [go_sem, Nat.reduceBEq, Nat.reduceAdd, Nat.reduceLeDiff, Nat.reduceSub, Item.v, Ob.v, Ob.cs, ints])
      | (rw [M.opsDG_bool]; refine ⟨fun h => ?_, fun h => ?_⟩ <;> simp only [go_sem, Nat.reduceBEq, Nat.reduceAdd, Nat.reduceLeDiff, Nat.reduceSub, Item.v, Ob.v, Ob.cs, ints])
      | (rw [M.goC_any]; refine ⟨fun h => ?_, fun h => ?_⟩ <;> simp only [go_sem, Nat.reduceBEq, Nat.reduceAdd, Nat.reduceLeDiff, Nat.reduceSub, Item.v, Ob.v, Ob.cs, ints])
      | (refine chk_of ?_; rfl)
      | apply And.intro
      | intro h)
    all_goals (refine Lk.mk ⟨(), rfl, ⟨rfl, ?_, trivial⟩, rfl, trivial⟩; change V.bool _ = _; simp_all [otherOK]; try (rcases hl : o.parents with _ | ⟨x, l⟩ <;> simp_all))
  simp only [go_sem, Nat.reduceBEq, Nat.reduceAdd, Nat.reduceLeDiff, Nat.reduceSub, Item.v, Ob.v, Ob.cs, ints]
  repeat' (first
    | (refine sCall_of (c_object_tree _) rfl rfl ?_; rw [M.lok_eq]; simp only [go_sem, Nat.reduceBEq, Nat.reduceAdd, Nat.reduceLeDiff, Nat.reduceSub, Item.v, Ob.v, Ob.cs, ints])
    | (refine sCallD_of (c_object_tree _) rfl rfl ?_; rw [M.lokD_eq]; simp only [go_sem, Nat.reduceBEq, Nat.reduceAdd, Nat.reduceLeDiff, Nat.reduceSub, Item.v, Ob.v, Ob.cs, ints])
    | (refine sCall_of (c_object_commit _) rfl rfl ?_; rw [M.lok_eq]; simp only [go_sem, Nat.reduceBEq, Nat.reduceAdd, Nat.reduceLeDiff, Nat.reduceSub, Item.v, Ob.v, Ob.cs, ints])
    | (refine sCallD_of (c_object_commit _) rfl rfl ?_; rw [M.lokD_eq]; simp only [go_sem, Nat.reduceBEq, Nat.reduceAdd, Nat.reduceLeDiff, Nat.reduceSub, Item.v, Ob.v, Ob.cs, ints])
    | (rw [M.opsG_any]; refine ⟨fun h => ?_, fun h => ?_⟩ <;> simp only [go_sem, Nat.reduceBEq, Nat.reduceAdd, Nat.reduceLeDiff, Nat.reduceSub, Item.v, Ob.v, Ob.cs, ints])
    | (rw [M.opsDG_bool]; refine ⟨fun h => ?_, fun h => ?_⟩ <;> simp only [go_sem, Nat.reduceBEq, Nat.reduceAdd, Nat.reduceLeDiff, Nat.reduceSub, Item.v, Ob.v, Ob.cs, ints])
    | (rw [M.goC_any]; refine ⟨fun h => ?_, fun h => ?_⟩ <;> simp only [go_sem, Nat.reduceBEq, Nat.reduceAdd, Nat.reduceLeDiff, Nat.reduceSub, Item.v, Ob.v, Ob.cs, ints])
    | (refine chk_of ?_; rfl)
    | apply And.intro
    | intro h)
  all_goals (try first | omega | (simp only [rng]; omega) | rfl)
  all_goals clear hf
  all_goals simp_all [rightOK]
/- leakresponse/object.Valid -/
def m_object_Valid : MC :=
  (.seq (.reg [⟨.box (.t 0), (some 1), none⟩,
    ⟨.mv (.c (.int .i64 0)), (some 2), none⟩])
  (.seq (.block 0
  (.seq (.reg [⟨.fad 0 (.t 1), (some 4), none⟩,
    ⟨.ld none (.t 4), (some 5), none⟩,
    ⟨.call (.f 26) [(.t 5)] [] [], (some 6), none⟩,
    ⟨.not (.t 6), (some 7), none⟩,
    ⟨.mv (.t 7), (some 3), none⟩])
  (.cond (.t 3)
    (.seq (.reg [⟨.mv (.c (.int .i64 2)), (some 2), none⟩])
    .ret)
    (.seq (.reg [⟨.fad 2 (.t 1), (some 9), none⟩,
      ⟨.ld none (.t 9), (some 10), none⟩,
      ⟨.len false (.t 10), (some 11), none⟩,
      ⟨.bin false .gtr (.t 11) (.c (.int .i64 65536)), (some 12), none⟩,
      ⟨.mv (.t 12), (some 13), none⟩,
      ⟨.fad 3 (.t 1), (some 14), (some (13, false))⟩,
      ⟨.ld none (.t 14), (some 15), (some (13, false))⟩,
      ⟨.len false (.t 15), (some 16), (some (13, false))⟩,
      ⟨.bin false .gtr (.t 16) (.c (.int .i64 64)), (some 17), (some (13, false))⟩,
      ⟨.pick (.t 13) (.c (.bool true)) (.t 17), (some 18), none⟩,
      ⟨.mv (.t 18), (some 19), none⟩,
      ⟨.fad 5 (.t 1), (some 20), (some (19, false))⟩,
      ⟨.ld none (.t 20), (some 21), (some (19, false))⟩,
      ⟨.len false (.t 21), (some 22), (some (19, false))⟩,
      ⟨.bin false .gtr (.t 22) (.c (.int .i64 8)), (some 23), (some (19, false))⟩,
      ⟨.pick (.t 19) (.c (.bool true)) (.t 23), (some 24), none⟩,
      ⟨.mv (.t 24), (some 8), none⟩])
    (.cond (.t 8)
      (.seq (.reg [⟨.mv (.c (.int .i64 3)), (some 2), none⟩])
      .ret)
      (.seq (.reg [⟨.ld (some 8) (.t 1), (some 26), none⟩,
        ⟨.call (.f 27) [(.t 26)] [] [], (some 27), none⟩,
        ⟨.not (.t 27), (some 28), none⟩,
        ⟨.mv (.t 28), (some 25), none⟩])
      (.cond (.t 25)
        (.seq (.reg [⟨.mv (.c (.int .i64 1)), (some 2), none⟩])
        .ret)
        .skip)))))))
  (.seq (.reg [⟨.mv (.c (.int .i64 0)), (some 2), none⟩])
  .ret)))
theorem ok_object_Valid : m_object_Valid.ok Tryd.prog Tryd.f16.ntmps (Tryd.f16.body.getD .skip) = true := by kernel_rfl

theorem c_object_Valid (o : Ob) : ACall Tryd.prog 16 [o.v] [] (fun r H => r = .int .i64 (validN o) ∧ H = []) := by
  refine acall_mach [] [.t 2] Tryd.func16 rfl (by kernel_rfl) ok_object_Valid (by kernel_rfl) rfl rfl fun M hf => ?_
  unfold m_object_Valid
  simp only [go_sem, Nat.reduceBEq, Nat.reduceAdd, Nat.reduceLeDiff, Nat.reduceSub, Item.v, Ob.v, Ob.cs, ints]
  repeat' (first
    | (refine sCall_of (c_object_Number _) rfl rfl ?_; rw [M.lok_eq]; simp only [go_sem, Nat.reduceBEq, Nat.reduceAdd, Nat.reduceLeDiff, Nat.reduceSub, Item.v, Ob.v, Ob.cs, ints])
    | (refine sCallD_of (c_object_Number _) rfl rfl ?_; rw [M.lokD_eq]; simp only [go_sem, Nat.reduceBEq, Nat.reduceAdd, Nat.reduceLeDiff, Nat.reduceSub, Item.v, Ob.v, Ob.cs, ints])
    | (refine sCall_of (c_object_right o) rfl rfl ?_; rw [M.lok_eq]; simp only [go_sem, Nat.reduceBEq, Nat.reduceAdd, Nat.reduceLeDiff, Nat.reduceSub, Item.v, Ob.v, Ob.cs, ints])
    | (refine sCallD_of (c_object_right o) rfl rfl ?_; rw [M.lokD_eq]; simp only [go_sem, Nat.reduceBEq, Nat.reduceAdd, Nat.reduceLeDiff, Nat.reduceSub, Item.v, Ob.v, Ob.cs, ints])
    | (rw [M.opsG_any]; refine ⟨fun h => ?_, fun h => ?_⟩ <;> simp only [go_sem, Nat.reduceBEq, Nat.reduceAdd, Nat.reduceLeDiff, Nat.reduceSub, Item.v, Ob.v, Ob.cs, ints])
    | (rw [M.opsDG_bool]; refine ⟨fun h => ?_, fun h => ?_⟩ <;> simp only [go_sem, Nat.reduceBEq, Nat.reduceAdd, Nat.reduceLeDiff, Nat.reduceSub, Item.v, Ob.v, Ob.cs, ints])
    | (rw [M.goC_any]; refine ⟨fun h => ?_, fun h => ?_⟩ <;> simp only [go_sem, Nat.reduceBEq, Nat.reduceAdd, Nat.reduceLeDiff, Nat.reduceSub, Item.v, Ob.v, Ob.cs, ints])
    | (refine chk_of ?_; rfl)
    | apply And.intro
    | intro h)
  all_goals clear hf
  all_goals (try first | omega | (simp only [rng]; omega) | rfl)
  all_goals (have e : ∀ n : Nat, (65536 < (n : Int)) = (65536 < n) := fun n => by simp; omega)
  all_goals simp_all [validN]
  all_goals omega
/- leakresponse/object.write$1 -/
def m_object_write_1 : MC :=
  (.reg [⟨.mv (.t 0), (some 5), none⟩,
    ⟨.bin false .add (.t 5) (.c (.str [32])), (some 6), none⟩,
    ⟨.mv (.t 1), (some 7), none⟩,
    ⟨.bin false .add (.t 6) (.t 7), (some 8), none⟩,
    ⟨.bin false .add (.t 8) (.c (.str [10])), (some 9), none⟩,
    ⟨.call (.f 43) [(.t 2), (.t 9)] [1000, 1001] [1002], (some 10), none⟩])
theorem ok_object_write_1 : m_object_write_1.ok Tryd.prog Tryd.f42.ntmps (Tryd.f42.body.getD .skip) = true := by kernel_rfl

theorem c_object_write1 (p : V) (hp : p = .nilp ∨ p = .ptr 1000 0) (bs a b : List UInt8) (hlen : bs.length + (a.length + b.length + 2) ≤ 140737488355328) : ACall Tryd.prog 42 [.str a, .str b, .ptr 1000 0]
    [(1000, .cells [p, .osl 1001 1 0 bs.length] (some 71)), (1001, .arr 1 (bs.map byteV) (some 5))]
    (fun r H => r = .tup [] ∧ H = [(1000, .cells [.ptr 1000 0, .osl 1002 1 0 (bs ++ (a ++ [32] ++ b ++ [10])).length] (some 71)), (1002, .arr 1 ((bs ++ (a ++ [32] ++ b ++ [10])).map byteV) (some 5))]) := by
  refine acall_mach [1000, 1002] [] Tryd.func42 rfl (by kernel_rfl) ok_object_write_1 (by kernel_rfl) rfl rfl fun M hf => ?_
  unfold m_object_write_1
  have hx : p.has 1002 = false := by rcases hp with rfl | rfl <;> rfl
  simp only [go_sem, Nat.reduceBEq, Nat.reduceAdd, Nat.reduceLeDiff, Nat.reduceSub, Item.v, Ob.v, Ob.cs, ints, hx]
  repeat' (first
    | (refine sCall_of (c_WriteString p hp bs _ (by simp; omega)) rfl rfl ?_; rw [M.lok_eq]; simp only [go_sem, Nat.reduceBEq, Nat.reduceAdd, Nat.reduceLeDiff, Nat.reduceSub, Item.v, Ob.v, Ob.cs, ints])
    | (refine sCallD_of (c_WriteString p hp bs _ (by simp; omega)) rfl rfl ?_; rw [M.lokD_eq]; simp only [go_sem, Nat.reduceBEq, Nat.reduceAdd, Nat.reduceLeDiff, Nat.reduceSub, Item.v, Ob.v, Ob.cs, ints])
    | (rw [M.opsG_any]; refine ⟨fun h => ?_, fun h => ?_⟩ <;> simp only [go_sem, Nat.reduceBEq, Nat.reduceAdd, Nat.reduceLeDiff, Nat.reduceSub, Item.v, Ob.v, Ob.cs, ints])
    | (rw [M.opsDG_bool]; refine ⟨fun h => ?_, fun h => ?_⟩ <;> simp only [go_sem, Nat.reduceBEq, Nat.reduceAdd, Nat.reduceLeDiff, Nat.reduceSub, Item.v, Ob.v, Ob.cs, ints])
    | (rw [M.goC_any]; refine ⟨fun h => ?_, fun h => ?_⟩ <;> simp only [go_sem, Nat.reduceBEq, Nat.reduceAdd, Nat.reduceLeDiff, Nat.reduceSub, Item.v, Ob.v, Ob.cs, ints])
    | (refine chk_of ?_; rfl)
    | apply And.intro
    | intro h)
  all_goals (try first | omega | (simp only [rng]; omega) | rfl)
def lineB (a b : List UInt8) : List UInt8 := a ++ [32] ++ b ++ [10]
def itemLine (x : Item) : List UInt8 := lineB (Lib.itoa x.id) x.name
def parLine (p : Int) : List UInt8 := lineB [112, 97, 114, 101, 110, 116] (Lib.itoa p)
def treeB (l : List Item) : List UInt8 := [116, 114, 101, 101, 10] ++ l.flatMap itemLine
def comB (o : Ob) (l : List Int) : List UInt8 := [99, 111, 109, 109, 105, 116, 10] ++ lineB [116, 114, 101, 101] (Lib.itoa o.tree) ++ l.flatMap parLine
def comEnd (o : Ob) : List UInt8 := lineB [97, 117, 116, 104, 111, 114] o.author ++ lineB [116, 105, 109, 101] (Lib.itoa o.time)
def writeB (o : Ob) : List UInt8 := if o.kind = 1 then [98, 108, 111, 98, 10] ++ o.data else if o.kind = 2 then treeB o.items else comB o o.parents ++ comEnd o
theorem nameOK_len {s : List UInt8} (h : nameOK s = true) : s.length ≤ 40 := by
  simp only [nameOK, Bool.and_eq_true, decide_eq_true_eq] at h; omega
theorem numOK_rng {n : Int} (h : numOK n = true) : 1 ≤ n ∧ n ≤ 1073741824 := by
  simp only [numOK, Bool.and_eq_true, decide_eq_true_eq] at h; exact h
theorem itoa_len {n : Int} (h : rng .i64 n) : (Lib.itoa n).length ≤ 21 := by
  simp only [rng] at h
  exact Lib.itoa_length_le n h.1 h.2
theorem num_i64 {n : Int} (h : numOK n = true) : rng .i64 n := by have := numOK_rng h; simp only [rng]; omega
theorem lineB_len (a b : List UInt8) : (lineB a b).length = a.length + b.length + 2 := by simp [lineB]; omega
theorem itemLine_len {x : Item} (h : nameOK x.name = true ∧ numOK x.id = true) : (itemLine x).length ≤ 63 := by
  have := nameOK_len h.1
  have := itoa_len (num_i64 h.2)
  rw [itemLine, lineB_len]; omega
theorem parLine_len {p : Int} (h : numOK p = true) : (parLine p).length ≤ 29 := by
  have := itoa_len (num_i64 h)
  rw [parLine, lineB_len]; simp; omega
theorem take_flat {α : Type} [Inhabited α] (f : α → List UInt8) (l : List α) {i : Nat} (h : i < l.length) : (l.take (i + 1)).flatMap f = (l.take i).flatMap f ++ f (l.getD i default) := by
  rw [List.take_succ_eq_append_getElem h, List.flatMap_append]
  simp [h]
structure WOK (o : Ob) : Prop where
  items : o.kind = 2 → o.items.length ≤ 64 ∧ ∀ i, i < o.items.length → nameOK (o.items.getD i default).name = true ∧ numOK (o.items.getD i default).id = true
  data : o.data.length ≤ 65536
  com : o.kind ≠ 1 → o.kind ≠ 2 → numOK o.tree = true ∧ o.parents.length ≤ 8 ∧ (∀ i, i < o.parents.length → numOK (o.parents.getD i 0) = true) ∧ nameOK o.author = true ∧ timeOK o.time = true
theorem WOK.of {o : Ob} (h : validN o = 0) : WOK o := by
  unfold validN at h
  split at h
  · cases h
  split at h
  · cases h
  split at h
  · cases h
  rename_i h1 h2 h3
  simp only [Bool.not_eq_false] at h3
  unfold rightOK at h3
  refine ⟨fun hk => ?_, by omega, fun hk1 hk2 => ?_⟩
  · simp [hk] at h3
    refine ⟨by omega, fun i hi => ?_⟩
    have := allI_iff.1 h3.2 i hi
    simp only [treeAt, Bool.and_eq_true] at this
    exact this.1
  · simp only [hk1, hk2, if_false] at h3
    split at h3
    · simp only [Bool.and_eq_true, commitOK] at h3
      refine ⟨h3.2.1.1.2, by omega, fun i hi => ?_, h3.2.1.2, h3.2.2⟩
      have := allI_iff.1 h3.2.1.1.1 i hi
      simp only [parAt, Bool.and_eq_true] at this
      exact this.1
    · cases h3
theorem time_i64 {n : Int} (h : timeOK n = true) : rng .i64 n := by
  simp only [timeOK, Bool.and_eq_true, decide_eq_true_eq] at h; simp only [rng]; omega
theorem c_WS (p : V) (hp : p = .nilp ∨ p = .ptr 3 0) (bs s bs' : List UInt8) (he : bs' = bs ++ s) (hlen : bs.length + s.length ≤ 140737488355328) : ACall Tryd.prog 43 [.ptr 3 0, .str s]
    [(3, .cells [p, .osl 501 1 0 bs.length] (some 71)), (501, .arr 1 (bs.map byteV) (some 5))]
    (fun r H => r = .tup [.int .i64 s.length, .nili] ∧ H = [(3, .cells [.ptr 3 0, .osl 502 1 0 bs'.length] (some 71)), (502, .arr 1 (bs'.map byteV) (some 5))]) := by
  subst he
  rw [List.length_append]
  rcases hp with rfl | rfl
  · exact acall_swe 1000 3 (acall_swe 1001 501 (acall_swe 1002 502 (c_WriteString .nilp (.inl rfl) bs s hlen)))
  · exact acall_swe 1000 3 (acall_swe 1001 501 (acall_swe 1002 502 (c_WriteString (.ptr 1000 0) (.inr rfl) bs s hlen)))
theorem c_line (bs a b bs' : List UInt8) (he : bs' = bs ++ lineB a b) (hlen : bs.length + (a.length + b.length + 2) ≤ 140737488355328) : ACall Tryd.prog 42 [.str a, .str b, .ptr 3 0]
    [(3, .cells [.ptr 3 0, .osl 501 1 0 bs.length] (some 71)), (501, .arr 1 (bs.map byteV) (some 5))]
    (fun r H => r = .tup [] ∧ H = [(3, .cells [.ptr 3 0, .osl 502 1 0 bs'.length] (some 71)), (502, .arr 1 (bs'.map byteV) (some 5))]) := by
  subst he
  exact acall_swe 1000 3 (acall_swe 1001 501 (acall_swe 1002 502 (c_object_write1 (.ptr 1000 0) (.inr rfl) bs a b hlen)))
theorem c_Str (bs : List UInt8) : ACall Tryd.prog 45 [.ptr 3 0] [(3, .cells [.ptr 3 0, .osl 501 1 0 bs.length] (some 71)), (501, .arr 1 (bs.map byteV) (some 5))] (fun r H => r = .str bs ∧ H = []) :=
  acall_swe 1000 3 (acall_swe 1001 501 (c_String (.ptr 1000 0) bs))
end Go.Ab
