/- What the functions of this seat that lie on the laws' road compute (part A3), each for every input. By AI agents. -/
import Derived.Test.YtkdkcffaohmedaaDoorProg
import Derived.KernelRfl
import Derived.Test.YtkdkcffaohmedaaDoorAbMach
import Derived.Test.YtkdkcffaohmedaaDoorAbSwap
import Derived.Test.YtkdkcffaohmedaaDoorA2
set_option linter.all false
set_option maxRecDepth 20000
set_option linter.unusedSimpArgs false
set_option linter.unusedVariables false
namespace Go.Ab
open Go.Proofs
/- leakresponse/object.Format -/
def m_object_Format : MC :=
  (.seq (.reg [⟨.box (.t 0), (some 1), none⟩,
    ⟨.mv (.c .nils), (some 2), none⟩,
    ⟨.mv (.c (.int .i64 0)), (some 3), none⟩])
  (.seq (.seq (.reg [⟨.ld (some 8) (.t 1), (some 5), none⟩,
    ⟨.call (.f 16) [(.t 5)] [] [], (some 6), none⟩,
    ⟨.mv (.t 6), (some 4), none⟩])
  (.seq (.reg [⟨.mv (.t 4), (some 7), none⟩,
    ⟨.bin false .neq (.t 7) (.c (.int .i64 0)), (some 8), none⟩])
  (.cond (.t 8)
    (.seq (.reg [⟨.mv (.t 4), (some 9), none⟩,
      ⟨.mv (.c .nils), (some 2), none⟩,
      ⟨.mv (.t 9), (some 3), none⟩])
    .ret)
    .skip)))
  (.seq (.reg [⟨.ld (some 8) (.t 1), (some 10), none⟩,
    ⟨.call (.f 25) [(.t 10)] [] [], (some 11), none⟩,
    ⟨.mv (.t 11), (some 2), none⟩,
    ⟨.mv (.c (.int .i64 0)), (some 3), none⟩])
  .ret)))
theorem ok_object_Format : m_object_Format.ok Tryd.prog Tryd.f14.ntmps (Tryd.f14.body.getD .skip) = true := by kernel_rfl

theorem c_object_Format (o : Ob) : ACall Tryd.prog 14 [o.v] [] (fun r H => r = .tup [if validN o = 0 then .sl ((writeB o).map byteV) else .nils, .int .i64 (validN o)] ∧ H = []) := by
  refine acall_mach [] [.t 2, .t 3] Tryd.func14 rfl (by kernel_rfl) ok_object_Format (by kernel_rfl) rfl rfl fun M hf => ?_
  unfold m_object_Format
  simp only [go_sem, Nat.reduceBEq, Nat.reduceAdd, Nat.reduceLeDiff, Nat.reduceSub, Item.v, Ob.v, Ob.cs, ints]
  refine sCall_of (c_object_Valid o) rfl rfl ?_
  rw [M.lok_eq]; simp only [go_sem, Nat.reduceBEq, Nat.reduceAdd, Nat.reduceLeDiff, Nat.reduceSub, Item.v, Ob.v, Ob.cs, ints]
  by_cases h : validN o = 0
  · simp only [h, go_sem, Nat.reduceBEq, Nat.reduceAdd, Nat.reduceLeDiff, Nat.reduceSub, Item.v, Ob.v, Ob.cs, ints]
    refine sCall_of (c_object_write o h) rfl rfl ?_
    rw [M.lok_eq]; simp only [go_sem, Nat.reduceBEq, Nat.reduceAdd, Nat.reduceLeDiff, Nat.reduceSub, Item.v, Ob.v, Ob.cs, ints]
    simp [h]
  · simp only [h, decide_false, go_sem, Nat.reduceBEq, Nat.reduceAdd, Nat.reduceLeDiff, Nat.reduceSub, Item.v, Ob.v, Ob.cs, ints]
    simp [h]
def awakeO : Ob := ⟨4, 2, [], [⟨[97, 46, 116, 120, 116], 3⟩], 0, [], [], 0⟩
theorem awakeO_v : validN awakeO = 0 := by decide
theorem awakeO_b : writeB awakeO = [116, 114, 101, 101, 10, 51, 32, 97, 46, 116, 120, 116, 10] := by
  have h : Lib.itoa 3 = [51] := by
    have := Lib.itoa_nonneg 3
    rw [show ((3 : Nat) : Int) = 3 from rfl] at this
    rw [this, Lib.decDigits_one (by omega)]; rfl
  simp [writeB, awakeO, treeB, itemLine, lineB, h]
/- leakresponse/leakresponselaw13.awake -/
def m_law13_awake : MC :=
  (.seq (.reg [⟨.mv (.c (.bool false)), (some 0), none⟩])
  (.seq (.regI [.op ⟨.build [(.str []), (.int .i64 0)] [(0, 1, (.c (.str [97, 46, 116, 120, 116]))), (1, 1, (.c (.int .i64 3)))], (some 4), none⟩,
    .op ⟨.bslice 2 [(.t 4)], (some 5), none⟩,
    .nt (.shut 5),
    .op ⟨.build [(.int .i64 0), (.int .i64 0), .nils, .nils, (.int .i64 0), .nils, (.str []), (.int .i64 0)] [(0, 1, (.c (.int .i64 4))), (1, 1, (.c (.int .i64 2))), (3, 1, (.t 5))], (some 6), none⟩,
    .nt (.nl 6),
    .op ⟨.call (.f 14) [(.t 6)] [] [], (some 7), none⟩,
    .op ⟨.mv (.t 7), (some 3), none⟩,
    .op ⟨.ext 0 (.t 3), (some 8), none⟩,
    .op ⟨.ext 1 (.t 3), (some 9), none⟩,
    .op ⟨.mv (.t 8), (some 1), none⟩,
    .op ⟨.mv (.t 9), (some 2), none⟩])
  (.seq (.reg [⟨.mv (.t 2), (some 10), none⟩,
    ⟨.bin false .eql (.t 10) (.c (.int .i64 0)), (some 11), none⟩,
    ⟨.mv (.t 11), (some 12), none⟩,
    ⟨.mv (.t 1), (some 13), (some (12, true))⟩,
    ⟨.b2s (.t 13), (some 14), (some (12, true))⟩,
    ⟨.bin false .eql (.t 14) (.c (.str [116, 114, 101, 101, 10, 51, 32, 97, 46, 116, 120, 116, 10])), (some 15), (some (12, true))⟩,
    ⟨.pick (.t 12) (.t 15) (.c (.bool false)), (some 16), none⟩,
    ⟨.mv (.t 16), (some 0), none⟩])
  .ret)))
theorem ok_law13_awake : m_law13_awake.ok Tryd.prog Tryd.f11.ntmps (Tryd.f11.body.getD .skip) = true := by kernel_rfl

theorem c_law13_awake : ACall Tryd.prog 11 [] [] (fun r H => r = .bool true ∧ H = []) := by
  refine acall_mach [] [.t 0] Tryd.func11 rfl (by kernel_rfl) ok_law13_awake (by kernel_rfl) rfl rfl fun M hf => ?_
  unfold m_law13_awake
  simp only [go_sem, Nat.reduceBEq, Nat.reduceAdd, Nat.reduceLeDiff, Nat.reduceSub, Item.v, Ob.v, Ob.cs, ints]
  obtain ⟨b, hb⟩ : ∃ b, b = writeB awakeO := ⟨_, rfl⟩
  have hc := c_object_Format awakeO
  rw [if_pos awakeO_v, awakeO_v, ← hb] at hc
  rw [awakeO_b] at hb
  refine sCall_of hc rfl rfl ?_
  rw [M.lok_eq]; simp only [go_sem, Nat.reduceBEq, Nat.reduceAdd, Nat.reduceLeDiff, Nat.reduceSub, Item.v, Ob.v, Ob.cs, ints]
  rw [hb]; rfl
theorem c_law13_ObjectNames (tp : List Int) (s : List UInt8) (n : Int) : ACall Tryd.prog 3 [ints tp, .str s, .int .i64 n] [] (fun r H => r = .bool true ∧ H = []) :=
  c_ObjectNames tp s n c_law13_awake
end Go.Ab
