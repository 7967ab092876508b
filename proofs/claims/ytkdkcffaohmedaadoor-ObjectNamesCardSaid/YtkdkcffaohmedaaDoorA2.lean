/- What the functions of this seat that lie on the laws' road compute (part A2), each for every input. By AI agents. -/
import Derived.Test.YtkdkcffaohmedaaDoorProg
import Derived.KernelRfl
import Derived.Test.YtkdkcffaohmedaaDoorAbMach
import Derived.Test.YtkdkcffaohmedaaDoorAbSwap
import Derived.Test.YtkdkcffaohmedaaDoorA1
set_option linter.all false
set_option maxRecDepth 20000
set_option linter.unusedSimpArgs false
set_option linter.unusedVariables false
namespace Go.Ab
open Go.Proofs
theorem treeB_succ (l : List Item) {i : Nat} (h : i < l.length) : treeB (l.take (i + 1)) = treeB (l.take i) ++ lineB (Lib.itoa (l.getD i default).id) (l.getD i default).name := by
  simp only [treeB, take_flat itemLine l h, itemLine, List.append_assoc]
theorem comB_succ (o : Ob) (l : List Int) {i : Nat} (h : i < l.length) : comB o (l.take (i + 1)) = comB o (l.take i) ++ lineB [112, 97, 114, 101, 110, 116] (Lib.itoa (l.getD i 0)) := by
  simp only [comB, take_flat parLine l h, parLine, List.append_assoc, Int.default_eq_zero]
/- leakresponse/object.write -/
def m_object_write : MC :=
  (.seq (.reg [⟨.box (.t 0), (some 1), none⟩,
    ⟨.mv (.c .nils), (some 2), none⟩])
  (.seq (.seq (.reg [⟨.fad 1 (.t 1), (some 9), none⟩,
    ⟨.ld none (.t 9), (some 10), none⟩,
    ⟨.bin false .eql (.t 10) (.c (.int .i64 1)), (some 11), none⟩])
  (.cond (.t 11)
    (.seq (.regI [.op ⟨.bslice 1 [(.c (.int .u8 98)), (.c (.int .u8 108)), (.c (.int .u8 111)), (.c (.int .u8 98)), (.c (.int .u8 10))], (some 12), none⟩,
      .op ⟨.mks (.t 12), (some 13), none⟩,
      .op ⟨.fad 2 (.t 1), (some 14), none⟩,
      .op ⟨.ld none (.t 14), (some 15), none⟩,
      .op ⟨.app 1 1 (.t 13) (.t 15), (some 16), none⟩,
      .op ⟨.mv (.t 16), (some 2), none⟩,
      .nt (.shut 16)])
    .ret)
    .skip))
  (.seq (.reg [⟨.alloc [.nilp, .nils] (some 71), (some 3), none⟩])
  (.seq (.note (.accC 3 1 501 1 (some 5)) (.reg [⟨.mkfn 42 [(.t 3)], (some 17), none⟩,
    ⟨.mv (.t 17), (some 4), none⟩]))
  (.seq (.seq (.reg [⟨.fad 1 (.t 1), (some 18), none⟩,
    ⟨.ld none (.t 18), (some 19), none⟩,
    ⟨.bin false .eql (.t 19) (.c (.int .i64 2)), (some 20), none⟩])
  (.cond (.t 20)
    (.seq (.reg [⟨.call (.f 43) [(.t 3), (.c (.str [116, 114, 101, 101, 10]))] [3, 501] [502], (some 21), none⟩])
    (.seq (.seq (.note (.ren 502 501) (.reg [⟨.fad 3 (.t 1), (some 22), none⟩,
      ⟨.ld none (.t 22), (some 23), none⟩,
      ⟨.len false (.t 23), (some 24), none⟩,
      ⟨.mv (.c (.int .i64 0)), (some 25), none⟩]))
    (.block 0
    (.loop
      (.seq (.reg [⟨.bin false .lss (.t 25) (.t 24), (some 26), none⟩])
      (.seq (.cond (.t 26)
        .skip
        (.exit 0))
      (.seq (.block 1
      (.seq (.reg [⟨.iad 2 (.t 23) (.t 25), (some 27), none⟩,
        ⟨.ld (some 2) (.t 27), (some 28), none⟩,
        ⟨.alloc [(.str []), (.int .i64 0)], (some 6), none⟩,
        ⟨.st 2 (.t 6) (.t 28), none, none⟩])
      (.regD [⟨.mv (.t 4), (some 29), none⟩,
        ⟨.fad 1 (.t 6), (some 30), none⟩,
        ⟨.ld none (.t 30), (some 31), none⟩,
        ⟨.call (.f 44) [(.t 31)] [] [], (some 32), none⟩,
        ⟨.fad 0 (.t 6), (some 33), none⟩,
        ⟨.ld none (.t 33), (some 34), none⟩,
        ⟨.call (.t 29) [(.t 32), (.t 34)] [3, 501] [502], (some 35), none⟩]
        [[], [], [1], [2], [], [4], [0, 3, 5, 3]]
        [[], [], [1], [1, 2], [], [4], [0, 1, 2, 3, 4, 5]])))
      (.note (.ren 502 501) (.reg [⟨.bin true .add (.t 25) (.c (.int .i64 1)), (some 36), none⟩,
        ⟨.mv (.t 36), (some 25), none⟩]))))))))
    (.seq (.regI [.op ⟨.call (.f 45) [(.t 3)] [3, 501] [], (some 37), none⟩,
      .op ⟨.s2b (.t 37), (some 38), none⟩,
      .op ⟨.mv (.t 38), (some 2), none⟩,
      .nt (.shut 38)])
    .ret)))
    .skip))
  (.seq (.reg [⟨.call (.f 43) [(.t 3), (.c (.str [99, 111, 109, 109, 105, 116, 10]))] [3, 501] [502], (some 39), none⟩])
  (.seq (.note (.ren 502 501) (.reg [⟨.mv (.t 4), (some 40), none⟩,
    ⟨.fad 4 (.t 1), (some 41), none⟩,
    ⟨.ld none (.t 41), (some 42), none⟩,
    ⟨.call (.f 44) [(.t 42)] [] [], (some 43), none⟩,
    ⟨.call (.t 40) [(.c (.str [116, 114, 101, 101])), (.t 43)] [3, 501] [502], (some 44), none⟩]))
  (.seq (.seq (.note (.ren 502 501) (.reg [⟨.fad 5 (.t 1), (some 45), none⟩,
    ⟨.ld none (.t 45), (some 46), none⟩,
    ⟨.len false (.t 46), (some 47), none⟩,
    ⟨.mv (.c (.int .i64 0)), (some 48), none⟩]))
  (.block 2
  (.loop
    (.seq (.reg [⟨.bin false .lss (.t 48) (.t 47), (some 49), none⟩])
    (.seq (.cond (.t 49)
      .skip
      (.exit 2))
    (.seq (.block 3
    (.seq (.reg [⟨.iad 1 (.t 46) (.t 48), (some 50), none⟩,
      ⟨.ld none (.t 50), (some 51), none⟩,
      ⟨.mv (.t 51), (some 8), none⟩])
    (.reg [⟨.mv (.t 4), (some 52), none⟩,
      ⟨.mv (.t 8), (some 53), none⟩,
      ⟨.call (.f 44) [(.t 53)] [] [], (some 54), none⟩,
      ⟨.call (.t 52) [(.c (.str [112, 97, 114, 101, 110, 116])), (.t 54)] [3, 501] [502], (some 55), none⟩])))
    (.note (.ren 502 501) (.reg [⟨.bin true .add (.t 48) (.c (.int .i64 1)), (some 56), none⟩,
      ⟨.mv (.t 56), (some 48), none⟩]))))))))
  (.seq (.reg [⟨.mv (.t 4), (some 57), none⟩,
    ⟨.fad 6 (.t 1), (some 58), none⟩,
    ⟨.ld none (.t 58), (some 59), none⟩,
    ⟨.call (.t 57) [(.c (.str [97, 117, 116, 104, 111, 114])), (.t 59)] [3, 501] [502], (some 60), none⟩])
  (.seq (.note (.ren 502 501) (.reg [⟨.mv (.t 4), (some 61), none⟩,
    ⟨.fad 7 (.t 1), (some 62), none⟩,
    ⟨.ld none (.t 62), (some 63), none⟩,
    ⟨.call (.f 44) [(.t 63)] [] [], (some 64), none⟩,
    ⟨.call (.t 61) [(.c (.str [116, 105, 109, 101])), (.t 64)] [3, 501] [502], (some 65), none⟩]))
  (.seq (.note (.ren 502 501) (.regI [.op ⟨.call (.f 45) [(.t 3)] [3, 501] [], (some 66), none⟩,
    .op ⟨.s2b (.t 66), (some 67), none⟩,
    .op ⟨.mv (.t 67), (some 2), none⟩,
    .nt (.shut 67)]))
  .ret)))))))))))
theorem ok_object_write : m_object_write.ok Tryd.prog Tryd.f25.ntmps (Tryd.f25.body.getD .skip) = true := by kernel_rfl

theorem c_object_write (o : Ob) (hv : validN o = 0) : ACall Tryd.prog 25 [o.v] [] (fun r H => r = .sl ((writeB o).map byteV) ∧ H = []) := by
  have hw := WOK.of hv
  refine acall_mach [] [.t 2] Tryd.func25 rfl (by kernel_rfl) ok_object_write (by kernel_rfl) rfl rfl fun M hf => ?_
  have hfo := parents_fact hf.1.1
  clear hf
  unfold m_object_write
  simp only [go_sem, Nat.reduceBEq, Nat.reduceAdd, Nat.reduceLeDiff, Nat.reduceSub, Item.v, Ob.v, Ob.cs, ints]
  refine ⟨fun hk => ?_, fun hk => ?_⟩
  · have := hw.data
    refine ⟨by omega, by omega, by omega, ?_⟩
    rw [List.take_of_length_le (by simp; omega)]
    simp [writeB, hk, byteV]
  refine ⟨fun hk2 => ?_, fun hk2 => ?_⟩
  · obtain ⟨hl, hit⟩ := hw.items hk2
    refine sCall_of (c_WS .nilp (.inl rfl) [] _ _ rfl (by simp)) rfl rfl ?_
    rw [M.lok_eq]; simp only [go_sem, Nat.reduceBEq, Nat.reduceAdd, Nat.reduceLeDiff, Nat.reduceSub, Item.v, Ob.v, Ob.cs, ints]
    refine M.go_loop (fun i : Nat => ⟨[(3, .ptr 3 0), (4, .fn (.func 42) [.ptr 3 0]), (23, .sl (o.items.map Item.v)), (24, .int .i64 o.items.length), (25, .int .i64 i)],
      [(3, .cells [.ptr 3 0, .osl 501 1 0 (treeB (o.items.take i)).length] (some 71)), (501, .arr 1 ((treeB (o.items.take i)).map byteV) (some 5))]⟩)
      (fun i => i ≤ o.items.length ∧ (treeB (o.items.take i)).length ≤ 5 + i * 63) (fun i => o.items.length - i) ⟨0, ⟨Nat.zero_le _, by simp [treeB]⟩, ⟨rfl, by repeat' (first | exact trivial | rfl | apply And.intro), by repeat' (first | exact trivial | rfl | apply And.intro)⟩⟩ fun i hi hfi => ?_
    clear hfi
    simp only [go_sem, Nat.reduceBEq, Nat.reduceAdd, Nat.reduceLeDiff, Nat.reduceSub, Item.v, Ob.v, Ob.cs, ints]
    refine ⟨fun hlt => ?_, fun hge => ?_⟩
    · have hlt' : i < o.items.length := by omega
      have hx := hit i hlt'
      have h1 := nameOK_len hx.1
      have h2 := itoa_len (num_i64 hx.2)
      refine ⟨by omega, ?_⟩
      refine sCallD_of (c_Itoa _ (num_i64 hx.2)) rfl rfl ?_
      rw [M.lokD_eq]; simp only [go_sem, Nat.reduceBEq, Nat.reduceAdd, Nat.reduceLeDiff, Nat.reduceSub, Item.v, Ob.v, Ob.cs, ints]
      refine sCallD_of (c_line (treeB (o.items.take i)) _ _ _ (treeB_succ o.items hlt') (by omega)) rfl rfl ?_
      rw [M.lokD_eq]; simp only [go_sem, Nat.reduceBEq, Nat.reduceAdd, Nat.reduceLeDiff, Nat.reduceSub, Item.v, Ob.v, Ob.cs, ints]
      refine ⟨rfl, by simp only [rng]; omega, Lk.mk ⟨i + 1, ⟨hlt', ?_⟩, by omega, ⟨rfl, by repeat' (first | exact trivial | rfl | apply And.intro), by repeat' (first | exact trivial | rfl | apply And.intro)⟩⟩⟩
      rw [treeB_succ o.items hlt', List.length_append, lineB_len]; omega
    · have hi' : i = o.items.length := by omega
      subst hi'
      rw [List.take_length]
      refine sCall_of (c_Str _) rfl rfl ?_
      rw [M.lok_eq]; simp only [go_sem, Nat.reduceBEq, Nat.reduceAdd, Nat.reduceLeDiff, Nat.reduceSub, Item.v, Ob.v, Ob.cs, ints]
      simp [writeB, hk2]
  · obtain ⟨htr, hpl, hps, hau, hti⟩ := hw.com hk hk2
    have h1 := nameOK_len hau
    have h2 := itoa_len (num_i64 htr)
    have h3 := itoa_len (time_i64 hti)
    refine sCall_of (c_WS .nilp (.inl rfl) [] _ _ rfl (by simp)) rfl rfl ?_
    rw [M.lok_eq]; simp only [go_sem, Nat.reduceBEq, Nat.reduceAdd, Nat.reduceLeDiff, Nat.reduceSub, Item.v, Ob.v, Ob.cs, ints]
    refine sCall_of (c_Itoa _ (num_i64 htr)) rfl rfl ?_
    rw [M.lok_eq]; simp only [go_sem, Nat.reduceBEq, Nat.reduceAdd, Nat.reduceLeDiff, Nat.reduceSub, Item.v, Ob.v, Ob.cs, ints]
    refine sCall_of (c_line [99, 111, 109, 109, 105, 116, 10] _ _ (comB o (o.parents.take 0)) (by simp [comB]) (by simp only [List.length_cons, List.length_nil]; omega)) rfl rfl ?_
    rw [M.lok_eq]; simp only [go_sem, Nat.reduceBEq, Nat.reduceAdd, Nat.reduceLeDiff, Nat.reduceSub, Item.v, Ob.v, Ob.cs, ints]
    refine M.go_loop (fun i : Nat => ⟨[(1, .ptr 1 0), (3, .ptr 3 0), (4, .fn (.func 42) [.ptr 3 0]), (46, ints o.parents), (47, .int .i64 o.parents.length), (48, .int .i64 i)],
      [(1, .cells o.cs), (3, .cells [.ptr 3 0, .osl 501 1 0 (comB o (o.parents.take i)).length] (some 71)), (501, .arr 1 ((comB o (o.parents.take i)).map byteV) (some 5))]⟩)
      (fun i => i ≤ o.parents.length ∧ (comB o (o.parents.take i)).length ≤ 40 + i * 29) (fun i => o.parents.length - i) ⟨0, ⟨Nat.zero_le _, by simp [comB, lineB]; omega⟩, ⟨rfl, by repeat' (first | exact trivial | rfl | apply And.intro), by repeat' (first | exact trivial | rfl | apply And.intro)⟩⟩ fun i hi hfi => ?_
    clear hfi
    simp only [go_sem, Nat.reduceBEq, Nat.reduceAdd, Nat.reduceLeDiff, Nat.reduceSub, Item.v, Ob.v, Ob.cs, ints]
    refine ⟨fun hlt => ?_, fun hge => ?_⟩
    · have hlt' : i < o.parents.length := by omega
      have hx := hps i hlt'
      have h4 := itoa_len (num_i64 hx)
      refine ⟨by omega, ?_⟩
      refine sCall_of (c_Itoa _ (num_i64 hx)) rfl rfl ?_
      rw [M.lok_eq]; simp only [go_sem, Nat.reduceBEq, Nat.reduceAdd, Nat.reduceLeDiff, Nat.reduceSub, Item.v, Ob.v, Ob.cs, ints]
      refine sCall_of (c_line (comB o (o.parents.take i)) _ _ _ (comB_succ o o.parents hlt') (by simp only [List.length_cons, List.length_nil]; omega)) rfl rfl ?_
      rw [M.lok_eq]; simp only [go_sem, Nat.reduceBEq, Nat.reduceAdd, Nat.reduceLeDiff, Nat.reduceSub, Item.v, Ob.v, Ob.cs, ints]
      refine ⟨by simp only [rng]; omega, Lk.mk ⟨i + 1, ⟨hlt', ?_⟩, by omega, ⟨rfl, by repeat' (first | exact trivial | rfl | apply And.intro), by repeat' (first | exact trivial | rfl | apply And.intro)⟩⟩⟩
      rw [comB_succ o o.parents hlt', List.length_append, lineB_len]; simp only [List.length_cons, List.length_nil]; omega
    · have hi' : i = o.parents.length := by omega
      subst hi'
      rw [List.take_length] at hi ⊢
      obtain ⟨b1, e1⟩ : ∃ b, b = comB o o.parents ++ lineB [97, 117, 116, 104, 111, 114] o.author := ⟨_, rfl⟩
      obtain ⟨b2, e2⟩ : ∃ b, b = b1 ++ lineB [116, 105, 109, 101] (Lib.itoa o.time) := ⟨_, rfl⟩
      have l1 : b1.length ≤ 40 + o.parents.length * 29 + 48 := by
        rw [e1, List.length_append, lineB_len]; simp only [List.length_cons, List.length_nil]; omega
      refine sCall_of (c_line (comB o o.parents) _ _ b1 e1 (by simp only [List.length_cons, List.length_nil]; omega)) rfl rfl ?_
      rw [M.lok_eq]; simp only [go_sem, Nat.reduceBEq, Nat.reduceAdd, Nat.reduceLeDiff, Nat.reduceSub, Item.v, Ob.v, Ob.cs, ints]
      refine sCall_of (c_Itoa _ (time_i64 hti)) rfl rfl ?_
      rw [M.lok_eq]; simp only [go_sem, Nat.reduceBEq, Nat.reduceAdd, Nat.reduceLeDiff, Nat.reduceSub, Item.v, Ob.v, Ob.cs, ints]
      refine sCall_of (c_line b1 _ _ b2 e2 (by simp only [List.length_cons, List.length_nil]; omega)) rfl rfl ?_
      rw [M.lok_eq]; simp only [go_sem, Nat.reduceBEq, Nat.reduceAdd, Nat.reduceLeDiff, Nat.reduceSub, Item.v, Ob.v, Ob.cs, ints]
      refine sCall_of (c_Str b2) rfl rfl ?_
      rw [M.lok_eq]; simp only [go_sem, Nat.reduceBEq, Nat.reduceAdd, Nat.reduceLeDiff, Nat.reduceSub, Item.v, Ob.v, Ob.cs, ints]
      simp [writeB, hk, hk2, comEnd, e1, e2]
end Go.Ab
