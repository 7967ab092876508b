/- What the functions of this seat that lie on the laws' road compute (part LX), each for every input. By AI agents. -/
import Derived.Test.YteegjccaabkhgaaProg
import Derived.KernelRfl
import Derived.Test.YteegjccaabkhgaaAbFun
import Derived.Test.YteegjccaabkhgaaLAWB
set_option linter.all false
set_option maxRecDepth 20000
set_option linter.all false
namespace Go.Ab
open Go.Proofs
structure GA49 where
  e0 : GEstate
  e1 : GEstate
  e2 : GEstate
instance : Inhabited GA49 := ⟨⟨default, default, default⟩⟩
def GA49.v (x : GA49) : V := .agg [.int .i64 x.e0.Places, .sl (x.e0.Events.map GAccess.v), .int .i64 x.e1.Places, .sl (x.e1.Events.map GAccess.v), .int .i64 x.e2.Places, .sl (x.e2.Events.map GAccess.v)]

structure GA50 where
  e0 : Int
  e1 : Int
  e2 : Int
instance : Inhabited GA50 := ⟨⟨default, default, default⟩⟩
def GA50.v (x : GA50) : V := .agg [.int .i64 x.e0, .int .i64 x.e1, .int .i64 x.e2]

structure GA52 where
  e0 : GA50
  e1 : GA50
  e2 : GA50
  e3 : GA50
instance : Inhabited GA52 := ⟨⟨default, default, default, default⟩⟩
def GA52.v (x : GA52) : V := .agg [.int .i64 x.e0.e0, .int .i64 x.e0.e1, .int .i64 x.e0.e2, .int .i64 x.e1.e0, .int .i64 x.e1.e1, .int .i64 x.e1.e2, .int .i64 x.e2.e0, .int .i64 x.e2.e1, .int .i64 x.e2.e2, .int .i64 x.e3.e0, .int .i64 x.e3.e1, .int .i64 x.e3.e2]

theorem inb_0_3 : inb 0 3 = true := inb_iff.2 (by decide)
attribute [go_sem] inb_0_3
theorem inb_0_4 : inb 0 4 = true := inb_iff.2 (by decide)
attribute [go_sem] inb_0_4
theorem inb_1_3 : inb 1 3 = true := inb_iff.2 (by decide)
attribute [go_sem] inb_1_3
theorem inb_2_3 : inb 2 3 = true := inb_iff.2 (by decide)
attribute [go_sem] inb_2_3
attribute [go_sem] GA49.v GA50.v GA52.v
def F_made_BentEstate (t_ : GTape) (a_ : GEstate) : Option (GEstate × GTape) :=
  chk (room a_.Events.length 56) ((F_made_Tape_Next t_ 3).bind fun y19 => bif decide (y19.1 = 0) then (F_made_Pick y19.2 [(-1), 0, 16, 17]).bind fun y20 => some ((GEstate.mk y20.1 a_.Events), y20.2) else bif decide (y19.1 = 1) then (F_made_Tape_Between y19.2 (-1) 60).bind fun y21 => (F_made_Tape_Next y21.2 9).bind fun y22 => (F_made_Tape_Between y22.2 (-1) 4).bind fun y23 => (F_made_Tape_Next y23.2 3).bind fun y24 => (F_made_Tape_Next y24.2 3).bind fun y25 => (F_made_Tape_Next y25.2 3).bind fun y26 => (F_made_Tape_Next y26.2 3).bind fun y27 => chk (room (a_.Events.length + [(GAccess.mk y21.1 y22.1 y23.1 y24.1 y25.1 y26.1 y27.1)].length) 56) (some ((GEstate.mk a_.Places (a_.Events ++ [(GAccess.mk y21.1 y22.1 y23.1 y24.1 y25.1 y26.1 y27.1)])), y27.2)) else bif decide (0 < (a_.Events.length : Int)) then (F_made_Tape_Next y19.2 (a_.Events.length : Int)).bind fun y29 => chk (inb y29.1 a_.Events.length) ((F_made_Tape_Next y29.2 4).bind fun y31 => bif decide (y31.1 = 0) then (F_made_Tape_Next y31.2 60).bind fun y32 => some ((GEstate.mk a_.Places (a_.Events.set ((y29.1).toNat) (GAccess.mk y32.1 ((a_.Events.getD ((y29.1).toNat) default).Kind) ((a_.Events.getD ((y29.1).toNat) default).Place) ((a_.Events.getD ((y29.1).toNat) default).Principal) ((a_.Events.getD ((y29.1).toNat) default).Until) ((a_.Events.getD ((y29.1).toNat) default).Content) ((a_.Events.getD ((y29.1).toNat) default).From)))), y32.2) else bif decide (y31.1 = 1) then (F_made_Tape_Between y31.2 (-1) 5).bind fun y33 => some ((GEstate.mk a_.Places (a_.Events.set ((y29.1).toNat) (GAccess.mk ((a_.Events.getD ((y29.1).toNat) default).Time) ((a_.Events.getD ((y29.1).toNat) default).Kind) y33.1 ((a_.Events.getD ((y29.1).toNat) default).Principal) ((a_.Events.getD ((y29.1).toNat) default).Until) ((a_.Events.getD ((y29.1).toNat) default).Content) ((a_.Events.getD ((y29.1).toNat) default).From)))), y33.2) else bif decide (y31.1 = 2) then chk (in64 ((a_.Events.getD ((y29.1).toNat) default).Content + 1)) (some ((GEstate.mk a_.Places (a_.Events.set ((y29.1).toNat) (GAccess.mk ((a_.Events.getD ((y29.1).toNat) default).Time) ((a_.Events.getD ((y29.1).toNat) default).Kind) ((a_.Events.getD ((y29.1).toNat) default).Place) ((a_.Events.getD ((y29.1).toNat) default).Principal) ((a_.Events.getD ((y29.1).toNat) default).Until) ((a_.Events.getD ((y29.1).toNat) default).Content + 1) ((a_.Events.getD ((y29.1).toNat) default).From)))), y31.2)) else (F_made_Tape_Next y31.2 9).bind fun y34 => some ((GEstate.mk a_.Places (a_.Events.set ((y29.1).toNat) (GAccess.mk ((a_.Events.getD ((y29.1).toNat) default).Time) ((a_.Events.getD ((y29.1).toNat) default).Kind) ((a_.Events.getD ((y29.1).toNat) default).Place) ((a_.Events.getD ((y29.1).toNat) default).Principal) y34.1 ((a_.Events.getD ((y29.1).toNat) default).Content) ((a_.Events.getD ((y29.1).toNat) default).From)))), y34.2)) else some ((GEstate.mk a_.Places a_.Events), y19.2))

/- leakresponse/leakresponsemake.BentEstate -/
def mc_made_BentEstate : MC :=
  (.seq (.reg [⟨.box (.t 1), (some 3), none⟩,
    ⟨.alloc [(.int .i64 0), (.sl [])], (some 4), none⟩])
  (.seq (.reg [⟨.fad 1 (.t 3), (some 6), none⟩,
    ⟨.ld none (.t 6), (some 7), none⟩,
    ⟨.app 7 56 (.c .nils) (.t 7), (some 8), none⟩,
    ⟨.fad 1 (.t 3), (some 9), none⟩,
    ⟨.st 1 (.t 9) (.t 8), none, none⟩])
  (.seq (.seq (.reg [⟨.mv (.t 0), (some 10), none⟩,
    ⟨.call (.f 12) [(.t 10), (.c (.int .i64 3))] [1000] [], (some 11), none⟩])
  (.block 0
  (.seq (.reg [⟨.bin false .eql (.t 11) (.c (.int .i64 0)), (some 55), none⟩,
    ⟨.mv (.t 55), (some 54), none⟩])
  (.cond (.t 54)
    (.note (.gc [0, 3, 4]) (.reg [⟨.mv (.t 0), (some 56), none⟩,
      ⟨.lsl 1 [(.c (.int .i64 (-1))), (.c (.int .i64 0)), (.c (.int .i64 16)), (.c (.int .i64 17))], (some 57), none⟩,
      ⟨.call (.f 28) [(.t 56), (.t 57)] [1000] [], (some 58), none⟩,
      ⟨.fad 0 (.t 3), (some 59), none⟩,
      ⟨.st 1 (.t 59) (.t 58), none, none⟩]))
    (.seq (.reg [⟨.bin false .eql (.t 11) (.c (.int .i64 1)), (some 61), none⟩,
      ⟨.mv (.t 61), (some 60), none⟩])
    (.cond (.t 60)
      (.note (.gc [0, 3, 4]) (.regD [⟨.fad 1 (.t 3), (some 62), none⟩,
        ⟨.ld none (.t 62), (some 63), none⟩,
        ⟨.mv (.t 0), (some 64), none⟩,
        ⟨.call (.f 23) [(.t 64), (.c (.int .i64 (-1))), (.c (.int .i64 60))] [1000] [], (some 65), none⟩,
        ⟨.mv (.t 0), (some 66), none⟩,
        ⟨.call (.f 12) [(.t 66), (.c (.int .i64 9))] [1000] [], (some 67), none⟩,
        ⟨.mv (.t 0), (some 68), none⟩,
        ⟨.call (.f 23) [(.t 68), (.c (.int .i64 (-1))), (.c (.int .i64 4))] [1000] [], (some 69), none⟩,
        ⟨.mv (.t 0), (some 70), none⟩,
        ⟨.call (.f 12) [(.t 70), (.c (.int .i64 3))] [1000] [], (some 71), none⟩,
        ⟨.mv (.t 0), (some 72), none⟩,
        ⟨.call (.f 12) [(.t 72), (.c (.int .i64 3))] [1000] [], (some 73), none⟩,
        ⟨.mv (.t 0), (some 74), none⟩,
        ⟨.call (.f 12) [(.t 74), (.c (.int .i64 3))] [1000] [], (some 75), none⟩,
        ⟨.mv (.t 0), (some 76), none⟩,
        ⟨.call (.f 12) [(.t 76), (.c (.int .i64 3))] [1000] [], (some 77), none⟩,
        ⟨.build [(.int .i64 0), (.int .i64 0), (.int .i64 0), (.int .i64 0), (.int .i64 0), (.int .i64 0), (.int .i64 0)] [(0, 1, (.t 65)), (1, 1, (.t 67)), (2, 1, (.t 69)), (3, 1, (.t 71)), (4, 1, (.t 73)), (5, 1, (.t 75)), (6, 1, (.t 77))], (some 78), none⟩,
        ⟨.bslice 7 [(.t 78)], (some 79), none⟩,
        ⟨.app 7 56 (.t 63) (.t 79), (some 80), none⟩,
        ⟨.fad 1 (.t 3), (some 81), none⟩,
        ⟨.st 1 (.t 81) (.t 80), none, none⟩]
        [[], [0], [], [2], [], [4, 3], [], [6, 5], [], [8, 7], [], [10, 9], [], [12, 11], [], [14, 13], [3, 5, 7, 9, 11, 13, 15], [16], [1, 17, 15], [0, 1, 2, 3, 4, 5, 6, 7, 8, 9, 10, 11, 12, 13, 14, 15, 16, 17, 18], [19, 18, 18, 0, 1, 2, 3, 4, 5, 6, 7, 8, 9, 10, 11, 12, 13, 14, 15, 16, 17, 18]]
        [[], [0], [], [2], [], [2, 3, 4], [], [2, 3, 4, 5, 6], [], [2, 3, 4, 5, 6, 7, 8], [], [2, 3, 4, 5, 6, 7, 8, 9, 10], [], [2, 3, 4, 5, 6, 7, 8, 9, 10, 11, 12], [], [2, 3, 4, 5, 6, 7, 8, 9, 10, 11, 12, 13, 14], [2, 3, 4, 5, 6, 7, 8, 9, 10, 11, 12, 13, 14, 15], [2, 3, 4, 5, 6, 7, 8, 9, 10, 11, 12, 13, 14, 15, 16], [0, 1, 2, 3, 4, 5, 6, 7, 8, 9, 10, 11, 12, 13, 14, 15, 16, 17], [0, 1, 2, 3, 4, 5, 6, 7, 8, 9, 10, 11, 12, 13, 14, 15, 16, 17, 18], [0, 1, 2, 3, 4, 5, 6, 7, 8, 9, 10, 11, 12, 13, 14, 15, 16, 17, 18, 19]]))
      (.seq (.note (.gc [0, 3, 4]) (.reg [⟨.fad 1 (.t 3), (some 12), none⟩,
        ⟨.ld none (.t 12), (some 13), none⟩,
        ⟨.len false (.t 13), (some 14), none⟩,
        ⟨.bin false .gtr (.t 14) (.c (.int .i64 0)), (some 15), none⟩]))
      (.cond (.t 15)
        (.seq (.regD [⟨.fad 1 (.t 3), (some 16), none⟩,
          ⟨.ld none (.t 16), (some 17), none⟩,
          ⟨.mv (.t 0), (some 18), none⟩,
          ⟨.fad 1 (.t 3), (some 19), none⟩,
          ⟨.ld none (.t 19), (some 20), none⟩,
          ⟨.len false (.t 20), (some 21), none⟩,
          ⟨.call (.f 12) [(.t 18), (.t 21)] [1000] [], (some 22), none⟩,
          ⟨.iad 7 (.t 17) (.t 22), (some 23), none⟩,
          ⟨.mv (.t 23), (some 5), none⟩]
          [[], [0], [], [], [3], [4], [2, 5], [1, 6], [7, 6, 0, 1, 2, 3, 4, 5, 6, 7]]
          [[], [0], [], [], [3], [3, 4], [2, 3, 4, 5], [0, 1, 2, 3, 4, 5, 6], [0, 1, 2, 3, 4, 5, 6, 7]])
        (.seq (.reg [⟨.mv (.t 0), (some 24), none⟩,
          ⟨.call (.f 12) [(.t 24), (.c (.int .i64 4))] [1000] [], (some 25), none⟩])
        (.block 1
        (.seq (.reg [⟨.bin false .eql (.t 25) (.c (.int .i64 0)), (some 32), none⟩,
          ⟨.mv (.t 32), (some 31), none⟩])
        (.cond (.t 31)
          (.note (.gc [0, 3, 4, 5]) (.reg [⟨.mv (.t 5), (some 33), none⟩,
            ⟨.mv (.t 0), (some 34), none⟩,
            ⟨.call (.f 12) [(.t 34), (.c (.int .i64 60))] [1000] [], (some 35), none⟩,
            ⟨.nck (.t 33), (some 36), none⟩,
            ⟨.fad 0 (.t 36), (some 37), none⟩,
            ⟨.st 1 (.t 37) (.t 35), none, none⟩]))
          (.seq (.reg [⟨.bin false .eql (.t 25) (.c (.int .i64 1)), (some 39), none⟩,
            ⟨.mv (.t 39), (some 38), none⟩])
          (.cond (.t 38)
            (.note (.gc [0, 3, 4, 5]) (.reg [⟨.mv (.t 5), (some 40), none⟩,
              ⟨.mv (.t 0), (some 41), none⟩,
              ⟨.call (.f 23) [(.t 41), (.c (.int .i64 (-1))), (.c (.int .i64 5))] [1000] [], (some 42), none⟩,
              ⟨.nck (.t 40), (some 43), none⟩,
              ⟨.fad 2 (.t 43), (some 44), none⟩,
              ⟨.st 1 (.t 44) (.t 42), none, none⟩]))
            (.seq (.reg [⟨.bin false .eql (.t 25) (.c (.int .i64 2)), (some 46), none⟩,
              ⟨.mv (.t 46), (some 45), none⟩])
            (.cond (.t 45)
              (.note (.gc [3, 4, 5]) (.reg [⟨.mv (.t 5), (some 47), none⟩,
                ⟨.nck (.t 47), (some 48), none⟩,
                ⟨.fad 5 (.t 48), (some 49), none⟩,
                ⟨.ld none (.t 49), (some 50), none⟩,
                ⟨.bin true .add (.t 50) (.c (.int .i64 1)), (some 51), none⟩,
                ⟨.nck (.t 47), (some 52), none⟩,
                ⟨.fad 5 (.t 52), (some 53), none⟩,
                ⟨.st 1 (.t 53) (.t 51), none, none⟩]))
              (.note (.gc [0, 3, 4, 5]) (.reg [⟨.mv (.t 5), (some 26), none⟩,
                ⟨.mv (.t 0), (some 27), none⟩,
                ⟨.call (.f 12) [(.t 27), (.c (.int .i64 9))] [1000] [], (some 28), none⟩,
                ⟨.nck (.t 26), (some 29), none⟩,
                ⟨.fad 4 (.t 29), (some 30), none⟩,
                ⟨.st 1 (.t 30) (.t 28), none, none⟩])))))))))))
        .skip))))))))
  (.seq (.reg [⟨.ld (some 2) (.t 3), (some 82), none⟩,
    ⟨.st 2 (.t 4) (.t 82), none, none⟩])
  .ret))))
theorem ok_made_BentEstate : mc_made_BentEstate.ok Try.prog Try.f20.ntmps (Try.f20.body.getD .skip) = true := by kernel_rfl

set_option maxHeartbeats 2000000 in
theorem Wq_made_BentEstate (t_ : GTape) (a_ : GEstate) {Q : GEstate × GTape → Prop} {Q' : V → Heap → Prop} (h : Ok (F_made_BentEstate t_ a_) Q) (hQ : ∀ z, Q z → Q' (GEstate.v z.1) [(1000, .cells [.sl (z.2.L.map (V.int .i64)), .int .i64 z.2.at_])]) : ACall Try.prog 20 [.ptr 1000 0, GEstate.v a_] [(1000, .cells [.sl (t_.L.map (V.int .i64)), .int .i64 t_.at_])] Q' := by
  refine acall_machN [.fzc 4] [1000] [.c 4 (some 2)] Try.func20 rfl (by kernel_rfl) ok_made_BentEstate (by kernel_rfl) rfl rfl fun M hf => ?_
  clear hf
  unfold F_made_BentEstate at h
  unfold mc_made_BentEstate
  (try simp (maxSteps := 400000) only [go_sem, Nat.reduceBEq, Nat.reduceAdd, Nat.reduceLeDiff, Nat.reduceSub, Nat.reduceMul, Int.reduceToNat, Int.reduceLT, Int.reduceLE] at h)
  simp (maxSteps := 400000) only [go_sem, Nat.reduceBEq, Nat.reduceAdd, Nat.reduceLeDiff, Nat.reduceSub, Nat.reduceMul, Int.reduceToNat, Int.reduceLT, Int.reduceLE]
  repeat' (first
    | (exact hQ _ h)
    | (have hq := hQ _ h; simp (maxSteps := 400000) only [go_sem, Nat.reduceBEq, Nat.reduceAdd, Nat.reduceLeDiff, Nat.reduceSub, Nat.reduceMul, Int.reduceToNat, Int.reduceLT, Int.reduceLE] at hq; exact hq)
    | (refine oblg h ?_; clear h; intro hc h)
    | (refine fork h ?_ ?_ <;> clear h <;> intro hc h)
    | (refine forkS h ?_ ?_ <;> clear h <;> intro hc h)
    | (refine And.intro (chkD_of rfl) ?_)
    | (obtain ⟨y, hy, h⟩ := h; have hw := W_made_Tape_Next hy; (try simp (maxSteps := 400000) only [go_sem, Nat.reduceBEq, Nat.reduceAdd, Nat.reduceLeDiff, Nat.reduceSub, Nat.reduceMul, Int.reduceToNat, Int.reduceLT, Int.reduceLE] at hw); refine sCall_of hw rfl rfl ?_; clear hw; clear hy; rw [M.lok_eq]; simp (maxSteps := 400000) only [go_sem, Nat.reduceBEq, Nat.reduceAdd, Nat.reduceLeDiff, Nat.reduceSub, Nat.reduceMul, Int.reduceToNat, Int.reduceLT, Int.reduceLE])
    | (obtain ⟨y, hy, h⟩ := h; have hw := W_made_Tape_Next hy; (try simp (maxSteps := 400000) only [go_sem, Nat.reduceBEq, Nat.reduceAdd, Nat.reduceLeDiff, Nat.reduceSub, Nat.reduceMul, Int.reduceToNat, Int.reduceLT, Int.reduceLE] at hw); refine sCallD_of hw rfl rfl ?_; clear hw; clear hy; rw [M.lokD_eq]; simp (maxSteps := 400000) only [go_sem, Nat.reduceBEq, Nat.reduceAdd, Nat.reduceLeDiff, Nat.reduceSub, Nat.reduceMul, Int.reduceToNat, Int.reduceLT, Int.reduceLE])
    | (obtain ⟨y, hy, h⟩ := h; have hw := W_made_Pick hy; (try simp (maxSteps := 400000) only [go_sem, Nat.reduceBEq, Nat.reduceAdd, Nat.reduceLeDiff, Nat.reduceSub, Nat.reduceMul, Int.reduceToNat, Int.reduceLT, Int.reduceLE] at hw); refine sCall_of hw rfl rfl ?_; clear hw; clear hy; rw [M.lok_eq]; simp (maxSteps := 400000) only [go_sem, Nat.reduceBEq, Nat.reduceAdd, Nat.reduceLeDiff, Nat.reduceSub, Nat.reduceMul, Int.reduceToNat, Int.reduceLT, Int.reduceLE])
    | (obtain ⟨y, hy, h⟩ := h; have hw := W_made_Pick hy; (try simp (maxSteps := 400000) only [go_sem, Nat.reduceBEq, Nat.reduceAdd, Nat.reduceLeDiff, Nat.reduceSub, Nat.reduceMul, Int.reduceToNat, Int.reduceLT, Int.reduceLE] at hw); refine sCallD_of hw rfl rfl ?_; clear hw; clear hy; rw [M.lokD_eq]; simp (maxSteps := 400000) only [go_sem, Nat.reduceBEq, Nat.reduceAdd, Nat.reduceLeDiff, Nat.reduceSub, Nat.reduceMul, Int.reduceToNat, Int.reduceLT, Int.reduceLE])
    | (obtain ⟨y, hy, h⟩ := h; have hw := W_made_Tape_Between hy; (try simp (maxSteps := 400000) only [go_sem, Nat.reduceBEq, Nat.reduceAdd, Nat.reduceLeDiff, Nat.reduceSub, Nat.reduceMul, Int.reduceToNat, Int.reduceLT, Int.reduceLE] at hw); refine sCall_of hw rfl rfl ?_; clear hw; clear hy; rw [M.lok_eq]; simp (maxSteps := 400000) only [go_sem, Nat.reduceBEq, Nat.reduceAdd, Nat.reduceLeDiff, Nat.reduceSub, Nat.reduceMul, Int.reduceToNat, Int.reduceLT, Int.reduceLE])
    | (obtain ⟨y, hy, h⟩ := h; have hw := W_made_Tape_Between hy; (try simp (maxSteps := 400000) only [go_sem, Nat.reduceBEq, Nat.reduceAdd, Nat.reduceLeDiff, Nat.reduceSub, Nat.reduceMul, Int.reduceToNat, Int.reduceLT, Int.reduceLE] at hw); refine sCallD_of hw rfl rfl ?_; clear hw; clear hy; rw [M.lokD_eq]; simp (maxSteps := 400000) only [go_sem, Nat.reduceBEq, Nat.reduceAdd, Nat.reduceLeDiff, Nat.reduceSub, Nat.reduceMul, Int.reduceToNat, Int.reduceLT, Int.reduceLE])
    | (refine ⟨_, getE_map (inb_toNat (by assumption)), ?_⟩; (first | rw [M.lok_compU] | rw [M.lokD_compU]); simp (maxSteps := 400000) only [go_sem, Nat.reduceBEq, Nat.reduceAdd, Nat.reduceLeDiff, Nat.reduceSub, Nat.reduceMul, Int.reduceToNat, Int.reduceLT, Int.reduceLE])
    | (refine And.intro (ltb_of (by assumption)) ?_)
    | fail)
theorem W_made_BentEstate : ∀ {t_ : GTape} {a_ : GEstate} {y : GEstate × GTape}, F_made_BentEstate t_ a_ = some y → ACall Try.prog 20 [.ptr 1000 0, GEstate.v a_] [(1000, .cells [.sl (t_.L.map (V.int .i64)), .int .i64 t_.at_])] (fun r H => r = GEstate.v y.1 ∧ H = [(1000, .cells [.sl (y.2.L.map (V.int .i64)), .int .i64 y.2.at_])]) :=
  fun hy => Wq_made_BentEstate _ _ (Q := fun z => z = _) ⟨_, hy, rfl⟩ fun z e => by subst e; exact ⟨rfl, rfl⟩

def F_ref27_in (x_ : Int) (low_ : Int) (high_ : Int) : Option Bool :=
  grp ((decide (low_ ≤ x_) && decide (x_ ≤ high_))) fun b2 => some b2

/- leakresponse/leakresponseref27.in -/
@[irreducible] def mg_ref27_in_1 : List MOp := [⟨.mv (.t 0), (some 11), (some (10, true))⟩,
    ⟨.mv (.t 2), (some 12), (some (10, true))⟩,
    ⟨.bin false .leq (.t 11) (.t 12), (some 13), (some (10, true))⟩,
    ⟨.pick (.t 10) (.t 13) (.c (.bool false)), (some 14), none⟩]
def mc_ref27_in : MC :=
  (.seq (.reg [⟨.mv (.c (.bool false)), (some 6), none⟩])
  (.seq (.regI [.op ⟨.mv (.t 0), (some 7), none⟩,
    .op ⟨.mv (.t 1), (some 8), none⟩,
    .op ⟨.bin false .geq (.t 7) (.t 8), (some 9), none⟩,
    .op ⟨.mv (.t 9), (some 10), none⟩,
    .grp mg_ref27_in_1,
    .op ⟨.mv (.t 14), (some 6), none⟩])
  .ret))
theorem ok_ref27_in : mc_ref27_in.ok Try.prog Try.f45.ntmps (Try.f45.body.getD .skip) = true := by kernel_rfl

set_option maxHeartbeats 2000000 in
theorem Wq_ref27_in (x_ : Int) (low_ : Int) (high_ : Int) {Q : Bool → Prop} {Q' : V → Heap → Prop} (h : Ok (F_ref27_in x_ low_ high_) Q) (hQ : ∀ z, Q z → Q' (.bool z) []) : ACall Try.prog 45 [.int .i64 x_, .int .i64 low_, .int .i64 high_] [] Q' := by
  refine acall_machN [] [] [.t 6] Try.func45 rfl (by kernel_rfl) ok_ref27_in (by kernel_rfl) rfl rfl fun M hf => ?_
  clear hf
  unfold F_ref27_in at h
  unfold mc_ref27_in
  (try simp (maxSteps := 400000) only [go_sem, Nat.reduceBEq, Nat.reduceAdd, Nat.reduceLeDiff, Nat.reduceSub, Nat.reduceMul, Int.reduceToNat, Int.reduceLT, Int.reduceLE] at h)
  simp (maxSteps := 400000) only [go_sem, Nat.reduceBEq, Nat.reduceAdd, Nat.reduceLeDiff, Nat.reduceSub, Nat.reduceMul, Int.reduceToNat, Int.reduceLT, Int.reduceLE]
  repeat' (first
    | (exact hQ _ h)
    | (have hq := hQ _ h; simp (maxSteps := 400000) only [go_sem, Nat.reduceBEq, Nat.reduceAdd, Nat.reduceLeDiff, Nat.reduceSub, Nat.reduceMul, Int.reduceToNat, Int.reduceLT, Int.reduceLE] at hq; exact hq)
    | (refine oblg h ?_; clear h; intro hc h)
    | (refine fork h ?_ ?_ <;> clear h <;> intro hc h)
    | (refine forkS h ?_ ?_ <;> clear h <;> intro hc h)
    | (refine And.intro (chkD_of rfl) ?_)
    | (refine M.gv1 (ms := mg_ref27_in_1) 14 [11, 12, 13] h ?_ ?_ <;> first
       | (clear h; intro K hK1; unfold mg_ref27_in_1; simp (maxSteps := 400000) only [go_sem, Nat.reduceBEq, Nat.reduceAdd, Nat.reduceLeDiff, Nat.reduceSub, Nat.reduceMul, Int.reduceToNat, Int.reduceLT, Int.reduceLE])
       | (clear h; intro b h; (try simp (maxSteps := 400000) only [go_sem, Nat.reduceBEq, Nat.reduceAdd, Nat.reduceLeDiff, Nat.reduceSub, Nat.reduceMul, Int.reduceToNat, Int.reduceLT, Int.reduceLE] at h); simp (maxSteps := 400000) only [go_sem, Nat.reduceBEq, Nat.reduceAdd, Nat.reduceLeDiff, Nat.reduceSub, Nat.reduceMul, Int.reduceToNat, Int.reduceLT, Int.reduceLE])
       | fail)
    | (refine hK1 _ ?_; (refine ⟨?_, ?_, ?_⟩ <;> (try simp only [go_sem, Nat.reduceBEq, Nat.reduceAdd, Nat.reduceLeDiff, Nat.reduceSub, Nat.reduceMul, Int.reduceToNat, Int.reduceLT, Int.reduceLE, St.good, noAny, distinct, SubSt, subE, subHp, *]) <;> (repeat' (first | exact trivial | rfl | apply And.intro | (simp [*]; done)))); done)
    | (refine bfork (fun hc => ?_) (fun hc => ?_))
    | (refine ⟨_, getE_map (inb_toNat (by assumption)), ?_⟩; (first | rw [M.lok_compU] | rw [M.lokD_compU]); simp (maxSteps := 400000) only [go_sem, Nat.reduceBEq, Nat.reduceAdd, Nat.reduceLeDiff, Nat.reduceSub, Nat.reduceMul, Int.reduceToNat, Int.reduceLT, Int.reduceLE])
    | (refine And.intro (ltb_of (by assumption)) ?_)
    | fail)
theorem W_ref27_in : ∀ {x_ : Int} {low_ : Int} {high_ : Int} {y : Bool}, F_ref27_in x_ low_ high_ = some y → ACall Try.prog 45 [.int .i64 x_, .int .i64 low_, .int .i64 high_] [] (fun r H => r = .bool y ∧ H = []) :=
  fun hy => Wq_ref27_in _ _ _ (Q := fun z => z = _) ⟨_, hy, rfl⟩ fun z e => by subst e; exact ⟨rfl, rfl⟩

def F_ref27_event (a_ : GEstate) (x_ : GAccess) : Option Bool :=
  (F_ref27_in x_.Time 0 1099511627776).bind fun y7 => bif (!y7) then some false else chk (in64 (a_.Places - 1)) ((F_ref27_in x_.Place 0 (a_.Places - 1)).bind fun y8 => bif (!y8) then some false else jn (α := Bool) (bif decide (x_.Kind = 1) then some true else some (decide (x_.Kind = 2))) fun j35 => bif j35 then jn (α := Bool) (bif (decide (x_.Time = x_.Time) && (decide (x_.Kind = x_.Kind) && (decide (x_.Place = x_.Place) && (decide (x_.Principal = x_.Principal) && (decide (x_.Until = 0) && (decide (x_.Content = 0) && decide (x_.From = 0))))))) then (F_ref27_in x_.Principal 0 23).bind fun y40 => some y40 else some false) fun j41 => some j41 else bif decide (x_.Kind = 3) then grp (((decide (x_.Time = x_.Time) && (decide (x_.Kind = x_.Kind) && (decide (x_.Place = x_.Place) && (decide (x_.Principal = 0) && (decide (x_.Until = x_.Until) && (decide (x_.Content = 0) && decide (x_.From = 0))))))) && decide (x_.Time < x_.Until))) fun b44 => grp ((b44 && decide (x_.Until ≤ 1099511627776))) fun b45 => some b45 else bif decide (x_.Kind = 4) then some (decide (x_.Time = x_.Time) && (decide (x_.Kind = x_.Kind) && (decide (x_.Place = x_.Place) && (decide (x_.Principal = 0) && (decide (x_.Until = 0) && (decide (x_.Content = 0) && decide (x_.From = 0))))))) else jn (α := Bool) (bif decide (x_.Kind = 5) then some true else some (decide (x_.Kind = 6))) fun j46 => bif j46 then jn (α := Bool) (bif (decide (x_.Time = x_.Time) && (decide (x_.Kind = x_.Kind) && (decide (x_.Place = x_.Place) && (decide (x_.Principal = 0) && (decide (x_.Until = 0) && (decide (x_.Content = x_.Content) && decide (x_.From = 0))))))) then (F_ref27_in x_.Content 0 63).bind fun y51 => some y51 else some false) fun j52 => some j52 else bif decide (x_.Kind = 7) then jn (α := Bool) (bif (decide (x_.Time = x_.Time) && (decide (x_.Kind = x_.Kind) && (decide (x_.Place = x_.Place) && (decide (x_.Principal = 0) && (decide (x_.Until = 0) && (decide (x_.Content = 0) && decide (x_.From = x_.From))))))) then chk (in64 (a_.Places - 1)) ((F_ref27_in x_.From 0 (a_.Places - 1)).bind fun y58 => some y58) else some false) fun j59 => grp ((j59 && (!decide (x_.From = x_.Place)))) fun b60 => some b60 else some false)

/- leakresponse/leakresponseref27.event -/
@[irreducible] def mg_ref27_event_1 : List MOp := [⟨.fad 3 (.t 3), (some 38), (some (37, true))⟩,
      ⟨.ld none (.t 38), (some 39), (some (37, true))⟩,
      ⟨.call (.f 45) [(.t 39), (.c (.int .i64 0)), (.c (.int .i64 23))] [] [], (some 40), (some (37, true))⟩,
      ⟨.pick (.t 37) (.t 40) (.c (.bool false)), (some 41), none⟩]
@[irreducible] def mg_ref27_event_2 : List MOp := [⟨.fad 4 (.t 3), (some 51), (some (50, true))⟩,
        ⟨.ld none (.t 51), (some 52), (some (50, true))⟩,
        ⟨.fad 0 (.t 3), (some 53), (some (50, true))⟩,
        ⟨.ld none (.t 53), (some 54), (some (50, true))⟩,
        ⟨.bin false .gtr (.t 52) (.t 54), (some 55), (some (50, true))⟩,
        ⟨.pick (.t 50) (.t 55) (.c (.bool false)), (some 56), none⟩]
@[irreducible] def mg_ref27_event_3 : List MOp := [⟨.fad 4 (.t 3), (some 58), (some (57, true))⟩,
        ⟨.ld none (.t 58), (some 59), (some (57, true))⟩,
        ⟨.bin false .leq (.t 59) (.c (.int .i64 1099511627776)), (some 60), (some (57, true))⟩,
        ⟨.pick (.t 57) (.t 60) (.c (.bool false)), (some 61), none⟩]
@[irreducible] def mg_ref27_event_4 : List MOp := [⟨.fad 5 (.t 3), (some 77), (some (76, true))⟩,
            ⟨.ld none (.t 77), (some 78), (some (76, true))⟩,
            ⟨.call (.f 45) [(.t 78), (.c (.int .i64 0)), (.c (.int .i64 63))] [] [], (some 79), (some (76, true))⟩,
            ⟨.pick (.t 76) (.t 79) (.c (.bool false)), (some 80), none⟩]
@[irreducible] def mg_ref27_event_5 : List MOp := [⟨.fad 6 (.t 3), (some 90), (some (89, true))⟩,
              ⟨.ld none (.t 90), (some 91), (some (89, true))⟩,
              ⟨.fad 0 (.t 2), (some 92), (some (89, true))⟩,
              ⟨.ld none (.t 92), (some 93), (some (89, true))⟩,
              ⟨.bin true .sub (.t 93) (.c (.int .i64 1)), (some 94), (some (89, true))⟩,
              ⟨.call (.f 45) [(.t 91), (.c (.int .i64 0)), (.t 94)] [] [], (some 95), (some (89, true))⟩,
              ⟨.pick (.t 89) (.t 95) (.c (.bool false)), (some 96), none⟩]
@[irreducible] def mg_ref27_event_6 : List MOp := [⟨.fad 6 (.t 3), (some 98), (some (97, true))⟩,
              ⟨.ld none (.t 98), (some 99), (some (97, true))⟩,
              ⟨.fad 2 (.t 3), (some 100), (some (97, true))⟩,
              ⟨.ld none (.t 100), (some 101), (some (97, true))⟩,
              ⟨.bin false .neq (.t 99) (.t 101), (some 102), (some (97, true))⟩,
              ⟨.pick (.t 97) (.t 102) (.c (.bool false)), (some 103), none⟩]
@[irreducible] def mc_ref27_event_J1 : MC :=
  (.cond (.t 67)
          (.seq (.reg [⟨.fad 5 (.t 3), (some 70), none⟩,
            ⟨.ld none (.t 70), (some 71), none⟩,
            ⟨.fad 5 (.t 5), (some 72), none⟩,
            ⟨.st 1 (.t 72) (.t 71), none, none⟩])
          (.seq (.regI [.op ⟨.ld (some 7) (.t 3), (some 73), none⟩,
            .op ⟨.ld (some 7) (.t 5), (some 74), none⟩,
            .op ⟨.eqs false [0, 0, 0, 0, 0, 0, 0] (.t 73) (.t 74), (some 75), none⟩,
            .op ⟨.mv (.t 75), (some 76), none⟩,
            .grp mg_ref27_event_4,
            .op ⟨.mv (.t 80), (some 4), none⟩])
          .ret))
          (.seq (.reg [⟨.bin false .eql (.t 27) (.c (.int .i64 7)), (some 82), none⟩,
            ⟨.mv (.t 82), (some 81), none⟩])
          (.cond (.t 81)
            (.seq (.reg [⟨.fad 6 (.t 3), (some 83), none⟩,
              ⟨.ld none (.t 83), (some 84), none⟩,
              ⟨.fad 6 (.t 5), (some 85), none⟩,
              ⟨.st 1 (.t 85) (.t 84), none, none⟩])
            (.seq (.regI [.op ⟨.ld (some 7) (.t 3), (some 86), none⟩,
              .op ⟨.ld (some 7) (.t 5), (some 87), none⟩,
              .op ⟨.eqs false [0, 0, 0, 0, 0, 0, 0] (.t 86) (.t 87), (some 88), none⟩,
              .op ⟨.mv (.t 88), (some 89), none⟩,
              .grp mg_ref27_event_5,
              .op ⟨.mv (.t 96), (some 97), none⟩,
              .grp mg_ref27_event_6,
              .op ⟨.mv (.t 103), (some 4), none⟩])
            .ret))
            .skip)))
@[irreducible] def mc_ref27_event_J2 : MC :=
  (.cond (.t 28)
    (.seq (.reg [⟨.fad 3 (.t 3), (some 31), none⟩,
      ⟨.ld none (.t 31), (some 32), none⟩,
      ⟨.fad 3 (.t 5), (some 33), none⟩,
      ⟨.st 1 (.t 33) (.t 32), none, none⟩])
    (.seq (.regI [.op ⟨.ld (some 7) (.t 3), (some 34), none⟩,
      .op ⟨.ld (some 7) (.t 5), (some 35), none⟩,
      .op ⟨.eqs false [0, 0, 0, 0, 0, 0, 0] (.t 34) (.t 35), (some 36), none⟩,
      .op ⟨.mv (.t 36), (some 37), none⟩,
      .grp mg_ref27_event_1,
      .op ⟨.mv (.t 41), (some 4), none⟩])
    .ret))
    (.seq (.reg [⟨.bin false .eql (.t 27) (.c (.int .i64 3)), (some 43), none⟩,
      ⟨.mv (.t 43), (some 42), none⟩])
    (.cond (.t 42)
      (.seq (.reg [⟨.fad 4 (.t 3), (some 44), none⟩,
        ⟨.ld none (.t 44), (some 45), none⟩,
        ⟨.fad 4 (.t 5), (some 46), none⟩,
        ⟨.st 1 (.t 46) (.t 45), none, none⟩])
      (.seq (.note (.gc [3, 5, 51, 52, 53, 54, 55, 58, 59, 60]) (.regI [.op ⟨.ld (some 7) (.t 3), (some 47), none⟩,
        .op ⟨.ld (some 7) (.t 5), (some 48), none⟩,
        .op ⟨.eqs false [0, 0, 0, 0, 0, 0, 0] (.t 47) (.t 48), (some 49), none⟩,
        .op ⟨.mv (.t 49), (some 50), none⟩,
        .grp mg_ref27_event_2,
        .op ⟨.mv (.t 56), (some 57), none⟩,
        .grp mg_ref27_event_3,
        .op ⟨.mv (.t 61), (some 4), none⟩]))
      .ret))
      (.seq (.reg [⟨.bin false .eql (.t 27) (.c (.int .i64 4)), (some 63), none⟩,
        ⟨.mv (.t 63), (some 62), none⟩])
      (.cond (.t 62)
        (.seq (.reg [⟨.ld (some 7) (.t 3), (some 64), none⟩,
          ⟨.ld (some 7) (.t 5), (some 65), none⟩,
          ⟨.eqs false [0, 0, 0, 0, 0, 0, 0] (.t 64) (.t 65), (some 66), none⟩,
          ⟨.mv (.t 66), (some 4), none⟩])
        .ret)
        (.cut (.seq (.reg [⟨.bin false .eql (.t 27) (.c (.int .i64 5)), (some 68), none⟩,
          ⟨.mv (.t 68), (some 67), none⟩])
        (.cond (.t 67)
          .skip
          (.reg [⟨.bin false .eql (.t 27) (.c (.int .i64 6)), (some 69), none⟩,
            ⟨.mv (.t 69), (some 67), none⟩])))
        mc_ref27_event_J1))))))
def mc_ref27_event : MC :=
  (.seq (.reg [⟨.box (.t 0), (some 2), none⟩,
    ⟨.box (.t 1), (some 3), none⟩,
    ⟨.mv (.c (.bool false)), (some 4), none⟩])
  (.seq (.seq (.reg [⟨.fad 0 (.t 3), (some 6), none⟩,
    ⟨.ld none (.t 6), (some 7), none⟩,
    ⟨.call (.f 45) [(.t 7), (.c (.int .i64 0)), (.c (.int .i64 1099511627776))] [] [], (some 8), none⟩,
    ⟨.not (.t 8), (some 9), none⟩,
    ⟨.mv (.t 9), (some 10), none⟩,
    ⟨.fad 2 (.t 3), (some 11), (some (10, false))⟩,
    ⟨.ld none (.t 11), (some 12), (some (10, false))⟩,
    ⟨.fad 0 (.t 2), (some 13), (some (10, false))⟩,
    ⟨.ld none (.t 13), (some 14), (some (10, false))⟩,
    ⟨.bin true .sub (.t 14) (.c (.int .i64 1)), (some 15), (some (10, false))⟩,
    ⟨.call (.f 45) [(.t 12), (.c (.int .i64 0)), (.t 15)] [] [], (some 16), (some (10, false))⟩,
    ⟨.not (.t 16), (some 17), (some (10, false))⟩,
    ⟨.pick (.t 10) (.c (.bool true)) (.t 17), (some 18), none⟩])
  (.cond (.t 18)
    (.seq (.reg [⟨.mv (.c (.bool false)), (some 4), none⟩])
    .ret)
    .skip))
  (.seq (.note (.gc [2, 3, 38, 39, 40, 51, 52, 53, 54, 55, 58, 59, 60, 77, 78, 79, 90, 91, 92, 93, 94, 95, 98, 99, 100, 101, 102]) (.reg [⟨.fad 0 (.t 3), (some 19), none⟩,
    ⟨.ld none (.t 19), (some 20), none⟩,
    ⟨.fad 1 (.t 3), (some 21), none⟩,
    ⟨.ld none (.t 21), (some 22), none⟩,
    ⟨.fad 2 (.t 3), (some 23), none⟩,
    ⟨.ld none (.t 23), (some 24), none⟩,
    ⟨.build [(.int .i64 0), (.int .i64 0), (.int .i64 0), (.int .i64 0), (.int .i64 0), (.int .i64 0), (.int .i64 0)] [(0, 1, (.t 20)), (1, 1, (.t 22)), (2, 1, (.t 24))], (some 25), none⟩,
    ⟨.alloc [(.int .i64 0), (.int .i64 0), (.int .i64 0), (.int .i64 0), (.int .i64 0), (.int .i64 0), (.int .i64 0)], (some 5), none⟩,
    ⟨.st 7 (.t 5) (.t 25), none, none⟩]))
  (.seq (.seq (.reg [⟨.fad 1 (.t 3), (some 26), none⟩,
    ⟨.ld none (.t 26), (some 27), none⟩])
  (.block 0
  (.cut (.seq (.reg [⟨.bin false .eql (.t 27) (.c (.int .i64 1)), (some 29), none⟩,
    ⟨.mv (.t 29), (some 28), none⟩])
  (.cond (.t 28)
    .skip
    (.reg [⟨.bin false .eql (.t 27) (.c (.int .i64 2)), (some 30), none⟩,
      ⟨.mv (.t 30), (some 28), none⟩])))
  mc_ref27_event_J2)))
  (.seq (.reg [⟨.mv (.c (.bool false)), (some 4), none⟩])
  .ret)))))
theorem ok_ref27_event : mc_ref27_event.ok Try.prog Try.f46.ntmps (Try.f46.body.getD .skip) = true := by kernel_rfl

set_option maxHeartbeats 2000000 in
theorem Wq_ref27_event (a_ : GEstate) (x_ : GAccess) {Q : Bool → Prop} {Q' : V → Heap → Prop} (h : Ok (F_ref27_event a_ x_) Q) (hQ : ∀ z, Q z → Q' (.bool z) []) : ACall Try.prog 46 [GEstate.v a_, GAccess.v x_] [] Q' := by
  refine acall_machN [] [] [.t 4] Try.func46 rfl (by kernel_rfl) ok_ref27_event (by kernel_rfl) rfl rfl fun M hf => ?_
  clear hf
  unfold F_ref27_event at h
  unfold mc_ref27_event
  (try simp (maxSteps := 400000) only [go_sem, Nat.reduceBEq, Nat.reduceAdd, Nat.reduceLeDiff, Nat.reduceSub, Nat.reduceMul, Int.reduceToNat, Int.reduceLT, Int.reduceLE] at h)
  simp (maxSteps := 400000) only [go_sem, Nat.reduceBEq, Nat.reduceAdd, Nat.reduceLeDiff, Nat.reduceSub, Nat.reduceMul, Int.reduceToNat, Int.reduceLT, Int.reduceLE]
  repeat' (first
    | (exact hQ _ h)
    | (have hq := hQ _ h; simp (maxSteps := 400000) only [go_sem, Nat.reduceBEq, Nat.reduceAdd, Nat.reduceLeDiff, Nat.reduceSub, Nat.reduceMul, Int.reduceToNat, Int.reduceLT, Int.reduceLE] at hq; exact hq)
    | (refine oblg h ?_; clear h; intro hc h)
    | (refine fork h ?_ ?_ <;> clear h <;> intro hc h)
    | (refine forkS h ?_ ?_ <;> clear h <;> intro hc h)
    | (refine And.intro (chkD_of rfl) ?_)
    | (obtain ⟨y, hy, h⟩ := h; have hw := W_ref27_in hy; (try simp (maxSteps := 400000) only [go_sem, Nat.reduceBEq, Nat.reduceAdd, Nat.reduceLeDiff, Nat.reduceSub, Nat.reduceMul, Int.reduceToNat, Int.reduceLT, Int.reduceLE] at hw); refine sCall_of hw rfl rfl ?_; clear hw; clear hy; rw [M.lok_eq]; simp (maxSteps := 400000) only [go_sem, Nat.reduceBEq, Nat.reduceAdd, Nat.reduceLeDiff, Nat.reduceSub, Nat.reduceMul, Int.reduceToNat, Int.reduceLT, Int.reduceLE])
    | (obtain ⟨y, hy, h⟩ := h; have hw := W_ref27_in hy; (try simp (maxSteps := 400000) only [go_sem, Nat.reduceBEq, Nat.reduceAdd, Nat.reduceLeDiff, Nat.reduceSub, Nat.reduceMul, Int.reduceToNat, Int.reduceLT, Int.reduceLE] at hw); refine sCallD_of hw rfl rfl ?_; clear hw; clear hy; rw [M.lokD_eq]; simp (maxSteps := 400000) only [go_sem, Nat.reduceBEq, Nat.reduceAdd, Nat.reduceLeDiff, Nat.reduceSub, Nat.reduceMul, Int.reduceToNat, Int.reduceLT, Int.reduceLE])
    | (refine M.gj1 (ms := mg_ref27_event_1) [] [] (fun y => [(41, .bool y)]) (fun y => []) h ?_ ?_ <;> first
       | (clear h; intro Qn K hK1 h; unfold mg_ref27_event_1; (try simp (maxSteps := 400000) only [go_sem, Nat.reduceBEq, Nat.reduceAdd, Nat.reduceLeDiff, Nat.reduceSub, Nat.reduceMul, Int.reduceToNat, Int.reduceLT, Int.reduceLE] at h); simp (maxSteps := 400000) only [go_sem, Nat.reduceBEq, Nat.reduceAdd, Nat.reduceLeDiff, Nat.reduceSub, Nat.reduceMul, Int.reduceToNat, Int.reduceLT, Int.reduceLE])
       | (clear h; intro y h; (try simp (maxSteps := 400000) only [go_sem, Nat.reduceBEq, Nat.reduceAdd, Nat.reduceLeDiff, Nat.reduceSub, Nat.reduceMul, Int.reduceToNat, Int.reduceLT, Int.reduceLE] at h); simp (maxSteps := 400000) only [go_sem, Nat.reduceBEq, Nat.reduceAdd, Nat.reduceLeDiff, Nat.reduceSub, Nat.reduceMul, Int.reduceToNat, Int.reduceLT, Int.reduceLE])
       | fail)
    | (refine M.gv1 (ms := mg_ref27_event_3) 61 [58, 59, 60] h ?_ ?_ <;> first
       | (clear h; intro K hK2; unfold mg_ref27_event_3; simp (maxSteps := 400000) only [go_sem, Nat.reduceBEq, Nat.reduceAdd, Nat.reduceLeDiff, Nat.reduceSub, Nat.reduceMul, Int.reduceToNat, Int.reduceLT, Int.reduceLE])
       | (clear h; intro b h; (try simp (maxSteps := 400000) only [go_sem, Nat.reduceBEq, Nat.reduceAdd, Nat.reduceLeDiff, Nat.reduceSub, Nat.reduceMul, Int.reduceToNat, Int.reduceLT, Int.reduceLE] at h); simp (maxSteps := 400000) only [go_sem, Nat.reduceBEq, Nat.reduceAdd, Nat.reduceLeDiff, Nat.reduceSub, Nat.reduceMul, Int.reduceToNat, Int.reduceLT, Int.reduceLE])
       | fail)
    | (refine M.gv1 (ms := mg_ref27_event_2) 56 [51, 52, 53, 54, 55] h ?_ ?_ <;> first
       | (clear h; intro K hK3; unfold mg_ref27_event_2; simp (maxSteps := 400000) only [go_sem, Nat.reduceBEq, Nat.reduceAdd, Nat.reduceLeDiff, Nat.reduceSub, Nat.reduceMul, Int.reduceToNat, Int.reduceLT, Int.reduceLE])
       | (clear h; intro b h; (try simp (maxSteps := 400000) only [go_sem, Nat.reduceBEq, Nat.reduceAdd, Nat.reduceLeDiff, Nat.reduceSub, Nat.reduceMul, Int.reduceToNat, Int.reduceLT, Int.reduceLE] at h); simp (maxSteps := 400000) only [go_sem, Nat.reduceBEq, Nat.reduceAdd, Nat.reduceLeDiff, Nat.reduceSub, Nat.reduceMul, Int.reduceToNat, Int.reduceLT, Int.reduceLE])
       | fail)
    | (refine M.gj1 (ms := mg_ref27_event_4) [] [] (fun y => [(80, .bool y)]) (fun y => []) h ?_ ?_ <;> first
       | (clear h; intro Qn K hK4 h; unfold mg_ref27_event_4; (try simp (maxSteps := 400000) only [go_sem, Nat.reduceBEq, Nat.reduceAdd, Nat.reduceLeDiff, Nat.reduceSub, Nat.reduceMul, Int.reduceToNat, Int.reduceLT, Int.reduceLE] at h); simp (maxSteps := 400000) only [go_sem, Nat.reduceBEq, Nat.reduceAdd, Nat.reduceLeDiff, Nat.reduceSub, Nat.reduceMul, Int.reduceToNat, Int.reduceLT, Int.reduceLE])
       | (clear h; intro y h; (try simp (maxSteps := 400000) only [go_sem, Nat.reduceBEq, Nat.reduceAdd, Nat.reduceLeDiff, Nat.reduceSub, Nat.reduceMul, Int.reduceToNat, Int.reduceLT, Int.reduceLE] at h); simp (maxSteps := 400000) only [go_sem, Nat.reduceBEq, Nat.reduceAdd, Nat.reduceLeDiff, Nat.reduceSub, Nat.reduceMul, Int.reduceToNat, Int.reduceLT, Int.reduceLE])
       | fail)
    | (refine M.gv1 (ms := mg_ref27_event_6) 103 [98, 99, 100, 101, 102] h ?_ ?_ <;> first
       | (clear h; intro K hK5; unfold mg_ref27_event_6; simp (maxSteps := 400000) only [go_sem, Nat.reduceBEq, Nat.reduceAdd, Nat.reduceLeDiff, Nat.reduceSub, Nat.reduceMul, Int.reduceToNat, Int.reduceLT, Int.reduceLE])
       | (clear h; intro b h; (try simp (maxSteps := 400000) only [go_sem, Nat.reduceBEq, Nat.reduceAdd, Nat.reduceLeDiff, Nat.reduceSub, Nat.reduceMul, Int.reduceToNat, Int.reduceLT, Int.reduceLE] at h); simp (maxSteps := 400000) only [go_sem, Nat.reduceBEq, Nat.reduceAdd, Nat.reduceLeDiff, Nat.reduceSub, Nat.reduceMul, Int.reduceToNat, Int.reduceLT, Int.reduceLE])
       | fail)
    | (refine M.gj1 (ms := mg_ref27_event_5) [3] [3] (fun y => [(96, .bool y)]) (fun y => []) h ?_ ?_ <;> first
       | (clear h; intro Qn K hK6 h; unfold mg_ref27_event_5; (try simp (maxSteps := 400000) only [go_sem, Nat.reduceBEq, Nat.reduceAdd, Nat.reduceLeDiff, Nat.reduceSub, Nat.reduceMul, Int.reduceToNat, Int.reduceLT, Int.reduceLE] at h); simp (maxSteps := 400000) only [go_sem, Nat.reduceBEq, Nat.reduceAdd, Nat.reduceLeDiff, Nat.reduceSub, Nat.reduceMul, Int.reduceToNat, Int.reduceLT, Int.reduceLE])
       | (clear h; intro y h; (try simp (maxSteps := 400000) only [go_sem, Nat.reduceBEq, Nat.reduceAdd, Nat.reduceLeDiff, Nat.reduceSub, Nat.reduceMul, Int.reduceToNat, Int.reduceLT, Int.reduceLE] at h); simp (maxSteps := 400000) only [go_sem, Nat.reduceBEq, Nat.reduceAdd, Nat.reduceLeDiff, Nat.reduceSub, Nat.reduceMul, Int.reduceToNat, Int.reduceLT, Int.reduceLE])
       | fail)
    | (refine M.jn1 (b := mc_ref27_event_J1) [2, 3, 5, 27] [5, 3, 2] (fun y => [(67, .bool y)]) (fun y => []) [] h ?_ ?_ <;> first
       | (clear h; intro Qn K hK7 h; (try simp (maxSteps := 400000) only [go_sem, Nat.reduceBEq, Nat.reduceAdd, Nat.reduceLeDiff, Nat.reduceSub, Nat.reduceMul, Int.reduceToNat, Int.reduceLT, Int.reduceLE] at h); simp (maxSteps := 400000) only [go_sem, Nat.reduceBEq, Nat.reduceAdd, Nat.reduceLeDiff, Nat.reduceSub, Nat.reduceMul, Int.reduceToNat, Int.reduceLT, Int.reduceLE])
       | (clear h; intro y h; unfold mc_ref27_event_J1; (try simp (maxSteps := 400000) only [go_sem, Nat.reduceBEq, Nat.reduceAdd, Nat.reduceLeDiff, Nat.reduceSub, Nat.reduceMul, Int.reduceToNat, Int.reduceLT, Int.reduceLE] at h); simp (maxSteps := 400000) only [go_sem, Nat.reduceBEq, Nat.reduceAdd, Nat.reduceLeDiff, Nat.reduceSub, Nat.reduceMul, Int.reduceToNat, Int.reduceLT, Int.reduceLE])
       | fail)
    | (refine M.jn1 (b := mc_ref27_event_J2) [2, 3, 5, 27] [5, 3, 2] (fun y => [(28, .bool y)]) (fun y => []) [] h ?_ ?_ <;> first
       | (clear h; intro Qn K hK8 h; (try simp (maxSteps := 400000) only [go_sem, Nat.reduceBEq, Nat.reduceAdd, Nat.reduceLeDiff, Nat.reduceSub, Nat.reduceMul, Int.reduceToNat, Int.reduceLT, Int.reduceLE] at h); simp (maxSteps := 400000) only [go_sem, Nat.reduceBEq, Nat.reduceAdd, Nat.reduceLeDiff, Nat.reduceSub, Nat.reduceMul, Int.reduceToNat, Int.reduceLT, Int.reduceLE])
       | (clear h; intro y h; unfold mc_ref27_event_J2; (try simp (maxSteps := 400000) only [go_sem, Nat.reduceBEq, Nat.reduceAdd, Nat.reduceLeDiff, Nat.reduceSub, Nat.reduceMul, Int.reduceToNat, Int.reduceLT, Int.reduceLE] at h); simp (maxSteps := 400000) only [go_sem, Nat.reduceBEq, Nat.reduceAdd, Nat.reduceLeDiff, Nat.reduceSub, Nat.reduceMul, Int.reduceToNat, Int.reduceLT, Int.reduceLE])
       | fail)
    | (refine hK1 _ ?_; (try simp only [go_sem, Nat.reduceBEq, Nat.reduceAdd, Nat.reduceLeDiff, Nat.reduceSub, Nat.reduceMul, Int.reduceToNat, Int.reduceLT, Int.reduceLE]); refine ⟨_, h, ?_⟩; (refine ⟨?_, ?_, ?_⟩ <;> (try simp only [go_sem, Nat.reduceBEq, Nat.reduceAdd, Nat.reduceLeDiff, Nat.reduceSub, Nat.reduceMul, Int.reduceToNat, Int.reduceLT, Int.reduceLE, St.good, noAny, distinct, SubSt, subE, subHp]) <;> (repeat' (first | exact trivial | rfl | apply And.intro | (simp; done)))); done)
    | (refine hK2 _ ?_; (refine ⟨?_, ?_, ?_⟩ <;> (try simp only [go_sem, Nat.reduceBEq, Nat.reduceAdd, Nat.reduceLeDiff, Nat.reduceSub, Nat.reduceMul, Int.reduceToNat, Int.reduceLT, Int.reduceLE, St.good, noAny, distinct, SubSt, subE, subHp, *]) <;> (repeat' (first | exact trivial | rfl | apply And.intro | (simp [*]; done)))); done)
    | (refine hK3 _ ?_; (refine ⟨?_, ?_, ?_⟩ <;> (try simp only [go_sem, Nat.reduceBEq, Nat.reduceAdd, Nat.reduceLeDiff, Nat.reduceSub, Nat.reduceMul, Int.reduceToNat, Int.reduceLT, Int.reduceLE, St.good, noAny, distinct, SubSt, subE, subHp, *]) <;> (repeat' (first | exact trivial | rfl | apply And.intro | (simp [*]; done)))); done)
    | (refine hK4 _ ?_; (try simp only [go_sem, Nat.reduceBEq, Nat.reduceAdd, Nat.reduceLeDiff, Nat.reduceSub, Nat.reduceMul, Int.reduceToNat, Int.reduceLT, Int.reduceLE]); refine ⟨_, h, ?_⟩; (refine ⟨?_, ?_, ?_⟩ <;> (try simp only [go_sem, Nat.reduceBEq, Nat.reduceAdd, Nat.reduceLeDiff, Nat.reduceSub, Nat.reduceMul, Int.reduceToNat, Int.reduceLT, Int.reduceLE, St.good, noAny, distinct, SubSt, subE, subHp]) <;> (repeat' (first | exact trivial | rfl | apply And.intro | (simp; done)))); done)
    | (refine hK5 _ ?_; (refine ⟨?_, ?_, ?_⟩ <;> (try simp only [go_sem, Nat.reduceBEq, Nat.reduceAdd, Nat.reduceLeDiff, Nat.reduceSub, Nat.reduceMul, Int.reduceToNat, Int.reduceLT, Int.reduceLE, St.good, noAny, distinct, SubSt, subE, subHp, *]) <;> (repeat' (first | exact trivial | rfl | apply And.intro | (simp [*]; done)))); done)
    | (refine hK6 _ ?_; (try simp only [go_sem, Nat.reduceBEq, Nat.reduceAdd, Nat.reduceLeDiff, Nat.reduceSub, Nat.reduceMul, Int.reduceToNat, Int.reduceLT, Int.reduceLE]); refine ⟨_, h, ?_⟩; (refine ⟨?_, ?_, ?_⟩ <;> (try simp only [go_sem, Nat.reduceBEq, Nat.reduceAdd, Nat.reduceLeDiff, Nat.reduceSub, Nat.reduceMul, Int.reduceToNat, Int.reduceLT, Int.reduceLE, St.good, noAny, distinct, SubSt, subE, subHp]) <;> (repeat' (first | exact trivial | rfl | apply And.intro | (simp; done)))); done)
    | (refine hK7 _ ?_; (try simp only [go_sem, Nat.reduceBEq, Nat.reduceAdd, Nat.reduceLeDiff, Nat.reduceSub, Nat.reduceMul, Int.reduceToNat, Int.reduceLT, Int.reduceLE]); refine ⟨_, h, ?_⟩; (refine ⟨?_, ?_, ?_⟩ <;> (try simp only [go_sem, Nat.reduceBEq, Nat.reduceAdd, Nat.reduceLeDiff, Nat.reduceSub, Nat.reduceMul, Int.reduceToNat, Int.reduceLT, Int.reduceLE, St.good, noAny, distinct, SubSt, subE, subHp]) <;> (repeat' (first | exact trivial | rfl | apply And.intro | (simp; done)))); done)
    | (refine hK8 _ ?_; (try simp only [go_sem, Nat.reduceBEq, Nat.reduceAdd, Nat.reduceLeDiff, Nat.reduceSub, Nat.reduceMul, Int.reduceToNat, Int.reduceLT, Int.reduceLE]); refine ⟨_, h, ?_⟩; (refine ⟨?_, ?_, ?_⟩ <;> (try simp only [go_sem, Nat.reduceBEq, Nat.reduceAdd, Nat.reduceLeDiff, Nat.reduceSub, Nat.reduceMul, Int.reduceToNat, Int.reduceLT, Int.reduceLE, St.good, noAny, distinct, SubSt, subE, subHp]) <;> (repeat' (first | exact trivial | rfl | apply And.intro | (simp; done)))); done)
    | (refine bfork (fun hc => ?_) (fun hc => ?_))
    | (refine ⟨_, getE_map (inb_toNat (by assumption)), ?_⟩; (first | rw [M.lok_compU] | rw [M.lokD_compU]); simp (maxSteps := 400000) only [go_sem, Nat.reduceBEq, Nat.reduceAdd, Nat.reduceLeDiff, Nat.reduceSub, Nat.reduceMul, Int.reduceToNat, Int.reduceLT, Int.reduceLE])
    | (refine And.intro (ltb_of (by assumption)) ?_)
    | fail)
theorem W_ref27_event : ∀ {a_ : GEstate} {x_ : GAccess} {y : Bool}, F_ref27_event a_ x_ = some y → ACall Try.prog 46 [GEstate.v a_, GAccess.v x_] [] (fun r H => r = .bool y ∧ H = []) :=
  fun hy => Wq_ref27_event _ _ (Q := fun z => z = _) ⟨_, hy, rfl⟩ fun z e => by subst e; exact ⟨rfl, rfl⟩

def F_ref27_Valid_L1 (a_ : GEstate) (k43 : Int) (a44 : GAccess) (x42 : Unit) : Option (Fl Unit Bool) :=
  (F_ref27_event a_ a44).bind fun y52 => bif (!y52) then some (.ex false) else bif decide (0 < k43) then chk (in64 (k43 - 1)) (chk (inb (k43 - 1) a_.Events.length) (bif decide (a44.Time < (a_.Events.getD ((k43 - 1)).toNat default).Time) then some (.ex false) else some (.nx ()))) else some (.nx ())
def F_ref27_Valid (a_ : GEstate) : Option Bool :=
  (F_ref27_in a_.Places 1 16).bind fun y7 => grp (((!y7) || decide (120 < (a_.Events.length : Int)))) fun b8 => bif b8 then some false else (forL (F_ref27_Valid_L1 a_) a_.Events 0 ()).bind fun o => o.elim (fun x53 => some true) (fun r54 => some r54)

/- leakresponse/leakresponseref27.Valid -/
@[irreducible] def mg_ref27_Valid_1 : List MOp := [⟨.fad 1 (.t 1), (some 10), (some (9, false))⟩,
    ⟨.ld none (.t 10), (some 11), (some (9, false))⟩,
    ⟨.len false (.t 11), (some 12), (some (9, false))⟩,
    ⟨.bin false .gtr (.t 12) (.c (.int .i64 120)), (some 13), (some (9, false))⟩,
    ⟨.pick (.t 9) (.c (.bool true)) (.t 13), (some 14), none⟩]
@[irreducible] def mc_ref27_Valid_L1 : MC :=
  (.seq (.reg [⟨.bin false .lss (.t 18) (.t 17), (some 19), none⟩])
  (.seq (.cond (.t 19)
    .skip
    (.exit 0))
  (.seq (.block 1
  (.seq (.reg [⟨.mv (.t 18), (some 20), none⟩,
    ⟨.iad 7 (.t 16) (.t 18), (some 21), none⟩,
    ⟨.ld (some 7) (.t 21), (some 22), none⟩,
    ⟨.alloc [(.int .i64 0), (.int .i64 0), (.int .i64 0), (.int .i64 0), (.int .i64 0), (.int .i64 0), (.int .i64 0)], (some 4), none⟩,
    ⟨.mv (.t 20), (some 3), none⟩,
    ⟨.st 7 (.t 4) (.t 22), none, none⟩])
  (.seq (.regD [⟨.ld (some 2) (.t 1), (some 23), none⟩,
    ⟨.ld (some 7) (.t 4), (some 24), none⟩,
    ⟨.call (.f 46) [(.t 23), (.t 24)] [] [], (some 25), none⟩,
    ⟨.not (.t 25), (some 26), none⟩,
    ⟨.mv (.t 26), (some 27), none⟩,
    ⟨.mv (.t 3), (some 28), (some (27, false))⟩,
    ⟨.bin false .gtr (.t 28) (.c (.int .i64 0)), (some 29), (some (27, false))⟩,
    ⟨.mv (.t 29), (some 30), (some (27, false))⟩,
    ⟨.fad 0 (.t 4), (some 31), (some (30, true))⟩,
    ⟨.ld none (.t 31), (some 32), (some (30, true))⟩,
    ⟨.fad 1 (.t 1), (some 33), (some (30, true))⟩,
    ⟨.ld none (.t 33), (some 34), (some (30, true))⟩,
    ⟨.mv (.t 3), (some 35), (some (30, true))⟩,
    ⟨.bin true .sub (.t 35) (.c (.int .i64 1)), (some 36), (some (30, true))⟩,
    ⟨.iad 7 (.t 34) (.t 36), (some 37), (some (30, true))⟩,
    ⟨.fad 0 (.t 37), (some 38), (some (30, true))⟩,
    ⟨.ld none (.t 38), (some 39), (some (30, true))⟩,
    ⟨.bin false .lss (.t 32) (.t 39), (some 40), (some (30, true))⟩,
    ⟨.pick (.t 30) (.t 40) (.c (.bool false)), (some 41), (some (27, false))⟩,
    ⟨.pick (.t 27) (.c (.bool true)) (.t 41), (some 42), none⟩]
    [[], [], [0, 1], [2], [3, 2], [4], [5, 4], [6, 4, 4], [7], [8, 7], [7], [10, 7], [7], [12, 7], [11, 13, 7], [14, 7], [15, 7], [9, 16, 7], [7, 17, 4], [4, 18]]
    [[], [], [0, 1], [0, 1, 2], [0, 1, 2, 3], [0, 1, 2, 3, 4], [0, 1, 2, 3, 4, 5], [0, 1, 2, 3, 4, 5, 6], [0, 1, 2, 3, 4, 5, 6, 7], [0, 1, 2, 3, 4, 5, 6, 7, 8], [0, 1, 2, 3, 4, 5, 6, 7], [0, 1, 2, 3, 4, 5, 6, 7, 10], [0, 1, 2, 3, 4, 5, 6, 7], [0, 1, 2, 3, 4, 5, 6, 7, 12], [0, 1, 2, 3, 4, 5, 6, 7, 10, 11, 12, 13], [0, 1, 2, 3, 4, 5, 6, 7, 10, 11, 12, 13, 14], [0, 1, 2, 3, 4, 5, 6, 7, 10, 11, 12, 13, 14, 15], [0, 1, 2, 3, 4, 5, 6, 7, 8, 9, 10, 11, 12, 13, 14, 15, 16], [0, 1, 2, 3, 4, 5, 6, 7, 8, 9, 10, 11, 12, 13, 14, 15, 16, 17], [0, 1, 2, 3, 4, 5, 6, 7, 8, 9, 10, 11, 12, 13, 14, 15, 16, 17, 18]])
  (.cond (.t 42)
    (.seq (.reg [⟨.mv (.c (.bool false)), (some 2), none⟩])
    .ret)
    .skip))))
  (.reg [⟨.bin true .add (.t 18) (.c (.int .i64 1)), (some 43), none⟩,
    ⟨.mv (.t 43), (some 18), none⟩]))))
def mc_ref27_Valid : MC :=
  (.seq (.reg [⟨.box (.t 0), (some 1), none⟩,
    ⟨.mv (.c (.bool false)), (some 2), none⟩])
  (.seq (.seq (.regI [.op ⟨.fad 0 (.t 1), (some 5), none⟩,
    .op ⟨.ld none (.t 5), (some 6), none⟩,
    .op ⟨.call (.f 45) [(.t 6), (.c (.int .i64 1)), (.c (.int .i64 16))] [] [], (some 7), none⟩,
    .op ⟨.not (.t 7), (some 8), none⟩,
    .op ⟨.mv (.t 8), (some 9), none⟩,
    .grp mg_ref27_Valid_1])
  (.cond (.t 14)
    (.seq (.reg [⟨.mv (.c (.bool false)), (some 2), none⟩])
    .ret)
    .skip))
  (.seq (.seq (.note (.gc [1, 28, 29, 30, 31, 32, 33, 34, 35, 36, 37, 38, 39, 40, 41]) (.reg [⟨.fad 1 (.t 1), (some 15), none⟩,
    ⟨.ld none (.t 15), (some 16), none⟩,
    ⟨.len false (.t 16), (some 17), none⟩,
    ⟨.mv (.c (.int .i64 0)), (some 18), none⟩]))
  (.block 0
  (.loop mc_ref27_Valid_L1)))
  (.seq (.reg [⟨.mv (.c (.bool true)), (some 2), none⟩])
  .ret))))
theorem ok_ref27_Valid : mc_ref27_Valid.ok Try.prog Try.f36.ntmps (Try.f36.body.getD .skip) = true := by kernel_rfl

set_option maxHeartbeats 2000000 in
theorem Wq_ref27_Valid (a_ : GEstate) {Q : Bool → Prop} {Q' : V → Heap → Prop} (h : Ok (F_ref27_Valid a_) Q) (hQ : ∀ z, Q z → Q' (.bool z) []) : ACall Try.prog 36 [GEstate.v a_] [] Q' := by
  refine acall_machN [] [] [.t 2] Try.func36 rfl (by kernel_rfl) ok_ref27_Valid (by kernel_rfl) rfl rfl fun M hf => ?_
  clear hf
  unfold F_ref27_Valid at h
  unfold mc_ref27_Valid
  (try simp (maxSteps := 400000) only [go_sem, Nat.reduceBEq, Nat.reduceAdd, Nat.reduceLeDiff, Nat.reduceSub, Nat.reduceMul, Int.reduceToNat, Int.reduceLT, Int.reduceLE] at h)
  simp (maxSteps := 400000) only [go_sem, Nat.reduceBEq, Nat.reduceAdd, Nat.reduceLeDiff, Nat.reduceSub, Nat.reduceMul, Int.reduceToNat, Int.reduceLT, Int.reduceLE]
  repeat' (first
    | (exact hQ _ h)
    | (have hq := hQ _ h; simp (maxSteps := 400000) only [go_sem, Nat.reduceBEq, Nat.reduceAdd, Nat.reduceLeDiff, Nat.reduceSub, Nat.reduceMul, Int.reduceToNat, Int.reduceLT, Int.reduceLE] at hq; exact hq)
    | (refine oblg h ?_; clear h; intro hc h)
    | (refine fork h ?_ ?_ <;> clear h <;> intro hc h)
    | (refine forkS h ?_ ?_ <;> clear h <;> intro hc h)
    | (refine And.intro (chkD_of rfl) ?_)
    | (obtain ⟨y, hy, h⟩ := h; have hw := W_ref27_in hy; (try simp (maxSteps := 400000) only [go_sem, Nat.reduceBEq, Nat.reduceAdd, Nat.reduceLeDiff, Nat.reduceSub, Nat.reduceMul, Int.reduceToNat, Int.reduceLT, Int.reduceLE] at hw); refine sCall_of hw rfl rfl ?_; clear hw; clear hy; rw [M.lok_eq]; simp (maxSteps := 400000) only [go_sem, Nat.reduceBEq, Nat.reduceAdd, Nat.reduceLeDiff, Nat.reduceSub, Nat.reduceMul, Int.reduceToNat, Int.reduceLT, Int.reduceLE])
    | (obtain ⟨y, hy, h⟩ := h; have hw := W_ref27_in hy; (try simp (maxSteps := 400000) only [go_sem, Nat.reduceBEq, Nat.reduceAdd, Nat.reduceLeDiff, Nat.reduceSub, Nat.reduceMul, Int.reduceToNat, Int.reduceLT, Int.reduceLE] at hw); refine sCallD_of hw rfl rfl ?_; clear hw; clear hy; rw [M.lokD_eq]; simp (maxSteps := 400000) only [go_sem, Nat.reduceBEq, Nat.reduceAdd, Nat.reduceLeDiff, Nat.reduceSub, Nat.reduceMul, Int.reduceToNat, Int.reduceLT, Int.reduceLE])
    | (obtain ⟨y, hy, h⟩ := h; have hw := W_ref27_event hy; (try simp (maxSteps := 400000) only [go_sem, Nat.reduceBEq, Nat.reduceAdd, Nat.reduceLeDiff, Nat.reduceSub, Nat.reduceMul, Int.reduceToNat, Int.reduceLT, Int.reduceLE] at hw); refine sCall_of hw rfl rfl ?_; clear hw; clear hy; rw [M.lok_eq]; simp (maxSteps := 400000) only [go_sem, Nat.reduceBEq, Nat.reduceAdd, Nat.reduceLeDiff, Nat.reduceSub, Nat.reduceMul, Int.reduceToNat, Int.reduceLT, Int.reduceLE])
    | (obtain ⟨y, hy, h⟩ := h; have hw := W_ref27_event hy; (try simp (maxSteps := 400000) only [go_sem, Nat.reduceBEq, Nat.reduceAdd, Nat.reduceLeDiff, Nat.reduceSub, Nat.reduceMul, Int.reduceToNat, Int.reduceLT, Int.reduceLE] at hw); refine sCallD_of hw rfl rfl ?_; clear hw; clear hy; rw [M.lokD_eq]; simp (maxSteps := 400000) only [go_sem, Nat.reduceBEq, Nat.reduceAdd, Nat.reduceLeDiff, Nat.reduceSub, Nat.reduceMul, Int.reduceToNat, Int.reduceLT, Int.reduceLE])
    | (refine M.for1 (b := mc_ref27_Valid_L1) 18 [1, 16, 17] [1] (fun x => []) (fun x => []) [] h ?_ ?_ ?_ <;> first
       | (clear h; intro k a x Qn K hK1 hkN1 ha1 h hf; have hl := fact_int (factsE_find (n := 17) hf.1 rfl); clear hf; have hkd := decide_eq_true (Int.ofNat_lt.2 hkN1); have hkB1 := inb_iff.2 ⟨Int.natCast_nonneg k, Int.ofNat_lt.2 hkN1⟩; have hkI1 : in64 ((k : Int) + 1) = true := in64_iff.2 ⟨by omega, by (try simp only [List.length_cons, List.length_nil] at hkN1); omega⟩; unfold F_ref27_Valid_L1 at h; unfold mc_ref27_Valid_L1; (try simp (maxSteps := 400000) only [go_sem, Nat.reduceBEq, Nat.reduceAdd, Nat.reduceLeDiff, Nat.reduceSub, Nat.reduceMul, Int.reduceToNat, Int.reduceLT, Int.reduceLE] at h); simp only [go_sem, Nat.reduceBEq, Nat.reduceAdd, Nat.reduceLeDiff, Nat.reduceSub, Nat.reduceMul, Int.reduceToNat, Int.reduceLT, Int.reduceLE, ha1, hkd, hkN1, hkB1, hkI1])
       | (clear h; intro x K h; replace h := And.left (And.intro h trivial); unfold mc_ref27_Valid_L1; (try simp (maxSteps := 400000) only [go_sem, Nat.reduceBEq, Nat.reduceAdd, Nat.reduceLeDiff, Nat.reduceSub, Nat.reduceMul, Int.reduceToNat, Int.reduceLT, Int.reduceLE] at h); simp (maxSteps := 400000) only [go_sem, Nat.reduceBEq, Nat.reduceAdd, Nat.reduceLeDiff, Nat.reduceSub, Nat.reduceMul, Int.reduceToNat, Int.reduceLT, Int.reduceLE])
       | (clear h; (try simp only [go_sem, Nat.reduceBEq, Nat.reduceAdd, Nat.reduceLeDiff, Nat.reduceSub, Nat.reduceMul, Int.reduceToNat, Int.reduceLT, Int.reduceLE]); (refine ⟨?_, ?_, ?_⟩ <;> (try simp only [go_sem, Nat.reduceBEq, Nat.reduceAdd, Nat.reduceLeDiff, Nat.reduceSub, Nat.reduceMul, Int.reduceToNat, Int.reduceLT, Int.reduceLE, St.good, noAny, distinct, SubSt, subE, subHp]) <;> (repeat' (first | exact trivial | rfl | apply And.intro | (simp; done)))); done)
       | fail)
    | (refine M.gv1 (ms := mg_ref27_Valid_1) 14 [10, 11, 12, 13] h ?_ ?_ <;> first
       | (clear h; intro K hK2; unfold mg_ref27_Valid_1; simp (maxSteps := 400000) only [go_sem, Nat.reduceBEq, Nat.reduceAdd, Nat.reduceLeDiff, Nat.reduceSub, Nat.reduceMul, Int.reduceToNat, Int.reduceLT, Int.reduceLE])
       | (clear h; intro b h; (try simp (maxSteps := 400000) only [go_sem, Nat.reduceBEq, Nat.reduceAdd, Nat.reduceLeDiff, Nat.reduceSub, Nat.reduceMul, Int.reduceToNat, Int.reduceLT, Int.reduceLE] at h); simp (maxSteps := 400000) only [go_sem, Nat.reduceBEq, Nat.reduceAdd, Nat.reduceLeDiff, Nat.reduceSub, Nat.reduceMul, Int.reduceToNat, Int.reduceLT, Int.reduceLE])
       | fail)
    | (refine And.intro hkI1 ?_)
    | (refine And.intro hkN1 ?_)
    | (refine And.intro hkB1 ?_)
    | (simp only [ha1])
    | (refine hK1 _ ?_; (try simp only [go_sem, Nat.reduceBEq, Nat.reduceAdd, Nat.reduceLeDiff, Nat.reduceSub, Nat.reduceMul, Int.reduceToNat, Int.reduceLT, Int.reduceLE]); refine ⟨_, h, ?_⟩; (refine ⟨?_, ?_, ?_⟩ <;> (try simp only [go_sem, Nat.reduceBEq, Nat.reduceAdd, Nat.reduceLeDiff, Nat.reduceSub, Nat.reduceMul, Int.reduceToNat, Int.reduceLT, Int.reduceLE, St.good, noAny, distinct, SubSt, subE, subHp]) <;> (repeat' (first | exact trivial | rfl | apply And.intro | (simp; done)))); done)
    | (refine hK2 _ ?_; (refine ⟨?_, ?_, ?_⟩ <;> (try simp only [go_sem, Nat.reduceBEq, Nat.reduceAdd, Nat.reduceLeDiff, Nat.reduceSub, Nat.reduceMul, Int.reduceToNat, Int.reduceLT, Int.reduceLE, St.good, noAny, distinct, SubSt, subE, subHp, *]) <;> (repeat' (first | exact trivial | rfl | apply And.intro | (simp [*]; done)))); done)
    | (refine bfork (fun hc => ?_) (fun hc => ?_))
    | (refine ⟨_, getE_map (inb_toNat (by assumption)), ?_⟩; (first | rw [M.lok_compU] | rw [M.lokD_compU]); simp (maxSteps := 400000) only [go_sem, Nat.reduceBEq, Nat.reduceAdd, Nat.reduceLeDiff, Nat.reduceSub, Nat.reduceMul, Int.reduceToNat, Int.reduceLT, Int.reduceLE])
    | (refine And.intro (ltb_of (by assumption)) ?_)
    | fail)
theorem W_ref27_Valid : ∀ {a_ : GEstate} {y : Bool}, F_ref27_Valid a_ = some y → ACall Try.prog 36 [GEstate.v a_] [] (fun r H => r = .bool y ∧ H = []) :=
  fun hy => Wq_ref27_Valid _ (Q := fun z => z = _) ⟨_, hy, rfl⟩ fun z e => by subst e; exact ⟨rfl, rfl⟩

def F_ref27_Check (a_ : GEstate) : Option Int :=
  (F_ref27_Valid a_).bind fun y4 => bif (!y4) then some 34 else some 0

/- leakresponse/leakresponseref27.Check -/
def mc_ref27_Check : MC :=
  (.seq (.reg [⟨.box (.t 0), (some 1), none⟩,
    ⟨.mv (.c (.int .i64 0)), (some 2), none⟩])
  (.seq (.seq (.reg [⟨.ld (some 2) (.t 1), (some 3), none⟩,
    ⟨.call (.f 36) [(.t 3)] [] [], (some 4), none⟩,
    ⟨.not (.t 4), (some 5), none⟩])
  (.cond (.t 5)
    (.seq (.reg [⟨.mv (.c (.int .i64 34)), (some 2), none⟩])
    .ret)
    .skip))
  (.seq (.reg [⟨.mv (.c (.int .i64 0)), (some 2), none⟩])
  .ret)))
theorem ok_ref27_Check : mc_ref27_Check.ok Try.prog Try.f21.ntmps (Try.f21.body.getD .skip) = true := by kernel_rfl

set_option maxHeartbeats 2000000 in
theorem Wq_ref27_Check (a_ : GEstate) {Q : Int → Prop} {Q' : V → Heap → Prop} (h : Ok (F_ref27_Check a_) Q) (hQ : ∀ z, Q z → Q' (.int .i64 z) []) : ACall Try.prog 21 [GEstate.v a_] [] Q' := by
  refine acall_machN [] [] [.t 2] Try.func21 rfl (by kernel_rfl) ok_ref27_Check (by kernel_rfl) rfl rfl fun M hf => ?_
  clear hf
  unfold F_ref27_Check at h
  unfold mc_ref27_Check
  (try simp (maxSteps := 400000) only [go_sem, Nat.reduceBEq, Nat.reduceAdd, Nat.reduceLeDiff, Nat.reduceSub, Nat.reduceMul, Int.reduceToNat, Int.reduceLT, Int.reduceLE] at h)
  simp (maxSteps := 400000) only [go_sem, Nat.reduceBEq, Nat.reduceAdd, Nat.reduceLeDiff, Nat.reduceSub, Nat.reduceMul, Int.reduceToNat, Int.reduceLT, Int.reduceLE]
  repeat' (first
    | (exact hQ _ h)
    | (have hq := hQ _ h; simp (maxSteps := 400000) only [go_sem, Nat.reduceBEq, Nat.reduceAdd, Nat.reduceLeDiff, Nat.reduceSub, Nat.reduceMul, Int.reduceToNat, Int.reduceLT, Int.reduceLE] at hq; exact hq)
    | (refine oblg h ?_; clear h; intro hc h)
    | (refine fork h ?_ ?_ <;> clear h <;> intro hc h)
    | (refine forkS h ?_ ?_ <;> clear h <;> intro hc h)
    | (refine And.intro (chkD_of rfl) ?_)
    | (obtain ⟨y, hy, h⟩ := h; have hw := W_ref27_Valid hy; (try simp (maxSteps := 400000) only [go_sem, Nat.reduceBEq, Nat.reduceAdd, Nat.reduceLeDiff, Nat.reduceSub, Nat.reduceMul, Int.reduceToNat, Int.reduceLT, Int.reduceLE] at hw); refine sCall_of hw rfl rfl ?_; clear hw; clear hy; rw [M.lok_eq]; simp (maxSteps := 400000) only [go_sem, Nat.reduceBEq, Nat.reduceAdd, Nat.reduceLeDiff, Nat.reduceSub, Nat.reduceMul, Int.reduceToNat, Int.reduceLT, Int.reduceLE])
    | (obtain ⟨y, hy, h⟩ := h; have hw := W_ref27_Valid hy; (try simp (maxSteps := 400000) only [go_sem, Nat.reduceBEq, Nat.reduceAdd, Nat.reduceLeDiff, Nat.reduceSub, Nat.reduceMul, Int.reduceToNat, Int.reduceLT, Int.reduceLE] at hw); refine sCallD_of hw rfl rfl ?_; clear hw; clear hy; rw [M.lokD_eq]; simp (maxSteps := 400000) only [go_sem, Nat.reduceBEq, Nat.reduceAdd, Nat.reduceLeDiff, Nat.reduceSub, Nat.reduceMul, Int.reduceToNat, Int.reduceLT, Int.reduceLE])
    | (refine ⟨_, getE_map (inb_toNat (by assumption)), ?_⟩; (first | rw [M.lok_compU] | rw [M.lokD_compU]); simp (maxSteps := 400000) only [go_sem, Nat.reduceBEq, Nat.reduceAdd, Nat.reduceLeDiff, Nat.reduceSub, Nat.reduceMul, Int.reduceToNat, Int.reduceLT, Int.reduceLE])
    | (refine And.intro (ltb_of (by assumption)) ?_)
    | fail)
theorem W_ref27_Check : ∀ {a_ : GEstate} {y : Int}, F_ref27_Check a_ = some y → ACall Try.prog 21 [GEstate.v a_] [] (fun r H => r = .int .i64 y ∧ H = []) :=
  fun hy => Wq_ref27_Check _ (Q := fun z => z = _) ⟨_, hy, rfl⟩ fun z e => by subst e; exact ⟨rfl, rfl⟩

def F_ref27_Times_L1 (k36 : Int) (a37 : GAccess) (x35 : List Int) : Option (List Int) :=
  jn (α := Bool) (bif decide ((x35.length : Int) = 0) then some true else chk (in64 ((x35.length : Int) - 1)) (chk (inb ((x35.length : Int) - 1) x35.length) (some (!decide (x35.getD ((((x35.length : Int) - 1)).toNat) default = a37.Time))))) fun j41 => bif j41 then chk (room (x35.length + [a37.Time].length) 8) (some (x35 ++ [a37.Time])) else some x35
def F_ref27_Times (a_ : GEstate) : Option (List Int) :=
  (F_ref27_Valid a_).bind fun y4 => bif (!y4) then some [] else (foldL F_ref27_Times_L1 a_.Events 0 []).bind fun x42 => some x42

/- leakresponse/leakresponseref27.Times -/
@[irreducible] def mc_ref27_Times_J1 : MC :=
  (.cond (.t 29)
    (.reg [⟨.mv (.t 3), (some 30), none⟩,
      ⟨.fad 0 (.t 5), (some 31), none⟩,
      ⟨.ld none (.t 31), (some 32), none⟩,
      ⟨.bslice 1 [(.t 32)], (some 33), none⟩,
      ⟨.app 1 8 (.t 30) (.t 33), (some 34), none⟩,
      ⟨.mv (.t 34), (some 3), none⟩])
    .skip)
@[irreducible] def mc_ref27_Times_L1 : MC :=
  (.seq (.reg [⟨.bin false .lss (.t 12) (.t 11), (some 13), none⟩])
  (.seq (.cond (.t 13)
    .skip
    (.exit 0))
  (.seq (.block 1
  (.seq (.reg [⟨.iad 7 (.t 10) (.t 12), (some 14), none⟩,
    ⟨.ld (some 7) (.t 14), (some 15), none⟩,
    ⟨.alloc [(.int .i64 0), (.int .i64 0), (.int .i64 0), (.int .i64 0), (.int .i64 0), (.int .i64 0), (.int .i64 0)], (some 5), none⟩,
    ⟨.st 7 (.t 5) (.t 15), none, none⟩])
  (.cut (.regD [⟨.mv (.t 3), (some 16), none⟩,
    ⟨.len false (.t 16), (some 17), none⟩,
    ⟨.bin false .eql (.t 17) (.c (.int .i64 0)), (some 18), none⟩,
    ⟨.mv (.t 18), (some 19), none⟩,
    ⟨.mv (.t 3), (some 20), (some (19, false))⟩,
    ⟨.mv (.t 3), (some 21), (some (19, false))⟩,
    ⟨.len false (.t 21), (some 22), (some (19, false))⟩,
    ⟨.bin true .sub (.t 22) (.c (.int .i64 1)), (some 23), (some (19, false))⟩,
    ⟨.iad 1 (.t 20) (.t 23), (some 24), (some (19, false))⟩,
    ⟨.ld none (.t 24), (some 25), (some (19, false))⟩,
    ⟨.fad 0 (.t 5), (some 26), (some (19, false))⟩,
    ⟨.ld none (.t 26), (some 27), (some (19, false))⟩,
    ⟨.bin false .neq (.t 25) (.t 27), (some 28), (some (19, false))⟩,
    ⟨.pick (.t 19) (.c (.bool true)) (.t 28), (some 29), none⟩]
    [[], [0], [1], [2], [3], [3], [5, 3], [6, 3], [4, 7, 3], [8, 3], [3], [10, 3], [9, 11, 3], [3, 12]]
    [[], [0], [0, 1], [0, 1, 2], [0, 1, 2, 3], [0, 1, 2, 3], [0, 1, 2, 3, 5], [0, 1, 2, 3, 5, 6], [0, 1, 2, 3, 4, 5, 6, 7], [0, 1, 2, 3, 4, 5, 6, 7, 8], [0, 1, 2, 3], [0, 1, 2, 3, 10], [0, 1, 2, 3, 4, 5, 6, 7, 8, 9, 10, 11], [0, 1, 2, 3, 4, 5, 6, 7, 8, 9, 10, 11, 12]])
  mc_ref27_Times_J1)))
  (.reg [⟨.bin true .add (.t 12) (.c (.int .i64 1)), (some 35), none⟩,
    ⟨.mv (.t 35), (some 12), none⟩]))))
def mc_ref27_Times : MC :=
  (.seq (.reg [⟨.box (.t 0), (some 1), none⟩,
    ⟨.mv (.c (.sl [])), (some 2), none⟩])
  (.seq (.seq (.reg [⟨.ld (some 2) (.t 1), (some 6), none⟩,
    ⟨.call (.f 36) [(.t 6)] [] [], (some 7), none⟩,
    ⟨.not (.t 7), (some 8), none⟩])
  (.cond (.t 8)
    (.seq (.reg [⟨.mv (.c (.sl [])), (some 2), none⟩])
    .ret)
    .skip))
  (.seq (.reg [⟨.mv (.c .nils), (some 3), none⟩])
  (.seq (.seq (.reg [⟨.fad 1 (.t 1), (some 9), none⟩,
    ⟨.ld none (.t 9), (some 10), none⟩,
    ⟨.len false (.t 10), (some 11), none⟩,
    ⟨.mv (.c (.int .i64 0)), (some 12), none⟩])
  (.block 0
  (.loop mc_ref27_Times_L1)))
  (.seq (.reg [⟨.mv (.t 3), (some 36), none⟩,
    ⟨.mv (.t 36), (some 2), none⟩])
  .ret)))))
theorem ok_ref27_Times : mc_ref27_Times.ok Try.prog Try.f22.ntmps (Try.f22.body.getD .skip) = true := by kernel_rfl

set_option maxHeartbeats 2000000 in
theorem Wq_ref27_Times (a_ : GEstate) {Q : List Int → Prop} {Q' : V → Heap → Prop} (h : Ok (F_ref27_Times a_) Q) (hQ : ∀ z, Q z → Q' (.sl (z.map (V.int .i64))) []) : ACall Try.prog 22 [GEstate.v a_] [] Q' := by
  refine acall_machN [.fz 2] [] [.t 2] Try.func22 rfl (by kernel_rfl) ok_ref27_Times (by kernel_rfl) rfl rfl fun M hf => ?_
  clear hf
  unfold F_ref27_Times at h
  unfold mc_ref27_Times
  (try simp (maxSteps := 400000) only [go_sem, Nat.reduceBEq, Nat.reduceAdd, Nat.reduceLeDiff, Nat.reduceSub, Nat.reduceMul, Int.reduceToNat, Int.reduceLT, Int.reduceLE] at h)
  simp (maxSteps := 400000) only [go_sem, Nat.reduceBEq, Nat.reduceAdd, Nat.reduceLeDiff, Nat.reduceSub, Nat.reduceMul, Int.reduceToNat, Int.reduceLT, Int.reduceLE]
  repeat' (first
    | (exact hQ _ h)
    | (have hq := hQ _ h; simp (maxSteps := 400000) only [go_sem, Nat.reduceBEq, Nat.reduceAdd, Nat.reduceLeDiff, Nat.reduceSub, Nat.reduceMul, Int.reduceToNat, Int.reduceLT, Int.reduceLE] at hq; exact hq)
    | (refine oblg h ?_; clear h; intro hc h)
    | (refine fork h ?_ ?_ <;> clear h <;> intro hc h)
    | (refine forkS h ?_ ?_ <;> clear h <;> intro hc h)
    | (refine And.intro (chkD_of rfl) ?_)
    | (obtain ⟨y, hy, h⟩ := h; have hw := W_ref27_Valid hy; (try simp (maxSteps := 400000) only [go_sem, Nat.reduceBEq, Nat.reduceAdd, Nat.reduceLeDiff, Nat.reduceSub, Nat.reduceMul, Int.reduceToNat, Int.reduceLT, Int.reduceLE] at hw); refine sCall_of hw rfl rfl ?_; clear hw; clear hy; rw [M.lok_eq]; simp (maxSteps := 400000) only [go_sem, Nat.reduceBEq, Nat.reduceAdd, Nat.reduceLeDiff, Nat.reduceSub, Nat.reduceMul, Int.reduceToNat, Int.reduceLT, Int.reduceLE])
    | (obtain ⟨y, hy, h⟩ := h; have hw := W_ref27_Valid hy; (try simp (maxSteps := 400000) only [go_sem, Nat.reduceBEq, Nat.reduceAdd, Nat.reduceLeDiff, Nat.reduceSub, Nat.reduceMul, Int.reduceToNat, Int.reduceLT, Int.reduceLE] at hw); refine sCallD_of hw rfl rfl ?_; clear hw; clear hy; rw [M.lokD_eq]; simp (maxSteps := 400000) only [go_sem, Nat.reduceBEq, Nat.reduceAdd, Nat.reduceLeDiff, Nat.reduceSub, Nat.reduceMul, Int.reduceToNat, Int.reduceLT, Int.reduceLE])
    | (refine M.jn1 (b := mc_ref27_Times_J1) [3, 5, 10, 11, 12] [5, 2003] (fun y => [(29, .bool y)]) (fun y => []) [] h ?_ ?_ <;> first
       | (clear h; intro Qn K hK1 h; (try simp (maxSteps := 400000) only [go_sem, Nat.reduceBEq, Nat.reduceAdd, Nat.reduceLeDiff, Nat.reduceSub, Nat.reduceMul, Int.reduceToNat, Int.reduceLT, Int.reduceLE] at h); simp (maxSteps := 400000) only [go_sem, Nat.reduceBEq, Nat.reduceAdd, Nat.reduceLeDiff, Nat.reduceSub, Nat.reduceMul, Int.reduceToNat, Int.reduceLT, Int.reduceLE])
       | (clear h; intro y h; unfold mc_ref27_Times_J1; (try simp (maxSteps := 400000) only [go_sem, Nat.reduceBEq, Nat.reduceAdd, Nat.reduceLeDiff, Nat.reduceSub, Nat.reduceMul, Int.reduceToNat, Int.reduceLT, Int.reduceLE] at h); simp (maxSteps := 400000) only [go_sem, Nat.reduceBEq, Nat.reduceAdd, Nat.reduceLeDiff, Nat.reduceSub, Nat.reduceMul, Int.reduceToNat, Int.reduceLT, Int.reduceLE])
       | fail)
    | (refine M.fold1 (b := mc_ref27_Times_L1) 12 [10, 11] [] (fun x => [(3, .osl 2003 1 0 x.length)]) (fun x => [.o 2003 (.arr 1 (x.map (V.int .i64)))]) [.gc [3, 10, 11, 12], .acc 3 2003 1] h ?_ ?_ ?_ <;> first
       | (clear h; intro k a x Qn K hK2 hkN2 ha2 h hf; have hl := fact_int (factsE_find (n := 11) hf.1 rfl); clear hf; have hkd := decide_eq_true (Int.ofNat_lt.2 hkN2); have hkB2 := inb_iff.2 ⟨Int.natCast_nonneg k, Int.ofNat_lt.2 hkN2⟩; have hkI2 : in64 ((k : Int) + 1) = true := in64_iff.2 ⟨by omega, by (try simp only [List.length_cons, List.length_nil] at hkN2); omega⟩; unfold F_ref27_Times_L1 at h; unfold mc_ref27_Times_L1; (try simp (maxSteps := 400000) only [go_sem, Nat.reduceBEq, Nat.reduceAdd, Nat.reduceLeDiff, Nat.reduceSub, Nat.reduceMul, Int.reduceToNat, Int.reduceLT, Int.reduceLE] at h); simp only [go_sem, Nat.reduceBEq, Nat.reduceAdd, Nat.reduceLeDiff, Nat.reduceSub, Nat.reduceMul, Int.reduceToNat, Int.reduceLT, Int.reduceLE, ha2, hkd, hkN2, hkB2, hkI2])
       | (clear h; intro x K h; replace h := And.left (And.intro h trivial); unfold mc_ref27_Times_L1; (try simp (maxSteps := 400000) only [go_sem, Nat.reduceBEq, Nat.reduceAdd, Nat.reduceLeDiff, Nat.reduceSub, Nat.reduceMul, Int.reduceToNat, Int.reduceLT, Int.reduceLE] at h); simp (maxSteps := 400000) only [go_sem, Nat.reduceBEq, Nat.reduceAdd, Nat.reduceLeDiff, Nat.reduceSub, Nat.reduceMul, Int.reduceToNat, Int.reduceLT, Int.reduceLE])
       | (clear h; (try simp only [go_sem, Nat.reduceBEq, Nat.reduceAdd, Nat.reduceLeDiff, Nat.reduceSub, Nat.reduceMul, Int.reduceToNat, Int.reduceLT, Int.reduceLE]); (refine ⟨?_, ?_, ?_⟩ <;> (try simp only [go_sem, Nat.reduceBEq, Nat.reduceAdd, Nat.reduceLeDiff, Nat.reduceSub, Nat.reduceMul, Int.reduceToNat, Int.reduceLT, Int.reduceLE, St.good, noAny, distinct, SubSt, subE, subHp]) <;> (repeat' (first | exact trivial | rfl | apply And.intro | (simp; done)))); done)
       | fail)
    | (refine And.intro hkI2 ?_)
    | (refine And.intro hkN2 ?_)
    | (refine And.intro hkB2 ?_)
    | (simp only [ha2])
    | (refine hK1 _ ?_; (try simp only [go_sem, Nat.reduceBEq, Nat.reduceAdd, Nat.reduceLeDiff, Nat.reduceSub, Nat.reduceMul, Int.reduceToNat, Int.reduceLT, Int.reduceLE]); refine ⟨_, h, ?_⟩; (refine ⟨?_, ?_, ?_⟩ <;> (try simp only [go_sem, Nat.reduceBEq, Nat.reduceAdd, Nat.reduceLeDiff, Nat.reduceSub, Nat.reduceMul, Int.reduceToNat, Int.reduceLT, Int.reduceLE, St.good, noAny, distinct, SubSt, subE, subHp]) <;> (repeat' (first | exact trivial | rfl | apply And.intro | (simp; done)))); done)
    | (refine hK2 _ ?_; (try simp only [go_sem, Nat.reduceBEq, Nat.reduceAdd, Nat.reduceLeDiff, Nat.reduceSub, Nat.reduceMul, Int.reduceToNat, Int.reduceLT, Int.reduceLE]); refine ⟨_, h, ?_⟩; (refine ⟨?_, ?_, ?_⟩ <;> (try simp only [go_sem, Nat.reduceBEq, Nat.reduceAdd, Nat.reduceLeDiff, Nat.reduceSub, Nat.reduceMul, Int.reduceToNat, Int.reduceLT, Int.reduceLE, St.good, noAny, distinct, SubSt, subE, subHp]) <;> (repeat' (first | exact trivial | rfl | apply And.intro | (simp; done)))); done)
    | (refine ⟨_, getE_map (inb_toNat (by assumption)), ?_⟩; (first | rw [M.lok_compU] | rw [M.lokD_compU]); simp (maxSteps := 400000) only [go_sem, Nat.reduceBEq, Nat.reduceAdd, Nat.reduceLeDiff, Nat.reduceSub, Nat.reduceMul, Int.reduceToNat, Int.reduceLT, Int.reduceLE])
    | (refine And.intro (ltb_of (by assumption)) ?_)
    | fail)
theorem W_ref27_Times : ∀ {a_ : GEstate} {y : List Int}, F_ref27_Times a_ = some y → ACall Try.prog 22 [GEstate.v a_] [] (fun r H => r = .sl (y.map (V.int .i64)) ∧ H = []) :=
  fun hy => Wq_ref27_Times _ (Q := fun z => z = _) ⟨_, hy, rfl⟩ fun z e => by subst e; exact ⟨rfl, rfl⟩

def F_ref27_Place (a_ : GEstate) (place_ : Int) : Option Bool :=
  (F_ref27_Valid a_).bind fun y5 => jn (α := Bool) (bif y5 then chk (in64 (a_.Places - 1)) ((F_ref27_in place_ 0 (a_.Places - 1)).bind fun y7 => some y7) else some false) fun j8 => some j8

/- leakresponse/leakresponseref27.Place -/
@[irreducible] def mg_ref27_Place_1 : List MOp := [⟨.mv (.t 1), (some 8), (some (7, true))⟩,
    ⟨.fad 0 (.t 2), (some 9), (some (7, true))⟩,
    ⟨.ld none (.t 9), (some 10), (some (7, true))⟩,
    ⟨.bin true .sub (.t 10) (.c (.int .i64 1)), (some 11), (some (7, true))⟩,
    ⟨.call (.f 45) [(.t 8), (.c (.int .i64 0)), (.t 11)] [] [], (some 12), (some (7, true))⟩,
    ⟨.pick (.t 7) (.t 12) (.c (.bool false)), (some 13), none⟩]
def mc_ref27_Place : MC :=
  (.seq (.reg [⟨.box (.t 0), (some 2), none⟩,
    ⟨.mv (.c (.bool false)), (some 4), none⟩])
  (.seq (.regI [.op ⟨.ld (some 2) (.t 2), (some 5), none⟩,
    .op ⟨.call (.f 36) [(.t 5)] [] [], (some 6), none⟩,
    .op ⟨.mv (.t 6), (some 7), none⟩,
    .grp mg_ref27_Place_1,
    .op ⟨.mv (.t 13), (some 4), none⟩])
  .ret))
theorem ok_ref27_Place : mc_ref27_Place.ok Try.prog Try.f37.ntmps (Try.f37.body.getD .skip) = true := by kernel_rfl

set_option maxHeartbeats 2000000 in
theorem Wq_ref27_Place (a_ : GEstate) (place_ : Int) {Q : Bool → Prop} {Q' : V → Heap → Prop} (h : Ok (F_ref27_Place a_ place_) Q) (hQ : ∀ z, Q z → Q' (.bool z) []) : ACall Try.prog 37 [GEstate.v a_, .int .i64 place_] [] Q' := by
  refine acall_machN [] [] [.t 4] Try.func37 rfl (by kernel_rfl) ok_ref27_Place (by kernel_rfl) rfl rfl fun M hf => ?_
  clear hf
  unfold F_ref27_Place at h
  unfold mc_ref27_Place
  (try simp (maxSteps := 400000) only [go_sem, Nat.reduceBEq, Nat.reduceAdd, Nat.reduceLeDiff, Nat.reduceSub, Nat.reduceMul, Int.reduceToNat, Int.reduceLT, Int.reduceLE] at h)
  simp (maxSteps := 400000) only [go_sem, Nat.reduceBEq, Nat.reduceAdd, Nat.reduceLeDiff, Nat.reduceSub, Nat.reduceMul, Int.reduceToNat, Int.reduceLT, Int.reduceLE]
  repeat' (first
    | (exact hQ _ h)
    | (have hq := hQ _ h; simp (maxSteps := 400000) only [go_sem, Nat.reduceBEq, Nat.reduceAdd, Nat.reduceLeDiff, Nat.reduceSub, Nat.reduceMul, Int.reduceToNat, Int.reduceLT, Int.reduceLE] at hq; exact hq)
    | (refine oblg h ?_; clear h; intro hc h)
    | (refine fork h ?_ ?_ <;> clear h <;> intro hc h)
    | (refine forkS h ?_ ?_ <;> clear h <;> intro hc h)
    | (refine And.intro (chkD_of rfl) ?_)
    | (obtain ⟨y, hy, h⟩ := h; have hw := W_ref27_Valid hy; (try simp (maxSteps := 400000) only [go_sem, Nat.reduceBEq, Nat.reduceAdd, Nat.reduceLeDiff, Nat.reduceSub, Nat.reduceMul, Int.reduceToNat, Int.reduceLT, Int.reduceLE] at hw); refine sCall_of hw rfl rfl ?_; clear hw; clear hy; rw [M.lok_eq]; simp (maxSteps := 400000) only [go_sem, Nat.reduceBEq, Nat.reduceAdd, Nat.reduceLeDiff, Nat.reduceSub, Nat.reduceMul, Int.reduceToNat, Int.reduceLT, Int.reduceLE])
    | (obtain ⟨y, hy, h⟩ := h; have hw := W_ref27_Valid hy; (try simp (maxSteps := 400000) only [go_sem, Nat.reduceBEq, Nat.reduceAdd, Nat.reduceLeDiff, Nat.reduceSub, Nat.reduceMul, Int.reduceToNat, Int.reduceLT, Int.reduceLE] at hw); refine sCallD_of hw rfl rfl ?_; clear hw; clear hy; rw [M.lokD_eq]; simp (maxSteps := 400000) only [go_sem, Nat.reduceBEq, Nat.reduceAdd, Nat.reduceLeDiff, Nat.reduceSub, Nat.reduceMul, Int.reduceToNat, Int.reduceLT, Int.reduceLE])
    | (obtain ⟨y, hy, h⟩ := h; have hw := W_ref27_in hy; (try simp (maxSteps := 400000) only [go_sem, Nat.reduceBEq, Nat.reduceAdd, Nat.reduceLeDiff, Nat.reduceSub, Nat.reduceMul, Int.reduceToNat, Int.reduceLT, Int.reduceLE] at hw); refine sCall_of hw rfl rfl ?_; clear hw; clear hy; rw [M.lok_eq]; simp (maxSteps := 400000) only [go_sem, Nat.reduceBEq, Nat.reduceAdd, Nat.reduceLeDiff, Nat.reduceSub, Nat.reduceMul, Int.reduceToNat, Int.reduceLT, Int.reduceLE])
    | (obtain ⟨y, hy, h⟩ := h; have hw := W_ref27_in hy; (try simp (maxSteps := 400000) only [go_sem, Nat.reduceBEq, Nat.reduceAdd, Nat.reduceLeDiff, Nat.reduceSub, Nat.reduceMul, Int.reduceToNat, Int.reduceLT, Int.reduceLE] at hw); refine sCallD_of hw rfl rfl ?_; clear hw; clear hy; rw [M.lokD_eq]; simp (maxSteps := 400000) only [go_sem, Nat.reduceBEq, Nat.reduceAdd, Nat.reduceLeDiff, Nat.reduceSub, Nat.reduceMul, Int.reduceToNat, Int.reduceLT, Int.reduceLE])
    | (refine M.gj1 (ms := mg_ref27_Place_1) [4] [] (fun y => [(13, .bool y)]) (fun y => []) h ?_ ?_ <;> first
       | (clear h; intro Qn K hK1 h; unfold mg_ref27_Place_1; (try simp (maxSteps := 400000) only [go_sem, Nat.reduceBEq, Nat.reduceAdd, Nat.reduceLeDiff, Nat.reduceSub, Nat.reduceMul, Int.reduceToNat, Int.reduceLT, Int.reduceLE] at h); simp (maxSteps := 400000) only [go_sem, Nat.reduceBEq, Nat.reduceAdd, Nat.reduceLeDiff, Nat.reduceSub, Nat.reduceMul, Int.reduceToNat, Int.reduceLT, Int.reduceLE])
       | (clear h; intro y h; (try simp (maxSteps := 400000) only [go_sem, Nat.reduceBEq, Nat.reduceAdd, Nat.reduceLeDiff, Nat.reduceSub, Nat.reduceMul, Int.reduceToNat, Int.reduceLT, Int.reduceLE] at h); simp (maxSteps := 400000) only [go_sem, Nat.reduceBEq, Nat.reduceAdd, Nat.reduceLeDiff, Nat.reduceSub, Nat.reduceMul, Int.reduceToNat, Int.reduceLT, Int.reduceLE])
       | fail)
    | (refine hK1 _ ?_; (try simp only [go_sem, Nat.reduceBEq, Nat.reduceAdd, Nat.reduceLeDiff, Nat.reduceSub, Nat.reduceMul, Int.reduceToNat, Int.reduceLT, Int.reduceLE]); refine ⟨_, h, ?_⟩; (refine ⟨?_, ?_, ?_⟩ <;> (try simp only [go_sem, Nat.reduceBEq, Nat.reduceAdd, Nat.reduceLeDiff, Nat.reduceSub, Nat.reduceMul, Int.reduceToNat, Int.reduceLT, Int.reduceLE, St.good, noAny, distinct, SubSt, subE, subHp]) <;> (repeat' (first | exact trivial | rfl | apply And.intro | (simp; done)))); done)
    | (refine ⟨_, getE_map (inb_toNat (by assumption)), ?_⟩; (first | rw [M.lok_compU] | rw [M.lokD_compU]); simp (maxSteps := 400000) only [go_sem, Nat.reduceBEq, Nat.reduceAdd, Nat.reduceLeDiff, Nat.reduceSub, Nat.reduceMul, Int.reduceToNat, Int.reduceLT, Int.reduceLE])
    | (refine And.intro (ltb_of (by assumption)) ?_)
    | fail)
theorem W_ref27_Place : ∀ {a_ : GEstate} {place_ : Int} {y : Bool}, F_ref27_Place a_ place_ = some y → ACall Try.prog 37 [GEstate.v a_, .int .i64 place_] [] (fun r H => r = .bool y ∧ H = []) :=
  fun hy => Wq_ref27_Place _ _ (Q := fun z => z = _) ⟨_, hy, rfl⟩ fun z e => by subst e; exact ⟨rfl, rfl⟩

def F_ref27_grant_L1 (place_ : Int) (principal_ : Int) (t_ : Int) (k144 : Int) (a145 : GAccess) (x143 : Int) : Option Int :=
  grp ((decide (t_ < a145.Time) || (!decide (a145.Place = place_)))) fun b176 => grp ((b176 || (!decide (a145.Principal = principal_)))) fun b177 => bif b177 then some x143 else bif decide (a145.Kind = 1) then some k144 else bif decide (a145.Kind = 2) then some (-1) else some x143
def F_ref27_grant (a_ : GEstate) (place_ : Int) (principal_ : Int) (t_ : Int) : Option Int :=
  (foldL (F_ref27_grant_L1 place_ principal_ t_) a_.Events 0 (-1)).bind fun x178 => some x178

/- leakresponse/leakresponseref27.grant -/
@[irreducible] def mg_ref27_grant_1 : List MOp := [⟨.fad 2 (.t 11), (some 25), (some (24, false))⟩,
    ⟨.ld none (.t 25), (some 26), (some (24, false))⟩,
    ⟨.mv (.t 1), (some 27), (some (24, false))⟩,
    ⟨.bin false .neq (.t 26) (.t 27), (some 28), (some (24, false))⟩,
    ⟨.pick (.t 24) (.c (.bool true)) (.t 28), (some 29), none⟩]
@[irreducible] def mg_ref27_grant_2 : List MOp := [⟨.fad 3 (.t 11), (some 31), (some (30, false))⟩,
    ⟨.ld none (.t 31), (some 32), (some (30, false))⟩,
    ⟨.mv (.t 2), (some 33), (some (30, false))⟩,
    ⟨.bin false .neq (.t 32) (.t 33), (some 34), (some (30, false))⟩,
    ⟨.pick (.t 30) (.c (.bool true)) (.t 34), (some 35), none⟩]
@[irreducible] def mc_ref27_grant_L1 : MC :=
  (.seq (.reg [⟨.bin false .lss (.t 15) (.t 14), (some 16), none⟩])
  (.seq (.cond (.t 16)
    .skip
    (.exit 0))
  (.seq (.block 1
  (.seq (.reg [⟨.mv (.t 15), (some 17), none⟩,
    ⟨.iad 7 (.t 13) (.t 15), (some 18), none⟩,
    ⟨.ld (some 7) (.t 18), (some 19), none⟩,
    ⟨.alloc [(.int .i64 0), (.int .i64 0), (.int .i64 0), (.int .i64 0), (.int .i64 0), (.int .i64 0), (.int .i64 0)], (some 11), none⟩,
    ⟨.mv (.t 17), (some 10), none⟩,
    ⟨.st 7 (.t 11) (.t 19), none, none⟩])
  (.seq (.seq (.regI [.op ⟨.fad 0 (.t 11), (some 20), none⟩,
    .op ⟨.ld none (.t 20), (some 21), none⟩,
    .op ⟨.mv (.t 3), (some 22), none⟩,
    .op ⟨.bin false .gtr (.t 21) (.t 22), (some 23), none⟩,
    .op ⟨.mv (.t 23), (some 24), none⟩,
    .grp mg_ref27_grant_1,
    .op ⟨.mv (.t 29), (some 30), none⟩,
    .grp mg_ref27_grant_2])
  (.cond (.t 35)
    (.exit 1)
    .skip))
  (.seq (.reg [⟨.fad 1 (.t 11), (some 36), none⟩,
    ⟨.ld none (.t 36), (some 37), none⟩])
  (.block 2
  (.seq (.reg [⟨.bin false .eql (.t 37) (.c (.int .i64 1)), (some 39), none⟩,
    ⟨.mv (.t 39), (some 38), none⟩])
  (.cond (.t 38)
    (.reg [⟨.mv (.t 10), (some 40), none⟩,
      ⟨.mv (.t 40), (some 9), none⟩])
    (.seq (.reg [⟨.bin false .eql (.t 37) (.c (.int .i64 2)), (some 42), none⟩,
      ⟨.mv (.t 42), (some 41), none⟩])
    (.cond (.t 41)
      (.reg [⟨.mv (.c (.int .i64 (-1))), (some 9), none⟩])
      .skip)))))))))
  (.reg [⟨.bin true .add (.t 15) (.c (.int .i64 1)), (some 43), none⟩,
    ⟨.mv (.t 43), (some 15), none⟩]))))
def mc_ref27_grant : MC :=
  (.seq (.reg [⟨.box (.t 0), (some 4), none⟩,
    ⟨.mv (.c (.int .i64 0)), (some 8), none⟩])
  (.seq (.reg [⟨.mv (.c (.int .i64 (-1))), (some 9), none⟩])
  (.seq (.seq (.reg [⟨.fad 1 (.t 4), (some 12), none⟩,
    ⟨.ld none (.t 12), (some 13), none⟩,
    ⟨.len false (.t 13), (some 14), none⟩,
    ⟨.mv (.c (.int .i64 0)), (some 15), none⟩])
  (.block 0
  (.loop mc_ref27_grant_L1)))
  (.seq (.reg [⟨.mv (.t 9), (some 44), none⟩,
    ⟨.mv (.t 44), (some 8), none⟩])
  .ret))))
theorem ok_ref27_grant : mc_ref27_grant.ok Try.prog Try.f38.ntmps (Try.f38.body.getD .skip) = true := by kernel_rfl

set_option maxHeartbeats 2000000 in
theorem Wq_ref27_grant (a_ : GEstate) (place_ : Int) (principal_ : Int) (t_ : Int) {Q : Int → Prop} {Q' : V → Heap → Prop} (h : Ok (F_ref27_grant a_ place_ principal_ t_) Q) (hQ : ∀ z, Q z → Q' (.int .i64 z) []) : ACall Try.prog 38 [GEstate.v a_, .int .i64 place_, .int .i64 principal_, .int .i64 t_] [] Q' := by
  refine acall_machN [] [] [.t 8] Try.func38 rfl (by kernel_rfl) ok_ref27_grant (by kernel_rfl) rfl rfl fun M hf => ?_
  clear hf
  unfold F_ref27_grant at h
  unfold mc_ref27_grant
  (try simp (maxSteps := 400000) only [go_sem, Nat.reduceBEq, Nat.reduceAdd, Nat.reduceLeDiff, Nat.reduceSub, Nat.reduceMul, Int.reduceToNat, Int.reduceLT, Int.reduceLE] at h)
  simp (maxSteps := 400000) only [go_sem, Nat.reduceBEq, Nat.reduceAdd, Nat.reduceLeDiff, Nat.reduceSub, Nat.reduceMul, Int.reduceToNat, Int.reduceLT, Int.reduceLE]
  repeat' (first
    | (exact hQ _ h)
    | (have hq := hQ _ h; simp (maxSteps := 400000) only [go_sem, Nat.reduceBEq, Nat.reduceAdd, Nat.reduceLeDiff, Nat.reduceSub, Nat.reduceMul, Int.reduceToNat, Int.reduceLT, Int.reduceLE] at hq; exact hq)
    | (refine oblg h ?_; clear h; intro hc h)
    | (refine fork h ?_ ?_ <;> clear h <;> intro hc h)
    | (refine forkS h ?_ ?_ <;> clear h <;> intro hc h)
    | (refine And.intro (chkD_of rfl) ?_)
    | (refine M.gv1 (ms := mg_ref27_grant_2) 35 [31, 32, 33, 34] h ?_ ?_ <;> first
       | (clear h; intro K hK1; unfold mg_ref27_grant_2; simp (maxSteps := 400000) only [go_sem, Nat.reduceBEq, Nat.reduceAdd, Nat.reduceLeDiff, Nat.reduceSub, Nat.reduceMul, Int.reduceToNat, Int.reduceLT, Int.reduceLE])
       | (clear h; intro b h; (try simp (maxSteps := 400000) only [go_sem, Nat.reduceBEq, Nat.reduceAdd, Nat.reduceLeDiff, Nat.reduceSub, Nat.reduceMul, Int.reduceToNat, Int.reduceLT, Int.reduceLE] at h); simp (maxSteps := 400000) only [go_sem, Nat.reduceBEq, Nat.reduceAdd, Nat.reduceLeDiff, Nat.reduceSub, Nat.reduceMul, Int.reduceToNat, Int.reduceLT, Int.reduceLE])
       | fail)
    | (refine M.gv1 (ms := mg_ref27_grant_1) 29 [25, 26, 27, 28] h ?_ ?_ <;> first
       | (clear h; intro K hK2; unfold mg_ref27_grant_1; simp (maxSteps := 400000) only [go_sem, Nat.reduceBEq, Nat.reduceAdd, Nat.reduceLeDiff, Nat.reduceSub, Nat.reduceMul, Int.reduceToNat, Int.reduceLT, Int.reduceLE])
       | (clear h; intro b h; (try simp (maxSteps := 400000) only [go_sem, Nat.reduceBEq, Nat.reduceAdd, Nat.reduceLeDiff, Nat.reduceSub, Nat.reduceMul, Int.reduceToNat, Int.reduceLT, Int.reduceLE] at h); simp (maxSteps := 400000) only [go_sem, Nat.reduceBEq, Nat.reduceAdd, Nat.reduceLeDiff, Nat.reduceSub, Nat.reduceMul, Int.reduceToNat, Int.reduceLT, Int.reduceLE])
       | fail)
    | (refine M.fold1 (b := mc_ref27_grant_L1) 15 [1, 2, 3, 13, 14] [] (fun x => [(9, .int .i64 x)]) (fun x => []) [] h ?_ ?_ ?_ <;> first
       | (clear h; intro k a x Qn K hK3 hkN3 ha3 h hf; have hl := fact_int (factsE_find (n := 14) hf.1 rfl); clear hf; have hkd := decide_eq_true (Int.ofNat_lt.2 hkN3); have hkB3 := inb_iff.2 ⟨Int.natCast_nonneg k, Int.ofNat_lt.2 hkN3⟩; have hkI3 : in64 ((k : Int) + 1) = true := in64_iff.2 ⟨by omega, by (try simp only [List.length_cons, List.length_nil] at hkN3); omega⟩; unfold F_ref27_grant_L1 at h; unfold mc_ref27_grant_L1; (try simp (maxSteps := 400000) only [go_sem, Nat.reduceBEq, Nat.reduceAdd, Nat.reduceLeDiff, Nat.reduceSub, Nat.reduceMul, Int.reduceToNat, Int.reduceLT, Int.reduceLE] at h); simp only [go_sem, Nat.reduceBEq, Nat.reduceAdd, Nat.reduceLeDiff, Nat.reduceSub, Nat.reduceMul, Int.reduceToNat, Int.reduceLT, Int.reduceLE, ha3, hkd, hkN3, hkB3, hkI3])
       | (clear h; intro x K h; replace h := And.left (And.intro h trivial); unfold mc_ref27_grant_L1; (try simp (maxSteps := 400000) only [go_sem, Nat.reduceBEq, Nat.reduceAdd, Nat.reduceLeDiff, Nat.reduceSub, Nat.reduceMul, Int.reduceToNat, Int.reduceLT, Int.reduceLE] at h); simp (maxSteps := 400000) only [go_sem, Nat.reduceBEq, Nat.reduceAdd, Nat.reduceLeDiff, Nat.reduceSub, Nat.reduceMul, Int.reduceToNat, Int.reduceLT, Int.reduceLE])
       | (clear h; (try simp only [go_sem, Nat.reduceBEq, Nat.reduceAdd, Nat.reduceLeDiff, Nat.reduceSub, Nat.reduceMul, Int.reduceToNat, Int.reduceLT, Int.reduceLE]); (refine ⟨?_, ?_, ?_⟩ <;> (try simp only [go_sem, Nat.reduceBEq, Nat.reduceAdd, Nat.reduceLeDiff, Nat.reduceSub, Nat.reduceMul, Int.reduceToNat, Int.reduceLT, Int.reduceLE, St.good, noAny, distinct, SubSt, subE, subHp]) <;> (repeat' (first | exact trivial | rfl | apply And.intro | (simp; done)))); done)
       | fail)
    | (refine And.intro hkI3 ?_)
    | (refine And.intro hkN3 ?_)
    | (refine And.intro hkB3 ?_)
    | (simp only [ha3])
    | (refine hK1 _ ?_; (refine ⟨?_, ?_, ?_⟩ <;> (try simp only [go_sem, Nat.reduceBEq, Nat.reduceAdd, Nat.reduceLeDiff, Nat.reduceSub, Nat.reduceMul, Int.reduceToNat, Int.reduceLT, Int.reduceLE, St.good, noAny, distinct, SubSt, subE, subHp, *]) <;> (repeat' (first | exact trivial | rfl | apply And.intro | (simp [*]; done)))); done)
    | (refine hK2 _ ?_; (refine ⟨?_, ?_, ?_⟩ <;> (try simp only [go_sem, Nat.reduceBEq, Nat.reduceAdd, Nat.reduceLeDiff, Nat.reduceSub, Nat.reduceMul, Int.reduceToNat, Int.reduceLT, Int.reduceLE, St.good, noAny, distinct, SubSt, subE, subHp, *]) <;> (repeat' (first | exact trivial | rfl | apply And.intro | (simp [*]; done)))); done)
    | (refine hK3 _ ?_; (try simp only [go_sem, Nat.reduceBEq, Nat.reduceAdd, Nat.reduceLeDiff, Nat.reduceSub, Nat.reduceMul, Int.reduceToNat, Int.reduceLT, Int.reduceLE]); refine ⟨_, h, ?_⟩; (refine ⟨?_, ?_, ?_⟩ <;> (try simp only [go_sem, Nat.reduceBEq, Nat.reduceAdd, Nat.reduceLeDiff, Nat.reduceSub, Nat.reduceMul, Int.reduceToNat, Int.reduceLT, Int.reduceLE, St.good, noAny, distinct, SubSt, subE, subHp]) <;> (repeat' (first | exact trivial | rfl | apply And.intro | (simp; done)))); done)
    | (refine bfork (fun hc => ?_) (fun hc => ?_))
    | (refine ⟨_, getE_map (inb_toNat (by assumption)), ?_⟩; (first | rw [M.lok_compU] | rw [M.lokD_compU]); simp (maxSteps := 400000) only [go_sem, Nat.reduceBEq, Nat.reduceAdd, Nat.reduceLeDiff, Nat.reduceSub, Nat.reduceMul, Int.reduceToNat, Int.reduceLT, Int.reduceLE])
    | (refine And.intro (ltb_of (by assumption)) ?_)
    | fail)
theorem W_ref27_grant : ∀ {a_ : GEstate} {place_ : Int} {principal_ : Int} {t_ : Int} {y : Int}, F_ref27_grant a_ place_ principal_ t_ = some y → ACall Try.prog 38 [GEstate.v a_, .int .i64 place_, .int .i64 principal_, .int .i64 t_] [] (fun r H => r = .int .i64 y ∧ H = []) :=
  fun hy => Wq_ref27_grant _ _ _ _ (Q := fun z => z = _) ⟨_, hy, rfl⟩ fun z e => by subst e; exact ⟨rfl, rfl⟩

def F_ref27_Grant (a_ : GEstate) (place_ : Int) (principal_ : Int) (t_ : Int) : Option (Int × Bool) :=
  (F_ref27_Place a_ place_).bind fun y4 => bif (!y4) then some (0, false) else (F_ref27_grant a_ place_ principal_ t_).bind fun y8 => bif decide (0 ≤ y8) then some (y8, true) else some (0, false)

/- leakresponse/leakresponseref27.Grant -/
def mc_ref27_Grant : MC :=
  (.seq (.reg [⟨.box (.t 0), (some 4), none⟩,
    ⟨.mv (.c (.int .i64 0)), (some 8), none⟩,
    ⟨.mv (.c (.bool false)), (some 9), none⟩])
  (.seq (.seq (.reg [⟨.ld (some 2) (.t 4), (some 11), none⟩,
    ⟨.mv (.t 1), (some 12), none⟩,
    ⟨.call (.f 37) [(.t 11), (.t 12)] [] [], (some 13), none⟩,
    ⟨.not (.t 13), (some 14), none⟩])
  (.cond (.t 14)
    (.seq (.reg [⟨.mv (.c (.int .i64 0)), (some 8), none⟩,
      ⟨.mv (.c (.bool false)), (some 9), none⟩])
    .ret)
    .skip))
  (.seq (.seq (.reg [⟨.ld (some 2) (.t 4), (some 15), none⟩,
    ⟨.mv (.t 1), (some 16), none⟩,
    ⟨.mv (.t 2), (some 17), none⟩,
    ⟨.mv (.t 3), (some 18), none⟩,
    ⟨.call (.f 38) [(.t 15), (.t 16), (.t 17), (.t 18)] [] [], (some 19), none⟩,
    ⟨.mv (.t 19), (some 10), none⟩])
  (.seq (.reg [⟨.mv (.t 10), (some 20), none⟩,
    ⟨.bin false .geq (.t 20) (.c (.int .i64 0)), (some 21), none⟩])
  (.cond (.t 21)
    (.seq (.note (.gc [10]) (.reg [⟨.mv (.t 10), (some 22), none⟩,
      ⟨.mv (.t 22), (some 8), none⟩,
      ⟨.mv (.c (.bool true)), (some 9), none⟩]))
    .ret)
    .skip)))
  (.seq (.reg [⟨.mv (.c (.int .i64 0)), (some 8), none⟩,
    ⟨.mv (.c (.bool false)), (some 9), none⟩])
  .ret))))
theorem ok_ref27_Grant : mc_ref27_Grant.ok Try.prog Try.f24.ntmps (Try.f24.body.getD .skip) = true := by kernel_rfl

set_option maxHeartbeats 2000000 in
theorem Wq_ref27_Grant (a_ : GEstate) (place_ : Int) (principal_ : Int) (t_ : Int) {Q : Int × Bool → Prop} {Q' : V → Heap → Prop} (h : Ok (F_ref27_Grant a_ place_ principal_ t_) Q) (hQ : ∀ z, Q z → Q' (.tup [.int .i64 z.1, .bool z.2]) []) : ACall Try.prog 24 [GEstate.v a_, .int .i64 place_, .int .i64 principal_, .int .i64 t_] [] Q' := by
  refine acall_machN [] [] [.t 8, .t 9] Try.func24 rfl (by kernel_rfl) ok_ref27_Grant (by kernel_rfl) rfl rfl fun M hf => ?_
  clear hf
  unfold F_ref27_Grant at h
  unfold mc_ref27_Grant
  (try simp (maxSteps := 400000) only [go_sem, Nat.reduceBEq, Nat.reduceAdd, Nat.reduceLeDiff, Nat.reduceSub, Nat.reduceMul, Int.reduceToNat, Int.reduceLT, Int.reduceLE] at h)
  simp (maxSteps := 400000) only [go_sem, Nat.reduceBEq, Nat.reduceAdd, Nat.reduceLeDiff, Nat.reduceSub, Nat.reduceMul, Int.reduceToNat, Int.reduceLT, Int.reduceLE]
  repeat' (first
    | (exact hQ _ h)
    | (have hq := hQ _ h; simp (maxSteps := 400000) only [go_sem, Nat.reduceBEq, Nat.reduceAdd, Nat.reduceLeDiff, Nat.reduceSub, Nat.reduceMul, Int.reduceToNat, Int.reduceLT, Int.reduceLE] at hq; exact hq)
    | (refine oblg h ?_; clear h; intro hc h)
    | (refine fork h ?_ ?_ <;> clear h <;> intro hc h)
    | (refine forkS h ?_ ?_ <;> clear h <;> intro hc h)
    | (refine And.intro (chkD_of rfl) ?_)
    | (obtain ⟨y, hy, h⟩ := h; have hw := W_ref27_Place hy; (try simp (maxSteps := 400000) only [go_sem, Nat.reduceBEq, Nat.reduceAdd, Nat.reduceLeDiff, Nat.reduceSub, Nat.reduceMul, Int.reduceToNat, Int.reduceLT, Int.reduceLE] at hw); refine sCall_of hw rfl rfl ?_; clear hw; clear hy; rw [M.lok_eq]; simp (maxSteps := 400000) only [go_sem, Nat.reduceBEq, Nat.reduceAdd, Nat.reduceLeDiff, Nat.reduceSub, Nat.reduceMul, Int.reduceToNat, Int.reduceLT, Int.reduceLE])
    | (obtain ⟨y, hy, h⟩ := h; have hw := W_ref27_Place hy; (try simp (maxSteps := 400000) only [go_sem, Nat.reduceBEq, Nat.reduceAdd, Nat.reduceLeDiff, Nat.reduceSub, Nat.reduceMul, Int.reduceToNat, Int.reduceLT, Int.reduceLE] at hw); refine sCallD_of hw rfl rfl ?_; clear hw; clear hy; rw [M.lokD_eq]; simp (maxSteps := 400000) only [go_sem, Nat.reduceBEq, Nat.reduceAdd, Nat.reduceLeDiff, Nat.reduceSub, Nat.reduceMul, Int.reduceToNat, Int.reduceLT, Int.reduceLE])
    | (obtain ⟨y, hy, h⟩ := h; have hw := W_ref27_grant hy; (try simp (maxSteps := 400000) only [go_sem, Nat.reduceBEq, Nat.reduceAdd, Nat.reduceLeDiff, Nat.reduceSub, Nat.reduceMul, Int.reduceToNat, Int.reduceLT, Int.reduceLE] at hw); refine sCall_of hw rfl rfl ?_; clear hw; clear hy; rw [M.lok_eq]; simp (maxSteps := 400000) only [go_sem, Nat.reduceBEq, Nat.reduceAdd, Nat.reduceLeDiff, Nat.reduceSub, Nat.reduceMul, Int.reduceToNat, Int.reduceLT, Int.reduceLE])
    | (obtain ⟨y, hy, h⟩ := h; have hw := W_ref27_grant hy; (try simp (maxSteps := 400000) only [go_sem, Nat.reduceBEq, Nat.reduceAdd, Nat.reduceLeDiff, Nat.reduceSub, Nat.reduceMul, Int.reduceToNat, Int.reduceLT, Int.reduceLE] at hw); refine sCallD_of hw rfl rfl ?_; clear hw; clear hy; rw [M.lokD_eq]; simp (maxSteps := 400000) only [go_sem, Nat.reduceBEq, Nat.reduceAdd, Nat.reduceLeDiff, Nat.reduceSub, Nat.reduceMul, Int.reduceToNat, Int.reduceLT, Int.reduceLE])
    | (refine ⟨_, getE_map (inb_toNat (by assumption)), ?_⟩; (first | rw [M.lok_compU] | rw [M.lokD_compU]); simp (maxSteps := 400000) only [go_sem, Nat.reduceBEq, Nat.reduceAdd, Nat.reduceLeDiff, Nat.reduceSub, Nat.reduceMul, Int.reduceToNat, Int.reduceLT, Int.reduceLE])
    | (refine And.intro (ltb_of (by assumption)) ?_)
    | fail)
theorem W_ref27_Grant : ∀ {a_ : GEstate} {place_ : Int} {principal_ : Int} {t_ : Int} {y : Int × Bool}, F_ref27_Grant a_ place_ principal_ t_ = some y → ACall Try.prog 24 [GEstate.v a_, .int .i64 place_, .int .i64 principal_, .int .i64 t_] [] (fun r H => r = .tup [.int .i64 y.1, .bool y.2] ∧ H = []) :=
  fun hy => Wq_ref27_Grant _ _ _ _ (Q := fun z => z = _) ⟨_, hy, rfl⟩ fun z e => by subst e; exact ⟨rfl, rfl⟩

def F_ref27_Open_L1 (place_ : Int) (t_ : Int) (k79 : Int) (a80 : GAccess) (x78 : Unit) : Option (Fl Unit Bool) :=
  grp ((decide (a80.Kind = 4) && decide (a80.Place = place_))) fun b95 => grp ((b95 && decide (a80.Time ≤ t_))) fun b96 => bif b96 then some (.ex false) else some (.nx ())
def F_ref27_Open (a_ : GEstate) (place_ : Int) (link_ : Int) (t_ : Int) : Option Bool :=
  (F_ref27_Place a_ place_).bind fun y7 => bif (!y7) then some false else chk (in64 ((a_.Events.length : Int) - 1)) ((F_ref27_in link_ 0 ((a_.Events.length : Int) - 1)).bind fun y8 => bif (!y8) then some false else chk (inb link_ a_.Events.length) (grp (((!decide ((a_.Events.getD (link_).toNat default).Kind = 3)) || (!decide ((a_.Events.getD (link_).toNat default).Place = place_)))) fun b18 => grp ((b18 || decide (t_ < (a_.Events.getD (link_).toNat default).Time))) fun b19 => grp ((b19 || decide ((a_.Events.getD (link_).toNat default).Until ≤ t_))) fun b20 => bif b20 then some false else chk (in64 (link_ + 1)) (chk (inc (link_ + 1) (a_.Events.length : Int) a_.Events.length) ((forL (F_ref27_Open_L1 place_ t_) (a_.Events.drop ((link_ + 1)).toNat) 0 ()).bind fun o => o.elim (fun x97 => some true) (fun r98 => some r98)))))

/- leakresponse/leakresponseref27.Open -/
@[irreducible] def mg_ref27_Open_1 : List MOp := [⟨.fad 2 (.t 9), (some 34), (some (33, false))⟩,
    ⟨.ld none (.t 34), (some 35), (some (33, false))⟩,
    ⟨.mv (.t 1), (some 36), (some (33, false))⟩,
    ⟨.bin false .neq (.t 35) (.t 36), (some 37), (some (33, false))⟩,
    ⟨.pick (.t 33) (.c (.bool true)) (.t 37), (some 38), none⟩]
@[irreducible] def mg_ref27_Open_2 : List MOp := [⟨.fad 0 (.t 9), (some 40), (some (39, false))⟩,
    ⟨.ld none (.t 40), (some 41), (some (39, false))⟩,
    ⟨.mv (.t 3), (some 42), (some (39, false))⟩,
    ⟨.bin false .gtr (.t 41) (.t 42), (some 43), (some (39, false))⟩,
    ⟨.pick (.t 39) (.c (.bool true)) (.t 43), (some 44), none⟩]
@[irreducible] def mg_ref27_Open_3 : List MOp := [⟨.fad 4 (.t 9), (some 46), (some (45, false))⟩,
    ⟨.ld none (.t 46), (some 47), (some (45, false))⟩,
    ⟨.mv (.t 3), (some 48), (some (45, false))⟩,
    ⟨.bin false .leq (.t 47) (.t 48), (some 49), (some (45, false))⟩,
    ⟨.pick (.t 45) (.c (.bool true)) (.t 49), (some 50), none⟩]
@[irreducible] def mg_ref27_Open_4 : List MOp := [⟨.fad 2 (.t 11), (some 65), (some (64, true))⟩,
    ⟨.ld none (.t 65), (some 66), (some (64, true))⟩,
    ⟨.mv (.t 1), (some 67), (some (64, true))⟩,
    ⟨.bin false .eql (.t 66) (.t 67), (some 68), (some (64, true))⟩,
    ⟨.pick (.t 64) (.t 68) (.c (.bool false)), (some 69), none⟩]
@[irreducible] def mg_ref27_Open_5 : List MOp := [⟨.fad 0 (.t 11), (some 71), (some (70, true))⟩,
    ⟨.ld none (.t 71), (some 72), (some (70, true))⟩,
    ⟨.mv (.t 3), (some 73), (some (70, true))⟩,
    ⟨.bin false .leq (.t 72) (.t 73), (some 74), (some (70, true))⟩,
    ⟨.pick (.t 70) (.t 74) (.c (.bool false)), (some 75), none⟩]
@[irreducible] def mc_ref27_Open_L1 : MC :=
  (.seq (.reg [⟨.bin false .lss (.t 57) (.t 56), (some 58), none⟩])
  (.seq (.cond (.t 58)
    .skip
    (.exit 0))
  (.seq (.block 1
  (.seq (.reg [⟨.iad 7 (.t 55) (.t 57), (some 59), none⟩,
    ⟨.ld (some 7) (.t 59), (some 60), none⟩,
    ⟨.alloc [(.int .i64 0), (.int .i64 0), (.int .i64 0), (.int .i64 0), (.int .i64 0), (.int .i64 0), (.int .i64 0)], (some 11), none⟩,
    ⟨.st 7 (.t 11) (.t 60), none, none⟩])
  (.seq (.regI [.op ⟨.fad 1 (.t 11), (some 61), none⟩,
    .op ⟨.ld none (.t 61), (some 62), none⟩,
    .op ⟨.bin false .eql (.t 62) (.c (.int .i64 4)), (some 63), none⟩,
    .op ⟨.mv (.t 63), (some 64), none⟩,
    .grp mg_ref27_Open_4,
    .op ⟨.mv (.t 69), (some 70), none⟩,
    .grp mg_ref27_Open_5])
  (.cond (.t 75)
    (.seq (.reg [⟨.mv (.c (.bool false)), (some 8), none⟩])
    .ret)
    .skip))))
  (.reg [⟨.bin true .add (.t 57) (.c (.int .i64 1)), (some 76), none⟩,
    ⟨.mv (.t 76), (some 57), none⟩]))))
def mc_ref27_Open : MC :=
  (.seq (.reg [⟨.box (.t 0), (some 4), none⟩,
    ⟨.mv (.c (.bool false)), (some 8), none⟩])
  (.seq (.seq (.reg [⟨.ld (some 2) (.t 4), (some 12), none⟩,
    ⟨.mv (.t 1), (some 13), none⟩,
    ⟨.call (.f 37) [(.t 12), (.t 13)] [] [], (some 14), none⟩,
    ⟨.not (.t 14), (some 15), none⟩,
    ⟨.mv (.t 15), (some 16), none⟩,
    ⟨.mv (.t 2), (some 17), (some (16, false))⟩,
    ⟨.fad 1 (.t 4), (some 18), (some (16, false))⟩,
    ⟨.ld none (.t 18), (some 19), (some (16, false))⟩,
    ⟨.len false (.t 19), (some 20), (some (16, false))⟩,
    ⟨.bin true .sub (.t 20) (.c (.int .i64 1)), (some 21), (some (16, false))⟩,
    ⟨.call (.f 45) [(.t 17), (.c (.int .i64 0)), (.t 21)] [] [], (some 22), (some (16, false))⟩,
    ⟨.not (.t 22), (some 23), (some (16, false))⟩,
    ⟨.pick (.t 16) (.c (.bool true)) (.t 23), (some 24), none⟩])
  (.cond (.t 24)
    (.seq (.reg [⟨.mv (.c (.bool false)), (some 8), none⟩])
    .ret)
    .skip))
  (.seq (.note (.gc [1, 2, 3, 4, 34, 35, 36, 37, 40, 41, 42, 43, 46, 47, 48, 49, 65, 66, 67, 68, 71, 72, 73, 74]) (.reg [⟨.fad 1 (.t 4), (some 25), none⟩,
    ⟨.ld none (.t 25), (some 26), none⟩,
    ⟨.mv (.t 2), (some 27), none⟩,
    ⟨.iad 7 (.t 26) (.t 27), (some 28), none⟩,
    ⟨.ld (some 7) (.t 28), (some 29), none⟩,
    ⟨.alloc [(.int .i64 0), (.int .i64 0), (.int .i64 0), (.int .i64 0), (.int .i64 0), (.int .i64 0), (.int .i64 0)], (some 9), none⟩,
    ⟨.st 7 (.t 9) (.t 29), none, none⟩]))
  (.seq (.seq (.regI [.op ⟨.fad 1 (.t 9), (some 30), none⟩,
    .op ⟨.ld none (.t 30), (some 31), none⟩,
    .op ⟨.bin false .neq (.t 31) (.c (.int .i64 3)), (some 32), none⟩,
    .op ⟨.mv (.t 32), (some 33), none⟩,
    .grp mg_ref27_Open_1,
    .op ⟨.mv (.t 38), (some 39), none⟩,
    .grp mg_ref27_Open_2,
    .op ⟨.mv (.t 44), (some 45), none⟩,
    .grp mg_ref27_Open_3])
  (.cond (.t 50)
    (.seq (.reg [⟨.mv (.c (.bool false)), (some 8), none⟩])
    .ret)
    .skip))
  (.seq (.seq (.note (.gc [1, 2, 3, 4, 65, 66, 67, 68, 71, 72, 73, 74]) (.reg [⟨.fad 1 (.t 4), (some 51), none⟩,
    ⟨.ld none (.t 51), (some 52), none⟩,
    ⟨.mv (.t 2), (some 53), none⟩,
    ⟨.bin true .add (.t 53) (.c (.int .i64 1)), (some 54), none⟩,
    ⟨.slc 7 (.t 52) (some (.t 54)) none, (some 55), none⟩,
    ⟨.len false (.t 55), (some 56), none⟩,
    ⟨.mv (.c (.int .i64 0)), (some 57), none⟩]))
  (.block 0
  (.loop mc_ref27_Open_L1)))
  (.seq (.reg [⟨.mv (.c (.bool true)), (some 8), none⟩])
  .ret))))))
theorem ok_ref27_Open : mc_ref27_Open.ok Try.prog Try.f39.ntmps (Try.f39.body.getD .skip) = true := by kernel_rfl

set_option maxHeartbeats 2000000 in
theorem Wq_ref27_Open (a_ : GEstate) (place_ : Int) (link_ : Int) (t_ : Int) {Q : Bool → Prop} {Q' : V → Heap → Prop} (h : Ok (F_ref27_Open a_ place_ link_ t_) Q) (hQ : ∀ z, Q z → Q' (.bool z) []) : ACall Try.prog 39 [GEstate.v a_, .int .i64 place_, .int .i64 link_, .int .i64 t_] [] Q' := by
  refine acall_machN [] [] [.t 8] Try.func39 rfl (by kernel_rfl) ok_ref27_Open (by kernel_rfl) rfl rfl fun M hf => ?_
  clear hf
  unfold F_ref27_Open at h
  unfold mc_ref27_Open
  (try simp (maxSteps := 400000) only [go_sem, Nat.reduceBEq, Nat.reduceAdd, Nat.reduceLeDiff, Nat.reduceSub, Nat.reduceMul, Int.reduceToNat, Int.reduceLT, Int.reduceLE] at h)
  simp (maxSteps := 400000) only [go_sem, Nat.reduceBEq, Nat.reduceAdd, Nat.reduceLeDiff, Nat.reduceSub, Nat.reduceMul, Int.reduceToNat, Int.reduceLT, Int.reduceLE]
  repeat' (first
    | (exact hQ _ h)
    | (have hq := hQ _ h; simp (maxSteps := 400000) only [go_sem, Nat.reduceBEq, Nat.reduceAdd, Nat.reduceLeDiff, Nat.reduceSub, Nat.reduceMul, Int.reduceToNat, Int.reduceLT, Int.reduceLE] at hq; exact hq)
    | (refine oblg h ?_; clear h; intro hc h)
    | (refine fork h ?_ ?_ <;> clear h <;> intro hc h)
    | (refine forkS h ?_ ?_ <;> clear h <;> intro hc h)
    | (refine And.intro (chkD_of rfl) ?_)
    | (obtain ⟨y, hy, h⟩ := h; have hw := W_ref27_Place hy; (try simp (maxSteps := 400000) only [go_sem, Nat.reduceBEq, Nat.reduceAdd, Nat.reduceLeDiff, Nat.reduceSub, Nat.reduceMul, Int.reduceToNat, Int.reduceLT, Int.reduceLE] at hw); refine sCall_of hw rfl rfl ?_; clear hw; clear hy; rw [M.lok_eq]; simp (maxSteps := 400000) only [go_sem, Nat.reduceBEq, Nat.reduceAdd, Nat.reduceLeDiff, Nat.reduceSub, Nat.reduceMul, Int.reduceToNat, Int.reduceLT, Int.reduceLE])
    | (obtain ⟨y, hy, h⟩ := h; have hw := W_ref27_Place hy; (try simp (maxSteps := 400000) only [go_sem, Nat.reduceBEq, Nat.reduceAdd, Nat.reduceLeDiff, Nat.reduceSub, Nat.reduceMul, Int.reduceToNat, Int.reduceLT, Int.reduceLE] at hw); refine sCallD_of hw rfl rfl ?_; clear hw; clear hy; rw [M.lokD_eq]; simp (maxSteps := 400000) only [go_sem, Nat.reduceBEq, Nat.reduceAdd, Nat.reduceLeDiff, Nat.reduceSub, Nat.reduceMul, Int.reduceToNat, Int.reduceLT, Int.reduceLE])
    | (obtain ⟨y, hy, h⟩ := h; have hw := W_ref27_in hy; (try simp (maxSteps := 400000) only [go_sem, Nat.reduceBEq, Nat.reduceAdd, Nat.reduceLeDiff, Nat.reduceSub, Nat.reduceMul, Int.reduceToNat, Int.reduceLT, Int.reduceLE] at hw); refine sCall_of hw rfl rfl ?_; clear hw; clear hy; rw [M.lok_eq]; simp (maxSteps := 400000) only [go_sem, Nat.reduceBEq, Nat.reduceAdd, Nat.reduceLeDiff, Nat.reduceSub, Nat.reduceMul, Int.reduceToNat, Int.reduceLT, Int.reduceLE])
    | (obtain ⟨y, hy, h⟩ := h; have hw := W_ref27_in hy; (try simp (maxSteps := 400000) only [go_sem, Nat.reduceBEq, Nat.reduceAdd, Nat.reduceLeDiff, Nat.reduceSub, Nat.reduceMul, Int.reduceToNat, Int.reduceLT, Int.reduceLE] at hw); refine sCallD_of hw rfl rfl ?_; clear hw; clear hy; rw [M.lokD_eq]; simp (maxSteps := 400000) only [go_sem, Nat.reduceBEq, Nat.reduceAdd, Nat.reduceLeDiff, Nat.reduceSub, Nat.reduceMul, Int.reduceToNat, Int.reduceLT, Int.reduceLE])
    | (refine M.gv1 (ms := mg_ref27_Open_5) 75 [71, 72, 73, 74] h ?_ ?_ <;> first
       | (clear h; intro K hK1; unfold mg_ref27_Open_5; simp (maxSteps := 400000) only [go_sem, Nat.reduceBEq, Nat.reduceAdd, Nat.reduceLeDiff, Nat.reduceSub, Nat.reduceMul, Int.reduceToNat, Int.reduceLT, Int.reduceLE])
       | (clear h; intro b h; (try simp (maxSteps := 400000) only [go_sem, Nat.reduceBEq, Nat.reduceAdd, Nat.reduceLeDiff, Nat.reduceSub, Nat.reduceMul, Int.reduceToNat, Int.reduceLT, Int.reduceLE] at h); simp (maxSteps := 400000) only [go_sem, Nat.reduceBEq, Nat.reduceAdd, Nat.reduceLeDiff, Nat.reduceSub, Nat.reduceMul, Int.reduceToNat, Int.reduceLT, Int.reduceLE])
       | fail)
    | (refine M.gv1 (ms := mg_ref27_Open_4) 69 [65, 66, 67, 68] h ?_ ?_ <;> first
       | (clear h; intro K hK2; unfold mg_ref27_Open_4; simp (maxSteps := 400000) only [go_sem, Nat.reduceBEq, Nat.reduceAdd, Nat.reduceLeDiff, Nat.reduceSub, Nat.reduceMul, Int.reduceToNat, Int.reduceLT, Int.reduceLE])
       | (clear h; intro b h; (try simp (maxSteps := 400000) only [go_sem, Nat.reduceBEq, Nat.reduceAdd, Nat.reduceLeDiff, Nat.reduceSub, Nat.reduceMul, Int.reduceToNat, Int.reduceLT, Int.reduceLE] at h); simp (maxSteps := 400000) only [go_sem, Nat.reduceBEq, Nat.reduceAdd, Nat.reduceLeDiff, Nat.reduceSub, Nat.reduceMul, Int.reduceToNat, Int.reduceLT, Int.reduceLE])
       | fail)
    | (refine M.for1 (b := mc_ref27_Open_L1) 57 [1, 3, 55, 56] [] (fun x => []) (fun x => []) [] h ?_ ?_ ?_ <;> first
       | (clear h; intro k a x Qn K hK3 hkN3 ha3 h hf; have hl := fact_int (factsE_find (n := 56) hf.1 rfl); clear hf; have hkd := decide_eq_true (Int.ofNat_lt.2 hkN3); have hkB3 := inb_iff.2 ⟨Int.natCast_nonneg k, Int.ofNat_lt.2 hkN3⟩; have hkI3 : in64 ((k : Int) + 1) = true := in64_iff.2 ⟨by omega, by (try simp only [List.length_cons, List.length_nil] at hkN3); omega⟩; unfold F_ref27_Open_L1 at h; unfold mc_ref27_Open_L1; (try simp (maxSteps := 400000) only [go_sem, Nat.reduceBEq, Nat.reduceAdd, Nat.reduceLeDiff, Nat.reduceSub, Nat.reduceMul, Int.reduceToNat, Int.reduceLT, Int.reduceLE] at h); simp only [go_sem, Nat.reduceBEq, Nat.reduceAdd, Nat.reduceLeDiff, Nat.reduceSub, Nat.reduceMul, Int.reduceToNat, Int.reduceLT, Int.reduceLE, ha3, hkd, hkN3, hkB3, hkI3])
       | (clear h; intro x K h; replace h := And.left (And.intro h trivial); unfold mc_ref27_Open_L1; (try simp (maxSteps := 400000) only [go_sem, Nat.reduceBEq, Nat.reduceAdd, Nat.reduceLeDiff, Nat.reduceSub, Nat.reduceMul, Int.reduceToNat, Int.reduceLT, Int.reduceLE] at h); simp (maxSteps := 400000) only [go_sem, Nat.reduceBEq, Nat.reduceAdd, Nat.reduceLeDiff, Nat.reduceSub, Nat.reduceMul, Int.reduceToNat, Int.reduceLT, Int.reduceLE])
       | (clear h; (try simp only [go_sem, Nat.reduceBEq, Nat.reduceAdd, Nat.reduceLeDiff, Nat.reduceSub, Nat.reduceMul, Int.reduceToNat, Int.reduceLT, Int.reduceLE]); (refine ⟨?_, ?_, ?_⟩ <;> (try simp only [go_sem, Nat.reduceBEq, Nat.reduceAdd, Nat.reduceLeDiff, Nat.reduceSub, Nat.reduceMul, Int.reduceToNat, Int.reduceLT, Int.reduceLE, St.good, noAny, distinct, SubSt, subE, subHp]) <;> (repeat' (first | exact trivial | rfl | apply And.intro | (simp; done)))); done)
       | fail)
    | (refine M.gv1 (ms := mg_ref27_Open_3) 50 [46, 47, 48, 49] h ?_ ?_ <;> first
       | (clear h; intro K hK4; unfold mg_ref27_Open_3; simp (maxSteps := 400000) only [go_sem, Nat.reduceBEq, Nat.reduceAdd, Nat.reduceLeDiff, Nat.reduceSub, Nat.reduceMul, Int.reduceToNat, Int.reduceLT, Int.reduceLE])
       | (clear h; intro b h; (try simp (maxSteps := 400000) only [go_sem, Nat.reduceBEq, Nat.reduceAdd, Nat.reduceLeDiff, Nat.reduceSub, Nat.reduceMul, Int.reduceToNat, Int.reduceLT, Int.reduceLE] at h); simp (maxSteps := 400000) only [go_sem, Nat.reduceBEq, Nat.reduceAdd, Nat.reduceLeDiff, Nat.reduceSub, Nat.reduceMul, Int.reduceToNat, Int.reduceLT, Int.reduceLE])
       | fail)
    | (refine M.gv1 (ms := mg_ref27_Open_2) 44 [40, 41, 42, 43] h ?_ ?_ <;> first
       | (clear h; intro K hK5; unfold mg_ref27_Open_2; simp (maxSteps := 400000) only [go_sem, Nat.reduceBEq, Nat.reduceAdd, Nat.reduceLeDiff, Nat.reduceSub, Nat.reduceMul, Int.reduceToNat, Int.reduceLT, Int.reduceLE])
       | (clear h; intro b h; (try simp (maxSteps := 400000) only [go_sem, Nat.reduceBEq, Nat.reduceAdd, Nat.reduceLeDiff, Nat.reduceSub, Nat.reduceMul, Int.reduceToNat, Int.reduceLT, Int.reduceLE] at h); simp (maxSteps := 400000) only [go_sem, Nat.reduceBEq, Nat.reduceAdd, Nat.reduceLeDiff, Nat.reduceSub, Nat.reduceMul, Int.reduceToNat, Int.reduceLT, Int.reduceLE])
       | fail)
    | (refine M.gv1 (ms := mg_ref27_Open_1) 38 [34, 35, 36, 37] h ?_ ?_ <;> first
       | (clear h; intro K hK6; unfold mg_ref27_Open_1; simp (maxSteps := 400000) only [go_sem, Nat.reduceBEq, Nat.reduceAdd, Nat.reduceLeDiff, Nat.reduceSub, Nat.reduceMul, Int.reduceToNat, Int.reduceLT, Int.reduceLE])
       | (clear h; intro b h; (try simp (maxSteps := 400000) only [go_sem, Nat.reduceBEq, Nat.reduceAdd, Nat.reduceLeDiff, Nat.reduceSub, Nat.reduceMul, Int.reduceToNat, Int.reduceLT, Int.reduceLE] at h); simp (maxSteps := 400000) only [go_sem, Nat.reduceBEq, Nat.reduceAdd, Nat.reduceLeDiff, Nat.reduceSub, Nat.reduceMul, Int.reduceToNat, Int.reduceLT, Int.reduceLE])
       | fail)
    | (refine And.intro hkI3 ?_)
    | (refine And.intro hkN3 ?_)
    | (refine And.intro hkB3 ?_)
    | (simp only [ha3])
    | (refine hK1 _ ?_; (refine ⟨?_, ?_, ?_⟩ <;> (try simp only [go_sem, Nat.reduceBEq, Nat.reduceAdd, Nat.reduceLeDiff, Nat.reduceSub, Nat.reduceMul, Int.reduceToNat, Int.reduceLT, Int.reduceLE, St.good, noAny, distinct, SubSt, subE, subHp, *]) <;> (repeat' (first | exact trivial | rfl | apply And.intro | (simp [*]; done)))); done)
    | (refine hK2 _ ?_; (refine ⟨?_, ?_, ?_⟩ <;> (try simp only [go_sem, Nat.reduceBEq, Nat.reduceAdd, Nat.reduceLeDiff, Nat.reduceSub, Nat.reduceMul, Int.reduceToNat, Int.reduceLT, Int.reduceLE, St.good, noAny, distinct, SubSt, subE, subHp, *]) <;> (repeat' (first | exact trivial | rfl | apply And.intro | (simp [*]; done)))); done)
    | (refine hK3 _ ?_; (try simp only [go_sem, Nat.reduceBEq, Nat.reduceAdd, Nat.reduceLeDiff, Nat.reduceSub, Nat.reduceMul, Int.reduceToNat, Int.reduceLT, Int.reduceLE]); refine ⟨_, h, ?_⟩; (refine ⟨?_, ?_, ?_⟩ <;> (try simp only [go_sem, Nat.reduceBEq, Nat.reduceAdd, Nat.reduceLeDiff, Nat.reduceSub, Nat.reduceMul, Int.reduceToNat, Int.reduceLT, Int.reduceLE, St.good, noAny, distinct, SubSt, subE, subHp]) <;> (repeat' (first | exact trivial | rfl | apply And.intro | (simp; done)))); done)
    | (refine hK4 _ ?_; (refine ⟨?_, ?_, ?_⟩ <;> (try simp only [go_sem, Nat.reduceBEq, Nat.reduceAdd, Nat.reduceLeDiff, Nat.reduceSub, Nat.reduceMul, Int.reduceToNat, Int.reduceLT, Int.reduceLE, St.good, noAny, distinct, SubSt, subE, subHp, *]) <;> (repeat' (first | exact trivial | rfl | apply And.intro | (simp [*]; done)))); done)
    | (refine hK5 _ ?_; (refine ⟨?_, ?_, ?_⟩ <;> (try simp only [go_sem, Nat.reduceBEq, Nat.reduceAdd, Nat.reduceLeDiff, Nat.reduceSub, Nat.reduceMul, Int.reduceToNat, Int.reduceLT, Int.reduceLE, St.good, noAny, distinct, SubSt, subE, subHp, *]) <;> (repeat' (first | exact trivial | rfl | apply And.intro | (simp [*]; done)))); done)
    | (refine hK6 _ ?_; (refine ⟨?_, ?_, ?_⟩ <;> (try simp only [go_sem, Nat.reduceBEq, Nat.reduceAdd, Nat.reduceLeDiff, Nat.reduceSub, Nat.reduceMul, Int.reduceToNat, Int.reduceLT, Int.reduceLE, St.good, noAny, distinct, SubSt, subE, subHp, *]) <;> (repeat' (first | exact trivial | rfl | apply And.intro | (simp [*]; done)))); done)
    | (refine bfork (fun hc => ?_) (fun hc => ?_))
    | (refine ⟨_, getE_map (inb_toNat (by assumption)), ?_⟩; (first | rw [M.lok_compU] | rw [M.lokD_compU]); simp (maxSteps := 400000) only [go_sem, Nat.reduceBEq, Nat.reduceAdd, Nat.reduceLeDiff, Nat.reduceSub, Nat.reduceMul, Int.reduceToNat, Int.reduceLT, Int.reduceLE])
    | (refine And.intro (ltb_of (by assumption)) ?_)
    | fail)
theorem W_ref27_Open : ∀ {a_ : GEstate} {place_ : Int} {link_ : Int} {t_ : Int} {y : Bool}, F_ref27_Open a_ place_ link_ t_ = some y → ACall Try.prog 39 [GEstate.v a_, .int .i64 place_, .int .i64 link_, .int .i64 t_] [] (fun r H => r = .bool y ∧ H = []) :=
  fun hy => Wq_ref27_Open _ _ _ _ (Q := fun z => z = _) ⟨_, hy, rfl⟩ fun z e => by subst e; exact ⟨rfl, rfl⟩

noncomputable def F_ref27_Linked_L1 (a_ : GEstate) (place_ : Int) (t_ : Int) (x33 : Int) : Option (Fl Int (Sum Unit (Int × Bool))) :=
  bif decide (0 ≤ x33) then (F_ref27_Open a_ place_ x33 t_).bind fun y41 => bif y41 then some (.ex (.inr (x33, true))) else chk (in64 (x33 - 1)) (some (.nx (x33 - 1))) else some (.ex (.inl ()))
noncomputable def F_ref27_Linked (a_ : GEstate) (place_ : Int) (t_ : Int) : Option (Int × Bool) :=
  chk (in64 ((a_.Events.length : Int) - 1)) ((loop (F_ref27_Linked_L1 a_ place_ t_) ((a_.Events.length : Int) - 1)).bind fun r42 => Sum.elim (fun u43 => some (0, false)) (fun u44 => some u44) r42)

/- leakresponse/leakresponseref27.Linked -/
@[irreducible] def mc_ref27_Linked_L1 : MC :=
  (.seq (.seq (.reg [⟨.mv (.t 8), (some 13), none⟩,
    ⟨.bin false .geq (.t 13) (.c (.int .i64 0)), (some 14), none⟩])
  (.cond (.t 14)
    .skip
    (.exit 0)))
  (.seq (.block 1
  (.seq (.reg [⟨.ld (some 2) (.t 3), (some 17), none⟩,
    ⟨.mv (.t 1), (some 18), none⟩,
    ⟨.mv (.t 8), (some 19), none⟩,
    ⟨.mv (.t 2), (some 20), none⟩,
    ⟨.call (.f 39) [(.t 17), (.t 18), (.t 19), (.t 20)] [] [], (some 21), none⟩])
  (.cond (.t 21)
    (.seq (.note (.gc [8]) (.reg [⟨.mv (.t 8), (some 22), none⟩,
      ⟨.mv (.t 22), (some 6), none⟩,
      ⟨.mv (.c (.bool true)), (some 7), none⟩]))
    .ret)
    .skip)))
  (.reg [⟨.mv (.t 8), (some 15), none⟩,
    ⟨.bin true .sub (.t 15) (.c (.int .i64 1)), (some 16), none⟩,
    ⟨.mv (.t 16), (some 8), none⟩])))
def mc_ref27_Linked : MC :=
  (.seq (.reg [⟨.box (.t 0), (some 3), none⟩,
    ⟨.mv (.c (.int .i64 0)), (some 6), none⟩,
    ⟨.mv (.c (.bool false)), (some 7), none⟩])
  (.seq (.seq (.reg [⟨.fad 1 (.t 3), (some 9), none⟩,
    ⟨.ld none (.t 9), (some 10), none⟩,
    ⟨.len false (.t 10), (some 11), none⟩,
    ⟨.bin true .sub (.t 11) (.c (.int .i64 1)), (some 12), none⟩,
    ⟨.mv (.t 12), (some 8), none⟩])
  (.block 0
  (.loop mc_ref27_Linked_L1)))
  (.seq (.reg [⟨.mv (.c (.int .i64 0)), (some 6), none⟩,
    ⟨.mv (.c (.bool false)), (some 7), none⟩])
  .ret)))
theorem ok_ref27_Linked : mc_ref27_Linked.ok Try.prog Try.f25.ntmps (Try.f25.body.getD .skip) = true := by kernel_rfl

set_option maxHeartbeats 2000000 in
theorem Wq_ref27_Linked (a_ : GEstate) (place_ : Int) (t_ : Int) {Q : Int × Bool → Prop} {Q' : V → Heap → Prop} (h : Ok (F_ref27_Linked a_ place_ t_) Q) (hQ : ∀ z, Q z → Q' (.tup [.int .i64 z.1, .bool z.2]) []) : ACall Try.prog 25 [GEstate.v a_, .int .i64 place_, .int .i64 t_] [] Q' := by
  refine acall_machN [] [] [.t 6, .t 7] Try.func25 rfl (by kernel_rfl) ok_ref27_Linked (by kernel_rfl) rfl rfl fun M hf => ?_
  clear hf
  unfold F_ref27_Linked at h
  unfold mc_ref27_Linked
  (try simp (maxSteps := 400000) only [go_sem, Nat.reduceBEq, Nat.reduceAdd, Nat.reduceLeDiff, Nat.reduceSub, Nat.reduceMul, Int.reduceToNat, Int.reduceLT, Int.reduceLE] at h)
  simp (maxSteps := 400000) only [go_sem, Nat.reduceBEq, Nat.reduceAdd, Nat.reduceLeDiff, Nat.reduceSub, Nat.reduceMul, Int.reduceToNat, Int.reduceLT, Int.reduceLE]
  repeat' (first
    | (exact hQ _ h)
    | (have hq := hQ _ h; simp (maxSteps := 400000) only [go_sem, Nat.reduceBEq, Nat.reduceAdd, Nat.reduceLeDiff, Nat.reduceSub, Nat.reduceMul, Int.reduceToNat, Int.reduceLT, Int.reduceLE] at hq; exact hq)
    | (refine oblg h ?_; clear h; intro hc h)
    | (refine fork h ?_ ?_ <;> clear h <;> intro hc h)
    | (refine forkS h ?_ ?_ <;> clear h <;> intro hc h)
    | (refine And.intro (chkD_of rfl) ?_)
    | (obtain ⟨y, hy, h⟩ := h; have hw := W_ref27_Open hy; (try simp (maxSteps := 400000) only [go_sem, Nat.reduceBEq, Nat.reduceAdd, Nat.reduceLeDiff, Nat.reduceSub, Nat.reduceMul, Int.reduceToNat, Int.reduceLT, Int.reduceLE] at hw); refine sCall_of hw rfl rfl ?_; clear hw; clear hy; rw [M.lok_eq]; simp (maxSteps := 400000) only [go_sem, Nat.reduceBEq, Nat.reduceAdd, Nat.reduceLeDiff, Nat.reduceSub, Nat.reduceMul, Int.reduceToNat, Int.reduceLT, Int.reduceLE])
    | (obtain ⟨y, hy, h⟩ := h; have hw := W_ref27_Open hy; (try simp (maxSteps := 400000) only [go_sem, Nat.reduceBEq, Nat.reduceAdd, Nat.reduceLeDiff, Nat.reduceSub, Nat.reduceMul, Int.reduceToNat, Int.reduceLT, Int.reduceLE] at hw); refine sCallD_of hw rfl rfl ?_; clear hw; clear hy; rw [M.lokD_eq]; simp (maxSteps := 400000) only [go_sem, Nat.reduceBEq, Nat.reduceAdd, Nat.reduceLeDiff, Nat.reduceSub, Nat.reduceMul, Int.reduceToNat, Int.reduceLT, Int.reduceLE])
    | (refine M.wh1 (b := mc_ref27_Linked_L1) [1, 2, 3] [3] (fun x => [(8, .int .i64 x)]) (fun x => []) [] h ?_ ?_ <;> first
       | (clear h; intro x Qn K hK1 h; unfold F_ref27_Linked_L1 at h; unfold mc_ref27_Linked_L1; (try simp (maxSteps := 400000) only [go_sem, Nat.reduceBEq, Nat.reduceAdd, Nat.reduceLeDiff, Nat.reduceSub, Nat.reduceMul, Int.reduceToNat, Int.reduceLT, Int.reduceLE] at h); simp (maxSteps := 400000) only [go_sem, Nat.reduceBEq, Nat.reduceAdd, Nat.reduceLeDiff, Nat.reduceSub, Nat.reduceMul, Int.reduceToNat, Int.reduceLT, Int.reduceLE])
       | (clear h; (try simp only [go_sem, Nat.reduceBEq, Nat.reduceAdd, Nat.reduceLeDiff, Nat.reduceSub, Nat.reduceMul, Int.reduceToNat, Int.reduceLT, Int.reduceLE]); (refine ⟨?_, ?_, ?_⟩ <;> (try simp only [go_sem, Nat.reduceBEq, Nat.reduceAdd, Nat.reduceLeDiff, Nat.reduceSub, Nat.reduceMul, Int.reduceToNat, Int.reduceLT, Int.reduceLE, St.good, noAny, distinct, SubSt, subE, subHp]) <;> (repeat' (first | exact trivial | rfl | apply And.intro | (simp; done)))); done)
       | fail)
    | (refine hK1 _ ?_; (try simp only [go_sem, Nat.reduceBEq, Nat.reduceAdd, Nat.reduceLeDiff, Nat.reduceSub, Nat.reduceMul, Int.reduceToNat, Int.reduceLT, Int.reduceLE]); refine ⟨_, h, ?_⟩; (refine ⟨?_, ?_, ?_⟩ <;> (try simp only [go_sem, Nat.reduceBEq, Nat.reduceAdd, Nat.reduceLeDiff, Nat.reduceSub, Nat.reduceMul, Int.reduceToNat, Int.reduceLT, Int.reduceLE, St.good, noAny, distinct, SubSt, subE, subHp]) <;> (repeat' (first | exact trivial | rfl | apply And.intro | (simp; done)))); done)
    | (refine ⟨_, getE_map (inb_toNat (by assumption)), ?_⟩; (first | rw [M.lok_compU] | rw [M.lokD_compU]); simp (maxSteps := 400000) only [go_sem, Nat.reduceBEq, Nat.reduceAdd, Nat.reduceLeDiff, Nat.reduceSub, Nat.reduceMul, Int.reduceToNat, Int.reduceLT, Int.reduceLE])
    | (refine And.intro (ltb_of (by assumption)) ?_)
    | fail)
theorem W_ref27_Linked : ∀ {a_ : GEstate} {place_ : Int} {t_ : Int} {y : Int × Bool}, F_ref27_Linked a_ place_ t_ = some y → ACall Try.prog 25 [GEstate.v a_, .int .i64 place_, .int .i64 t_] [] (fun r H => r = .tup [.int .i64 y.1, .bool y.2] ∧ H = []) :=
  fun hy => Wq_ref27_Linked _ _ _ (Q := fun z => z = _) ⟨_, hy, rfl⟩ fun z e => by subst e; exact ⟨rfl, rfl⟩

noncomputable def F_ref27_Granted_L1 (a_ : GEstate) (place_ : Int) (t_ : Int) (x41 : Int × (List Int)) : Option (Fl (Int × (List Int)) (List Int)) :=
  bif decide (x41.1 < 24) then jn (α := List Int) ((F_ref27_grant a_ place_ x41.1 t_).bind fun y51 => bif decide (0 ≤ y51) then chk (room (x41.2.length + [x41.1].length) 8) (some (x41.2 ++ [x41.1])) else some x41.2) fun j49 => chk (in64 (x41.1 + 1)) (some (.nx ((x41.1 + 1), j49))) else some (.ex x41.2)
noncomputable def F_ref27_Granted (a_ : GEstate) (place_ : Int) (t_ : Int) : Option (List Int) :=
  (F_ref27_Place a_ place_).bind fun y4 => bif (!y4) then some [] else (loop (F_ref27_Granted_L1 a_ place_ t_) (0, [])).bind fun r52 => some r52

/- leakresponse/leakresponseref27.Granted -/
@[irreducible] def mc_ref27_Granted_J1 : MC :=
  (.reg [⟨.mv (.t 8), (some 15), none⟩,
    ⟨.bin true .add (.t 15) (.c (.int .i64 1)), (some 16), none⟩,
    ⟨.mv (.t 16), (some 8), none⟩])
@[irreducible] def mc_ref27_Granted_L1 : MC :=
  (.seq (.seq (.reg [⟨.mv (.t 8), (some 13), none⟩,
    ⟨.bin false .lss (.t 13) (.c (.int .i64 24)), (some 14), none⟩])
  (.cond (.t 14)
    .skip
    (.exit 0)))
  (.cut (.block 1
  (.seq (.reg [⟨.ld (some 2) (.t 3), (some 17), none⟩,
    ⟨.mv (.t 1), (some 18), none⟩,
    ⟨.mv (.t 8), (some 19), none⟩,
    ⟨.mv (.t 2), (some 20), none⟩,
    ⟨.call (.f 38) [(.t 17), (.t 18), (.t 19), (.t 20)] [] [], (some 21), none⟩,
    ⟨.bin false .geq (.t 21) (.c (.int .i64 0)), (some 22), none⟩])
  (.cond (.t 22)
    (.note (.gc [1, 2, 3, 7, 8]) (.reg [⟨.mv (.t 7), (some 23), none⟩,
      ⟨.mv (.t 8), (some 24), none⟩,
      ⟨.bslice 1 [(.t 24)], (some 25), none⟩,
      ⟨.app 1 8 (.t 23) (.t 25), (some 26), none⟩,
      ⟨.mv (.t 26), (some 7), none⟩]))
    .skip)))
  mc_ref27_Granted_J1))
def mc_ref27_Granted : MC :=
  (.seq (.reg [⟨.box (.t 0), (some 3), none⟩,
    ⟨.mv (.c (.sl [])), (some 6), none⟩])
  (.seq (.seq (.reg [⟨.ld (some 2) (.t 3), (some 9), none⟩,
    ⟨.mv (.t 1), (some 10), none⟩,
    ⟨.call (.f 37) [(.t 9), (.t 10)] [] [], (some 11), none⟩,
    ⟨.not (.t 11), (some 12), none⟩])
  (.cond (.t 12)
    (.seq (.reg [⟨.mv (.c (.sl [])), (some 6), none⟩])
    .ret)
    .skip))
  (.seq (.reg [⟨.mv (.c .nils), (some 7), none⟩])
  (.seq (.seq (.reg [⟨.mv (.c (.int .i64 0)), (some 8), none⟩])
  (.block 0
  (.loop mc_ref27_Granted_L1)))
  (.seq (.reg [⟨.mv (.t 7), (some 27), none⟩,
    ⟨.mv (.t 27), (some 6), none⟩])
  .ret)))))
theorem ok_ref27_Granted : mc_ref27_Granted.ok Try.prog Try.f26.ntmps (Try.f26.body.getD .skip) = true := by kernel_rfl

set_option maxHeartbeats 2000000 in
theorem Wq_ref27_Granted (a_ : GEstate) (place_ : Int) (t_ : Int) {Q : List Int → Prop} {Q' : V → Heap → Prop} (h : Ok (F_ref27_Granted a_ place_ t_) Q) (hQ : ∀ z, Q z → Q' (.sl (z.map (V.int .i64))) []) : ACall Try.prog 26 [GEstate.v a_, .int .i64 place_, .int .i64 t_] [] Q' := by
  refine acall_machN [.fz 6] [] [.t 6] Try.func26 rfl (by kernel_rfl) ok_ref27_Granted (by kernel_rfl) rfl rfl fun M hf => ?_
  clear hf
  unfold F_ref27_Granted at h
  unfold mc_ref27_Granted
  (try simp (maxSteps := 400000) only [go_sem, Nat.reduceBEq, Nat.reduceAdd, Nat.reduceLeDiff, Nat.reduceSub, Nat.reduceMul, Int.reduceToNat, Int.reduceLT, Int.reduceLE] at h)
  simp (maxSteps := 400000) only [go_sem, Nat.reduceBEq, Nat.reduceAdd, Nat.reduceLeDiff, Nat.reduceSub, Nat.reduceMul, Int.reduceToNat, Int.reduceLT, Int.reduceLE]
  repeat' (first
    | (exact hQ _ h)
    | (have hq := hQ _ h; simp (maxSteps := 400000) only [go_sem, Nat.reduceBEq, Nat.reduceAdd, Nat.reduceLeDiff, Nat.reduceSub, Nat.reduceMul, Int.reduceToNat, Int.reduceLT, Int.reduceLE] at hq; exact hq)
    | (refine oblg h ?_; clear h; intro hc h)
    | (refine fork h ?_ ?_ <;> clear h <;> intro hc h)
    | (refine forkS h ?_ ?_ <;> clear h <;> intro hc h)
    | (refine And.intro (chkD_of rfl) ?_)
    | (obtain ⟨y, hy, h⟩ := h; have hw := W_ref27_Place hy; (try simp (maxSteps := 400000) only [go_sem, Nat.reduceBEq, Nat.reduceAdd, Nat.reduceLeDiff, Nat.reduceSub, Nat.reduceMul, Int.reduceToNat, Int.reduceLT, Int.reduceLE] at hw); refine sCall_of hw rfl rfl ?_; clear hw; clear hy; rw [M.lok_eq]; simp (maxSteps := 400000) only [go_sem, Nat.reduceBEq, Nat.reduceAdd, Nat.reduceLeDiff, Nat.reduceSub, Nat.reduceMul, Int.reduceToNat, Int.reduceLT, Int.reduceLE])
    | (obtain ⟨y, hy, h⟩ := h; have hw := W_ref27_Place hy; (try simp (maxSteps := 400000) only [go_sem, Nat.reduceBEq, Nat.reduceAdd, Nat.reduceLeDiff, Nat.reduceSub, Nat.reduceMul, Int.reduceToNat, Int.reduceLT, Int.reduceLE] at hw); refine sCallD_of hw rfl rfl ?_; clear hw; clear hy; rw [M.lokD_eq]; simp (maxSteps := 400000) only [go_sem, Nat.reduceBEq, Nat.reduceAdd, Nat.reduceLeDiff, Nat.reduceSub, Nat.reduceMul, Int.reduceToNat, Int.reduceLT, Int.reduceLE])
    | (obtain ⟨y, hy, h⟩ := h; have hw := W_ref27_grant hy; (try simp (maxSteps := 400000) only [go_sem, Nat.reduceBEq, Nat.reduceAdd, Nat.reduceLeDiff, Nat.reduceSub, Nat.reduceMul, Int.reduceToNat, Int.reduceLT, Int.reduceLE] at hw); refine sCall_of hw rfl rfl ?_; clear hw; clear hy; rw [M.lok_eq]; simp (maxSteps := 400000) only [go_sem, Nat.reduceBEq, Nat.reduceAdd, Nat.reduceLeDiff, Nat.reduceSub, Nat.reduceMul, Int.reduceToNat, Int.reduceLT, Int.reduceLE])
    | (obtain ⟨y, hy, h⟩ := h; have hw := W_ref27_grant hy; (try simp (maxSteps := 400000) only [go_sem, Nat.reduceBEq, Nat.reduceAdd, Nat.reduceLeDiff, Nat.reduceSub, Nat.reduceMul, Int.reduceToNat, Int.reduceLT, Int.reduceLE] at hw); refine sCallD_of hw rfl rfl ?_; clear hw; clear hy; rw [M.lokD_eq]; simp (maxSteps := 400000) only [go_sem, Nat.reduceBEq, Nat.reduceAdd, Nat.reduceLeDiff, Nat.reduceSub, Nat.reduceMul, Int.reduceToNat, Int.reduceLT, Int.reduceLE])
    | (refine M.jn1 (b := mc_ref27_Granted_J1) [1, 2, 3, 8] [3] (fun y => [(7, .osl 2007 1 0 y.length)]) (fun y => [.o 2007 (.arr 1 (y.map (V.int .i64)))]) [.gc [1, 2, 3, 7, 8], .acc 7 2007 1] h ?_ ?_ <;> first
       | (clear h; intro Qn K hK1 h; (try simp (maxSteps := 400000) only [go_sem, Nat.reduceBEq, Nat.reduceAdd, Nat.reduceLeDiff, Nat.reduceSub, Nat.reduceMul, Int.reduceToNat, Int.reduceLT, Int.reduceLE] at h); simp (maxSteps := 400000) only [go_sem, Nat.reduceBEq, Nat.reduceAdd, Nat.reduceLeDiff, Nat.reduceSub, Nat.reduceMul, Int.reduceToNat, Int.reduceLT, Int.reduceLE])
       | (clear h; intro y h; unfold mc_ref27_Granted_J1; (try simp (maxSteps := 400000) only [go_sem, Nat.reduceBEq, Nat.reduceAdd, Nat.reduceLeDiff, Nat.reduceSub, Nat.reduceMul, Int.reduceToNat, Int.reduceLT, Int.reduceLE] at h); simp (maxSteps := 400000) only [go_sem, Nat.reduceBEq, Nat.reduceAdd, Nat.reduceLeDiff, Nat.reduceSub, Nat.reduceMul, Int.reduceToNat, Int.reduceLT, Int.reduceLE])
       | fail)
    | (refine M.wh1 (b := mc_ref27_Granted_L1) [1, 2, 3] [3] (fun x => [(7, .osl 2007 1 0 x.2.length), (8, .int .i64 x.1)]) (fun x => [.o 2007 (.arr 1 (x.2.map (V.int .i64)))]) [.gc [1, 2, 3, 7, 8], .acc 7 2007 1] h ?_ ?_ <;> first
       | (clear h; intro x Qn K hK2 h; unfold F_ref27_Granted_L1 at h; unfold mc_ref27_Granted_L1; (try simp (maxSteps := 400000) only [go_sem, Nat.reduceBEq, Nat.reduceAdd, Nat.reduceLeDiff, Nat.reduceSub, Nat.reduceMul, Int.reduceToNat, Int.reduceLT, Int.reduceLE] at h); simp (maxSteps := 400000) only [go_sem, Nat.reduceBEq, Nat.reduceAdd, Nat.reduceLeDiff, Nat.reduceSub, Nat.reduceMul, Int.reduceToNat, Int.reduceLT, Int.reduceLE])
       | (clear h; (try simp only [go_sem, Nat.reduceBEq, Nat.reduceAdd, Nat.reduceLeDiff, Nat.reduceSub, Nat.reduceMul, Int.reduceToNat, Int.reduceLT, Int.reduceLE]); (refine ⟨?_, ?_, ?_⟩ <;> (try simp only [go_sem, Nat.reduceBEq, Nat.reduceAdd, Nat.reduceLeDiff, Nat.reduceSub, Nat.reduceMul, Int.reduceToNat, Int.reduceLT, Int.reduceLE, St.good, noAny, distinct, SubSt, subE, subHp]) <;> (repeat' (first | exact trivial | rfl | apply And.intro | (simp; done)))); done)
       | fail)
    | (refine hK1 _ ?_; (try simp only [go_sem, Nat.reduceBEq, Nat.reduceAdd, Nat.reduceLeDiff, Nat.reduceSub, Nat.reduceMul, Int.reduceToNat, Int.reduceLT, Int.reduceLE]); refine ⟨_, h, ?_⟩; (refine ⟨?_, ?_, ?_⟩ <;> (try simp only [go_sem, Nat.reduceBEq, Nat.reduceAdd, Nat.reduceLeDiff, Nat.reduceSub, Nat.reduceMul, Int.reduceToNat, Int.reduceLT, Int.reduceLE, St.good, noAny, distinct, SubSt, subE, subHp]) <;> (repeat' (first | exact trivial | rfl | apply And.intro | (simp; done)))); done)
    | (refine hK2 _ ?_; (try simp only [go_sem, Nat.reduceBEq, Nat.reduceAdd, Nat.reduceLeDiff, Nat.reduceSub, Nat.reduceMul, Int.reduceToNat, Int.reduceLT, Int.reduceLE]); refine ⟨_, h, ?_⟩; (refine ⟨?_, ?_, ?_⟩ <;> (try simp only [go_sem, Nat.reduceBEq, Nat.reduceAdd, Nat.reduceLeDiff, Nat.reduceSub, Nat.reduceMul, Int.reduceToNat, Int.reduceLT, Int.reduceLE, St.good, noAny, distinct, SubSt, subE, subHp]) <;> (repeat' (first | exact trivial | rfl | apply And.intro | (simp; done)))); done)
    | (refine ⟨_, getE_map (inb_toNat (by assumption)), ?_⟩; (first | rw [M.lok_compU] | rw [M.lokD_compU]); simp (maxSteps := 400000) only [go_sem, Nat.reduceBEq, Nat.reduceAdd, Nat.reduceLeDiff, Nat.reduceSub, Nat.reduceMul, Int.reduceToNat, Int.reduceLT, Int.reduceLE])
    | (refine And.intro (ltb_of (by assumption)) ?_)
    | fail)
theorem W_ref27_Granted : ∀ {a_ : GEstate} {place_ : Int} {t_ : Int} {y : List Int}, F_ref27_Granted a_ place_ t_ = some y → ACall Try.prog 26 [GEstate.v a_, .int .i64 place_, .int .i64 t_] [] (fun r H => r = .sl (y.map (V.int .i64)) ∧ H = []) :=
  fun hy => Wq_ref27_Granted _ _ _ (Q := fun z => z = _) ⟨_, hy, rfl⟩ fun z e => by subst e; exact ⟨rfl, rfl⟩

noncomputable def F_law27_AccessExact_L1 (a2514 : GEstate) (k3075 : Int) (a3076 : GA50) (x3074 : Unit) : Option (Fl Unit Bool) :=
  (F_access_Grant a2514 a3076.e0 a3076.e1 a3076.e2).bind fun y3120 => (F_ref27_Grant a2514 a3076.e0 a3076.e1 a3076.e2).bind fun y3122 => (F_access_Linked a2514 a3076.e0 a3076.e2).bind fun y3124 => (F_ref27_Linked a2514 a3076.e0 a3076.e2).bind fun y3126 => bif (!decide (y3120.1 = y3122.1)) then some (.ex false) else bif (!(y3120.2 == y3122.2)) then some (.ex false) else bif (!decide (y3124.1 = y3126.1)) then some (.ex false) else bif (!(y3124.2 == y3126.2)) then some (.ex false) else (F_access_Granted a2514 a3076.e0 a3076.e2).bind fun y3130 => (F_ref27_Granted a2514 a3076.e0 a3076.e2).bind fun y3131 => (F_ref23_Ints y3130 y3131).bind fun y3132 => bif (!y3132) then some (.ex false) else some (.nx ())
noncomputable def F_law27_AccessExact_L2 (place_ : Int) (p_ : Int) (t_ : Int) (k2513 : Int) (a2514 : GEstate) (x2512 : GTape) : Option (Fl GTape Bool) :=
  (F_access_Check a2514).bind fun y2995 => (F_ref27_Check a2514).bind fun y2996 => bif (!decide (y2995 = y2996)) then some (.ex false) else (F_access_Times a2514).bind fun y2997 => (F_ref27_Times a2514).bind fun y2998 => (F_ref23_Ints y2997 y2998).bind fun y2999 => bif (!y2999) then some (.ex false) else (F_made_Tape_Next x2512 4).bind fun y3008 => (F_made_Tape_Next y3008.2 8).bind fun y3009 => (F_made_Tape_Next y3009.2 32).bind fun y3010 => (F_made_Tape_Between y3010.2 (-1) 4).bind fun y3011 => (F_made_Tape_Between y3011.2 (-1) 8).bind fun y3012 => (F_made_Tape_Next y3012.2 32).bind fun y3013 => (F_made_Tape_Next y3013.2 4).bind fun y3014 => (F_made_Tape_Next y3014.2 8).bind fun y3015 => (forL (F_law27_AccessExact_L1 a2514) [(GA50.mk place_ p_ t_), (GA50.mk y3008.1 y3009.1 y3010.1), (GA50.mk y3011.1 y3012.1 y3013.1), (GA50.mk y3014.1 y3015.1 40)] 0 ()).bind fun o => o.elim (fun x3133 => some (.nx y3015.2)) (fun r3134 => some (.ex r3134))
noncomputable def F_law27_AccessExact (l_ : List Int) (raw_ : GEstate) (place_ : Int) (p_ : Int) (t_ : Int) : Option Bool :=
  grp ((decide (300 < (l_.length : Int)) || decide (40 < (raw_.Events.length : Int)))) fun b6 => bif b6 then F_law27_awake.bind fun y8 => some y8 else (F_made_Directory (GTape.mk l_ 0)).bind fun y11 => (F_made_Estate y11.2 y11.1).bind fun y12 => (F_made_BentEstate y12.2 y12.1).bind fun y1576 => (forL (F_law27_AccessExact_L2 place_ p_ t_) [y12.1, y1576.1, raw_] 0 y1576.2).bind fun o => o.elim (fun x3135 => F_law27_awake.bind fun y3138 => some y3138) (fun r3136 => some r3136)

/- leakresponse/leakresponselaw27.AccessExact -/
@[irreducible] def mg_law27_AccessExact_1 : List MOp := [⟨.fad 1 (.t 6), (some 29), (some (28, false))⟩,
    ⟨.ld none (.t 29), (some 30), (some (28, false))⟩,
    ⟨.len false (.t 30), (some 31), (some (28, false))⟩,
    ⟨.bin false .gtr (.t 31) (.c (.int .i64 40)), (some 32), (some (28, false))⟩,
    ⟨.pick (.t 28) (.c (.bool true)) (.t 32), (some 33), none⟩]
@[irreducible] def mc_law27_AccessExact_L1 : MC :=
  (.seq (.reg [⟨.bin false .lss (.t 88) (.c (.int .i64 4)), (some 89), none⟩])
  (.seq (.cond (.t 89)
    .skip
    (.exit 2))
  (.seq (.block 3
  (.seq (.reg [⟨.aix (some 3) 3 4 (.t 87) (.t 88), (some 90), none⟩,
    ⟨.alloc [(.int .i64 0), (.int .i64 0), (.int .i64 0)], (some 16), none⟩,
    ⟨.st 3 (.t 16) (.t 90), none, none⟩])
  (.seq (.reg [⟨.ld (some 2) (.t 14), (some 92), none⟩,
    ⟨.aad 1 3 (.t 16) (.c (.int .i64 0)), (some 93), none⟩,
    ⟨.ld none (.t 93), (some 94), none⟩,
    ⟨.aad 1 3 (.t 16) (.c (.int .i64 1)), (some 95), none⟩,
    ⟨.ld none (.t 95), (some 96), none⟩,
    ⟨.aad 1 3 (.t 16) (.c (.int .i64 2)), (some 97), none⟩,
    ⟨.ld none (.t 97), (some 98), none⟩,
    ⟨.call (.f 17) [(.t 92), (.t 94), (.t 96), (.t 98)] [] [], (some 99), none⟩,
    ⟨.mv (.t 99), (some 91), none⟩,
    ⟨.ext 0 (.t 91), (some 100), none⟩,
    ⟨.ext 1 (.t 91), (some 101), none⟩,
    ⟨.mv (.t 100), (some 17), none⟩,
    ⟨.mv (.t 101), (some 18), none⟩])
  (.seq (.note (.gc [2, 3, 4, 11, 14, 16, 17, 18, 47, 48, 57, 58, 59, 60, 61, 62, 87, 88, 135, 136, 137, 140, 141, 142, 145, 146, 147, 150, 151, 152, 153, 154, 155, 156, 157, 158, 159, 160, 161, 162, 163]) (.reg [⟨.ld (some 2) (.t 14), (some 103), none⟩,
    ⟨.aad 1 3 (.t 16) (.c (.int .i64 0)), (some 104), none⟩,
    ⟨.ld none (.t 104), (some 105), none⟩,
    ⟨.aad 1 3 (.t 16) (.c (.int .i64 1)), (some 106), none⟩,
    ⟨.ld none (.t 106), (some 107), none⟩,
    ⟨.aad 1 3 (.t 16) (.c (.int .i64 2)), (some 108), none⟩,
    ⟨.ld none (.t 108), (some 109), none⟩,
    ⟨.call (.f 24) [(.t 103), (.t 105), (.t 107), (.t 109)] [] [], (some 110), none⟩,
    ⟨.mv (.t 110), (some 102), none⟩,
    ⟨.ext 0 (.t 102), (some 111), none⟩,
    ⟨.ext 1 (.t 102), (some 112), none⟩,
    ⟨.mv (.t 111), (some 19), none⟩,
    ⟨.mv (.t 112), (some 20), none⟩]))
  (.seq (.note (.gc [2, 3, 4, 11, 14, 16, 17, 18, 19, 20, 47, 48, 57, 58, 59, 60, 61, 62, 87, 88, 135, 136, 137, 140, 141, 142, 145, 146, 147, 150, 151, 152, 153, 154, 155, 156, 157, 158, 159, 160, 161, 162, 163]) (.reg [⟨.ld (some 2) (.t 14), (some 114), none⟩,
    ⟨.aad 1 3 (.t 16) (.c (.int .i64 0)), (some 115), none⟩,
    ⟨.ld none (.t 115), (some 116), none⟩,
    ⟨.aad 1 3 (.t 16) (.c (.int .i64 2)), (some 117), none⟩,
    ⟨.ld none (.t 117), (some 118), none⟩,
    ⟨.call (.f 14) [(.t 114), (.t 116), (.t 118)] [] [], (some 119), none⟩,
    ⟨.mv (.t 119), (some 113), none⟩,
    ⟨.ext 0 (.t 113), (some 120), none⟩,
    ⟨.ext 1 (.t 113), (some 121), none⟩,
    ⟨.mv (.t 120), (some 21), none⟩,
    ⟨.mv (.t 121), (some 22), none⟩]))
  (.seq (.note (.gc [2, 3, 4, 11, 14, 16, 17, 18, 19, 20, 21, 22, 47, 48, 57, 58, 59, 60, 61, 62, 87, 88, 135, 136, 137, 140, 141, 142, 145, 146, 147, 150, 151, 152, 153, 154, 155, 156, 157, 158, 159, 160, 161, 162, 163]) (.reg [⟨.ld (some 2) (.t 14), (some 123), none⟩,
    ⟨.aad 1 3 (.t 16) (.c (.int .i64 0)), (some 124), none⟩,
    ⟨.ld none (.t 124), (some 125), none⟩,
    ⟨.aad 1 3 (.t 16) (.c (.int .i64 2)), (some 126), none⟩,
    ⟨.ld none (.t 126), (some 127), none⟩,
    ⟨.call (.f 25) [(.t 123), (.t 125), (.t 127)] [] [], (some 128), none⟩,
    ⟨.mv (.t 128), (some 122), none⟩,
    ⟨.ext 0 (.t 122), (some 129), none⟩,
    ⟨.ext 1 (.t 122), (some 130), none⟩,
    ⟨.mv (.t 129), (some 23), none⟩,
    ⟨.mv (.t 130), (some 24), none⟩]))
  (.seq (.note (.gc [2, 3, 4, 11, 14, 16, 17, 18, 19, 20, 21, 22, 23, 24, 47, 48, 57, 58, 59, 60, 61, 62, 87, 88, 135, 136, 137, 140, 141, 142, 145, 146, 147, 150, 151, 152, 153, 154, 155, 156, 157, 158, 159, 160, 161, 162, 163]) (.regD [⟨.mv (.t 17), (some 131), none⟩,
    ⟨.mv (.t 19), (some 132), none⟩,
    ⟨.bin false .neq (.t 131) (.t 132), (some 133), none⟩,
    ⟨.mv (.t 133), (some 134), none⟩,
    ⟨.mv (.t 18), (some 135), (some (134, false))⟩,
    ⟨.mv (.t 20), (some 136), (some (134, false))⟩,
    ⟨.beq true (.t 135) (.t 136), (some 137), (some (134, false))⟩,
    ⟨.pick (.t 134) (.c (.bool true)) (.t 137), (some 138), none⟩,
    ⟨.mv (.t 138), (some 139), none⟩,
    ⟨.mv (.t 21), (some 140), (some (139, false))⟩,
    ⟨.mv (.t 23), (some 141), (some (139, false))⟩,
    ⟨.bin false .neq (.t 140) (.t 141), (some 142), (some (139, false))⟩,
    ⟨.pick (.t 139) (.c (.bool true)) (.t 142), (some 143), none⟩,
    ⟨.mv (.t 143), (some 144), none⟩,
    ⟨.mv (.t 22), (some 145), (some (144, false))⟩,
    ⟨.mv (.t 24), (some 146), (some (144, false))⟩,
    ⟨.beq true (.t 145) (.t 146), (some 147), (some (144, false))⟩,
    ⟨.pick (.t 144) (.c (.bool true)) (.t 147), (some 148), none⟩,
    ⟨.mv (.t 148), (some 149), none⟩,
    ⟨.ld (some 2) (.t 14), (some 150), (some (149, false))⟩,
    ⟨.aad 1 3 (.t 16) (.c (.int .i64 0)), (some 151), (some (149, false))⟩,
    ⟨.ld none (.t 151), (some 152), (some (149, false))⟩,
    ⟨.aad 1 3 (.t 16) (.c (.int .i64 2)), (some 153), (some (149, false))⟩,
    ⟨.ld none (.t 153), (some 154), (some (149, false))⟩,
    ⟨.call (.f 13) [(.t 150), (.t 152), (.t 154)] [] [], (some 155), (some (149, false))⟩,
    ⟨.ld (some 2) (.t 14), (some 156), (some (149, false))⟩,
    ⟨.aad 1 3 (.t 16) (.c (.int .i64 0)), (some 157), (some (149, false))⟩,
    ⟨.ld none (.t 157), (some 158), (some (149, false))⟩,
    ⟨.aad 1 3 (.t 16) (.c (.int .i64 2)), (some 159), (some (149, false))⟩,
    ⟨.ld none (.t 159), (some 160), (some (149, false))⟩,
    ⟨.call (.f 26) [(.t 156), (.t 158), (.t 160)] [] [], (some 161), (some (149, false))⟩,
    ⟨.call (.f 16) [(.t 155), (.t 161)] [] [], (some 162), (some (149, false))⟩,
    ⟨.not (.t 162), (some 163), (some (149, false))⟩,
    ⟨.pick (.t 149) (.c (.bool true)) (.t 163), (some 164), none⟩]
    [[], [], [0, 1], [2], [3], [3], [4, 5, 3], [3, 6], [7, 3], [8], [8], [9, 10, 8], [8, 11], [12, 8], [13], [13], [14, 15, 13], [13, 16], [17, 13], [18], [18], [20, 18], [18], [22, 18], [19, 21, 23, 18, 18], [18], [18], [26, 18], [18], [28, 18], [25, 27, 29, 24, 18], [24, 30, 30, 18], [31, 18], [18, 32]]
    [[], [], [0, 1], [0, 1, 2], [0, 1, 2, 3], [0, 1, 2, 3], [0, 1, 2, 3, 4, 5], [0, 1, 2, 3, 4, 5, 6], [0, 1, 2, 3, 4, 5, 6, 7], [0, 1, 2, 3, 4, 5, 6, 7, 8], [0, 1, 2, 3, 4, 5, 6, 7, 8], [0, 1, 2, 3, 4, 5, 6, 7, 8, 9, 10], [0, 1, 2, 3, 4, 5, 6, 7, 8, 9, 10, 11], [0, 1, 2, 3, 4, 5, 6, 7, 8, 9, 10, 11, 12], [0, 1, 2, 3, 4, 5, 6, 7, 8, 9, 10, 11, 12, 13], [0, 1, 2, 3, 4, 5, 6, 7, 8, 9, 10, 11, 12, 13], [0, 1, 2, 3, 4, 5, 6, 7, 8, 9, 10, 11, 12, 13, 14, 15], [0, 1, 2, 3, 4, 5, 6, 7, 8, 9, 10, 11, 12, 13, 14, 15, 16], [0, 1, 2, 3, 4, 5, 6, 7, 8, 9, 10, 11, 12, 13, 14, 15, 16, 17], [0, 1, 2, 3, 4, 5, 6, 7, 8, 9, 10, 11, 12, 13, 14, 15, 16, 17, 18], [0, 1, 2, 3, 4, 5, 6, 7, 8, 9, 10, 11, 12, 13, 14, 15, 16, 17, 18], [0, 1, 2, 3, 4, 5, 6, 7, 8, 9, 10, 11, 12, 13, 14, 15, 16, 17, 18, 20], [0, 1, 2, 3, 4, 5, 6, 7, 8, 9, 10, 11, 12, 13, 14, 15, 16, 17, 18], [0, 1, 2, 3, 4, 5, 6, 7, 8, 9, 10, 11, 12, 13, 14, 15, 16, 17, 18, 22], [0, 1, 2, 3, 4, 5, 6, 7, 8, 9, 10, 11, 12, 13, 14, 15, 16, 17, 18, 19, 20, 21, 22, 23], [0, 1, 2, 3, 4, 5, 6, 7, 8, 9, 10, 11, 12, 13, 14, 15, 16, 17, 18], [0, 1, 2, 3, 4, 5, 6, 7, 8, 9, 10, 11, 12, 13, 14, 15, 16, 17, 18], [0, 1, 2, 3, 4, 5, 6, 7, 8, 9, 10, 11, 12, 13, 14, 15, 16, 17, 18, 26], [0, 1, 2, 3, 4, 5, 6, 7, 8, 9, 10, 11, 12, 13, 14, 15, 16, 17, 18], [0, 1, 2, 3, 4, 5, 6, 7, 8, 9, 10, 11, 12, 13, 14, 15, 16, 17, 18, 28], [0, 1, 2, 3, 4, 5, 6, 7, 8, 9, 10, 11, 12, 13, 14, 15, 16, 17, 18, 19, 20, 21, 22, 23, 24, 25, 26, 27, 28, 29], [0, 1, 2, 3, 4, 5, 6, 7, 8, 9, 10, 11, 12, 13, 14, 15, 16, 17, 18, 19, 20, 21, 22, 23, 24, 25, 26, 27, 28, 29, 30], [0, 1, 2, 3, 4, 5, 6, 7, 8, 9, 10, 11, 12, 13, 14, 15, 16, 17, 18, 19, 20, 21, 22, 23, 24, 25, 26, 27, 28, 29, 30, 31], [0, 1, 2, 3, 4, 5, 6, 7, 8, 9, 10, 11, 12, 13, 14, 15, 16, 17, 18, 19, 20, 21, 22, 23, 24, 25, 26, 27, 28, 29, 30, 31, 32]]))
  (.cond (.t 164)
    (.seq (.reg [⟨.mv (.c (.bool false)), (some 10), none⟩])
    .ret)
    .skip))))))))
  (.reg [⟨.bin true .add (.t 88) (.c (.int .i64 1)), (some 165), none⟩,
    ⟨.mv (.t 165), (some 88), none⟩]))))
@[irreducible] def mc_law27_AccessExact_L2 : MC :=
  (.seq (.reg [⟨.bin false .lss (.t 48) (.c (.int .i64 3)), (some 49), none⟩])
  (.seq (.cond (.t 49)
    .skip
    (.exit 0))
  (.seq (.block 1
  (.seq (.reg [⟨.aix (some 2) 2 3 (.t 47) (.t 48), (some 50), none⟩,
    ⟨.alloc [(.int .i64 0), (.sl [])], (some 14), none⟩,
    ⟨.st 2 (.t 14) (.t 50), none, none⟩])
  (.seq (.seq (.regD [⟨.ld (some 2) (.t 14), (some 51), none⟩,
    ⟨.call (.f 15) [(.t 51)] [] [], (some 52), none⟩,
    ⟨.ld (some 2) (.t 14), (some 53), none⟩,
    ⟨.call (.f 21) [(.t 53)] [] [], (some 54), none⟩,
    ⟨.bin false .neq (.t 52) (.t 54), (some 55), none⟩,
    ⟨.mv (.t 55), (some 56), none⟩,
    ⟨.ld (some 2) (.t 14), (some 57), (some (56, false))⟩,
    ⟨.call (.f 19) [(.t 57)] [] [], (some 58), (some (56, false))⟩,
    ⟨.ld (some 2) (.t 14), (some 59), (some (56, false))⟩,
    ⟨.call (.f 22) [(.t 59)] [] [], (some 60), (some (56, false))⟩,
    ⟨.call (.f 16) [(.t 58), (.t 60)] [] [], (some 61), (some (56, false))⟩,
    ⟨.not (.t 61), (some 62), (some (56, false))⟩,
    ⟨.pick (.t 56) (.c (.bool true)) (.t 62), (some 63), none⟩]
    [[], [0], [], [2, 1], [1, 3], [4, 3], [5], [6, 5, 5], [5], [8, 7, 5], [7, 9, 9, 5], [10, 5], [5, 11]]
    [[], [0], [], [0, 1, 2], [0, 1, 2, 3], [0, 1, 2, 3, 4], [0, 1, 2, 3, 4, 5], [0, 1, 2, 3, 4, 5, 6], [0, 1, 2, 3, 4, 5], [0, 1, 2, 3, 4, 5, 6, 7, 8], [0, 1, 2, 3, 4, 5, 6, 7, 8, 9], [0, 1, 2, 3, 4, 5, 6, 7, 8, 9, 10], [0, 1, 2, 3, 4, 5, 6, 7, 8, 9, 10, 11]])
  (.cond (.t 63)
    (.seq (.reg [⟨.mv (.c (.bool false)), (some 10), none⟩])
    .ret)
    .skip))
  (.seq (.note (.gc [2, 3, 4, 11, 14, 47, 48, 57, 58, 59, 60, 61, 62, 135, 136, 137, 140, 141, 142, 145, 146, 147, 150, 151, 152, 153, 154, 155, 156, 157, 158, 159, 160, 161, 162, 163]) (.reg [⟨.mv (.t 2), (some 64), none⟩,
    ⟨.mv (.t 3), (some 65), none⟩,
    ⟨.mv (.t 4), (some 66), none⟩,
    ⟨.barr 1 [(.int .i64 0), (.int .i64 0), (.int .i64 0)] [(.t 64), (.t 65), (.t 66)], (some 67), none⟩,
    ⟨.mv (.t 11), (some 68), none⟩,
    ⟨.call (.f 12) [(.t 68), (.c (.int .i64 4))] [37] [], (some 69), none⟩,
    ⟨.mv (.t 11), (some 70), none⟩,
    ⟨.call (.f 12) [(.t 70), (.c (.int .i64 8))] [37] [], (some 71), none⟩,
    ⟨.mv (.t 11), (some 72), none⟩,
    ⟨.call (.f 12) [(.t 72), (.c (.int .i64 32))] [37] [], (some 73), none⟩,
    ⟨.barr 1 [(.int .i64 0), (.int .i64 0), (.int .i64 0)] [(.t 69), (.t 71), (.t 73)], (some 74), none⟩,
    ⟨.mv (.t 11), (some 75), none⟩,
    ⟨.call (.f 23) [(.t 75), (.c (.int .i64 (-1))), (.c (.int .i64 4))] [37] [], (some 76), none⟩,
    ⟨.mv (.t 11), (some 77), none⟩,
    ⟨.call (.f 23) [(.t 77), (.c (.int .i64 (-1))), (.c (.int .i64 8))] [37] [], (some 78), none⟩,
    ⟨.mv (.t 11), (some 79), none⟩,
    ⟨.call (.f 12) [(.t 79), (.c (.int .i64 32))] [37] [], (some 80), none⟩,
    ⟨.barr 1 [(.int .i64 0), (.int .i64 0), (.int .i64 0)] [(.t 76), (.t 78), (.t 80)], (some 81), none⟩,
    ⟨.mv (.t 11), (some 82), none⟩,
    ⟨.call (.f 12) [(.t 82), (.c (.int .i64 4))] [37] [], (some 83), none⟩,
    ⟨.mv (.t 11), (some 84), none⟩,
    ⟨.call (.f 12) [(.t 84), (.c (.int .i64 8))] [37] [], (some 85), none⟩,
    ⟨.barr 1 [(.int .i64 0), (.int .i64 0), (.int .i64 0)] [(.t 83), (.t 85), (.c (.int .i64 40))], (some 86), none⟩,
    ⟨.barr 3 [(.int .i64 0), (.int .i64 0), (.int .i64 0), (.int .i64 0), (.int .i64 0), (.int .i64 0), (.int .i64 0), (.int .i64 0), (.int .i64 0), (.int .i64 0), (.int .i64 0), (.int .i64 0)] [(.t 67), (.t 74), (.t 81), (.t 86)], (some 87), none⟩,
    ⟨.mv (.c (.int .i64 0)), (some 88), none⟩]))
  (.block 2
  (.loop mc_law27_AccessExact_L1))))))
  (.reg [⟨.bin true .add (.t 48) (.c (.int .i64 1)), (some 166), none⟩,
    ⟨.mv (.t 166), (some 48), none⟩]))))
def mc_law27_AccessExact : MC :=
  (.seq (.reg [⟨.box (.t 1), (some 6), none⟩,
    ⟨.mv (.c (.bool false)), (some 10), none⟩])
  (.seq (.seq (.regI [.op ⟨.mv (.t 0), (some 25), none⟩,
    .op ⟨.len false (.t 25), (some 26), none⟩,
    .op ⟨.bin false .gtr (.t 26) (.c (.int .i64 300)), (some 27), none⟩,
    .op ⟨.mv (.t 27), (some 28), none⟩,
    .grp mg_law27_AccessExact_1])
  (.cond (.t 33)
    (.seq (.reg [⟨.call (.f 9) [] [] [], (some 34), none⟩,
      ⟨.mv (.t 34), (some 10), none⟩])
    .ret)
    .skip))
  (.seq (.reg [⟨.mv (.t 0), (some 35), none⟩,
    ⟨.build [(.sl []), (.int .i64 0)] [(0, 1, (.t 35))], (some 36), none⟩,
    ⟨.box (.t 36), (some 37), none⟩,
    ⟨.mv (.t 37), (some 11), none⟩])
  (.seq (.note (.gc [2, 3, 4, 6, 11, 57, 58, 59, 60, 61, 62, 135, 136, 137, 140, 141, 142, 145, 146, 147, 150, 151, 152, 153, 154, 155, 156, 157, 158, 159, 160, 161, 162, 163]) (.reg [⟨.mv (.t 11), (some 38), none⟩,
    ⟨.mv (.t 11), (some 39), none⟩,
    ⟨.call (.f 11) [(.t 39)] [37] [], (some 40), none⟩,
    ⟨.call (.f 10) [(.t 38), (.t 40)] [37] [], (some 41), none⟩,
    ⟨.alloc [(.int .i64 0), (.sl [])], (some 12), none⟩,
    ⟨.st 2 (.t 12) (.t 41), none, none⟩]))
  (.seq (.seq (.regD [⟨.ld (some 2) (.t 12), (some 42), none⟩,
    ⟨.mv (.t 11), (some 43), none⟩,
    ⟨.ld (some 2) (.t 12), (some 44), none⟩,
    ⟨.call (.f 20) [(.t 43), (.t 44)] [37] [], (some 45), none⟩,
    ⟨.ld (some 2) (.t 6), (some 46), none⟩,
    ⟨.barr 2 [(.int .i64 0), (.sl []), (.int .i64 0), (.sl []), (.int .i64 0), (.sl [])] [(.t 42), (.t 45), (.t 46)], (some 47), none⟩,
    ⟨.mv (.c (.int .i64 0)), (some 48), none⟩]
    [[], [], [], [1, 2], [], [0, 3, 4], []]
    [[], [], [], [1, 2], [], [0, 1, 2, 3, 4], []])
  (.block 0
  (.loop mc_law27_AccessExact_L2)))
  (.seq (.reg [⟨.call (.f 9) [] [] [], (some 167), none⟩,
    ⟨.mv (.t 167), (some 10), none⟩])
  .ret))))))
theorem ok_law27_AccessExact : mc_law27_AccessExact.ok Try.prog Try.f8.ntmps (Try.f8.body.getD .skip) = true := by kernel_rfl

set_option maxHeartbeats 2000000 in
theorem Wq_law27_AccessExact (l_ : List Int) (raw_ : GEstate) (place_ : Int) (p_ : Int) (t_ : Int) {Q : Bool → Prop} {Q' : V → Heap → Prop} (h : Ok (F_law27_AccessExact l_ raw_ place_ p_ t_) Q) (hQ : ∀ z, Q z → Q' (.bool z) []) : ACall Try.prog 8 [.sl (l_.map (V.int .i64)), GEstate.v raw_, .int .i64 place_, .int .i64 p_, .int .i64 t_] [] Q' := by
  refine acall_machN [] [] [.t 10] Try.func8 rfl (by kernel_rfl) ok_law27_AccessExact (by kernel_rfl) rfl rfl fun M hf => ?_
  clear hf
  unfold F_law27_AccessExact at h
  unfold mc_law27_AccessExact
  (try simp (maxSteps := 400000) only [go_sem, Nat.reduceBEq, Nat.reduceAdd, Nat.reduceLeDiff, Nat.reduceSub, Nat.reduceMul, Int.reduceToNat, Int.reduceLT, Int.reduceLE] at h)
  simp (maxSteps := 400000) only [go_sem, Nat.reduceBEq, Nat.reduceAdd, Nat.reduceLeDiff, Nat.reduceSub, Nat.reduceMul, Int.reduceToNat, Int.reduceLT, Int.reduceLE]
  repeat' (first
    | (exact hQ _ h)
    | (have hq := hQ _ h; simp (maxSteps := 400000) only [go_sem, Nat.reduceBEq, Nat.reduceAdd, Nat.reduceLeDiff, Nat.reduceSub, Nat.reduceMul, Int.reduceToNat, Int.reduceLT, Int.reduceLE] at hq; exact hq)
    | (refine oblg h ?_; clear h; intro hc h)
    | (refine fork h ?_ ?_ <;> clear h <;> intro hc h)
    | (refine forkS h ?_ ?_ <;> clear h <;> intro hc h)
    | (refine And.intro (chkD_of rfl) ?_)
    | (obtain ⟨y, hy, h⟩ := h; have hw := W_law27_awake hy; (try simp (maxSteps := 400000) only [go_sem, Nat.reduceBEq, Nat.reduceAdd, Nat.reduceLeDiff, Nat.reduceSub, Nat.reduceMul, Int.reduceToNat, Int.reduceLT, Int.reduceLE] at hw); refine sCall_of hw rfl rfl ?_; clear hw; clear hy; rw [M.lok_eq]; simp (maxSteps := 400000) only [go_sem, Nat.reduceBEq, Nat.reduceAdd, Nat.reduceLeDiff, Nat.reduceSub, Nat.reduceMul, Int.reduceToNat, Int.reduceLT, Int.reduceLE])
    | (obtain ⟨y, hy, h⟩ := h; have hw := W_law27_awake hy; (try simp (maxSteps := 400000) only [go_sem, Nat.reduceBEq, Nat.reduceAdd, Nat.reduceLeDiff, Nat.reduceSub, Nat.reduceMul, Int.reduceToNat, Int.reduceLT, Int.reduceLE] at hw); refine sCallD_of hw rfl rfl ?_; clear hw; clear hy; rw [M.lokD_eq]; simp (maxSteps := 400000) only [go_sem, Nat.reduceBEq, Nat.reduceAdd, Nat.reduceLeDiff, Nat.reduceSub, Nat.reduceMul, Int.reduceToNat, Int.reduceLT, Int.reduceLE])
    | (obtain ⟨y, hy, h⟩ := h; have hw := acall_swe 1000 37 (W_made_Directory hy); (try simp (maxSteps := 400000) only [go_sem, Nat.reduceBEq, Nat.reduceAdd, Nat.reduceLeDiff, Nat.reduceSub, Nat.reduceMul, Int.reduceToNat, Int.reduceLT, Int.reduceLE] at hw); refine sCall_of hw rfl rfl ?_; clear hw; clear hy; rw [M.lok_eq]; simp (maxSteps := 400000) only [go_sem, Nat.reduceBEq, Nat.reduceAdd, Nat.reduceLeDiff, Nat.reduceSub, Nat.reduceMul, Int.reduceToNat, Int.reduceLT, Int.reduceLE])
    | (obtain ⟨y, hy, h⟩ := h; have hw := acall_swe 1000 37 (W_made_Directory hy); (try simp (maxSteps := 400000) only [go_sem, Nat.reduceBEq, Nat.reduceAdd, Nat.reduceLeDiff, Nat.reduceSub, Nat.reduceMul, Int.reduceToNat, Int.reduceLT, Int.reduceLE] at hw); refine sCallD_of hw rfl rfl ?_; clear hw; clear hy; rw [M.lokD_eq]; simp (maxSteps := 400000) only [go_sem, Nat.reduceBEq, Nat.reduceAdd, Nat.reduceLeDiff, Nat.reduceSub, Nat.reduceMul, Int.reduceToNat, Int.reduceLT, Int.reduceLE])
    | (obtain ⟨y, hy, h⟩ := h; have hw := acall_swe 1000 37 (W_made_Estate hy); (try simp (maxSteps := 400000) only [go_sem, Nat.reduceBEq, Nat.reduceAdd, Nat.reduceLeDiff, Nat.reduceSub, Nat.reduceMul, Int.reduceToNat, Int.reduceLT, Int.reduceLE] at hw); refine sCall_of hw rfl rfl ?_; clear hw; clear hy; rw [M.lok_eq]; simp (maxSteps := 400000) only [go_sem, Nat.reduceBEq, Nat.reduceAdd, Nat.reduceLeDiff, Nat.reduceSub, Nat.reduceMul, Int.reduceToNat, Int.reduceLT, Int.reduceLE])
    | (obtain ⟨y, hy, h⟩ := h; have hw := acall_swe 1000 37 (W_made_Estate hy); (try simp (maxSteps := 400000) only [go_sem, Nat.reduceBEq, Nat.reduceAdd, Nat.reduceLeDiff, Nat.reduceSub, Nat.reduceMul, Int.reduceToNat, Int.reduceLT, Int.reduceLE] at hw); refine sCallD_of hw rfl rfl ?_; clear hw; clear hy; rw [M.lokD_eq]; simp (maxSteps := 400000) only [go_sem, Nat.reduceBEq, Nat.reduceAdd, Nat.reduceLeDiff, Nat.reduceSub, Nat.reduceMul, Int.reduceToNat, Int.reduceLT, Int.reduceLE])
    | (obtain ⟨y, hy, h⟩ := h; have hw := acall_swe 1000 37 (W_made_BentEstate hy); (try simp (maxSteps := 400000) only [go_sem, Nat.reduceBEq, Nat.reduceAdd, Nat.reduceLeDiff, Nat.reduceSub, Nat.reduceMul, Int.reduceToNat, Int.reduceLT, Int.reduceLE] at hw); refine sCall_of hw rfl rfl ?_; clear hw; clear hy; rw [M.lok_eq]; simp (maxSteps := 400000) only [go_sem, Nat.reduceBEq, Nat.reduceAdd, Nat.reduceLeDiff, Nat.reduceSub, Nat.reduceMul, Int.reduceToNat, Int.reduceLT, Int.reduceLE])
    | (obtain ⟨y, hy, h⟩ := h; have hw := acall_swe 1000 37 (W_made_BentEstate hy); (try simp (maxSteps := 400000) only [go_sem, Nat.reduceBEq, Nat.reduceAdd, Nat.reduceLeDiff, Nat.reduceSub, Nat.reduceMul, Int.reduceToNat, Int.reduceLT, Int.reduceLE] at hw); refine sCallD_of hw rfl rfl ?_; clear hw; clear hy; rw [M.lokD_eq]; simp (maxSteps := 400000) only [go_sem, Nat.reduceBEq, Nat.reduceAdd, Nat.reduceLeDiff, Nat.reduceSub, Nat.reduceMul, Int.reduceToNat, Int.reduceLT, Int.reduceLE])
    | (obtain ⟨y, hy, h⟩ := h; have hw := W_access_Check hy; (try simp (maxSteps := 400000) only [go_sem, Nat.reduceBEq, Nat.reduceAdd, Nat.reduceLeDiff, Nat.reduceSub, Nat.reduceMul, Int.reduceToNat, Int.reduceLT, Int.reduceLE] at hw); refine sCall_of hw rfl rfl ?_; clear hw; clear hy; rw [M.lok_eq]; simp (maxSteps := 400000) only [go_sem, Nat.reduceBEq, Nat.reduceAdd, Nat.reduceLeDiff, Nat.reduceSub, Nat.reduceMul, Int.reduceToNat, Int.reduceLT, Int.reduceLE])
    | (obtain ⟨y, hy, h⟩ := h; have hw := W_access_Check hy; (try simp (maxSteps := 400000) only [go_sem, Nat.reduceBEq, Nat.reduceAdd, Nat.reduceLeDiff, Nat.reduceSub, Nat.reduceMul, Int.reduceToNat, Int.reduceLT, Int.reduceLE] at hw); refine sCallD_of hw rfl rfl ?_; clear hw; clear hy; rw [M.lokD_eq]; simp (maxSteps := 400000) only [go_sem, Nat.reduceBEq, Nat.reduceAdd, Nat.reduceLeDiff, Nat.reduceSub, Nat.reduceMul, Int.reduceToNat, Int.reduceLT, Int.reduceLE])
    | (obtain ⟨y, hy, h⟩ := h; have hw := W_ref27_Check hy; (try simp (maxSteps := 400000) only [go_sem, Nat.reduceBEq, Nat.reduceAdd, Nat.reduceLeDiff, Nat.reduceSub, Nat.reduceMul, Int.reduceToNat, Int.reduceLT, Int.reduceLE] at hw); refine sCall_of hw rfl rfl ?_; clear hw; clear hy; rw [M.lok_eq]; simp (maxSteps := 400000) only [go_sem, Nat.reduceBEq, Nat.reduceAdd, Nat.reduceLeDiff, Nat.reduceSub, Nat.reduceMul, Int.reduceToNat, Int.reduceLT, Int.reduceLE])
    | (obtain ⟨y, hy, h⟩ := h; have hw := W_ref27_Check hy; (try simp (maxSteps := 400000) only [go_sem, Nat.reduceBEq, Nat.reduceAdd, Nat.reduceLeDiff, Nat.reduceSub, Nat.reduceMul, Int.reduceToNat, Int.reduceLT, Int.reduceLE] at hw); refine sCallD_of hw rfl rfl ?_; clear hw; clear hy; rw [M.lokD_eq]; simp (maxSteps := 400000) only [go_sem, Nat.reduceBEq, Nat.reduceAdd, Nat.reduceLeDiff, Nat.reduceSub, Nat.reduceMul, Int.reduceToNat, Int.reduceLT, Int.reduceLE])
    | (obtain ⟨y, hy, h⟩ := h; have hw := W_access_Times hy; (try simp (maxSteps := 400000) only [go_sem, Nat.reduceBEq, Nat.reduceAdd, Nat.reduceLeDiff, Nat.reduceSub, Nat.reduceMul, Int.reduceToNat, Int.reduceLT, Int.reduceLE] at hw); refine sCall_of hw rfl rfl ?_; clear hw; clear hy; rw [M.lok_eq]; simp (maxSteps := 400000) only [go_sem, Nat.reduceBEq, Nat.reduceAdd, Nat.reduceLeDiff, Nat.reduceSub, Nat.reduceMul, Int.reduceToNat, Int.reduceLT, Int.reduceLE])
    | (obtain ⟨y, hy, h⟩ := h; have hw := W_access_Times hy; (try simp (maxSteps := 400000) only [go_sem, Nat.reduceBEq, Nat.reduceAdd, Nat.reduceLeDiff, Nat.reduceSub, Nat.reduceMul, Int.reduceToNat, Int.reduceLT, Int.reduceLE] at hw); refine sCallD_of hw rfl rfl ?_; clear hw; clear hy; rw [M.lokD_eq]; simp (maxSteps := 400000) only [go_sem, Nat.reduceBEq, Nat.reduceAdd, Nat.reduceLeDiff, Nat.reduceSub, Nat.reduceMul, Int.reduceToNat, Int.reduceLT, Int.reduceLE])
    | (obtain ⟨y, hy, h⟩ := h; have hw := W_ref27_Times hy; (try simp (maxSteps := 400000) only [go_sem, Nat.reduceBEq, Nat.reduceAdd, Nat.reduceLeDiff, Nat.reduceSub, Nat.reduceMul, Int.reduceToNat, Int.reduceLT, Int.reduceLE] at hw); refine sCall_of hw rfl rfl ?_; clear hw; clear hy; rw [M.lok_eq]; simp (maxSteps := 400000) only [go_sem, Nat.reduceBEq, Nat.reduceAdd, Nat.reduceLeDiff, Nat.reduceSub, Nat.reduceMul, Int.reduceToNat, Int.reduceLT, Int.reduceLE])
    | (obtain ⟨y, hy, h⟩ := h; have hw := W_ref27_Times hy; (try simp (maxSteps := 400000) only [go_sem, Nat.reduceBEq, Nat.reduceAdd, Nat.reduceLeDiff, Nat.reduceSub, Nat.reduceMul, Int.reduceToNat, Int.reduceLT, Int.reduceLE] at hw); refine sCallD_of hw rfl rfl ?_; clear hw; clear hy; rw [M.lokD_eq]; simp (maxSteps := 400000) only [go_sem, Nat.reduceBEq, Nat.reduceAdd, Nat.reduceLeDiff, Nat.reduceSub, Nat.reduceMul, Int.reduceToNat, Int.reduceLT, Int.reduceLE])
    | (obtain ⟨y, hy, h⟩ := h; have hw := W_ref23_Ints hy; (try simp (maxSteps := 400000) only [go_sem, Nat.reduceBEq, Nat.reduceAdd, Nat.reduceLeDiff, Nat.reduceSub, Nat.reduceMul, Int.reduceToNat, Int.reduceLT, Int.reduceLE] at hw); refine sCall_of hw rfl rfl ?_; clear hw; clear hy; rw [M.lok_eq]; simp (maxSteps := 400000) only [go_sem, Nat.reduceBEq, Nat.reduceAdd, Nat.reduceLeDiff, Nat.reduceSub, Nat.reduceMul, Int.reduceToNat, Int.reduceLT, Int.reduceLE])
    | (obtain ⟨y, hy, h⟩ := h; have hw := W_ref23_Ints hy; (try simp (maxSteps := 400000) only [go_sem, Nat.reduceBEq, Nat.reduceAdd, Nat.reduceLeDiff, Nat.reduceSub, Nat.reduceMul, Int.reduceToNat, Int.reduceLT, Int.reduceLE] at hw); refine sCallD_of hw rfl rfl ?_; clear hw; clear hy; rw [M.lokD_eq]; simp (maxSteps := 400000) only [go_sem, Nat.reduceBEq, Nat.reduceAdd, Nat.reduceLeDiff, Nat.reduceSub, Nat.reduceMul, Int.reduceToNat, Int.reduceLT, Int.reduceLE])
    | (obtain ⟨y, hy, h⟩ := h; have hw := acall_swe 1000 37 (W_made_Tape_Next hy); (try simp (maxSteps := 400000) only [go_sem, Nat.reduceBEq, Nat.reduceAdd, Nat.reduceLeDiff, Nat.reduceSub, Nat.reduceMul, Int.reduceToNat, Int.reduceLT, Int.reduceLE] at hw); refine sCall_of hw rfl rfl ?_; clear hw; clear hy; rw [M.lok_eq]; simp (maxSteps := 400000) only [go_sem, Nat.reduceBEq, Nat.reduceAdd, Nat.reduceLeDiff, Nat.reduceSub, Nat.reduceMul, Int.reduceToNat, Int.reduceLT, Int.reduceLE])
    | (obtain ⟨y, hy, h⟩ := h; have hw := acall_swe 1000 37 (W_made_Tape_Next hy); (try simp (maxSteps := 400000) only [go_sem, Nat.reduceBEq, Nat.reduceAdd, Nat.reduceLeDiff, Nat.reduceSub, Nat.reduceMul, Int.reduceToNat, Int.reduceLT, Int.reduceLE] at hw); refine sCallD_of hw rfl rfl ?_; clear hw; clear hy; rw [M.lokD_eq]; simp (maxSteps := 400000) only [go_sem, Nat.reduceBEq, Nat.reduceAdd, Nat.reduceLeDiff, Nat.reduceSub, Nat.reduceMul, Int.reduceToNat, Int.reduceLT, Int.reduceLE])
    | (obtain ⟨y, hy, h⟩ := h; have hw := acall_swe 1000 37 (W_made_Tape_Between hy); (try simp (maxSteps := 400000) only [go_sem, Nat.reduceBEq, Nat.reduceAdd, Nat.reduceLeDiff, Nat.reduceSub, Nat.reduceMul, Int.reduceToNat, Int.reduceLT, Int.reduceLE] at hw); refine sCall_of hw rfl rfl ?_; clear hw; clear hy; rw [M.lok_eq]; simp (maxSteps := 400000) only [go_sem, Nat.reduceBEq, Nat.reduceAdd, Nat.reduceLeDiff, Nat.reduceSub, Nat.reduceMul, Int.reduceToNat, Int.reduceLT, Int.reduceLE])
    | (obtain ⟨y, hy, h⟩ := h; have hw := acall_swe 1000 37 (W_made_Tape_Between hy); (try simp (maxSteps := 400000) only [go_sem, Nat.reduceBEq, Nat.reduceAdd, Nat.reduceLeDiff, Nat.reduceSub, Nat.reduceMul, Int.reduceToNat, Int.reduceLT, Int.reduceLE] at hw); refine sCallD_of hw rfl rfl ?_; clear hw; clear hy; rw [M.lokD_eq]; simp (maxSteps := 400000) only [go_sem, Nat.reduceBEq, Nat.reduceAdd, Nat.reduceLeDiff, Nat.reduceSub, Nat.reduceMul, Int.reduceToNat, Int.reduceLT, Int.reduceLE])
    | (obtain ⟨y, hy, h⟩ := h; have hw := W_access_Grant hy; (try simp (maxSteps := 400000) only [go_sem, Nat.reduceBEq, Nat.reduceAdd, Nat.reduceLeDiff, Nat.reduceSub, Nat.reduceMul, Int.reduceToNat, Int.reduceLT, Int.reduceLE] at hw); refine sCall_of hw rfl rfl ?_; clear hw; clear hy; rw [M.lok_eq]; simp (maxSteps := 400000) only [go_sem, Nat.reduceBEq, Nat.reduceAdd, Nat.reduceLeDiff, Nat.reduceSub, Nat.reduceMul, Int.reduceToNat, Int.reduceLT, Int.reduceLE])
    | (obtain ⟨y, hy, h⟩ := h; have hw := W_access_Grant hy; (try simp (maxSteps := 400000) only [go_sem, Nat.reduceBEq, Nat.reduceAdd, Nat.reduceLeDiff, Nat.reduceSub, Nat.reduceMul, Int.reduceToNat, Int.reduceLT, Int.reduceLE] at hw); refine sCallD_of hw rfl rfl ?_; clear hw; clear hy; rw [M.lokD_eq]; simp (maxSteps := 400000) only [go_sem, Nat.reduceBEq, Nat.reduceAdd, Nat.reduceLeDiff, Nat.reduceSub, Nat.reduceMul, Int.reduceToNat, Int.reduceLT, Int.reduceLE])
    | (obtain ⟨y, hy, h⟩ := h; have hw := W_ref27_Grant hy; (try simp (maxSteps := 400000) only [go_sem, Nat.reduceBEq, Nat.reduceAdd, Nat.reduceLeDiff, Nat.reduceSub, Nat.reduceMul, Int.reduceToNat, Int.reduceLT, Int.reduceLE] at hw); refine sCall_of hw rfl rfl ?_; clear hw; clear hy; rw [M.lok_eq]; simp (maxSteps := 400000) only [go_sem, Nat.reduceBEq, Nat.reduceAdd, Nat.reduceLeDiff, Nat.reduceSub, Nat.reduceMul, Int.reduceToNat, Int.reduceLT, Int.reduceLE])
    | (obtain ⟨y, hy, h⟩ := h; have hw := W_ref27_Grant hy; (try simp (maxSteps := 400000) only [go_sem, Nat.reduceBEq, Nat.reduceAdd, Nat.reduceLeDiff, Nat.reduceSub, Nat.reduceMul, Int.reduceToNat, Int.reduceLT, Int.reduceLE] at hw); refine sCallD_of hw rfl rfl ?_; clear hw; clear hy; rw [M.lokD_eq]; simp (maxSteps := 400000) only [go_sem, Nat.reduceBEq, Nat.reduceAdd, Nat.reduceLeDiff, Nat.reduceSub, Nat.reduceMul, Int.reduceToNat, Int.reduceLT, Int.reduceLE])
    | (obtain ⟨y, hy, h⟩ := h; have hw := W_access_Linked hy; (try simp (maxSteps := 400000) only [go_sem, Nat.reduceBEq, Nat.reduceAdd, Nat.reduceLeDiff, Nat.reduceSub, Nat.reduceMul, Int.reduceToNat, Int.reduceLT, Int.reduceLE] at hw); refine sCall_of hw rfl rfl ?_; clear hw; clear hy; rw [M.lok_eq]; simp (maxSteps := 400000) only [go_sem, Nat.reduceBEq, Nat.reduceAdd, Nat.reduceLeDiff, Nat.reduceSub, Nat.reduceMul, Int.reduceToNat, Int.reduceLT, Int.reduceLE])
    | (obtain ⟨y, hy, h⟩ := h; have hw := W_access_Linked hy; (try simp (maxSteps := 400000) only [go_sem, Nat.reduceBEq, Nat.reduceAdd, Nat.reduceLeDiff, Nat.reduceSub, Nat.reduceMul, Int.reduceToNat, Int.reduceLT, Int.reduceLE] at hw); refine sCallD_of hw rfl rfl ?_; clear hw; clear hy; rw [M.lokD_eq]; simp (maxSteps := 400000) only [go_sem, Nat.reduceBEq, Nat.reduceAdd, Nat.reduceLeDiff, Nat.reduceSub, Nat.reduceMul, Int.reduceToNat, Int.reduceLT, Int.reduceLE])
    | (obtain ⟨y, hy, h⟩ := h; have hw := W_ref27_Linked hy; (try simp (maxSteps := 400000) only [go_sem, Nat.reduceBEq, Nat.reduceAdd, Nat.reduceLeDiff, Nat.reduceSub, Nat.reduceMul, Int.reduceToNat, Int.reduceLT, Int.reduceLE] at hw); refine sCall_of hw rfl rfl ?_; clear hw; clear hy; rw [M.lok_eq]; simp (maxSteps := 400000) only [go_sem, Nat.reduceBEq, Nat.reduceAdd, Nat.reduceLeDiff, Nat.reduceSub, Nat.reduceMul, Int.reduceToNat, Int.reduceLT, Int.reduceLE])
    | (obtain ⟨y, hy, h⟩ := h; have hw := W_ref27_Linked hy; (try simp (maxSteps := 400000) only [go_sem, Nat.reduceBEq, Nat.reduceAdd, Nat.reduceLeDiff, Nat.reduceSub, Nat.reduceMul, Int.reduceToNat, Int.reduceLT, Int.reduceLE] at hw); refine sCallD_of hw rfl rfl ?_; clear hw; clear hy; rw [M.lokD_eq]; simp (maxSteps := 400000) only [go_sem, Nat.reduceBEq, Nat.reduceAdd, Nat.reduceLeDiff, Nat.reduceSub, Nat.reduceMul, Int.reduceToNat, Int.reduceLT, Int.reduceLE])
    | (obtain ⟨y, hy, h⟩ := h; have hw := W_access_Granted hy; (try simp (maxSteps := 400000) only [go_sem, Nat.reduceBEq, Nat.reduceAdd, Nat.reduceLeDiff, Nat.reduceSub, Nat.reduceMul, Int.reduceToNat, Int.reduceLT, Int.reduceLE] at hw); refine sCall_of hw rfl rfl ?_; clear hw; clear hy; rw [M.lok_eq]; simp (maxSteps := 400000) only [go_sem, Nat.reduceBEq, Nat.reduceAdd, Nat.reduceLeDiff, Nat.reduceSub, Nat.reduceMul, Int.reduceToNat, Int.reduceLT, Int.reduceLE])
    | (obtain ⟨y, hy, h⟩ := h; have hw := W_access_Granted hy; (try simp (maxSteps := 400000) only [go_sem, Nat.reduceBEq, Nat.reduceAdd, Nat.reduceLeDiff, Nat.reduceSub, Nat.reduceMul, Int.reduceToNat, Int.reduceLT, Int.reduceLE] at hw); refine sCallD_of hw rfl rfl ?_; clear hw; clear hy; rw [M.lokD_eq]; simp (maxSteps := 400000) only [go_sem, Nat.reduceBEq, Nat.reduceAdd, Nat.reduceLeDiff, Nat.reduceSub, Nat.reduceMul, Int.reduceToNat, Int.reduceLT, Int.reduceLE])
    | (obtain ⟨y, hy, h⟩ := h; have hw := W_ref27_Granted hy; (try simp (maxSteps := 400000) only [go_sem, Nat.reduceBEq, Nat.reduceAdd, Nat.reduceLeDiff, Nat.reduceSub, Nat.reduceMul, Int.reduceToNat, Int.reduceLT, Int.reduceLE] at hw); refine sCall_of hw rfl rfl ?_; clear hw; clear hy; rw [M.lok_eq]; simp (maxSteps := 400000) only [go_sem, Nat.reduceBEq, Nat.reduceAdd, Nat.reduceLeDiff, Nat.reduceSub, Nat.reduceMul, Int.reduceToNat, Int.reduceLT, Int.reduceLE])
    | (obtain ⟨y, hy, h⟩ := h; have hw := W_ref27_Granted hy; (try simp (maxSteps := 400000) only [go_sem, Nat.reduceBEq, Nat.reduceAdd, Nat.reduceLeDiff, Nat.reduceSub, Nat.reduceMul, Int.reduceToNat, Int.reduceLT, Int.reduceLE] at hw); refine sCallD_of hw rfl rfl ?_; clear hw; clear hy; rw [M.lokD_eq]; simp (maxSteps := 400000) only [go_sem, Nat.reduceBEq, Nat.reduceAdd, Nat.reduceLeDiff, Nat.reduceSub, Nat.reduceMul, Int.reduceToNat, Int.reduceLT, Int.reduceLE])
    | (refine M.for1 (b := mc_law27_AccessExact_L1) 88 [2, 3, 4, 11, 14, 47, 48, 57, 58, 59, 60, 61, 62, 87] [14, 37] (fun x => []) (fun x => []) [] h ?_ ?_ ?_ <;> first
       | (clear h; intro k a x Qn K hK1 hkN1 ha1 h hf; skip; clear hf; have hkd := decide_eq_true (Int.ofNat_lt.2 hkN1); have hkB1 := inb_iff.2 ⟨Int.natCast_nonneg k, Int.ofNat_lt.2 hkN1⟩; have hkI1 : in64 ((k : Int) + 1) = true := in64_iff.2 ⟨by omega, by (try simp only [List.length_cons, List.length_nil] at hkN1); omega⟩; have hkd1 : decide ((k : Int) < 4) = true := decide_eq_true (by simp only [List.length_cons, List.length_nil] at hkN1; omega); have hkr1 : (0 ≤ (k : Int) ∧ (k : Int) < 4) = True := eq_true (by simp only [List.length_cons, List.length_nil] at hkN1; omega); have hle1 : (k * 3 ≤ 9) = True := eq_true (by simp only [List.length_cons, List.length_nil] at hkN1; omega); have hpt1 := take_of (sz := 3) (f := fun e : GA50 => [.int .i64 e.e0, .int .i64 e.e1, .int .i64 e.e2]) (fun _ => rfl) ha1 hkN1; (try simp only [go_sem, Nat.reduceBEq, Nat.reduceAdd, Nat.reduceLeDiff, Nat.reduceSub, Nat.reduceMul, Int.reduceToNat, Int.reduceLT, Int.reduceLE, List.flatMap_cons, List.flatMap_nil, List.map_cons, List.map_nil] at hpt1); unfold F_law27_AccessExact_L1 at h; unfold mc_law27_AccessExact_L1; (try simp (maxSteps := 400000) only [go_sem, Nat.reduceBEq, Nat.reduceAdd, Nat.reduceLeDiff, Nat.reduceSub, Nat.reduceMul, Int.reduceToNat, Int.reduceLT, Int.reduceLE] at h); simp only [go_sem, Nat.reduceBEq, Nat.reduceAdd, Nat.reduceLeDiff, Nat.reduceSub, Nat.reduceMul, Int.reduceToNat, Int.reduceLT, Int.reduceLE, ha1, hkd, hkN1, hkB1, hkI1, hkd1, hkr1, hle1, decide_true, cond_true, hpt1])
       | (clear h; intro x K h; replace h := And.left (And.intro h trivial); unfold mc_law27_AccessExact_L1; (try simp (maxSteps := 400000) only [go_sem, Nat.reduceBEq, Nat.reduceAdd, Nat.reduceLeDiff, Nat.reduceSub, Nat.reduceMul, Int.reduceToNat, Int.reduceLT, Int.reduceLE] at h); simp (maxSteps := 400000) only [go_sem, Nat.reduceBEq, Nat.reduceAdd, Nat.reduceLeDiff, Nat.reduceSub, Nat.reduceMul, Int.reduceToNat, Int.reduceLT, Int.reduceLE])
       | (clear h; (try simp only [go_sem, Nat.reduceBEq, Nat.reduceAdd, Nat.reduceLeDiff, Nat.reduceSub, Nat.reduceMul, Int.reduceToNat, Int.reduceLT, Int.reduceLE]); (refine ⟨?_, ?_, ?_⟩ <;> (try simp only [go_sem, Nat.reduceBEq, Nat.reduceAdd, Nat.reduceLeDiff, Nat.reduceSub, Nat.reduceMul, Int.reduceToNat, Int.reduceLT, Int.reduceLE, St.good, noAny, distinct, SubSt, subE, subHp]) <;> (repeat' (first | exact trivial | rfl | apply And.intro | (simp; done)))); done)
       | fail)
    | (refine M.for1 (b := mc_law27_AccessExact_L2) 48 [2, 3, 4, 11, 47] [] (fun x => []) (fun x => [.o 37 (.cells [.sl (x.L.map (V.int .i64)), .int .i64 x.at_])]) [] h ?_ ?_ ?_ <;> first
       | (clear h; intro k a x Qn K hK2 hkN2 ha2 h hf; skip; clear hf; have hkd := decide_eq_true (Int.ofNat_lt.2 hkN2); have hkB2 := inb_iff.2 ⟨Int.natCast_nonneg k, Int.ofNat_lt.2 hkN2⟩; have hkI2 : in64 ((k : Int) + 1) = true := in64_iff.2 ⟨by omega, by (try simp only [List.length_cons, List.length_nil] at hkN2); omega⟩; have hkd2 : decide ((k : Int) < 3) = true := decide_eq_true (by simp only [List.length_cons, List.length_nil] at hkN2; omega); have hkr2 : (0 ≤ (k : Int) ∧ (k : Int) < 3) = True := eq_true (by simp only [List.length_cons, List.length_nil] at hkN2; omega); have hle2 : (k * 2 ≤ 4) = True := eq_true (by simp only [List.length_cons, List.length_nil] at hkN2; omega); have hpt2 := take_of (sz := 2) (f := fun e : GEstate => [.int .i64 e.Places, .sl (e.Events.map GAccess.v)]) (fun _ => rfl) ha2 hkN2; (try simp only [go_sem, Nat.reduceBEq, Nat.reduceAdd, Nat.reduceLeDiff, Nat.reduceSub, Nat.reduceMul, Int.reduceToNat, Int.reduceLT, Int.reduceLE, List.flatMap_cons, List.flatMap_nil, List.map_cons, List.map_nil] at hpt2); unfold F_law27_AccessExact_L2 at h; unfold mc_law27_AccessExact_L2; (try simp (maxSteps := 400000) only [go_sem, Nat.reduceBEq, Nat.reduceAdd, Nat.reduceLeDiff, Nat.reduceSub, Nat.reduceMul, Int.reduceToNat, Int.reduceLT, Int.reduceLE] at h); simp only [go_sem, Nat.reduceBEq, Nat.reduceAdd, Nat.reduceLeDiff, Nat.reduceSub, Nat.reduceMul, Int.reduceToNat, Int.reduceLT, Int.reduceLE, ha2, hkd, hkN2, hkB2, hkI2, hkd2, hkr2, hle2, decide_true, cond_true, hpt2])
       | (clear h; intro x K h; replace h := And.left (And.intro h trivial); unfold mc_law27_AccessExact_L2; (try simp (maxSteps := 400000) only [go_sem, Nat.reduceBEq, Nat.reduceAdd, Nat.reduceLeDiff, Nat.reduceSub, Nat.reduceMul, Int.reduceToNat, Int.reduceLT, Int.reduceLE] at h); simp (maxSteps := 400000) only [go_sem, Nat.reduceBEq, Nat.reduceAdd, Nat.reduceLeDiff, Nat.reduceSub, Nat.reduceMul, Int.reduceToNat, Int.reduceLT, Int.reduceLE])
       | (clear h; (try simp only [go_sem, Nat.reduceBEq, Nat.reduceAdd, Nat.reduceLeDiff, Nat.reduceSub, Nat.reduceMul, Int.reduceToNat, Int.reduceLT, Int.reduceLE]); (refine ⟨?_, ?_, ?_⟩ <;> (try simp only [go_sem, Nat.reduceBEq, Nat.reduceAdd, Nat.reduceLeDiff, Nat.reduceSub, Nat.reduceMul, Int.reduceToNat, Int.reduceLT, Int.reduceLE, St.good, noAny, distinct, SubSt, subE, subHp]) <;> (repeat' (first | exact trivial | rfl | apply And.intro | (simp; done)))); done)
       | fail)
    | (refine M.gv1 (ms := mg_law27_AccessExact_1) 33 [29, 30, 31, 32] h ?_ ?_ <;> first
       | (clear h; intro K hK3; unfold mg_law27_AccessExact_1; simp (maxSteps := 400000) only [go_sem, Nat.reduceBEq, Nat.reduceAdd, Nat.reduceLeDiff, Nat.reduceSub, Nat.reduceMul, Int.reduceToNat, Int.reduceLT, Int.reduceLE])
       | (clear h; intro b h; (try simp (maxSteps := 400000) only [go_sem, Nat.reduceBEq, Nat.reduceAdd, Nat.reduceLeDiff, Nat.reduceSub, Nat.reduceMul, Int.reduceToNat, Int.reduceLT, Int.reduceLE] at h); simp (maxSteps := 400000) only [go_sem, Nat.reduceBEq, Nat.reduceAdd, Nat.reduceLeDiff, Nat.reduceSub, Nat.reduceMul, Int.reduceToNat, Int.reduceLT, Int.reduceLE])
       | fail)
    | (refine And.intro hkI1 ?_)
    | (refine And.intro hkN1 ?_)
    | (refine And.intro hkB1 ?_)
    | (simp only [ha1])
    | (refine And.intro hkI2 ?_)
    | (refine And.intro hkN2 ?_)
    | (refine And.intro hkB2 ?_)
    | (simp only [ha2])
    | (refine hK1 _ ?_; (try simp only [go_sem, Nat.reduceBEq, Nat.reduceAdd, Nat.reduceLeDiff, Nat.reduceSub, Nat.reduceMul, Int.reduceToNat, Int.reduceLT, Int.reduceLE]); refine ⟨_, h, ?_⟩; (refine ⟨?_, ?_, ?_⟩ <;> (try simp only [go_sem, Nat.reduceBEq, Nat.reduceAdd, Nat.reduceLeDiff, Nat.reduceSub, Nat.reduceMul, Int.reduceToNat, Int.reduceLT, Int.reduceLE, St.good, noAny, distinct, SubSt, subE, subHp]) <;> (repeat' (first | exact trivial | rfl | apply And.intro | (simp; done)))); done)
    | (refine hK2 _ ?_; (try simp only [go_sem, Nat.reduceBEq, Nat.reduceAdd, Nat.reduceLeDiff, Nat.reduceSub, Nat.reduceMul, Int.reduceToNat, Int.reduceLT, Int.reduceLE]); refine ⟨_, h, ?_⟩; (refine ⟨?_, ?_, ?_⟩ <;> (try simp only [go_sem, Nat.reduceBEq, Nat.reduceAdd, Nat.reduceLeDiff, Nat.reduceSub, Nat.reduceMul, Int.reduceToNat, Int.reduceLT, Int.reduceLE, St.good, noAny, distinct, SubSt, subE, subHp]) <;> (repeat' (first | exact trivial | rfl | apply And.intro | (simp; done)))); done)
    | (refine hK3 _ ?_; (refine ⟨?_, ?_, ?_⟩ <;> (try simp only [go_sem, Nat.reduceBEq, Nat.reduceAdd, Nat.reduceLeDiff, Nat.reduceSub, Nat.reduceMul, Int.reduceToNat, Int.reduceLT, Int.reduceLE, St.good, noAny, distinct, SubSt, subE, subHp, *]) <;> (repeat' (first | exact trivial | rfl | apply And.intro | (simp [*]; done)))); done)
    | (refine bfork (fun hc => ?_) (fun hc => ?_))
    | (refine ⟨_, getE_map (inb_toNat (by assumption)), ?_⟩; (first | rw [M.lok_compU] | rw [M.lokD_compU]); simp (maxSteps := 400000) only [go_sem, Nat.reduceBEq, Nat.reduceAdd, Nat.reduceLeDiff, Nat.reduceSub, Nat.reduceMul, Int.reduceToNat, Int.reduceLT, Int.reduceLE])
    | (refine And.intro (ltb_of (by assumption)) ?_)
    | fail)
theorem W_law27_AccessExact : ∀ {l_ : List Int} {raw_ : GEstate} {place_ : Int} {p_ : Int} {t_ : Int} {y : Bool}, F_law27_AccessExact l_ raw_ place_ p_ t_ = some y → ACall Try.prog 8 [.sl (l_.map (V.int .i64)), GEstate.v raw_, .int .i64 place_, .int .i64 p_, .int .i64 t_] [] (fun r H => r = .bool y ∧ H = []) :=
  fun hy => Wq_law27_AccessExact _ _ _ _ _ (Q := fun z => z = _) ⟨_, hy, rfl⟩ fun z e => by subst e; exact ⟨rfl, rfl⟩

end Go.Ab
