/- What the functions of this seat that lie on the laws' road compute (part LM), each for every input. By AI agents. -/
import Derived.Test.YtdcjekffkibboaaGreatDoorProg
import Derived.KernelRfl
import Derived.Test.YtdcjekffkibboaaGreatDoorAbFun
import Derived.Test.YtdcjekffkibboaaGreatDoorLB
set_option linter.all false
set_option linter.all false
set_option maxRecDepth 20000
set_option maxHeartbeats 2000000
namespace Go.Ab
open Go.Proofs
def F_n (x_ : GObject) (p_ : GObject) : Option Bool :=
 some (decide (x_.ID = p_.ID))
def mc_n : MC :=
 (sR [mo (.box (.t 0)) 2,
 mo (.mv (.c (.bool false))) 3]
 (sR [oF 0 2 4,
 oL 4 5,
 oF 0 1 6,
 oL 6 7,
 mo (.bin false .eql (.t 5) (.t 7)) 8,
 oV 8 3]
 .ret))
theorem Wq_n {x_ p_ : GObject} : Cn Tryz.prog 17 [GObject.v x_, .ptr 1000 0] [(1000, .cells [.int .i64 p_.ID, .int .i64 p_.Kind, .sl (p_.Data.map byteV), .sl (p_.Items.map GItem.v), .int .i64 p_.Tree, .sl (p_.Parents.map (V.int .i64)), .str p_.Author, .int .i64 p_.Time])] (F_n x_ p_) (fun z => .bool z) (fun z => [(1000, .cells [.int .i64 p_.ID, .int .i64 p_.Kind, .sl (p_.Data.map byteV), .sl (p_.Items.map GItem.v), .int .i64 p_.Tree, .sl (p_.Parents.map (V.int .i64)), .str p_.Author, .int .i64 p_.Time])]) := fun Q Q' h hQ => by
 refine acallM mc_n [] [1000] [.t 3] Tryz.func17 fun M => ?_
 unfold F_n at h
 unfold mc_n
 replace h := tY h
 refine tB ?_
 repeat' (first
 | (exact tZ)
 | ((first | refine oblg h ?_ | refine roomG h ?_ | refine fork h ?_ ?_ | refine forkS h ?_ ?_) <;> clear h <;> intro hc h)
 | (refine tE ?_; (first | rw [M.lok_compU] | rw [M.lokD_compU]); refine tB ?_)
 | (refine tA ?_)
 | fail)
def F_2q (fc0_ : GObject) (k31 : Int) (a32 : GObject) (x30 : Unit) : Option (Fl Unit Int) :=
 (F_n a32 fc0_).bind fun y40 => bif y40 then some (.ex k31) else some (.nx ())
def F_2r (s_ : List GObject) (fc0_ : GObject) : Option Int :=
 (forL (F_2q fc0_) s_ 0 ()).bind fun o => o.elim (fun x41 => some (-1)) (fun r42 => some r42)
@[irreducible] def mc_2q : MC :=
 (sR [mo (.bin false .lss (.t 8) (.t 7)) 9]
 (.seq (.cond (.t 9)
 .skip
 (.exit 0))
 (.seq (.block 1
 (sR [oV 8 10,
 oV 10 5]
 (sR [oV 1 11,
 oV 0 12,
 oV 5 13,
 mo (.iad 8 (.t 12) (.t 13)) 14,
 mo (.ld (some 8) (.t 14)) 15,
 mo (.call (.t 11) [(.t 15)] [1000] []) 16]
 (.cond (.t 16)
 (sR [oV 5 17,
 oV 17 4]
 .ret)
 .skip))))
 (.reg [mo (.bin true .add (.t 8) (cI 1)) 18,
 oV 18 8]))))
def mc_2r : MC :=
 (sR [oC 0 4]
 (.seq (sR [oV 0 6,
 mo (.len false (.t 6)) 7,
 oC 0 8]
 (.block 0
 (.loop mc_2q)))
 (sR [oC (-1) 4]
 .ret)))
theorem Wq_2r {s_ : List GObject} {fc0_ : GObject} : Cn Tryz.prog 30 [.sl (s_.map GObject.v), .fn (.func 17) [.ptr 1000 0]] [(1000, .cells [.int .i64 fc0_.ID, .int .i64 fc0_.Kind, .sl (fc0_.Data.map byteV), .sl (fc0_.Items.map GItem.v), .int .i64 fc0_.Tree, .sl (fc0_.Parents.map (V.int .i64)), .str fc0_.Author, .int .i64 fc0_.Time])] (F_2r s_ fc0_) (fun z => .int .i64 z) (fun z => [(1000, .cells [.int .i64 fc0_.ID, .int .i64 fc0_.Kind, .sl (fc0_.Data.map byteV), .sl (fc0_.Items.map GItem.v), .int .i64 fc0_.Tree, .sl (fc0_.Parents.map (V.int .i64)), .str fc0_.Author, .int .i64 fc0_.Time])]) := fun Q Q' h hQ => by
 refine acallM mc_2r [] [1000] [.t 4] Tryz.func30 fun M => ?_
 unfold F_2r at h
 unfold mc_2r
 replace h := tY h
 refine tB ?_
 repeat' (first
 | (exact tZ)
 | ((first | refine oblg h ?_ | refine roomG h ?_ | refine fork h ?_ ?_ | refine forkS h ?_ ?_) <;> clear h <;> intro hc h)
 | (obtain ⟨y, hy, h⟩ := h; have hw := Wq_n.w hy; replace hw := tY hw; (first | refine M.sC hw ?_ | refine M.sD hw ?_); clear hw hy; refine tB ?_)
 | (refine M.for1 (b := mc_2q) 8 [0,1,7] [1000] (fun x => []) (fun x => []) [] h ?_ ?_ ?_ <;> first
 | (clear h; intro k a x Qn K hK1 hkN1 ha1 h hf; have hl := fact_int (factsE_find (n := 7) hf.1 rfl); clear hf; have hkd := kD hkN1; have hkB1 := kB hkN1; have hkI1 := kI (k := k) (by omega); unfold F_2q at h; unfold mc_2q; replace h := tY h; refine tK ha1 hkd hkN1 hkB1 hkI1 ?_)
  |(clear h; intro x K h; replace h := And.left (And.intro h trivial); unfold mc_2q; replace h := tY h; refine tB ?_)
  |(clear h; (try refine tB ?_); exact tU0; done))
 | (simp only [ha1])
 | (refine hK1 _ ?_; (try refine tB ?_); refine ⟨_, h, ?_⟩; exact tU0; done)
 | (refine tE ?_; (first | rw [M.lok_compU] | rw [M.lokD_compU]); refine tB ?_)
 | (refine tA ?_)
 | fail)
def F_1z (s_ : List GObject) (fc0_ : GObject) : Option Bool :=
 (F_2r s_ fc0_).bind fun y2 => some (decide (0 ≤ y2))
def mc_1z : MC :=
 (sR [mo (.mv (.c (.bool false))) 4]
 (sR [oV 0 5,
 oV 1 6,
 mo (.call (.f 30) [(.t 5),(.t 6)] [1000] []) 7,
 mo (.bin false .geq (.t 7) (cI 0)) 8,
 oV 8 4]
 .ret))
theorem Wq_1z {s_ : List GObject} {fc0_ : GObject} : Cn Tryz.prog 16 [.sl (s_.map GObject.v), .fn (.func 17) [.ptr 1000 0]] [(1000, .cells [.int .i64 fc0_.ID, .int .i64 fc0_.Kind, .sl (fc0_.Data.map byteV), .sl (fc0_.Items.map GItem.v), .int .i64 fc0_.Tree, .sl (fc0_.Parents.map (V.int .i64)), .str fc0_.Author, .int .i64 fc0_.Time])] (F_1z s_ fc0_) (fun z => .bool z) (fun z => [(1000, .cells [.int .i64 fc0_.ID, .int .i64 fc0_.Kind, .sl (fc0_.Data.map byteV), .sl (fc0_.Items.map GItem.v), .int .i64 fc0_.Tree, .sl (fc0_.Parents.map (V.int .i64)), .str fc0_.Author, .int .i64 fc0_.Time])]) := fun Q Q' h hQ => by
 refine acallM mc_1z [] [1000] [.t 4] Tryz.func16 fun M => ?_
 unfold F_1z at h
 unfold mc_1z
 replace h := tY h
 refine tB ?_
 repeat' (first
 | (exact tZ)
 | ((first | refine oblg h ?_ | refine roomG h ?_ | refine fork h ?_ ?_ | refine forkS h ?_ ?_) <;> clear h <;> intro hc h)
 | (obtain ⟨y, hy, h⟩ := h; have hw := Wq_2r.w hy; replace hw := tY hw; (first | refine M.sC hw ?_ | refine M.sD hw ?_); clear hw hy; refine tB ?_)
 | (refine tE ?_; (first | rw [M.lok_compU] | rw [M.lokD_compU]); refine tB ?_)
 | (refine tA ?_)
 | fail)
def F_20 (o_ : GObject) : Option ((List UInt8) × Int) :=
 (F_9 o_).bind fun y4 => bif (!decide (y4 = 0)) then some ([], y4) else (F_a o_).bind fun y6 => some (y6,0)
def mc_20 : MC :=
 (sR [mo (.box (.t 0)) 1,
 mo (.mv (.c (.sl []))) 2,
 oC 0 3]
 (.seq (sR [mo (.ld (some 8) (.t 1)) 5,
 mo (.call (.f 15) [(.t 5)] [] []) 6,
 oV 6 4]
 (sR [oV 4 7,
 mo (.bin false .neq (.t 7) (cI 0)) 8]
 (.cond (.t 8)
 (.seq (.note (.gc [4]) (.reg [oV 4 9,
 mo (.mv (.c (.sl []))) 2,
 oV 9 3]))
 .ret)
 .skip)))
 (.seq (.note (.gc [1]) (.reg [mo (.ld (some 8) (.t 1)) 10,
 mo (.call (.f 31) [(.t 10)] [] []) 11,
 oV 11 2,
 oC 0 3]))
 .ret)))
theorem Wq_20 {o_ : GObject} : Cn Tryz.prog 18 [GObject.v o_] [] (F_20 o_) (fun z => .tup [.sl (z.1.map byteV), .int .i64 z.2]) (fun z => []) := fun Q Q' h hQ => by
 refine acallM mc_20 [.fz 2] [] [.t 2, .t 3] Tryz.func18 fun M => ?_
 unfold F_20 at h
 unfold mc_20
 replace h := tY h
 refine tB ?_
 repeat' (first
 | (exact tZ)
 | ((first | refine oblg h ?_ | refine roomG h ?_ | refine fork h ?_ ?_ | refine forkS h ?_ ?_) <;> clear h <;> intro hc h)
 | (obtain ⟨y, hy, h⟩ := h; (first | with_reducible first | have hw := Wq_9.w hy | have hw := Wq_a.w hy); replace hw := tY hw; (first | refine M.sC hw ?_ | refine M.sD hw ?_); clear hw hy; refine tB ?_)
 | (refine tE ?_; (first | rw [M.lok_compU] | rw [M.lokD_compU]); refine tB ?_)
 | (refine tA ?_)
 | fail)
noncomputable def F_45 (a_ : List UInt8) (b_ : List UInt8) (x7 : Int) : Option (Fl Int Int) :=
 bif decide (x7 < (min (a_.length : Int) (b_.length : Int))) then chk (inb x7 a_.length) (chk (inb x7 b_.length) (bif decide (((a_.getD (x7).toNat default).toNat : Int) = ((b_.getD (x7).toNat default).toNat : Int)) then chk (in64 (x7 + 1)) (some (.nx (x7 + 1))) else some (.ex x7))) else some (.ex x7)
noncomputable def F_21 (a_ : List UInt8) (b_ : List UInt8) : Option Int :=
 (loop (F_45 a_ b_) 0).bind fun r8 => some r8
@[irreducible] def mc_45 : MC :=
 (.seq (.seq (.regD [oV 5 6,
 oV 0 7,
 mo (.len false (.t 7)) 8,
 oV 1 9,
 mo (.len false (.t 9)) 10,
 mo (.mm false (.t 8) (.t 10)) 11,
 mo (.bin false .lss (.t 6) (.t 11)) 12,
 oV 12 13,
 gT 13 14 (.mv (.t 0)),
 gT 13 15 (.mv (.t 5)),
 gT 13 16 (.iad 1 (.t 14) (.t 15)),
 gT 13 17 (.ld none (.t 16)),
 gT 13 18 (.mv (.t 1)),
 gT 13 19 (.mv (.t 5)),
 gT 13 20 (.iad 1 (.t 18) (.t 19)),
 gT 13 21 (.ld none (.t 20)),
 gT 13 22 (.bin false .eql (.t 17) (.t 21)),
 mo (.pick (.t 13) (.t 22) (.c (.bool false))) 23]
 [[],[],[1],[],[3],[2,4],[0,5],[6],[7],[7],[8,9,7],[10,7],[7],[7],[12,13,7],[14,7],[11,15,7],[7,16]]
 [[],[],[1],[],[3],[1,2,3,4],[0,1,2,3,4,5],[0,1,2,3,4,5,6],[0,1,2,3,4,5,6,7],[0,1,2,3,4,5,6,7],[0,1,2,3,4,5,6,7,8,9],[0,1,2,3,4,5,6,7,8,9,10],[0,1,2,3,4,5,6,7],[0,1,2,3,4,5,6,7],[0,1,2,3,4,5,6,7,12,13],[0,1,2,3,4,5,6,7,12,13,14],[0,1,2,3,4,5,6,7,8,9,10,11,12,13,14,15],[0,1,2,3,4,5,6,7,8,9,10,11,12,13,14,15,16]])
 (.cond (.t 23)
 .skip
 (.exit 0)))
 (.block 1
 (.note (.gc [0,1,5,14,15,16,17,18,19,20,21,22]) (.reg [oV 5 24,
 mo (.bin true .add (.t 24) (cI 1)) 25,
 oV 25 5]))))
def mc_21 : MC :=
 (sR [oC 0 4]
 (sR [oC 0 5]
 (.seq (.block 0
 (.loop mc_45))
 (sR [oV 5 26,
 oV 26 4]
 .ret))))
theorem Wq_21 {a_ b_ : List UInt8} : Cn Tryz.prog 32 [.sl (a_.map byteV), .sl (b_.map byteV)] [] (F_21 a_ b_) (fun z => .int .i64 z) (fun z => []) := fun Q Q' h hQ => by
 refine acallM mc_21 [] [] [.t 4] Tryz.func32 fun M => ?_
 unfold F_21 at h
 unfold mc_21
 replace h := tY h
 refine tB ?_
 repeat' (first
 | (exact tZ)
 | ((first | refine oblg h ?_ | refine roomG h ?_ | refine fork h ?_ ?_ | refine forkS h ?_ ?_) <;> clear h <;> intro hc h)
 | (refine M.wh1 (b := mc_45) [0,1] [] (fun x => [(5, .int .i64 x)]) (fun x => []) [] h ?_ ?_ <;> first
 | (clear h; intro x Qn K hK1 h; unfold F_45 at h; unfold mc_45; replace h := tY h; refine tB ?_)
  |(clear h; (try refine tB ?_); exact tU0; done))
 | (refine hK1 _ ?_; (try refine tB ?_); refine ⟨_, h, ?_⟩; exact tU0; done)
 | (refine tE ?_; (first | rw [M.lok_compU] | rw [M.lokD_compU]); refine tB ?_)
 | (refine tA ?_)
 | fail)
noncomputable def F_46 (a_ : List UInt8) (b_ : List UInt8) (x7 : Int) : Option (Fl Int Int) :=
 bif decide (x7 < (min (a_.length : Int) (b_.length : Int))) then chk (in64 ((a_.length : Int) - 1)) (chk (in64 (((a_.length : Int) - 1) - x7)) (chk (inb (((a_.length : Int) - 1) - x7) a_.length) (chk (in64 ((b_.length : Int) - 1)) (chk (in64 (((b_.length : Int) - 1) - x7)) (chk (inb (((b_.length : Int) - 1) - x7) b_.length) (bif decide (((a_.getD ((((a_.length : Int) - 1) - x7)).toNat default).toNat : Int) = ((b_.getD ((((b_.length : Int) - 1) - x7)).toNat default).toNat : Int)) then chk (in64 (x7 + 1)) (some (.nx (x7 + 1))) else some (.ex x7))))))) else some (.ex x7)
noncomputable def F_22 (a_ : List UInt8) (b_ : List UInt8) : Option Int :=
 (loop (F_46 a_ b_) 0).bind fun r8 => some r8
@[irreducible] def mc_46 : MC :=
 (.seq (.seq (.regD [oV 5 6,
 oV 0 7,
 mo (.len false (.t 7)) 8,
 oV 1 9,
 mo (.len false (.t 9)) 10,
 mo (.mm false (.t 8) (.t 10)) 11,
 mo (.bin false .lss (.t 6) (.t 11)) 12,
 oV 12 13,
 gT 13 14 (.mv (.t 0)),
 gT 13 15 (.mv (.t 0)),
 gT 13 16 (.len false (.t 15)),
 gT 13 17 (.bin true .sub (.t 16) (cI 1)),
 gT 13 18 (.mv (.t 5)),
 gT 13 19 (.bin true .sub (.t 17) (.t 18)),
 gT 13 20 (.iad 1 (.t 14) (.t 19)),
 gT 13 21 (.ld none (.t 20)),
 gT 13 22 (.mv (.t 1)),
 gT 13 23 (.mv (.t 1)),
 gT 13 24 (.len false (.t 23)),
 gT 13 25 (.bin true .sub (.t 24) (cI 1)),
 gT 13 26 (.mv (.t 5)),
 gT 13 27 (.bin true .sub (.t 25) (.t 26)),
 gT 13 28 (.iad 1 (.t 22) (.t 27)),
 gT 13 29 (.ld none (.t 28)),
 gT 13 30 (.bin false .eql (.t 21) (.t 29)),
 mo (.pick (.t 13) (.t 30) (.c (.bool false))) 31]
 [[],[],[1],[],[3],[2,4],[0,5],[6],[7],[7],[9,7],[10,7],[7],[11,12,7],[8,13,7],[14,7],[7],[7],[17,7],[18,7],[7],[19,20,7],[16,21,7],[22,7],[15,23,7],[7,24]]
 [[],[],[1],[],[3],[1,2,3,4],[0,1,2,3,4,5],[0,1,2,3,4,5,6],[0,1,2,3,4,5,6,7],[0,1,2,3,4,5,6,7],[0,1,2,3,4,5,6,7,9],[0,1,2,3,4,5,6,7,9,10],[0,1,2,3,4,5,6,7],[0,1,2,3,4,5,6,7,9,10,11,12],[0,1,2,3,4,5,6,7,8,9,10,11,12,13],[0,1,2,3,4,5,6,7,8,9,10,11,12,13,14],[0,1,2,3,4,5,6,7],[0,1,2,3,4,5,6,7],[0,1,2,3,4,5,6,7,17],[0,1,2,3,4,5,6,7,17,18],[0,1,2,3,4,5,6,7],[0,1,2,3,4,5,6,7,17,18,19,20],[0,1,2,3,4,5,6,7,16,17,18,19,20,21],[0,1,2,3,4,5,6,7,16,17,18,19,20,21,22],[0,1,2,3,4,5,6,7,8,9,10,11,12,13,14,15,16,17,18,19,20,21,22,23],[0,1,2,3,4,5,6,7,8,9,10,11,12,13,14,15,16,17,18,19,20,21,22,23,24]])
 (.cond (.t 31)
 .skip
 (.exit 0)))
 (.block 1
 (.note (.gc [0,1,5,14,15,16,17,18,19,20,21,22,23,24,25,26,27,28,29,30]) (.reg [oV 5 32,
 mo (.bin true .add (.t 32) (cI 1)) 33,
 oV 33 5]))))
def mc_22 : MC :=
 (sR [oC 0 4]
 (sR [oC 0 5]
 (.seq (.block 0
 (.loop mc_46))
 (sR [oV 5 34,
 oV 34 4]
 .ret))))
theorem Wq_22 {a_ b_ : List UInt8} : Cn Tryz.prog 33 [.sl (a_.map byteV), .sl (b_.map byteV)] [] (F_22 a_ b_) (fun z => .int .i64 z) (fun z => []) := fun Q Q' h hQ => by
 refine acallM mc_22 [] [] [.t 4] Tryz.func33 fun M => ?_
 unfold F_22 at h
 unfold mc_22
 replace h := tY h
 refine tB ?_
 repeat' (first
 | (exact tZ)
 | ((first | refine oblg h ?_ | refine roomG h ?_ | refine fork h ?_ ?_ | refine forkS h ?_ ?_) <;> clear h <;> intro hc h)
 | (refine M.wh1 (b := mc_46) [0,1] [] (fun x => [(5, .int .i64 x)]) (fun x => []) [] h ?_ ?_ <;> first
 | (clear h; intro x Qn K hK1 h; unfold F_46 at h; unfold mc_46; replace h := tY h; refine tB ?_)
  |(clear h; (try refine tB ?_); exact tU0; done))
 | (refine hK1 _ ?_; (try refine tB ?_); refine ⟨_, h, ?_⟩; exact tU0; done)
 | (refine tE ?_; (first | rw [M.lok_compU] | rw [M.lokD_compU]); refine tB ?_)
 | (refine tA ?_)
 | fail)
noncomputable def F_23 (base_ : List UInt8) (target_ : List UInt8) : Option ((List GOp) × Int) :=
 grp ((decide (65536 < (base_.length : Int)) || decide (65536 < (target_.length : Int)))) fun b4 => bif b4 then some ([],3) else (F_21 base_ target_).bind fun y6 => chk (inc y6 (base_.length : Int) base_.length) (chk (inc y6 (target_.length : Int) target_.length) ((F_22 (base_.drop ((y6).toNat)) (target_.drop ((y6).toNat))).bind fun y8 => jn (α := List GOp) (bif decide (0 < y6) then some [(GOp.mk 0 y6 [])] else some []) fun j9 => jn (α := List GOp) (chk (in64 ((target_.length : Int) - y8)) (chk (inc y6 ((target_.length : Int) - y8) target_.length) (bif decide (0 < (((target_.take ((((target_.length : Int) - y8)).toNat)).drop ((y6).toNat)).length : Int)) then (F_r ((target_.take ((((target_.length : Int) - y8)).toNat)).drop ((y6).toNat))).bind fun y12 => chk (room (j9.length + [(GOp.mk 0 0 y12)].length) 40) (some (j9 ++ [(GOp.mk 0 0 y12)])) else some j9))) fun j11 => jn (α := List GOp) (bif decide (0 < y8) then chk (in64 ((base_.length : Int) - y8)) (chk (room (j11.length + [(GOp.mk ((base_.length : Int) - y8) y8 [])].length) 40) (some (j11 ++ [(GOp.mk ((base_.length : Int) - y8) y8 [])]))) else some j11) fun j13 => some (j13,0)))
@[irreducible] def mg_6h : List MOp := [gF 13 14 (.mv (.t 1)),
 gF 13 15 (.len false (.t 14)),
 gF 13 16 (.bin false .gtr (.t 15) (cI 65536)),
 mo (.pick (.t 13) (.c (.bool true)) (.t 16)) 17]
@[irreducible] def mc_6i : MC :=
 (sR [oV 8 62,
 oV 62 4,
 oC 0 5]
 .ret)
@[irreducible] def mc_6j : MC :=
 (.cut (sR [oV 7 51,
 mo (.bin false .gtr (.t 51) (cI 0)) 52]
 (.cond (.t 52)
 (.reg [oV 8 53,
 oV 0 54,
 mo (.len false (.t 54)) 55,
 oV 7 56,
 mo (.bin true .sub (.t 55) (.t 56)) 57,
 oV 7 58,
 mo (.build [(.int .i64 0),(.int .i64 0),(.sl [])] [(0,1,(.t 57)), (1,1,(.t 58))]) 59,
 mo (.bslice 3 [(.t 59)]) 60,
 mo (.app 3 40 (.t 53) (.t 60)) 61,
 oV 61 8])
 .skip))
 mc_6i)
@[irreducible] def mc_6k : MC :=
 (.cut (sR [oV 1 35,
 oV 6 36,
 oV 1 37,
 mo (.len false (.t 37)) 38,
 oV 7 39,
 mo (.bin true .sub (.t 38) (.t 39)) 40,
 mo (.slc 1 (.t 35) (some (.t 36)) (some (.t 40))) 41,
 oV 41 9]
 (.seq (.note (.gc [0,7,8,9]) (.reg [oV 9 42,
 mo (.len false (.t 42)) 43,
 mo (.bin false .gtr (.t 43) (cI 0)) 44]))
 (.cond (.t 44)
 (.reg [oV 8 45,
 oV 9 46,
 mo (.call (.f 34) [(.t 46)] [] []) 47,
 mo (.build [(.int .i64 0),(.int .i64 0),(.sl [])] [(2,1,(.t 47))]) 48,
 mo (.bslice 3 [(.t 48)]) 49,
 mo (.app 3 40 (.t 45) (.t 49)) 50,
 oV 50 8])
 .skip)))
 mc_6j)
def mc_23 : MC :=
 (sR [mo (.mv (.c (.sl []))) 4,
 oC 0 5]
 (.seq (.seq (.regI [.op (oV 0 10),
 .op (mo (.len false (.t 10)) 11),
 .op (mo (.bin false .gtr (.t 11) (cI 65536)) 12),
 .op (oV 12 13),
 .grp mg_6h])
 (.cond (.t 17)
 (sR [mo (.mv (.c (.sl []))) 4,
 oC 3 5]
 .ret)
 .skip))
 (sR [oV 0 18,
 oV 1 19,
 mo (.call (.f 32) [(.t 18),(.t 19)] [] []) 20,
 oV 20 6]
 (.seq (.note (.gc [0,1,6]) (.regD [oV 0 21,
 oV 6 22,
 mo (.slc 1 (.t 21) (some (.t 22)) none) 23,
 oV 1 24,
 oV 6 25,
 mo (.slc 1 (.t 24) (some (.t 25)) none) 26,
 mo (.call (.f 33) [(.t 23),(.t 26)] [] []) 27,
 oV 27 7]
 [[],[],[0,1],[],[],[3,4],[2,5],[6,6,0,1,2,3,4,5,6]]
 [[],[],[0,1],[],[],[3,4],[0,1,2,3,4,5],[0,1,2,3,4,5,6]]))
 (sR [mo (.mv (.c .nils)) 8]
 (.cut (sR [oV 6 28,
 mo (.bin false .gtr (.t 28) (cI 0)) 29]
 (.cond (.t 29)
 (.note (.gc [0,1,6,7,8]) (.reg [oV 8 30,
 oV 6 31,
 mo (.build [(.int .i64 0),(.int .i64 0),(.sl [])] [(1,1,(.t 31))]) 32,
 mo (.bslice 3 [(.t 32)]) 33,
 mo (.app 3 40 (.t 30) (.t 33)) 34,
 oV 34 8]))
 .skip))
 mc_6k))))))
theorem Wq_23 {base_ target_ : List UInt8} : Cn Tryz.prog 19 [.sl (base_.map byteV), .sl (target_.map byteV)] [] (F_23 base_ target_) (fun z => .tup [.sl (z.1.map GOp.v), .int .i64 z.2]) (fun z => []) := fun Q Q' h hQ => by
 refine acallM mc_23 [.fz 4] [] [.t 4, .t 5] Tryz.func19 fun M => ?_
 unfold F_23 at h
 unfold mc_23
 replace h := tY h
 refine tB ?_
 repeat' (first
 | (exact tZ)
 | ((first | refine oblg h ?_ | refine roomG h ?_ | refine fork h ?_ ?_ | refine forkS h ?_ ?_) <;> clear h <;> intro hc h)
 | (obtain ⟨y, hy, h⟩ := h; (first | with_reducible first | have hw := Wq_21.w hy | have hw := Wq_22.w hy | have hw := Wq_r.w hy); replace hw := tY hw; (first | refine M.sC hw ?_ | refine M.sD hw ?_); clear hw hy; refine tB ?_)
 | (refine M.jn1 (b := mc_6i) [] [] (fun y => [(8, .osl 2008 3 0 y.length)]) (fun y => [.o 2008 (.arr 3 (y.map GOp.v))]) [.gc [8], .acc 8 2008 3] h ?_ ?_ <;> first
 | (clear h; intro Qn K hK1 h; replace h := tY h; refine tB ?_)
  |(clear h; intro y h; unfold mc_6i; replace h := tY h; refine tB ?_))
 | (refine M.jn1 (b := mc_6j) [0,7] [] (fun y => [(8, .osl 2008 3 0 y.length)]) (fun y => [.o 2008 (.arr 3 (y.map GOp.v))]) [.gc [0,7,8], .acc 8 2008 3] h ?_ ?_ <;> first
 | (clear h; intro Qn K hK2 h; replace h := tY h; refine tB ?_)
  |(clear h; intro y h; unfold mc_6j; replace h := tY h; refine tB ?_))
 | (refine M.jn1 (b := mc_6k) [0,1,6,7] [] (fun y => [(8, .osl 2008 3 0 y.length)]) (fun y => [.o 2008 (.arr 3 (y.map GOp.v))]) [.gc [0,1,6,7,8], .acc 8 2008 3] h ?_ ?_ <;> first
 | (clear h; intro Qn K hK3 h; replace h := tY h; refine tB ?_)
  |(clear h; intro y h; unfold mc_6k; replace h := tY h; refine tB ?_))
 | (refine M.gv1 (ms := mg_6h) 17 [14,15,16] h ?_ ?_ <;> first
 | (clear h; intro K hK4; unfold mg_6h; refine tB ?_)
 | (clear h; intro b h; replace h := tY h; refine tB ?_))
 | ((first | refine hK1 _ ?_ | refine hK2 _ ?_ | refine hK3 _ ?_); (try refine tB ?_); refine ⟨_, h, ?_⟩; exact tU0; done)
 | (refine hK4 _ ?_; exact tU; done)
 | (refine bfork (fun hc => ?_) (fun hc => ?_))
 | (refine tE ?_; (first | rw [M.lok_compU] | rw [M.lokD_compU]); refine tB ?_)
 | (refine tA ?_)
 | fail)
def F_2s (o_ : GOp) : Option Bool :=
 some (decide (65536 < (max (max o_.From o_.Size) (o_.Data.length : Int))))
def mc_2s : MC :=
 (sR [mo (.box (.t 0)) 1,
 mo (.mv (.c (.bool false))) 2]
 (sR [oF 0 1 3,
 oL 3 4,
 oF 1 1 5,
 oL 5 6,
 oF 2 1 7,
 oL 7 8,
 mo (.len false (.t 8)) 9,
 mo (.mp .mx3 [(.t 4),(.t 6),(.t 9)]) 10,
 mo (.bin false .gtr (.t 10) (cI 65536)) 11,
 oV 11 2]
 .ret))
theorem Wq_2s {o_ : GOp} : Cn Tryz.prog 56 [GOp.v o_] [] (F_2s o_) (fun z => .bool z) (fun z => []) := fun Q Q' h hQ => by
 refine acallM mc_2s [] [] [.t 2] Tryz.func56 fun M => ?_
 unfold F_2s at h
 unfold mc_2s
 replace h := tY h
 refine tB ?_
 repeat' (first
 | (exact tZ)
 | ((first | refine oblg h ?_ | refine roomG h ?_ | refine fork h ?_ ?_ | refine forkS h ?_ ?_) <;> clear h <;> intro hc h)
 | (refine tE ?_; (first | rw [M.lok_compU] | rw [M.lokD_compU]); refine tB ?_)
 | (refine tA ?_)
 | fail)
def F_3o (k31 : Int) (a32 : GOp) (x30 : Unit) : Option (Fl Unit Int) :=
 (F_2s a32).bind fun y40 => bif y40 then some (.ex k31) else some (.nx ())
def F_2t (s_ : List GOp) : Option Int :=
 (forL F_3o s_ 0 ()).bind fun o => o.elim (fun x41 => some (-1)) (fun r42 => some r42)
@[irreducible] def mc_3o : MC :=
 (sR [mo (.bin false .lss (.t 8) (.t 7)) 9]
 (.seq (.cond (.t 9)
 .skip
 (.exit 0))
 (.seq (.block 1
 (sR [oV 8 10,
 oV 10 5]
 (sR [oV 1 11,
 oV 0 12,
 oV 5 13,
 mo (.iad 3 (.t 12) (.t 13)) 14,
 mo (.ld (some 3) (.t 14)) 15,
 mo (.call (.t 11) [(.t 15)] [] []) 16]
 (.cond (.t 16)
 (sR [oV 5 17,
 oV 17 4]
 .ret)
 .skip))))
 (.reg [mo (.bin true .add (.t 8) (cI 1)) 18,
 oV 18 8]))))
def mc_2t : MC :=
 (sR [oC 0 4]
 (.seq (sR [oV 0 6,
 mo (.len false (.t 6)) 7,
 oC 0 8]
 (.block 0
 (.loop mc_3o)))
 (sR [oC (-1) 4]
 .ret)))
theorem Wq_2t {s_ : List GOp} : Cn Tryz.prog 82 [.sl (s_.map GOp.v), .fn (.func 56) []] [] (F_2t s_) (fun z => .int .i64 z) (fun z => []) := fun Q Q' h hQ => by
 refine acallM mc_2t [] [] [.t 4] Tryz.func82 fun M => ?_
 unfold F_2t at h
 unfold mc_2t
 replace h := tY h
 refine tB ?_
 repeat' (first
 | (exact tZ)
 | ((first | refine oblg h ?_ | refine roomG h ?_ | refine fork h ?_ ?_ | refine forkS h ?_ ?_) <;> clear h <;> intro hc h)
 | (obtain ⟨y, hy, h⟩ := h; have hw := Wq_2s.w hy; replace hw := tY hw; (first | refine M.sC hw ?_ | refine M.sD hw ?_); clear hw hy; refine tB ?_)
 | (refine M.for1 (b := mc_3o) 8 [0,1,7] [] (fun x => []) (fun x => []) [] h ?_ ?_ ?_ <;> first
 | (clear h; intro k a x Qn K hK1 hkN1 ha1 h hf; have hl := fact_int (factsE_find (n := 7) hf.1 rfl); clear hf; have hkd := kD hkN1; have hkB1 := kB hkN1; have hkI1 := kI (k := k) (by omega); unfold F_3o at h; unfold mc_3o; replace h := tY h; refine tK ha1 hkd hkN1 hkB1 hkI1 ?_)
  |(clear h; intro x K h; replace h := And.left (And.intro h trivial); unfold mc_3o; replace h := tY h; refine tB ?_)
  |(clear h; (try refine tB ?_); exact tU0; done))
 | (simp only [ha1])
 | (refine hK1 _ ?_; (try refine tB ?_); refine ⟨_, h, ?_⟩; exact tU0; done)
 | (refine tE ?_; (first | rw [M.lok_compU] | rw [M.lokD_compU]); refine tB ?_)
 | (refine tA ?_)
 | fail)
def F_2u (s_ : List GOp) : Option Bool :=
 (F_2t s_).bind fun y2 => some (decide (0 ≤ y2))
def mc_2u : MC :=
 (sR [mo (.mv (.c (.bool false))) 4]
 (sR [oV 0 5,
 oV 1 6,
 mo (.call (.f 82) [(.t 5),(.t 6)] [] []) 7,
 mo (.bin false .geq (.t 7) (cI 0)) 8,
 oV 8 4]
 .ret))
theorem Wq_2u {s_ : List GOp} : Cn Tryz.prog 57 [.sl (s_.map GOp.v), .fn (.func 56) []] [] (F_2u s_) (fun z => .bool z) (fun z => []) := fun Q Q' h hQ => by
 refine acallM mc_2u [] [] [.t 4] Tryz.func57 fun M => ?_
 unfold F_2u at h
 unfold mc_2u
 replace h := tY h
 refine tB ?_
 repeat' (first
 | (exact tZ)
 | ((first | refine oblg h ?_ | refine roomG h ?_ | refine fork h ?_ ?_ | refine forkS h ?_ ?_) <;> clear h <;> intro hc h)
 | (obtain ⟨y, hy, h⟩ := h; have hw := Wq_2t.w hy; replace hw := tY hw; (first | refine M.sC hw ?_ | refine M.sD hw ?_); clear hw hy; refine tB ?_)
 | (refine tE ?_; (first | rw [M.lok_compU] | rw [M.lokD_compU]); refine tB ?_)
 | (refine tA ?_)
 | fail)
def F_2v (o_ : GOp) : Option Bool :=
 (F_h o_).bind fun y2 => some (!y2)
def mc_2v : MC :=
 (sR [mo (.box (.t 0)) 1,
 mo (.mv (.c (.bool false))) 2]
 (sR [mo (.ld (some 3) (.t 1)) 3,
 mo (.call (.f 59) [(.t 3)] [] []) 4,
 mo (.not (.t 4)) 5,
 oV 5 2]
 .ret))
theorem Wq_2v {o_ : GOp} : Cn Tryz.prog 58 [GOp.v o_] [] (F_2v o_) (fun z => .bool z) (fun z => []) := fun Q Q' h hQ => by
 refine acallM mc_2v [] [] [.t 2] Tryz.func58 fun M => ?_
 unfold F_2v at h
 unfold mc_2v
 replace h := tY h
 refine tB ?_
 repeat' (first
 | (exact tZ)
 | ((first | refine oblg h ?_ | refine roomG h ?_ | refine fork h ?_ ?_ | refine forkS h ?_ ?_) <;> clear h <;> intro hc h)
 | (obtain ⟨y, hy, h⟩ := h; have hw := Wq_h.w hy; replace hw := tY hw; (first | refine M.sC hw ?_ | refine M.sD hw ?_); clear hw hy; refine tB ?_)
 | (refine tE ?_; (first | rw [M.lok_compU] | rw [M.lokD_compU]); refine tB ?_)
 | (refine tA ?_)
 | fail)
def F_3p (k31 : Int) (a32 : GOp) (x30 : Unit) : Option (Fl Unit Int) :=
 (F_2v a32).bind fun y40 => bif y40 then some (.ex k31) else some (.nx ())
def F_2w (s_ : List GOp) : Option Int :=
 (forL F_3p s_ 0 ()).bind fun o => o.elim (fun x41 => some (-1)) (fun r42 => some r42)
@[irreducible] def mc_3p : MC :=
 (sR [mo (.bin false .lss (.t 8) (.t 7)) 9]
 (.seq (.cond (.t 9)
 .skip
 (.exit 0))
 (.seq (.block 1
 (sR [oV 8 10,
 oV 10 5]
 (sR [oV 1 11,
 oV 0 12,
 oV 5 13,
 mo (.iad 3 (.t 12) (.t 13)) 14,
 mo (.ld (some 3) (.t 14)) 15,
 mo (.call (.t 11) [(.t 15)] [] []) 16]
 (.cond (.t 16)
 (sR [oV 5 17,
 oV 17 4]
 .ret)
 .skip))))
 (.reg [mo (.bin true .add (.t 8) (cI 1)) 18,
 oV 18 8]))))
def mc_2w : MC :=
 (sR [oC 0 4]
 (.seq (sR [oV 0 6,
 mo (.len false (.t 6)) 7,
 oC 0 8]
 (.block 0
 (.loop mc_3p)))
 (sR [oC (-1) 4]
 .ret)))
theorem Wq_2w {s_ : List GOp} : Cn Tryz.prog 82 [.sl (s_.map GOp.v), .fn (.func 58) []] [] (F_2w s_) (fun z => .int .i64 z) (fun z => []) := fun Q Q' h hQ => by
 refine acallM mc_2w [] [] [.t 4] Tryz.func82 fun M => ?_
 unfold F_2w at h
 unfold mc_2w
 replace h := tY h
 refine tB ?_
 repeat' (first
 | (exact tZ)
 | ((first | refine oblg h ?_ | refine roomG h ?_ | refine fork h ?_ ?_ | refine forkS h ?_ ?_) <;> clear h <;> intro hc h)
 | (obtain ⟨y, hy, h⟩ := h; have hw := Wq_2v.w hy; replace hw := tY hw; (first | refine M.sC hw ?_ | refine M.sD hw ?_); clear hw hy; refine tB ?_)
 | (refine M.for1 (b := mc_3p) 8 [0,1,7] [] (fun x => []) (fun x => []) [] h ?_ ?_ ?_ <;> first
 | (clear h; intro k a x Qn K hK1 hkN1 ha1 h hf; have hl := fact_int (factsE_find (n := 7) hf.1 rfl); clear hf; have hkd := kD hkN1; have hkB1 := kB hkN1; have hkI1 := kI (k := k) (by omega); unfold F_3p at h; unfold mc_3p; replace h := tY h; refine tK ha1 hkd hkN1 hkB1 hkI1 ?_)
  |(clear h; intro x K h; replace h := And.left (And.intro h trivial); unfold mc_3p; replace h := tY h; refine tB ?_)
  |(clear h; (try refine tB ?_); exact tU0; done))
 | (simp only [ha1])
 | (refine hK1 _ ?_; (try refine tB ?_); refine ⟨_, h, ?_⟩; exact tU0; done)
 | (refine tE ?_; (first | rw [M.lok_compU] | rw [M.lokD_compU]); refine tB ?_)
 | (refine tA ?_)
 | fail)
def F_2x (s_ : List GOp) : Option Bool :=
 (F_2w s_).bind fun y2 => some (decide (0 ≤ y2))
def mc_2x : MC :=
 (sR [mo (.mv (.c (.bool false))) 4]
 (sR [oV 0 5,
 oV 1 6,
 mo (.call (.f 82) [(.t 5),(.t 6)] [] []) 7,
 mo (.bin false .geq (.t 7) (cI 0)) 8,
 oV 8 4]
 .ret))
theorem Wq_2x {s_ : List GOp} : Cn Tryz.prog 57 [.sl (s_.map GOp.v), .fn (.func 58) []] [] (F_2x s_) (fun z => .bool z) (fun z => []) := fun Q Q' h hQ => by
 refine acallM mc_2x [] [] [.t 4] Tryz.func57 fun M => ?_
 unfold F_2x at h
 unfold mc_2x
 replace h := tY h
 refine tB ?_
 repeat' (first
 | (exact tZ)
 | ((first | refine oblg h ?_ | refine roomG h ?_ | refine fork h ?_ ?_ | refine forkS h ?_ ?_) <;> clear h <;> intro hc h)
 | (obtain ⟨y, hy, h⟩ := h; have hw := Wq_2w.w hy; replace hw := tY hw; (first | refine M.sC hw ?_ | refine M.sD hw ?_); clear hw hy; refine tB ?_)
 | (refine tE ?_; (first | rw [M.lok_compU] | rw [M.lokD_compU]); refine tB ?_)
 | (refine tA ?_)
 | fail)
def F_24 (n_ : Int) : Option (List UInt8) :=
 some [(u8 (n_ / 2 ^ 16)), (u8 (n_ / 2 ^ 8)), (u8 n_)]
def mc_24 : MC :=
 (sR [mo (.mv (.c (.sl []))) 2]
 (sR [oV 0 3,
 mo (.bin false .shr (.t 3) (.c (.int .u64 16))) 4,
 mo (.i2i false .u8 (.t 4)) 5,
 oV 0 6,
 mo (.bin false .shr (.t 6) (.c (.int .u64 8))) 7,
 mo (.i2i false .u8 (.t 7)) 8,
 oV 0 9,
 mo (.i2i false .u8 (.t 9)) 10,
 mo (.bslice 1 [(.t 5),(.t 8),(.t 10)]) 11,
 oV 11 2]
 .ret))
theorem Wq_24 {n_ : Int} : Cn Tryz.prog 61 [.int .i64 n_] [] (F_24 n_) (fun z => .sl (z.map byteV)) (fun z => []) := fun Q Q' h hQ => by
 refine acallM mc_24 [.fz 2] [] [.t 2] Tryz.func61 fun M => ?_
 unfold F_24 at h
 unfold mc_24
 replace h := tY h
 refine tB ?_
 repeat' (first
 | (exact tZ)
 | ((first | refine oblg h ?_ | refine roomG h ?_ | refine fork h ?_ ?_ | refine forkS h ?_ ?_) <;> clear h <;> intro hc h)
 | (refine tE ?_; (first | rw [M.lok_compU] | rw [M.lokD_compU]); refine tB ?_)
 | (refine tA ?_)
 | fail)
def F_3q (k16 : Int) (a17 : List UInt8) (x15 : Int) : Option Int :=
 chk (in64 (x15 + (a17.length : Int))) (bif decide ((x15 + (a17.length : Int)) < 0) then none else some (x15 + (a17.length : Int)))
def F_3r (k36 : Int) (a37 : List UInt8) (x35 : List UInt8) : Option (List UInt8) :=
 chk (room (x35.length + a37.length) 1) (some (x35 ++ a37))
def F_10 (slices_ : List (List UInt8)) : Option (List UInt8) :=
 (foldL F_3q slices_ 0 0).bind fun x18 => (growF [] x18).bind fun y20 => (foldL F_3r slices_ 0 y20).bind fun x38 => some x38
@[irreducible] def mc_3q : MC :=
 (sR [mo (.bin false .lss (.t 11) (.t 10)) 12]
 (.seq (.cond (.t 12)
 .skip
 (.exit 0))
 (.seq (.block 1
 (sR [mo (.iad 1 (.t 9) (.t 11)) 13,
 oL 13 14,
 oV 14 5]
 (sR [oV 3 15,
 oV 5 16,
 mo (.len false (.t 16)) 17,
 mo (.bin true .add (.t 15) (.t 17)) 18,
 oV 18 3]
 (sR [oV 3 19,
 mo (.bin false .lss (.t 19) (cI 0)) 20]
 (.cond (.t 20)
 .no
 .skip)))))
 (.reg [mo (.bin true .add (.t 11) (cI 1)) 22,
 oV 22 11]))))
@[irreducible] def mc_3r : MC :=
 (sR [mo (.bin false .lss (.t 27) (.t 26)) 28]
 (.seq (.cond (.t 28)
 .skip
 (.exit 2))
 (.seq (.block 3
 (sR [mo (.iad 1 (.t 25) (.t 27)) 29,
 oL 29 30,
 oV 30 8]
 (.reg [oV 6 31,
 oV 8 32,
 mo (.app 1 1 (.t 31) (.t 32)) 33,
 oV 33 6])))
 (.reg [mo (.bin true .add (.t 27) (cI 1)) 34,
 oV 34 27]))))
def mc_10 : MC :=
 (sR [mo (.mv (.c (.sl []))) 2]
 (sR [oC 0 3]
 (.seq (sR [oV 0 9,
 mo (.len false (.t 9)) 10,
 oC 0 11]
 (.block 0
 (.loop mc_3q)))
 (sR [oV 3 23,
 mo (.call (.f 83) [(.c .nils),(.t 23)] [] [24]) 24,
 oV 24 6]
 (.seq (sR [oV 0 25,
 mo (.len false (.t 25)) 26,
 oC 0 27]
 (.block 2
 (.loop mc_3r)))
 (sR [oV 6 35,
 oV 35 2]
 .ret))))))
theorem Wq_10 {slices_ : List (List UInt8)} : Cn Tryz.prog 60 [.sl (slices_.map (slV byteV))] [] (F_10 slices_) (fun z => .sl (z.map byteV)) (fun z => []) := fun Q Q' h hQ => by
 refine acallM mc_10 [.fz 2] [] [.t 2] Tryz.func60 fun M => ?_
 unfold F_10 at h
 unfold mc_10
 replace h := tY h
 refine tB ?_
 repeat' (first
 | (exact tZ)
 | ((first | refine oblg h ?_ | refine roomG h ?_ | refine fork h ?_ ?_ | refine forkS h ?_ ?_) <;> clear h <;> intro hc h)
 | (obtain ⟨y, hy, h⟩ := h; have hw := acall_swe 1900 24 (W_76 hy); replace hw := tY hw; (first | refine M.sC hw ?_ | refine M.sD hw ?_); clear hw hy; refine tB ?_)
 | (refine M.fold1 (b := mc_3q) 11 [0,9,10] [] (fun x => [(3, .int .i64 x)]) (fun x => []) [] h ?_ ?_ ?_ <;> first
 | (clear h; intro k a x Qn K hK1 hkN1 ha1 h hf; have hl := fact_int (factsE_find (n := 10) hf.1 rfl); clear hf; have hkd := kD hkN1; have hkB1 := kB hkN1; have hkI1 := kI (k := k) (by omega); unfold F_3q at h; unfold mc_3q; replace h := tY h; refine tK ha1 hkd hkN1 hkB1 hkI1 ?_)
  |(clear h; intro x K h; replace h := And.left (And.intro h trivial); unfold mc_3q; replace h := tY h; refine tB ?_)
  |(clear h; (try refine tB ?_); exact tU0; done))
 | (refine M.fold1 (b := mc_3r) 27 [25,26] [] (fun x => [(6, .osl 2006 1 0 x.length)]) (fun x => [.o 2006 (.arr 1 (x.map byteV))]) [.gc [6,25,26,27], .acc 6 2006 1] h ?_ ?_ ?_ <;> first
 | (clear h; intro k a x Qn K hK2 hkN2 ha2 h hf; have hl := fact_int (factsE_find (n := 26) hf.1 rfl); clear hf; have hkd := kD hkN2; have hkB2 := kB hkN2; have hkI2 := kI (k := k) (by omega); unfold F_3r at h; unfold mc_3r; replace h := tY h; refine tK ha2 hkd hkN2 hkB2 hkI2 ?_)
  |(clear h; intro x K h; replace h := And.left (And.intro h trivial); unfold mc_3r; replace h := tY h; refine tB ?_)
  |(clear h; (try refine tB ?_); exact tU0; done))
 | (first | simp only [ha1] | simp only [ha2])
 | ((first | refine hK1 _ ?_ | refine hK2 _ ?_); (try refine tB ?_); refine ⟨_, h, ?_⟩; exact tU0; done)
 | (refine tE ?_; (first | rw [M.lok_compU] | rw [M.lokD_compU]); refine tB ?_)
 | (refine tA ?_)
 | fail)
def F_3s (k94 : Int) (a95 : GOp) (x93 : List UInt8) : Option (List UInt8) :=
 bif decide (0 < a95.Size) then (F_24 a95.From).bind fun y111 => (F_24 a95.Size).bind fun y112 => (F_10 [x93,[1], y111, y112]).bind fun y113 => some y113 else (F_24 (a95.Data.length : Int)).bind fun y114 => (F_10 [x93,[0], y114, a95.Data]).bind fun y115 => some y115
def F_2y (ops_ : List GOp) : Option ((List UInt8) × Int) :=
 bif decide (200 < (ops_.length : Int)) then some ([],3) else (F_2u ops_).bind fun y6 => bif y6 then some ([],3) else (F_2x ops_).bind fun y8 => bif y8 then some ([],2) else (foldL F_3s ops_ 0 []).bind fun x116 => some (x116,0)
@[irreducible] def mc_3s : MC :=
 (sR [mo (.bin false .lss (.t 22) (.t 21)) 23]
 (.seq (.cond (.t 23)
 .skip
 (.exit 1))
 (.seq (.block 2
 (sR [mo (.iad 3 (.t 20) (.t 22)) 24,
 mo (.ld (some 3) (.t 24)) 25,
 mo (.alloc [(.int .i64 0),(.int .i64 0),(.sl [])]) 7,
 ⟨.st 3 (.t 7) (.t 25), none, none⟩]
 (sR [oF 1 7 26,
 oL 26 27,
 mo (.bin false .gtr (.t 27) (cI 0)) 28]
 (.cond (.t 28)
 (.regD [oV 5 29,
 mo (.lsl 1 [(.c (.int .u8 1))]) 30,
 oF 0 7 31,
 oL 31 32,
 mo (.call (.f 61) [(.t 32)] [] []) 33,
 oF 1 7 34,
 oL 34 35,
 mo (.call (.f 61) [(.t 35)] [] []) 36,
 mo (.lsl 1 [(.t 29),(.t 30),(.t 33),(.t 36)]) 37,
 mo (.call (.f 60) [(.t 37)] [] []) 38,
 oV 38 5]
 [[],[],[],[2],[3],[],[5],[6,4],[0,1,4,7],[8,7],[9,9,0,1,2,3,4,5,6,7,8,9]]
 [[],[],[],[2],[2,3],[],[5],[2,3,4,5,6],[0,1,2,3,4,5,6,7],[0,1,2,3,4,5,6,7,8],[0,1,2,3,4,5,6,7,8,9]])
 (.regD [oV 5 39,
 mo (.lsl 1 [(.c (.int .u8 0))]) 40,
 oF 2 7 41,
 oL 41 42,
 mo (.len false (.t 42)) 43,
 mo (.call (.f 61) [(.t 43)] [] []) 44,
 oF 2 7 45,
 oL 45 46,
 mo (.lsl 1 [(.t 39),(.t 40),(.t 44),(.t 46)]) 47,
 mo (.call (.f 60) [(.t 47)] [] []) 48,
 oV 48 5]
 [[],[],[],[2],[3],[4],[],[6],[0,1,5,7],[8,5],[9,9,0,1,2,3,4,5,6,7,8,9]]
 [[],[],[],[2],[2,3],[2,3,4],[],[6],[0,1,2,3,4,5,6,7],[0,1,2,3,4,5,6,7,8],[0,1,2,3,4,5,6,7,8,9]])))))
 (.reg [mo (.bin true .add (.t 22) (cI 1)) 49,
 oV 49 22]))))
def mc_2y : MC :=
 (sR [mo (.mv (.c (.sl []))) 2,
 oC 0 3]
 (sR [mo (.mv (.f 56)) 4]
 (.seq (.block 0
 (sR [oV 0 9,
 mo (.len false (.t 9)) 10,
 mo (.bin false .gtr (.t 10) (cI 200)) 11,
 oV 11 12,
 gF 12 13 (.mv (.t 0)),
 gF 12 14 (.mv (.t 4)),
 gF 12 15 (.call (.f 57) [(.t 13),(.t 14)] [] []),
 mo (.pick (.t 12) (.c (.bool true)) (.t 15)) 16,
 oV 16 8]
 (.cond (.t 8)
 (sR [mo (.mv (.c (.sl []))) 2,
 oC 3 3]
 .ret)
 (.seq (.note (.gc [0]) (.reg [oV 0 18,
 mo (.call (.f 57) [(.t 18),(.f 58)] [] []) 19,
 oV 19 17]))
 (.cond (.t 17)
 (sR [mo (.mv (.c (.sl []))) 2,
 oC 2 3]
 .ret)
 .skip)))))
 (sR [mo (.mv (.c (.sl []))) 5]
 (.seq (sR [oV 0 20,
 mo (.len false (.t 20)) 21,
 oC 0 22]
 (.block 1
 (.loop mc_3s)))
 (sR [oV 5 50,
 oV 50 2,
 oC 0 3]
 .ret))))))
theorem Wq_2y {ops_ : List GOp} : Cn Tryz.prog 35 [.sl (ops_.map GOp.v)] [] (F_2y ops_) (fun z => .tup [.sl (z.1.map byteV), .int .i64 z.2]) (fun z => []) := fun Q Q' h hQ => by
 refine acallM mc_2y [.fz 2] [] [.t 2, .t 3] Tryz.func35 fun M => ?_
 unfold F_2y at h
 unfold mc_2y
 replace h := tY h
 refine tB ?_
 repeat' (first
 | (exact tZ)
 | ((first | refine oblg h ?_ | refine roomG h ?_ | refine fork h ?_ ?_ | refine forkS h ?_ ?_) <;> clear h <;> intro hc h)
 | (obtain ⟨y, hy, h⟩ := h; (first | with_reducible first | have hw := Wq_2u.w hy | have hw := Wq_2x.w hy | have hw := Wq_24.w hy | have hw := Wq_10.w hy); replace hw := tY hw; (first | refine M.sC hw ?_ | refine M.sD hw ?_); clear hw hy; refine tB ?_)
 | (refine M.fold1 (b := mc_3s) 22 [20,21] [] (fun x => [(5, .sl (x.map byteV))]) (fun x => []) [] h ?_ ?_ ?_ <;> first
 | (clear h; intro k a x Qn K hK1 hkN1 ha1 h hf; have hl := fact_int (factsE_find (n := 21) hf.1 rfl); clear hf; have hkd := kD hkN1; have hkB1 := kB hkN1; have hkI1 := kI (k := k) (by omega); unfold F_3s at h; unfold mc_3s; replace h := tY h; refine tK ha1 hkd hkN1 hkB1 hkI1 ?_)
  |(clear h; intro x K h; replace h := And.left (And.intro h trivial); unfold mc_3s; replace h := tY h; refine tB ?_)
  |(clear h; (try refine tB ?_); exact tU0; done))
 | (simp only [ha1])
 | (refine hK1 _ ?_; (try refine tB ?_); refine ⟨_, h, ?_⟩; exact tU0; done)
 | (refine tE ?_; (first | rw [M.lok_compU] | rw [M.lokD_compU]); refine tB ?_)
 | (refine tA ?_)
 | fail)
def F_25 (ops_ : List GOp) : Option Int :=
 (F_2y ops_).bind fun y2 => bif (!decide (y2.2 = 0)) then some 65536 else some (y2.1.length : Int)
def mc_25 : MC :=
 (sR [oC 0 2]
 (sR [oV 0 6,
 mo (.call (.f 35) [(.t 6)] [] []) 7,
 oV 7 5,
 mo (.ext 0 (.t 5)) 8,
 mo (.ext 1 (.t 5)) 9,
 oV 8 3,
 oV 9 4]
 (.seq (sR [oV 4 10,
 mo (.bin false .neq (.t 10) (cI 0)) 11]
 (.cond (.t 11)
 (sR [oC 65536 2]
 .ret)
 .skip))
 (.seq (.note (.gc [3]) (.reg [oV 3 12,
 mo (.len false (.t 12)) 13,
 oV 13 2]))
 .ret))))
theorem Wq_25 {ops_ : List GOp} : Cn Tryz.prog 20 [.sl (ops_.map GOp.v)] [] (F_25 ops_) (fun z => .int .i64 z) (fun z => []) := fun Q Q' h hQ => by
 refine acallM mc_25 [] [] [.t 2] Tryz.func20 fun M => ?_
 unfold F_25 at h
 unfold mc_25
 replace h := tY h
 refine tB ?_
 repeat' (first
 | (exact tZ)
 | ((first | refine oblg h ?_ | refine roomG h ?_ | refine fork h ?_ ?_ | refine forkS h ?_ ?_) <;> clear h <;> intro hc h)
 | (obtain ⟨y, hy, h⟩ := h; have hw := Wq_2y.w hy; replace hw := tY hw; (first | refine M.sC hw ?_ | refine M.sD hw ?_); clear hw hy; refine tB ?_)
 | (refine tE ?_; (first | rw [M.lok_compU] | rw [M.lokD_compU]); refine tB ?_)
 | (refine tA ?_)
 | fail)
noncomputable def F_2z (k31 : Int) (a32 : GObject) (x30 : Unit) : Option (Fl Unit ((List GPacked) × Int)) :=
 (F_9 a32).bind fun y40 => bif (!decide (y40 = 0)) then some (.ex ([], y40)) else some (.nx ())
noncomputable def F_30 (l_ : List GObject) (k73 : Int) (a74 : GObject) (x72 : Unit) : Option (Fl Unit ((List GPacked) × Int)) :=
 chk (inc 0 k73 l_.length) ((F_1z (l_.take ((k73).toNat)) a74).bind fun y82 => bif y82 then some (.ex ([],7)) else some (.nx ()))
noncomputable def F_31 (l_ : List GObject) (k282 : Int) (a283 : GObject) (x281 : (List UInt8) × Int × (List GPacked)) : Option ((List UInt8) × Int × (List GPacked)) :=
 (F_20 a283).bind fun y324 => chk (in64 (x281.2.1 + 1)) (jn (α := Int × GPacked) ((F_23 x281.1 y324.1).bind fun y337 => grp ((decide (0 < k282) && decide (y337.2 = 0))) fun b342 => grp ((b342 && decide ((x281.2.1 + 1) ≤ 20))) fun b343 => jn (α := Bool) (bif b343 then (F_25 y337.1).bind fun y345 => some (decide (y345 < (y324.1.length : Int))) else some false) fun j346 => bif j346 then chk (in64 (k282 - 1)) (chk (inb (k282 - 1) l_.length) (some ((x281.2.1 + 1), (GPacked.mk a283.ID true ((l_.getD ((k282 - 1)).toNat default).ID) y337.1 [])))) else some (0, (GPacked.mk a283.ID false 0 [] y324.1))) fun j335 => chk (room (x281.2.2.length + [j335.2].length) 72) (some (y324.1, j335.1, (x281.2.2 ++ [j335.2]))))
noncomputable def F_26 (l_ : List GObject) : Option ((List GPacked) × Int) :=
 bif decide (400 < (l_.length : Int)) then some ([],3) else (forL F_2z l_ 0 ()).bind fun o => o.elim (fun x41 => (forL (F_30 l_) l_ 0 ()).bind fun o => o.elim (fun x83 => (foldL (F_31 l_) l_ 0 ([],0,[])).bind fun x347 => some (x347.2.2,0)) (fun r84 => some r84)) (fun r42 => some r42)
@[irreducible] def mc_2z : MC :=
 (sR [mo (.bin false .lss (.t 24) (.t 23)) 25]
 (.seq (.cond (.t 25)
 .skip
 (.exit 0))
 (.seq (.block 1
 (sR [mo (.iad 8 (.t 22) (.t 24)) 26,
 mo (.ld (some 8) (.t 26)) 27,
 mo (.alloc [(.int .i64 0),(.int .i64 0),(.sl []),(.sl []),(.int .i64 0),(.sl []),(.str []),(.int .i64 0)]) 5,
 ⟨.st 8 (.t 5) (.t 27), none, none⟩]
 (sR [mo (.ld (some 8) (.t 5)) 28,
 mo (.call (.f 15) [(.t 28)] [] []) 29,
 oV 29 6]
 (sR [oV 6 30,
 mo (.bin false .neq (.t 30) (cI 0)) 31]
 (.cond (.t 31)
 (.seq (.note (.gc [6]) (.reg [oV 6 32,
 mo (.mv (.c (.sl []))) 2,
 oV 32 3]))
 .ret)
 .skip)))))
 (.reg [mo (.bin true .add (.t 24) (cI 1)) 33,
 oV 33 24]))))
@[irreducible] def mc_30 : MC :=
 (sR [mo (.bin false .lss (.t 36) (.t 35)) 37]
 (.seq (.cond (.t 37)
 .skip
 (.exit 2))
 (.seq (.block 3
 (sR [oV 36 38,
 mo (.iad 8 (.t 34) (.t 36)) 39,
 mo (.ld (some 8) (.t 39)) 40,
 mo (.alloc [(.int .i64 0),(.int .i64 0),(.sl []),(.sl []),(.int .i64 0),(.sl []),(.str []),(.int .i64 0)]) 8,
 oV 38 7,
 ⟨.st 8 (.t 8) (.t 40), none, none⟩]
 (sR [oV 0 41,
 oV 7 42,
 mo (.slc 8 (.t 41) none (some (.t 42))) 43,
 mo (.mkfn 17 [(.t 8)]) 44,
 mo (.call (.f 16) [(.t 43),(.t 44)] [8] []) 45]
 (.cond (.t 45)
 (sR [mo (.mv (.c (.sl []))) 2,
 oC 7 3]
 .ret)
 .skip))))
 (.reg [mo (.bin true .add (.t 36) (cI 1)) 46,
 oV 46 36]))))
@[irreducible] def mg_n : List MOp := [gT 73 74 (.mv (.t 18)),
 gT 73 75 (.bin false .eql (.t 74) (cI 0)),
 mo (.pick (.t 73) (.t 75) (.c (.bool false))) 76]
@[irreducible] def mg_6l : List MOp := [gT 77 78 (.mv (.t 11)),
 gT 77 79 (.bin false .leq (.t 78) (cI 20)),
 mo (.pick (.t 77) (.t 79) (.c (.bool false))) 80]
@[irreducible] def mg_6m : List MOp := [gT 81 82 (.mv (.t 17)),
 gT 81 83 (.call (.f 20) [(.t 82)] [] []),
 gT 81 84 (.mv (.t 14)),
 gT 81 85 (.len false (.t 84)),
 gT 81 86 (.bin false .lss (.t 83) (.t 85)),
 mo (.pick (.t 81) (.t 86) (.c (.bool false))) 87]
@[irreducible] def mc_6n : MC :=
 (.reg [oV 9 98,
 mo (.ld (some 5) (.t 16)) 99,
 mo (.bslice 5 [(.t 99)]) 100,
 mo (.app 5 72 (.t 98) (.t 100)) 101,
 oV 14 102,
 oV 101 9,
 oV 102 10])
@[irreducible] def mc_31 : MC :=
 (sR [mo (.bin false .lss (.t 49) (.t 48)) 50]
 (.seq (.cond (.t 50)
 .skip
 (.exit 4))
 (.seq (.block 5
 (sR [oV 49 51,
 mo (.iad 8 (.t 47) (.t 49)) 52,
 mo (.ld (some 8) (.t 52)) 53,
 mo (.alloc [(.int .i64 0),(.int .i64 0),(.sl []),(.sl []),(.int .i64 0),(.sl []),(.str []),(.int .i64 0)]) 13,
 oV 51 12,
 ⟨.st 8 (.t 13) (.t 53), none, none⟩]
 (sR [mo (.ld (some 8) (.t 13)) 55,
 mo (.call (.f 18) [(.t 55)] [] []) 56,
 oV 56 54,
 mo (.ext 0 (.t 54)) 57,
 mo (.ext 1 (.t 54)) 58,
 oV 57 14,
 oV 58 15]
 (.seq (.note (.gc [0,9,10,11,12,13,14,47,48,49,74,75,78,79,82,83,84,85,86]) (.reg [oF 0 13 59,
 oL 59 60,
 oV 14 61,
 mo (.build [(.int .i64 0),(.bool false),(.int .i64 0),(.sl []),(.sl [])] [(0,1,(.t 60)), (4,1,(.t 61))]) 62,
 mo (.alloc [(.int .i64 0),(.bool false),(.int .i64 0),(.sl []),(.sl [])]) 16,
 ⟨.st 5 (.t 16) (.t 62), none, none⟩]))
 (sR [oV 11 63,
 mo (.bin true .add (.t 63) (cI 1)) 64,
 oV 64 11]
 (.cut (sR [oV 10 66,
 oV 14 67,
 mo (.call (.f 19) [(.t 66),(.t 67)] [] []) 68,
 oV 68 65,
 mo (.ext 0 (.t 65)) 69,
 mo (.ext 1 (.t 65)) 70,
 oV 69 17,
 oV 70 18]
 (.seq (.note (.gc [0,9,11,12,13,14,16,17,18,47,48,49,74,75,78,79,82,83,84,85,86]) (.regI [.op (oV 12 71),
 .op (mo (.bin false .gtr (.t 71) (cI 0)) 72),
 .op (oV 72 73),
 .grp mg_n,
 .op (oV 76 77),
 .grp mg_6l,
 .op (oV 80 81),
 .grp mg_6m]))
 (.cond (.t 87)
 (.regD [oF 0 13 88,
 oL 88 89,
 oV 0 90,
 oV 12 91,
 mo (.bin true .sub (.t 91) (cI 1)) 92,
 mo (.iad 8 (.t 90) (.t 92)) 93,
 oF 0 93 94,
 oL 94 95,
 oV 17 96,
 mo (.build [(.int .i64 0),(.bool false),(.int .i64 0),(.sl []),(.sl [])] [(0,1,(.t 89)), (1,1,(.c (.bool true))), (2,1,(.t 95)), (3,1,(.t 96))]) 97,
 ⟨.st 5 (.t 16) (.t 97), none, none⟩]
 [[],[0],[],[],[3],[2,4],[5],[6],[],[1,7,8],[9,0,1,2,3,4,5,6,7,8,9]]
 [[],[0],[],[],[3],[2,3,4],[2,3,4,5],[2,3,4,5,6],[],[0,1,2,3,4,5,6,7,8],[0,1,2,3,4,5,6,7,8,9]])
 (.reg [oC 0 11]))))
 mc_6n))))))
 (.reg [mo (.bin true .add (.t 49) (cI 1)) 103,
 oV 103 49]))))
def mc_26 : MC :=
 (sR [mo (.mv (.c (.sl []))) 2,
 oC 0 3]
 (.seq (sR [oV 0 19,
 mo (.len false (.t 19)) 20,
 mo (.bin false .gtr (.t 20) (cI 400)) 21]
 (.cond (.t 21)
 (sR [mo (.mv (.c (.sl []))) 2,
 oC 3 3]
 .ret)
 .skip))
 (.seq (sR [oV 0 22,
 mo (.len false (.t 22)) 23,
 oC 0 24]
 (.block 0
 (.loop mc_2z)))
 (.seq (sR [oV 0 34,
 mo (.len false (.t 34)) 35,
 oC 0 36]
 (.block 2
 (.loop mc_30)))
 (sR [mo (.mv (.c .nils)) 9]
 (sR [mo (.mv (.c (.sl []))) 10]
 (sR [oC 0 11]
 (.seq (sR [oV 0 47,
 mo (.len false (.t 47)) 48,
 oC 0 49]
 (.block 4
 (.loop mc_31)))
 (sR [oV 9 104,
 oV 104 2,
 oC 0 3]
 .ret)))))))))
theorem Wq_26 {l_ : List GObject} : Cn Tryz.prog 6 [.sl (l_.map GObject.v)] [] (F_26 l_) (fun z => .tup [.sl (z.1.map GPacked.v), .int .i64 z.2]) (fun z => []) := fun Q Q' h hQ => by
 refine acallM mc_26 [.fz 2] [] [.t 2, .t 3] Tryz.func6 fun M => ?_
 unfold F_26 at h
 unfold mc_26
 replace h := tY h
 refine tB ?_
 repeat' (first
 | (exact tZ)
 | ((first | refine oblg h ?_ | refine roomG h ?_ | refine fork h ?_ ?_ | refine forkS h ?_ ?_) <;> clear h <;> intro hc h)
 | (obtain ⟨y, hy, h⟩ := h; (first | (with_reducible first | have hw := Wq_9.w hy | have hw := Wq_20.w hy | have hw := Wq_23.w hy | have hw := Wq_25.w hy) | have hw := acall_swe 1000 8 (Wq_1z.w hy)); replace hw := tY hw; (first | refine M.sC hw ?_ | refine M.sD hw ?_); clear hw hy; refine tB ?_)
 | (refine M.for1 (b := mc_2z) 24 [0,22,23] [] (fun x => []) (fun x => []) [] h ?_ ?_ ?_ <;> first
 | (clear h; intro k a x Qn K hK1 hkN1 ha1 h hf; have hl := fact_int (factsE_find (n := 23) hf.1 rfl); clear hf; have hkd := kD hkN1; have hkB1 := kB hkN1; have hkI1 := kI (k := k) (by omega); unfold F_2z at h; unfold mc_2z; replace h := tY h; refine tK ha1 hkd hkN1 hkB1 hkI1 ?_)
  |(clear h; intro x K h; replace h := And.left (And.intro h trivial); unfold mc_2z; replace h := tY h; refine tB ?_)
  |(clear h; (try refine tB ?_); exact tU0; done))
 | (refine M.for1 (b := mc_30) 36 [0,34,35] [] (fun x => []) (fun x => []) [] h ?_ ?_ ?_ <;> first
 | (clear h; intro k a x Qn K hK2 hkN2 ha2 h hf; have hl := fact_int (factsE_find (n := 35) hf.1 rfl); clear hf; have hkd := kD hkN2; have hkB2 := kB hkN2; have hkI2 := kI (k := k) (by omega); unfold F_30 at h; unfold mc_30; replace h := tY h; refine tK ha2 hkd hkN2 hkB2 hkI2 ?_)
  |(clear h; intro x K h; replace h := And.left (And.intro h trivial); unfold mc_30; replace h := tY h; refine tB ?_)
  |(clear h; (try refine tB ?_); exact tU0; done))
 | (refine M.gj1 (ms := mg_6m) [0,9,11,12,13,14,16,17,47,48,49] [16,13,2009] (fun y => [(87, .bool y)]) (fun y => []) h ?_ ?_ <;> first
 | (clear h; intro Qn K hK3 h; unfold mg_6m; replace h := tY h; refine tB ?_)
  |(clear h; intro y h; replace h := tY h; refine tB ?_))
 | (refine M.gv1 (ms := mg_6l) 80 [78,79] h ?_ ?_ <;> first
 | (clear h; intro K hK4; unfold mg_6l; refine tB ?_)
 | (clear h; intro b h; replace h := tY h; refine tB ?_))
 | (refine M.gv1 (ms := mg_n) 76 [74,75] h ?_ ?_ <;> first
 | (clear h; intro K hK5; unfold mg_n; refine tB ?_)
 | (clear h; intro b h; replace h := tY h; refine tB ?_))
 | (refine M.jn1 (b := mc_6n) [0,9,14,16,47,48,49] [2009] (fun y => [(11, .int .i64 y.1)]) (fun y => [.o 16 (.cells [.int .i64 y.2.ID, .bool y.2.Delta, .int .i64 y.2.Base, .sl (y.2.Ops.map GOp.v), .sl (y.2.Data.map byteV)])]) [] h ?_ ?_ <;> first
 | (clear h; intro Qn K hK6 h; replace h := tY h; refine tB ?_)
  |(clear h; intro y h; unfold mc_6n; replace h := tY h; refine tB ?_))
 | (refine M.fold1 (b := mc_31) 49 [0,47,48] [] (fun x => [(9, .osl 2009 5 0 x.2.2.length), (10, .sl (x.1.map byteV)), (11, .int .i64 x.2.1)]) (fun x => [.o 2009 (.arr 5 (x.2.2.map GPacked.v))]) [.gc [0,9,10,11,47,48,49], .acc 9 2009 5] h ?_ ?_ ?_ <;> first
 | (clear h; intro k a x Qn K hK7 hkN7 ha7 h hf; have hl := fact_int (factsE_find (n := 48) hf.1 rfl); clear hf; have hkd := kD hkN7; have hkB7 := kB hkN7; have hkI7 := kI (k := k) (by omega); unfold F_31 at h; unfold mc_31; replace h := tY h; refine tK ha7 hkd hkN7 hkB7 hkI7 ?_)
  |(clear h; intro x K h; replace h := And.left (And.intro h trivial); unfold mc_31; replace h := tY h; refine tB ?_)
  |(clear h; (try refine tB ?_); exact tU0; done))
 | (first | simp only [ha1] | simp only [ha2] | simp only [ha7])
 | ((first | refine hK1 _ ?_ | refine hK2 _ ?_ | refine hK3 _ ?_ | refine hK6 _ ?_ | refine hK7 _ ?_); (try refine tB ?_); refine ⟨_, h, ?_⟩; exact tU0; done)
 | ((first | refine hK4 _ ?_ | refine hK5 _ ?_); exact tU; done)
 | (refine bfork (fun hc => ?_) (fun hc => ?_))
 | (refine tE ?_; (first | rw [M.lok_compU] | rw [M.lokD_compU]); refine tB ?_)
 | (refine tA ?_)
 | fail)
end Go.Ab
