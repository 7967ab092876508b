/- What the functions of this seat that lie on the laws' road compute (part LC), each for every input. By AI agents. -/
import Derived.Test.YtdcjekffkibboaaDoorProg
import Derived.KernelRfl
import Derived.Test.YtdcjekffkibboaaDoorAbFun
import Derived.Test.YtdcjekffkibboaaDoorLB
set_option linter.all false
set_option linter.all false
set_option maxRecDepth 20000
set_option maxHeartbeats 2000000
namespace Go.Ab
open Go.Proofs
noncomputable def F_1n (tape_ : List Int) : Option Bool :=
 (F_18 (GTape.mk tape_ 0)).bind fun y2 => (F_0 y2.2 (y2.1.Objects.length : Int)).bind fun y4 => chk (inb y4.1 y2.1.Objects.length) ((F_k (y2.1.Objects.getD (y4.1).toNat default)).bind fun y6 => (F_15 [(GPacked.mk 7 false 0 [] y6), (GPacked.mk 5 true 7 [(GOp.mk 0 (y6.length : Int) [])] [])]).bind fun y8 => (F_19 [(GPacked.mk 7 false 0 [] y6), (GPacked.mk 5 true 7 [(GOp.mk 0 (y6.length : Int) [])] [])] 5).bind fun y10 => grp (((!decide (y8.2 = 0)) || (!y10.2))) fun b17 => grp ((b17 || (!decide ((y8.1.length : Int) = 2)))) fun b18 => bif b18 then some false else bif (!decide (y10.1 = y6)) then some false else chk (inb 0 y8.1.length) ((F_e (y8.1.getD 0 default) (GObject.mk 7 ((y2.1.Objects.getD (y4.1).toNat default).Kind) ((y2.1.Objects.getD (y4.1).toNat default).Data) ((y2.1.Objects.getD (y4.1).toNat default).Items) ((y2.1.Objects.getD (y4.1).toNat default).Tree) ((y2.1.Objects.getD (y4.1).toNat default).Parents) ((y2.1.Objects.getD (y4.1).toNat default).Author) ((y2.1.Objects.getD (y4.1).toNat default).Time))).bind fun y21 => bif y21 then chk (inb 1 y8.1.length) ((F_e (y8.1.getD 1 default) (GObject.mk 5 ((y2.1.Objects.getD (y4.1).toNat default).Kind) ((y2.1.Objects.getD (y4.1).toNat default).Data) ((y2.1.Objects.getD (y4.1).toNat default).Items) ((y2.1.Objects.getD (y4.1).toNat default).Tree) ((y2.1.Objects.getD (y4.1).toNat default).Parents) ((y2.1.Objects.getD (y4.1).toNat default).Author) ((y2.1.Objects.getD (y4.1).toNat default).Time))).bind fun y22 => some y22) else some false))
@[irreducible] def mg_3i : List MOp := [gF 49 50 (.mv (.t 11)),
 gF 49 51 (.not (.t 50)),
 mo (.pick (.t 49) (.c (.bool true)) (.t 51)) 52]
@[irreducible] def mg_3j : List MOp := [gF 53 54 (.mv (.t 8)),
 gF 53 55 (.len false (.t 54)),
 gF 53 56 (.bin false .neq (.t 55) (cI 2)),
 mo (.pick (.t 53) (.c (.bool true)) (.t 56)) 57]
def mc_1n : MC :=
 (sR [mo (.mv (.c (.bool false))) 2]
 (sR [oV 0 14,
 mo (.build [(.sl []),(.int .i64 0)] [(0,1,(.t 14))]) 15,
 mo (.box (.t 15)) 16,
 oV 16 3]
 (sR [oV 3 17,
 mo (.call (.f 7) [(.t 17)] [16] []) 18,
 mo (.fld none 0 (.t 18)) 19,
 oV 19 4]
 (.seq (.note (.gc [3,4,50,51,54,55,56,59,60,61,62,63,75,76,77,78,79]) (.reg [oV 4 20,
 oV 3 21,
 oV 4 22,
 mo (.len false (.t 22)) 23,
 mo (.call (.f 12) [(.t 21),(.t 23)] [16] []) 24,
 mo (.iad 8 (.t 20) (.t 24)) 25,
 mo (.ld (some 8) (.t 25)) 26,
 mo (.alloc [(.int .i64 0),(.int .i64 0),(.sl []),(.sl []),(.int .i64 0),(.sl []),(.str []),(.int .i64 0)]) 5,
 ⟨.st 8 (.t 5) (.t 26), none, none⟩]))
 (.seq (.note (.gc [5,50,51,54,55,56,59,60,61,62,63,75,76,77,78,79]) (.reg [mo (.ld (some 8) (.t 5)) 27,
 mo (.call (.f 13) [(.t 27)] [] []) 28,
 oV 28 6]))
 (sR [oV 6 29,
 mo (.build [(.int .i64 0),(.bool false),(.int .i64 0),(.sl []),(.sl [])] [(0,1, (cI 7)), (4,1,(.t 29))]) 30,
 oV 6 31,
 mo (.len false (.t 31)) 32,
 mo (.build [(.int .i64 0),(.int .i64 0),(.sl [])] [(1,1,(.t 32))]) 33,
 mo (.lsl 3 [(.t 33)]) 34,
 mo (.build [(.int .i64 0),(.bool false),(.int .i64 0),(.sl []),(.sl [])] [(0,1, (cI 5)), (1,1,(.c (.bool true))), (2,1, (cI 7)), (3,1,(.t 34))]) 35,
 mo (.bslice 5 [(.t 30),(.t 35)]) 36,
 oV 36 7]
 (.seq (.note (.gc [5,6,7,50,51,54,55,56,59,60,61,62,63,75,76,77,78,79]) (.regI [.op (oV 7 38),
 .nt (.fz 38),
 .op (mo (.call (.f 8) [(.t 38)] [] []) 39),
 .op (oV 39 37),
 .op (mo (.ext 0 (.t 37)) 40),
 .op (mo (.ext 1 (.t 37)) 41),
 .op (oV 40 8),
 .op (oV 41 9)]))
 (sR [oV 7 43,
 mo (.call (.f 14) [(.t 43), (cI 5)] [] []) 44,
 oV 44 42,
 mo (.ext 0 (.t 42)) 45,
 mo (.ext 1 (.t 42)) 46,
 oV 45 10,
 oV 46 11]
 (.seq (.seq (.note (.gc [5,6,8,9,10,11,50,51,54,55,56,59,60,61,62,63,75,76,77,78,79]) (.regI [.op (oV 9 47),
 .op (mo (.bin false .neq (.t 47) (cI 0)) 48),
 .op (oV 48 49),
 .grp mg_3i,
 .op (oV 52 53),
 .grp mg_3j,
 .op (oV 57 58),
 .op (gF 58 59 (.mv (.t 10))),
 .op (gF 58 60 (.b2s (.t 59))),
 .op (gF 58 61 (.mv (.t 6))),
 .op (gF 58 62 (.b2s (.t 61))),
 .op (gF 58 63 (.bin false .neq (.t 60) (.t 62))),
 .op (mo (.pick (.t 58) (.c (.bool true)) (.t 63)) 64)]))
 (.cond (.t 64)
 (sR [mo (.mv (.c (.bool false))) 2]
 .ret)
 .skip))
 (.seq (.note (.gc [5,8,75,76,77,78,79]) (.regD [mo (.ld (some 8) (.t 5)) 65,
 mo (.ld (some 8) (.t 5)) 66,
 mo (.alloc [(.int .i64 0),(.int .i64 0),(.sl []),(.sl []),(.int .i64 0),(.sl []),(.str []),(.int .i64 0)]) 12,
 mo (.alloc [(.int .i64 0),(.int .i64 0),(.sl []),(.sl []),(.int .i64 0),(.sl []),(.str []),(.int .i64 0)]) 13,
 ⟨.st 8 (.t 12) (.t 65), none, none⟩,
 ⟨.st 8 (.t 13) (.t 66), none, none⟩]
 [[],[],[],[],[2,0,0,2,3],[3,1,4,0,1,2,3,4]]
 [[],[],[],[],[0,2,3],[0,1,2,3,4]]))
 (sR [oF 0 12 67,
 ⟨.st 1 (.t 67) (cI 7), none, none⟩,
 oF 0 13 68,
 ⟨.st 1 (.t 68) (cI 5), none, none⟩]
 (.seq (.regD [oV 8 69,
 mo (.iad 8 (.t 69) (cI 0)) 70,
 mo (.ld (some 8) (.t 70)) 71,
 mo (.ld (some 8) (.t 12)) 72,
 mo (.call (.f 9) [(.t 71),(.t 72)] [] []) 73,
 oV 73 74,
 gT 74 75 (.mv (.t 8)),
 gT 74 76 (.iad 8 (.t 75) (cI 1)),
 gT 74 77 (.ld (some 8) (.t 76)),
 gT 74 78 (.ld (some 8) (.t 13)),
 gT 74 79 (.call (.f 9) [(.t 77),(.t 78)] [] []),
 mo (.pick (.t 74) (.t 79) (.c (.bool false))) 80,
 oV 80 2]
 [[],[0],[1],[],[2,3],[4,4],[5],[6,5],[7,5],[5],[8,9,5,5],[5,10],[11,10,0,1,2,3,4,5,6,7,8,9,10,11]]
 [[],[0],[0,1],[],[0,1,2,3],[0,1,2,3,4],[0,1,2,3,4,5],[0,1,2,3,4,5,6],[0,1,2,3,4,5,6,7],[0,1,2,3,4,5],[0,1,2,3,4,5,6,7,8,9],[0,1,2,3,4,5,6,7,8,9,10],[0,1,2,3,4,5,6,7,8,9,10,11]])
 .ret))))))))))))
theorem Wq_1n {tape_ : List Int} : Cn Tryd.prog 5 [.sl (tape_.map (V.int .i64))] [] (F_1n tape_) (fun z => .bool z) (fun z => []) := fun Q Q' h hQ => by
 refine acallM mc_1n [] [] [.t 2] Tryd.func5 fun M => ?_
 unfold F_1n at h
 unfold mc_1n
 replace h := tY h
 refine tB ?_
 repeat' (first
 | (exact tZ)
 | ((first | refine oblg h ?_ | refine roomG h ?_ | refine fork h ?_ ?_ | refine forkS h ?_ ?_) <;> clear h <;> intro hc h)
 | (obtain ⟨y, hy, h⟩ := h; (first | (with_reducible first | have hw := Wq_k.w hy | have hw := Wq_15.w hy | have hw := Wq_19.w hy | have hw := Wq_e.w hy) | have hw := acall_swe 1000 16 (Wq_18.w hy) | have hw := acall_swe 1000 16 (Wq_0.w hy)); replace hw := tY hw; (first | refine M.sC hw ?_ | refine M.sD hw ?_); clear hw hy; refine tB ?_)
 | (refine M.gv1 (ms := mg_3j) 57 [54,55,56] h ?_ ?_ <;> first
 | (clear h; intro K hK1; unfold mg_3j; refine tB ?_)
 | (clear h; intro b h; replace h := tY h; refine tB ?_))
 | (refine M.gv1 (ms := mg_3i) 52 [50,51] h ?_ ?_ <;> first
 | (clear h; intro K hK2; unfold mg_3i; refine tB ?_)
 | (clear h; intro b h; replace h := tY h; refine tB ?_))
 | ((first | refine hK1 _ ?_ | refine hK2 _ ?_); exact tU; done)
 | (refine bfork (fun hc => ?_) (fun hc => ?_))
 | (refine tE ?_; (first | rw [M.lok_compU] | rw [M.lokD_compU]); refine tB ?_)
 | (refine tA ?_)
 | fail)
end Go.Ab
