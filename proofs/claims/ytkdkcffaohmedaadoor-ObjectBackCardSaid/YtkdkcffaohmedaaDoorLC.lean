/- What the functions of this seat that lie on the laws' road compute (part LC), each for every input. By AI agents. -/
import Derived.Test.YtkdkcffaohmedaaDoorProg
import Derived.KernelRfl
import Derived.Test.YtkdkcffaohmedaaDoorAbFun
import Derived.Test.YtkdkcffaohmedaaDoorLB
set_option linter.all false
set_option linter.all false
set_option maxRecDepth 20000
set_option maxHeartbeats 2000000
namespace Go.Ab
open Go.Proofs
noncomputable def F_10 (tape_ : List Int) : Option Bool :=
 (F_r (GTape.mk tape_ 0)).bind fun y2 => (F_0 y2.2 (y2.1.Objects.length : Int)).bind fun y5 => chk (inb y5.1 y2.1.Objects.length) ((F_0 y5.2 (y2.1.Objects.length : Int)).bind fun y6 => chk (inb y6.1 y2.1.Objects.length) ((F_6 (y2.1.Objects.getD (y5.1).toNat default)).bind fun y8 => (F_6 (GObject.mk ((y2.1.Objects.getD (y5.1).toNat default).ID) ((y2.1.Objects.getD (y6.1).toNat default).Kind) ((y2.1.Objects.getD (y6.1).toNat default).Data) ((y2.1.Objects.getD (y6.1).toNat default).Items) ((y2.1.Objects.getD (y6.1).toNat default).Tree) ((y2.1.Objects.getD (y6.1).toNat default).Parents) ((y2.1.Objects.getD (y6.1).toNat default).Author) ((y2.1.Objects.getD (y6.1).toNat default).Time))).bind fun y10 => (F_o ((y2.1.Objects.getD (y5.1).toNat default).ID) y8.1).bind fun y12 => bif decide (y8.2 = 0) then bif decide (y10.2 = 0) then bif decide (y12.2 = 0) then (F_9 y12.1 (y2.1.Objects.getD (y5.1).toNat default)).bind fun y16 => bif y16 then (F_9 (y2.1.Objects.getD (y5.1).toNat default) (GObject.mk ((y2.1.Objects.getD (y5.1).toNat default).ID) ((y2.1.Objects.getD (y6.1).toNat default).Kind) ((y2.1.Objects.getD (y6.1).toNat default).Data) ((y2.1.Objects.getD (y6.1).toNat default).Items) ((y2.1.Objects.getD (y6.1).toNat default).Tree) ((y2.1.Objects.getD (y6.1).toNat default).Parents) ((y2.1.Objects.getD (y6.1).toNat default).Author) ((y2.1.Objects.getD (y6.1).toNat default).Time))).bind fun y17 => bif (decide (y8.1 = y10.1) == y17) then F_f.bind fun y18 => some y18 else some false else some false else some false else some false else some false))
def mc_10 : MC :=
 (sR [mo (.mv (.c (.bool false))) 2]
 (sR [oV 0 13,
 mo (.build [(.sl []),(.int .i64 0)] [(0,1,(.t 13))]) 14,
 mo (.box (.t 14)) 15,
 oV 15 3]
 (sR [oV 3 16,
 mo (.call (.f 20) [(.t 16)] [15] []) 17,
 mo (.alloc [(.sl []),(.sl [])]) 4,
 ⟨.st 2 (.t 4) (.t 17), none, none⟩]
 (.seq (.regD [oF 0 4 18,
 oL 18 19,
 oV 3 20,
 oF 0 4 21,
 oL 21 22,
 mo (.len false (.t 22)) 23,
 mo (.call (.f 8) [(.t 20),(.t 23)] [15] []) 24,
 mo (.iad 8 (.t 19) (.t 24)) 25,
 mo (.ld (some 8) (.t 25)) 26,
 oF 0 4 27,
 oL 27 28,
 oV 3 29,
 oF 0 4 30,
 oL 30 31,
 mo (.len false (.t 31)) 32,
 mo (.call (.f 8) [(.t 29),(.t 32)] [15] []) 33,
 mo (.iad 8 (.t 28) (.t 33)) 34,
 mo (.ld (some 8) (.t 34)) 35,
 mo (.alloc [(.int .i64 0),(.int .i64 0),(.sl []),(.sl []),(.int .i64 0),(.sl []),(.str []),(.int .i64 0)]) 5,
 mo (.alloc [(.int .i64 0),(.int .i64 0),(.sl []),(.sl []),(.int .i64 0),(.sl []),(.str []),(.int .i64 0)]) 6,
 ⟨.st 8 (.t 5) (.t 26), none, none⟩,
 ⟨.st 8 (.t 6) (.t 35), none, none⟩]
 [[],[0],[],[],[3],[4],[2,5],[1,6],[7],[],[9],[],[],[12],[13],[11,14,6],[10,15],[16],[],[],[18,8,15,0,1,2,3,4,5,6,7,8,18,19],[19,17,20,0,1,2,3,4,5,6,7,8,9,10,11,12,13,14,15,16,17,18,19,20]]
 [[],[0],[],[],[3],[3,4],[2,3,4,5],[0,1,2,3,4,5,6],[0,1,2,3,4,5,6,7],[],[9],[],[],[12],[12,13],[2,3,4,5,6,11,12,13,14],[2,3,4,5,6,9,10,11,12,13,14,15],[2,3,4,5,6,9,10,11,12,13,14,15,16],[],[],[0,1,2,3,4,5,6,7,8,11,12,13,14,15,18,19],[0,1,2,3,4,5,6,7,8,9,10,11,12,13,14,15,16,17,18,19,20]])
 (.seq (.note (.gc [5,6,59,60,63,64,67,68,69,72,73,74,75,76,77,78,79,80,83]) (.reg [oF 0 5 36,
 oL 36 37,
 oF 0 6 38,
 ⟨.st 1 (.t 38) (.t 37), none, none⟩]))
 (sR [mo (.ld (some 8) (.t 5)) 40,
 mo (.call (.f 14) [(.t 40)] [] []) 41,
 oV 41 39,
 mo (.ext 0 (.t 39)) 42,
 mo (.ext 1 (.t 39)) 43,
 oV 42 7,
 oV 43 8]
 (.seq (.note (.gc [5,6,7,8,59,60,63,64,67,68,69,72,73,74,75,76,77,78,79,80,83]) (.reg [mo (.ld (some 8) (.t 6)) 45,
 mo (.call (.f 14) [(.t 45)] [] []) 46,
 oV 46 44,
 mo (.ext 0 (.t 44)) 47,
 mo (.ext 1 (.t 44)) 48,
 oV 47 9,
 oV 48 10]))
 (sR [oF 0 5 50,
 oL 50 51,
 oV 7 52,
 mo (.call (.f 22) [(.t 51),(.t 52)] [] []) 53,
 oV 53 49,
 mo (.ext 0 (.t 49)) 54,
 mo (.ext 1 (.t 49)) 55,
 mo (.alloc [(.int .i64 0),(.int .i64 0),(.sl []),(.sl []),(.int .i64 0),(.sl []),(.str []),(.int .i64 0)]) 11,
 ⟨.st 8 (.t 11) (.t 54), none, none⟩,
 oV 55 12]
 (.seq (.note (.gc [5,6,7,8,9,10,11,12,59,60,63,64,67,68,69,72,73,74,75,76,77,78,79,80,83]) (.regD [oV 8 56,
 mo (.bin false .eql (.t 56) (cI 0)) 57,
 oV 57 58,
 gT 58 59 (.mv (.t 10)),
 gT 58 60 (.bin false .eql (.t 59) (cI 0)),
 mo (.pick (.t 58) (.t 60) (.c (.bool false))) 61,
 oV 61 62,
 gT 62 63 (.mv (.t 12)),
 gT 62 64 (.bin false .eql (.t 63) (cI 0)),
 mo (.pick (.t 62) (.t 64) (.c (.bool false))) 65,
 oV 65 66,
 gT 66 67 (.ld (some 8) (.t 11)),
 gT 66 68 (.ld (some 8) (.t 5)),
 gT 66 69 (.call (.f 19) [(.t 67),(.t 68)] [] []),
 mo (.pick (.t 66) (.t 69) (.c (.bool false))) 70,
 oV 70 71,
 gT 71 72 (.mv (.t 7)),
 gT 71 73 (.b2s (.t 72)),
 gT 71 74 (.mv (.t 9)),
 gT 71 75 (.b2s (.t 74)),
 gT 71 76 (.bin false .eql (.t 73) (.t 75)),
 gT 71 77 (.ld (some 8) (.t 5)),
 gT 71 78 (.ld (some 8) (.t 6)),
 gT 71 79 (.call (.f 19) [(.t 77),(.t 78)] [] []),
 gT 71 80 (.beq false (.t 76) (.t 79)),
 mo (.pick (.t 71) (.t 80) (.c (.bool false))) 81,
 oV 81 82,
 gT 82 83 (.call (.f 11) [] [] []),
 mo (.pick (.t 82) (.t 83) (.c (.bool false))) 84,
 oV 84 2]
 [[],[0],[1],[2],[3,2],[2,4],[5,2],[6],[7,6],[6,8],[9,6],[10],[10],[11,12,10,10],[10,13],[14,13],[15],[16,15],[15],[18,15],[17,19,15],[15],[15],[21,22,15,15],[20,23,15],[15,24],[25,23],[26,26],[26,27],[28,27,0,1,2,3,4,5,6,7,8,9,10,11,12,13,14,15,16,17,18,19,20,21,22,23,24,25,26,27,28]]
 [[],[0],[0,1],[0,1,2],[0,1,2,3],[0,1,2,3,4],[0,1,2,3,4,5],[0,1,2,3,4,5,6],[0,1,2,3,4,5,6,7],[0,1,2,3,4,5,6,7,8],[0,1,2,3,4,5,6,7,8,9],[0,1,2,3,4,5,6,7,8,9,10],[0,1,2,3,4,5,6,7,8,9,10],[0,1,2,3,4,5,6,7,8,9,10,11,12],[0,1,2,3,4,5,6,7,8,9,10,11,12,13],[0,1,2,3,4,5,6,7,8,9,10,11,12,13,14],[0,1,2,3,4,5,6,7,8,9,10,11,12,13,14,15],[0,1,2,3,4,5,6,7,8,9,10,11,12,13,14,15,16],[0,1,2,3,4,5,6,7,8,9,10,11,12,13,14,15],[0,1,2,3,4,5,6,7,8,9,10,11,12,13,14,15,18],[0,1,2,3,4,5,6,7,8,9,10,11,12,13,14,15,16,17,18,19],[0,1,2,3,4,5,6,7,8,9,10,11,12,13,14,15],[0,1,2,3,4,5,6,7,8,9,10,11,12,13,14,15],[0,1,2,3,4,5,6,7,8,9,10,11,12,13,14,15,21,22],[0,1,2,3,4,5,6,7,8,9,10,11,12,13,14,15,16,17,18,19,20,21,22,23],[0,1,2,3,4,5,6,7,8,9,10,11,12,13,14,15,16,17,18,19,20,21,22,23,24],[0,1,2,3,4,5,6,7,8,9,10,11,12,13,14,15,16,17,18,19,20,21,22,23,24,25],[0,1,2,3,4,5,6,7,8,9,10,11,12,13,14,15,16,17,18,19,20,21,22,23,24,25,26],[0,1,2,3,4,5,6,7,8,9,10,11,12,13,14,15,16,17,18,19,20,21,22,23,24,25,26,27],[0,1,2,3,4,5,6,7,8,9,10,11,12,13,14,15,16,17,18,19,20,21,22,23,24,25,26,27,28]]))
 .ret)))))))))
theorem Wq_10 {tape_ : List Int} : Cn Tryd.prog 6 [.sl (tape_.map (V.int .i64))] [] (F_10 tape_) (fun z => .bool z) (fun z => []) := fun Q Q' h hQ => by
 refine acallM mc_10 [] [] [.t 2] Tryd.func6 fun M => ?_
 unfold F_10 at h
 unfold mc_10
 replace h := tY h
 refine tB ?_
 repeat' (first
 | (exact tZ)
 | ((first | refine oblg h ?_ | refine roomG h ?_ | refine fork h ?_ ?_ | refine forkS h ?_ ?_) <;> clear h <;> intro hc h)
 | (obtain ⟨y, hy, h⟩ := h; (first | (with_reducible first | have hw := Wq_6.w hy | have hw := Wq_o.w hy | have hw := Wq_9.w hy | have hw := Wq_f.w hy) | have hw := acall_swe 1000 15 (Wq_r.w hy) | have hw := acall_swe 1000 15 (Wq_0.w hy)); replace hw := tY hw; (first | refine M.sC hw ?_ | refine M.sD hw ?_); clear hw hy; refine tB ?_)
 | (refine tE ?_; (first | rw [M.lok_compU] | rw [M.lokD_compU]); refine tB ?_)
 | (refine tA ?_)
 | fail)
end Go.Ab
