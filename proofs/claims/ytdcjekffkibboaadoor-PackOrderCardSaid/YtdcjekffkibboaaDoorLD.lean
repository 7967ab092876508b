/- What the functions of this seat that lie on the laws' road compute (part LD), each for every input. By AI agents. -/
import Derived.Test.YtdcjekffkibboaaDoorProg
import Derived.KernelRfl
import Derived.Test.YtdcjekffkibboaaDoorAbFun
import Derived.Test.YtdcjekffkibboaaDoorLB
set_option linter.all false
set_option linter.all false
set_option maxRecDepth 20000
set_option maxHeartbeats 2000000
namespace Go.Ab
open Go.Proofs
noncomputable def F_21 (y254 : List UInt8) (y277 : List UInt8) (x284 : Int) : Option (Fl Int Int) :=
 bif decide (x284 < (y254.length : Int)) then bif decide (x284 < (y277.length : Int)) then chk (inb x284 y254.length) (chk (inb x284 y277.length) (bif decide (((y254.getD (x284).toNat default).toNat : Int) = ((y277.getD (x284).toNat default).toNat : Int)) then chk (in64 (x284 + 1)) (some (.nx (x284 + 1))) else some (.ex x284))) else some (.ex x284) else some (.ex x284)
noncomputable def F_2b (l_ : List GObject) (x182 : Int × (List GPacked) × GTape) : Option (Fl (Int × (List GPacked) × GTape) ((List GPacked) × GTape)) :=
 bif decide (x182.1 < (l_.length : Int)) then jn (α := (List GPacked) × GTape) (chk (inb x182.1 l_.length) ((F_a (l_.getD (x182.1).toNat default)).bind fun y254 => jn (α := Bool × GTape) (bif decide (0 < x182.1) then (F_0 x182.2.2 3).bind fun y274 => some (decide (y274.1 = 0), y274.2) else some (false, x182.2.2)) fun j275 => bif j275.1 then chk (in64 (x182.1 - 1)) (chk (inb (x182.1 - 1) l_.length) ((F_a (l_.getD ((x182.1 - 1)).toNat default)).bind fun y277 => (loop (F_21 y254 y277) 0).bind fun r285 => jn (α := List GOp) (bif decide (0 < r285) then some [(GOp.mk 0 r285 [])] else some []) fun j286 => jn (α := List GOp) (bif decide (r285 < (y254.length : Int)) then chk (inc r285 (y254.length : Int) y254.length) (chk (room (j286.length + [(GOp.mk 0 0 (y254.drop ((r285).toNat)))].length) 40) (some (j286 ++ [(GOp.mk 0 0 (y254.drop ((r285).toNat)))]))) else some j286) fun j287 => chk (inb x182.1 l_.length) (chk (in64 (x182.1 - 1)) (chk (inb (x182.1 - 1) l_.length) (chk (room (x182.2.1.length + [(GPacked.mk ((l_.getD (x182.1).toNat default).ID) true ((l_.getD ((x182.1 - 1)).toNat default).ID) j287 [])].length) 72) (some ((x182.2.1 ++ [(GPacked.mk ((l_.getD (x182.1).toNat default).ID) true ((l_.getD ((x182.1 - 1)).toNat default).ID) j287 [])]), j275.2))))))) else chk (inb x182.1 l_.length) (chk (room (x182.2.1.length + [(GPacked.mk ((l_.getD (x182.1).toNat default).ID) false 0 [] y254)].length) 72) (some ((x182.2.1 ++ [(GPacked.mk ((l_.getD (x182.1).toNat default).ID) false 0 [] y254)]), j275.2))))) fun j252 => chk (in64 (x182.1 + 1)) (some (.nx ((x182.1 + 1), j252.1, j252.2))) else some (.ex (x182.2.1, x182.2.2))
noncomputable def F_1a (t_ : GTape) (l_ : List GObject) : Option ((List GPacked) × GTape) :=
 (loop (F_2b l_) (0,[], t_)).bind fun r288 => some (r288.1, r288.2)
@[irreducible] def mg_3q : List MOp := [gT 24 25 (.mv (.t 0)),
 gT 24 26 (.call (.f 12) [(.t 25), (cI 3)] [1000] []),
 gT 24 27 (.bin false .eql (.t 26) (cI 0)),
 mo (.pick (.t 24) (.t 27) (.c (.bool false))) 28]
@[irreducible] def mc_21 : MC :=
 (.seq (.seq (.regD [oV 9 35,
 oV 7 36,
 mo (.len false (.t 36)) 37,
 mo (.bin false .lss (.t 35) (.t 37)) 38,
 oV 38 39,
 gT 39 40 (.mv (.t 9)),
 gT 39 41 (.mv (.t 8)),
 gT 39 42 (.len false (.t 41)),
 gT 39 43 (.bin false .lss (.t 40) (.t 42)),
 mo (.pick (.t 39) (.t 43) (.c (.bool false))) 44,
 oV 44 45,
 gT 45 46 (.mv (.t 7)),
 gT 45 47 (.mv (.t 9)),
 gT 45 48 (.iad 1 (.t 46) (.t 47)),
 gT 45 49 (.ld none (.t 48)),
 gT 45 50 (.mv (.t 8)),
 gT 45 51 (.mv (.t 9)),
 gT 45 52 (.iad 1 (.t 50) (.t 51)),
 gT 45 53 (.ld none (.t 52)),
 gT 45 54 (.bin false .eql (.t 49) (.t 53)),
 mo (.pick (.t 45) (.t 54) (.c (.bool false))) 55]
 [[],[],[1],[0,2],[3],[4],[4],[6,4],[5,7,4],[4,8],[9,4],[10],[10],[11,12,10],[13,10],[10],[10],[15,16,10],[17,10],[14,18,10],[10,19]]
 [[],[],[1],[0,1,2],[0,1,2,3],[0,1,2,3,4],[0,1,2,3,4],[0,1,2,3,4,6],[0,1,2,3,4,5,6,7],[0,1,2,3,4,5,6,7,8],[0,1,2,3,4,5,6,7,8,9],[0,1,2,3,4,5,6,7,8,9,10],[0,1,2,3,4,5,6,7,8,9,10],[0,1,2,3,4,5,6,7,8,9,10,11,12],[0,1,2,3,4,5,6,7,8,9,10,11,12,13],[0,1,2,3,4,5,6,7,8,9,10],[0,1,2,3,4,5,6,7,8,9,10],[0,1,2,3,4,5,6,7,8,9,10,15,16],[0,1,2,3,4,5,6,7,8,9,10,15,16,17],[0,1,2,3,4,5,6,7,8,9,10,11,12,13,14,15,16,17,18],[0,1,2,3,4,5,6,7,8,9,10,11,12,13,14,15,16,17,18,19]])
 (.cond (.t 55)
 .skip
 (.exit 2)))
 (.block 3
 (.note (.gc [0,1,5,6,7,8,9,25,26,27,40,41,42,43,46,47,48,49,50,51,52,53,54]) (.reg [oV 9 56,
 mo (.bin true .add (.t 56) (cI 1)) 57,
 oV 57 9]))))
@[irreducible] def mc_3r : MC :=
 (.seq (.note (.fz 10) (.regD [oV 5 76,
 oV 1 77,
 oV 6 78,
 mo (.iad 8 (.t 77) (.t 78)) 79,
 oF 0 79 80,
 oL 80 81,
 oV 1 82,
 oV 6 83,
 mo (.bin true .sub (.t 83) (cI 1)) 84,
 mo (.iad 8 (.t 82) (.t 84)) 85,
 oF 0 85 86,
 oL 86 87,
 oV 10 88,
 mo (.build [(.int .i64 0),(.bool false),(.int .i64 0),(.sl []),(.sl [])] [(0,1,(.t 81)), (1,1,(.c (.bool true))), (2,1,(.t 87)), (3,1,(.t 88))]) 89,
 mo (.bslice 5 [(.t 89)]) 90,
 mo (.app 5 72 (.t 76) (.t 90)) 91,
 oV 91 5]
 [[],[],[],[1,2],[3],[4],[],[],[7],[6,8],[9],[10],[],[5,11,12],[13],[0,14],[15,15,0,1,2,3,4,5,6,7,8,9,10,11,12,13,14,15]]
 [[],[],[],[1,2],[1,2,3],[1,2,3,4],[],[],[7],[6,7,8],[6,7,8,9],[6,7,8,9,10],[],[1,2,3,4,5,6,7,8,9,10,11,12],[1,2,3,4,5,6,7,8,9,10,11,12,13],[0,1,2,3,4,5,6,7,8,9,10,11,12,13,14],[0,1,2,3,4,5,6,7,8,9,10,11,12,13,14,15]]))
 (.exit 1))
@[irreducible] def mc_3s : MC :=
 (.cut (sR [oV 9 65,
 oV 7 66,
 mo (.len false (.t 66)) 67,
 mo (.bin false .lss (.t 65) (.t 67)) 68]
 (.cond (.t 68)
 (.reg [oV 10 69,
 oV 7 70,
 oV 9 71,
 mo (.slc 1 (.t 70) (some (.t 71)) none) 72,
 mo (.build [(.int .i64 0),(.int .i64 0),(.sl [])] [(2,1,(.t 72))]) 73,
 mo (.bslice 3 [(.t 73)]) 74,
 mo (.app 3 40 (.t 69) (.t 74)) 75,
 oV 75 10])
 .skip))
 mc_3r)
@[irreducible] def mc_3t : MC :=
 (.reg [oV 6 15,
 mo (.bin true .add (.t 15) (cI 1)) 16,
 oV 16 6])
@[irreducible] def mc_2b : MC :=
 (.seq (sR [oV 6 11,
 oV 1 12,
 mo (.len false (.t 12)) 13,
 mo (.bin false .lss (.t 11) (.t 13)) 14]
 (.cond (.t 14)
 .skip
 (.exit 0)))
 (.cut (.block 1
 (sR [oV 1 17,
 oV 6 18,
 mo (.iad 8 (.t 17) (.t 18)) 19,
 mo (.ld (some 8) (.t 19)) 20,
 mo (.call (.f 13) [(.t 20)] [] []) 21,
 oV 21 7]
 (.seq (.seq (.note (.gc [0,1,5,6,7,25,26,27,40,41,42,43,46,47,48,49,50,51,52,53,54]) (.regI [.op (oV 6 22),
 .op (mo (.bin false .gtr (.t 22) (cI 0)) 23),
 .op (oV 23 24),
 .grp mg_3q]))
 (.cond (.t 28)
 (sR [oV 1 29,
 oV 6 30,
 mo (.bin true .sub (.t 30) (cI 1)) 31,
 mo (.iad 8 (.t 29) (.t 31)) 32,
 mo (.ld (some 8) (.t 32)) 33,
 mo (.call (.f 13) [(.t 33)] [] []) 34,
 oV 34 8]
 (sR [oC 0 9]
 (.seq (.block 2
 (.loop mc_21))
 (sR [mo (.mv (.c .nils)) 10]
 (.cut (sR [oV 9 58,
 mo (.bin false .gtr (.t 58) (cI 0)) 59]
 (.cond (.t 59)
 (.reg [oV 10 60,
 oV 9 61,
 mo (.build [(.int .i64 0),(.int .i64 0),(.sl [])] [(1,1,(.t 61))]) 62,
 mo (.bslice 3 [(.t 62)]) 63,
 mo (.app 3 40 (.t 60) (.t 63)) 64,
 oV 64 10])
 .skip))
 mc_3s)))))
 .skip))
 (.reg [oV 5 92,
 oV 1 93,
 oV 6 94,
 mo (.iad 8 (.t 93) (.t 94)) 95,
 oF 0 95 96,
 oL 96 97,
 oV 7 98,
 mo (.build [(.int .i64 0),(.bool false),(.int .i64 0),(.sl []),(.sl [])] [(0,1,(.t 97)), (4,1,(.t 98))]) 99,
 mo (.bslice 5 [(.t 99)]) 100,
 mo (.app 5 72 (.t 92) (.t 100)) 101,
 oV 101 5]))))
 mc_3t))
def mc_1a : MC :=
 (sR [mo (.mv (.c (.sl []))) 4]
 (sR [mo (.mv (.c .nils)) 5]
 (.seq (sR [oC 0 6]
 (.block 0
 (.loop mc_2b)))
 (sR [oV 5 102,
 oV 102 4]
 .ret))))
theorem Wq_1a {t_ : GTape} {l_ : List GObject} : Cn Tryd.prog 6 [.ptr 1000 0, .sl (l_.map GObject.v)] [(1000, .cells [.sl (t_.L.map (V.int .i64)), .int .i64 t_.at_])] (F_1a t_ l_) (fun z => .sl (z.1.map GPacked.v)) (fun z => [(1000, .cells [.sl (z.2.L.map (V.int .i64)), .int .i64 z.2.at_])]) := fun Q Q' h hQ => by
 refine acallM mc_1a [.fz 4] [1000] [.t 4] Tryd.func6 fun M => ?_
 unfold F_1a at h
 unfold mc_1a
 replace h := tY h
 refine tB ?_
 repeat' (first
 | (exact tZ)
 | ((first | refine oblg h ?_ | refine roomG h ?_ | refine fork h ?_ ?_ | refine forkS h ?_ ?_) <;> clear h <;> intro hc h)
 | (obtain ⟨y, hy, h⟩ := h; (first | with_reducible first | have hw := Wq_a.w hy | have hw := Wq_0.w hy); replace hw := tY hw; (first | refine M.sC hw ?_ | refine M.sD hw ?_); clear hw hy; refine tB ?_)
 | (refine M.wh1 (b := mc_21) [0,1,5,6,7,8] [2005,1000] (fun x => [(9, .int .i64 x)]) (fun x => []) [] h ?_ ?_ <;> first
 | (clear h; intro x Qn K hK1 h; unfold F_21 at h; unfold mc_21; replace h := tY h; refine tB ?_)
  |(clear h; (try refine tB ?_); exact tU0; done))
 | (refine M.jn1 (b := mc_3r) [0,1,5,6] [2005,1000] (fun y => [(10, .osl 2010 3 0 y.length)]) (fun y => [.o 2010 (.arr 3 (y.map GOp.v))]) [.gc [0,1,5,6,10], .acc 10 2010 3] h ?_ ?_ <;> first
 | (clear h; intro Qn K hK2 h; replace h := tY h; refine tB ?_)
  |(clear h; intro y h; unfold mc_3r; replace h := tY h; refine tB ?_))
 | (refine M.jn1 (b := mc_3s) [0,1,5,6,7,9] [2005,1000] (fun y => [(10, .osl 2010 3 0 y.length)]) (fun y => [.o 2010 (.arr 3 (y.map GOp.v))]) [.gc [0,1,5,6,7,9,10], .acc 10 2010 3] h ?_ ?_ <;> first
 | (clear h; intro Qn K hK3 h; replace h := tY h; refine tB ?_)
  |(clear h; intro y h; unfold mc_3s; replace h := tY h; refine tB ?_))
 | (refine M.gj1 (ms := mg_3q) [0,1,5,6,7] [2005] (fun y => [(28, .bool y.1)]) (fun y => [.o 1000 (.cells [.sl (y.2.L.map (V.int .i64)), .int .i64 y.2.at_])]) h ?_ ?_ <;> first
 | (clear h; intro Qn K hK4 h; unfold mg_3q; replace h := tY h; refine tB ?_)
  |(clear h; intro y h; replace h := tY h; refine tB ?_))
 | (refine M.jn1 (b := mc_3t) [0,1,6] [] (fun y => [(5, .osl 2005 5 0 y.1.length)]) (fun y => [.o 2005 (.arr 5 (y.1.map GPacked.v)), .o 1000 (.cells [.sl (y.2.L.map (V.int .i64)), .int .i64 y.2.at_])]) [.gc [0,1,5,6], .acc 5 2005 5] h ?_ ?_ <;> first
 | (clear h; intro Qn K hK5 h; replace h := tY h; refine tB ?_)
  |(clear h; intro y h; unfold mc_3t; replace h := tY h; refine tB ?_))
 | (refine M.wh1 (b := mc_2b) [0,1] [] (fun x => [(5, .osl 2005 5 0 x.2.1.length), (6, .int .i64 x.1)]) (fun x => [.o 2005 (.arr 5 (x.2.1.map GPacked.v)), .o 1000 (.cells [.sl (x.2.2.L.map (V.int .i64)), .int .i64 x.2.2.at_])]) [.gc [0,1,5,6], .acc 5 2005 5] h ?_ ?_ <;> first
 | (clear h; intro x Qn K hK6 h; unfold F_2b at h; unfold mc_2b; replace h := tY h; refine tB ?_)
  |(clear h; (try refine tB ?_); exact tU0; done))
 | ((first | refine hK1 _ ?_ | refine hK2 _ ?_ | refine hK3 _ ?_ | refine hK4 _ ?_ | refine hK5 _ ?_ | refine hK6 _ ?_); (try refine tB ?_); refine ⟨_, h, ?_⟩; exact tU0; done)
 | (refine tE ?_; (first | rw [M.lok_compU] | rw [M.lokD_compU]); refine tB ?_)
 | (refine tA ?_)
 | fail)
end Go.Ab
