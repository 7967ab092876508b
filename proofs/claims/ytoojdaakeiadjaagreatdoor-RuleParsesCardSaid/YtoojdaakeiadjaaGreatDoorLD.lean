/- What the functions of this seat that lie on the laws' road compute (part LD), each for every input. By AI agents. -/
import Derived.Test.YtoojdaakeiadjaaGreatDoorProg
import Derived.KernelRfl
import Derived.Test.YtoojdaakeiadjaaGreatDoorAbFun
import Derived.Test.YtoojdaakeiadjaaGreatDoorLC
set_option linter.all false
set_option linter.all false
set_option maxRecDepth 20000
set_option maxHeartbeats 2000000
namespace Go.Ab
open Go.Proofs
structure Gparser where
 s_:Str
 at_:Int
 ok_:Bool
instance:Inhabited Gparser:=⟨⟨default,default,default⟩⟩
def Gparser.v (x:Gparser):V:=.agg [.str x.s_,.int .i64 x.at_,.bool x.ok_]
theorem inbk_1 {n:Nat}:(inb 1 n=true)=(((1:Nat):Int)<(n:Int)):=propext (by rw [inb_iff];omega)
attribute [go_sem] inbk_1
attribute [go_sem] Gparser.v
noncomputable def F_2f (s_:Str) (by_:UInt8) (x22:Int×Int×(List Str)):Option (Fl (Int×Int×(List Str)) (List Str)) :=
 bif decide (x22.2.1≤(s_.length:Int)) then jn (α:=Int×(List Str)) (jn (α:=Bool) (bif decide (x22.2.1=(s_.length:Int)) then some true else chk (inb x22.2.1 s_.length) (some (decide (((s_.getD (x22.2.1).toNat 0).toNat:Int)=(by_.toNat:Int))))) fun j30=>bif j30 then chk (inc x22.1 x22.2.1 s_.length) (chk (room (x22.2.2.length+[((s_.take ((x22.2.1).toNat)).drop ((x22.1).toNat))].length) 16) (chk (in64 (x22.2.1+1)) (some ((x22.2.1+1),(x22.2.2++[((s_.take ((x22.2.1).toNat)).drop ((x22.1).toNat))]))))) else some (x22.1,x22.2.2)) fun j28=>chk (in64 (x22.2.1+1)) (some (.nx (j28.1,(x22.2.1+1),j28.2))) else some (.ex x22.2.2)
noncomputable def F_1f (s_:Str) (by_:UInt8):Option (List Str) :=
 (loop (F_2f s_ by_) (0,0,[])).bind fun r31=>some r31
@[irreducible] def mg_5b:List MOp:=[gF 18 19 (.mv (.t 0)),
 gF 18 20 (.mv (.t 7)),
 gF 18 21 (.idx (.t 19) (.t 20)),
 gF 18 22 (.mv (.t 1)),
 gF 18 23 (.bin false .eql (.t 21) (.t 22)),
 mo (.pick (.t 18) (.c (.bool true)) (.t 23)) 24]
@[irreducible] def mc_5c:MC :=
 (.reg [oV 7 12,
 mo (.bin true .add (.t 12) (cI 1)) 13,
 oV 13 7])
@[irreducible] def mc_2f:MC :=
 (.seq (sR [oV 7 8,
 oV 0 9,
 mo (.len true (.t 9)) 10,
 mo (.bin false .leq (.t 8) (.t 10)) 11]
 (.cond (.t 11)
 .skip
 (.exit 0)))
 (.cut (.block 1
 (.seq (.regI [.op (oV 7 14),
 .op (oV 0 15),
 .op (mo (.len true (.t 15)) 16),
 .op (mo (.bin false .eql (.t 14) (.t 16)) 17),
 .op (oV 17 18),
 .grp mg_5b])
 (.cond (.t 24)
 (sR [oV 5 25,
 oV 0 26,
 oV 6 27,
 oV 7 28,
 mo (.sls (.t 26) (some (.t 27)) (some (.t 28))) 29,
 mo (.bslice 1 [(.t 29)]) 30,
 mo (.app 1 16 (.t 25) (.t 30)) 31,
 oV 31 5]
 (.note (.gc [0,1,5,7,19,20,21,22,23]) (.reg [oV 7 32,
 mo (.bin true .add (.t 32) (cI 1)) 33,
 oV 33 6])))
 .skip)))
 mc_5c))
def mc_1f:MC :=
 (sR [mo (.mv (.c (.sl []))) 4]
 (sR [mo (.mv (.c .nils)) 5]
 (sR [oC 0 6]
 (.seq (sR [oC 0 7]
 (.block 0
 (.loop mc_2f)))
 (sR [oV 5 34,
 oV 34 4]
 .ret)))))
theorem Wq_1f {s_:Str} {by_:UInt8}:Cn Tryz.prog 35 [.str s_,byteV by_] [] (F_1f s_ by_) (fun z=>.sl (z.map V.str)) (fun z=>[]):=fun Q Q' h hQ=>by
 refine acallM mc_1f [.fz 4] [] [.t 4] Tryz.func35 fun M=>?_
 unfold F_1f at h
 unfold mc_1f
 replace h:=tY h
 refine tB ?_
 repeat' (first
 | (exact tZ)
 | ((first|refine oblg h ?_|refine roomG h ?_|refine incG h ?_|refine fork h ?_ ?_|refine forkS h ?_ ?_)<;>clear h<;>intro hc h)
 | (refine M.gj1 (ms:=mg_5b) [0,1,5,6,7] [2005] (fun y=>[(24,.bool y)]) (fun y=>[]) h ?_ ?_<;>first
 | (clear h;intro Qn K hK1 h;unfold mg_5b;replace h:=tY h;refine tB ?_)
  |(clear h;intro y h;replace h:=tY h;refine tB ?_))
 | (refine M.jn1 (b:=mc_5c) [0,1,7] [] (fun y=>[(5,.osl 2005 1 0 y.2.length),(6,.int .i64 y.1)]) (fun y=>[.o 2005 (.arr 1 (y.2.map V.str))]) [.gc [0,1,5,6,7],.acc 5 2005 1] h ?_ ?_<;>first
 | (clear h;intro Qn K hK2 h;replace h:=tY h;refine tB ?_)
  |(clear h;intro y h;unfold mc_5c;replace h:=tY h;refine tB ?_))
 | (refine M.wh1 (b:=mc_2f) [0,1] [] (fun x=>[(5,.osl 2005 1 0 x.2.2.length),(6,.int .i64 x.1),(7,.int .i64 x.2.1)]) (fun x=>[.o 2005 (.arr 1 (x.2.2.map V.str))]) [.gc [0,1,5,6,7],.acc 5 2005 1] h ?_ ?_<;>first
 | (clear h;intro x Qn K hK3 h;unfold F_2f at h;unfold mc_2f;replace h:=tY h;refine tB ?_)
  |(clear h;(try refine tB ?_);exact tU0;done))
 | ((first|refine hK1 _ ?_|refine hK2 _ ?_|refine hK3 _ ?_);(try refine tB ?_);refine ⟨_,h,?_⟩;exact tU0;done)
 | (refine tE ?_;(first|rw [M.lok_compU]|rw [M.lokD_compU]);refine tB ?_)
 | (refine tA ?_)
 | fail)
def F_2 (p_:Gparser) (s_:Str):Option (Bool×Gparser) :=
 chk (in64 ((p_.s_.length:Int) - p_.at_)) (bif decide ((s_.length:Int)≤((p_.s_.length:Int) - p_.at_)) then chk (in64 (p_.at_+(s_.length:Int))) (chk (inc p_.at_ (p_.at_+(s_.length:Int)) p_.s_.length) (bif decide (((p_.s_.take (((p_.at_+(s_.length:Int))).toNat)).drop ((p_.at_).toNat))=s_) then chk (in64 (p_.at_+(s_.length:Int))) (some (true,(Gparser.mk p_.s_ (p_.at_+(s_.length:Int)) p_.ok_))) else some (false,p_))) else some (false,p_))
def mc_2:MC :=
 (sR [mo (.mv (.c (.bool false))) 4]
 (.seq (.seq (.regD [oV 0 5,
 mo (.nck (.t 5)) 6,
 oF 0 6 7,
 oL 7 8,
 mo (.len true (.t 8)) 9,
 oV 0 10,
 mo (.nck (.t 10)) 11,
 oF 1 11 12,
 oL 12 13,
 mo (.bin true .sub (.t 9) (.t 13)) 14,
 oV 1 15,
 mo (.len true (.t 15)) 16,
 mo (.bin false .geq (.t 14) (.t 16)) 17,
 oV 17 18,
 gT 18 19 (.mv (.t 0)),
 gT 18 20 (.nck (.t 19)),
 gT 18 21 (.fad 0 (.t 20)),
 gT 18 22 (.ld none (.t 21)),
 gT 18 23 (.mv (.t 0)),
 gT 18 24 (.nck (.t 23)),
 gT 18 25 (.fad 1 (.t 24)),
 gT 18 26 (.ld none (.t 25)),
 gT 18 27 (.mv (.t 0)),
 gT 18 28 (.nck (.t 27)),
 gT 18 29 (.fad 1 (.t 28)),
 gT 18 30 (.ld none (.t 29)),
 gT 18 31 (.mv (.t 1)),
 gT 18 32 (.len true (.t 31)),
 gT 18 33 (.bin true .add (.t 30) (.t 32)),
 gT 18 34 (.sls (.t 22) (some (.t 26)) (some (.t 33))),
 gT 18 35 (.mv (.t 1)),
 gT 18 36 (.bin false .eql (.t 34) (.t 35)),
 mo (.pick (.t 18) (.t 36) (.c (.bool false))) 37]
 [[],[0],[1],[2],[3],[],[5],[6],[7],[4,8],[],[10],[9,11],[12],[13],[14,13],[15,13],[16,13],[13],[18,13],[19,13],[20,13],[13],[22,13],[23,13],[24,13],[13],[26,13],[25,27,13],[17,21,28,13],[13],[29,30,13],[13,31]]
 [[],[0],[0,1],[0,1,2],[0,1,2,3],[],[5],[5,6],[5,6,7],[0,1,2,3,4,5,6,7,8],[],[10],[0,1,2,3,4,5,6,7,8,9,10,11],[0,1,2,3,4,5,6,7,8,9,10,11,12],[0,1,2,3,4,5,6,7,8,9,10,11,12,13],[0,1,2,3,4,5,6,7,8,9,10,11,12,13,14],[0,1,2,3,4,5,6,7,8,9,10,11,12,13,14,15],[0,1,2,3,4,5,6,7,8,9,10,11,12,13,14,15,16],[0,1,2,3,4,5,6,7,8,9,10,11,12,13],[0,1,2,3,4,5,6,7,8,9,10,11,12,13,18],[0,1,2,3,4,5,6,7,8,9,10,11,12,13,18,19],[0,1,2,3,4,5,6,7,8,9,10,11,12,13,18,19,20],[0,1,2,3,4,5,6,7,8,9,10,11,12,13],[0,1,2,3,4,5,6,7,8,9,10,11,12,13,22],[0,1,2,3,4,5,6,7,8,9,10,11,12,13,22,23],[0,1,2,3,4,5,6,7,8,9,10,11,12,13,22,23,24],[0,1,2,3,4,5,6,7,8,9,10,11,12,13],[0,1,2,3,4,5,6,7,8,9,10,11,12,13,26],[0,1,2,3,4,5,6,7,8,9,10,11,12,13,22,23,24,25,26,27],[0,1,2,3,4,5,6,7,8,9,10,11,12,13,14,15,16,17,18,19,20,21,22,23,24,25,26,27,28],[0,1,2,3,4,5,6,7,8,9,10,11,12,13],[0,1,2,3,4,5,6,7,8,9,10,11,12,13,14,15,16,17,18,19,20,21,22,23,24,25,26,27,28,29,30],[0,1,2,3,4,5,6,7,8,9,10,11,12,13,14,15,16,17,18,19,20,21,22,23,24,25,26,27,28,29,30,31]])
 (.cond (.t 37)
 (.seq (.note (.gc [0,1]) (.reg [oV 0 38,
 mo (.nck (.t 38)) 39,
 oF 1 39 40,
 oL 40 41,
 oV 1 42,
 mo (.len true (.t 42)) 43,
 mo (.bin true .add (.t 41) (.t 43)) 44,
 mo (.nck (.t 38)) 45,
 oF 1 45 46,
 ⟨.st 1 (.t 46) (.t 44),none,none⟩]))
 (sR [mo (.mv (.c (.bool true))) 4]
 .ret))
 .skip))
 (sR [mo (.mv (.c (.bool false))) 4]
 .ret)))
theorem Wq_2 {p_:Gparser} {s_:Str}:Cn Tryz.prog 65 [.ptr 1000 0,.str s_] [(1000,.cells [.str p_.s_,.int .i64 p_.at_,.bool p_.ok_])] (F_2 p_ s_) (fun z=>.bool z.1) (fun z=>[(1000,.cells [.str z.2.s_,.int .i64 z.2.at_,.bool z.2.ok_])]):=fun Q Q' h hQ=>by
 refine acallM mc_2 [] [1000] [.t 4] Tryz.func65 fun M=>?_
 unfold F_2 at h
 unfold mc_2
 replace h:=tY h
 refine tB ?_
 repeat' (first
 | (exact tZ)
 | ((first|refine oblg h ?_|refine roomG h ?_|refine fork h ?_ ?_|refine forkS h ?_ ?_)<;>clear h<;>intro hc h)
 | (refine tE ?_;(first|rw [M.lok_compU]|rw [M.lokD_compU]);refine tB ?_)
 | (refine tA ?_)
 | fail)
noncomputable def F_2g (x7:Gparser):Option (Fl Gparser Gparser) :=
 bif decide (x7.at_<(x7.s_.length:Int)) then chk (inb x7.at_ x7.s_.length) (bif (!decide (((x7.s_.getD (x7.at_).toNat 0).toNat:Int)=32)) then chk (inb x7.at_ x7.s_.length) (bif (!decide (((x7.s_.getD (x7.at_).toNat 0).toNat:Int)=34)) then chk (inb x7.at_ x7.s_.length) (bif (!decide (((x7.s_.getD (x7.at_).toNat 0).toNat:Int)=40)) then chk (inb x7.at_ x7.s_.length) (bif (!decide (((x7.s_.getD (x7.at_).toNat 0).toNat:Int)=41)) then chk (in64 (x7.at_+1)) (some (.nx (Gparser.mk x7.s_ (x7.at_+1) x7.ok_))) else some (.ex x7)) else some (.ex x7)) else some (.ex x7)) else some (.ex x7)) else some (.ex x7)
noncomputable def F_15 (p_:Gparser):Option (Str×Gparser) :=
 (loop F_2g p_).bind fun r8=>chk (inc p_.at_ r8.at_ r8.s_.length) (some (((r8.s_.take ((r8.at_).toNat)).drop ((p_.at_).toNat)),r8))
@[irreducible] def mc_2g:MC :=
 (.seq (.seq (.regD [oV 0 8,
 mo (.nck (.t 8)) 9,
 oF 1 9 10,
 oL 10 11,
 oV 0 12,
 mo (.nck (.t 12)) 13,
 oF 0 13 14,
 oL 14 15,
 mo (.len true (.t 15)) 16,
 mo (.bin false .lss (.t 11) (.t 16)) 17,
 oV 17 18,
 gT 18 19 (.mv (.t 0)),
 gT 18 20 (.nck (.t 19)),
 gT 18 21 (.fad 0 (.t 20)),
 gT 18 22 (.ld none (.t 21)),
 gT 18 23 (.mv (.t 0)),
 gT 18 24 (.nck (.t 23)),
 gT 18 25 (.fad 1 (.t 24)),
 gT 18 26 (.ld none (.t 25)),
 gT 18 27 (.idx (.t 22) (.t 26)),
 gT 18 28 (.bin false .neq (.t 27) (.c (.int .u8 32))),
 mo (.pick (.t 18) (.t 28) (.c (.bool false))) 29,
 oV 29 30,
 gT 30 31 (.mv (.t 0)),
 gT 30 32 (.nck (.t 31)),
 gT 30 33 (.fad 0 (.t 32)),
 gT 30 34 (.ld none (.t 33)),
 gT 30 35 (.mv (.t 0)),
 gT 30 36 (.nck (.t 35)),
 gT 30 37 (.fad 1 (.t 36)),
 gT 30 38 (.ld none (.t 37)),
 gT 30 39 (.idx (.t 34) (.t 38)),
 gT 30 40 (.bin false .neq (.t 39) (.c (.int .u8 34))),
 mo (.pick (.t 30) (.t 40) (.c (.bool false))) 41,
 oV 41 42,
 gT 42 43 (.mv (.t 0)),
 gT 42 44 (.nck (.t 43)),
 gT 42 45 (.fad 0 (.t 44)),
 gT 42 46 (.ld none (.t 45)),
 gT 42 47 (.mv (.t 0)),
 gT 42 48 (.nck (.t 47)),
 gT 42 49 (.fad 1 (.t 48)),
 gT 42 50 (.ld none (.t 49)),
 gT 42 51 (.idx (.t 46) (.t 50)),
 gT 42 52 (.bin false .neq (.t 51) (.c (.int .u8 40))),
 mo (.pick (.t 42) (.t 52) (.c (.bool false))) 53,
 oV 53 54,
 gT 54 55 (.mv (.t 0)),
 gT 54 56 (.nck (.t 55)),
 gT 54 57 (.fad 0 (.t 56)),
 gT 54 58 (.ld none (.t 57)),
 gT 54 59 (.mv (.t 0)),
 gT 54 60 (.nck (.t 59)),
 gT 54 61 (.fad 1 (.t 60)),
 gT 54 62 (.ld none (.t 61)),
 gT 54 63 (.idx (.t 58) (.t 62)),
 gT 54 64 (.bin false .neq (.t 63) (.c (.int .u8 41))),
 mo (.pick (.t 54) (.t 64) (.c (.bool false))) 65]
 [[],[0],[1],[2],[],[4],[5],[6],[7],[3,8],[9],[10],[11,10],[12,10],[13,10],[10],[15,10],[16,10],[17,10],[14,18,10],[19,10],[10,20],[21,10],[22],[23,22],[24,22],[25,22],[22],[27,22],[28,22],[29,22],[26,30,22],[31,22],[22,32],[33,22],[34],[35,34],[36,34],[37,34],[34],[39,34],[40,34],[41,34],[38,42,34],[43,34],[34,44],[45,34],[46],[47,46],[48,46],[49,46],[46],[51,46],[52,46],[53,46],[50,54,46],[55,46],[46,56]]
 [[],[0],[0,1],[0,1,2],[],[4],[4,5],[4,5,6],[4,5,6,7],[0,1,2,3,4,5,6,7,8],[0,1,2,3,4,5,6,7,8,9],[0,1,2,3,4,5,6,7,8,9,10],[0,1,2,3,4,5,6,7,8,9,10,11],[0,1,2,3,4,5,6,7,8,9,10,11,12],[0,1,2,3,4,5,6,7,8,9,10,11,12,13],[0,1,2,3,4,5,6,7,8,9,10],[0,1,2,3,4,5,6,7,8,9,10,15],[0,1,2,3,4,5,6,7,8,9,10,15,16],[0,1,2,3,4,5,6,7,8,9,10,15,16,17],[0,1,2,3,4,5,6,7,8,9,10,11,12,13,14,15,16,17,18],[0,1,2,3,4,5,6,7,8,9,10,11,12,13,14,15,16,17,18,19],[0,1,2,3,4,5,6,7,8,9,10,11,12,13,14,15,16,17,18,19,20],[0,1,2,3,4,5,6,7,8,9,10,11,12,13,14,15,16,17,18,19,20,21],[0,1,2,3,4,5,6,7,8,9,10,11,12,13,14,15,16,17,18,19,20,21,22],[0,1,2,3,4,5,6,7,8,9,10,11,12,13,14,15,16,17,18,19,20,21,22,23],[0,1,2,3,4,5,6,7,8,9,10,11,12,13,14,15,16,17,18,19,20,21,22,23,24],[0,1,2,3,4,5,6,7,8,9,10,11,12,13,14,15,16,17,18,19,20,21,22,23,24,25],[0,1,2,3,4,5,6,7,8,9,10,11,12,13,14,15,16,17,18,19,20,21,22],[0,1,2,3,4,5,6,7,8,9,10,11,12,13,14,15,16,17,18,19,20,21,22,27],[0,1,2,3,4,5,6,7,8,9,10,11,12,13,14,15,16,17,18,19,20,21,22,27,28],[0,1,2,3,4,5,6,7,8,9,10,11,12,13,14,15,16,17,18,19,20,21,22,27,28,29],[0,1,2,3,4,5,6,7,8,9,10,11,12,13,14,15,16,17,18,19,20,21,22,23,24,25,26,27,28,29,30],[0,1,2,3,4,5,6,7,8,9,10,11,12,13,14,15,16,17,18,19,20,21,22,23,24,25,26,27,28,29,30,31],[0,1,2,3,4,5,6,7,8,9,10,11,12,13,14,15,16,17,18,19,20,21,22,23,24,25,26,27,28,29,30,31,32],[0,1,2,3,4,5,6,7,8,9,10,11,12,13,14,15,16,17,18,19,20,21,22,23,24,25,26,27,28,29,30,31,32,33],[0,1,2,3,4,5,6,7,8,9,10,11,12,13,14,15,16,17,18,19,20,21,22,23,24,25,26,27,28,29,30,31,32,33,34],[0,1,2,3,4,5,6,7,8,9,10,11,12,13,14,15,16,17,18,19,20,21,22,23,24,25,26,27,28,29,30,31,32,33,34,35],[0,1,2,3,4,5,6,7,8,9,10,11,12,13,14,15,16,17,18,19,20,21,22,23,24,25,26,27,28,29,30,31,32,33,34,35,36],[0,1,2,3,4,5,6,7,8,9,10,11,12,13,14,15,16,17,18,19,20,21,22,23,24,25,26,27,28,29,30,31,32,33,34,35,36,37],[0,1,2,3,4,5,6,7,8,9,10,11,12,13,14,15,16,17,18,19,20,21,22,23,24,25,26,27,28,29,30,31,32,33,34],[0,1,2,3,4,5,6,7,8,9,10,11,12,13,14,15,16,17,18,19,20,21,22,23,24,25,26,27,28,29,30,31,32,33,34,39],[0,1,2,3,4,5,6,7,8,9,10,11,12,13,14,15,16,17,18,19,20,21,22,23,24,25,26,27,28,29,30,31,32,33,34,39,40],[0,1,2,3,4,5,6,7,8,9,10,11,12,13,14,15,16,17,18,19,20,21,22,23,24,25,26,27,28,29,30,31,32,33,34,39,40,41],[0,1,2,3,4,5,6,7,8,9,10,11,12,13,14,15,16,17,18,19,20,21,22,23,24,25,26,27,28,29,30,31,32,33,34,35,36,37,38,39,40,41,42],[0,1,2,3,4,5,6,7,8,9,10,11,12,13,14,15,16,17,18,19,20,21,22,23,24,25,26,27,28,29,30,31,32,33,34,35,36,37,38,39,40,41,42,43],[0,1,2,3,4,5,6,7,8,9,10,11,12,13,14,15,16,17,18,19,20,21,22,23,24,25,26,27,28,29,30,31,32,33,34,35,36,37,38,39,40,41,42,43,44],[0,1,2,3,4,5,6,7,8,9,10,11,12,13,14,15,16,17,18,19,20,21,22,23,24,25,26,27,28,29,30,31,32,33,34,35,36,37,38,39,40,41,42,43,44,45],[0,1,2,3,4,5,6,7,8,9,10,11,12,13,14,15,16,17,18,19,20,21,22,23,24,25,26,27,28,29,30,31,32,33,34,35,36,37,38,39,40,41,42,43,44,45,46],[0,1,2,3,4,5,6,7,8,9,10,11,12,13,14,15,16,17,18,19,20,21,22,23,24,25,26,27,28,29,30,31,32,33,34,35,36,37,38,39,40,41,42,43,44,45,46,47],[0,1,2,3,4,5,6,7,8,9,10,11,12,13,14,15,16,17,18,19,20,21,22,23,24,25,26,27,28,29,30,31,32,33,34,35,36,37,38,39,40,41,42,43,44,45,46,47,48],[0,1,2,3,4,5,6,7,8,9,10,11,12,13,14,15,16,17,18,19,20,21,22,23,24,25,26,27,28,29,30,31,32,33,34,35,36,37,38,39,40,41,42,43,44,45,46,47,48,49],[0,1,2,3,4,5,6,7,8,9,10,11,12,13,14,15,16,17,18,19,20,21,22,23,24,25,26,27,28,29,30,31,32,33,34,35,36,37,38,39,40,41,42,43,44,45,46],[0,1,2,3,4,5,6,7,8,9,10,11,12,13,14,15,16,17,18,19,20,21,22,23,24,25,26,27,28,29,30,31,32,33,34,35,36,37,38,39,40,41,42,43,44,45,46,51],[0,1,2,3,4,5,6,7,8,9,10,11,12,13,14,15,16,17,18,19,20,21,22,23,24,25,26,27,28,29,30,31,32,33,34,35,36,37,38,39,40,41,42,43,44,45,46,51,52],[0,1,2,3,4,5,6,7,8,9,10,11,12,13,14,15,16,17,18,19,20,21,22,23,24,25,26,27,28,29,30,31,32,33,34,35,36,37,38,39,40,41,42,43,44,45,46,51,52,53],[0,1,2,3,4,5,6,7,8,9,10,11,12,13,14,15,16,17,18,19,20,21,22,23,24,25,26,27,28,29,30,31,32,33,34,35,36,37,38,39,40,41,42,43,44,45,46,47,48,49,50,51,52,53,54],[0,1,2,3,4,5,6,7,8,9,10,11,12,13,14,15,16,17,18,19,20,21,22,23,24,25,26,27,28,29,30,31,32,33,34,35,36,37,38,39,40,41,42,43,44,45,46,47,48,49,50,51,52,53,54,55],[0,1,2,3,4,5,6,7,8,9,10,11,12,13,14,15,16,17,18,19,20,21,22,23,24,25,26,27,28,29,30,31,32,33,34,35,36,37,38,39,40,41,42,43,44,45,46,47,48,49,50,51,52,53,54,55,56]])
 (.cond (.t 65)
 .skip
 (.exit 0)))
 (.block 1
 (.note (.gc [0,3,19,20,21,22,23,24,25,26,27,28,31,32,33,34,35,36,37,38,39,40,43,44,45,46,47,48,49,50,51,52,55,56,57,58,59,60,61,62,63,64]) (.reg [oV 0 66,
 mo (.nck (.t 66)) 67,
 oF 1 67 68,
 oL 68 69,
 mo (.bin true .add (.t 69) (cI 1)) 70,
 mo (.nck (.t 66)) 71,
 oF 1 71 72,
 ⟨.st 1 (.t 72) (.t 70),none,none⟩]))))
def mc_15:MC :=
 (sR [mo (.mv (.c (.str []))) 2]
 (sR [oV 0 4,
 mo (.nck (.t 4)) 5,
 oF 1 5 6,
 oL 6 7,
 oV 7 3]
 (.seq (.block 0
 (.loop mc_2g))
 (.seq (.regD [oV 0 73,
 mo (.nck (.t 73)) 74,
 oF 0 74 75,
 oL 75 76,
 oV 3 77,
 oV 0 78,
 mo (.nck (.t 78)) 79,
 oF 1 79 80,
 oL 80 81,
 mo (.sls (.t 76) (some (.t 77)) (some (.t 81))) 82,
 oV 82 2]
 [[],[0],[1],[2],[],[],[5],[6],[7],[3,4,8],[9,0,1,2,3,4,5,6,7,8,9]]
 [[],[0],[0,1],[0,1,2],[],[],[5],[5,6],[5,6,7],[0,1,2,3,4,5,6,7,8],[0,1,2,3,4,5,6,7,8,9]])
 .ret))))
theorem Wq_15 {p_:Gparser}:Cn Tryz.prog 100 [.ptr 1000 0] [(1000,.cells [.str p_.s_,.int .i64 p_.at_,.bool p_.ok_])] (F_15 p_) (fun z=>.str z.1) (fun z=>[(1000,.cells [.str z.2.s_,.int .i64 z.2.at_,.bool z.2.ok_])]):=fun Q Q' h hQ=>by
 refine acallM mc_15 [] [1000] [.t 2] Tryz.func100 fun M=>?_
 unfold F_15 at h
 unfold mc_15
 replace h:=tY h
 refine tB ?_
 repeat' (first
 | (exact tZ)
 | ((first|refine oblg h ?_|refine roomG h ?_|refine fork h ?_ ?_|refine forkS h ?_ ?_)<;>clear h<;>intro hc h)
 | (refine M.wh1 (b:=mc_2g) [0,3] [] (fun x=>[]) (fun x=>[.o 1000 (.cells [.str x.s_,.int .i64 x.at_,.bool x.ok_])]) [] h ?_ ?_<;>first
 | (clear h;intro x Qn K hK1 h;unfold F_2g at h;unfold mc_2g;replace h:=tY h;refine tB ?_)
  |(clear h;(try refine tB ?_);exact tU0;done))
 | (refine hK1 _ ?_;(try refine tB ?_);refine ⟨_,h,?_⟩;exact tU0;done)
 | (refine tE ?_;(first|rw [M.lok_compU]|rw [M.lokD_compU]);refine tB ?_)
 | (refine tA ?_)
 | fail)
noncomputable def F_2h (x12:Gparser):Option (Fl Gparser Gparser) :=
 bif decide (x12.at_<(x12.s_.length:Int)) then chk (inb x12.at_ x12.s_.length) (bif (!decide (((x12.s_.getD (x12.at_).toNat 0).toNat:Int)=34)) then chk (in64 (x12.at_+1)) (some (.nx (Gparser.mk x12.s_ (x12.at_+1) x12.ok_))) else some (.ex x12)) else some (.ex x12)
noncomputable def F_1g (p_:Gparser):Option (Str×Gparser) :=
 jn (α:=Bool×Gparser) (bif p_.ok_ then (F_2 p_ [34]).bind fun y4=>some (y4.1,y4.2) else some (false,p_)) fun j5=>(loop F_2h (Gparser.mk j5.2.s_ j5.2.at_ j5.1)).bind fun r13=>chk (inc j5.2.at_ r13.at_ r13.s_.length) (jn (α:=Bool×Gparser) (bif r13.ok_ then (F_2 r13 [34]).bind fun y17=>some (y17.1,y17.2) else some (false,r13)) fun j18=>some (((r13.s_.take ((r13.at_).toNat)).drop ((j5.2.at_).toNat)),(Gparser.mk j18.2.s_ j18.2.at_ j18.1)))
@[irreducible] def mg_5d:List MOp:=[gT 10 11 (.mv (.t 0)),
 gT 10 12 (.call (.f 65) [(.t 11),(.c (.str [34]))] [1000] []),
 mo (.pick (.t 10) (.t 12) (.c (.bool false))) 13]
@[irreducible] def mc_2h:MC :=
 (.seq (.seq (.regD [oV 0 20,
 mo (.nck (.t 20)) 21,
 oF 1 21 22,
 oL 22 23,
 oV 0 24,
 mo (.nck (.t 24)) 25,
 oF 0 25 26,
 oL 26 27,
 mo (.len true (.t 27)) 28,
 mo (.bin false .lss (.t 23) (.t 28)) 29,
 oV 29 30,
 gT 30 31 (.mv (.t 0)),
 gT 30 32 (.nck (.t 31)),
 gT 30 33 (.fad 0 (.t 32)),
 gT 30 34 (.ld none (.t 33)),
 gT 30 35 (.mv (.t 0)),
 gT 30 36 (.nck (.t 35)),
 gT 30 37 (.fad 1 (.t 36)),
 gT 30 38 (.ld none (.t 37)),
 gT 30 39 (.idx (.t 34) (.t 38)),
 gT 30 40 (.bin false .neq (.t 39) (.c (.int .u8 34))),
 mo (.pick (.t 30) (.t 40) (.c (.bool false))) 41]
 [[],[0],[1],[2],[],[4],[5],[6],[7],[3,8],[9],[10],[11,10],[12,10],[13,10],[10],[15,10],[16,10],[17,10],[14,18,10],[19,10],[10,20]]
 [[],[0],[0,1],[0,1,2],[],[4],[4,5],[4,5,6],[4,5,6,7],[0,1,2,3,4,5,6,7,8],[0,1,2,3,4,5,6,7,8,9],[0,1,2,3,4,5,6,7,8,9,10],[0,1,2,3,4,5,6,7,8,9,10,11],[0,1,2,3,4,5,6,7,8,9,10,11,12],[0,1,2,3,4,5,6,7,8,9,10,11,12,13],[0,1,2,3,4,5,6,7,8,9,10],[0,1,2,3,4,5,6,7,8,9,10,15],[0,1,2,3,4,5,6,7,8,9,10,15,16],[0,1,2,3,4,5,6,7,8,9,10,15,16,17],[0,1,2,3,4,5,6,7,8,9,10,11,12,13,14,15,16,17,18],[0,1,2,3,4,5,6,7,8,9,10,11,12,13,14,15,16,17,18,19],[0,1,2,3,4,5,6,7,8,9,10,11,12,13,14,15,16,17,18,19,20]])
 (.cond (.t 41)
 .skip
 (.exit 0)))
 (.block 1
 (.note (.gc [0,3,31,32,33,34,35,36,37,38,39,40,65,66]) (.reg [oV 0 42,
 mo (.nck (.t 42)) 43,
 oF 1 43 44,
 oL 44 45,
 mo (.bin true .add (.t 45) (cI 1)) 46,
 mo (.nck (.t 42)) 47,
 oF 1 47 48,
 ⟨.st 1 (.t 48) (.t 46),none,none⟩]))))
@[irreducible] def mg_5e:List MOp:=[gT 64 65 (.mv (.t 0)),
 gT 64 66 (.call (.f 65) [(.t 65),(.c (.str [34]))] [1000] []),
 mo (.pick (.t 64) (.t 66) (.c (.bool false))) 67]
def mc_1g:MC :=
 (sR [mo (.mv (.c (.str []))) 2]
 (.seq (.regI [.op (oV 0 5),
 .op (oV 0 6),
 .op (mo (.nck (.t 6)) 7),
 .op (oF 2 7 8),
 .op (oL 8 9),
 .op (oV 9 10),
 .grp mg_5d,
 .op (mo (.nck (.t 5)) 14),
 .op (oF 2 14 15),
 .op ⟨.st 1 (.t 15) (.t 13),none,none⟩])
 (sR [oV 0 16,
 mo (.nck (.t 16)) 17,
 oF 1 17 18,
 oL 18 19,
 oV 19 3]
 (.seq (.block 0
 (.loop mc_2h))
 (.seq (.regD [oV 0 49,
 mo (.nck (.t 49)) 50,
 oF 0 50 51,
 oL 51 52,
 oV 3 53,
 oV 0 54,
 mo (.nck (.t 54)) 55,
 oF 1 55 56,
 oL 56 57,
 mo (.sls (.t 52) (some (.t 53)) (some (.t 57))) 58,
 oV 58 4]
 [[],[0],[1],[2],[],[],[5],[6],[7],[3,4,8],[9,0,1,2,3,4,5,6,7,8,9]]
 [[],[0],[0,1],[0,1,2],[],[],[5],[5,6],[5,6,7],[0,1,2,3,4,5,6,7,8],[0,1,2,3,4,5,6,7,8,9]])
 (.seq (.note (.gc [0,4,65,66]) (.regI [.op (oV 0 59),
 .op (oV 0 60),
 .op (mo (.nck (.t 60)) 61),
 .op (oF 2 61 62),
 .op (oL 62 63),
 .op (oV 63 64),
 .grp mg_5e,
 .op (mo (.nck (.t 59)) 68),
 .op (oF 2 68 69),
 .op ⟨.st 1 (.t 69) (.t 67),none,none⟩]))
 (sR [oV 4 70,
 oV 70 2]
 .ret)))))))
theorem Wq_1g {p_:Gparser}:Cn Tryz.prog 101 [.ptr 1000 0] [(1000,.cells [.str p_.s_,.int .i64 p_.at_,.bool p_.ok_])] (F_1g p_) (fun z=>.str z.1) (fun z=>[(1000,.cells [.str z.2.s_,.int .i64 z.2.at_,.bool z.2.ok_])]):=fun Q Q' h hQ=>by
 refine acallM mc_1g [] [1000] [.t 2] Tryz.func101 fun M=>?_
 unfold F_1g at h
 unfold mc_1g
 replace h:=tY h
 refine tB ?_
 repeat' (first
 | (exact tZ)
 | ((first|refine oblg h ?_|refine roomG h ?_|refine incG h ?_|refine fork h ?_ ?_|refine forkS h ?_ ?_)<;>clear h<;>intro hc h)
 | (obtain ⟨y,hy,h⟩:=h;have hw:=Wq_2.w hy;replace hw:=tY hw;(first|refine M.sC hw ?_|refine M.sD hw ?_);clear hw hy;refine tB ?_)
 | (refine M.wh1 (b:=mc_2h) [0,3] [] (fun x=>[]) (fun x=>[.o 1000 (.cells [.str x.s_,.int .i64 x.at_,.bool x.ok_])]) [] h ?_ ?_<;>first
 | (clear h;intro x Qn K hK1 h;unfold F_2h at h;unfold mc_2h;replace h:=tY h;refine tB ?_)
  |(clear h;(try refine tB ?_);exact tU0;done))
 | (refine M.gj1 (ms:=mg_5e) [4,59] [] (fun y=>[(67,.bool y.1)]) (fun y=>[.o 1000 (.cells [.str y.2.s_,.int .i64 y.2.at_,.bool y.2.ok_])]) h ?_ ?_<;>first
 | (clear h;intro Qn K hK2 h;unfold mg_5e;replace h:=tY h;refine tB ?_)
  |(clear h;intro y h;replace h:=tY h;refine tB ?_))
 | (refine M.gj1 (ms:=mg_5d) [0,5] [] (fun y=>[(13,.bool y.1)]) (fun y=>[.o 1000 (.cells [.str y.2.s_,.int .i64 y.2.at_,.bool y.2.ok_])]) h ?_ ?_<;>first
 | (clear h;intro Qn K hK3 h;unfold mg_5d;replace h:=tY h;refine tB ?_)
  |(clear h;intro y h;replace h:=tY h;refine tB ?_))
 | ((first|refine hK1 _ ?_|refine hK2 _ ?_|refine hK3 _ ?_);(try refine tB ?_);refine ⟨_,h,?_⟩;exact tU0;done)
 | (refine tE ?_;(first|rw [M.lok_compU]|rw [M.lokD_compU]);refine tB ?_)
 | (refine tA ?_)
 | fail)
noncomputable def F_2i (y2:Str×Gparser) (x53:Int×Int×Gparser):Option (Fl (Int×Int×Gparser) (Int×Gparser)) :=
 bif decide (x53.2.1<(y2.1.length:Int)) then jn (α:=Bool) (bif x53.2.2.ok_ then chk (inb x53.2.1 y2.1.length) (some (decide (48≤((y2.1.getD (x53.2.1).toNat 0).toNat:Int)))) else some false) fun j68=>jn (α:=Bool) (bif j68 then chk (inb x53.2.1 y2.1.length) (some (decide (((y2.1.getD (x53.2.1).toNat 0).toNat:Int)≤57))) else some false) fun j69=>chk (inb x53.2.1 y2.1.length) (chk (rngb .u64 ((u8 (((y2.1.getD (x53.2.1).toNat 0).toNat:Int) - 48)).toNat:Int)) (chk (in64 (x53.2.1+1)) (some (.nx ((IntKind.wrap .u64 ((IntKind.wrap .u64 (x53.1*10))+((u8 (((y2.1.getD (x53.2.1).toNat 0).toNat:Int) - 48)).toNat:Int))),(x53.2.1+1),(Gparser.mk x53.2.2.s_ x53.2.2.at_ j69)))))) else some (.ex (x53.1,x53.2.2))
noncomputable def F_18 (p_:Gparser):Option (Int×Gparser) :=
 (F_15 p_).bind fun y2=>grp ((y2.2.ok_&&decide (1≤(y2.1.length:Int)))) fun b5=>grp ((b5&&decide ((y2.1.length:Int)≤20))) fun b6=>(loop (F_2i y2) (0,0,(Gparser.mk y2.2.s_ y2.2.at_ b6))).bind fun r70=>some (r70.1,r70.2)
@[irreducible] def mg_5f:List MOp:=[gT 13 14 (.mv (.t 3)),
 gT 13 15 (.len true (.t 14)),
 gT 13 16 (.bin false .geq (.t 15) (cI 1)),
 mo (.pick (.t 13) (.t 16) (.c (.bool false))) 17]
@[irreducible] def mg_5g:List MOp:=[gT 18 19 (.mv (.t 3)),
 gT 18 20 (.len true (.t 19)),
 gT 18 21 (.bin false .leq (.t 20) (cI 20)),
 mo (.pick (.t 18) (.t 21) (.c (.bool false))) 22]
@[irreducible] def mg_5h:List MOp:=[gT 36 37 (.mv (.t 3)),
 gT 36 38 (.mv (.t 5)),
 gT 36 39 (.idx (.t 37) (.t 38)),
 gT 36 40 (.bin false .geq (.t 39) (.c (.int .u8 48))),
 mo (.pick (.t 36) (.t 40) (.c (.bool false))) 41]
@[irreducible] def mg_5i:List MOp:=[gT 42 43 (.mv (.t 3)),
 gT 42 44 (.mv (.t 5)),
 gT 42 45 (.idx (.t 43) (.t 44)),
 gT 42 46 (.bin false .leq (.t 45) (.c (.int .u8 57))),
 mo (.pick (.t 42) (.t 46) (.c (.bool false))) 47]
@[irreducible] def mc_2i:MC :=
 (.seq (sR [oV 5 25,
 oV 3 26,
 mo (.len true (.t 26)) 27,
 mo (.bin false .lss (.t 25) (.t 27)) 28]
 (.cond (.t 28)
 .skip
 (.exit 0)))
 (.seq (.block 1
 (.seq (.regI [.op (oV 0 31),
 .op (oV 0 32),
 .op (mo (.nck (.t 32)) 33),
 .op (oF 2 33 34),
 .op (oL 34 35),
 .op (oV 35 36),
 .grp mg_5h,
 .op (oV 41 42),
 .grp mg_5i,
 .op (mo (.nck (.t 31)) 48),
 .op (oF 2 48 49),
 .op ⟨.st 1 (.t 49) (.t 47),none,none⟩])
 (.reg [oV 4 50,
 mo (.bin false .mul (.t 50) (.c (.int .u64 10))) 51,
 oV 3 52,
 oV 5 53,
 mo (.idx (.t 52) (.t 53)) 54,
 mo (.bin false .sub (.t 54) (.c (.int .u8 48))) 55,
 mo (.i2i true .u64 (.t 55)) 56,
 mo (.bin false .add (.t 51) (.t 56)) 57,
 oV 57 4])))
 (.note (.gc [0,3,4,5,37,38,39,40,43,44,45,46]) (.reg [oV 5 29,
 mo (.bin true .add (.t 29) (cI 1)) 30,
 oV 30 5]))))
def mc_18:MC :=
 (sR [mo (.mv (.c (.int .u64 0))) 2]
 (sR [oV 0 6,
 mo (.call (.f 100) [(.t 6)] [1000] []) 7,
 oV 7 3]
 (sR [mo (.mv (.c (.int .u64 0))) 4]
 (.seq (.regI [.op (oV 0 8),
 .op (oV 0 9),
 .op (mo (.nck (.t 9)) 10),
 .op (oF 2 10 11),
 .op (oL 11 12),
 .op (oV 12 13),
 .grp mg_5f,
 .op (oV 17 18),
 .grp mg_5g,
 .op (mo (.nck (.t 8)) 23),
 .op (oF 2 23 24),
 .op ⟨.st 1 (.t 24) (.t 22),none,none⟩])
 (.seq (sR [oC 0 5]
 (.block 0
 (.loop mc_2i)))
 (sR [oV 4 58,
 oV 58 2]
 .ret))))))
theorem Wq_18 {p_:Gparser}:Cn Tryz.prog 102 [.ptr 1000 0] [(1000,.cells [.str p_.s_,.int .i64 p_.at_,.bool p_.ok_])] (F_18 p_) (fun z=>.int .u64 z.1) (fun z=>[(1000,.cells [.str z.2.s_,.int .i64 z.2.at_,.bool z.2.ok_])]):=fun Q Q' h hQ=>by
 refine acallM mc_18 [] [1000] [.t 2] Tryz.func102 fun M=>?_
 unfold F_18 at h
 unfold mc_18
 replace h:=tY h
 refine tB ?_
 repeat' (first
 | (exact tZ)
 | ((first|refine oblg h ?_|refine roomG h ?_|refine fork h ?_ ?_|refine forkS h ?_ ?_)<;>clear h<;>intro hc h)
 | (obtain ⟨y,hy,h⟩:=h;have hw:=Wq_15.w hy;replace hw:=tY hw;(first|refine M.sC hw ?_|refine M.sD hw ?_);clear hw hy;refine tB ?_)
 | (refine M.gj1 (ms:=mg_5i) [0,3,4,5,31] [1000] (fun y=>[(47,.bool y)]) (fun y=>[]) h ?_ ?_<;>first
 | (clear h;intro Qn K hK1 h;unfold mg_5i;replace h:=tY h;refine tB ?_)
  |(clear h;intro y h;replace h:=tY h;refine tB ?_))
 | (refine M.gj1 (ms:=mg_5h) [0,3,4,5,31] [1000] (fun y=>[(41,.bool y)]) (fun y=>[]) h ?_ ?_<;>first
 | (clear h;intro Qn K hK2 h;unfold mg_5h;replace h:=tY h;refine tB ?_)
  |(clear h;intro y h;replace h:=tY h;refine tB ?_))
 | (refine M.wh1 (b:=mc_2i) [0,3] [] (fun x=>[(4,.int .u64 x.1),(5,.int .i64 x.2.1)]) (fun x=>[.o 1000 (.cells [.str x.2.2.s_,.int .i64 x.2.2.at_,.bool x.2.2.ok_])]) [] h ?_ ?_<;>first
 | (clear h;intro x Qn K hK3 h;unfold F_2i at h;unfold mc_2i;replace h:=tY h;refine tB ?_)
  |(clear h;(try refine tB ?_);exact tU0;done))
 | (refine M.gv1 (ms:=mg_5g) 22 [19,20,21] h ?_ ?_<;>first
 | (clear h;intro K hK4;unfold mg_5g;refine tB ?_)
 | (clear h;intro b h;replace h:=tY h;refine tB ?_))
 | (refine M.gv1 (ms:=mg_5f) 17 [14,15,16] h ?_ ?_<;>first
 | (clear h;intro K hK5;unfold mg_5f;refine tB ?_)
 | (clear h;intro b h;replace h:=tY h;refine tB ?_))
 | ((first|refine hK1 _ ?_|refine hK2 _ ?_|refine hK3 _ ?_);(try refine tB ?_);refine ⟨_,h,?_⟩;exact tU0;done)
 | ((first|refine hK4 _ ?_|refine hK5 _ ?_);exact tU;done)
 | (refine bfork (fun hc=>?_) (fun hc=>?_))
 | (refine tE ?_;(first|rw [M.lok_compU]|rw [M.lokD_compU]);refine tB ?_)
 | (refine tA ?_)
 | fail)
noncomputable def FR_1:Nat→Gparser→Int→Option (GTerm×Gparser)
 | 0,_,_=>none
 | n+1,p_,deep_ =>
 grp ((decide (deep_=0)||(!p_.ok_))) fun b4=>bif b4 then some ((GTerm.mk 0 [] 0 0 []),(Gparser.mk p_.s_ p_.at_ false)) else (F_2 p_ [110,111,116,32,40]).bind fun y14=>bif y14.1 then chk (in64 (deep_ - 1)) ((FR_1 n y14.2 (deep_ - 1)).bind fun y16=>jn (α:=Bool×Gparser) (bif y16.2.ok_ then (F_2 y16.2 [41]).bind fun y20=>some (y20.1,y20.2) else some (false,y16.2)) fun j21=>some ((GTerm.mk 9 [] 0 0 [y16.1]),(Gparser.mk j21.2.s_ j21.2.at_ j21.1))) else (F_2 y14.2 [40]).bind fun y143=>bif y143.1 then chk (in64 (deep_ - 1)) ((FR_1 n y143.2 (deep_ - 1)).bind fun y145=>(loop (fun (x242:Int×(List GTerm)×Gparser)=>(bif x242.2.2.ok_ then (F_2 x242.2.2 [41]).bind fun y264=>bif (!y264.1) then jn (α:=Gparser×Int) (grp ((decide (x242.1=0)||decide (x242.1=10))) fun b281=>jn (α:=Bool×Gparser) (bif b281 then (F_2 y264.2 [32,97,110,100,32]).bind fun y283=>some (y283.1,y283.2) else some (false,y264.2)) fun j284=>bif j284.1 then some (j284.2,10) else grp ((decide (x242.1=0)||decide (x242.1=11))) fun b288=>jn (α:=Bool×Gparser) (bif b288 then (F_2 j284.2 [32,111,114,32]).bind fun y290=>some (y290.1,y290.2) else some (false,j284.2)) fun j291=>bif j291.1 then some (j291.2,11) else some ((Gparser.mk j291.2.s_ j291.2.at_ false),x242.1)) fun j277=>chk (in64 (deep_ - 1)) ((FR_1 n j277.1 (deep_ - 1)).bind fun y292=>chk (room (x242.2.1.length+[y292.1].length) 64) (some (.nx (j277.2,(x242.2.1++[y292.1]),y292.2)))) else some (.ex (x242.1,x242.2.1,y264.2)) else some (.ex (x242.1,x242.2.1,x242.2.2)):Option (Fl (Int×(List GTerm)×Gparser) (Int×(List GTerm)×Gparser)))) (0,[y145.1],y145.2)).bind fun r293=>some ((GTerm.mk r293.1 [] 0 0 r293.2.1),r293.2.2)) else (F_15 y143.2).bind fun y296=>F_17.bind fun y297=>jn (α:=Bool×Gparser) (bif y296.2.ok_ then (F_2 y296.2 [32]).bind fun y301=>some (y301.1,y301.2) else some (false,y296.2)) fun j302=>(loop (fun (x431:Int)=>(bif decide (x431≤8) then chk (inb x431 y297.length) (bif (!decide ((y297.getD (x431).toNat default)=y296.1)) then chk (in64 (x431+1)) (some (.nx (x431+1))) else bif decide (x431≤3) then (F_1g (Gparser.mk j302.2.s_ j302.2.at_ j302.1)).bind fun y473=>some (.ex (.inr ((GTerm.mk x431 y473.1 0 0 []),y473.2))) else bif decide (x431=7) then (F_18 (Gparser.mk j302.2.s_ j302.2.at_ j302.1)).bind fun y475=>some (.ex (.inr ((GTerm.mk x431 [] 0 y475.1 []),y475.2))) else (F_18 (Gparser.mk j302.2.s_ j302.2.at_ j302.1)).bind fun y477=>grp ((y477.2.ok_&&decide (y477.1≤1099511627776))) fun b479=>some (.ex (.inr ((GTerm.mk x431 [] (IntKind.wrap .i64 (y477.1 % 2^62)) 0 []),(Gparser.mk y477.2.s_ y477.2.at_ b479))))) else some (.ex (.inl ())):Option (Fl Int (Sum Unit (GTerm×Gparser))))) 1).bind fun r480=>Sum.elim (fun u481=>some ((GTerm.mk 0 [] 0 0 []),(Gparser.mk j302.2.s_ j302.2.at_ false))) (fun u482=>some u482) r480
noncomputable def F_1 (p_:Gparser) (deep_:Int):Option (GTerm×Gparser):=lim fun n=>FR_1 n p_ deep_
@[irreducible] def mg_5j:List MOp:=[gF 13 14 (.mv (.t 0)),
 gF 13 15 (.nck (.t 14)),
 gF 13 16 (.fad 2 (.t 15)),
 gF 13 17 (.ld none (.t 16)),
 gF 13 18 (.not (.t 17)),
 mo (.pick (.t 13) (.c (.bool true)) (.t 18)) 19]
@[irreducible] def mg_5k:List MOp:=[gT 35 36 (.mv (.t 0)),
 gT 35 37 (.call (.f 65) [(.t 36),(.c (.str [41]))] [1000] []),
 mo (.pick (.t 35) (.t 37) (.c (.bool false))) 38]
@[irreducible] def mg_5l:List MOp:=[gF 68 69 (.fad 0 (.t 6)),
 gF 68 70 (.ld none (.t 69)),
 gF 68 71 (.bin false .eql (.t 70) (cI 10)),
 mo (.pick (.t 68) (.c (.bool true)) (.t 71)) 72]
@[irreducible] def mg_5m:List MOp:=[gT 73 74 (.mv (.t 0)),
 gT 73 75 (.call (.f 65) [(.t 74),(.c (.str [32,97,110,100,32]))] [1000] []),
 mo (.pick (.t 73) (.t 75) (.c (.bool false))) 76]
@[irreducible] def mg_5n:List MOp:=[gF 82 83 (.fad 0 (.t 6)),
 gF 82 84 (.ld none (.t 83)),
 gF 82 85 (.bin false .eql (.t 84) (cI 11)),
 mo (.pick (.t 82) (.c (.bool true)) (.t 85)) 86]
@[irreducible] def mg_5o:List MOp:=[gT 87 88 (.mv (.t 0)),
 gT 87 89 (.call (.f 65) [(.t 88),(.c (.str [32,111,114,32]))] [1000] []),
 mo (.pick (.t 87) (.t 89) (.c (.bool false))) 90]
@[irreducible] def mc_5p:MC :=
 (.regD [oF 4 6 92,
 oL 92 93,
 oV 0 94,
 oV 1 95,
 mo (.bin true .sub (.t 95) (cI 1)) 96,
 mo (.call (.f 66) [(.t 94),(.t 96)] [1000] []) 97,
 mo (.bslice 5 [(.t 97)]) 98,
 mo (.app 5 64 (.t 93) (.t 98)) 99,
 oF 4 6 100,
 ⟨.st 1 (.t 100) (.t 99),none,none⟩]
 [[],[0],[],[],[3],[2,4],[5],[1,6,5],[0,1,2,3,4,5,6,7],[8,7,7,0,1,2,3,4,5,6,7]]
 [[],[0],[],[],[3],[2,3,4],[2,3,4,5],[0,1,2,3,4,5,6],[0,1,2,3,4,5,6,7],[0,1,2,3,4,5,6,7,8]])
@[irreducible] def mc_5q:MC :=
 (.seq (sR [oV 0 52,
 mo (.nck (.t 52)) 53,
 oF 2 53 54,
 oL 54 55,
 oV 55 56,
 gT 56 57 (.mv (.t 0)),
 gT 56 58 (.call (.f 65) [(.t 57),(.c (.str [41]))] [1000] []),
 gT 56 59 (.not (.t 58)),
 mo (.pick (.t 56) (.t 59) (.c (.bool false))) 60]
 (.cond (.t 60)
 .skip
 (.exit 0)))
 (.block 1
 (.cut (.block 2
 (.seq (.regI [.op (oF 0 6 65),
 .op (oL 65 66),
 .op (mo (.bin false .eql (.t 66) (cI 0)) 67),
 .op (oV 67 68),
 .grp mg_5l,
 .op (oV 72 73),
 .grp mg_5m,
 .op (oV 76 64)])
 (.cond (.t 64)
 (.reg [oF 0 6 77,
 ⟨.st 1 (.t 77) (cI 10),none,none⟩])
 (.seq (.regI [.op (oF 0 6 79),
 .op (oL 79 80),
 .op (mo (.bin false .eql (.t 80) (cI 0)) 81),
 .op (oV 81 82),
 .grp mg_5n,
 .op (oV 86 87),
 .grp mg_5o,
 .op (oV 90 78)])
 (.cond (.t 78)
 (.reg [oF 0 6 91,
 ⟨.st 1 (.t 91) (cI 11),none,none⟩])
 (.reg [oV 0 61,
 mo (.nck (.t 61)) 62,
 oF 2 62 63,
 ⟨.st 1 (.t 63) (.c (.bool false)),none,none⟩]))))))
 mc_5p)))
@[irreducible] def mg_5r:List MOp:=[gT 110 111 (.mv (.t 0)),
 gT 110 112 (.call (.f 65) [(.t 111),(.c (.str [32]))] [1000] []),
 mo (.pick (.t 110) (.t 112) (.c (.bool false))) 113]
@[irreducible] def mg_5s:List MOp:=[gT 147 148 (.mv (.t 10)),
 gT 147 149 (.bin false .leq (.t 148) (.c (.int .u64 1099511627776))),
 mo (.pick (.t 147) (.t 149) (.c (.bool false))) 150]
@[irreducible] def mc_5t:MC :=
 (.seq (sR [oV 9 116,
 mo (.bin false .leq (.t 116) (cI 8)) 117]
 (.cond (.t 117)
 .skip
 (.exit 3)))
 (.seq (.block 4
 (.seq (sR [oV 8 120,
 oV 9 121,
 mo (.iad 1 (.t 120) (.t 121)) 122,
 oL 122 123,
 oV 7 124,
 mo (.bin false .neq (.t 123) (.t 124)) 125]
 (.cond (.t 125)
 (.exit 4)
 .skip))
 (.seq (.block 5
 (.seq (.note (.gc [0,4,9,148,149]) (.reg [oV 9 127,
 mo (.bin false .leq (.t 127) (cI 3)) 128,
 oV 128 126]))
 (.cond (.t 126)
 (sR [oV 9 129,
 oV 0 130,
 mo (.call (.f 101) [(.t 130)] [1000] []) 131,
 mo (.build [(.int .i64 0),(.str []),(.int .i64 0),(.int .u64 0),(.sl [])] [(0,1,(.t 129)),(1,1,(.t 131))]) 132,
 ⟨.st 5 (.t 4) (.t 132),none,none⟩]
 .ret)
 (sR [oV 9 134,
 mo (.bin false .eql (.t 134) (cI 7)) 135,
 oV 135 133]
 (.cond (.t 133)
 (sR [oV 9 136,
 oV 0 137,
 mo (.call (.f 102) [(.t 137)] [1000] []) 138,
 mo (.build [(.int .i64 0),(.str []),(.int .i64 0),(.int .u64 0),(.sl [])] [(0,1,(.t 136)),(3,1,(.t 138))]) 139,
 ⟨.st 5 (.t 4) (.t 139),none,none⟩]
 .ret)
 .skip)))))
 (sR [oV 0 140,
 mo (.call (.f 102) [(.t 140)] [1000] []) 141,
 oV 141 10]
 (.seq (.note (.gc [0,4,9,10,148,149]) (.regI [.op (oV 0 142),
 .op (oV 0 143),
 .op (mo (.nck (.t 143)) 144),
 .op (oF 2 144 145),
 .op (oL 145 146),
 .op (oV 146 147),
 .grp mg_5s,
 .op (mo (.nck (.t 142)) 151),
 .op (oF 2 151 152),
 .op ⟨.st 1 (.t 152) (.t 150),none,none⟩]))
 (.seq (.note (.gc [4,9,10]) (.reg [oV 9 153,
 oV 10 154,
 mo (.mask 62 (.t 154) .u64) 155,
 mo (.i2i false .i64 (.t 155)) 156,
 mo (.build [(.int .i64 0),(.str []),(.int .i64 0),(.int .u64 0),(.sl [])] [(0,1,(.t 153)),(2,1,(.t 156))]) 157,
 ⟨.st 5 (.t 4) (.t 157),none,none⟩]))
 .ret))))))
 (.note (.gc [0,4,7,8,9,148,149]) (.reg [oV 9 118,
 mo (.bin true .add (.t 118) (cI 1)) 119,
 oV 119 9]))))
def mc_1:MC :=
 (sR [mo (.alloc [(.int .i64 0),(.str []),(.int .i64 0),(.int .u64 0),(.sl [])]) 4]
 (.seq (.seq (.regI [.op (oV 1 11),
 .op (mo (.bin false .eql (.t 11) (cI 0)) 12),
 .op (oV 12 13),
 .grp mg_5j])
 (.cond (.t 19)
 (sR [oV 0 20,
 mo (.nck (.t 20)) 21,
 oF 2 21 22,
 ⟨.st 1 (.t 22) (.c (.bool false)),none,none⟩]
 (sR [mo (.build [(.int .i64 0),(.str []),(.int .i64 0),(.int .u64 0),(.sl [])] []) 23,
 ⟨.st 5 (.t 4) (.t 23),none,none⟩]
 .ret))
 .skip))
 (.seq (sR [oV 0 24,
 mo (.call (.f 65) [(.t 24),(.c (.str [110,111,116,32,40]))] [1000] []) 25]
 (.cond (.t 25)
 (sR [oV 0 26,
 oV 1 27,
 mo (.bin true .sub (.t 27) (cI 1)) 28,
 mo (.call (.f 66) [(.t 26),(.t 28)] [1000] []) 29,
 mo (.alloc [(.int .i64 0),(.str []),(.int .i64 0),(.int .u64 0),(.sl [])]) 5,
 ⟨.st 5 (.t 5) (.t 29),none,none⟩]
 (.seq (.note (.gc [0,4,5,36,37]) (.regI [.op (oV 0 30),
 .op (oV 0 31),
 .op (mo (.nck (.t 31)) 32),
 .op (oF 2 32 33),
 .op (oL 33 34),
 .op (oV 34 35),
 .grp mg_5k,
 .op (mo (.nck (.t 30)) 39),
 .op (oF 2 39 40),
 .op ⟨.st 1 (.t 40) (.t 38),none,none⟩]))
 (sR [mo (.ld (some 5) (.t 5)) 41,
 mo (.bslice 5 [(.t 41)]) 42,
 mo (.build [(.int .i64 0),(.str []),(.int .i64 0),(.int .u64 0),(.sl [])] [(0,1,(cI 9)),(4,1,(.t 42))]) 43,
 ⟨.st 5 (.t 4) (.t 43),none,none⟩]
 .ret)))
 .skip))
 (.seq (sR [oV 0 44,
 mo (.call (.f 65) [(.t 44),(.c (.str [40]))] [1000] []) 45]
 (.cond (.t 45)
 (.seq (.note (.gc [0,1,4,57,58,59,69,70,71,74,75,83,84,85,88,89]) (.reg [oV 0 46,
 oV 1 47,
 mo (.bin true .sub (.t 47) (cI 1)) 48,
 mo (.call (.f 66) [(.t 46),(.t 48)] [1000] []) 49,
 mo (.bslice 5 [(.t 49)]) 50,
 mo (.build [(.int .i64 0),(.str []),(.int .i64 0),(.int .u64 0),(.sl [])] [(4,1,(.t 50))]) 51,
 mo (.alloc [(.int .i64 0),(.str []),(.int .i64 0),(.int .u64 0),(.sl [])]) 6,
 ⟨.st 5 (.t 6) (.t 51),none,none⟩]))
 (.seq (.block 0
 (.loop mc_5q))
 (sR [mo (.ld (some 5) (.t 6)) 101,
 ⟨.st 5 (.t 4) (.t 101),none,none⟩]
 .ret)))
 .skip))
 (.seq (.note (.gc [0,4,111,112,148,149]) (.reg [oV 0 102,
 mo (.call (.f 100) [(.t 102)] [1000] []) 103,
 mo (.call (.f 51) [] [] []) 104,
 oV 103 7,
 oV 104 8]))
 (.seq (.regI [.op (oV 0 105),
 .op (oV 0 106),
 .op (mo (.nck (.t 106)) 107),
 .op (oF 2 107 108),
 .op (oL 108 109),
 .op (oV 109 110),
 .grp mg_5r,
 .op (mo (.nck (.t 105)) 114),
 .op (oF 2 114 115),
 .op ⟨.st 1 (.t 115) (.t 113),none,none⟩])
 (.seq (sR [oC 1 9]
 (.block 3
 (.loop mc_5t)))
 (sR [oV 0 158,
 mo (.nck (.t 158)) 159,
 oF 2 159 160,
 ⟨.st 1 (.t 160) (.c (.bool false)),none,none⟩]
 (sR [mo (.build [(.int .i64 0),(.str []),(.int .i64 0),(.int .u64 0),(.sl [])] []) 161,
 ⟨.st 5 (.t 4) (.t 161),none,none⟩]
 .ret)))))))))
theorem Wq_1 {n:Nat} (ih_ref21_parser_term:∀{p_:Gparser} {deep_:Int} {y:GTerm×Gparser},FR_1 n p_ deep_=some y→ACall Tryz.prog 66 [.ptr 1000 0,.int .i64 deep_] [(1000,.cells [.str p_.s_,.int .i64 p_.at_,.bool p_.ok_])] (fun r H=>r=GTerm.v y.1∧H=[(1000,.cells [.str y.2.s_,.int .i64 y.2.at_,.bool y.2.ok_])])) (p_:Gparser) (deep_:Int) {Q:GTerm×Gparser→Prop} {Q':V→Heap→Prop} (h:Ok (FR_1 (n+1) p_ deep_) Q) (hQ:∀z,Q z→Q' (GTerm.v z.1) [(1000,.cells [.str z.2.s_,.int .i64 z.2.at_,.bool z.2.ok_])]):ACall Tryz.prog 66 [.ptr 1000 0,.int .i64 deep_] [(1000,.cells [.str p_.s_,.int .i64 p_.at_,.bool p_.ok_])] Q':=by
 refine acallM mc_1 [.fzc 4] [1000] [.c 4 (some 5)] Tryz.func66 fun M=>?_
 simp only [FR_1] at h
 unfold mc_1
 replace h:=tY h
 refine tB ?_
 repeat' (first
 | (exact tZ)
 | ((first|refine oblg h ?_|refine roomG h ?_|refine fork h ?_ ?_|refine forkS h ?_ ?_)<;>clear h<;>intro hc h)
 | (obtain ⟨y,hy,h⟩:=h;(first|with_reducible first|have hw:=Wq_2.w hy|have hw:=ih_ref21_parser_term hy|have hw:=Wq_15.w hy|have hw:=Wq_17.w hy|have hw:=Wq_1g.w hy|have hw:=Wq_18.w hy);replace hw:=tY hw;(first|refine M.sC hw ?_|refine M.sD hw ?_);clear hw hy;refine tB ?_)
 | (refine M.gj1 (ms:=mg_5k) [4,5,30] [5,4] (fun y=>[(38,.bool y.1)]) (fun y=>[.o 1000 (.cells [.str y.2.s_,.int .i64 y.2.at_,.bool y.2.ok_])]) h ?_ ?_<;>first
 | (clear h;intro Qn K hK1 h;unfold mg_5k;replace h:=tY h;refine tB ?_)
  |(clear h;intro y h;replace h:=tY h;refine tB ?_))
 | (refine M.gj1 (ms:=mg_5o) [0,1,4,6,57,58,59] [6,4100,4] (fun y=>[(90,.bool y.1)]) (fun y=>[.o 1000 (.cells [.str y.2.s_,.int .i64 y.2.at_,.bool y.2.ok_])]) h ?_ ?_<;>first
 | (clear h;intro Qn K hK2 h;unfold mg_5o;replace h:=tY h;refine tB ?_)
  |(clear h;intro y h;replace h:=tY h;refine tB ?_))
 | (refine M.gv1 (ms:=mg_5n) 86 [83,84,85] h ?_ ?_<;>first
 | (clear h;intro K hK3;unfold mg_5n;refine tB ?_)
 | (clear h;intro b h;replace h:=tY h;refine tB ?_))
 | (refine M.gj1 (ms:=mg_5m) [0,1,4,6,57,58,59] [6,4100,4] (fun y=>[(76,.bool y.1)]) (fun y=>[.o 1000 (.cells [.str y.2.s_,.int .i64 y.2.at_,.bool y.2.ok_])]) h ?_ ?_<;>first
 | (clear h;intro Qn K hK4 h;unfold mg_5m;replace h:=tY h;refine tB ?_)
  |(clear h;intro y h;replace h:=tY h;refine tB ?_))
 | (refine M.gv1 (ms:=mg_5l) 72 [69,70,71] h ?_ ?_<;>first
 | (clear h;intro K hK5;unfold mg_5l;refine tB ?_)
 | (clear h;intro b h;replace h:=tY h;refine tB ?_))
 | (refine M.jn1 (b:=mc_5p) [0,1,4,6,57,58,59] [6,4100,4] (fun y=>[]) (fun y=>[.o 1000 (.cells [.str y.1.s_,.int .i64 y.1.at_,.bool y.1.ok_]),.p 6 0 [.int .i64 y.2]]) [] h ?_ ?_<;>first
 | (clear h;intro Qn K hK6 h;replace h:=tY h;refine tB ?_)
  |(clear h;intro y h;unfold mc_5p;replace h:=tY h;refine tB ?_))
 | (refine M.wh1 (b:=mc_5q) [0,1,4,6] [6,4] (fun x=>[]) (fun x=>[.p 6 0 [.int .i64 x.1],.p 6 4 [.osl 4100 5 0 x.2.1.length],.o 4100 (.arr 5 (x.2.1.map GTerm.v)),.o 1000 (.cells [.str x.2.2.s_,.int .i64 x.2.2.at_,.bool x.2.2.ok_])]) [.gc [0,1,4,6],.ownC 6 4 4100 5 none] h ?_ ?_<;>first
 | (clear h;intro x Qn K hK7 h;unfold mc_5q;replace h:=tY h;refine tB ?_)
  |(clear h;(try refine tB ?_);exact tU0;done))
 | (refine M.gv1 (ms:=mg_5s) 150 [148,149] h ?_ ?_<;>first
 | (clear h;intro K hK8;unfold mg_5s;refine tB ?_)
 | (clear h;intro b h;replace h:=tY h;refine tB ?_))
 | (refine M.wh1 (b:=mc_5t) [0,4,7,8] [4,1000] (fun x=>[(9,.int .i64 x)]) (fun x=>[]) [] h ?_ ?_<;>first
 | (clear h;intro x Qn K hK9 h;unfold mc_5t;replace h:=tY h;refine tB ?_)
  |(clear h;(try refine tB ?_);exact tU0;done))
 | (refine M.gj1 (ms:=mg_5r) [0,4,7,8,105] [4] (fun y=>[(113,.bool y.1)]) (fun y=>[.o 1000 (.cells [.str y.2.s_,.int .i64 y.2.at_,.bool y.2.ok_])]) h ?_ ?_<;>first
 | (clear h;intro Qn K hK10 h;unfold mg_5r;replace h:=tY h;refine tB ?_)
  |(clear h;intro y h;replace h:=tY h;refine tB ?_))
 | (refine M.gv1 (ms:=mg_5j) 19 [14,15,16,17,18] h ?_ ?_<;>first
 | (clear h;intro K hK11;unfold mg_5j;refine tB ?_)
 | (clear h;intro b h;replace h:=tY h;refine tB ?_))
 | ((first|refine hK1 _ ?_|refine hK2 _ ?_|refine hK4 _ ?_|refine hK6 _ ?_|refine hK7 _ ?_|refine hK9 _ ?_|refine hK10 _ ?_);(try refine tB ?_);refine ⟨_,h,?_⟩;exact tU0;done)
 | ((first|refine hK3 _ ?_|refine hK5 _ ?_|refine hK8 _ ?_|refine hK11 _ ?_);exact tU;done)
 | (refine bfork (fun hc=>?_) (fun hc=>?_))
 | (refine tE ?_;(first|rw [M.lok_compU]|rw [M.lokD_compU]);refine tB ?_)
 | (refine tA ?_)
 | fail)
theorem WG_1:∀n,(∀{p_:Gparser} {deep_:Int} {y:GTerm×Gparser},FR_1 n p_ deep_=some y→ACall Tryz.prog 66 [.ptr 1000 0,.int .i64 deep_] [(1000,.cells [.str p_.s_,.int .i64 p_.at_,.bool p_.ok_])] (fun r H=>r=GTerm.v y.1∧H=[(1000,.cells [.str y.2.s_,.int .i64 y.2.at_,.bool y.2.ok_])]))
 | 0=>fun hy=>(by simp only [FR_1] at hy;cases hy)
 | n+1=>by
  have ih_ref21_parser_term:=@WG_1 n
  exact fun hy=>Wq_1 ih_ref21_parser_term _ _ (Q:=(·=_)) ⟨_,hy,rfl⟩ fun|_,rfl=>⟨rfl,rfl⟩
theorem W_1:∀{p_:Gparser} {deep_:Int} {y:GTerm×Gparser},F_1 p_ deep_=some y→ACall Tryz.prog 66 [.ptr 1000 0,.int .i64 deep_] [(1000,.cells [.str p_.s_,.int .i64 p_.at_,.bool p_.ok_])] (fun r H=>r=GTerm.v y.1∧H=[(1000,.cells [.str y.2.s_,.int .i64 y.2.at_,.bool y.2.ok_])]):=fun hy=>by
 obtain ⟨n,hn⟩:=lim_inv hy
 exact (WG_1 n) hn
noncomputable def F_28 (s_:Str) (x7:Int):Option (Fl Int Int) :=
 bif decide (x7<(s_.length:Int)) then chk (inb x7 s_.length) (bif (!decide (((s_.getD (x7).toNat 0).toNat:Int)=58)) then chk (in64 (x7+1)) (some (.nx (x7+1))) else some (.ex x7)) else some (.ex x7)
noncomputable def F_1h (s_:Str):Option (GRule×Bool) :=
 (loop (F_28 s_) 0).bind fun r8=>chk (inc 0 r8 s_.length) (jn (α:=Fl (Gparser×GRule) (GRule×Bool)) ((F_2 (Gparser.mk s_ r8 true) [58,32,114,101,97,108,32,105,102,32]).bind fun y15=>bif y15.1 then some (.nx (y15.2,(GRule.mk (s_.take ((r8).toNat)) (GTerm.mk 0 [] 0 0 []) 1))) else (F_2 y15.2 [58,32,102,97,108,115,101,32,105,102,32]).bind fun y17=>bif y17.1 then some (.nx (y17.2,(GRule.mk (s_.take ((r8).toNat)) (GTerm.mk 0 [] 0 0 []) 2))) else some (.ex ((GRule.mk (s_.take ((r8).toNat)) (GTerm.mk 0 [] 0 0 []) 1),false))) fun o=>o.elim (fun j13=>(F_1 j13.1 21).bind fun y19=>bif y19.2.ok_ then some ((GRule.mk j13.2.Name y19.1 j13.2.Verdict),decide (y19.2.at_=(s_.length:Int))) else some ((GRule.mk j13.2.Name y19.1 j13.2.Verdict),false)) (fun r20=>some r20))
@[irreducible] def mc_28:MC :=
 (.seq (sR [oV 4 7,
 oV 0 8,
 mo (.len true (.t 8)) 9,
 mo (.bin false .lss (.t 7) (.t 9)) 10,
 oV 10 11,
 gT 11 12 (.mv (.t 0)),
 gT 11 13 (.mv (.t 4)),
 gT 11 14 (.idx (.t 12) (.t 13)),
 gT 11 15 (.bin false .neq (.t 14) (.c (.int .u8 58))),
 mo (.pick (.t 11) (.t 15) (.c (.bool false))) 16]
 (.cond (.t 16)
 .skip
 (.exit 0)))
 (.block 1
 (.reg [oV 4 17,
 mo (.bin true .add (.t 17) (cI 1)) 18,
 oV 18 4])))
@[irreducible] def mc_5u:MC :=
 (sR [oV 6 35,
 mo (.call (.f 66) [(.t 35),(cI 21)] [26] []) 36,
 oF 1 5 37,
 ⟨.st 5 (.t 37) (.t 36),none,none⟩]
 (.seq (.regD [mo (.ld (some 7) (.t 5)) 38,
 oV 6 39,
 mo (.nck (.t 39)) 40,
 oF 2 40 41,
 oL 41 42,
 oV 42 43,
 gT 43 44 (.mv (.t 6)),
 gT 43 45 (.nck (.t 44)),
 gT 43 46 (.fad 1 (.t 45)),
 gT 43 47 (.ld none (.t 46)),
 gT 43 48 (.mv (.t 0)),
 gT 43 49 (.len true (.t 48)),
 gT 43 50 (.bin false .eql (.t 47) (.t 49)),
 mo (.pick (.t 43) (.t 50) (.c (.bool false))) 51,
 ⟨.st 7 (.t 2) (.t 38),none,none⟩,
 oV 51 3]
 [[],[],[1],[2],[3],[4],[5],[6,5],[7,5],[8,5],[5],[10,5],[9,11,5],[5,12],[0,5,0],[13,14,0,1,2,3,4,5,6,7,8,9,10,11,12,13,14]]
 [[],[],[1],[1,2],[1,2,3],[1,2,3,4],[1,2,3,4,5],[1,2,3,4,5,6],[1,2,3,4,5,6,7],[1,2,3,4,5,6,7,8],[1,2,3,4,5],[1,2,3,4,5,10],[1,2,3,4,5,6,7,8,9,10,11],[1,2,3,4,5,6,7,8,9,10,11,12],[0,1,2,3,4,5],[0,1,2,3,4,5,6,7,8,9,10,11,12,13,14]])
 .ret))
def mc_1h:MC :=
 (sR [mo (.alloc [(.str []),(.int .i64 0),(.str []),(.int .i64 0),(.int .u64 0),(.sl []),(.int .i64 0)]) 2,
 mo (.mv (.c (.bool false))) 3]
 (sR [oC 0 4]
 (.seq (.block 0
 (.loop mc_28))
 (sR [oV 0 19,
 oV 4 20,
 mo (.sls (.t 19) none (some (.t 20))) 21,
 mo (.build [(.str []),(.int .i64 0),(.str []),(.int .i64 0),(.int .u64 0),(.sl []),(.int .i64 0)] [(0,1,(.t 21)),(6,1,(cI 1))]) 22,
 mo (.alloc [(.str []),(.int .i64 0),(.str []),(.int .i64 0),(.int .u64 0),(.sl []),(.int .i64 0)]) 5,
 ⟨.st 7 (.t 5) (.t 22),none,none⟩]
 (sR [oV 0 23,
 oV 4 24,
 mo (.build [(.str []),(.int .i64 0),(.bool false)] [(0,1,(.t 23)),(1,1,(.t 24)),(2,1,(.c (.bool true)))]) 25,
 mo (.box (.t 25)) 26,
 oV 26 6]
 (.cut (.block 2
 (.seq (.note (.gc [0,2,5,6,44,45,46,47,48,49,50]) (.reg [oV 6 29,
 mo (.call (.f 65) [(.t 29),(.c (.str [58,32,114,101,97,108,32,105,102,32]))] [26] []) 30,
 oV 30 28]))
 (.cond (.t 28)
 .skip
 (sR [oV 6 32,
 mo (.call (.f 65) [(.t 32),(.c (.str [58,32,102,97,108,115,101,32,105,102,32]))] [26] []) 33,
 oV 33 31]
 (.cond (.t 31)
 (.reg [oF 6 5 34,
 ⟨.st 1 (.t 34) (cI 2),none,none⟩])
 (.seq (.note (.gc [2,5]) (.reg [mo (.ld (some 7) (.t 5)) 27,
 ⟨.st 7 (.t 2) (.t 27),none,none⟩,
 mo (.mv (.c (.bool false))) 3]))
 .ret))))))
 mc_5u))))))
theorem Wq_1h {s_:Str}:Cn Tryz.prog 36 [.str s_] [] (F_1h s_) (fun z=>.tup [GRule.v z.1,.bool z.2]) (fun z=>[]):=fun Q Q' h hQ=>by
 refine acallM mc_1h [.fzc 2] [] [.c 2 (some 7),.t 3] Tryz.func36 fun M=>?_
 unfold F_1h at h
 unfold mc_1h
 replace h:=tY h
 refine tB ?_
 repeat' (first
 | (exact tZ)
 | ((first|refine oblg h ?_|refine roomG h ?_|refine incG h ?_|refine fork h ?_ ?_|refine forkS h ?_ ?_)<;>clear h<;>intro hc h)
 | (obtain ⟨y,hy,h⟩:=h;(first|have hw:=acall_swe 1000 26 (Wq_2.w hy)|have hw:=acall_swe 1000 26 (W_1 hy));replace hw:=tY hw;(first|refine M.sC hw ?_|refine M.sD hw ?_);clear hw hy;refine tB ?_)
 | (refine M.wh1 (b:=mc_28) [0,2] [2] (fun x=>[(4,.int .i64 x)]) (fun x=>[]) [] h ?_ ?_<;>first
 | (clear h;intro x Qn K hK1 h;unfold F_28 at h;unfold mc_28;replace h:=tY h;refine tB ?_)
  |(clear h;(try refine tB ?_);exact tU0;done))
 | (refine M.jnE (b:=mc_5u) [0,2,5,6] [2] (fun y=>[]) (fun y=>[.o 26 (.cells [.str y.1.s_,.int .i64 y.1.at_,.bool y.1.ok_]),.o 5 (.cells [.str y.2.Name,.int .i64 y.2.When.Op,.str y.2.When.Text,.int .i64 y.2.When.Number,.int .u64 y.2.When.Print,.sl (y.2.When.Kids.map GTerm.v),.int .i64 y.2.Verdict])]) [] h ?_ ?_<;>first
 | (clear h;intro Qn K hK2 h;replace h:=tY h;refine tB ?_)
  |(clear h;intro y h;unfold mc_5u;replace h:=tY h;refine tB ?_))
 | ((first|refine hK1 _ ?_|refine hK2 _ ?_);(try refine tB ?_);refine ⟨_,h,?_⟩;exact tU0;done)
 | (refine tE ?_;(first|rw [M.lok_compU]|rw [M.lokD_compU]);refine tB ?_)
 | (refine tA ?_)
 | fail)
noncomputable def F_2j (y2:List Str) (x31:Int×(List GRule)):Option (Fl (Int×(List GRule)) (Sum (List GRule) ((List GRule)×Int))) :=
 chk (in64 (x31.1+1)) (bif decide ((x31.1+1)<(y2.length:Int)) then chk (inb x31.1 y2.length) ((F_1h (y2.getD (x31.1).toNat default)).bind fun y39=>bif (!y39.2) then some (.ex (.inr ([],4))) else chk (room (x31.2.length+[y39.1].length) 88) (chk (in64 (x31.1+1)) (some (.nx ((x31.1+1),(x31.2++[y39.1])))))) else some (.ex (.inl x31.2)))
noncomputable def F_19 (s_:Str):Option ((List GRule)×Int) :=
 bif decide (65536<(s_.length:Int)) then some ([],3) else (F_1f s_ 10).bind fun y2=>bif decide (41<(y2.length:Int)) then some ([],4) else (loop (F_2j y2) (0,[])).bind fun r40=>Sum.elim (fun u41=>(F_10 u41).bind fun y48=>grp (((!decide (y48.2=0))||(!decide (y48.1=s_)))) fun b50=>bif b50 then some ([],4) else some (u41,0)) (fun u42=>some u42) r40
@[irreducible] def mc_2j:MC :=
 (.seq (sR [oV 6 19,
 mo (.bin true .add (.t 19) (cI 1)) 20,
 oV 4 21,
 mo (.len false (.t 21)) 22,
 mo (.bin false .lss (.t 20) (.t 22)) 23]
 (.cond (.t 23)
 .skip
 (.exit 0)))
 (.seq (.block 1
 (sR [oV 4 27,
 oV 6 28,
 mo (.iad 1 (.t 27) (.t 28)) 29,
 oL 29 30,
 mo (.call (.f 36) [(.t 30)] [] []) 31,
 oV 31 26,
 mo (.ext 0 (.t 26)) 32,
 mo (.ext 1 (.t 26)) 33,
 mo (.alloc [(.str []),(.int .i64 0),(.str []),(.int .i64 0),(.int .u64 0),(.sl []),(.int .i64 0)]) 7,
 ⟨.st 7 (.t 7) (.t 32),none,none⟩,
 oV 33 8]
 (.seq (sR [oV 8 34,
 mo (.not (.t 34)) 35]
 (.cond (.t 35)
 (sR [mo (.mv (.c (.sl []))) 2,
 oC 4 3]
 .ret)
 .skip))
 (.note (.gc [0,4,5,6,7,48,49,50]) (.reg [oV 5 36,
 mo (.ld (some 7) (.t 7)) 37,
 mo (.bslice 7 [(.t 37)]) 38,
 mo (.app 7 88 (.t 36) (.t 38)) 39,
 oV 39 5])))))
 (.reg [oV 6 24,
 mo (.bin true .add (.t 24) (cI 1)) 25,
 oV 25 6])))
@[irreducible] def mg_5v:List MOp:=[gF 47 48 (.mv (.t 9)),
 gF 47 49 (.mv (.t 0)),
 gF 47 50 (.bin false .neq (.t 48) (.t 49)),
 mo (.pick (.t 47) (.c (.bool true)) (.t 50)) 51]
def mc_19:MC :=
 (sR [mo (.mv (.c (.sl []))) 2,
 oC 0 3]
 (.seq (sR [oV 0 11,
 mo (.len true (.t 11)) 12,
 mo (.bin false .gtr (.t 12) (cI 65536)) 13]
 (.cond (.t 13)
 (sR [mo (.mv (.c (.sl []))) 2,
 oC 3 3]
 .ret)
 .skip))
 (sR [oV 0 14,
 mo (.call (.f 35) [(.t 14),(.c (.int .u8 10))] [] []) 15,
 oV 15 4]
 (.seq (sR [oV 4 16,
 mo (.len false (.t 16)) 17,
 mo (.bin false .gtr (.t 17) (cI 41)) 18]
 (.cond (.t 18)
 (sR [mo (.mv (.c (.sl []))) 2,
 oC 4 3]
 .ret)
 .skip))
 (sR [mo (.mv (.c .nils)) 5]
 (.seq (sR [oC 0 6]
 (.block 0
 (.loop mc_2j)))
 (.seq (.seq (.regI [.op (oV 5 41),
 .nt (.fz 41),
 .op (mo (.call (.f 9) [(.t 41)] [] []) 42),
 .op (oV 42 40),
 .op (mo (.ext 0 (.t 40)) 43),
 .op (mo (.ext 1 (.t 40)) 44),
 .op (oV 43 9),
 .op (oV 44 10)])
 (.seq (.regI [.op (oV 10 45),
 .op (mo (.bin false .neq (.t 45) (cI 0)) 46),
 .op (oV 46 47),
 .grp mg_5v])
 (.cond (.t 51)
 (sR [mo (.mv (.c (.sl []))) 2,
 oC 4 3]
 .ret)
 .skip)))
 (.seq (.note (.gc [5]) (.reg [oV 5 52,
 oV 52 2,
 oC 0 3]))
 .ret))))))))
theorem Wq_19 {s_:Str}:Cn Tryz.prog 13 [.str s_] [] (F_19 s_) (fun z=>.tup [.sl (z.1.map GRule.v),.int .i64 z.2]) (fun z=>[]):=fun Q Q' h hQ=>by
 refine acallM mc_19 [.fz 2] [] [.t 2,.t 3] Tryz.func13 fun M=>?_
 unfold F_19 at h
 unfold mc_19
 replace h:=tY h
 refine tB ?_
 repeat' (first
 | (exact tZ)
 | ((first|refine oblg h ?_|refine roomG h ?_|refine fork h ?_ ?_|refine forkS h ?_ ?_)<;>clear h<;>intro hc h)
 | (obtain ⟨y,hy,h⟩:=h;(first|with_reducible first|have hw:=Wq_1f.w hy|have hw:=Wq_1h.w hy|have hw:=Wq_10.w hy);replace hw:=tY hw;(first|refine M.sC hw ?_|refine M.sD hw ?_);clear hw hy;refine tB ?_)
 | (refine M.wh1 (b:=mc_2j) [0,4] [] (fun x=>[(5,.osl 2005 7 0 x.2.length),(6,.int .i64 x.1)]) (fun x=>[.o 2005 (.arr 7 (x.2.map GRule.v))]) [.gc [0,4,5,6],.acc 5 2005 7] h ?_ ?_<;>first
 | (clear h;intro x Qn K hK1 h;unfold F_2j at h;unfold mc_2j;replace h:=tY h;refine tB ?_)
  |(clear h;(try refine tB ?_);exact tU0;done))
 | (refine M.gv1 (ms:=mg_5v) 51 [48,49,50] h ?_ ?_<;>first
 | (clear h;intro K hK2;unfold mg_5v;refine tB ?_)
 | (clear h;intro b h;replace h:=tY h;refine tB ?_))
 | (refine hK1 _ ?_;(try refine tB ?_);refine ⟨_,h,?_⟩;exact tU0;done)
 | (refine hK2 _ ?_;exact tU;done)
 | (refine bfork (fun hc=>?_) (fun hc=>?_))
 | (refine tE ?_;(first|rw [M.lok_compU]|rw [M.lokD_compU]);refine tB ?_)
 | (refine tA ?_)
 | fail)
noncomputable def F_29 (k77:Int) (a78:Str) (x76:Unit):Option (Fl Unit Bool) :=
 bif decide (2000<(a78.length:Int)) then some (.nx ()) else (F_r a78).bind fun y98=>(F_19 a78).bind fun y100=>bif (!decide (y98.2=y100.2)) then some (.ex false) else (F_20 y98.1 y100.1).bind fun y102=>bif (!y102) then some (.ex false) else some (.nx ())
noncomputable def F_2a (tape_:List Int) (s_:Str) (at_:Int) (by_:UInt8):Option Bool :=
 (F_z (GTape.mk tape_ 0) 1 3).bind fun y4=>(F_1v y4.2 y4.1).bind fun y5=>(F_10 y5.1).bind fun y6=>bif (!decide (y6.2=0)) then some false else chk (divs (at_ % 2^16) (y6.1.length:Int)) (chk (inb ((at_ % 2^16) % (y6.1.length:Int)) y6.1.length) (chk (strl (y6.1.length+y6.1.length)) (chk (in64 ((y6.1.length:Int) - 1)) (chk (inc 0 ((y6.1.length:Int) - 1) y6.1.length) (chk (strl (y6.1.length+[122,58,32,114,101,97,108,32,105,102,32,112,114,105,110,116,32,49,56,52,52,54,55,52,52,48,55,51,55,48,57,53,53,49,54,49,53,10].length)) (chk (strl (y6.1.length+[122,58,32,114,101,97,108,32,105,102,32,112,114,105,110,116,32,49,56,52,52,54,55,52,52,48,55,51,55,48,57,53,53,49,54,49,54,10].length)) (chk (strl (y6.1.length+[122,58,32,102,97,108,115,101,32,105,102,32,40,40,107,105,110,100,32,34,97,34,41,41,10].length)) ((forL F_29 [s_,y6.1,y6.1.set ((((at_ % 2^16) % (y6.1.length:Int))).toNat) (([10,32,40,41,34,48,97,111]:Str).getD (((by_.toNat:Int) % 2^3)).toNat 0),(y6.1++y6.1),(y6.1.take ((((y6.1.length:Int) - 1)).toNat)),(y6.1++[122,58,32,114,101,97,108,32,105,102,32,112,114,105,110,116,32,49,56,52,52,54,55,52,52,48,55,51,55,48,57,53,53,49,54,49,53,10]),(y6.1++[122,58,32,114,101,97,108,32,105,102,32,112,114,105,110,116,32,49,56,52,52,54,55,52,52,48,55,51,55,48,57,53,53,49,54,49,54,10]),(y6.1++[122,58,32,102,97,108,115,101,32,105,102,32,40,40,107,105,110,100,32,34,97,34,41,41,10])] 0 ()).bind fun o=>o.elim (fun x103=>F_1n.bind fun y106=>some y106) (fun r104=>some r104)))))))))
@[irreducible] def mc_29:MC :=
 (sR [mo (.bin false .lss (.t 64) (.t 63)) 65]
 (.seq (.cond (.t 65)
 .skip
 (.exit 0))
 (.seq (.block 1
 (sR [mo (.iad 1 (.t 62) (.t 64)) 66,
 oL 66 67,
 oV 67 14]
 (.seq (sR [oV 14 68,
 mo (.len true (.t 68)) 69,
 mo (.bin false .gtr (.t 69) (cI 2000)) 70]
 (.cond (.t 70)
 (.exit 1)
 .skip))
 (sR [oV 14 72,
 mo (.call (.f 12) [(.t 72)] [] []) 73,
 oV 73 71,
 mo (.ext 0 (.t 71)) 74,
 mo (.ext 1 (.t 71)) 75,
 oV 74 15,
 oV 75 16]
 (.seq (.note (.gc [14,15,16,62,63,64,85,86,87,88]) (.reg [oV 14 77,
 mo (.call (.f 13) [(.t 77)] [] []) 78,
 oV 78 76,
 mo (.ext 0 (.t 76)) 79,
 mo (.ext 1 (.t 76)) 80,
 oV 79 17,
 oV 80 18]))
 (sR [oV 16 81,
 oV 18 82,
 mo (.bin false .neq (.t 81) (.t 82)) 83,
 oV 83 84,
 gF 84 85 (.mv (.t 15)),
 gF 84 86 (.mv (.t 17)),
 gF 84 87 (.call (.f 14) [(.t 85),(.t 86)] [] []),
 gF 84 88 (.not (.t 87)),
 mo (.pick (.t 84) (.c (.bool true)) (.t 88)) 89]
 (.cond (.t 89)
 (sR [mo (.mv (.c (.bool false))) 8]
 .ret)
 .skip)))))))
 (.reg [mo (.bin true .add (.t 64) (cI 1)) 90,
 oV 90 64]))))
def mc_2a:MC :=
 (sR [mo (.mv (.c (.bool false))) 8]
 (sR [oV 0 19,
 mo (.build [(.sl []),(.int .i64 0)] [(0,1,(.t 19))]) 20,
 mo (.box (.t 20)) 21,
 oV 21 9]
 (sR [oV 9 23,
 oV 9 24,
 mo (.call (.f 11) [(.t 24),(cI 1),(cI 3)] [21] []) 25,
 mo (.call (.f 10) [(.t 23),(.t 25)] [21] []) 26,
 mo (.call (.f 9) [(.t 26)] [] []) 27,
 oV 27 22,
 mo (.ext 0 (.t 22)) 28,
 mo (.ext 1 (.t 22)) 29,
 oV 28 10,
 oV 29 11]
 (.seq (sR [oV 11 30,
 mo (.bin false .neq (.t 30) (cI 0)) 31]
 (.cond (.t 31)
 (sR [mo (.mv (.c (.bool false))) 8]
 .ret)
 .skip))
 (.seq (.note (.gc [1,2,3,10,85,86,87,88]) (.reg [oV 10 32,
 mo (.s2b (.t 32)) 33,
 oV 33 12]))
 (.seq (.regD [oV 12 34,
 oV 2 35,
 mo (.mask 16 (.t 35) .i64) 36,
 oV 12 37,
 mo (.len false (.t 37)) 38,
 mo (.bin true .rem (.t 36) (.t 38)) 39,
 oV 3 40,
 mo (.mask 3 (.t 40) .u8) 41,
 mo (.idx (.c (.str [10,32,40,41,34,48,97,111])) (.t 41)) 42,
 mo (.iad 1 (.t 34) (.t 39)) 43,
 ⟨.st 1 (.t 43) (.t 42),none,none⟩]
 [[],[],[1],[],[3],[2,4],[],[6],[7],[0,5,0,1,2,3,4,5,6,7,8],[9,8,0,1,2,3,4,5,6,7,8]]
 [[],[],[1],[],[3],[1,2,3,4],[],[6],[6,7],[0,1,2,3,4,5,6,7,8],[0,1,2,3,4,5,6,7,8,9]])
 (.seq (.seq (.note (.gc [1,10,12,85,86,87,88]) (.regD [oV 1 44,
 oV 10 45,
 oV 12 46,
 mo (.b2s (.t 46)) 47,
 oV 10 48,
 oV 10 49,
 mo (.bin false .add (.t 48) (.t 49)) 50,
 oV 10 51,
 oV 10 52,
 mo (.len true (.t 52)) 53,
 mo (.bin true .sub (.t 53) (cI 1)) 54,
 mo (.sls (.t 51) none (some (.t 54))) 55,
 oV 10 56,
 mo (.bin false .add (.t 56) (.c (.str [122,58,32,114,101,97,108,32,105,102,32,112,114,105,110,116,32,49,56,52,52,54,55,52,52,48,55,51,55,48,57,53,53,49,54,49,53,10]))) 57,
 oV 10 58,
 mo (.bin false .add (.t 58) (.c (.str [122,58,32,114,101,97,108,32,105,102,32,112,114,105,110,116,32,49,56,52,52,54,55,52,52,48,55,51,55,48,57,53,53,49,54,49,54,10]))) 59,
 oV 10 60,
 mo (.bin false .add (.t 60) (.c (.str [122,58,32,102,97,108,115,101,32,105,102,32,40,40,107,105,110,100,32,34,97,34,41,41,10]))) 61,
 mo (.bslice 1 [(.t 44),(.t 45),(.t 47),(.t 50),(.t 55),(.t 57),(.t 59),(.t 61)]) 62,
 mo (.len false (.t 62)) 63,
 oC 0 64]
 [[],[],[],[2],[],[],[4,5],[],[],[8],[9],[7,10],[],[12],[],[14],[],[16],[0,1,3,6,11,13,15,17],[18],[]]
 [[],[],[],[2],[],[],[4,5],[],[],[8],[8,9],[7,8,9,10],[],[12],[],[14],[],[16],[0,1,2,3,4,5,6,7,8,9,10,11,12,13,14,15,16,17],[0,1,2,3,4,5,6,7,8,9,10,11,12,13,14,15,16,17,18],[]]))
 (.block 0
 (.loop mc_29)))
 (sR [mo (.call (.f 15) [] [] []) 91,
 oV 91 8]
 .ret))))))))
theorem Wq_2a {tape_:List Int} {s_:Str} {at_:Int} {by_:UInt8}:Cn Tryz.prog 3 [.sl (tape_.map (V.int .i64)),.str s_,.int .i64 at_,byteV by_] [] (F_2a tape_ s_ at_ by_) (fun z=>.bool z) (fun z=>[]):=fun Q Q' h hQ=>by
 refine acallM mc_2a [] [] [.t 8] Tryz.func3 fun M=>?_
 unfold F_2a at h
 unfold mc_2a
 replace h:=tY h
 refine tB ?_
 repeat' (first
 | (exact tZ)
 | ((first|refine oblg h ?_|refine roomG h ?_|refine incG h ?_|refine divG h ?_|refine fork h ?_ ?_|refine forkS h ?_ ?_)<;>clear h<;>intro hc h)
 | (obtain ⟨y,hy,h⟩:=h;(first|(with_reducible first|have hw:=Wq_10.w hy|have hw:=Wq_r.w hy|have hw:=Wq_19.w hy|have hw:=Wq_20.w hy|have hw:=Wq_1n.w hy)|have hw:=acall_swe 1000 21 (Wq_z.w hy)|have hw:=acall_swe 1000 21 (Wq_1v.w hy));replace hw:=tY hw;(first|refine M.sC hw ?_|refine M.sD hw ?_);clear hw hy;refine tB ?_)
 | (refine M.for1 (b:=mc_29) 64 [62,63] [62] (fun x=>[]) (fun x=>[]) [] h ?_ ?_ ?_<;>first
 | (clear h;intro k a x Qn K hK1 hkN1 ha1 h hf;skip;clear hf;have hkd:=kD hkN1;have hkB1:=kB hkN1;have hkI1:=kI (k:=k) (by (try simp only [List.length_cons,List.length_nil] at hkN1);omega);have hkd1:decide ((k:Int)<8)=true:=decide_eq_true (by simp only [List.length_cons,List.length_nil] at hkN1;omega);have hkr1:(0≤(k:Int)∧(k:Int)<8)=True:=eq_true (by simp only [List.length_cons,List.length_nil] at hkN1;omega);have hle1:=trivial;have hpt1:=trivial;unfold F_29 at h;unfold mc_29;replace h:=tY h;refine tKA ha1 hkd hkN1 hkB1 hkI1 hkd1 hkr1 hle1 hpt1 ?_)
  |(clear h;intro x K h;replace h:=And.left (And.intro h trivial);unfold mc_29;replace h:=tY h;refine tB ?_)
  |(clear h;(try refine tB ?_);exact tU0;done))
 | (simp only [ha1])
 | (refine hK1 _ ?_;(try refine tB ?_);refine ⟨_,h,?_⟩;exact tU0;done)
 | (refine tE4 V.str ?_;(first|rw [M.lok_compU]|rw [M.lokD_compU]|(simp only [V.cells];first|rw [M.lok_comp]|rw [M.lokD_comp]));refine tB ?_)
 | (refine tE ?_;(first|rw [M.lok_compU]|rw [M.lokD_compU]);refine tB ?_)
 | (refine ⟨_,getE_mapset (by first|exact inb_toNat (by assumption)|exact inb_nat (by assumption)),?_⟩;(first|rw [M.lok_compU]|rw [M.lokD_compU]|(simp only [V.cells];first|rw [M.lok_comp]|rw [M.lokD_comp]));refine tB ?_)
 | (refine tA ?_)
 | fail)
end Go.Ab
