/- What the functions of this seat that lie on the laws' road compute (part LD), each for every input. By AI agents. -/
import Derived.Test.YtoojdaakeiadjaaGreatDoorProg
import Derived.KernelRfl
import Derived.Test.YtoojdaakeiadjaaGreatDoorAbFun
import Derived.Test.YtoojdaakeiadjaaGreatDoorLC
set_option linter.all false
set_option linter.all false
set_option maxRecDepth 20000
set_option maxHeartbeats 2000000
namespace Go.Ab
open Go.Proofs
theorem inbk_1 {n:Nat}:(inb 1 n=true)=(((1:Nat):Int)<(n:Int)):=propext (by rw [inb_iff];omega)
attribute [go_sem] inbk_1
def F_m (c_:UInt8):Option GNode :=
 some (GNode.mk 1 [(GRange.mk c_ c_)] [] 0 0)
def mc_m:MC :=
 (sR [mo (.alloc [(.int .i64 0),(.sl []),(.sl []),(.int .i64 0),(.int .i64 0)]) 2]
 (sR [oV 0 3,
 oV 0 4,
 mo (.build [(.int .u8 0),(.int .u8 0)] [(0,1,(.t 3)),(1,1,(.t 4))]) 5,
 mo (.bslice 2 [(.t 5)]) 6,
 mo (.build [(.int .i64 0),(.sl []),(.sl []),(.int .i64 0),(.int .i64 0)] [(0,1,(cI 1)),(1,1,(.t 6))]) 7,
 ⟨.st 5 (.t 2) (.t 7),none,none⟩]
 .ret))
theorem Wq_m {c_:UInt8}:Cn Tryz.prog 68 [byteV c_] [] (F_m c_) (fun z=>GNode.v z) (fun z=>[]):=fun Q Q' h hQ=>by
 refine acallM mc_m [.fzc 2] [] [.c 2 (some 5)] Tryz.func68 fun M=>?_
 unfold F_m at h
 unfold mc_m
 replace h:=tY h
 refine tB ?_
 repeat' (first
 | (exact tZ)
 | ((first|refine oblg h ?_|refine roomG h ?_|refine fork h ?_ ?_|refine forkS h ?_ ?_)<;>clear h<;>intro hc h)
 | (refine tE ?_;(first|rw [M.lok_compU]|rw [M.lokD_compU]);refine tB ?_)
 | (refine tA ?_)
 | fail)
def F_r (l_:List GRange) (min_:Int) (max_:Int):Option GNode :=
 some (GNode.mk 4 [] [(GNode.mk 1 l_ [] 0 0)] min_ max_)
def mc_r:MC :=
 (sR [mo (.alloc [(.int .i64 0),(.sl []),(.sl []),(.int .i64 0),(.int .i64 0)]) 6]
 (sR [oV 0 7,
 mo (.build [(.int .i64 0),(.sl []),(.sl []),(.int .i64 0),(.int .i64 0)] [(0,1,(cI 1)),(1,1,(.t 7))]) 8,
 mo (.bslice 5 [(.t 8)]) 9,
 oV 1 10,
 oV 2 11,
 mo (.build [(.int .i64 0),(.sl []),(.sl []),(.int .i64 0),(.int .i64 0)] [(0,1,(cI 4)),(2,1,(.t 9)),(3,1,(.t 10)),(4,1,(.t 11))]) 12,
 ⟨.st 5 (.t 6) (.t 12),none,none⟩]
 .ret))
theorem Wq_r {l_:List GRange} {min_ max_:Int}:Cn Tryz.prog 69 [.sl (l_.map GRange.v),.int .i64 min_,.int .i64 max_] [] (F_r l_ min_ max_) (fun z=>GNode.v z) (fun z=>[]):=fun Q Q' h hQ=>by
 refine acallM mc_r [.fzc 6] [] [.c 6 (some 5)] Tryz.func69 fun M=>?_
 unfold F_r at h
 unfold mc_r
 replace h:=tY h
 refine tB ?_
 repeat' (first
 | (exact tZ)
 | ((first|refine oblg h ?_|refine roomG h ?_|refine fork h ?_ ?_|refine forkS h ?_ ?_)<;>clear h<;>intro hc h)
 | (refine tE ?_;(first|rw [M.lok_compU]|rw [M.lokD_compU]);refine tB ?_)
 | (refine tA ?_)
 | fail)
def F_10 (l_:List GNode):Option GNode :=
 some (GNode.mk 2 [] l_ 0 0)
def mc_10:MC :=
 (sR [mo (.alloc [(.int .i64 0),(.sl []),(.sl []),(.int .i64 0),(.int .i64 0)]) 2]
 (sR [oV 0 3,
 mo (.build [(.int .i64 0),(.sl []),(.sl []),(.int .i64 0),(.int .i64 0)] [(0,1,(cI 2)),(2,1,(.t 3))]) 4,
 ⟨.st 5 (.t 2) (.t 4),none,none⟩]
 .ret))
theorem Wq_10 {l_:List GNode}:Cn Tryz.prog 67 [.sl (l_.map GNode.v)] [] (F_10 l_) (fun z=>GNode.v z) (fun z=>[]):=fun Q Q' h hQ=>by
 refine acallM mc_10 [.fzc 2] [] [.c 2 (some 5)] Tryz.func67 fun M=>?_
 unfold F_10 at h
 unfold mc_10
 replace h:=tY h
 refine tB ?_
 repeat' (first
 | (exact tZ)
 | ((first|refine oblg h ?_|refine roomG h ?_|refine fork h ?_ ?_|refine forkS h ?_ ?_)<;>clear h<;>intro hc h)
 | (refine tE ?_;(first|rw [M.lok_compU]|rw [M.lokD_compU]);refine tB ?_)
 | (refine tA ?_)
 | fail)
def F_1n:Option (List GNode) :=
 (F_m 116).bind fun y20=>(F_m 107).bind fun y21=>(F_r [(GRange.mk 48 57)] 2 4).bind fun y22=>(F_10 [y20,y21,y22]).bind fun y23=>(F_m 107).bind fun y24=>(F_m 45).bind fun y25=>(F_r [(GRange.mk 48 57),(GRange.mk 97 102)] 3 6).bind fun y26=>(F_10 [y24,y25,y26]).bind fun y27=>(F_r [(GRange.mk 48 57)] 4 4).bind fun y28=>(F_r [(GRange.mk 65 90),(GRange.mk 97 122)] 2 5).bind fun y29=>(F_m 107).bind fun y30=>(F_m 107).bind fun y31=>(F_m 101).bind fun y32=>(F_10 [y31,y32]).bind fun y33=>(F_r [(GRange.mk 48 57)] 2 2).bind fun y34=>(F_m 97).bind fun y35=>(F_r [(GRange.mk 48 57),(GRange.mk 97 102)] 0 3).bind fun y36=>(F_m 98).bind fun y37=>(F_10 [y35,y36,y37]).bind fun y38=>some [y23,y27,y28,y29,(GNode.mk 3 [] [y30,y33,y34] 0 0),y38]
def mc_1n:MC :=
 (sR [mo (.mv (.c (.sl []))) 0]
 (sR [mo (.build [(.int .u8 0),(.int .u8 0)] [(0,1,(.c (.int .u8 48))),(1,1,(.c (.int .u8 57)))]) 4,
 mo (.bslice 2 [(.t 4)]) 5,
 mo (.build [(.int .u8 0),(.int .u8 0)] [(0,1,(.c (.int .u8 48))),(1,1,(.c (.int .u8 57)))]) 6,
 mo (.build [(.int .u8 0),(.int .u8 0)] [(0,1,(.c (.int .u8 97))),(1,1,(.c (.int .u8 102)))]) 7,
 mo (.bslice 2 [(.t 6),(.t 7)]) 8,
 mo (.build [(.int .u8 0),(.int .u8 0)] [(0,1,(.c (.int .u8 65))),(1,1,(.c (.int .u8 90)))]) 9,
 mo (.build [(.int .u8 0),(.int .u8 0)] [(0,1,(.c (.int .u8 97))),(1,1,(.c (.int .u8 122)))]) 10,
 mo (.bslice 2 [(.t 9),(.t 10)]) 11,
 oV 5 1,
 oV 8 2,
 oV 11 3]
 (.seq (.note (.gc [1,2,3]) (.regI [.op (mo (.call (.f 68) [(.c (.int .u8 116))] [] []) 12),
 .op (mo (.call (.f 68) [(.c (.int .u8 107))] [] []) 13),
 .op (oV 1 14),
 .nt (.fz 14),
 .op (mo (.call (.f 69) [(.t 14),(cI 2),(cI 4)] [] []) 15),
 .op (mo (.lsl 5 [(.t 12),(.t 13),(.t 15)]) 16),
 .op (mo (.call (.f 67) [(.t 16)] [] []) 17),
 .op (mo (.call (.f 68) [(.c (.int .u8 107))] [] []) 18),
 .op (mo (.call (.f 68) [(.c (.int .u8 45))] [] []) 19),
 .op (oV 2 20),
 .nt (.fz 20),
 .op (mo (.call (.f 69) [(.t 20),(cI 3),(cI 6)] [] []) 21),
 .op (mo (.lsl 5 [(.t 18),(.t 19),(.t 21)]) 22),
 .op (mo (.call (.f 67) [(.t 22)] [] []) 23),
 .op (oV 1 24),
 .op (mo (.call (.f 69) [(.t 24),(cI 4),(cI 4)] [] []) 25),
 .op (oV 3 26),
 .nt (.fz 26),
 .op (mo (.call (.f 69) [(.t 26),(cI 2),(cI 5)] [] []) 27),
 .op (mo (.call (.f 68) [(.c (.int .u8 107))] [] []) 28),
 .op (mo (.call (.f 68) [(.c (.int .u8 107))] [] []) 29),
 .op (mo (.call (.f 68) [(.c (.int .u8 101))] [] []) 30),
 .op (mo (.lsl 5 [(.t 29),(.t 30)]) 31),
 .op (mo (.call (.f 67) [(.t 31)] [] []) 32),
 .op (oV 1 33),
 .op (mo (.call (.f 69) [(.t 33),(cI 2),(cI 2)] [] []) 34),
 .op (mo (.lsl 5 [(.t 28),(.t 32),(.t 34)]) 35),
 .op (mo (.build [(.int .i64 0),(.sl []),(.sl []),(.int .i64 0),(.int .i64 0)] [(0,1,(cI 3)),(2,1,(.t 35))]) 36),
 .op (mo (.call (.f 68) [(.c (.int .u8 97))] [] []) 37),
 .op (oV 2 38),
 .op (mo (.call (.f 69) [(.t 38),(cI 0),(cI 3)] [] []) 39),
 .op (mo (.call (.f 68) [(.c (.int .u8 98))] [] []) 40),
 .op (mo (.lsl 5 [(.t 37),(.t 39),(.t 40)]) 41),
 .op (mo (.call (.f 67) [(.t 41)] [] []) 42),
 .op (mo (.bslice 5 [(.t 17),(.t 23),(.t 25),(.t 27),(.t 36),(.t 42)]) 43),
 .op (oV 43 0)]))
 .ret)))
theorem Wq_1n:Cn Tryz.prog 38 [] [] F_1n (fun z=>.sl (z.map GNode.v)) (fun z=>[]):=fun Q Q' h hQ=>by
 refine acallM mc_1n [.fz 0] [] [.t 0] Tryz.func38 fun M=>?_
 unfold F_1n at h
 unfold mc_1n
 replace h:=tY h
 refine tB ?_
 repeat' (first
 | (exact tZ)
 | ((first|refine oblg h ?_|refine roomG h ?_|refine fork h ?_ ?_|refine forkS h ?_ ?_)<;>clear h<;>intro hc h)
 | (obtain ⟨y,hy,h⟩:=h;(first|with_reducible first|have hw:=Wq_m.w hy|have hw:=Wq_r.w hy|have hw:=Wq_10.w hy);replace hw:=tY hw;(first|refine M.sC hw ?_|refine M.sD hw ?_);clear hw hy;refine tB ?_)
 | (refine tE ?_;(first|rw [M.lok_compU]|rw [M.lokD_compU]);refine tB ?_)
 | (refine tA ?_)
 | fail)
noncomputable def F_20 (y2:List GNode) (x143:Int×(List GKind)×GTape):Option (Fl (Int×(List GKind)×GTape) ((List GKind)×GTape)) :=
 bif decide (0<x143.1) then (F_4 (x143.2.1.length:Int)).bind fun y186=>chk (strl ([107,105,110,100].length+y186.length)) ((F_1 x143.2.2 (y2.length:Int)).bind fun y187=>chk (inb y187.1 y2.length) ((F_1 y187.2 2).bind fun y188=>jn (α:=GKind×GTape) ((F_1 y188.2 8).bind fun y197=>bif decide (y197.1=0) then some ((GKind.mk (([107,105,110,100]:Str)++y186) (y2.getD (y187.1).toNat default) (decide (y188.1=1)) 1 0 [] 0),y197.2) else bif decide (y197.1=1) then (F_1 y197.2 4).bind fun y198=>chk (in64 (y198.1*65536)) (some ((GKind.mk (([107,105,110,100]:Str)++y186) (y2.getD (y187.1).toNat default) (decide (y188.1=1)) 0 (y198.1*65536) [] 0),y198.2)) else bif decide (y197.1=2) then (F_j y197.2 3 8).bind fun y199=>some ((GKind.mk (([107,105,110,100]:Str)++y186) (y2.getD (y187.1).toNat default) (decide (y188.1=1)) 0 0 [[107,101,121]] y199.1),y199.2) else bif decide (y197.1=3) then (F_1 y197.2 6).bind fun y200=>some ((GKind.mk (([107,105,110,100]:Str)++y186) (y2.getD (y187.1).toNat default) (decide (y188.1=1)) 0 0 [[97],[112,97,115,115]] y200.1),y200.2) else bif decide (y197.1=4) then (F_j y197.2 0 4).bind fun y201=>some ((GKind.mk (([107,105,110,100]:Str)++y186) (y2.getD (y187.1).toNat default) (decide (y188.1=1)) y201.1 0 [] 0),y201.2) else some ((GKind.mk (([107,105,110,100]:Str)++y186) (y2.getD (y187.1).toNat default) (decide (y188.1=1)) 0 0 [] 0),y197.2)) fun j195=>chk (room (x143.2.1.length+[j195.1].length) 144) (chk (in64 (x143.1 - 1)) (some (.nx ((x143.1 - 1),(x143.2.1++[j195.1]),j195.2)))))) else some (.ex (x143.2.1,x143.2.2))
noncomputable def F_1a (t_:GTape):Option ((List GKind)×GTape) :=
 F_1n.bind fun y2=>(F_j t_ 1 3).bind fun y88=>(loop (F_20 y2) (y88.1,[],y88.2)).bind fun r202=>some (r202.1,r202.2)
@[irreducible] def mc_3r:MC :=
 (.reg [oV 3 59,
 mo (.ld (some 11) (.t 6)) 60,
 mo (.bslice 11 [(.t 60)]) 61,
 mo (.app 11 144 (.t 59) (.t 61)) 62,
 oV 62 3])
@[irreducible] def mc_20:MC :=
 (.seq (sR [oV 5 10,
 mo (.bin false .gtr (.t 10) (cI 0)) 11]
 (.cond (.t 11)
 .skip
 (.exit 0)))
 (.seq (.block 1
 (.seq (.regD [oV 3 14,
 mo (.len false (.t 14)) 15,
 mo (.call (.f 30) [(.t 15)] [] []) 16,
 mo (.bin false .add (.c (.str [107,105,110,100])) (.t 16)) 17,
 oV 4 18,
 oV 0 19,
 oV 4 20,
 mo (.len false (.t 20)) 21,
 mo (.call (.f 17) [(.t 19),(.t 21)] [1000] []) 22,
 mo (.iad 5 (.t 18) (.t 22)) 23,
 mo (.ld (some 5) (.t 23)) 24,
 oV 0 25,
 mo (.call (.f 17) [(.t 25),(cI 2)] [1000] []) 26,
 mo (.bin false .eql (.t 26) (cI 1)) 27,
 mo (.build [(.str []),(.int .i64 0),(.sl []),(.sl []),(.int .i64 0),(.int .i64 0),(.bool false),(.int .i64 0),(.int .i64 0),(.sl []),(.int .i64 0)] [(0,1,(.t 17)),(1,5,(.t 24)),(6,1,(.t 27))]) 28,
 mo (.alloc [(.str []),(.int .i64 0),(.sl []),(.sl []),(.int .i64 0),(.int .i64 0),(.bool false),(.int .i64 0),(.int .i64 0),(.sl []),(.int .i64 0)]) 6,
 ⟨.st 11 (.t 6) (.t 28),none,none⟩]
 [[],[0],[1],[2],[],[],[],[6],[5,7,2],[4,8],[9],[],[11,8],[12],[3,10,13],[],[15,14,12,0,1,2,3,4,5,6,7,8,9,10,11,12,13,14,15]]
 [[],[0],[0,1],[0,1,2],[],[],[],[6],[0,1,2,5,6,7],[0,1,2,4,5,6,7,8],[0,1,2,4,5,6,7,8,9],[],[0,1,2,5,6,7,8,11],[0,1,2,5,6,7,8,11,12],[0,1,2,3,4,5,6,7,8,9,10,11,12,13],[],[0,1,2,3,4,5,6,7,8,9,10,11,12,13,14,15]])
 (.cut (sR [oV 0 29,
 mo (.call (.f 17) [(.t 29),(cI 8)] [1000] []) 30]
 (.block 2
 (sR [mo (.bin false .eql (.t 30) (cI 0)) 32,
 oV 32 31]
 (.cond (.t 31)
 (.reg [oF 7 6 33,
 ⟨.st 1 (.t 33) (cI 1),none,none⟩])
 (sR [mo (.bin false .eql (.t 30) (cI 1)) 35,
 oV 35 34]
 (.cond (.t 34)
 (.note (.gc [0,3,4,5,6]) (.reg [oV 0 36,
 mo (.call (.f 17) [(.t 36),(cI 4)] [1000] []) 37,
 mo (.bin true .mul (.t 37) (cI 65536)) 38,
 oF 8 6 39,
 ⟨.st 1 (.t 39) (.t 38),none,none⟩]))
 (sR [mo (.bin false .eql (.t 30) (cI 2)) 41,
 oV 41 40]
 (.cond (.t 40)
 (.note (.gc [0,3,4,5,6]) (.reg [mo (.bslice 1 [(.c (.str [107,101,121]))]) 42,
 oV 0 43,
 mo (.call (.f 11) [(.t 43),(cI 3),(cI 8)] [1000] []) 44,
 oF 9 6 45,
 ⟨.st 1 (.t 45) (.t 42),none,none⟩,
 oF 10 6 46,
 ⟨.st 1 (.t 46) (.t 44),none,none⟩]))
 (sR [mo (.bin false .eql (.t 30) (cI 3)) 48,
 oV 48 47]
 (.cond (.t 47)
 (.note (.gc [0,3,4,5,6]) (.reg [mo (.bslice 1 [(.c (.str [97])),(.c (.str [112,97,115,115]))]) 49,
 oV 0 50,
 mo (.call (.f 17) [(.t 50),(cI 6)] [1000] []) 51,
 oF 9 6 52,
 ⟨.st 1 (.t 52) (.t 49),none,none⟩,
 oF 10 6 53,
 ⟨.st 1 (.t 53) (.t 51),none,none⟩]))
 (sR [mo (.bin false .eql (.t 30) (cI 4)) 55,
 oV 55 54]
 (.cond (.t 54)
 (.note (.gc [0,3,4,5,6]) (.reg [oV 0 56,
 mo (.call (.f 11) [(.t 56),(cI 0),(cI 4)] [1000] []) 57,
 oF 7 6 58,
 ⟨.st 1 (.t 58) (.t 57),none,none⟩]))
 .skip))))))))))))
 mc_3r)))
 (.reg [oV 5 12,
 mo (.bin true .sub (.t 12) (cI 1)) 13,
 oV 13 5])))
def mc_1a:MC :=
 (sR [mo (.mv (.c (.sl []))) 2]
 (sR [mo (.mv (.c .nils)) 3]
 (sR [mo (.call (.f 38) [] [] []) 7,
 oV 7 4]
 (.seq (sR [oV 0 8,
 mo (.call (.f 11) [(.t 8),(cI 1),(cI 3)] [1000] []) 9,
 oV 9 5]
 (.block 0
 (.loop mc_20)))
 (sR [oV 3 63,
 oV 63 2]
 .ret)))))
theorem Wq_1a {t_:GTape}:Cn Tryz.prog 16 [.ptr 1000 0] [(1000,.cells [.sl (t_.L.map (V.int .i64)),.int .i64 t_.at_])] (F_1a t_) (fun z=>.sl (z.1.map GKind.v)) (fun z=>[(1000,.cells [.sl (z.2.L.map (V.int .i64)),.int .i64 z.2.at_])]):=fun Q Q' h hQ=>by
 refine acallM mc_1a [.fz 2] [1000] [.t 2] Tryz.func16 fun M=>?_
 unfold F_1a at h
 unfold mc_1a
 replace h:=tY h
 refine tB ?_
 repeat' (first
 | (exact tZ)
 | ((first|refine oblg h ?_|refine roomG h ?_|refine fork h ?_ ?_|refine forkS h ?_ ?_)<;>clear h<;>intro hc h)
 | (obtain ⟨y,hy,h⟩:=h;(first|with_reducible first|have hw:=Wq_1n.w hy|have hw:=Wq_j.w hy|have hw:=W_4 hy|have hw:=Wq_1.w hy);replace hw:=tY hw;(first|refine M.sC hw ?_|refine M.sD hw ?_);clear hw hy;refine tB ?_)
 | (refine M.jn1 (b:=mc_3r) [0,3,4,5,6] [2003] (fun y=>[]) (fun y=>[.o 6 (.cells [.str y.1.Name,.int .i64 y.1.Pattern.Op,.sl (y.1.Pattern.Ranges.map GRange.v),.sl (y.1.Pattern.Kids.map GNode.v),.int .i64 y.1.Pattern.Min,.int .i64 y.1.Pattern.Max,.bool y.1.Whole,.int .i64 y.1.Check,.int .i64 y.1.Entropy,.sl (y.1.Words.map V.str),.int .i64 y.1.Near]),.o 1000 (.cells [.sl (y.2.L.map (V.int .i64)),.int .i64 y.2.at_])]) [.fzc 6] h ?_ ?_<;>first
 | (clear h;intro Qn K hK1 h;replace h:=tY h;refine tB ?_)
  |(clear h;intro y h;unfold mc_3r;replace h:=tY h;refine tB ?_))
 | (refine M.wh1 (b:=mc_20) [0,4] [] (fun x=>[(3,.osl 2003 11 0 x.2.1.length),(5,.int .i64 x.1)]) (fun x=>[.o 2003 (.arr 11 (x.2.1.map GKind.v)),.o 1000 (.cells [.sl (x.2.2.L.map (V.int .i64)),.int .i64 x.2.2.at_])]) [.gc [0,3,4,5],.acc 3 2003 11] h ?_ ?_<;>first
 | (clear h;intro x Qn K hK2 h;unfold F_20 at h;unfold mc_20;replace h:=tY h;refine tB ?_)
  |(clear h;(try refine tB ?_);exact tU0;done))
 | ((first|refine hK1 _ ?_|refine hK2 _ ?_);(try refine tB ?_);refine ⟨_,h,?_⟩;exact tU0;done)
 | (refine tE ?_;(first|rw [M.lok_compU]|rw [M.lokD_compU]);refine tB ?_)
 | (refine tA ?_)
 | fail)
noncomputable def F_1x (x1218:Int×Int×Int×(List GSpot)×GTape):Option (Fl (Int×Int×Int×(List GSpot)×GTape) (Int×Int×(List GSpot)×GTape)) :=
 (F_j x1218.2.2.2.2 1 3).bind fun y1234=>bif decide (x1218.1<y1234.1) then (F_1 y1234.2 5).bind fun y1239=>chk (inb y1239.1 [[97],[49,58,97],[102,48],[100,111,99,115,47,120],[102,48,33,105,110]].length) ((F_1 y1239.2 9).bind fun y1240=>(F_1 y1240.2 5).bind fun y1241=>(F_1 y1241.2 9).bind fun y1242=>chk (in64 (5+y1242.1)) (chk (room (x1218.2.2.2.1.length+[(GSpot.mk (GPlace.mk x1218.1 ([[97],[49,58,97],[102,48],[100,111,99,115,47,120],[102,48,33,105,110]].getD ((y1239.1).toNat) default) y1240.1) [] y1241.1 (5+y1242.1))].length) 72) (chk (in64 (x1218.1+1)) (some (.nx ((x1218.1+1),x1218.2.1,x1218.2.2.1,(x1218.2.2.2.1++[(GSpot.mk (GPlace.mk x1218.1 ([[97],[49,58,97],[102,48],[100,111,99,115,47,120],[102,48,33,105,110]].getD ((y1239.1).toNat) default) y1240.1) [] y1241.1 (5+y1242.1))]),y1242.2)))))) else some (.ex (x1218.2.1,x1218.2.2.1,x1218.2.2.2.1,y1234.2))
noncomputable def F_21 (x881:Int×(List GFinding)×GTape):Option (Fl (Int×(List GFinding)×GTape) ((List GFinding)×GTape)) :=
 bif decide (0<x881.1) then (F_1 x881.2.2 2).bind fun y1145=>(F_1 y1145.2 2).bind fun y1146=>jn (α:=Int×Int×GTape) (bif decide (0<(x881.2.1.length:Int)) then chk (in64 ((x881.2.1.length:Int) - 1)) (chk (inb ((x881.2.1.length:Int) - 1) x881.2.1.length) ((F_1 y1146.2 2).bind fun y1151=>chk (in64 ((x881.2.1.getD ((((x881.2.1.length:Int) - 1)).toNat) default).Kind+y1151.1)) (some (((x881.2.1.getD ((((x881.2.1.length:Int) - 1)).toNat) default).Kind+y1151.1),(IntKind.wrap .u64 ((x881.2.1.getD ((((x881.2.1.length:Int) - 1)).toNat) default).Fingerprint+1)),y1151.2)))) else some (y1145.1,(IntKind.wrap .u64 ((IntKind.wrap .u64 (x881.2.1.length:Int))+(IntKind.wrap .u64 y1146.1))),y1146.2)) fun j1149=>(loop F_1x (0,j1149.1,j1149.2.1,[],j1149.2.2)).bind fun r1243=>chk (room (x881.2.1.length+[(GFinding.mk r1243.1 r1243.2.1 r1243.2.2.1)].length) 40) (chk (in64 (x881.1 - 1)) (some (.nx ((x881.1 - 1),(x881.2.1++[(GFinding.mk r1243.1 r1243.2.1 r1243.2.2.1)]),r1243.2.2.2)))) else some (.ex (x881.2.1,x881.2.2))
noncomputable def F_1b (t_:GTape):Option ((List GFinding)×GTape) :=
 (F_1 t_ 4).bind fun y530=>(loop F_21 (y530.1,[],y530.2)).bind fun r1244=>some (r1244.1,r1244.2)
@[irreducible] def mc_1x:MC :=
 (.seq (sR [oV 7 43,
 oV 0 44,
 mo (.call (.f 11) [(.t 44),(cI 1),(cI 3)] [1000] []) 45,
 mo (.bin false .lss (.t 43) (.t 45)) 46]
 (.cond (.t 46)
 .skip
 (.exit 2)))
 (.seq (.block 3
 (.regD [oF 2 5 49,
 oL 49 50,
 oV 7 51,
 mo (.bslice 1 [(.c (.str [97])),(.c (.str [49,58,97])),(.c (.str [102,48])),(.c (.str [100,111,99,115,47,120])),(.c (.str [102,48,33,105,110]))]) 52,
 oV 0 53,
 mo (.call (.f 17) [(.t 53),(cI 5)] [1000] []) 54,
 mo (.iad 1 (.t 52) (.t 54)) 55,
 oL 55 56,
 oV 0 57,
 mo (.call (.f 17) [(.t 57),(cI 9)] [1000] []) 58,
 mo (.build [(.int .i64 0),(.str []),(.int .i64 0)] [(0,1,(.t 51)),(1,1,(.t 56)),(2,1,(.t 58))]) 59,
 oV 0 60,
 mo (.call (.f 17) [(.t 60),(cI 5)] [1000] []) 61,
 oV 0 62,
 mo (.call (.f 17) [(.t 62),(cI 9)] [1000] []) 63,
 mo (.bin true .add (cI 5) (.t 63)) 64,
 mo (.build [(.int .i64 0),(.str []),(.int .i64 0),(.sl []),(.int .i64 0),(.int .i64 0)] [(0,3,(.t 59)),(4,1,(.t 61)),(5,1,(.t 64))]) 65,
 mo (.bslice 6 [(.t 65)]) 66,
 mo (.app 6 72 (.t 50) (.t 66)) 67,
 oF 2 5 68,
 ⟨.st 1 (.t 68) (.t 67),none,none⟩]
 [[],[0],[],[],[],[4],[3,5],[6],[],[8,5],[2,7,9],[],[11,9],[],[13,12],[14],[10,12,15],[16],[1,17,14],[0,1,2,3,4,5,6,7,8,9,10,11,12,13,14,15,16,17,18],[19,18,18,0,1,2,3,4,5,6,7,8,9,10,11,12,13,14,15,16,17,18]]
 [[],[0],[],[],[],[4],[3,4,5],[3,4,5,6],[],[4,5,8],[2,3,4,5,6,7,8,9],[],[4,5,8,9,11],[],[4,5,8,9,11,12,13],[4,5,8,9,11,12,13,14],[2,3,4,5,6,7,8,9,10,11,12,13,14,15],[2,3,4,5,6,7,8,9,10,11,12,13,14,15,16],[0,1,2,3,4,5,6,7,8,9,10,11,12,13,14,15,16,17],[0,1,2,3,4,5,6,7,8,9,10,11,12,13,14,15,16,17,18],[0,1,2,3,4,5,6,7,8,9,10,11,12,13,14,15,16,17,18,19]]))
 (.note (.gc [0,3,4,5,7]) (.reg [oV 7 47,
 mo (.bin true .add (.t 47) (cI 1)) 48,
 oV 48 7]))))
@[irreducible] def mc_3s:MC :=
 (.seq (sR [oC 0 7]
 (.block 2
 (.loop mc_1x)))
 (.regI [.op (oV 3 69),
 .op (mo (.ld (some 3) (.t 5)) 70),
 .nt (.fz 70),
 .op (mo (.bslice 3 [(.t 70)]) 71),
 .op (mo (.app 3 40 (.t 69) (.t 71)) 72),
 .op (oV 72 3)]))
@[irreducible] def mc_21:MC :=
 (.seq (sR [oV 4 10,
 mo (.bin false .gtr (.t 10) (cI 0)) 11]
 (.cond (.t 11)
 .skip
 (.exit 0)))
 (.seq (.block 1
 (sR [oV 0 14,
 mo (.call (.f 17) [(.t 14),(cI 2)] [1000] []) 15,
 oV 3 16,
 mo (.len false (.t 16)) 17,
 mo (.i2i false .u64 (.t 17)) 18,
 oV 0 19,
 mo (.call (.f 17) [(.t 19),(cI 2)] [1000] []) 20,
 mo (.i2i false .u64 (.t 20)) 21,
 mo (.bin false .add (.t 18) (.t 21)) 22,
 mo (.build [(.int .i64 0),(.int .u64 0),.nils] [(0,1,(.t 15)),(1,1,(.t 22))]) 23,
 mo (.alloc [(.int .i64 0),(.int .u64 0),(.sl [])]) 5,
 ⟨.st 3 (.t 5) (.t 23),none,none⟩]
 (.cut (.seq (.note (.gc [0,3,4,5]) (.reg [oV 3 24,
 mo (.len false (.t 24)) 25,
 mo (.bin false .gtr (.t 25) (cI 0)) 26]))
 (.cond (.t 26)
 (sR [oV 3 27,
 oV 3 28,
 mo (.len false (.t 28)) 29,
 mo (.bin true .sub (.t 29) (cI 1)) 30,
 mo (.iad 3 (.t 27) (.t 30)) 31,
 mo (.ld (some 3) (.t 31)) 32,
 mo (.alloc [(.int .i64 0),(.int .u64 0),(.sl [])]) 6,
 ⟨.st 3 (.t 6) (.t 32),none,none⟩]
 (.seq (.note (.gc [0,3,4,5,6]) (.regD [oF 0 6 33,
 oL 33 34,
 oV 0 35,
 mo (.call (.f 17) [(.t 35),(cI 2)] [1000] []) 36,
 mo (.bin true .add (.t 34) (.t 36)) 37,
 oF 0 5 38,
 ⟨.st 1 (.t 38) (.t 37),none,none⟩]
 [[],[0],[],[2],[1,3],[0,1,2,3,4],[5,4,3,0,1,2,3,4]]
 [[],[0],[],[2],[0,1,2,3],[0,1,2,3,4],[0,1,2,3,4,5]]))
 (.reg [oF 1 6 39,
 oL 39 40,
 mo (.bin false .add (.t 40) (.c (.int .u64 1))) 41,
 oF 1 5 42,
 ⟨.st 1 (.t 42) (.t 41),none,none⟩])))
 .skip))
 mc_3s)))
 (.reg [oV 4 12,
 mo (.bin true .sub (.t 12) (cI 1)) 13,
 oV 13 4])))
def mc_1b:MC :=
 (sR [mo (.mv (.c (.sl []))) 2]
 (sR [mo (.mv (.c .nils)) 3]
 (.seq (sR [oV 0 8,
 mo (.call (.f 17) [(.t 8),(cI 4)] [1000] []) 9,
 oV 9 4]
 (.block 0
 (.loop mc_21)))
 (sR [oV 3 73,
 oV 73 2]
 .ret))))
theorem Wq_1b {t_:GTape}:Cn Tryz.prog 18 [.ptr 1000 0] [(1000,.cells [.sl (t_.L.map (V.int .i64)),.int .i64 t_.at_])] (F_1b t_) (fun z=>.sl (z.1.map GFinding.v)) (fun z=>[(1000,.cells [.sl (z.2.L.map (V.int .i64)),.int .i64 z.2.at_])]):=fun Q Q' h hQ=>by
 refine acallM mc_1b [.fz 2] [1000] [.t 2] Tryz.func18 fun M=>?_
 unfold F_1b at h
 unfold mc_1b
 replace h:=tY h
 refine tB ?_
 repeat' (first
 | (exact tZ)
 | ((first|refine oblg h ?_|refine roomG h ?_|refine inbG h ?_|refine fork h ?_ ?_|refine forkS h ?_ ?_)<;>clear h<;>intro hc h)
 | (obtain ⟨y,hy,h⟩:=h;(first|with_reducible first|have hw:=Wq_1.w hy|have hw:=Wq_j.w hy);replace hw:=tY hw;(first|refine M.sC hw ?_|refine M.sD hw ?_);clear hw hy;refine tB ?_)
 | (refine M.wh1 (b:=mc_1x) [0,3,4,5] [2003] (fun x=>[(7,.int .i64 x.1)]) (fun x=>[.o 5 (.cells [.int .i64 x.2.1,.int .u64 x.2.2.1,.osl 4082 6 0 x.2.2.2.1.length]),.o 4082 (.arr 6 (x.2.2.2.1.map GSpot.v)),.o 1000 (.cells [.sl (x.2.2.2.2.L.map (V.int .i64)),.int .i64 x.2.2.2.2.at_])]) [.gc [0,3,4,5,7],.ownC 5 2 4082 6 none] h ?_ ?_<;>first
 | (clear h;intro x Qn K hK1 h;unfold F_1x at h;unfold mc_1x;replace h:=tY h;refine tB ?_)
  |(clear h;(try refine tB ?_);exact tU0;done))
 | (refine M.jn1 (b:=mc_3s) [0,3,4,5] [5,2003] (fun y=>[]) (fun y=>[.p 5 0 [.int .i64 y.1],.p 5 1 [.int .u64 y.2.1],.o 1000 (.cells [.sl (y.2.2.L.map (V.int .i64)),.int .i64 y.2.2.at_])]) [] h ?_ ?_<;>first
 | (clear h;intro Qn K hK2 h;replace h:=tY h;refine tB ?_)
  |(clear h;intro y h;unfold mc_3s;replace h:=tY h;refine tB ?_))
 | (refine M.wh1 (b:=mc_21) [0] [] (fun x=>[(3,.osl 2003 3 0 x.2.1.length),(4,.int .i64 x.1)]) (fun x=>[.o 2003 (.arr 3 (x.2.1.map GFinding.v)),.o 1000 (.cells [.sl (x.2.2.L.map (V.int .i64)),.int .i64 x.2.2.at_])]) [.gc [0,3,4],.acc 3 2003 3] h ?_ ?_<;>first
 | (clear h;intro x Qn K hK3 h;unfold F_21 at h;unfold mc_21;replace h:=tY h;refine tB ?_)
  |(clear h;(try refine tB ?_);exact tU0;done))
 | ((first|refine hK1 _ ?_|refine hK2 _ ?_|refine hK3 _ ?_);(try refine tB ?_);refine ⟨_,h,?_⟩;exact tU0;done)
 | (refine tE4 V.str ?_;(first|rw [M.lok_compU]|rw [M.lokD_compU]|(simp only [V.cells];first|rw [M.lok_comp]|rw [M.lokD_comp]));refine tB ?_)
 | (refine tE ?_;(first|rw [M.lok_compU]|rw [M.lokD_compU]);refine tB ?_)
 | (refine tA ?_)
 | fail)
def F_1c (a_:GFinding) (b_:GFinding):Option Int :=
 grp ((decide (a_.Kind<b_.Kind)||(decide (a_.Kind=b_.Kind)&&decide (a_.Fingerprint<b_.Fingerprint)))) fun b6=>bif b6 then some (-1) else grp ((decide (b_.Kind<a_.Kind)||decide (b_.Fingerprint<a_.Fingerprint))) fun b8=>bif b8 then some 1 else some 0
@[irreducible] def mg_3t:List MOp:=[gF 11 12 (.fad 0 (.t 2)),
 gF 11 13 (.ld none (.t 12)),
 gF 11 14 (.fad 0 (.t 3)),
 gF 11 15 (.ld none (.t 14)),
 gF 11 16 (.bin false .eql (.t 13) (.t 15)),
 gF 11 17 (.mv (.t 16)),
 gT 17 18 (.fad 1 (.t 2)),
 gT 17 19 (.ld none (.t 18)),
 gT 17 20 (.fad 1 (.t 3)),
 gT 17 21 (.ld none (.t 20)),
 gT 17 22 (.bin false .lss (.t 19) (.t 21)),
 gF 11 23 (.pick (.t 17) (.t 22) (.c (.bool false))),
 mo (.pick (.t 11) (.c (.bool true)) (.t 23)) 24]
@[irreducible] def mg_3u:List MOp:=[gF 31 32 (.fad 1 (.t 2)),
 gF 31 33 (.ld none (.t 32)),
 gF 31 34 (.fad 1 (.t 3)),
 gF 31 35 (.ld none (.t 34)),
 gF 31 36 (.bin false .gtr (.t 33) (.t 35)),
 mo (.pick (.t 31) (.c (.bool true)) (.t 36)) 37]
def mc_1c:MC :=
 (sR [mo (.box (.t 0)) 2,
 mo (.box (.t 1)) 3,
 oC 0 4]
 (.seq (.block 0
 (.seq (.regI [.op (oF 0 2 6),
 .op (oL 6 7),
 .op (oF 0 3 8),
 .op (oL 8 9),
 .op (mo (.bin false .lss (.t 7) (.t 9)) 10),
 .op (oV 10 11),
 .grp mg_3t,
 .op (oV 24 5)])
 (.cond (.t 5)
 (sR [oC (-1) 4]
 .ret)
 (.seq (.note (.gc [2,3,32,33,34,35,36]) (.regI [.op (oF 0 2 26),
 .op (oL 26 27),
 .op (oF 0 3 28),
 .op (oL 28 29),
 .op (mo (.bin false .gtr (.t 27) (.t 29)) 30),
 .op (oV 30 31),
 .grp mg_3u,
 .op (oV 37 25)]))
 (.cond (.t 25)
 (sR [oC 1 4]
 .ret)
 .skip)))))
 (sR [oC 0 4]
 .ret)))
theorem Wq_1c {a_ b_:GFinding}:Cn Tryz.prog 43 [GFinding.v a_,GFinding.v b_] [] (F_1c a_ b_) (fun z=>.int .i64 z) (fun z=>[]):=fun Q Q' h hQ=>by
 refine acallM mc_1c [] [] [.t 4] Tryz.func43 fun M=>?_
 unfold F_1c at h
 unfold mc_1c
 replace h:=tY h
 refine tB ?_
 repeat' (first
 | (exact tZ)
 | ((first|refine oblg h ?_|refine roomG h ?_|refine fork h ?_ ?_|refine forkS h ?_ ?_)<;>clear h<;>intro hc h)
 | (refine M.gv1 (ms:=mg_3u) 37 [32,33,34,35,36] h ?_ ?_<;>first
 | (clear h;intro K hK1;unfold mg_3u;refine tB ?_)
 | (clear h;intro b h;replace h:=tY h;refine tB ?_))
 | (refine M.gv1 (ms:=mg_3t) 24 [12,13,14,15,16,17,18,19,20,21,22,23] h ?_ ?_<;>first
 | (clear h;intro K hK2;unfold mg_3t;refine tB ?_)
 | (clear h;intro b h;replace h:=tY h;refine tB ?_))
 | ((first|refine hK1 _ ?_|refine hK2 _ ?_);exact tU;done)
 | (refine bfork (fun hc=>?_) (fun hc=>?_))
 | (refine tE ?_;(first|rw [M.lok_compU]|rw [M.lokD_compU]);refine tB ?_)
 | (refine tA ?_)
 | fail)
noncomputable def F_27 (a_:List GLayer) (b_:List GLayer) (x89:Int) (x118:Int):Option (Fl Int (Sum Unit Int)) :=
 bif decide (x118<3) then chk (inb x118 [(a_.getD (x89).toNat default).From,(a_.getD (x89).toNat default).Coding,(a_.getD (x89).toNat default).To].length) (chk (inb x118 [(b_.getD (x89).toNat default).From,(b_.getD (x89).toNat default).Coding,(b_.getD (x89).toNat default).To].length) (bif (!decide ([(a_.getD (x89).toNat default).From,(a_.getD (x89).toNat default).Coding,(a_.getD (x89).toNat default).To].getD ((x118).toNat) default=[(b_.getD (x89).toNat default).From,(b_.getD (x89).toNat default).Coding,(b_.getD (x89).toNat default).To].getD ((x118).toNat) default)) then chk (inb x118 [(a_.getD (x89).toNat default).From,(a_.getD (x89).toNat default).Coding,(a_.getD (x89).toNat default).To].length) (chk (inb x118 [(b_.getD (x89).toNat default).From,(b_.getD (x89).toNat default).Coding,(b_.getD (x89).toNat default).To].length) (bif decide ([(a_.getD (x89).toNat default).From,(a_.getD (x89).toNat default).Coding,(a_.getD (x89).toNat default).To].getD ((x118).toNat) default<[(b_.getD (x89).toNat default).From,(b_.getD (x89).toNat default).Coding,(b_.getD (x89).toNat default).To].getD ((x118).toNat) default) then some (.ex (.inr (-1))) else some (.ex (.inr 1)))) else chk (in64 (x118+1)) (some (.nx (x118+1))))) else some (.ex (.inl ()))
noncomputable def F_22 (a_:List GLayer) (b_:List GLayer) (x89:Int):Option (Fl Int (Sum Unit Int)) :=
 grp ((decide (x89<(a_.length:Int))&&decide (x89<(b_.length:Int)))) fun b109=>bif b109 then chk (inb x89 a_.length) (chk (inb x89 a_.length) (chk (inb x89 a_.length) (chk (inb x89 b_.length) (chk (inb x89 b_.length) (chk (inb x89 b_.length) ((loop (F_27 a_ b_ x89) 0).bind fun r119=>Sum.elim (fun u120=>chk (in64 (x89+1)) (some (.nx (x89+1)))) (fun u121=>some (.ex (.inr u121))) r119)))))) else some (.ex (.inl ()))
noncomputable def F_1d (a_:List GLayer) (b_:List GLayer):Option Int :=
 (loop (F_22 a_ b_) 0).bind fun r122=>Sum.elim (fun u123=>bif decide ((a_.length:Int)<(b_.length:Int)) then some (-1) else bif decide ((b_.length:Int)<(a_.length:Int)) then some 1 else some 0) (fun u124=>some u124) r122
@[irreducible] def mg_3v:List MOp:=[gT 13 14 (.mv (.t 5)),
 gT 13 15 (.mv (.t 1)),
 gT 13 16 (.len false (.t 15)),
 gT 13 17 (.bin false .lss (.t 14) (.t 16)),
 mo (.pick (.t 13) (.t 17) (.c (.bool false))) 18]
@[irreducible] def mc_27:MC :=
 (.seq (sR [oV 8 53,
 mo (.bin false .lss (.t 53) (cI 3)) 54]
 (.cond (.t 54)
 .skip
 (.exit 2)))
 (.seq (.block 3
 (.seq (.regD [oV 6 57,
 oV 8 58,
 mo (.iad 1 (.t 57) (.t 58)) 59,
 oL 59 60,
 oV 7 61,
 oV 8 62,
 mo (.iad 1 (.t 61) (.t 62)) 63,
 oL 63 64,
 mo (.bin false .neq (.t 60) (.t 64)) 65]
 [[],[],[0,1],[2],[],[],[4,5],[6],[3,7]]
 [[],[],[0,1],[0,1,2],[],[],[4,5],[4,5,6],[0,1,2,3,4,5,6,7]])
 (.cond (.t 65)
 (.seq (.seq (.note (.gc [6,7,8]) (.regD [oV 6 66,
 oV 8 67,
 mo (.iad 1 (.t 66) (.t 67)) 68,
 oL 68 69,
 oV 7 70,
 oV 8 71,
 mo (.iad 1 (.t 70) (.t 71)) 72,
 oL 72 73,
 mo (.bin false .lss (.t 69) (.t 73)) 74]
 [[],[],[0,1],[2],[],[],[4,5],[6],[3,7]]
 [[],[],[0,1],[0,1,2],[],[],[4,5],[4,5,6],[0,1,2,3,4,5,6,7]]))
 (.cond (.t 74)
 (sR [oC (-1) 4]
 .ret)
 .skip))
 (sR [oC 1 4]
 .ret))
 .skip)))
 (.note (.gc [0,1,5,6,7,8,14,15,16,17]) (.reg [oV 8 55,
 mo (.bin true .add (.t 55) (cI 1)) 56,
 oV 56 8]))))
@[irreducible] def mc_22:MC :=
 (.seq (.seq (.regI [.op (oV 5 9),
 .op (oV 0 10),
 .op (mo (.len false (.t 10)) 11),
 .op (mo (.bin false .lss (.t 9) (.t 11)) 12),
 .op (oV 12 13),
 .grp mg_3v])
 (.cond (.t 18)
 .skip
 (.exit 0)))
 (.seq (.block 1
 (.seq (.regD [oV 0 21,
 oV 5 22,
 mo (.iad 3 (.t 21) (.t 22)) 23,
 oF 1 23 24,
 oL 24 25,
 oV 0 26,
 oV 5 27,
 mo (.iad 3 (.t 26) (.t 27)) 28,
 oF 0 28 29,
 oL 29 30,
 oV 0 31,
 oV 5 32,
 mo (.iad 3 (.t 31) (.t 32)) 33,
 oF 2 33 34,
 oL 34 35,
 mo (.bslice 1 [(.t 25),(.t 30),(.t 35)]) 36,
 oV 1 37,
 oV 5 38,
 mo (.iad 3 (.t 37) (.t 38)) 39,
 oF 1 39 40,
 oL 40 41,
 oV 1 42,
 oV 5 43,
 mo (.iad 3 (.t 42) (.t 43)) 44,
 oF 0 44 45,
 oL 45 46,
 oV 1 47,
 oV 5 48,
 mo (.iad 3 (.t 47) (.t 48)) 49,
 oF 2 49 50,
 oL 50 51,
 mo (.bslice 1 [(.t 41),(.t 46),(.t 51)]) 52,
 oV 36 6,
 oV 52 7]
 [[],[],[0,1],[2],[3],[],[],[5,6],[7],[8],[],[],[10,11],[12],[13],[4,9,14],[],[],[16,17],[18],[19],[],[],[21,22],[23],[24],[],[],[26,27],[28],[29],[20,25,30],[15,0,1,2,3,4,5,6,7,8,9,10,11,12,13,14,15],[31,32,0,1,2,3,4,5,6,7,8,9,10,11,12,13,14,15,16,17,18,19,20,21,22,23,24,25,26,27,28,29,30,31,32]]
 [[],[],[0,1],[0,1,2],[0,1,2,3],[],[],[5,6],[5,6,7],[5,6,7,8],[],[],[10,11],[10,11,12],[10,11,12,13],[0,1,2,3,4,5,6,7,8,9,10,11,12,13,14],[],[],[16,17],[16,17,18],[16,17,18,19],[],[],[21,22],[21,22,23],[21,22,23,24],[],[],[26,27],[26,27,28],[26,27,28,29],[16,17,18,19,20,21,22,23,24,25,26,27,28,29,30],[0,1,2,3,4,5,6,7,8,9,10,11,12,13,14,15],[0,1,2,3,4,5,6,7,8,9,10,11,12,13,14,15,16,17,18,19,20,21,22,23,24,25,26,27,28,29,30,31,32]])
 (sR [oC 0 8]
 (.block 2
 (.loop mc_27)))))
 (.reg [oV 5 19,
 mo (.bin true .add (.t 19) (cI 1)) 20,
 oV 20 5])))
def mc_1d:MC :=
 (sR [oC 0 4]
 (.seq (sR [oC 0 5]
 (.block 0
 (.loop mc_22)))
 (.seq (.block 4
 (sR [oV 0 76,
 mo (.len false (.t 76)) 77,
 oV 1 78,
 mo (.len false (.t 78)) 79,
 mo (.bin false .lss (.t 77) (.t 79)) 80,
 oV 80 75]
 (.cond (.t 75)
 (sR [oC (-1) 4]
 .ret)
 (sR [oV 0 82,
 mo (.len false (.t 82)) 83,
 oV 1 84,
 mo (.len false (.t 84)) 85,
 mo (.bin false .gtr (.t 83) (.t 85)) 86,
 oV 86 81]
 (.cond (.t 81)
 (sR [oC 1 4]
 .ret)
 .skip)))))
 (sR [oC 0 4]
 .ret))))
theorem Wq_1d {a_ b_:List GLayer}:Cn Tryz.prog 82 [.sl (a_.map GLayer.v),.sl (b_.map GLayer.v)] [] (F_1d a_ b_) (fun z=>.int .i64 z) (fun z=>[]):=fun Q Q' h hQ=>by
 refine acallM mc_1d [] [] [.t 4] Tryz.func82 fun M=>?_
 unfold F_1d at h
 unfold mc_1d
 replace h:=tY h
 refine tB ?_
 repeat' (first
 | (exact tZ)
 | ((first|refine oblg h ?_|refine roomG h ?_|refine inbG h ?_|refine fork h ?_ ?_|refine forkS h ?_ ?_)<;>clear h<;>intro hc h)
 | (refine M.wh1 (b:=mc_27) [0,1,5,6,7] [52,36] (fun x=>[(8,.int .i64 x)]) (fun x=>[]) [] h ?_ ?_<;>first
 | (clear h;intro x Qn K hK1 h;unfold F_27 at h;unfold mc_27;replace h:=tY h;refine tB ?_)
  |(clear h;(try refine tB ?_);exact tU0;done))
 | (refine M.gv1 (ms:=mg_3v) 18 [14,15,16,17] h ?_ ?_<;>first
 | (clear h;intro K hK2;unfold mg_3v;refine tB ?_)
 | (clear h;intro b h;replace h:=tY h;refine tB ?_))
 | (refine M.wh1 (b:=mc_22) [0,1] [] (fun x=>[(5,.int .i64 x)]) (fun x=>[]) [] h ?_ ?_<;>first
 | (clear h;intro x Qn K hK3 h;unfold F_22 at h;unfold mc_22;replace h:=tY h;refine tB ?_)
  |(clear h;(try refine tB ?_);exact tU0;done))
 | ((first|refine hK1 _ ?_|refine hK3 _ ?_);(try refine tB ?_);refine ⟨_,h,?_⟩;exact tU0;done)
 | (refine hK2 _ ?_;exact tU;done)
 | (refine bfork (fun hc=>?_) (fun hc=>?_))
 | (refine tE4 (V.int .i64) ?_;(first|rw [M.lok_compU]|rw [M.lokD_compU]|(simp only [V.cells];first|rw [M.lok_comp]|rw [M.lokD_comp]));refine tB ?_)
 | (refine tE ?_;(first|rw [M.lok_compU]|rw [M.lokD_compU]);refine tB ?_)
 | (refine tA ?_)
 | fail)
noncomputable def F_1o (a_:GSpot) (b_:GSpot) (j1:List Int) (y3:Int) (x12:Int):Option (Fl Int (Sum Unit Int)) :=
 bif decide (x12<((j1++[y3,a_.From,a_.To]).length:Int)) then chk (inb x12 (j1++[y3,a_.From,a_.To]).length) (chk (inb x12 ([b_.Place.Source,0,b_.Place.Time]++[0,b_.From,b_.To]).length) (bif (!decide ((j1++[y3,a_.From,a_.To]).getD ((x12).toNat) default=([b_.Place.Source,0,b_.Place.Time]++[0,b_.From,b_.To]).getD ((x12).toNat) default)) then chk (inb x12 (j1++[y3,a_.From,a_.To]).length) (chk (inb x12 ([b_.Place.Source,0,b_.Place.Time]++[0,b_.From,b_.To]).length) (bif decide ((j1++[y3,a_.From,a_.To]).getD ((x12).toNat) default<([b_.Place.Source,0,b_.Place.Time]++[0,b_.From,b_.To]).getD ((x12).toNat) default) then some (.ex (.inr (-1))) else some (.ex (.inr 1)))) else chk (in64 (x12+1)) (some (.nx (x12+1))))) else some (.ex (.inl ()))
noncomputable def F_1e (a_:GSpot) (b_:GSpot):Option Int :=
 jn (α:=List Int) (bif (Op.bytesLess a_.Place.Path b_.Place.Path) then chk (inb 1 [a_.Place.Source,0,a_.Place.Time].length) (some ([a_.Place.Source,0,a_.Place.Time].set 1 (-1))) else bif (!(Op.bytesLess a_.Place.Path b_.Place.Path||decide (a_.Place.Path=b_.Place.Path))) then chk (inb 1 [a_.Place.Source,0,a_.Place.Time].length) (some ([a_.Place.Source,0,a_.Place.Time].set 1 1)) else some [a_.Place.Source,0,a_.Place.Time]) fun j1=>(F_1d a_.Layers b_.Layers).bind fun y3=>chk (room (j1.length+[y3,a_.From,a_.To].length) 8) (chk (room ([b_.Place.Source,0,b_.Place.Time].length+[0,b_.From,b_.To].length) 8) ((loop (F_1o a_ b_ j1 y3) 0).bind fun r13=>Sum.elim (fun u14=>some 0) (fun u15=>some u15) r13))
@[irreducible] def mc_1o:MC :=
 (.seq (sR [oV 7 61,
 oV 5 62,
 mo (.len false (.t 62)) 63,
 mo (.bin false .lss (.t 61) (.t 63)) 64]
 (.cond (.t 64)
 .skip
 (.exit 1)))
 (.seq (.block 2
 (.seq (.regD [oV 5 67,
 oV 7 68,
 mo (.iad 1 (.t 67) (.t 68)) 69,
 oL 69 70,
 oV 6 71,
 oV 7 72,
 mo (.iad 1 (.t 71) (.t 72)) 73,
 oL 73 74,
 mo (.bin false .neq (.t 70) (.t 74)) 75]
 [[],[],[0,1],[2],[],[],[4,5],[6],[3,7]]
 [[],[],[0,1],[0,1,2],[],[],[4,5],[4,5,6],[0,1,2,3,4,5,6,7]])
 (.cond (.t 75)
 (.seq (.seq (.note (.gc [5,6,7]) (.regD [oV 5 76,
 oV 7 77,
 mo (.iad 1 (.t 76) (.t 77)) 78,
 oL 78 79,
 oV 6 80,
 oV 7 81,
 mo (.iad 1 (.t 80) (.t 81)) 82,
 oL 82 83,
 mo (.bin false .lss (.t 79) (.t 83)) 84]
 [[],[],[0,1],[2],[],[],[4,5],[6],[3,7]]
 [[],[],[0,1],[0,1,2],[],[],[4,5],[4,5,6],[0,1,2,3,4,5,6,7]]))
 (.cond (.t 84)
 (sR [oC (-1) 4]
 .ret)
 .skip))
 (sR [oC 1 4]
 .ret))
 .skip)))
 (.note (.gc [5,6,7]) (.reg [oV 7 65,
 mo (.bin true .add (.t 65) (cI 1)) 66,
 oV 66 7]))))
@[irreducible] def mc_3w:MC :=
 (.seq (.regD [oV 5 42,
 oF 3 2 43,
 oL 43 44,
 oF 3 3 45,
 oL 45 46,
 mo (.call (.f 82) [(.t 44),(.t 46)] [] []) 47,
 oF 4 2 48,
 oL 48 49,
 oF 5 2 50,
 oL 50 51,
 mo (.bslice 1 [(.t 47),(.t 49),(.t 51)]) 52,
 mo (.app 1 8 (.t 42) (.t 52)) 53,
 oV 53 5]
 [[],[],[1],[],[3],[2,4],[],[6],[],[8],[5,7,9],[0,10,5],[11,11,0,1,2,3,4,5,6,7,8,9,10,11]]
 [[],[],[1],[],[3],[1,2,3,4],[],[6],[],[8],[1,2,3,4,5,6,7,8,9],[0,1,2,3,4,5,6,7,8,9,10],[0,1,2,3,4,5,6,7,8,9,10,11]])
 (.seq (.note (.gc [3,5,6]) (.reg [oV 6 54,
 oF 4 3 55,
 oL 55 56,
 oF 5 3 57,
 oL 57 58,
 mo (.bslice 1 [(cI 0),(.t 56),(.t 58)]) 59,
 mo (.app 1 8 (.t 54) (.t 59)) 60,
 oV 60 6]))
 (.seq (sR [oC 0 7]
 (.block 1
 (.loop mc_1o)))
 (sR [oC 0 4]
 .ret))))
def mc_1e:MC :=
 (sR [mo (.box (.t 0)) 2,
 mo (.box (.t 1)) 3,
 oC 0 4]
 (.seq (.regD [oF 0 2 8,
 oF 0 8 9,
 oL 9 10,
 oF 0 2 11,
 oF 2 11 12,
 oL 12 13,
 mo (.bslice 1 [(.t 10),(cI 0),(.t 13)]) 14,
 oF 0 3 15,
 oF 0 15 16,
 oL 16 17,
 oF 0 3 18,
 oF 2 18 19,
 oL 19 20,
 mo (.bslice 1 [(.t 17),(cI 0),(.t 20)]) 21,
 oV 14 5,
 oV 21 6]
 [[],[0],[1],[],[3],[4],[2,5],[],[7],[8],[],[10],[11],[9,12],[6,0,1,2,3,4,5,6],[13,14,0,1,2,3,4,5,6,7,8,9,10,11,12,13,14]]
 [[],[0],[0,1],[],[3],[3,4],[0,1,2,3,4,5],[],[7],[7,8],[],[10],[10,11],[7,8,9,10,11,12],[0,1,2,3,4,5,6],[0,1,2,3,4,5,6,7,8,9,10,11,12,13,14]])
 (.cut (.block 0
 (.seq (.note (.gc [2,3,5,6]) (.reg [oF 0 2 23,
 oF 1 23 24,
 oL 24 25,
 oF 0 3 26,
 oF 1 26 27,
 oL 27 28,
 mo (.bin false .lss (.t 25) (.t 28)) 29,
 oV 29 22]))
 (.cond (.t 22)
 (.note (.gc [2,3,5,6]) (.reg [oV 5 30,
 mo (.iad 1 (.t 30) (cI 1)) 31,
 ⟨.st 1 (.t 31) (cI (-1)),none,none⟩]))
 (.seq (.note (.gc [2,3,5,6]) (.reg [oF 0 2 33,
 oF 1 33 34,
 oL 34 35,
 oF 0 3 36,
 oF 1 36 37,
 oL 37 38,
 mo (.bin false .gtr (.t 35) (.t 38)) 39,
 oV 39 32]))
 (.cond (.t 32)
 (.note (.gc [2,3,5,6]) (.reg [oV 5 40,
 mo (.iad 1 (.t 40) (cI 1)) 41,
 ⟨.st 1 (.t 41) (cI 1),none,none⟩]))
 .skip)))))
 mc_3w)))
theorem Wq_1e {a_ b_:GSpot}:Cn Tryz.prog 44 [GSpot.v a_,GSpot.v b_] [] (F_1e a_ b_) (fun z=>.int .i64 z) (fun z=>[]):=fun Q Q' h hQ=>by
 refine acallM mc_1e [] [] [.t 4] Tryz.func44 fun M=>?_
 unfold F_1e at h
 unfold mc_1e
 replace h:=tY h
 refine tB ?_
 repeat' (first
 | (exact tZ)
 | ((first|refine oblg h ?_|refine roomG h ?_|refine inbG h ?_|refine appG h ?_|refine appC h ?_|refine fork h ?_ ?_|refine forkS h ?_ ?_)<;>clear h<;>intro hc h)
 | (obtain ⟨y,hy,h⟩:=h;have hw:=Wq_1d.w hy;replace hw:=tY hw;(first|refine M.sC hw ?_|refine M.sD hw ?_);clear hw hy;refine tB ?_)
 | (refine M.wh1 (b:=mc_1o) [5,6] [60,53] (fun x=>[(7,.int .i64 x)]) (fun x=>[]) [] h ?_ ?_<;>first
 | (clear h;intro x Qn K hK1 h;unfold F_1o at h;unfold mc_1o;replace h:=tY h;refine tB ?_)
  |(clear h;(try refine tB ?_);exact tU0;done))
 | (refine M.jn1 (b:=mc_3w) [2,3,6] [21,3,2] (fun y=>[(5,.osl 14 1 0 y.length)]) (fun y=>[.o 14 (.arr 1 (y.map (V.int .i64)))]) [] h ?_ ?_<;>first
 | (clear h;intro Qn K hK2 h;replace h:=tY h;refine tB ?_)
  |(clear h;intro y h;unfold mc_3w;replace h:=tY h;refine tB ?_))
 | ((first|refine hK1 _ ?_|refine hK2 _ ?_);(try refine tB ?_);refine ⟨_,h,?_⟩;exact tU0;done)
 | (refine tE4 (V.int .i64) ?_ (by repeat (first|exact IsMap.nil|apply IsMap.cons|apply IsMap.app)) (by simp only [List.length_append,List.length_cons,List.length_nil,Nat.zero_add,Nat.reduceAdd];exact inb_toNat (by assumption));(first|rw [M.lok_compU]|rw [M.lokD_compU]|(simp only [V.cells];first|rw [M.lok_comp]|rw [M.lokD_comp]));refine tB ?_)
 | (refine tE ?_;(first|rw [M.lok_compU]|rw [M.lokD_compU]);refine tB ?_)
 | (refine ⟨_,getE_mapset (by first|exact inb_toNat (by assumption)|exact inb_nat (by assumption)),?_⟩;(first|rw [M.lok_compU]|rw [M.lokD_compU]|(simp only [V.cells];first|rw [M.lok_comp]|rw [M.lokD_comp]));refine tB ?_)
 | (refine tA ?_)
 | fail)
noncomputable def F_23 (l_:List GFinding) (x229:Int) (x311:Int):Option (Fl Int (Sum Unit Bool)) :=
 chk (inb x229 l_.length) (bif decide (x311<(((l_.getD (x229).toNat default).Where).length:Int)) then chk (inb x229 l_.length) (chk (in64 (x311 - 1)) (chk (inb (x311 - 1) ((l_.getD (x229).toNat default).Where).length) (chk (inb x229 l_.length) (chk (inb x311 ((l_.getD (x229).toNat default).Where).length) ((F_1e (((l_.getD (x229).toNat default).Where).getD ((x311 - 1)).toNat default) (((l_.getD (x229).toNat default).Where).getD (x311).toNat default)).bind fun y319=>bif decide (0≤y319) then some (.ex (.inr false)) else chk (in64 (x311+1)) (some (.nx (x311+1)))))))) else some (.ex (.inl ())))
noncomputable def F_24 (l_:List GFinding) (x229:Int):Option (Fl Int (Sum Unit Bool)) :=
 bif decide (x229<(l_.length:Int)) then jn (α:=Fl ((List GFinding)×Int×(List GSpot)×Int×Bool) Bool) (bif decide (0<x229) then chk (in64 (x229 - 1)) (chk (inb (x229 - 1) l_.length) (chk (inb x229 l_.length) ((F_1c (l_.getD ((x229 - 1)).toNat default) (l_.getD (x229).toNat default)).bind fun y300=>bif decide (0≤y300) then some (.ex false) else chk (inb x229 l_.length) (bif decide ((((l_.getD (x229).toNat default).Where).length:Int)=0) then some (.ex false) else some (.nx (l_,x229,(l_.getD (x229).toNat default).Where,(((l_.getD (x229).toNat default).Where).length:Int),decide ((((l_.getD (x229).toNat default).Where).length:Int)=0))))))) else chk (inb x229 l_.length) (bif decide ((((l_.getD (x229).toNat default).Where).length:Int)=0) then some (.ex false) else some (.nx (l_,x229,(l_.getD (x229).toNat default).Where,(((l_.getD (x229).toNat default).Where).length:Int),decide ((((l_.getD (x229).toNat default).Where).length:Int)=0))))) fun o=>o.elim (fun j298=>(loop (F_23 l_ x229) 1).bind fun r320=>Sum.elim (fun u321=>chk (in64 (x229+1)) (some (.nx (x229+1)))) (fun u322=>some (.ex (.inr u322))) r320) (fun r323=>some (.ex (.inr r323))) else some (.ex (.inl ()))
noncomputable def F_1f (l_:List GFinding):Option Bool :=
 (loop (F_24 l_) 0).bind fun r324=>Sum.elim (fun u325=>some true) (fun u326=>some u326) r324
@[irreducible] def mc_23:MC :=
 (.seq (sR [oV 4 35,
 oV 0 36,
 oV 3 37,
 mo (.iad 3 (.t 36) (.t 37)) 38,
 oF 2 38 39,
 oL 39 40,
 mo (.len false (.t 40)) 41,
 mo (.bin false .lss (.t 35) (.t 41)) 42]
 (.cond (.t 42)
 .skip
 (.exit 2)))
 (.seq (.block 3
 (.seq (.note (.gc [0,3,4,14,15,16,17,18,19,20,21,22,23,24,27,28,29,30,31,32,33]) (.regD [oV 0 45,
 oV 3 46,
 mo (.iad 3 (.t 45) (.t 46)) 47,
 oF 2 47 48,
 oL 48 49,
 oV 4 50,
 mo (.bin true .sub (.t 50) (cI 1)) 51,
 mo (.iad 6 (.t 49) (.t 51)) 52,
 mo (.ld (some 6) (.t 52)) 53,
 oV 0 54,
 oV 3 55,
 mo (.iad 3 (.t 54) (.t 55)) 56,
 oF 2 56 57,
 oL 57 58,
 oV 4 59,
 mo (.iad 6 (.t 58) (.t 59)) 60,
 mo (.ld (some 6) (.t 60)) 61,
 mo (.call (.f 44) [(.t 53),(.t 61)] [] []) 62,
 mo (.bin false .geq (.t 62) (cI 0)) 63]
 [[],[],[0,1],[2],[3],[],[5],[4,6],[7],[],[],[9,10],[11],[12],[],[13,14],[15],[8,16],[17]]
 [[],[],[0,1],[0,1,2],[0,1,2,3],[],[5],[0,1,2,3,4,5,6],[0,1,2,3,4,5,6,7],[],[],[9,10],[9,10,11],[9,10,11,12],[],[9,10,11,12,13,14],[9,10,11,12,13,14,15],[0,1,2,3,4,5,6,7,8,9,10,11,12,13,14,15,16],[0,1,2,3,4,5,6,7,8,9,10,11,12,13,14,15,16,17]]))
 (.cond (.t 63)
 (sR [mo (.mv (.c (.bool false))) 2]
 .ret)
 .skip)))
 (.note (.gc [0,3,4,14,15,16,17,18,19,20,21,22,23,24,27,28,29,30,31,32,33]) (.reg [oV 4 43,
 mo (.bin true .add (.t 43) (cI 1)) 44,
 oV 44 4]))))
@[irreducible] def mc_3x:MC :=
 (sR [oC 1 4]
 (.block 2
 (.loop mc_23)))
@[irreducible] def mc_24:MC :=
 (.seq (sR [oV 3 5,
 oV 0 6,
 mo (.len false (.t 6)) 7,
 mo (.bin false .lss (.t 5) (.t 7)) 8]
 (.cond (.t 8)
 .skip
 (.exit 0)))
 (.seq (.block 1
 (.cut (.seq (.regD [oV 3 11,
 mo (.bin false .gtr (.t 11) (cI 0)) 12,
 oV 12 13,
 gT 13 14 (.mv (.t 0)),
 gT 13 15 (.mv (.t 3)),
 gT 13 16 (.bin true .sub (.t 15) (cI 1)),
 gT 13 17 (.iad 3 (.t 14) (.t 16)),
 gT 13 18 (.ld (some 3) (.t 17)),
 gT 13 19 (.mv (.t 0)),
 gT 13 20 (.mv (.t 3)),
 gT 13 21 (.iad 3 (.t 19) (.t 20)),
 gT 13 22 (.ld (some 3) (.t 21)),
 gT 13 23 (.call (.f 43) [(.t 18),(.t 22)] [] []),
 gT 13 24 (.bin false .geq (.t 23) (cI 0)),
 mo (.pick (.t 13) (.t 24) (.c (.bool false))) 25,
 oV 25 26,
 gF 26 27 (.mv (.t 0)),
 gF 26 28 (.mv (.t 3)),
 gF 26 29 (.iad 3 (.t 27) (.t 28)),
 gF 26 30 (.fad 2 (.t 29)),
 gF 26 31 (.ld none (.t 30)),
 gF 26 32 (.len false (.t 31)),
 gF 26 33 (.bin false .eql (.t 32) (cI 0)),
 mo (.pick (.t 26) (.c (.bool true)) (.t 33)) 34]
 [[],[0],[1],[2],[2],[4,2],[3,5,2],[6,2],[2],[2],[8,9,2],[10,2],[7,11,2,2],[12,2],[2,13],[14,12],[15],[15],[16,17,15],[18,15],[19,15],[20,15],[21,15],[15,22]]
 [[],[0],[0,1],[0,1,2],[0,1,2],[0,1,2,4],[0,1,2,3,4,5],[0,1,2,3,4,5,6],[0,1,2],[0,1,2],[0,1,2,8,9],[0,1,2,8,9,10],[0,1,2,3,4,5,6,7,8,9,10,11],[0,1,2,3,4,5,6,7,8,9,10,11,12],[0,1,2,3,4,5,6,7,8,9,10,11,12,13],[0,1,2,3,4,5,6,7,8,9,10,11,12,13,14],[0,1,2,3,4,5,6,7,8,9,10,11,12,13,14,15],[0,1,2,3,4,5,6,7,8,9,10,11,12,13,14,15],[0,1,2,3,4,5,6,7,8,9,10,11,12,13,14,15,16,17],[0,1,2,3,4,5,6,7,8,9,10,11,12,13,14,15,16,17,18],[0,1,2,3,4,5,6,7,8,9,10,11,12,13,14,15,16,17,18,19],[0,1,2,3,4,5,6,7,8,9,10,11,12,13,14,15,16,17,18,19,20],[0,1,2,3,4,5,6,7,8,9,10,11,12,13,14,15,16,17,18,19,20,21],[0,1,2,3,4,5,6,7,8,9,10,11,12,13,14,15,16,17,18,19,20,21,22]])
 (.cond (.t 34)
 (sR [mo (.mv (.c (.bool false))) 2]
 .ret)
 .skip))
 mc_3x))
 (.reg [oV 3 9,
 mo (.bin true .add (.t 9) (cI 1)) 10,
 oV 10 3])))
def mc_1f:MC :=
 (sR [mo (.mv (.c (.bool false))) 2]
 (.seq (sR [oC 0 3]
 (.block 0
 (.loop mc_24)))
 (sR [mo (.mv (.c (.bool true))) 2]
 .ret)))
theorem Wq_1f {l_:List GFinding}:Cn Tryz.prog 23 [.sl (l_.map GFinding.v)] [] (F_1f l_) (fun z=>.bool z) (fun z=>[]):=fun Q Q' h hQ=>by
 refine acallM mc_1f [] [] [.t 2] Tryz.func23 fun M=>?_
 unfold F_1f at h
 unfold mc_1f
 replace h:=tY h
 refine tB ?_
 repeat' (first
 | (exact tZ)
 | ((first|refine oblg h ?_|refine roomG h ?_|refine fork h ?_ ?_|refine forkS h ?_ ?_)<;>clear h<;>intro hc h)
 | (obtain ⟨y,hy,h⟩:=h;(first|with_reducible first|have hw:=Wq_1c.w hy|have hw:=Wq_1e.w hy);replace hw:=tY hw;(first|refine M.sC hw ?_|refine M.sD hw ?_);clear hw hy;refine tB ?_)
 | (refine M.wh1 (b:=mc_23) [0,3,27,28,31,32,33] [] (fun x=>[(4,.int .i64 x)]) (fun x=>[]) [] h ?_ ?_<;>first
 | (clear h;intro x Qn K hK1 h;unfold F_23 at h;unfold mc_23;replace h:=tY h;refine tB ?_)
  |(clear h;(try refine tB ?_);exact tU0;done))
 | (refine M.jnE (b:=mc_3x) [0,3] [] (fun y=>[(27,.sl (y.1.map GFinding.v)),(28,.int .i64 y.2.1),(31,.sl (y.2.2.1.map GSpot.v)),(32,.int .i64 y.2.2.2.1),(33,.bool y.2.2.2.2)]) (fun y=>[]) [] h ?_ ?_<;>first
 | (clear h;intro Qn K hK2 h;replace h:=tY h;refine tB ?_)
  |(clear h;intro y h;unfold mc_3x;replace h:=tY h;refine tB ?_))
 | (refine M.wh1 (b:=mc_24) [0] [] (fun x=>[(3,.int .i64 x)]) (fun x=>[]) [] h ?_ ?_<;>first
 | (clear h;intro x Qn K hK3 h;unfold F_24 at h;unfold mc_24;replace h:=tY h;refine tB ?_)
  |(clear h;(try refine tB ?_);exact tU0;done))
 | ((first|refine hK1 _ ?_|refine hK2 _ ?_|refine hK3 _ ?_);(try refine tB ?_);refine ⟨_,h,?_⟩;exact tU0;done)
 | (refine tE ?_;(first|rw [M.lok_compU]|rw [M.lokD_compU]);refine tB ?_)
 | (refine tA ?_)
 | fail)
noncomputable def F_25 (y2:(List GKind)×GTape) (y5:GTerm×GTape) (y6:GTerm×GTape) (y8:(List GFinding)×GTape) (x557:Int) (x754:Int):Option (Fl Int (Sum Unit Bool)) :=
 chk (inb x557 y8.1.length) (bif decide (x754<(((y8.1.getD (x557).toNat default).Where).length:Int)) then jn (α:=Fl (GTerm×GTerm×GTerm×(List GTerm)×GTerm×(List GKind)×(List GFinding)×Int×GFinding×Int×Bool×Bool×Bool×Bool×Bool) Bool) (chk (inb x557 y8.1.length) ((F_l y5.1 y2.1 (y8.1.getD (x557).toNat default) x754).bind fun y788=>chk (inb x557 y8.1.length) ((F_l y6.1 y2.1 (y8.1.getD (x557).toNat default) x754).bind fun y789=>chk (inb x557 y8.1.length) ((F_l (GTerm.mk 9 [] 0 0 [y5.1]) y2.1 (y8.1.getD (x557).toNat default) x754).bind fun y793=>bif (y793==y788) then some (.ex false) else chk (inb x557 y8.1.length) ((F_l (GTerm.mk 10 [] 0 0 [y5.1,y6.1]) y2.1 (y8.1.getD (x557).toNat default) x754).bind fun y797=>bif y788 then bif (!(y797==y789)) then some (.ex false) else chk (inb x557 y8.1.length) ((F_l (GTerm.mk 11 [] 0 0 [y5.1,y6.1,y5.1]) y2.1 (y8.1.getD (x557).toNat default) x754).bind fun y798=>bif y788 then bif (!(y798==true)) then some (.ex false) else some (.nx (y5.1,y6.1,y5.1,[y5.1,y6.1,y5.1],(GTerm.mk 11 [] 0 0 [y5.1,y6.1,y5.1]),y2.1,y8.1,x557,(y8.1.getD (x557).toNat default),x754,y798,y788,true,true,(!(y798==true)))) else bif (!(y798==y789)) then some (.ex false) else some (.nx (y5.1,y6.1,y5.1,[y5.1,y6.1,y5.1],(GTerm.mk 11 [] 0 0 [y5.1,y6.1,y5.1]),y2.1,y8.1,x557,(y8.1.getD (x557).toNat default),x754,y798,y788,false,y789,(!(y798==y789))))) else bif (!(y797==false)) then some (.ex false) else chk (inb x557 y8.1.length) ((F_l (GTerm.mk 11 [] 0 0 [y5.1,y6.1,y5.1]) y2.1 (y8.1.getD (x557).toNat default) x754).bind fun y799=>bif y788 then bif (!(y799==true)) then some (.ex false) else some (.nx (y5.1,y6.1,y5.1,[y5.1,y6.1,y5.1],(GTerm.mk 11 [] 0 0 [y5.1,y6.1,y5.1]),y2.1,y8.1,x557,(y8.1.getD (x557).toNat default),x754,y799,y788,true,true,(!(y799==true)))) else bif (!(y799==y789)) then some (.ex false) else some (.nx (y5.1,y6.1,y5.1,[y5.1,y6.1,y5.1],(GTerm.mk 11 [] 0 0 [y5.1,y6.1,y5.1]),y2.1,y8.1,x557,(y8.1.getD (x557).toNat default),x754,y799,y788,false,y789,(!(y799==y789)))))))))) fun o=>o.elim (fun j785=>chk (in64 (x754+1)) (some (.nx (x754+1)))) (fun r800=>some (.ex (.inr r800))) else some (.ex (.inl ())))
noncomputable def F_26 (y2:(List GKind)×GTape) (y5:GTerm×GTape) (y6:GTerm×GTape) (y8:(List GFinding)×GTape) (x557:Int):Option (Fl Int (Sum Unit Bool)) :=
 bif decide (x557<(y8.1.length:Int)) then (loop (F_25 y2 y5 y6 y8 x557) 0).bind fun r801=>Sum.elim (fun u802=>chk (in64 (x557+1)) (some (.nx (x557+1)))) (fun u803=>some (.ex (.inr u803))) r801 else some (.ex (.inl ()))
noncomputable def F_1p (tape_:List Int):Option Bool :=
 (F_1a (GTape.mk tape_ 0)).bind fun y2=>(F_0 y2.2 3).bind fun y5=>(F_0 y5.2 3).bind fun y6=>(F_1b y6.2).bind fun y8=>(loop (F_26 y2 y5 y6 y8) 0).bind fun r804=>Sum.elim (fun u805=>(F_1f y8.1).bind fun y810=>jn (α:=Bool) (bif y810 then F_z.bind fun y812=>some y812 else some false) fun j813=>some j813) (fun u806=>some u806) r804
@[irreducible] def mc_3y:MC :=
 (.reg [oV 9 37,
 mo (.bin true .add (.t 37) (cI 1)) 38,
 oV 38 9])
@[irreducible] def mc_25:MC :=
 (.seq (sR [oV 9 29,
 oV 7 30,
 oV 8 31,
 mo (.iad 3 (.t 30) (.t 31)) 32,
 oF 2 32 33,
 oL 33 34,
 mo (.len false (.t 34)) 35,
 mo (.bin false .lss (.t 29) (.t 35)) 36]
 (.cond (.t 36)
 .skip
 (.exit 2)))
 (.cut (.block 3
 (.seq (.note (.gc [4,5,6,7,8,9,80,84,85,86,87,88,89,90,91,92,93,94,95,96,97,98,99,100,105]) (.regD [mo (.ld (some 5) (.t 5)) 39,
 oV 4 40,
 oV 7 41,
 oV 8 42,
 mo (.iad 3 (.t 41) (.t 42)) 43,
 mo (.ld (some 3) (.t 43)) 44,
 oV 9 45,
 mo (.call (.f 22) [(.t 39),(.t 40),(.t 44),(.t 45)] [] []) 46,
 mo (.ld (some 5) (.t 6)) 47,
 oV 4 48,
 oV 7 49,
 oV 8 50,
 mo (.iad 3 (.t 49) (.t 50)) 51,
 mo (.ld (some 3) (.t 51)) 52,
 oV 9 53,
 mo (.call (.f 22) [(.t 47),(.t 48),(.t 52),(.t 53)] [] []) 54,
 oV 46 10,
 oV 54 11]
 [[],[],[],[],[2,3],[4],[],[0,1,5,6],[],[],[],[],[10,11],[12],[],[8,9,13,14,7],[7,15,0,1,2,3,4,5,6,7],[15,16,0,1,2,3,4,5,6,7,8,9,10,11,12,13,14,15,16]]
 [[],[],[],[],[2,3],[2,3,4],[],[0,1,2,3,4,5,6],[],[],[],[],[10,11],[10,11,12],[],[0,1,2,3,4,5,6,7,8,9,10,11,12,13,14],[0,1,2,3,4,5,6,7,8,9,10,11,12,13,14,15],[0,1,2,3,4,5,6,7,8,9,10,11,12,13,14,15,16]]))
 (.seq (.seq (.note (.gc [4,5,6,7,8,9,10,11,80,84,85,86,87,88,89,90,91,92,93,94,95,96,97,98,99,100,105]) (.regD [mo (.ld (some 5) (.t 5)) 55,
 mo (.lsl 5 [(.t 55)]) 56,
 mo (.build [(.int .i64 0),(.str []),(.int .i64 0),(.int .u64 0),(.sl [])] [(0,1,(cI 9)),(4,1,(.t 56))]) 57,
 oV 4 58,
 oV 7 59,
 oV 8 60,
 mo (.iad 3 (.t 59) (.t 60)) 61,
 mo (.ld (some 3) (.t 61)) 62,
 oV 9 63,
 mo (.call (.f 22) [(.t 57),(.t 58),(.t 62),(.t 63)] [] []) 64,
 oV 10 65,
 mo (.beq false (.t 64) (.t 65)) 66]
 [[],[0],[1],[],[],[],[4,5],[6],[],[2,3,7,8],[],[9,10]]
 [[],[0],[0,1],[],[],[],[4,5],[4,5,6],[],[0,1,2,3,4,5,6,7,8],[],[0,1,2,3,4,5,6,7,8,9,10]]))
 (.cond (.t 66)
 (sR [mo (.mv (.c (.bool false))) 2]
 .ret)
 .skip))
 (.seq (.note (.gc [4,5,6,7,8,9,10,11,80,84,85,86,87,88,89,90,91,92,93,94,95,96,97,98,99,100,105]) (.regD [mo (.ld (some 5) (.t 5)) 67,
 mo (.ld (some 5) (.t 6)) 68,
 mo (.lsl 5 [(.t 67),(.t 68)]) 69,
 mo (.build [(.int .i64 0),(.str []),(.int .i64 0),(.int .u64 0),(.sl [])] [(0,1,(cI 10)),(4,1,(.t 69))]) 70,
 oV 4 71,
 oV 7 72,
 oV 8 73,
 mo (.iad 3 (.t 72) (.t 73)) 74,
 mo (.ld (some 3) (.t 74)) 75,
 oV 9 76,
 mo (.call (.f 22) [(.t 70),(.t 71),(.t 75),(.t 76)] [] []) 77,
 oV 10 78,
 oV 78 79,
 gT 79 80 (.mv (.t 11)),
 mo (.pick (.t 79) (.t 80) (.c (.bool false))) 81,
 mo (.beq true (.t 77) (.t 81)) 82,
 oV 82 83,
 gF 83 84 (.ld (some 5) (.t 5)),
 gF 83 85 (.ld (some 5) (.t 6)),
 gF 83 86 (.ld (some 5) (.t 5)),
 gF 83 87 (.lsl 5 [(.t 84),(.t 85),(.t 86)]),
 gF 83 88 (.build [(.int .i64 0),(.str []),(.int .i64 0),(.int .u64 0),(.sl [])] [(0,1,(cI 11)),(4,1,(.t 87))]),
 gF 83 89 (.mv (.t 4)),
 gF 83 90 (.mv (.t 7)),
 gF 83 91 (.mv (.t 8)),
 gF 83 92 (.iad 3 (.t 90) (.t 91)),
 gF 83 93 (.ld (some 3) (.t 92)),
 gF 83 94 (.mv (.t 9)),
 gF 83 95 (.call (.f 22) [(.t 88),(.t 89),(.t 93),(.t 94)] [] []),
 gF 83 96 (.mv (.t 10)),
 gF 83 97 (.mv (.t 96)),
 gF 97 98 (.mv (.t 11)),
 gF 83 99 (.pick (.t 97) (.c (.bool true)) (.t 98)),
 gF 83 100 (.beq true (.t 95) (.t 99)),
 mo (.pick (.t 83) (.c (.bool true)) (.t 100)) 101]
 [[],[],[0,1],[2],[],[],[],[5,6],[7],[],[3,4,8,9],[],[11,10],[12],[12,13],[10,14],[15,12],[16],[16],[16],[17,18,19,16],[20,16],[16],[16],[16],[23,24,16],[25,16],[16],[21,22,26,27,16,16],[16],[29,28,16],[30],[30,31,16],[28,32,16],[16,33]]
 [[],[],[0,1],[0,1,2],[],[],[],[5,6],[5,6,7],[],[0,1,2,3,4,5,6,7,8,9],[],[0,1,2,3,4,5,6,7,8,9,10,11],[0,1,2,3,4,5,6,7,8,9,10,11,12],[0,1,2,3,4,5,6,7,8,9,10,11,12,13],[0,1,2,3,4,5,6,7,8,9,10,11,12,13,14],[0,1,2,3,4,5,6,7,8,9,10,11,12,13,14,15],[0,1,2,3,4,5,6,7,8,9,10,11,12,13,14,15,16],[0,1,2,3,4,5,6,7,8,9,10,11,12,13,14,15,16],[0,1,2,3,4,5,6,7,8,9,10,11,12,13,14,15,16],[0,1,2,3,4,5,6,7,8,9,10,11,12,13,14,15,16,17,18,19],[0,1,2,3,4,5,6,7,8,9,10,11,12,13,14,15,16,17,18,19,20],[0,1,2,3,4,5,6,7,8,9,10,11,12,13,14,15,16],[0,1,2,3,4,5,6,7,8,9,10,11,12,13,14,15,16],[0,1,2,3,4,5,6,7,8,9,10,11,12,13,14,15,16],[0,1,2,3,4,5,6,7,8,9,10,11,12,13,14,15,16,23,24],[0,1,2,3,4,5,6,7,8,9,10,11,12,13,14,15,16,23,24,25],[0,1,2,3,4,5,6,7,8,9,10,11,12,13,14,15,16],[0,1,2,3,4,5,6,7,8,9,10,11,12,13,14,15,16,17,18,19,20,21,22,23,24,25,26,27],[0,1,2,3,4,5,6,7,8,9,10,11,12,13,14,15,16],[0,1,2,3,4,5,6,7,8,9,10,11,12,13,14,15,16,17,18,19,20,21,22,23,24,25,26,27,28,29],[0,1,2,3,4,5,6,7,8,9,10,11,12,13,14,15,16,17,18,19,20,21,22,23,24,25,26,27,28,29,30],[0,1,2,3,4,5,6,7,8,9,10,11,12,13,14,15,16,17,18,19,20,21,22,23,24,25,26,27,28,29,30,31],[0,1,2,3,4,5,6,7,8,9,10,11,12,13,14,15,16,17,18,19,20,21,22,23,24,25,26,27,28,29,30,31,32],[0,1,2,3,4,5,6,7,8,9,10,11,12,13,14,15,16,17,18,19,20,21,22,23,24,25,26,27,28,29,30,31,32,33]]))
 (.cond (.t 101)
 (sR [mo (.mv (.c (.bool false))) 2]
 .ret)
 .skip)))))
 mc_3y))
@[irreducible] def mc_26:MC :=
 (.seq (sR [oV 8 23,
 oV 7 24,
 mo (.len false (.t 24)) 25,
 mo (.bin false .lss (.t 23) (.t 25)) 26]
 (.cond (.t 26)
 .skip
 (.exit 0)))
 (.seq (.block 1
 (sR [oC 0 9]
 (.block 2
 (.loop mc_25))))
 (.reg [oV 8 27,
 mo (.bin true .add (.t 27) (cI 1)) 28,
 oV 28 8])))
@[irreducible] def mg_3z:List MOp:=[gT 104 105 (.call (.f 15) [] [] []),
 mo (.pick (.t 104) (.t 105) (.c (.bool false))) 106]
def mc_1p:MC :=
 (sR [mo (.mv (.c (.bool false))) 2]
 (sR [oV 0 12,
 mo (.build [(.sl []),(.int .i64 0)] [(0,1,(.t 12))]) 13,
 mo (.box (.t 13)) 14,
 oV 14 3]
 (sR [oV 3 15,
 mo (.call (.f 16) [(.t 15)] [14] []) 16,
 oV 16 4]
 (sR [oV 3 17,
 mo (.call (.f 21) [(.t 17),(cI 3)] [14] []) 18,
 oV 3 19,
 mo (.call (.f 21) [(.t 19),(cI 3)] [14] []) 20,
 mo (.alloc [(.int .i64 0),(.str []),(.int .i64 0),(.int .u64 0),(.sl [])]) 5,
 mo (.alloc [(.int .i64 0),(.str []),(.int .i64 0),(.int .u64 0),(.sl [])]) 6,
 ⟨.st 5 (.t 5) (.t 18),none,none⟩,
 ⟨.st 5 (.t 6) (.t 20),none,none⟩]
 (.seq (.note (.gc [3,4,5,6,80,84,85,86,87,88,89,90,91,92,93,94,95,96,97,98,99,100,105]) (.reg [oV 3 21,
 mo (.call (.f 18) [(.t 21)] [14] []) 22,
 oV 22 7]))
 (.seq (sR [oC 0 8]
 (.block 0
 (.loop mc_26)))
 (.seq (.regI [.op (oV 7 102),
 .op (mo (.call (.f 23) [(.t 102)] [] []) 103),
 .op (oV 103 104),
 .grp mg_3z,
 .op (oV 106 2)])
 .ret)))))))
theorem Wq_1p {tape_:List Int}:Cn Tryz.prog 5 [.sl (tape_.map (V.int .i64))] [] (F_1p tape_) (fun z=>.bool z) (fun z=>[]):=fun Q Q' h hQ=>by
 refine acallM mc_1p [] [] [.t 2] Tryz.func5 fun M=>?_
 unfold F_1p at h
 unfold mc_1p
 replace h:=tY h
 refine tB ?_
 repeat' (first
 | (exact tZ)
 | ((first|refine oblg h ?_|refine roomG h ?_|refine fork h ?_ ?_|refine forkS h ?_ ?_)<;>clear h<;>intro hc h)
 | (obtain ⟨y,hy,h⟩:=h;(first|(with_reducible first|have hw:=Wq_l.w hy|have hw:=Wq_1f.w hy|have hw:=Wq_z.w hy)|have hw:=acall_swe 1000 14 (Wq_1a.w hy)|have hw:=acall_swe 1000 14 (W_0 hy)|have hw:=acall_swe 1000 14 (Wq_1b.w hy));replace hw:=tY hw;(first|refine M.sC hw ?_|refine M.sD hw ?_);clear hw hy;refine tB ?_)
 | (refine M.jnE (b:=mc_3y) [4,5,6,7,8,9] [6,5] (fun y=>[(84,GTerm.v y.1),(85,GTerm.v y.2.1),(86,GTerm.v y.2.2.1),(87,.sl (y.2.2.2.1.map GTerm.v)),(88,GTerm.v y.2.2.2.2.1),(89,.sl (y.2.2.2.2.2.1.map GKind.v)),(90,.sl (y.2.2.2.2.2.2.1.map GFinding.v)),(91,.int .i64 y.2.2.2.2.2.2.2.1),(93,GFinding.v y.2.2.2.2.2.2.2.2.1),(94,.int .i64 y.2.2.2.2.2.2.2.2.2.1),(95,.bool y.2.2.2.2.2.2.2.2.2.2.1),(96,.bool y.2.2.2.2.2.2.2.2.2.2.2.1),(97,.bool y.2.2.2.2.2.2.2.2.2.2.2.2.1),(99,.bool y.2.2.2.2.2.2.2.2.2.2.2.2.2.1),(100,.bool y.2.2.2.2.2.2.2.2.2.2.2.2.2.2)]) (fun y=>[]) [] h ?_ ?_<;>first
 | (clear h;intro Qn K hK1 h;replace h:=tY h;refine tB ?_)
  |(clear h;intro y h;unfold mc_3y;replace h:=tY h;refine tB ?_))
 | (refine M.wh1 (b:=mc_25) [4,5,6,7,8] [6,5] (fun x=>[(9,.int .i64 x)]) (fun x=>[]) [] h ?_ ?_<;>first
 | (clear h;intro x Qn K hK2 h;unfold F_25 at h;unfold mc_25;replace h:=tY h;refine tB ?_)
  |(clear h;(try refine tB ?_);exact tU0;done))
 | (refine M.wh1 (b:=mc_26) [4,5,6,7] [6,5] (fun x=>[(8,.int .i64 x)]) (fun x=>[]) [] h ?_ ?_<;>first
 | (clear h;intro x Qn K hK3 h;unfold F_26 at h;unfold mc_26;replace h:=tY h;refine tB ?_)
  |(clear h;(try refine tB ?_);exact tU0;done))
 | (refine M.gj1 (ms:=mg_3z) [] [] (fun y=>[(106,.bool y)]) (fun y=>[]) h ?_ ?_<;>first
 | (clear h;intro Qn K hK4 h;unfold mg_3z;replace h:=tY h;refine tB ?_)
  |(clear h;intro y h;replace h:=tY h;refine tB ?_))
 | ((first|refine hK1 _ ?_|refine hK2 _ ?_|refine hK3 _ ?_|refine hK4 _ ?_);(try refine tB ?_);refine ⟨_,h,?_⟩;exact tU0;done)
 | (refine tE ?_;(first|rw [M.lok_compU]|rw [M.lokD_compU]);refine tB ?_)
 | (refine tA ?_)
 | fail)
end Go.Ab
