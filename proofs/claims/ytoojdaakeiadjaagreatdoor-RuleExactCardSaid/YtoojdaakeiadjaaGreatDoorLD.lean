/- What the functions of this seat that lie on the laws' road compute (part LD), each for every input. By AI agents. -/
import Derived.Test.YtoojdaakeiadjaaGreatDoorProg
import Derived.KernelRfl
import Derived.Test.YtoojdaakeiadjaaGreatDoorAbFun
import Derived.Test.YtoojdaakeiadjaaGreatDoorLC
set_option linter.all false
set_option linter.all false
set_option maxRecDepth 20000
set_option maxHeartbeats 2000000
namespace Go.Ab
open Go.Proofs
noncomputable def F_1i (x38:Str×Int):Option (Fl (Str×Int) Str) :=
 bif decide (x38.2<(x38.1.length:Int)) then jn (α:=Str) (chk (inb x38.2 x38.1.length) (jn (α:=Bool) (bif decide (((x38.1.getD (x38.2).toNat 0).toNat:Int)<33) then some true else chk (inb x38.2 x38.1.length) (some (decide (126<((x38.1.getD (x38.2).toNat 0).toNat:Int))))) fun j51=>jn (α:=Bool) (bif j51 then some true else chk (inb x38.2 x38.1.length) (some (decide (((x38.1.getD (x38.2).toNat 0).toNat:Int)=34)))) fun j52=>bif j52 then some [100,111,99] else some x38.1)) fun j48=>chk (in64 (x38.2+1)) (some (.nx (j48,(x38.2+1)))) else some (.ex x38.1)
noncomputable def F_1a (tape_:List Int) (path_:Str) (part_:Str) (n_:Int) (m_:Int):Option Bool :=
 jn (α:=Str) (bif decide (200<(path_.length:Int)) then some [100,111,99,115,47,120] else some path_) fun j1=>jn (α:=Str) (grp ((decide ((part_.length:Int)=0)||decide (30<(part_.length:Int)))) fun b6=>bif b6 then some [100,111,99] else some part_) fun j4=>(loop F_1i (j4,0)).bind fun r53=>chk (strl (j1.length+r53.length)) (chk (in64 (1+(n_ % 2^6))) (chk (strl (r53.length+j1.length)) (chk (in64 (1+(n_ % 2^6))) ((F_h (GTerm.mk 3 r53 0 0 []) [] (GFinding.mk 0 (IntKind.wrap .u64 (n_ % 2^6)) [(GSpot.mk (GPlace.mk (n_ % 2^6) (j1++r53) (n_ % 2^6)) [] 1 (1+(n_ % 2^6))),(GSpot.mk (GPlace.mk (n_ % 2^6) (r53++j1) (n_ % 2^6)) [] 1 (1+(n_ % 2^6)))]) 0).bind fun y56=>(F_h (GTerm.mk 2 r53 0 0 []) [] (GFinding.mk 0 (IntKind.wrap .u64 (n_ % 2^6)) [(GSpot.mk (GPlace.mk (n_ % 2^6) (j1++r53) (n_ % 2^6)) [] 1 (1+(n_ % 2^6))),(GSpot.mk (GPlace.mk (n_ % 2^6) (r53++j1) (n_ % 2^6)) [] 1 (1+(n_ % 2^6)))]) 1).bind fun y57=>grp (((!y56)||(!y57))) fun b67=>bif b67 then some false else (F_h (GTerm.mk 6 [] (m_ % 2^6) 0 []) [] (GFinding.mk 0 (IntKind.wrap .u64 (n_ % 2^6)) [(GSpot.mk (GPlace.mk (n_ % 2^6) (j1++r53) (n_ % 2^6)) [] 1 (1+(n_ % 2^6))),(GSpot.mk (GPlace.mk (n_ % 2^6) (r53++j1) (n_ % 2^6)) [] 1 (1+(n_ % 2^6)))]) 0).bind fun y68=>bif (!(y68==decide ((m_ % 2^6)≤(n_ % 2^6)))) then some false else (F_h (GTerm.mk 8 [] (m_ % 2^6) 0 []) [] (GFinding.mk 0 (IntKind.wrap .u64 (n_ % 2^6)) [(GSpot.mk (GPlace.mk (n_ % 2^6) (j1++r53) (n_ % 2^6)) [] 1 (1+(n_ % 2^6))),(GSpot.mk (GPlace.mk (n_ % 2^6) (r53++j1) (n_ % 2^6)) [] 1 (1+(n_ % 2^6)))]) 0).bind fun y69=>bif (!(y69==decide ((n_ % 2^6)<(m_ % 2^6)))) then some false else (F_h (GTerm.mk 4 [] (m_ % 2^6) 0 []) [] (GFinding.mk 0 (IntKind.wrap .u64 (n_ % 2^6)) [(GSpot.mk (GPlace.mk (n_ % 2^6) (j1++r53) (n_ % 2^6)) [] 1 (1+(n_ % 2^6))),(GSpot.mk (GPlace.mk (n_ % 2^6) (r53++j1) (n_ % 2^6)) [] 1 (1+(n_ % 2^6)))]) 0).bind fun y75=>jn (α:=Bool) (bif (y75==decide ((n_ % 2^6)=(m_ % 2^6))) then (F_h (GTerm.mk 7 [] 0 (IntKind.wrap .u64 (m_ % 2^6)) []) [] (GFinding.mk 0 (IntKind.wrap .u64 (n_ % 2^6)) [(GSpot.mk (GPlace.mk (n_ % 2^6) (j1++r53) (n_ % 2^6)) [] 1 (1+(n_ % 2^6))),(GSpot.mk (GPlace.mk (n_ % 2^6) (r53++j1) (n_ % 2^6)) [] 1 (1+(n_ % 2^6)))]) 0).bind fun y77=>some (y77==decide ((n_ % 2^6)=(m_ % 2^6))) else some false) fun j78=>jn (α:=Bool) (bif j78 then F_t.bind fun y80=>some y80 else some false) fun j81=>some j81))))
@[irreducible] def mg_2z:List MOp:=[gF 23 24 (.mv (.t 2)),
 gF 23 25 (.len true (.t 24)),
 gF 23 26 (.bin false .gtr (.t 25) (cI 30)),
 mo (.pick (.t 23) (.c (.bool true)) (.t 26)) 27]
@[irreducible] def mg_30:List MOp:=[gF 38 39 (.mv (.t 2)),
 gF 38 40 (.mv (.t 11)),
 gF 38 41 (.idx (.t 39) (.t 40)),
 gF 38 42 (.bin false .gtr (.t 41) (.c (.int .u8 126))),
 mo (.pick (.t 38) (.c (.bool true)) (.t 42)) 43]
@[irreducible] def mg_31:List MOp:=[gF 44 45 (.mv (.t 2)),
 gF 44 46 (.mv (.t 11)),
 gF 44 47 (.idx (.t 45) (.t 46)),
 gF 44 48 (.bin false .eql (.t 47) (.c (.int .u8 34))),
 mo (.pick (.t 44) (.c (.bool true)) (.t 48)) 49]
@[irreducible] def mc_32:MC :=
 (.reg [oV 11 32,
 mo (.bin true .add (.t 32) (cI 1)) 33,
 oV 33 11])
@[irreducible] def mc_1i:MC :=
 (.seq (sR [oV 11 28,
 oV 2 29,
 mo (.len true (.t 29)) 30,
 mo (.bin false .lss (.t 28) (.t 30)) 31]
 (.cond (.t 31)
 .skip
 (.exit 0)))
 (.cut (.block 1
 (.seq (.regI [.op (oV 2 34),
 .op (oV 11 35),
 .op (mo (.idx (.t 34) (.t 35)) 36),
 .op (mo (.bin false .lss (.t 36) (.c (.int .u8 33))) 37),
 .op (oV 37 38),
 .grp mg_30,
 .op (oV 43 44),
 .grp mg_31])
 (.cond (.t 49)
 (.reg [mo (.mv (.c (.str [100,111,99]))) 2])
 .skip)))
 mc_32))
@[irreducible] def mg_33:List MOp:=[gF 86 87 (.mv (.t 16)),
 gF 86 88 (.not (.t 87)),
 mo (.pick (.t 86) (.c (.bool true)) (.t 88)) 89]
@[irreducible] def mg_34:List MOp:=[gT 118 119 (.mv (.t 13)),
 gT 118 120 (.i2i false .u64 (.t 119)),
 gT 118 121 (.build [(.int .i64 0),(.str []),(.int .i64 0),(.int .u64 0),(.sl [])] [(0,1,(cI 7)),(3,1,(.t 120))]),
 gT 118 122 (.ld (some 3) (.t 14)),
 gT 118 123 (.call (.f 22) [(.t 121),(.c (.sl [])),(.t 122),(cI 0)] [] []),
 gT 118 124 (.mv (.t 12)),
 gT 118 125 (.mv (.t 13)),
 gT 118 126 (.bin false .eql (.t 124) (.t 125)),
 gT 118 127 (.beq false (.t 123) (.t 126)),
 mo (.pick (.t 118) (.t 127) (.c (.bool false))) 128]
@[irreducible] def mg_35:List MOp:=[gT 129 130 (.call (.f 15) [] [] []),
 mo (.pick (.t 129) (.t 130) (.c (.bool false))) 131]
@[irreducible] def mc_36:MC :=
 (.seq (sR [oC 0 11]
 (.block 0
 (.loop mc_1i)))
 (sR [oV 3 50,
 mo (.mask 6 (.t 50) .i64) 51,
 oV 4 52,
 mo (.mask 6 (.t 52) .i64) 53,
 oV 51 12,
 oV 53 13]
 (sR [oV 12 54,
 mo (.i2i false .u64 (.t 54)) 55,
 oV 1 56,
 oV 2 57,
 mo (.bin false .add (.t 56) (.t 57)) 58,
 oV 12 59,
 oV 12 60,
 mo (.build [(.int .i64 0),(.str []),(.int .i64 0)] [(1,1,(.t 58)),(0,1,(.t 59)),(2,1,(.t 60))]) 61,
 oV 12 62,
 mo (.bin true .add (cI 1) (.t 62)) 63,
 mo (.build [(.int .i64 0),(.str []),(.int .i64 0),(.sl []),(.int .i64 0),(.int .i64 0)] [(0,3,(.t 61)),(4,1,(cI 1)),(5,1,(.t 63))]) 64,
 oV 2 65,
 oV 1 66,
 mo (.bin false .add (.t 65) (.t 66)) 67,
 oV 12 68,
 oV 12 69,
 mo (.build [(.int .i64 0),(.str []),(.int .i64 0)] [(1,1,(.t 67)),(0,1,(.t 68)),(2,1,(.t 69))]) 70,
 oV 12 71,
 mo (.bin true .add (cI 1) (.t 71)) 72,
 mo (.build [(.int .i64 0),(.str []),(.int .i64 0),(.sl []),(.int .i64 0),(.int .i64 0)] [(0,3,(.t 70)),(4,1,(cI 1)),(5,1,(.t 72))]) 73,
 mo (.bslice 6 [(.t 64),(.t 73)]) 74,
 mo (.build [(.int .i64 0),(.int .u64 0),(.sl [])] [(1,1,(.t 55)),(2,1,(.t 74))]) 75,
 mo (.alloc [(.int .i64 0),(.int .u64 0),(.sl [])]) 14,
 ⟨.st 3 (.t 14) (.t 75),none,none⟩]
 (.seq (.note (.gc [2,12,13,14,87,88,91,92,93,94,95,96,97,98,101,102,103,104,105,106,107,108,119,120,121,122,123,124,125,126,127,130]) (.note (.fzc 14) (.regD [oV 2 76,
 mo (.build [(.int .i64 0),(.str []),(.int .i64 0),(.int .u64 0),(.sl [])] [(0,1,(cI 3)),(1,1,(.t 76))]) 77,
 mo (.ld (some 3) (.t 14)) 78,
 mo (.call (.f 22) [(.t 77),(.c (.sl [])),(.t 78),(cI 0)] [] []) 79,
 oV 2 80,
 mo (.build [(.int .i64 0),(.str []),(.int .i64 0),(.int .u64 0),(.sl [])] [(0,1,(cI 2)),(1,1,(.t 80))]) 81,
 mo (.ld (some 3) (.t 14)) 82,
 mo (.call (.f 22) [(.t 81),(.c (.sl [])),(.t 82),(cI 1)] [] []) 83,
 oV 79 15,
 oV 83 16]
 [[],[0],[],[1,2],[],[4],[],[5,6,3],[3,7,0,1,2,3],[7,8,0,1,2,3,4,5,6,7,8]]
 [[],[0],[],[0,1,2],[],[4],[],[0,1,2,3,4,5,6],[0,1,2,3,4,5,6,7],[0,1,2,3,4,5,6,7,8]])))
 (.seq (.seq (.note (.gc [12,13,14,15,16,87,88,91,92,93,94,95,96,97,98,101,102,103,104,105,106,107,108,119,120,121,122,123,124,125,126,127,130]) (.regI [.op (oV 15 84),
 .op (mo (.not (.t 84)) 85),
 .op (oV 85 86),
 .grp mg_33,
 .op (oV 89 90),
 .op (gF 90 91 (.mv (.t 13))),
 .op (gF 90 92 (.build [(.int .i64 0),(.str []),(.int .i64 0),(.int .u64 0),(.sl [])] [(0,1,(cI 6)),(2,1,(.t 91))])),
 .op (gF 90 93 (.ld (some 3) (.t 14))),
 .op (gF 90 94 (.call (.f 22) [(.t 92),(.c (.sl [])),(.t 93),(cI 0)] [] [])),
 .op (gF 90 95 (.mv (.t 12))),
 .op (gF 90 96 (.mv (.t 13))),
 .op (gF 90 97 (.bin false .geq (.t 95) (.t 96))),
 .op (gF 90 98 (.beq true (.t 94) (.t 97))),
 .op (mo (.pick (.t 90) (.c (.bool true)) (.t 98)) 99),
 .op (oV 99 100),
 .op (gF 100 101 (.mv (.t 13))),
 .op (gF 100 102 (.build [(.int .i64 0),(.str []),(.int .i64 0),(.int .u64 0),(.sl [])] [(0,1,(cI 8)),(2,1,(.t 101))])),
 .op (gF 100 103 (.ld (some 3) (.t 14))),
 .op (gF 100 104 (.call (.f 22) [(.t 102),(.c (.sl [])),(.t 103),(cI 0)] [] [])),
 .op (gF 100 105 (.mv (.t 12))),
 .op (gF 100 106 (.mv (.t 13))),
 .op (gF 100 107 (.bin false .lss (.t 105) (.t 106))),
 .op (gF 100 108 (.beq true (.t 104) (.t 107))),
 .op (mo (.pick (.t 100) (.c (.bool true)) (.t 108)) 109)]))
 (.cond (.t 109)
 (sR [mo (.mv (.c (.bool false))) 10]
 .ret)
 .skip))
 (.seq (.note (.gc [12,13,14,119,120,121,122,123,124,125,126,127,130]) (.regI [.op (oV 13 110),
 .op (mo (.build [(.int .i64 0),(.str []),(.int .i64 0),(.int .u64 0),(.sl [])] [(0,1,(cI 4)),(2,1,(.t 110))]) 111),
 .op (mo (.ld (some 3) (.t 14)) 112),
 .op (mo (.call (.f 22) [(.t 111),(.c (.sl [])),(.t 112),(cI 0)] [] []) 113),
 .op (oV 12 114),
 .op (oV 13 115),
 .op (mo (.bin false .eql (.t 114) (.t 115)) 116),
 .op (mo (.beq false (.t 113) (.t 116)) 117),
 .op (oV 117 118),
 .grp mg_34,
 .op (oV 128 129),
 .grp mg_35,
 .op (oV 131 10)]))
 .ret))))))
@[irreducible] def mc_37:MC :=
 (.cut (.seq (.regI [.op (oV 2 20),
 .op (mo (.len true (.t 20)) 21),
 .op (mo (.bin false .eql (.t 21) (cI 0)) 22),
 .op (oV 22 23),
 .grp mg_2z])
 (.cond (.t 27)
 (.reg [mo (.mv (.c (.str [100,111,99]))) 2])
 .skip))
 mc_36)
def mc_1a:MC :=
 (sR [mo (.mv (.c (.bool false))) 10]
 (.cut (sR [oV 1 17,
 mo (.len true (.t 17)) 18,
 mo (.bin false .gtr (.t 18) (cI 200)) 19]
 (.cond (.t 19)
 (.reg [mo (.mv (.c (.str [100,111,99,115,47,120]))) 1])
 .skip))
 mc_37))
theorem Wq_1a {tape_:List Int} {path_ part_:Str} {n_ m_:Int}:Cn Tryz.prog 6 [.sl (tape_.map (V.int .i64)),.str path_,.str part_,.int .i64 n_,.int .i64 m_] [] (F_1a tape_ path_ part_ n_ m_) (fun z=>.bool z) (fun z=>[]):=fun Q Q' h hQ=>by
 refine acallM mc_1a [] [] [.t 10] Tryz.func6 fun M=>?_
 unfold F_1a at h
 unfold mc_1a
 replace h:=tY h
 refine tB ?_
 repeat' (first
 | (exact tZ)
 | ((first|refine oblg h ?_|refine roomG h ?_|refine fork h ?_ ?_|refine forkS h ?_ ?_)<;>clear h<;>intro hc h)
 | (obtain ⟨y,hy,h⟩:=h;(first|with_reducible first|have hw:=Wq_h.w hy|have hw:=Wq_t.w hy);replace hw:=tY hw;(first|refine M.sC hw ?_|refine M.sD hw ?_);clear hw hy;refine tB ?_)
 | (refine M.gv1 (ms:=mg_2z) 27 [24,25,26] h ?_ ?_<;>first
 | (clear h;intro K hK1;unfold mg_2z;refine tB ?_)
 | (clear h;intro b h;replace h:=tY h;refine tB ?_))
 | (refine M.gj1 (ms:=mg_31) [1,2,3,4,11] [] (fun y=>[(49,.bool y)]) (fun y=>[]) h ?_ ?_<;>first
 | (clear h;intro Qn K hK2 h;unfold mg_31;replace h:=tY h;refine tB ?_)
  |(clear h;intro y h;replace h:=tY h;refine tB ?_))
 | (refine M.gj1 (ms:=mg_30) [1,2,3,4,11] [] (fun y=>[(43,.bool y)]) (fun y=>[]) h ?_ ?_<;>first
 | (clear h;intro Qn K hK3 h;unfold mg_30;replace h:=tY h;refine tB ?_)
  |(clear h;intro y h;replace h:=tY h;refine tB ?_))
 | (refine M.jn1 (b:=mc_32) [1,3,4,11] [] (fun y=>[(2,.str y)]) (fun y=>[]) [] h ?_ ?_<;>first
 | (clear h;intro Qn K hK4 h;replace h:=tY h;refine tB ?_)
  |(clear h;intro y h;unfold mc_32;replace h:=tY h;refine tB ?_))
 | (refine M.wh1 (b:=mc_1i) [1,3,4] [] (fun x=>[(2,.str x.1),(11,.int .i64 x.2)]) (fun x=>[]) [] h ?_ ?_<;>first
 | (clear h;intro x Qn K hK5 h;unfold F_1i at h;unfold mc_1i;replace h:=tY h;refine tB ?_)
  |(clear h;(try refine tB ?_);exact tU0;done))
 | (refine M.gj1 (ms:=mg_35) [] [] (fun y=>[(131,.bool y)]) (fun y=>[]) h ?_ ?_<;>first
 | (clear h;intro Qn K hK6 h;unfold mg_35;replace h:=tY h;refine tB ?_)
  |(clear h;intro y h;replace h:=tY h;refine tB ?_))
 | (refine M.gj1 (ms:=mg_34) [] [] (fun y=>[(128,.bool y)]) (fun y=>[]) h ?_ ?_<;>first
 | (clear h;intro Qn K hK7 h;unfold mg_34;replace h:=tY h;refine tB ?_)
  |(clear h;intro y h;replace h:=tY h;refine tB ?_))
 | (refine M.gv1 (ms:=mg_33) 89 [87,88] h ?_ ?_<;>first
 | (clear h;intro K hK8;unfold mg_33;refine tB ?_)
 | (clear h;intro b h;replace h:=tY h;refine tB ?_))
 | (refine M.jn1 (b:=mc_36) [1,3,4] [] (fun y=>[(2,.str y)]) (fun y=>[]) [] h ?_ ?_<;>first
 | (clear h;intro Qn K hK9 h;replace h:=tY h;refine tB ?_)
  |(clear h;intro y h;unfold mc_36;replace h:=tY h;refine tB ?_))
 | (refine M.jn1 (b:=mc_37) [2,3,4] [] (fun y=>[(1,.str y)]) (fun y=>[]) [] h ?_ ?_<;>first
 | (clear h;intro Qn K hK10 h;replace h:=tY h;refine tB ?_)
  |(clear h;intro y h;unfold mc_37;replace h:=tY h;refine tB ?_))
 | ((first|refine hK1 _ ?_|refine hK8 _ ?_);exact tU;done)
 | ((first|refine hK2 _ ?_|refine hK3 _ ?_|refine hK4 _ ?_|refine hK5 _ ?_|refine hK6 _ ?_|refine hK7 _ ?_|refine hK9 _ ?_|refine hK10 _ ?_);(try refine tB ?_);refine ⟨_,h,?_⟩;exact tU0;done)
 | (refine bfork (fun hc=>?_) (fun hc=>?_))
 | (refine tE ?_;(first|rw [M.lok_compU]|rw [M.lokD_compU]);refine tB ?_)
 | (refine tA ?_)
 | fail)
end Go.Ab
