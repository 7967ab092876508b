/- What the functions of this seat that lie on the laws' road compute (part LD), each for every input. By AI agents. -/
import Derived.Test.YtgbaffbfggjmgaaGreatDoorProg
import Derived.KernelRfl
import Derived.Test.YtgbaffbfggjmgaaGreatDoorAbFun
import Derived.Test.YtgbaffbfggjmgaaGreatDoorLC
set_option linter.all false
set_option linter.all false
set_option maxRecDepth 20000
set_option maxHeartbeats 2000000
namespace Go.Ab
open Go.Proofs
structure Gparser where
 s_:Str
 at_:Int
 bad_:Bool
instance:Inhabited Gparser:=⟨⟨default,default,default⟩⟩
def Gparser.v (x:Gparser):V:=.agg [.str x.s_,.int .i64 x.at_,.bool x.bad_]
attribute [go_sem] Gparser.v
def F_1 (p_:Gparser):Option UInt8 :=
 bif decide ((p_.s_.length:Int)≤p_.at_) then some 0 else chk (inb p_.at_ p_.s_.length) (some (p_.s_.getD (p_.at_).toNat 0))
def mc_1:MC :=
 (sR [mo (.mv (.c (.int .u8 0))) 2]
 (.seq (.seq (.regD [oV 0 3,
 mo (.nck (.t 3)) 4,
 oF 1 4 5,
 oL 5 6,
 oV 0 7,
 mo (.nck (.t 7)) 8,
 oF 0 8 9,
 oL 9 10,
 mo (.len true (.t 10)) 11,
 mo (.bin false .geq (.t 6) (.t 11)) 12]
 [[],[0],[1],[2],[],[4],[5],[6],[7],[3,8]]
 [[],[0],[0,1],[0,1,2],[],[4],[4,5],[4,5,6],[4,5,6,7],[0,1,2,3,4,5,6,7,8]])
 (.cond (.t 12)
 (sR [mo (.mv (.c (.int .u8 0))) 2]
 .ret)
 .skip))
 (.seq (.note (.gc [0]) (.regD [oV 0 13,
 mo (.nck (.t 13)) 14,
 oF 0 14 15,
 oL 15 16,
 oV 0 17,
 mo (.nck (.t 17)) 18,
 oF 1 18 19,
 oL 19 20,
 mo (.idx (.t 16) (.t 20)) 21,
 oV 21 2]
 [[],[0],[1],[2],[],[4],[5],[6],[3,7],[8,0,1,2,3,4,5,6,7,8]]
 [[],[0],[0,1],[0,1,2],[],[4],[4,5],[4,5,6],[0,1,2,3,4,5,6,7],[0,1,2,3,4,5,6,7,8]]))
 .ret)))
theorem Wq_1 {p_:Gparser}:Cn Tryz.prog 86 [.ptr 1000 0] [(1000,.cells [.str p_.s_,.int .i64 p_.at_,.bool p_.bad_])] (F_1 p_) (fun z=>byteV z) (fun z=>[(1000,.cells [.str p_.s_,.int .i64 p_.at_,.bool p_.bad_])]):=fun Q Q' h hQ=>by
 refine acallM mc_1 [] [1000] [.t 2] Tryz.func86 fun M=>?_
 unfold F_1 at h
 unfold mc_1
 replace h:=tY h
 refine tB ?_
 repeat' (first
 | (exact tZ)
 | ((first|refine oblg h ?_|refine roomG h ?_|refine fork h ?_ ?_|refine forkS h ?_ ?_)<;>clear h<;>intro hc h)
 | (refine tE ?_;(first|rw [M.lok_compU]|rw [M.lokD_compU]);refine tB ?_)
 | (refine tA ?_)
 | fail)
noncomputable def F_17 (x34:Int×Int×Gparser):Option (Fl (Int×Int×Gparser) (Int×Gparser)) :=
 bif decide (x34.2.1≤2) then jn (α:=Int×Gparser) (chk (in64 (x34.2.2.at_+x34.2.1)) (chk (inb (x34.2.2.at_+x34.2.1) x34.2.2.s_.length) (grp ((decide (48≤((x34.2.2.s_.getD ((x34.2.2.at_+x34.2.1)).toNat 0).toNat:Int))&&decide (((x34.2.2.s_.getD ((x34.2.2.at_+x34.2.1)).toNat 0).toNat:Int)≤57))) fun b46=>bif b46 then some ((bits .or .i64 (IntKind.wrap .i64 (x34.1*2^4)) ((u8 (((x34.2.2.s_.getD ((x34.2.2.at_+x34.2.1)).toNat 0).toNat:Int) - 48)).toNat:Int)),x34.2.2) else grp ((decide (97≤((x34.2.2.s_.getD ((x34.2.2.at_+x34.2.1)).toNat 0).toNat:Int))&&decide (((x34.2.2.s_.getD ((x34.2.2.at_+x34.2.1)).toNat 0).toNat:Int)≤102))) fun b48=>bif b48 then chk (in64 ((bits .or .i64 (IntKind.wrap .i64 (x34.1*2^4)) ((u8 (((x34.2.2.s_.getD ((x34.2.2.at_+x34.2.1)).toNat 0).toNat:Int) - 97)).toNat:Int))+10)) (some (((bits .or .i64 (IntKind.wrap .i64 (x34.1*2^4)) ((u8 (((x34.2.2.s_.getD ((x34.2.2.at_+x34.2.1)).toNat 0).toNat:Int) - 97)).toNat:Int))+10),x34.2.2)) else some (x34.1,(Gparser.mk x34.2.2.s_ x34.2.2.at_ true))))) fun j44=>chk (in64 (x34.2.1+1)) (some (.nx (j44.1,(x34.2.1+1),j44.2))) else some (.ex (x34.1,x34.2.2))
noncomputable def F_14 (p_:Gparser):Option (UInt8×Gparser) :=
 (F_1 p_).bind fun y2=>chk (in64 (p_.at_+1)) (bif (!decide ((y2.toNat:Int)=92)) then some (y2,(Gparser.mk p_.s_ (p_.at_+1) p_.bad_)) else chk (in64 ((p_.at_+1)+2)) (bif decide ((p_.s_.length:Int)≤((p_.at_+1)+2)) then some (0,(Gparser.mk p_.s_ (p_.at_+1) true)) else chk (inb (p_.at_+1) p_.s_.length) (bif (!decide (((p_.s_.getD ((p_.at_+1)).toNat 0).toNat:Int)=120)) then some (0,(Gparser.mk p_.s_ (p_.at_+1) true)) else (loop F_17 (0,1,(Gparser.mk p_.s_ (p_.at_+1) p_.bad_))).bind fun r49=>chk (in64 (r49.2.at_+3)) (some ((u8 r49.1),(Gparser.mk r49.2.s_ (r49.2.at_+3) r49.2.bad_))))))
@[irreducible] def mg_5b:List MOp:=[gT 66 67 (.mv (.t 6)),
 gT 66 68 (.bin false .leq (.t 67) (.c (.int .u8 57))),
 mo (.pick (.t 66) (.t 68) (.c (.bool false))) 69]
@[irreducible] def mg_5c:List MOp:=[gT 79 80 (.mv (.t 6)),
 gT 79 81 (.bin false .leq (.t 80) (.c (.int .u8 102))),
 mo (.pick (.t 79) (.t 81) (.c (.bool false))) 82]
@[irreducible] def mc_5d:MC :=
 (.reg [oV 5 47,
 mo (.bin true .add (.t 47) (cI 1)) 48,
 oV 48 5])
@[irreducible] def mc_17:MC :=
 (.seq (sR [oV 5 45,
 mo (.bin false .leq (.t 45) (cI 2)) 46]
 (.cond (.t 46)
 .skip
 (.exit 0)))
 (.cut (.block 1
 (.seq (.regD [oV 0 49,
 mo (.nck (.t 49)) 50,
 oF 0 50 51,
 oL 51 52,
 oV 0 53,
 mo (.nck (.t 53)) 54,
 oF 1 54 55,
 oL 55 56,
 oV 5 57,
 mo (.bin true .add (.t 56) (.t 57)) 58,
 mo (.idx (.t 52) (.t 58)) 59,
 oV 59 6]
 [[],[0],[1],[2],[],[4],[5],[6],[],[7,8],[3,9],[10,0,1,2,3,4,5,6,7,8,9,10]]
 [[],[0],[0,1],[0,1,2],[],[4],[4,5],[4,5,6],[],[4,5,6,7,8],[0,1,2,3,4,5,6,7,8,9],[0,1,2,3,4,5,6,7,8,9,10]])
 (.block 2
 (.seq (.note (.gc [0,4,5,6,67,68,80,81]) (.regI [.op (oV 6 64),
 .op (mo (.bin false .geq (.t 64) (.c (.int .u8 48))) 65),
 .op (oV 65 66),
 .grp mg_5b,
 .op (oV 69 63)]))
 (.cond (.t 63)
 (.reg [oV 4 70,
 mo (.bin false .shl (.t 70) (.c (.int .u64 4))) 71,
 oV 6 72,
 mo (.bin false .sub (.t 72) (.c (.int .u8 48))) 73,
 mo (.i2i true .i64 (.t 73)) 74,
 mo (.bin false .or (.t 71) (.t 74)) 75,
 oV 75 4])
 (.seq (.regI [.op (oV 6 77),
 .op (mo (.bin false .geq (.t 77) (.c (.int .u8 97))) 78),
 .op (oV 78 79),
 .grp mg_5c,
 .op (oV 82 76)])
 (.cond (.t 76)
 (.note (.gc [0,4,5,6,67,68,80,81]) (.reg [oV 4 83,
 mo (.bin false .shl (.t 83) (.c (.int .u64 4))) 84,
 oV 6 85,
 mo (.bin false .sub (.t 85) (.c (.int .u8 97))) 86,
 mo (.i2i true .i64 (.t 86)) 87,
 mo (.bin false .or (.t 84) (.t 87)) 88,
 mo (.bin true .add (.t 88) (cI 10)) 89,
 oV 89 4]))
 (.note (.gc [0,4,5,67,68,80,81]) (.reg [oV 0 60,
 mo (.nck (.t 60)) 61,
 oF 2 61 62,
 ⟨.st 1 (.t 62) (.c (.bool true)),none,none⟩])))))))))
 mc_5d))
def mc_14:MC :=
 (sR [mo (.mv (.c (.int .u8 0))) 2]
 (sR [oV 0 7,
 mo (.call (.f 86) [(.t 7)] [1000] []) 8,
 oV 8 3]
 (sR [oV 0 9,
 mo (.nck (.t 9)) 10,
 oF 1 10 11,
 oL 11 12,
 mo (.bin true .add (.t 12) (cI 1)) 13,
 mo (.nck (.t 9)) 14,
 oF 1 14 15,
 ⟨.st 1 (.t 15) (.t 13),none,none⟩]
 (.seq (sR [oV 3 16,
 mo (.bin false .neq (.t 16) (.c (.int .u8 92))) 17]
 (.cond (.t 17)
 (sR [oV 3 18,
 oV 18 2]
 .ret)
 .skip))
 (.seq (.seq (.note (.gc [0,31,32,33,34,35,36,37,38,39,40,67,68,80,81]) (.regD [oV 0 19,
 mo (.nck (.t 19)) 20,
 oF 1 20 21,
 oL 21 22,
 mo (.bin true .add (.t 22) (cI 2)) 23,
 oV 0 24,
 mo (.nck (.t 24)) 25,
 oF 0 25 26,
 oL 26 27,
 mo (.len true (.t 27)) 28,
 mo (.bin false .geq (.t 23) (.t 28)) 29,
 oV 29 30,
 gF 30 31 (.mv (.t 0)),
 gF 30 32 (.nck (.t 31)),
 gF 30 33 (.fad 0 (.t 32)),
 gF 30 34 (.ld none (.t 33)),
 gF 30 35 (.mv (.t 0)),
 gF 30 36 (.nck (.t 35)),
 gF 30 37 (.fad 1 (.t 36)),
 gF 30 38 (.ld none (.t 37)),
 gF 30 39 (.idx (.t 34) (.t 38)),
 gF 30 40 (.bin false .neq (.t 39) (.c (.int .u8 120))),
 mo (.pick (.t 30) (.c (.bool true)) (.t 40)) 41]
 [[],[0],[1],[2],[3],[],[5],[6],[7],[8],[4,9],[10],[11],[12,11],[13,11],[14,11],[11],[16,11],[17,11],[18,11],[15,19,11],[20,11],[11,21]]
 [[],[0],[0,1],[0,1,2],[0,1,2,3],[],[5],[5,6],[5,6,7],[5,6,7,8],[0,1,2,3,4,5,6,7,8,9],[0,1,2,3,4,5,6,7,8,9,10],[0,1,2,3,4,5,6,7,8,9,10,11],[0,1,2,3,4,5,6,7,8,9,10,11,12],[0,1,2,3,4,5,6,7,8,9,10,11,12,13],[0,1,2,3,4,5,6,7,8,9,10,11,12,13,14],[0,1,2,3,4,5,6,7,8,9,10,11],[0,1,2,3,4,5,6,7,8,9,10,11,16],[0,1,2,3,4,5,6,7,8,9,10,11,16,17],[0,1,2,3,4,5,6,7,8,9,10,11,16,17,18],[0,1,2,3,4,5,6,7,8,9,10,11,12,13,14,15,16,17,18,19],[0,1,2,3,4,5,6,7,8,9,10,11,12,13,14,15,16,17,18,19,20],[0,1,2,3,4,5,6,7,8,9,10,11,12,13,14,15,16,17,18,19,20,21]]))
 (.cond (.t 41)
 (.seq (.note (.gc [0]) (.reg [oV 0 42,
 mo (.nck (.t 42)) 43,
 oF 2 43 44,
 ⟨.st 1 (.t 44) (.c (.bool true)),none,none⟩]))
 (sR [mo (.mv (.c (.int .u8 0))) 2]
 .ret))
 .skip))
 (sR [oC 0 4]
 (.seq (sR [oC 1 5]
 (.block 0
 (.loop mc_17)))
 (sR [oV 0 90,
 mo (.nck (.t 90)) 91,
 oF 1 91 92,
 oL 92 93,
 mo (.bin true .add (.t 93) (cI 3)) 94,
 mo (.nck (.t 90)) 95,
 oF 1 95 96,
 ⟨.st 1 (.t 96) (.t 94),none,none⟩]
 (.seq (.note (.gc [4]) (.reg [oV 4 97,
 mo (.i2i false .u8 (.t 97)) 98,
 oV 98 2]))
 .ret)))))))))
theorem Wq_14 {p_:Gparser}:Cn Tryz.prog 121 [.ptr 1000 0] [(1000,.cells [.str p_.s_,.int .i64 p_.at_,.bool p_.bad_])] (F_14 p_) (fun z=>byteV z.1) (fun z=>[(1000,.cells [.str z.2.s_,.int .i64 z.2.at_,.bool z.2.bad_])]):=fun Q Q' h hQ=>by
 refine acallM mc_14 [] [1000] [.t 2] Tryz.func121 fun M=>?_
 unfold F_14 at h
 unfold mc_14
 replace h:=tY h
 refine tB ?_
 repeat' (first
 | (exact tZ)
 | ((first|refine oblg h ?_|refine roomG h ?_|refine fork h ?_ ?_|refine forkS h ?_ ?_)<;>clear h<;>intro hc h)
 | (obtain ⟨y,hy,h⟩:=h;have hw:=Wq_1.w hy;replace hw:=tY hw;(first|refine M.sC hw ?_|refine M.sD hw ?_);clear hw hy;refine tB ?_)
 | (refine M.gv1 (ms:=mg_5c) 82 [80,81] h ?_ ?_<;>first
 | (clear h;intro K hK1;unfold mg_5c;refine tB ?_)
 | (clear h;intro b h;replace h:=tY h;refine tB ?_))
 | (refine M.gv1 (ms:=mg_5b) 69 [67,68] h ?_ ?_<;>first
 | (clear h;intro K hK2;unfold mg_5b;refine tB ?_)
 | (clear h;intro b h;replace h:=tY h;refine tB ?_))
 | (refine M.jn1 (b:=mc_5d) [0,5] [] (fun y=>[(4,.int .i64 y.1)]) (fun y=>[.o 1000 (.cells [.str y.2.s_,.int .i64 y.2.at_,.bool y.2.bad_])]) [] h ?_ ?_<;>first
 | (clear h;intro Qn K hK3 h;replace h:=tY h;refine tB ?_)
  |(clear h;intro y h;unfold mc_5d;replace h:=tY h;refine tB ?_))
 | (refine M.wh1 (b:=mc_17) [0] [] (fun x=>[(4,.int .i64 x.1),(5,.int .i64 x.2.1)]) (fun x=>[.o 1000 (.cells [.str x.2.2.s_,.int .i64 x.2.2.at_,.bool x.2.2.bad_])]) [] h ?_ ?_<;>first
 | (clear h;intro x Qn K hK4 h;unfold F_17 at h;unfold mc_17;replace h:=tY h;refine tB ?_)
  |(clear h;(try refine tB ?_);exact tU0;done))
 | ((first|refine hK1 _ ?_|refine hK2 _ ?_);exact tU;done)
 | ((first|refine hK3 _ ?_|refine hK4 _ ?_);(try refine tB ?_);refine ⟨_,h,?_⟩;exact tU0;done)
 | (refine bfork (fun hc=>?_) (fun hc=>?_))
 | (refine tE ?_;(first|rw [M.lok_compU]|rw [M.lokD_compU]);refine tB ?_)
 | (refine tA ?_)
 | fail)
noncomputable def F_1b (x79:(List GRange)×Gparser):Option (Fl ((List GRange)×Gparser) (Sum ((List GRange)×Gparser) (GNode×Gparser))) :=
 (F_1 x79.2).bind fun y100=>grp (((!decide ((y100.toNat:Int)=93))&&(!x79.2.bad_))) fun b101=>bif b101 then bif decide ((x79.2.s_.length:Int)≤x79.2.at_) then some (.ex (.inr ((GNode.mk 1 x79.1 [] 0 0),(Gparser.mk x79.2.s_ x79.2.at_ true)))) else (F_14 x79.2).bind fun y103=>jn (α:=UInt8×Gparser) ((F_1 y103.2).bind fun y109=>bif decide ((y109.toNat:Int)=45) then chk (in64 (y103.2.at_+1)) ((F_14 (Gparser.mk y103.2.s_ (y103.2.at_+1) y103.2.bad_)).bind fun y110=>some (y110.1,y110.2)) else some (y103.1,y103.2)) fun j107=>chk (room (x79.1.length+[(GRange.mk y103.1 j107.1)].length) 2) (some (.nx ((x79.1++[(GRange.mk y103.1 j107.1)]),j107.2))) else some (.ex (.inl (x79.1,x79.2)))
noncomputable def F_1k (p_:Gparser):Option (GNode×Gparser) :=
 (loop F_1b ([],p_)).bind fun r111=>Sum.elim (fun u112=>chk (in64 (u112.2.at_+1)) (some ((GNode.mk 1 u112.1 [] 0 0),(Gparser.mk u112.2.s_ (u112.2.at_+1) u112.2.bad_)))) (fun u113=>some u113) r111
@[irreducible] def mg_5e:List MOp:=[gT 10 11 (.mv (.t 0)),
 gT 10 12 (.nck (.t 11)),
 gT 10 13 (.fad 2 (.t 12)),
 gT 10 14 (.ld none (.t 13)),
 gT 10 15 (.not (.t 14)),
 mo (.pick (.t 10) (.t 15) (.c (.bool false))) 16]
@[irreducible] def mc_5f:MC :=
 (.reg [oF 1 3 46,
 oL 46 47,
 oV 4 48,
 oV 5 49,
 mo (.build [(.int .u8 0),(.int .u8 0)] [(0,1,(.t 48)),(1,1,(.t 49))]) 50,
 mo (.bslice 2 [(.t 50)]) 51,
 mo (.app 2 2 (.t 47) (.t 51)) 52,
 oF 1 3 53,
 ⟨.st 1 (.t 53) (.t 52),none,none⟩])
@[irreducible] def mc_1b:MC :=
 (.seq (.seq (.regI [.op (oV 0 7),
 .op (mo (.call (.f 86) [(.t 7)] [1000] []) 8),
 .op (mo (.bin false .neq (.t 8) (.c (.int .u8 93))) 9),
 .op (oV 9 10),
 .grp mg_5e])
 (.cond (.t 16)
 .skip
 (.exit 0)))
 (.block 1
 (.seq (.seq (.regD [oV 0 17,
 mo (.nck (.t 17)) 18,
 oF 1 18 19,
 oL 19 20,
 oV 0 21,
 mo (.nck (.t 21)) 22,
 oF 0 22 23,
 oL 23 24,
 mo (.len true (.t 24)) 25,
 mo (.bin false .geq (.t 20) (.t 25)) 26]
 [[],[0],[1],[2],[],[4],[5],[6],[7],[3,8]]
 [[],[0],[0,1],[0,1,2],[],[4],[4,5],[4,5,6],[4,5,6,7],[0,1,2,3,4,5,6,7,8]])
 (.cond (.t 26)
 (.seq (.note (.gc [0,2,3]) (.reg [oV 0 27,
 mo (.nck (.t 27)) 28,
 oF 2 28 29,
 ⟨.st 1 (.t 29) (.c (.bool true)),none,none⟩]))
 (sR [mo (.ld (some 5) (.t 3)) 30,
 ⟨.st 5 (.t 2) (.t 30),none,none⟩]
 .ret))
 .skip))
 (.seq (.note (.gc [0,2,3,11,12,13,14,15]) (.reg [oV 0 31,
 mo (.call (.f 121) [(.t 31)] [1000] []) 32,
 oV 32 4]))
 (sR [oV 4 33,
 oV 33 5]
 (.cut (sR [oV 0 34,
 mo (.call (.f 86) [(.t 34)] [1000] []) 35,
 mo (.bin false .eql (.t 35) (.c (.int .u8 45))) 36]
 (.cond (.t 36)
 (sR [oV 0 37,
 mo (.nck (.t 37)) 38,
 oF 1 38 39,
 oL 39 40,
 mo (.bin true .add (.t 40) (cI 1)) 41,
 mo (.nck (.t 37)) 42,
 oF 1 42 43,
 ⟨.st 1 (.t 43) (.t 41),none,none⟩]
 (.note (.gc [0,2,3,4,11,12,13,14,15]) (.reg [oV 0 44,
 mo (.call (.f 121) [(.t 44)] [1000] []) 45,
 oV 45 5])))
 .skip))
 mc_5f))))))
def mc_1k:MC :=
 (sR [mo (.alloc [(.int .i64 0),(.sl []),(.sl []),(.int .i64 0),(.int .i64 0)]) 2]
 (sR [mo (.build [(.int .i64 0),.nils,.nils,(.int .i64 0),(.int .i64 0)] [(0,1,(cI 1))]) 6,
 mo (.alloc [(.int .i64 0),(.sl []),(.sl []),(.int .i64 0),(.int .i64 0)]) 3,
 ⟨.st 5 (.t 3) (.t 6),none,none⟩]
 (.seq (.block 0
 (.loop mc_1b))
 (sR [oV 0 54,
 mo (.nck (.t 54)) 55,
 oF 1 55 56,
 oL 56 57,
 mo (.bin true .add (.t 57) (cI 1)) 58,
 mo (.nck (.t 54)) 59,
 oF 1 59 60,
 ⟨.st 1 (.t 60) (.t 58),none,none⟩]
 (sR [mo (.ld (some 5) (.t 3)) 61,
 ⟨.st 5 (.t 2) (.t 61),none,none⟩]
 .ret)))))
theorem Wq_1k {p_:Gparser}:Cn Tryz.prog 120 [.ptr 1000 0] [(1000,.cells [.str p_.s_,.int .i64 p_.at_,.bool p_.bad_])] (F_1k p_) (fun z=>GNode.v z.1) (fun z=>[(1000,.cells [.str z.2.s_,.int .i64 z.2.at_,.bool z.2.bad_])]):=fun Q Q' h hQ=>by
 refine acallM mc_1k [.fzc 2] [1000] [.c 2 (some 5)] Tryz.func120 fun M=>?_
 unfold F_1k at h
 unfold mc_1k
 replace h:=tY h
 refine tB ?_
 repeat' (first
 | (exact tZ)
 | ((first|refine oblg h ?_|refine roomG h ?_|refine fork h ?_ ?_|refine forkS h ?_ ?_)<;>clear h<;>intro hc h)
 | (obtain ⟨y,hy,h⟩:=h;(first|with_reducible first|have hw:=Wq_1.w hy|have hw:=Wq_14.w hy);replace hw:=tY hw;(first|refine M.sC hw ?_|refine M.sD hw ?_);clear hw hy;refine tB ?_)
 | (refine M.jn1 (b:=mc_5f) [0,2,3,4] [3,4049,2] (fun y=>[(5,byteV y.1)]) (fun y=>[.o 1000 (.cells [.str y.2.s_,.int .i64 y.2.at_,.bool y.2.bad_])]) [] h ?_ ?_<;>first
 | (clear h;intro Qn K hK1 h;replace h:=tY h;refine tB ?_)
  |(clear h;intro y h;unfold mc_5f;replace h:=tY h;refine tB ?_))
 | (refine M.gv1 (ms:=mg_5e) 16 [11,12,13,14,15] h ?_ ?_<;>first
 | (clear h;intro K hK2;unfold mg_5e;refine tB ?_)
 | (clear h;intro b h;replace h:=tY h;refine tB ?_))
 | (refine M.wh1 (b:=mc_1b) [0,2,3] [3,2] (fun x=>[]) (fun x=>[.p 3 1 [.osl 4049 2 0 x.1.length],.o 4049 (.arr 2 (x.1.map GRange.v)),.o 1000 (.cells [.str x.2.s_,.int .i64 x.2.at_,.bool x.2.bad_])]) [.gc [0,2,3],.ownC 3 1 4049 2 none] h ?_ ?_<;>first
 | (clear h;intro x Qn K hK3 h;unfold F_1b at h;unfold mc_1b;replace h:=tY h;refine tB ?_)
  |(clear h;(try refine tB ?_);exact tU0;done))
 | ((first|refine hK1 _ ?_|refine hK3 _ ?_);(try refine tB ?_);refine ⟨_,h,?_⟩;exact tU0;done)
 | (refine hK2 _ ?_;exact tU;done)
 | (refine bfork (fun hc=>?_) (fun hc=>?_))
 | (refine tE ?_;(first|rw [M.lok_compU]|rw [M.lokD_compU]);refine tB ?_)
 | (refine tA ?_)
 | fail)
noncomputable def F_y (p_:Gparser) (x57:Int×Gparser):Option (Fl (Int×Gparser) (Int×Gparser)) :=
 (F_1 x57.2).bind fun y74=>bif decide (48≤(y74.toNat:Int)) then (F_1 x57.2).bind fun y75=>bif decide ((y75.toNat:Int)≤57) then chk (in64 (p_.at_+3)) (bif decide (x57.2.at_<(p_.at_+3)) then chk (in64 (x57.1*10)) ((F_1 x57.2).bind fun y77=>chk (in64 ((x57.1*10)+((u8 ((y77.toNat:Int) - 48)).toNat:Int))) (chk (in64 (x57.2.at_+1)) (some (.nx (((x57.1*10)+((u8 ((y77.toNat:Int) - 48)).toNat:Int)),(Gparser.mk x57.2.s_ (x57.2.at_+1) x57.2.bad_)))))) else some (.ex (x57.1,x57.2))) else some (.ex (x57.1,x57.2)) else some (.ex (x57.1,x57.2))
noncomputable def F_1f (p_:Gparser):Option (Int×Gparser) :=
 (loop (F_y p_) (0,p_)).bind fun r78=>grp ((r78.2.bad_||decide (r78.2.at_=p_.at_))) fun b80=>some (r78.1,(Gparser.mk r78.2.s_ r78.2.at_ b80))
@[irreducible] def mc_y:MC :=
 (.seq (sR [oV 0 9,
 mo (.call (.f 86) [(.t 9)] [1000] []) 10,
 mo (.bin false .geq (.t 10) (.c (.int .u8 48))) 11,
 oV 11 12,
 gT 12 13 (.mv (.t 0)),
 gT 12 14 (.call (.f 86) [(.t 13)] [1000] []),
 gT 12 15 (.bin false .leq (.t 14) (.c (.int .u8 57))),
 mo (.pick (.t 12) (.t 15) (.c (.bool false))) 16,
 oV 16 17,
 gT 17 18 (.mv (.t 0)),
 gT 17 19 (.nck (.t 18)),
 gT 17 20 (.fad 1 (.t 19)),
 gT 17 21 (.ld none (.t 20)),
 gT 17 22 (.mv (.t 4)),
 gT 17 23 (.bin true .add (.t 22) (cI 3)),
 gT 17 24 (.bin false .lss (.t 21) (.t 23)),
 mo (.pick (.t 17) (.t 24) (.c (.bool false))) 25]
 (.cond (.t 25)
 .skip
 (.exit 0)))
 (.block 1
 (sR [oV 3 26,
 mo (.bin true .mul (.t 26) (cI 10)) 27,
 oV 0 28,
 mo (.call (.f 86) [(.t 28)] [1000] []) 29,
 mo (.bin false .sub (.t 29) (.c (.int .u8 48))) 30,
 mo (.i2i true .i64 (.t 30)) 31,
 mo (.bin true .add (.t 27) (.t 31)) 32,
 oV 32 3]
 (.note (.gc [0,3,4,13,14,15,18,19,20,21,22,23,24,46,47,48,49,50,51]) (.reg [oV 0 33,
 mo (.nck (.t 33)) 34,
 oF 1 34 35,
 oL 35 36,
 mo (.bin true .add (.t 36) (cI 1)) 37,
 mo (.nck (.t 33)) 38,
 oF 1 38 39,
 ⟨.st 1 (.t 39) (.t 37),none,none⟩])))))
@[irreducible] def mg_5g:List MOp:=[gF 45 46 (.mv (.t 0)),
 gF 45 47 (.nck (.t 46)),
 gF 45 48 (.fad 1 (.t 47)),
 gF 45 49 (.ld none (.t 48)),
 gF 45 50 (.mv (.t 4)),
 gF 45 51 (.bin false .eql (.t 49) (.t 50)),
 mo (.pick (.t 45) (.c (.bool true)) (.t 51)) 52]
def mc_1f:MC :=
 (sR [oC 0 2]
 (.seq (.regD [oV 0 5,
 mo (.nck (.t 5)) 6,
 oF 1 6 7,
 oL 7 8,
 oC 0 3,
 oV 8 4]
 [[],[0],[1],[2],[],[3,4,0,1,2,3,4]]
 [[],[0],[0,1],[0,1,2],[],[0,1,2,3,4]])
 (.seq (.block 0
 (.loop mc_y))
 (.seq (.regI [.op (oV 0 40),
 .op (oV 0 41),
 .op (mo (.nck (.t 41)) 42),
 .op (oF 2 42 43),
 .op (oL 43 44),
 .op (oV 44 45),
 .grp mg_5g,
 .op (mo (.nck (.t 40)) 53),
 .op (oF 2 53 54),
 .op ⟨.st 1 (.t 54) (.t 52),none,none⟩])
 (sR [oV 3 55,
 oV 55 2]
 .ret)))))
theorem Wq_1f {p_:Gparser}:Cn Tryz.prog 109 [.ptr 1000 0] [(1000,.cells [.str p_.s_,.int .i64 p_.at_,.bool p_.bad_])] (F_1f p_) (fun z=>.int .i64 z.1) (fun z=>[(1000,.cells [.str z.2.s_,.int .i64 z.2.at_,.bool z.2.bad_])]):=fun Q Q' h hQ=>by
 refine acallM mc_1f [] [1000] [.t 2] Tryz.func109 fun M=>?_
 unfold F_1f at h
 unfold mc_1f
 replace h:=tY h
 refine tB ?_
 repeat' (first
 | (exact tZ)
 | ((first|refine oblg h ?_|refine roomG h ?_|refine fork h ?_ ?_|refine forkS h ?_ ?_)<;>clear h<;>intro hc h)
 | (obtain ⟨y,hy,h⟩:=h;have hw:=Wq_1.w hy;replace hw:=tY hw;(first|refine M.sC hw ?_|refine M.sD hw ?_);clear hw hy;refine tB ?_)
 | (refine M.wh1 (b:=mc_y) [0,4] [] (fun x=>[(3,.int .i64 x.1)]) (fun x=>[.o 1000 (.cells [.str x.2.s_,.int .i64 x.2.at_,.bool x.2.bad_])]) [] h ?_ ?_<;>first
 | (clear h;intro x Qn K hK1 h;unfold F_y at h;unfold mc_y;replace h:=tY h;refine tB ?_)
  |(clear h;(try refine tB ?_);exact tU0;done))
 | (refine M.gv1 (ms:=mg_5g) 52 [46,47,48,49,50,51] h ?_ ?_<;>first
 | (clear h;intro K hK2;unfold mg_5g;refine tB ?_)
 | (clear h;intro b h;replace h:=tY h;refine tB ?_))
 | (refine hK1 _ ?_;(try refine tB ?_);refine ⟨_,h,?_⟩;exact tU0;done)
 | (refine hK2 _ ?_;exact tU;done)
 | (refine bfork (fun hc=>?_) (fun hc=>?_))
 | (refine tE ?_;(first|rw [M.lok_compU]|rw [M.lokD_compU]);refine tB ?_)
 | (refine tA ?_)
 | fail)
mutual
noncomputable def FR_b:Nat→Gparser→Option (GNode×Gparser)
 | 0,_=>none
 | n+1,p_ =>
 (F_1 p_).bind fun y12=>bif decide ((y12.toNat:Int)=91) then chk (in64 (p_.at_+1)) ((F_1k (Gparser.mk p_.s_ (p_.at_+1) p_.bad_)).bind fun y14=>some (y14.1,y14.2)) else bif decide ((y12.toNat:Int)=40) then chk (in64 (p_.at_+1)) ((FR_4 n (Gparser.mk p_.s_ (p_.at_+1) p_.bad_)).bind fun y16=>jn (α:=Bool) (bif y16.2.bad_ then some true else (F_1 y16.2).bind fun y20=>some (!decide ((y20.toNat:Int)=41))) fun j21=>chk (in64 (y16.2.at_+1)) (some (y16.1,(Gparser.mk y16.2.s_ (y16.2.at_+1) j21)))) else (F_14 p_).bind fun y23=>some ((GNode.mk 1 [(GRange.mk y23.1 y23.1)] [] 0 0),y23.2)
noncomputable def FR_6:Nat→Gparser→Option (GNode×Gparser)
 | 0,_=>none
 | n+1,p_ =>
 (FR_b n p_).bind fun y2=>(F_1 y2.2).bind fun y6=>bif (!decide ((y6.toNat:Int)=123)) then some (y2.1,y2.2) else chk (in64 (y2.2.at_+1)) ((F_1f (Gparser.mk y2.2.s_ (y2.2.at_+1) y2.2.bad_)).bind fun y8=>jn (α:=Int×Int×Gparser) ((F_1 y8.2).bind fun y14=>bif decide ((y14.toNat:Int)=44) then chk (in64 (y8.2.at_+1)) ((F_1f (Gparser.mk y8.2.s_ (y8.2.at_+1) y8.2.bad_)).bind fun y15=>some (y8.1,y15.1,y15.2)) else some (y8.1,y8.1,y8.2)) fun j12=>jn (α:=Bool) (bif j12.2.2.bad_ then some true else (F_1 j12.2.2).bind fun y19=>some (!decide ((y19.toNat:Int)=125))) fun j20=>chk (in64 (j12.2.2.at_+1)) (some ((GNode.mk 4 [] [y2.1] j12.1 j12.2.1),(Gparser.mk j12.2.2.s_ (j12.2.2.at_+1) j20))))
noncomputable def FR_a:Nat→Gparser→Option (GNode×Gparser)
 | 0,_=>none
 | n+1,p_ =>
 (loop (fun (x52:(List GNode)×Gparser)=>(bif decide (x52.2.at_<(x52.2.s_.length:Int)) then (F_1 x52.2).bind fun y68=>bif (!decide ((y68.toNat:Int)=124)) then (F_1 x52.2).bind fun y69=>bif (!decide ((y69.toNat:Int)=41)) then bif (!x52.2.bad_) then (FR_6 n x52.2).bind fun y70=>chk (room (x52.1.length+[y70.1].length) 72) (some (.nx ((x52.1++[y70.1]),y70.2))) else some (.ex (x52.1,x52.2)) else some (.ex (x52.1,x52.2)) else some (.ex (x52.1,x52.2)) else some (.ex (x52.1,x52.2)):Option (Fl ((List GNode)×Gparser) ((List GNode)×Gparser)))) ([],p_)).bind fun r71=>bif decide ((r71.1.length:Int)=0) then some ((GNode.mk 0 [] [] 0 0),(Gparser.mk r71.2.s_ r71.2.at_ true)) else bif decide ((r71.1.length:Int)=1) then chk (inb 0 r71.1.length) (some (r71.1.getD 0 default,r71.2)) else some ((GNode.mk 2 [] r71.1 0 0),r71.2)
noncomputable def FR_4:Nat→Gparser→Option (GNode×Gparser)
 | 0,_=>none
 | n+1,p_ =>
 (FR_a n p_).bind fun y2=>(loop (fun (x54:(List GNode)×Gparser)=>((F_1 x54.2).bind fun y70=>grp ((decide ((y70.toNat:Int)=124)&&(!x54.2.bad_))) fun b71=>bif b71 then chk (in64 (x54.2.at_+1)) ((FR_a n (Gparser.mk x54.2.s_ (x54.2.at_+1) x54.2.bad_)).bind fun y72=>chk (room (x54.1.length+[y72.1].length) 72) (some (.nx ((x54.1++[y72.1]),y72.2)))) else some (.ex (x54.1,x54.2)):Option (Fl ((List GNode)×Gparser) ((List GNode)×Gparser)))) ([y2.1],y2.2)).bind fun r73=>bif decide ((r73.1.length:Int)=1) then chk (inb 0 r73.1.length) (some (r73.1.getD 0 default,r73.2)) else some ((GNode.mk 3 [] r73.1 0 0),r73.2)
end
noncomputable def F_4 (p_:Gparser):Option (GNode×Gparser):=lim fun n=>FR_4 n p_
@[irreducible] def mg_5h:List MOp:=[gF 34 35 (.mv (.t 0)),
 gF 34 36 (.call (.f 86) [(.t 35)] [1000] []),
 gF 34 37 (.bin false .neq (.t 36) (.c (.int .u8 41))),
 mo (.pick (.t 34) (.c (.bool true)) (.t 37)) 38]
def mc_b:MC :=
 (sR [mo (.alloc [(.int .i64 0),(.sl []),(.sl []),(.int .i64 0),(.int .i64 0)]) 2]
 (.seq (sR [oV 0 5,
 mo (.call (.f 86) [(.t 5)] [1000] []) 6]
 (.block 0
 (sR [mo (.bin false .eql (.t 6) (.c (.int .u8 91))) 8,
 oV 8 7]
 (.cond (.t 7)
 (sR [oV 0 9,
 mo (.nck (.t 9)) 10,
 oF 1 10 11,
 oL 11 12,
 mo (.bin true .add (.t 12) (cI 1)) 13,
 mo (.nck (.t 9)) 14,
 oF 1 14 15,
 ⟨.st 1 (.t 15) (.t 13),none,none⟩]
 (.seq (.note (.gc [0,2]) (.reg [oV 0 16,
 mo (.call (.f 120) [(.t 16)] [1000] []) 17,
 ⟨.st 5 (.t 2) (.t 17),none,none⟩]))
 .ret))
 (sR [mo (.bin false .eql (.t 6) (.c (.int .u8 40))) 19,
 oV 19 18]
 (.cond (.t 18)
 (sR [oV 0 20,
 mo (.nck (.t 20)) 21,
 oF 1 21 22,
 oL 22 23,
 mo (.bin true .add (.t 23) (cI 1)) 24,
 mo (.nck (.t 20)) 25,
 oF 1 25 26,
 ⟨.st 1 (.t 26) (.t 24),none,none⟩]
 (.seq (.note (.gc [0,2,35,36,37]) (.reg [oV 0 27,
 mo (.call (.f 70) [(.t 27)] [1000] []) 28,
 mo (.alloc [(.int .i64 0),(.sl []),(.sl []),(.int .i64 0),(.int .i64 0)]) 3,
 ⟨.st 5 (.t 3) (.t 28),none,none⟩]))
 (.seq (.regI [.op (oV 0 29),
 .op (oV 0 30),
 .op (mo (.nck (.t 30)) 31),
 .op (oF 2 31 32),
 .op (oL 32 33),
 .op (oV 33 34),
 .grp mg_5h,
 .op (mo (.nck (.t 29)) 39),
 .op (oF 2 39 40),
 .op ⟨.st 1 (.t 40) (.t 38),none,none⟩])
 (sR [oV 0 41,
 mo (.nck (.t 41)) 42,
 oF 1 42 43,
 oL 43 44,
 mo (.bin true .add (.t 44) (cI 1)) 45,
 mo (.nck (.t 41)) 46,
 oF 1 46 47,
 ⟨.st 1 (.t 47) (.t 45),none,none⟩]
 (sR [mo (.ld (some 5) (.t 3)) 48,
 ⟨.st 5 (.t 2) (.t 48),none,none⟩]
 .ret)))))
 .skip))))))
 (sR [oV 0 49,
 mo (.call (.f 121) [(.t 49)] [1000] []) 50,
 oV 50 4]
 (.seq (.note (.gc [2,4]) (.reg [oV 4 51,
 oV 4 52,
 mo (.build [(.int .u8 0),(.int .u8 0)] [(0,1,(.t 51)),(1,1,(.t 52))]) 53,
 mo (.bslice 2 [(.t 53)]) 54,
 mo (.build [(.int .i64 0),(.sl []),(.sl []),(.int .i64 0),(.int .i64 0)] [(0,1,(cI 1)),(1,1,(.t 54))]) 55,
 ⟨.st 5 (.t 2) (.t 55),none,none⟩]))
 .ret))))
theorem Wq_b {n:Nat} (ih_ref05_parser_atom:∀{p_:Gparser} {y:GNode×Gparser},FR_b n p_=some y→ACall Tryz.prog 108 [.ptr 1000 0] [(1000,.cells [.str p_.s_,.int .i64 p_.at_,.bool p_.bad_])] (fun r H=>r=GNode.v y.1∧H=[(1000,.cells [.str y.2.s_,.int .i64 y.2.at_,.bool y.2.bad_])])) (ih_ref05_parser_item:∀{p_:Gparser} {y:GNode×Gparser},FR_6 n p_=some y→ACall Tryz.prog 96 [.ptr 1000 0] [(1000,.cells [.str p_.s_,.int .i64 p_.at_,.bool p_.bad_])] (fun r H=>r=GNode.v y.1∧H=[(1000,.cells [.str y.2.s_,.int .i64 y.2.at_,.bool y.2.bad_])])) (ih_ref05_parser_seq:∀{p_:Gparser} {y:GNode×Gparser},FR_a n p_=some y→ACall Tryz.prog 85 [.ptr 1000 0] [(1000,.cells [.str p_.s_,.int .i64 p_.at_,.bool p_.bad_])] (fun r H=>r=GNode.v y.1∧H=[(1000,.cells [.str y.2.s_,.int .i64 y.2.at_,.bool y.2.bad_])])) (ih_ref05_parser_choice:∀{p_:Gparser} {y:GNode×Gparser},FR_4 n p_=some y→ACall Tryz.prog 70 [.ptr 1000 0] [(1000,.cells [.str p_.s_,.int .i64 p_.at_,.bool p_.bad_])] (fun r H=>r=GNode.v y.1∧H=[(1000,.cells [.str y.2.s_,.int .i64 y.2.at_,.bool y.2.bad_])])) (p_:Gparser) {Q:GNode×Gparser→Prop} {Q':V→Heap→Prop} (h:Ok (FR_b (n+1) p_) Q) (hQ:∀z,Q z→Q' (GNode.v z.1) [(1000,.cells [.str z.2.s_,.int .i64 z.2.at_,.bool z.2.bad_])]):ACall Tryz.prog 108 [.ptr 1000 0] [(1000,.cells [.str p_.s_,.int .i64 p_.at_,.bool p_.bad_])] Q':=by
 refine acallM mc_b [.fzc 2] [1000] [.c 2 (some 5)] Tryz.func108 fun M=>?_
 simp only [FR_b] at h
 unfold mc_b
 replace h:=tY h
 refine tB ?_
 repeat' (first
 | (exact tZ)
 | ((first|refine oblg h ?_|refine roomG h ?_|refine fork h ?_ ?_|refine forkS h ?_ ?_)<;>clear h<;>intro hc h)
 | (obtain ⟨y,hy,h⟩:=h;(first|with_reducible first|have hw:=Wq_1.w hy|have hw:=Wq_1k.w hy|have hw:=ih_ref05_parser_choice hy|have hw:=Wq_14.w hy);replace hw:=tY hw;(first|refine M.sC hw ?_|refine M.sD hw ?_);clear hw hy;refine tB ?_)
 | (refine M.gj1 (ms:=mg_5h) [0,2,3,29] [1000,3,2] (fun y=>[(38,.bool y)]) (fun y=>[]) h ?_ ?_<;>first
 | (clear h;intro Qn K hK1 h;unfold mg_5h;replace h:=tY h;refine tB ?_)
  |(clear h;intro y h;replace h:=tY h;refine tB ?_))
 | (refine hK1 _ ?_;(try refine tB ?_);refine ⟨_,h,?_⟩;exact tU0;done)
 | (refine tE ?_;(first|rw [M.lok_compU]|rw [M.lokD_compU]);refine tB ?_)
 | (refine tA ?_)
 | fail)
@[irreducible] def mg_5i:List MOp:=[gF 45 46 (.mv (.t 0)),
 gF 45 47 (.call (.f 86) [(.t 46)] [1000] []),
 gF 45 48 (.bin false .neq (.t 47) (.c (.int .u8 125))),
 mo (.pick (.t 45) (.c (.bool true)) (.t 48)) 49]
@[irreducible] def mc_5j:MC :=
 (.seq (.regI [.op (oV 0 40),
 .op (oV 0 41),
 .op (mo (.nck (.t 41)) 42),
 .op (oF 2 42 43),
 .op (oL 43 44),
 .op (oV 44 45),
 .grp mg_5i,
 .op (mo (.nck (.t 40)) 50),
 .op (oF 2 50 51),
 .op ⟨.st 1 (.t 51) (.t 49),none,none⟩])
 (sR [oV 0 52,
 mo (.nck (.t 52)) 53,
 oF 1 53 54,
 oL 54 55,
 mo (.bin true .add (.t 55) (cI 1)) 56,
 mo (.nck (.t 52)) 57,
 oF 1 57 58,
 ⟨.st 1 (.t 58) (.t 56),none,none⟩]
 (sR [mo (.ld (some 5) (.t 4)) 59,
 ⟨.st 5 (.t 2) (.t 59),none,none⟩]
 .ret)))
def mc_6:MC :=
 (sR [mo (.alloc [(.int .i64 0),(.sl []),(.sl []),(.int .i64 0),(.int .i64 0)]) 2]
 (sR [oV 0 5,
 mo (.call (.f 108) [(.t 5)] [1000] []) 6,
 mo (.alloc [(.int .i64 0),(.sl []),(.sl []),(.int .i64 0),(.int .i64 0)]) 3,
 ⟨.st 5 (.t 3) (.t 6),none,none⟩]
 (.seq (sR [oV 0 7,
 mo (.call (.f 86) [(.t 7)] [1000] []) 8,
 mo (.bin false .neq (.t 8) (.c (.int .u8 123))) 9]
 (.cond (.t 9)
 (sR [mo (.ld (some 5) (.t 3)) 10,
 ⟨.st 5 (.t 2) (.t 10),none,none⟩]
 .ret)
 .skip))
 (sR [oV 0 11,
 mo (.nck (.t 11)) 12,
 oF 1 12 13,
 oL 13 14,
 mo (.bin true .add (.t 14) (cI 1)) 15,
 mo (.nck (.t 11)) 16,
 oF 1 16 17,
 ⟨.st 1 (.t 17) (.t 15),none,none⟩]
 (.seq (.note (.gc [0,2,3,46,47,48]) (.reg [mo (.ld (some 5) (.t 3)) 18,
 mo (.bslice 5 [(.t 18)]) 19,
 mo (.build [(.int .i64 0),(.sl []),(.sl []),(.int .i64 0),(.int .i64 0)] [(0,1,(cI 4)),(2,1,(.t 19))]) 20,
 mo (.alloc [(.int .i64 0),(.sl []),(.sl []),(.int .i64 0),(.int .i64 0)]) 4,
 ⟨.st 5 (.t 4) (.t 20),none,none⟩]))
 (sR [oV 0 21,
 mo (.call (.f 109) [(.t 21)] [1000] []) 22,
 oF 3 4 23,
 ⟨.st 1 (.t 23) (.t 22),none,none⟩]
 (sR [oF 3 4 24,
 oL 24 25,
 oF 4 4 26,
 ⟨.st 1 (.t 26) (.t 25),none,none⟩]
 (.cut (.seq (.note (.gc [0,2,4,46,47,48]) (.reg [oV 0 27,
 mo (.call (.f 86) [(.t 27)] [1000] []) 28,
 mo (.bin false .eql (.t 28) (.c (.int .u8 44))) 29]))
 (.cond (.t 29)
 (sR [oV 0 30,
 mo (.nck (.t 30)) 31,
 oF 1 31 32,
 oL 32 33,
 mo (.bin true .add (.t 33) (cI 1)) 34,
 mo (.nck (.t 30)) 35,
 oF 1 35 36,
 ⟨.st 1 (.t 36) (.t 34),none,none⟩]
 (.note (.gc [0,2,4,46,47,48]) (.reg [oV 0 37,
 mo (.call (.f 109) [(.t 37)] [1000] []) 38,
 oF 4 4 39,
 ⟨.st 1 (.t 39) (.t 38),none,none⟩])))
 .skip))
 mc_5j))))))))
theorem Wq_6 {n:Nat} (ih_ref05_parser_atom:∀{p_:Gparser} {y:GNode×Gparser},FR_b n p_=some y→ACall Tryz.prog 108 [.ptr 1000 0] [(1000,.cells [.str p_.s_,.int .i64 p_.at_,.bool p_.bad_])] (fun r H=>r=GNode.v y.1∧H=[(1000,.cells [.str y.2.s_,.int .i64 y.2.at_,.bool y.2.bad_])])) (ih_ref05_parser_item:∀{p_:Gparser} {y:GNode×Gparser},FR_6 n p_=some y→ACall Tryz.prog 96 [.ptr 1000 0] [(1000,.cells [.str p_.s_,.int .i64 p_.at_,.bool p_.bad_])] (fun r H=>r=GNode.v y.1∧H=[(1000,.cells [.str y.2.s_,.int .i64 y.2.at_,.bool y.2.bad_])])) (ih_ref05_parser_seq:∀{p_:Gparser} {y:GNode×Gparser},FR_a n p_=some y→ACall Tryz.prog 85 [.ptr 1000 0] [(1000,.cells [.str p_.s_,.int .i64 p_.at_,.bool p_.bad_])] (fun r H=>r=GNode.v y.1∧H=[(1000,.cells [.str y.2.s_,.int .i64 y.2.at_,.bool y.2.bad_])])) (ih_ref05_parser_choice:∀{p_:Gparser} {y:GNode×Gparser},FR_4 n p_=some y→ACall Tryz.prog 70 [.ptr 1000 0] [(1000,.cells [.str p_.s_,.int .i64 p_.at_,.bool p_.bad_])] (fun r H=>r=GNode.v y.1∧H=[(1000,.cells [.str y.2.s_,.int .i64 y.2.at_,.bool y.2.bad_])])) (p_:Gparser) {Q:GNode×Gparser→Prop} {Q':V→Heap→Prop} (h:Ok (FR_6 (n+1) p_) Q) (hQ:∀z,Q z→Q' (GNode.v z.1) [(1000,.cells [.str z.2.s_,.int .i64 z.2.at_,.bool z.2.bad_])]):ACall Tryz.prog 96 [.ptr 1000 0] [(1000,.cells [.str p_.s_,.int .i64 p_.at_,.bool p_.bad_])] Q':=by
 refine acallM mc_6 [.fzc 2] [1000] [.c 2 (some 5)] Tryz.func96 fun M=>?_
 simp only [FR_6] at h
 unfold mc_6
 replace h:=tY h
 refine tB ?_
 repeat' (first
 | (exact tZ)
 | ((first|refine oblg h ?_|refine roomG h ?_|refine fork h ?_ ?_|refine forkS h ?_ ?_)<;>clear h<;>intro hc h)
 | (obtain ⟨y,hy,h⟩:=h;(first|with_reducible first|have hw:=ih_ref05_parser_atom hy|have hw:=Wq_1.w hy|have hw:=Wq_1f.w hy);replace hw:=tY hw;(first|refine M.sC hw ?_|refine M.sD hw ?_);clear hw hy;refine tB ?_)
 | (refine M.gj1 (ms:=mg_5i) [0,2,4,40] [1000,4,19,2] (fun y=>[(49,.bool y)]) (fun y=>[]) h ?_ ?_<;>first
 | (clear h;intro Qn K hK1 h;unfold mg_5i;replace h:=tY h;refine tB ?_)
  |(clear h;intro y h;replace h:=tY h;refine tB ?_))
 | (refine M.jn1 (b:=mc_5j) [0,2,4] [4,19,2] (fun y=>[]) (fun y=>[.p 4 3 [.int .i64 y.1],.p 4 4 [.int .i64 y.2.1],.o 1000 (.cells [.str y.2.2.s_,.int .i64 y.2.2.at_,.bool y.2.2.bad_])]) [] h ?_ ?_<;>first
 | (clear h;intro Qn K hK2 h;replace h:=tY h;refine tB ?_)
  |(clear h;intro y h;unfold mc_5j;replace h:=tY h;refine tB ?_))
 | ((first|refine hK1 _ ?_|refine hK2 _ ?_);(try refine tB ?_);refine ⟨_,h,?_⟩;exact tU0;done)
 | (refine tE ?_;(first|rw [M.lok_compU]|rw [M.lokD_compU]);refine tB ?_)
 | (refine tA ?_)
 | fail)
@[irreducible] def mc_5k:MC :=
 (.seq (.seq (.regD [oV 0 4,
 mo (.nck (.t 4)) 5,
 oF 1 5 6,
 oL 6 7,
 oV 0 8,
 mo (.nck (.t 8)) 9,
 oF 0 9 10,
 oL 10 11,
 mo (.len true (.t 11)) 12,
 mo (.bin false .lss (.t 7) (.t 12)) 13,
 oV 13 14,
 gT 14 15 (.mv (.t 0)),
 gT 14 16 (.call (.f 86) [(.t 15)] [1000] []),
 gT 14 17 (.bin false .neq (.t 16) (.c (.int .u8 124))),
 mo (.pick (.t 14) (.t 17) (.c (.bool false))) 18,
 oV 18 19,
 gT 19 20 (.mv (.t 0)),
 gT 19 21 (.call (.f 86) [(.t 20)] [1000] []),
 gT 19 22 (.bin false .neq (.t 21) (.c (.int .u8 41))),
 mo (.pick (.t 19) (.t 22) (.c (.bool false))) 23,
 oV 23 24,
 gT 24 25 (.mv (.t 0)),
 gT 24 26 (.nck (.t 25)),
 gT 24 27 (.fad 2 (.t 26)),
 gT 24 28 (.ld none (.t 27)),
 gT 24 29 (.not (.t 28)),
 mo (.pick (.t 24) (.t 29) (.c (.bool false))) 30]
 [[],[0],[1],[2],[],[4],[5],[6],[7],[3,8],[9],[10],[11,10,10],[12,10],[10,13],[14,12],[15],[16,15,15],[17,15],[15,18],[19,17],[20],[21,20],[22,20],[23,20],[24,20],[20,25]]
 [[],[0],[0,1],[0,1,2],[],[4],[4,5],[4,5,6],[4,5,6,7],[0,1,2,3,4,5,6,7,8],[0,1,2,3,4,5,6,7,8,9],[0,1,2,3,4,5,6,7,8,9,10],[0,1,2,3,4,5,6,7,8,9,10,11],[0,1,2,3,4,5,6,7,8,9,10,11,12],[0,1,2,3,4,5,6,7,8,9,10,11,12,13],[0,1,2,3,4,5,6,7,8,9,10,11,12,13,14],[0,1,2,3,4,5,6,7,8,9,10,11,12,13,14,15],[0,1,2,3,4,5,6,7,8,9,10,11,12,13,14,15,16],[0,1,2,3,4,5,6,7,8,9,10,11,12,13,14,15,16,17],[0,1,2,3,4,5,6,7,8,9,10,11,12,13,14,15,16,17,18],[0,1,2,3,4,5,6,7,8,9,10,11,12,13,14,15,16,17,18,19],[0,1,2,3,4,5,6,7,8,9,10,11,12,13,14,15,16,17,18,19,20],[0,1,2,3,4,5,6,7,8,9,10,11,12,13,14,15,16,17,18,19,20,21],[0,1,2,3,4,5,6,7,8,9,10,11,12,13,14,15,16,17,18,19,20,21,22],[0,1,2,3,4,5,6,7,8,9,10,11,12,13,14,15,16,17,18,19,20,21,22,23],[0,1,2,3,4,5,6,7,8,9,10,11,12,13,14,15,16,17,18,19,20,21,22,23,24],[0,1,2,3,4,5,6,7,8,9,10,11,12,13,14,15,16,17,18,19,20,21,22,23,24,25]])
 (.cond (.t 30)
 .skip
 (.exit 0)))
 (.block 1
 (.note (.gc [0,2,3,15,16,17,20,21,22,25,26,27,28,29]) (.reg [oV 3 31,
 oV 0 32,
 mo (.call (.f 96) [(.t 32)] [1000] []) 33,
 mo (.bslice 5 [(.t 33)]) 34,
 mo (.app 5 72 (.t 31) (.t 34)) 35,
 oV 35 3]))))
def mc_a:MC :=
 (sR [mo (.alloc [(.int .i64 0),(.sl []),(.sl []),(.int .i64 0),(.int .i64 0)]) 2]
 (sR [mo (.mv (.c .nils)) 3]
 (.seq (.block 0
 (.loop mc_5k))
 (.seq (sR [oV 3 36,
 mo (.len false (.t 36)) 37,
 mo (.bin false .eql (.t 37) (cI 0)) 38]
 (.cond (.t 38)
 (sR [oV 0 39,
 mo (.nck (.t 39)) 40,
 oF 2 40 41,
 ⟨.st 1 (.t 41) (.c (.bool true)),none,none⟩]
 (sR [mo (.build [(.int .i64 0),(.sl []),(.sl []),(.int .i64 0),(.int .i64 0)] []) 42,
 ⟨.st 5 (.t 2) (.t 42),none,none⟩]
 .ret))
 .skip))
 (.seq (sR [oV 3 43,
 mo (.len false (.t 43)) 44,
 mo (.bin false .eql (.t 44) (cI 1)) 45]
 (.cond (.t 45)
 (sR [oV 3 46,
 mo (.iad 5 (.t 46) (cI 0)) 47,
 mo (.ld (some 5) (.t 47)) 48,
 ⟨.st 5 (.t 2) (.t 48),none,none⟩]
 .ret)
 .skip))
 (sR [oV 3 49,
 mo (.build [(.int .i64 0),(.sl []),(.sl []),(.int .i64 0),(.int .i64 0)] [(0,1,(cI 2)),(2,1,(.t 49))]) 50,
 ⟨.st 5 (.t 2) (.t 50),none,none⟩]
 .ret))))))
theorem Wq_a {n:Nat} (ih_ref05_parser_atom:∀{p_:Gparser} {y:GNode×Gparser},FR_b n p_=some y→ACall Tryz.prog 108 [.ptr 1000 0] [(1000,.cells [.str p_.s_,.int .i64 p_.at_,.bool p_.bad_])] (fun r H=>r=GNode.v y.1∧H=[(1000,.cells [.str y.2.s_,.int .i64 y.2.at_,.bool y.2.bad_])])) (ih_ref05_parser_item:∀{p_:Gparser} {y:GNode×Gparser},FR_6 n p_=some y→ACall Tryz.prog 96 [.ptr 1000 0] [(1000,.cells [.str p_.s_,.int .i64 p_.at_,.bool p_.bad_])] (fun r H=>r=GNode.v y.1∧H=[(1000,.cells [.str y.2.s_,.int .i64 y.2.at_,.bool y.2.bad_])])) (ih_ref05_parser_seq:∀{p_:Gparser} {y:GNode×Gparser},FR_a n p_=some y→ACall Tryz.prog 85 [.ptr 1000 0] [(1000,.cells [.str p_.s_,.int .i64 p_.at_,.bool p_.bad_])] (fun r H=>r=GNode.v y.1∧H=[(1000,.cells [.str y.2.s_,.int .i64 y.2.at_,.bool y.2.bad_])])) (ih_ref05_parser_choice:∀{p_:Gparser} {y:GNode×Gparser},FR_4 n p_=some y→ACall Tryz.prog 70 [.ptr 1000 0] [(1000,.cells [.str p_.s_,.int .i64 p_.at_,.bool p_.bad_])] (fun r H=>r=GNode.v y.1∧H=[(1000,.cells [.str y.2.s_,.int .i64 y.2.at_,.bool y.2.bad_])])) (p_:Gparser) {Q:GNode×Gparser→Prop} {Q':V→Heap→Prop} (h:Ok (FR_a (n+1) p_) Q) (hQ:∀z,Q z→Q' (GNode.v z.1) [(1000,.cells [.str z.2.s_,.int .i64 z.2.at_,.bool z.2.bad_])]):ACall Tryz.prog 85 [.ptr 1000 0] [(1000,.cells [.str p_.s_,.int .i64 p_.at_,.bool p_.bad_])] Q':=by
 refine acallM mc_a [.fzc 2] [1000] [.c 2 (some 5)] Tryz.func85 fun M=>?_
 simp only [FR_a] at h
 unfold mc_a
 replace h:=tY h
 refine tB ?_
 repeat' (first
 | (exact tZ)
 | ((first|refine oblg h ?_|refine roomG h ?_|refine fork h ?_ ?_|refine forkS h ?_ ?_)<;>clear h<;>intro hc h)
 | (obtain ⟨y,hy,h⟩:=h;(first|with_reducible first|have hw:=Wq_1.w hy|have hw:=ih_ref05_parser_item hy);replace hw:=tY hw;(first|refine M.sC hw ?_|refine M.sD hw ?_);clear hw hy;refine tB ?_)
 | (refine M.wh1 (b:=mc_5k) [0,2] [2] (fun x=>[(3,.osl 2003 5 0 x.1.length)]) (fun x=>[.o 2003 (.arr 5 (x.1.map GNode.v)),.o 1000 (.cells [.str x.2.s_,.int .i64 x.2.at_,.bool x.2.bad_])]) [.gc [0,2,3],.acc 3 2003 5] h ?_ ?_<;>first
 | (clear h;intro x Qn K hK1 h;unfold mc_5k;replace h:=tY h;refine tB ?_)
  |(clear h;(try refine tB ?_);exact tU0;done))
 | (refine hK1 _ ?_;(try refine tB ?_);refine ⟨_,h,?_⟩;exact tU0;done)
 | (refine tE ?_;(first|rw [M.lok_compU]|rw [M.lokD_compU]);refine tB ?_)
 | (refine tA ?_)
 | fail)
@[irreducible] def mg_5l:List MOp:=[gT 10 11 (.mv (.t 0)),
 gT 10 12 (.nck (.t 11)),
 gT 10 13 (.fad 2 (.t 12)),
 gT 10 14 (.ld none (.t 13)),
 gT 10 15 (.not (.t 14)),
 mo (.pick (.t 10) (.t 15) (.c (.bool false))) 16]
@[irreducible] def mc_5m:MC :=
 (.seq (.seq (.regI [.op (oV 0 7),
 .op (mo (.call (.f 86) [(.t 7)] [1000] []) 8),
 .op (mo (.bin false .eql (.t 8) (.c (.int .u8 124))) 9),
 .op (oV 9 10),
 .grp mg_5l])
 (.cond (.t 16)
 .skip
 (.exit 0)))
 (.block 1
 (sR [oV 0 17,
 mo (.nck (.t 17)) 18,
 oF 1 18 19,
 oL 19 20,
 mo (.bin true .add (.t 20) (cI 1)) 21,
 mo (.nck (.t 17)) 22,
 oF 1 22 23,
 ⟨.st 1 (.t 23) (.t 21),none,none⟩]
 (.note (.gc [0,2,3,11,12,13,14,15]) (.reg [oV 3 24,
 oV 0 25,
 mo (.call (.f 85) [(.t 25)] [1000] []) 26,
 mo (.bslice 5 [(.t 26)]) 27,
 mo (.app 5 72 (.t 24) (.t 27)) 28,
 oV 28 3])))))
def mc_4:MC :=
 (sR [mo (.alloc [(.int .i64 0),(.sl []),(.sl []),(.int .i64 0),(.int .i64 0)]) 2]
 (sR [oV 0 4,
 mo (.call (.f 85) [(.t 4)] [1000] []) 5,
 mo (.bslice 5 [(.t 5)]) 6,
 oV 6 3]
 (.seq (.block 0
 (.loop mc_5m))
 (.seq (sR [oV 3 29,
 mo (.len false (.t 29)) 30,
 mo (.bin false .eql (.t 30) (cI 1)) 31]
 (.cond (.t 31)
 (sR [oV 3 32,
 mo (.iad 5 (.t 32) (cI 0)) 33,
 mo (.ld (some 5) (.t 33)) 34,
 ⟨.st 5 (.t 2) (.t 34),none,none⟩]
 .ret)
 .skip))
 (sR [oV 3 35,
 mo (.build [(.int .i64 0),(.sl []),(.sl []),(.int .i64 0),(.int .i64 0)] [(0,1,(cI 3)),(2,1,(.t 35))]) 36,
 ⟨.st 5 (.t 2) (.t 36),none,none⟩]
 .ret)))))
theorem Wq_4 {n:Nat} (ih_ref05_parser_atom:∀{p_:Gparser} {y:GNode×Gparser},FR_b n p_=some y→ACall Tryz.prog 108 [.ptr 1000 0] [(1000,.cells [.str p_.s_,.int .i64 p_.at_,.bool p_.bad_])] (fun r H=>r=GNode.v y.1∧H=[(1000,.cells [.str y.2.s_,.int .i64 y.2.at_,.bool y.2.bad_])])) (ih_ref05_parser_item:∀{p_:Gparser} {y:GNode×Gparser},FR_6 n p_=some y→ACall Tryz.prog 96 [.ptr 1000 0] [(1000,.cells [.str p_.s_,.int .i64 p_.at_,.bool p_.bad_])] (fun r H=>r=GNode.v y.1∧H=[(1000,.cells [.str y.2.s_,.int .i64 y.2.at_,.bool y.2.bad_])])) (ih_ref05_parser_seq:∀{p_:Gparser} {y:GNode×Gparser},FR_a n p_=some y→ACall Tryz.prog 85 [.ptr 1000 0] [(1000,.cells [.str p_.s_,.int .i64 p_.at_,.bool p_.bad_])] (fun r H=>r=GNode.v y.1∧H=[(1000,.cells [.str y.2.s_,.int .i64 y.2.at_,.bool y.2.bad_])])) (ih_ref05_parser_choice:∀{p_:Gparser} {y:GNode×Gparser},FR_4 n p_=some y→ACall Tryz.prog 70 [.ptr 1000 0] [(1000,.cells [.str p_.s_,.int .i64 p_.at_,.bool p_.bad_])] (fun r H=>r=GNode.v y.1∧H=[(1000,.cells [.str y.2.s_,.int .i64 y.2.at_,.bool y.2.bad_])])) (p_:Gparser) {Q:GNode×Gparser→Prop} {Q':V→Heap→Prop} (h:Ok (FR_4 (n+1) p_) Q) (hQ:∀z,Q z→Q' (GNode.v z.1) [(1000,.cells [.str z.2.s_,.int .i64 z.2.at_,.bool z.2.bad_])]):ACall Tryz.prog 70 [.ptr 1000 0] [(1000,.cells [.str p_.s_,.int .i64 p_.at_,.bool p_.bad_])] Q':=by
 refine acallM mc_4 [.fzc 2] [1000] [.c 2 (some 5)] Tryz.func70 fun M=>?_
 simp only [FR_4] at h
 unfold mc_4
 replace h:=tY h
 refine tB ?_
 repeat' (first
 | (exact tZ)
 | ((first|refine oblg h ?_|refine roomG h ?_|refine fork h ?_ ?_|refine forkS h ?_ ?_)<;>clear h<;>intro hc h)
 | (obtain ⟨y,hy,h⟩:=h;(first|with_reducible first|have hw:=ih_ref05_parser_seq hy|have hw:=Wq_1.w hy);replace hw:=tY hw;(first|refine M.sC hw ?_|refine M.sD hw ?_);clear hw hy;refine tB ?_)
 | (refine M.gv1 (ms:=mg_5l) 16 [11,12,13,14,15] h ?_ ?_<;>first
 | (clear h;intro K hK1;unfold mg_5l;refine tB ?_)
 | (clear h;intro b h;replace h:=tY h;refine tB ?_))
 | (refine M.wh1 (b:=mc_5m) [0,2] [2] (fun x=>[(3,.osl 2003 5 0 x.1.length)]) (fun x=>[.o 2003 (.arr 5 (x.1.map GNode.v)),.o 1000 (.cells [.str x.2.s_,.int .i64 x.2.at_,.bool x.2.bad_])]) [.gc [0,2,3],.acc 3 2003 5] h ?_ ?_<;>first
 | (clear h;intro x Qn K hK2 h;unfold mc_5m;replace h:=tY h;refine tB ?_)
  |(clear h;(try refine tB ?_);exact tU0;done))
 | (refine hK1 _ ?_;exact tU;done)
 | (refine hK2 _ ?_;(try refine tB ?_);refine ⟨_,h,?_⟩;exact tU0;done)
 | (refine bfork (fun hc=>?_) (fun hc=>?_))
 | (refine tE ?_;(first|rw [M.lok_compU]|rw [M.lokD_compU]);refine tB ?_)
 | (refine tA ?_)
 | fail)
theorem WG_5u:∀n,(∀{p_:Gparser} {y:GNode×Gparser},FR_b n p_=some y→ACall Tryz.prog 108 [.ptr 1000 0] [(1000,.cells [.str p_.s_,.int .i64 p_.at_,.bool p_.bad_])] (fun r H=>r=GNode.v y.1∧H=[(1000,.cells [.str y.2.s_,.int .i64 y.2.at_,.bool y.2.bad_])]))∧(∀{p_:Gparser} {y:GNode×Gparser},FR_6 n p_=some y→ACall Tryz.prog 96 [.ptr 1000 0] [(1000,.cells [.str p_.s_,.int .i64 p_.at_,.bool p_.bad_])] (fun r H=>r=GNode.v y.1∧H=[(1000,.cells [.str y.2.s_,.int .i64 y.2.at_,.bool y.2.bad_])]))∧(∀{p_:Gparser} {y:GNode×Gparser},FR_a n p_=some y→ACall Tryz.prog 85 [.ptr 1000 0] [(1000,.cells [.str p_.s_,.int .i64 p_.at_,.bool p_.bad_])] (fun r H=>r=GNode.v y.1∧H=[(1000,.cells [.str y.2.s_,.int .i64 y.2.at_,.bool y.2.bad_])]))∧(∀{p_:Gparser} {y:GNode×Gparser},FR_4 n p_=some y→ACall Tryz.prog 70 [.ptr 1000 0] [(1000,.cells [.str p_.s_,.int .i64 p_.at_,.bool p_.bad_])] (fun r H=>r=GNode.v y.1∧H=[(1000,.cells [.str y.2.s_,.int .i64 y.2.at_,.bool y.2.bad_])]))
 | 0=>⟨fun hy=>(by simp only [FR_b] at hy;cases hy),fun hy=>(by simp only [FR_6] at hy;cases hy),fun hy=>(by simp only [FR_a] at hy;cases hy),fun hy=>(by simp only [FR_4] at hy;cases hy)⟩
 | n+1=>by
  obtain ⟨ih_ref05_parser_atom,ih_ref05_parser_item,ih_ref05_parser_seq,ih_ref05_parser_choice⟩:=WG_5u n
  refine ⟨?_,?_,?_,?_⟩
  ·exact fun hy=>Wq_b ih_ref05_parser_atom ih_ref05_parser_item ih_ref05_parser_seq ih_ref05_parser_choice _ (Q:=(·=_)) ⟨_,hy,rfl⟩ fun|_,rfl=>⟨rfl,rfl⟩
  ·exact fun hy=>Wq_6 ih_ref05_parser_atom ih_ref05_parser_item ih_ref05_parser_seq ih_ref05_parser_choice _ (Q:=(·=_)) ⟨_,hy,rfl⟩ fun|_,rfl=>⟨rfl,rfl⟩
  ·exact fun hy=>Wq_a ih_ref05_parser_atom ih_ref05_parser_item ih_ref05_parser_seq ih_ref05_parser_choice _ (Q:=(·=_)) ⟨_,hy,rfl⟩ fun|_,rfl=>⟨rfl,rfl⟩
  ·exact fun hy=>Wq_4 ih_ref05_parser_atom ih_ref05_parser_item ih_ref05_parser_seq ih_ref05_parser_choice _ (Q:=(·=_)) ⟨_,hy,rfl⟩ fun|_,rfl=>⟨rfl,rfl⟩
theorem W_4:∀{p_:Gparser} {y:GNode×Gparser},F_4 p_=some y→ACall Tryz.prog 70 [.ptr 1000 0] [(1000,.cells [.str p_.s_,.int .i64 p_.at_,.bool p_.bad_])] (fun r H=>r=GNode.v y.1∧H=[(1000,.cells [.str y.2.s_,.int .i64 y.2.at_,.bool y.2.bad_])]):=fun hy=>by
 obtain ⟨n,hn⟩:=lim_inv hy
 exact (WG_5u n).2.2.2 hn
noncomputable def F_24 (s_:Str):Option (GNode×Bool) :=
 (F_4 (Gparser.mk s_ 0 false)).bind fun y2=>grp ((y2.2.bad_||(!decide (y2.2.at_=(s_.length:Int))))) fun b6=>bif b6 then some ((GNode.mk 0 [] [] 0 0),false) else (F_1e y2.1).bind fun y12=>grp (((!decide (y12.2=0))||(!decide (y12.1=s_)))) fun b14=>bif b14 then some ((GNode.mk 0 [] [] 0 0),false) else some (y2.1,true)
@[irreducible] def mg_5n:List MOp:=[gF 17 18 (.mv (.t 4)),
 gF 17 19 (.nck (.t 18)),
 gF 17 20 (.fad 1 (.t 19)),
 gF 17 21 (.ld none (.t 20)),
 gF 17 22 (.mv (.t 0)),
 gF 17 23 (.len true (.t 22)),
 gF 17 24 (.bin false .neq (.t 21) (.t 23)),
 mo (.pick (.t 17) (.c (.bool true)) (.t 24)) 25]
@[irreducible] def mg_5o:List MOp:=[gF 34 35 (.mv (.t 6)),
 gF 34 36 (.mv (.t 0)),
 gF 34 37 (.bin false .neq (.t 35) (.t 36)),
 mo (.pick (.t 34) (.c (.bool true)) (.t 37)) 38]
def mc_24:MC :=
 (sR [mo (.alloc [(.int .i64 0),(.sl []),(.sl []),(.int .i64 0),(.int .i64 0)]) 2,
 mo (.mv (.c (.bool false))) 3]
 (sR [oV 0 8,
 mo (.build [(.str []),(.int .i64 0),(.bool false)] [(0,1,(.t 8))]) 9,
 mo (.box (.t 9)) 10,
 oV 10 4]
 (sR [oV 4 11,
 mo (.call (.f 70) [(.t 11)] [10] []) 12,
 mo (.alloc [(.int .i64 0),(.sl []),(.sl []),(.int .i64 0),(.int .i64 0)]) 5,
 ⟨.st 5 (.t 5) (.t 12),none,none⟩]
 (.seq (.seq (.regI [.op (oV 4 13),
 .op (mo (.nck (.t 13)) 14),
 .op (oF 2 14 15),
 .op (oL 15 16),
 .op (oV 16 17),
 .grp mg_5n])
 (.cond (.t 25)
 (.seq (.note (.gc [2]) (.reg [mo (.build [(.int .i64 0),(.sl []),(.sl []),(.int .i64 0),(.int .i64 0)] []) 26,
 ⟨.st 5 (.t 2) (.t 26),none,none⟩,
 mo (.mv (.c (.bool false))) 3]))
 .ret)
 .skip))
 (.seq (.seq (.note (.gc [0,2,5,35,36,37]) (.reg [mo (.ld (some 5) (.t 5)) 28,
 mo (.call (.f 24) [(.t 28)] [] []) 29,
 oV 29 27,
 mo (.ext 0 (.t 27)) 30,
 mo (.ext 1 (.t 27)) 31,
 oV 30 6,
 oV 31 7]))
 (.seq (.regI [.op (oV 7 32),
 .op (mo (.bin false .neq (.t 32) (cI 0)) 33),
 .op (oV 33 34),
 .grp mg_5o])
 (.cond (.t 38)
 (.seq (.note (.gc [2]) (.reg [mo (.build [(.int .i64 0),(.sl []),(.sl []),(.int .i64 0),(.int .i64 0)] []) 39,
 ⟨.st 5 (.t 2) (.t 39),none,none⟩,
 mo (.mv (.c (.bool false))) 3]))
 .ret)
 .skip)))
 (.seq (.note (.gc [2,5]) (.reg [mo (.ld (some 5) (.t 5)) 40,
 ⟨.st 5 (.t 2) (.t 40),none,none⟩,
 mo (.mv (.c (.bool true))) 3]))
 .ret))))))
theorem Wq_24 {s_:Str}:Cn Tryz.prog 52 [.str s_] [] (F_24 s_) (fun z=>.tup [GNode.v z.1,.bool z.2]) (fun z=>[]):=fun Q Q' h hQ=>by
 refine acallM mc_24 [.fzc 2] [] [.c 2 (some 5),.t 3] Tryz.func52 fun M=>?_
 unfold F_24 at h
 unfold mc_24
 replace h:=tY h
 refine tB ?_
 repeat' (first
 | (exact tZ)
 | ((first|refine oblg h ?_|refine roomG h ?_|refine fork h ?_ ?_|refine forkS h ?_ ?_)<;>clear h<;>intro hc h)
 | (obtain ⟨y,hy,h⟩:=h;(first|(with_reducible first|have hw:=Wq_1e.w hy)|have hw:=acall_swe 1000 10 (W_4 hy));replace hw:=tY hw;(first|refine M.sC hw ?_|refine M.sD hw ?_);clear hw hy;refine tB ?_)
 | (refine M.gv1 (ms:=mg_5o) 38 [35,36,37] h ?_ ?_<;>first
 | (clear h;intro K hK1;unfold mg_5o;refine tB ?_)
 | (clear h;intro b h;replace h:=tY h;refine tB ?_))
 | (refine M.gv1 (ms:=mg_5n) 25 [18,19,20,21,22,23,24] h ?_ ?_<;>first
 | (clear h;intro K hK2;unfold mg_5n;refine tB ?_)
 | (clear h;intro b h;replace h:=tY h;refine tB ?_))
 | ((first|refine hK1 _ ?_|refine hK2 _ ?_);exact tU;done)
 | (refine bfork (fun hc=>?_) (fun hc=>?_))
 | (refine tE ?_;(first|rw [M.lok_compU]|rw [M.lokD_compU]);refine tB ?_)
 | (refine tA ?_)
 | fail)
noncomputable def F_1z (s_:Str):Option (GNode×Int) :=
 bif decide (4000<(s_.length:Int)) then some ((GNode.mk 0 [] [] 0 0),3) else (F_24 s_).bind fun y2=>bif (!y2.2) then some ((GNode.mk 0 [] [] 0 0),4) else some (y2.1,0)
def mc_1z:MC :=
 (sR [mo (.alloc [(.int .i64 0),(.sl []),(.sl []),(.int .i64 0),(.int .i64 0)]) 2,
 oC 0 3]
 (.seq (sR [oV 0 6,
 mo (.len true (.t 6)) 7,
 mo (.bin false .gtr (.t 7) (cI 4000)) 8]
 (.cond (.t 8)
 (sR [mo (.build [(.int .i64 0),(.sl []),(.sl []),(.int .i64 0),(.int .i64 0)] []) 9,
 ⟨.st 5 (.t 2) (.t 9),none,none⟩,
 oC 3 3]
 .ret)
 .skip))
 (sR [oV 0 11,
 mo (.call (.f 52) [(.t 11)] [] []) 12,
 oV 12 10,
 mo (.ext 0 (.t 10)) 13,
 mo (.ext 1 (.t 10)) 14,
 mo (.alloc [(.int .i64 0),(.sl []),(.sl []),(.int .i64 0),(.int .i64 0)]) 4,
 ⟨.st 5 (.t 4) (.t 13),none,none⟩,
 oV 14 5]
 (.seq (sR [oV 5 15,
 mo (.not (.t 15)) 16]
 (.cond (.t 16)
 (.seq (.note (.gc [2]) (.reg [mo (.build [(.int .i64 0),(.sl []),(.sl []),(.int .i64 0),(.int .i64 0)] []) 17,
 ⟨.st 5 (.t 2) (.t 17),none,none⟩,
 oC 4 3]))
 .ret)
 .skip))
 (.seq (.note (.gc [2,4]) (.reg [mo (.ld (some 5) (.t 4)) 18,
 ⟨.st 5 (.t 2) (.t 18),none,none⟩,
 oC 0 3]))
 .ret)))))
theorem Wq_1z {s_:Str}:Cn Tryz.prog 28 [.str s_] [] (F_1z s_) (fun z=>.tup [GNode.v z.1,.int .i64 z.2]) (fun z=>[]):=fun Q Q' h hQ=>by
 refine acallM mc_1z [.fzc 2] [] [.c 2 (some 5),.t 3] Tryz.func28 fun M=>?_
 unfold F_1z at h
 unfold mc_1z
 replace h:=tY h
 refine tB ?_
 repeat' (first
 | (exact tZ)
 | ((first|refine oblg h ?_|refine roomG h ?_|refine fork h ?_ ?_|refine forkS h ?_ ?_)<;>clear h<;>intro hc h)
 | (obtain ⟨y,hy,h⟩:=h;have hw:=Wq_24.w hy;replace hw:=tY hw;(first|refine M.sC hw ?_|refine M.sD hw ?_);clear hw hy;refine tB ?_)
 | (refine tE ?_;(first|rw [M.lok_compU]|rw [M.lokD_compU]);refine tB ?_)
 | (refine tA ?_)
 | fail)
noncomputable def F_2h (s_:Str) (at_:Int) (by_:UInt8) (y4:Str×Int) (x53:Int):Option (Fl Int (Sum Unit Bool)) :=
 bif decide (x53<([s_,y4.1,y4.1.set ((((at_ % 2^8) % (y4.1.length:Int))).toNat) (([40,41,91,93,123,125,124,45,48,97,44,92]:Str).getD (((by_.toNat:Int) % 12)).toNat 0),(y4.1++[123,50,125]),((([40]:Str)++y4.1)++[41]),(y4.1++[124,97]),(y4.1.drop 1)].length:Int)) then jn (α:=Fl Unit Bool) (chk (inb x53 [s_,y4.1,y4.1.set ((((at_ % 2^8) % (y4.1.length:Int))).toNat) (([40,41,91,93,123,125,124,45,48,97,44,92]:Str).getD (((by_.toNat:Int) % 12)).toNat 0),(y4.1++[123,50,125]),((([40]:Str)++y4.1)++[41]),(y4.1++[124,97]),(y4.1.drop 1)].length) (bif decide (600<(([s_,y4.1,y4.1.set ((((at_ % 2^8) % (y4.1.length:Int))).toNat) (([40,41,91,93,123,125,124,45,48,97,44,92]:Str).getD (((by_.toNat:Int) % 12)).toNat 0),(y4.1++[123,50,125]),((([40]:Str)++y4.1)++[41]),(y4.1++[124,97]),(y4.1.drop 1)].getD ((x53).toNat) default).length:Int)) then some (.nx ()) else chk (inb x53 [s_,y4.1,y4.1.set ((((at_ % 2^8) % (y4.1.length:Int))).toNat) (([40,41,91,93,123,125,124,45,48,97,44,92]:Str).getD (((by_.toNat:Int) % 12)).toNat 0),(y4.1++[123,50,125]),((([40]:Str)++y4.1)++[41]),(y4.1++[124,97]),(y4.1.drop 1)].length) ((F_1a ([s_,y4.1,y4.1.set ((((at_ % 2^8) % (y4.1.length:Int))).toNat) (([40,41,91,93,123,125,124,45,48,97,44,92]:Str).getD (((by_.toNat:Int) % 12)).toNat 0),(y4.1++[123,50,125]),((([40]:Str)++y4.1)++[41]),(y4.1++[124,97]),(y4.1.drop 1)].getD ((x53).toNat) default)).bind fun y70=>chk (inb x53 [s_,y4.1,y4.1.set ((((at_ % 2^8) % (y4.1.length:Int))).toNat) (([40,41,91,93,123,125,124,45,48,97,44,92]:Str).getD (((by_.toNat:Int) % 12)).toNat 0),(y4.1++[123,50,125]),((([40]:Str)++y4.1)++[41]),(y4.1++[124,97]),(y4.1.drop 1)].length) ((F_1z ([s_,y4.1,y4.1.set ((((at_ % 2^8) % (y4.1.length:Int))).toNat) (([40,41,91,93,123,125,124,45,48,97,44,92]:Str).getD (((by_.toNat:Int) % 12)).toNat 0),(y4.1++[123,50,125]),((([40]:Str)++y4.1)++[41]),(y4.1++[124,97]),(y4.1.drop 1)].getD ((x53).toNat) default)).bind fun y72=>bif (!decide (y70.2=y72.2)) then some (.ex false) else (F_q y70.1 y72.1).bind fun y74=>bif (!y74) then some (.ex false) else some (.nx ()))))) fun o=>o.elim (fun j68=>chk (in64 (x53+1)) (some (.nx (x53+1)))) (fun r75=>some (.ex (.inr r75))) else some (.ex (.inl ()))
noncomputable def F_25 (tape_:List Int) (s_:Str) (at_:Int) (by_:UInt8):Option Bool :=
 (F_7 (GTape.mk tape_ 0) 5).bind fun y3=>(F_1e y3.1).bind fun y4=>bif (!decide (y4.2=0)) then some false else chk (divs (at_ % 2^8) (y4.1.length:Int)) (chk (divs (by_.toNat:Int) 12) (chk (inb ((by_.toNat:Int) % 12) [40,41,91,93,123,125,124,45,48,97,44,92].length) (chk (inb ((at_ % 2^8) % (y4.1.length:Int)) y4.1.length) (chk (strl (y4.1.length+[123,50,125].length)) (chk (strl ([40].length+y4.1.length)) (chk (strl ((([40]:Str)++y4.1).length+[41].length)) (chk (strl (y4.1.length+[124,97].length)) (chk (inc 1 (y4.1.length:Int) y4.1.length) ((loop (F_2h s_ at_ by_ y4) 0).bind fun r76=>Sum.elim (fun u77=>F_1p.bind fun y80=>some y80) (fun u78=>some u78) r76)))))))))
@[irreducible] def mc_5p:MC :=
 (.reg [oV 14 60,
 mo (.bin true .add (.t 60) (cI 1)) 61,
 oV 61 14])
@[irreducible] def mc_2h:MC :=
 (.seq (sR [oV 14 56,
 oV 13 57,
 mo (.len false (.t 57)) 58,
 mo (.bin false .lss (.t 56) (.t 58)) 59]
 (.cond (.t 59)
 .skip
 (.exit 0)))
 (.cut (.block 1
 (.seq (sR [oV 13 62,
 oV 14 63,
 mo (.iad 1 (.t 62) (.t 63)) 64,
 oL 64 65,
 mo (.len true (.t 65)) 66,
 mo (.bin false .gtr (.t 66) (cI 600)) 67]
 (.cond (.t 67)
 (.exit 1)
 .skip))
 (.seq (.note (.gc [13,14,88,89,90,91]) (.reg [oV 13 69,
 oV 14 70,
 mo (.iad 1 (.t 69) (.t 70)) 71,
 oL 71 72,
 mo (.call (.f 27) [(.t 72)] [] []) 73,
 oV 73 68,
 mo (.ext 0 (.t 68)) 74,
 mo (.ext 1 (.t 68)) 75,
 mo (.alloc [(.int .i64 0),(.sl []),(.sl []),(.int .i64 0),(.int .i64 0)]) 15,
 ⟨.st 5 (.t 15) (.t 74),none,none⟩,
 oV 75 16]))
 (.seq (.note (.gc [13,14,15,16,88,89,90,91]) (.reg [oV 13 77,
 oV 14 78,
 mo (.iad 1 (.t 77) (.t 78)) 79,
 oL 79 80,
 mo (.call (.f 28) [(.t 80)] [] []) 81,
 oV 81 76,
 mo (.ext 0 (.t 76)) 82,
 mo (.ext 1 (.t 76)) 83,
 mo (.alloc [(.int .i64 0),(.sl []),(.sl []),(.int .i64 0),(.int .i64 0)]) 17,
 ⟨.st 5 (.t 17) (.t 82),none,none⟩,
 oV 83 18]))
 (.seq (.note (.gc [13,14,15,16,17,18,88,89,90,91]) (.reg [oV 16 84,
 oV 18 85,
 mo (.bin false .neq (.t 84) (.t 85)) 86,
 oV 86 87,
 gF 87 88 (.ld (some 5) (.t 15)),
 gF 87 89 (.ld (some 5) (.t 17)),
 gF 87 90 (.call (.f 21) [(.t 88),(.t 89)] [] []),
 gF 87 91 (.not (.t 90)),
 mo (.pick (.t 87) (.c (.bool true)) (.t 91)) 92]))
 (.cond (.t 92)
 (sR [mo (.mv (.c (.bool false))) 8]
 .ret)
 .skip))))))
 mc_5p))
def mc_25:MC :=
 (sR [mo (.mv (.c (.bool false))) 8]
 (sR [oV 0 19,
 mo (.build [(.sl []),(.int .i64 0)] [(0,1,(.t 19))]) 20,
 mo (.box (.t 20)) 21,
 oV 21 9]
 (sR [oV 9 23,
 mo (.call (.f 10) [(.t 23),(cI 5)] [21] []) 24,
 mo (.call (.f 24) [(.t 24)] [] []) 25,
 oV 25 22,
 mo (.ext 0 (.t 22)) 26,
 mo (.ext 1 (.t 22)) 27,
 oV 26 10,
 oV 27 11]
 (.seq (sR [oV 11 28,
 mo (.bin false .neq (.t 28) (cI 0)) 29]
 (.cond (.t 29)
 (sR [mo (.mv (.c (.bool false))) 8]
 .ret)
 .skip))
 (.seq (.note (.gc [1,2,3,10,88,89,90,91]) (.reg [oV 10 30,
 mo (.s2b (.t 30)) 31,
 oV 31 12]))
 (.seq (.regD [oV 12 32,
 oV 2 33,
 mo (.mask 8 (.t 33) .i64) 34,
 oV 12 35,
 mo (.len false (.t 35)) 36,
 mo (.bin true .rem (.t 34) (.t 36)) 37,
 oV 3 38,
 mo (.bin true .rem (.t 38) (.c (.int .u8 12))) 39,
 mo (.idx (.c (.str [40,41,91,93,123,125,124,45,48,97,44,92])) (.t 39)) 40,
 mo (.iad 1 (.t 32) (.t 37)) 41,
 ⟨.st 1 (.t 41) (.t 40),none,none⟩]
 [[],[],[1],[],[3],[2,4],[],[6],[7],[0,5,0,1,2,3,4,5,6,7,8],[9,8,0,1,2,3,4,5,6,7,8]]
 [[],[],[1],[],[3],[1,2,3,4],[],[6],[6,7],[0,1,2,3,4,5,6,7,8],[0,1,2,3,4,5,6,7,8,9]])
 (.seq (.note (.gc [1,10,12,88,89,90,91]) (.regD [oV 1 42,
 oV 10 43,
 oV 12 44,
 mo (.b2s (.t 44)) 45,
 oV 10 46,
 mo (.bin false .add (.t 46) (.c (.str [123,50,125]))) 47,
 oV 10 48,
 mo (.bin false .add (.c (.str [40])) (.t 48)) 49,
 mo (.bin false .add (.t 49) (.c (.str [41]))) 50,
 oV 10 51,
 mo (.bin false .add (.t 51) (.c (.str [124,97]))) 52,
 oV 10 53,
 mo (.sls (.t 53) (some (cI 1)) none) 54,
 mo (.bslice 1 [(.t 42),(.t 43),(.t 45),(.t 47),(.t 50),(.t 52),(.t 54)]) 55,
 oV 55 13]
 [[],[],[],[2],[],[4],[],[6],[7],[],[9],[],[11],[0,1,3,5,8,10,12],[13,0,1,2,3,4,5,6,7,8,9,10,11,12,13]]
 [[],[],[],[2],[],[4],[],[6],[6,7],[],[9],[],[11],[0,1,2,3,4,5,6,7,8,9,10,11,12],[0,1,2,3,4,5,6,7,8,9,10,11,12,13]]))
 (.seq (sR [oC 0 14]
 (.block 0
 (.loop mc_2h)))
 (sR [mo (.call (.f 22) [] [] []) 93,
 oV 93 8]
 .ret)))))))))
theorem Wq_25 {tape_:List Int} {s_:Str} {at_:Int} {by_:UInt8}:Cn Tryz.prog 5 [.sl (tape_.map (V.int .i64)),.str s_,.int .i64 at_,byteV by_] [] (F_25 tape_ s_ at_ by_) (fun z=>.bool z) (fun z=>[]):=fun Q Q' h hQ=>by
 refine acallM mc_25 [] [] [.t 8] Tryz.func5 fun M=>?_
 unfold F_25 at h
 unfold mc_25
 replace h:=tY h
 refine tB ?_
 repeat' (first
 | (exact tZ)
 | ((first|refine oblg h ?_|refine roomG h ?_|refine inbG h ?_|refine divG h ?_|refine fork h ?_ ?_|refine forkS h ?_ ?_)<;>clear h<;>intro hc h)
 | (obtain ⟨y,hy,h⟩:=h;(first|(with_reducible first|have hw:=Wq_1e.w hy|have hw:=Wq_1a.w hy|have hw:=Wq_1z.w hy|have hw:=W_q hy|have hw:=Wq_1p.w hy)|have hw:=acall_swe 1000 21 (W_7 hy));replace hw:=tY hw;(first|refine M.sC hw ?_|refine M.sD hw ?_);clear hw hy;refine tB ?_)
 | (refine M.jnE (b:=mc_5p) [13,14] [55] (fun y=>[]) (fun y=>[]) [] h ?_ ?_<;>first
 | (clear h;intro Qn K hK1 h;replace h:=tY h;refine tB ?_)
  |(clear h;intro y h;unfold mc_5p;replace h:=tY h;refine tB ?_))
 | (refine M.wh1 (b:=mc_2h) [13] [55] (fun x=>[(14,.int .i64 x)]) (fun x=>[]) [] h ?_ ?_<;>first
 | (clear h;intro x Qn K hK2 h;unfold F_2h at h;unfold mc_2h;replace h:=tY h;refine tB ?_)
  |(clear h;(try refine tB ?_);exact tU0;done))
 | ((first|refine hK1 _ ?_|refine hK2 _ ?_);(try refine tB ?_);refine ⟨_,h,?_⟩;exact tU0;done)
 | (refine tE4 V.str ?_;(first|rw [M.lok_compU]|rw [M.lokD_compU]|(simp only [V.cells];first|rw [M.lok_comp]|rw [M.lokD_comp]));refine tB ?_)
 | (refine tE ?_;(first|rw [M.lok_compU]|rw [M.lokD_compU]);refine tB ?_)
 | (refine ⟨_,getE_mapset (by first|exact inb_toNat (by assumption)|exact inb_nat (by assumption)),?_⟩;(first|rw [M.lok_compU]|rw [M.lokD_compU]|(simp only [V.cells];first|rw [M.lok_comp]|rw [M.lokD_comp]));refine tB ?_)
 | (refine tA ?_)
 | fail)
end Go.Ab
