/- What the functions of this seat that lie on the laws' road compute (part LX), each for every input. By AI agents. -/
import Derived.Test.YtbmjlaknnpmgpaaGreatDoorLT
import Derived.Test.YtbmjlaknnpmgpaaGreatDoorLG
set_option linter.all false
set_option linter.all false
set_option maxRecDepth 20000
set_option maxHeartbeats 2000000
namespace Go.Ab
open Go.Proofs
noncomputable def F_3v (l_:List Int):Option Bool := bif decide (600<(l_.length:Int)) then F_19.bind fun y4=>some y4 else (F_1h (GTape.mk l_ 0)).bind fun y6=>jn (α:=Int) (bif decide (0<(y6.1.a_.Events.length:Int)) then chk (in64 ((y6.1.a_.Events.length:Int) - 1)) (chk (inb ((y6.1.a_.Events.length:Int) - 1) y6.1.a_.Events.length) (some ((y6.1.a_.Events.getD (((y6.1.a_.Events.length:Int) - 1)).toNat default).Time))) else some 0) fun j7=>chk (room y6.1.a_.Events.length 56) ((F_0 y6.2 y6.1.a_.Places).bind fun y10=>(F_0 y10.2 (y6.1.d_.Kinds.length:Int)).bind fun y11=>chk (room (y6.1.a_.Events.length+[(GAccess.mk j7 1 y10.1 y11.1 0 0 0)].length) 56) ((F_16 (Gscene.mk y6.1.d_ y6.1.a_ y6.1.r_ (GRights.mk 24 y6.1.x_.Resources y6.1.x_.Grants y6.1.x_.Stores y6.1.x_.Mints) y6.1.w_ y6.1.f_ y6.1.c_ y6.1.fleet_ y6.1.s_ y6.1.group_)).bind fun y13=>(F_16 (Gscene.mk y6.1.d_ (GEstate.mk y6.1.a_.Places (y6.1.a_.Events++[(GAccess.mk j7 1 y10.1 y11.1 0 0 0)])) y6.1.r_ (GRights.mk 24 y6.1.x_.Resources y6.1.x_.Grants y6.1.x_.Stores y6.1.x_.Mints) y6.1.w_ y6.1.f_ y6.1.c_ y6.1.fleet_ y6.1.s_ y6.1.group_)).bind fun y15=>grp (((!decide (y13.2=0))||(!decide (y15.2=0)))) fun b31=>grp ((b31||decide (y15.1.Readers<y13.1.Readers))) fun b32=>grp ((b32||(!(y13.1.Public==y15.1.Public)))) fun b33=>grp ((b33||decide (y15.1.Severity.Score<y13.1.Severity.Score))) fun b34=>grp ((b34||decide (y15.1.Severity.Level<y13.1.Severity.Level))) fun b35=>bif b35 then some false else grp ((decide (y13.1.Since<0)||(decide (0≤y15.1.Since)&&decide (y15.1.Since≤y13.1.Since)))) fun b39=>jn (α:=Bool) (bif b39 then F_19.bind fun y41=>some y41 else some false) fun j42=>some j42))
@[irreducible] def mg_7v:List MOp:=[fV 72 73 10,gF 72 74 (.bin false .neq (.t 73) (cI 0)),pO 72 74 75]
@[irreducible] def mg_7w:List MOp:=[fa_ 76 77 3 9,fL 76 78 77,fa_ 76 79 3 7,fL 76 80 79,gF 76 81 (.bin false .lss (.t 78) (.t 80)),pO 76 81 82]
@[irreducible] def mg_7x:List MOp:=[fa_ 83 84 2 7,fL 83 85 84,fa_ 83 86 2 9,fL 83 87 86,gF 83 88 (.beq true (.t 85) (.t 87)),pO 83 88 89]
@[irreducible] def mg_7y:List MOp:=[fa_ 90 91 5 9,fa_ 90 92 3 91,fL 90 93 92,fa_ 90 94 5 7,fa_ 90 95 3 94,fL 90 96 95,gF 90 97 (.bin false .lss (.t 93) (.t 96)),pO 90 97 98]
@[irreducible] def mg_7z:List MOp:=[fa_ 99 100 5 9,fa_ 99 101 0 100,fL 99 102 101,fa_ 99 103 5 7,fa_ 99 104 0 103,fL 99 105 104,gF 99 106 (.bin false .lss (.t 102) (.t 105)),pO 99 106 107]
@[irreducible] def mg_80:List MOp:=[fa_ 111 112 4 9,fL 111 113 112,gF 111 114 (.bin false .geq (.t 113) (cI 0)),fV 111 115 114,ta_ 115 116 4 9,tL 115 117 116,ta_ 115 118 4 7,tL 115 119 118,gT 115 120 (.bin false .leq (.t 117) (.t 119)),gF 111 121 (.pick (.t 115) (.t 120) (.c (.bool false))),pO 111 121 122]
@[irreducible] def mg_81:List MOp:=[gT 123 124 (.call (.f 7) [] [] []),pA 123 124 125]
@[irreducible] def mc_82:MC := (sR [lN 25 4 38,mo (.alloc [(.sl []),(.sl []),(.int .i64 0),(.sl []),(.sl []),(.sl []),(.int .i64 0),(.int .i64 0),(.sl []),(.sl []),(.sl []),(.sl []),(.int .i64 0),(.int .u64 0),(.sl []),(.int .i64 0),(.int .i64 0),(.sl []),(.int .i64 0),(.int .i64 0),(.sl []),(.bool false),(.sl []),(.sl []),(.sl [])]) 6,⟨.st 25 (.t 6) (.t 38),none,none⟩] (.seq (.regD [oF 2 4 39,oF 1 39 40,oL 40 41,mo (.app 7 56 (.c .nils) (.t 41)) 42,oV 5 43,oV 3 44,oF 2 4 45,oF 0 45 46,oL 46 47,mo (.call (.f 12) [(.t 44),(.t 47)] [17] []) 48,oV 3 49,oF 0 4 50,oF 0 50 51,oL 51 52,lE 52 53,mo (.call (.f 12) [(.t 49),(.t 53)] [17] []) 54,mo (.build [(.int .i64 0),(.int .i64 0),(.int .i64 0),(.int .i64 0),(.int .i64 0),(.int .i64 0),(.int .i64 0)] [(0,1,(.t 43)),(1,1,(cI 1)),(2,1,(.t 48)),(3,1,(.t 54))]) 55,mo (.bslice 7 [(.t 55)]) 56,ap 7 56 42 56 57,oF 2 6 58,oF 1 58 59,⟨.st 1 (.t 59) (.t 57),none,none⟩] [[],[0],[1],[2],[],[],[],[6],[7],[5,8,3],[],[],[11],[12],[13],[10,14,9],[4,9,15],[16],[3,17,15],[0,1,2,3,4,5,6,7,8,9,10,11,12,13,14,15,16,17,18],[19,0,1,2,3,4,5,6,7,8,9,10,11,12,13,14,15,16,17,18],[20,18,18,0,1,2,3,4,5,6,7,8,9,10,11,12,13,14,15,16,17,18]] [[],[0],[0,1],[0,1,2],[],[],[],[6],[6,7],[0,1,2,3,5,6,7,8],[],[],[11],[11,12],[11,12,13],[0,1,2,3,5,6,7,8,9,10,11,12,13,14],[0,1,2,3,4,5,6,7,8,9,10,11,12,13,14,15],[0,1,2,3,4,5,6,7,8,9,10,11,12,13,14,15,16],[0,1,2,3,4,5,6,7,8,9,10,11,12,13,14,15,16,17],[0,1,2,3,4,5,6,7,8,9,10,11,12,13,14,15,16,17,18],[0,1,2,3,4,5,6,7,8,9,10,11,12,13,14,15,16,17,18,19],[0,1,2,3,4,5,6,7,8,9,10,11,12,13,14,15,16,17,18,19,20]]) (.seq (.note (.gc [4,6,73,74,77,78,79,80,81,84,85,86,87,88,91,92,93,94,95,96,97,100,101,102,103,104,105,106,112,113,114,115,116,117,118,119,120,121,124]) (.reg [lN 25 4 61,k1 14 61 62,oV 62 60,xT 0 60 63,xT 1 60 64,mo (.alloc [(.int .u64 0),(.int .i64 0),(.bool false),(.int .i64 0),(.int .i64 0),(.int .i64 0),(.int .i64 0),(.int .i64 0),(.int .i64 0),(.bool false),(.bool false)]) 7,⟨.st 11 (.t 7) (.t 63),none,none⟩,oV 64 8])) (.seq (.regI [.op (lN 25 6 66),.nt (.fz 66),.op (k1 14 66 67),.op (oV 67 65),.op (xT 0 65 68),.op (xT 1 65 69),.op (mo (.alloc [(.int .u64 0),(.int .i64 0),(.bool false),(.int .i64 0),(.int .i64 0),(.int .i64 0),(.int .i64 0),(.int .i64 0),(.int .i64 0),(.bool false),(.bool false)]) 9),.op ⟨.st 11 (.t 9) (.t 68),none,none⟩,.op (oV 69 10)]) (.seq (.seq (.note (.gc [7,8,9,10,73,74,77,78,79,80,81,84,85,86,87,88,91,92,93,94,95,96,97,100,101,102,103,104,105,106,112,113,114,115,116,117,118,119,120,121,124]) (.regI [.op (oV 8 70),.op (bC .neq 70 0 71),.op (oV 71 72),.grp mg_7v,.op (oV 75 76),.grp mg_7w,.op (oV 82 83),.grp mg_7x,.op (oV 89 90),.grp mg_7y,.op (oV 98 99),.grp mg_7z])) (.cond (.t 107) (sR [mF 2] .ret) .skip)) (.seq (.note (.gc [7,9,112,113,114,115,116,117,118,119,120,121,124]) (.regI [.op (oF 4 7 108),.op (oL 108 109),.op (bC .lss 109 0 110),.op (oV 110 111),.grp mg_80,.op (oV 122 123),.grp mg_81,.op (oV 125 2)])) .ret))))))
def mc_3v:MC := (sR [mF 2] (.seq (sR [oV 0 11,lE 11 12,bC .gtr 12 600 13] (.cond (.t 13) (sR [mo (.call (.f 7) [] [] []) 14,oV 14 2] .ret) .skip)) (sR [oV 0 15,mo (.build [(.sl []),(.int .i64 0)] [(0,1,(.t 15))]) 16,bx 16 17,oV 17 3] (.seq (.note (.gc [3,73,74,77,78,79,80,81,84,85,86,87,88,91,92,93,94,95,96,97,100,101,102,103,104,105,106,112,113,114,115,116,117,118,119,120,121,124]) (.reg [oV 3 18,mo (.call (.f 8) [(.t 18)] [17] []) 19,mo (.alloc [(.sl []),(.sl []),(.int .i64 0),(.sl []),(.sl []),(.sl []),(.int .i64 0),(.int .i64 0),(.sl []),(.sl []),(.sl []),(.sl []),(.int .i64 0),(.int .u64 0),(.sl []),(.int .i64 0),(.int .i64 0),(.sl []),(.int .i64 0),(.int .i64 0),(.sl []),(.bool false),(.sl []),(.sl []),(.sl [])]) 4,⟨.st 25 (.t 4) (.t 19),none,none⟩])) (sR [oF 6 4 20,oF 0 20 21,⟨.st 1 (.t 21) (cI 24),none,none⟩] (sR [oC 0 5] (.cut (sR [oF 2 4 22,oF 1 22 23,oL 23 24,lE 24 25,bC .gtr 25 0 26] (.cond (.t 26) (.note (.gc [3,4,73,74,77,78,79,80,81,84,85,86,87,88,91,92,93,94,95,96,97,100,101,102,103,104,105,106,112,113,114,115,116,117,118,119,120,121,124]) (.reg [oF 2 4 27,oF 1 27 28,oL 28 29,oF 2 4 30,oF 1 30 31,oL 31 32,lE 32 33,sI 33 1 34,iA 7 29 34 35,oF 0 35 36,oL 36 37,oV 37 5])) .skip)) mc_82)))))))
instance Wq_3v {l_:List Int}:WI (F_3v l_) Tryz.prog 6 [.sl (l_.map (V.int .i64))] [] (fun z=>.bool z) (fun z=>[]):=⟨fun Q Q' h hQ=>by
 refine acallM mc_3v [] [] [.t 2] Tryz.func6 fun M=>?_
 unfold F_3v at h
 unfold mc_3v
 replace h:=tY h
 refine tB ?_
 repeat' (first
 | (exact tZ)
 | ((first|refine oblg h ?_|refine roomG h ?_|refine inbG h ?_|refine incG h ?_|refine divG h ?_|refine appG h ?_|refine appC h ?_|refine fork h ?_ ?_|refine forkS h ?_ ?_)<;>clear h<;>intro hc h)
 | (obtain ⟨y,hy,h⟩:=h;(first|have hw:=acall_swe 1000 17 (Wq_1h.c.w hy)|have hw:=acall_swe 1000 17 (Wq_0.c.w hy)|have hw:=WI.w hy);replace hw:=tY hw;(first|refine M.sC hw ?_|refine M.sD hw ?_);clear hw hy;refine tB ?_)
 | (refine M.gj1 (ms:=mg_81) [] [] (fun y=>[(125,.bool y)]) (fun y=>[]) h ?_ ?_<;>first
 | (clear h;intro Qn K hK1 h;unfold mg_81;replace h:=tY h;refine tB ?_)
  |(clear h;intro y h;replace h:=tY h;refine tB ?_))
 | (refine M.gv1 (ms:=mg_80) 122 [112,113,114,115,116,117,118,119,120,121] h ?_ ?_<;>first
 | (clear h;intro K hK2;unfold mg_80;refine tB ?_)
 | (clear h;intro b h;replace h:=tY h;refine tB ?_))
 | (refine M.gv1 (ms:=mg_7z) 107 [100,101,102,103,104,105,106] h ?_ ?_<;>first
 | (clear h;intro K hK3;unfold mg_7z;refine tB ?_)
 | (clear h;intro b h;replace h:=tY h;refine tB ?_))
 | (refine M.gv1 (ms:=mg_7y) 98 [91,92,93,94,95,96,97] h ?_ ?_<;>first
 | (clear h;intro K hK4;unfold mg_7y;refine tB ?_)
 | (clear h;intro b h;replace h:=tY h;refine tB ?_))
 | (refine M.gv1 (ms:=mg_7x) 89 [84,85,86,87,88] h ?_ ?_<;>first
 | (clear h;intro K hK5;unfold mg_7x;refine tB ?_)
 | (clear h;intro b h;replace h:=tY h;refine tB ?_))
 | (refine M.gv1 (ms:=mg_7w) 82 [77,78,79,80,81] h ?_ ?_<;>first
 | (clear h;intro K hK6;unfold mg_7w;refine tB ?_)
 | (clear h;intro b h;replace h:=tY h;refine tB ?_))
 | (refine M.gv1 (ms:=mg_7v) 75 [73,74] h ?_ ?_<;>first
 | (clear h;intro K hK7;unfold mg_7v;refine tB ?_)
 | (clear h;intro b h;replace h:=tY h;refine tB ?_))
 | (refine M.jn1 (b:=mc_82) [3,4] [4,17] (fun y=>[(5,.int .i64 y)]) (fun y=>[]) [] h ?_ ?_<;>first
 | (clear h;intro Qn K hK8 h;replace h:=tY h;refine tB ?_)
  |(clear h;intro y h;unfold mc_82;replace h:=tY h;refine tB ?_))
 | ((first|refine hK1 _ ?_|refine hK8 _ ?_);(try refine tB ?_);refine ⟨_,h,?_⟩;exact tU0;done)
 | ((first|refine hK2 _ ?_|refine hK3 _ ?_|refine hK4 _ ?_|refine hK5 _ ?_|refine hK6 _ ?_|refine hK7 _ ?_);exact tU;done)
 | (refine bfork (fun hc=>?_) (fun hc=>?_))
 | (refine tE ?_;(first|rw [M.lok_compU]|rw [M.lokD_compU]);refine tB ?_)
 | (refine tA ?_)
 | fail)⟩
end Go.Ab
