/- What the functions of this seat that lie on the laws' road compute (part LM), each for every input. By AI agents. -/
import Derived.Test.YtnaeedamiaoipaaGreatDoorLT
set_option linter.all false
set_option linter.all false
set_option maxRecDepth 20000
set_option maxHeartbeats 2000000
namespace Go.Ab
open Go.Proofs
def F_0 (t_:GTape) (n_:Int):Option (Int×GTape) := bif decide ((t_.L.length:Int)≤t_.at_) then some (0,t_) else chk (inb t_.at_ t_.L.length) (chk (in64 (t_.at_+1)) (chk (divs ((t_.L.getD (t_.at_).toNat default) % 2^16) n_) (some ((((t_.L.getD (t_.at_).toNat default) % 2^16) % n_),(GTape.mk t_.L (t_.at_+1))))))
def mc_0:MC := (sR [oC 0 4] (.seq (.seq (.regD [oV 0 6,mo (.nck (.t 6)) 7,oF 1 7 8,oL 8 9,oV 0 10,mo (.nck (.t 10)) 11,oF 0 11 12,oL 12 13,lE 13 14,bT .geq 9 14 15] [[],[0],[1],[2],[],[4],[5],[6],[7],[3,8]] [[],[0],[0,1],[0,1,2],[],[4],[4,5],[4,5,6],[4,5,6,7],[0,1,2,3,4,5,6,7,8]]) (.cond (.t 15) (sR [oC 0 4] .ret) .skip)) (.seq (.note (.gc [0,1]) (.regD [oV 0 16,mo (.nck (.t 16)) 17,oF 0 17 18,oL 18 19,oV 0 20,mo (.nck (.t 20)) 21,oF 1 21 22,oL 22 23,iA 1 19 23 24,oL 24 25,mo (.mask 16 (.t 25) .i64) 26,oV 26 5] [[],[0],[1],[2],[],[4],[5],[6],[3,7],[8],[9],[10,0,1,2,3,4,5,6,7,8,9,10]] [[],[0],[0,1],[0,1,2],[],[4],[4,5],[4,5,6],[0,1,2,3,4,5,6,7],[0,1,2,3,4,5,6,7,8],[0,1,2,3,4,5,6,7,8,9],[0,1,2,3,4,5,6,7,8,9,10]])) (.seq (.note (.gc [0,1,5]) (.reg [oV 0 27,mo (.nck (.t 27)) 28,oF 1 28 29,oL 29 30,aI 30 1 31,mo (.nck (.t 27)) 32,oF 1 32 33,⟨.st 1 (.t 33) (.t 31),none,none⟩])) (.seq (.note (.gc [1,5]) (.reg [oV 5 34,oV 1 35,mo (.bin true .rem (.t 34) (.t 35)) 36,oV 36 4])) .ret)))))
instance Wq_made_Tape_Next {t_:GTape} {n_:Int}:WI (F_0 t_ n_) Tryz.prog 11 [.ptr 1000 0,.int .i64 n_] [(1000,.cells [.sl (t_.L.map (V.int .i64)),.int .i64 t_.at_])] (fun z=>.int .i64 z.1) (fun z=>[(1000,.cells [.sl (z.2.L.map (V.int .i64)),.int .i64 z.2.at_])]):=⟨fun Q Q' h hQ=>by
 refine acallM mc_0 [] [1000] [.t 4] Tryz.func11 fun M=>?_
 unfold F_0 at h
 unfold mc_0
 exact tX⟩
def F_2u (t_:GTape) (a_:Int) (b_:Int):Option (Int×GTape) := chk (in64 (b_ - a_)) (chk (in64 ((b_ - a_)+1)) ((F_0 t_ ((b_ - a_)+1)).bind fun y2=>chk (in64 (a_+y2.1)) (some ((a_+y2.1),y2.2))))
def mc_2u:MC := (sR [oC 0 6] (sR [oV 1 7,oV 0 8,oV 2 9,oV 1 10,mo (.bin true .sub (.t 9) (.t 10)) 11,aI 11 1 12,mo (.call (.f 11) [(.t 8),(.t 12)] [1000] []) 13,mo (.bin true .add (.t 7) (.t 13)) 14,oV 14 6] .ret))
instance Wq_made_Tape_Between {t_:GTape} {a_ b_:Int}:WI (F_2u t_ a_ b_) Tryz.prog 59 [.ptr 1000 0,.int .i64 a_,.int .i64 b_] [(1000,.cells [.sl (t_.L.map (V.int .i64)),.int .i64 t_.at_])] (fun z=>.int .i64 z.1) (fun z=>[(1000,.cells [.sl (z.2.L.map (V.int .i64)),.int .i64 z.2.at_])]):=⟨fun Q Q' h hQ=>by
 refine acallM mc_2u [] [1000] [.t 6] Tryz.func59 fun M=>?_
 unfold F_2u at h
 unfold mc_2u
 exact tX⟩
def F_2v (t_:GTape) (names_:List Str):Option (GCommand×GTape) := (F_0 t_ (names_.length:Int)).bind fun y2=>chk (inb y2.1 names_.length) ((F_0 y2.2 10).bind fun y4=>(F_2u y4.2 1 11).bind fun y6=>jn (α:=Bool) (bif decide (y6.1=1) then some true else some (decide (y6.1=2))) fun j7=>bif j7 then some ((GCommand.mk y6.1 (names_.getD (y2.1).toNat default) [] 0 0 0),y6.2) else jn (α:=Bool) (bif decide (y6.1=3) then some true else some (decide (y6.1=4))) fun j8=>bif j8 then (F_0 y6.2 (names_.length:Int)).bind fun y10=>chk (inb y10.1 names_.length) (some ((GCommand.mk y6.1 (names_.getD (y2.1).toNat default) (names_.getD (y10.1).toNat default) y4.1 0 0),y10.2)) else jn (α:=Bool) (bif decide (y6.1=5) then some true else some (decide (y6.1=6))) fun j11=>bif j11 then (F_0 y6.2 3).bind fun y13=>some ((GCommand.mk y6.1 (names_.getD (y2.1).toNat default) [] y4.1 y13.1 0),y13.2) else bif decide (y6.1=7) then (F_0 y6.2 3).bind fun y16=>(F_0 y16.2 5).bind fun y17=>chk (in64 (y4.1+y17.1)) (some ((GCommand.mk y6.1 [] [] y4.1 y16.1 (y4.1+y17.1)),y17.2)) else bif decide (y6.1=8) then (F_0 y6.2 3).bind fun y20=>(F_0 y20.2 3).bind fun y21=>some ((GCommand.mk y6.1 [] [] y4.1 y20.1 y21.1),y21.2) else bif decide (y6.1=9) then (F_0 y6.2 3).bind fun y24=>(F_0 y24.2 3).bind fun y25=>some ((GCommand.mk y6.1 [] [] y4.1 y24.1 y25.1),y25.2) else bif decide (y6.1=10) then (F_0 y6.2 3).bind fun y27=>some ((GCommand.mk y6.1 [] [] y4.1 y27.1 0),y27.2) else (F_0 y6.2 3).bind fun y29=>some ((GCommand.mk 11 (names_.getD (y2.1).toNat default) [] 0 y29.1 0),y29.2))
@[irreducible] def mc_6c:MC := (.cond (.t 44) (sR [oV 7 47,oV 6 48,oV 5 49,oV 0 50,mo (.call (.f 11) [(.t 50),(cI 3)] [1000] []) 51,mo (.build [(.int .i64 0),(.str []),(.str []),(.int .i64 0),(.int .i64 0),(.int .i64 0)] [(0,1,(.t 47)),(3,1,(.t 48)),(1,1,(.t 49)),(4,1,(.t 51))]) 52,⟨.st 6 (.t 4) (.t 52),none,none⟩] .ret) (sR [bC .eql 19 7 54,oV 54 53] (.cond (.t 53) (sR [oV 7 55,oV 6 56,oV 0 57,mo (.call (.f 11) [(.t 57),(cI 3)] [1000] []) 58,oV 6 59,oV 0 60,mo (.call (.f 11) [(.t 60),(cI 5)] [1000] []) 61,mo (.bin true .add (.t 59) (.t 61)) 62,mo (.build [(.int .i64 0),(.str []),(.str []),(.int .i64 0),(.int .i64 0),(.int .i64 0)] [(0,1,(.t 55)),(3,1,(.t 56)),(4,1,(.t 58)),(5,1,(.t 62))]) 63,⟨.st 6 (.t 4) (.t 63),none,none⟩] .ret) (sR [bC .eql 19 8 65,oV 65 64] (.cond (.t 64) (sR [oV 7 66,oV 6 67,oV 0 68,mo (.call (.f 11) [(.t 68),(cI 3)] [1000] []) 69,oV 0 70,mo (.call (.f 11) [(.t 70),(cI 3)] [1000] []) 71,mo (.build [(.int .i64 0),(.str []),(.str []),(.int .i64 0),(.int .i64 0),(.int .i64 0)] [(0,1,(.t 66)),(3,1,(.t 67)),(4,1,(.t 69)),(5,1,(.t 71))]) 72,⟨.st 6 (.t 4) (.t 72),none,none⟩] .ret) (sR [bC .eql 19 9 74,oV 74 73] (.cond (.t 73) (.seq (.note (.gc [0,4,6,7]) (.reg [oV 7 75,oV 6 76,oV 0 77,mo (.call (.f 11) [(.t 77),(cI 3)] [1000] []) 78,oV 0 79,mo (.call (.f 11) [(.t 79),(cI 3)] [1000] []) 80,mo (.build [(.int .i64 0),(.str []),(.str []),(.int .i64 0),(.int .i64 0),(.int .i64 0)] [(0,1,(.t 75)),(3,1,(.t 76)),(4,1,(.t 78)),(5,1,(.t 80))]) 81,⟨.st 6 (.t 4) (.t 81),none,none⟩])) .ret) (sR [bC .eql 19 10 83,oV 83 82] (.cond (.t 82) (.seq (.note (.gc [0,4,6,7]) (.reg [oV 7 84,oV 6 85,oV 0 86,mo (.call (.f 11) [(.t 86),(cI 3)] [1000] []) 87,mo (.build [(.int .i64 0),(.str []),(.str []),(.int .i64 0),(.int .i64 0),(.int .i64 0)] [(0,1,(.t 84)),(3,1,(.t 85)),(4,1,(.t 87))]) 88,⟨.st 6 (.t 4) (.t 88),none,none⟩])) .ret) (.seq (.note (.gc [0,4,5]) (.reg [oV 0 20,mo (.call (.f 11) [(.t 20),(cI 3)] [1000] []) 21,oV 5 22,mo (.build [(.int .i64 0),(.str []),(.str []),(.int .i64 0),(.int .i64 0),(.int .i64 0)] [(0,1,(cI 11)),(4,1,(.t 21)),(1,1,(.t 22))]) 23,⟨.st 6 (.t 4) (.t 23),none,none⟩])) .ret))))))))))
@[irreducible] def mc_6d:MC := (.cond (.t 30) (sR [oV 7 33,oV 6 34,oV 5 35,oV 1 36,oV 0 37,oV 1 38,lE 38 39,mo (.call (.f 11) [(.t 37),(.t 39)] [1000] []) 40,iA 1 36 40 41,oL 41 42,mo (.build [(.int .i64 0),(.str []),(.str []),(.int .i64 0),(.int .i64 0),(.int .i64 0)] [(0,1,(.t 33)),(3,1,(.t 34)),(1,1,(.t 35)),(2,1,(.t 42))]) 43,⟨.st 6 (.t 4) (.t 43),none,none⟩] .ret) (.cut (sR [bC .eql 19 5 45,oV 45 44] (.cond (.t 44) .skip (.reg [bC .eql 19 6 46,oV 46 44]))) mc_6c))
@[irreducible] def mc_6e:MC := (.cond (.t 24) (sR [oV 7 27,oV 5 28,mo (.build [(.int .i64 0),(.str []),(.str []),(.int .i64 0),(.int .i64 0),(.int .i64 0)] [(0,1,(.t 27)),(1,1,(.t 28))]) 29,⟨.st 6 (.t 4) (.t 29),none,none⟩] .ret) (.cut (sR [bC .eql 19 3 31,oV 31 30] (.cond (.t 30) .skip (.reg [bC .eql 19 4 32,oV 32 30]))) mc_6d))
def mc_2v:MC := (sR [mo (.alloc [(.int .i64 0),(.str []),(.str []),(.int .i64 0),(.int .i64 0),(.int .i64 0)]) 4] (sR [oV 1 8,oV 0 9,oV 1 10,lE 10 11,mo (.call (.f 11) [(.t 9),(.t 11)] [1000] []) 12,iA 1 8 12 13,oL 13 14,oV 14 5] (sR [oV 0 15,mo (.call (.f 11) [(.t 15),(cI 10)] [1000] []) 16,oV 16 6] (.seq (.note (.gc [0,1,4,5,6]) (.reg [oV 0 17,mo (.call (.f 59) [(.t 17),(cI 1),(cI 11)] [1000] []) 18,oV 18 7])) (sR [oV 7 19] (.block 0 (.cut (sR [bC .eql 19 1 25,oV 25 24] (.cond (.t 24) .skip (.reg [bC .eql 19 2 26,oV 26 24]))) mc_6e)))))))
instance:LI mc_6c 0 0 [0,4,5,6,7,19] [4,1000] (fun y:Bool=>[(44,.bool y)]) (fun y=>[]) []:=⟨⟩
instance:LI mc_6d 0 0 [0,1,4,5,6,7,19] [4,1000] (fun y:Bool=>[(30,.bool y)]) (fun y=>[]) []:=⟨⟩
instance:LI mc_6e 0 0 [0,1,4,5,6,7,19] [4,1000] (fun y:Bool=>[(24,.bool y)]) (fun y=>[]) []:=⟨⟩
instance Wq_made_Command {t_:GTape} {names_:List Str}:WI (F_2v t_ names_) Tryz.prog 17 [.ptr 1000 0,.sl (names_.map V.str)] [(1000,.cells [.sl (t_.L.map (V.int .i64)),.int .i64 t_.at_])] (fun z=>GCommand.v z.1) (fun z=>[(1000,.cells [.sl (z.2.L.map (V.int .i64)),.int .i64 z.2.at_])]):=⟨fun Q Q' h hQ=>by
 refine acallM mc_2v [] [1000] [.c 4 (some 6)] Tryz.func17 fun M=>?_
 unfold F_2v at h
 unfold mc_2v
 exact tX⟩
noncomputable def F_3p (x61:Int×(List GCommand)×GTape):Option (Fl (Int×(List GCommand)×GTape) ((List GCommand)×GTape)) := bif decide (0<x61.1) then jn (α:=(List GCommand)×GTape) ((F_2v x61.2.2 [[97,110,110],[111,112,115],[98,111,98],[100,101,118]]).bind fun y83=>jn (α:=Fl (GCommand×GTape) GTape) (jn (α:=Bool) (bif decide (y83.1.Kind=1) then some true else some (decide (y83.1.Kind=2))) fun j90=>bif j90 then some (.ex y83.2) else jn (α:=Bool) (bif decide (y83.1.Kind=3) then some true else some (decide (y83.1.Kind=4))) fun j91=>bif j91 then (F_0 y83.2 2).bind fun y93=>chk (inb y93.1 [[111,112,115],[100,101,118]].length) (bif decide (y83.1.Name=[[111,112,115],[100,101,118]].getD ((y93.1).toNat) default) then some (.ex y93.2) else some (.nx ((GCommand.mk y83.1.Kind y83.1.Name ([[111,112,115],[100,101,118]].getD ((y93.1).toNat) default) y83.1.Time y83.1.A y83.1.B),y93.2))) else bif decide (y83.1.Kind=7) then chk (in64 (y83.1.Time+1)) ((F_0 y83.2 5).bind fun y94=>chk (in64 ((y83.1.Time+1)+y94.1)) (some (.nx ((GCommand.mk y83.1.Kind y83.1.Name y83.1.Other y83.1.Time y83.1.A ((y83.1.Time+1)+y94.1)),y94.2)))) else bif decide (y83.1.Kind=9) then bif decide (y83.1.A=y83.1.B) then some (.ex y83.2) else some (.nx (y83.1,y83.2)) else some (.nx (y83.1,y83.2))) fun o=>o.elim (fun j89=>chk (room (x61.2.1.length+[j89.1].length) 64) (some ((x61.2.1++[j89.1]),j89.2))) (fun r95=>some (x61.2.1,r95))) fun j81=>chk (in64 (x61.1 - 1)) (some (.nx ((x61.1 - 1),j81.1,j81.2))) else some (.ex (x61.2.1,x61.2.2))
noncomputable def F_2w (t_:GTape):Option ((List GCommand)×GTape) := (F_0 t_ 14).bind fun y38=>(loop F_3p (y38.1,[(GCommand.mk 1 [97,110,110] [] 0 0 0),(GCommand.mk 2 [111,112,115] [] 0 0 0),(GCommand.mk 1 [98,111,98] [] 0 0 0),(GCommand.mk 2 [100,101,118] [] 0 0 0)],y38.2)).bind fun r96=>some (r96.1,r96.2)
@[irreducible] def mc_56:MC := (.cond (.t 27) (sR [mo (.bslice 1 [(.c (.str [111,112,115])),(.c (.str [100,101,118]))]) 30,oV 0 31,mo (.call (.f 11) [(.t 31),(cI 2)] [1000] []) 32,iA 1 30 32 33,oL 33 34,oF 2 6 35,⟨.st 1 (.t 35) (.t 34),none,none⟩] (.seq (.note (.gc [0,3,4,5,6]) (.reg [oF 1 6 36,oL 36 37,oF 2 6 38,oL 38 39,bT .eql 37 39 40])) (.cond (.t 40) (.exit 1) .skip))) (sR [bC .eql 23 7 42,oV 42 41] (.cond (.t 41) (.regD [oF 3 6 43,oL 43 44,aI 44 1 45,oV 0 46,mo (.call (.f 11) [(.t 46),(cI 5)] [1000] []) 47,mo (.bin true .add (.t 45) (.t 47)) 48,oF 5 6 49,⟨.st 1 (.t 49) (.t 48),none,none⟩] [[],[0],[1],[],[3],[2,4],[0,1,2,3,4,5],[6,5,4,0,1,2,3,4,5]] [[],[0],[0,1],[],[3],[0,1,2,3,4],[0,1,2,3,4,5],[0,1,2,3,4,5,6]]) (sR [bC .eql 23 9 51,oV 51 50] (.cond (.t 50) (sR [oF 4 6 52,oL 52 53,oF 5 6 54,oL 54 55,bT .eql 53 55 56] (.cond (.t 56) (.exit 1) .skip)) .skip)))))
@[irreducible] def mc_57:MC := (.cond (.t 24) (.exit 1) (.cut (sR [bC .eql 23 3 28,oV 28 27] (.cond (.t 27) .skip (.reg [bC .eql 23 4 29,oV 29 27]))) mc_56))
@[irreducible] def mc_58:MC := (.reg [oV 3 57,lN 6 6 58,mo (.bslice 6 [(.t 58)]) 59,ap 6 64 57 59 60,oV 60 3])
@[irreducible] def mc_59:MC := (.reg [oV 5 17,sI 17 1 18,oV 18 5])
@[irreducible] def mc_3p:MC := (.seq (sR [oV 5 15,bC .gtr 15 0 16] (.cond (.t 16) .skip (.exit 0))) (.cut (.block 1 (.seq (.regI [.op (oV 0 19),.op (oV 4 20),.nt (.fz 20),.op (mo (.call (.f 17) [(.t 19),(.t 20)] [1000] []) 21),.op (mo (.alloc [(.int .i64 0),(.str []),(.str []),(.int .i64 0),(.int .i64 0),(.int .i64 0)]) 6),.op ⟨.st 6 (.t 6) (.t 21),none,none⟩]) (.cut (sR [oF 0 6 22,oL 22 23] (.block 2 (.cut (sR [bC .eql 23 1 25,oV 25 24] (.cond (.t 24) .skip (.reg [bC .eql 23 2 26,oV 26 24]))) mc_57))) mc_58))) mc_59))
def mc_2w:MC := (sR [mo (.mv (.c (.sl []))) 2] (sR [mo (.build [(.int .i64 0),(.str []),(.str []),(.int .i64 0),(.int .i64 0),(.int .i64 0)] [(0,1,(cI 1)),(1,1,(.c (.str [97,110,110])))]) 7,mo (.build [(.int .i64 0),(.str []),(.str []),(.int .i64 0),(.int .i64 0),(.int .i64 0)] [(0,1,(cI 2)),(1,1,(.c (.str [111,112,115])))]) 8,mo (.build [(.int .i64 0),(.str []),(.str []),(.int .i64 0),(.int .i64 0),(.int .i64 0)] [(0,1,(cI 1)),(1,1,(.c (.str [98,111,98])))]) 9,mo (.build [(.int .i64 0),(.str []),(.str []),(.int .i64 0),(.int .i64 0),(.int .i64 0)] [(0,1,(cI 2)),(1,1,(.c (.str [100,101,118])))]) 10,mo (.bslice 6 [(.t 7),(.t 8),(.t 9),(.t 10)]) 11,oV 11 3] (sR [mo (.bslice 1 [(.c (.str [97,110,110])),(.c (.str [111,112,115])),(.c (.str [98,111,98])),(.c (.str [100,101,118]))]) 12,oV 12 4] (.seq (sR [oV 0 13,mo (.call (.f 11) [(.t 13),(cI 14)] [1000] []) 14,oV 14 5] (.block 0 (.loop mc_3p))) (sR [oV 3 61,oV 61 2] .ret)))))
instance Wq_made_Script {t_:GTape}:WI (F_2w t_) Tryz.prog 9 [.ptr 1000 0] [(1000,.cells [.sl (t_.L.map (V.int .i64)),.int .i64 t_.at_])] (fun z=>.sl (z.1.map GCommand.v)) (fun z=>[(1000,.cells [.sl (z.2.L.map (V.int .i64)),.int .i64 z.2.at_])]):=⟨fun Q Q' h hQ=>by
 refine acallM mc_2w [.fz 2] [1000] [.t 2] Tryz.func9 fun M=>?_
 unfold F_2w at h
 unfold mc_2w
 replace h:=tY h
 refine tB ?_
 repeat' (first
 | (exact tZ)
 | ((first|refine oblg h ?_|refine roomG h ?_|refine inbG h ?_|refine incG h ?_|refine divG h ?_|refine appG h ?_|refine appC h ?_|refine fork h ?_ ?_|refine forkS h ?_ ?_)<;>clear h<;>intro hc h)
 | (obtain ⟨y,hy,h⟩:=h;have hw:=WI.w hy;replace hw:=tY hw;(first|refine M.sC hw ?_|refine M.sD hw ?_);clear hw hy;refine tB ?_)
 | (refine M.jn1 (b:=mc_56) [0,3,4,5,6,23] [6,2003,1000] (fun y=>[(27,.bool y)]) (fun y=>[]) [] h ?_ ?_<;>first
 | (clear h;intro Qn K hK1 h;replace h:=tY h;refine tB ?_)
  |(clear h;intro y h;unfold mc_56;replace h:=tY h;refine tB ?_))
 | (refine M.jn1 (b:=mc_57) [0,3,4,5,6,23] [6,2003,1000] (fun y=>[(24,.bool y)]) (fun y=>[]) [] h ?_ ?_<;>first
 | (clear h;intro Qn K hK2 h;replace h:=tY h;refine tB ?_)
  |(clear h;intro y h;unfold mc_57;replace h:=tY h;refine tB ?_))
 | (refine M.jnE (b:=mc_58) [0,3,4,5,6] [2003] (fun y=>[]) (fun y=>[.o 6 (.cells [.int .i64 y.1.Kind,.str y.1.Name,.str y.1.Other,.int .i64 y.1.Time,.int .i64 y.1.A,.int .i64 y.1.B]),.o 1000 (.cells [.sl (y.2.L.map (V.int .i64)),.int .i64 y.2.at_])]) [] h ?_ ?_<;>first
 | (clear h;intro Qn K hK3 h;replace h:=tY h;refine tB ?_)
  |(clear h;intro y h;unfold mc_58;replace h:=tY h;refine tB ?_))
 | (refine M.jn1 (b:=mc_59) [0,4,5] [] (fun y=>[(3,.osl 2003 6 0 y.1.length)]) (fun y=>[.o 2003 (.arr 6 (y.1.map GCommand.v)),.o 1000 (.cells [.sl (y.2.L.map (V.int .i64)),.int .i64 y.2.at_])]) [.gc [0,3,4,5],.acc 3 2003 6] h ?_ ?_<;>first
 | (clear h;intro Qn K hK4 h;replace h:=tY h;refine tB ?_)
  |(clear h;intro y h;unfold mc_59;replace h:=tY h;refine tB ?_))
 | (refine M.wh1 (b:=mc_3p) [0] [] (fun x=>[(3,.osl 2003 6 0 x.2.1.length),(4,.sl ([[97,110,110],[111,112,115],[98,111,98],[100,101,118]].map V.str)),(5,.int .i64 x.1)]) (fun x=>[.o 2003 (.arr 6 (x.2.1.map GCommand.v)),.o 1000 (.cells [.sl (x.2.2.L.map (V.int .i64)),.int .i64 x.2.2.at_])]) [.gc [0,3,4,5],.acc 3 2003 6,.fz 4] h ?_ ?_<;>first
 | (clear h;intro x Qn K hK5 h;unfold F_3p at h;unfold mc_3p;replace h:=tY h;refine tB ?_)
  |(clear h;(try refine tB ?_);exact tU0;done))
 | ((first|refine hK1 _ ?_|refine hK2 _ ?_|refine hK3 _ ?_|refine hK4 _ ?_|refine hK5 _ ?_);(try refine tB ?_);refine ⟨_,h,?_⟩;exact tU0;done)
 | (refine tE4 V.str ?_;(first|rw [M.lok_compU]|rw [M.lokD_compU]|(simp only [V.cells];first|rw [M.lok_comp]|rw [M.lokD_comp]));refine tB ?_)
 | (refine tE ?_;(first|rw [M.lok_compU]|rw [M.lokD_compU]);refine tB ?_)
 | (refine tA ?_)
 | fail)⟩
end Go.Ab
set_option maxRecDepth 20000
set_option maxHeartbeats 2000000
namespace Go.Ab
open Go.Proofs
noncomputable def F_4h (s_:Str) (by_:UInt8) (x12:Int×Int×(List Str)):Option (Fl (Int×Int×(List Str)) (Int×(List Str))) := bif decide (x12.2.1<(s_.length:Int)) then jn (α:=Int×(List Str)) (chk (inb x12.2.1 s_.length) (bif decide (((s_.getD (x12.2.1).toNat 0).toNat:Int)=(by_.toNat:Int)) then chk (inc x12.1 x12.2.1 s_.length) (chk (room (x12.2.2.length+[((s_.take ((x12.2.1).toNat)).drop ((x12.1).toNat))].length) 16) (chk (in64 (x12.2.1+1)) (some ((x12.2.1+1),(x12.2.2++[((s_.take ((x12.2.1).toNat)).drop ((x12.1).toNat))]))))) else some (x12.1,x12.2.2))) fun j14=>chk (in64 (x12.2.1+1)) (some (.nx (j14.1,(x12.2.1+1),j14.2))) else some (.ex (x12.1,x12.2.2))
noncomputable def F_27 (s_:Str) (by_:UInt8):Option (List Str) := (loop (F_4h s_ by_) (0,0,[])).bind fun r15=>chk (inc r15.1 (s_.length:Int) s_.length) (chk (room (r15.2.length+[(s_.drop ((r15.1).toNat))].length) 16) (some (r15.2++[(s_.drop ((r15.1).toNat))])))
@[irreducible] def mc_6f:MC := (.reg [oV 7 12,aI 12 1 13,oV 13 7])
@[irreducible] def mc_4h:MC := (.seq (sR [oV 7 8,oV 0 9,mo (.len true (.t 9)) 10,bT .lss 8 10 11] (.cond (.t 11) .skip (.exit 0))) (.cut (.block 1 (sR [oV 0 14,oV 7 15,mo (.idx (.t 14) (.t 15)) 16,oV 1 17,bT .eql 16 17 18] (.cond (.t 18) (.seq (.note (.gc [0,1,5,6,7]) (.reg [oV 5 19,oV 0 20,oV 6 21,oV 7 22,mo (.sls (.t 20) (some (.t 21)) (some (.t 22))) 23,mo (.bslice 1 [(.t 23)]) 24,ap 1 16 19 24 25,oV 25 5])) (.note (.gc [0,1,5,7]) (.reg [oV 7 26,aI 26 1 27,oV 27 6]))) .skip))) mc_6f))
def mc_27:MC := (sR [mo (.mv (.c (.sl []))) 4] (sR [mo (.mv (.c .nils)) 5] (sR [oC 0 6] (.seq (sR [oC 0 7] (.block 0 (.loop mc_4h))) (sR [oV 5 28,oV 0 29,oV 6 30,mo (.sls (.t 29) (some (.t 30)) none) 31,mo (.bslice 1 [(.t 31)]) 32,ap 1 16 28 32 33,oV 33 4] .ret)))))
attribute [go_sem] F_4h
instance:LI mc_6f 0 0 [0,1,7] [] (fun y:Int×(List Str)=>[(5,.osl 2005 1 0 y.2.length),(6,.int .i64 y.1)]) (fun y=>[.o 2005 (.arr 1 (y.2.map V.str))]) [.gc [0,1,5,6,7],.acc 5 2005 1]:=⟨⟩
instance:LI mc_4h 0 0 [0,1] [] (fun y:Int×Int×(List Str)=>[(5,.osl 2005 1 0 y.2.2.length),(6,.int .i64 y.1),(7,.int .i64 y.2.1)]) (fun y=>[.o 2005 (.arr 1 (y.2.2.map V.str))]) [.gc [0,1,5,6,7],.acc 5 2005 1]:=⟨⟩
instance Wq_ref43_Split {s_:Str} {by_:UInt8}:WI (F_27 s_ by_) Tryz.prog 14 [.str s_,byteV by_] [] (fun z=>.sl (z.map V.str)) (fun z=>[]):=⟨fun Q Q' h hQ=>by
 refine acallM mc_27 [.fz 4] [] [.t 4] Tryz.func14 fun M=>?_
 unfold F_27 at h
 unfold mc_27
 exact tX⟩
def F_f (x_:Int) (low_:Int) (high_:Int):Option Bool := grp ((decide (low_≤x_)&&decide (x_≤high_))) fun b2=>some b2
@[irreducible] def mg_6g:List MOp:=[tV 10 11 0,tV 10 12 2,gT 10 13 (.bin false .leq (.t 11) (.t 12)),pA 10 13 14]
def mc_f:MC := (sR [mF 6] (.seq (.regI [.op (oV 0 7),.op (oV 1 8),.op (bT .geq 7 8 9),.op (oV 9 10),.grp mg_6g,.op (oV 14 6)]) .ret))
instance:GV mg_6g 14 [11,12,13]:=⟨⟩
instance Wq_ref23_in {x_ low_ high_:Int}:WI (F_f x_ low_ high_) Tryz.prog 93 [.int .i64 x_,.int .i64 low_,.int .i64 high_] [] (fun z=>.bool z) (fun z=>[]):=⟨fun Q Q' h hQ=>by
 refine acallM mc_f [] [] [.t 6] Tryz.func93 fun M=>?_
 unfold F_f at h
 unfold mc_f
 exact tX⟩
def F_7 (d_:GDirectory) (p_:Int):Option Bool := chk (in64 ((d_.Kinds.length:Int) - 1)) ((F_f p_ 0 ((d_.Kinds.length:Int) - 1)).bind fun y2=>some y2)
def mc_7:MC := (sR [bx 0 2,mF 4] (sR [oV 1 5,oF 0 2 6,oL 6 7,lE 7 8,sI 8 1 9,mo (.call (.f 93) [(.t 5),(cI 0),(.t 9)] [] []) 10,oV 10 4] .ret))
instance Wq_ref23_Exists {d_:GDirectory} {p_:Int}:WI (F_7 d_ p_) Tryz.prog 94 [GDirectory.v d_,.int .i64 p_] [] (fun z=>.bool z) (fun z=>[]):=⟨fun Q Q' h hQ=>by
 refine acallM mc_7 [] [] [.t 4] Tryz.func94 fun M=>?_
 unfold F_7 at h
 unfold mc_7
 exact tX⟩
def F_1g (d_:GDirectory) (p_:Int):Option Bool := (F_7 d_ p_).bind fun y3=>jn (α:=Bool) (bif y3 then chk (inb p_ d_.Kinds.length) (some (decide ((d_.Kinds.getD (p_).toNat default)=2))) else some false) fun j4=>some j4
@[irreducible] def mg_6h:List MOp:=[ta_ 8 9 0 2,tL 8 10 9,tV 8 11 1,gT 8 12 (.iad 1 (.t 10) (.t 11)),tL 8 13 12,gT 8 14 (.bin false .eql (.t 13) (cI 2)),pA 8 14 15]
def mc_1g:MC := (sR [bx 0 2,mF 4] (.seq (.regI [.op (lN 2 2 5),.op (oV 1 6),.op (k2 94 5 6 7),.op (oV 7 8),.grp mg_6h,.op (oV 15 4)]) .ret))
instance:GI mg_6h [4] [] (fun y:Bool=>[(15,.bool y)]) (fun y=>[]):=⟨⟩
instance Wq_ref23_Group {d_:GDirectory} {p_:Int}:WI (F_1g d_ p_) Tryz.prog 95 [GDirectory.v d_,.int .i64 p_] [] (fun z=>.bool z) (fun z=>[]):=⟨fun Q Q' h hQ=>by
 refine acallM mc_1g [] [] [.t 4] Tryz.func95 fun M=>?_
 unfold F_1g at h
 unfold mc_1g
 exact tX⟩
def F_4i (k35:Int) (a36:Int) (x34:Unit):Option (Fl Unit Bool) := (F_f a36 1 3).bind fun y44=>bif (!y44) then some (.ex false) else some (.nx ())
def F_4j (d_:GDirectory) (k177:Int) (a178:GMember) (x176:Unit):Option (Fl Unit Bool) := (F_f a178.Kind 1 2).bind fun y221=>bif (!y221) then some (.ex false) else (F_f a178.Time 0 1099511627776).bind fun y222=>bif (!y222) then some (.ex false) else bif decide (0<k177) then chk (in64 (k177 - 1)) (chk (inb (k177 - 1) d_.Events.length) (bif decide (a178.Time<(d_.Events.getD ((k177 - 1)).toNat default).Time) then some (.ex false) else (F_7 d_ a178.Principal).bind fun y223=>bif (!y223) then some (.ex false) else (F_1g d_ a178.Group).bind fun y224=>bif (!y224) then some (.ex false) else bif decide (a178.Principal=a178.Group) then some (.ex false) else some (.nx ()))) else (F_7 d_ a178.Principal).bind fun y225=>bif (!y225) then some (.ex false) else (F_1g d_ a178.Group).bind fun y226=>bif (!y226) then some (.ex false) else bif decide (a178.Principal=a178.Group) then some (.ex false) else some (.nx ())
def F_w (d_:GDirectory):Option Bool := grp ((decide (24<(d_.Kinds.length:Int))||decide (120<(d_.Events.length:Int)))) fun b4=>bif b4 then some false else (forL F_4i d_.Kinds 0 ()).bind fun o=>o.elim (fun x45=>(forL (F_4j d_) d_.Events 0 ()).bind fun o=>o.elim (fun x227=>some true) (fun r228=>some r228)) (fun r46=>some r46)
@[irreducible] def mg_6i:List MOp:=[fa_ 11 12 1 1,fL 11 13 12,gF 11 14 (.len false (.t 13)),gF 11 15 (.bin false .gtr (.t 14) (cI 120)),pO 11 15 16]
@[irreducible] def mc_4i:MC := (sR [bT .lss 20 19 21] (.seq (.cond (.t 21) .skip (.exit 0)) (.seq (.block 1 (sR [iA 1 18 20 22,oL 22 23,oV 23 4] (sR [oV 4 24,mo (.call (.f 93) [(.t 24),(cI 1),(cI 3)] [] []) 25,nT 25 26] (.cond (.t 26) (sR [mF 2] .ret) .skip)))) (.reg [aI 20 1 27,oV 27 20]))))
@[irreducible] def mc_4j:MC := (sR [bT .lss 31 30 32] (.seq (.cond (.t 32) .skip (.exit 2)) (.seq (.block 3 (sR [oV 31 33,iA 4 29 31 34,lN 4 34 35,mo (.alloc [(.int .i64 0),(.int .i64 0),(.int .i64 0),(.int .i64 0)]) 6,oV 33 5,⟨.st 4 (.t 6) (.t 35),none,none⟩] (.seq (.regD [oF 1 6 36,oL 36 37,mo (.call (.f 93) [(.t 37),(cI 1),(cI 2)] [] []) 38,nT 38 39,oV 39 40,fa_ 40 41 0 6,fL 40 42 41,gF 40 43 (.call (.f 93) [(.t 42),(cI 0),(cI 1099511627776)] [] []),gF 40 44 (.not (.t 43)),pO 40 44 45,oV 45 46,fV 46 47 5,gF 46 48 (.bin false .gtr (.t 47) (cI 0)),fV 46 49 48,ta_ 49 50 0 6,tL 49 51 50,ta_ 49 52 1 1,tL 49 53 52,tV 49 54 5,gT 49 55 (.bin true .sub (.t 54) (cI 1)),gT 49 56 (.iad 4 (.t 53) (.t 55)),ta_ 49 57 0 56,tL 49 58 57,gT 49 59 (.bin false .lss (.t 51) (.t 58)),gF 46 60 (.pick (.t 49) (.t 59) (.c (.bool false))),pO 46 60 61,oV 61 62,gF 62 63 (.ld (some 2) (.t 1)),fa_ 62 64 2 6,fL 62 65 64,gF 62 66 (.call (.f 94) [(.t 63),(.t 65)] [] []),gF 62 67 (.not (.t 66)),pO 62 67 68,oV 68 69,gF 69 70 (.ld (some 2) (.t 1)),fa_ 69 71 3 6,fL 69 72 71,gF 69 73 (.call (.f 95) [(.t 70),(.t 72)] [] []),gF 69 74 (.not (.t 73)),pO 69 74 75,oV 75 76,fa_ 76 77 2 6,fL 76 78 77,fa_ 76 79 3 6,fL 76 80 79,gF 76 81 (.bin false .eql (.t 78) (.t 80)),pO 76 81 82] [[],[0],[1],[2],[3,2],[4],[5,4],[6,4,4],[7,4],[4,8],[9,7],[10],[11,10],[12,10,10],[13],[14,13],[13],[16,13],[13],[18,13],[17,19,13],[20,13],[21,13],[15,22,13],[13,23,10],[10,24],[25,13],[26],[26],[28,26],[27,29,26,26],[30,26],[26,31],[32,30],[33],[33],[35,33],[34,36,33,33],[37,33],[33,38],[39,37],[40],[41,40],[40],[43,40],[42,44,40],[40,45]] [[],[0],[0,1],[0,1,2],[0,1,2,3],[0,1,2,3,4],[0,1,2,3,4,5],[0,1,2,3,4,5,6],[0,1,2,3,4,5,6,7],[0,1,2,3,4,5,6,7,8],[0,1,2,3,4,5,6,7,8,9],[0,1,2,3,4,5,6,7,8,9,10],[0,1,2,3,4,5,6,7,8,9,10,11],[0,1,2,3,4,5,6,7,8,9,10,11,12],[0,1,2,3,4,5,6,7,8,9,10,11,12,13],[0,1,2,3,4,5,6,7,8,9,10,11,12,13,14],[0,1,2,3,4,5,6,7,8,9,10,11,12,13],[0,1,2,3,4,5,6,7,8,9,10,11,12,13,16],[0,1,2,3,4,5,6,7,8,9,10,11,12,13],[0,1,2,3,4,5,6,7,8,9,10,11,12,13,18],[0,1,2,3,4,5,6,7,8,9,10,11,12,13,16,17,18,19],[0,1,2,3,4,5,6,7,8,9,10,11,12,13,16,17,18,19,20],[0,1,2,3,4,5,6,7,8,9,10,11,12,13,16,17,18,19,20,21],[0,1,2,3,4,5,6,7,8,9,10,11,12,13,14,15,16,17,18,19,20,21,22],[0,1,2,3,4,5,6,7,8,9,10,11,12,13,14,15,16,17,18,19,20,21,22,23],[0,1,2,3,4,5,6,7,8,9,10,11,12,13,14,15,16,17,18,19,20,21,22,23,24],[0,1,2,3,4,5,6,7,8,9,10,11,12,13,14,15,16,17,18,19,20,21,22,23,24,25],[0,1,2,3,4,5,6,7,8,9,10,11,12,13,14,15,16,17,18,19,20,21,22,23,24,25,26],[0,1,2,3,4,5,6,7,8,9,10,11,12,13,14,15,16,17,18,19,20,21,22,23,24,25,26],[0,1,2,3,4,5,6,7,8,9,10,11,12,13,14,15,16,17,18,19,20,21,22,23,24,25,26,28],[0,1,2,3,4,5,6,7,8,9,10,11,12,13,14,15,16,17,18,19,20,21,22,23,24,25,26,27,28,29],[0,1,2,3,4,5,6,7,8,9,10,11,12,13,14,15,16,17,18,19,20,21,22,23,24,25,26,27,28,29,30],[0,1,2,3,4,5,6,7,8,9,10,11,12,13,14,15,16,17,18,19,20,21,22,23,24,25,26,27,28,29,30,31],[0,1,2,3,4,5,6,7,8,9,10,11,12,13,14,15,16,17,18,19,20,21,22,23,24,25,26,27,28,29,30,31,32],[0,1,2,3,4,5,6,7,8,9,10,11,12,13,14,15,16,17,18,19,20,21,22,23,24,25,26,27,28,29,30,31,32,33],[0,1,2,3,4,5,6,7,8,9,10,11,12,13,14,15,16,17,18,19,20,21,22,23,24,25,26,27,28,29,30,31,32,33],[0,1,2,3,4,5,6,7,8,9,10,11,12,13,14,15,16,17,18,19,20,21,22,23,24,25,26,27,28,29,30,31,32,33,35],[0,1,2,3,4,5,6,7,8,9,10,11,12,13,14,15,16,17,18,19,20,21,22,23,24,25,26,27,28,29,30,31,32,33,34,35,36],[0,1,2,3,4,5,6,7,8,9,10,11,12,13,14,15,16,17,18,19,20,21,22,23,24,25,26,27,28,29,30,31,32,33,34,35,36,37],[0,1,2,3,4,5,6,7,8,9,10,11,12,13,14,15,16,17,18,19,20,21,22,23,24,25,26,27,28,29,30,31,32,33,34,35,36,37,38],[0,1,2,3,4,5,6,7,8,9,10,11,12,13,14,15,16,17,18,19,20,21,22,23,24,25,26,27,28,29,30,31,32,33,34,35,36,37,38,39],[0,1,2,3,4,5,6,7,8,9,10,11,12,13,14,15,16,17,18,19,20,21,22,23,24,25,26,27,28,29,30,31,32,33,34,35,36,37,38,39,40],[0,1,2,3,4,5,6,7,8,9,10,11,12,13,14,15,16,17,18,19,20,21,22,23,24,25,26,27,28,29,30,31,32,33,34,35,36,37,38,39,40,41],[0,1,2,3,4,5,6,7,8,9,10,11,12,13,14,15,16,17,18,19,20,21,22,23,24,25,26,27,28,29,30,31,32,33,34,35,36,37,38,39,40],[0,1,2,3,4,5,6,7,8,9,10,11,12,13,14,15,16,17,18,19,20,21,22,23,24,25,26,27,28,29,30,31,32,33,34,35,36,37,38,39,40,43],[0,1,2,3,4,5,6,7,8,9,10,11,12,13,14,15,16,17,18,19,20,21,22,23,24,25,26,27,28,29,30,31,32,33,34,35,36,37,38,39,40,41,42,43,44],[0,1,2,3,4,5,6,7,8,9,10,11,12,13,14,15,16,17,18,19,20,21,22,23,24,25,26,27,28,29,30,31,32,33,34,35,36,37,38,39,40,41,42,43,44,45]]) (.cond (.t 82) (sR [mF 2] .ret) .skip)))) (.reg [aI 31 1 83,oV 83 31]))))
def mc_w:MC := (sR [bx 0 1,mF 2] (.seq (.seq (.regI [.op (oF 0 1 7),.op (oL 7 8),.op (lE 8 9),.op (bC .gtr 9 24 10),.op (oV 10 11),.grp mg_6i]) (.cond (.t 16) (sR [mF 2] .ret) .skip)) (.seq (.seq (.note (.gc [1,41,42,43,44,47,48,49,50,51,52,53,54,55,56,57,58,59,60,63,64,65,66,67,70,71,72,73,74,77,78,79,80,81]) (.reg [oF 0 1 17,oL 17 18,lE 18 19,oC 0 20])) (.block 0 (.loop mc_4i))) (.seq (sR [oF 1 1 28,oL 28 29,lE 29 30,oC 0 31] (.block 2 (.loop mc_4j))) (sR [mT 2] .ret)))))
attribute [go_sem] F_4i F_4j
instance:LI mc_4i 20 19 [1,18,19] [1] (fun y:Unit=>[]) (fun y=>[]) []:=⟨⟩
instance:LI mc_4j 31 30 [1,29,30] [1] (fun y:Unit=>[]) (fun y=>[]) []:=⟨⟩
instance:GV mg_6i 16 [12,13,14,15]:=⟨⟩
instance Wq_ref23_Valid {d_:GDirectory}:WI (F_w d_) Tryz.prog 51 [GDirectory.v d_] [] (fun z=>.bool z) (fun z=>[]):=⟨fun Q Q' h hQ=>by
 refine acallM mc_w [] [] [.t 2] Tryz.func51 fun M=>?_
 unfold F_w at h
 unfold mc_w
 exact tX⟩
def F_8 (x_:Int) (low_:Int) (high_:Int):Option Bool := grp ((decide (low_≤x_)&&decide (x_≤high_))) fun b2=>some b2
@[irreducible] def mg_6j:List MOp:=[tV 10 11 0,tV 10 12 2,gT 10 13 (.bin false .leq (.t 11) (.t 12)),pA 10 13 14]
def mc_8:MC := (sR [mF 6] (.seq (.regI [.op (oV 0 7),.op (oV 1 8),.op (bT .geq 7 8 9),.op (oV 9 10),.grp mg_6j,.op (oV 14 6)]) .ret))
instance:GV mg_6j 14 [11,12,13]:=⟨⟩
instance Wq_ref27_in {x_ low_ high_:Int}:WI (F_8 x_ low_ high_) Tryz.prog 96 [.int .i64 x_,.int .i64 low_,.int .i64 high_] [] (fun z=>.bool z) (fun z=>[]):=⟨fun Q Q' h hQ=>by
 refine acallM mc_8 [] [] [.t 6] Tryz.func96 fun M=>?_
 unfold F_8 at h
 unfold mc_8
 exact tX⟩
def F_2x (a_:GEstate) (x_:GAccess):Option Bool := (F_8 x_.Time 0 1099511627776).bind fun y7=>bif (!y7) then some false else chk (in64 (a_.Places - 1)) ((F_8 x_.Place 0 (a_.Places - 1)).bind fun y8=>bif (!y8) then some false else jn (α:=Bool) (bif decide (x_.Kind=1) then some true else some (decide (x_.Kind=2))) fun j29=>bif j29 then jn (α:=Bool) (bif (decide (x_.Time=x_.Time)&&(decide (x_.Kind=x_.Kind)&&(decide (x_.Place=x_.Place)&&(decide (x_.Principal=x_.Principal)&&(decide (x_.Until=0)&&(decide (x_.Content=0)&&decide (x_.From=0))))))) then (F_8 x_.Principal 0 23).bind fun y33=>some y33 else some false) fun j34=>some j34 else bif decide (x_.Kind=3) then grp (((decide (x_.Time=x_.Time)&&(decide (x_.Kind=x_.Kind)&&(decide (x_.Place=x_.Place)&&(decide (x_.Principal=0)&&(decide (x_.Until=x_.Until)&&(decide (x_.Content=0)&&decide (x_.From=0)))))))&&decide (x_.Time<x_.Until))) fun b37=>grp ((b37&&decide (x_.Until≤1099511627776))) fun b38=>some b38 else bif decide (x_.Kind=4) then some (decide (x_.Time=x_.Time)&&(decide (x_.Kind=x_.Kind)&&(decide (x_.Place=x_.Place)&&(decide (x_.Principal=0)&&(decide (x_.Until=0)&&(decide (x_.Content=0)&&decide (x_.From=0))))))) else jn (α:=Bool) (bif decide (x_.Kind=5) then some true else some (decide (x_.Kind=6))) fun j39=>bif j39 then jn (α:=Bool) (bif (decide (x_.Time=x_.Time)&&(decide (x_.Kind=x_.Kind)&&(decide (x_.Place=x_.Place)&&(decide (x_.Principal=0)&&(decide (x_.Until=0)&&(decide (x_.Content=x_.Content)&&decide (x_.From=0))))))) then (F_8 x_.Content 0 63).bind fun y43=>some y43 else some false) fun j44=>some j44 else bif decide (x_.Kind=7) then jn (α:=Bool) (bif (decide (x_.Time=x_.Time)&&(decide (x_.Kind=x_.Kind)&&(decide (x_.Place=x_.Place)&&(decide (x_.Principal=0)&&(decide (x_.Until=0)&&(decide (x_.Content=0)&&decide (x_.From=x_.From))))))) then chk (in64 (a_.Places - 1)) ((F_8 x_.From 0 (a_.Places - 1)).bind fun y49=>some y49) else some false) fun j50=>grp ((j50&&(!decide (x_.From=x_.Place)))) fun b51=>some b51 else some false)
@[irreducible] def mg_6k:List MOp:=[ta_ 37 38 3 3,tL 37 39 38,gT 37 40 (.call (.f 96) [(.t 39),(cI 0),(cI 23)] [] []),pA 37 40 41]
@[irreducible] def mg_6l:List MOp:=[ta_ 50 51 4 3,tL 50 52 51,ta_ 50 53 0 3,tL 50 54 53,gT 50 55 (.bin false .gtr (.t 52) (.t 54)),pA 50 55 56]
@[irreducible] def mg_6m:List MOp:=[ta_ 57 58 4 3,tL 57 59 58,gT 57 60 (.bin false .leq (.t 59) (cI 1099511627776)),pA 57 60 61]
@[irreducible] def mg_6n:List MOp:=[ta_ 76 77 5 3,tL 76 78 77,gT 76 79 (.call (.f 96) [(.t 78),(cI 0),(cI 63)] [] []),pA 76 79 80]
@[irreducible] def mg_6o:List MOp:=[ta_ 89 90 6 3,tL 89 91 90,ta_ 89 92 0 2,tL 89 93 92,gT 89 94 (.bin true .sub (.t 93) (cI 1)),gT 89 95 (.call (.f 96) [(.t 91),(cI 0),(.t 94)] [] []),pA 89 95 96]
@[irreducible] def mg_6p:List MOp:=[ta_ 97 98 6 3,tL 97 99 98,ta_ 97 100 2 3,tL 97 101 100,gT 97 102 (.bin false .neq (.t 99) (.t 101)),pA 97 102 103]
@[irreducible] def mc_6q:MC := (.cond (.t 67) (sR [oF 5 3 70,oL 70 71,oF 5 5 72,⟨.st 1 (.t 72) (.t 71),none,none⟩] (.seq (.regI [.op (lN 7 3 73),.op (lN 7 5 74),.op (mo (.eqs false [0,0,0,0,0,0,0] (.t 73) (.t 74)) 75),.op (oV 75 76),.grp mg_6n,.op (oV 80 4)]) .ret)) (sR [bC .eql 27 7 82,oV 82 81] (.cond (.t 81) (sR [oF 6 3 83,oL 83 84,oF 6 5 85,⟨.st 1 (.t 85) (.t 84),none,none⟩] (.seq (.regI [.op (lN 7 3 86),.op (lN 7 5 87),.op (mo (.eqs false [0,0,0,0,0,0,0] (.t 86) (.t 87)) 88),.op (oV 88 89),.grp mg_6o,.op (oV 96 97),.grp mg_6p,.op (oV 103 4)]) .ret)) .skip)))
@[irreducible] def mc_6r:MC := (.cond (.t 28) (sR [oF 3 3 31,oL 31 32,oF 3 5 33,⟨.st 1 (.t 33) (.t 32),none,none⟩] (.seq (.regI [.op (lN 7 3 34),.op (lN 7 5 35),.op (mo (.eqs false [0,0,0,0,0,0,0] (.t 34) (.t 35)) 36),.op (oV 36 37),.grp mg_6k,.op (oV 41 4)]) .ret)) (sR [bC .eql 27 3 43,oV 43 42] (.cond (.t 42) (sR [oF 4 3 44,oL 44 45,oF 4 5 46,⟨.st 1 (.t 46) (.t 45),none,none⟩] (.seq (.note (.gc [3,5,51,52,53,54,55,58,59,60]) (.regI [.op (lN 7 3 47),.op (lN 7 5 48),.op (mo (.eqs false [0,0,0,0,0,0,0] (.t 47) (.t 48)) 49),.op (oV 49 50),.grp mg_6l,.op (oV 56 57),.grp mg_6m,.op (oV 61 4)])) .ret)) (sR [bC .eql 27 4 63,oV 63 62] (.cond (.t 62) (sR [lN 7 3 64,lN 7 5 65,mo (.eqs false [0,0,0,0,0,0,0] (.t 64) (.t 65)) 66,oV 66 4] .ret) (.cut (sR [bC .eql 27 5 68,oV 68 67] (.cond (.t 67) .skip (.reg [bC .eql 27 6 69,oV 69 67]))) mc_6q))))))
def mc_2x:MC := (sR [bx 0 2,bx 1 3,mF 4] (.seq (sR [oF 0 3 6,oL 6 7,mo (.call (.f 96) [(.t 7),(cI 0),(cI 1099511627776)] [] []) 8,nT 8 9,oV 9 10,fa_ 10 11 2 3,fL 10 12 11,fa_ 10 13 0 2,fL 10 14 13,gF 10 15 (.bin true .sub (.t 14) (cI 1)),gF 10 16 (.call (.f 96) [(.t 12),(cI 0),(.t 15)] [] []),gF 10 17 (.not (.t 16)),pO 10 17 18] (.cond (.t 18) (sR [mF 4] .ret) .skip)) (.seq (.note (.gc [2,3,38,39,40,51,52,53,54,55,58,59,60,77,78,79,90,91,92,93,94,95,98,99,100,101,102]) (.reg [oF 0 3 19,oL 19 20,oF 1 3 21,oL 21 22,oF 2 3 23,oL 23 24,mo (.build [(.int .i64 0),(.int .i64 0),(.int .i64 0),(.int .i64 0),(.int .i64 0),(.int .i64 0),(.int .i64 0)] [(0,1,(.t 20)),(1,1,(.t 22)),(2,1,(.t 24))]) 25,mo (.alloc [(.int .i64 0),(.int .i64 0),(.int .i64 0),(.int .i64 0),(.int .i64 0),(.int .i64 0),(.int .i64 0)]) 5,⟨.st 7 (.t 5) (.t 25),none,none⟩])) (.seq (sR [oF 1 3 26,oL 26 27] (.block 0 (.cut (sR [bC .eql 27 1 29,oV 29 28] (.cond (.t 28) .skip (.reg [bC .eql 27 2 30,oV 30 28]))) mc_6r))) (sR [mF 4] .ret)))))
instance:GI mg_6k [] [] (fun y:Bool=>[(41,.bool y)]) (fun y=>[]):=⟨⟩
instance:GV mg_6m 61 [58,59,60]:=⟨⟩
instance:GV mg_6l 56 [51,52,53,54,55]:=⟨⟩
instance:GI mg_6n [] [] (fun y:Bool=>[(80,.bool y)]) (fun y=>[]):=⟨⟩
instance:GV mg_6p 103 [98,99,100,101,102]:=⟨⟩
instance:GI mg_6o [3] [3] (fun y:Bool=>[(96,.bool y)]) (fun y=>[]):=⟨⟩
instance:LI mc_6q 0 0 [2,3,5,27] [5,3,2] (fun y:Bool=>[(67,.bool y)]) (fun y=>[]) []:=⟨⟩
instance:LI mc_6r 0 0 [2,3,5,27] [5,3,2] (fun y:Bool=>[(28,.bool y)]) (fun y=>[]) []:=⟨⟩
instance Wq_ref27_event {a_:GEstate} {x_:GAccess}:WI (F_2x a_ x_) Tryz.prog 97 [GEstate.v a_,GAccess.v x_] [] (fun z=>.bool z) (fun z=>[]):=⟨fun Q Q' h hQ=>by
 refine acallM mc_2x [] [] [.t 4] Tryz.func97 fun M=>?_
 unfold F_2x at h
 unfold mc_2x
 exact tX⟩
def F_3q (a_:GEstate) (k39:Int) (a40:GAccess) (x38:Unit):Option (Fl Unit Bool) := (F_2x a_ a40).bind fun y48=>bif (!y48) then some (.ex false) else bif decide (0<k39) then chk (in64 (k39 - 1)) (chk (inb (k39 - 1) a_.Events.length) (bif decide (a40.Time<(a_.Events.getD ((k39 - 1)).toNat default).Time) then some (.ex false) else some (.nx ()))) else some (.nx ())
def F_l (a_:GEstate):Option Bool := (F_8 a_.Places 1 16).bind fun y7=>grp (((!y7)||decide (120<(a_.Events.length:Int)))) fun b8=>bif b8 then some false else (forL (F_3q a_) a_.Events 0 ()).bind fun o=>o.elim (fun x49=>some true) (fun r50=>some r50)
@[irreducible] def mg_6s:List MOp:=[fa_ 9 10 1 1,fL 9 11 10,gF 9 12 (.len false (.t 11)),gF 9 13 (.bin false .gtr (.t 12) (cI 120)),pO 9 13 14]
@[irreducible] def mc_3q:MC := (sR [bT .lss 18 17 19] (.seq (.cond (.t 19) .skip (.exit 0)) (.seq (.block 1 (sR [oV 18 20,iA 7 16 18 21,lN 7 21 22,mo (.alloc [(.int .i64 0),(.int .i64 0),(.int .i64 0),(.int .i64 0),(.int .i64 0),(.int .i64 0),(.int .i64 0)]) 4,oV 20 3,⟨.st 7 (.t 4) (.t 22),none,none⟩] (.seq (.regD [lN 2 1 23,lN 7 4 24,k2 97 23 24 25,nT 25 26,oV 26 27,fV 27 28 3,gF 27 29 (.bin false .gtr (.t 28) (cI 0)),fV 27 30 29,ta_ 30 31 0 4,tL 30 32 31,ta_ 30 33 1 1,tL 30 34 33,tV 30 35 3,gT 30 36 (.bin true .sub (.t 35) (cI 1)),gT 30 37 (.iad 7 (.t 34) (.t 36)),ta_ 30 38 0 37,tL 30 39 38,gT 30 40 (.bin false .lss (.t 32) (.t 39)),gF 27 41 (.pick (.t 30) (.t 40) (.c (.bool false))),pO 27 41 42] [[],[],[0,1],[2],[3,2],[4],[5,4],[6,4,4],[7],[8,7],[7],[10,7],[7],[12,7],[11,13,7],[14,7],[15,7],[9,16,7],[7,17,4],[4,18]] [[],[],[0,1],[0,1,2],[0,1,2,3],[0,1,2,3,4],[0,1,2,3,4,5],[0,1,2,3,4,5,6],[0,1,2,3,4,5,6,7],[0,1,2,3,4,5,6,7,8],[0,1,2,3,4,5,6,7],[0,1,2,3,4,5,6,7,10],[0,1,2,3,4,5,6,7],[0,1,2,3,4,5,6,7,12],[0,1,2,3,4,5,6,7,10,11,12,13],[0,1,2,3,4,5,6,7,10,11,12,13,14],[0,1,2,3,4,5,6,7,10,11,12,13,14,15],[0,1,2,3,4,5,6,7,8,9,10,11,12,13,14,15,16],[0,1,2,3,4,5,6,7,8,9,10,11,12,13,14,15,16,17],[0,1,2,3,4,5,6,7,8,9,10,11,12,13,14,15,16,17,18]]) (.cond (.t 42) (sR [mF 2] .ret) .skip)))) (.reg [aI 18 1 43,oV 43 18]))))
def mc_l:MC := (sR [bx 0 1,mF 2] (.seq (.seq (.regI [.op (oF 0 1 5),.op (oL 5 6),.op (mo (.call (.f 96) [(.t 6),(cI 1),(cI 16)] [] []) 7),.op (nT 7 8),.op (oV 8 9),.grp mg_6s]) (.cond (.t 14) (sR [mF 2] .ret) .skip)) (.seq (.seq (.note (.gc [1,28,29,30,31,32,33,34,35,36,37,38,39,40,41]) (.reg [oF 1 1 15,oL 15 16,lE 16 17,oC 0 18])) (.block 0 (.loop mc_3q))) (sR [mT 2] .ret))))
attribute [go_sem] F_3q
instance:LI mc_3q 18 17 [1,16,17] [1] (fun y:Unit=>[]) (fun y=>[]) []:=⟨⟩
instance:GV mg_6s 14 [10,11,12,13]:=⟨⟩
instance Wq_ref27_Valid {a_:GEstate}:WI (F_l a_) Tryz.prog 52 [GEstate.v a_] [] (fun z=>.bool z) (fun z=>[]):=⟨fun Q Q' h hQ=>by
 refine acallM mc_l [] [] [.t 2] Tryz.func52 fun M=>?_
 unfold F_l at h
 unfold mc_l
 exact tX⟩
def F_x (a_:GEstate) (place_:Int):Option Bool := (F_l a_).bind fun y4=>jn (α:=Bool) (bif y4 then chk (in64 (a_.Places - 1)) ((F_8 place_ 0 (a_.Places - 1)).bind fun y6=>some y6) else some false) fun j7=>some j7
@[irreducible] def mg_6t:List MOp:=[tV 7 8 1,ta_ 7 9 0 2,tL 7 10 9,gT 7 11 (.bin true .sub (.t 10) (cI 1)),gT 7 12 (.call (.f 96) [(.t 8),(cI 0),(.t 11)] [] []),pA 7 12 13]
def mc_x:MC := (sR [bx 0 2,mF 4] (.seq (.regI [.op (lN 2 2 5),.op (k1 52 5 6),.op (oV 6 7),.grp mg_6t,.op (oV 13 4)]) .ret))
instance:GI mg_6t [4] [] (fun y:Bool=>[(13,.bool y)]) (fun y=>[]):=⟨⟩
instance Wq_ref27_Place {a_:GEstate} {place_:Int}:WI (F_x a_ place_) Tryz.prog 53 [GEstate.v a_,.int .i64 place_] [] (fun z=>.bool z) (fun z=>[]):=⟨fun Q Q' h hQ=>by
 refine acallM mc_x [] [] [.t 4] Tryz.func53 fun M=>?_
 unfold F_x at h
 unfold mc_x
 exact tX⟩
def F_4k (place_:Int) (t_:Int) (k71:Int) (a72:GAccess) (x70:Unit):Option (Fl Unit Bool) := grp ((decide (a72.Kind=4)&&decide (a72.Place=place_))) fun b87=>grp ((b87&&decide (a72.Time≤t_))) fun b88=>bif b88 then some (.ex false) else some (.nx ())
def F_1h (a_:GEstate) (place_:Int) (link_:Int) (t_:Int):Option Bool := (F_x a_ place_).bind fun y7=>bif (!y7) then some false else chk (in64 ((a_.Events.length:Int) - 1)) ((F_8 link_ 0 ((a_.Events.length:Int) - 1)).bind fun y8=>bif (!y8) then some false else chk (inb link_ a_.Events.length) (grp (((!decide ((a_.Events.getD (link_).toNat default).Kind=3))||(!decide ((a_.Events.getD (link_).toNat default).Place=place_)))) fun b18=>grp ((b18||decide (t_<(a_.Events.getD (link_).toNat default).Time))) fun b19=>grp ((b19||decide ((a_.Events.getD (link_).toNat default).Until≤t_))) fun b20=>bif b20 then some false else chk (in64 (link_+1)) (chk (inc (link_+1) (a_.Events.length:Int) a_.Events.length) ((forL (F_4k place_ t_) (a_.Events.drop (((link_+1)).toNat)) 0 ()).bind fun o=>o.elim (fun x89=>some true) (fun r90=>some r90)))))
@[irreducible] def mg_6u:List MOp:=[fa_ 33 34 2 9,fL 33 35 34,fV 33 36 1,gF 33 37 (.bin false .neq (.t 35) (.t 36)),pO 33 37 38]
@[irreducible] def mg_6v:List MOp:=[fa_ 39 40 0 9,fL 39 41 40,fV 39 42 3,gF 39 43 (.bin false .gtr (.t 41) (.t 42)),pO 39 43 44]
@[irreducible] def mg_6w:List MOp:=[fa_ 45 46 4 9,fL 45 47 46,fV 45 48 3,gF 45 49 (.bin false .leq (.t 47) (.t 48)),pO 45 49 50]
@[irreducible] def mg_6x:List MOp:=[ta_ 64 65 2 11,tL 64 66 65,tV 64 67 1,gT 64 68 (.bin false .eql (.t 66) (.t 67)),pA 64 68 69]
@[irreducible] def mg_6y:List MOp:=[ta_ 70 71 0 11,tL 70 72 71,tV 70 73 3,gT 70 74 (.bin false .leq (.t 72) (.t 73)),pA 70 74 75]
@[irreducible] def mc_4k:MC := (sR [bT .lss 57 56 58] (.seq (.cond (.t 58) .skip (.exit 0)) (.seq (.block 1 (sR [iA 7 55 57 59,lN 7 59 60,mo (.alloc [(.int .i64 0),(.int .i64 0),(.int .i64 0),(.int .i64 0),(.int .i64 0),(.int .i64 0),(.int .i64 0)]) 11,⟨.st 7 (.t 11) (.t 60),none,none⟩] (.seq (.regI [.op (oF 1 11 61),.op (oL 61 62),.op (bC .eql 62 4 63),.op (oV 63 64),.grp mg_6x,.op (oV 69 70),.grp mg_6y]) (.cond (.t 75) (sR [mF 8] .ret) .skip)))) (.reg [aI 57 1 76,oV 76 57]))))
def mc_1h:MC := (sR [bx 0 4,mF 8] (.seq (sR [lN 2 4 12,oV 1 13,k2 53 12 13 14,nT 14 15,oV 15 16,fV 16 17 2,fa_ 16 18 1 4,fL 16 19 18,gF 16 20 (.len false (.t 19)),gF 16 21 (.bin true .sub (.t 20) (cI 1)),gF 16 22 (.call (.f 96) [(.t 17),(cI 0),(.t 21)] [] []),gF 16 23 (.not (.t 22)),pO 16 23 24] (.cond (.t 24) (sR [mF 8] .ret) .skip)) (.seq (.note (.gc [1,2,3,4,34,35,36,37,40,41,42,43,46,47,48,49,65,66,67,68,71,72,73,74]) (.reg [oF 1 4 25,oL 25 26,oV 2 27,iA 7 26 27 28,lN 7 28 29,mo (.alloc [(.int .i64 0),(.int .i64 0),(.int .i64 0),(.int .i64 0),(.int .i64 0),(.int .i64 0),(.int .i64 0)]) 9,⟨.st 7 (.t 9) (.t 29),none,none⟩])) (.seq (.seq (.regI [.op (oF 1 9 30),.op (oL 30 31),.op (bC .neq 31 3 32),.op (oV 32 33),.grp mg_6u,.op (oV 38 39),.grp mg_6v,.op (oV 44 45),.grp mg_6w]) (.cond (.t 50) (sR [mF 8] .ret) .skip)) (.seq (.seq (.note (.gc [1,2,3,4,65,66,67,68,71,72,73,74]) (.reg [oF 1 4 51,oL 51 52,oV 2 53,aI 53 1 54,mo (.slc 7 (.t 52) (some (.t 54)) none) 55,lE 55 56,oC 0 57])) (.block 0 (.loop mc_4k))) (sR [mT 8] .ret))))))
attribute [go_sem] F_4k
instance:GV mg_6y 75 [71,72,73,74]:=⟨⟩
instance:GV mg_6x 69 [65,66,67,68]:=⟨⟩
instance:LI mc_4k 57 56 [1,3,55,56] [] (fun y:Unit=>[]) (fun y=>[]) []:=⟨⟩
instance:GV mg_6w 50 [46,47,48,49]:=⟨⟩
instance:GV mg_6v 44 [40,41,42,43]:=⟨⟩
instance:GV mg_6u 38 [34,35,36,37]:=⟨⟩
instance Wq_ref27_Open {a_:GEstate} {place_ link_ t_:Int}:WI (F_1h a_ place_ link_ t_) Tryz.prog 98 [GEstate.v a_,.int .i64 place_,.int .i64 link_,.int .i64 t_] [] (fun z=>.bool z) (fun z=>[]):=⟨fun Q Q' h hQ=>by
 refine acallM mc_1h [] [] [.t 8] Tryz.func98 fun M=>?_
 unfold F_1h at h
 unfold mc_1h
 exact tX⟩
noncomputable def F_1i (a_:GEstate) (place_:Int) (t_:Int) (x29:Int):Option (Fl Int (Sum Unit (Int×Bool))) := bif decide (0≤x29) then (F_1h a_ place_ x29 t_).bind fun y37=>bif y37 then some (.ex (.inr (x29,true))) else chk (in64 (x29 - 1)) (some (.nx (x29 - 1))) else some (.ex (.inl ()))
noncomputable def F_1j (a_:GEstate) (place_:Int) (t_:Int):Option (Int×Bool) := chk (in64 ((a_.Events.length:Int) - 1)) ((loop (F_1i a_ place_ t_) ((a_.Events.length:Int) - 1)).bind fun r38=>Sum.elim (fun u39=>some (0,false)) (fun u40=>some u40) r38)
@[irreducible] def mc_1i:MC := (.seq (sR [oV 8 13,bC .geq 13 0 14] (.cond (.t 14) .skip (.exit 0))) (.seq (.block 1 (sR [lN 2 3 17,oV 1 18,oV 8 19,oV 2 20,mo (.call (.f 98) [(.t 17),(.t 18),(.t 19),(.t 20)] [] []) 21] (.cond (.t 21) (.seq (.note (.gc [8]) (.reg [oV 8 22,oV 22 6,mT 7])) .ret) .skip))) (.reg [oV 8 15,sI 15 1 16,oV 16 8])))
def mc_1j:MC := (sR [bx 0 3,oC 0 6,mF 7] (.seq (sR [oF 1 3 9,oL 9 10,lE 10 11,sI 11 1 12,oV 12 8] (.block 0 (.loop mc_1i))) (sR [oC 0 6,mF 7] .ret)))
attribute [go_sem] F_1i
instance:LI mc_1i 0 0 [1,2,3] [3] (fun y:Int=>[(8,.int .i64 y)]) (fun y=>[]) []:=⟨⟩
instance Wq_ref27_Linked {a_:GEstate} {place_ t_:Int}:WI (F_1j a_ place_ t_) Tryz.prog 54 [GEstate.v a_,.int .i64 place_,.int .i64 t_] [] (fun z=>.tup [.int .i64 z.1,.bool z.2]) (fun z=>[]):=⟨fun Q Q' h hQ=>by
 refine acallM mc_1j [] [] [.t 6,.t 7] Tryz.func54 fun M=>?_
 unfold F_1j at h
 unfold mc_1j
 exact tX⟩
def F_28 (d_:GDirectory) (p_:Int):Option Bool := (F_7 d_ p_).bind fun y3=>jn (α:=Bool) (bif y3 then chk (inb p_ d_.Kinds.length) (some (!decide ((d_.Kinds.getD (p_).toNat default)=2))) else some false) fun j4=>some j4
@[irreducible] def mg_6z:List MOp:=[ta_ 8 9 0 2,tL 8 10 9,tV 8 11 1,gT 8 12 (.iad 1 (.t 10) (.t 11)),tL 8 13 12,gT 8 14 (.bin false .neq (.t 13) (cI 2)),pA 8 14 15]
def mc_28:MC := (sR [bx 0 2,mF 4] (.seq (.regI [.op (lN 2 2 5),.op (oV 1 6),.op (k2 94 5 6 7),.op (oV 7 8),.grp mg_6z,.op (oV 15 4)]) .ret))
instance:GI mg_6z [4] [] (fun y:Bool=>[(15,.bool y)]) (fun y=>[]):=⟨⟩
instance Wq_ref23_Reader {d_:GDirectory} {p_:Int}:WI (F_28 d_ p_) Tryz.prog 99 [GDirectory.v d_,.int .i64 p_] [] (fun z=>.bool z) (fun z=>[]):=⟨fun Q Q' h hQ=>by
 refine acallM mc_28 [] [] [.t 4] Tryz.func99 fun M=>?_
 unfold F_28 at h
 unfold mc_28
 exact tX⟩
def F_2y (k28:Int) (a29:Bool) (x27:List Int):Option (List Int) := bif a29 then chk (room (x27.length+[k28].length) 8) (some (x27++[k28])) else some x27
def F_29 (d_:GDirectory) (p_:Int) (t_:Int):Option (List Int) := (F_w d_).bind fun y7=>bif (!y7) then some [] else (F_7 d_ p_).bind fun y8=>bif (!y8) then some [] else (upF d_.Kinds.length (d_.Events.map fun e=>(e.Time,e.Kind,e.Principal,e.Group)) p_ t_).bind fun y21=>(foldL F_2y y21 0 []).bind fun x30=>some x30
@[irreducible] def mc_2y:MC := (sR [bT .lss 24 23 25] (.seq (.cond (.t 25) .skip (.exit 0)) (.seq (.block 1 (sR [oV 24 26,iA 1 22 24 27,oL 27 28,oV 26 8,oV 28 9] (sR [oV 9 29] (.cond (.t 29) (.reg [oV 7 30,oV 8 31,mo (.bslice 1 [(.t 31)]) 32,ap 1 8 30 32 33,oV 33 7]) .skip)))) (.reg [aI 24 1 34,oV 34 24]))))
def mc_29:MC := (sR [bx 0 3,mo (.mv (.c (.sl []))) 6] (.seq (sR [lN 2 3 10,k1 51 10 11,nT 11 12,oV 12 13,gF 13 14 (.ld (some 2) (.t 3)),fV 13 15 1,gF 13 16 (.call (.f 94) [(.t 14),(.t 15)] [] []),gF 13 17 (.not (.t 16)),pO 13 17 18] (.cond (.t 18) (sR [mo (.mv (.c (.sl []))) 6] .ret) .skip)) (sR [mo (.mv (.c .nils)) 7] (.seq (.seq (.note (.gc [1,2,3,7]) (.reg [lN 2 3 19,oV 1 20,oV 2 21,k3 175 19 20 21 22,lE 22 23,oC 0 24])) (.block 0 (.loop mc_2y))) (sR [oV 7 35,oV 35 6] .ret)))))
instance Wq_ref23_Upward {d_:GDirectory} {p_ t_:Int}:WI (F_29 d_ p_ t_) Tryz.prog 134 [GDirectory.v d_,.int .i64 p_,.int .i64 t_] [] (fun z=>.sl (z.map (V.int .i64))) (fun z=>[]):=⟨fun Q Q' h hQ=>by
 refine acallM mc_29 [.fz 6] [] [.t 6] Tryz.func134 fun M=>?_
 unfold F_29 at h
 unfold mc_29
 replace h:=tY h
 refine tB ?_
 repeat' (first
 | (exact tZ)
 | ((first|refine oblg h ?_|refine roomG h ?_|refine inbG h ?_|refine incG h ?_|refine divG h ?_|refine appG h ?_|refine appC h ?_|refine fork h ?_ ?_|refine forkS h ?_ ?_)<;>clear h<;>intro hc h)
 | (obtain ⟨y,hy,h⟩:=h;(first|have hw:=W_up (f:=GMember.v) (e4:=fun e=>(e.Time,e.Kind,e.Principal,e.Group)) (fun _=>rfl) hy|have hw:=WI.w hy);replace hw:=tY hw;(first|refine M.sC hw ?_|refine M.sD hw ?_);clear hw hy;refine tB ?_)
 | (refine M.fold1 (b:=mc_2y) 24 [22,23] [] (fun x=>[(7,.osl 2007 1 0 x.length)]) (fun x=>[.o 2007 (.arr 1 (x.map (V.int .i64)))]) [.gc [7,22,23,24],.acc 7 2007 1] h ?_ ?_ ?_<;>first
 | (clear h;intro k a x Qn K hK1 hkN1 ha1 h hf;have hl:=fact_int (factsE_find (n:=23) hf.1 rfl);clear hf;have hkd:=kD hkN1;have hkB1:=kB hkN1;have hkI1:=kI (k:=k) (by omega);unfold F_2y at h;unfold mc_2y;replace h:=tY h;refine tK ha1 hkd hkN1 hkB1 hkI1 ?_)
  |(clear h;intro x K h;replace h:=And.left (And.intro h trivial);unfold mc_2y;replace h:=tY h;refine tB ?_)
  |(clear h;(try refine tB ?_);exact tU0;done))
 | (simp only [ha1])
 | (refine hK1 _ ?_;(try refine tB ?_);refine ⟨_,h,?_⟩;exact tU0;done)
 | (refine tE ?_;(first|rw [M.lok_compU]|rw [M.lokD_compU]);refine tB ?_)
 | (refine tA ?_)
 | fail)⟩
def F_3r (place_:Int) (principal_:Int) (t_:Int) (k128:Int) (a129:GAccess) (x127:Int):Option Int := grp ((decide (t_<a129.Time)||(!decide (a129.Place=place_)))) fun b160=>grp ((b160||(!decide (a129.Principal=principal_)))) fun b161=>bif b161 then some x127 else bif decide (a129.Kind=1) then some k128 else bif decide (a129.Kind=2) then some (-1) else some x127
def F_2z (a_:GEstate) (place_:Int) (principal_:Int) (t_:Int):Option Int := (foldL (F_3r place_ principal_ t_) a_.Events 0 (-1)).bind fun x162=>some x162
@[irreducible] def mg_70:List MOp:=[fa_ 24 25 2 11,fL 24 26 25,fV 24 27 1,gF 24 28 (.bin false .neq (.t 26) (.t 27)),pO 24 28 29]
@[irreducible] def mg_71:List MOp:=[fa_ 30 31 3 11,fL 30 32 31,fV 30 33 2,gF 30 34 (.bin false .neq (.t 32) (.t 33)),pO 30 34 35]
@[irreducible] def mc_3r:MC := (sR [bT .lss 15 14 16] (.seq (.cond (.t 16) .skip (.exit 0)) (.seq (.block 1 (sR [oV 15 17,iA 7 13 15 18,lN 7 18 19,mo (.alloc [(.int .i64 0),(.int .i64 0),(.int .i64 0),(.int .i64 0),(.int .i64 0),(.int .i64 0),(.int .i64 0)]) 11,oV 17 10,⟨.st 7 (.t 11) (.t 19),none,none⟩] (.seq (.seq (.regI [.op (oF 0 11 20),.op (oL 20 21),.op (oV 3 22),.op (bT .gtr 21 22 23),.op (oV 23 24),.grp mg_70,.op (oV 29 30),.grp mg_71]) (.cond (.t 35) (.exit 1) .skip)) (sR [oF 1 11 36,oL 36 37] (.block 2 (sR [bC .eql 37 1 39,oV 39 38] (.cond (.t 38) (.reg [oV 10 40,oV 40 9]) (sR [bC .eql 37 2 42,oV 42 41] (.cond (.t 41) (.reg [oC (-1) 9]) .skip))))))))) (.reg [aI 15 1 43,oV 43 15]))))
def mc_2z:MC := (sR [bx 0 4,oC 0 8] (sR [oC (-1) 9] (.seq (sR [oF 1 4 12,oL 12 13,lE 13 14,oC 0 15] (.block 0 (.loop mc_3r))) (sR [oV 9 44,oV 44 8] .ret))))
attribute [go_sem] F_3r
instance:GV mg_71 35 [31,32,33,34]:=⟨⟩
instance:GV mg_70 29 [25,26,27,28]:=⟨⟩
instance:LI mc_3r 15 14 [1,2,3,13,14] [] (fun y:Int=>[(9,.int .i64 y)]) (fun y=>[]) []:=⟨⟩
instance Wq_ref27_grant {a_:GEstate} {place_ principal_ t_:Int}:WI (F_2z a_ place_ principal_ t_) Tryz.prog 176 [GEstate.v a_,.int .i64 place_,.int .i64 principal_,.int .i64 t_] [] (fun z=>.int .i64 z) (fun z=>[]):=⟨fun Q Q' h hQ=>by
 refine acallM mc_2z [] [] [.t 8] Tryz.func176 fun M=>?_
 unfold F_2z at h
 unfold mc_2z
 exact tX⟩
noncomputable def F_4l (a_:GEstate) (place_:Int) (t_:Int) (x26:Int×(List Int)):Option (Fl (Int×(List Int)) (List Int)) := bif decide (x26.1<24) then jn (α:=List Int) ((F_2z a_ place_ x26.1 t_).bind fun y34=>bif decide (0≤y34) then chk (room (x26.2.length+[x26.1].length) 8) (some (x26.2++[x26.1])) else some x26.2) fun j32=>chk (in64 (x26.1+1)) (some (.nx ((x26.1+1),j32))) else some (.ex x26.2)
noncomputable def F_2a (a_:GEstate) (place_:Int) (t_:Int):Option (List Int) := (F_x a_ place_).bind fun y4=>bif (!y4) then some [] else (loop (F_4l a_ place_ t_) (0,[])).bind fun r35=>some r35
@[irreducible] def mc_72:MC := (.reg [oV 8 15,aI 15 1 16,oV 16 8])
@[irreducible] def mc_4l:MC := (.seq (sR [oV 8 13,bC .lss 13 24 14] (.cond (.t 14) .skip (.exit 0))) (.cut (.block 1 (sR [lN 2 3 17,oV 1 18,oV 8 19,oV 2 20,mo (.call (.f 176) [(.t 17),(.t 18),(.t 19),(.t 20)] [] []) 21,bC .geq 21 0 22] (.cond (.t 22) (.note (.gc [1,2,3,7,8]) (.reg [oV 7 23,oV 8 24,mo (.bslice 1 [(.t 24)]) 25,ap 1 8 23 25 26,oV 26 7])) .skip))) mc_72))
def mc_2a:MC := (sR [bx 0 3,mo (.mv (.c (.sl []))) 6] (.seq (sR [lN 2 3 9,oV 1 10,k2 53 9 10 11,nT 11 12] (.cond (.t 12) (sR [mo (.mv (.c (.sl []))) 6] .ret) .skip)) (sR [mo (.mv (.c .nils)) 7] (.seq (sR [oC 0 8] (.block 0 (.loop mc_4l))) (sR [oV 7 27,oV 27 6] .ret)))))
attribute [go_sem] F_4l
instance:LI mc_72 0 0 [1,2,3,8] [3] (fun y:List Int=>[(7,.osl 2007 1 0 y.length)]) (fun y=>[.o 2007 (.arr 1 (y.map (V.int .i64)))]) [.gc [1,2,3,7,8],.acc 7 2007 1]:=⟨⟩
instance:LI mc_4l 0 0 [1,2,3] [3] (fun y:Int×(List Int)=>[(7,.osl 2007 1 0 y.2.length),(8,.int .i64 y.1)]) (fun y=>[.o 2007 (.arr 1 (y.2.map (V.int .i64)))]) [.gc [1,2,3,7,8],.acc 7 2007 1]:=⟨⟩
instance Wq_ref27_Granted {a_:GEstate} {place_ t_:Int}:WI (F_2a a_ place_ t_) Tryz.prog 135 [GEstate.v a_,.int .i64 place_,.int .i64 t_] [] (fun z=>.sl (z.map (V.int .i64))) (fun z=>[]):=⟨fun Q Q' h hQ=>by
 refine acallM mc_2a [.fz 6] [] [.t 6] Tryz.func135 fun M=>?_
 unfold F_2a at h
 unfold mc_2a
 exact tX⟩
def F_4m (x_:Int) (k11:Int) (a12:Int) (x10:Unit):Option (Fl Unit Bool) := bif decide (a12=x_) then some (.ex true) else some (.nx ())
def F_30 (l_:List Int) (x_:Int):Option Bool := (forL (F_4m x_) l_ 0 ()).bind fun o=>o.elim (fun x13=>some false) (fun r14=>some r14)
@[irreducible] def mc_4m:MC := (sR [bT .lss 9 8 10] (.seq (.cond (.t 10) .skip (.exit 0)) (.seq (.block 1 (sR [iA 1 7 9 11,oL 11 12,oV 12 6] (sR [oV 6 13,oV 1 14,bT .eql 13 14 15] (.cond (.t 15) (sR [mT 4] .ret) .skip)))) (.reg [aI 9 1 16,oV 16 9]))))
def mc_30:MC := (sR [mF 4] (.seq (sR [oV 0 7,lE 7 8,oC 0 9] (.block 0 (.loop mc_4m))) (sR [mF 4] .ret)))
attribute [go_sem] F_4m
instance:LI mc_4m 9 8 [1,7,8] [] (fun y:Unit=>[]) (fun y=>[]) []:=⟨⟩
instance Wq_ref23_Has {l_:List Int} {x_:Int}:WI (F_30 l_ x_) Tryz.prog 136 [.sl (l_.map (V.int .i64)),.int .i64 x_] [] (fun z=>.bool z) (fun z=>[]):=⟨fun Q Q' h hQ=>by
 refine acallM mc_30 [] [] [.t 4] Tryz.func136 fun M=>?_
 unfold F_30 at h
 unfold mc_30
 exact tX⟩
noncomputable def F_4n (y2:List Int) (k37:Int) (a38:Int) (x36:Unit):Option (Fl Unit Bool) := (F_30 y2 a38).bind fun y46=>bif y46 then some (.ex true) else some (.nx ())
noncomputable def F_31 (d_:GDirectory) (a_:GEstate) (p_:Int) (place_:Int) (t_:Int):Option Bool := (F_29 d_ p_ t_).bind fun y2=>(F_2a a_ place_ t_).bind fun y25=>(forL (F_4n y2) y25 0 ()).bind fun o=>o.elim (fun x47=>some false) (fun r48=>some r48)
@[irreducible] def mc_4n:MC := (sR [bT .lss 23 22 24] (.seq (.cond (.t 24) .skip (.exit 0)) (.seq (.block 1 (sR [iA 1 21 23 25,oL 25 26,oV 26 13] (sR [oV 11 27,oV 13 28,k2 136 27 28 29] (.cond (.t 29) (sR [mT 10] .ret) .skip)))) (.reg [aI 23 1 30,oV 30 23]))))
def mc_31:MC := (sR [bx 0 5,bx 1 6,mF 10] (sR [lN 2 5 14,oV 2 15,oV 4 16,k3 134 14 15 16 17,oV 17 11] (.seq (.seq (.note (.gc [3,4,6,11]) (.reg [lN 2 6 18,oV 3 19,oV 4 20,k3 135 18 19 20 21,lE 21 22,oC 0 23])) (.block 0 (.loop mc_4n))) (sR [mF 10] .ret))))
attribute [go_sem] F_4n
instance:LI mc_4n 23 22 [11,21,22] [] (fun y:Unit=>[]) (fun y=>[]) []:=⟨⟩
instance Wq_ref28_granted {d_:GDirectory} {a_:GEstate} {p_ place_ t_:Int}:WI (F_31 d_ a_ p_ place_ t_) Tryz.prog 100 [GDirectory.v d_,GEstate.v a_,.int .i64 p_,.int .i64 place_,.int .i64 t_] [] (fun z=>.bool z) (fun z=>[]):=⟨fun Q Q' h hQ=>by
 refine acallM mc_31 [] [] [.t 10] Tryz.func100 fun M=>?_
 unfold F_31 at h
 unfold mc_31
 exact tX⟩
noncomputable def F_2b (d_:GDirectory) (a_:GEstate) (p_:Int) (place_:Int) (t_:Int):Option Bool := (F_w d_).bind fun y10=>bif (!y10) then some false else (F_x a_ place_).bind fun y11=>bif (!y11) then some false else (F_28 d_ p_).bind fun y12=>bif (!y12) then some false else (F_1j a_ place_ t_).bind fun y14=>jn (α:=Bool) (bif y14.2 then some true else (F_31 d_ a_ p_ place_ t_).bind fun y18=>some y18) fun j19=>some j19
@[irreducible] def mg_73:List MOp:=[gF 36 37 (.ld (some 2) (.t 5)),gF 36 38 (.ld (some 2) (.t 6)),fV 36 39 2,fV 36 40 3,fV 36 41 4,gF 36 42 (.call (.f 100) [(.t 37),(.t 38),(.t 39),(.t 40),(.t 41)] [] []),pO 36 42 43]
def mc_2b:MC := (sR [bx 0 5,bx 1 6,mF 10] (.seq (sR [lN 2 5 13,k1 51 13 14,nT 14 15,oV 15 16,gF 16 17 (.ld (some 2) (.t 6)),fV 16 18 3,gF 16 19 (.call (.f 53) [(.t 17),(.t 18)] [] []),gF 16 20 (.not (.t 19)),pO 16 20 21,oV 21 22,gF 22 23 (.ld (some 2) (.t 5)),fV 22 24 2,gF 22 25 (.call (.f 99) [(.t 23),(.t 24)] [] []),gF 22 26 (.not (.t 25)),pO 22 26 27] (.cond (.t 27) (sR [mF 10] .ret) .skip)) (.seq (.note (.gc [2,3,4,5,6,37,38,39,40,41,42]) (.reg [lN 2 6 29,oV 3 30,oV 4 31,k3 54 29 30 31 32,oV 32 28,xT 0 28 33,xT 1 28 34,oV 33 11,oV 34 12])) (.seq (.note (.gc [2,3,4,5,6,12,37,38,39,40,41,42]) (.regI [.op (oV 12 35),.op (oV 35 36),.grp mg_73,.op (oV 43 10)])) .ret))))
instance:GI mg_73 [] [] (fun y:Bool=>[(43,.bool y)]) (fun y=>[]):=⟨⟩
instance Wq_ref28_May {d_:GDirectory} {a_:GEstate} {p_ place_ t_:Int}:WI (F_2b d_ a_ p_ place_ t_) Tryz.prog 55 [GDirectory.v d_,GEstate.v a_,.int .i64 p_,.int .i64 place_,.int .i64 t_] [] (fun z=>.bool z) (fun z=>[]):=⟨fun Q Q' h hQ=>by
 refine acallM mc_2b [] [] [.t 10] Tryz.func55 fun M=>?_
 unfold F_2b at h
 unfold mc_2b
 exact tX⟩
noncomputable def F_3s (d_:GDirectory) (a_:GEstate) (place_:Int) (t_:Int) (k58:Int) (a59:Int) (x57:Bool×(List Int)):Option (Bool×(List Int)) := (F_2b d_ a_ k58 place_ t_).bind fun y67=>bif y67 then chk (room (x57.2.length+[k58].length) 8) (some (x57.1,(x57.2++[k58]))) else some (x57.1,x57.2)
noncomputable def F_32 (d_:GDirectory) (a_:GEstate) (place_:Int) (t_:Int):Option (GAudience×Int) := (F_w d_).bind fun y4=>bif (!y4) then some ((GAudience.mk false []),30) else (F_l a_).bind fun y8=>bif (!y8) then some ((GAudience.mk false []),34) else (F_x a_ place_).bind fun y12=>bif (!y12) then some ((GAudience.mk false []),6) else (F_1j a_ place_ t_).bind fun y14=>(foldL (F_3s d_ a_ place_ t_) d_.Kinds 0 (y14.2,[])).bind fun x68=>some ((GAudience.mk x68.1 x68.2),0)
@[irreducible] def mc_3s:MC := (sR [bT .lss 36 35 37] (.seq (.cond (.t 37) .skip (.exit 0)) (.seq (.block 1 (sR [oV 36 38,oV 38 11] (sR [lN 2 4 39,lN 2 5 40,oV 11 41,oV 2 42,oV 3 43,mo (.call (.f 55) [(.t 39),(.t 40),(.t 41),(.t 42),(.t 43)] [] []) 44] (.cond (.t 44) (.note (.gc [2,3,4,5,8,10,11,35,36]) (.reg [oF 1 10 45,oL 45 46,oV 11 47,mo (.bslice 1 [(.t 47)]) 48,ap 1 8 46 48 49,oF 1 10 50,⟨.st 1 (.t 50) (.t 49),none,none⟩])) .skip)))) (.reg [aI 36 1 51,oV 51 36]))))
def mc_32:MC := (sR [bx 0 4,bx 1 5,mo (.alloc [(.bool false),(.sl [])]) 8,oC 0 9] (.seq (sR [lN 2 4 12,k1 51 12 13,nT 13 14] (.cond (.t 14) (.seq (.note (.gc [8]) (.reg [mo (.build [(.bool false),(.sl [])] []) 15,⟨.st 2 (.t 8) (.t 15),none,none⟩,oC 30 9])) .ret) .skip)) (.seq (sR [lN 2 5 16,k1 52 16 17,nT 17 18] (.cond (.t 18) (.seq (.note (.gc [8]) (.reg [mo (.build [(.bool false),(.sl [])] []) 19,⟨.st 2 (.t 8) (.t 19),none,none⟩,oC 34 9])) .ret) .skip)) (.seq (.seq (.note (.gc [2,3,4,5,8]) (.reg [lN 2 5 20,oV 2 21,k2 53 20 21 22,nT 22 23])) (.cond (.t 23) (.seq (.note (.gc [8]) (.reg [mo (.build [(.bool false),(.sl [])] []) 24,⟨.st 2 (.t 8) (.t 24),none,none⟩,oC 6 9])) .ret) .skip)) (sR [mo (.alloc [(.bool false),.nils]) 10] (sR [lN 2 5 26,oV 2 27,oV 3 28,k3 54 26 27 28 29,oV 29 25,xT 0 25 30,xT 1 25 31,oF 0 10 32,⟨.st 1 (.t 32) (.t 31),none,none⟩] (.seq (.seq (.note (.gc [2,3,4,5,8,10]) (.reg [oF 0 4 33,oL 33 34,lE 34 35,oC 0 36])) (.block 0 (.loop mc_3s))) (sR [lN 2 10 52,⟨.st 2 (.t 8) (.t 52),none,none⟩,oC 0 9] .ret))))))))
attribute [go_sem] F_3s
instance:LI mc_3s 36 35 [2,3,4,5,8,10,35] [8,5,4] (fun y:Bool×(List Int)=>[]) (fun y=>[.o 10 (.cells [.bool y.1,.osl 4161 1 0 y.2.length]),.o 4161 (.arr 1 (y.2.map (V.int .i64)))]) [.gc [2,3,4,5,8,10,35,36],.ownC 10 1 4161 1 none]:=⟨⟩
instance Wq_ref28_Who {d_:GDirectory} {a_:GEstate} {place_ t_:Int}:WI (F_32 d_ a_ place_ t_) Tryz.prog 15 [GDirectory.v d_,GEstate.v a_,.int .i64 place_,.int .i64 t_] [] (fun z=>.tup [GAudience.v z.1,.int .i64 z.2]) (fun z=>[]):=⟨fun Q Q' h hQ=>by
 refine acallM mc_32 [.fzc 8] [] [.c 8 (some 2),.t 9] Tryz.func15 fun M=>?_
 unfold F_32 at h
 unfold mc_32
 exact tX⟩
def F_2c (d_:GDirectory) (a_:GEstate) (content_:Int) (p_:Int):Option Bool := (F_w d_).bind fun y8=>jn (α:=Bool) (bif y8 then (F_l a_).bind fun y10=>some y10 else some false) fun j11=>grp ((j11&&decide (0≤content_))) fun b12=>grp ((b12&&decide (content_≤63))) fun b13=>jn (α:=Bool) (bif b13 then bif decide (p_=(-1)) then some true else (F_28 d_ p_).bind fun y15=>some y15 else some false) fun j16=>some j16
@[irreducible] def mg_74:List MOp:=[gT 11 12 (.ld (some 2) (.t 5)),gT 11 13 (.call (.f 52) [(.t 12)] [] []),pA 11 13 14]
@[irreducible] def mg_75:List MOp:=[tV 15 16 2,gT 15 17 (.bin false .geq (.t 16) (cI 0)),pA 15 17 18]
@[irreducible] def mg_76:List MOp:=[tV 19 20 2,gT 19 21 (.bin false .leq (.t 20) (cI 63)),pA 19 21 22]
@[irreducible] def mg_77:List MOp:=[tV 23 24 3,gT 23 25 (.bin false .eql (.t 24) (cI (-1))),tV 23 26 25,gF 26 27 (.ld (some 2) (.t 4)),fV 26 28 3,gF 26 29 (.call (.f 99) [(.t 27),(.t 28)] [] []),gT 23 30 (.pick (.t 26) (.c (.bool true)) (.t 29)),pA 23 30 31]
def mc_2c:MC := (sR [bx 0 4,bx 1 5,mF 8] (.seq (.regI [.op (lN 2 4 9),.op (k1 51 9 10),.op (oV 10 11),.grp mg_74,.op (oV 14 15),.grp mg_75,.op (oV 18 19),.grp mg_76,.op (oV 22 23),.grp mg_77,.op (oV 31 8)]) .ret))
instance:GI mg_77 [8] [] (fun y:Bool=>[(31,.bool y)]) (fun y=>[]):=⟨⟩
instance:GV mg_76 22 [20,21]:=⟨⟩
instance:GV mg_75 18 [16,17]:=⟨⟩
instance:GI mg_74 [2,3,4,8] [4] (fun y:Bool=>[(14,.bool y)]) (fun y=>[]):=⟨⟩
instance Wq_ref30_right {d_:GDirectory} {a_:GEstate} {content_ p_:Int}:WI (F_2c d_ a_ content_ p_) Tryz.prog 56 [GDirectory.v d_,GEstate.v a_,.int .i64 content_,.int .i64 p_] [] (fun z=>.bool z) (fun z=>[]):=⟨fun Q Q' h hQ=>by
 refine acallM mc_2c [] [] [.t 8] Tryz.func56 fun M=>?_
 unfold F_2c at h
 unfold mc_2c
 exact tX⟩
def F_4o (k20:Int) (a21:GAccess) (x19:List Int):Option (List Int) := bif decide ((x19.length:Int)=0) then chk (room (x19.length+[a21.Time].length) 8) (some (x19++[a21.Time])) else chk (in64 ((x19.length:Int) - 1)) (chk (inb ((x19.length:Int) - 1) x19.length) (bif (!decide (x19.getD ((((x19.length:Int) - 1)).toNat) default=a21.Time)) then chk (room (x19.length+[a21.Time].length) 8) (some (x19++[a21.Time])) else some x19))
def F_33 (a_:GEstate):Option (List Int) := (F_l a_).bind fun y4=>bif (!y4) then some [] else (foldL F_4o a_.Events 0 []).bind fun x22=>some x22
@[irreducible] def mc_4o:MC := (sR [bT .lss 12 11 13] (.seq (.cond (.t 13) .skip (.exit 0)) (.seq (.block 1 (sR [iA 7 10 12 14,lN 7 14 15,mo (.alloc [(.int .i64 0),(.int .i64 0),(.int .i64 0),(.int .i64 0),(.int .i64 0),(.int .i64 0),(.int .i64 0)]) 5,⟨.st 7 (.t 5) (.t 15),none,none⟩] (.seq (.regD [oV 3 16,lE 16 17,bC .eql 17 0 18,oV 18 19,fV 19 20 3,fV 19 21 3,gF 19 22 (.len false (.t 21)),gF 19 23 (.bin true .sub (.t 22) (cI 1)),gF 19 24 (.iad 1 (.t 20) (.t 23)),fL 19 25 24,fa_ 19 26 0 5,fL 19 27 26,gF 19 28 (.bin false .neq (.t 25) (.t 27)),pO 19 28 29] [[],[0],[1],[2],[3],[3],[5,3],[6,3],[4,7,3],[8,3],[3],[10,3],[9,11,3],[3,12]] [[],[0],[0,1],[0,1,2],[0,1,2,3],[0,1,2,3],[0,1,2,3,5],[0,1,2,3,5,6],[0,1,2,3,4,5,6,7],[0,1,2,3,4,5,6,7,8],[0,1,2,3],[0,1,2,3,10],[0,1,2,3,4,5,6,7,8,9,10,11],[0,1,2,3,4,5,6,7,8,9,10,11,12]]) (.cond (.t 29) (.note (.gc [3,5,10,11,12,20,21,22,23,24,25,26,27,28]) (.reg [oV 3 30,oF 0 5 31,oL 31 32,mo (.bslice 1 [(.t 32)]) 33,ap 1 8 30 33 34,oV 34 3])) .skip)))) (.reg [aI 12 1 35,oV 35 12]))))
def mc_33:MC := (sR [bx 0 1,mo (.mv (.c .nils)) 2] (.seq (sR [lN 2 1 6,k1 52 6 7,nT 7 8] (.cond (.t 8) (sR [mo (.mv (.c .nils)) 2] .ret) .skip)) (sR [mo (.mv (.c .nils)) 3] (.seq (sR [oF 1 1 9,oL 9 10,lE 10 11,oC 0 12] (.block 0 (.loop mc_4o))) (sR [oV 3 36,oV 36 2] .ret)))))
attribute [go_sem] F_4o
instance:LI mc_4o 12 11 [10,11] [] (fun y:List Int=>[(3,.osl 2003 1 0 y.length)]) (fun y=>[.o 2003 (.arr 1 (y.map (V.int .i64)))]) [.gc [3,10,11,12],.acc 3 2003 1]:=⟨⟩
instance Wq_ref27_Times {a_:GEstate}:WI (F_33 a_) Tryz.prog 101 [GEstate.v a_] [] (fun z=>.osl 1900 1 0 z.length) (fun z=>[(1900,.arr 1 (z.map (V.int .i64)))]):=⟨fun Q Q' h hQ=>by
 refine acallM mc_33 [.acc 2 1900 1] [1900] [.t 2] Tryz.func101 fun M=>?_
 unfold F_33 at h
 unfold mc_33
 exact tX⟩
noncomputable def F_3t (x129:List Int) (a131:GMember) (x162:Int):Option (Fl Int Int) := bif decide (x162<(x129.length:Int)) then chk (inb x162 x129.length) (bif decide (x129.getD ((x162).toNat) default<a131.Time) then chk (in64 (x162+1)) (some (.nx (x162+1))) else some (.ex x162)) else some (.ex x162)
noncomputable def F_34 (k130:Int) (a131:GMember) (x129:List Int):Option (List Int) := (loop (F_3t x129 a131) 0).bind fun r163=>bif decide (r163=(x129.length:Int)) then chk (inc 0 r163 x129.length) (chk (inc r163 (x129.length:Int) x129.length) (chk (room ([a131.Time].length+((x129.drop ((r163).toNat)).take (x129.length - (r163).toNat)).length) 8) (chk (roomc 0 ((r163).toNat) x129.length ([a131.Time]++(x129.drop ((r163).toNat)).take (x129.length - (r163).toNat)).length 8) (some (x129.take ((r163).toNat)++([a131.Time]++(x129.drop ((r163).toNat)).take (x129.length - (r163).toNat))))))) else chk (inb r163 x129.length) (bif (!decide (x129.getD ((r163).toNat) default=a131.Time)) then chk (inc 0 r163 x129.length) (chk (inc r163 (x129.length:Int) x129.length) (chk (room ([a131.Time].length+((x129.drop ((r163).toNat)).take (x129.length - (r163).toNat)).length) 8) (chk (roomc 0 ((r163).toNat) x129.length ([a131.Time]++(x129.drop ((r163).toNat)).take (x129.length - (r163).toNat)).length 8) (some (x129.take ((r163).toNat)++([a131.Time]++(x129.drop ((r163).toNat)).take (x129.length - (r163).toNat))))))) else some x129)
noncomputable def F_35 (d_:GDirectory) (a_:GEstate):Option (List Int) := (F_33 a_).bind fun y2=>(foldL F_34 d_.Events 0 y2).bind fun x164=>some x164
@[irreducible] def mc_3t:MC := (.seq (.seq (.regD [oV 8 18,oV 5 19,lE 19 20,bT .lss 18 20 21,oV 21 22,tV 22 23 5,tV 22 24 8,gT 22 25 (.iad 1 (.t 23) (.t 24)),tL 22 26 25,ta_ 22 27 0 7,tL 22 28 27,gT 22 29 (.bin false .lss (.t 26) (.t 28)),pA 22 29 30] [[],[],[1],[0,2],[3],[4],[4],[5,6,4],[7,4],[4],[9,4],[8,10,4],[4,11]] [[],[],[1],[0,1,2],[0,1,2,3],[0,1,2,3,4],[0,1,2,3,4],[0,1,2,3,4,5,6],[0,1,2,3,4,5,6,7],[0,1,2,3,4],[0,1,2,3,4,9],[0,1,2,3,4,5,6,7,8,9,10],[0,1,2,3,4,5,6,7,8,9,10,11]]) (.cond (.t 30) .skip (.exit 2))) (.block 3 (.reg [oV 8 31,aI 31 1 32,oV 32 8])))
@[irreducible] def mc_34:MC := (sR [bT .lss 14 13 15] (.seq (.cond (.t 15) .skip (.exit 0)) (.seq (.block 1 (sR [iA 4 12 14 16,lN 4 16 17,mo (.alloc [(.int .i64 0),(.int .i64 0),(.int .i64 0),(.int .i64 0)]) 7,⟨.st 4 (.t 7) (.t 17),none,none⟩] (sR [oC 0 8] (.seq (.block 2 (.loop mc_3t)) (.seq (.regD [oV 8 33,oV 5 34,lE 34 35,bT .eql 33 35 36,oV 36 37,fV 37 38 5,fV 37 39 8,gF 37 40 (.iad 1 (.t 38) (.t 39)),fL 37 41 40,fa_ 37 42 0 7,fL 37 43 42,gF 37 44 (.bin false .neq (.t 41) (.t 43)),pO 37 44 45] [[],[],[1],[0,2],[3],[4],[4],[5,6,4],[7,4],[4],[9,4],[8,10,4],[4,11]] [[],[],[1],[0,1,2],[0,1,2,3],[0,1,2,3,4],[0,1,2,3,4],[0,1,2,3,4,5,6],[0,1,2,3,4,5,6,7],[0,1,2,3,4],[0,1,2,3,4,9],[0,1,2,3,4,5,6,7,8,9,10],[0,1,2,3,4,5,6,7,8,9,10,11]]) (.cond (.t 45) (.regD [oV 5 46,oV 8 47,mo (.slc 1 (.t 46) none (some (.t 47))) 48,oF 0 7 49,oL 49 50,mo (.bslice 1 [(.t 50)]) 51,oV 5 52,oV 8 53,mo (.slc 1 (.t 52) (some (.t 53)) none) 54,ap 1 8 51 54 55,mo (.mp (.apc 1 8) [(.t 48),(.t 55)]) 56,oV 56 5] [[],[],[0,1],[],[3],[4],[],[],[6,7],[5,8],[2,9,9],[10,10,0,1,2,3,4,5,6,7,8,9,10]] [[],[],[0,1],[],[3],[3,4],[],[],[6,7],[3,4,5,6,7,8],[0,1,2,3,4,5,6,7,8,9],[0,1,2,3,4,5,6,7,8,9,10]]) .skip)))))) (.reg [aI 14 1 57,oV 57 14]))))
def mc_35:MC := (sR [bx 0 2,bx 1 3,mo (.mv (.c (.sl []))) 4] (sR [lN 2 3 9,mo (.call (.f 101) [(.t 9)] [] [10]) 10,oV 10 5] (.seq (sR [oF 1 2 11,oL 11 12,lE 12 13,oC 0 14] (.block 0 (.loop mc_34))) (sR [oV 5 58,oV 58 4] .ret))))
instance Wq_ref30_times {d_:GDirectory} {a_:GEstate}:WI (F_35 d_ a_) Tryz.prog 57 [GDirectory.v d_,GEstate.v a_] [] (fun z=>.sl (z.map (V.int .i64))) (fun z=>[]):=⟨fun Q Q' h hQ=>by
 refine acallM mc_35 [.fz 4] [] [.t 4] Tryz.func57 fun M=>?_
 unfold F_35 at h
 unfold mc_35
 replace h:=tY h
 refine tB ?_
 repeat' (first
 | (exact tZ)
 | ((first|refine oblg h ?_|refine roomG h ?_|refine inbG h ?_|refine incG h ?_|refine divG h ?_|refine appG h ?_|refine appC h ?_|refine fork h ?_ ?_|refine forkS h ?_ ?_)<;>clear h<;>intro hc h)
 | (obtain ⟨y,hy,h⟩:=h;have hw:=acall_swe 1900 10 (Wq_ref27_Times.c.w hy);replace hw:=tY hw;(first|refine M.sC hw ?_|refine M.sD hw ?_);clear hw hy;refine tB ?_)
 | (refine M.wh1 (b:=mc_3t) [5,7,12,13,14] [7,2005] (fun x=>[(8,.int .i64 x)]) (fun x=>[]) [] h ?_ ?_<;>first
 | (clear h;intro x Qn K hK1 h;unfold F_3t at h;unfold mc_3t;replace h:=tY h;refine tB ?_)
  |(clear h;(try refine tB ?_);exact tU0;done))
 | (refine M.fold1 (b:=mc_34) 14 [12,13] [] (fun x=>[(5,.osl 2005 1 0 x.length)]) (fun x=>[.o 2005 (.arr 1 (x.map (V.int .i64)))]) [.gc [5,12,13,14],.acc 5 2005 1] h ?_ ?_ ?_<;>first
 | (clear h;intro k a x Qn K hK2 hkN2 ha2 h hf;have hl:=fact_int (factsE_find (n:=13) hf.1 rfl);clear hf;have hkd:=kD hkN2;have hkB2:=kB hkN2;have hkI2:=kI (k:=k) (by omega);unfold F_34 at h;unfold mc_34;replace h:=tY h;refine tK ha2 hkd hkN2 hkB2 hkI2 ?_)
  |(clear h;intro x K h;replace h:=And.left (And.intro h trivial);unfold mc_34;replace h:=tY h;refine tB ?_)
  |(clear h;(try refine tB ?_);exact tU0;done))
 | (simp only [ha2])
 | ((first|refine hK1 _ ?_|refine hK2 _ ?_);(try refine tB ?_);refine ⟨_,h,?_⟩;exact tU0;done)
 | (refine tE ?_;(first|rw [M.lok_compU]|rw [M.lokD_compU]);refine tB ?_)
 | (refine tA ?_)
 | fail)⟩
def F_36 (a_:GEstate) (content_:Int):Option Bool := (F_l a_).bind fun y4=>grp ((y4&&decide (0≤content_))) fun b5=>grp ((b5&&decide (content_≤63))) fun b6=>some b6
@[irreducible] def mg_78:List MOp:=[tV 7 8 1,gT 7 9 (.bin false .geq (.t 8) (cI 0)),pA 7 9 10]
@[irreducible] def mg_79:List MOp:=[tV 11 12 1,gT 11 13 (.bin false .leq (.t 12) (cI 63)),pA 11 13 14]
def mc_36:MC := (sR [bx 0 2,mF 4] (.seq (.regI [.op (lN 2 2 5),.op (k1 52 5 6),.op (oV 6 7),.grp mg_78,.op (oV 10 11),.grp mg_79,.op (oV 14 4)]) .ret))
instance:GV mg_79 14 [12,13]:=⟨⟩
instance:GV mg_78 10 [8,9]:=⟨⟩
instance Wq_ref29_right {a_:GEstate} {content_:Int}:WI (F_36 a_ content_) Tryz.prog 137 [GEstate.v a_,.int .i64 content_] [] (fun z=>.bool z) (fun z=>[]):=⟨fun Q Q' h hQ=>by
 refine acallM mc_36 [] [] [.t 4] Tryz.func137 fun M=>?_
 unfold F_36 at h
 unfold mc_36
 exact tX⟩
noncomputable def F_4p (a_:GEstate) (t_:Int) (x7:Int):Option (Fl Int Int) := bif decide (x7<(a_.Events.length:Int)) then chk (inb x7 a_.Events.length) (bif decide ((a_.Events.getD (x7).toNat default).Time≤t_) then chk (in64 (x7+1)) (some (.nx (x7+1))) else some (.ex x7)) else some (.ex x7)
noncomputable def F_37 (a_:GEstate) (t_:Int):Option Int := (loop (F_4p a_ t_) 0).bind fun r8=>some r8
@[irreducible] def mc_4p:MC := (.seq (sR [oV 5 6,oF 1 2 7,oL 7 8,lE 8 9,bT .lss 6 9 10,oV 10 11,ta_ 11 12 1 2,tL 11 13 12,tV 11 14 5,gT 11 15 (.iad 7 (.t 13) (.t 14)),ta_ 11 16 0 15,tL 11 17 16,tV 11 18 1,gT 11 19 (.bin false .leq (.t 17) (.t 18)),pA 11 19 20] (.cond (.t 20) .skip (.exit 0))) (.block 1 (.reg [oV 5 21,aI 21 1 22,oV 22 5])))
def mc_37:MC := (sR [bx 0 2,oC 0 4] (sR [oC 0 5] (.seq (.block 0 (.loop mc_4p)) (sR [oV 5 23,oV 23 4] .ret))))
attribute [go_sem] F_4p
instance:LI mc_4p 0 0 [1,2] [2] (fun y:Int=>[(5,.int .i64 y)]) (fun y=>[]) []:=⟨⟩
instance Wq_ref29_happened {a_:GEstate} {t_:Int}:WI (F_37 a_ t_) Tryz.prog 139 [GEstate.v a_,.int .i64 t_] [] (fun z=>.int .i64 z) (fun z=>[]):=⟨fun Q Q' h hQ=>by
 refine acallM mc_37 [] [] [.t 4] Tryz.func139 fun M=>?_
 unfold F_37 at h
 unfold mc_37
 exact tX⟩
def F_3u (content_:Int) (k16:Int) (a17:GAccess) (x15:List Bool):Option (List Bool) := bif decide (a17.Kind=5) then chk (inb a17.Place x15.length) (bif x15.getD ((a17.Place).toNat) default then chk (inb a17.Place x15.length) (some (x15.set ((a17.Place).toNat) true)) else chk (inb a17.Place x15.length) (some (x15.set ((a17.Place).toNat) (decide (a17.Content=content_))))) else bif decide (a17.Kind=6) then chk (inb a17.Place x15.length) (bif x15.getD ((a17.Place).toNat) default then chk (inb a17.Place x15.length) (some (x15.set ((a17.Place).toNat) (!decide (a17.Content=content_)))) else chk (inb a17.Place x15.length) (some (x15.set ((a17.Place).toNat) false))) else bif decide (a17.Kind=7) then chk (inb a17.Place x15.length) (bif x15.getD ((a17.Place).toNat) default then chk (inb a17.Place x15.length) (some (x15.set ((a17.Place).toNat) true)) else chk (inb a17.From x15.length) (chk (inb a17.Place x15.length) (some (x15.set ((a17.Place).toNat) (x15.getD ((a17.From).toNat) default))))) else some x15
def F_38 (a_:GEstate) (content_:Int) (n_:Int):Option (List Bool) := chk (roomI a_.Places a_.Places 1) (chk (inc 0 n_ a_.Events.length) ((foldL (F_3u content_) (a_.Events.take ((n_).toNat)) 0 (List.replicate (a_.Places).toNat false)).bind fun x18=>some x18))
@[irreducible] def mc_3u:MC := (sR [bT .lss 18 17 19] (.seq (.cond (.t 19) .skip (.exit 0)) (.seq (.block 1 (sR [iA 7 16 18 20,lN 7 20 21,mo (.alloc [(.int .i64 0),(.int .i64 0),(.int .i64 0),(.int .i64 0),(.int .i64 0),(.int .i64 0),(.int .i64 0)]) 9,⟨.st 7 (.t 9) (.t 21),none,none⟩] (sR [oF 1 9 22,oL 22 23] (.block 2 (sR [bC .eql 23 5 25,oV 25 24] (.cond (.t 24) (.regD [oV 7 26,oF 2 9 27,oL 27 28,oV 7 29,oF 2 9 30,oL 30 31,iA 1 29 31 32,oL 32 33,oV 33 34,fa_ 34 35 5 9,fL 34 36 35,fV 34 37 1,gF 34 38 (.bin false .eql (.t 36) (.t 37)),pO 34 38 39,iA 1 26 28 40,⟨.st 1 (.t 40) (.t 39),none,none⟩] [[],[],[1],[],[],[4],[3,5],[6],[7],[8],[9,8],[8],[10,11,8],[8,12],[0,2,0,1,2,3,4,5,6,7,8,9,10,11,12,13],[14,13,8,0,1,2,3,4,5,6,7,8,9,10,11,12,13]] [[],[],[1],[],[],[4],[3,4,5],[3,4,5,6],[3,4,5,6,7],[3,4,5,6,7,8],[3,4,5,6,7,8,9],[3,4,5,6,7,8],[3,4,5,6,7,8,9,10,11],[3,4,5,6,7,8,9,10,11,12],[0,1,2,3,4,5,6,7,8,9,10,11,12,13],[0,1,2,3,4,5,6,7,8,9,10,11,12,13,14]]) (sR [bC .eql 23 6 42,oV 42 41] (.cond (.t 41) (.note (.gc [1,7,9,16,17,18,35,36,37,38,52,53,54,55,69,70,71,72,73]) (.regD [oV 7 43,oF 2 9 44,oL 44 45,oV 7 46,oF 2 9 47,oL 47 48,iA 1 46 48 49,oL 49 50,oV 50 51,ta_ 51 52 5 9,tL 51 53 52,tV 51 54 1,gT 51 55 (.bin false .neq (.t 53) (.t 54)),pA 51 55 56,iA 1 43 45 57,⟨.st 1 (.t 57) (.t 56),none,none⟩] [[],[],[1],[],[],[4],[3,5],[6],[7],[8],[9,8],[8],[10,11,8],[8,12],[0,2,0,1,2,3,4,5,6,7,8,9,10,11,12,13],[14,13,8,0,1,2,3,4,5,6,7,8,9,10,11,12,13]] [[],[],[1],[],[],[4],[3,4,5],[3,4,5,6],[3,4,5,6,7],[3,4,5,6,7,8],[3,4,5,6,7,8,9],[3,4,5,6,7,8],[3,4,5,6,7,8,9,10,11],[3,4,5,6,7,8,9,10,11,12],[0,1,2,3,4,5,6,7,8,9,10,11,12,13],[0,1,2,3,4,5,6,7,8,9,10,11,12,13,14]])) (sR [bC .eql 23 7 59,oV 59 58] (.cond (.t 58) (.note (.gc [1,7,9,16,17,18,35,36,37,38,52,53,54,55,69,70,71,72,73]) (.regD [oV 7 60,oF 2 9 61,oL 61 62,oV 7 63,oF 2 9 64,oL 64 65,iA 1 63 65 66,oL 66 67,oV 67 68,fV 68 69 7,fa_ 68 70 6 9,fL 68 71 70,gF 68 72 (.iad 1 (.t 69) (.t 71)),fL 68 73 72,pO 68 73 74,iA 1 60 62 75,⟨.st 1 (.t 75) (.t 74),none,none⟩] [[],[],[1],[],[],[4],[3,5],[6],[7],[8],[8],[10,8],[9,11,8],[12,8],[8,13],[0,2,0,1,2,3,4,5,6,7,8,9,10,11,12,13,14],[15,14,8,0,1,2,3,4,5,6,7,8,9,10,11,12,13,14]] [[],[],[1],[],[],[4],[3,4,5],[3,4,5,6],[3,4,5,6,7],[3,4,5,6,7,8],[3,4,5,6,7,8],[3,4,5,6,7,8,10],[3,4,5,6,7,8,9,10,11],[3,4,5,6,7,8,9,10,11,12],[3,4,5,6,7,8,9,10,11,12,13],[0,1,2,3,4,5,6,7,8,9,10,11,12,13,14],[0,1,2,3,4,5,6,7,8,9,10,11,12,13,14,15]])) .skip)))))))))) (.reg [aI 18 1 76,oV 76 18]))))
def mc_38:MC := (sR [bx 0 3,mo (.mv (.c (.sl []))) 6] (sR [oF 0 3 10,oL 10 11,mo (.mksl 1 1 (.bool false) (.t 11) (.t 11)) 12,oV 12 7] (.seq (sR [oF 1 3 13,oL 13 14,oV 2 15,mo (.slc 7 (.t 14) none (some (.t 15))) 16,lE 16 17,oC 0 18] (.block 0 (.loop mc_3u))) (sR [oV 7 77,oV 77 6] .ret))))
attribute [go_sem] F_3u
instance:LI mc_3u 18 17 [1,16,17] [] (fun y:List Bool=>[(7,.osl 12 1 0 y.length)]) (fun y=>[.o 12 (.arr 1 (y.map V.bool))]) []:=⟨⟩
instance Wq_ref29_now {a_:GEstate} {content_ n_:Int}:WI (F_38 a_ content_ n_) Tryz.prog 138 [GEstate.v a_,.int .i64 content_,.int .i64 n_] [] (fun z=>.sl (z.map V.bool)) (fun z=>[]):=⟨fun Q Q' h hQ=>by
 refine acallM mc_38 [.fz 6] [] [.t 6] Tryz.func138 fun M=>?_
 unfold F_38 at h
 unfold mc_38
 exact tX⟩
noncomputable def F_3v (k28:Int) (a29:Bool) (x27:List Int):Option (List Int) := bif a29 then chk (room (x27.length+[k28].length) 8) (some (x27++[k28])) else some x27
noncomputable def F_39 (a_:GEstate) (content_:Int) (t_:Int):Option (List Int) := (F_36 a_ content_).bind fun y4=>bif (!y4) then some [] else (F_37 a_ t_).bind fun y20=>(F_38 a_ content_ y20).bind fun y21=>(foldL F_3v y21 0 []).bind fun x30=>some x30
@[irreducible] def mc_3v:MC := (sR [bT .lss 21 20 22] (.seq (.cond (.t 22) .skip (.exit 0)) (.seq (.block 1 (sR [oV 21 23,iA 1 19 21 24,oL 24 25,oV 23 8,oV 25 9] (sR [oV 9 26] (.cond (.t 26) (.reg [oV 7 27,oV 8 28,mo (.bslice 1 [(.t 28)]) 29,ap 1 8 27 29 30,oV 30 7]) .skip)))) (.reg [aI 21 1 31,oV 31 21]))))
def mc_39:MC := (sR [bx 0 3,mo (.mv (.c (.sl []))) 6] (.seq (sR [lN 2 3 10,oV 1 11,k2 137 10 11 12,nT 12 13] (.cond (.t 13) (sR [mo (.mv (.c (.sl []))) 6] .ret) .skip)) (sR [mo (.mv (.c .nils)) 7] (.seq (.seq (.regD [lN 2 3 14,oV 1 15,lN 2 3 16,oV 2 17,k2 139 16 17 18,k3 138 14 15 18 19,lE 19 20,oC 0 21] [[],[],[],[],[2,3],[0,1,4,4],[5],[]] [[],[],[],[],[2,3],[0,1,2,3,4],[0,1,2,3,4,5],[]]) (.block 0 (.loop mc_3v))) (sR [oV 7 32,oV 32 6] .ret)))))
attribute [go_sem] F_3v
instance:LI mc_3v 21 20 [19,20] [] (fun y:List Int=>[(7,.osl 2007 1 0 y.length)]) (fun y=>[.o 2007 (.arr 1 (y.map (V.int .i64)))]) [.gc [7,19,20,21],.acc 7 2007 1]:=⟨⟩
instance Wq_ref29_Where {a_:GEstate} {content_ t_:Int}:WI (F_39 a_ content_ t_) Tryz.prog 102 [GEstate.v a_,.int .i64 content_,.int .i64 t_] [] (fun z=>.sl (z.map (V.int .i64))) (fun z=>[]):=⟨fun Q Q' h hQ=>by
 refine acallM mc_39 [.fz 6] [] [.t 6] Tryz.func102 fun M=>?_
 unfold F_39 at h
 unfold mc_39
 exact tX⟩
noncomputable def F_4q (d_:GDirectory) (a_:GEstate) (p_:Int) (t_:Int) (k67:Int) (a68:Int) (x66:Unit):Option (Fl Unit Bool) := bif decide (p_=(-1)) then (F_1j a_ a68 t_).bind fun y82=>bif y82.2 then some (.ex true) else some (.nx ()) else (F_2b d_ a_ p_ a68 t_).bind fun y84=>bif y84 then some (.ex true) else some (.nx ())
noncomputable def F_3a (d_:GDirectory) (a_:GEstate) (content_:Int) (p_:Int) (t_:Int):Option Bool := (F_2c d_ a_ content_ p_).bind fun y10=>grp (((!y10)||decide (t_<0))) fun b11=>grp ((b11||decide (1099511627776<t_))) fun b12=>bif b12 then some false else (F_39 a_ content_ t_).bind fun y47=>(forL (F_4q d_ a_ p_ t_) y47 0 ()).bind fun o=>o.elim (fun x85=>some false) (fun r86=>some r86)
@[irreducible] def mg_7a:List MOp:=[fV 21 22 4,gF 21 23 (.bin false .lss (.t 22) (cI 0)),pO 21 23 24]
@[irreducible] def mg_7b:List MOp:=[fV 25 26 4,gF 25 27 (.bin false .gtr (.t 26) (cI 1099511627776)),pO 25 27 28]
@[irreducible] def mc_4q:MC := (sR [bT .lss 34 33 35] (.seq (.cond (.t 35) .skip (.exit 0)) (.seq (.block 1 (sR [iA 1 32 34 36,oL 36 37,oV 37 12] (sR [oV 3 38,bC .eql 38 (-1) 39] (.cond (.t 39) (sR [lN 2 6 41,oV 12 42,oV 4 43,k3 54 41 42 43 44,oV 44 40,xT 0 40 45,xT 1 40 46,oV 45 13,oV 46 14] (sR [oV 14 47] (.cond (.t 47) (sR [mT 10] .ret) .skip))) (sR [lN 2 5 48,lN 2 6 49,oV 3 50,oV 12 51,oV 4 52,mo (.call (.f 55) [(.t 48),(.t 49),(.t 50),(.t 51),(.t 52)] [] []) 53] (.cond (.t 53) (sR [mT 10] .ret) .skip)))))) (.reg [aI 34 1 54,oV 54 34]))))
def mc_3a:MC := (sR [bx 0 5,bx 1 6,mF 10] (.seq (.seq (.regI [.op (lN 2 5 15),.op (lN 2 6 16),.op (oV 2 17),.op (oV 3 18),.op (mo (.call (.f 56) [(.t 15),(.t 16),(.t 17),(.t 18)] [] []) 19),.op (nT 19 20),.op (oV 20 21),.grp mg_7a,.op (oV 24 25),.grp mg_7b]) (.cond (.t 28) (sR [mF 10] .ret) .skip)) (.seq (.seq (.note (.gc [2,3,4,5,6]) (.reg [lN 2 6 29,oV 2 30,oV 4 31,k3 102 29 30 31 32,lE 32 33,oC 0 34])) (.block 0 (.loop mc_4q))) (sR [mF 10] .ret))))
attribute [go_sem] F_4q
instance:LI mc_4q 34 33 [3,4,5,6,32,33] [6,5] (fun y:Unit=>[]) (fun y=>[]) []:=⟨⟩
instance:GV mg_7b 28 [26,27]:=⟨⟩
instance:GV mg_7a 24 [22,23]:=⟨⟩
instance Wq_ref30_Could {d_:GDirectory} {a_:GEstate} {content_ p_ t_:Int}:WI (F_3a d_ a_ content_ p_ t_) Tryz.prog 58 [GDirectory.v d_,GEstate.v a_,.int .i64 content_,.int .i64 p_,.int .i64 t_] [] (fun z=>.bool z) (fun z=>[]):=⟨fun Q Q' h hQ=>by
 refine acallM mc_3a [] [] [.t 10] Tryz.func58 fun M=>?_
 unfold F_3a at h
 unfold mc_3a
 exact tX⟩
noncomputable def F_4r (d_:GDirectory) (a_:GEstate) (content_:Int) (p_:Int) (k39:Int) (a40:Int) (x38:Unit):Option (Fl Unit (Int×Bool)) := (F_3a d_ a_ content_ p_ a40).bind fun y48=>bif y48 then some (.ex (a40,true)) else some (.nx ())
noncomputable def F_3b (d_:GDirectory) (a_:GEstate) (content_:Int) (p_:Int):Option (Int×Bool) := (F_2c d_ a_ content_ p_).bind fun y4=>bif (!y4) then some (0,false) else (F_35 d_ a_).bind fun y27=>(forL (F_4r d_ a_ content_ p_) y27 0 ()).bind fun o=>o.elim (fun x49=>some (0,false)) (fun r50=>some r50)
@[irreducible] def mc_4r:MC := (sR [bT .lss 22 21 23] (.seq (.cond (.t 23) .skip (.exit 0)) (.seq (.block 1 (sR [iA 1 20 22 24,oL 24 25,oV 25 11] (sR [lN 2 4 26,lN 2 5 27,oV 2 28,oV 3 29,oV 11 30,mo (.call (.f 58) [(.t 26),(.t 27),(.t 28),(.t 29),(.t 30)] [] []) 31] (.cond (.t 31) (.seq (.note (.gc [11]) (.reg [oV 11 32,oV 32 8,mT 9])) .ret) .skip)))) (.reg [aI 22 1 33,oV 33 22]))))
def mc_3b:MC := (sR [bx 0 4,bx 1 5,oC 0 8,mF 9] (.seq (sR [lN 2 4 12,lN 2 5 13,oV 2 14,oV 3 15,mo (.call (.f 56) [(.t 12),(.t 13),(.t 14),(.t 15)] [] []) 16,nT 16 17] (.cond (.t 17) (sR [oC 0 8,mF 9] .ret) .skip)) (.seq (.seq (.note (.gc [2,3,4,5]) (.reg [lN 2 4 18,lN 2 5 19,k2 57 18 19 20,lE 20 21,oC 0 22])) (.block 0 (.loop mc_4r))) (sR [oC 0 8,mF 9] .ret))))
attribute [go_sem] F_4r
instance:LI mc_4r 22 21 [2,3,4,5,20,21] [5,4] (fun y:Unit=>[]) (fun y=>[]) []:=⟨⟩
instance Wq_ref30_Since {d_:GDirectory} {a_:GEstate} {content_ p_:Int}:WI (F_3b d_ a_ content_ p_) Tryz.prog 16 [GDirectory.v d_,GEstate.v a_,.int .i64 content_,.int .i64 p_] [] (fun z=>.tup [.int .i64 z.1,.bool z.2]) (fun z=>[]):=⟨fun Q Q' h hQ=>by
 refine acallM mc_3b [] [] [.t 8,.t 9] Tryz.func16 fun M=>?_
 unfold F_3b at h
 unfold mc_3b
 exact tX⟩
end Go.Ab
