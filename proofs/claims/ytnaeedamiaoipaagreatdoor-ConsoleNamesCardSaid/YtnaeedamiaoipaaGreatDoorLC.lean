/- What the functions of this seat that lie on the laws' road compute (part LC), each for every input. By AI agents. -/
import Derived.Test.YtnaeedamiaoipaaGreatDoorProg
import Derived.KernelRfl
import Derived.Test.YtnaeedamiaoipaaGreatDoorAbFun
import Derived.Test.YtnaeedamiaoipaaGreatDoorLB
import Derived.Test.YtnaeedamiaoipaaGreatDoorAbMir
set_option linter.all false
set_option linter.all false
set_option maxRecDepth 20000
set_option maxHeartbeats 2000000
namespace Go.Ab
open Go.Proofs
structure GTape where
 L:List Int
 at_:Int
instance:Inhabited GTape:=⟨⟨default,default⟩⟩
def GTape.v (x:GTape):V:=.agg [.sl (x.L.map (V.int .i64)),.int .i64 x.at_]
attribute [go_sem] GTape.v
def F_0 (t_:GTape) (n_:Int):Option (Int×GTape) :=
 bif decide ((t_.L.length:Int)≤t_.at_) then some (0,t_) else chk (inb t_.at_ t_.L.length) (chk (in64 (t_.at_+1)) (chk (divs ((t_.L.getD (t_.at_).toNat default) % 2^16) n_) (some ((((t_.L.getD (t_.at_).toNat default) % 2^16) % n_),(GTape.mk t_.L (t_.at_+1))))))
def mc_0:MC :=
 (sR [oC 0 4]
 (.seq (.seq (.regD [oV 0 6,
 mo (.nck (.t 6)) 7,
 oF 1 7 8,
 oL 8 9,
 oV 0 10,
 mo (.nck (.t 10)) 11,
 oF 0 11 12,
 oL 12 13,
 mo (.len false (.t 13)) 14,
 mo (.bin false .geq (.t 9) (.t 14)) 15]
 [[],[0],[1],[2],[],[4],[5],[6],[7],[3,8]]
 [[],[0],[0,1],[0,1,2],[],[4],[4,5],[4,5,6],[4,5,6,7],[0,1,2,3,4,5,6,7,8]])
 (.cond (.t 15)
 (sR [oC 0 4]
 .ret)
 .skip))
 (.seq (.note (.gc [0,1]) (.regD [oV 0 16,
 mo (.nck (.t 16)) 17,
 oF 0 17 18,
 oL 18 19,
 oV 0 20,
 mo (.nck (.t 20)) 21,
 oF 1 21 22,
 oL 22 23,
 mo (.iad 1 (.t 19) (.t 23)) 24,
 oL 24 25,
 mo (.mask 16 (.t 25) .i64) 26,
 oV 26 5]
 [[],[0],[1],[2],[],[4],[5],[6],[3,7],[8],[9],[10,0,1,2,3,4,5,6,7,8,9,10]]
 [[],[0],[0,1],[0,1,2],[],[4],[4,5],[4,5,6],[0,1,2,3,4,5,6,7],[0,1,2,3,4,5,6,7,8],[0,1,2,3,4,5,6,7,8,9],[0,1,2,3,4,5,6,7,8,9,10]]))
 (.seq (.note (.gc [0,1,5]) (.reg [oV 0 27,
 mo (.nck (.t 27)) 28,
 oF 1 28 29,
 oL 29 30,
 mo (.bin true .add (.t 30) (cI 1)) 31,
 mo (.nck (.t 27)) 32,
 oF 1 32 33,
 ⟨.st 1 (.t 33) (.t 31),none,none⟩]))
 (.seq (.note (.gc [1,5]) (.reg [oV 5 34,
 oV 1 35,
 mo (.bin true .rem (.t 34) (.t 35)) 36,
 oV 36 4]))
 .ret)))))
instance Wq_made_Tape_Next {t_:GTape} {n_:Int}:WI (F_0 t_ n_) Tryz.prog 11 [.ptr 1000 0,.int .i64 n_] [(1000,.cells [.sl (t_.L.map (V.int .i64)),.int .i64 t_.at_])] (fun z=>.int .i64 z.1) (fun z=>[(1000,.cells [.sl (z.2.L.map (V.int .i64)),.int .i64 z.2.at_])]):=⟨fun Q Q' h hQ=>by
 refine acallM mc_0 [] [1000] [.t 4] Tryz.func11 fun M=>?_
 unfold F_0 at h
 unfold mc_0
 exact tX⟩
def F_2e (t_:GTape) (a_:Int) (b_:Int):Option (Int×GTape) :=
 chk (in64 (b_ - a_)) (chk (in64 ((b_ - a_)+1)) ((F_0 t_ ((b_ - a_)+1)).bind fun y2=>chk (in64 (a_+y2.1)) (some ((a_+y2.1),y2.2))))
def mc_2e:MC :=
 (sR [oC 0 6]
 (sR [oV 1 7,
 oV 0 8,
 oV 2 9,
 oV 1 10,
 mo (.bin true .sub (.t 9) (.t 10)) 11,
 mo (.bin true .add (.t 11) (cI 1)) 12,
 mo (.call (.f 11) [(.t 8),(.t 12)] [1000] []) 13,
 mo (.bin true .add (.t 7) (.t 13)) 14,
 oV 14 6]
 .ret))
instance Wq_made_Tape_Between {t_:GTape} {a_ b_:Int}:WI (F_2e t_ a_ b_) Tryz.prog 59 [.ptr 1000 0,.int .i64 a_,.int .i64 b_] [(1000,.cells [.sl (t_.L.map (V.int .i64)),.int .i64 t_.at_])] (fun z=>.int .i64 z.1) (fun z=>[(1000,.cells [.sl (z.2.L.map (V.int .i64)),.int .i64 z.2.at_])]):=⟨fun Q Q' h hQ=>by
 refine acallM mc_2e [] [1000] [.t 6] Tryz.func59 fun M=>?_
 unfold F_2e at h
 unfold mc_2e
 exact tX⟩
def F_2f (t_:GTape) (names_:List Str):Option (GCommand×GTape) :=
 (F_0 t_ (names_.length:Int)).bind fun y2=>chk (inb y2.1 names_.length) ((F_0 y2.2 10).bind fun y4=>(F_2e y4.2 1 11).bind fun y6=>jn (α:=Bool) (bif decide (y6.1=1) then some true else some (decide (y6.1=2))) fun j7=>bif j7 then some ((GCommand.mk y6.1 (names_.getD (y2.1).toNat default) [] 0 0 0),y6.2) else jn (α:=Bool) (bif decide (y6.1=3) then some true else some (decide (y6.1=4))) fun j8=>bif j8 then (F_0 y6.2 (names_.length:Int)).bind fun y10=>chk (inb y10.1 names_.length) (some ((GCommand.mk y6.1 (names_.getD (y2.1).toNat default) (names_.getD (y10.1).toNat default) y4.1 0 0),y10.2)) else jn (α:=Bool) (bif decide (y6.1=5) then some true else some (decide (y6.1=6))) fun j11=>bif j11 then (F_0 y6.2 3).bind fun y13=>some ((GCommand.mk y6.1 (names_.getD (y2.1).toNat default) [] y4.1 y13.1 0),y13.2) else bif decide (y6.1=7) then (F_0 y6.2 3).bind fun y16=>(F_0 y16.2 5).bind fun y17=>chk (in64 (y4.1+y17.1)) (some ((GCommand.mk y6.1 [] [] y4.1 y16.1 (y4.1+y17.1)),y17.2)) else bif decide (y6.1=8) then (F_0 y6.2 3).bind fun y20=>(F_0 y20.2 3).bind fun y21=>some ((GCommand.mk y6.1 [] [] y4.1 y20.1 y21.1),y21.2) else bif decide (y6.1=9) then (F_0 y6.2 3).bind fun y24=>(F_0 y24.2 3).bind fun y25=>some ((GCommand.mk y6.1 [] [] y4.1 y24.1 y25.1),y25.2) else bif decide (y6.1=10) then (F_0 y6.2 3).bind fun y27=>some ((GCommand.mk y6.1 [] [] y4.1 y27.1 0),y27.2) else (F_0 y6.2 3).bind fun y29=>some ((GCommand.mk 11 (names_.getD (y2.1).toNat default) [] 0 y29.1 0),y29.2))
@[irreducible] def mc_58:MC :=
 (.cond (.t 44)
 (sR [oV 7 47,
 oV 6 48,
 oV 5 49,
 oV 0 50,
 mo (.call (.f 11) [(.t 50),(cI 3)] [1000] []) 51,
 mo (.build [(.int .i64 0),(.str []),(.str []),(.int .i64 0),(.int .i64 0),(.int .i64 0)] [(0,1,(.t 47)),(3,1,(.t 48)),(1,1,(.t 49)),(4,1,(.t 51))]) 52,
 ⟨.st 6 (.t 4) (.t 52),none,none⟩]
 .ret)
 (sR [mo (.bin false .eql (.t 19) (cI 7)) 54,
 oV 54 53]
 (.cond (.t 53)
 (sR [oV 7 55,
 oV 6 56,
 oV 0 57,
 mo (.call (.f 11) [(.t 57),(cI 3)] [1000] []) 58,
 oV 6 59,
 oV 0 60,
 mo (.call (.f 11) [(.t 60),(cI 5)] [1000] []) 61,
 mo (.bin true .add (.t 59) (.t 61)) 62,
 mo (.build [(.int .i64 0),(.str []),(.str []),(.int .i64 0),(.int .i64 0),(.int .i64 0)] [(0,1,(.t 55)),(3,1,(.t 56)),(4,1,(.t 58)),(5,1,(.t 62))]) 63,
 ⟨.st 6 (.t 4) (.t 63),none,none⟩]
 .ret)
 (sR [mo (.bin false .eql (.t 19) (cI 8)) 65,
 oV 65 64]
 (.cond (.t 64)
 (sR [oV 7 66,
 oV 6 67,
 oV 0 68,
 mo (.call (.f 11) [(.t 68),(cI 3)] [1000] []) 69,
 oV 0 70,
 mo (.call (.f 11) [(.t 70),(cI 3)] [1000] []) 71,
 mo (.build [(.int .i64 0),(.str []),(.str []),(.int .i64 0),(.int .i64 0),(.int .i64 0)] [(0,1,(.t 66)),(3,1,(.t 67)),(4,1,(.t 69)),(5,1,(.t 71))]) 72,
 ⟨.st 6 (.t 4) (.t 72),none,none⟩]
 .ret)
 (sR [mo (.bin false .eql (.t 19) (cI 9)) 74,
 oV 74 73]
 (.cond (.t 73)
 (.seq (.note (.gc [0,4,6,7]) (.reg [oV 7 75,
 oV 6 76,
 oV 0 77,
 mo (.call (.f 11) [(.t 77),(cI 3)] [1000] []) 78,
 oV 0 79,
 mo (.call (.f 11) [(.t 79),(cI 3)] [1000] []) 80,
 mo (.build [(.int .i64 0),(.str []),(.str []),(.int .i64 0),(.int .i64 0),(.int .i64 0)] [(0,1,(.t 75)),(3,1,(.t 76)),(4,1,(.t 78)),(5,1,(.t 80))]) 81,
 ⟨.st 6 (.t 4) (.t 81),none,none⟩]))
 .ret)
 (sR [mo (.bin false .eql (.t 19) (cI 10)) 83,
 oV 83 82]
 (.cond (.t 82)
 (.seq (.note (.gc [0,4,6,7]) (.reg [oV 7 84,
 oV 6 85,
 oV 0 86,
 mo (.call (.f 11) [(.t 86),(cI 3)] [1000] []) 87,
 mo (.build [(.int .i64 0),(.str []),(.str []),(.int .i64 0),(.int .i64 0),(.int .i64 0)] [(0,1,(.t 84)),(3,1,(.t 85)),(4,1,(.t 87))]) 88,
 ⟨.st 6 (.t 4) (.t 88),none,none⟩]))
 .ret)
 (.seq (.note (.gc [0,4,5]) (.reg [oV 0 20,
 mo (.call (.f 11) [(.t 20),(cI 3)] [1000] []) 21,
 oV 5 22,
 mo (.build [(.int .i64 0),(.str []),(.str []),(.int .i64 0),(.int .i64 0),(.int .i64 0)] [(0,1,(cI 11)),(4,1,(.t 21)),(1,1,(.t 22))]) 23,
 ⟨.st 6 (.t 4) (.t 23),none,none⟩]))
 .ret))))))))))
@[irreducible] def mc_59:MC :=
 (.cond (.t 30)
 (sR [oV 7 33,
 oV 6 34,
 oV 5 35,
 oV 1 36,
 oV 0 37,
 oV 1 38,
 mo (.len false (.t 38)) 39,
 mo (.call (.f 11) [(.t 37),(.t 39)] [1000] []) 40,
 mo (.iad 1 (.t 36) (.t 40)) 41,
 oL 41 42,
 mo (.build [(.int .i64 0),(.str []),(.str []),(.int .i64 0),(.int .i64 0),(.int .i64 0)] [(0,1,(.t 33)),(3,1,(.t 34)),(1,1,(.t 35)),(2,1,(.t 42))]) 43,
 ⟨.st 6 (.t 4) (.t 43),none,none⟩]
 .ret)
 (.cut (sR [mo (.bin false .eql (.t 19) (cI 5)) 45,
 oV 45 44]
 (.cond (.t 44)
 .skip
 (.reg [mo (.bin false .eql (.t 19) (cI 6)) 46,
 oV 46 44])))
 mc_58))
@[irreducible] def mc_5a:MC :=
 (.cond (.t 24)
 (sR [oV 7 27,
 oV 5 28,
 mo (.build [(.int .i64 0),(.str []),(.str []),(.int .i64 0),(.int .i64 0),(.int .i64 0)] [(0,1,(.t 27)),(1,1,(.t 28))]) 29,
 ⟨.st 6 (.t 4) (.t 29),none,none⟩]
 .ret)
 (.cut (sR [mo (.bin false .eql (.t 19) (cI 3)) 31,
 oV 31 30]
 (.cond (.t 30)
 .skip
 (.reg [mo (.bin false .eql (.t 19) (cI 4)) 32,
 oV 32 30])))
 mc_59))
def mc_2f:MC :=
 (sR [mo (.alloc [(.int .i64 0),(.str []),(.str []),(.int .i64 0),(.int .i64 0),(.int .i64 0)]) 4]
 (sR [oV 1 8,
 oV 0 9,
 oV 1 10,
 mo (.len false (.t 10)) 11,
 mo (.call (.f 11) [(.t 9),(.t 11)] [1000] []) 12,
 mo (.iad 1 (.t 8) (.t 12)) 13,
 oL 13 14,
 oV 14 5]
 (sR [oV 0 15,
 mo (.call (.f 11) [(.t 15),(cI 10)] [1000] []) 16,
 oV 16 6]
 (.seq (.note (.gc [0,1,4,5,6]) (.reg [oV 0 17,
 mo (.call (.f 59) [(.t 17),(cI 1),(cI 11)] [1000] []) 18,
 oV 18 7]))
 (sR [oV 7 19]
 (.block 0
 (.cut (sR [mo (.bin false .eql (.t 19) (cI 1)) 25,
 oV 25 24]
 (.cond (.t 24)
 .skip
 (.reg [mo (.bin false .eql (.t 19) (cI 2)) 26,
 oV 26 24])))
 mc_5a)))))))
instance:LI mc_58 0 0 [0,4,5,6,7,19] [4,1000] (fun y:Bool=>[(44,.bool y)]) (fun y=>[]) []:=⟨⟩
instance:LI mc_59 0 0 [0,1,4,5,6,7,19] [4,1000] (fun y:Bool=>[(30,.bool y)]) (fun y=>[]) []:=⟨⟩
instance:LI mc_5a 0 0 [0,1,4,5,6,7,19] [4,1000] (fun y:Bool=>[(24,.bool y)]) (fun y=>[]) []:=⟨⟩
instance Wq_made_Command {t_:GTape} {names_:List Str}:WI (F_2f t_ names_) Tryz.prog 17 [.ptr 1000 0,.sl (names_.map V.str)] [(1000,.cells [.sl (t_.L.map (V.int .i64)),.int .i64 t_.at_])] (fun z=>GCommand.v z.1) (fun z=>[(1000,.cells [.sl (z.2.L.map (V.int .i64)),.int .i64 z.2.at_])]):=⟨fun Q Q' h hQ=>by
 refine acallM mc_2f [] [1000] [.c 4 (some 6)] Tryz.func17 fun M=>?_
 unfold F_2f at h
 unfold mc_2f
 exact tX⟩
noncomputable def F_2x (x61:Int×(List GCommand)×GTape):Option (Fl (Int×(List GCommand)×GTape) ((List GCommand)×GTape)) :=
 bif decide (0<x61.1) then jn (α:=(List GCommand)×GTape) ((F_2f x61.2.2 [[97,110,110],[111,112,115],[98,111,98],[100,101,118]]).bind fun y83=>jn (α:=Fl (GCommand×GTape) GTape) (jn (α:=Bool) (bif decide (y83.1.Kind=1) then some true else some (decide (y83.1.Kind=2))) fun j90=>bif j90 then some (.ex y83.2) else jn (α:=Bool) (bif decide (y83.1.Kind=3) then some true else some (decide (y83.1.Kind=4))) fun j91=>bif j91 then (F_0 y83.2 2).bind fun y93=>chk (inb y93.1 [[111,112,115],[100,101,118]].length) (bif decide (y83.1.Name=[[111,112,115],[100,101,118]].getD ((y93.1).toNat) default) then some (.ex y93.2) else some (.nx ((GCommand.mk y83.1.Kind y83.1.Name ([[111,112,115],[100,101,118]].getD ((y93.1).toNat) default) y83.1.Time y83.1.A y83.1.B),y93.2))) else bif decide (y83.1.Kind=7) then chk (in64 (y83.1.Time+1)) ((F_0 y83.2 5).bind fun y94=>chk (in64 ((y83.1.Time+1)+y94.1)) (some (.nx ((GCommand.mk y83.1.Kind y83.1.Name y83.1.Other y83.1.Time y83.1.A ((y83.1.Time+1)+y94.1)),y94.2)))) else bif decide (y83.1.Kind=9) then bif decide (y83.1.A=y83.1.B) then some (.ex y83.2) else some (.nx (y83.1,y83.2)) else some (.nx (y83.1,y83.2))) fun o=>o.elim (fun j89=>chk (room (x61.2.1.length+[j89.1].length) 64) (some ((x61.2.1++[j89.1]),j89.2))) (fun r95=>some (x61.2.1,r95))) fun j81=>chk (in64 (x61.1 - 1)) (some (.nx ((x61.1 - 1),j81.1,j81.2))) else some (.ex (x61.2.1,x61.2.2))
noncomputable def F_2g (t_:GTape):Option ((List GCommand)×GTape) :=
 (F_0 t_ 14).bind fun y38=>(loop F_2x (y38.1,[(GCommand.mk 1 [97,110,110] [] 0 0 0),(GCommand.mk 2 [111,112,115] [] 0 0 0),(GCommand.mk 1 [98,111,98] [] 0 0 0),(GCommand.mk 2 [100,101,118] [] 0 0 0)],y38.2)).bind fun r96=>some (r96.1,r96.2)
@[irreducible] def mc_3x:MC :=
 (.cond (.t 27)
 (sR [mo (.bslice 1 [(.c (.str [111,112,115])),(.c (.str [100,101,118]))]) 30,
 oV 0 31,
 mo (.call (.f 11) [(.t 31),(cI 2)] [1000] []) 32,
 mo (.iad 1 (.t 30) (.t 32)) 33,
 oL 33 34,
 oF 2 6 35,
 ⟨.st 1 (.t 35) (.t 34),none,none⟩]
 (.seq (.note (.gc [0,3,4,5,6]) (.reg [oF 1 6 36,
 oL 36 37,
 oF 2 6 38,
 oL 38 39,
 mo (.bin false .eql (.t 37) (.t 39)) 40]))
 (.cond (.t 40)
 (.exit 1)
 .skip)))
 (sR [mo (.bin false .eql (.t 23) (cI 7)) 42,
 oV 42 41]
 (.cond (.t 41)
 (.regD [oF 3 6 43,
 oL 43 44,
 mo (.bin true .add (.t 44) (cI 1)) 45,
 oV 0 46,
 mo (.call (.f 11) [(.t 46),(cI 5)] [1000] []) 47,
 mo (.bin true .add (.t 45) (.t 47)) 48,
 oF 5 6 49,
 ⟨.st 1 (.t 49) (.t 48),none,none⟩]
 [[],[0],[1],[],[3],[2,4],[0,1,2,3,4,5],[6,5,4,0,1,2,3,4,5]]
 [[],[0],[0,1],[],[3],[0,1,2,3,4],[0,1,2,3,4,5],[0,1,2,3,4,5,6]])
 (sR [mo (.bin false .eql (.t 23) (cI 9)) 51,
 oV 51 50]
 (.cond (.t 50)
 (sR [oF 4 6 52,
 oL 52 53,
 oF 5 6 54,
 oL 54 55,
 mo (.bin false .eql (.t 53) (.t 55)) 56]
 (.cond (.t 56)
 (.exit 1)
 .skip))
 .skip)))))
@[irreducible] def mc_3y:MC :=
 (.cond (.t 24)
 (.exit 1)
 (.cut (sR [mo (.bin false .eql (.t 23) (cI 3)) 28,
 oV 28 27]
 (.cond (.t 27)
 .skip
 (.reg [mo (.bin false .eql (.t 23) (cI 4)) 29,
 oV 29 27])))
 mc_3x))
@[irreducible] def mc_3z:MC :=
 (.reg [oV 3 57,
 mo (.ld (some 6) (.t 6)) 58,
 mo (.bslice 6 [(.t 58)]) 59,
 mo (.app 6 64 (.t 57) (.t 59)) 60,
 oV 60 3])
@[irreducible] def mc_40:MC :=
 (.reg [oV 5 17,
 mo (.bin true .sub (.t 17) (cI 1)) 18,
 oV 18 5])
@[irreducible] def mc_2x:MC :=
 (.seq (sR [oV 5 15,
 mo (.bin false .gtr (.t 15) (cI 0)) 16]
 (.cond (.t 16)
 .skip
 (.exit 0)))
 (.cut (.block 1
 (.seq (.regI [.op (oV 0 19),
 .op (oV 4 20),
 .nt (.fz 20),
 .op (mo (.call (.f 17) [(.t 19),(.t 20)] [1000] []) 21),
 .op (mo (.alloc [(.int .i64 0),(.str []),(.str []),(.int .i64 0),(.int .i64 0),(.int .i64 0)]) 6),
 .op ⟨.st 6 (.t 6) (.t 21),none,none⟩])
 (.cut (sR [oF 0 6 22,
 oL 22 23]
 (.block 2
 (.cut (sR [mo (.bin false .eql (.t 23) (cI 1)) 25,
 oV 25 24]
 (.cond (.t 24)
 .skip
 (.reg [mo (.bin false .eql (.t 23) (cI 2)) 26,
 oV 26 24])))
 mc_3y)))
 mc_3z)))
 mc_40))
def mc_2g:MC :=
 (sR [mo (.mv (.c (.sl []))) 2]
 (sR [mo (.build [(.int .i64 0),(.str []),(.str []),(.int .i64 0),(.int .i64 0),(.int .i64 0)] [(0,1,(cI 1)),(1,1,(.c (.str [97,110,110])))]) 7,
 mo (.build [(.int .i64 0),(.str []),(.str []),(.int .i64 0),(.int .i64 0),(.int .i64 0)] [(0,1,(cI 2)),(1,1,(.c (.str [111,112,115])))]) 8,
 mo (.build [(.int .i64 0),(.str []),(.str []),(.int .i64 0),(.int .i64 0),(.int .i64 0)] [(0,1,(cI 1)),(1,1,(.c (.str [98,111,98])))]) 9,
 mo (.build [(.int .i64 0),(.str []),(.str []),(.int .i64 0),(.int .i64 0),(.int .i64 0)] [(0,1,(cI 2)),(1,1,(.c (.str [100,101,118])))]) 10,
 mo (.bslice 6 [(.t 7),(.t 8),(.t 9),(.t 10)]) 11,
 oV 11 3]
 (sR [mo (.bslice 1 [(.c (.str [97,110,110])),(.c (.str [111,112,115])),(.c (.str [98,111,98])),(.c (.str [100,101,118]))]) 12,
 oV 12 4]
 (.seq (sR [oV 0 13,
 mo (.call (.f 11) [(.t 13),(cI 14)] [1000] []) 14,
 oV 14 5]
 (.block 0
 (.loop mc_2x)))
 (sR [oV 3 61,
 oV 61 2]
 .ret)))))
instance Wq_made_Script {t_:GTape}:WI (F_2g t_) Tryz.prog 9 [.ptr 1000 0] [(1000,.cells [.sl (t_.L.map (V.int .i64)),.int .i64 t_.at_])] (fun z=>.sl (z.1.map GCommand.v)) (fun z=>[(1000,.cells [.sl (z.2.L.map (V.int .i64)),.int .i64 z.2.at_])]):=⟨fun Q Q' h hQ=>by
 refine acallM mc_2g [.fz 2] [1000] [.t 2] Tryz.func9 fun M=>?_
 unfold F_2g at h
 unfold mc_2g
 replace h:=tY h
 refine tB ?_
 repeat' (first
 | (exact tZ)
 | ((first|refine oblg h ?_|refine roomG h ?_|refine inbG h ?_|refine incG h ?_|refine divG h ?_|refine appG h ?_|refine appC h ?_|refine fork h ?_ ?_|refine forkS h ?_ ?_)<;>clear h<;>intro hc h)
 | (obtain ⟨y,hy,h⟩:=h;have hw:=WI.w hy;replace hw:=tY hw;(first|refine M.sC hw ?_|refine M.sD hw ?_);clear hw hy;refine tB ?_)
 | (refine M.jn1 (b:=mc_3x) [0,3,4,5,6,23] [6,2003,1000] (fun y=>[(27,.bool y)]) (fun y=>[]) [] h ?_ ?_<;>first
 | (clear h;intro Qn K hK1 h;replace h:=tY h;refine tB ?_)
  |(clear h;intro y h;unfold mc_3x;replace h:=tY h;refine tB ?_))
 | (refine M.jn1 (b:=mc_3y) [0,3,4,5,6,23] [6,2003,1000] (fun y=>[(24,.bool y)]) (fun y=>[]) [] h ?_ ?_<;>first
 | (clear h;intro Qn K hK2 h;replace h:=tY h;refine tB ?_)
  |(clear h;intro y h;unfold mc_3y;replace h:=tY h;refine tB ?_))
 | (refine M.jnE (b:=mc_3z) [0,3,4,5,6] [2003] (fun y=>[]) (fun y=>[.o 6 (.cells [.int .i64 y.1.Kind,.str y.1.Name,.str y.1.Other,.int .i64 y.1.Time,.int .i64 y.1.A,.int .i64 y.1.B]),.o 1000 (.cells [.sl (y.2.L.map (V.int .i64)),.int .i64 y.2.at_])]) [] h ?_ ?_<;>first
 | (clear h;intro Qn K hK3 h;replace h:=tY h;refine tB ?_)
  |(clear h;intro y h;unfold mc_3z;replace h:=tY h;refine tB ?_))
 | (refine M.jn1 (b:=mc_40) [0,4,5] [] (fun y=>[(3,.osl 2003 6 0 y.1.length)]) (fun y=>[.o 2003 (.arr 6 (y.1.map GCommand.v)),.o 1000 (.cells [.sl (y.2.L.map (V.int .i64)),.int .i64 y.2.at_])]) [.gc [0,3,4,5],.acc 3 2003 6] h ?_ ?_<;>first
 | (clear h;intro Qn K hK4 h;replace h:=tY h;refine tB ?_)
  |(clear h;intro y h;unfold mc_40;replace h:=tY h;refine tB ?_))
 | (refine M.wh1 (b:=mc_2x) [0] [] (fun x=>[(3,.osl 2003 6 0 x.2.1.length),(4,.sl ([[97,110,110],[111,112,115],[98,111,98],[100,101,118]].map V.str)),(5,.int .i64 x.1)]) (fun x=>[.o 2003 (.arr 6 (x.2.1.map GCommand.v)),.o 1000 (.cells [.sl (x.2.2.L.map (V.int .i64)),.int .i64 x.2.2.at_])]) [.gc [0,3,4,5],.acc 3 2003 6,.fz 4] h ?_ ?_<;>first
 | (clear h;intro x Qn K hK5 h;unfold F_2x at h;unfold mc_2x;replace h:=tY h;refine tB ?_)
  |(clear h;(try refine tB ?_);exact tU0;done))
 | ((first|refine hK1 _ ?_|refine hK2 _ ?_|refine hK3 _ ?_|refine hK4 _ ?_|refine hK5 _ ?_);(try refine tB ?_);refine ⟨_,h,?_⟩;exact tU0;done)
 | (refine tE4 V.str ?_;(first|rw [M.lok_compU]|rw [M.lokD_compU]|(simp only [V.cells];first|rw [M.lok_comp]|rw [M.lokD_comp]));refine tB ?_)
 | (refine tE ?_;(first|rw [M.lok_compU]|rw [M.lokD_compU]);refine tB ?_)
 | (refine tA ?_)
 | fail)⟩
def F_3j (b_:List GCommand) (k11:Int) (a12:GCommand) (x10:Unit):Option (Fl Unit Bool) :=
 chk (inb k11 b_.length) (bif (!(decide (a12.Kind=(b_.getD (k11).toNat default).Kind)&&(decide (a12.Name=(b_.getD (k11).toNat default).Name)&&(decide (a12.Other=(b_.getD (k11).toNat default).Other)&&(decide (a12.Time=(b_.getD (k11).toNat default).Time)&&(decide (a12.A=(b_.getD (k11).toNat default).A)&&decide (a12.B=(b_.getD (k11).toNat default).B))))))) then some (.ex false) else some (.nx ()))
def F_3k (a_:List GCommand) (b_:List GCommand):Option Bool :=
 bif (!decide ((a_.length:Int)=(b_.length:Int))) then some false else (forL (F_3j b_) a_ 0 ()).bind fun o=>o.elim (fun x13=>some true) (fun r14=>some r14)
@[irreducible] def mc_3j:MC :=
 (sR [mo (.bin false .lss (.t 13) (.t 12)) 14]
 (.seq (.cond (.t 14)
 .skip
 (.exit 0))
 (.seq (.block 1
 (sR [oV 13 15,
 oV 15 5]
 (.seq (.regD [oV 0 16,
 oV 5 17,
 mo (.iad 6 (.t 16) (.t 17)) 18,
 mo (.ld (some 6) (.t 18)) 19,
 oV 1 20,
 oV 5 21,
 mo (.iad 6 (.t 20) (.t 21)) 22,
 mo (.ld (some 6) (.t 22)) 23,
 mo (.eqs true [0,1,1,0,0,0] (.t 19) (.t 23)) 24]
 [[],[],[0,1],[2],[],[],[4,5],[6],[3,7]]
 [[],[],[0,1],[0,1,2],[],[],[4,5],[4,5,6],[0,1,2,3,4,5,6,7]])
 (.cond (.t 24)
 (sR [mo (.mv (.c (.bool false))) 4]
 .ret)
 .skip))))
 (.reg [mo (.bin true .add (.t 13) (cI 1)) 25,
 oV 25 13]))))
def mc_3k:MC :=
 (sR [mo (.mv (.c (.bool false))) 4]
 (.seq (sR [oV 0 6,
 mo (.len false (.t 6)) 7,
 oV 1 8,
 mo (.len false (.t 8)) 9,
 mo (.bin false .neq (.t 7) (.t 9)) 10]
 (.cond (.t 10)
 (sR [mo (.mv (.c (.bool false))) 4]
 .ret)
 .skip))
 (.seq (sR [oV 0 11,
 mo (.len false (.t 11)) 12,
 oC 0 13]
 (.block 0
 (.loop mc_3j)))
 (sR [mo (.mv (.c (.bool true))) 4]
 .ret))))
attribute [go_sem] F_3j
instance:LI mc_3j 13 12 [0,1,12] [] (fun y:Unit=>[]) (fun y=>[]) []:=⟨⟩
instance Wq_ref44_Same {a_ b_:List GCommand}:WI (F_3k a_ b_) Tryz.prog 28 [.sl (a_.map GCommand.v),.sl (b_.map GCommand.v)] [] (fun z=>.bool z) (fun z=>[]):=⟨fun Q Q' h hQ=>by
 refine acallM mc_3k [] [] [.t 4] Tryz.func28 fun M=>?_
 unfold F_3k at h
 unfold mc_3k
 exact tX⟩
end Go.Ab
set_option maxRecDepth 20000
set_option maxHeartbeats 2000000
namespace Go.Ab
open Go.Proofs
def F_2 (e_:Int):Option (GDirectory×GEstate×(List Str)×Int) :=
 some ((GDirectory.mk [] []),(GEstate.mk 0 []),[],e_)
def mc_2:MC :=
 (sR [mo (.alloc [(.sl []),(.sl [])]) 2,
 mo (.alloc [(.int .i64 0),(.sl [])]) 3,
 mo (.mv (.c (.sl []))) 4,
 oC 0 5]
 (sR [mo (.build [(.sl []),(.sl [])] []) 6,
 mo (.build [(.int .i64 0),(.sl [])] []) 7,
 oV 0 8,
 ⟨.st 2 (.t 2) (.t 6),none,none⟩,
 ⟨.st 2 (.t 3) (.t 7),none,none⟩,
 mo (.mv (.c (.sl []))) 4,
 oV 8 5]
 .ret))
instance Wq_console_Make_1 {e_:Int}:WI (F_2 e_) Tryz.prog 35 [.int .i64 e_] [] (fun z=>.tup [GDirectory.v z.1,GEstate.v z.2.1,.sl (z.2.2.1.map V.str),.int .i64 z.2.2.2]) (fun z=>[]):=⟨fun Q Q' h hQ=>by
 refine acallM mc_2 [.fzc 2,.fzc 3,.fz 4] [] [.c 2 (some 2),.c 3 (some 2),.t 4,.t 5] Tryz.func35 fun M=>?_
 unfold F_2 at h
 unfold mc_2
 exact tX⟩
def F_1w (k16:Int) (a17:GCommand) (x15:(List Str)×(List Int)):Option ((List Str)×(List Int)) :=
 bif decide (a17.Kind=1) then chk (room (x15.2.length+[1].length) 8) (chk (room (x15.1.length+[a17.Name].length) 16) (some ((x15.1++[a17.Name]),(x15.2++[1])))) else bif decide (a17.Kind=2) then chk (room (x15.2.length+[2].length) 8) (chk (room (x15.1.length+[a17.Name].length) 16) (some ((x15.1++[a17.Name]),(x15.2++[2])))) else some (x15.1,x15.2)
def F_1x (l_:List GCommand):Option ((List Int)×(List Str)) :=
 (foldL F_1w l_ 0 ([],[])).bind fun x18=>some (x18.2,x18.1)
@[irreducible] def mc_1w:MC :=
 (sR [mo (.bin false .lss (.t 8) (.t 7)) 9]
 (.seq (.cond (.t 9)
 .skip
 (.exit 0))
 (.seq (.block 1
 (sR [mo (.iad 6 (.t 6) (.t 8)) 10,
 mo (.ld (some 6) (.t 10)) 11,
 mo (.alloc [(.int .i64 0),(.str []),(.str []),(.int .i64 0),(.int .i64 0),(.int .i64 0)]) 5,
 ⟨.st 6 (.t 5) (.t 11),none,none⟩]
 (sR [oF 0 5 12,
 oL 12 13]
 (.block 2
 (sR [mo (.bin false .eql (.t 13) (cI 1)) 15,
 oV 15 14]
 (.cond (.t 14)
 (.regD [oV 2 16,
 mo (.bslice 1 [(cI 1)]) 17,
 mo (.app 1 8 (.t 16) (.t 17)) 18,
 oV 3 19,
 oF 1 5 20,
 oL 20 21,
 mo (.bslice 1 [(.t 21)]) 22,
 mo (.app 1 16 (.t 19) (.t 22)) 23,
 oV 18 2,
 oV 23 3]
 [[],[],[0,1],[],[],[4],[5],[3,6,2],[2,7,0,1,2],[7,8,0,1,2,3,4,5,6,7,8]]
 [[],[],[0,1],[],[],[4],[4,5],[0,1,2,3,4,5,6],[0,1,2,3,4,5,6,7],[0,1,2,3,4,5,6,7,8]])
 (sR [mo (.bin false .eql (.t 13) (cI 2)) 25,
 oV 25 24]
 (.cond (.t 24)
 (.note (.gc [2,3,5,6,7,8]) (.regD [oV 2 26,
 mo (.bslice 1 [(cI 2)]) 27,
 mo (.app 1 8 (.t 26) (.t 27)) 28,
 oV 3 29,
 oF 1 5 30,
 oL 30 31,
 mo (.bslice 1 [(.t 31)]) 32,
 mo (.app 1 16 (.t 29) (.t 32)) 33,
 oV 28 2,
 oV 33 3]
 [[],[],[0,1],[],[],[4],[5],[3,6,2],[2,7,0,1,2],[7,8,0,1,2,3,4,5,6,7,8]]
 [[],[],[0,1],[],[],[4],[4,5],[0,1,2,3,4,5,6],[0,1,2,3,4,5,6,7],[0,1,2,3,4,5,6,7,8]]))
 .skip))))))))
 (.reg [mo (.bin true .add (.t 8) (cI 1)) 34,
 oV 34 8]))))
def mc_1x:MC :=
 (sR [mo (.mv (.c .nils)) 2,
 mo (.mv (.c .nils)) 3]
 (.seq (sR [oV 0 6,
 mo (.len false (.t 6)) 7,
 oC 0 8]
 (.block 0
 (.loop mc_1w)))
 (sR [oV 2 35,
 oV 3 36,
 oV 35 2,
 oV 36 3]
 .ret)))
attribute [go_sem] F_1w
instance:LI mc_1w 8 7 [6,7] [] (fun y:(List Str)×(List Int)=>[(2,.osl 2002 1 0 y.2.length),(3,.osl 2003 1 0 y.1.length)]) (fun y=>[.o 2003 (.arr 1 (y.1.map V.str)),.o 2002 (.arr 1 (y.2.map (V.int .i64)))]) [.gc [2,3,6,7,8],.acc 2 2002 1,.acc 3 2003 1]:=⟨⟩
instance Wq_console_introduce {l_:List GCommand}:WI (F_1x l_) Tryz.prog 37 [.sl (l_.map GCommand.v)] [] (fun z=>.tup [.sl (z.1.map (V.int .i64)),.sl (z.2.map V.str)]) (fun z=>[]):=⟨fun Q Q' h hQ=>by
 refine acallM mc_1x [.fz 2,.fz 3] [] [.t 2,.t 3] Tryz.func37 fun M=>?_
 unfold F_1x at h
 unfold mc_1x
 exact tX⟩
def F_3o (k12:Int) (a11:Str) (x10:List Str):Option (Fl (List Str) Empty) :=
 chk (room (x10.length+[a11].length) 16) (some (.nx (x10++[a11])))
def F_2y (seqc0_:List Str):Option (List Str) :=
 (forL F_3o seqc0_ 0 []).bind fun o=>o.elim (fun x13=>some x13) (fun r14=>none)
@[irreducible] def mc_41:MC :=
 (.block 1
 (.reg [oL 2 8,
 oV 5 9,
 mo (.bslice 1 [(.t 9)]) 10,
 mo (.app 1 16 (.t 8) (.t 10)) 11,
 ⟨.st 1 (.t 2) (.t 11),none,none⟩]))
def mc_2y:MC :=
 (sR [mo (.box (.t 0)) 2,
 mo (.mv (.c .nils)) 4]
 (.seq (sR [oV 1 6]
 (.block 0
 (.note (.ownC 2 0 4032 1 none) (.rngF (.t 6) [7] (.reg [oV 7 5]) mc_41))))
 (sR [oL 2 12,
 oV 12 4]
 .ret)))
instance Wq_slices_AppendSeq_string_string_of_slices_Values_string_string_1 {seqc0_:List Str}:WI (F_2y seqc0_) Tryz.prog 111 [.nils,.fn (.func 84) [.eptr (.agg [.sl (seqc0_.map V.str)]) 0]] [] (fun z=>.osl 1900 1 0 z.length) (fun z=>[(1900,.arr 1 (z.map V.str))]):=⟨fun Q Q' h hQ=>by
 refine acallM mc_2y [.acc 4 1900 1] [1900] [.t 4] Tryz.func111 fun M=>?_
 unfold F_2y at h
 unfold mc_2y
 replace h:=tY h
 refine tB ?_
 repeat' (first
 | (exact tZ)
 | ((first|refine oblg h ?_|refine roomG h ?_|refine inbG h ?_|refine incG h ?_|refine divG h ?_|refine appG h ?_|refine appC h ?_|refine fork h ?_ ?_|refine forkS h ?_ ?_)<;>clear h<;>intro hc h)
 | (refine M.rfor (b:=mc_41) (enc:=fun a=>[.str a]) [2] [] (fun x=>[.o 2 (.cells [.osl 4032 1 0 x.length]),.o 4032 (.arr 1 (x.map V.str))]) [.gc [0,1,2,4,6],.ownC 2 0 4032 1 none] h rfl (aiter_vals _) rfl (fun a=>⟨rfl,rfl⟩) ?_ ?_ rfl ?_<;>first
 | (clear h;intro k a x Qn K hK1 hkN1 h hf;clear hf;unfold F_3o at h;unfold mc_41;replace h:=tY h;refine tB ?_)
  |(clear h;intro x h;replace h:=tY h;refine tB ?_)
  |(clear h;(try refine tB ?_);exact tU0;done))
 | (refine hK1 _ ?_;(try refine tB ?_);refine ⟨_,h,?_⟩;exact tU0;done)
 | (refine tE ?_;(first|rw [M.lok_compU]|rw [M.lokD_compU]);refine tB ?_)
 | (refine tA ?_)
 | fail)⟩
def F_2z (seqc0_:List Str):Option (List Str) :=
 (F_2y seqc0_).bind fun y2=>some y2
def mc_2z:MC :=
 (sR [mo (.mv (.c .nils)) 2]
 (sR [oV 0 3,
 mo (.call (.f 111) [(.c .nils),(.t 3)] [] [4]) 4,
 oV 4 2]
 .ret))
instance Wq_slices_Collect_string_of_slices_Values_string_string_1 {seqc0_:List Str}:WI (F_2z seqc0_) Tryz.prog 73 [.fn (.func 84) [.eptr (.agg [.sl (seqc0_.map V.str)]) 0]] [] (fun z=>.osl 1900 1 0 z.length) (fun z=>[(1900,.arr 1 (z.map V.str))]):=⟨fun Q Q' h hQ=>by
 refine acallM mc_2z [.acc 2 1900 1] [1900] [.t 2] Tryz.func73 fun M=>?_
 unfold F_2z at h
 unfold mc_2z
 replace h:=tY h
 refine tB ?_
 repeat' (first
 | (exact tZ)
 | ((first|refine oblg h ?_|refine roomG h ?_|refine inbG h ?_|refine incG h ?_|refine divG h ?_|refine appG h ?_|refine appC h ?_|refine fork h ?_ ?_|refine forkS h ?_ ?_)<;>clear h<;>intro hc h)
 | (obtain ⟨y,hy,h⟩:=h;have hw:=acall_swe 1900 4 (Wq_slices_AppendSeq_string_string_of_slices_Values_string_string_1.c.w hy);replace hw:=tY hw;(first|refine M.sC hw ?_|refine M.sD hw ?_);clear hw hy;refine tB ?_)
 | (refine tE ?_;(first|rw [M.lok_compU]|rw [M.lokD_compU]);refine tB ?_)
 | (refine tA ?_)
 | fail)⟩
def F_1y (seqc0_:List Str):Option (List Str) :=
 (F_2z seqc0_).bind fun y2=>(sortS y2).bind fun y4=>some y4
def mc_1y:MC :=
 (sR [mo (.mv (.c .nils)) 2]
 (sR [oV 0 4,
 mo (.call (.f 73) [(.t 4)] [] [5]) 5,
 oV 5 3]
 (sR [oV 3 6,
 mo (.call (.f 83) [(.t 6)] [5] []) 7]
 (sR [oV 3 8,
 oV 8 2]
 .ret))))
instance Wq_slices_Sorted_string_of_slices_Values_string_string_1 {seqc0_:List Str}:WI (F_1y seqc0_) Tryz.prog 38 [.fn (.func 84) [.eptr (.agg [.sl (seqc0_.map V.str)]) 0]] [] (fun z=>.osl 1900 1 0 z.length) (fun z=>[(1900,.arr 1 (z.map V.str))]):=⟨fun Q Q' h hQ=>by
 refine acallM mc_1y [.acc 2 1900 1] [1900] [.t 2] Tryz.func38 fun M=>?_
 unfold F_1y at h
 unfold mc_1y
 replace h:=tY h
 refine tB ?_
 repeat' (first
 | (exact tZ)
 | (refine And.intro (by refine ⟨?_,?_,?_,?_⟩<;>omega) ?_;first|exact hQ _ h|(rw [List.take_of_length_le (by omega)];exact hQ _ h))
 | (rw [←hlen];exact hQ _ h)
 | (have hq:=hQ _ h;simp only [List.length_take,Nat.min_eq_left hlen.1] at hq;exact hq)
 | ((first|refine oblg h ?_|refine roomG h ?_|refine inbG h ?_|refine incG h ?_|refine divG h ?_|refine appG h ?_|refine appC h ?_|refine fork h ?_ ?_|refine forkS h ?_ ?_)<;>clear h<;>intro hc h)
 | (obtain ⟨y,hy,h⟩:=h;(first|have hw:=acall_swe 1900 5 (Wq_slices_Collect_string_of_slices_Values_string_string_1.c.w hy)|(have hw:=acall_swe 1000 5 (W_5l hy);replace hw:=tY hw;(try simp only [hlen] at hw);have hlen:=sortS_len hy));replace hw:=tY hw;(first|refine M.sC hw ?_|refine M.sD hw ?_);clear hw hy;refine tB ?_)
 | (refine tE ?_;(first|rw [M.lok_compU]|rw [M.lokD_compU]);refine tB ?_)
 | (refine tA ?_)
 | fail)⟩
def F_30 (v_:Str) (k11:Int) (a12:Str) (x10:Unit):Option (Fl Unit Int) :=
 bif decide (v_=a12) then some (.ex k11) else some (.nx ())
def F_d (s_:List Str) (v_:Str):Option Int :=
 (forL (F_30 v_) s_ 0 ()).bind fun o=>o.elim (fun x13=>some (-1)) (fun r14=>some r14)
@[irreducible] def mc_30:MC :=
 (sR [mo (.bin false .lss (.t 8) (.t 7)) 9]
 (.seq (.cond (.t 9)
 .skip
 (.exit 0))
 (.seq (.block 1
 (sR [oV 8 10,
 oV 10 5]
 (sR [oV 1 11,
 oV 0 12,
 oV 5 13,
 mo (.iad 1 (.t 12) (.t 13)) 14,
 oL 14 15,
 mo (.bin false .eql (.t 11) (.t 15)) 16]
 (.cond (.t 16)
 (sR [oV 5 17,
 oV 17 4]
 .ret)
 .skip))))
 (.reg [mo (.bin true .add (.t 8) (cI 1)) 18,
 oV 18 8]))))
def mc_d:MC :=
 (sR [oC 0 4]
 (.seq (sR [oV 0 6,
 mo (.len false (.t 6)) 7,
 oC 0 8]
 (.block 0
 (.loop mc_30)))
 (sR [oC (-1) 4]
 .ret)))
attribute [go_sem] F_30
instance:LI mc_30 8 7 [0,1,7] [] (fun y:Unit=>[]) (fun y=>[]) []:=⟨⟩
instance Wq_slices_Index_string_string {s_:List Str} {v_:Str}:WI (F_d s_ v_) Tryz.prog 32 [.sl (s_.map V.str),.str v_] [] (fun z=>.int .i64 z) (fun z=>[]):=⟨fun Q Q' h hQ=>by
 refine acallM mc_d [] [] [.t 4] Tryz.func32 fun M=>?_
 unfold F_d at h
 unfold mc_d
 exact tX⟩
def F_2h (s_:List Str) (v_:Str):Option Bool :=
 (F_d s_ v_).bind fun y2=>some (decide (0≤y2))
def mc_2h:MC :=
 (sR [mo (.mv (.c (.bool false))) 4]
 (sR [oV 0 5,
 oV 1 6,
 mo (.call (.f 32) [(.t 5),(.t 6)] [] []) 7,
 mo (.bin false .geq (.t 7) (cI 0)) 8,
 oV 8 4]
 .ret))
instance Wq_slices_Contains_string_string {s_:List Str} {v_:Str}:WI (F_2h s_ v_) Tryz.prog 41 [.sl (s_.map V.str),.str v_] [] (fun z=>.bool z) (fun z=>[]):=⟨fun Q Q' h hQ=>by
 refine acallM mc_2h [] [] [.t 4] Tryz.func41 fun M=>?_
 unfold F_2h at h
 unfold mc_2h
 exact tX⟩
def F_1z (s_:Str) (p_:List Str):Option Bool :=
 jn (α:=Bool) (bif (!decide (s_=[])) then (F_2h p_ s_).bind fun y4=>some (!y4) else some false) fun j5=>some j5
@[irreducible] def mg_5b:List MOp:=[gT 6 7 (.ld none (.t 1)),
 gT 6 8 (.mv (.t 0)),
 gT 6 9 (.call (.f 41) [(.t 7),(.t 8)] [] []),
 gT 6 10 (.not (.t 9)),
 mo (.pick (.t 6) (.t 10) (.c (.bool false))) 11]
def mc_1z:MC :=
 (sR [mo (.mv (.c (.bool false))) 3]
 (.seq (.regI [.op (oV 0 4),
 .op (mo (.bin false .neq (.t 4) (.c (.str []))) 5),
 .op (oV 5 6),
 .grp mg_5b,
 .op (oV 11 3)])
 .ret))
instance:GI mg_5b [3] [1000] (fun y:Bool=>[(11,.bool y)]) (fun y=>[]):=⟨⟩
instance Wq_console_Make_2 {s_:Str} {p_:List Str}:WI (F_1z s_ p_) Tryz.prog 40 [.str s_,.ptr 1000 0] [(1000,.cells [.sl (p_.map V.str)])] (fun z=>.bool z) (fun z=>[(1000,.cells [.sl (p_.map V.str)])]):=⟨fun Q Q' h hQ=>by
 refine acallM mc_1z [] [1000] [.t 3] Tryz.func40 fun M=>?_
 unfold F_1z at h
 unfold mc_1z
 exact tX⟩
def F_2i (c_:GCommand) (pc0_:List Str):Option Bool :=
 (F_1z c_.Name pc0_).bind fun y4=>jn (α:=Bool) (bif y4 then some true else (F_1z c_.Other pc0_).bind fun y6=>some y6) fun j7=>some j7
@[irreducible] def mg_42:List MOp:=[gF 8 9 (.ld none (.t 1)),
 gF 8 10 (.fad 2 (.t 2)),
 gF 8 11 (.ld none (.t 10)),
 gF 8 12 (.call (.t 9) [(.t 11)] [1001] []),
 mo (.pick (.t 8) (.c (.bool true)) (.t 12)) 13]
def mc_2i:MC :=
 (sR [mo (.box (.t 0)) 2,
 mo (.mv (.c (.bool false))) 3]
 (.seq (.regI [.op (oL 1 4),
 .op (oF 1 2 5),
 .op (oL 5 6),
 .op (mo (.call (.t 4) [(.t 6)] [1001] []) 7),
 .op (oV 7 8),
 .grp mg_42,
 .op (oV 13 3)])
 .ret))
instance Wq_console_Make_3 {c_:GCommand} {pc0_:List Str}:WI (F_2i c_ pc0_) Tryz.prog 44 [GCommand.v c_,.ptr 1000 0] [(1000,.cells [.fn (.func 40) [.ptr 1001 0]]),(1001,.cells [.sl (pc0_.map V.str)])] (fun z=>.bool z) (fun z=>[(1000,.cells [.fn (.func 40) [.ptr 1001 0]]),(1001,.cells [.sl (pc0_.map V.str)])]):=⟨fun Q Q' h hQ=>by
 refine acallM mc_2i [] [1000,1001] [.t 3] Tryz.func44 fun M=>?_
 unfold F_2i at h
 unfold mc_2i
 replace h:=tY h
 refine tB ?_
 repeat' (first
 | (exact tZ)
 | ((first|refine oblg h ?_|refine roomG h ?_|refine inbG h ?_|refine incG h ?_|refine divG h ?_|refine appG h ?_|refine appC h ?_|refine fork h ?_ ?_|refine forkS h ?_ ?_)<;>clear h<;>intro hc h)
 | (obtain ⟨y,hy,h⟩:=h;have hw:=acall_swe 1000 1001 (Wq_console_Make_2.c.w hy);replace hw:=tY hw;(first|refine M.sC hw ?_|refine M.sD hw ?_);clear hw hy;refine tB ?_)
 | (refine M.gj1 (ms:=mg_42) [3] [1000,1001] (fun y=>[(13,.bool y)]) (fun y=>[]) h ?_ ?_<;>first
 | (clear h;intro Qn K hK1 h;unfold mg_42;replace h:=tY h;refine tB ?_)
  |(clear h;intro y h;replace h:=tY h;refine tB ?_))
 | (refine hK1 _ ?_;(try refine tB ?_);refine ⟨_,h,?_⟩;exact tU0;done)
 | (refine tE ?_;(first|rw [M.lok_compU]|rw [M.lokD_compU]);refine tB ?_)
 | (refine tA ?_)
 | fail)⟩
def F_31 (fc0c0_:List Str) (k31:Int) (a32:GCommand) (x30:Unit):Option (Fl Unit Int) :=
 (F_2i a32 fc0c0_).bind fun y40=>bif y40 then some (.ex k31) else some (.nx ())
def F_32 (s_:List GCommand) (fc0c0_:List Str):Option Int :=
 (forL (F_31 fc0c0_) s_ 0 ()).bind fun o=>o.elim (fun x41=>some (-1)) (fun r42=>some r42)
@[irreducible] def mc_31:MC :=
 (sR [mo (.bin false .lss (.t 8) (.t 7)) 9]
 (.seq (.cond (.t 9)
 .skip
 (.exit 0))
 (.seq (.block 1
 (sR [oV 8 10,
 oV 10 5]
 (sR [oV 1 11,
 oV 0 12,
 oV 5 13,
 mo (.iad 6 (.t 12) (.t 13)) 14,
 mo (.ld (some 6) (.t 14)) 15,
 mo (.call (.t 11) [(.t 15)] [1000,1001] []) 16]
 (.cond (.t 16)
 (sR [oV 5 17,
 oV 17 4]
 .ret)
 .skip))))
 (.reg [mo (.bin true .add (.t 8) (cI 1)) 18,
 oV 18 8]))))
def mc_32:MC :=
 (sR [oC 0 4]
 (.seq (sR [oV 0 6,
 mo (.len false (.t 6)) 7,
 oC 0 8]
 (.block 0
 (.loop mc_31)))
 (sR [oC (-1) 4]
 .ret)))
attribute [go_sem] F_31
instance:LI mc_31 8 7 [0,1,7] [1000,1001] (fun y:Unit=>[]) (fun y=>[]) []:=⟨⟩
instance Wq_slices_IndexFunc_api_Command_api_Command_of_console_Make_3 {s_:List GCommand} {fc0c0_:List Str}:WI (F_32 s_ fc0c0_) Tryz.prog 85 [.sl (s_.map GCommand.v),.fn (.func 44) [.ptr 1000 0]] [(1000,.cells [.fn (.func 40) [.ptr 1001 0]]),(1001,.cells [.sl (fc0c0_.map V.str)])] (fun z=>.int .i64 z) (fun z=>[(1000,.cells [.fn (.func 40) [.ptr 1001 0]]),(1001,.cells [.sl (fc0c0_.map V.str)])]):=⟨fun Q Q' h hQ=>by
 refine acallM mc_32 [] [1000,1001] [.t 4] Tryz.func85 fun M=>?_
 unfold F_32 at h
 unfold mc_32
 exact tX⟩
def F_20 (s_:List GCommand) (fc0c0_:List Str):Option Bool :=
 (F_32 s_ fc0c0_).bind fun y2=>some (decide (0≤y2))
def mc_20:MC :=
 (sR [mo (.mv (.c (.bool false))) 4]
 (sR [oV 0 5,
 oV 1 6,
 mo (.call (.f 85) [(.t 5),(.t 6)] [1000,1001] []) 7,
 mo (.bin false .geq (.t 7) (cI 0)) 8,
 oV 8 4]
 .ret))
instance Wq_slices_ContainsFunc_api_Command_api_Command_of_console_Make_3 {s_:List GCommand} {fc0c0_:List Str}:WI (F_20 s_ fc0c0_) Tryz.prog 43 [.sl (s_.map GCommand.v),.fn (.func 44) [.ptr 1000 0]] [(1000,.cells [.fn (.func 40) [.ptr 1001 0]]),(1001,.cells [.sl (fc0c0_.map V.str)])] (fun z=>.bool z) (fun z=>[(1000,.cells [.fn (.func 40) [.ptr 1001 0]]),(1001,.cells [.sl (fc0c0_.map V.str)])]):=⟨fun Q Q' h hQ=>by
 refine acallM mc_20 [] [1000,1001] [.t 4] Tryz.func43 fun M=>?_
 unfold F_20 at h
 unfold mc_20
 exact tX⟩
noncomputable def F_19 (s_:List GCommand):Option (List GCommand) :=
 amb s_.isEmpty (some []) (chk (room (([]:List GCommand).length+s_.length) 64) (some (([]:List GCommand)++s_)))
def mc_19:MC :=
 (sR [mo (.mv (.c .nils)) 2]
 (.seq (sR [oV 0 3,
 mo (.mp (.isn false) [(.t 3)]) 4]
 (.cond (.t 4)
 (sR [mo (.mv (.c .nils)) 2]
 .ret)
 .skip))
 (sR [mo (.bslice 6 []) 5,
 oV 0 6,
 mo (.app 6 64 (.t 5) (.t 6)) 7,
 oV 7 2]
 .ret)))
instance Wq_slices_Clone_api_Command_api_Command {s_:List GCommand}:WI (F_19 s_) Tryz.prog 45 [.sl (s_.map GCommand.v)] [] (fun z=>.osl 1900 6 0 z.length) (fun z=>[(1900,.arr 6 (z.map GCommand.v))]):=⟨fun Q Q' h hQ=>by
 refine acallM mc_19 [.acc 2 1900 6] [1900] [.t 2] Tryz.func45 fun M=>?_
 unfold F_19 at h
 unfold mc_19
 exact tX⟩
def F_2j (x_:GCommand) (y_:GCommand):Option Int :=
 chk (in64 (x_.Time - y_.Time)) (some (x_.Time - y_.Time))
def mc_2j:MC :=
 (sR [mo (.box (.t 0)) 2,
 mo (.box (.t 1)) 3,
 oC 0 4]
 (sR [oF 3 2 5,
 oL 5 6,
 oF 3 3 7,
 oL 7 8,
 mo (.bin true .sub (.t 6) (.t 8)) 9,
 oV 9 4]
 .ret))
instance Wq_console_Make_4 {x_ y_:GCommand}:WI (F_2j x_ y_) Tryz.prog 47 [GCommand.v x_,GCommand.v y_] [] (fun z=>.int .i64 z) (fun z=>[]):=⟨fun Q Q' h hQ=>by
 refine acallM mc_2j [] [] [.t 4] Tryz.func47 fun M=>?_
 unfold F_2j at h
 unfold mc_2j
 exact tX⟩
noncomputable def F_r (a_:Int) (x126:Int×(List GCommand)):Option (Fl (Int×(List GCommand)) (List GCommand)) :=
 bif decide (a_<x126.1) then chk (inb x126.1 x126.2.length) (chk (in64 (x126.1 - 1)) (chk (inb (x126.1 - 1) x126.2.length) ((F_2j (x126.2.getD ((x126.1).toNat) default) (x126.2.getD (((x126.1 - 1)).toNat) default)).bind fun y134=>bif decide (y134<0) then chk (in64 (x126.1 - 1)) (chk (in64 (x126.1 - 1)) (chk (inb (x126.1 - 1) x126.2.length) (chk (inb x126.1 x126.2.length) (chk (inb x126.1 x126.2.length) (chk (inb (x126.1 - 1) (x126.2.set ((x126.1).toNat) (x126.2.getD (((x126.1 - 1)).toNat) default)).length) (chk (in64 (x126.1 - 1)) (some (.nx ((x126.1 - 1),(x126.2.set ((x126.1).toNat) (x126.2.getD (((x126.1 - 1)).toNat) default)).set (((x126.1 - 1)).toNat) (x126.2.getD ((x126.1).toNat) default)))))))))) else some (.ex x126.2)))) else some (.ex x126.2)
noncomputable def F_1a (a_:Int) (b_:Int) (x67:Int×(List GCommand)):Option (Fl (Int×(List GCommand)) (List GCommand)) :=
 bif decide (x67.1<b_) then (loop (F_r a_) (x67.1,x67.2)).bind fun r135=>chk (in64 (x67.1+1)) (some (.nx ((x67.1+1),r135))) else some (.ex x67.2)
noncomputable def F_6 (data_:List GCommand) (a_:Int) (b_:Int):Option (List GCommand) :=
 chk (in64 (a_+1)) ((loop (F_1a a_ b_) ((a_+1),data_)).bind fun r136=>some r136)
@[irreducible] def mc_r:MC :=
 (.seq (.seq (.regD [oV 9 18,
 oV 1 19,
 mo (.bin false .gtr (.t 18) (.t 19)) 20,
 oV 20 21,
 gT 21 22 (.mv (.t 3)),
 gT 21 23 (.mv (.t 0)),
 gT 21 24 (.mv (.t 9)),
 gT 21 25 (.iad 6 (.t 23) (.t 24)),
 gT 21 26 (.ld (some 6) (.t 25)),
 gT 21 27 (.mv (.t 0)),
 gT 21 28 (.mv (.t 9)),
 gT 21 29 (.bin true .sub (.t 28) (cI 1)),
 gT 21 30 (.iad 6 (.t 27) (.t 29)),
 gT 21 31 (.ld (some 6) (.t 30)),
 gT 21 32 (.call (.t 22) [(.t 26),(.t 31)] [] []),
 gT 21 33 (.bin false .lss (.t 32) (cI 0)),
 mo (.pick (.t 21) (.t 33) (.c (.bool false))) 34]
 [[],[],[0,1],[2],[3],[3],[3],[5,6,3],[7,3],[3],[3],[10,3],[9,11,3],[12,3],[4,8,13,3,3],[14,3],[3,15]]
 [[],[],[0,1],[0,1,2],[0,1,2,3],[0,1,2,3],[0,1,2,3],[0,1,2,3,5,6],[0,1,2,3,5,6,7],[0,1,2,3],[0,1,2,3],[0,1,2,3,10],[0,1,2,3,9,10,11],[0,1,2,3,9,10,11,12],[0,1,2,3,4,5,6,7,8,9,10,11,12,13],[0,1,2,3,4,5,6,7,8,9,10,11,12,13,14],[0,1,2,3,4,5,6,7,8,9,10,11,12,13,14,15]])
 (.cond (.t 34)
 .skip
 (.exit 2)))
 (.seq (.block 3
 (.regD [oV 0 37,
 oV 9 38,
 oV 0 39,
 oV 9 40,
 mo (.bin true .sub (.t 40) (cI 1)) 41,
 oV 0 42,
 oV 9 43,
 mo (.bin true .sub (.t 43) (cI 1)) 44,
 mo (.iad 6 (.t 42) (.t 44)) 45,
 mo (.ld (some 6) (.t 45)) 46,
 oV 0 47,
 oV 9 48,
 mo (.iad 6 (.t 47) (.t 48)) 49,
 mo (.ld (some 6) (.t 49)) 50,
 mo (.iad 6 (.t 37) (.t 38)) 51,
 ⟨.st 6 (.t 51) (.t 46),none,none⟩,
 mo (.iad 6 (.t 39) (.t 41)) 52,
 ⟨.st 6 (.t 52) (.t 50),none,none⟩]
 [[],[],[],[],[3],[],[],[6],[5,7],[8],[],[],[10,11],[12],[0,1,0,1,5,6,7,8,9,13],[14,9,0,1,5,6,7,8,9,13],[2,4,0,1,2,3,4,5,6,7,8,9,10,11,12,13,14,15],[16,13,15,0,1,2,3,4,5,6,7,8,9,10,11,12,13,14,15]]
 [[],[],[],[],[3],[],[],[6],[5,6,7],[5,6,7,8],[],[],[10,11],[10,11,12],[0,1,5,6,7,8,9,10,11,12,13],[0,1,5,6,7,8,9,10,11,12,13,14],[0,1,2,3,4,5,6,7,8,9,10,11,12,13,14,15],[0,1,2,3,4,5,6,7,8,9,10,11,12,13,14,15,16]]))
 (.note (.gc [0,1,2,3,8,9,22,23,24,25,26,27,28,29,30,31,32,33]) (.reg [oV 9 35,
 mo (.bin true .sub (.t 35) (cI 1)) 36,
 oV 36 9]))))
@[irreducible] def mc_1a:MC :=
 (.seq (sR [oV 8 12,
 oV 2 13,
 mo (.bin false .lss (.t 12) (.t 13)) 14]
 (.cond (.t 14)
 .skip
 (.exit 0)))
 (.seq (.block 1
 (sR [oV 8 17,
 oV 17 9]
 (.block 2
 (.loop mc_r))))
 (.reg [oV 8 15,
 mo (.bin true .add (.t 15) (cI 1)) 16,
 oV 16 8])))
def mc_6:MC :=
 (sR [oV 1 10,
 mo (.bin true .add (.t 10) (cI 1)) 11,
 oV 11 8]
 (.block 0
 (.loop mc_1a)))
attribute [go_sem] F_r F_1a
instance:LI mc_r 0 0 [1,2,3,8] [] (fun y:Int×(List GCommand)=>[(0,.osl 1000 6 0 y.2.length),(9,.int .i64 y.1)]) (fun y=>[.o 1000 (.arr 6 (y.2.map GCommand.v))]) []:=⟨⟩
instance:LI mc_1a 0 0 [1,2,3] [] (fun y:Int×(List GCommand)=>[(0,.osl 1000 6 0 y.2.length),(8,.int .i64 y.1)]) (fun y=>[.o 1000 (.arr 6 (y.2.map GCommand.v))]) []:=⟨⟩
instance Wq_slices_insertionSortCmpFunc_api_Command_of_console_Make_4 {data_:List GCommand} {a_ b_:Int}:WI (F_6 data_ a_ b_) Tryz.prog 131 [.osl 1000 6 0 data_.length,.int .i64 a_,.int .i64 b_,.fn (.func 47) []] [(1000,.arr 6 (data_.map GCommand.v))] (fun z=>.tup []) (fun z=>[(1000,.arr 6 (z.map GCommand.v))]):=⟨fun Q Q' h hQ=>by
 refine acallM mc_6 [] [1000] [] Tryz.func131 fun M=>?_
 unfold F_6 at h
 unfold mc_6
 exact tX⟩
theorem F_5c {a_:Int} {s:Int×(List GCommand)} {o:Fl (Int×(List GCommand)) (List GCommand)} (h:F_r a_ s=some o):o.elim (fun s'=>s'.2.length=s.2.length) (fun q=>q.length=s.2.length):=by
 refine (?_:Al _ _) o h
 clear h
 unfold F_r
 repeat' (first|(with_reducible first|exact Al.none|apply Al.chk|apply Al.ite|apply Al.grp)|((with_reducible refine Al.some ?_);simp_all [Fl.elim];done)|((with_reducible first|refine Al.jn fun w h1=>?_|refine Al.bind fun w h1=>?_);(first|skip)))
theorem F_5v {a_:Int} {b_:Int} {s:Int×(List GCommand)} {o:Fl (Int×(List GCommand)) (List GCommand)} (h:F_1a a_ b_ s=some o):o.elim (fun s'=>s'.2.length=s.2.length) (fun q=>q.length=s.2.length):=by
 refine (?_:Al _ _) o h
 clear h
 unfold F_1a
 repeat' (first|(with_reducible first|exact Al.none|apply Al.chk|apply Al.ite|apply Al.grp)|((with_reducible refine Al.some ?_);simp_all [Fl.elim];done)|((with_reducible first|refine Al.jn fun w h1=>?_|refine Al.bind fun w h1=>?_);(first|(have e1:=loop_len (m:=fun s:Int×(List GCommand)=>s.2.length) (r:=fun q:(List GCommand)=>q.length) (fun _ _=>F_5c) h1)|skip)))
theorem F_43 {data_:List GCommand} {a_:Int} {b_:Int} {y:List GCommand} (h:(F_6 data_ a_ b_)=some y):y.length=data_.length:=by
 refine (?_:Al _ (fun y=>y.length=data_.length)) y h
 clear h
 unfold F_6
 repeat' (first|(with_reducible first|exact Al.none|apply Al.chk|apply Al.ite|apply Al.grp)|((with_reducible refine Al.some ?_);simp_all [Fl.elim];done)|((with_reducible first|refine Al.jn fun w h1=>?_|refine Al.bind fun w h1=>?_);(first|(have e1:=loop_len (m:=fun s:Int×(List GCommand)=>s.2.length) (r:=fun q:(List GCommand)=>q.length) (fun _ _=>F_5c) h1)|(have e1:=loop_len (m:=fun s:Int×(List GCommand)=>s.2.length) (r:=fun q:(List GCommand)=>q.length) (fun _ _=>F_5v) h1)|skip)))
noncomputable def F_f (n_:Int) (x17:Int×Int×(List GCommand)):Option (Fl (Int×Int×(List GCommand)) (Int×(List GCommand))) :=
 bif decide (x17.2.1≤n_) then (F_6 x17.2.2 x17.1 x17.2.1).bind fun y21=>chk (in64 (x17.2.1+20)) (some (.nx (x17.2.1,(x17.2.1+20),y21))) else some (.ex (x17.1,x17.2.2))
noncomputable def F_1b (n_:Int) (x26:Unit):Option (Fl Unit Unit) :=
 bif decide (20<n_) then none else some (.ex ())
noncomputable def F_s (data_:List GCommand) (n_:Int):Option (List GCommand) :=
 (loop (F_f n_) (0,20,data_)).bind fun r22=>(F_6 r22.2 r22.1 n_).bind fun y24=>(loop (F_1b n_) ()).bind fun r27=>some y24
@[irreducible] def mc_f:MC :=
 (.seq (sR [oV 8 11,
 oV 1 12,
 mo (.bin false .leq (.t 11) (.t 12)) 13]
 (.cond (.t 13)
 .skip
 (.exit 0)))
 (.block 1
 (sR [oV 0 14,
 oV 7 15,
 oV 8 16,
 oV 2 17,
 mo (.call (.f 131) [(.t 14),(.t 15),(.t 16),(.t 17)] [1000] []) 18]
 (sR [oV 8 19,
 oV 19 7]
 (.note (.gc [0,1,2,6,7,8]) (.reg [oV 8 20,
 oV 6 21,
 mo (.bin true .add (.t 20) (.t 21)) 22,
 oV 22 8]))))))
@[irreducible] def mc_5w:MC :=
 (.seq (sR [oV 8 33,
 oV 1 34,
 mo (.bin false .leq (.t 33) (.t 34)) 35]
 (.cond (.t 35)
 .skip
 (.exit 4)))
 (.block 5
 (sR [oV 0 36,
 oV 7 37,
 oV 7 38,
 oV 6 39,
 mo (.bin true .add (.t 38) (.t 39)) 40,
 oV 8 41,
 oV 2 42,
 mo (.call (.f 132) [(.t 36),(.t 37),(.t 40),(.t 41),(.t 42)] [] []) 43]
 (sR [oV 8 44,
 oV 44 7]
 (.reg [oV 8 45,
 oV 6 46,
 mo (.bin true .mul (cI 2) (.t 46)) 47,
 mo (.bin true .add (.t 45) (.t 47)) 48,
 oV 48 8])))))
@[irreducible] def mc_1b:MC :=
 (.seq (sR [oV 6 28,
 oV 1 29,
 mo (.bin false .lss (.t 28) (.t 29)) 30]
 (.cond (.t 30)
 .skip
 (.exit 2)))
 (.block 3
 (.seq .no
 (.seq (.block 4
 (.loop mc_5w))
 (.seq (sR [oV 7 49,
 oV 6 50,
 mo (.bin true .add (.t 49) (.t 50)) 51,
 oV 51 9]
 (sR [oV 9 52,
 oV 1 53,
 mo (.bin false .lss (.t 52) (.t 53)) 54]
 (.cond (.t 54)
 (.reg [oV 0 55,
 oV 7 56,
 oV 9 57,
 oV 1 58,
 oV 2 59,
 mo (.call (.f 132) [(.t 55),(.t 56),(.t 57),(.t 58),(.t 59)] [] []) 60])
 .skip)))
 (.reg [oV 6 61,
 mo (.bin true .mul (.t 61) (cI 2)) 62,
 oV 62 6]))))))
def mc_s:MC :=
 (sR [oC 20 6]
 (sR [oV 6 10,
 oC 0 7,
 oV 10 8]
 (.seq (.block 0
 (.loop mc_f))
 (sR [oV 0 23,
 oV 7 24,
 oV 1 25,
 oV 2 26,
 mo (.call (.f 131) [(.t 23),(.t 24),(.t 25),(.t 26)] [1000] []) 27]
 (.block 2
 (.loop mc_1b))))))
instance Wq_slices_stableCmpFunc_api_Command_of_console_Make_4 {data_:List GCommand} {n_:Int}:WI (F_s data_ n_) Tryz.prog 86 [.osl 1000 6 0 data_.length,.int .i64 n_,.fn (.func 47) []] [(1000,.arr 6 (data_.map GCommand.v))] (fun z=>.tup []) (fun z=>[(1000,.arr 6 (z.map GCommand.v))]):=⟨fun Q Q' h hQ=>by
 refine acallM mc_s [] [1000] [] Tryz.func86 fun M=>?_
 unfold F_s at h
 unfold mc_s
 replace h:=tY h
 refine tB ?_
 repeat' (first
 | (exact tZ)
 | ((first|refine oblg h ?_|refine roomG h ?_|refine inbG h ?_|refine incG h ?_|refine divG h ?_|refine appG h ?_|refine appC h ?_|refine fork h ?_ ?_|refine forkS h ?_ ?_)<;>clear h<;>intro hc h)
 | (obtain ⟨y,hy,h⟩:=h;(have hw:=WI.w hy;replace hw:=tY hw;have hlen:=F_43 hy);replace hw:=tY hw;(first|refine M.sC hw ?_|refine M.sD hw ?_);clear hw hy;refine tB ?_)
 | (refine M.wh1 (b:=mc_f) [1,2,6] [] (fun x=>[(0,.osl 1000 6 0 x.2.2.length),(7,.int .i64 x.1),(8,.int .i64 x.2.1)]) (fun x=>[.o 1000 (.arr 6 (x.2.2.map GCommand.v))]) [] h ?_ ?_<;>first
 | (clear h;intro x Qn K hK1 h;unfold F_f at h;unfold mc_f;replace h:=tY h;refine tB ?_)
  |(clear h;(try refine tB ?_);exact tU;done))
 | (refine M.wh1 (b:=mc_1b) [0,1,2,6] [1000] (fun x=>[]) (fun x=>[]) [] h ?_ ?_<;>first
 | (clear h;intro x Qn K hK2 h;unfold F_1b at h;unfold mc_1b;replace h:=tY h;refine tB ?_)
  |(clear h;(try refine tB ?_);exact tU;done))
 | ((first|refine hK1 _ ?_|refine hK2 _ ?_);(try refine tB ?_);refine ⟨_,h,?_⟩;exact tU;done)
 | (refine tE ?_;(first|rw [M.lok_compU]|rw [M.lokD_compU]);refine tB ?_)
 | (refine tA ?_)
 | fail)⟩
theorem F_5x {n_:Int} {s:Int×Int×(List GCommand)} {o:Fl (Int×Int×(List GCommand)) (Int×(List GCommand))} (h:F_f n_ s=some o):o.elim (fun s'=>s'.2.2.length=s.2.2.length) (fun q=>q.2.length=s.2.2.length):=by
 refine (?_:Al _ _) o h
 clear h
 unfold F_f
 repeat' (first|(with_reducible first|exact Al.none|apply Al.chk|apply Al.ite|apply Al.grp)|((with_reducible refine Al.some ?_);simp_all [Fl.elim];done)|((with_reducible first|refine Al.jn fun w h1=>?_|refine Al.bind fun w h1=>?_);(first|(have e1:=F_43 h1)|skip)))
theorem F_5d {data_:List GCommand} {n_:Int} {y:List GCommand} (h:(F_s data_ n_)=some y):y.length=data_.length:=by
 refine (?_:Al _ (fun y=>y.length=data_.length)) y h
 clear h
 unfold F_s
 repeat' (first|(with_reducible first|exact Al.none|apply Al.chk|apply Al.ite|apply Al.grp)|((with_reducible refine Al.some ?_);simp_all [Fl.elim];done)|((with_reducible first|refine Al.jn fun w h1=>?_|refine Al.bind fun w h1=>?_);(first|(have e1:=loop_len (m:=fun s:Int×Int×(List GCommand)=>s.2.2.length) (r:=fun q:(Int×(List GCommand))=>q.2.length) (fun _ _=>F_5x) h1)|(have e1:=F_43 h1)|skip)))
noncomputable def F_7 (x_:List GCommand):Option (List GCommand) :=
 (F_s x_ (x_.length:Int)).bind fun y1=>some y1
def mc_7:MC :=
 (.reg [oV 0 4,
 oV 0 5,
 mo (.len false (.t 5)) 6,
 oV 1 7,
 mo (.call (.f 86) [(.t 4),(.t 6),(.t 7)] [1000] []) 8])
instance Wq_slices_SortStableFunc_api_Command_api_Command_of_console_Make_4 {x_:List GCommand}:WI (F_7 x_) Tryz.prog 46 [.osl 1000 6 0 x_.length,.fn (.func 47) []] [(1000,.arr 6 (x_.map GCommand.v))] (fun z=>.tup []) (fun z=>[(1000,.arr 6 (z.map GCommand.v))]):=⟨fun Q Q' h hQ=>by
 refine acallM mc_7 [] [1000] [] Tryz.func46 fun M=>?_
 unfold F_7 at h
 unfold mc_7
 replace h:=tY h
 refine tB ?_
 repeat' (first
 | (exact tZ)
 | ((first|refine oblg h ?_|refine roomG h ?_|refine inbG h ?_|refine incG h ?_|refine divG h ?_|refine appG h ?_|refine appC h ?_|refine fork h ?_ ?_|refine forkS h ?_ ?_)<;>clear h<;>intro hc h)
 | (obtain ⟨y,hy,h⟩:=h;(have hw:=WI.w hy;replace hw:=tY hw;have hlen:=F_5d hy);replace hw:=tY hw;(first|refine M.sC hw ?_|refine M.sD hw ?_);clear hw hy;refine tB ?_)
 | (refine tE ?_;(first|rw [M.lok_compU]|rw [M.lokD_compU]);refine tB ?_)
 | (refine tA ?_)
 | fail)⟩
theorem F_5y {x_:List GCommand} {y:List GCommand} (h:(F_7 x_)=some y):y.length=x_.length:=by
 refine (?_:Al _ (fun y=>y.length=x_.length)) y h
 clear h
 unfold F_7
 repeat' (first|(with_reducible first|exact Al.none|apply Al.chk|apply Al.ite|apply Al.grp)|((with_reducible refine Al.some ?_);simp_all [Fl.elim];done)|((with_reducible first|refine Al.jn fun w h1=>?_|refine Al.bind fun w h1=>?_);(first|(have e1:=F_5d h1)|skip)))
def F_21 (c_:GCommand) (names_:List Str) (d_:GDirectory) (a_:GEstate):Option (GDirectory×GEstate) :=
 (F_d names_ c_.Name).bind fun y2=>jn (α:=Bool) (bif decide (c_.Kind=3) then some true else some (decide (c_.Kind=4))) fun j3=>bif j3 then chk (in64 (1+c_.Kind)) (chk (in64 ((1+c_.Kind) - 3)) ((F_d names_ c_.Other).bind fun y4=>chk (room (d_.Events.length+[(GMember.mk c_.Time ((1+c_.Kind) - 3) y2 y4)].length) 32) (some ((GDirectory.mk d_.Kinds (d_.Events++[(GMember.mk c_.Time ((1+c_.Kind) - 3) y2 y4)])),(GEstate.mk a_.Places a_.Events))))) else jn (α:=Bool) (bif decide (c_.Kind=5) then some true else some (decide (c_.Kind=6))) fun j5=>bif j5 then chk (in64 (1+c_.Kind)) (chk (in64 ((1+c_.Kind) - 5)) (chk (room (a_.Events.length+[(GAccess.mk c_.Time ((1+c_.Kind) - 5) c_.A y2 0 0 0)].length) 56) (some ((GDirectory.mk d_.Kinds d_.Events),(GEstate.mk a_.Places (a_.Events++[(GAccess.mk c_.Time ((1+c_.Kind) - 5) c_.A y2 0 0 0)])))))) else bif decide (c_.Kind=7) then chk (room (a_.Events.length+[(GAccess.mk c_.Time 3 c_.A 0 c_.B 0 0)].length) 56) (some ((GDirectory.mk d_.Kinds d_.Events),(GEstate.mk a_.Places (a_.Events++[(GAccess.mk c_.Time 3 c_.A 0 c_.B 0 0)])))) else bif decide (c_.Kind=8) then chk (room (a_.Events.length+[(GAccess.mk c_.Time 5 c_.B 0 0 c_.A 0)].length) 56) (some ((GDirectory.mk d_.Kinds d_.Events),(GEstate.mk a_.Places (a_.Events++[(GAccess.mk c_.Time 5 c_.B 0 0 c_.A 0)])))) else bif decide (c_.Kind=9) then chk (room (a_.Events.length+[(GAccess.mk c_.Time 7 c_.B 0 0 0 c_.A)].length) 56) (some ((GDirectory.mk d_.Kinds d_.Events),(GEstate.mk a_.Places (a_.Events++[(GAccess.mk c_.Time 7 c_.B 0 0 0 c_.A)])))) else some ((GDirectory.mk d_.Kinds d_.Events),(GEstate.mk a_.Places a_.Events))
@[irreducible] def mc_5e:MC :=
 (.cond (.t 39)
 (.regD [oV 3 42,
 oV 3 43,
 mo (.nck (.t 43)) 44,
 oF 1 44 45,
 oL 45 46,
 oF 3 4 47,
 oL 47 48,
 oF 0 4 49,
 oL 49 50,
 mo (.bin true .add (cI 1) (.t 50)) 51,
 mo (.bin true .sub (.t 51) (cI 5)) 52,
 oF 4 4 53,
 oL 53 54,
 oV 8 55,
 mo (.build [(.int .i64 0),(.int .i64 0),(.int .i64 0),(.int .i64 0),(.int .i64 0),(.int .i64 0),(.int .i64 0)] [(0,1,(.t 48)),(1,1,(.t 52)),(2,1,(.t 54)),(3,1,(.t 55))]) 56,
 mo (.bslice 7 [(.t 56)]) 57,
 mo (.app 7 56 (.t 46) (.t 57)) 58,
 mo (.nck (.t 42)) 59,
 oF 1 59 60,
 ⟨.st 1 (.t 60) (.t 58),none,none⟩]
 [[],[],[1],[2],[3],[],[5],[],[7],[8],[9],[],[11],[],[6,10,12,13],[14],[4,15],[0,0,1,2,3,4,5,6,7,8,9,10,11,12,13,14,15,16],[17,0,1,2,3,4,5,6,7,8,9,10,11,12,13,14,15,16],[18,16,16,0,1,2,3,4,5,6,7,8,9,10,11,12,13,14,15,16]]
 [[],[],[1],[1,2],[1,2,3],[],[5],[],[7],[7,8],[7,8,9],[],[11],[],[5,6,7,8,9,10,11,12,13],[5,6,7,8,9,10,11,12,13,14],[1,2,3,4,5,6,7,8,9,10,11,12,13,14,15],[0,1,2,3,4,5,6,7,8,9,10,11,12,13,14,15,16],[0,1,2,3,4,5,6,7,8,9,10,11,12,13,14,15,16,17],[0,1,2,3,4,5,6,7,8,9,10,11,12,13,14,15,16,17,18]])
 (sR [mo (.bin false .eql (.t 14) (cI 7)) 62,
 oV 62 61]
 (.cond (.t 61)
 (.regD [oV 3 63,
 oV 3 64,
 mo (.nck (.t 64)) 65,
 oF 1 65 66,
 oL 66 67,
 oF 3 4 68,
 oL 68 69,
 oF 4 4 70,
 oL 70 71,
 oF 5 4 72,
 oL 72 73,
 mo (.build [(.int .i64 0),(.int .i64 0),(.int .i64 0),(.int .i64 0),(.int .i64 0),(.int .i64 0),(.int .i64 0)] [(0,1,(.t 69)),(1,1,(cI 3)),(2,1,(.t 71)),(4,1,(.t 73))]) 74,
 mo (.bslice 7 [(.t 74)]) 75,
 mo (.app 7 56 (.t 67) (.t 75)) 76,
 mo (.nck (.t 63)) 77,
 oF 1 77 78,
 ⟨.st 1 (.t 78) (.t 76),none,none⟩]
 [[],[],[1],[2],[3],[],[5],[],[7],[],[9],[6,8,10],[11],[4,12],[0,0,1,2,3,4,5,6,7,8,9,10,11,12,13],[14,0,1,2,3,4,5,6,7,8,9,10,11,12,13],[15,13,13,0,1,2,3,4,5,6,7,8,9,10,11,12,13]]
 [[],[],[1],[1,2],[1,2,3],[],[5],[],[7],[],[9],[5,6,7,8,9,10],[5,6,7,8,9,10,11],[1,2,3,4,5,6,7,8,9,10,11,12],[0,1,2,3,4,5,6,7,8,9,10,11,12,13],[0,1,2,3,4,5,6,7,8,9,10,11,12,13,14],[0,1,2,3,4,5,6,7,8,9,10,11,12,13,14,15]])
 (sR [mo (.bin false .eql (.t 14) (cI 8)) 80,
 oV 80 79]
 (.cond (.t 79)
 (.regD [oV 3 81,
 oV 3 82,
 mo (.nck (.t 82)) 83,
 oF 1 83 84,
 oL 84 85,
 oF 3 4 86,
 oL 86 87,
 oF 4 4 88,
 oL 88 89,
 oF 5 4 90,
 oL 90 91,
 mo (.build [(.int .i64 0),(.int .i64 0),(.int .i64 0),(.int .i64 0),(.int .i64 0),(.int .i64 0),(.int .i64 0)] [(0,1,(.t 87)),(1,1,(cI 5)),(5,1,(.t 89)),(2,1,(.t 91))]) 92,
 mo (.bslice 7 [(.t 92)]) 93,
 mo (.app 7 56 (.t 85) (.t 93)) 94,
 mo (.nck (.t 81)) 95,
 oF 1 95 96,
 ⟨.st 1 (.t 96) (.t 94),none,none⟩]
 [[],[],[1],[2],[3],[],[5],[],[7],[],[9],[6,8,10],[11],[4,12],[0,0,1,2,3,4,5,6,7,8,9,10,11,12,13],[14,0,1,2,3,4,5,6,7,8,9,10,11,12,13],[15,13,13,0,1,2,3,4,5,6,7,8,9,10,11,12,13]]
 [[],[],[1],[1,2],[1,2,3],[],[5],[],[7],[],[9],[5,6,7,8,9,10],[5,6,7,8,9,10,11],[1,2,3,4,5,6,7,8,9,10,11,12],[0,1,2,3,4,5,6,7,8,9,10,11,12,13],[0,1,2,3,4,5,6,7,8,9,10,11,12,13,14],[0,1,2,3,4,5,6,7,8,9,10,11,12,13,14,15]])
 (sR [mo (.bin false .eql (.t 14) (cI 9)) 98,
 oV 98 97]
 (.cond (.t 97)
 (.note (.gc [3,4]) (.regD [oV 3 99,
 oV 3 100,
 mo (.nck (.t 100)) 101,
 oF 1 101 102,
 oL 102 103,
 oF 3 4 104,
 oL 104 105,
 oF 4 4 106,
 oL 106 107,
 oF 5 4 108,
 oL 108 109,
 mo (.build [(.int .i64 0),(.int .i64 0),(.int .i64 0),(.int .i64 0),(.int .i64 0),(.int .i64 0),(.int .i64 0)] [(0,1,(.t 105)),(1,1,(cI 7)),(6,1,(.t 107)),(2,1,(.t 109))]) 110,
 mo (.bslice 7 [(.t 110)]) 111,
 mo (.app 7 56 (.t 103) (.t 111)) 112,
 mo (.nck (.t 99)) 113,
 oF 1 113 114,
 ⟨.st 1 (.t 114) (.t 112),none,none⟩]
 [[],[],[1],[2],[3],[],[5],[],[7],[],[9],[6,8,10],[11],[4,12],[0,0,1,2,3,4,5,6,7,8,9,10,11,12,13],[14,0,1,2,3,4,5,6,7,8,9,10,11,12,13],[15,13,13,0,1,2,3,4,5,6,7,8,9,10,11,12,13]]
 [[],[],[1],[1,2],[1,2,3],[],[5],[],[7],[],[9],[5,6,7,8,9,10],[5,6,7,8,9,10,11],[1,2,3,4,5,6,7,8,9,10,11,12],[0,1,2,3,4,5,6,7,8,9,10,11,12,13],[0,1,2,3,4,5,6,7,8,9,10,11,12,13,14],[0,1,2,3,4,5,6,7,8,9,10,11,12,13,14,15]]))
 .skip)))))))
@[irreducible] def mc_5f:MC :=
 (.cond (.t 15)
 (.regD [oV 2 18,
 oV 2 19,
 mo (.nck (.t 19)) 20,
 oF 1 20 21,
 oL 21 22,
 oF 3 4 23,
 oL 23 24,
 oF 0 4 25,
 oL 25 26,
 mo (.bin true .add (cI 1) (.t 26)) 27,
 mo (.bin true .sub (.t 27) (cI 3)) 28,
 oV 8 29,
 oV 1 30,
 oF 2 4 31,
 oL 31 32,
 mo (.call (.f 32) [(.t 30),(.t 32)] [] []) 33,
 mo (.build [(.int .i64 0),(.int .i64 0),(.int .i64 0),(.int .i64 0)] [(0,1,(.t 24)),(1,1,(.t 28)),(2,1,(.t 29)),(3,1,(.t 33))]) 34,
 mo (.bslice 4 [(.t 34)]) 35,
 mo (.app 4 32 (.t 22) (.t 35)) 36,
 mo (.nck (.t 18)) 37,
 oF 1 37 38,
 ⟨.st 1 (.t 38) (.t 36),none,none⟩]
 [[],[],[1],[2],[3],[],[5],[],[7],[8],[9],[],[],[],[13],[12,14],[6,10,11,15],[16],[4,17,15],[0,0,1,2,3,4,5,6,7,8,9,10,11,12,13,14,15,16,17,18],[19,0,1,2,3,4,5,6,7,8,9,10,11,12,13,14,15,16,17,18],[20,18,18,0,1,2,3,4,5,6,7,8,9,10,11,12,13,14,15,16,17,18]]
 [[],[],[1],[1,2],[1,2,3],[],[5],[],[7],[7,8],[7,8,9],[],[],[],[13],[12,13,14],[5,6,7,8,9,10,11,12,13,14,15],[5,6,7,8,9,10,11,12,13,14,15,16],[1,2,3,4,5,6,7,8,9,10,11,12,13,14,15,16,17],[0,1,2,3,4,5,6,7,8,9,10,11,12,13,14,15,16,17,18],[0,1,2,3,4,5,6,7,8,9,10,11,12,13,14,15,16,17,18,19],[0,1,2,3,4,5,6,7,8,9,10,11,12,13,14,15,16,17,18,19,20]])
 (.cut (sR [mo (.bin false .eql (.t 14) (cI 5)) 40,
 oV 40 39]
 (.cond (.t 39)
 .skip
 (.reg [mo (.bin false .eql (.t 14) (cI 6)) 41,
 oV 41 39])))
 mc_5e))
def mc_21:MC :=
 (sR [mo (.box (.t 0)) 4]
 (sR [oV 1 9,
 oF 1 4 10,
 oL 10 11,
 mo (.call (.f 32) [(.t 9),(.t 11)] [] []) 12,
 oV 12 8]
 (sR [oF 0 4 13,
 oL 13 14]
 (.block 0
 (.cut (sR [mo (.bin false .eql (.t 14) (cI 3)) 16,
 oV 16 15]
 (.cond (.t 15)
 .skip
 (.reg [mo (.bin false .eql (.t 14) (cI 4)) 17,
 oV 17 15])))
 mc_5f)))))
instance:LI mc_5e 0 0 [3,4,8,14] [4,1002,1003,1000,1001] (fun y:Bool=>[(39,.bool y)]) (fun y=>[]) []:=⟨⟩
instance:LI mc_5f 0 0 [1,2,3,4,8,14] [4,1002,1003,1000,1001] (fun y:Bool=>[(15,.bool y)]) (fun y=>[]) []:=⟨⟩
instance Wq_console_event {c_:GCommand} {names_:List Str} {d_:GDirectory} {a_:GEstate}:WI (F_21 c_ names_ d_ a_) Tryz.prog 48 [GCommand.v c_,.sl (names_.map V.str),.ptr 1000 0,.ptr 1002 0] [(1000,.cells [.sl (d_.Kinds.map (V.int .i64)),.osl 1001 4 0 d_.Events.length]),(1001,.arr 4 (d_.Events.map GMember.v)),(1002,.cells [.int .i64 a_.Places,.osl 1003 7 0 a_.Events.length]),(1003,.arr 7 (a_.Events.map GAccess.v))] (fun z=>.tup []) (fun z=>[(1000,.cells [.sl (z.1.Kinds.map (V.int .i64)),.osl 1701 4 0 z.1.Events.length]),(1701,.arr 4 (z.1.Events.map GMember.v)),(1002,.cells [.int .i64 z.2.Places,.osl 1733 7 0 z.2.Events.length]),(1733,.arr 7 (z.2.Events.map GAccess.v))]):=⟨fun Q Q' h hQ=>by
 refine acallM mc_21 [.ownC 1000 1 1701 4 none,.ownC 1002 1 1733 7 none] [1000,1701,1002,1733] [] Tryz.func48 fun M=>?_
 unfold F_21 at h
 unfold mc_21
 exact tX⟩
noncomputable def F_t (y10:(List Int)×(List Str)) (k68:Int) (a69:GCommand) (x67:Int×(List GAccess)×(List Int)×(List GMember)):Option (Int×(List GAccess)×(List Int)×(List GMember)) :=
 (F_21 a69 y10.2 (GDirectory.mk x67.2.2.1 x67.2.2.2) (GEstate.mk x67.1 x67.2.1)).bind fun y73=>some (y73.2.Places,y73.2.Events,y73.1.Kinds,y73.1.Events)
noncomputable def F_1 (l_:List GCommand):Option (GDirectory×GEstate×(List Str)×Int) :=
 (F_v l_).bind fun y6=>bif (!decide (y6=0)) then (F_2 y6).bind fun y8=>some (y8.1,y8.2.1,y8.2.2.1,y8.2.2.2) else (F_1x l_).bind fun y10=>(valsF y10.2).bind fun y13=>(F_1y y10.2).bind fun y14=>(compactS y14).bind fun y26=>bif decide ((y26.1:Int)<(y10.2.length:Int)) then (F_2 7).bind fun y28=>some (y28.1,y28.2.1,y28.2.2.1,y28.2.2.2) else (F_20 l_ y10.2).bind fun y30=>bif y30 then (F_2 6).bind fun y32=>some (y32.1,y32.2.1,y32.2.2.1,y32.2.2.2) else bif decide (24<(y10.2.length:Int)) then (F_2 3).bind fun y34=>some (y34.1,y34.2.1,y34.2.2.1,y34.2.2.2) else (F_19 l_).bind fun y36=>(F_7 y36).bind fun y38=>(foldL (F_t y10) y38 0 (16,[],y10.1,[])).bind fun x74=>(F_5 (GDirectory.mk x74.2.2.1 x74.2.2.2)).bind fun y80=>bif (!decide (y80=0)) then (F_2 y80).bind fun y82=>some (y82.1,y82.2.1,y82.2.2.1,y82.2.2.2) else (F_3 (GEstate.mk x74.1 x74.2.1)).bind fun y88=>bif (!decide (y88=0)) then (F_2 y88).bind fun y90=>some (y90.1,y90.2.1,y90.2.2.1,y90.2.2.2) else some ((GDirectory.mk x74.2.2.1 x74.2.2.2),(GEstate.mk x74.1 x74.2.1),y10.2,0)
@[irreducible] def mc_t:MC :=
 (sR [mo (.bin false .lss (.t 82) (.t 81)) 83]
 (.seq (.cond (.t 83)
 .skip
 (.exit 1))
 (.seq (.block 2
 (sR [mo (.iad 6 (.t 80) (.t 82)) 84,
 mo (.ld (some 6) (.t 84)) 85,
 mo (.alloc [(.int .i64 0),(.str []),(.str []),(.int .i64 0),(.int .i64 0),(.int .i64 0)]) 16,
 ⟨.st 6 (.t 16) (.t 85),none,none⟩]
 (.regI [.op (mo (.ld (some 6) (.t 16)) 86),
 .op (oL 11 87),
 .nt (.ownC 6 1 7193 4 none),
 .nt (.ownC 7 1 7225 7 none),
 .op (mo (.call (.f 48) [(.t 86),(.t 87),(.t 6),(.t 7)] [6,7193,7,7225] [13633,13649]) 88)])))
 (.reg [mo (.bin true .add (.t 82) (cI 1)) 89,
 oV 89 82]))))
def mc_1:MC :=
 (sR [mo (.alloc [(.sl []),(.sl [])]) 2,
 mo (.alloc [(.int .i64 0),(.sl [])]) 3,
 mo (.mv (.c (.sl []))) 4,
 oC 0 5]
 (sR [mo (.build [.nils,.nils] []) 19,
 mo (.build [(.int .i64 0),.nils] [(0,1,(cI 16))]) 20,
 mo (.alloc [(.sl []),(.sl [])]) 6,
 mo (.alloc [(.int .i64 0),(.sl [])]) 7,
 ⟨.st 2 (.t 6) (.t 19),none,none⟩,
 ⟨.st 2 (.t 7) (.t 20),none,none⟩]
 (sR [mo (.mv (.f 35)) 8]
 (.seq (sR [oV 0 21,
 mo (.call (.f 36) [(.t 21)] [] []) 22,
 oV 22 9]
 (sR [oV 9 23,
 mo (.bin false .neq (.t 23) (cI 0)) 24]
 (.cond (.t 24)
 (.seq (.note (.gc [2,3,8,9]) (.reg [oV 8 25,
 oV 9 26,
 mo (.call (.t 25) [(.t 26)] [] []) 27,
 mo (.ext 0 (.t 27)) 28,
 mo (.ext 1 (.t 27)) 29,
 mo (.ext 2 (.t 27)) 30,
 mo (.ext 3 (.t 27)) 31,
 ⟨.st 2 (.t 2) (.t 28),none,none⟩,
 ⟨.st 2 (.t 3) (.t 29),none,none⟩,
 oV 30 4,
 oV 31 5]))
 .ret)
 .skip)))
 (.seq (.note (.gc [0,2,3,6,7,8]) (.reg [oV 0 33,
 mo (.call (.f 37) [(.t 33)] [] []) 34,
 oV 34 32,
 mo (.ext 0 (.t 32)) 35,
 mo (.ext 1 (.t 32)) 36,
 mo (.alloc [(.sl [])]) 11,
 oV 35 10,
 ⟨.st 1 (.t 11) (.t 36),none,none⟩]))
 (sR [oL 11 37,
 mo (.call (.f 39) [(.t 37)] [] []) 38,
 mo (.call (.f 38) [(.t 38)] [] [39]) 39,
 oV 39 12]
 (.seq (.note (.gc [0,2,3,6,7,8,10,11,12]) (.reg [mo (.mkfn 40 [(.t 11)]) 40,
 mo (.alloc [.nilf]) 13,
 ⟨.st 1 (.t 13) (.t 40),none,none⟩]))
 (.seq (.block 0
 (.seq (.regD [oV 12 42,
 mo (.call (.f 42) [(.t 42)] [39] []) 43,
 mo (.len false (.t 43)) 44,
 oL 11 45,
 mo (.len false (.t 45)) 46,
 mo (.bin false .lss (.t 44) (.t 46)) 47,
 oV 47 41]
 [[],[0],[1],[],[3],[2,4],[5,1]]
 [[],[0],[0,1],[],[3],[0,1,2,3,4],[0,1,2,3,4,5]])
 (.cond (.t 41)
 (.seq (.note (.gc [2,3,8]) (.reg [oV 8 48,
 mo (.call (.t 48) [(cI 7)] [] []) 49,
 mo (.ext 0 (.t 49)) 50,
 mo (.ext 1 (.t 49)) 51,
 mo (.ext 2 (.t 49)) 52,
 mo (.ext 3 (.t 49)) 53,
 ⟨.st 2 (.t 2) (.t 50),none,none⟩,
 ⟨.st 2 (.t 3) (.t 51),none,none⟩,
 oV 52 4,
 oV 53 5]))
 .ret)
 (.seq (.note (.gc [0,2,3,6,7,8,10,11,13]) (.reg [oV 0 55,
 mo (.mkfn 44 [(.t 13)]) 56,
 mo (.call (.f 43) [(.t 55),(.t 56)] [13,11] []) 57,
 oV 57 54]))
 (.cond (.t 54)
 (.seq (.note (.gc [2,3,8]) (.reg [oV 8 58,
 mo (.call (.t 58) [(cI 6)] [] []) 59,
 mo (.ext 0 (.t 59)) 60,
 mo (.ext 1 (.t 59)) 61,
 mo (.ext 2 (.t 59)) 62,
 mo (.ext 3 (.t 59)) 63,
 ⟨.st 2 (.t 2) (.t 60),none,none⟩,
 ⟨.st 2 (.t 3) (.t 61),none,none⟩,
 oV 62 4,
 oV 63 5]))
 .ret)
 (sR [oL 11 65,
 mo (.len false (.t 65)) 66,
 mo (.bin false .gtr (.t 66) (cI 24)) 67,
 oV 67 64]
 (.cond (.t 64)
 (.seq (.note (.gc [2,3,8]) (.reg [oV 8 68,
 mo (.call (.t 68) [(cI 3)] [] []) 69,
 mo (.ext 0 (.t 69)) 70,
 mo (.ext 1 (.t 69)) 71,
 mo (.ext 2 (.t 69)) 72,
 mo (.ext 3 (.t 69)) 73,
 ⟨.st 2 (.t 2) (.t 70),none,none⟩,
 ⟨.st 2 (.t 3) (.t 71),none,none⟩,
 oV 72 4,
 oV 73 5]))
 .ret)
 .skip)))))))
 (.seq (.note (.gc [0,2,3,6,7,8,10,11]) (.reg [oV 10 74,
 oF 0 6 75,
 ⟨.st 1 (.t 75) (.t 74),none,none⟩]))
 (sR [oV 0 76,
 mo (.call (.f 45) [(.t 76)] [] [77]) 77,
 oV 77 14]
 (sR [oV 14 78,
 mo (.call (.f 46) [(.t 78),(.f 47)] [77] []) 79]
 (.seq (.seq (.note (.gc [2,3,6,7,8,11,14]) (.reg [oV 14 80,
 mo (.len false (.t 80)) 81,
 oC 0 82]))
 (.block 1
 (.loop mc_t)))
 (.seq (.seq (.regI [.op (mo (.ld (some 2) (.t 6)) 90),
 .nt (.fz 90),
 .op (mo (.call (.f 49) [(.t 90)] [] []) 91),
 .op (oV 91 17)])
 (sR [oV 17 92,
 mo (.bin false .neq (.t 92) (cI 0)) 93]
 (.cond (.t 93)
 (.seq (.note (.gc [2,3,8,17]) (.reg [oV 8 94,
 oV 17 95,
 mo (.call (.t 94) [(.t 95)] [] []) 96,
 mo (.ext 0 (.t 96)) 97,
 mo (.ext 1 (.t 96)) 98,
 mo (.ext 2 (.t 96)) 99,
 mo (.ext 3 (.t 96)) 100,
 ⟨.st 2 (.t 2) (.t 97),none,none⟩,
 ⟨.st 2 (.t 3) (.t 98),none,none⟩,
 oV 99 4,
 oV 100 5]))
 .ret)
 .skip)))
 (.seq (.seq (.note (.gc [2,3,6,7,8,11]) (.regI [.op (mo (.ld (some 2) (.t 7)) 101),
 .nt (.fz 101),
 .op (mo (.call (.f 50) [(.t 101)] [] []) 102),
 .op (oV 102 18)]))
 (sR [oV 18 103,
 mo (.bin false .neq (.t 103) (cI 0)) 104]
 (.cond (.t 104)
 (sR [oV 8 105,
 oV 18 106,
 mo (.call (.t 105) [(.t 106)] [] []) 107,
 mo (.ext 0 (.t 107)) 108,
 mo (.ext 1 (.t 107)) 109,
 mo (.ext 2 (.t 107)) 110,
 mo (.ext 3 (.t 107)) 111,
 ⟨.st 2 (.t 2) (.t 108),none,none⟩,
 ⟨.st 2 (.t 3) (.t 109),none,none⟩,
 oV 110 4,
 oV 111 5]
 .ret)
 .skip)))
 (.seq (.regD [mo (.ld (some 2) (.t 6)) 112,
 mo (.ld (some 2) (.t 7)) 113,
 oL 11 114,
 ⟨.st 2 (.t 2) (.t 112),none,none⟩,
 ⟨.st 2 (.t 3) (.t 113),none,none⟩,
 oV 114 4,
 oC 0 5]
 [[],[],[],[0,0],[1,3,0,1,3],[2,4,0,1,2,3,4],[5,0,1,2,3,4,5]]
 [[],[],[],[0],[0,1,3],[0,1,2,3,4],[0,1,2,3,4,5]])
 .ret)))))))))))))))
instance Wq_console_Make {l_:List GCommand}:WI (F_1 l_) Tryz.prog 13 [.sl (l_.map GCommand.v)] [] (fun z=>.tup [GDirectory.v z.1,GEstate.v z.2.1,.sl (z.2.2.1.map V.str),.int .i64 z.2.2.2]) (fun z=>[]):=⟨fun Q Q' h hQ=>by
 refine acallM mc_1 [.fzc 2,.fzc 3,.fz 4] [] [.c 2 (some 2),.c 3 (some 2),.t 4,.t 5] Tryz.func13 fun M=>?_
 unfold F_1 at h
 unfold mc_1
 replace h:=tY h
 refine tB ?_
 repeat' (first
 | (exact tZ)
 | (refine And.intro (by refine ⟨?_,?_,?_,?_⟩<;>omega) ?_;first|exact hQ _ h|(rw [List.take_of_length_le (by omega)];exact hQ _ h))
 | (rw [←hlen];exact hQ _ h)
 | (have hq:=hQ _ h;simp only [List.length_take,Nat.min_eq_left hlen.1] at hq;exact hq)
 | ((first|refine oblg h ?_|refine roomG h ?_|refine inbG h ?_|refine incG h ?_|refine divG h ?_|refine appG h ?_|refine appC h ?_|refine fork h ?_ ?_|refine forkS h ?_ ?_)<;>clear h<;>intro hc h)
 | (obtain ⟨y,hy,h⟩:=h;(first|have hw:=acall_swe 1900 39 (Wq_slices_Sorted_string_of_slices_Values_string_string_1.c.w hy)|(have hw:=acall_swe 1000 39 (W_5m hy);replace hw:=tY hw;(try simp only [hlen] at hw);have hlen:=compactS_len hy)|have hw:=acall_swe 1001 11 (acall_swe 1000 13 (Wq_slices_ContainsFunc_api_Command_api_Command_of_console_Make_3.c.w hy))|have hw:=acall_swe 1900 77 (Wq_slices_Clone_api_Command_api_Command.c.w hy)|(have hw:=acall_swe 1000 77 (Wq_slices_SortStableFunc_api_Command_api_Command_of_console_Make_4.c.w hy);replace hw:=tY hw;have hlen:=F_5y hy)|have hw:=acall_swe 1733 13649 (acall_swe 1701 13633 (acall_swe 1003 7225 (acall_swe 1002 7 (acall_swe 1001 7193 (acall_swe 1000 6 (Wq_console_event.c.w hy))))))|have hw:=WI.w hy|have hw:=W_5q hy);replace hw:=tY hw;(first|refine M.sC hw ?_|refine M.sD hw ?_);clear hw hy;refine tB ?_)
 | (refine M.fold1 (b:=mc_t) 82 [2,3,6,7,8,11,80,81] [77,11,3,2] (fun x=>[]) (fun x=>[.o 7 (.cells [.int .i64 x.1,.osl 4113 7 0 x.2.1.length]),.o 4113 (.arr 7 (x.2.1.map GAccess.v)),.o 6 (.cells [.sl (x.2.2.1.map (V.int .i64)),.osl 4097 4 0 x.2.2.2.length]),.o 4097 (.arr 4 (x.2.2.2.map GMember.v))]) [.gc [2,3,6,7,8,11,80,81,82],.ownC 7 1 4113 7 none,.ownC 6 1 4097 4 none] h ?_ ?_ ?_<;>first
 | (clear h;intro k a x Qn K hK1 hkN1 ha1 h hf;have hl:=fact_int (factsE_find (n:=81) hf.1 rfl);clear hf;have hkd:=kD hkN1;have hkB1:=kB hkN1;have hkI1:=kI (k:=k) (by omega);(try simp only [hlen] at hkd hkB1 hkN1);unfold F_t at h;unfold mc_t;replace h:=tY h;refine tK ha1 hkd hkN1 hkB1 hkI1 ?_)
  |(clear h;intro x K h;replace h:=And.left (And.intro h trivial);(try simp only [hlen]);unfold mc_t;replace h:=tY h;refine tB ?_)
  |(clear h;(try refine tB ?_);exact tU;done))
 | (simp only [ha1])
 | (refine hK1 _ ?_;(try refine tB ?_);refine ⟨_,h,?_⟩;exact tU;done)
 | (refine tE ?_;(first|rw [M.lok_compU]|rw [M.lokD_compU]);refine tB ?_)
 | (refine tA ?_)
 | fail)⟩
noncomputable def F_22 (names_:List Str) (k19:Int) (a20:Int) (x18:Str):Option Str :=
 chk (inb a20 names_.length) (chk (strl ([32].length+(names_.getD (a20).toNat default).length)) (chk (strl (x18.length+(([32]:Str)++(names_.getD (a20).toNat default)).length)) (some (x18++(([32]:Str)++(names_.getD (a20).toNat default))))))
noncomputable def F_1c (c_:GCommand) (d_:GDirectory) (a_:GEstate) (names_:List Str):Option Str :=
 (F_12 d_ a_ c_.A c_.Time).bind fun y2=>jn (α:=Str) (bif y2.1.Public then some [112,117,98,108,105,99] else some [105,110,115,105,100,101]) fun j3=>(foldL (F_22 names_) y2.1.Principals 0 j3).bind fun x21=>some x21
@[irreducible] def mc_22:MC :=
 (sR [mo (.bin false .lss (.t 29) (.t 28)) 30]
 (.seq (.cond (.t 30)
 .skip
 (.exit 0))
 (.seq (.block 1
 (sR [mo (.iad 1 (.t 27) (.t 29)) 31,
 oL 31 32,
 oV 32 13]
 (.reg [oV 11 33,
 oV 3 34,
 oV 13 35,
 mo (.iad 1 (.t 34) (.t 35)) 36,
 oL 36 37,
 mo (.bin false .add (.c (.str [32])) (.t 37)) 38,
 mo (.bin false .add (.t 33) (.t 38)) 39,
 oV 39 11])))
 (.reg [mo (.bin true .add (.t 29) (cI 1)) 40,
 oV 40 29]))))
@[irreducible] def mc_5g:MC :=
 (.seq (sR [oF 1 9 26,
 oL 26 27,
 mo (.len false (.t 27)) 28,
 oC 0 29]
 (.block 0
 (.loop mc_22)))
 (sR [oV 11 41,
 oV 41 8]
 .ret))
def mc_1c:MC :=
 (sR [mo (.box (.t 0)) 4,
 mo (.box (.t 1)) 5,
 mo (.box (.t 2)) 6,
 mo (.mv (.c (.str []))) 8]
 (sR [mo (.ld (some 2) (.t 5)) 15,
 mo (.ld (some 2) (.t 6)) 16,
 oF 4 4 17,
 oL 17 18,
 oF 3 4 19,
 oL 19 20,
 mo (.call (.f 78) [(.t 15),(.t 16),(.t 18),(.t 20)] [] []) 21,
 oV 21 14,
 mo (.ext 0 (.t 14)) 22,
 mo (.ext 1 (.t 14)) 23,
 mo (.alloc [(.bool false),(.sl [])]) 9,
 ⟨.st 2 (.t 9) (.t 22),none,none⟩,
 oV 23 10]
 (sR [mo (.mv (.c (.str [105,110,115,105,100,101]))) 11]
 (.cut (sR [oF 0 9 24,
 oL 24 25]
 (.cond (.t 25)
 (.reg [mo (.mv (.c (.str [112,117,98,108,105,99]))) 11])
 .skip))
 mc_5g))))
attribute [go_sem] F_22
instance:LI mc_22 29 28 [3,27,28] [] (fun y:Str=>[(11,.str y)]) (fun y=>[]) []:=⟨⟩
instance:LI mc_5g 0 0 [3,9] [9] (fun y:Str=>[(11,.str y)]) (fun y=>[]) []:=⟨⟩
instance Wq_console_who {c_:GCommand} {d_:GDirectory} {a_:GEstate} {names_:List Str}:WI (F_1c c_ d_ a_ names_) Tryz.prog 30 [GCommand.v c_,GDirectory.v d_,GEstate.v a_,.sl (names_.map V.str)] [] (fun z=>.str z) (fun z=>[]):=⟨fun Q Q' h hQ=>by
 refine acallM mc_1c [] [] [.t 8] Tryz.func30 fun M=>?_
 unfold F_1c at h
 unfold mc_1c
 exact tX⟩
noncomputable def F_g (y2:GDirectory×GEstate×(List Str)×Int) (k144:Int) (a145:GCommand) (x143:List UInt8):Option (List UInt8) :=
 bif decide (a145.Kind=10) then (F_1c a145 y2.1 y2.2.1 y2.2.2.1).bind fun y173=>chk (strl (y173.length+[10].length)) ((bws x143 (y173++[10])).bind fun y174=>some y174) else bif decide (a145.Kind=11) then jn (α:=Str) ((F_d y2.2.2.1 a145.Name).bind fun y183=>(F_q y2.1 y2.2.1 a145.A y183).bind fun y184=>bif y184.2 then (itoaI y184.1).bind fun y185=>some y185 else some [110,101,118,101,114]) fun j180=>chk (strl (j180.length+[10].length)) ((bws x143 (j180++[10])).bind fun y186=>some y186) else some x143
noncomputable def F_h (l_:List GCommand):Option (Str×Int) :=
 (F_1 l_).bind fun y2=>bif (!decide (y2.2.2.2=0)) then some ([],y2.2.2.2) else (foldL (F_g y2) l_ 0 ([]:Str)).bind fun x187=>(bstr x187).bind fun y189=>some (y189,0)
@[irreducible] def mc_44:MC :=
 (.reg [oV 11 58,
 mo (.bin false .add (.t 58) (.c (.str [10]))) 59,
 mo (.call (.f 29) [(.t 8),(.t 59)] [8,4129] [11841]) 60])
@[irreducible] def mc_g:MC :=
 (sR [mo (.bin false .lss (.t 26) (.t 25)) 27]
 (.seq (.cond (.t 27)
 .skip
 (.exit 0))
 (.seq (.block 1
 (sR [mo (.iad 6 (.t 24) (.t 26)) 28,
 mo (.ld (some 6) (.t 28)) 29,
 mo (.alloc [(.int .i64 0),(.str []),(.str []),(.int .i64 0),(.int .i64 0),(.int .i64 0)]) 10,
 ⟨.st 6 (.t 10) (.t 29),none,none⟩]
 (sR [oF 0 10 30,
 oL 30 31]
 (.block 2
 (sR [mo (.bin false .eql (.t 31) (cI 10)) 33,
 oV 33 32]
 (.cond (.t 32)
 (.reg [mo (.ld (some 6) (.t 10)) 34,
 mo (.ld (some 2) (.t 4)) 35,
 mo (.ld (some 2) (.t 5)) 36,
 oV 6 37,
 mo (.call (.f 30) [(.t 34),(.t 35),(.t 36),(.t 37)] [] []) 38,
 mo (.bin false .add (.t 38) (.c (.str [10]))) 39,
 mo (.call (.f 29) [(.t 8),(.t 39)] [8,4129] [10561]) 40])
 (sR [mo (.bin false .eql (.t 31) (cI 11)) 42,
 oV 42 41]
 (.cond (.t 41)
 (sR [mo (.mv (.c (.str [110,101,118,101,114]))) 11]
 (.cut (.seq (.note (.gc [4,5,6,8,10,11,24,25,26]) (.regD [mo (.ld (some 2) (.t 4)) 44,
 mo (.ld (some 2) (.t 5)) 45,
 oF 4 10 46,
 oL 46 47,
 oV 6 48,
 oF 1 10 49,
 oL 49 50,
 mo (.call (.f 32) [(.t 48),(.t 50)] [] []) 51,
 mo (.call (.f 31) [(.t 44),(.t 45),(.t 47),(.t 51)] [] []) 52,
 oV 52 43,
 mo (.ext 0 (.t 43)) 53,
 mo (.ext 1 (.t 43)) 54,
 oV 53 12,
 oV 54 13]
 [[],[],[],[2],[],[],[5],[4,6],[0,1,3,7,7],[8],[9],[9],[10,8,0,1,2,3,4,5,6,7,8,9,10],[11,12,0,1,2,3,4,5,6,7,8,9,10,11,12]]
 [[],[],[],[2],[],[],[5],[4,5,6],[0,1,2,3,4,5,6,7],[0,1,2,3,4,5,6,7,8],[0,1,2,3,4,5,6,7,8,9],[0,1,2,3,4,5,6,7,8,9],[0,1,2,3,4,5,6,7,8,9,10],[0,1,2,3,4,5,6,7,8,9,10,11,12]]))
 (sR [oV 13 55]
 (.cond (.t 55)
 (.note (.gc [4,5,6,8,12,24,25,26]) (.reg [oV 12 56,
 mo (.call (.f 33) [(.t 56)] [] []) 57,
 oV 57 11]))
 .skip)))
 mc_44))
 .skip))))))))
 (.reg [mo (.bin true .add (.t 26) (cI 1)) 61,
 oV 61 26]))))
def mc_h:MC :=
 (sR [mo (.mv (.c (.str []))) 2,
 oC 0 3]
 (sR [oV 0 15,
 mo (.call (.f 13) [(.t 15)] [] []) 16,
 oV 16 14,
 mo (.ext 0 (.t 14)) 17,
 mo (.ext 1 (.t 14)) 18,
 mo (.ext 2 (.t 14)) 19,
 mo (.ext 3 (.t 14)) 20,
 mo (.alloc [(.sl []),(.sl [])]) 4,
 mo (.alloc [(.int .i64 0),(.sl [])]) 5,
 ⟨.st 2 (.t 4) (.t 17),none,none⟩,
 ⟨.st 2 (.t 5) (.t 18),none,none⟩,
 oV 19 6,
 oV 20 7]
 (.seq (sR [oV 7 21,
 mo (.bin false .neq (.t 21) (cI 0)) 22]
 (.cond (.t 22)
 (.seq (.note (.gc [7]) (.reg [oV 7 23,
 mo (.mv (.c (.str []))) 2,
 oV 23 3]))
 .ret)
 .skip))
 (.seq (.regI [.op (mo (.alloc [.nilp,.nils] (some 65)) 8),
 .nt (.bld 8),
 .nt (.ownC 8 1 5008 1 (some 5))])
 (.seq (.seq (.note (.gc [0,4,5,6,8]) (.reg [oV 0 24,
 mo (.len false (.t 24)) 25,
 oC 0 26]))
 (.block 0
 (.loop mc_g)))
 (sR [mo (.call (.f 34) [(.t 8)] [8,4129] []) 62,
 oV 62 2,
 oC 0 3]
 .ret))))))
instance Wq_console_Run {l_:List GCommand}:WI (F_h l_) Tryz.prog 12 [.sl (l_.map GCommand.v)] [] (fun z=>.tup [.str z.1,.int .i64 z.2]) (fun z=>[]):=⟨fun Q Q' h hQ=>by
 refine acallM mc_h [] [] [.t 2,.t 3] Tryz.func12 fun M=>?_
 unfold F_h at h
 unfold mc_h
 replace h:=tY h
 refine tB ?_
 repeat' (first
 | (exact tZ)
 | ((first|refine oblg h ?_|refine roomG h ?_|refine inbG h ?_|refine incG h ?_|refine divG h ?_|refine appG h ?_|refine appC h ?_|refine fork h ?_ ?_|refine forkS h ?_ ?_)<;>clear h<;>intro hc h)
 | (obtain ⟨y,hy,h⟩:=h;have hw:=acall_swe 1002 10561 (acall_swe 1001 5008 (acall_swe 1000 8 (W_34 hy)));replace hw:=tY hw;(first|refine M.sC hw ?_|refine M.sD hw ?_);clear hw hy;refine tB ?_)
 | (obtain ⟨y,hy,h⟩:=h;have hw:=acall_swe 1002 11841 (acall_swe 1001 5008 (acall_swe 1000 8 (W_34 hy)));replace hw:=tY hw;(first|refine M.sC hw ?_|refine M.sD hw ?_);clear hw hy;refine tB ?_)
 | (obtain ⟨y,hy,h⟩:=h;have hw:=acall_swe 1002 10561 (acall_swe 1001 4129 (acall_swe 1000 8 (W_34 hy)));replace hw:=tY hw;(first|refine M.sC hw ?_|refine M.sD hw ?_);clear hw hy;refine tB ?_)
 | (obtain ⟨y,hy,h⟩:=h;have hw:=acall_swe 1002 11841 (acall_swe 1001 4129 (acall_swe 1000 8 (W_34 hy)));replace hw:=tY hw;(first|refine M.sC hw ?_|refine M.sD hw ?_);clear hw hy;refine tB ?_)
 | (obtain ⟨y,hy,h⟩:=h;(first|have hw:=acall_swe 1001 4129 (acall_swe 1000 8 (W_4f hy))|have hw:=WI.w hy|have hw:=W_3p hy);replace hw:=tY hw;(first|refine M.sC hw ?_|refine M.sD hw ?_);clear hw hy;refine tB ?_)
 | (refine M.jn1 (b:=mc_44) [4,5,6,8,24,25,26] [8,4129,5,4] (fun y=>[(11,.str y)]) (fun y=>[]) [] h ?_ ?_<;>first
 | (clear h;intro Qn K hK1 h;replace h:=tY h;refine tB ?_)
  |(clear h;intro y h;unfold mc_44;replace h:=tY h;refine tB ?_))
 | (refine M.fold1 (b:=mc_g) 26 [4,5,6,8,24,25] [8,5,4] (fun x=>[]) (fun x=>[.p 8 1 [.osl 4129 1 0 x.length],.o 4129 (.arr 1 (x.map byteV) (some 5))]) [.gc [4,5,6,8,24,25,26],.ownC 8 1 4129 1 none] h ?_ ?_ ?_<;>first
 | (clear h;intro k a x Qn K hK2 hkN2 ha2 h hf;have hl:=fact_int (factsE_find (n:=25) hf.1 rfl);clear hf;have hkd:=kD hkN2;have hkB2:=kB hkN2;have hkI2:=kI (k:=k) (by omega);unfold F_g at h;unfold mc_g;replace h:=tY h;refine tK ha2 hkd hkN2 hkB2 hkI2 ?_)
  |(clear h;intro x K h;replace h:=And.left (And.intro h trivial);unfold mc_g;replace h:=tY h;refine tB ?_)
  |(clear h;(try refine tB ?_);exact tU0;done))
 | (simp only [ha2])
 | ((first|refine hK1 _ ?_|refine hK2 _ ?_);(try refine tB ?_);refine ⟨_,h,?_⟩;exact tU0;done)
 | (refine tE ?_;(first|rw [M.lok_compU]|rw [M.lokD_compU]);refine tB ?_)
 | (refine tA ?_)
 | fail)⟩
noncomputable def F_1d:Option Bool :=
 (F_2o [112,101,114,115,111,110,32,97,110,110,10,97,108,108,111,119,32,51,32,97,110,110,32,48,10,112,117,116,32,53,32,55,32,48,10,115,105,110,99,101,32,55,32,97,110,110,10,119,104,111,32,52,32,48,10]).bind fun y2=>(F_h y2.1).bind fun y4=>grp ((decide (y2.2.2=0)&&decide ((y2.1.length:Int)=5))) fun b8=>grp ((b8&&decide (y4.2=0))) fun b9=>grp ((b9&&decide (y4.1=[53,10,105,110,115,105,100,101,32,97,110,110,10]))) fun b10=>some b10
@[irreducible] def mg_5h:List MOp:=[gT 18 19 (.mv (.t 1)),
 gT 18 20 (.len false (.t 19)),
 gT 18 21 (.bin false .eql (.t 20) (cI 5)),
 mo (.pick (.t 18) (.t 21) (.c (.bool false))) 22]
@[irreducible] def mg_5i:List MOp:=[gT 23 24 (.mv (.t 5)),
 gT 23 25 (.bin false .eql (.t 24) (cI 0)),
 mo (.pick (.t 23) (.t 25) (.c (.bool false))) 26]
@[irreducible] def mg_5j:List MOp:=[gT 27 28 (.mv (.t 4)),
 gT 27 29 (.bin false .eql (.t 28) (.c (.str [53,10,105,110,115,105,100,101,32,97,110,110,10]))),
 mo (.pick (.t 27) (.t 29) (.c (.bool false))) 30]
def mc_1d:MC :=
 (sR [mo (.mv (.c (.bool false))) 0]
 (sR [mo (.call (.f 26) [(.c (.str [112,101,114,115,111,110,32,97,110,110,10,97,108,108,111,119,32,51,32,97,110,110,32,48,10,112,117,116,32,53,32,55,32,48,10,115,105,110,99,101,32,55,32,97,110,110,10,119,104,111,32,52,32,48,10]))] [] []) 7,
 oV 7 6,
 mo (.ext 0 (.t 6)) 8,
 mo (.ext 1 (.t 6)) 9,
 mo (.ext 2 (.t 6)) 10,
 oV 8 1,
 oV 9 2,
 oV 10 3]
 (sR [oV 1 12,
 mo (.call (.f 12) [(.t 12)] [] []) 13,
 oV 13 11,
 mo (.ext 0 (.t 11)) 14,
 mo (.ext 1 (.t 11)) 15,
 oV 14 4,
 oV 15 5]
 (.seq (.note (.gc [1,3,4,5,19,20,21,24,25,28,29]) (.regI [.op (oV 3 16),
 .op (mo (.bin false .eql (.t 16) (cI 0)) 17),
 .op (oV 17 18),
 .grp mg_5h,
 .op (oV 22 23),
 .grp mg_5i,
 .op (oV 26 27),
 .grp mg_5j,
 .op (oV 30 0)]))
 .ret))))
instance:GV mg_5j 30 [28,29]:=⟨⟩
instance:GV mg_5i 26 [24,25]:=⟨⟩
instance:GV mg_5h 22 [19,20,21]:=⟨⟩
instance Wq_law44_awake:WI F_1d Tryz.prog 8 [] [] (fun z=>.bool z) (fun z=>[]):=⟨fun Q Q' h hQ=>by
 refine acallM mc_1d [] [] [.t 0] Tryz.func8 fun M=>?_
 unfold F_1d at h
 unfold mc_1d
 exact tX⟩
end Go.Ab
set_option maxRecDepth 20000
set_option maxHeartbeats 2000000
namespace Go.Ab
open Go.Proofs
theorem inbk_4 {n:Nat}:(inb 4 n=true)=(((4:Nat):Int)<(n:Int)):=propext (by rw [inb_iff];omega)
attribute [go_sem] inbk_4
noncomputable def F_33 (l_:List Int):Option Bool :=
 bif decide (400<(l_.length:Int)) then F_1d.bind fun y4=>some y4 else (F_2g (GTape.mk l_ 0)).bind fun y6=>chk (room y6.1.length 64) (chk (room (y6.1.length+[(GCommand.mk 11 [122,111,101] [] 0 0 0)].length) 64) ((F_1 (y6.1++[(GCommand.mk 11 [122,111,101] [] 0 0 0)])).bind fun y8=>chk (room y6.1.length 64) (chk (room (y6.1.length+[(GCommand.mk 2 [97,110,110] [] 0 0 0)].length) 64) ((F_1 (y6.1++[(GCommand.mk 2 [97,110,110] [] 0 0 0)])).bind fun y10=>chk (room y6.1.length 64) (chk (room (y6.1.length+[(GCommand.mk 1 [122,111,101] [] 0 0 0)].length) 64) ((F_1 (y6.1++[(GCommand.mk 1 [122,111,101] [] 0 0 0)])).bind fun y12=>chk (room y6.1.length 64) (chk (room (y6.1.length+[(GCommand.mk 1 [122,111,101] [] 0 0 0),(GCommand.mk 11 [122,111,101] [] 0 0 0)].length) 64) ((F_h (y6.1++[(GCommand.mk 1 [122,111,101] [] 0 0 0),(GCommand.mk 11 [122,111,101] [] 0 0 0)])).bind fun y14=>grp ((decide (y8.2.2.2=6)&&decide (y10.2.2.2=7))) fun b23=>grp ((b23&&decide (y12.2.2.2=0))) fun b24=>grp ((b24&&decide ((y12.2.2.1.length:Int)=5))) fun b25=>jn (α:=Bool) (bif b25 then chk (inb 4 y12.2.2.1.length) (some (decide ((y12.2.2.1.getD 4 default)=[122,111,101]))) else some false) fun j26=>grp ((j26&&decide (y14.2=0))) fun b27=>grp ((b27&&decide (0<(y14.1.length:Int)))) fun b28=>jn (α:=Bool) (bif b28 then F_1d.bind fun y30=>some y30 else some false) fun j31=>some j31))))))))
@[irreducible] def mg_45:List MOp:=[gT 73 74 (.mv (.t 12)),
 gT 73 75 (.bin false .eql (.t 74) (cI 7)),
 mo (.pick (.t 73) (.t 75) (.c (.bool false))) 76]
@[irreducible] def mg_46:List MOp:=[gT 77 78 (.mv (.t 16)),
 gT 77 79 (.bin false .eql (.t 78) (cI 0)),
 mo (.pick (.t 77) (.t 79) (.c (.bool false))) 80]
@[irreducible] def mg_47:List MOp:=[gT 81 82 (.mv (.t 15)),
 gT 81 83 (.len false (.t 82)),
 gT 81 84 (.bin false .eql (.t 83) (cI 5)),
 mo (.pick (.t 81) (.t 84) (.c (.bool false))) 85]
@[irreducible] def mg_48:List MOp:=[gT 86 87 (.mv (.t 15)),
 gT 86 88 (.iad 1 (.t 87) (cI 4)),
 gT 86 89 (.ld none (.t 88)),
 gT 86 90 (.bin false .eql (.t 89) (.c (.str [122,111,101]))),
 mo (.pick (.t 86) (.t 90) (.c (.bool false))) 91]
@[irreducible] def mg_49:List MOp:=[gT 92 93 (.mv (.t 18)),
 gT 92 94 (.bin false .eql (.t 93) (cI 0)),
 mo (.pick (.t 92) (.t 94) (.c (.bool false))) 95]
@[irreducible] def mg_4a:List MOp:=[gT 96 97 (.mv (.t 17)),
 gT 96 98 (.len true (.t 97)),
 gT 96 99 (.bin false .gtr (.t 98) (cI 0)),
 mo (.pick (.t 96) (.t 99) (.c (.bool false))) 100]
@[irreducible] def mg_4b:List MOp:=[gT 101 102 (.call (.f 8) [] [] []),
 mo (.pick (.t 101) (.t 102) (.c (.bool false))) 103]
def mc_33:MC :=
 (sR [mo (.mv (.c (.bool false))) 2]
 (.seq (sR [oV 0 19,
 mo (.len false (.t 19)) 20,
 mo (.bin false .gtr (.t 20) (cI 400)) 21]
 (.cond (.t 21)
 (sR [mo (.call (.f 8) [] [] []) 22,
 oV 22 2]
 .ret)
 .skip))
 (sR [oV 0 23,
 mo (.build [(.sl []),(.int .i64 0)] [(0,1,(.t 23))]) 24,
 mo (.box (.t 24)) 25,
 oV 25 3]
 (.seq (.note (.gc [3,74,75,78,79,82,83,84,87,88,89,90,93,94,97,98,99,102]) (.reg [oV 3 26,
 mo (.call (.f 9) [(.t 26)] [25] []) 27,
 oV 27 4]))
 (.seq (.regI [.op (oV 4 29),
 .op (mo (.app 6 64 (.c .nils) (.t 29)) 30),
 .op (mo (.build [(.int .i64 0),(.str []),(.str []),(.int .i64 0),(.int .i64 0),(.int .i64 0)] [(0,1,(cI 11)),(1,1,(.c (.str [122,111,101])))]) 31),
 .op (mo (.bslice 6 [(.t 31)]) 32),
 .op (mo (.app 6 64 (.t 30) (.t 32)) 33),
 .nt (.fz 33),
 .op (mo (.call (.f 13) [(.t 33)] [] []) 34),
 .op (oV 34 28),
 .op (mo (.ext 0 (.t 28)) 35),
 .op (mo (.ext 1 (.t 28)) 36),
 .op (mo (.ext 2 (.t 28)) 37),
 .op (mo (.ext 3 (.t 28)) 38),
 .op (mo (.alloc [(.sl []),(.sl [])]) 5),
 .op (mo (.alloc [(.int .i64 0),(.sl [])]) 6),
 .op ⟨.st 2 (.t 5) (.t 35),none,none⟩,
 .op ⟨.st 2 (.t 6) (.t 36),none,none⟩,
 .op (oV 37 7),
 .op (oV 38 8)])
 (.seq (.note (.gc [4,8,74,75,78,79,82,83,84,87,88,89,90,93,94,97,98,99,102]) (.regI [.op (oV 4 40),
 .op (mo (.app 6 64 (.c .nils) (.t 40)) 41),
 .op (mo (.build [(.int .i64 0),(.str []),(.str []),(.int .i64 0),(.int .i64 0),(.int .i64 0)] [(0,1,(cI 2)),(1,1,(.c (.str [97,110,110])))]) 42),
 .op (mo (.bslice 6 [(.t 42)]) 43),
 .op (mo (.app 6 64 (.t 41) (.t 43)) 44),
 .nt (.fz 44),
 .op (mo (.call (.f 13) [(.t 44)] [] []) 45),
 .op (oV 45 39),
 .op (mo (.ext 0 (.t 39)) 46),
 .op (mo (.ext 1 (.t 39)) 47),
 .op (mo (.ext 2 (.t 39)) 48),
 .op (mo (.ext 3 (.t 39)) 49),
 .op (mo (.alloc [(.sl []),(.sl [])]) 9),
 .op (mo (.alloc [(.int .i64 0),(.sl [])]) 10),
 .op ⟨.st 2 (.t 9) (.t 46),none,none⟩,
 .op ⟨.st 2 (.t 10) (.t 47),none,none⟩,
 .op (oV 48 11),
 .op (oV 49 12)]))
 (.seq (.note (.gc [4,8,12,74,75,78,79,82,83,84,87,88,89,90,93,94,97,98,99,102]) (.regI [.op (oV 4 51),
 .op (mo (.app 6 64 (.c .nils) (.t 51)) 52),
 .op (mo (.build [(.int .i64 0),(.str []),(.str []),(.int .i64 0),(.int .i64 0),(.int .i64 0)] [(0,1,(cI 1)),(1,1,(.c (.str [122,111,101])))]) 53),
 .op (mo (.bslice 6 [(.t 53)]) 54),
 .op (mo (.app 6 64 (.t 52) (.t 54)) 55),
 .nt (.fz 55),
 .op (mo (.call (.f 13) [(.t 55)] [] []) 56),
 .op (oV 56 50),
 .op (mo (.ext 0 (.t 50)) 57),
 .op (mo (.ext 1 (.t 50)) 58),
 .op (mo (.ext 2 (.t 50)) 59),
 .op (mo (.ext 3 (.t 50)) 60),
 .op (mo (.alloc [(.sl []),(.sl [])]) 13),
 .op (mo (.alloc [(.int .i64 0),(.sl [])]) 14),
 .op ⟨.st 2 (.t 13) (.t 57),none,none⟩,
 .op ⟨.st 2 (.t 14) (.t 58),none,none⟩,
 .op (oV 59 15),
 .op (oV 60 16)]))
 (.seq (.note (.gc [4,8,12,15,16,74,75,78,79,82,83,84,87,88,89,90,93,94,97,98,99,102]) (.regI [.op (oV 4 62),
 .op (mo (.app 6 64 (.c .nils) (.t 62)) 63),
 .op (mo (.build [(.int .i64 0),(.str []),(.str []),(.int .i64 0),(.int .i64 0),(.int .i64 0)] [(0,1,(cI 1)),(1,1,(.c (.str [122,111,101])))]) 64),
 .op (mo (.build [(.int .i64 0),(.str []),(.str []),(.int .i64 0),(.int .i64 0),(.int .i64 0)] [(0,1,(cI 11)),(1,1,(.c (.str [122,111,101])))]) 65),
 .op (mo (.bslice 6 [(.t 64),(.t 65)]) 66),
 .op (mo (.app 6 64 (.t 63) (.t 66)) 67),
 .nt (.fz 67),
 .op (mo (.call (.f 12) [(.t 67)] [] []) 68),
 .op (oV 68 61),
 .op (mo (.ext 0 (.t 61)) 69),
 .op (mo (.ext 1 (.t 61)) 70),
 .op (oV 69 17),
 .op (oV 70 18)]))
 (.seq (.note (.gc [8,12,15,16,17,18,74,75,78,79,82,83,84,87,88,89,90,93,94,97,98,99,102]) (.regI [.op (oV 8 71),
 .op (mo (.bin false .eql (.t 71) (cI 6)) 72),
 .op (oV 72 73),
 .grp mg_45,
 .op (oV 76 77),
 .grp mg_46,
 .op (oV 80 81),
 .grp mg_47,
 .op (oV 85 86),
 .grp mg_48,
 .op (oV 91 92),
 .grp mg_49,
 .op (oV 95 96),
 .grp mg_4a,
 .op (oV 100 101),
 .grp mg_4b,
 .op (oV 103 2)]))
 .ret)))))))))
instance Wq_law44_ConsoleNames {l_:List Int}:WI (F_33 l_) Tryz.prog 5 [.sl (l_.map (V.int .i64))] [] (fun z=>.bool z) (fun z=>[]):=⟨fun Q Q' h hQ=>by
 refine acallM mc_33 [] [] [.t 2] Tryz.func5 fun M=>?_
 unfold F_33 at h
 unfold mc_33
 replace h:=tY h
 refine tB ?_
 repeat' (first
 | (exact tZ)
 | ((first|refine oblg h ?_|refine roomG h ?_|refine inbG h ?_|refine incG h ?_|refine divG h ?_|refine appG h ?_|refine appC h ?_|refine fork h ?_ ?_|refine forkS h ?_ ?_)<;>clear h<;>intro hc h)
 | (obtain ⟨y,hy,h⟩:=h;(first|have hw:=acall_swe 1000 25 (Wq_made_Script.c.w hy)|have hw:=WI.w hy);replace hw:=tY hw;(first|refine M.sC hw ?_|refine M.sD hw ?_);clear hw hy;refine tB ?_)
 | (refine M.gj1 (ms:=mg_4b) [] [] (fun y=>[(103,.bool y)]) (fun y=>[]) h ?_ ?_<;>first
 | (clear h;intro Qn K hK1 h;unfold mg_4b;replace h:=tY h;refine tB ?_)
  |(clear h;intro y h;replace h:=tY h;refine tB ?_))
 | (refine M.gv1 (ms:=mg_4a) 100 [97,98,99] h ?_ ?_<;>first
 | (clear h;intro K hK2;unfold mg_4a;refine tB ?_)
 | (clear h;intro b h;replace h:=tY h;refine tB ?_))
 | (refine M.gv1 (ms:=mg_49) 95 [93,94] h ?_ ?_<;>first
 | (clear h;intro K hK3;unfold mg_49;refine tB ?_)
 | (clear h;intro b h;replace h:=tY h;refine tB ?_))
 | (refine M.gj1 (ms:=mg_48) [17,18] [] (fun y=>[(91,.bool y)]) (fun y=>[]) h ?_ ?_<;>first
 | (clear h;intro Qn K hK4 h;unfold mg_48;replace h:=tY h;refine tB ?_)
  |(clear h;intro y h;replace h:=tY h;refine tB ?_))
 | (refine M.gv1 (ms:=mg_47) 85 [82,83,84] h ?_ ?_<;>first
 | (clear h;intro K hK5;unfold mg_47;refine tB ?_)
 | (clear h;intro b h;replace h:=tY h;refine tB ?_))
 | (refine M.gv1 (ms:=mg_46) 80 [78,79] h ?_ ?_<;>first
 | (clear h;intro K hK6;unfold mg_46;refine tB ?_)
 | (clear h;intro b h;replace h:=tY h;refine tB ?_))
 | (refine M.gv1 (ms:=mg_45) 76 [74,75] h ?_ ?_<;>first
 | (clear h;intro K hK7;unfold mg_45;refine tB ?_)
 | (clear h;intro b h;replace h:=tY h;refine tB ?_))
 | ((first|refine hK1 _ ?_|refine hK4 _ ?_);(try refine tB ?_);refine ⟨_,h,?_⟩;exact tU0;done)
 | ((first|refine hK2 _ ?_|refine hK3 _ ?_|refine hK5 _ ?_|refine hK6 _ ?_|refine hK7 _ ?_);exact tU;done)
 | (refine bfork (fun hc=>?_) (fun hc=>?_))
 | (refine tE ?_;(first|rw [M.lok_compU]|rw [M.lokD_compU]);refine tB ?_)
 | (refine tA ?_)
 | fail)⟩
end Go.Ab
set_option maxRecDepth 20000
set_option maxHeartbeats 2000000
namespace Go.Ab
open Go.Proofs
def C_slices_Clone_api_Command_api_Command (s_:List GCommand):Option (List GCommand) :=
 ambC s_.isEmpty (some []) (chk (room (([]:List GCommand).length+s_.length) 64) (some (([]:List GCommand)++s_)))
theorem C_slices_Clone_api_Command_api_Command_le {s_:List GCommand}:Le (C_slices_Clone_api_Command_api_Command s_) (F_19 s_):=by
 unfold C_slices_Clone_api_Command_api_Command F_19
 (repeat' (with_reducible first|exact Le.refl|assumption|(refine Le.bind ?_ fun _=>?_)|(refine Le.jn ?_ fun _=>?_)|(refine Le.grp fun _=>?_)|(refine Le.chk ?_)|(refine Le.cond ?_ ?_)|(refine Le.fl (fun _=>?_) fun _=>?_)|(refine Le.sum (fun _=>?_) fun _=>?_)|(refine Le.forL (fun _ _ _=>?_) _ _ _)|(refine Le.foldL (fun _ _ _=>?_) _ _ _)|(refine Le.loop fun _=>?_)|(refine Le.perm fun _=>?_)|(refine Le.amb ?_)|exact Le.sort))
def C_slices_insertionSortCmpFunc_api_Command_of_console_Make_4_L1 (a_:Int) (x126:Int×(List GCommand)):Option (Fl (Int×(List GCommand)) (List GCommand)) :=
 bif decide (a_<x126.1) then chk (inb x126.1 x126.2.length) (chk (in64 (x126.1 - 1)) (chk (inb (x126.1 - 1) x126.2.length) ((F_2j (x126.2.getD ((x126.1).toNat) default) (x126.2.getD (((x126.1 - 1)).toNat) default)).bind fun y134=>bif decide (y134<0) then chk (in64 (x126.1 - 1)) (chk (in64 (x126.1 - 1)) (chk (inb (x126.1 - 1) x126.2.length) (chk (inb x126.1 x126.2.length) (chk (inb x126.1 x126.2.length) (chk (inb (x126.1 - 1) (x126.2.set ((x126.1).toNat) (x126.2.getD (((x126.1 - 1)).toNat) default)).length) (chk (in64 (x126.1 - 1)) (some (.nx ((x126.1 - 1),(x126.2.set ((x126.1).toNat) (x126.2.getD (((x126.1 - 1)).toNat) default)).set (((x126.1 - 1)).toNat) (x126.2.getD ((x126.1).toNat) default)))))))))) else some (.ex x126.2)))) else some (.ex x126.2)
theorem C_slices_insertionSortCmpFunc_api_Command_of_console_Make_4_L1_le  (a_:Int) (x126:Int×(List GCommand)):Le (C_slices_insertionSortCmpFunc_api_Command_of_console_Make_4_L1 a_ x126) (F_r a_ x126):=by
 unfold C_slices_insertionSortCmpFunc_api_Command_of_console_Make_4_L1 F_r
 (repeat' (with_reducible first|exact Le.refl|assumption|(refine Le.bind ?_ fun _=>?_)|(refine Le.jn ?_ fun _=>?_)|(refine Le.grp fun _=>?_)|(refine Le.chk ?_)|(refine Le.cond ?_ ?_)|(refine Le.fl (fun _=>?_) fun _=>?_)|(refine Le.sum (fun _=>?_) fun _=>?_)|(refine Le.forL (fun _ _ _=>?_) _ _ _)|(refine Le.foldL (fun _ _ _=>?_) _ _ _)|(refine Le.loop fun _=>?_)|(refine Le.perm fun _=>?_)|(refine Le.amb ?_)|exact Le.sort))
def C_slices_insertionSortCmpFunc_api_Command_of_console_Make_4_L2 (a_:Int) (b_:Int) (x67:Int×(List GCommand)):Option (Fl (Int×(List GCommand)) (List GCommand)) :=
 bif decide (x67.1<b_) then (iter (C_slices_insertionSortCmpFunc_api_Command_of_console_Make_4_L1 a_) 100000 (x67.1,x67.2)).bind fun r135=>chk (in64 (x67.1+1)) (some (.nx ((x67.1+1),r135))) else some (.ex x67.2)
theorem C_slices_insertionSortCmpFunc_api_Command_of_console_Make_4_L2_le  (a_:Int) (b_:Int) (x67:Int×(List GCommand)):Le (C_slices_insertionSortCmpFunc_api_Command_of_console_Make_4_L2 a_ b_ x67) (F_1a a_ b_ x67):=by
 unfold C_slices_insertionSortCmpFunc_api_Command_of_console_Make_4_L2 F_1a
 (repeat' (with_reducible first|exact Le.refl|assumption|(refine Le.bind ?_ fun _=>?_)|(refine Le.jn ?_ fun _=>?_)|(refine Le.grp fun _=>?_)|(refine Le.chk ?_)|(refine Le.cond ?_ ?_)|(refine Le.fl (fun _=>?_) fun _=>?_)|(refine Le.sum (fun _=>?_) fun _=>?_)|(refine Le.forL (fun _ _ _=>?_) _ _ _)|(refine Le.foldL (fun _ _ _=>?_) _ _ _)|(refine Le.loop fun _=>?_)|(refine Le.perm fun _=>?_)|(refine Le.amb ?_)|exact Le.sort|apply C_slices_insertionSortCmpFunc_api_Command_of_console_Make_4_L1_le))
def C_slices_insertionSortCmpFunc_api_Command_of_console_Make_4 (data_:List GCommand) (a_:Int) (b_:Int):Option (List GCommand) :=
 chk (in64 (a_+1)) ((iter (C_slices_insertionSortCmpFunc_api_Command_of_console_Make_4_L2 a_ b_) 100000 ((a_+1),data_)).bind fun r136=>some r136)
theorem C_slices_insertionSortCmpFunc_api_Command_of_console_Make_4_le {data_:List GCommand} {a_:Int} {b_:Int}:Le (C_slices_insertionSortCmpFunc_api_Command_of_console_Make_4 data_ a_ b_) (F_6 data_ a_ b_):=by
 unfold C_slices_insertionSortCmpFunc_api_Command_of_console_Make_4 F_6
 (repeat' (with_reducible first|exact Le.refl|assumption|(refine Le.bind ?_ fun _=>?_)|(refine Le.jn ?_ fun _=>?_)|(refine Le.grp fun _=>?_)|(refine Le.chk ?_)|(refine Le.cond ?_ ?_)|(refine Le.fl (fun _=>?_) fun _=>?_)|(refine Le.sum (fun _=>?_) fun _=>?_)|(refine Le.forL (fun _ _ _=>?_) _ _ _)|(refine Le.foldL (fun _ _ _=>?_) _ _ _)|(refine Le.loop fun _=>?_)|(refine Le.perm fun _=>?_)|(refine Le.amb ?_)|exact Le.sort|apply C_slices_insertionSortCmpFunc_api_Command_of_console_Make_4_L1_le|apply C_slices_insertionSortCmpFunc_api_Command_of_console_Make_4_L2_le))
def C_slices_stableCmpFunc_api_Command_of_console_Make_4_L1 (n_:Int) (x17:Int×Int×(List GCommand)):Option (Fl (Int×Int×(List GCommand)) (Int×(List GCommand))) :=
 bif decide (x17.2.1≤n_) then (C_slices_insertionSortCmpFunc_api_Command_of_console_Make_4 x17.2.2 x17.1 x17.2.1).bind fun y21=>chk (in64 (x17.2.1+20)) (some (.nx (x17.2.1,(x17.2.1+20),y21))) else some (.ex (x17.1,x17.2.2))
theorem C_slices_stableCmpFunc_api_Command_of_console_Make_4_L1_le  (n_:Int) (x17:Int×Int×(List GCommand)):Le (C_slices_stableCmpFunc_api_Command_of_console_Make_4_L1 n_ x17) (F_f n_ x17):=by
 unfold C_slices_stableCmpFunc_api_Command_of_console_Make_4_L1 F_f
 (repeat' (with_reducible first|exact Le.refl|assumption|(refine Le.bind ?_ fun _=>?_)|(refine Le.jn ?_ fun _=>?_)|(refine Le.grp fun _=>?_)|(refine Le.chk ?_)|(refine Le.cond ?_ ?_)|(refine Le.fl (fun _=>?_) fun _=>?_)|(refine Le.sum (fun _=>?_) fun _=>?_)|(refine Le.forL (fun _ _ _=>?_) _ _ _)|(refine Le.foldL (fun _ _ _=>?_) _ _ _)|(refine Le.loop fun _=>?_)|(refine Le.perm fun _=>?_)|(refine Le.amb ?_)|exact Le.sort|exact C_slices_insertionSortCmpFunc_api_Command_of_console_Make_4_le))
def C_slices_stableCmpFunc_api_Command_of_console_Make_4_L2 (n_:Int) (x26:Unit):Option (Fl Unit Unit) :=
 bif decide (20<n_) then none else some (.ex ())
theorem C_slices_stableCmpFunc_api_Command_of_console_Make_4_L2_le  (n_:Int) (x26:Unit):Le (C_slices_stableCmpFunc_api_Command_of_console_Make_4_L2 n_ x26) (F_1b n_ x26):=by
 unfold C_slices_stableCmpFunc_api_Command_of_console_Make_4_L2 F_1b
 (repeat' (with_reducible first|exact Le.refl|assumption|(refine Le.bind ?_ fun _=>?_)|(refine Le.jn ?_ fun _=>?_)|(refine Le.grp fun _=>?_)|(refine Le.chk ?_)|(refine Le.cond ?_ ?_)|(refine Le.fl (fun _=>?_) fun _=>?_)|(refine Le.sum (fun _=>?_) fun _=>?_)|(refine Le.forL (fun _ _ _=>?_) _ _ _)|(refine Le.foldL (fun _ _ _=>?_) _ _ _)|(refine Le.loop fun _=>?_)|(refine Le.perm fun _=>?_)|(refine Le.amb ?_)|exact Le.sort|exact C_slices_insertionSortCmpFunc_api_Command_of_console_Make_4_le|apply C_slices_stableCmpFunc_api_Command_of_console_Make_4_L1_le))
def C_slices_stableCmpFunc_api_Command_of_console_Make_4 (data_:List GCommand) (n_:Int):Option (List GCommand) :=
 (iter (C_slices_stableCmpFunc_api_Command_of_console_Make_4_L1 n_) 100000 (0,20,data_)).bind fun r22=>(C_slices_insertionSortCmpFunc_api_Command_of_console_Make_4 r22.2 r22.1 n_).bind fun y24=>(iter (C_slices_stableCmpFunc_api_Command_of_console_Make_4_L2 n_) 100000 ()).bind fun r27=>some y24
theorem C_slices_stableCmpFunc_api_Command_of_console_Make_4_le {data_:List GCommand} {n_:Int}:Le (C_slices_stableCmpFunc_api_Command_of_console_Make_4 data_ n_) (F_s data_ n_):=by
 unfold C_slices_stableCmpFunc_api_Command_of_console_Make_4 F_s
 (repeat' (with_reducible first|exact Le.refl|assumption|(refine Le.bind ?_ fun _=>?_)|(refine Le.jn ?_ fun _=>?_)|(refine Le.grp fun _=>?_)|(refine Le.chk ?_)|(refine Le.cond ?_ ?_)|(refine Le.fl (fun _=>?_) fun _=>?_)|(refine Le.sum (fun _=>?_) fun _=>?_)|(refine Le.forL (fun _ _ _=>?_) _ _ _)|(refine Le.foldL (fun _ _ _=>?_) _ _ _)|(refine Le.loop fun _=>?_)|(refine Le.perm fun _=>?_)|(refine Le.amb ?_)|exact Le.sort|exact C_slices_insertionSortCmpFunc_api_Command_of_console_Make_4_le|apply C_slices_stableCmpFunc_api_Command_of_console_Make_4_L1_le|apply C_slices_stableCmpFunc_api_Command_of_console_Make_4_L2_le))
def C_slices_SortStableFunc_api_Command_api_Command_of_console_Make_4 (x_:List GCommand):Option (List GCommand) :=
 (C_slices_stableCmpFunc_api_Command_of_console_Make_4 x_ (x_.length:Int)).bind fun y1=>some y1
theorem C_slices_SortStableFunc_api_Command_api_Command_of_console_Make_4_le {x_:List GCommand}:Le (C_slices_SortStableFunc_api_Command_api_Command_of_console_Make_4 x_) (F_7 x_):=by
 unfold C_slices_SortStableFunc_api_Command_api_Command_of_console_Make_4 F_7
 (repeat' (with_reducible first|exact Le.refl|assumption|(refine Le.bind ?_ fun _=>?_)|(refine Le.jn ?_ fun _=>?_)|(refine Le.grp fun _=>?_)|(refine Le.chk ?_)|(refine Le.cond ?_ ?_)|(refine Le.fl (fun _=>?_) fun _=>?_)|(refine Le.sum (fun _=>?_) fun _=>?_)|(refine Le.forL (fun _ _ _=>?_) _ _ _)|(refine Le.foldL (fun _ _ _=>?_) _ _ _)|(refine Le.loop fun _=>?_)|(refine Le.perm fun _=>?_)|(refine Le.amb ?_)|exact Le.sort|exact C_slices_stableCmpFunc_api_Command_of_console_Make_4_le))
def C_console_Make_L1 (y10:(List Int)×(List Str)) (k68:Int) (a69:GCommand) (x67:Int×(List GAccess)×(List Int)×(List GMember)):Option (Int×(List GAccess)×(List Int)×(List GMember)) :=
 (F_21 a69 y10.2 (GDirectory.mk x67.2.2.1 x67.2.2.2) (GEstate.mk x67.1 x67.2.1)).bind fun y73=>some (y73.2.Places,y73.2.Events,y73.1.Kinds,y73.1.Events)
theorem C_console_Make_L1_le  (y10:(List Int)×(List Str)) (k68:Int) (a69:GCommand) (x67:Int×(List GAccess)×(List Int)×(List GMember)):Le (C_console_Make_L1 y10 k68 a69 x67) (F_t y10 k68 a69 x67):=by
 unfold C_console_Make_L1 F_t
 (repeat' (with_reducible first|exact Le.refl|assumption|(refine Le.bind ?_ fun _=>?_)|(refine Le.jn ?_ fun _=>?_)|(refine Le.grp fun _=>?_)|(refine Le.chk ?_)|(refine Le.cond ?_ ?_)|(refine Le.fl (fun _=>?_) fun _=>?_)|(refine Le.sum (fun _=>?_) fun _=>?_)|(refine Le.forL (fun _ _ _=>?_) _ _ _)|(refine Le.foldL (fun _ _ _=>?_) _ _ _)|(refine Le.loop fun _=>?_)|(refine Le.perm fun _=>?_)|(refine Le.amb ?_)|exact Le.sort|exact C_slices_Clone_api_Command_api_Command_le|exact C_slices_SortStableFunc_api_Command_api_Command_of_console_Make_4_le))
def C_console_Make (l_:List GCommand):Option (GDirectory×GEstate×(List Str)×Int) :=
 (F_v l_).bind fun y6=>bif (!decide (y6=0)) then (F_2 y6).bind fun y8=>some (y8.1,y8.2.1,y8.2.2.1,y8.2.2.2) else (F_1x l_).bind fun y10=>(valsF y10.2).bind fun y13=>(F_1y y10.2).bind fun y14=>(compactS y14).bind fun y26=>bif decide ((y26.1:Int)<(y10.2.length:Int)) then (F_2 7).bind fun y28=>some (y28.1,y28.2.1,y28.2.2.1,y28.2.2.2) else (F_20 l_ y10.2).bind fun y30=>bif y30 then (F_2 6).bind fun y32=>some (y32.1,y32.2.1,y32.2.2.1,y32.2.2.2) else bif decide (24<(y10.2.length:Int)) then (F_2 3).bind fun y34=>some (y34.1,y34.2.1,y34.2.2.1,y34.2.2.2) else (C_slices_Clone_api_Command_api_Command l_).bind fun y36=>(C_slices_SortStableFunc_api_Command_api_Command_of_console_Make_4 y36).bind fun y38=>(foldL (C_console_Make_L1 y10) y38 0 (16,[],y10.1,[])).bind fun x74=>(F_5 (GDirectory.mk x74.2.2.1 x74.2.2.2)).bind fun y80=>bif (!decide (y80=0)) then (F_2 y80).bind fun y82=>some (y82.1,y82.2.1,y82.2.2.1,y82.2.2.2) else (F_3 (GEstate.mk x74.1 x74.2.1)).bind fun y88=>bif (!decide (y88=0)) then (F_2 y88).bind fun y90=>some (y90.1,y90.2.1,y90.2.2.1,y90.2.2.2) else some ((GDirectory.mk x74.2.2.1 x74.2.2.2),(GEstate.mk x74.1 x74.2.1),y10.2,0)
theorem C_console_Make_le {l_:List GCommand}:Le (C_console_Make l_) (F_1 l_):=by
 unfold C_console_Make F_1
 (repeat' (with_reducible first|exact Le.refl|assumption|(refine Le.bind ?_ fun _=>?_)|(refine Le.jn ?_ fun _=>?_)|(refine Le.grp fun _=>?_)|(refine Le.chk ?_)|(refine Le.cond ?_ ?_)|(refine Le.fl (fun _=>?_) fun _=>?_)|(refine Le.sum (fun _=>?_) fun _=>?_)|(refine Le.forL (fun _ _ _=>?_) _ _ _)|(refine Le.foldL (fun _ _ _=>?_) _ _ _)|(refine Le.loop fun _=>?_)|(refine Le.perm fun _=>?_)|(refine Le.amb ?_)|exact Le.sort|exact C_slices_Clone_api_Command_api_Command_le|exact C_slices_SortStableFunc_api_Command_api_Command_of_console_Make_4_le|apply C_console_Make_L1_le))
def C_directory_table_upward_L1 (k351:Int) (a352:Bool) (x350:(List Int)×(List Bool)):Option ((List Int)×(List Bool)) :=
 jn (α:=Bool) (bif a352 then chk (inb k351 x350.2.length) (some (!(x350.2.getD ((k351).toNat) default))) else some false) fun j360=>bif j360 then chk (room (x350.1.length+[k351].length) 8) (chk (inb k351 x350.2.length) (some ((x350.1++[k351]),x350.2.set ((k351).toNat) true))) else some (x350.1,x350.2)
theorem C_directory_table_upward_L1_le  (k351:Int) (a352:Bool) (x350:(List Int)×(List Bool)):Le (C_directory_table_upward_L1 k351 a352 x350) (F_1n k351 a352 x350):=by
 unfold C_directory_table_upward_L1 F_1n
 (repeat' (with_reducible first|exact Le.refl|assumption|(refine Le.bind ?_ fun _=>?_)|(refine Le.jn ?_ fun _=>?_)|(refine Le.grp fun _=>?_)|(refine Le.chk ?_)|(refine Le.cond ?_ ?_)|(refine Le.fl (fun _=>?_) fun _=>?_)|(refine Le.sum (fun _=>?_) fun _=>?_)|(refine Le.forL (fun _ _ _=>?_) _ _ _)|(refine Le.foldL (fun _ _ _=>?_) _ _ _)|(refine Le.loop fun _=>?_)|(refine Le.perm fun _=>?_)|(refine Le.amb ?_)|exact Le.sort))
def C_directory_table_upward_L2 (x_:List (List Bool)) (x257:(List Int)×(List Bool)):Option (Fl ((List Int)×(List Bool)) (List Bool)) :=
 bif decide (0<(x257.1.length:Int)) then chk (inb 0 x257.1.length) (chk (inb (x257.1.getD 0 default) x_.length) ((foldL C_directory_table_upward_L1 (x_.getD (x257.1.getD 0 default).toNat default) 0 (x257.1,x257.2)).bind fun x361=>chk (inc 1 (x361.1.length:Int) x361.1.length) (some (.nx ((x361.1.drop 1).take (x361.1.length - 1),x361.2))))) else some (.ex x257.2)
theorem C_directory_table_upward_L2_le  (x_:List (List Bool)) (x257:(List Int)×(List Bool)):Le (C_directory_table_upward_L2 x_ x257) (F_28 x_ x257):=by
 unfold C_directory_table_upward_L2 F_28
 (repeat' (with_reducible first|exact Le.refl|assumption|(refine Le.bind ?_ fun _=>?_)|(refine Le.jn ?_ fun _=>?_)|(refine Le.grp fun _=>?_)|(refine Le.chk ?_)|(refine Le.cond ?_ ?_)|(refine Le.fl (fun _=>?_) fun _=>?_)|(refine Le.sum (fun _=>?_) fun _=>?_)|(refine Le.forL (fun _ _ _=>?_) _ _ _)|(refine Le.foldL (fun _ _ _=>?_) _ _ _)|(refine Le.loop fun _=>?_)|(refine Le.perm fun _=>?_)|(refine Le.amb ?_)|exact Le.sort|apply C_directory_table_upward_L1_le))
def C_directory_table_upward (x_:List (List Bool)) (p_:Int):Option (List Bool) :=
 chk (roomI (x_.length:Int) (x_.length:Int) 1) (chk (inb p_ (List.replicate ((x_.length:Int)).toNat false).length) ((iter (C_directory_table_upward_L2 x_) 100000 ([p_],(List.replicate ((x_.length:Int)).toNat false).set ((p_).toNat) true)).bind fun r362=>some r362))
theorem C_directory_table_upward_le {x_:List (List Bool)} {p_:Int}:Le (C_directory_table_upward x_ p_) (F_10 x_ p_):=by
 unfold C_directory_table_upward F_10
 (repeat' (with_reducible first|exact Le.refl|assumption|(refine Le.bind ?_ fun _=>?_)|(refine Le.jn ?_ fun _=>?_)|(refine Le.grp fun _=>?_)|(refine Le.chk ?_)|(refine Le.cond ?_ ?_)|(refine Le.fl (fun _=>?_) fun _=>?_)|(refine Le.sum (fun _=>?_) fun _=>?_)|(refine Le.forL (fun _ _ _=>?_) _ _ _)|(refine Le.foldL (fun _ _ _=>?_) _ _ _)|(refine Le.loop fun _=>?_)|(refine Le.perm fun _=>?_)|(refine Le.amb ?_)|exact Le.sort|apply C_directory_table_upward_L1_le|apply C_directory_table_upward_L2_le))
def C_directory_Upward (d_:GDirectory) (p_:Int) (t_:Int):Option (List Int) :=
 (F_1m d_ p_).bind fun y4=>bif (!y4) then some [] else (atF d_.Kinds.length (d_.Events.map fun e=>(e.Time,e.Kind,e.Principal,e.Group)) t_).bind fun y8=>(C_directory_table_upward y8 p_).bind fun y9=>(F_1o y9).bind fun y10=>some y10
theorem C_directory_Upward_le {d_:GDirectory} {p_:Int} {t_:Int}:Le (C_directory_Upward d_ p_ t_) (F_m d_ p_ t_):=by
 unfold C_directory_Upward F_m
 (repeat' (with_reducible first|exact Le.refl|assumption|(refine Le.bind ?_ fun _=>?_)|(refine Le.jn ?_ fun _=>?_)|(refine Le.grp fun _=>?_)|(refine Le.chk ?_)|(refine Le.cond ?_ ?_)|(refine Le.fl (fun _=>?_) fun _=>?_)|(refine Le.sum (fun _=>?_) fun _=>?_)|(refine Le.forL (fun _ _ _=>?_) _ _ _)|(refine Le.foldL (fun _ _ _=>?_) _ _ _)|(refine Le.loop fun _=>?_)|(refine Le.perm fun _=>?_)|(refine Le.amb ?_)|exact Le.sort|exact C_directory_table_upward_le))
def C_access_Granted_L1 (k21:Int) (a19:Int×Int) (x18:List Int):Option (List Int) :=
 chk (room (x18.length+[a19.1].length) 8) (some (x18++[a19.1]))
theorem C_access_Granted_L1_le  (k21:Int) (a19:Int×Int) (x18:List Int):Le (C_access_Granted_L1 k21 a19 x18) (F_1q k21 a19 x18):=by
 unfold C_access_Granted_L1 F_1q
 (repeat' (with_reducible first|exact Le.refl|assumption|(refine Le.bind ?_ fun _=>?_)|(refine Le.jn ?_ fun _=>?_)|(refine Le.grp fun _=>?_)|(refine Le.chk ?_)|(refine Le.cond ?_ ?_)|(refine Le.fl (fun _=>?_) fun _=>?_)|(refine Le.sum (fun _=>?_) fun _=>?_)|(refine Le.forL (fun _ _ _=>?_) _ _ _)|(refine Le.foldL (fun _ _ _=>?_) _ _ _)|(refine Le.loop fun _=>?_)|(refine Le.perm fun _=>?_)|(refine Le.amb ?_)|exact Le.sort))
def C_access_Granted (a_:GEstate) (place_:Int) (t_:Int):Option (List Int) :=
 (F_b a_ place_).bind fun y4=>bif (!y4) then some [] else (F_1p a_ place_ t_).bind fun y15=>permC (fun l20=>(foldL C_access_Granted_L1 l20 0 []).bind fun x22=>(sortIC x22).bind fun y24=>some y24) y15
theorem C_access_Granted_le {a_:GEstate} {place_:Int} {t_:Int}:Le (C_access_Granted a_ place_ t_) (F_n a_ place_ t_):=by
 unfold C_access_Granted F_n
 (repeat' (with_reducible first|exact Le.refl|assumption|(refine Le.bind ?_ fun _=>?_)|(refine Le.jn ?_ fun _=>?_)|(refine Le.grp fun _=>?_)|(refine Le.chk ?_)|(refine Le.cond ?_ ?_)|(refine Le.fl (fun _=>?_) fun _=>?_)|(refine Le.sum (fun _=>?_) fun _=>?_)|(refine Le.forL (fun _ _ _=>?_) _ _ _)|(refine Le.foldL (fun _ _ _=>?_) _ _ _)|(refine Le.loop fun _=>?_)|(refine Le.perm fun _=>?_)|(refine Le.amb ?_)|exact Le.sort|apply C_access_Granted_L1_le))
def C_readers_grant_L1 (y2:List Int) (k37:Int) (a38:Int) (x36:Unit):Option (Fl Unit (Int×Bool)) :=
 (F_29 y2 a38).bind fun y46=>bif y46 then some (.ex (a38,true)) else some (.nx ())
theorem C_readers_grant_L1_le  (y2:List Int) (k37:Int) (a38:Int) (x36:Unit):Le (C_readers_grant_L1 y2 k37 a38 x36) (F_1r y2 k37 a38 x36):=by
 unfold C_readers_grant_L1 F_1r
 (repeat' (with_reducible first|exact Le.refl|assumption|(refine Le.bind ?_ fun _=>?_)|(refine Le.jn ?_ fun _=>?_)|(refine Le.grp fun _=>?_)|(refine Le.chk ?_)|(refine Le.cond ?_ ?_)|(refine Le.fl (fun _=>?_) fun _=>?_)|(refine Le.sum (fun _=>?_) fun _=>?_)|(refine Le.forL (fun _ _ _=>?_) _ _ _)|(refine Le.foldL (fun _ _ _=>?_) _ _ _)|(refine Le.loop fun _=>?_)|(refine Le.perm fun _=>?_)|(refine Le.amb ?_)|exact Le.sort|exact C_directory_Upward_le|exact C_access_Granted_le))
def C_readers_grant (d_:GDirectory) (a_:GEstate) (p_:Int) (place_:Int) (t_:Int):Option (Int×Bool) :=
 (C_directory_Upward d_ p_ t_).bind fun y2=>(C_access_Granted a_ place_ t_).bind fun y25=>(forL (C_readers_grant_L1 y2) y25 0 ()).bind fun o=>o.elim (fun x47=>some (0,false)) (fun r48=>some r48)
theorem C_readers_grant_le {d_:GDirectory} {a_:GEstate} {p_:Int} {place_:Int} {t_:Int}:Le (C_readers_grant d_ a_ p_ place_ t_) (F_11 d_ a_ p_ place_ t_):=by
 unfold C_readers_grant F_11
 (repeat' (with_reducible first|exact Le.refl|assumption|(refine Le.bind ?_ fun _=>?_)|(refine Le.jn ?_ fun _=>?_)|(refine Le.grp fun _=>?_)|(refine Le.chk ?_)|(refine Le.cond ?_ ?_)|(refine Le.fl (fun _=>?_) fun _=>?_)|(refine Le.sum (fun _=>?_) fun _=>?_)|(refine Le.forL (fun _ _ _=>?_) _ _ _)|(refine Le.foldL (fun _ _ _=>?_) _ _ _)|(refine Le.loop fun _=>?_)|(refine Le.perm fun _=>?_)|(refine Le.amb ?_)|exact Le.sort|exact C_directory_Upward_le|exact C_access_Granted_le|apply C_readers_grant_L1_le))
def C_readers_May (d_:GDirectory) (a_:GEstate) (p_:Int) (place_:Int) (t_:Int):Option Bool :=
 (F_1l d_ a_ p_ place_).bind fun y4=>bif (!y4) then some false else (F_c a_ place_ t_).bind fun y6=>(C_readers_grant d_ a_ p_ place_ t_).bind fun y8=>grp ((y6.2||y8.2)) fun b10=>some b10
theorem C_readers_May_le {d_:GDirectory} {a_:GEstate} {p_:Int} {place_:Int} {t_:Int}:Le (C_readers_May d_ a_ p_ place_ t_) (F_o d_ a_ p_ place_ t_):=by
 unfold C_readers_May F_o
 (repeat' (with_reducible first|exact Le.refl|assumption|(refine Le.bind ?_ fun _=>?_)|(refine Le.jn ?_ fun _=>?_)|(refine Le.grp fun _=>?_)|(refine Le.chk ?_)|(refine Le.cond ?_ ?_)|(refine Le.fl (fun _=>?_) fun _=>?_)|(refine Le.sum (fun _=>?_) fun _=>?_)|(refine Le.forL (fun _ _ _=>?_) _ _ _)|(refine Le.foldL (fun _ _ _=>?_) _ _ _)|(refine Le.loop fun _=>?_)|(refine Le.perm fun _=>?_)|(refine Le.amb ?_)|exact Le.sort|exact C_readers_grant_le))
def C_readers_Who_L1 (d_:GDirectory) (a_:GEstate) (place_:Int) (t_:Int) (k54:Int) (a55:Int) (x53:Bool×(List Int)):Option (Bool×(List Int)) :=
 (C_readers_May d_ a_ k54 place_ t_).bind fun y63=>bif y63 then chk (room (x53.2.length+[k54].length) 8) (some (x53.1,(x53.2++[k54]))) else some (x53.1,x53.2)
theorem C_readers_Who_L1_le  (d_:GDirectory) (a_:GEstate) (place_:Int) (t_:Int) (k54:Int) (a55:Int) (x53:Bool×(List Int)):Le (C_readers_Who_L1 d_ a_ place_ t_ k54 a55 x53) (F_1s d_ a_ place_ t_ k54 a55 x53):=by
 unfold C_readers_Who_L1 F_1s
 (repeat' (with_reducible first|exact Le.refl|assumption|(refine Le.bind ?_ fun _=>?_)|(refine Le.jn ?_ fun _=>?_)|(refine Le.grp fun _=>?_)|(refine Le.chk ?_)|(refine Le.cond ?_ ?_)|(refine Le.fl (fun _=>?_) fun _=>?_)|(refine Le.sum (fun _=>?_) fun _=>?_)|(refine Le.forL (fun _ _ _=>?_) _ _ _)|(refine Le.foldL (fun _ _ _=>?_) _ _ _)|(refine Le.loop fun _=>?_)|(refine Le.perm fun _=>?_)|(refine Le.amb ?_)|exact Le.sort|exact C_readers_May_le))
def C_readers_Who (d_:GDirectory) (a_:GEstate) (place_:Int) (t_:Int):Option (GAudience×Int) :=
 (F_e d_ a_).bind fun y4=>bif (!decide (y4=0)) then some ((GAudience.mk false []),y4) else (F_4 a_ place_).bind fun y8=>bif (!y8) then some ((GAudience.mk false []),6) else (F_c a_ place_ t_).bind fun y10=>(foldL (C_readers_Who_L1 d_ a_ place_ t_) d_.Kinds 0 (y10.2,[])).bind fun x64=>some ((GAudience.mk x64.1 x64.2),0)
theorem C_readers_Who_le {d_:GDirectory} {a_:GEstate} {place_:Int} {t_:Int}:Le (C_readers_Who d_ a_ place_ t_) (F_12 d_ a_ place_ t_):=by
 unfold C_readers_Who F_12
 (repeat' (with_reducible first|exact Le.refl|assumption|(refine Le.bind ?_ fun _=>?_)|(refine Le.jn ?_ fun _=>?_)|(refine Le.grp fun _=>?_)|(refine Le.chk ?_)|(refine Le.cond ?_ ?_)|(refine Le.fl (fun _=>?_) fun _=>?_)|(refine Le.sum (fun _=>?_) fun _=>?_)|(refine Le.forL (fun _ _ _=>?_) _ _ _)|(refine Le.foldL (fun _ _ _=>?_) _ _ _)|(refine Le.loop fun _=>?_)|(refine Le.perm fun _=>?_)|(refine Le.amb ?_)|exact Le.sort|exact C_readers_May_le|apply C_readers_Who_L1_le))
def C_console_who_L1 (names_:List Str) (k19:Int) (a20:Int) (x18:Str):Option Str :=
 chk (inb a20 names_.length) (chk (strl ([32].length+(names_.getD (a20).toNat default).length)) (chk (strl (x18.length+(([32]:Str)++(names_.getD (a20).toNat default)).length)) (some (x18++(([32]:Str)++(names_.getD (a20).toNat default))))))
theorem C_console_who_L1_le  (names_:List Str) (k19:Int) (a20:Int) (x18:Str):Le (C_console_who_L1 names_ k19 a20 x18) (F_22 names_ k19 a20 x18):=by
 unfold C_console_who_L1 F_22
 (repeat' (with_reducible first|exact Le.refl|assumption|(refine Le.bind ?_ fun _=>?_)|(refine Le.jn ?_ fun _=>?_)|(refine Le.grp fun _=>?_)|(refine Le.chk ?_)|(refine Le.cond ?_ ?_)|(refine Le.fl (fun _=>?_) fun _=>?_)|(refine Le.sum (fun _=>?_) fun _=>?_)|(refine Le.forL (fun _ _ _=>?_) _ _ _)|(refine Le.foldL (fun _ _ _=>?_) _ _ _)|(refine Le.loop fun _=>?_)|(refine Le.perm fun _=>?_)|(refine Le.amb ?_)|exact Le.sort|exact C_readers_Who_le))
def C_console_who (c_:GCommand) (d_:GDirectory) (a_:GEstate) (names_:List Str):Option Str :=
 (C_readers_Who d_ a_ c_.A c_.Time).bind fun y2=>jn (α:=Str) (bif y2.1.Public then some [112,117,98,108,105,99] else some [105,110,115,105,100,101]) fun j3=>(foldL (C_console_who_L1 names_) y2.1.Principals 0 j3).bind fun x21=>some x21
theorem C_console_who_le {c_:GCommand} {d_:GDirectory} {a_:GEstate} {names_:List Str}:Le (C_console_who c_ d_ a_ names_) (F_1c c_ d_ a_ names_):=by
 unfold C_console_who F_1c
 (repeat' (with_reducible first|exact Le.refl|assumption|(refine Le.bind ?_ fun _=>?_)|(refine Le.jn ?_ fun _=>?_)|(refine Le.grp fun _=>?_)|(refine Le.chk ?_)|(refine Le.cond ?_ ?_)|(refine Le.fl (fun _=>?_) fun _=>?_)|(refine Le.sum (fun _=>?_) fun _=>?_)|(refine Le.forL (fun _ _ _=>?_) _ _ _)|(refine Le.foldL (fun _ _ _=>?_) _ _ _)|(refine Le.loop fun _=>?_)|(refine Le.perm fun _=>?_)|(refine Le.amb ?_)|exact Le.sort|exact C_readers_Who_le|apply C_console_who_L1_le))
def C_exposure_times_L1 (k18:Int) (a19:GMember) (x17:List Int):Option (List Int) :=
 chk (room (x17.length+[a19.Time].length) 8) (some (x17++[a19.Time]))
theorem C_exposure_times_L1_le  (k18:Int) (a19:GMember) (x17:List Int):Le (C_exposure_times_L1 k18 a19 x17) (F_13 k18 a19 x17):=by
 unfold C_exposure_times_L1 F_13
 (repeat' (with_reducible first|exact Le.refl|assumption|(refine Le.bind ?_ fun _=>?_)|(refine Le.jn ?_ fun _=>?_)|(refine Le.grp fun _=>?_)|(refine Le.chk ?_)|(refine Le.cond ?_ ?_)|(refine Le.fl (fun _=>?_) fun _=>?_)|(refine Le.sum (fun _=>?_) fun _=>?_)|(refine Le.forL (fun _ _ _=>?_) _ _ _)|(refine Le.foldL (fun _ _ _=>?_) _ _ _)|(refine Le.loop fun _=>?_)|(refine Le.perm fun _=>?_)|(refine Le.amb ?_)|exact Le.sort))
def C_exposure_times (d_:GDirectory) (a_:GEstate):Option (List Int) :=
 (F_1u a_).bind fun y2=>(foldL C_exposure_times_L1 d_.Events 0 y2).bind fun x20=>(sortIC x20).bind fun y22=>(compactI y22).bind fun y24=>some ((y24.2.drop 0).take y24.1)
theorem C_exposure_times_le {d_:GDirectory} {a_:GEstate}:Le (C_exposure_times d_ a_) (F_14 d_ a_):=by
 unfold C_exposure_times F_14
 (repeat' (with_reducible first|exact Le.refl|assumption|(refine Le.bind ?_ fun _=>?_)|(refine Le.jn ?_ fun _=>?_)|(refine Le.grp fun _=>?_)|(refine Le.chk ?_)|(refine Le.cond ?_ ?_)|(refine Le.fl (fun _=>?_) fun _=>?_)|(refine Le.sum (fun _=>?_) fun _=>?_)|(refine Le.forL (fun _ _ _=>?_) _ _ _)|(refine Le.foldL (fun _ _ _=>?_) _ _ _)|(refine Le.loop fun _=>?_)|(refine Le.perm fun _=>?_)|(refine Le.amb ?_)|exact Le.sort|apply C_exposure_times_L1_le))
def C_exposure_place_L1 (d_:GDirectory) (a_:GEstate) (p_:Int) (t_:Int) (k75:Int) (a76:Int) (x74:Unit):Option (Fl Unit (Int×Bool)) :=
 (F_c a_ a76 t_).bind fun y96=>grp ((decide (p_=(-1))&&y96.2)) fun b99=>bif b99 then some (.ex (a76,true)) else bif (!decide (p_=(-1))) then (C_readers_May d_ a_ p_ a76 t_).bind fun y100=>bif y100 then some (.ex (a76,true)) else some (.nx ()) else some (.nx ())
theorem C_exposure_place_L1_le  (d_:GDirectory) (a_:GEstate) (p_:Int) (t_:Int) (k75:Int) (a76:Int) (x74:Unit):Le (C_exposure_place_L1 d_ a_ p_ t_ k75 a76 x74) (F_1v d_ a_ p_ t_ k75 a76 x74):=by
 unfold C_exposure_place_L1 F_1v
 (repeat' (with_reducible first|exact Le.refl|assumption|(refine Le.bind ?_ fun _=>?_)|(refine Le.jn ?_ fun _=>?_)|(refine Le.grp fun _=>?_)|(refine Le.chk ?_)|(refine Le.cond ?_ ?_)|(refine Le.fl (fun _=>?_) fun _=>?_)|(refine Le.sum (fun _=>?_) fun _=>?_)|(refine Le.forL (fun _ _ _=>?_) _ _ _)|(refine Le.foldL (fun _ _ _=>?_) _ _ _)|(refine Le.loop fun _=>?_)|(refine Le.perm fun _=>?_)|(refine Le.amb ?_)|exact Le.sort|exact C_readers_May_le))
def C_exposure_place (d_:GDirectory) (a_:GEstate) (content_:Int) (p_:Int) (t_:Int):Option (Int×Bool) :=
 (F_p a_ content_ t_).bind fun y47=>(forL (C_exposure_place_L1 d_ a_ p_ t_) y47 0 ()).bind fun o=>o.elim (fun x101=>some (0,false)) (fun r102=>some r102)
theorem C_exposure_place_le {d_:GDirectory} {a_:GEstate} {content_:Int} {p_:Int} {t_:Int}:Le (C_exposure_place d_ a_ content_ p_ t_) (F_17 d_ a_ content_ p_ t_):=by
 unfold C_exposure_place F_17
 (repeat' (with_reducible first|exact Le.refl|assumption|(refine Le.bind ?_ fun _=>?_)|(refine Le.jn ?_ fun _=>?_)|(refine Le.grp fun _=>?_)|(refine Le.chk ?_)|(refine Le.cond ?_ ?_)|(refine Le.fl (fun _=>?_) fun _=>?_)|(refine Le.sum (fun _=>?_) fun _=>?_)|(refine Le.forL (fun _ _ _=>?_) _ _ _)|(refine Le.foldL (fun _ _ _=>?_) _ _ _)|(refine Le.loop fun _=>?_)|(refine Le.perm fun _=>?_)|(refine Le.amb ?_)|exact Le.sort|exact C_readers_May_le|apply C_exposure_place_L1_le))
def C_exposure_since_L1 (d_:GDirectory) (a_:GEstate) (content_:Int) (p_:Int) (k35:Int) (a36:Int) (x34:Unit):Option (Fl Unit (Int×Bool)) :=
 (C_exposure_place d_ a_ content_ p_ a36).bind fun y44=>bif y44.2 then some (.ex (a36,true)) else some (.nx ())
theorem C_exposure_since_L1_le  (d_:GDirectory) (a_:GEstate) (content_:Int) (p_:Int) (k35:Int) (a36:Int) (x34:Unit):Le (C_exposure_since_L1 d_ a_ content_ p_ k35 a36 x34) (F_2d d_ a_ content_ p_ k35 a36 x34):=by
 unfold C_exposure_since_L1 F_2d
 (repeat' (with_reducible first|exact Le.refl|assumption|(refine Le.bind ?_ fun _=>?_)|(refine Le.jn ?_ fun _=>?_)|(refine Le.grp fun _=>?_)|(refine Le.chk ?_)|(refine Le.cond ?_ ?_)|(refine Le.fl (fun _=>?_) fun _=>?_)|(refine Le.sum (fun _=>?_) fun _=>?_)|(refine Le.forL (fun _ _ _=>?_) _ _ _)|(refine Le.foldL (fun _ _ _=>?_) _ _ _)|(refine Le.loop fun _=>?_)|(refine Le.perm fun _=>?_)|(refine Le.amb ?_)|exact Le.sort|exact C_exposure_times_le|exact C_exposure_place_le))
def C_exposure_since (d_:GDirectory) (a_:GEstate) (content_:Int) (p_:Int):Option (Int×Bool) :=
 (C_exposure_times d_ a_).bind fun y23=>(forL (C_exposure_since_L1 d_ a_ content_ p_) y23 0 ()).bind fun o=>o.elim (fun x45=>some (0,false)) (fun r46=>some r46)
theorem C_exposure_since_le {d_:GDirectory} {a_:GEstate} {content_:Int} {p_:Int}:Le (C_exposure_since d_ a_ content_ p_) (F_18 d_ a_ content_ p_):=by
 unfold C_exposure_since F_18
 (repeat' (with_reducible first|exact Le.refl|assumption|(refine Le.bind ?_ fun _=>?_)|(refine Le.jn ?_ fun _=>?_)|(refine Le.grp fun _=>?_)|(refine Le.chk ?_)|(refine Le.cond ?_ ?_)|(refine Le.fl (fun _=>?_) fun _=>?_)|(refine Le.sum (fun _=>?_) fun _=>?_)|(refine Le.forL (fun _ _ _=>?_) _ _ _)|(refine Le.foldL (fun _ _ _=>?_) _ _ _)|(refine Le.loop fun _=>?_)|(refine Le.perm fun _=>?_)|(refine Le.amb ?_)|exact Le.sort|exact C_exposure_times_le|exact C_exposure_place_le|apply C_exposure_since_L1_le))
def C_exposure_Since (d_:GDirectory) (a_:GEstate) (content_:Int) (p_:Int):Option (Int×Bool) :=
 (F_1t d_ a_ content_).bind fun y4=>bif (!decide (y4=0)) then some (0,false) else (C_exposure_since d_ a_ content_ p_).bind fun y6=>some (y6.1,y6.2)
theorem C_exposure_Since_le {d_:GDirectory} {a_:GEstate} {content_:Int} {p_:Int}:Le (C_exposure_Since d_ a_ content_ p_) (F_q d_ a_ content_ p_):=by
 unfold C_exposure_Since F_q
 (repeat' (with_reducible first|exact Le.refl|assumption|(refine Le.bind ?_ fun _=>?_)|(refine Le.jn ?_ fun _=>?_)|(refine Le.grp fun _=>?_)|(refine Le.chk ?_)|(refine Le.cond ?_ ?_)|(refine Le.fl (fun _=>?_) fun _=>?_)|(refine Le.sum (fun _=>?_) fun _=>?_)|(refine Le.forL (fun _ _ _=>?_) _ _ _)|(refine Le.foldL (fun _ _ _=>?_) _ _ _)|(refine Le.loop fun _=>?_)|(refine Le.perm fun _=>?_)|(refine Le.amb ?_)|exact Le.sort|exact C_exposure_since_le))
def C_console_Run_L1 (y2:GDirectory×GEstate×(List Str)×Int) (k144:Int) (a145:GCommand) (x143:List UInt8):Option (List UInt8) :=
 bif decide (a145.Kind=10) then (C_console_who a145 y2.1 y2.2.1 y2.2.2.1).bind fun y173=>chk (strl (y173.length+[10].length)) ((bws x143 (y173++[10])).bind fun y174=>some y174) else bif decide (a145.Kind=11) then jn (α:=Str) ((F_d y2.2.2.1 a145.Name).bind fun y183=>(C_exposure_Since y2.1 y2.2.1 a145.A y183).bind fun y184=>bif y184.2 then (itoaI y184.1).bind fun y185=>some y185 else some [110,101,118,101,114]) fun j180=>chk (strl (j180.length+[10].length)) ((bws x143 (j180++[10])).bind fun y186=>some y186) else some x143
theorem C_console_Run_L1_le  (y2:GDirectory×GEstate×(List Str)×Int) (k144:Int) (a145:GCommand) (x143:List UInt8):Le (C_console_Run_L1 y2 k144 a145 x143) (F_g y2 k144 a145 x143):=by
 unfold C_console_Run_L1 F_g
 (repeat' (with_reducible first|exact Le.refl|assumption|(refine Le.bind ?_ fun _=>?_)|(refine Le.jn ?_ fun _=>?_)|(refine Le.grp fun _=>?_)|(refine Le.chk ?_)|(refine Le.cond ?_ ?_)|(refine Le.fl (fun _=>?_) fun _=>?_)|(refine Le.sum (fun _=>?_) fun _=>?_)|(refine Le.forL (fun _ _ _=>?_) _ _ _)|(refine Le.foldL (fun _ _ _=>?_) _ _ _)|(refine Le.loop fun _=>?_)|(refine Le.perm fun _=>?_)|(refine Le.amb ?_)|exact Le.sort|exact C_console_Make_le|exact C_console_who_le|exact C_exposure_Since_le))
def C_console_Run (l_:List GCommand):Option (Str×Int) :=
 (C_console_Make l_).bind fun y2=>bif (!decide (y2.2.2.2=0)) then some ([],y2.2.2.2) else (foldL (C_console_Run_L1 y2) l_ 0 ([]:Str)).bind fun x187=>(bstr x187).bind fun y189=>some (y189,0)
theorem C_console_Run_le {l_:List GCommand}:Le (C_console_Run l_) (F_h l_):=by
 unfold C_console_Run F_h
 (repeat' (with_reducible first|exact Le.refl|assumption|(refine Le.bind ?_ fun _=>?_)|(refine Le.jn ?_ fun _=>?_)|(refine Le.grp fun _=>?_)|(refine Le.chk ?_)|(refine Le.cond ?_ ?_)|(refine Le.fl (fun _=>?_) fun _=>?_)|(refine Le.sum (fun _=>?_) fun _=>?_)|(refine Le.forL (fun _ _ _=>?_) _ _ _)|(refine Le.foldL (fun _ _ _=>?_) _ _ _)|(refine Le.loop fun _=>?_)|(refine Le.perm fun _=>?_)|(refine Le.amb ?_)|exact Le.sort|exact C_console_Make_le|exact C_console_who_le|exact C_exposure_Since_le|apply C_console_Run_L1_le))
def C_law44_awake:Option Bool :=
 (F_2o [112,101,114,115,111,110,32,97,110,110,10,97,108,108,111,119,32,51,32,97,110,110,32,48,10,112,117,116,32,53,32,55,32,48,10,115,105,110,99,101,32,55,32,97,110,110,10,119,104,111,32,52,32,48,10]).bind fun y2=>(C_console_Run y2.1).bind fun y4=>grp ((decide (y2.2.2=0)&&decide ((y2.1.length:Int)=5))) fun b8=>grp ((b8&&decide (y4.2=0))) fun b9=>grp ((b9&&decide (y4.1=[53,10,105,110,115,105,100,101,32,97,110,110,10]))) fun b10=>some b10
theorem C_law44_awake_le:Le (C_law44_awake ) (F_1d ):=by
 unfold C_law44_awake F_1d
 (repeat' (with_reducible first|exact Le.refl|assumption|(refine Le.bind ?_ fun _=>?_)|(refine Le.jn ?_ fun _=>?_)|(refine Le.grp fun _=>?_)|(refine Le.chk ?_)|(refine Le.cond ?_ ?_)|(refine Le.fl (fun _=>?_) fun _=>?_)|(refine Le.sum (fun _=>?_) fun _=>?_)|(refine Le.forL (fun _ _ _=>?_) _ _ _)|(refine Le.foldL (fun _ _ _=>?_) _ _ _)|(refine Le.loop fun _=>?_)|(refine Le.perm fun _=>?_)|(refine Le.amb ?_)|exact Le.sort|exact C_console_Run_le))
theorem awake44:F_1d=some true:=C_law44_awake_le _ (by kernel_rfl)
end Go.Ab
