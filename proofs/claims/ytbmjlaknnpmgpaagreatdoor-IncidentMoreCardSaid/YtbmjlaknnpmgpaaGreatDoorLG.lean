/- What the functions of this seat that lie on the laws' road compute (part LG), each for every input. By AI agents. -/
import Derived.Test.YtbmjlaknnpmgpaaGreatDoorLT
import Derived.Test.YtbmjlaknnpmgpaaGreatDoorLD
set_option linter.all false
set_option linter.all false
set_option maxRecDepth 20000
set_option maxHeartbeats 2000000
namespace Go.Ab
open Go.Proofs
def F_11 (c_:GConsumer):Option Bool := grp ((decide (c_.Pool<0)||decide (7<c_.Pool))) fun b2=>some b2
@[irreducible] def mg_ak:List MOp:=[fa_ 6 7 0 1,fL 6 8 7,gF 6 9 (.bin false .gtr (.t 8) (cI 7)),pO 6 9 10]
def mc_11:MC := (sR [bx 0 1,mF 2] (.seq (.regI [.op (oF 0 1 3),.op (oL 3 4),.op (bC .lss 4 0 5),.op (oV 5 6),.grp mg_ak,.op (oV 10 2)]) .ret))
instance:GV mg_ak 10 [7,8,9]:=⟨⟩
instance Wq_11 {c_:GConsumer}:WI (F_11 c_) Tryz.prog 178 [GConsumer.v c_] [] (fun z=>.bool z) (fun z=>[]):=⟨fun Q Q' h hQ=>by
 refine acallM mc_11 [] [] [.t 2] Tryz.func178 fun M=>?_
 unfold F_11 at h
 unfold mc_11
 exact tX⟩
def F_6x (k31:Int) (a32:GConsumer) (x30:Unit):Option (Fl Unit Int) := (F_11 a32).bind fun y40=>bif y40 then some (.ex k31) else some (.nx ())
def F_4m (s_:List GConsumer):Option Int := (forL F_6x s_ 0 ()).bind fun o=>o.elim (fun x41=>some (-1)) (fun r42=>some r42)
@[irreducible] def mc_6x:MC := (sR [bT .lss 8 7 9] (.seq (.cond (.t 9) .skip (.exit 0)) (.seq (.block 1 (sR [oV 8 10,oV 10 5] (sR [oV 1 11,oV 0 12,oV 5 13,iA 3 12 13 14,lN 3 14 15,mo (.call (.t 11) [(.t 15)] [] []) 16] (.cond (.t 16) (sR [oV 5 17,oV 17 4] .ret) .skip)))) (.reg [aI 8 1 18,oV 18 8]))))
def mc_4m:MC := (sR [oC 0 4] (.seq (sR [oV 0 6,lE 6 7,oC 0 8] (.block 0 (.loop mc_6x))) (sR [oC (-1) 4] .ret)))
attribute [go_sem] F_6x
instance:LI mc_6x 8 7 [0,1,7] [] (fun y:Unit=>[]) (fun y=>[]) []:=⟨⟩
instance Wq_4m {s_:List GConsumer}:WI (F_4m s_) Tryz.prog 218 [.sl (s_.map GConsumer.v),.fn (.func 178) []] [] (fun z=>.int .i64 z) (fun z=>[]):=⟨fun Q Q' h hQ=>by
 refine acallM mc_4m [] [] [.t 4] Tryz.func218 fun M=>?_
 unfold F_4m at h
 unfold mc_4m
 exact tX⟩
def F_3o (s_:List GConsumer):Option Bool := (F_4m s_).bind fun y2=>some (decide (0≤y2))
def mc_3o:MC := (sR [mF 4] (sR [oV 0 5,oV 1 6,k2 218 5 6 7,bC .geq 7 0 8,oV 8 4] .ret))
instance Wq_3o {s_:List GConsumer}:WI (F_3o s_) Tryz.prog 179 [.sl (s_.map GConsumer.v),.fn (.func 178) []] [] (fun z=>.bool z) (fun z=>[]):=⟨fun Q Q' h hQ=>by
 refine acallM mc_3o [] [] [.t 4] Tryz.func179 fun M=>?_
 unfold F_3o at h
 unfold mc_3o
 exact tX⟩
def F_3p (f_:GFleet):Option Int := grp (((!decide (f_.Slots=1))&&(!decide (f_.Slots=2)))) fun b13=>grp ((b13||decide ((f_.Consumers.length:Int)<1))) fun b14=>grp ((b14||decide (8<(f_.Consumers.length:Int)))) fun b15=>bif b15 then some 36 else (F_3o f_.Consumers).bind fun y16=>bif y16 then some 36 else some 0
@[irreducible] def mg_11:List MOp:=[ta_ 7 8 0 1,tL 7 9 8,gT 7 10 (.bin false .neq (.t 9) (cI 2)),pA 7 10 11]
@[irreducible] def mg_al:List MOp:=[fa_ 12 13 1 1,fL 12 14 13,gF 12 15 (.len false (.t 14)),gF 12 16 (.bin false .lss (.t 15) (cI 1)),pO 12 16 17]
@[irreducible] def mg_am:List MOp:=[fa_ 18 19 1 1,fL 18 20 19,gF 18 21 (.len false (.t 20)),gF 18 22 (.bin false .gtr (.t 21) (cI 8)),pO 18 22 23]
def mc_3p:MC := (sR [bx 0 1,oC 0 2] (sR [mo (.mv (.f 178)) 3] (.seq (.seq (.regI [.op (oF 0 1 4),.op (oL 4 5),.op (bC .neq 5 1 6),.op (oV 6 7),.grp mg_11,.op (oV 11 12),.grp mg_al,.op (oV 17 18),.grp mg_am,.op (oV 23 24),.op (fa_ 24 25 1 1),.op (fL 24 26 25),.op (fV 24 27 3),.op (gF 24 28 (.call (.f 179) [(.t 26),(.t 27)] [] [])),.op (pO 24 28 29)]) (.cond (.t 29) (sR [oC 36 2] .ret) .skip)) (sR [oC 0 2] .ret))))
instance:GV mg_am 23 [19,20,21,22]:=⟨⟩
instance:GV mg_al 17 [13,14,15,16]:=⟨⟩
instance:GV mg_11 11 [8,9,10]:=⟨⟩
instance Wq_3p {f_:GFleet}:WI (F_3p f_) Tryz.prog 116 [GFleet.v f_] [] (fun z=>.int .i64 z) (fun z=>[]):=⟨fun Q Q' h hQ=>by
 refine acallM mc_3p [] [] [.t 2] Tryz.func116 fun M=>?_
 unfold F_3p at h
 unfold mc_3p
 exact tX⟩
def F_p (x_:Int) (known_:Int) (two_:Bool):Option Bool := grp ((decide (0<x_)&&decide (x_≤3))) fun b4=>jn (α:=Bool) (bif b4 then some (decide ((bits .andNot .i64 x_ known_)=0)) else some false) fun j5=>grp ((j5&&(two_||(!decide (x_=3))))) fun b6=>some b6
@[irreducible] def mg_an:List MOp:=[tV 9 10 0,gT 9 11 (.bin false .leq (.t 10) (cI 3)),pA 9 11 12]
@[irreducible] def mg_ao:List MOp:=[tV 13 14 0,tV 13 15 1,gT 13 16 (.bin false .andNot (.t 14) (.t 15)),gT 13 17 (.bin false .eql (.t 16) (cI 0)),pA 13 17 18]
@[irreducible] def mg_ap:List MOp:=[tV 19 20 2,tV 19 21 20,fV 21 22 0,gF 21 23 (.bin false .neq (.t 22) (cI 3)),gT 19 24 (.pick (.t 21) (.c (.bool true)) (.t 23)),pA 19 24 25]
def mc_p:MC := (sR [mF 6] (.seq (.regI [.op (oV 0 7),.op (bC .gtr 7 0 8),.op (oV 8 9),.grp mg_an,.op (oV 12 13),.grp mg_ao,.op (oV 18 19),.grp mg_ap,.op (oV 25 6)]) .ret))
instance:GV mg_ap 25 [20,21,22,23,24]:=⟨⟩
instance:GI mg_ao [0,2,6] [] (fun y:Bool=>[(18,.bool y)]) (fun y=>[]):=⟨⟩
instance:GV mg_an 12 [10,11]:=⟨⟩
instance Wq_p {x_ known_:Int} {two_:Bool}:WI (F_p x_ known_ two_) Tryz.prog 117 [.int .i64 x_,.int .i64 known_,.bool two_] [] (fun z=>.bool z) (fun z=>[]):=⟨fun Q Q' h hQ=>by
 refine acallM mc_p [] [] [.t 6] Tryz.func117 fun M=>?_
 unfold F_p at h
 unfold mc_p
 exact tX⟩
def F_3q (c_:GConsumer) (u_:GUnit) (known_:Int):Option Bool := (F_p u_.Stored known_ c_.Dual).bind fun y4=>bif (!y4) then some false else bif (!u_.Up) then some (decide (u_.Used=0)) else (F_p u_.Used known_ c_.Dual).bind fun y7=>grp ((y7&&((!c_.Live)||decide (u_.Used=u_.Stored)))) fun b8=>some b8
@[irreducible] def mg_aq:List MOp:=[ta_ 26 27 2 3,tL 26 28 27,gT 26 29 (.not (.t 28)),tV 26 30 29,fa_ 30 31 2 4,fL 30 32 31,fa_ 30 33 1 4,fL 30 34 33,gF 30 35 (.bin false .eql (.t 32) (.t 34)),gT 26 36 (.pick (.t 30) (.c (.bool true)) (.t 35)),pA 26 36 37]
def mc_3q:MC := (sR [bx 0 3,bx 1 4,mF 6] (.seq (sR [oF 1 4 7,oL 7 8,oV 2 9,oF 1 3 10,oL 10 11,k3 117 8 9 11 12,nT 12 13] (.cond (.t 13) (sR [mF 6] .ret) .skip)) (.seq (.seq (.note (.gc [2,3,4,27,28,29,30,31,32,33,34,35,36]) (.reg [oF 0 4 14,oL 14 15,nT 15 16])) (.cond (.t 16) (sR [oF 2 4 17,oL 17 18,bC .eql 18 0 19,oV 19 6] .ret) .skip)) (.seq (.regI [.op (oF 2 4 20),.op (oL 20 21),.op (oV 2 22),.op (oF 1 3 23),.op (oL 23 24),.op (k3 117 21 22 24 25),.op (oV 25 26),.grp mg_aq,.op (oV 37 6)]) .ret))))
instance:GV mg_aq 37 [27,28,29,30,31,32,33,34,35,36]:=⟨⟩
instance Wq_3q {c_:GConsumer} {u_:GUnit} {known_:Int}:WI (F_3q c_ u_ known_) Tryz.prog 118 [GConsumer.v c_,GUnit.v u_,.int .i64 known_] [] (fun z=>.bool z) (fun z=>[]):=⟨fun Q Q' h hQ=>by
 refine acallM mc_3q [] [] [.t 6] Tryz.func118 fun M=>?_
 unfold F_3q at h
 unfold mc_3q
 exact tX⟩
def F_6y (f_:GFleet) (s_:GRotation) (k52:Int) (a53:GUnit) (x51:Unit):Option (Fl Unit Bool) := chk (inb k52 f_.Consumers.length) ((F_3q (f_.Consumers.getD (k52).toNat default) a53 s_.Known).bind fun y61=>bif (!y61) then some (.ex false) else some (.nx ()))
def F_1x (f_:GFleet) (s_:GRotation):Option Bool := jn (α:=Fl Unit Bool) ((F_3p f_).bind fun y17=>grp (((!decide (y17=0))||((!decide (s_.Known=1))&&(!decide (s_.Known=3))))) fun b18=>bif b18 then grp (true) fun b19=>bif b19 then some (.ex false) else some (.nx ()) else (F_p s_.Valid s_.Known (decide (f_.Slots=2))).bind fun y20=>grp (((!y20)||(!decide ((s_.Units.length:Int)=(f_.Consumers.length:Int))))) fun b21=>bif b21 then some (.ex false) else some (.nx ())) fun o=>o.elim (fun j11=>(forL (F_6y f_ s_) s_.Units 0 ()).bind fun o=>o.elim (fun x62=>some true) (fun r63=>some r63)) (fun r64=>some r64)
@[irreducible] def mg_ar:List MOp:=[fa_ 10 11 0 3,fL 10 12 11,gF 10 13 (.bin false .neq (.t 12) (cI 1)),fV 10 14 13,ta_ 14 15 0 3,tL 14 16 15,gT 14 17 (.bin false .neq (.t 16) (cI 3)),gF 10 18 (.pick (.t 14) (.t 17) (.c (.bool false))),pO 10 18 19]
@[irreducible] def mg_7t:List MOp:=[fa_ 31 32 2 3,fL 31 33 32,gF 31 34 (.len false (.t 33)),fa_ 31 35 1 2,fL 31 36 35,gF 31 37 (.len false (.t 36)),gF 31 38 (.bin false .neq (.t 34) (.t 37)),pO 31 38 39]
@[irreducible] def mc_6y:MC := (sR [bT .lss 43 42 44] (.seq (.cond (.t 44) .skip (.exit 0)) (.seq (.block 1 (sR [oV 43 45,iA 3 41 43 46,lN 3 46 47,mo (.alloc [(.bool false),(.int .i64 0),(.int .i64 0)]) 6,oV 45 5,⟨.st 3 (.t 6) (.t 47),none,none⟩] (.seq (.regD [oF 1 2 48,oL 48 49,oV 5 50,iA 3 49 50 51,lN 3 51 52,lN 3 6 53,oF 0 3 54,oL 54 55,k3 118 52 53 55 56,nT 56 57] [[],[0],[],[1,2],[3],[],[],[6],[4,5,7],[8]] [[],[0],[],[0,1,2],[0,1,2,3],[],[],[6],[0,1,2,3,4,5,6,7],[0,1,2,3,4,5,6,7,8]]) (.cond (.t 57) (sR [mF 4] .ret) .skip)))) (.reg [aI 43 1 58,oV 58 43]))))
@[irreducible] def mc_as:MC := (.seq (sR [oF 2 3 40,oL 40 41,lE 41 42,oC 0 43] (.block 0 (.loop mc_6y))) (sR [mT 4] .ret))
def mc_1x:MC := (sR [bx 0 2,bx 1 3,mF 4] (.cut (.seq (.regI [.op (lN 2 2 7),.op (k1 116 7 8),.op (bC .neq 8 0 9),.op (oV 9 10),.grp mg_ar,.op (oV 19 20),.op (fa_ 20 21 1 3),.op (fL 20 22 21),.op (fa_ 20 23 0 3),.op (fL 20 24 23),.op (fa_ 20 25 0 2),.op (fL 20 26 25),.op (gF 20 27 (.bin false .eql (.t 26) (cI 2))),.op (gF 20 28 (.call (.f 117) [(.t 22),(.t 24),(.t 27)] [] [])),.op (gF 20 29 (.not (.t 28))),.op (pO 20 29 30),.op (oV 30 31),.grp mg_7t]) (.cond (.t 39) (sR [mF 4] .ret) .skip)) mc_as))
attribute [go_sem] F_6y
instance:GV mg_7t 39 [32,33,34,35,36,37,38]:=⟨⟩
instance:GV mg_7t 39 [32,33,34,35,36,37,38]:=⟨⟩
instance:GV mg_ar 19 [11,12,13,14,15,16,17,18]:=⟨⟩
instance:LI mc_6y 43 42 [2,3,41,42] [3,2] (fun y:Unit=>[]) (fun y=>[]) []:=⟨⟩
instance:LI mc_as 0 0 [2,3] [3,2] (fun y:Unit=>[]) (fun y=>[]) []:=⟨⟩
instance Wq_1x {f_:GFleet} {s_:GRotation}:WI (F_1x f_ s_) Tryz.prog 70 [GFleet.v f_,GRotation.v s_] [] (fun z=>.bool z) (fun z=>[]):=⟨fun Q Q' h hQ=>by
 refine acallM mc_1x [] [] [.t 4] Tryz.func70 fun M=>?_
 unfold F_1x at h
 unfold mc_1x
 exact tX⟩
def F_12 (n_:Int) (low_:Int) (high_:Int):Option Bool := grp ((decide (low_≤n_)&&decide (n_≤high_))) fun b2=>some b2
@[irreducible] def mg_au:List MOp:=[tV 10 11 0,tV 10 12 2,gT 10 13 (.bin false .leq (.t 11) (.t 12)),pA 10 13 14]
def mc_12:MC := (sR [mF 6] (.seq (.regI [.op (oV 0 7),.op (oV 1 8),.op (bT .geq 7 8 9),.op (oV 9 10),.grp mg_au,.op (oV 14 6)]) .ret))
instance:GV mg_au 14 [11,12,13]:=⟨⟩
instance Wq_12 {n_ low_ high_:Int}:WI (F_12 n_ low_ high_) Tryz.prog 120 [.int .i64 n_,.int .i64 low_,.int .i64 high_] [] (fun z=>.bool z) (fun z=>[]):=⟨fun Q Q' h hQ=>by
 refine acallM mc_12 [] [] [.t 6] Tryz.func120 fun M=>?_
 unfold F_12 at h
 unfold mc_12
 exact tX⟩
def F_4n (bits_:Int):Option Bool := (F_12 bits_ 0 3).bind fun y2=>some (!y2)
def mc_4n:MC := (sR [mF 2] (sR [oV 0 3,mo (.call (.f 120) [(.t 3),(cI 0),(cI 3)] [] []) 4,nT 4 5,oV 5 2] .ret))
instance Wq_4n {bits_:Int}:WI (F_4n bits_) Tryz.prog 121 [.int .i64 bits_] [] (fun z=>.bool z) (fun z=>[]):=⟨fun Q Q' h hQ=>by
 refine acallM mc_4n [] [] [.t 2] Tryz.func121 fun M=>?_
 unfold F_4n at h
 unfold mc_4n
 exact tX⟩
def F_6z (k31:Int) (a32:Int) (x30:Unit):Option (Fl Unit Int) := (F_4n a32).bind fun y40=>bif y40 then some (.ex k31) else some (.nx ())
def F_4o (s_:List Int):Option Int := (forL F_6z s_ 0 ()).bind fun o=>o.elim (fun x41=>some (-1)) (fun r42=>some r42)
@[irreducible] def mc_6z:MC := (sR [bT .lss 8 7 9] (.seq (.cond (.t 9) .skip (.exit 0)) (.seq (.block 1 (sR [oV 8 10,oV 10 5] (sR [oV 1 11,oV 0 12,oV 5 13,iA 1 12 13 14,oL 14 15,mo (.call (.t 11) [(.t 15)] [] []) 16] (.cond (.t 16) (sR [oV 5 17,oV 17 4] .ret) .skip)))) (.reg [aI 8 1 18,oV 18 8]))))
def mc_4o:MC := (sR [oC 0 4] (.seq (sR [oV 0 6,lE 6 7,oC 0 8] (.block 0 (.loop mc_6z))) (sR [oC (-1) 4] .ret)))
attribute [go_sem] F_6z
instance:LI mc_6z 8 7 [0,1,7] [] (fun y:Unit=>[]) (fun y=>[]) []:=⟨⟩
instance Wq_4o {s_:List Int}:WI (F_4o s_) Tryz.prog 175 [.sl (s_.map (V.int .i64)),.fn (.func 121) []] [] (fun z=>.int .i64 z) (fun z=>[]):=⟨fun Q Q' h hQ=>by
 refine acallM mc_4o [] [] [.t 4] Tryz.func175 fun M=>?_
 unfold F_4o at h
 unfold mc_4o
 exact tX⟩
def F_1y (s_:List Int):Option Bool := (F_4o s_).bind fun y2=>some (decide (0≤y2))
def mc_1y:MC := (sR [mF 4] (sR [oV 0 5,oV 1 6,k2 175 5 6 7,bC .geq 7 0 8,oV 8 4] .ret))
instance Wq_1y {s_:List Int}:WI (F_1y s_) Tryz.prog 112 [.sl (s_.map (V.int .i64)),.fn (.func 121) []] [] (fun z=>.bool z) (fun z=>[]):=⟨fun Q Q' h hQ=>by
 refine acallM mc_1y [] [] [.t 4] Tryz.func112 fun M=>?_
 unfold F_1y at h
 unfold mc_1y
 exact tX⟩
def F_3 (g_:Int) (p_:GCluster):Option Bool := chk (in64 ((p_.Sets.length:Int) - 1)) ((F_12 g_ 0 ((p_.Sets.length:Int) - 1)).bind fun y2=>some (!y2))
def mc_3:MC := (sR [mF 3] (sR [oV 0 4,oF 1 1 5,oL 5 6,lE 6 7,sI 7 1 8,mo (.call (.f 120) [(.t 4),(cI 0),(.t 8)] [] []) 9,nT 9 10,oV 10 3] .ret))
instance Wq_3 {g_:Int} {p_:GCluster}:WI (F_3 g_ p_) Tryz.prog 119 [.int .i64 g_,.ptr 1000 0] [(1000,.cells [.bool p_.Fence,.sl (p_.Sets.map (V.int .i64)),.sl (p_.Replicas.map GReplica.v),.sl (p_.Snapshots.map (V.int .i64))])] (fun z=>.bool z) (fun z=>[(1000,.cells [.bool p_.Fence,.sl (p_.Sets.map (V.int .i64)),.sl (p_.Replicas.map GReplica.v),.sl (p_.Snapshots.map (V.int .i64))])]):=⟨fun Q Q' h hQ=>by
 refine acallM mc_3 [] [1000] [.t 3] Tryz.func119 fun M=>?_
 unfold F_3 at h
 unfold mc_3
 exact tX⟩
def F_70 (fc0_:GCluster) (k31:Int) (a32:Int) (x30:Unit):Option (Fl Unit Int) := (F_3 a32 fc0_).bind fun y40=>bif y40 then some (.ex k31) else some (.nx ())
def F_4p (s_:List Int) (fc0_:GCluster):Option Int := (forL (F_70 fc0_) s_ 0 ()).bind fun o=>o.elim (fun x41=>some (-1)) (fun r42=>some r42)
@[irreducible] def mc_70:MC := (sR [bT .lss 8 7 9] (.seq (.cond (.t 9) .skip (.exit 0)) (.seq (.block 1 (sR [oV 8 10,oV 10 5] (sR [oV 1 11,oV 0 12,oV 5 13,iA 1 12 13 14,oL 14 15,mo (.call (.t 11) [(.t 15)] [1000] []) 16] (.cond (.t 16) (sR [oV 5 17,oV 17 4] .ret) .skip)))) (.reg [aI 8 1 18,oV 18 8]))))
def mc_4p:MC := (sR [oC 0 4] (.seq (sR [oV 0 6,lE 6 7,oC 0 8] (.block 0 (.loop mc_70))) (sR [oC (-1) 4] .ret)))
attribute [go_sem] F_70
instance:LI mc_70 8 7 [0,1,7] [1000] (fun y:Unit=>[]) (fun y=>[]) []:=⟨⟩
instance Wq_4p {s_:List Int} {fc0_:GCluster}:WI (F_4p s_ fc0_) Tryz.prog 175 [.sl (s_.map (V.int .i64)),.fn (.func 119) [.ptr 1000 0]] [(1000,.cells [.bool fc0_.Fence,.sl (fc0_.Sets.map (V.int .i64)),.sl (fc0_.Replicas.map GReplica.v),.sl (fc0_.Snapshots.map (V.int .i64))])] (fun z=>.int .i64 z) (fun z=>[(1000,.cells [.bool fc0_.Fence,.sl (fc0_.Sets.map (V.int .i64)),.sl (fc0_.Replicas.map GReplica.v),.sl (fc0_.Snapshots.map (V.int .i64))])]):=⟨fun Q Q' h hQ=>by
 refine acallM mc_4p [] [1000] [.t 4] Tryz.func175 fun M=>?_
 unfold F_4p at h
 unfold mc_4p
 exact tX⟩
def F_13 (s_:List Int) (fc0_:GCluster):Option Bool := (F_4p s_ fc0_).bind fun y2=>some (decide (0≤y2))
def mc_13:MC := (sR [mF 4] (sR [oV 0 5,oV 1 6,mo (.call (.f 175) [(.t 5),(.t 6)] [1000] []) 7,bC .geq 7 0 8,oV 8 4] .ret))
instance Wq_13 {s_:List Int} {fc0_:GCluster}:WI (F_13 s_ fc0_) Tryz.prog 112 [.sl (s_.map (V.int .i64)),.fn (.func 119) [.ptr 1000 0]] [(1000,.cells [.bool fc0_.Fence,.sl (fc0_.Sets.map (V.int .i64)),.sl (fc0_.Replicas.map GReplica.v),.sl (fc0_.Snapshots.map (V.int .i64))])] (fun z=>.bool z) (fun z=>[(1000,.cells [.bool fc0_.Fence,.sl (fc0_.Sets.map (V.int .i64)),.sl (fc0_.Replicas.map GReplica.v),.sl (fc0_.Snapshots.map (V.int .i64))])]):=⟨fun Q Q' h hQ=>by
 refine acallM mc_13 [] [1000] [.t 4] Tryz.func112 fun M=>?_
 unfold F_13 at h
 unfold mc_13
 exact tX⟩
def F_4q (r_:GReplica) (pc0_:GCluster):Option Bool := (F_3 r_.Generation pc0_).bind fun y2=>some y2
def mc_4q:MC := (sR [bx 0 2,mF 3] (sR [oL 1 4,oF 0 2 5,oL 5 6,mo (.call (.t 4) [(.t 6)] [1001] []) 7,oV 7 3] .ret))
instance Wq_4q {r_:GReplica} {pc0_:GCluster}:WI (F_4q r_ pc0_) Tryz.prog 123 [GReplica.v r_,.ptr 1000 0] [(1000,.cells [.fn (.func 119) [.ptr 1001 0]]),(1001,.cells [.bool pc0_.Fence,.sl (pc0_.Sets.map (V.int .i64)),.sl (pc0_.Replicas.map GReplica.v),.sl (pc0_.Snapshots.map (V.int .i64))])] (fun z=>.bool z) (fun z=>[(1000,.cells [.fn (.func 119) [.ptr 1001 0]]),(1001,.cells [.bool pc0_.Fence,.sl (pc0_.Sets.map (V.int .i64)),.sl (pc0_.Replicas.map GReplica.v),.sl (pc0_.Snapshots.map (V.int .i64))])]):=⟨fun Q Q' h hQ=>by
 refine acallM mc_4q [] [1000,1001] [.t 3] Tryz.func123 fun M=>?_
 unfold F_4q at h
 unfold mc_4q
 replace h:=tY h
 refine tB ?_
 repeat' (first
 | (exact tZ)
 | ((first|refine oblg h ?_|refine roomG h ?_|refine inbG h ?_|refine incG h ?_|refine divG h ?_|refine appG h ?_|refine appC h ?_|refine fork h ?_ ?_|refine forkS h ?_ ?_)<;>clear h<;>intro hc h)
 | (obtain ⟨y,hy,h⟩:=h;have hw:=acall_swe 1000 1001 (Wq_3.c.w hy);replace hw:=tY hw;(first|refine M.sC hw ?_|refine M.sD hw ?_);clear hw hy;refine tB ?_)
 | (refine tE ?_;(first|rw [M.lok_compU]|rw [M.lokD_compU]);refine tB ?_)
 | (refine tA ?_)
 | fail)⟩
def F_71 (fc0c0_:GCluster) (k31:Int) (a32:GReplica) (x30:Unit):Option (Fl Unit Int) := (F_4q a32 fc0c0_).bind fun y40=>bif y40 then some (.ex k31) else some (.nx ())
def F_4r (s_:List GReplica) (fc0c0_:GCluster):Option Int := (forL (F_71 fc0c0_) s_ 0 ()).bind fun o=>o.elim (fun x41=>some (-1)) (fun r42=>some r42)
@[irreducible] def mc_71:MC := (sR [bT .lss 8 7 9] (.seq (.cond (.t 9) .skip (.exit 0)) (.seq (.block 1 (sR [oV 8 10,oV 10 5] (sR [oV 1 11,oV 0 12,oV 5 13,iA 2 12 13 14,lN 2 14 15,mo (.call (.t 11) [(.t 15)] [1000,1001] []) 16] (.cond (.t 16) (sR [oV 5 17,oV 17 4] .ret) .skip)))) (.reg [aI 8 1 18,oV 18 8]))))
def mc_4r:MC := (sR [oC 0 4] (.seq (sR [oV 0 6,lE 6 7,oC 0 8] (.block 0 (.loop mc_71))) (sR [oC (-1) 4] .ret)))
attribute [go_sem] F_71
instance:LI mc_71 8 7 [0,1,7] [1000,1001] (fun y:Unit=>[]) (fun y=>[]) []:=⟨⟩
instance Wq_4r {s_:List GReplica} {fc0c0_:GCluster}:WI (F_4r s_ fc0c0_) Tryz.prog 180 [.sl (s_.map GReplica.v),.fn (.func 123) [.ptr 1000 0]] [(1000,.cells [.fn (.func 119) [.ptr 1001 0]]),(1001,.cells [.bool fc0c0_.Fence,.sl (fc0c0_.Sets.map (V.int .i64)),.sl (fc0c0_.Replicas.map GReplica.v),.sl (fc0c0_.Snapshots.map (V.int .i64))])] (fun z=>.int .i64 z) (fun z=>[(1000,.cells [.fn (.func 119) [.ptr 1001 0]]),(1001,.cells [.bool fc0c0_.Fence,.sl (fc0c0_.Sets.map (V.int .i64)),.sl (fc0c0_.Replicas.map GReplica.v),.sl (fc0c0_.Snapshots.map (V.int .i64))])]):=⟨fun Q Q' h hQ=>by
 refine acallM mc_4r [] [1000,1001] [.t 4] Tryz.func180 fun M=>?_
 unfold F_4r at h
 unfold mc_4r
 exact tX⟩
def F_14 (s_:List GReplica) (fc0c0_:GCluster):Option Bool := (F_4r s_ fc0c0_).bind fun y2=>some (decide (0≤y2))
def mc_14:MC := (sR [mF 4] (sR [oV 0 5,oV 1 6,mo (.call (.f 180) [(.t 5),(.t 6)] [1000,1001] []) 7,bC .geq 7 0 8,oV 8 4] .ret))
instance Wq_14 {s_:List GReplica} {fc0c0_:GCluster}:WI (F_14 s_ fc0c0_) Tryz.prog 122 [.sl (s_.map GReplica.v),.fn (.func 123) [.ptr 1000 0]] [(1000,.cells [.fn (.func 119) [.ptr 1001 0]]),(1001,.cells [.bool fc0c0_.Fence,.sl (fc0c0_.Sets.map (V.int .i64)),.sl (fc0c0_.Replicas.map GReplica.v),.sl (fc0c0_.Snapshots.map (V.int .i64))])] (fun z=>.bool z) (fun z=>[(1000,.cells [.fn (.func 119) [.ptr 1001 0]]),(1001,.cells [.bool fc0c0_.Fence,.sl (fc0c0_.Sets.map (V.int .i64)),.sl (fc0c0_.Replicas.map GReplica.v),.sl (fc0c0_.Snapshots.map (V.int .i64))])]):=⟨fun Q Q' h hQ=>by
 refine acallM mc_14 [] [1000,1001] [.t 4] Tryz.func122 fun M=>?_
 unfold F_14 at h
 unfold mc_14
 exact tX⟩
def F_1z (c_:GCluster):Option Int := (F_12 (c_.Replicas.length:Int) 1 5).bind fun y25=>bif (!y25) then grp (true) fun b26=>bif b26 then some 39 else (F_1y c_.Sets).bind fun y29=>bif y29 then some 39 else (F_13 c_.Snapshots c_).bind fun y30=>bif y30 then some 39 else (F_14 c_.Replicas c_).bind fun y32=>bif y32 then some 39 else some 0 else (F_12 (c_.Sets.length:Int) 1 121).bind fun y33=>grp (((!y33)||decide (120<(c_.Snapshots.length:Int)))) fun b34=>bif b34 then some 39 else (F_1y c_.Sets).bind fun y37=>bif y37 then some 39 else (F_13 c_.Snapshots c_).bind fun y38=>bif y38 then some 39 else (F_14 c_.Replicas c_).bind fun y40=>bif y40 then some 39 else some 0
@[irreducible] def mg_3:List MOp:=[fa_ 18 19 3 1,fL 18 20 19,gF 18 21 (.len false (.t 20)),gF 18 22 (.bin false .gtr (.t 21) (cI 120)),pO 18 22 23]
def mc_1z:MC := (sR [bx 0 1,oC 0 2] (sR [mo (.mkfn 119 [(.t 1)]) 4,mo (.alloc [.nilf]) 3,⟨.st 1 (.t 3) (.t 4),none,none⟩] (.seq (.block 0 (.seq (.regI [.op (oF 2 1 6),.op (oL 6 7),.op (lE 7 8),.op (mo (.call (.f 120) [(.t 8),(cI 1),(cI 5)] [] []) 9),.op (nT 9 10),.op (oV 10 11),.op (fa_ 11 12 1 1),.op (fL 11 13 12),.op (gF 11 14 (.len false (.t 13))),.op (gF 11 15 (.call (.f 120) [(.t 14),(cI 1),(cI 121)] [] [])),.op (gF 11 16 (.not (.t 15))),.op (pO 11 16 17),.op (oV 17 18),.grp mg_3,.op (oV 23 5)]) (.cond (.t 5) (sR [oC 39 2] .ret) (.seq (.note (.gc [1,3,29,30,31,32]) (.reg [oF 1 1 25,oL 25 26,mo (.call (.f 112) [(.t 26),(.f 121)] [] []) 27,oV 27 28,fa_ 28 29 3 1,fL 28 30 29,fL 28 31 3,gF 28 32 (.call (.f 112) [(.t 30),(.t 31)] [1] []),pO 28 32 33,oV 33 24])) (.cond (.t 24) (sR [oC 39 2] .ret) (.seq (.note (.gc [1,3]) (.reg [oF 2 1 35,oL 35 36,mo (.mkfn 123 [(.t 3)]) 37,mo (.call (.f 122) [(.t 36),(.t 37)] [3,1] []) 38,oV 38 34])) (.cond (.t 34) (sR [oC 39 2] .ret) .skip))))))) (sR [oC 0 2] .ret))))
instance Wq_1z {c_:GCluster}:WI (F_1z c_) Tryz.prog 71 [GCluster.v c_] [] (fun z=>.int .i64 z) (fun z=>[]):=⟨fun Q Q' h hQ=>by
 refine acallM mc_1z [] [] [.t 2] Tryz.func71 fun M=>?_
 unfold F_1z at h
 unfold mc_1z
 replace h:=tY h
 refine tB ?_
 repeat' (first
 | (exact tZ)
 | ((first|refine oblg h ?_|refine roomG h ?_|refine inbG h ?_|refine incG h ?_|refine divG h ?_|refine appG h ?_|refine appC h ?_|refine fork h ?_ ?_|refine forkS h ?_ ?_)<;>clear h<;>intro hc h)
 | (obtain ⟨y,hy,h⟩:=h;(first|have hw:=acall_swe 1000 1 (Wq_13.c.w hy)|have hw:=acall_swe 1001 1 (acall_swe 1000 3 (Wq_14.c.w hy))|have hw:=WI.w hy);replace hw:=tY hw;(first|refine M.sC hw ?_|refine M.sD hw ?_);clear hw hy;refine tB ?_)
 | (refine M.gv1 (ms:=mg_3) 23 [19,20,21,22] h ?_ ?_<;>first
 | (clear h;intro K hK1;unfold mg_3;refine tB ?_)
 | (clear h;intro b h;replace h:=tY h;refine tB ?_))
 | (refine M.gv1 (ms:=mg_3) 23 [19,20,21,22] h ?_ ?_<;>first
 | (clear h;intro K hK2;unfold mg_3;refine tB ?_)
 | (clear h;intro b h;replace h:=tY h;refine tB ?_))
 | ((first|refine hK1 _ ?_|refine hK2 _ ?_);exact tU;done)
 | (refine bfork (fun hc=>?_) (fun hc=>?_))
 | (refine tE ?_;(first|rw [M.lok_compU]|rw [M.lokD_compU]);refine tB ?_)
 | (refine tA ?_)
 | fail)⟩
def F_15 (u_:GUnit) (p_:GUnit):Option Bool := some (!((u_.Up==p_.Up)&&(decide (u_.Stored=p_.Stored)&&decide (u_.Used=p_.Used))))
def mc_15:MC := (sR [bx 0 2,mF 3] (sR [lN 3 2 4,lN 3 1 5,mo (.eqs true [2,0,0] (.t 4) (.t 5)) 6,oV 6 3] .ret))
instance Wq_15 {u_ p_:GUnit}:WI (F_15 u_ p_) Tryz.prog 125 [GUnit.v u_,.ptr 1000 0] [(1000,.cells [.bool p_.Up,.int .i64 p_.Stored,.int .i64 p_.Used])] (fun z=>.bool z) (fun z=>[(1000,.cells [.bool p_.Up,.int .i64 p_.Stored,.int .i64 p_.Used])]):=⟨fun Q Q' h hQ=>by
 refine acallM mc_15 [] [1000] [.t 3] Tryz.func125 fun M=>?_
 unfold F_15 at h
 unfold mc_15
 exact tX⟩
def F_75 (fc0_:GUnit) (k31:Int) (a32:GUnit) (x30:Unit):Option (Fl Unit Int) := (F_15 a32 fc0_).bind fun y40=>bif y40 then some (.ex k31) else some (.nx ())
def F_4s (s_:List GUnit) (fc0_:GUnit):Option Int := (forL (F_75 fc0_) s_ 0 ()).bind fun o=>o.elim (fun x41=>some (-1)) (fun r42=>some r42)
@[irreducible] def mc_75:MC := (sR [bT .lss 8 7 9] (.seq (.cond (.t 9) .skip (.exit 0)) (.seq (.block 1 (sR [oV 8 10,oV 10 5] (sR [oV 1 11,oV 0 12,oV 5 13,iA 3 12 13 14,lN 3 14 15,mo (.call (.t 11) [(.t 15)] [1000] []) 16] (.cond (.t 16) (sR [oV 5 17,oV 17 4] .ret) .skip)))) (.reg [aI 8 1 18,oV 18 8]))))
def mc_4s:MC := (sR [oC 0 4] (.seq (sR [oV 0 6,lE 6 7,oC 0 8] (.block 0 (.loop mc_75))) (sR [oC (-1) 4] .ret)))
attribute [go_sem] F_75
instance:LI mc_75 8 7 [0,1,7] [1000] (fun y:Unit=>[]) (fun y=>[]) []:=⟨⟩
instance Wq_4s {s_:List GUnit} {fc0_:GUnit}:WI (F_4s s_ fc0_) Tryz.prog 181 [.sl (s_.map GUnit.v),.fn (.func 125) [.ptr 1000 0]] [(1000,.cells [.bool fc0_.Up,.int .i64 fc0_.Stored,.int .i64 fc0_.Used])] (fun z=>.int .i64 z) (fun z=>[(1000,.cells [.bool fc0_.Up,.int .i64 fc0_.Stored,.int .i64 fc0_.Used])]):=⟨fun Q Q' h hQ=>by
 refine acallM mc_4s [] [1000] [.t 4] Tryz.func181 fun M=>?_
 unfold F_4s at h
 unfold mc_4s
 exact tX⟩
def F_20 (s_:List GUnit) (fc0_:GUnit):Option Bool := (F_4s s_ fc0_).bind fun y2=>some (decide (0≤y2))
def mc_20:MC := (sR [mF 4] (sR [oV 0 5,oV 1 6,mo (.call (.f 181) [(.t 5),(.t 6)] [1000] []) 7,bC .geq 7 0 8,oV 8 4] .ret))
instance Wq_20 {s_:List GUnit} {fc0_:GUnit}:WI (F_20 s_ fc0_) Tryz.prog 124 [.sl (s_.map GUnit.v),.fn (.func 125) [.ptr 1000 0]] [(1000,.cells [.bool fc0_.Up,.int .i64 fc0_.Stored,.int .i64 fc0_.Used])] (fun z=>.bool z) (fun z=>[(1000,.cells [.bool fc0_.Up,.int .i64 fc0_.Stored,.int .i64 fc0_.Used])]):=⟨fun Q Q' h hQ=>by
 refine acallM mc_20 [] [1000] [.t 4] Tryz.func124 fun M=>?_
 unfold F_20 at h
 unfold mc_20
 exact tX⟩
def F_3r (f_:GFleet) (s_:GRotation):Option Bool := (F_1x f_ s_).bind fun y5=>grp ((y5&&decide (s_.Valid=2))) fun b6=>jn (α:=Bool) (bif b6 then (F_20 s_.Units (GUnit.mk true 2 2)).bind fun y8=>some (!y8) else some false) fun j9=>some j9
@[irreducible] def mg_15:List MOp:=[ta_ 10 11 1 3,tL 10 12 11,gT 10 13 (.bin false .eql (.t 12) (cI 2)),pA 10 13 14]
@[irreducible] def mg_7u:List MOp:=[ta_ 15 16 2 3,tL 15 17 16,gT 15 18 (.mkfn 125 [(.t 5)]),gT 15 19 (.call (.f 124) [(.t 17),(.t 18)] [5] []),gT 15 20 (.not (.t 19)),pA 15 20 21]
def mc_3r:MC := (sR [bx 0 2,bx 1 3,mF 4] (sR [mo (.build [(.bool false),(.int .i64 0),(.int .i64 0)] [(0,1,(.c (.bool true))),(1,1,(cI 2)),(2,1,(cI 2))]) 6,mo (.alloc [(.bool false),(.int .i64 0),(.int .i64 0)]) 5,⟨.st 3 (.t 5) (.t 6),none,none⟩] (.seq (.regI [.op (lN 2 2 7),.op (lN 3 3 8),.op (k2 70 7 8 9),.op (oV 9 10),.grp mg_15,.op (oV 14 15),.grp mg_7u,.op (oV 21 4)]) .ret)))
instance Wq_3r {f_:GFleet} {s_:GRotation}:WI (F_3r f_ s_) Tryz.prog 72 [GFleet.v f_,GRotation.v s_] [] (fun z=>.bool z) (fun z=>[]):=⟨fun Q Q' h hQ=>by
 refine acallM mc_3r [] [] [.t 4] Tryz.func72 fun M=>?_
 unfold F_3r at h
 unfold mc_3r
 replace h:=tY h
 refine tB ?_
 repeat' (first
 | (exact tZ)
 | ((first|refine oblg h ?_|refine roomG h ?_|refine inbG h ?_|refine incG h ?_|refine divG h ?_|refine appG h ?_|refine appC h ?_|refine fork h ?_ ?_|refine forkS h ?_ ?_)<;>clear h<;>intro hc h)
 | (obtain ⟨y,hy,h⟩:=h;(first|have hw:=acall_swe 1000 5 (Wq_20.c.w hy)|have hw:=WI.w hy);replace hw:=tY hw;(first|refine M.sC hw ?_|refine M.sD hw ?_);clear hw hy;refine tB ?_)
 | (refine M.gj1 (ms:=mg_7u) [4] [] (fun y=>[(21,.bool y)]) (fun y=>[]) h ?_ ?_<;>first
 | (clear h;intro Qn K hK1 h;unfold mg_7u;replace h:=tY h;refine tB ?_)
  |(clear h;intro y h;replace h:=tY h;refine tB ?_))
 | (refine M.gv1 (ms:=mg_15) 14 [11,12,13] h ?_ ?_<;>first
 | (clear h;intro K hK2;unfold mg_15;refine tB ?_)
 | (clear h;intro b h;replace h:=tY h;refine tB ?_))
 | (refine hK1 _ ?_;(try refine tB ?_);refine ⟨_,h,?_⟩;exact tU0;done)
 | (refine hK2 _ ?_;exact tU;done)
 | (refine bfork (fun hc=>?_) (fun hc=>?_))
 | (refine tE ?_;(first|rw [M.lok_compU]|rw [M.lokD_compU]);refine tB ?_)
 | (refine tA ?_)
 | fail)⟩
def F_4t (bit_:Int):Option Bool := grp ((decide (bit_=1)||decide (bit_=2))) fun b2=>some b2
@[irreducible] def mg_av:List MOp:=[fV 5 6 0,gF 5 7 (.bin false .eql (.t 6) (cI 2)),pO 5 7 8]
def mc_4t:MC := (sR [mF 2] (.seq (.regI [.op (oV 0 3),.op (bC .eql 3 1 4),.op (oV 4 5),.grp mg_av,.op (oV 8 2)]) .ret))
instance:GV mg_av 8 [6,7]:=⟨⟩
instance Wq_4t {bit_:Int}:WI (F_4t bit_) Tryz.prog 126 [.int .i64 bit_] [] (fun z=>.bool z) (fun z=>[]):=⟨fun Q Q' h hQ=>by
 refine acallM mc_4t [] [] [.t 2] Tryz.func126 fun M=>?_
 unfold F_4t at h
 unfold mc_4t
 exact tX⟩
def F_21 (c_:GCluster) (generation_:Int) (bit_:Int):Option Bool := chk (inb generation_ c_.Sets.length) (some (!decide ((bits .and .i64 (c_.Sets.getD (generation_).toNat default) bit_)=0)))
def mc_21:MC := (sR [bx 0 3,mF 6] (sR [oF 1 3 7,oL 7 8,oV 1 9,iA 1 8 9 10,oL 10 11,oV 2 12,bT .and 11 12 13,bC .neq 13 0 14,oV 14 6] .ret))
instance Wq_21 {c_:GCluster} {generation_ bit_:Int}:WI (F_21 c_ generation_ bit_) Tryz.prog 127 [GCluster.v c_,.int .i64 generation_,.int .i64 bit_] [] (fun z=>.bool z) (fun z=>[]):=⟨fun Q Q' h hQ=>by
 refine acallM mc_21 [] [] [.t 6] Tryz.func127 fun M=>?_
 unfold F_21 at h
 unfold mc_21
 exact tX⟩
def F_4u (c_:GCluster) (r_:GReplica) (bit_:Int):Option Bool := jn (α:=Bool) (bif r_.Serving then (F_21 c_ r_.Generation bit_).bind fun y4=>some y4 else some false) fun j5=>some j5
@[irreducible] def mg_aw:List MOp:=[gT 9 10 (.ld (some 4) (.t 3)),ta_ 9 11 0 4,tL 9 12 11,tV 9 13 2,gT 9 14 (.call (.f 127) [(.t 10),(.t 12),(.t 13)] [] []),pA 9 14 15]
def mc_4u:MC := (sR [bx 0 3,bx 1 4,mF 6] (.seq (.regI [.op (oF 1 4 7),.op (oL 7 8),.op (oV 8 9),.grp mg_aw,.op (oV 15 6)]) .ret))
instance:GI mg_aw [6] [] (fun y:Bool=>[(15,.bool y)]) (fun y=>[]):=⟨⟩
instance Wq_4u {c_:GCluster} {r_:GReplica} {bit_:Int}:WI (F_4u c_ r_ bit_) Tryz.prog 183 [GCluster.v c_,GReplica.v r_,.int .i64 bit_] [] (fun z=>.bool z) (fun z=>[]):=⟨fun Q Q' h hQ=>by
 refine acallM mc_4u [] [] [.t 6] Tryz.func183 fun M=>?_
 unfold F_4u at h
 unfold mc_4u
 exact tX⟩
def F_4v (r_:GReplica) (p_:GCluster) (p__:Int):Option Bool := (F_4u p_ r_ p__).bind fun y2=>some y2
def mc_4v:MC := (sR [bx 0 3,mF 4] (sR [lN 4 1 5,lN 2 3 6,oL 2 7,k3 183 5 6 7 8,oV 8 4] .ret))
instance Wq_4v {r_:GReplica} {p_:GCluster} {p__:Int}:WI (F_4v r_ p_ p__) Tryz.prog 182 [GReplica.v r_,.ptr 1000 0,.ptr 1001 0] [(1000,.cells [.bool p_.Fence,.sl (p_.Sets.map (V.int .i64)),.sl (p_.Replicas.map GReplica.v),.sl (p_.Snapshots.map (V.int .i64))]),(1001,.cells [.int .i64 p__])] (fun z=>.bool z) (fun z=>[(1000,.cells [.bool p_.Fence,.sl (p_.Sets.map (V.int .i64)),.sl (p_.Replicas.map GReplica.v),.sl (p_.Snapshots.map (V.int .i64))]),(1001,.cells [.int .i64 p__])]):=⟨fun Q Q' h hQ=>by
 refine acallM mc_4v [] [1000,1001] [.t 4] Tryz.func182 fun M=>?_
 unfold F_4v at h
 unfold mc_4v
 exact tX⟩
def F_72 (fc0_:GCluster) (fc1_:Int) (k31:Int) (a32:GReplica) (x30:Unit):Option (Fl Unit Int) := (F_4v a32 fc0_ fc1_).bind fun y40=>bif y40 then some (.ex k31) else some (.nx ())
def F_4w (s_:List GReplica) (fc0_:GCluster) (fc1_:Int):Option Int := (forL (F_72 fc0_ fc1_) s_ 0 ()).bind fun o=>o.elim (fun x41=>some (-1)) (fun r42=>some r42)
@[irreducible] def mc_72:MC := (sR [bT .lss 8 7 9] (.seq (.cond (.t 9) .skip (.exit 0)) (.seq (.block 1 (sR [oV 8 10,oV 10 5] (sR [oV 1 11,oV 0 12,oV 5 13,iA 2 12 13 14,lN 2 14 15,mo (.call (.t 11) [(.t 15)] [1000,1001] []) 16] (.cond (.t 16) (sR [oV 5 17,oV 17 4] .ret) .skip)))) (.reg [aI 8 1 18,oV 18 8]))))
def mc_4w:MC := (sR [oC 0 4] (.seq (sR [oV 0 6,lE 6 7,oC 0 8] (.block 0 (.loop mc_72))) (sR [oC (-1) 4] .ret)))
attribute [go_sem] F_72
instance:LI mc_72 8 7 [0,1,7] [1001,1000] (fun y:Unit=>[]) (fun y=>[]) []:=⟨⟩
instance Wq_4w {s_:List GReplica} {fc0_:GCluster} {fc1_:Int}:WI (F_4w s_ fc0_ fc1_) Tryz.prog 180 [.sl (s_.map GReplica.v),.fn (.func 182) [.ptr 1000 0,.ptr 1001 0]] [(1000,.cells [.bool fc0_.Fence,.sl (fc0_.Sets.map (V.int .i64)),.sl (fc0_.Replicas.map GReplica.v),.sl (fc0_.Snapshots.map (V.int .i64))]),(1001,.cells [.int .i64 fc1_])] (fun z=>.int .i64 z) (fun z=>[(1000,.cells [.bool fc0_.Fence,.sl (fc0_.Sets.map (V.int .i64)),.sl (fc0_.Replicas.map GReplica.v),.sl (fc0_.Snapshots.map (V.int .i64))]),(1001,.cells [.int .i64 fc1_])]):=⟨fun Q Q' h hQ=>by
 refine acallM mc_4w [] [1000,1001] [.t 4] Tryz.func180 fun M=>?_
 unfold F_4w at h
 unfold mc_4w
 exact tX⟩
def F_3s (s_:List GReplica) (fc0_:GCluster) (fc1_:Int):Option Bool := (F_4w s_ fc0_ fc1_).bind fun y2=>some (decide (0≤y2))
def mc_3s:MC := (sR [mF 4] (sR [oV 0 5,oV 1 6,mo (.call (.f 180) [(.t 5),(.t 6)] [1000,1001] []) 7,bC .geq 7 0 8,oV 8 4] .ret))
instance Wq_3s {s_:List GReplica} {fc0_:GCluster} {fc1_:Int}:WI (F_3s s_ fc0_ fc1_) Tryz.prog 122 [.sl (s_.map GReplica.v),.fn (.func 182) [.ptr 1000 0,.ptr 1001 0]] [(1000,.cells [.bool fc0_.Fence,.sl (fc0_.Sets.map (V.int .i64)),.sl (fc0_.Replicas.map GReplica.v),.sl (fc0_.Snapshots.map (V.int .i64))]),(1001,.cells [.int .i64 fc1_])] (fun z=>.bool z) (fun z=>[(1000,.cells [.bool fc0_.Fence,.sl (fc0_.Sets.map (V.int .i64)),.sl (fc0_.Replicas.map GReplica.v),.sl (fc0_.Snapshots.map (V.int .i64))]),(1001,.cells [.int .i64 fc1_])]):=⟨fun Q Q' h hQ=>by
 refine acallM mc_3s [] [1000,1001] [.t 4] Tryz.func122 fun M=>?_
 unfold F_3s at h
 unfold mc_3s
 exact tX⟩
def F_3t (c_:GCluster) (bit_:Int):Option Bool := (F_3s c_.Replicas c_ bit_).bind fun y2=>some y2
def mc_3t:MC := (sR [bx 0 2,bx 1 3,mF 4] (sR [oF 2 2 5,oL 5 6,mo (.mkfn 182 [(.t 2),(.t 3)]) 7,mo (.call (.f 122) [(.t 6),(.t 7)] [2,3] []) 8,oV 8 4] .ret))
instance Wq_3t {c_:GCluster} {bit_:Int}:WI (F_3t c_ bit_) Tryz.prog 128 [GCluster.v c_,.int .i64 bit_] [] (fun z=>.bool z) (fun z=>[]):=⟨fun Q Q' h hQ=>by
 refine acallM mc_3t [] [] [.t 4] Tryz.func128 fun M=>?_
 unfold F_3t at h
 unfold mc_3t
 replace h:=tY h
 refine tB ?_
 repeat' (first
 | (exact tZ)
 | ((first|refine oblg h ?_|refine roomG h ?_|refine inbG h ?_|refine incG h ?_|refine divG h ?_|refine appG h ?_|refine appC h ?_|refine fork h ?_ ?_|refine forkS h ?_ ?_)<;>clear h<;>intro hc h)
 | (obtain ⟨y,hy,h⟩:=h;have hw:=acall_swe 1001 3 (acall_swe 1000 2 (Wq_3s.c.w hy));replace hw:=tY hw;(first|refine M.sC hw ?_|refine M.sD hw ?_);clear hw hy;refine tB ?_)
 | (refine tE ?_;(first|rw [M.lok_compU]|rw [M.lokD_compU]);refine tB ?_)
 | (refine tA ?_)
 | fail)⟩
def F_3u (c_:GCluster) (bit_:Int):Option Bool := (F_1z c_).bind fun y8=>jn (α:=Bool) (bif decide (y8=0) then (F_4t bit_).bind fun y10=>some y10 else some false) fun j11=>jn (α:=Bool) (bif j11 then chk (in64 ((c_.Sets.length:Int) - 1)) ((F_21 c_ ((c_.Sets.length:Int) - 1) bit_).bind fun y13=>some (!y13)) else some false) fun j14=>jn (α:=Bool) (bif j14 then (F_3t c_ bit_).bind fun y16=>some (!y16) else some false) fun j17=>some j17
@[irreducible] def mg_ax:List MOp:=[tV 8 9 1,gT 8 10 (.call (.f 126) [(.t 9)] [] []),pA 8 10 11]
@[irreducible] def mg_ay:List MOp:=[gT 12 13 (.ld (some 4) (.t 2)),ta_ 12 14 1 2,tL 12 15 14,gT 12 16 (.len false (.t 15)),gT 12 17 (.bin true .sub (.t 16) (cI 1)),tV 12 18 1,gT 12 19 (.call (.f 127) [(.t 13),(.t 17),(.t 18)] [] []),gT 12 20 (.not (.t 19)),pA 12 20 21]
@[irreducible] def mg_az:List MOp:=[gT 22 23 (.ld (some 4) (.t 2)),tV 22 24 1,gT 22 25 (.call (.f 128) [(.t 23),(.t 24)] [] []),gT 22 26 (.not (.t 25)),pA 22 26 27]
def mc_3u:MC := (sR [bx 0 2,mF 4] (.seq (.regI [.op (lN 4 2 5),.op (k1 71 5 6),.op (bC .eql 6 0 7),.op (oV 7 8),.grp mg_ax,.op (oV 11 12),.grp mg_ay,.op (oV 21 22),.grp mg_az,.op (oV 27 4)]) .ret))
instance:GI mg_az [4] [] (fun y:Bool=>[(27,.bool y)]) (fun y=>[]):=⟨⟩
instance:GI mg_ay [1,2,4] [2] (fun y:Bool=>[(21,.bool y)]) (fun y=>[]):=⟨⟩
instance:GI mg_ax [1,2,4] [2] (fun y:Bool=>[(11,.bool y)]) (fun y=>[]):=⟨⟩
instance Wq_3u {c_:GCluster} {bit_:Int}:WI (F_3u c_ bit_) Tryz.prog 73 [GCluster.v c_,.int .i64 bit_] [] (fun z=>.bool z) (fun z=>[]):=⟨fun Q Q' h hQ=>by
 refine acallM mc_3u [] [] [.t 4] Tryz.func73 fun M=>?_
 unfold F_3u at h
 unfold mc_3u
 exact tX⟩
end Go.Ab
set_option maxRecDepth 20000
set_option maxHeartbeats 2000000
namespace Go.Ab
open Go.Proofs
noncomputable def F_4x (d_:GDirectory) (a_:GEstate) (r_:GRegistry) (x_:GRights) (worths_:List Int) (f_:GFinding) (content_:Int) (fl_:GFleet) (s_:GRotation) (c_:GCluster):Option (GSummary×Int) := (F_1o (GSummary.mk f_.Fingerprint (f_.Where.length:Int) false 0 0 (GSeverity.mk 0 0 0 0) false false) d_ a_ content_).bind fun y4=>bif (!decide (y4.1=0)) then some ((GSummary.mk 0 0 false 0 0 (GSeverity.mk 0 0 0 0) false false),y4.1) else (F_1w y4.2 r_ x_ worths_).bind fun y8=>bif (!decide (y8.1=0)) then some ((GSummary.mk 0 0 false 0 0 (GSeverity.mk 0 0 0 0) false false),y8.1) else (F_1x fl_ s_).bind fun y12=>bif (!y12) then some ((GSummary.mk 0 0 false 0 0 (GSeverity.mk 0 0 0 0) false false),36) else (F_1z c_).bind fun y16=>bif (!decide (y16=0)) then some ((GSummary.mk 0 0 false 0 0 (GSeverity.mk 0 0 0 0) false false),y16) else (F_3r fl_ s_).bind fun y19=>(F_3u c_ 1).bind fun y20=>some ((GSummary.mk y8.2.Fingerprint y8.2.Spots y8.2.Public y8.2.Readers y8.2.Since y8.2.Severity y19 y20),0)
def mc_4x:MC := (sR [bx 0 10,bx 1 11,bx 2 12,bx 3 13,bx 5 15,bx 7 17,bx 8 18,bx 9 19,mo (.alloc [(.int .u64 0),(.int .i64 0),(.bool false),(.int .i64 0),(.int .i64 0),(.int .i64 0),(.int .i64 0),(.int .i64 0),(.int .i64 0),(.bool false),(.bool false)]) 20,oC 0 21] (.seq (.note (.gc [4,6,10,11,12,13,15,17,18,19,20]) (.reg [oF 1 15 26,oL 26 27,oF 2 15 28,oL 28 29,lE 29 30,mo (.build [(.int .u64 0),(.int .i64 0),(.bool false),(.int .i64 0),(.int .i64 0),(.int .i64 0),(.int .i64 0),(.int .i64 0),(.int .i64 0),(.bool false),(.bool false)] [(0,1,(.t 27)),(1,1,(.t 30))]) 31,mo (.alloc [(.int .u64 0),(.int .i64 0),(.bool false),(.int .i64 0),(.int .i64 0),(.int .i64 0),(.int .i64 0),(.int .i64 0),(.int .i64 0),(.bool false),(.bool false)]) 22,⟨.st 11 (.t 22) (.t 31),none,none⟩])) (.seq (sR [lN 2 10 32,lN 2 11 33,oV 6 34,mo (.call (.f 68) [(.t 22),(.t 32),(.t 33),(.t 34)] [22] []) 35,oV 35 23] (sR [oV 23 36,bC .neq 36 0 37] (.cond (.t 37) (.seq (.note (.gc [20,23]) (.reg [mo (.build [(.int .u64 0),(.int .i64 0),(.bool false),(.int .i64 0),(.int .i64 0),(.int .i64 0),(.int .i64 0),(.int .i64 0),(.int .i64 0),(.bool false),(.bool false)] []) 38,oV 23 39,⟨.st 11 (.t 20) (.t 38),none,none⟩,oV 39 21])) .ret) .skip))) (.seq (.seq (.note (.gc [4,12,13,17,18,19,20,22]) (.reg [lN 2 12 40,lN 5 13 41,oV 4 42,mo (.call (.f 69) [(.t 22),(.t 40),(.t 41),(.t 42)] [22] []) 43,oV 43 24])) (sR [oV 24 44,bC .neq 44 0 45] (.cond (.t 45) (.seq (.note (.gc [20,24]) (.reg [mo (.build [(.int .u64 0),(.int .i64 0),(.bool false),(.int .i64 0),(.int .i64 0),(.int .i64 0),(.int .i64 0),(.int .i64 0),(.int .i64 0),(.bool false),(.bool false)] []) 46,oV 24 47,⟨.st 11 (.t 20) (.t 46),none,none⟩,oV 47 21])) .ret) .skip))) (.seq (.seq (.note (.gc [17,18,19,20,22]) (.reg [lN 2 17 48,lN 3 18 49,k2 70 48 49 50,nT 50 51])) (.cond (.t 51) (.seq (.note (.gc [20]) (.reg [mo (.build [(.int .u64 0),(.int .i64 0),(.bool false),(.int .i64 0),(.int .i64 0),(.int .i64 0),(.int .i64 0),(.int .i64 0),(.int .i64 0),(.bool false),(.bool false)] []) 52,⟨.st 11 (.t 20) (.t 52),none,none⟩,oC 36 21])) .ret) .skip)) (.seq (sR [lN 4 19 53,k1 71 53 54,oV 54 25] (sR [oV 25 55,bC .neq 55 0 56] (.cond (.t 56) (.seq (.note (.gc [20,25]) (.reg [mo (.build [(.int .u64 0),(.int .i64 0),(.bool false),(.int .i64 0),(.int .i64 0),(.int .i64 0),(.int .i64 0),(.int .i64 0),(.int .i64 0),(.bool false),(.bool false)] []) 57,oV 25 58,⟨.st 11 (.t 20) (.t 57),none,none⟩,oV 58 21])) .ret) .skip))) (.seq (.note (.gc [17,18,19,20,22]) (.regD [lN 2 17 59,lN 3 18 60,k2 72 59 60 61,lN 4 19 62,mo (.call (.f 73) [(.t 62),(cI 1)] [] []) 63,oF 9 22 64,⟨.st 1 (.t 64) (.t 61),none,none⟩,oF 10 22 65,⟨.st 1 (.t 65) (.t 63),none,none⟩] [[],[],[0,1],[],[3,2],[0,1,2,4],[5,2,4,0,1,2,4],[0,1,2,3,4,5,6],[7,4,6,0,1,2,3,4,5,6]] [[],[],[0,1],[],[0,1,2,3],[0,1,2,3,4],[0,1,2,3,4,5],[0,1,2,3,4,5,6],[0,1,2,3,4,5,6,7]])) (.seq (.note (.gc [20,22]) (.reg [lN 11 22 66,⟨.st 11 (.t 20) (.t 66),none,none⟩,oC 0 21])) .ret))))))))
instance Wq_4x {d_:GDirectory} {a_:GEstate} {r_:GRegistry} {x_:GRights} {worths_:List Int} {f_:GFinding} {content_:Int} {fl_:GFleet} {s_:GRotation} {c_:GCluster}:WI (F_4x d_ a_ r_ x_ worths_ f_ content_ fl_ s_ c_) Tryz.prog 38 [GDirectory.v d_,GEstate.v a_,GRegistry.v r_,GRights.v x_,.sl (worths_.map (V.int .i64)),GFinding.v f_,.int .i64 content_,GFleet.v fl_,GRotation.v s_,GCluster.v c_] [] (fun z=>.tup [GSummary.v z.1,.int .i64 z.2]) (fun z=>[]):=⟨fun Q Q' h hQ=>by
 refine acallM mc_4x [] [] [.c 20 (some 11),.t 21] Tryz.func38 fun M=>?_
 unfold F_4x at h
 unfold mc_4x
 replace h:=tY h
 refine tB ?_
 repeat' (first
 | (exact tZ)
 | ((first|refine oblg h ?_|refine roomG h ?_|refine inbG h ?_|refine incG h ?_|refine divG h ?_|refine appG h ?_|refine appC h ?_|refine fork h ?_ ?_|refine forkS h ?_ ?_)<;>clear h<;>intro hc h)
 | (obtain ⟨y,hy,h⟩:=h;(first|have hw:=acall_swe 1000 22 (Wq_1o.c.w hy)|have hw:=acall_swe 1000 22 (Wq_1w.c.w hy)|have hw:=WI.w hy);replace hw:=tY hw;(first|refine M.sC hw ?_|refine M.sD hw ?_);clear hw hy;refine tB ?_)
 | (refine tE ?_;(first|rw [M.lok_compU]|rw [M.lokD_compU]);refine tB ?_)
 | (refine tA ?_)
 | fail)⟩
noncomputable def F_16 (z_:Gscene):Option (GSummary×Int) := (F_4x z_.d_ z_.a_ z_.r_ z_.x_ z_.w_ z_.f_ z_.c_ z_.fleet_ z_.s_ z_.group_).bind fun y2=>some (y2.1,y2.2)
def mc_16:MC := (sR [bx 0 1,mo (.alloc [(.int .u64 0),(.int .i64 0),(.bool false),(.int .i64 0),(.int .i64 0),(.int .i64 0),(.int .i64 0),(.int .i64 0),(.int .i64 0),(.bool false),(.bool false)]) 2,oC 0 3] (sR [oF 0 1 4,lN 2 4 5,oF 2 1 6,lN 2 6 7,oF 4 1 8,lN 2 8 9,oF 6 1 10,lN 5 10 11,oF 11 1 12,oL 12 13,oF 12 1 14,lN 3 14 15,oF 15 1 16,oL 16 17,oF 16 1 18,lN 2 18 19,oF 18 1 20,lN 3 20 21,oF 21 1 22,lN 4 22 23,mo (.call (.f 38) [(.t 5),(.t 7),(.t 9),(.t 11),(.t 13),(.t 15),(.t 17),(.t 19),(.t 21),(.t 23)] [] []) 24,xT 0 24 25,xT 1 24 26,⟨.st 11 (.t 2) (.t 25),none,none⟩,oV 26 3] .ret))
instance Wq_16 {z_:Gscene}:WI (F_16 z_) Tryz.prog 14 [Gscene.v z_] [] (fun z=>.tup [GSummary.v z.1,.int .i64 z.2]) (fun z=>[]):=⟨fun Q Q' h hQ=>by
 refine acallM mc_16 [] [] [.c 2 (some 11),.t 3] Tryz.func14 fun M=>?_
 unfold F_16 at h
 unfold mc_16
 exact tX⟩
end Go.Ab

