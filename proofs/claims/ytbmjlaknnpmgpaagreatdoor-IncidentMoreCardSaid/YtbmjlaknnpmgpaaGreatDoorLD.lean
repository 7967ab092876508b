/- What the functions of this seat that lie on the laws' road compute (part LD), each for every input. By AI agents. -/
import Derived.Test.YtbmjlaknnpmgpaaGreatDoorLT
set_option linter.all false
set_option linter.all false
set_option maxRecDepth 20000
set_option maxHeartbeats 2000000
namespace Go.Ab
open Go.Proofs
def F_v (kind_:Int):Option Bool := grp ((decide (kind_<1)||decide (3<kind_))) fun b2=>some b2
@[irreducible] def mg_97:List MOp:=[fV 5 6 0,gF 5 7 (.bin false .gtr (.t 6) (cI 3)),pO 5 7 8]
def mc_v:MC := (sR [mF 2] (.seq (.regI [.op (oV 0 3),.op (bC .lss 3 1 4),.op (oV 4 5),.grp mg_97,.op (oV 8 2)]) .ret))
instance:GV mg_97 8 [6,7]:=⟨⟩
instance Wq_v {kind_:Int}:WI (F_v kind_) Tryz.prog 246 [.int .i64 kind_] [] (fun z=>.bool z) (fun z=>[]):=⟨fun Q Q' h hQ=>by
 refine acallM mc_v [] [] [.t 2] Tryz.func246 fun M=>?_
 unfold F_v at h
 unfold mc_v
 exact tX⟩
def F_6b (k31:Int) (a32:Int) (x30:Unit):Option (Fl Unit Int) := (F_v a32).bind fun y40=>bif y40 then some (.ex k31) else some (.nx ())
def F_51 (s_:List Int):Option Int := (forL F_6b s_ 0 ()).bind fun o=>o.elim (fun x41=>some (-1)) (fun r42=>some r42)
@[irreducible] def mc_6b:MC := (sR [bT .lss 8 7 9] (.seq (.cond (.t 9) .skip (.exit 0)) (.seq (.block 1 (sR [oV 8 10,oV 10 5] (sR [oV 1 11,oV 0 12,oV 5 13,iA 1 12 13 14,oL 14 15,mo (.call (.t 11) [(.t 15)] [] []) 16] (.cond (.t 16) (sR [oV 5 17,oV 17 4] .ret) .skip)))) (.reg [aI 8 1 18,oV 18 8]))))
def mc_51:MC := (sR [oC 0 4] (.seq (sR [oV 0 6,lE 6 7,oC 0 8] (.block 0 (.loop mc_6b))) (sR [oC (-1) 4] .ret)))
attribute [go_sem] F_6b
instance:LI mc_6b 8 7 [0,1,7] [] (fun y:Unit=>[]) (fun y=>[]) []:=⟨⟩
instance Wq_51 {s_:List Int}:WI (F_51 s_) Tryz.prog 175 [.sl (s_.map (V.int .i64)),.fn (.func 246) []] [] (fun z=>.int .i64 z) (fun z=>[]):=⟨fun Q Q' h hQ=>by
 refine acallM mc_51 [] [] [.t 4] Tryz.func175 fun M=>?_
 unfold F_51 at h
 unfold mc_51
 exact tX⟩
def F_42 (s_:List Int):Option Bool := (F_51 s_).bind fun y2=>some (decide (0≤y2))
def mc_42:MC := (sR [mF 4] (sR [oV 0 5,oV 1 6,k2 175 5 6 7,bC .geq 7 0 8,oV 8 4] .ret))
instance Wq_42 {s_:List Int}:WI (F_42 s_) Tryz.prog 112 [.sl (s_.map (V.int .i64)),.fn (.func 246) []] [] (fun z=>.bool z) (fun z=>[]):=⟨fun Q Q' h hQ=>by
 refine acallM mc_42 [] [] [.t 4] Tryz.func112 fun M=>?_
 unfold F_42 at h
 unfold mc_42
 exact tX⟩
def F_w (d_:GDirectory) (p_:Int):Option Bool := grp ((decide (0≤p_)&&decide (p_<(d_.Kinds.length:Int)))) fun b2=>some b2
@[irreducible] def mg_98:List MOp:=[tV 7 8 1,ta_ 7 9 0 2,tL 7 10 9,gT 7 11 (.len false (.t 10)),gT 7 12 (.bin false .lss (.t 8) (.t 11)),pA 7 12 13]
def mc_w:MC := (sR [bx 0 2,mF 4] (.seq (.regI [.op (oV 1 5),.op (bC .geq 5 0 6),.op (oV 6 7),.grp mg_98,.op (oV 13 4)]) .ret))
instance:GV mg_98 13 [8,9,10,11,12]:=⟨⟩
instance Wq_w {d_:GDirectory} {p_:Int}:WI (F_w d_ p_) Tryz.prog 247 [GDirectory.v d_,.int .i64 p_] [] (fun z=>.bool z) (fun z=>[]):=⟨fun Q Q' h hQ=>by
 refine acallM mc_w [] [] [.t 4] Tryz.func247 fun M=>?_
 unfold F_w at h
 unfold mc_w
 exact tX⟩
def F_2t (d_:GDirectory) (p_:Int):Option Bool := (F_w d_ p_).bind fun y3=>jn (α:=Bool) (bif y3 then chk (inb p_ d_.Kinds.length) (some (decide ((d_.Kinds.getD (p_).toNat default)=2))) else some false) fun j4=>some j4
@[irreducible] def mg_99:List MOp:=[ta_ 8 9 0 2,tL 8 10 9,tV 8 11 1,gT 8 12 (.iad 1 (.t 10) (.t 11)),tL 8 13 12,gT 8 14 (.bin false .eql (.t 13) (cI 2)),pA 8 14 15]
def mc_2t:MC := (sR [bx 0 2,mF 4] (.seq (.regI [.op (lN 2 2 5),.op (oV 1 6),.op (k2 247 5 6 7),.op (oV 7 8),.grp mg_99,.op (oV 15 4)]) .ret))
instance:GI mg_99 [4] [] (fun y:Bool=>[(15,.bool y)]) (fun y=>[]):=⟨⟩
instance Wq_2t {d_:GDirectory} {p_:Int}:WI (F_2t d_ p_) Tryz.prog 248 [GDirectory.v d_,.int .i64 p_] [] (fun z=>.bool z) (fun z=>[]):=⟨fun Q Q' h hQ=>by
 refine acallM mc_2t [] [] [.t 4] Tryz.func248 fun M=>?_
 unfold F_2t at h
 unfold mc_2t
 exact tX⟩
def F_52 (d_:GDirectory) (k473:Int) (a474:GMember) (x472:Int):Option (Fl Int Int) := grp (((!decide (a474.Kind=1))&&(!decide (a474.Kind=2)))) fun b595=>grp ((b595||decide (a474.Time<x472))) fun b596=>grp ((b596||decide (1099511627776<a474.Time))) fun b597=>bif b597 then grp (true) fun b598=>bif b598 then some (.ex 30) else some (.nx a474.Time) else (F_w d_ a474.Principal).bind fun y599=>bif (!y599) then grp (true) fun b600=>bif b600 then some (.ex 30) else some (.nx a474.Time) else (F_2t d_ a474.Group).bind fun y601=>grp (((!y601)||decide (a474.Principal=a474.Group))) fun b602=>bif b602 then some (.ex 30) else some (.nx a474.Time)
def F_1i (d_:GDirectory):Option Int := grp ((decide (24<(d_.Kinds.length:Int))||decide (120<(d_.Events.length:Int)))) fun b7=>bif b7 then some 30 else (F_42 d_.Kinds).bind fun y8=>bif y8 then some 30 else (forL (F_52 d_) d_.Events 0 0).bind fun o=>o.elim (fun x603=>some 0) (fun r604=>some r604)
@[irreducible] def mg_v:List MOp:=[fa_ 11 12 1 1,fL 11 13 12,gF 11 14 (.len false (.t 13)),gF 11 15 (.bin false .gtr (.t 14) (cI 120)),pO 11 15 16]
@[irreducible] def mg_9a:List MOp:=[ta_ 33 34 1 6,tL 33 35 34,gT 33 36 (.bin false .neq (.t 35) (cI 2)),pA 33 36 37]
@[irreducible] def mg_9b:List MOp:=[fa_ 38 39 0 6,fL 38 40 39,fV 38 41 4,gF 38 42 (.bin false .lss (.t 40) (.t 41)),pO 38 42 43]
@[irreducible] def mg_9c:List MOp:=[fa_ 44 45 0 6,fL 44 46 45,gF 44 47 (.bin false .gtr (.t 46) (cI 1099511627776)),pO 44 47 48]
@[irreducible] def mg_79:List MOp:=[fa_ 63 64 2 6,fL 63 65 64,fa_ 63 66 3 6,fL 63 67 66,gF 63 68 (.bin false .eql (.t 65) (.t 67)),pO 63 68 69]
@[irreducible] def mc_52:MC := (sR [bT .lss 26 25 27] (.seq (.cond (.t 27) .skip (.exit 0)) (.seq (.block 1 (sR [iA 4 24 26 28,lN 4 28 29,mo (.alloc [(.int .i64 0),(.int .i64 0),(.int .i64 0),(.int .i64 0)]) 6,⟨.st 4 (.t 6) (.t 29),none,none⟩] (.seq (.seq (.regI [.op (oF 1 6 30),.op (oL 30 31),.op (bC .neq 31 1 32),.op (oV 32 33),.grp mg_9a,.op (oV 37 38),.grp mg_9b,.op (oV 43 44),.grp mg_9c,.op (oV 48 49),.op (gF 49 50 (.ld (some 2) (.t 1))),.op (fa_ 49 51 2 6),.op (fL 49 52 51),.op (gF 49 53 (.call (.f 247) [(.t 50),(.t 52)] [] [])),.op (gF 49 54 (.not (.t 53))),.op (pO 49 54 55),.op (oV 55 56),.op (gF 56 57 (.ld (some 2) (.t 1))),.op (fa_ 56 58 3 6),.op (fL 56 59 58),.op (gF 56 60 (.call (.f 248) [(.t 57),(.t 59)] [] [])),.op (gF 56 61 (.not (.t 60))),.op (pO 56 61 62),.op (oV 62 63),.grp mg_79]) (.cond (.t 69) (sR [oC 30 2] .ret) .skip)) (.note (.gc [1,6,24,25,26,34,35,36,39,40,41,42,45,46,47,50,51,52,53,54,57,58,59,60,61,64,65,66,67,68]) (.reg [oF 0 6 70,oL 70 71,oV 71 4]))))) (.reg [aI 26 1 72,oV 72 26]))))
def mc_1i:MC := (sR [bx 0 1,oC 0 2] (sR [mo (.mv (.f 246)) 3] (.seq (.seq (.regI [.op (oF 0 1 7),.op (oL 7 8),.op (lE 8 9),.op (bC .gtr 9 24 10),.op (oV 10 11),.grp mg_v,.op (oV 16 17),.op (fa_ 17 18 0 1),.op (fL 17 19 18),.op (fV 17 20 3),.op (gF 17 21 (.call (.f 112) [(.t 19),(.t 20)] [] [])),.op (pO 17 21 22)]) (.cond (.t 22) (sR [oC 30 2] .ret) .skip)) (sR [oC 0 4] (.seq (.seq (.note (.gc [1,4,34,35,36,39,40,41,42,45,46,47,50,51,52,53,54,57,58,59,60,61,64,65,66,67,68]) (.reg [oF 1 1 23,oL 23 24,lE 24 25,oC 0 26])) (.block 0 (.loop mc_52))) (sR [oC 0 2] .ret))))))
attribute [go_sem] F_52
instance:GV mg_79 69 [64,65,66,67,68]:=⟨⟩
instance:GV mg_79 69 [64,65,66,67,68]:=⟨⟩
instance:GV mg_79 69 [64,65,66,67,68]:=⟨⟩
instance:GV mg_9c 48 [45,46,47]:=⟨⟩
instance:GV mg_9b 43 [39,40,41,42]:=⟨⟩
instance:GV mg_9a 37 [34,35,36]:=⟨⟩
instance:LI mc_52 26 25 [1,24,25] [1] (fun y:Int=>[(4,.int .i64 y)]) (fun y=>[]) []:=⟨⟩
instance:GV mg_v 16 [12,13,14,15]:=⟨⟩
instance Wq_1i {d_:GDirectory}:WI (F_1i d_) Tryz.prog 231 [GDirectory.v d_] [] (fun z=>.int .i64 z) (fun z=>[]):=⟨fun Q Q' h hQ=>by
 refine acallM mc_1i [] [] [.t 2] Tryz.func231 fun M=>?_
 unfold F_1i at h
 unfold mc_1i
 exact tX⟩
def F_f (n_:Int) (low_:Int) (high_:Int):Option Bool := grp ((decide (low_≤n_)&&decide (n_≤high_))) fun b2=>some b2
@[irreducible] def mg_9d:List MOp:=[tV 10 11 0,tV 10 12 2,gT 10 13 (.bin false .leq (.t 11) (.t 12)),pA 10 13 14]
def mc_f:MC := (sR [mF 6] (.seq (.regI [.op (oV 0 7),.op (oV 1 8),.op (bT .geq 7 8 9),.op (oV 9 10),.grp mg_9d,.op (oV 14 6)]) .ret))
instance:GV mg_9d 14 [11,12,13]:=⟨⟩
instance Wq_f {n_ low_ high_:Int}:WI (F_f n_ low_ high_) Tryz.prog 233 [.int .i64 n_,.int .i64 low_,.int .i64 high_] [] (fun z=>.bool z) (fun z=>[]):=⟨fun Q Q' h hQ=>by
 refine acallM mc_f [] [] [.t 6] Tryz.func233 fun M=>?_
 unfold F_f at h
 unfold mc_f
 exact tX⟩
def F_8 (content_:Int):Option Bool := (F_f content_ 0 63).bind fun y2=>some y2
def mc_8:MC := (sR [mF 2] (sR [oV 0 3,mo (.call (.f 233) [(.t 3),(cI 0),(cI 63)] [] []) 4,oV 4 2] .ret))
instance Wq_8 {content_:Int}:WI (F_8 content_) Tryz.prog 207 [.int .i64 content_] [] (fun z=>.bool z) (fun z=>[]):=⟨fun Q Q' h hQ=>by
 refine acallM mc_8 [] [] [.t 2] Tryz.func207 fun M=>?_
 unfold F_8 at h
 unfold mc_8
 exact tX⟩
def F_g (a_:GEstate) (place_:Int):Option Bool := chk (in64 (a_.Places - 1)) ((F_f place_ 0 (a_.Places - 1)).bind fun y2=>some y2)
def mc_g:MC := (sR [bx 0 2,mF 4] (sR [oV 1 5,oF 0 2 6,oL 6 7,sI 7 1 8,mo (.call (.f 233) [(.t 5),(cI 0),(.t 8)] [] []) 9,oV 9 4] .ret))
instance Wq_g {a_:GEstate} {place_:Int}:WI (F_g a_ place_) Tryz.prog 261 [GEstate.v a_,.int .i64 place_] [] (fun z=>.bool z) (fun z=>[]):=⟨fun Q Q' h hQ=>by
 refine acallM mc_g [] [] [.t 4] Tryz.func261 fun M=>?_
 unfold F_g at h
 unfold mc_g
 exact tX⟩
def F_2u (a_:GEstate) (x_:GAccess):Option Bool := jn (α:=Bool×GAccess) (jn (α:=Bool) (bif decide (x_.Kind=1) then some true else some (decide (x_.Kind=2))) fun j7=>bif j7 then (F_f x_.Principal 0 23).bind fun y8=>some (y8,(GAccess.mk x_.Time x_.Kind x_.Place x_.Principal 0 0 0)) else bif decide (x_.Kind=3) then bif decide (x_.Time<x_.Until) then some (decide (x_.Until≤1099511627776),(GAccess.mk x_.Time x_.Kind x_.Place 0 x_.Until 0 0)) else some (false,(GAccess.mk x_.Time x_.Kind x_.Place 0 x_.Until 0 0)) else bif decide (x_.Kind=4) then some (true,(GAccess.mk x_.Time x_.Kind x_.Place 0 0 0 0)) else jn (α:=Bool) (bif decide (x_.Kind=5) then some true else some (decide (x_.Kind=6))) fun j9=>bif j9 then (F_8 x_.Content).bind fun y10=>some (y10,(GAccess.mk x_.Time x_.Kind x_.Place 0 0 x_.Content 0)) else bif decide (x_.Kind=7) then (F_g a_ x_.From).bind fun y11=>bif y11 then some ((!decide (x_.From=x_.Place)),(GAccess.mk x_.Time x_.Kind x_.Place 0 0 0 x_.From)) else some (false,(GAccess.mk x_.Time x_.Kind x_.Place 0 0 0 x_.From)) else some (false,(GAccess.mk x_.Time x_.Kind x_.Place 0 0 0 0))) fun j6=>jn (α:=Bool) (bif j6.1 then (F_g a_ x_.Place).bind fun y16=>some y16 else some false) fun j17=>grp ((j17&&(decide (x_.Time=j6.2.Time)&&(decide (x_.Kind=j6.2.Kind)&&(decide (x_.Place=j6.2.Place)&&(decide (x_.Principal=j6.2.Principal)&&(decide (x_.Until=j6.2.Until)&&(decide (x_.Content=j6.2.Content)&&decide (x_.From=j6.2.From))))))))) fun b18=>some b18
@[irreducible] def mc_9e:MC := (.cond (.t 42) (.regD [oF 5 3 45,oL 45 46,oF 5 3 47,oL 47 48,k1 207 48 49,oF 5 5 50,⟨.st 1 (.t 50) (.t 46),none,none⟩,oV 49 6] [[],[0],[],[2],[3],[0,1],[5,1,4,0,1],[4,6,0,1,2,3,4,5,6]] [[],[0],[],[2],[2,3],[0,1],[0,1,2,3,4,5],[0,1,2,3,4,5,6]]) (sR [bC .eql 15 7 52,oV 52 51] (.cond (.t 51) (.regD [oF 6 3 53,oL 53 54,lN 2 2 55,oF 6 3 56,oL 56 57,k2 261 55 57 58,oV 58 59,ta_ 59 60 6 3,tL 59 61 60,ta_ 59 62 2 3,tL 59 63 62,gT 59 64 (.bin false .neq (.t 61) (.t 63)),pA 59 64 65,oF 6 5 66,⟨.st 1 (.t 66) (.t 54),none,none⟩,oV 65 6] [[],[0],[],[],[3],[2,4],[5,5],[6],[7,6],[6],[9,6],[8,10,6],[6,11],[0,1],[13,1,6,0,1],[12,14,0,1,2,3,4,5,6,7,8,9,10,11,12,13,14]] [[],[0],[],[],[3],[2,3,4],[2,3,4,5],[2,3,4,5,6],[2,3,4,5,6,7],[2,3,4,5,6],[2,3,4,5,6,9],[2,3,4,5,6,7,8,9,10],[2,3,4,5,6,7,8,9,10,11],[0,1],[0,1,2,3,4,5,6,13],[0,1,2,3,4,5,6,7,8,9,10,11,12,13,14]]) .skip)))
@[irreducible] def mc_9f:MC := (.cond (.t 16) (.regD [oF 3 3 19,oL 19 20,oF 3 3 21,oL 21 22,mo (.call (.f 233) [(.t 22),(cI 0),(cI 23)] [] []) 23,oF 3 5 24,⟨.st 1 (.t 24) (.t 20),none,none⟩,oV 23 6] [[],[0],[],[2],[3],[0,1],[5,1,4,0,1],[4,6,0,1,2,3,4,5,6]] [[],[0],[],[2],[2,3],[0,1],[0,1,2,3,4,5],[0,1,2,3,4,5,6]]) (sR [bC .eql 15 3 26,oV 26 25] (.cond (.t 25) (.regD [oF 4 3 27,oL 27 28,oF 4 3 29,oL 29 30,oF 0 3 31,oL 31 32,bT .gtr 30 32 33,oV 33 34,ta_ 34 35 4 3,tL 34 36 35,gT 34 37 (.bin false .leq (.t 36) (cI 1099511627776)),pA 34 37 38,oF 4 5 39,⟨.st 1 (.t 39) (.t 28),none,none⟩,oV 38 6] [[],[0],[],[2],[],[4],[3,5],[6],[7],[8,7],[9,7],[7,10],[0,1],[12,1,7,0,1],[11,13,0,1,2,3,4,5,6,7,8,9,10,11,12,13]] [[],[0],[],[2],[],[4],[2,3,4,5],[2,3,4,5,6],[2,3,4,5,6,7],[2,3,4,5,6,7,8],[2,3,4,5,6,7,8,9],[2,3,4,5,6,7,8,9,10],[0,1],[0,1,2,3,4,5,6,7,12],[0,1,2,3,4,5,6,7,8,9,10,11,12,13]]) (sR [bC .eql 15 4 41,oV 41 40] (.cond (.t 40) (.reg [mT 6]) (.cut (sR [bC .eql 15 5 43,oV 43 42] (.cond (.t 42) .skip (.reg [bC .eql 15 6 44,oV 44 42]))) mc_9e))))))
@[irreducible] def mg_9g:List MOp:=[gT 68 69 (.ld (some 2) (.t 2)),ta_ 68 70 2 3,tL 68 71 70,gT 68 72 (.call (.f 261) [(.t 69),(.t 71)] [] []),pA 68 72 73]
@[irreducible] def mg_9h:List MOp:=[gT 74 75 (.ld (some 7) (.t 3)),gT 74 76 (.ld (some 7) (.t 5)),gT 74 77 (.eqs false [0,0,0,0,0,0,0] (.t 75) (.t 76)),pA 74 77 78]
@[irreducible] def mc_9i:MC := (.seq (.regI [.op (oV 6 67),.op (oV 67 68),.grp mg_9g,.op (oV 73 74),.grp mg_9h,.op (oV 78 4)]) .ret)
def mc_2u:MC := (sR [bx 0 2,bx 1 3,mF 4] (sR [oF 0 3 7,oL 7 8,oF 1 3 9,oL 9 10,oF 2 3 11,oL 11 12,mo (.build [(.int .i64 0),(.int .i64 0),(.int .i64 0),(.int .i64 0),(.int .i64 0),(.int .i64 0),(.int .i64 0)] [(0,1,(.t 8)),(1,1,(.t 10)),(2,1,(.t 12))]) 13,mo (.alloc [(.int .i64 0),(.int .i64 0),(.int .i64 0),(.int .i64 0),(.int .i64 0),(.int .i64 0),(.int .i64 0)]) 5,⟨.st 7 (.t 5) (.t 13),none,none⟩] (sR [mF 6] (.cut (sR [oF 1 3 14,oL 14 15] (.block 0 (.cut (sR [bC .eql 15 1 17,oV 17 16] (.cond (.t 16) .skip (.reg [bC .eql 15 2 18,oV 18 16]))) mc_9f))) mc_9i))))
instance:LI mc_9e 0 0 [2,3,5,6,15] [5,3,2] (fun y:Bool=>[(42,.bool y)]) (fun y=>[]) []:=⟨⟩
instance:LI mc_9f 0 0 [2,3,5,6,15] [5,3,2] (fun y:Bool=>[(16,.bool y)]) (fun y=>[]) []:=⟨⟩
instance:GV mg_9h 78 [75,76,77]:=⟨⟩
instance:GI mg_9g [3,5] [5,3] (fun y:Bool=>[(73,.bool y)]) (fun y=>[]):=⟨⟩
instance:LI mc_9i 0 0 [2,3,5] [3,2] (fun y:Bool×GAccess=>[(6,.bool y.1)]) (fun y=>[.o 5 (.cells [.int .i64 y.2.Time,.int .i64 y.2.Kind,.int .i64 y.2.Place,.int .i64 y.2.Principal,.int .i64 y.2.Until,.int .i64 y.2.Content,.int .i64 y.2.From])]) []:=⟨⟩
instance Wq_2u {a_:GEstate} {x_:GAccess}:WI (F_2u a_ x_) Tryz.prog 249 [GEstate.v a_,GAccess.v x_] [] (fun z=>.bool z) (fun z=>[]):=⟨fun Q Q' h hQ=>by
 refine acallM mc_2u [] [] [.t 4] Tryz.func249 fun M=>?_
 unfold F_2u at h
 unfold mc_2u
 exact tX⟩
def F_53 (a_:GEstate) (k137:Int) (a138:GAccess) (x136:Int):Option (Fl Int Int) := grp ((decide (a138.Time<x136)||decide (1099511627776<a138.Time))) fun b169=>bif b169 then some (.ex 34) else (F_2u a_ a138).bind fun y170=>bif (!y170) then some (.ex 34) else some (.nx a138.Time)
def F_h (a_:GEstate):Option Int := (F_f a_.Places 1 16).bind fun y7=>grp (((!y7)||decide (120<(a_.Events.length:Int)))) fun b8=>bif b8 then some 34 else (forL (F_53 a_) a_.Events 0 0).bind fun o=>o.elim (fun x171=>some 0) (fun r172=>some r172)
@[irreducible] def mg_9j:List MOp:=[fa_ 10 11 1 1,fL 10 12 11,gF 10 13 (.len false (.t 12)),gF 10 14 (.bin false .gtr (.t 13) (cI 120)),pO 10 14 15]
@[irreducible] def mg_9k:List MOp:=[fa_ 27 28 0 5,fL 27 29 28,gF 27 30 (.bin false .gtr (.t 29) (cI 1099511627776)),pO 27 30 31]
@[irreducible] def mc_53:MC := (sR [bT .lss 19 18 20] (.seq (.cond (.t 20) .skip (.exit 0)) (.seq (.block 1 (sR [iA 7 17 19 21,lN 7 21 22,mo (.alloc [(.int .i64 0),(.int .i64 0),(.int .i64 0),(.int .i64 0),(.int .i64 0),(.int .i64 0),(.int .i64 0)]) 5,⟨.st 7 (.t 5) (.t 22),none,none⟩] (.seq (.seq (.regI [.op (oF 0 5 23),.op (oL 23 24),.op (oV 3 25),.op (bT .lss 24 25 26),.op (oV 26 27),.grp mg_9k,.op (oV 31 32),.op (gF 32 33 (.ld (some 2) (.t 1))),.op (gF 32 34 (.ld (some 7) (.t 5))),.op (gF 32 35 (.call (.f 249) [(.t 33),(.t 34)] [] [])),.op (gF 32 36 (.not (.t 35))),.op (pO 32 36 37)]) (.cond (.t 37) (sR [oC 34 2] .ret) .skip)) (.note (.gc [1,5,17,18,19,28,29,30,33,34,35,36]) (.reg [oF 0 5 38,oL 38 39,oV 39 3]))))) (.reg [aI 19 1 40,oV 40 19]))))
def mc_h:MC := (sR [bx 0 1,oC 0 2] (.seq (.seq (.regI [.op (oF 0 1 6),.op (oL 6 7),.op (mo (.call (.f 233) [(.t 7),(cI 1),(cI 16)] [] []) 8),.op (nT 8 9),.op (oV 9 10),.grp mg_9j]) (.cond (.t 15) (sR [oC 34 2] .ret) .skip)) (sR [oC 0 3] (.seq (.seq (.note (.gc [1,3,28,29,30,33,34,35,36]) (.reg [oF 1 1 16,oL 16 17,lE 17 18,oC 0 19])) (.block 0 (.loop mc_53))) (sR [oC 0 2] .ret)))))
attribute [go_sem] F_53
instance:GV mg_9k 31 [28,29,30]:=⟨⟩
instance:LI mc_53 19 18 [1,17,18] [1] (fun y:Int=>[(3,.int .i64 y)]) (fun y=>[]) []:=⟨⟩
instance:GV mg_9j 15 [11,12,13,14]:=⟨⟩
instance Wq_h {a_:GEstate}:WI (F_h a_) Tryz.prog 232 [GEstate.v a_] [] (fun z=>.int .i64 z) (fun z=>[]):=⟨fun Q Q' h hQ=>by
 refine acallM mc_h [] [] [.t 2] Tryz.func232 fun M=>?_
 unfold F_h at h
 unfold mc_h
 exact tX⟩
def F_1j (d_:GDirectory) (a_:GEstate):Option Int := (F_1i d_).bind fun y4=>bif (!decide (y4=0)) then some y4 else (F_h a_).bind fun y6=>some y6
def mc_1j:MC := (sR [bx 0 2,bx 1 3,oC 0 4] (.seq (sR [lN 2 2 6,k1 231 6 7,oV 7 5] (sR [oV 5 8,bC .neq 8 0 9] (.cond (.t 9) (sR [oV 5 10,oV 10 4] .ret) .skip))) (.seq (.note (.gc [3]) (.reg [lN 2 3 11,k1 232 11 12,oV 12 4])) .ret)))
instance Wq_1j {d_:GDirectory} {a_:GEstate}:WI (F_1j d_ a_) Tryz.prog 206 [GDirectory.v d_,GEstate.v a_] [] (fun z=>.int .i64 z) (fun z=>[]):=⟨fun Q Q' h hQ=>by
 refine acallM mc_1j [] [] [.t 4] Tryz.func206 fun M=>?_
 unfold F_1j at h
 unfold mc_1j
 exact tX⟩
def F_2v (d_:GDirectory) (a_:GEstate) (content_:Int):Option Int := (F_1j d_ a_).bind fun y4=>bif (!decide (y4=0)) then some y4 else (F_8 content_).bind fun y8=>bif (!y8) then some 2 else some 0
def mc_2v:MC := (sR [bx 0 3,bx 1 4,oC 0 6] (.seq (sR [lN 2 3 8,lN 2 4 9,k2 206 8 9 10,oV 10 7] (sR [oV 7 11,bC .neq 11 0 12] (.cond (.t 12) (sR [oV 7 13,oV 13 6] .ret) .skip))) (.seq (.seq (.note (.gc [2]) (.reg [oV 2 14,k1 207 14 15,nT 15 16])) (.cond (.t 16) (sR [oC 2 6] .ret) .skip)) (sR [oC 0 6] .ret))))
instance Wq_2v {d_:GDirectory} {a_:GEstate} {content_:Int}:WI (F_2v d_ a_ content_) Tryz.prog 156 [GDirectory.v d_,GEstate.v a_,.int .i64 content_] [] (fun z=>.int .i64 z) (fun z=>[]):=⟨fun Q Q' h hQ=>by
 refine acallM mc_2v [] [] [.t 6] Tryz.func156 fun M=>?_
 unfold F_2v at h
 unfold mc_2v
 exact tX⟩
def F_43 (k20:Int) (a21:GAccess) (x19:List Int):Option (List Int) := chk (room (x19.length+[a21.Time].length) 8) (some (x19++[a21.Time]))
def F_1k (a_:GEstate):Option (List Int) := (F_h a_).bind fun y4=>bif (!decide (y4=0)) then some [] else (foldL F_43 a_.Events 0 []).bind fun x22=>(compactI x22).bind fun y24=>some ((y24.2.drop 0).take y24.1)
@[irreducible] def mc_43:MC := (sR [bT .lss 12 11 13] (.seq (.cond (.t 13) .skip (.exit 0)) (.seq (.block 1 (sR [iA 7 10 12 14,lN 7 14 15,mo (.alloc [(.int .i64 0),(.int .i64 0),(.int .i64 0),(.int .i64 0),(.int .i64 0),(.int .i64 0),(.int .i64 0)]) 5,⟨.st 7 (.t 5) (.t 15),none,none⟩] (.reg [oV 3 16,oF 0 5 17,oL 17 18,mo (.bslice 1 [(.t 18)]) 19,ap 1 8 16 19 20,oV 20 3]))) (.reg [aI 12 1 21,oV 21 12]))))
def mc_1k:MC := (sR [bx 0 1,mo (.mv (.c .nils)) 2] (.seq (sR [lN 2 1 6,k1 232 6 7,bC .neq 7 0 8] (.cond (.t 8) (sR [mo (.mv (.c .nils)) 2] .ret) .skip)) (sR [mo (.mv (.c .nils)) 3] (.seq (sR [oF 1 1 9,oL 9 10,lE 10 11,oC 0 12] (.block 0 (.loop mc_43))) (sR [oV 3 22,mo (.call (.f 236) [(.t 22)] [2003] []) 23,oV 23 2] .ret)))))
instance Wq_1k {a_:GEstate}:WI (F_1k a_) Tryz.prog 234 [GEstate.v a_] [] (fun z=>.osl 1900 1 0 z.length) (fun z=>[(1900,.arr 1 (z.map (V.int .i64)))]):=⟨fun Q Q' h hQ=>by
 refine acallM mc_1k [.gc [2],.trim 2,.acc 2 1900 1] [1900] [.t 2] Tryz.func234 fun M=>?_
 unfold F_1k at h
 unfold mc_1k
 replace h:=tY h
 refine tB ?_
 repeat' (first
 | (exact tZ)
 | (refine And.intro (by refine ⟨?_,?_,?_,?_⟩<;>omega) ?_;first|exact hQ _ h|(rw [zP (by omega)];exact hQ _ h))
 | (rw [←hlen];exact hQ _ h)
 | (have hq:=hQ _ h;simp only [xZ,Nat.min_eq_left hlen.1] at hq;exact hq)
 | ((first|refine oblg h ?_|refine roomG h ?_|refine inbG h ?_|refine incG h ?_|refine divG h ?_|refine appG h ?_|refine appC h ?_|refine fork h ?_ ?_|refine forkS h ?_ ?_)<;>clear h<;>intro hc h)
 | (obtain ⟨y,hy,h⟩:=h;(first|(have hw:=acall_swe 1000 2003 (W_89 hy);replace hw:=tY hw;(try simp only [hlen] at hw);have hlen:=compactI_len hy)|have hw:=WI.w hy);replace hw:=tY hw;(first|refine M.sC hw ?_|refine M.sD hw ?_);clear hw hy;refine tB ?_)
 | (refine M.fold1 (b:=mc_43) 12 [10,11] [] (fun x=>[(3,.osl 2003 1 0 x.length)]) (fun x=>[.o 2003 (.arr 1 (x.map (V.int .i64)))]) [.gc [3,10,11,12],.acc 3 2003 1] h ?_ ?_ ?_<;>first
 | (clear h;intro k a x Qn K hK1 hkN1 ha1 h hf;have hl:=fact_int (factsE_find (n:=11) hf.1 rfl);clear hf;have hkd:=kD hkN1;have hkB1:=kB hkN1;have hkI1:=kI (k:=k) (by omega);(try simp only [hlen] at hkd hkB1 hkN1);unfold F_43 at h;unfold mc_43;replace h:=tY h;refine tK ha1 hkd hkN1 hkB1 hkI1 ?_)
  |(clear h;intro x K h;replace h:=And.left (And.intro h trivial);(try simp only [hlen]);unfold mc_43;replace h:=tY h;refine tB ?_)
  |(clear h;(try refine tB ?_);exact tU0;done))
 | (simp only [ha1])
 | (refine hK1 _ ?_;(try refine tB ?_);refine ⟨_,h,?_⟩;exact tU0;done)
 | (refine tE ?_;(first|rw [M.lok_compU]|rw [M.lokD_compU]);refine tB ?_)
 | (refine tA ?_)
 | fail)⟩
def F_44 (k18:Int) (a19:GMember) (x17:List Int):Option (List Int) := chk (room (x17.length+[a19.Time].length) 8) (some (x17++[a19.Time]))
def F_2w (d_:GDirectory) (a_:GEstate):Option (List Int) := (F_1k a_).bind fun y2=>(foldL F_44 d_.Events 0 y2).bind fun x20=>(sortI x20).bind fun y22=>(compactI y22).bind fun y24=>some ((y24.2.drop 0).take y24.1)
@[irreducible] def mc_44:MC := (sR [bT .lss 13 12 14] (.seq (.cond (.t 14) .skip (.exit 0)) (.seq (.block 1 (sR [iA 4 11 13 15,lN 4 15 16,mo (.alloc [(.int .i64 0),(.int .i64 0),(.int .i64 0),(.int .i64 0)]) 7,⟨.st 4 (.t 7) (.t 16),none,none⟩] (.reg [oV 5 17,oF 0 7 18,oL 18 19,mo (.bslice 1 [(.t 19)]) 20,ap 1 8 17 20 21,oV 21 5]))) (.reg [aI 13 1 22,oV 22 13]))))
def mc_2w:MC := (sR [bx 0 2,bx 1 3,mo (.mv (.c (.sl []))) 4] (sR [lN 2 3 8,mo (.call (.f 234) [(.t 8)] [] [9]) 9,oV 9 5] (.seq (sR [oF 1 2 10,oL 10 11,lE 11 12,oC 0 13] (.block 0 (.loop mc_44))) (sR [oV 5 23,mo (.call (.f 235) [(.t 23)] [2005] []) 24] (sR [oV 5 25,mo (.call (.f 236) [(.t 25)] [2005] []) 26,oV 26 4] .ret)))))
instance Wq_2w {d_:GDirectory} {a_:GEstate}:WI (F_2w d_ a_) Tryz.prog 208 [GDirectory.v d_,GEstate.v a_] [] (fun z=>.sl (z.map (V.int .i64))) (fun z=>[]):=⟨fun Q Q' h hQ=>by
 refine acallM mc_2w [.fz 4] [] [.t 4] Tryz.func208 fun M=>?_
 unfold F_2w at h
 unfold mc_2w
 replace h:=tY h
 refine tB ?_
 repeat' (first
 | (exact tZ)
 | (refine And.intro (by refine ⟨?_,?_,?_,?_⟩<;>omega) ?_;first|exact hQ _ h|(rw [zP (by omega)];exact hQ _ h))
 | (rw [←hlen];exact hQ _ h)
 | (have hq:=hQ _ h;simp only [xZ,Nat.min_eq_left hlen.1] at hq;exact hq)
 | ((first|refine oblg h ?_|refine roomG h ?_|refine inbG h ?_|refine incG h ?_|refine divG h ?_|refine appG h ?_|refine appC h ?_|refine fork h ?_ ?_|refine forkS h ?_ ?_)<;>clear h<;>intro hc h)
 | (obtain ⟨y,hy,h⟩:=h;(first|have hw:=acall_swe 1900 9 (Wq_1k.c.w hy)|(have hw:=acall_swe 1000 2005 (W_7b hy);replace hw:=tY hw;(try simp only [hlen] at hw);have hlen:=sortI_len hy)|(have hw:=acall_swe 1000 2005 (W_89 hy);replace hw:=tY hw;(try simp only [hlen] at hw);have hlen:=compactI_len hy));replace hw:=tY hw;(first|refine M.sC hw ?_|refine M.sD hw ?_);clear hw hy;refine tB ?_)
 | (refine M.fold1 (b:=mc_44) 13 [11,12] [] (fun x=>[(5,.osl 2005 1 0 x.length)]) (fun x=>[.o 2005 (.arr 1 (x.map (V.int .i64)))]) [.gc [5,11,12,13],.acc 5 2005 1] h ?_ ?_ ?_<;>first
 | (clear h;intro k a x Qn K hK1 hkN1 ha1 h hf;have hl:=fact_int (factsE_find (n:=12) hf.1 rfl);clear hf;have hkd:=kD hkN1;have hkB1:=kB hkN1;have hkI1:=kI (k:=k) (by omega);(try simp only [hlen] at hkd hkB1 hkN1);unfold F_44 at h;unfold mc_44;replace h:=tY h;refine tK ha1 hkd hkN1 hkB1 hkI1 ?_)
  |(clear h;intro x K h;replace h:=And.left (And.intro h trivial);(try simp only [hlen]);unfold mc_44;replace h:=tY h;refine tB ?_)
  |(clear h;(try refine tB ?_);exact tU0;done))
 | (simp only [ha1])
 | (refine hK1 _ ?_;(try refine tB ?_);refine ⟨_,h,?_⟩;exact tU0;done)
 | (refine tE ?_;(first|rw [M.lok_compU]|rw [M.lokD_compU]);refine tB ?_)
 | (refine tA ?_)
 | fail)⟩
def F_x (content_:Int):Option Int := chk (shok content_ 64) (some (IntKind.wrap .u64 (1*2^(content_).toNat)))
def mc_x:MC := (sR [mo (.mv (.c (.int .u64 0))) 2] (sR [oV 0 3,mo (.bin false .shl (.c (.int .u64 1)) (.t 3)) 4,oV 4 2] .ret))
instance Wq_x {content_:Int}:WI (F_x content_) Tryz.prog 253 [.int .i64 content_] [] (fun z=>.int .u64 z) (fun z=>[]):=⟨fun Q Q' h hQ=>by
 refine acallM mc_x [] [] [.t 2] Tryz.func253 fun M=>?_
 unfold F_x at h
 unfold mc_x
 exact tX⟩
def F_5 (s_:List Int) (x_:GAccess):Option (List Int) := bif decide (x_.Kind=5) then chk (inb x_.Place s_.length) ((F_x x_.Content).bind fun y1=>chk (inb x_.Place s_.length) (some (s_.set ((x_.Place).toNat) (bits .or .u64 (s_.getD ((x_.Place).toNat) default) y1)))) else bif decide (x_.Kind=6) then chk (inb x_.Place s_.length) ((F_x x_.Content).bind fun y2=>chk (inb x_.Place s_.length) (some (s_.set ((x_.Place).toNat) (bits .andNot .u64 (s_.getD ((x_.Place).toNat) default) y2)))) else bif decide (x_.Kind=7) then chk (inb x_.Place s_.length) (chk (inb x_.From s_.length) (chk (inb x_.Place s_.length) (some (s_.set ((x_.Place).toNat) (bits .or .u64 (s_.getD ((x_.Place).toNat) default) (s_.getD ((x_.From).toNat) default)))))) else some s_
def mc_5:MC := (sR [bx 1 3] (sR [oF 1 3 4,oL 4 5] (.block 0 (sR [bC .eql 5 5 7,oV 7 6] (.cond (.t 6) (.regD [oV 0 8,oF 2 3 9,oL 9 10,iA 1 8 10 11,oL 11 12,oF 5 3 13,oL 13 14,k1 253 14 15,bT .or 12 15 16,iA 1 8 10 17,⟨.st 1 (.t 17) (.t 16),none,none⟩] [[],[],[1],[0,2],[3],[],[5],[6],[4,7],[0,2,0,1,2,3,4,5,6,7,8],[9,8,7,0,1,2,3,4,5,6,7,8]] [[],[],[1],[0,1,2],[0,1,2,3],[],[5],[5,6],[0,1,2,3,4,5,6,7],[0,1,2,3,4,5,6,7,8],[0,1,2,3,4,5,6,7,8,9]]) (sR [bC .eql 5 6 19,oV 19 18] (.cond (.t 18) (.regD [oV 0 20,oF 2 3 21,oL 21 22,iA 1 20 22 23,oL 23 24,oF 5 3 25,oL 25 26,k1 253 26 27,bT .andNot 24 27 28,iA 1 20 22 29,⟨.st 1 (.t 29) (.t 28),none,none⟩] [[],[],[1],[0,2],[3],[],[5],[6],[4,7],[0,2,0,1,2,3,4,5,6,7,8],[9,8,7,0,1,2,3,4,5,6,7,8]] [[],[],[1],[0,1,2],[0,1,2,3],[],[5],[5,6],[0,1,2,3,4,5,6,7],[0,1,2,3,4,5,6,7,8],[0,1,2,3,4,5,6,7,8,9]]) (sR [bC .eql 5 7 31,oV 31 30] (.cond (.t 30) (.note (.gc [0,3]) (.regD [oV 0 32,oF 2 3 33,oL 33 34,iA 1 32 34 35,oL 35 36,oV 0 37,oF 6 3 38,oL 38 39,iA 1 37 39 40,oL 40 41,bT .or 36 41 42,iA 1 32 34 43,⟨.st 1 (.t 43) (.t 42),none,none⟩] [[],[],[1],[0,2],[3],[],[],[6],[5,7],[8],[4,9],[0,2,0,1,2,3,4,5,6,7,8,9,10],[11,10,0,1,2,3,4,5,6,7,8,9,10]] [[],[],[1],[0,1,2],[0,1,2,3],[],[],[6],[5,6,7],[5,6,7,8],[0,1,2,3,4,5,6,7,8,9],[0,1,2,3,4,5,6,7,8,9,10],[0,1,2,3,4,5,6,7,8,9,10,11]])) .skip)))))))))
instance Wq_5 {s_:List Int} {x_:GAccess}:WI (F_5 s_ x_) Tryz.prog 272 [.osl 1000 1 0 s_.length,GAccess.v x_] [(1000,.arr 1 (s_.map (V.int .u64)))] (fun z=>.tup []) (fun z=>[(1000,.arr 1 (z.map (V.int .u64)))]):=⟨fun Q Q' h hQ=>by
 refine acallM mc_5 [] [1000] [] Tryz.func272 fun M=>?_
 unfold F_5 at h
 unfold mc_5
 exact tX⟩
theorem F_b6 {s_:List Int} {x_:GAccess} {y:List Int} (h:(F_5 s_ x_)=some y):y.length=s_.length:=by
 simp only [F_5,chk,cond_eq_ite,zL] at h
 repeat' (first|(split at h)|(simp only [zL] at h)|(obtain ⟨_,_,h⟩:=h)|(cases h;done)|(obtain rfl:=wG h;simp;done)|(simp;done)|(subst h;simp;done))
def F_y (t_:Int) (k30:Int) (a31:GAccess) (x29:List Int):Option (List Int) := bif decide (a31.Time≤t_) then (F_5 x29 a31).bind fun y35=>some y35 else some x29
def F_a (a_:GEstate) (t_:Int):Option (List Int) := chk (roomI a_.Places a_.Places 8) ((foldL (F_y t_) a_.Events 0 (List.replicate (a_.Places).toNat 0)).bind fun x36=>some x36)
@[irreducible] def mc_y:MC := (sR [bT .lss 14 13 15] (.seq (.cond (.t 15) .skip (.exit 0)) (.seq (.block 1 (sR [iA 7 12 14 16,lN 7 16 17,mo (.alloc [(.int .i64 0),(.int .i64 0),(.int .i64 0),(.int .i64 0),(.int .i64 0),(.int .i64 0),(.int .i64 0)]) 7,⟨.st 7 (.t 7) (.t 17),none,none⟩] (sR [oF 0 7 18,oL 18 19,oV 1 20,bT .leq 19 20 21] (.cond (.t 21) (.reg [oV 5 22,lN 7 7 23,mo (.call (.f 272) [(.t 22),(.t 23)] [10] []) 24]) .skip)))) (.reg [aI 14 1 25,oV 25 14]))))
def mc_a:MC := (sR [bx 0 2,mo (.mv (.c (.sl []))) 4] (sR [oF 0 2 8,oL 8 9,mo (.mksl 1 8 (.int .u64 0) (.t 9) (.t 9)) 10,oV 10 5] (.seq (sR [oF 1 2 11,oL 11 12,lE 12 13,oC 0 14] (.block 0 (.loop mc_y))) (sR [oV 5 26,oV 26 4] .ret))))
instance Wq_a {a_:GEstate} {t_:Int}:WI (F_a a_ t_) Tryz.prog 252 [GEstate.v a_,.int .i64 t_] [] (fun z=>.sl (z.map (V.int .u64))) (fun z=>[]):=⟨fun Q Q' h hQ=>by
 refine acallM mc_a [.fz 4] [] [.t 4] Tryz.func252 fun M=>?_
 unfold F_a at h
 unfold mc_a
 replace h:=tY h
 refine tB ?_
 repeat' (first
 | (exact tZ)
 | ((first|refine oblg h ?_|refine roomG h ?_|refine inbG h ?_|refine incG h ?_|refine divG h ?_|refine appG h ?_|refine appC h ?_|refine fork h ?_ ?_|refine forkS h ?_ ?_)<;>clear h<;>intro hc h)
 | (obtain ⟨y,hy,h⟩:=h;(have hw:=acall_swe 1000 10 (Wq_5.c.w hy);replace hw:=tY hw;have hlen:=F_b6 hy);replace hw:=tY hw;(first|refine M.sC hw ?_|refine M.sD hw ?_);clear hw hy;refine tB ?_)
 | (refine M.fold1 (b:=mc_y) 14 [1,12,13] [] (fun x=>[(5,.osl 10 1 0 x.length)]) (fun x=>[.o 10 (.arr 1 (x.map (V.int .u64)))]) [] h ?_ ?_ ?_<;>first
 | (clear h;intro k a x Qn K hK1 hkN1 ha1 h hf;have hl:=fact_int (factsE_find (n:=13) hf.1 rfl);clear hf;have hkd:=kD hkN1;have hkB1:=kB hkN1;have hkI1:=kI (k:=k) (by omega);(try simp only [hlen] at hkd hkB1 hkN1);unfold F_y at h;unfold mc_y;replace h:=tY h;refine tK ha1 hkd hkN1 hkB1 hkI1 ?_)
  |(clear h;intro x K h;replace h:=And.left (And.intro h trivial);(try simp only [hlen]);unfold mc_y;replace h:=tY h;refine tB ?_)
  |(clear h;(try refine tB ?_);exact tU;done))
 | (simp only [ha1])
 | (refine hK1 _ ?_;(try refine tB ?_);refine ⟨_,h,?_⟩;exact tU;done)
 | (refine tE ?_;(first|rw [M.lok_compU]|rw [M.lokD_compU]);refine tB ?_)
 | (refine tA ?_)
 | fail)⟩
def F_54 (content_:Int) (k56:Int) (a57:Int) (x55:List Int):Option (List Int) := (F_x content_).bind fun y65=>bif (!decide ((bits .and .u64 a57 y65)=0)) then chk (room (x55.length+[k56].length) 8) (some (x55++[k56])) else some x55
def F_d (a_:GEstate) (content_:Int) (t_:Int):Option (List Int) := (F_h a_).bind fun y7=>bif (!decide (y7=0)) then some [] else (F_8 content_).bind fun y8=>bif (!y8) then some [] else (F_a a_ t_).bind fun y37=>(foldL (F_54 content_) y37 0 []).bind fun x66=>some x66
@[irreducible] def mc_54:MC := (sR [bT .lss 22 21 23] (.seq (.cond (.t 23) .skip (.exit 0)) (.seq (.block 1 (sR [oV 22 24,iA 1 20 22 25,oL 25 26,oV 24 8,oV 26 9] (sR [oV 9 27,oV 1 28,k1 253 28 29,bT .and 27 29 30,mo (.bin false .neq (.t 30) (.c (.int .u64 0))) 31] (.cond (.t 31) (.note (.gc [1,7,8,20,21,22]) (.reg [oV 7 32,oV 8 33,mo (.bslice 1 [(.t 33)]) 34,ap 1 8 32 34 35,oV 35 7])) .skip)))) (.reg [aI 22 1 36,oV 36 22]))))
def mc_d:MC := (sR [bx 0 3,mo (.mv (.c (.sl []))) 6] (.seq (sR [lN 2 3 10,k1 232 10 11,bC .neq 11 0 12,oV 12 13,fV 13 14 1,gF 13 15 (.call (.f 207) [(.t 14)] [] []),gF 13 16 (.not (.t 15)),pO 13 16 17] (.cond (.t 17) (sR [mo (.mv (.c (.sl []))) 6] .ret) .skip)) (sR [mo (.mv (.c .nils)) 7] (.seq (.seq (.note (.gc [1,2,3,7]) (.reg [lN 2 3 18,oV 2 19,k2 252 18 19 20,lE 20 21,oC 0 22])) (.block 0 (.loop mc_54))) (sR [oV 7 37,oV 37 6] .ret)))))
attribute [go_sem] F_54
instance:LI mc_54 22 21 [1,20,21] [] (fun y:List Int=>[(7,.osl 2007 1 0 y.length)]) (fun y=>[.o 2007 (.arr 1 (y.map (V.int .i64)))]) [.gc [1,7,20,21,22],.acc 7 2007 1]:=⟨⟩
instance Wq_d {a_:GEstate} {content_ t_:Int}:WI (F_d a_ content_ t_) Tryz.prog 237 [GEstate.v a_,.int .i64 content_,.int .i64 t_] [] (fun z=>.sl (z.map (V.int .i64))) (fun z=>[]):=⟨fun Q Q' h hQ=>by
 refine acallM mc_d [.fz 6] [] [.t 6] Tryz.func237 fun M=>?_
 unfold F_d at h
 unfold mc_d
 exact tX⟩
def F_e (a_:GEstate) (place_:Int):Option Bool := (F_h a_).bind fun y4=>jn (α:=Bool) (bif decide (y4=0) then (F_g a_ place_).bind fun y6=>some y6 else some false) fun j7=>some j7
@[irreducible] def mg_9l:List MOp:=[gT 8 9 (.ld (some 2) (.t 2)),tV 8 10 1,gT 8 11 (.call (.f 261) [(.t 9),(.t 10)] [] []),pA 8 11 12]
def mc_e:MC := (sR [bx 0 2,mF 4] (.seq (.regI [.op (lN 2 2 5),.op (k1 232 5 6),.op (bC .eql 6 0 7),.op (oV 7 8),.grp mg_9l,.op (oV 12 4)]) .ret))
instance:GI mg_9l [4] [] (fun y:Bool=>[(12,.bool y)]) (fun y=>[]):=⟨⟩
instance Wq_e {a_:GEstate} {place_:Int}:WI (F_e a_ place_) Tryz.prog 254 [GEstate.v a_,.int .i64 place_] [] (fun z=>.bool z) (fun z=>[]):=⟨fun Q Q' h hQ=>by
 refine acallM mc_e [] [] [.t 4] Tryz.func254 fun M=>?_
 unfold F_e at h
 unfold mc_e
 exact tX⟩
def F_7a (place_:Int) (t_:Int) (k24:Int) (a19:Int×GAccess) (x18:Unit):Option (Fl Unit (Int×Bool)) := grp ((decide (t_<a19.2.Time)||(!decide (a19.2.Place=place_)))) fun b26=>bif b26 then some (.nx ()) else bif decide (a19.2.Kind=4) then some (.ex (0,false)) else grp ((decide (a19.2.Kind=3)&&decide (t_<a19.2.Until))) fun b28=>bif b28 then some (.ex (a19.1,true)) else some (.nx ())
def F_1l (a_:GEstate) (place_:Int) (t_:Int):Option (Int×Bool) := (F_e a_ place_).bind fun y4=>bif (!y4) then some (0,false) else (backF a_.Events).bind fun y17=>(forL (F_7a place_ t_) (revp a_.Events) 0 ()).bind fun o=>o.elim (fun x29=>some (0,false)) (fun r30=>some r30)
@[irreducible] def mg_7q:List MOp:=[fa_ 24 25 2 9,fL 24 26 25,fL 24 27 4,gF 24 28 (.bin false .neq (.t 26) (.t 27)),pO 24 28 29]
@[irreducible] def mg_7r:List MOp:=[ta_ 38 39 4 9,tL 38 40 39,tL 38 41 5,gT 38 42 (.bin false .gtr (.t 40) (.t 41)),pA 38 42 43]
@[irreducible] def mc_7s:MC := (.block 1 (.block 2 (.seq (.note (.gc [4,5,6,7,8,9,25,26,27,28,39,40,41,42]) (.regI [.op (oF 0 9 20),.op (oL 20 21),.op (oL 5 22),.op (bT .gtr 21 22 23),.op (oV 23 24),.grp mg_7q,.op (oV 29 19)])) (.cond (.t 19) .skip (.seq (.note (.gc [5,6,7,8,9,39,40,41,42]) (.reg [oF 1 9 31,oL 31 32,bC .eql 32 4 33,oV 33 30])) (.cond (.t 30) (sR [⟨.st 1 (.t 6) (cI 0),none,none⟩,⟨.st 1 (.t 7) (.c (.bool false)),none,none⟩] .ret) (.seq (.regI [.op (oF 1 9 35),.op (oL 35 36),.op (bC .eql 36 3 37),.op (oV 37 38),.grp mg_7r,.op (oV 43 34)]) (.cond (.t 34) (.seq (.note (.gc [6,7,8]) (.reg [oV 8 44,⟨.st 1 (.t 6) (.t 44),none,none⟩,⟨.st 1 (.t 7) (.c (.bool true)),none,none⟩])) .ret) .skip))))))))
def mc_1l:MC := (sR [bx 0 3,bx 1 4,bx 2 5,mo (.alloc [(.int .i64 0)]) 6,mo (.alloc [(.bool false)]) 7] (.seq (sR [lN 2 3 10,oL 4 11,k2 254 10 11 12,nT 12 13] (.cond (.t 13) (sR [⟨.st 1 (.t 6) (cI 0),none,none⟩,⟨.st 1 (.t 7) (.c (.bool false)),none,none⟩] .ret) .skip)) (.seq (sR [oF 1 3 14,oL 14 15,k1 255 15 16] (.block 0 (.rngF (.t 16) [17,18] (sR [oV 17 8] (.reg [mo (.alloc [(.int .i64 0),(.int .i64 0),(.int .i64 0),(.int .i64 0),(.int .i64 0),(.int .i64 0),(.int .i64 0)]) 9,⟨.st 7 (.t 9) (.t 18),none,none⟩])) mc_7s))) (sR [⟨.st 1 (.t 6) (cI 0),none,none⟩,⟨.st 1 (.t 7) (.c (.bool false)),none,none⟩] .ret))))
instance Wq_1l {a_:GEstate} {place_ t_:Int}:WI (F_1l a_ place_ t_) Tryz.prog 238 [GEstate.v a_,.int .i64 place_,.int .i64 t_] [] (fun z=>.tup [.int .i64 z.1,.bool z.2]) (fun z=>[]):=⟨fun Q Q' h hQ=>by
 refine acallM mc_1l [] [] [.c 6 none,.c 7 none] Tryz.func238 fun M=>?_
 unfold F_1l at h
 unfold mc_1l
 replace h:=tY h
 refine tB ?_
 repeat' (first
 | (exact tZ)
 | ((first|refine oblg h ?_|refine roomG h ?_|refine inbG h ?_|refine incG h ?_|refine divG h ?_|refine appG h ?_|refine appC h ?_|refine fork h ?_ ?_|refine forkS h ?_ ?_)<;>clear h<;>intro hc h)
 | (obtain ⟨y,hy,h⟩:=h;(first|have hw:=W_b4 (f:=GAccess.v) hy|have hw:=WI.w hy);replace hw:=tY hw;(first|refine M.sC hw ?_|refine M.sD hw ?_);clear hw hy;refine tB ?_)
 | (refine M.gv1 (ms:=mg_7r) 43 [39,40,41,42] h ?_ ?_<;>first
 | (clear h;intro K hK1;unfold mg_7r;refine tB ?_)
 | (clear h;intro b h;replace h:=tY h;refine tB ?_))
 | (refine M.gv1 (ms:=mg_7q) 29 [25,26,27,28] h ?_ ?_<;>first
 | (clear h;intro K hK2;unfold mg_7q;refine tB ?_)
 | (clear h;intro b h;replace h:=tY h;refine tB ?_))
 | (refine M.rfor (b:=mc_7s) (enc:=fun a=>[.int .i64 a.1,GAccess.v a.2]) [3,4,5,6,7] [3,7,6,5,4] (fun x=>[]) [] h rfl (W_b5 fun a=>⟨_,rfl,rfl,rfl⟩) rfl (fun a=>⟨rfl,rfl⟩) ?_ ?_ rfl ?_<;>first
 | (clear h;intro k a x Qn K hK3 hkN3 h hf;clear hf;unfold F_7a at h;unfold mc_7s;replace h:=tY h;refine tB ?_)
  |(clear h;intro x h;replace h:=tY h;refine tB ?_)
  |(clear h;(try refine tB ?_);exact tU0;done))
 | ((first|refine hK1 _ ?_|refine hK2 _ ?_);exact tU;done)
 | (refine hK3 _ ?_;(try refine tB ?_);refine ⟨_,h,?_⟩;exact tU0;done)
 | (refine bfork (fun hc=>?_) (fun hc=>?_))
 | (refine tE ?_;(first|rw [M.lok_compU]|rw [M.lokD_compU]);refine tB ?_)
 | (refine tA ?_)
 | fail)⟩
def F_2x (d_:GDirectory) (p_:Int):Option Bool := grp ((decide (0≤p_)&&decide (p_<(d_.Kinds.length:Int)))) fun b3=>jn (α:=Bool) (bif b3 then chk (inb p_ d_.Kinds.length) (some (!decide ((d_.Kinds.getD (p_).toNat default)=2))) else some false) fun j4=>some j4
@[irreducible] def mg_9m:List MOp:=[tV 7 8 1,ta_ 7 9 0 2,tL 7 10 9,gT 7 11 (.len false (.t 10)),gT 7 12 (.bin false .lss (.t 8) (.t 11)),pA 7 12 13]
@[irreducible] def mg_9n:List MOp:=[ta_ 14 15 0 2,tL 14 16 15,tV 14 17 1,gT 14 18 (.iad 1 (.t 16) (.t 17)),tL 14 19 18,gT 14 20 (.bin false .neq (.t 19) (cI 2)),pA 14 20 21]
def mc_2x:MC := (sR [bx 0 2,mF 4] (.seq (.regI [.op (oV 1 5),.op (bC .geq 5 0 6),.op (oV 6 7),.grp mg_9m,.op (oV 13 14),.grp mg_9n,.op (oV 21 4)]) .ret))
instance:GI mg_9n [4] [] (fun y:Bool=>[(21,.bool y)]) (fun y=>[]):=⟨⟩
instance:GV mg_9m 13 [8,9,10,11,12]:=⟨⟩
instance Wq_2x {d_:GDirectory} {p_:Int}:WI (F_2x d_ p_) Tryz.prog 274 [GDirectory.v d_,.int .i64 p_] [] (fun z=>.bool z) (fun z=>[]):=⟨fun Q Q' h hQ=>by
 refine acallM mc_2x [] [] [.t 4] Tryz.func274 fun M=>?_
 unfold F_2x at h
 unfold mc_2x
 exact tX⟩
def F_2y (d_:GDirectory) (a_:GEstate) (p_:Int) (place_:Int):Option Bool := (F_1j d_ a_).bind fun y6=>jn (α:=Bool) (bif decide (y6=0) then (F_2x d_ p_).bind fun y8=>some y8 else some false) fun j9=>jn (α:=Bool) (bif j9 then (F_g a_ place_).bind fun y11=>some y11 else some false) fun j12=>some j12
@[irreducible] def mg_9o:List MOp:=[gT 13 14 (.ld (some 2) (.t 4)),tV 13 15 2,gT 13 16 (.call (.f 274) [(.t 14),(.t 15)] [] []),pA 13 16 17]
@[irreducible] def mg_9p:List MOp:=[gT 18 19 (.ld (some 2) (.t 5)),tV 18 20 3,gT 18 21 (.call (.f 261) [(.t 19),(.t 20)] [] []),pA 18 21 22]
def mc_2y:MC := (sR [bx 0 4,bx 1 5,mF 8] (.seq (.regI [.op (lN 2 4 9),.op (lN 2 5 10),.op (k2 206 9 10 11),.op (bC .eql 11 0 12),.op (oV 12 13),.grp mg_9o,.op (oV 17 18),.grp mg_9p,.op (oV 22 8)]) .ret))
instance:GI mg_9p [8] [] (fun y:Bool=>[(22,.bool y)]) (fun y=>[]):=⟨⟩
instance:GI mg_9o [3,5,8] [5] (fun y:Bool=>[(17,.bool y)]) (fun y=>[]):=⟨⟩
instance Wq_2y {d_:GDirectory} {a_:GEstate} {p_ place_:Int}:WI (F_2y d_ a_ p_ place_) Tryz.prog 256 [GDirectory.v d_,GEstate.v a_,.int .i64 p_,.int .i64 place_] [] (fun z=>.bool z) (fun z=>[]):=⟨fun Q Q' h hQ=>by
 refine acallM mc_2y [] [] [.t 8] Tryz.func256 fun M=>?_
 unfold F_2y at h
 unfold mc_2y
 exact tX⟩
def F_2z (d_:GDirectory) (p_:Int):Option Bool := (F_1i d_).bind fun y4=>jn (α:=Bool) (bif decide (y4=0) then (F_w d_ p_).bind fun y6=>some y6 else some false) fun j7=>some j7
@[irreducible] def mg_9q:List MOp:=[gT 8 9 (.ld (some 2) (.t 2)),tV 8 10 1,gT 8 11 (.call (.f 247) [(.t 9),(.t 10)] [] []),pA 8 11 12]
def mc_2z:MC := (sR [bx 0 2,mF 4] (.seq (.regI [.op (lN 2 2 5),.op (k1 231 5 6),.op (bC .eql 6 0 7),.op (oV 7 8),.grp mg_9q,.op (oV 12 4)]) .ret))
instance:GI mg_9q [4] [] (fun y:Bool=>[(12,.bool y)]) (fun y=>[]):=⟨⟩
instance Wq_2z {d_:GDirectory} {p_:Int}:WI (F_2z d_ p_) Tryz.prog 289 [GDirectory.v d_,.int .i64 p_] [] (fun z=>.bool z) (fun z=>[]):=⟨fun Q Q' h hQ=>by
 refine acallM mc_2z [] [] [.t 4] Tryz.func289 fun M=>?_
 unfold F_2z at h
 unfold mc_2z
 exact tX⟩
noncomputable def F_55 (k351:Int) (a352:Bool) (x350:(List Int)×(List Bool)):Option ((List Int)×(List Bool)) := jn (α:=Bool) (bif a352 then chk (inb k351 x350.2.length) (some (!(x350.2.getD ((k351).toNat) default))) else some false) fun j360=>bif j360 then chk (room (x350.1.length+[k351].length) 8) (chk (inb k351 x350.2.length) (some ((x350.1++[k351]),x350.2.set ((k351).toNat) true))) else some (x350.1,x350.2)
noncomputable def F_6c (x_:List (List Bool)) (x257:(List Int)×(List Bool)):Option (Fl ((List Int)×(List Bool)) (List Bool)) := bif decide (0<(x257.1.length:Int)) then chk (inb 0 x257.1.length) (chk (inb (x257.1.getD 0 default) x_.length) ((foldL F_55 (x_.getD (x257.1.getD 0 default).toNat default) 0 (x257.1,x257.2)).bind fun x361=>chk (inc 1 (x361.1.length:Int) x361.1.length) (some (.nx ((x361.1.drop 1).take (x361.1.length - 1),x361.2))))) else some (.ex x257.2)
noncomputable def F_30 (x_:List (List Bool)) (p_:Int):Option (List Bool) := chk (roomI (x_.length:Int) (x_.length:Int) 1) (chk (inb p_ (List.replicate ((x_.length:Int)).toNat false).length) ((loop (F_6c x_) ([p_],(List.replicate ((x_.length:Int)).toNat false).set ((p_).toNat) true)).bind fun r362=>some r362))
@[irreducible] def mg_9r:List MOp:=[tV 35 36 5,tV 35 37 7,gT 35 38 (.iad 1 (.t 36) (.t 37)),tL 35 39 38,gT 35 40 (.not (.t 39)),pA 35 40 41]
@[irreducible] def mc_55:MC := (sR [bT .lss 29 28 30] (.seq (.cond (.t 30) .skip (.exit 2)) (.seq (.block 3 (sR [oV 29 31,iA 1 27 29 32,oL 32 33,oV 31 7,oV 33 8] (.seq (.regI [.op (oV 8 34),.op (oV 34 35),.grp mg_9r]) (.cond (.t 41) (.reg [oV 5 42,oV 7 43,oV 6 44,oV 7 45,mo (.bslice 1 [(.t 45)]) 46,ap 1 8 44 46 47,iA 1 42 43 48,⟨.st 1 (.t 48) (.c (.bool true)),none,none⟩,oV 47 6]) .skip)))) (.reg [aI 29 1 49,oV 49 29]))))
@[irreducible] def mc_6c:MC := (.seq (sR [oV 6 17,lE 17 18,bC .gtr 18 0 19] (.cond (.t 19) .skip (.exit 0))) (.seq (.block 1 (sR [oV 0 22,oV 6 23,mo (.iad 1 (.t 23) (cI 0)) 24,oL 24 25,iA 1 22 25 26,oL 26 27,lE 27 28,oC 0 29] (.block 2 (.loop mc_55)))) (.reg [oV 6 20,mo (.slc 1 (.t 20) (some (cI 1)) none) 21,oV 21 6])))
def mc_30:MC := (sR [mo (.mv (.c (.sl []))) 4] (sR [oV 0 9,lE 9 10,mo (.mksl 1 1 (.bool false) (.t 10) (.t 10)) 11,oV 11 5] (sR [oV 5 12,oV 1 13,iA 1 12 13 14,⟨.st 1 (.t 14) (.c (.bool true)),none,none⟩] (.seq (sR [oV 1 15,mo (.bslice 1 [(.t 15)]) 16,oV 16 6] (.block 0 (.loop mc_6c))) (sR [oV 5 50,oV 50 4] .ret)))))
attribute [go_sem] F_55 F_6c
instance:GI mg_9r [0,5,6,7,27,28,29] [2006,11] (fun y:Bool=>[(41,.bool y)]) (fun y=>[]):=⟨⟩
instance:LI mc_55 29 28 [0,27,28] [] (fun y:(List Int)×(List Bool)=>[(5,.osl 11 1 0 y.2.length),(6,.osl 2006 1 0 y.1.length)]) (fun y=>[.o 2006 (.arr 1 (y.1.map (V.int .i64))),.o 11 (.arr 1 (y.2.map V.bool))]) [.gc [0,5,6,27,28,29],.acc 6 2006 1]:=⟨⟩
instance:LI mc_6c 0 0 [0] [] (fun y:(List Int)×(List Bool)=>[(5,.osl 11 1 0 y.2.length),(6,.osl 2006 1 0 y.1.length)]) (fun y=>[.o 2006 (.arr 1 (y.1.map (V.int .i64))),.o 11 (.arr 1 (y.2.map V.bool))]) [.gc [0,5,6],.trim 6,.acc 6 2006 1]:=⟨⟩
instance Wq_30 {x_:List (List Bool)} {p_:Int}:WI (F_30 x_ p_) Tryz.prog 292 [.sl (x_.map (slV V.bool)),.int .i64 p_] [] (fun z=>.sl (z.map V.bool)) (fun z=>[]):=⟨fun Q Q' h hQ=>by
 refine acallM mc_30 [.fz 4] [] [.t 4] Tryz.func292 fun M=>?_
 unfold F_30 at h
 unfold mc_30
 exact tX⟩
def F_6d (k16:Int) (a17:Bool) (x15:List Int):Option (List Int) := bif a17 then chk (room (x15.length+[k16].length) 8) (some (x15++[k16])) else some x15
def F_31 (l_:List Bool):Option (List Int) := (foldL F_6d l_ 0 []).bind fun x18=>some x18
@[irreducible] def mc_6d:MC := (sR [bT .lss 8 7 9] (.seq (.cond (.t 9) .skip (.exit 0)) (.seq (.block 1 (sR [oV 8 10,iA 1 6 8 11,oL 11 12,oV 10 4,oV 12 5] (sR [oV 5 13] (.cond (.t 13) (.reg [oV 3 14,oV 4 15,mo (.bslice 1 [(.t 15)]) 16,ap 1 8 14 16 17,oV 17 3]) .skip)))) (.reg [aI 8 1 18,oV 18 8]))))
def mc_31:MC := (sR [mo (.mv (.c (.sl []))) 2] (sR [mo (.mv (.c .nils)) 3] (.seq (sR [oV 0 6,lE 6 7,oC 0 8] (.block 0 (.loop mc_6d))) (sR [oV 3 19,oV 19 2] .ret))))
attribute [go_sem] F_6d
instance:LI mc_6d 8 7 [6,7] [] (fun y:List Int=>[(3,.osl 2003 1 0 y.length)]) (fun y=>[.o 2003 (.arr 1 (y.map (V.int .i64)))]) [.gc [3,6,7,8],.acc 3 2003 1]:=⟨⟩
instance Wq_31 {l_:List Bool}:WI (F_31 l_) Tryz.prog 290 [.sl (l_.map V.bool)] [] (fun z=>.sl (z.map (V.int .i64))) (fun z=>[]):=⟨fun Q Q' h hQ=>by
 refine acallM mc_31 [.fz 2] [] [.t 2] Tryz.func290 fun M=>?_
 unfold F_31 at h
 unfold mc_31
 exact tX⟩
noncomputable def F_1m (d_:GDirectory) (p_:Int) (t_:Int):Option (List Int) := (F_2z d_ p_).bind fun y4=>bif (!y4) then some [] else (atF d_.Kinds.length (d_.Events.map fun e=>(e.Time,e.Kind,e.Principal,e.Group)) t_).bind fun y8=>(F_30 y8 p_).bind fun y9=>(F_31 y9).bind fun y10=>some y10
def mc_1m:MC := (sR [bx 0 3,mo (.mv (.c (.sl []))) 6] (.seq (sR [lN 2 3 7,oV 1 8,k2 289 7 8 9,nT 9 10] (.cond (.t 10) (sR [mo (.mv (.c (.sl []))) 6] .ret) .skip)) (sR [lN 2 3 11,oV 2 12,k2 291 11 12 13,oV 1 14,k2 292 13 14 15,k1 290 15 16,oV 16 6] .ret)))
instance Wq_1m {d_:GDirectory} {p_ t_:Int}:WI (F_1m d_ p_ t_) Tryz.prog 275 [GDirectory.v d_,.int .i64 p_,.int .i64 t_] [] (fun z=>.sl (z.map (V.int .i64))) (fun z=>[]):=⟨fun Q Q' h hQ=>by
 refine acallM mc_1m [.fz 6] [] [.t 6] Tryz.func275 fun M=>?_
 unfold F_1m at h
 unfold mc_1m
 replace h:=tY h
 refine tB ?_
 repeat' (first
 | (exact tZ)
 | ((first|refine oblg h ?_|refine roomG h ?_|refine inbG h ?_|refine incG h ?_|refine divG h ?_|refine appG h ?_|refine appC h ?_|refine fork h ?_ ?_|refine forkS h ?_ ?_)<;>clear h<;>intro hc h)
 | (obtain ⟨y,hy,h⟩:=h;(first|have hw:=W_at (f:=GMember.v) (e4:=fun e=>(e.Time,e.Kind,e.Principal,e.Group)) (fun _=>rfl) hy|have hw:=WI.w hy);replace hw:=tY hw;(first|refine M.sC hw ?_|refine M.sD hw ?_);clear hw hy;refine tB ?_)
 | (refine tE ?_;(first|rw [M.lok_compU]|rw [M.lokD_compU]);refine tB ?_)
 | (refine tA ?_)
 | fail)⟩
def F_56 (place_:Int) (t_:Int) (k44:Int) (a45:GAccess) (x43:List (Int×Int)):Option (List (Int×Int)) := grp ((decide (t_<a45.Time)||(!decide (a45.Place=place_)))) fun b53=>bif b53 then some x43 else bif decide (a45.Kind=1) then some (aput a45.Principal k44 x43) else bif decide (a45.Kind=2) then some (adel a45.Principal x43) else some x43
def F_32 (a_:GEstate) (place_:Int) (t_:Int):Option (List (Int×Int)) := (foldL (F_56 place_ t_) a_.Events 0 []).bind fun x54=>some x54
@[irreducible] def mg_9s:List MOp:=[fa_ 24 25 2 9,fL 24 26 25,fV 24 27 1,gF 24 28 (.bin false .neq (.t 26) (.t 27)),pO 24 28 29]
@[irreducible] def mc_56:MC := (sR [bT .lss 14 13 15] (.seq (.cond (.t 15) .skip (.exit 0)) (.seq (.block 1 (sR [oV 14 16,iA 7 12 14 17,lN 7 17 18,mo (.alloc [(.int .i64 0),(.int .i64 0),(.int .i64 0),(.int .i64 0),(.int .i64 0),(.int .i64 0),(.int .i64 0)]) 9,oV 16 8,⟨.st 7 (.t 9) (.t 18),none,none⟩] (.block 2 (.seq (.regI [.op (oF 0 9 20),.op (oL 20 21),.op (oV 2 22),.op (bT .gtr 21 22 23),.op (oV 23 24),.grp mg_9s,.op (oV 29 19)]) (.cond (.t 19) .skip (.seq (.note (.gc [1,2,7,8,9,12,13,14,25,26,27,28]) (.reg [oF 1 9 31,oL 31 32,bC .eql 32 1 33,oV 33 30])) (.cond (.t 30) (.reg [oV 7 34,oF 3 9 35,oL 35 36,oV 8 37,⟨.mp (.up (.int .i64)) [(.t 34),(.t 36),(.t 37)],none,none⟩]) (sR [oF 1 9 39,oL 39 40,bC .eql 40 2 41,oV 41 38] (.cond (.t 38) (.note (.gc [1,2,7,9,12,13,14,25,26,27,28]) (.reg [oV 7 42,oF 3 9 43,oL 43 44,⟨.mp (.del (.int .i64)) [(.t 42),(.t 44)],none,none⟩])) .skip))))))))) (.reg [aI 14 1 45,oV 45 14]))))
def mc_32:MC := (sR [bx 0 3,mo (.mv (.c .nilm)) 6] (sR [mo (.mp (.mk (.int .i64)) []) 10,oV 10 7] (.seq (sR [oF 1 3 11,oL 11 12,lE 12 13,oC 0 14] (.block 0 (.loop mc_56))) (sR [oV 7 46,oV 46 6] .ret))))
attribute [go_sem] F_56
instance:GV mg_9s 29 [25,26,27,28]:=⟨⟩
instance:LI mc_56 14 13 [1,2,7,12,13] [] (fun y:List (Int×Int)=>[]) (fun y=>[.o 10 (.map (.int .i64) (y.map (kvV (V.int .i64) (V.int .i64))))]) []:=⟨⟩
instance Wq_32 {a_:GEstate} {place_ t_:Int}:WI (F_32 a_ place_ t_) Tryz.prog 293 [GEstate.v a_,.int .i64 place_,.int .i64 t_] [] (fun z=>(mpV (.int .i64) (V.int .i64) (V.int .i64)) z) (fun z=>[]):=⟨fun Q Q' h hQ=>by
 refine acallM mc_32 [.fz 6] [] [.t 6] Tryz.func293 fun M=>?_
 unfold F_32 at h
 unfold mc_32
 exact tX⟩
noncomputable def F_57 (k21:Int) (a19:Int×Int) (x18:List Int):Option (List Int) := chk (room (x18.length+[a19.1].length) 8) (some (x18++[a19.1]))
noncomputable def F_1n (a_:GEstate) (place_:Int) (t_:Int):Option (List Int) := (F_e a_ place_).bind fun y4=>bif (!y4) then some [] else (F_32 a_ place_ t_).bind fun y15=>permL (fun l20=>(foldL F_57 l20 0 []).bind fun x22=>(sortI x22).bind fun y24=>some y24) y15
@[irreducible] def mc_57:MC := (sR [mo (.mp .nxt [(.t 17)]) 18,xT 0 18 19] (.seq (.cond (.t 19) .skip (.exit 0)) (.block 1 (sR [mo (.mp .ent [(.t 17)]) 20,xT 0 20 21,oV 21 8] (.reg [oV 7 22,oV 8 23,mo (.bslice 1 [(.t 23)]) 24,ap 1 8 22 24 25,oV 25 7])))))
def mc_1n:MC := (sR [bx 0 3,mo (.mv (.c (.sl []))) 6] (.seq (sR [lN 2 3 9,oV 1 10,k2 254 9 10 11,nT 11 12] (.cond (.t 12) (sR [mo (.mv (.c (.sl []))) 6] .ret) .skip)) (sR [mo (.mv (.c .nils)) 7] (.seq (sR [lN 2 3 13,oV 1 14,oV 2 15,k3 293 13 14 15 16,mo (.mp .rng [(.t 16)]) 17] (.block 0 (.loop mc_57))) (sR [oV 7 26,mo (.call (.f 235) [(.t 26)] [2007] []) 27] (sR [oV 7 28,oV 28 6] .ret))))))
instance Wq_1n {a_:GEstate} {place_ t_:Int}:WI (F_1n a_ place_ t_) Tryz.prog 276 [GEstate.v a_,.int .i64 place_,.int .i64 t_] [] (fun z=>.sl (z.map (V.int .i64))) (fun z=>[]):=⟨fun Q Q' h hQ=>by
 refine acallM mc_1n [.fz 6] [] [.t 6] Tryz.func276 fun M=>?_
 unfold F_1n at h
 unfold mc_1n
 replace h:=tY h
 refine tB ?_
 repeat' (first
 | (exact tZ)
 | (refine And.intro (by refine ⟨?_,?_,?_,?_⟩<;>omega) ?_;first|exact hQ _ h|(rw [zP (by omega)];exact hQ _ h))
 | (rw [←hlen];exact hQ _ h)
 | (have hq:=hQ _ h;simp only [xZ,Nat.min_eq_left hlen.1] at hq;exact hq)
 | ((first|refine oblg h ?_|refine roomG h ?_|refine inbG h ?_|refine incG h ?_|refine divG h ?_|refine appG h ?_|refine appC h ?_|refine fork h ?_ ?_|refine forkS h ?_ ?_)<;>clear h<;>intro hc h)
 | (obtain ⟨y,hy,h⟩:=h;(first|(have hw:=acall_swe 1000 2007 (W_7b hy);replace hw:=tY hw;(try simp only [hlen] at hw);have hlen:=sortI_len hy)|have hw:=WI.w hy);replace hw:=tY hw;(first|refine M.sC hw ?_|refine M.sD hw ?_);clear hw hy;refine tB ?_)
 | (refine M.mfold1 (b:=mc_57) (kv:=(kvV (V.int .i64) (V.int .i64))) 17 [17] [] (fun x=>[(7,.osl 2007 1 0 x.length)]) (fun x=>[.o 2007 (.arr 1 (x.map (V.int .i64)))]) [.gc [7,17],.acc 7 2007 1] h ?_ ?_<;>first
 | (clear h;intro rem cur x k Qn K hK1 hs1 hn1;unfold F_57 at hn1;unfold mc_57;refine tB ?_)
 | (clear h;(try refine tB ?_);exact tU0;done))
 | (refine nxt_of hs1 hn1 ?_ ?_<;>first
  |(intro h;rw [M.lok_eq];replace h:=tY h;refine tB ?_)
  |(intro i a h;rw [M.lok_eq];replace h:=tY h;refine tB ?_))
 | (apply hK1;(try refine tB ?_);refine ⟨_,h,?_⟩;exact tU0;done)
 | (refine tE ?_;(first|rw [M.lok_compU]|rw [M.lokD_compU]);refine tB ?_)
 | (refine tA ?_)
 | fail)⟩
noncomputable def F_58 (y2:List Int) (k37:Int) (a38:Int) (x36:Unit):Option (Fl Unit (Int×Bool)) := (F_q y2 a38).bind fun y46=>bif y46 then some (.ex (a38,true)) else some (.nx ())
noncomputable def F_33 (d_:GDirectory) (a_:GEstate) (p_:Int) (place_:Int) (t_:Int):Option (Int×Bool) := (F_1m d_ p_ t_).bind fun y2=>(F_1n a_ place_ t_).bind fun y25=>(forL (F_58 y2) y25 0 ()).bind fun o=>o.elim (fun x47=>some (0,false)) (fun r48=>some r48)
@[irreducible] def mc_58:MC := (sR [bT .lss 24 23 25] (.seq (.cond (.t 25) .skip (.exit 0)) (.seq (.block 1 (sR [iA 1 22 24 26,oL 26 27,oV 27 14] (sR [oV 12 28,oV 14 29,k2 259 28 29 30] (.cond (.t 30) (.seq (.note (.gc [14]) (.reg [oV 14 31,oV 31 10,mT 11])) .ret) .skip)))) (.reg [aI 24 1 32,oV 32 24]))))
def mc_33:MC := (sR [bx 0 5,bx 1 6,oC 0 10,mF 11] (sR [lN 2 5 15,oV 2 16,oV 4 17,k3 275 15 16 17 18,oV 18 12] (.seq (.seq (.note (.gc [3,4,6,12]) (.reg [lN 2 6 19,oV 3 20,oV 4 21,k3 276 19 20 21 22,lE 22 23,oC 0 24])) (.block 0 (.loop mc_58))) (sR [oC 0 10,mF 11] .ret))))
attribute [go_sem] F_58
instance:LI mc_58 24 23 [12,22,23] [] (fun y:Unit=>[]) (fun y=>[]) []:=⟨⟩
instance Wq_33 {d_:GDirectory} {a_:GEstate} {p_ place_ t_:Int}:WI (F_33 d_ a_ p_ place_ t_) Tryz.prog 257 [GDirectory.v d_,GEstate.v a_,.int .i64 p_,.int .i64 place_,.int .i64 t_] [] (fun z=>.tup [.int .i64 z.1,.bool z.2]) (fun z=>[]):=⟨fun Q Q' h hQ=>by
 refine acallM mc_33 [] [] [.t 10,.t 11] Tryz.func257 fun M=>?_
 unfold F_33 at h
 unfold mc_33
 exact tX⟩
noncomputable def F_34 (d_:GDirectory) (a_:GEstate) (p_:Int) (place_:Int) (t_:Int):Option Bool := (F_2y d_ a_ p_ place_).bind fun y4=>bif (!y4) then some false else (F_1l a_ place_ t_).bind fun y6=>(F_33 d_ a_ p_ place_ t_).bind fun y8=>grp ((y6.2||y8.2)) fun b10=>some b10
@[irreducible] def mg_9t:List MOp:=[fV 38 39 14,pO 38 39 40]
def mc_34:MC := (sR [bx 0 5,bx 1 6,mF 10] (.seq (sR [lN 2 5 15,lN 2 6 16,oV 2 17,oV 3 18,mo (.call (.f 256) [(.t 15),(.t 16),(.t 17),(.t 18)] [] []) 19,nT 19 20] (.cond (.t 20) (sR [mF 10] .ret) .skip)) (.seq (.note (.gc [2,3,4,5,6,39]) (.reg [lN 2 6 22,oV 3 23,oV 4 24,k3 238 22 23 24 25,oV 25 21,xT 0 21 26,xT 1 21 27,oV 26 11,oV 27 12])) (.seq (.note (.gc [2,3,4,5,6,12,39]) (.reg [lN 2 5 29,lN 2 6 30,oV 2 31,oV 3 32,oV 4 33,mo (.call (.f 257) [(.t 29),(.t 30),(.t 31),(.t 32),(.t 33)] [] []) 34,oV 34 28,xT 0 28 35,xT 1 28 36,oV 35 13,oV 36 14])) (.seq (.note (.gc [12,14,39]) (.regI [.op (oV 12 37),.op (oV 37 38),.grp mg_9t,.op (oV 40 10)])) .ret)))))
instance:GV mg_9t 40 [39]:=⟨⟩
instance Wq_34 {d_:GDirectory} {a_:GEstate} {p_ place_ t_:Int}:WI (F_34 d_ a_ p_ place_ t_) Tryz.prog 239 [GDirectory.v d_,GEstate.v a_,.int .i64 p_,.int .i64 place_,.int .i64 t_] [] (fun z=>.bool z) (fun z=>[]):=⟨fun Q Q' h hQ=>by
 refine acallM mc_34 [] [] [.t 10] Tryz.func239 fun M=>?_
 unfold F_34 at h
 unfold mc_34
 exact tX⟩
noncomputable def F_59 (d_:GDirectory) (a_:GEstate) (p_:Int) (t_:Int) (k75:Int) (a76:Int) (x74:Unit):Option (Fl Unit (Int×Bool)) := (F_1l a_ a76 t_).bind fun y96=>grp ((decide (p_=(-1))&&y96.2)) fun b99=>bif b99 then some (.ex (a76,true)) else bif (!decide (p_=(-1))) then (F_34 d_ a_ p_ a76 t_).bind fun y100=>bif y100 then some (.ex (a76,true)) else some (.nx ()) else some (.nx ())
noncomputable def F_35 (d_:GDirectory) (a_:GEstate) (content_:Int) (p_:Int) (t_:Int):Option (Int×Bool) := (F_d a_ content_ t_).bind fun y47=>(forL (F_59 d_ a_ p_ t_) y47 0 ()).bind fun o=>o.elim (fun x101=>some (0,false)) (fun r102=>some r102)
@[irreducible] def mg_9u:List MOp:=[tV 34 35 15,pA 34 35 36]
@[irreducible] def mc_59:MC := (sR [bT .lss 21 20 22] (.seq (.cond (.t 22) .skip (.exit 0)) (.seq (.block 1 (sR [iA 1 19 21 23,oL 23 24,oV 24 13] (sR [lN 2 6 26,oV 13 27,oV 4 28,k3 238 26 27 28 29,oV 29 25,xT 0 25 30,xT 1 25 31,oV 30 14,oV 31 15] (.seq (.note (.gc [3,4,5,6,13,15,19,20,21,35,38,39,40,41,42,43,44,45,46,47]) (.regI [.op (oV 3 32),.op (bC .eql 32 (-1) 33),.op (oV 33 34),.grp mg_9u,.op (oV 36 37),.op (fV 37 38 3),.op (gF 37 39 (.bin false .neq (.t 38) (cI (-1)))),.op (fV 37 40 39),.op (gT 40 41 (.ld (some 2) (.t 5))),.op (gT 40 42 (.ld (some 2) (.t 6))),.op (tV 40 43 3),.op (tV 40 44 13),.op (tV 40 45 4),.op (gT 40 46 (.call (.f 239) [(.t 41),(.t 42),(.t 43),(.t 44),(.t 45)] [] [])),.op (gF 37 47 (.pick (.t 40) (.t 46) (.c (.bool false)))),.op (pO 37 47 48)])) (.cond (.t 48) (.seq (.note (.gc [13]) (.reg [oV 13 49,oV 49 10,mT 11])) .ret) .skip))))) (.reg [aI 21 1 50,oV 50 21]))))
def mc_35:MC := (sR [bx 0 5,bx 1 6,oC 0 10,mF 11] (.seq (sR [lN 2 6 16,oV 2 17,oV 4 18,k3 237 16 17 18 19,lE 19 20,oC 0 21] (.block 0 (.loop mc_59))) (sR [oC 0 10,mF 11] .ret)))
attribute [go_sem] F_59
instance:GV mg_9u 36 [35]:=⟨⟩
instance:LI mc_59 21 20 [3,4,5,6,19,20] [6,5] (fun y:Unit=>[]) (fun y=>[]) []:=⟨⟩
instance Wq_35 {d_:GDirectory} {a_:GEstate} {content_ p_ t_:Int}:WI (F_35 d_ a_ content_ p_ t_) Tryz.prog 209 [GDirectory.v d_,GEstate.v a_,.int .i64 content_,.int .i64 p_,.int .i64 t_] [] (fun z=>.tup [.int .i64 z.1,.bool z.2]) (fun z=>[]):=⟨fun Q Q' h hQ=>by
 refine acallM mc_35 [] [] [.t 10,.t 11] Tryz.func209 fun M=>?_
 unfold F_35 at h
 unfold mc_35
 exact tX⟩
noncomputable def F_6e (d_:GDirectory) (a_:GEstate) (content_:Int) (p_:Int) (k35:Int) (a36:Int) (x34:Unit):Option (Fl Unit (Int×Bool)) := (F_35 d_ a_ content_ p_ a36).bind fun y44=>bif y44.2 then some (.ex (a36,true)) else some (.nx ())
noncomputable def F_36 (d_:GDirectory) (a_:GEstate) (content_:Int) (p_:Int):Option (Int×Bool) := (F_2w d_ a_).bind fun y23=>(forL (F_6e d_ a_ content_ p_) y23 0 ()).bind fun o=>o.elim (fun x45=>some (0,false)) (fun r46=>some r46)
@[irreducible] def mc_6e:MC := (sR [bT .lss 18 17 19] (.seq (.cond (.t 19) .skip (.exit 0)) (.seq (.block 1 (sR [iA 1 16 18 20,oL 20 21,oV 21 11] (sR [lN 2 4 23,lN 2 5 24,oV 2 25,oV 3 26,oV 11 27,mo (.call (.f 209) [(.t 23),(.t 24),(.t 25),(.t 26),(.t 27)] [] []) 28,oV 28 22,xT 0 22 29,xT 1 22 30,oV 29 12,oV 30 13] (sR [oV 13 31] (.cond (.t 31) (.seq (.note (.gc [11]) (.reg [oV 11 32,oV 32 8,mT 9])) .ret) .skip))))) (.reg [aI 18 1 33,oV 33 18]))))
def mc_36:MC := (sR [bx 0 4,bx 1 5,oC 0 8,mF 9] (.seq (sR [lN 2 4 14,lN 2 5 15,k2 208 14 15 16,lE 16 17,oC 0 18] (.block 0 (.loop mc_6e))) (sR [oC 0 8,mF 9] .ret)))
attribute [go_sem] F_6e
instance:LI mc_6e 18 17 [2,3,4,5,16,17] [5,4] (fun y:Unit=>[]) (fun y=>[]) []:=⟨⟩
instance Wq_36 {d_:GDirectory} {a_:GEstate} {content_ p_:Int}:WI (F_36 d_ a_ content_ p_) Tryz.prog 157 [GDirectory.v d_,GEstate.v a_,.int .i64 content_,.int .i64 p_] [] (fun z=>.tup [.int .i64 z.1,.bool z.2]) (fun z=>[]):=⟨fun Q Q' h hQ=>by
 refine acallM mc_36 [] [] [.t 8,.t 9] Tryz.func157 fun M=>?_
 unfold F_36 at h
 unfold mc_36
 exact tX⟩
noncomputable def F_6f (d_:GDirectory) (a_:GEstate) (content_:Int) (x26:Int×(List GExposure)):Option (Fl (Int×(List GExposure)) (List GExposure)) := bif decide (x26.1<(d_.Kinds.length:Int)) then jn (α:=List GExposure) ((F_36 d_ a_ content_ x26.1).bind fun y34=>bif y34.2 then chk (room (x26.2.length+[(GExposure.mk x26.1 y34.1)].length) 16) (some (x26.2++[(GExposure.mk x26.1 y34.1)])) else some x26.2) fun j32=>chk (in64 (x26.1+1)) (some (.nx ((x26.1+1),j32))) else some (.ex x26.2)
noncomputable def F_37 (d_:GDirectory) (a_:GEstate) (content_:Int):Option ((List GExposure)×Int) := (F_2v d_ a_ content_).bind fun y4=>bif (!decide (y4=0)) then some ([],y4) else (loop (F_6f d_ a_ content_) ((-1),[])).bind fun r35=>some (r35,0)
@[irreducible] def mc_9v:MC := (.reg [oV 10 25,aI 25 1 26,oV 26 10])
@[irreducible] def mc_6f:MC := (.seq (sR [oV 10 20,oF 0 3 21,oL 21 22,lE 22 23,bT .lss 20 23 24] (.cond (.t 24) .skip (.exit 0))) (.cut (.block 1 (sR [lN 2 3 28,lN 2 4 29,oV 2 30,oV 10 31,mo (.call (.f 157) [(.t 28),(.t 29),(.t 30),(.t 31)] [] []) 32,oV 32 27,xT 0 27 33,xT 1 27 34,oV 33 11,oV 34 12] (sR [oV 12 35] (.cond (.t 35) (.note (.gc [2,3,4,9,10,11]) (.reg [oV 9 36,oV 10 37,oV 11 38,mo (.build [(.int .i64 0),(.int .i64 0)] [(0,1,(.t 37)),(1,1,(.t 38))]) 39,mo (.bslice 2 [(.t 39)]) 40,ap 2 16 36 40 41,oV 41 9])) .skip)))) mc_9v))
def mc_37:MC := (sR [bx 0 3,bx 1 4,mo (.mv (.c (.sl []))) 6,oC 0 7] (.seq (sR [lN 2 3 13,lN 2 4 14,oV 2 15,k3 156 13 14 15 16,oV 16 8] (sR [oV 8 17,bC .neq 17 0 18] (.cond (.t 18) (.seq (.note (.gc [8]) (.reg [oV 8 19,mo (.mv (.c (.sl []))) 6,oV 19 7])) .ret) .skip))) (sR [mo (.mv (.c .nils)) 9] (.seq (sR [oC (-1) 10] (.block 0 (.loop mc_6f))) (sR [oV 9 42,oV 42 6,oC 0 7] .ret)))))
attribute [go_sem] F_6f
instance:LI mc_9v 0 0 [2,3,4,10] [4,3] (fun y:List GExposure=>[(9,.osl 2009 2 0 y.length)]) (fun y=>[.o 2009 (.arr 2 (y.map GExposure.v))]) [.gc [2,3,4,9,10],.acc 9 2009 2]:=⟨⟩
instance:LI mc_6f 0 0 [2,3,4] [4,3] (fun y:Int×(List GExposure)=>[(9,.osl 2009 2 0 y.2.length),(10,.int .i64 y.1)]) (fun y=>[.o 2009 (.arr 2 (y.2.map GExposure.v))]) [.gc [2,3,4,9,10],.acc 9 2009 2]:=⟨⟩
instance Wq_37 {d_:GDirectory} {a_:GEstate} {content_:Int}:WI (F_37 d_ a_ content_) Tryz.prog 107 [GDirectory.v d_,GEstate.v a_,.int .i64 content_] [] (fun z=>.tup [.sl (z.1.map GExposure.v),.int .i64 z.2]) (fun z=>[]):=⟨fun Q Q' h hQ=>by
 refine acallM mc_37 [.fz 6] [] [.t 6,.t 7] Tryz.func107 fun M=>?_
 unfold F_37 at h
 unfold mc_37
 exact tX⟩
noncomputable def F_45 (k32:Int) (a33:GExposure) (x31:GSummary):Option GSummary := jn (α:=GSummary) (bif decide (a33.Principal=(-1)) then some (GSummary.mk x31.Fingerprint x31.Spots true x31.Readers x31.Since x31.Severity x31.Rotated x31.Dead) else chk (in64 (x31.Readers+1)) (some (GSummary.mk x31.Fingerprint x31.Spots x31.Public (x31.Readers+1) x31.Since x31.Severity x31.Rotated x31.Dead))) fun j37=>bif decide (j37.Since=(-1)) then some (GSummary.mk j37.Fingerprint j37.Spots j37.Public j37.Readers a33.Time j37.Severity j37.Rotated j37.Dead) else bif decide (a33.Time<j37.Since) then some (GSummary.mk j37.Fingerprint j37.Spots j37.Public j37.Readers a33.Time j37.Severity j37.Rotated j37.Dead) else some j37
noncomputable def F_1o (m_:GSummary) (d_:GDirectory) (a_:GEstate) (content_:Int):Option (Int×GSummary) := (F_37 d_ a_ content_).bind fun y2=>bif (!decide (y2.2=0)) then some (y2.2,m_) else (foldL F_45 y2.1 0 (GSummary.mk m_.Fingerprint m_.Spots m_.Public m_.Readers (-1) m_.Severity m_.Rotated m_.Dead)).bind fun x38=>some (0,x38)
@[irreducible] def mc_9w:MC := (.seq (.regD [oV 0 45,mo (.nck (.t 45)) 46,oF 4 46 47,oL 47 48,bC .eql 48 (-1) 49,oV 49 50,fa_ 50 51 1 12,fL 50 52 51,fV 50 53 0,gF 50 54 (.nck (.t 53)),fa_ 50 55 4 54,fL 50 56 55,gF 50 57 (.bin false .lss (.t 52) (.t 56)),pO 50 57 58] [[],[0],[1],[2],[3],[4],[5],[6,5],[5],[8,5],[9,5],[10,5],[7,11,5],[5,12]] [[],[0],[0,1],[0,1,2],[0,1,2,3],[0,1,2,3,4],[0,1,2,3,4,5],[0,1,2,3,4,5,6],[0,1,2,3,4,5],[0,1,2,3,4,5,8],[0,1,2,3,4,5,8,9],[0,1,2,3,4,5,8,9,10],[0,1,2,3,4,5,6,7,8,9,10,11],[0,1,2,3,4,5,6,7,8,9,10,11,12]]) (.cond (.t 58) (.reg [oV 0 59,oF 1 12 60,oL 60 61,mo (.nck (.t 59)) 62,oF 4 62 63,⟨.st 1 (.t 63) (.t 61),none,none⟩]) .skip))
@[irreducible] def mc_45:MC := (sR [bT .lss 28 27 29] (.seq (.cond (.t 29) .skip (.exit 0)) (.seq (.block 1 (sR [iA 2 26 28 30,lN 2 30 31,mo (.alloc [(.int .i64 0),(.int .i64 0)]) 12,⟨.st 2 (.t 12) (.t 31),none,none⟩] (.cut (sR [oF 0 12 32,oL 32 33,bC .eql 33 (-1) 34] (.cond (.t 34) (.reg [oV 0 35,mo (.nck (.t 35)) 36,oF 2 36 37,⟨.st 1 (.t 37) (.c (.bool true)),none,none⟩]) (.reg [oV 0 38,mo (.nck (.t 38)) 39,oF 3 39 40,oL 40 41,aI 41 1 42,mo (.nck (.t 38)) 43,oF 3 43 44,⟨.st 1 (.t 44) (.t 42),none,none⟩]))) mc_9w))) (.reg [aI 28 1 64,oV 64 28]))))
def mc_1o:MC := (sR [bx 1 5,bx 2 6,oC 0 8] (sR [lN 2 5 14,lN 2 6 15,oV 3 16,k3 107 14 15 16 17,oV 17 13,xT 0 13 18,xT 1 13 19,oV 18 9,oV 19 10] (.seq (sR [oV 10 20,bC .neq 20 0 21] (.cond (.t 21) (sR [oV 10 22,oV 22 8] .ret) .skip)) (.seq (.note (.gc [0,9,51,52,53,54,55,56,57]) (.reg [oV 0 23,mo (.nck (.t 23)) 24,oF 4 24 25,⟨.st 1 (.t 25) (cI (-1)),none,none⟩])) (.seq (sR [oV 9 26,lE 26 27,oC 0 28] (.block 0 (.loop mc_45))) (sR [oC 0 8] .ret))))))
attribute [go_sem] F_45
instance:LI mc_9w 0 0 [0,12,26,27,28] [12] (fun y:GSummary=>[]) (fun y=>[.o 1000 (.cells [.int .u64 y.Fingerprint,.int .i64 y.Spots,.bool y.Public,.int .i64 y.Readers,.int .i64 y.Since,.int .i64 y.Severity.Level,.int .i64 y.Severity.Worth,.int .i64 y.Severity.Audience,.int .i64 y.Severity.Score,.bool y.Rotated,.bool y.Dead])]) []:=⟨⟩
instance:LI mc_45 28 27 [0,26,27] [] (fun y:GSummary=>[]) (fun y=>[.o 1000 (.cells [.int .u64 y.Fingerprint,.int .i64 y.Spots,.bool y.Public,.int .i64 y.Readers,.int .i64 y.Since,.int .i64 y.Severity.Level,.int .i64 y.Severity.Worth,.int .i64 y.Severity.Audience,.int .i64 y.Severity.Score,.bool y.Rotated,.bool y.Dead])]) []:=⟨⟩
instance Wq_1o {m_:GSummary} {d_:GDirectory} {a_:GEstate} {content_:Int}:WI (F_1o m_ d_ a_ content_) Tryz.prog 68 [.ptr 1000 0,GDirectory.v d_,GEstate.v a_,.int .i64 content_] [(1000,.cells [.int .u64 m_.Fingerprint,.int .i64 m_.Spots,.bool m_.Public,.int .i64 m_.Readers,.int .i64 m_.Since,.int .i64 m_.Severity.Level,.int .i64 m_.Severity.Worth,.int .i64 m_.Severity.Audience,.int .i64 m_.Severity.Score,.bool m_.Rotated,.bool m_.Dead])] (fun z=>.int .i64 z.1) (fun z=>[(1000,.cells [.int .u64 z.2.Fingerprint,.int .i64 z.2.Spots,.bool z.2.Public,.int .i64 z.2.Readers,.int .i64 z.2.Since,.int .i64 z.2.Severity.Level,.int .i64 z.2.Severity.Worth,.int .i64 z.2.Severity.Audience,.int .i64 z.2.Severity.Score,.bool z.2.Rotated,.bool z.2.Dead])]):=⟨fun Q Q' h hQ=>by
 refine acallM mc_1o [] [1000] [.t 8] Tryz.func68 fun M=>?_
 unfold F_1o at h
 unfold mc_1o
 exact tX⟩
end Go.Ab
set_option maxRecDepth 20000
set_option maxHeartbeats 2000000
namespace Go.Ab
open Go.Proofs
def F_1p (n_:Int) (low_:Int) (high_:Int):Option Bool := grp ((decide (low_≤n_)&&decide (n_≤high_))) fun b2=>some b2
@[irreducible] def mg_9x:List MOp:=[tV 10 11 0,tV 10 12 2,gT 10 13 (.bin false .leq (.t 11) (.t 12)),pA 10 13 14]
def mc_1p:MC := (sR [mF 6] (.seq (.regI [.op (oV 0 7),.op (oV 1 8),.op (bT .geq 7 8 9),.op (oV 9 10),.grp mg_9x,.op (oV 14 6)]) .ret))
instance:GV mg_9x 14 [11,12,13]:=⟨⟩
instance Wq_1p {n_ low_ high_:Int}:WI (F_1p n_ low_ high_) Tryz.prog 160 [.int .i64 n_,.int .i64 low_,.int .i64 high_] [] (fun z=>.bool z) (fun z=>[]):=⟨fun Q Q' h hQ=>by
 refine acallM mc_1p [] [] [.t 6] Tryz.func160 fun M=>?_
 unfold F_1p at h
 unfold mc_1p
 exact tX⟩
def F_i (x_:GIssuer):Option Bool := (namedF x_.Name 40).bind fun y4=>jn (α:=Bool) (bif (!y4) then some true else (F_1p x_.Slots 1 2).bind fun y6=>some (!y6)) fun j7=>some j7
@[irreducible] def mg_9y:List MOp:=[fa_ 7 8 1 1,fL 7 9 8,gF 7 10 (.call (.f 160) [(.t 9),(cI 1),(cI 2)] [] []),gF 7 11 (.not (.t 10)),pO 7 11 12]
def mc_i:MC := (sR [bx 0 1,mF 2] (.seq (.regI [.op (oF 0 1 3),.op (oL 3 4),.op (mo (.call (.f 159) [(.t 4),(cI 40)] [] []) 5),.op (nT 5 6),.op (oV 6 7),.grp mg_9y,.op (oV 12 2)]) .ret))
instance:GI mg_9y [2] [] (fun y:Bool=>[(12,.bool y)]) (fun y=>[]):=⟨⟩
instance Wq_i {x_:GIssuer}:WI (F_i x_) Tryz.prog 158 [GIssuer.v x_] [] (fun z=>.bool z) (fun z=>[]):=⟨fun Q Q' h hQ=>by
 refine acallM mc_i [] [] [.t 2] Tryz.func158 fun M=>?_
 unfold F_i at h
 unfold mc_i
 exact tX⟩
def F_6g (k31:Int) (a32:GIssuer) (x30:Unit):Option (Fl Unit Int) := (F_i a32).bind fun y40=>bif y40 then some (.ex k31) else some (.nx ())
def F_46 (s_:List GIssuer):Option Int := (forL F_6g s_ 0 ()).bind fun o=>o.elim (fun x41=>some (-1)) (fun r42=>some r42)
@[irreducible] def mc_6g:MC := (sR [bT .lss 8 7 9] (.seq (.cond (.t 9) .skip (.exit 0)) (.seq (.block 1 (sR [oV 8 10,oV 10 5] (sR [oV 1 11,oV 0 12,oV 5 13,iA 2 12 13 14,lN 2 14 15,mo (.call (.t 11) [(.t 15)] [] []) 16] (.cond (.t 16) (sR [oV 5 17,oV 17 4] .ret) .skip)))) (.reg [aI 8 1 18,oV 18 8]))))
def mc_46:MC := (sR [oC 0 4] (.seq (sR [oV 0 6,lE 6 7,oC 0 8] (.block 0 (.loop mc_6g))) (sR [oC (-1) 4] .ret)))
attribute [go_sem] F_6g
instance:LI mc_6g 8 7 [0,1,7] [] (fun y:Unit=>[]) (fun y=>[]) []:=⟨⟩
instance Wq_46 {s_:List GIssuer}:WI (F_46 s_) Tryz.prog 210 [.sl (s_.map GIssuer.v),.fn (.func 158) []] [] (fun z=>.int .i64 z) (fun z=>[]):=⟨fun Q Q' h hQ=>by
 refine acallM mc_46 [] [] [.t 4] Tryz.func210 fun M=>?_
 unfold F_46 at h
 unfold mc_46
 exact tX⟩
def F_38 (s_:List GIssuer):Option Bool := (F_46 s_).bind fun y2=>some (decide (0≤y2))
def mc_38:MC := (sR [mF 4] (sR [oV 0 5,oV 1 6,k2 210 5 6 7,bC .geq 7 0 8,oV 8 4] .ret))
instance Wq_38 {s_:List GIssuer}:WI (F_38 s_) Tryz.prog 163 [.sl (s_.map GIssuer.v),.fn (.func 158) []] [] (fun z=>.bool z) (fun z=>[]):=⟨fun Q Q' h hQ=>by
 refine acallM mc_38 [] [] [.t 4] Tryz.func163 fun M=>?_
 unfold F_38 at h
 unfold mc_38
 exact tX⟩
def F_47 (r_:GRegistry) (c_:GCredential):Option Bool := chk (in64 ((r_.Issuers.length:Int) - 1)) ((F_1p c_.Issuer 0 ((r_.Issuers.length:Int) - 1)).bind fun y7=>jn (α:=Bool) (bif y7 then (F_1p c_.Holder 0 23).bind fun y9=>some y9 else some false) fun j10=>grp ((j10&&decide (0≤c_.From))) fun b11=>grp ((b11&&decide (c_.From<c_.Until))) fun b12=>grp ((b12&&decide (c_.Until≤1099511627777))) fun b13=>some b13)
@[irreducible] def mg_9z:List MOp:=[ta_ 12 13 2 3,tL 12 14 13,gT 12 15 (.call (.f 160) [(.t 14),(cI 0),(cI 23)] [] []),pA 12 15 16]
@[irreducible] def mg_a0:List MOp:=[ta_ 17 18 3 3,tL 17 19 18,gT 17 20 (.bin false .geq (.t 19) (cI 0)),pA 17 20 21]
@[irreducible] def mg_a1:List MOp:=[ta_ 22 23 3 3,tL 22 24 23,ta_ 22 25 4 3,tL 22 26 25,gT 22 27 (.bin false .lss (.t 24) (.t 26)),pA 22 27 28]
@[irreducible] def mg_a2:List MOp:=[ta_ 29 30 4 3,tL 29 31 30,gT 29 32 (.bin false .leq (.t 31) (cI 1099511627777)),pA 29 32 33]
def mc_47:MC := (sR [bx 0 2,bx 1 3,mF 4] (.seq (.regI [.op (oF 0 3 5),.op (oL 5 6),.op (oF 0 2 7),.op (oL 7 8),.op (lE 8 9),.op (sI 9 1 10),.op (mo (.call (.f 160) [(.t 6),(cI 0),(.t 10)] [] []) 11),.op (oV 11 12),.grp mg_9z,.op (oV 16 17),.grp mg_a0,.op (oV 21 22),.grp mg_a1,.op (oV 28 29),.grp mg_a2,.op (oV 33 4)]) .ret))
instance:GV mg_a2 33 [30,31,32]:=⟨⟩
instance:GV mg_a1 28 [23,24,25,26,27]:=⟨⟩
instance:GV mg_a0 21 [18,19,20]:=⟨⟩
instance:GI mg_9z [3,4] [3] (fun y:Bool=>[(16,.bool y)]) (fun y=>[]):=⟨⟩
instance Wq_47 {r_:GRegistry} {c_:GCredential}:WI (F_47 r_ c_) Tryz.prog 162 [GRegistry.v r_,GCredential.v c_] [] (fun z=>.bool z) (fun z=>[]):=⟨fun Q Q' h hQ=>by
 refine acallM mc_47 [] [] [.t 4] Tryz.func162 fun M=>?_
 unfold F_47 at h
 unfold mc_47
 exact tX⟩
def F_48 (c_:GCredential) (p_:GRegistry):Option Bool := (F_47 p_ c_).bind fun y2=>some (!y2)
def mc_48:MC := (sR [bx 0 2,mF 3] (sR [lN 2 1 4,lN 5 2 5,k2 162 4 5 6,nT 6 7,oV 7 3] .ret))
instance Wq_48 {c_:GCredential} {p_:GRegistry}:WI (F_48 c_ p_) Tryz.prog 161 [GCredential.v c_,.ptr 1000 0] [(1000,.cells [.sl (p_.Issuers.map GIssuer.v),.sl (p_.Credentials.map GCredential.v)])] (fun z=>.bool z) (fun z=>[(1000,.cells [.sl (p_.Issuers.map GIssuer.v),.sl (p_.Credentials.map GCredential.v)])]):=⟨fun Q Q' h hQ=>by
 refine acallM mc_48 [] [1000] [.t 3] Tryz.func161 fun M=>?_
 unfold F_48 at h
 unfold mc_48
 exact tX⟩
def F_6h (fc0_:GRegistry) (k31:Int) (a32:GCredential) (x30:Unit):Option (Fl Unit Int) := (F_48 a32 fc0_).bind fun y40=>bif y40 then some (.ex k31) else some (.nx ())
def F_49 (s_:List GCredential) (fc0_:GRegistry):Option Int := (forL (F_6h fc0_) s_ 0 ()).bind fun o=>o.elim (fun x41=>some (-1)) (fun r42=>some r42)
@[irreducible] def mc_6h:MC := (sR [bT .lss 8 7 9] (.seq (.cond (.t 9) .skip (.exit 0)) (.seq (.block 1 (sR [oV 8 10,oV 10 5] (sR [oV 1 11,oV 0 12,oV 5 13,iA 5 12 13 14,lN 5 14 15,mo (.call (.t 11) [(.t 15)] [1000] []) 16] (.cond (.t 16) (sR [oV 5 17,oV 17 4] .ret) .skip)))) (.reg [aI 8 1 18,oV 18 8]))))
def mc_49:MC := (sR [oC 0 4] (.seq (sR [oV 0 6,lE 6 7,oC 0 8] (.block 0 (.loop mc_6h))) (sR [oC (-1) 4] .ret)))
attribute [go_sem] F_6h
instance:LI mc_6h 8 7 [0,1,7] [1000] (fun y:Unit=>[]) (fun y=>[]) []:=⟨⟩
instance Wq_49 {s_:List GCredential} {fc0_:GRegistry}:WI (F_49 s_ fc0_) Tryz.prog 211 [.sl (s_.map GCredential.v),.fn (.func 161) [.ptr 1000 0]] [(1000,.cells [.sl (fc0_.Issuers.map GIssuer.v),.sl (fc0_.Credentials.map GCredential.v)])] (fun z=>.int .i64 z) (fun z=>[(1000,.cells [.sl (fc0_.Issuers.map GIssuer.v),.sl (fc0_.Credentials.map GCredential.v)])]):=⟨fun Q Q' h hQ=>by
 refine acallM mc_49 [] [1000] [.t 4] Tryz.func211 fun M=>?_
 unfold F_49 at h
 unfold mc_49
 exact tX⟩
def F_1q (s_:List GCredential) (fc0_:GRegistry):Option Bool := (F_49 s_ fc0_).bind fun y2=>some (decide (0≤y2))
def mc_1q:MC := (sR [mF 4] (sR [oV 0 5,oV 1 6,mo (.call (.f 211) [(.t 5),(.t 6)] [1000] []) 7,bC .geq 7 0 8,oV 8 4] .ret))
instance Wq_1q {s_:List GCredential} {fc0_:GRegistry}:WI (F_1q s_ fc0_) Tryz.prog 164 [.sl (s_.map GCredential.v),.fn (.func 161) [.ptr 1000 0]] [(1000,.cells [.sl (fc0_.Issuers.map GIssuer.v),.sl (fc0_.Credentials.map GCredential.v)])] (fun z=>.bool z) (fun z=>[(1000,.cells [.sl (fc0_.Issuers.map GIssuer.v),.sl (fc0_.Credentials.map GCredential.v)])]):=⟨fun Q Q' h hQ=>by
 refine acallM mc_1q [] [1000] [.t 4] Tryz.func164 fun M=>?_
 unfold F_1q at h
 unfold mc_1q
 exact tX⟩
def F_4a (c_:GCredential) (t_:Int):Option Bool := grp ((decide (c_.From≤t_)&&decide (t_<c_.Until))) fun b2=>some b2
@[irreducible] def mg_a3:List MOp:=[tV 9 10 1,ta_ 9 11 4 2,tL 9 12 11,gT 9 13 (.bin false .lss (.t 10) (.t 12)),pA 9 13 14]
def mc_4a:MC := (sR [bx 0 2,mF 4] (.seq (.regI [.op (oF 3 2 5),.op (oL 5 6),.op (oV 1 7),.op (bT .leq 6 7 8),.op (oV 8 9),.grp mg_a3,.op (oV 14 4)]) .ret))
instance:GV mg_a3 14 [10,11,12,13]:=⟨⟩
instance Wq_4a {c_:GCredential} {t_:Int}:WI (F_4a c_ t_) Tryz.prog 212 [GCredential.v c_,.int .i64 t_] [] (fun z=>.bool z) (fun z=>[]):=⟨fun Q Q' h hQ=>by
 refine acallM mc_4a [] [] [.t 4] Tryz.func212 fun M=>?_
 unfold F_4a at h
 unfold mc_4a
 exact tX⟩
def F_6i (issuer_:Int) (holder_:Int) (t_:Int) (k100:Int) (a101:GCredential) (x99:List Int):Option (List Int) := grp ((decide (a101.Issuer=issuer_)&&decide (a101.Holder=holder_))) fun b123=>jn (α:=Bool) (bif b123 then (F_4a a101 t_).bind fun y125=>some y125 else some false) fun j126=>bif j126 then chk (room (x99.length+[k100].length) 8) (some (x99++[k100])) else some x99
def F_39 (r_:GRegistry) (issuer_:Int) (holder_:Int) (t_:Int):Option (List Int) := (foldL (F_6i issuer_ holder_ t_) r_.Credentials 0 []).bind fun x127=>some x127
@[irreducible] def mg_a4:List MOp:=[ta_ 24 25 2 11,tL 24 26 25,tV 24 27 2,gT 24 28 (.bin false .eql (.t 26) (.t 27)),pA 24 28 29]
@[irreducible] def mg_a5:List MOp:=[gT 30 31 (.ld (some 5) (.t 11)),tV 30 32 3,gT 30 33 (.call (.f 212) [(.t 31),(.t 32)] [] []),pA 30 33 34]
@[irreducible] def mc_6i:MC := (sR [bT .lss 15 14 16] (.seq (.cond (.t 16) .skip (.exit 0)) (.seq (.block 1 (sR [oV 15 17,iA 5 13 15 18,lN 5 18 19,mo (.alloc [(.int .i64 0),(.int .u64 0),(.int .i64 0),(.int .i64 0),(.int .i64 0)]) 11,oV 17 10,⟨.st 5 (.t 11) (.t 19),none,none⟩] (.seq (.regI [.op (oF 0 11 20),.op (oL 20 21),.op (oV 1 22),.op (bT .eql 21 22 23),.op (oV 23 24),.grp mg_a4,.op (oV 29 30),.grp mg_a5]) (.cond (.t 34) (.reg [oV 9 35,oV 10 36,mo (.bslice 1 [(.t 36)]) 37,ap 1 8 35 37 38,oV 38 9]) .skip)))) (.reg [aI 15 1 39,oV 39 15]))))
def mc_39:MC := (sR [bx 0 4,mo (.mv (.c (.sl []))) 8] (sR [mo (.mv (.c .nils)) 9] (.seq (sR [oF 1 4 12,oL 12 13,lE 13 14,oC 0 15] (.block 0 (.loop mc_6i))) (sR [oV 9 40,oV 40 8] .ret))))
attribute [go_sem] F_6i
instance:GI mg_a5 [1,2,3,9,10,13,14,15] [2009] (fun y:Bool=>[(34,.bool y)]) (fun y=>[]):=⟨⟩
instance:GV mg_a4 29 [25,26,27,28]:=⟨⟩
instance:LI mc_6i 15 14 [1,2,3,13,14] [] (fun y:List Int=>[(9,.osl 2009 1 0 y.length)]) (fun y=>[.o 2009 (.arr 1 (y.map (V.int .i64)))]) [.gc [1,2,3,9,13,14,15],.acc 9 2009 1]:=⟨⟩
instance Wq_39 {r_:GRegistry} {issuer_ holder_ t_:Int}:WI (F_39 r_ issuer_ holder_ t_) Tryz.prog 165 [GRegistry.v r_,.int .i64 issuer_,.int .i64 holder_,.int .i64 t_] [] (fun z=>.sl (z.map (V.int .i64))) (fun z=>[]):=⟨fun Q Q' h hQ=>by
 refine acallM mc_39 [.fz 8] [] [.t 8] Tryz.func165 fun M=>?_
 unfold F_39 at h
 unfold mc_39
 exact tX⟩
def F_4b (r_:GRegistry) (k43:Int) (a44:GCredential) (x42:Unit):Option (Fl Unit Int) := (F_39 r_ a44.Issuer a44.Holder a44.From).bind fun y52=>chk (inb a44.Issuer r_.Issuers.length) (bif decide ((r_.Issuers.getD (a44.Issuer).toNat default).Slots<(y52.length:Int)) then some (.ex 31) else some (.nx ()))
def F_1r (r_:GRegistry):Option Int := grp ((decide (8<(r_.Issuers.length:Int))||decide (24<(r_.Credentials.length:Int)))) fun b10=>bif b10 then some 31 else (F_38 r_.Issuers).bind fun y11=>bif y11 then some 31 else (F_1q r_.Credentials r_).bind fun y12=>bif y12 then some 31 else (forL (F_4b r_) r_.Credentials 0 ()).bind fun o=>o.elim (fun x53=>some 0) (fun r54=>some r54)
@[irreducible] def mg_i:List MOp:=[fa_ 12 13 1 1,fL 12 14 13,gF 12 15 (.len false (.t 14)),gF 12 16 (.bin false .gtr (.t 15) (cI 24)),pO 12 16 17]
@[irreducible] def mc_4b:MC := (sR [bT .lss 33 32 34] (.seq (.cond (.t 34) .skip (.exit 0)) (.seq (.block 1 (sR [iA 5 31 33 35,lN 5 35 36,mo (.alloc [(.int .i64 0),(.int .u64 0),(.int .i64 0),(.int .i64 0),(.int .i64 0)]) 6,⟨.st 5 (.t 6) (.t 36),none,none⟩] (.seq (.regD [lN 2 1 37,oF 0 6 38,oL 38 39,oF 2 6 40,oL 40 41,oF 3 6 42,oL 42 43,mo (.call (.f 165) [(.t 37),(.t 39),(.t 41),(.t 43)] [] []) 44,lE 44 45,oF 0 1 46,oL 46 47,oF 0 6 48,oL 48 49,iA 2 47 49 50,oF 1 50 51,oL 51 52,bT .gtr 45 52 53] [[],[],[1],[],[3],[],[5],[0,2,4,6],[7],[],[9],[],[11],[10,12],[13],[14],[8,15]] [[],[],[1],[],[3],[],[5],[0,1,2,3,4,5,6],[0,1,2,3,4,5,6,7],[],[9],[],[11],[9,10,11,12],[9,10,11,12,13],[9,10,11,12,13,14],[0,1,2,3,4,5,6,7,8,9,10,11,12,13,14,15]]) (.cond (.t 53) (sR [oC 31 2] .ret) .skip)))) (.reg [aI 33 1 54,oV 54 33]))))
def mc_1r:MC := (sR [bx 0 1,oC 0 2] (sR [mo (.mv (.f 158)) 3] (sR [mo (.mkfn 161 [(.t 1)]) 7,oV 7 4] (.seq (.seq (.regI [.op (oF 0 1 8),.op (oL 8 9),.op (lE 9 10),.op (bC .gtr 10 8 11),.op (oV 11 12),.grp mg_i,.op (oV 17 18),.op (fa_ 18 19 0 1),.op (fL 18 20 19),.op (fV 18 21 3),.op (gF 18 22 (.call (.f 163) [(.t 20),(.t 21)] [] [])),.op (pO 18 22 23),.op (oV 23 24),.op (fa_ 24 25 1 1),.op (fL 24 26 25),.op (fV 24 27 4),.op (gF 24 28 (.call (.f 164) [(.t 26),(.t 27)] [1] [])),.op (pO 24 28 29)]) (.cond (.t 29) (sR [oC 31 2] .ret) .skip)) (.seq (.seq (.note (.gc [1]) (.reg [oF 1 1 30,oL 30 31,lE 31 32,oC 0 33])) (.block 0 (.loop mc_4b))) (sR [oC 0 2] .ret))))))
instance Wq_1r {r_:GRegistry}:WI (F_1r r_) Tryz.prog 108 [GRegistry.v r_] [] (fun z=>.int .i64 z) (fun z=>[]):=⟨fun Q Q' h hQ=>by
 refine acallM mc_1r [] [] [.t 2] Tryz.func108 fun M=>?_
 unfold F_1r at h
 unfold mc_1r
 replace h:=tY h
 refine tB ?_
 repeat' (first
 | (exact tZ)
 | ((first|refine oblg h ?_|refine roomG h ?_|refine inbG h ?_|refine incG h ?_|refine divG h ?_|refine appG h ?_|refine appC h ?_|refine fork h ?_ ?_|refine forkS h ?_ ?_)<;>clear h<;>intro hc h)
 | (obtain ⟨y,hy,h⟩:=h;(first|have hw:=acall_swe 1000 1 (Wq_1q.c.w hy)|have hw:=WI.w hy);replace hw:=tY hw;(first|refine M.sC hw ?_|refine M.sD hw ?_);clear hw hy;refine tB ?_)
 | (refine M.for1 (b:=mc_4b) 33 [1,31,32] [1] (fun x=>[]) (fun x=>[]) [] h ?_ ?_ ?_<;>first
 | (clear h;intro k a x Qn K hK1 hkN1 ha1 h hf;have hl:=fact_int (factsE_find (n:=32) hf.1 rfl);clear hf;have hkd:=kD hkN1;have hkB1:=kB hkN1;have hkI1:=kI (k:=k) (by omega);unfold F_4b at h;unfold mc_4b;replace h:=tY h;refine tK ha1 hkd hkN1 hkB1 hkI1 ?_)
  |(clear h;intro x K h;replace h:=And.left (And.intro h trivial);unfold mc_4b;replace h:=tY h;refine tB ?_)
  |(clear h;(try refine tB ?_);exact tU0;done))
 | (refine M.gv1 (ms:=mg_i) 17 [13,14,15,16] h ?_ ?_<;>first
 | (clear h;intro K hK2;unfold mg_i;refine tB ?_)
 | (clear h;intro b h;replace h:=tY h;refine tB ?_))
 | (simp only [ha1])
 | (refine hK1 _ ?_;(try refine tB ?_);refine ⟨_,h,?_⟩;exact tU0;done)
 | (refine hK2 _ ?_;exact tU;done)
 | (refine bfork (fun hc=>?_) (fun hc=>?_))
 | (refine tE ?_;(first|rw [M.lok_compU]|rw [M.lokD_compU]);refine tB ?_)
 | (refine tA ?_)
 | fail)⟩
def F_6 (n_:Int) (low_:Int) (high_:Int):Option Bool := grp ((decide (low_≤n_)&&decide (n_≤high_))) fun b2=>some b2
@[irreducible] def mg_a6:List MOp:=[tV 10 11 0,tV 10 12 2,gT 10 13 (.bin false .leq (.t 11) (.t 12)),pA 10 13 14]
def mc_6:MC := (sR [mF 6] (.seq (.regI [.op (oV 0 7),.op (oV 1 8),.op (bT .geq 7 8 9),.op (oV 9 10),.grp mg_a6,.op (oV 14 6)]) .ret))
instance:GV mg_a6 14 [11,12,13]:=⟨⟩
instance Wq_6 {n_ low_ high_:Int}:WI (F_6 n_ low_ high_) Tryz.prog 166 [.int .i64 n_,.int .i64 low_,.int .i64 high_] [] (fun z=>.bool z) (fun z=>[]):=⟨fun Q Q' h hQ=>by
 refine acallM mc_6 [] [] [.t 6] Tryz.func166 fun M=>?_
 unfold F_6 at h
 unfold mc_6
 exact tX⟩
def F_9 (x_:GRights) (c_:Int):Option Bool := chk (in64 (x_.Credentials - 1)) ((F_6 c_ 0 (x_.Credentials - 1)).bind fun y2=>some y2)
def mc_9:MC := (sR [bx 0 2,mF 4] (sR [oV 1 5,oF 0 2 6,oL 6 7,sI 7 1 8,mo (.call (.f 166) [(.t 5),(cI 0),(.t 8)] [] []) 9,oV 9 4] .ret))
instance Wq_9 {x_:GRights} {c_:Int}:WI (F_9 x_ c_) Tryz.prog 168 [GRights.v x_,.int .i64 c_] [] (fun z=>.bool z) (fun z=>[]):=⟨fun Q Q' h hQ=>by
 refine acallM mc_9 [] [] [.t 4] Tryz.func168 fun M=>?_
 unfold F_9 at h
 unfold mc_9
 exact tX⟩
def F_1s (x_:GRights) (r_:Int):Option Bool := chk (in64 (x_.Resources - 1)) ((F_6 r_ 0 (x_.Resources - 1)).bind fun y2=>some y2)
def mc_1s:MC := (sR [bx 0 2,mF 4] (sR [oV 1 5,oF 1 2 6,oL 6 7,sI 7 1 8,mo (.call (.f 166) [(.t 5),(cI 0),(.t 8)] [] []) 9,oV 9 4] .ret))
instance Wq_1s {x_:GRights} {r_:Int}:WI (F_1s x_ r_) Tryz.prog 169 [GRights.v x_,.int .i64 r_] [] (fun z=>.bool z) (fun z=>[]):=⟨fun Q Q' h hQ=>by
 refine acallM mc_1s [] [] [.t 4] Tryz.func169 fun M=>?_
 unfold F_1s at h
 unfold mc_1s
 exact tX⟩
def F_j (g_:GGrant) (p_:GRights):Option Bool := (F_9 p_ g_.Credential).bind fun y6=>jn (α:=Bool) (bif (!y6) then some true else (F_1s p_ g_.Resource).bind fun y8=>some (!y8)) fun j9=>jn (α:=Bool) (bif j9 then some true else (F_6 g_.Right 1 3).bind fun y11=>some (!y11)) fun j12=>some j12
@[irreducible] def mg_a7:List MOp:=[gF 9 10 (.ld (some 5) (.t 1)),fa_ 9 11 1 2,fL 9 12 11,gF 9 13 (.call (.f 169) [(.t 10),(.t 12)] [] []),gF 9 14 (.not (.t 13)),pO 9 14 15]
@[irreducible] def mg_a8:List MOp:=[fa_ 16 17 2 2,fL 16 18 17,gF 16 19 (.call (.f 166) [(.t 18),(cI 1),(cI 3)] [] []),gF 16 20 (.not (.t 19)),pO 16 20 21]
def mc_j:MC := (sR [bx 0 2,mF 3] (.seq (.regI [.op (lN 5 1 4),.op (oF 0 2 5),.op (oL 5 6),.op (k2 168 4 6 7),.op (nT 7 8),.op (oV 8 9),.grp mg_a7,.op (oV 15 16),.grp mg_a8,.op (oV 21 3)]) .ret))
instance:GI mg_a8 [3] [1000] (fun y:Bool=>[(21,.bool y)]) (fun y=>[]):=⟨⟩
instance:GI mg_a7 [2,3] [2,1000] (fun y:Bool=>[(15,.bool y)]) (fun y=>[]):=⟨⟩
instance Wq_j {g_:GGrant} {p_:GRights}:WI (F_j g_ p_) Tryz.prog 167 [GGrant.v g_,.ptr 1000 0] [(1000,.cells [.int .i64 p_.Credentials,.int .i64 p_.Resources,.sl (p_.Grants.map GGrant.v),.sl (p_.Stores.map GStore.v),.sl (p_.Mints.map GMint.v)])] (fun z=>.bool z) (fun z=>[(1000,.cells [.int .i64 p_.Credentials,.int .i64 p_.Resources,.sl (p_.Grants.map GGrant.v),.sl (p_.Stores.map GStore.v),.sl (p_.Mints.map GMint.v)])]):=⟨fun Q Q' h hQ=>by
 refine acallM mc_j [] [1000] [.t 3] Tryz.func167 fun M=>?_
 unfold F_j at h
 unfold mc_j
 exact tX⟩
def F_6j (fc0_:GRights) (k31:Int) (a32:GGrant) (x30:Unit):Option (Fl Unit Int) := (F_j a32 fc0_).bind fun y40=>bif y40 then some (.ex k31) else some (.nx ())
def F_5a (s_:List GGrant) (fc0_:GRights):Option Int := (forL (F_6j fc0_) s_ 0 ()).bind fun o=>o.elim (fun x41=>some (-1)) (fun r42=>some r42)
@[irreducible] def mc_6j:MC := (sR [bT .lss 8 7 9] (.seq (.cond (.t 9) .skip (.exit 0)) (.seq (.block 1 (sR [oV 8 10,oV 10 5] (sR [oV 1 11,oV 0 12,oV 5 13,iA 3 12 13 14,lN 3 14 15,mo (.call (.t 11) [(.t 15)] [1000] []) 16] (.cond (.t 16) (sR [oV 5 17,oV 17 4] .ret) .skip)))) (.reg [aI 8 1 18,oV 18 8]))))
def mc_5a:MC := (sR [oC 0 4] (.seq (sR [oV 0 6,lE 6 7,oC 0 8] (.block 0 (.loop mc_6j))) (sR [oC (-1) 4] .ret)))
attribute [go_sem] F_6j
instance:LI mc_6j 8 7 [0,1,7] [1000] (fun y:Unit=>[]) (fun y=>[]) []:=⟨⟩
instance Wq_5a {s_:List GGrant} {fc0_:GRights}:WI (F_5a s_ fc0_) Tryz.prog 213 [.sl (s_.map GGrant.v),.fn (.func 167) [.ptr 1000 0]] [(1000,.cells [.int .i64 fc0_.Credentials,.int .i64 fc0_.Resources,.sl (fc0_.Grants.map GGrant.v),.sl (fc0_.Stores.map GStore.v),.sl (fc0_.Mints.map GMint.v)])] (fun z=>.int .i64 z) (fun z=>[(1000,.cells [.int .i64 fc0_.Credentials,.int .i64 fc0_.Resources,.sl (fc0_.Grants.map GGrant.v),.sl (fc0_.Stores.map GStore.v),.sl (fc0_.Mints.map GMint.v)])]):=⟨fun Q Q' h hQ=>by
 refine acallM mc_5a [] [1000] [.t 4] Tryz.func213 fun M=>?_
 unfold F_5a at h
 unfold mc_5a
 exact tX⟩
def F_3a (s_:List GGrant) (fc0_:GRights):Option Bool := (F_5a s_ fc0_).bind fun y2=>some (decide (0≤y2))
def mc_3a:MC := (sR [mF 4] (sR [oV 0 5,oV 1 6,mo (.call (.f 213) [(.t 5),(.t 6)] [1000] []) 7,bC .geq 7 0 8,oV 8 4] .ret))
instance Wq_3a {s_:List GGrant} {fc0_:GRights}:WI (F_3a s_ fc0_) Tryz.prog 172 [.sl (s_.map GGrant.v),.fn (.func 167) [.ptr 1000 0]] [(1000,.cells [.int .i64 fc0_.Credentials,.int .i64 fc0_.Resources,.sl (fc0_.Grants.map GGrant.v),.sl (fc0_.Stores.map GStore.v),.sl (fc0_.Mints.map GMint.v)])] (fun z=>.bool z) (fun z=>[(1000,.cells [.int .i64 fc0_.Credentials,.int .i64 fc0_.Resources,.sl (fc0_.Grants.map GGrant.v),.sl (fc0_.Stores.map GStore.v),.sl (fc0_.Mints.map GMint.v)])]):=⟨fun Q Q' h hQ=>by
 refine acallM mc_3a [] [1000] [.t 4] Tryz.func172 fun M=>?_
 unfold F_3a at h
 unfold mc_3a
 exact tX⟩
def F_k (s_:GStore) (p_:GRights):Option Bool := (F_9 p_ s_.Credential).bind fun y4=>jn (α:=Bool) (bif (!y4) then some true else (F_1s p_ s_.Resource).bind fun y6=>some (!y6)) fun j7=>some j7
@[irreducible] def mg_a9:List MOp:=[gF 9 10 (.ld (some 5) (.t 1)),fa_ 9 11 0 2,fL 9 12 11,gF 9 13 (.call (.f 169) [(.t 10),(.t 12)] [] []),gF 9 14 (.not (.t 13)),pO 9 14 15]
def mc_k:MC := (sR [bx 0 2,mF 3] (.seq (.regI [.op (lN 5 1 4),.op (oF 1 2 5),.op (oL 5 6),.op (k2 168 4 6 7),.op (nT 7 8),.op (oV 8 9),.grp mg_a9,.op (oV 15 3)]) .ret))
instance:GI mg_a9 [3] [1000] (fun y:Bool=>[(15,.bool y)]) (fun y=>[]):=⟨⟩
instance Wq_k {s_:GStore} {p_:GRights}:WI (F_k s_ p_) Tryz.prog 170 [GStore.v s_,.ptr 1000 0] [(1000,.cells [.int .i64 p_.Credentials,.int .i64 p_.Resources,.sl (p_.Grants.map GGrant.v),.sl (p_.Stores.map GStore.v),.sl (p_.Mints.map GMint.v)])] (fun z=>.bool z) (fun z=>[(1000,.cells [.int .i64 p_.Credentials,.int .i64 p_.Resources,.sl (p_.Grants.map GGrant.v),.sl (p_.Stores.map GStore.v),.sl (p_.Mints.map GMint.v)])]):=⟨fun Q Q' h hQ=>by
 refine acallM mc_k [] [1000] [.t 3] Tryz.func170 fun M=>?_
 unfold F_k at h
 unfold mc_k
 exact tX⟩
def F_6k (fc0_:GRights) (k31:Int) (a32:GStore) (x30:Unit):Option (Fl Unit Int) := (F_k a32 fc0_).bind fun y40=>bif y40 then some (.ex k31) else some (.nx ())
def F_5b (s_:List GStore) (fc0_:GRights):Option Int := (forL (F_6k fc0_) s_ 0 ()).bind fun o=>o.elim (fun x41=>some (-1)) (fun r42=>some r42)
@[irreducible] def mc_6k:MC := (sR [bT .lss 8 7 9] (.seq (.cond (.t 9) .skip (.exit 0)) (.seq (.block 1 (sR [oV 8 10,oV 10 5] (sR [oV 1 11,oV 0 12,oV 5 13,iA 2 12 13 14,lN 2 14 15,mo (.call (.t 11) [(.t 15)] [1000] []) 16] (.cond (.t 16) (sR [oV 5 17,oV 17 4] .ret) .skip)))) (.reg [aI 8 1 18,oV 18 8]))))
def mc_5b:MC := (sR [oC 0 4] (.seq (sR [oV 0 6,lE 6 7,oC 0 8] (.block 0 (.loop mc_6k))) (sR [oC (-1) 4] .ret)))
attribute [go_sem] F_6k
instance:LI mc_6k 8 7 [0,1,7] [1000] (fun y:Unit=>[]) (fun y=>[]) []:=⟨⟩
instance Wq_5b {s_:List GStore} {fc0_:GRights}:WI (F_5b s_ fc0_) Tryz.prog 214 [.sl (s_.map GStore.v),.fn (.func 170) [.ptr 1000 0]] [(1000,.cells [.int .i64 fc0_.Credentials,.int .i64 fc0_.Resources,.sl (fc0_.Grants.map GGrant.v),.sl (fc0_.Stores.map GStore.v),.sl (fc0_.Mints.map GMint.v)])] (fun z=>.int .i64 z) (fun z=>[(1000,.cells [.int .i64 fc0_.Credentials,.int .i64 fc0_.Resources,.sl (fc0_.Grants.map GGrant.v),.sl (fc0_.Stores.map GStore.v),.sl (fc0_.Mints.map GMint.v)])]):=⟨fun Q Q' h hQ=>by
 refine acallM mc_5b [] [1000] [.t 4] Tryz.func214 fun M=>?_
 unfold F_5b at h
 unfold mc_5b
 exact tX⟩
def F_3b (s_:List GStore) (fc0_:GRights):Option Bool := (F_5b s_ fc0_).bind fun y2=>some (decide (0≤y2))
def mc_3b:MC := (sR [mF 4] (sR [oV 0 5,oV 1 6,mo (.call (.f 214) [(.t 5),(.t 6)] [1000] []) 7,bC .geq 7 0 8,oV 8 4] .ret))
instance Wq_3b {s_:List GStore} {fc0_:GRights}:WI (F_3b s_ fc0_) Tryz.prog 173 [.sl (s_.map GStore.v),.fn (.func 170) [.ptr 1000 0]] [(1000,.cells [.int .i64 fc0_.Credentials,.int .i64 fc0_.Resources,.sl (fc0_.Grants.map GGrant.v),.sl (fc0_.Stores.map GStore.v),.sl (fc0_.Mints.map GMint.v)])] (fun z=>.bool z) (fun z=>[(1000,.cells [.int .i64 fc0_.Credentials,.int .i64 fc0_.Resources,.sl (fc0_.Grants.map GGrant.v),.sl (fc0_.Stores.map GStore.v),.sl (fc0_.Mints.map GMint.v)])]):=⟨fun Q Q' h hQ=>by
 refine acallM mc_3b [] [1000] [.t 4] Tryz.func173 fun M=>?_
 unfold F_3b at h
 unfold mc_3b
 exact tX⟩
def F_4c (m_:GMint) (p_:GRights):Option Bool := (F_9 p_ m_.From).bind fun y4=>jn (α:=Bool) (bif (!y4) then some true else (F_9 p_ m_.To).bind fun y6=>some (!y6)) fun j7=>some j7
@[irreducible] def mg_aa:List MOp:=[gF 9 10 (.ld (some 5) (.t 1)),fa_ 9 11 1 2,fL 9 12 11,gF 9 13 (.call (.f 168) [(.t 10),(.t 12)] [] []),gF 9 14 (.not (.t 13)),pO 9 14 15]
def mc_4c:MC := (sR [bx 0 2,mF 3] (.seq (.regI [.op (lN 5 1 4),.op (oF 0 2 5),.op (oL 5 6),.op (k2 168 4 6 7),.op (nT 7 8),.op (oV 8 9),.grp mg_aa,.op (oV 15 3)]) .ret))
instance:GI mg_aa [3] [1000] (fun y:Bool=>[(15,.bool y)]) (fun y=>[]):=⟨⟩
instance Wq_4c {m_:GMint} {p_:GRights}:WI (F_4c m_ p_) Tryz.prog 171 [GMint.v m_,.ptr 1000 0] [(1000,.cells [.int .i64 p_.Credentials,.int .i64 p_.Resources,.sl (p_.Grants.map GGrant.v),.sl (p_.Stores.map GStore.v),.sl (p_.Mints.map GMint.v)])] (fun z=>.bool z) (fun z=>[(1000,.cells [.int .i64 p_.Credentials,.int .i64 p_.Resources,.sl (p_.Grants.map GGrant.v),.sl (p_.Stores.map GStore.v),.sl (p_.Mints.map GMint.v)])]):=⟨fun Q Q' h hQ=>by
 refine acallM mc_4c [] [1000] [.t 3] Tryz.func171 fun M=>?_
 unfold F_4c at h
 unfold mc_4c
 exact tX⟩
def F_6l (fc0_:GRights) (k31:Int) (a32:GMint) (x30:Unit):Option (Fl Unit Int) := (F_4c a32 fc0_).bind fun y40=>bif y40 then some (.ex k31) else some (.nx ())
def F_5c (s_:List GMint) (fc0_:GRights):Option Int := (forL (F_6l fc0_) s_ 0 ()).bind fun o=>o.elim (fun x41=>some (-1)) (fun r42=>some r42)
@[irreducible] def mc_6l:MC := (sR [bT .lss 8 7 9] (.seq (.cond (.t 9) .skip (.exit 0)) (.seq (.block 1 (sR [oV 8 10,oV 10 5] (sR [oV 1 11,oV 0 12,oV 5 13,iA 2 12 13 14,lN 2 14 15,mo (.call (.t 11) [(.t 15)] [1000] []) 16] (.cond (.t 16) (sR [oV 5 17,oV 17 4] .ret) .skip)))) (.reg [aI 8 1 18,oV 18 8]))))
def mc_5c:MC := (sR [oC 0 4] (.seq (sR [oV 0 6,lE 6 7,oC 0 8] (.block 0 (.loop mc_6l))) (sR [oC (-1) 4] .ret)))
attribute [go_sem] F_6l
instance:LI mc_6l 8 7 [0,1,7] [1000] (fun y:Unit=>[]) (fun y=>[]) []:=⟨⟩
instance Wq_5c {s_:List GMint} {fc0_:GRights}:WI (F_5c s_ fc0_) Tryz.prog 215 [.sl (s_.map GMint.v),.fn (.func 171) [.ptr 1000 0]] [(1000,.cells [.int .i64 fc0_.Credentials,.int .i64 fc0_.Resources,.sl (fc0_.Grants.map GGrant.v),.sl (fc0_.Stores.map GStore.v),.sl (fc0_.Mints.map GMint.v)])] (fun z=>.int .i64 z) (fun z=>[(1000,.cells [.int .i64 fc0_.Credentials,.int .i64 fc0_.Resources,.sl (fc0_.Grants.map GGrant.v),.sl (fc0_.Stores.map GStore.v),.sl (fc0_.Mints.map GMint.v)])]):=⟨fun Q Q' h hQ=>by
 refine acallM mc_5c [] [1000] [.t 4] Tryz.func215 fun M=>?_
 unfold F_5c at h
 unfold mc_5c
 exact tX⟩
def F_3c (s_:List GMint) (fc0_:GRights):Option Bool := (F_5c s_ fc0_).bind fun y2=>some (decide (0≤y2))
def mc_3c:MC := (sR [mF 4] (sR [oV 0 5,oV 1 6,mo (.call (.f 215) [(.t 5),(.t 6)] [1000] []) 7,bC .geq 7 0 8,oV 8 4] .ret))
instance Wq_3c {s_:List GMint} {fc0_:GRights}:WI (F_3c s_ fc0_) Tryz.prog 174 [.sl (s_.map GMint.v),.fn (.func 171) [.ptr 1000 0]] [(1000,.cells [.int .i64 fc0_.Credentials,.int .i64 fc0_.Resources,.sl (fc0_.Grants.map GGrant.v),.sl (fc0_.Stores.map GStore.v),.sl (fc0_.Mints.map GMint.v)])] (fun z=>.bool z) (fun z=>[(1000,.cells [.int .i64 fc0_.Credentials,.int .i64 fc0_.Resources,.sl (fc0_.Grants.map GGrant.v),.sl (fc0_.Stores.map GStore.v),.sl (fc0_.Mints.map GMint.v)])]):=⟨fun Q Q' h hQ=>by
 refine acallM mc_3c [] [1000] [.t 4] Tryz.func174 fun M=>?_
 unfold F_3c at h
 unfold mc_3c
 exact tX⟩
def F_l (x_:GRights):Option Int := (F_6 x_.Credentials 0 24).bind fun y11=>bif (!y11) then some 32 else (F_6 x_.Resources 0 24).bind fun y12=>bif (!y12) then some 32 else grp ((decide (100<(x_.Grants.length:Int))||decide (100<(x_.Stores.length:Int)))) fun b15=>grp ((b15||decide (100<(x_.Mints.length:Int)))) fun b16=>bif b16 then some 32 else (F_3a x_.Grants x_).bind fun y26=>bif y26 then some 32 else (F_3b x_.Stores x_).bind fun y27=>bif y27 then some 32 else (F_3c x_.Mints x_).bind fun y28=>bif y28 then some 32 else some 0
@[irreducible] def mg_j:List MOp:=[fa_ 22 23 3 1,fL 22 24 23,gF 22 25 (.len false (.t 24)),gF 22 26 (.bin false .gtr (.t 25) (cI 100)),pO 22 26 27]
@[irreducible] def mg_k:List MOp:=[fa_ 28 29 4 1,fL 28 30 29,gF 28 31 (.len false (.t 30)),gF 28 32 (.bin false .gtr (.t 31) (cI 100)),pO 28 32 33]
def mc_l:MC := (sR [bx 0 1,oC 0 2] (.seq (.block 0 (sR [oF 0 1 7,oL 7 8,mo (.call (.f 166) [(.t 8),(cI 0),(cI 24)] [] []) 9,nT 9 10,oV 10 11,fa_ 11 12 1 1,fL 11 13 12,gF 11 14 (.call (.f 166) [(.t 13),(cI 0),(cI 24)] [] []),gF 11 15 (.not (.t 14)),pO 11 15 16,oV 16 6] (.cond (.t 6) (sR [oC 32 2] .ret) (.seq (.note (.gc [1,23,24,25,26,29,30,31,32,42,43,44,45,48,49,50,51]) (.regI [.op (oF 2 1 18),.op (oL 18 19),.op (lE 19 20),.op (bC .gtr 20 100 21),.op (oV 21 22),.grp mg_j,.op (oV 27 28),.grp mg_k,.op (oV 33 17)])) (.cond (.t 17) (sR [oC 32 2] .ret) .skip))))) (sR [mo (.mkfn 167 [(.t 1)]) 34,oV 34 3] (sR [mo (.mkfn 170 [(.t 1)]) 35,oV 35 4] (sR [mo (.mkfn 171 [(.t 1)]) 36,oV 36 5] (.seq (.seq (.note (.gc [1,3,4,5,42,43,44,45,48,49,50,51]) (.reg [oF 2 1 37,oL 37 38,oV 3 39,mo (.call (.f 172) [(.t 38),(.t 39)] [1] []) 40,oV 40 41,fa_ 41 42 3 1,fL 41 43 42,fV 41 44 4,gF 41 45 (.call (.f 173) [(.t 43),(.t 44)] [1] []),pO 41 45 46,oV 46 47,fa_ 47 48 4 1,fL 47 49 48,fV 47 50 5,gF 47 51 (.call (.f 174) [(.t 49),(.t 50)] [1] []),pO 47 51 52])) (.cond (.t 52) (sR [oC 32 2] .ret) .skip)) (sR [oC 0 2] .ret)))))))
instance Wq_l {x_:GRights}:WI (F_l x_) Tryz.prog 109 [GRights.v x_] [] (fun z=>.int .i64 z) (fun z=>[]):=⟨fun Q Q' h hQ=>by
 refine acallM mc_l [] [] [.t 2] Tryz.func109 fun M=>?_
 unfold F_l at h
 unfold mc_l
 replace h:=tY h
 refine tB ?_
 repeat' (first
 | (exact tZ)
 | ((first|refine oblg h ?_|refine roomG h ?_|refine inbG h ?_|refine incG h ?_|refine divG h ?_|refine appG h ?_|refine appC h ?_|refine fork h ?_ ?_|refine forkS h ?_ ?_)<;>clear h<;>intro hc h)
 | (obtain ⟨y,hy,h⟩:=h;(first|have hw:=acall_swe 1000 1 (Wq_3a.c.w hy)|have hw:=acall_swe 1000 1 (Wq_3b.c.w hy)|have hw:=acall_swe 1000 1 (Wq_3c.c.w hy)|have hw:=WI.w hy);replace hw:=tY hw;(first|refine M.sC hw ?_|refine M.sD hw ?_);clear hw hy;refine tB ?_)
 | (refine M.gv1 (ms:=mg_k) 33 [29,30,31,32] h ?_ ?_<;>first
 | (clear h;intro K hK1;unfold mg_k;refine tB ?_)
 | (clear h;intro b h;replace h:=tY h;refine tB ?_))
 | (refine M.gv1 (ms:=mg_j) 27 [23,24,25,26] h ?_ ?_<;>first
 | (clear h;intro K hK2;unfold mg_j;refine tB ?_)
 | (clear h;intro b h;replace h:=tY h;refine tB ?_))
 | ((first|refine hK1 _ ?_|refine hK2 _ ?_);exact tU;done)
 | (refine bfork (fun hc=>?_) (fun hc=>?_))
 | (refine tE ?_;(first|rw [M.lok_compU]|rw [M.lokD_compU]);refine tB ?_)
 | (refine tA ?_)
 | fail)⟩
def F_6m (fingerprint_:Int) (k20:Int) (a21:GCredential) (x19:List Int):Option (List Int) := bif decide (a21.Fingerprint=fingerprint_) then chk (room (x19.length+[k20].length) 8) (some (x19++[k20])) else some x19
def F_3d (r_:GRegistry) (fingerprint_:Int):Option (List Int) := (F_1r r_).bind fun y4=>bif (!decide (y4=0)) then some [] else (foldL (F_6m fingerprint_) r_.Credentials 0 []).bind fun x22=>some x22
@[irreducible] def mc_6m:MC := (sR [bT .lss 14 13 15] (.seq (.cond (.t 15) .skip (.exit 0)) (.seq (.block 1 (sR [oV 14 16,iA 5 12 14 17,lN 5 17 18,mo (.alloc [(.int .i64 0),(.int .u64 0),(.int .i64 0),(.int .i64 0),(.int .i64 0)]) 7,oV 16 6,⟨.st 5 (.t 7) (.t 18),none,none⟩] (sR [oF 1 7 19,oL 19 20,oV 1 21,bT .eql 20 21 22] (.cond (.t 22) (.note (.gc [1,5,6,12,13,14]) (.reg [oV 5 23,oV 6 24,mo (.bslice 1 [(.t 24)]) 25,ap 1 8 23 25 26,oV 26 5])) .skip)))) (.reg [aI 14 1 27,oV 27 14]))))
def mc_3d:MC := (sR [bx 0 2,mo (.mv (.c (.sl []))) 4] (.seq (sR [lN 2 2 8,k1 108 8 9,bC .neq 9 0 10] (.cond (.t 10) (sR [mo (.mv (.c (.sl []))) 4] .ret) .skip)) (sR [mo (.mv (.c .nils)) 5] (.seq (sR [oF 1 2 11,oL 11 12,lE 12 13,oC 0 14] (.block 0 (.loop mc_6m))) (sR [oV 5 28,oV 28 4] .ret)))))
attribute [go_sem] F_6m
instance:LI mc_6m 14 13 [1,12,13] [] (fun y:List Int=>[(5,.osl 2005 1 0 y.length)]) (fun y=>[.o 2005 (.arr 1 (y.map (V.int .i64)))]) [.gc [1,5,12,13,14],.acc 5 2005 1]:=⟨⟩
instance Wq_3d {r_:GRegistry} {fingerprint_:Int}:WI (F_3d r_ fingerprint_) Tryz.prog 111 [GRegistry.v r_,.int .u64 fingerprint_] [] (fun z=>.sl (z.map (V.int .i64))) (fun z=>[]):=⟨fun Q Q' h hQ=>by
 refine acallM mc_3d [.fz 4] [] [.t 4] Tryz.func111 fun M=>?_
 unfold F_3d at h
 unfold mc_3d
 exact tX⟩
def F_4d (w_:Int):Option Bool := grp ((decide (w_<0)||decide (100<w_))) fun b2=>some b2
@[irreducible] def mg_ab:List MOp:=[fV 5 6 0,gF 5 7 (.bin false .gtr (.t 6) (cI 100)),pO 5 7 8]
def mc_4d:MC := (sR [mF 2] (.seq (.regI [.op (oV 0 3),.op (bC .lss 3 0 4),.op (oV 4 5),.grp mg_ab,.op (oV 8 2)]) .ret))
instance:GV mg_ab 8 [6,7]:=⟨⟩
instance Wq_4d {w_:Int}:WI (F_4d w_) Tryz.prog 110 [.int .i64 w_] [] (fun z=>.bool z) (fun z=>[]):=⟨fun Q Q' h hQ=>by
 refine acallM mc_4d [] [] [.t 2] Tryz.func110 fun M=>?_
 unfold F_4d at h
 unfold mc_4d
 exact tX⟩
def F_6n (k31:Int) (a32:Int) (x30:Unit):Option (Fl Unit Int) := (F_4d a32).bind fun y40=>bif y40 then some (.ex k31) else some (.nx ())
def F_4e (s_:List Int):Option Int := (forL F_6n s_ 0 ()).bind fun o=>o.elim (fun x41=>some (-1)) (fun r42=>some r42)
@[irreducible] def mc_6n:MC := (sR [bT .lss 8 7 9] (.seq (.cond (.t 9) .skip (.exit 0)) (.seq (.block 1 (sR [oV 8 10,oV 10 5] (sR [oV 1 11,oV 0 12,oV 5 13,iA 1 12 13 14,oL 14 15,mo (.call (.t 11) [(.t 15)] [] []) 16] (.cond (.t 16) (sR [oV 5 17,oV 17 4] .ret) .skip)))) (.reg [aI 8 1 18,oV 18 8]))))
def mc_4e:MC := (sR [oC 0 4] (.seq (sR [oV 0 6,lE 6 7,oC 0 8] (.block 0 (.loop mc_6n))) (sR [oC (-1) 4] .ret)))
attribute [go_sem] F_6n
instance:LI mc_6n 8 7 [0,1,7] [] (fun y:Unit=>[]) (fun y=>[]) []:=⟨⟩
instance Wq_4e {s_:List Int}:WI (F_4e s_) Tryz.prog 175 [.sl (s_.map (V.int .i64)),.fn (.func 110) []] [] (fun z=>.int .i64 z) (fun z=>[]):=⟨fun Q Q' h hQ=>by
 refine acallM mc_4e [] [] [.t 4] Tryz.func175 fun M=>?_
 unfold F_4e at h
 unfold mc_4e
 exact tX⟩
def F_3e (s_:List Int):Option Bool := (F_4e s_).bind fun y2=>some (decide (0≤y2))
def mc_3e:MC := (sR [mF 4] (sR [oV 0 5,oV 1 6,k2 175 5 6 7,bC .geq 7 0 8,oV 8 4] .ret))
instance Wq_3e {s_:List Int}:WI (F_3e s_) Tryz.prog 112 [.sl (s_.map (V.int .i64)),.fn (.func 110) []] [] (fun z=>.bool z) (fun z=>[]):=⟨fun Q Q' h hQ=>by
 refine acallM mc_3e [] [] [.t 4] Tryz.func112 fun M=>?_
 unfold F_3e at h
 unfold mc_3e
 exact tX⟩
def F_5d (c_:Int) (p_:GRights):Option Bool := some (decide (p_.Credentials≤c_))
def mc_5d:MC := (sR [mF 3] (sR [oV 0 4,oF 0 1 5,oL 5 6,bT .geq 4 6 7,oV 7 3] .ret))
instance Wq_5d {c_:Int} {p_:GRights}:WI (F_5d c_ p_) Tryz.prog 113 [.int .i64 c_,.ptr 1000 0] [(1000,.cells [.int .i64 p_.Credentials,.int .i64 p_.Resources,.sl (p_.Grants.map GGrant.v),.sl (p_.Stores.map GStore.v),.sl (p_.Mints.map GMint.v)])] (fun z=>.bool z) (fun z=>[(1000,.cells [.int .i64 p_.Credentials,.int .i64 p_.Resources,.sl (p_.Grants.map GGrant.v),.sl (p_.Stores.map GStore.v),.sl (p_.Mints.map GMint.v)])]):=⟨fun Q Q' h hQ=>by
 refine acallM mc_5d [] [1000] [.t 3] Tryz.func113 fun M=>?_
 unfold F_5d at h
 unfold mc_5d
 exact tX⟩
def F_74 (fc0_:GRights) (k31:Int) (a32:Int) (x30:Unit):Option (Fl Unit Int) := (F_5d a32 fc0_).bind fun y40=>bif y40 then some (.ex k31) else some (.nx ())
def F_4f (s_:List Int) (fc0_:GRights):Option Int := (forL (F_74 fc0_) s_ 0 ()).bind fun o=>o.elim (fun x41=>some (-1)) (fun r42=>some r42)
@[irreducible] def mc_74:MC := (sR [bT .lss 8 7 9] (.seq (.cond (.t 9) .skip (.exit 0)) (.seq (.block 1 (sR [oV 8 10,oV 10 5] (sR [oV 1 11,oV 0 12,oV 5 13,iA 1 12 13 14,oL 14 15,mo (.call (.t 11) [(.t 15)] [1000] []) 16] (.cond (.t 16) (sR [oV 5 17,oV 17 4] .ret) .skip)))) (.reg [aI 8 1 18,oV 18 8]))))
def mc_4f:MC := (sR [oC 0 4] (.seq (sR [oV 0 6,lE 6 7,oC 0 8] (.block 0 (.loop mc_74))) (sR [oC (-1) 4] .ret)))
attribute [go_sem] F_74
instance:LI mc_74 8 7 [0,1,7] [1000] (fun y:Unit=>[]) (fun y=>[]) []:=⟨⟩
instance Wq_4f {s_:List Int} {fc0_:GRights}:WI (F_4f s_ fc0_) Tryz.prog 175 [.sl (s_.map (V.int .i64)),.fn (.func 113) [.ptr 1000 0]] [(1000,.cells [.int .i64 fc0_.Credentials,.int .i64 fc0_.Resources,.sl (fc0_.Grants.map GGrant.v),.sl (fc0_.Stores.map GStore.v),.sl (fc0_.Mints.map GMint.v)])] (fun z=>.int .i64 z) (fun z=>[(1000,.cells [.int .i64 fc0_.Credentials,.int .i64 fc0_.Resources,.sl (fc0_.Grants.map GGrant.v),.sl (fc0_.Stores.map GStore.v),.sl (fc0_.Mints.map GMint.v)])]):=⟨fun Q Q' h hQ=>by
 refine acallM mc_4f [] [1000] [.t 4] Tryz.func175 fun M=>?_
 unfold F_4f at h
 unfold mc_4f
 exact tX⟩
def F_1t (s_:List Int) (fc0_:GRights):Option Bool := (F_4f s_ fc0_).bind fun y2=>some (decide (0≤y2))
def mc_1t:MC := (sR [mF 4] (sR [oV 0 5,oV 1 6,mo (.call (.f 175) [(.t 5),(.t 6)] [1000] []) 7,bC .geq 7 0 8,oV 8 4] .ret))
instance Wq_1t {s_:List Int} {fc0_:GRights}:WI (F_1t s_ fc0_) Tryz.prog 112 [.sl (s_.map (V.int .i64)),.fn (.func 113) [.ptr 1000 0]] [(1000,.cells [.int .i64 fc0_.Credentials,.int .i64 fc0_.Resources,.sl (fc0_.Grants.map GGrant.v),.sl (fc0_.Stores.map GStore.v),.sl (fc0_.Mints.map GMint.v)])] (fun z=>.bool z) (fun z=>[(1000,.cells [.int .i64 fc0_.Credentials,.int .i64 fc0_.Resources,.sl (fc0_.Grants.map GGrant.v),.sl (fc0_.Stores.map GStore.v),.sl (fc0_.Mints.map GMint.v)])]):=⟨fun Q Q' h hQ=>by
 refine acallM mc_1t [] [1000] [.t 4] Tryz.func112 fun M=>?_
 unfold F_1t at h
 unfold mc_1t
 exact tX⟩
def F_z (w_:Int):Option Bool := grp ((decide (w_<0)||decide (100<w_))) fun b2=>some b2
@[irreducible] def mg_ac:List MOp:=[fV 5 6 0,gF 5 7 (.bin false .gtr (.t 6) (cI 100)),pO 5 7 8]
def mc_z:MC := (sR [mF 2] (.seq (.regI [.op (oV 0 3),.op (bC .lss 3 0 4),.op (oV 4 5),.grp mg_ac,.op (oV 8 2)]) .ret))
instance:GV mg_ac 8 [6,7]:=⟨⟩
instance Wq_z {w_:Int}:WI (F_z w_) Tryz.prog 216 [.int .i64 w_] [] (fun z=>.bool z) (fun z=>[]):=⟨fun Q Q' h hQ=>by
 refine acallM mc_z [] [] [.t 2] Tryz.func216 fun M=>?_
 unfold F_z at h
 unfold mc_z
 exact tX⟩
def F_6o (k31:Int) (a32:Int) (x30:Unit):Option (Fl Unit Int) := (F_z a32).bind fun y40=>bif y40 then some (.ex k31) else some (.nx ())
def F_5e (s_:List Int):Option Int := (forL F_6o s_ 0 ()).bind fun o=>o.elim (fun x41=>some (-1)) (fun r42=>some r42)
@[irreducible] def mc_6o:MC := (sR [bT .lss 8 7 9] (.seq (.cond (.t 9) .skip (.exit 0)) (.seq (.block 1 (sR [oV 8 10,oV 10 5] (sR [oV 1 11,oV 0 12,oV 5 13,iA 1 12 13 14,oL 14 15,mo (.call (.t 11) [(.t 15)] [] []) 16] (.cond (.t 16) (sR [oV 5 17,oV 17 4] .ret) .skip)))) (.reg [aI 8 1 18,oV 18 8]))))
def mc_5e:MC := (sR [oC 0 4] (.seq (sR [oV 0 6,lE 6 7,oC 0 8] (.block 0 (.loop mc_6o))) (sR [oC (-1) 4] .ret)))
attribute [go_sem] F_6o
instance:LI mc_6o 8 7 [0,1,7] [] (fun y:Unit=>[]) (fun y=>[]) []:=⟨⟩
instance Wq_5e {s_:List Int}:WI (F_5e s_) Tryz.prog 175 [.sl (s_.map (V.int .i64)),.fn (.func 216) []] [] (fun z=>.int .i64 z) (fun z=>[]):=⟨fun Q Q' h hQ=>by
 refine acallM mc_5e [] [] [.t 4] Tryz.func175 fun M=>?_
 unfold F_5e at h
 unfold mc_5e
 exact tX⟩
def F_4g (s_:List Int):Option Bool := (F_5e s_).bind fun y2=>some (decide (0≤y2))
def mc_4g:MC := (sR [mF 4] (sR [oV 0 5,oV 1 6,k2 175 5 6 7,bC .geq 7 0 8,oV 8 4] .ret))
instance Wq_4g {s_:List Int}:WI (F_4g s_) Tryz.prog 112 [.sl (s_.map (V.int .i64)),.fn (.func 216) []] [] (fun z=>.bool z) (fun z=>[]):=⟨fun Q Q' h hQ=>by
 refine acallM mc_4g [] [] [.t 4] Tryz.func112 fun M=>?_
 unfold F_4g at h
 unfold mc_4g
 exact tX⟩
def F_6p (c_:Int) (k16:Int) (a17:GMint) (x15:List GLink):Option (List GLink) := bif decide (a17.From=c_) then chk (room (x15.length+[(GLink.mk 2 (-1) (-1) k16)].length) 32) (some (x15++[(GLink.mk 2 (-1) (-1) k16)])) else some x15
def F_6q (c_:Int) (k384:Int) (a385:GGrant) (k479:Int) (a480:GStore) (x478:List GLink):Option (List GLink) := grp ((decide (a385.Credential=c_)&&decide (a480.Resource=a385.Resource))) fun b488=>bif b488 then chk (room (x478.length+[(GLink.mk 1 k384 k479 (-1))].length) 32) (some (x478++[(GLink.mk 1 k384 k479 (-1))])) else some x478
def F_6r (x_:GRights) (c_:Int) (k384:Int) (a385:GGrant) (x383:List GLink):Option (List GLink) := (foldL (F_6q c_ k384 a385) x_.Stores 0 x383).bind fun x489=>some x489
def F_10 (x_:GRights) (c_:Int):Option (List GLink) := (foldL (F_6p c_) x_.Mints 0 []).bind fun x18=>(foldL (F_6r x_ c_) x_.Grants 0 x18).bind fun x490=>some x490
@[irreducible] def mc_6p:MC := (sR [bT .lss 15 14 16] (.seq (.cond (.t 16) .skip (.exit 0)) (.seq (.block 1 (sR [oV 15 17,iA 2 13 15 18,lN 2 18 19,mo (.alloc [(.int .i64 0),(.int .i64 0)]) 7,oV 17 6,⟨.st 2 (.t 7) (.t 19),none,none⟩] (sR [oF 0 7 20,oL 20 21,oV 1 22,bT .eql 21 22 23] (.cond (.t 23) (.note (.gc [1,2,5,6,13,14,15,51,52,53,54,55]) (.reg [oV 5 24,oV 6 25,mo (.build [(.int .i64 0),(.int .i64 0),(.int .i64 0),(.int .i64 0)] [(0,1,(cI 2)),(1,1,(cI (-1))),(2,1,(cI (-1))),(3,1,(.t 25))]) 26,mo (.bslice 4 [(.t 26)]) 27,ap 4 32 24 27 28,oV 28 5])) .skip)))) (.reg [aI 15 1 29,oV 29 15]))))
@[irreducible] def mg_ad:List MOp:=[ta_ 50 51 0 11,tL 50 52 51,ta_ 50 53 1 9,tL 50 54 53,gT 50 55 (.bin false .eql (.t 52) (.t 54)),pA 50 55 56]
@[irreducible] def mc_6q:MC := (sR [bT .lss 41 40 42] (.seq (.cond (.t 42) .skip (.exit 4)) (.seq (.block 5 (sR [oV 41 43,iA 2 39 41 44,lN 2 44 45,mo (.alloc [(.int .i64 0),(.int .i64 0)]) 11,oV 43 10,⟨.st 2 (.t 11) (.t 45),none,none⟩] (.seq (.regI [.op (oF 0 9 46),.op (oL 46 47),.op (oV 1 48),.op (bT .eql 47 48 49),.op (oV 49 50),.grp mg_ad]) (.cond (.t 56) (.note (.gc [1,2,5,8,9,10,31,32,33,39,40,41,51,52,53,54,55]) (.reg [oV 5 57,oV 8 58,oV 10 59,mo (.build [(.int .i64 0),(.int .i64 0),(.int .i64 0),(.int .i64 0)] [(0,1,(cI 1)),(1,1,(.t 58)),(2,1,(.t 59)),(3,1,(cI (-1)))]) 60,mo (.bslice 4 [(.t 60)]) 61,ap 4 32 57 61 62,oV 62 5])) .skip)))) (.reg [aI 41 1 63,oV 63 41]))))
@[irreducible] def mc_6r:MC := (sR [bT .lss 33 32 34] (.seq (.cond (.t 34) .skip (.exit 2)) (.seq (.block 3 (sR [oV 33 35,iA 3 31 33 36,lN 3 36 37,mo (.alloc [(.int .i64 0),(.int .i64 0),(.int .i64 0)]) 9,oV 35 8,⟨.st 3 (.t 9) (.t 37),none,none⟩] (sR [oF 3 2 38,oL 38 39,lE 39 40,oC 0 41] (.block 4 (.loop mc_6q))))) (.reg [aI 33 1 64,oV 64 33]))))
def mc_10:MC := (sR [bx 0 2,mo (.mv (.c (.sl []))) 4] (sR [mo (.mv (.c .nils)) 5] (.seq (sR [oF 4 2 12,oL 12 13,lE 13 14,oC 0 15] (.block 0 (.loop mc_6p))) (.seq (sR [oF 2 2 30,oL 30 31,lE 31 32,oC 0 33] (.block 2 (.loop mc_6r))) (sR [oV 5 65,oV 65 4] .ret)))))
attribute [go_sem] F_6p F_6q F_6r
instance:LI mc_6p 15 14 [1,2,13,14] [2] (fun y:List GLink=>[(5,.osl 2005 4 0 y.length)]) (fun y=>[.o 2005 (.arr 4 (y.map GLink.v))]) [.gc [1,2,5,13,14,15],.acc 5 2005 4]:=⟨⟩
instance:GV mg_ad 56 [51,52,53,54,55]:=⟨⟩
instance:LI mc_6q 41 40 [1,2,8,9,31,32,33,39,40] [9,2] (fun y:List GLink=>[(5,.osl 2005 4 0 y.length)]) (fun y=>[.o 2005 (.arr 4 (y.map GLink.v))]) [.gc [1,2,5,8,9,31,32,33,39,40,41],.acc 5 2005 4]:=⟨⟩
instance:LI mc_6r 33 32 [1,2,31,32] [2] (fun y:List GLink=>[(5,.osl 2005 4 0 y.length)]) (fun y=>[.o 2005 (.arr 4 (y.map GLink.v))]) []:=⟨⟩
instance Wq_10 {x_:GRights} {c_:Int}:WI (F_10 x_ c_) Tryz.prog 279 [GRights.v x_,.int .i64 c_] [] (fun z=>.sl (z.map GLink.v)) (fun z=>[]):=⟨fun Q Q' h hQ=>by
 refine acallM mc_10 [.fz 4] [] [.t 4] Tryz.func279 fun M=>?_
 unfold F_10 at h
 unfold mc_10
 exact tX⟩
def F_m (x_:GRights) (c_:Int) (l_:GLink):Option (Int×Bool) := grp ((decide (l_.Kind=2)&&decide (l_.Grant=(-1)))) fun b20=>grp ((b20&&decide (l_.Store=(-1)))) fun b21=>jn (α:=Bool) (bif b21 then chk (in64 ((x_.Mints.length:Int) - 1)) ((F_6 l_.Mint 0 ((x_.Mints.length:Int) - 1)).bind fun y23=>some y23) else some false) fun j24=>jn (α:=Bool) (bif j24 then chk (inb l_.Mint x_.Mints.length) (some (decide ((x_.Mints.getD (l_.Mint).toNat default).From=c_))) else some false) fun j25=>bif j25 then chk (inb l_.Mint x_.Mints.length) (some ((x_.Mints.getD (l_.Mint).toNat default).To,true)) else bif decide (l_.Kind=1) then bif decide (l_.Mint=(-1)) then chk (in64 ((x_.Grants.length:Int) - 1)) ((F_6 l_.Grant 0 ((x_.Grants.length:Int) - 1)).bind fun y28=>bif y28 then chk (in64 ((x_.Stores.length:Int) - 1)) ((F_6 l_.Store 0 ((x_.Stores.length:Int) - 1)).bind fun y29=>bif y29 then chk (inb l_.Grant x_.Grants.length) (bif decide ((x_.Grants.getD (l_.Grant).toNat default).Credential=c_) then chk (inb l_.Store x_.Stores.length) (chk (inb l_.Grant x_.Grants.length) (bif decide ((x_.Stores.getD (l_.Store).toNat default).Resource=(x_.Grants.getD (l_.Grant).toNat default).Resource) then chk (inb l_.Store x_.Stores.length) (some ((x_.Stores.getD (l_.Store).toNat default).Credential,true)) else some (0,false))) else some (0,false)) else some (0,false)) else some (0,false)) else some (0,false) else some (0,false)
@[irreducible] def mg_ae:List MOp:=[ta_ 12 13 1 5,tL 12 14 13,gT 12 15 (.bin false .eql (.t 14) (cI (-1))),pA 12 15 16]
@[irreducible] def mg_af:List MOp:=[ta_ 17 18 2 5,tL 17 19 18,gT 17 20 (.bin false .eql (.t 19) (cI (-1))),pA 17 20 21]
@[irreducible] def mg_ag:List MOp:=[ta_ 22 23 3 5,tL 22 24 23,ta_ 22 25 4 3,tL 22 26 25,gT 22 27 (.len false (.t 26)),gT 22 28 (.bin true .sub (.t 27) (cI 1)),gT 22 29 (.call (.f 166) [(.t 24),(cI 0),(.t 28)] [] []),pA 22 29 30]
@[irreducible] def mg_ah:List MOp:=[ta_ 31 32 4 3,tL 31 33 32,ta_ 31 34 3 5,tL 31 35 34,gT 31 36 (.iad 2 (.t 33) (.t 35)),ta_ 31 37 0 36,tL 31 38 37,tV 31 39 1,gT 31 40 (.bin false .eql (.t 38) (.t 39)),pA 31 40 41]
def mc_m:MC := (sR [bx 0 3,bx 2 5,oC 0 6,mF 7] (.seq (.block 0 (.seq (.regI [.op (oF 0 5 9),.op (oL 9 10),.op (bC .eql 10 2 11),.op (oV 11 12),.grp mg_ae,.op (oV 16 17),.grp mg_af,.op (oV 21 22),.grp mg_ag,.op (oV 30 31),.grp mg_ah,.op (oV 41 8)]) (.cond (.t 8) (sR [oF 4 3 42,oL 42 43,oF 3 5 44,oL 44 45,iA 2 43 45 46,oF 1 46 47,oL 47 48,oV 48 6,mT 7] .ret) (.seq (.regD [oF 0 5 50,oL 50 51,bC .eql 51 1 52,oV 52 53,ta_ 53 54 3 5,tL 53 55 54,gT 53 56 (.bin false .eql (.t 55) (cI (-1))),pA 53 56 57,oV 57 58,ta_ 58 59 1 5,tL 58 60 59,ta_ 58 61 2 3,tL 58 62 61,gT 58 63 (.len false (.t 62)),gT 58 64 (.bin true .sub (.t 63) (cI 1)),gT 58 65 (.call (.f 166) [(.t 60),(cI 0),(.t 64)] [] []),pA 58 65 66,oV 66 67,ta_ 67 68 2 5,tL 67 69 68,ta_ 67 70 3 3,tL 67 71 70,gT 67 72 (.len false (.t 71)),gT 67 73 (.bin true .sub (.t 72) (cI 1)),gT 67 74 (.call (.f 166) [(.t 69),(cI 0),(.t 73)] [] []),pA 67 74 75,oV 75 76,ta_ 76 77 2 3,tL 76 78 77,ta_ 76 79 1 5,tL 76 80 79,gT 76 81 (.iad 3 (.t 78) (.t 80)),ta_ 76 82 0 81,tL 76 83 82,tV 76 84 1,gT 76 85 (.bin false .eql (.t 83) (.t 84)),pA 76 85 86,oV 86 87,ta_ 87 88 3 3,tL 87 89 88,ta_ 87 90 2 5,tL 87 91 90,gT 87 92 (.iad 2 (.t 89) (.t 91)),ta_ 87 93 0 92,tL 87 94 93,ta_ 87 95 2 3,tL 87 96 95,ta_ 87 97 1 5,tL 87 98 97,gT 87 99 (.iad 3 (.t 96) (.t 98)),ta_ 87 100 1 99,tL 87 101 100,gT 87 102 (.bin false .eql (.t 94) (.t 101)),pA 87 102 103,oV 103 49] [[],[0],[1],[2],[3],[4,3],[5,3],[3,6],[7,3],[8],[9,8],[8],[11,8],[12,8],[13,8],[10,14,8,8],[8,15],[16,15],[17],[18,17],[17],[20,17],[21,17],[22,17],[19,23,17,17],[17,24],[25,24],[26],[27,26],[26],[29,26],[28,30,26],[31,26],[32,26],[26],[33,34,26],[26,35],[36,26],[37],[38,37],[37],[40,37],[39,41,37],[42,37],[43,37],[37],[45,37],[37],[47,37],[46,48,37],[49,37],[50,37],[44,51,37],[37,52],[53,37]] [[],[0],[0,1],[0,1,2],[0,1,2,3],[0,1,2,3,4],[0,1,2,3,4,5],[0,1,2,3,4,5,6],[0,1,2,3,4,5,6,7],[0,1,2,3,4,5,6,7,8],[0,1,2,3,4,5,6,7,8,9],[0,1,2,3,4,5,6,7,8],[0,1,2,3,4,5,6,7,8,11],[0,1,2,3,4,5,6,7,8,11,12],[0,1,2,3,4,5,6,7,8,11,12,13],[0,1,2,3,4,5,6,7,8,9,10,11,12,13,14],[0,1,2,3,4,5,6,7,8,9,10,11,12,13,14,15],[0,1,2,3,4,5,6,7,8,9,10,11,12,13,14,15,16],[0,1,2,3,4,5,6,7,8,9,10,11,12,13,14,15,16,17],[0,1,2,3,4,5,6,7,8,9,10,11,12,13,14,15,16,17,18],[0,1,2,3,4,5,6,7,8,9,10,11,12,13,14,15,16,17],[0,1,2,3,4,5,6,7,8,9,10,11,12,13,14,15,16,17,20],[0,1,2,3,4,5,6,7,8,9,10,11,12,13,14,15,16,17,20,21],[0,1,2,3,4,5,6,7,8,9,10,11,12,13,14,15,16,17,20,21,22],[0,1,2,3,4,5,6,7,8,9,10,11,12,13,14,15,16,17,18,19,20,21,22,23],[0,1,2,3,4,5,6,7,8,9,10,11,12,13,14,15,16,17,18,19,20,21,22,23,24],[0,1,2,3,4,5,6,7,8,9,10,11,12,13,14,15,16,17,18,19,20,21,22,23,24,25],[0,1,2,3,4,5,6,7,8,9,10,11,12,13,14,15,16,17,18,19,20,21,22,23,24,25,26],[0,1,2,3,4,5,6,7,8,9,10,11,12,13,14,15,16,17,18,19,20,21,22,23,24,25,26,27],[0,1,2,3,4,5,6,7,8,9,10,11,12,13,14,15,16,17,18,19,20,21,22,23,24,25,26],[0,1,2,3,4,5,6,7,8,9,10,11,12,13,14,15,16,17,18,19,20,21,22,23,24,25,26,29],[0,1,2,3,4,5,6,7,8,9,10,11,12,13,14,15,16,17,18,19,20,21,22,23,24,25,26,27,28,29,30],[0,1,2,3,4,5,6,7,8,9,10,11,12,13,14,15,16,17,18,19,20,21,22,23,24,25,26,27,28,29,30,31],[0,1,2,3,4,5,6,7,8,9,10,11,12,13,14,15,16,17,18,19,20,21,22,23,24,25,26,27,28,29,30,31,32],[0,1,2,3,4,5,6,7,8,9,10,11,12,13,14,15,16,17,18,19,20,21,22,23,24,25,26],[0,1,2,3,4,5,6,7,8,9,10,11,12,13,14,15,16,17,18,19,20,21,22,23,24,25,26,27,28,29,30,31,32,33,34],[0,1,2,3,4,5,6,7,8,9,10,11,12,13,14,15,16,17,18,19,20,21,22,23,24,25,26,27,28,29,30,31,32,33,34,35],[0,1,2,3,4,5,6,7,8,9,10,11,12,13,14,15,16,17,18,19,20,21,22,23,24,25,26,27,28,29,30,31,32,33,34,35,36],[0,1,2,3,4,5,6,7,8,9,10,11,12,13,14,15,16,17,18,19,20,21,22,23,24,25,26,27,28,29,30,31,32,33,34,35,36,37],[0,1,2,3,4,5,6,7,8,9,10,11,12,13,14,15,16,17,18,19,20,21,22,23,24,25,26,27,28,29,30,31,32,33,34,35,36,37,38],[0,1,2,3,4,5,6,7,8,9,10,11,12,13,14,15,16,17,18,19,20,21,22,23,24,25,26,27,28,29,30,31,32,33,34,35,36,37],[0,1,2,3,4,5,6,7,8,9,10,11,12,13,14,15,16,17,18,19,20,21,22,23,24,25,26,27,28,29,30,31,32,33,34,35,36,37,40],[0,1,2,3,4,5,6,7,8,9,10,11,12,13,14,15,16,17,18,19,20,21,22,23,24,25,26,27,28,29,30,31,32,33,34,35,36,37,38,39,40,41],[0,1,2,3,4,5,6,7,8,9,10,11,12,13,14,15,16,17,18,19,20,21,22,23,24,25,26,27,28,29,30,31,32,33,34,35,36,37,38,39,40,41,42],[0,1,2,3,4,5,6,7,8,9,10,11,12,13,14,15,16,17,18,19,20,21,22,23,24,25,26,27,28,29,30,31,32,33,34,35,36,37,38,39,40,41,42,43],[0,1,2,3,4,5,6,7,8,9,10,11,12,13,14,15,16,17,18,19,20,21,22,23,24,25,26,27,28,29,30,31,32,33,34,35,36,37],[0,1,2,3,4,5,6,7,8,9,10,11,12,13,14,15,16,17,18,19,20,21,22,23,24,25,26,27,28,29,30,31,32,33,34,35,36,37,45],[0,1,2,3,4,5,6,7,8,9,10,11,12,13,14,15,16,17,18,19,20,21,22,23,24,25,26,27,28,29,30,31,32,33,34,35,36,37],[0,1,2,3,4,5,6,7,8,9,10,11,12,13,14,15,16,17,18,19,20,21,22,23,24,25,26,27,28,29,30,31,32,33,34,35,36,37,47],[0,1,2,3,4,5,6,7,8,9,10,11,12,13,14,15,16,17,18,19,20,21,22,23,24,25,26,27,28,29,30,31,32,33,34,35,36,37,45,46,47,48],[0,1,2,3,4,5,6,7,8,9,10,11,12,13,14,15,16,17,18,19,20,21,22,23,24,25,26,27,28,29,30,31,32,33,34,35,36,37,45,46,47,48,49],[0,1,2,3,4,5,6,7,8,9,10,11,12,13,14,15,16,17,18,19,20,21,22,23,24,25,26,27,28,29,30,31,32,33,34,35,36,37,45,46,47,48,49,50],[0,1,2,3,4,5,6,7,8,9,10,11,12,13,14,15,16,17,18,19,20,21,22,23,24,25,26,27,28,29,30,31,32,33,34,35,36,37,38,39,40,41,42,43,44,45,46,47,48,49,50,51],[0,1,2,3,4,5,6,7,8,9,10,11,12,13,14,15,16,17,18,19,20,21,22,23,24,25,26,27,28,29,30,31,32,33,34,35,36,37,38,39,40,41,42,43,44,45,46,47,48,49,50,51,52],[0,1,2,3,4,5,6,7,8,9,10,11,12,13,14,15,16,17,18,19,20,21,22,23,24,25,26,27,28,29,30,31,32,33,34,35,36,37,38,39,40,41,42,43,44,45,46,47,48,49,50,51,52,53]]) (.cond (.t 49) (.seq (.note (.gc [3,5]) (.reg [oF 3 3 104,oL 104 105,oF 2 5 106,oL 106 107,iA 2 105 107 108,oF 1 108 109,oL 109 110,oV 110 6,mT 7])) .ret) .skip))))) (sR [oC 0 6,mF 7] .ret)))
instance:GI mg_ah [1,3,5] [5,3] (fun y:Bool=>[(41,.bool y)]) (fun y=>[]):=⟨⟩
instance:GI mg_ag [1,3,5] [5,3] (fun y:Bool=>[(30,.bool y)]) (fun y=>[]):=⟨⟩
instance:GV mg_af 21 [18,19,20]:=⟨⟩
instance:GV mg_ae 16 [13,14,15]:=⟨⟩
instance Wq_m {x_:GRights} {c_:Int} {l_:GLink}:WI (F_m x_ c_ l_) Tryz.prog 280 [GRights.v x_,.int .i64 c_,GLink.v l_] [] (fun z=>.tup [.int .i64 z.1,.bool z.2]) (fun z=>[]):=⟨fun Q Q' h hQ=>by
 refine acallM mc_m [] [] [.t 6,.t 7] Tryz.func280 fun M=>?_
 unfold F_m at h
 unfold mc_m
 exact tX⟩
noncomputable def F_1u (s_:List GLink):Option (List GLink) := amb s_.isEmpty (some []) (chk (room (([]:List GLink).length+s_.length) 32) (some (([]:List GLink)++s_)))
def mc_1u:MC := (sR [mo (.mv (.c .nils)) 2] (.seq (sR [oV 0 3,mo (.mp (.isn false) [(.t 3)]) 4] (.cond (.t 4) (sR [mo (.mv (.c .nils)) 2] .ret) .skip)) (sR [mo (.bslice 4 []) 5,oV 0 6,ap 4 32 5 6 7,oV 7 2] .ret)))
instance Wq_1u {s_:List GLink}:WI (F_1u s_) Tryz.prog 282 [.sl (s_.map GLink.v)] [] (fun z=>.osl 1900 4 0 z.length) (fun z=>[(1900,.arr 4 (z.map GLink.v))]):=⟨fun Q Q' h hQ=>by
 refine acallM mc_1u [.acc 2 1900 4] [1900] [.t 2] Tryz.func282 fun M=>?_
 unfold F_1u at h
 unfold mc_1u
 exact tX⟩
noncomputable def F_4h (x_:GRights) (k599:Int) (a600:GLink) (x598:(List Int)×(List (Int×List GLink))):Option ((List Int)×(List (Int×List GLink))) := chk (inb 0 x598.1.length) ((F_m x_ (x598.1.getD 0 default) a600).bind fun y614=>bif (!((aget y614.1 x598.2).isSome)) then chk (inb 0 x598.1.length) ((F_1u ((aget (x598.1.getD 0 default) x598.2).getD [])).bind fun y616=>chk (room (y616.length+[a600].length) 32) (chk (room (x598.1.length+[y614.1].length) 8) (some ((x598.1++[y614.1]),aput y614.1 (y616++[a600]) x598.2)))) else some (x598.1,x598.2))
noncomputable def F_5f (x_:GRights) (x437:(List Int)×(List (Int×List GLink))):Option (Fl ((List Int)×(List (Int×List GLink))) (List (Int×List GLink))) := bif decide (0<(x437.1.length:Int)) then chk (inb 0 x437.1.length) ((F_10 x_ (x437.1.getD 0 default)).bind fun y568=>(foldL (F_4h x_) y568 0 (x437.1,x437.2)).bind fun x617=>chk (inc 1 (x617.1.length:Int) x617.1.length) (some (.nx ((x617.1.drop 1).take (x617.1.length - 1),x617.2)))) else some (.ex x437.2)
noncomputable def F_n (x_:GRights) (c_:Int):Option (List (Int×List GLink)) := (loop (F_5f x_) ([c_],aput c_ [] [])).bind fun r618=>some r618
@[irreducible] def mc_4h:MC := (sR [bT .lss 29 28 30] (.seq (.cond (.t 30) .skip (.exit 2)) (.seq (.block 3 (sR [iA 4 27 29 31,lN 4 31 32,mo (.alloc [(.int .i64 0),(.int .i64 0),(.int .i64 0),(.int .i64 0)]) 8,⟨.st 4 (.t 8) (.t 32),none,none⟩] (.seq (.regD [lN 5 2 34,oV 6 35,mo (.iad 1 (.t 35) (cI 0)) 36,oL 36 37,lN 4 8 38,k3 280 34 37 38 39,oV 39 33,xT 0 33 40,xT 1 33 41,oV 40 9,oV 41 10] [[],[],[1],[2],[],[0,3,4],[5],[6],[6],[7,5,0,1,2,3,4,5,6,7],[8,9,0,1,2,3,4,5,6,7,8,9]] [[],[],[1],[1,2],[],[0,1,2,3,4],[0,1,2,3,4,5],[0,1,2,3,4,5,6],[0,1,2,3,4,5,6],[0,1,2,3,4,5,6,7],[0,1,2,3,4,5,6,7,8,9]]) (.seq (.note (.gc [2,5,6,8,9,27,28,29]) (.reg [oV 5 43,oV 9 44,mo (.mp (.lku (.int .i64) true (.sl [])) [(.t 43),(.t 44)]) 45,oV 45 42,xT 0 42 46,xT 1 42 47,oV 46 11,oV 47 12])) (sR [oV 12 48,nT 48 49] (.cond (.t 49) (.seq (.note (.gc [2,5,6,8,9,27,28,29]) (.regD [oV 5 50,oV 9 51,oV 5 52,oV 6 53,mo (.iad 1 (.t 53) (cI 0)) 54,oL 54 55,mo (.mp (.lku (.int .i64) false (.sl [])) [(.t 52),(.t 55)]) 56,mo (.call (.f 282) [(.t 56)] [] [57]) 57,lN 4 8 58,mo (.bslice 4 [(.t 58)]) 59,ap 4 32 57 59 60,⟨.mp (.ups (.int .i64)) [(.t 50),(.t 51),(.t 60)],none,none⟩] [[],[],[],[],[3],[4],[2,5],[6],[],[8],[7,9,7],[0,1,10,10,0,1,2,3,4,5,6,7,8,9,10]] [[],[],[],[],[3],[3,4],[2,3,4,5],[2,3,4,5,6],[],[8],[2,3,4,5,6,7,8,9],[0,1,2,3,4,5,6,7,8,9,10]])) (.note (.gc [2,5,6,9,27,28,29]) (.reg [oV 6 61,oV 9 62,mo (.bslice 1 [(.t 62)]) 63,ap 1 8 61 63 64,oV 64 6]))) .skip)))))) (.reg [aI 29 1 65,oV 65 29]))))
@[irreducible] def mc_5f:MC := (.seq (sR [oV 6 18,lE 18 19,bC .gtr 19 0 20] (.cond (.t 20) .skip (.exit 0))) (.seq (.block 1 (.seq (.regD [lN 5 2 23,oV 6 24,mo (.iad 1 (.t 24) (cI 0)) 25,oL 25 26,k2 279 23 26 27,lE 27 28,oC 0 29] [[],[],[1],[2],[0,3],[4],[]] [[],[],[1],[1,2],[0,1,2,3],[0,1,2,3,4],[]]) (.block 2 (.loop mc_4h)))) (.reg [oV 6 21,mo (.slc 1 (.t 21) (some (cI 1)) none) 22,oV 22 6])))
def mc_n:MC := (sR [bx 0 2,mo (.mv (.c .nilm)) 4] (.seq (.regI [.op (mo (.mp (.mk (.int .i64)) []) 13),.op (oV 1 14),.op ⟨.mp (.up (.int .i64)) [(.t 13),(.t 14),(.c .nils)],none,none⟩,.nt (.nm 13 1900 4),.op (oV 13 15),.op (oV 15 5)]) (.seq (sR [oV 1 16,mo (.bslice 1 [(.t 16)]) 17,oV 17 6] (.block 0 (.loop mc_5f))) (sR [oV 5 66,oV 66 4] .ret))))
theorem Wm_rights_chains {x_:GRights} {c_:Int}:Cn Tryz.prog 260 [GRights.v x_,.int .i64 c_] [(1900,.mark)] (F_n x_ c_) (fun z=>.nsmap 1900 4 (.int .i64) (z.map (kvV (V.int .i64) (slV GLink.v)))) (fun z=>[(1900,.mark)]):=fun Q Q' h hQ=>by
 refine acallM mc_n [.fz 4] [1900] [.t 4] Tryz.func260 fun M=>?_
 unfold F_n at h
 unfold mc_n
 replace h:=tY h
 refine tB ?_
 repeat' (first
 | (exact tZ)
 | ((first|refine oblg h ?_|refine roomG h ?_|refine fork h ?_ ?_|refine forkS h ?_ ?_)<;>clear h<;>intro hc h)
 | (obtain ⟨y,hy,h⟩:=h;(first|(with_reducible first|have hw:=Wq_10.c.w hy|have hw:=Wq_m.c.w hy)|have hw:=acall_swe 1900 57 (Wq_1u.c.w hy));replace hw:=tY hw;(first|refine M.sC hw ?_|refine M.sD hw ?_);clear hw hy;refine tB ?_)
 | (refine M.fold1 (b:=mc_4h) 29 [2,5,27,28] [2,1900] (fun x=>[(6,.osl 2006 1 0 x.1.length)]) (fun x=>[.o 2006 (.arr 1 (x.1.map (V.int .i64))),.o 13 (.nmap 1900 4 (.int .i64) (x.2.map (kvV (V.int .i64) (slV GLink.v))))]) [.gc [2,5,6,27,28,29],.acc 6 2006 1] h ?_ ?_ ?_<;>first
 | (clear h;intro k a x Qn K hK1 hkN1 ha1 h hf;have hl:=fact_int (factsE_find (n:=28) hf.1 rfl);clear hf;have hkd:=kD hkN1;have hkB1:=kB hkN1;have hkI1:=kI (k:=k) (by omega);unfold F_4h at h;unfold mc_4h;replace h:=tY h;refine tK ha1 hkd hkN1 hkB1 hkI1 ?_)
  |(clear h;intro x K h;replace h:=And.left (And.intro h trivial);unfold mc_4h;replace h:=tY h;refine tB ?_)
  |(clear h;(try refine tB ?_);exact tU0;done))
 | (refine M.wh1 (b:=mc_5f) [2,5] [2,1900] (fun x=>[(6,.osl 2006 1 0 x.1.length)]) (fun x=>[.o 2006 (.arr 1 (x.1.map (V.int .i64))),.o 13 (.nmap 1900 4 (.int .i64) (x.2.map (kvV (V.int .i64) (slV GLink.v))))]) [.gc [2,5,6],.trim 6,.acc 6 2006 1] h ?_ ?_<;>first
 | (clear h;intro x Qn K hK2 h;unfold F_5f at h;unfold mc_5f;replace h:=tY h;refine tB ?_)
  |(clear h;(try refine tB ?_);exact tU0;done))
 | (simp only [ha1])
 | ((first|refine hK1 _ ?_|refine hK2 _ ?_);(try refine tB ?_);refine ⟨_,h,?_⟩;exact tU0;done)
 | (refine tE ?_;(first|rw [M.lok_compU]|rw [M.lokD_compU]);refine tB ?_)
 | (refine tA ?_)
 | fail)
theorem Wq_n {x_:GRights} {c_:Int}:Cn Tryz.prog 260 [GRights.v x_,.int .i64 c_] [] (F_n x_ c_) (fun z=>(mpV (.int .i64) (V.int .i64) (slV GLink.v)) z) (fun z=>[]):=fun Q Q' h hQ=>by
 obtain ⟨y,hy,hq⟩:=h
 exact (acall_unmark (Wm_rights_chains.w hy) rfl).mono fun r H' ⟨e1,e2⟩=>by rw [e1,e2];exact hQ y hq
instance Wi_rights_chains {x_:GRights} {c_:Int}:WI (F_n x_ c_) Tryz.prog 260 [GRights.v x_,.int .i64 c_] [] (fun z=>(mpV (.int .i64) (V.int .i64) (slV GLink.v)) z) (fun z=>[]):=⟨Wq_n⟩
noncomputable def F_5g (k25:Int) (a23:Int×List GLink) (x22:List Int):Option (List Int) := chk (room (x22.length+[a23.1].length) 8) (some (x22++[a23.1]))
noncomputable def F_3f (x_:GRights) (c_:Int):Option (List Int) := (F_l x_).bind fun y7=>bif (!decide (y7=0)) then some [] else (F_9 x_ c_).bind fun y8=>bif (!y8) then some [] else (F_n x_ c_).bind fun y19=>permL (fun l24=>(foldL F_5g l24 0 []).bind fun x26=>(sortI x26).bind fun y28=>some y28) y19
@[irreducible] def mc_5g:MC := (sR [mo (.mp .nxt [(.t 19)]) 20,xT 0 20 21] (.seq (.cond (.t 21) .skip (.exit 0)) (.block 1 (sR [mo (.mp .ent [(.t 19)]) 22,xT 0 22 23,oV 23 6] (.reg [oV 5 24,oV 6 25,mo (.bslice 1 [(.t 25)]) 26,ap 1 8 24 26 27,oV 27 5])))))
def mc_3f:MC := (sR [bx 0 2,mo (.mv (.c (.sl []))) 4] (.seq (sR [lN 5 2 7,k1 109 7 8,bC .neq 8 0 9,oV 9 10,gF 10 11 (.ld (some 5) (.t 2)),fV 10 12 1,gF 10 13 (.call (.f 168) [(.t 11),(.t 12)] [] []),gF 10 14 (.not (.t 13)),pO 10 14 15] (.cond (.t 15) (sR [mo (.mv (.c (.sl []))) 4] .ret) .skip)) (sR [mo (.mv (.c .nils)) 5] (.seq (.seq (.note (.gc [1,2,5]) (.reg [lN 5 2 16,oV 1 17,k2 260 16 17 18,mo (.mp .rng [(.t 18)]) 19])) (.block 0 (.loop mc_5g))) (sR [oV 5 28,mo (.call (.f 235) [(.t 28)] [2005] []) 29] (sR [oV 5 30,oV 30 4] .ret))))))
instance Wq_3f {x_:GRights} {c_:Int}:WI (F_3f x_ c_) Tryz.prog 241 [GRights.v x_,.int .i64 c_] [] (fun z=>.sl (z.map (V.int .i64))) (fun z=>[]):=⟨fun Q Q' h hQ=>by
 refine acallM mc_3f [.fz 4] [] [.t 4] Tryz.func241 fun M=>?_
 unfold F_3f at h
 unfold mc_3f
 replace h:=tY h
 refine tB ?_
 repeat' (first
 | (exact tZ)
 | (refine And.intro (by refine ⟨?_,?_,?_,?_⟩<;>omega) ?_;first|exact hQ _ h|(rw [zP (by omega)];exact hQ _ h))
 | (rw [←hlen];exact hQ _ h)
 | (have hq:=hQ _ h;simp only [xZ,Nat.min_eq_left hlen.1] at hq;exact hq)
 | ((first|refine oblg h ?_|refine roomG h ?_|refine inbG h ?_|refine incG h ?_|refine divG h ?_|refine appG h ?_|refine appC h ?_|refine fork h ?_ ?_|refine forkS h ?_ ?_)<;>clear h<;>intro hc h)
 | (obtain ⟨y,hy,h⟩:=h;(first|(have hw:=acall_swe 1000 2005 (W_7b hy);replace hw:=tY hw;(try simp only [hlen] at hw);have hlen:=sortI_len hy)|have hw:=WI.w hy);replace hw:=tY hw;(first|refine M.sC hw ?_|refine M.sD hw ?_);clear hw hy;refine tB ?_)
 | (refine M.mfold1 (b:=mc_5g) (kv:=(kvV (V.int .i64) (slV GLink.v))) 19 [19] [] (fun x=>[(5,.osl 2005 1 0 x.length)]) (fun x=>[.o 2005 (.arr 1 (x.map (V.int .i64)))]) [.gc [5,19],.acc 5 2005 1] h ?_ ?_<;>first
 | (clear h;intro rem cur x k Qn K hK1 hs1 hn1;unfold F_5g at hn1;unfold mc_5g;refine tB ?_)
 | (clear h;(try refine tB ?_);exact tU0;done))
 | (refine nxt_of hs1 hn1 ?_ ?_<;>first
  |(intro h;rw [M.lok_eq];replace h:=tY h;refine tB ?_)
  |(intro i a h;rw [M.lok_eq];replace h:=tY h;refine tB ?_))
 | (apply hK1;(try refine tB ?_);refine ⟨_,h,?_⟩;exact tU0;done)
 | (refine tE ?_;(first|rw [M.lok_compU]|rw [M.lokD_compU]);refine tB ?_)
 | (refine tA ?_)
 | fail)⟩
noncomputable def F_6s (l_:List Int) (x9:Int):Option (Fl Int (Sum Unit Bool)) := bif decide (x9<(l_.length:Int)) then chk (in64 (x9 - 1)) (chk (inb (x9 - 1) l_.length) (chk (inb x9 l_.length) (bif decide ((l_.getD (x9).toNat default)≤(l_.getD ((x9 - 1)).toNat default)) then some (.ex (.inr false)) else chk (in64 (x9+1)) (some (.nx (x9+1)))))) else some (.ex (.inl ()))
noncomputable def F_3g (l_:List Int):Option Bool := (loop (F_6s l_) 1).bind fun r10=>Sum.elim (fun u11=>some true) (fun u12=>some u12) r10
@[irreducible] def mc_6s:MC := (.seq (sR [oV 3 4,oV 0 5,lE 5 6,bT .lss 4 6 7] (.cond (.t 7) .skip (.exit 0))) (.seq (.block 1 (.seq (.regD [oV 0 10,oV 3 11,sI 11 1 12,iA 1 10 12 13,oL 13 14,oV 0 15,oV 3 16,iA 1 15 16 17,oL 17 18,bT .geq 14 18 19] [[],[],[1],[0,2],[3],[],[],[5,6],[7],[4,8]] [[],[],[1],[0,1,2],[0,1,2,3],[],[],[5,6],[5,6,7],[0,1,2,3,4,5,6,7,8]]) (.cond (.t 19) (sR [mF 2] .ret) .skip))) (.note (.gc [0,3]) (.reg [oV 3 8,aI 8 1 9,oV 9 3]))))
def mc_3g:MC := (sR [mF 2] (.seq (sR [oC 1 3] (.block 0 (.loop mc_6s))) (sR [mT 2] .ret)))
attribute [go_sem] F_6s
instance:LI mc_6s 0 0 [0] [] (fun y:Int=>[(3,.int .i64 y)]) (fun y=>[]) []:=⟨⟩
instance Wq_3g {l_:List Int}:WI (F_3g l_) Tryz.prog 277 [.sl (l_.map (V.int .i64))] [] (fun z=>.bool z) (fun z=>[]):=⟨fun Q Q' h hQ=>by
 refine acallM mc_3g [] [] [.t 2] Tryz.func277 fun M=>?_
 unfold F_3g at h
 unfold mc_3g
 exact tX⟩
def F_o (c_:Int) (p_:GRights):Option Bool := (F_9 p_ c_).bind fun y2=>some (!y2)
def mc_o:MC := (sR [mF 3] (sR [lN 5 1 4,oV 0 5,k2 168 4 5 6,nT 6 7,oV 7 3] .ret))
instance Wq_o {c_:Int} {p_:GRights}:WI (F_o c_ p_) Tryz.prog 278 [.int .i64 c_,.ptr 1000 0] [(1000,.cells [.int .i64 p_.Credentials,.int .i64 p_.Resources,.sl (p_.Grants.map GGrant.v),.sl (p_.Stores.map GStore.v),.sl (p_.Mints.map GMint.v)])] (fun z=>.bool z) (fun z=>[(1000,.cells [.int .i64 p_.Credentials,.int .i64 p_.Resources,.sl (p_.Grants.map GGrant.v),.sl (p_.Stores.map GStore.v),.sl (p_.Mints.map GMint.v)])]):=⟨fun Q Q' h hQ=>by
 refine acallM mc_o [] [1000] [.t 3] Tryz.func278 fun M=>?_
 unfold F_o at h
 unfold mc_o
 exact tX⟩
def F_6t (fc0_:GRights) (k31:Int) (a32:Int) (x30:Unit):Option (Fl Unit Int) := (F_o a32 fc0_).bind fun y40=>bif y40 then some (.ex k31) else some (.nx ())
def F_5h (s_:List Int) (fc0_:GRights):Option Int := (forL (F_6t fc0_) s_ 0 ()).bind fun o=>o.elim (fun x41=>some (-1)) (fun r42=>some r42)
@[irreducible] def mc_6t:MC := (sR [bT .lss 8 7 9] (.seq (.cond (.t 9) .skip (.exit 0)) (.seq (.block 1 (sR [oV 8 10,oV 10 5] (sR [oV 1 11,oV 0 12,oV 5 13,iA 1 12 13 14,oL 14 15,mo (.call (.t 11) [(.t 15)] [1000] []) 16] (.cond (.t 16) (sR [oV 5 17,oV 17 4] .ret) .skip)))) (.reg [aI 8 1 18,oV 18 8]))))
def mc_5h:MC := (sR [oC 0 4] (.seq (sR [oV 0 6,lE 6 7,oC 0 8] (.block 0 (.loop mc_6t))) (sR [oC (-1) 4] .ret)))
attribute [go_sem] F_6t
instance:LI mc_6t 8 7 [0,1,7] [1000] (fun y:Unit=>[]) (fun y=>[]) []:=⟨⟩
instance Wq_5h {s_:List Int} {fc0_:GRights}:WI (F_5h s_ fc0_) Tryz.prog 175 [.sl (s_.map (V.int .i64)),.fn (.func 278) [.ptr 1000 0]] [(1000,.cells [.int .i64 fc0_.Credentials,.int .i64 fc0_.Resources,.sl (fc0_.Grants.map GGrant.v),.sl (fc0_.Stores.map GStore.v),.sl (fc0_.Mints.map GMint.v)])] (fun z=>.int .i64 z) (fun z=>[(1000,.cells [.int .i64 fc0_.Credentials,.int .i64 fc0_.Resources,.sl (fc0_.Grants.map GGrant.v),.sl (fc0_.Stores.map GStore.v),.sl (fc0_.Mints.map GMint.v)])]):=⟨fun Q Q' h hQ=>by
 refine acallM mc_5h [] [1000] [.t 4] Tryz.func175 fun M=>?_
 unfold F_5h at h
 unfold mc_5h
 exact tX⟩
def F_3h (s_:List Int) (fc0_:GRights):Option Bool := (F_5h s_ fc0_).bind fun y2=>some (decide (0≤y2))
def mc_3h:MC := (sR [mF 4] (sR [oV 0 5,oV 1 6,mo (.call (.f 175) [(.t 5),(.t 6)] [1000] []) 7,bC .geq 7 0 8,oV 8 4] .ret))
instance Wq_3h {s_:List Int} {fc0_:GRights}:WI (F_3h s_ fc0_) Tryz.prog 112 [.sl (s_.map (V.int .i64)),.fn (.func 278) [.ptr 1000 0]] [(1000,.cells [.int .i64 fc0_.Credentials,.int .i64 fc0_.Resources,.sl (fc0_.Grants.map GGrant.v),.sl (fc0_.Stores.map GStore.v),.sl (fc0_.Mints.map GMint.v)])] (fun z=>.bool z) (fun z=>[(1000,.cells [.int .i64 fc0_.Credentials,.int .i64 fc0_.Resources,.sl (fc0_.Grants.map GGrant.v),.sl (fc0_.Stores.map GStore.v),.sl (fc0_.Mints.map GMint.v)])]):=⟨fun Q Q' h hQ=>by
 refine acallM mc_3h [] [1000] [.t 4] Tryz.func112 fun M=>?_
 unfold F_3h at h
 unfold mc_3h
 exact tX⟩
noncomputable def F_4i (x_:GRights) (set_:List Int) (a358:Int) (k479:Int) (a480:GLink) (x478:Unit):Option (Fl Unit Bool) := (F_m x_ a358 a480).bind fun y494=>(F_q set_ y494.1).bind fun y496=>bif (!y496) then some (.ex false) else some (.nx ())
noncomputable def F_4j (x_:GRights) (set_:List Int) (k357:Int) (a358:Int) (x356:Unit):Option (Fl Unit Bool) := (F_10 x_ a358).bind fun y459=>(forL (F_4i x_ set_ a358) y459 0 ()).bind fun o=>o.elim (fun x497=>some (.nx ())) (fun r498=>some (.ex r498))
noncomputable def F_1v (x_:GRights) (set_:List Int):Option Bool := (F_l x_).bind fun y13=>grp (((!decide (y13=0))||decide ((set_.length:Int)=0))) fun b14=>bif b14 then some false else (F_3g set_).bind fun y15=>bif (!y15) then some false else (F_3h set_ x_).bind fun y16=>bif y16 then some false else (forL (F_4j x_ set_) set_ 0 ()).bind fun o=>o.elim (fun x499=>some true) (fun r500=>some r500)
@[irreducible] def mg_o:List MOp:=[fV 14 15 1,gF 14 16 (.len false (.t 15)),gF 14 17 (.bin false .eql (.t 16) (cI 0)),pO 14 17 18]
@[irreducible] def mc_4i:MC := (sR [bT .lss 39 38 40] (.seq (.cond (.t 40) .skip (.exit 2)) (.seq (.block 3 (sR [iA 4 37 39 41,lN 4 41 42,mo (.alloc [(.int .i64 0),(.int .i64 0),(.int .i64 0),(.int .i64 0)]) 8,⟨.st 4 (.t 8) (.t 42),none,none⟩] (sR [lN 5 2 44,oV 6 45,lN 4 8 46,k3 280 44 45 46 47,oV 47 43,xT 0 43 48,xT 1 43 49,oV 48 9,oV 49 10] (.seq (.note (.gc [1,2,6,9,29,30,31,37,38,39]) (.reg [oV 1 50,oV 9 51,k2 259 50 51 52,nT 52 53])) (.cond (.t 53) (sR [mF 4] .ret) .skip))))) (.reg [aI 39 1 54,oV 54 39]))))
@[irreducible] def mc_4j:MC := (sR [bT .lss 31 30 32] (.seq (.cond (.t 32) .skip (.exit 0)) (.seq (.block 1 (sR [iA 1 29 31 33,oL 33 34,oV 34 6] (sR [lN 5 2 35,oV 6 36,k2 279 35 36 37,lE 37 38,oC 0 39] (.block 2 (.loop mc_4i))))) (.reg [aI 31 1 55,oV 55 31]))))
def mc_1v:MC := (sR [bx 0 2,mF 4] (.seq (.seq (.regI [.op (lN 5 2 11),.op (k1 109 11 12),.op (bC .neq 12 0 13),.op (oV 13 14),.grp mg_o,.op (oV 18 19),.op (fV 19 20 1),.op (gF 19 21 (.call (.f 277) [(.t 20)] [] [])),.op (gF 19 22 (.not (.t 21))),.op (pO 19 22 23),.op (oV 23 24),.op (fV 24 25 1),.op (gF 24 26 (.mkfn 278 [(.t 2)])),.op (gF 24 27 (.call (.f 112) [(.t 25),(.t 26)] [2] [])),.op (pO 24 27 28)]) (.cond (.t 28) (sR [mF 4] .ret) .skip)) (.seq (.seq (.note (.gc [1,2]) (.reg [oV 1 29,lE 29 30,oC 0 31])) (.block 0 (.loop mc_4j))) (sR [mT 4] .ret))))
instance Wq_1v {x_:GRights} {set_:List Int}:WI (F_1v x_ set_) Tryz.prog 258 [GRights.v x_,.sl (set_.map (V.int .i64))] [] (fun z=>.bool z) (fun z=>[]):=⟨fun Q Q' h hQ=>by
 refine acallM mc_1v [] [] [.t 4] Tryz.func258 fun M=>?_
 unfold F_1v at h
 unfold mc_1v
 replace h:=tY h
 refine tB ?_
 repeat' (first
 | (exact tZ)
 | ((first|refine oblg h ?_|refine roomG h ?_|refine inbG h ?_|refine incG h ?_|refine divG h ?_|refine appG h ?_|refine appC h ?_|refine fork h ?_ ?_|refine forkS h ?_ ?_)<;>clear h<;>intro hc h)
 | (obtain ⟨y,hy,h⟩:=h;(first|have hw:=acall_swe 1000 2 (Wq_3h.c.w hy)|have hw:=WI.w hy);replace hw:=tY hw;(first|refine M.sC hw ?_|refine M.sD hw ?_);clear hw hy;refine tB ?_)
 | (refine M.for1 (b:=mc_4i) 39 [1,2,6,29,30,31,37,38] [2] (fun x=>[]) (fun x=>[]) [] h ?_ ?_ ?_<;>first
 | (clear h;intro k a x Qn K hK1 hkN1 ha1 h hf;have hl:=fact_int (factsE_find (n:=38) hf.1 rfl);clear hf;have hkd:=kD hkN1;have hkB1:=kB hkN1;have hkI1:=kI (k:=k) (by omega);unfold F_4i at h;unfold mc_4i;replace h:=tY h;refine tK ha1 hkd hkN1 hkB1 hkI1 ?_)
  |(clear h;intro x K h;replace h:=And.left (And.intro h trivial);unfold mc_4i;replace h:=tY h;refine tB ?_)
  |(clear h;(try refine tB ?_);exact tU0;done))
 | (refine M.for1 (b:=mc_4j) 31 [1,2,29,30] [2] (fun x=>[]) (fun x=>[]) [] h ?_ ?_ ?_<;>first
 | (clear h;intro k a x Qn K hK2 hkN2 ha2 h hf;have hl:=fact_int (factsE_find (n:=30) hf.1 rfl);clear hf;have hkd:=kD hkN2;have hkB2:=kB hkN2;have hkI2:=kI (k:=k) (by omega);unfold F_4j at h;unfold mc_4j;replace h:=tY h;refine tK ha2 hkd hkN2 hkB2 hkI2 ?_)
  |(clear h;intro x K h;replace h:=And.left (And.intro h trivial);unfold mc_4j;replace h:=tY h;refine tB ?_)
  |(clear h;(try refine tB ?_);exact tU0;done))
 | (refine M.gv1 (ms:=mg_o) 18 [15,16,17] h ?_ ?_<;>first
 | (clear h;intro K hK3;unfold mg_o;refine tB ?_)
 | (clear h;intro b h;replace h:=tY h;refine tB ?_))
 | (first|simp only [ha1]|simp only [ha2])
 | ((first|refine hK1 _ ?_|refine hK2 _ ?_);(try refine tB ?_);refine ⟨_,h,?_⟩;exact tU0;done)
 | (refine hK3 _ ?_;exact tU;done)
 | (refine bfork (fun hc=>?_) (fun hc=>?_))
 | (refine tE ?_;(first|rw [M.lok_compU]|rw [M.lokD_compU]);refine tB ?_)
 | (refine tA ?_)
 | fail)⟩
noncomputable def F_6u (set_:List Int) (k48:Int) (a49:GGrant) (x47:List Int):Option (List Int) := (F_q set_ a49.Credential).bind fun y57=>bif y57 then chk (inb a49.Resource x47.length) (chk (inb a49.Resource x47.length) (some (x47.set ((a49.Resource).toNat) (max (x47.getD ((a49.Resource).toNat) default) a49.Right)))) else some x47
noncomputable def F_3i (x_:GRights) (set_:List Int):Option (List Int) := (F_1v x_ set_).bind fun y4=>bif (!y4) then some [] else chk (roomI x_.Resources x_.Resources 8) ((foldL (F_6u set_) x_.Grants 0 (List.replicate (x_.Resources).toNat 0)).bind fun x58=>some x58)
@[irreducible] def mc_6u:MC := (sR [bT .lss 18 17 19] (.seq (.cond (.t 19) .skip (.exit 0)) (.seq (.block 1 (sR [iA 3 16 18 20,lN 3 20 21,mo (.alloc [(.int .i64 0),(.int .i64 0),(.int .i64 0)]) 7,⟨.st 3 (.t 7) (.t 21),none,none⟩] (sR [oV 1 22,oF 0 7 23,oL 23 24,k2 259 22 24 25] (.cond (.t 25) (.regD [oV 5 26,oF 1 7 27,oL 27 28,oV 5 29,oF 1 7 30,oL 30 31,iA 1 29 31 32,oL 32 33,oF 2 7 34,oL 34 35,mo (.mm true (.t 33) (.t 35)) 36,iA 1 26 28 37,⟨.st 1 (.t 37) (.t 36),none,none⟩] [[],[],[1],[],[],[4],[3,5],[6],[],[8],[7,9],[0,2,0,1,2,3,4,5,6,7,8,9,10],[11,10,0,1,2,3,4,5,6,7,8,9,10]] [[],[],[1],[],[],[4],[3,4,5],[3,4,5,6],[],[8],[3,4,5,6,7,8,9],[0,1,2,3,4,5,6,7,8,9,10],[0,1,2,3,4,5,6,7,8,9,10,11]]) .skip)))) (.reg [aI 18 1 38,oV 38 18]))))
def mc_3i:MC := (sR [bx 0 2,mo (.mv (.c (.sl []))) 4] (.seq (sR [lN 5 2 8,oV 1 9,k2 258 8 9 10,nT 10 11] (.cond (.t 11) (sR [mo (.mv (.c (.sl []))) 4] .ret) .skip)) (sR [oF 1 2 12,oL 12 13,mo (.mksl 1 8 (.int .i64 0) (.t 13) (.t 13)) 14,oV 14 5] (.seq (.seq (.note (.gc [1,2,5]) (.reg [oF 2 2 15,oL 15 16,lE 16 17,oC 0 18])) (.block 0 (.loop mc_6u))) (sR [oV 5 39,oV 39 4] .ret)))))
attribute [go_sem] F_6u
instance:LI mc_6u 18 17 [1,16,17] [] (fun y:List Int=>[(5,.osl 14 1 0 y.length)]) (fun y=>[.o 14 (.arr 1 (y.map (V.int .i64)))]) []:=⟨⟩
instance Wq_3i {x_:GRights} {set_:List Int}:WI (F_3i x_ set_) Tryz.prog 240 [GRights.v x_,.sl (set_.map (V.int .i64))] [] (fun z=>.sl (z.map (V.int .i64))) (fun z=>[]):=⟨fun Q Q' h hQ=>by
 refine acallM mc_3i [.fz 4] [] [.t 4] Tryz.func240 fun M=>?_
 unfold F_3i at h
 unfold mc_3i
 exact tX⟩
noncomputable def F_3j (x_:GRights) (c_:Int):Option (List Int) := (F_3f x_ c_).bind fun y3=>(F_3i x_ y3).bind fun y4=>some y4
def mc_3j:MC := (sR [bx 0 2,mo (.mv (.c (.sl []))) 4] (.seq (.regD [lN 5 2 5,lN 5 2 6,oV 1 7,k2 241 6 7 8,k2 240 5 8 9,oV 9 4] [[],[],[],[1,2],[0,3,3],[4,4,0,1,2,3,4]] [[],[],[],[1,2],[0,1,2,3],[0,1,2,3,4]]) .ret))
instance Wq_3j {x_:GRights} {c_:Int}:WI (F_3j x_ c_) Tryz.prog 217 [GRights.v x_,.int .i64 c_] [] (fun z=>.sl (z.map (V.int .i64))) (fun z=>[]):=⟨fun Q Q' h hQ=>by
 refine acallM mc_3j [.fz 4] [] [.t 4] Tryz.func217 fun M=>?_
 unfold F_3j at h
 unfold mc_3j
 exact tX⟩
noncomputable def F_6v (worths_:List Int) (k32:Int) (a33:Int) (x31:Int):Option Int := chk (inb k32 worths_.length) (chk (in64 ((worths_.getD (k32).toNat default)*a33)) (chk (in64 (x31+((worths_.getD (k32).toNat default)*a33))) (some (x31+((worths_.getD (k32).toNat default)*a33)))))
noncomputable def F_3k (x_:GRights) (worths_:List Int) (c_:Int):Option (Int×Int) := (F_l x_).bind fun y4=>bif (!decide (y4=0)) then some (0,y4) else bif (!decide ((worths_.length:Int)=x_.Resources)) then some (0,2) else (F_4g worths_).bind fun y10=>bif y10 then some (0,2) else grp ((decide (c_<0)||decide (x_.Credentials≤c_))) fun b12=>bif b12 then some (0,6) else (F_3j x_ c_).bind fun y25=>(foldL (F_6v worths_) y25 0 0).bind fun x34=>some (x34,0)
@[irreducible] def mg_z:List MOp:=[fV 30 31 2,fa_ 30 32 0 3,fL 30 33 32,gF 30 34 (.bin false .geq (.t 31) (.t 33)),pO 30 34 35]
@[irreducible] def mc_6v:MC := (sR [bT .lss 40 39 41] (.seq (.cond (.t 41) .skip (.exit 1)) (.seq (.block 2 (sR [oV 40 42,iA 1 38 40 43,oL 43 44,oV 42 10,oV 44 11] (.reg [oV 9 45,oV 1 46,oV 10 47,iA 1 46 47 48,oL 48 49,oV 11 50,mo (.bin true .mul (.t 49) (.t 50)) 51,mo (.bin true .add (.t 45) (.t 51)) 52,oV 52 9]))) (.reg [aI 40 1 53,oV 53 40]))))
def mc_3k:MC := (sR [bx 0 3,oC 0 6,oC 0 7] (.seq (sR [lN 5 3 12,k1 109 12 13,oV 13 8] (sR [oV 8 14,bC .neq 14 0 15] (.cond (.t 15) (.seq (.note (.gc [8]) (.reg [oV 8 16,oC 0 6,oV 16 7])) .ret) .skip))) (.seq (.block 0 (.seq (.note (.gc [1,2,3,24,25,31,32,33,34]) (.reg [oV 1 18,lE 18 19,oF 1 3 20,oL 20 21,bT .neq 19 21 22,oV 22 23,fV 23 24 1,gF 23 25 (.call (.f 112) [(.t 24),(.f 216)] [] []),pO 23 25 26,oV 26 17])) (.cond (.t 17) (sR [oC 0 6,oC 2 7] .ret) (.seq (.note (.gc [1,2,3,31,32,33,34]) (.regI [.op (oV 2 28),.op (bC .lss 28 0 29),.op (oV 29 30),.grp mg_z,.op (oV 35 27)])) (.cond (.t 27) (sR [oC 0 6,oC 6 7] .ret) .skip))))) (sR [oC 0 9] (.seq (sR [lN 5 3 36,oV 2 37,k2 217 36 37 38,lE 38 39,oC 0 40] (.block 1 (.loop mc_6v))) (sR [oV 9 54,oV 54 6,oC 0 7] .ret))))))
attribute [go_sem] F_6v
instance:LI mc_6v 40 39 [1,38,39] [] (fun y:Int=>[(9,.int .i64 y)]) (fun y=>[]) []:=⟨⟩
instance:GV mg_z 35 [31,32,33,34]:=⟨⟩
instance Wq_3k {x_:GRights} {worths_:List Int} {c_:Int}:WI (F_3k x_ worths_ c_) Tryz.prog 176 [GRights.v x_,.sl (worths_.map (V.int .i64)),.int .i64 c_] [] (fun z=>.tup [.int .i64 z.1,.int .i64 z.2]) (fun z=>[]):=⟨fun Q Q' h hQ=>by
 refine acallM mc_3k [] [] [.t 6,.t 7] Tryz.func176 fun M=>?_
 unfold F_3k at h
 unfold mc_3k
 exact tX⟩
def F_4k (score_:Int) (k16:Int) (a17:Int) (x15:Int):Option Int := bif decide (a17≤score_) then chk (in64 (x15+1)) (some (x15+1)) else some x15
def F_3l (score_:Int):Option Int := (foldL (F_4k score_) [1,100,1000,10000] 0 0).bind fun x18=>some x18
@[irreducible] def mc_4k:MC := (sR [bC .lss 7 4 8] (.seq (.cond (.t 8) .skip (.exit 0)) (.seq (.block 1 (sR [mo (.aix none 1 4 (.t 6) (.t 7)) 9,oV 9 5] (sR [oV 0 10,oV 5 11,bT .geq 10 11 12] (.cond (.t 12) (.reg [oV 3 13,aI 13 1 14,oV 14 3]) .skip)))) (.reg [aI 7 1 15,oV 15 7]))))
def mc_3l:MC := (sR [oC 0 2] (sR [oC 0 3] (.seq (sR [mo (.mp (.tab 1) []) 6,oC 0 7] (.block 0 (.loop mc_4k))) (sR [oV 3 16,oV 16 2] .ret))))
instance Wq_3l {score_:Int}:WI (F_3l score_) Tryz.prog 177 [.int .i64 score_] [] (fun z=>.int .i64 z) (fun z=>[]):=⟨fun Q Q' h hQ=>by
 refine acallM mc_3l [] [] [.t 2] Tryz.func177 fun M=>?_
 unfold F_3l at h
 unfold mc_3l
 replace h:=tY h
 refine tB ?_
 repeat' (first
 | (exact tZ)
 | ((first|refine oblg h ?_|refine roomG h ?_|refine inbG h ?_|refine incG h ?_|refine divG h ?_|refine appG h ?_|refine appC h ?_|refine fork h ?_ ?_|refine forkS h ?_ ?_)<;>clear h<;>intro hc h)
 | (refine M.fold1 (b:=mc_4k) 7 [0,6] [] (fun x=>[(3,.int .i64 x)]) (fun x=>[]) [] h ?_ ?_ ?_<;>first
 | (clear h;intro k a x Qn K hK1 hkN1 ha1 h hf;skip;clear hf;have hkd:=kD hkN1;have hkB1:=kB hkN1;have hkI1:=kI (k:=k) (by (try simp only [x8,wL] at hkN1);omega);have hkd1:decide ((k:Int)<4)=true:=wS (by simp only [x8,wL] at hkN1;omega);have hkr1:(0≤(k:Int)∧(k:Int)<4)=True:=eq_true (by simp only [x8,wL] at hkN1;omega);have hle1:(k*1≤3)=True:=eq_true (by simp only [x8,wL] at hkN1;omega);have hpt1:=drop_of (f:=fun e:Int=>.int .i64 e) ha1 hkN1;(try simp only [go_sem,Nat.reduceBEq,Nat.reduceAdd,Nat.reduceLeDiff,Nat.reduceSub,Nat.reduceMul,Int.reduceToNat,Int.reduceLT,Int.reduceLE,xR,List.flatMap_nil,wX,vC] at hpt1);unfold F_4k at h;unfold mc_4k;replace h:=tY h;refine tKA ha1 hkd hkN1 hkB1 hkI1 hkd1 hkr1 hle1 hpt1 ?_)
  |(clear h;intro x K h;replace h:=And.left (And.intro h trivial);unfold mc_4k;replace h:=tY h;refine tB ?_)
  |(clear h;(try refine tB ?_);exact tU0;done))
 | (simp only [ha1])
 | (refine hK1 _ ?_;(try refine tB ?_);refine ⟨_,h,?_⟩;exact tU0;done)
 | (refine tE ?_;(first|rw [M.lok_compU]|rw [M.lokD_compU]);refine tB ?_)
 | (refine tA ?_)
 | fail)⟩
noncomputable def F_3m (x_:GRights) (worths_:List Int) (c_:Int) (readers_:Int) (public_:Bool):Option (GSeverity×Int) := (F_3k x_ worths_ c_).bind fun y2=>bif (!decide (y2.2=0)) then some ((GSeverity.mk 0 0 0 0),y2.2) else grp ((decide (readers_<0)||decide (24<readers_))) fun b6=>bif b6 then some ((GSeverity.mk 0 0 0 0),2) else chk (in64 (1+readers_)) (jn (α:=GSeverity) (bif public_ then some (GSeverity.mk 0 y2.1 100 0) else some (GSeverity.mk 0 y2.1 (1+readers_) 0)) fun j7=>chk (in64 (j7.Worth*j7.Audience)) ((F_3l (j7.Worth*j7.Audience)).bind fun y9=>some ((GSeverity.mk y9 j7.Worth j7.Audience (j7.Worth*j7.Audience)),0)))
@[irreducible] def mg_ai:List MOp:=[fV 28 29 3,gF 28 30 (.bin false .gtr (.t 29) (cI 24)),pO 28 30 31]
@[irreducible] def mc_aj:MC := (sR [oF 1 14 39,oL 39 40,oF 2 14 41,oL 41 42,mo (.bin true .mul (.t 40) (.t 42)) 43,oF 3 14 44,⟨.st 1 (.t 44) (.t 43),none,none⟩] (sR [oF 3 14 45,oL 45 46,k1 177 46 47,oF 0 14 48,⟨.st 1 (.t 48) (.t 47),none,none⟩] (.seq (.note (.gc [10,14]) (.reg [lN 4 14 49,⟨.st 4 (.t 10) (.t 49),none,none⟩,oC 0 11])) .ret)))
def mc_3m:MC := (sR [bx 0 5,mo (.alloc [(.int .i64 0),(.int .i64 0),(.int .i64 0),(.int .i64 0)]) 10,oC 0 11] (sR [lN 5 5 16,oV 1 17,oV 2 18,k3 176 16 17 18 19,oV 19 15,xT 0 15 20,xT 1 15 21,oV 20 12,oV 21 13] (.seq (sR [oV 13 22,bC .neq 22 0 23] (.cond (.t 23) (.seq (.note (.gc [10,13]) (.reg [mo (.build [(.int .i64 0),(.int .i64 0),(.int .i64 0),(.int .i64 0)] []) 24,oV 13 25,⟨.st 4 (.t 10) (.t 24),none,none⟩,oV 25 11])) .ret) .skip)) (.seq (.seq (.note (.gc [3,4,10,12,29,30]) (.regI [.op (oV 3 26),.op (bC .lss 26 0 27),.op (oV 27 28),.grp mg_ai])) (.cond (.t 31) (sR [mo (.build [(.int .i64 0),(.int .i64 0),(.int .i64 0),(.int .i64 0)] []) 32,⟨.st 4 (.t 10) (.t 32),none,none⟩,oC 2 11] .ret) .skip)) (sR [oV 12 33,oV 3 34,mo (.bin true .add (cI 1) (.t 34)) 35,mo (.build [(.int .i64 0),(.int .i64 0),(.int .i64 0),(.int .i64 0)] [(1,1,(.t 33)),(2,1,(.t 35))]) 36,mo (.alloc [(.int .i64 0),(.int .i64 0),(.int .i64 0),(.int .i64 0)]) 14,⟨.st 4 (.t 14) (.t 36),none,none⟩] (.cut (sR [oV 4 37] (.cond (.t 37) (.reg [oF 2 14 38,⟨.st 1 (.t 38) (cI 100),none,none⟩]) .skip)) mc_aj))))))
instance:LI mc_aj 0 0 [10,14] [10] (fun y:GSeverity=>[]) (fun y=>[.o 14 (.cells [.int .i64 y.Level,.int .i64 y.Worth,.int .i64 y.Audience,.int .i64 y.Score])]) []:=⟨⟩
instance:GV mg_ai 31 [29,30]:=⟨⟩
instance Wq_3m {x_:GRights} {worths_:List Int} {c_ readers_:Int} {public_:Bool}:WI (F_3m x_ worths_ c_ readers_ public_) Tryz.prog 114 [GRights.v x_,.sl (worths_.map (V.int .i64)),.int .i64 c_,.int .i64 readers_,.bool public_] [] (fun z=>.tup [GSeverity.v z.1,.int .i64 z.2]) (fun z=>[]):=⟨fun Q Q' h hQ=>by
 refine acallM mc_3m [] [] [.c 10 (some 4),.t 11] Tryz.func114 fun M=>?_
 unfold F_3m at h
 unfold mc_3m
 exact tX⟩
def F_6w (l_:List GSeverity) (k18:Int) (a19:GSeverity) (x17:Int):Option Int := chk (inb x17 l_.length) (bif decide ((l_.getD (x17).toNat default).Score<a19.Score) then some k18 else some x17)
def F_3n (l_:List GSeverity):Option (Int×Bool) := (foldL (F_6w l_) l_ 0 0).bind fun x20=>some (x20,decide (0<(l_.length:Int)))
@[irreducible] def mc_6w:MC := (sR [bT .lss 9 8 10] (.seq (.cond (.t 10) .skip (.exit 0)) (.seq (.block 1 (sR [oV 9 11,iA 4 7 9 12,lN 4 12 13,mo (.alloc [(.int .i64 0),(.int .i64 0),(.int .i64 0),(.int .i64 0)]) 6,oV 11 5,⟨.st 4 (.t 6) (.t 13),none,none⟩] (.seq (.regD [oF 3 6 14,oL 14 15,oV 0 16,oV 4 17,iA 4 16 17 18,oF 3 18 19,oL 19 20,bT .gtr 15 20 21] [[],[0],[],[],[2,3],[4],[5],[1,6]] [[],[0],[],[],[2,3],[2,3,4],[2,3,4,5],[0,1,2,3,4,5,6]]) (.cond (.t 21) (.reg [oV 5 22,oV 22 4]) .skip)))) (.reg [aI 9 1 23,oV 23 9]))))
def mc_3n:MC := (sR [oC 0 2,mF 3] (sR [oC 0 4] (.seq (sR [oV 0 7,lE 7 8,oC 0 9] (.block 0 (.loop mc_6w))) (sR [oV 4 24,oV 0 25,lE 25 26,bC .gtr 26 0 27,oV 24 2,oV 27 3] .ret))))
attribute [go_sem] F_6w
instance:LI mc_6w 9 8 [0,7,8] [] (fun y:Int=>[(4,.int .i64 y)]) (fun y=>[]) []:=⟨⟩
instance Wq_3n {l_:List GSeverity}:WI (F_3n l_) Tryz.prog 115 [.sl (l_.map GSeverity.v)] [] (fun z=>.tup [.int .i64 z.1,.bool z.2]) (fun z=>[]):=⟨fun Q Q' h hQ=>by
 refine acallM mc_3n [] [] [.t 2,.t 3] Tryz.func115 fun M=>?_
 unfold F_3n at h
 unfold mc_3n
 exact tX⟩
noncomputable def F_4l (m_:GSummary) (x_:GRights) (worths_:List Int) (k63:Int) (a64:Int) (x62:List GSeverity):Option (Fl (List GSeverity) (Int×GSummary)) := (F_3m x_ worths_ a64 m_.Readers m_.Public).bind fun y72=>bif (!decide (y72.2=0)) then some (.ex (y72.2,m_)) else chk (room (x62.length+[y72.1].length) 32) (some (.nx (x62++[y72.1])))
noncomputable def F_1w (m_:GSummary) (r_:GRegistry) (x_:GRights) (worths_:List Int):Option (Int×GSummary) := (F_1r r_).bind fun y4=>bif (!decide (y4=0)) then some (y4,m_) else (F_l x_).bind fun y8=>bif (!decide (y8=0)) then some (y8,m_) else (F_3d r_ m_.Fingerprint).bind fun y10=>bif (!decide ((worths_.length:Int)=x_.Resources)) then some (2,m_) else (F_3e worths_).bind fun y17=>bif y17 then some (2,m_) else (F_1t y10 x_).bind fun y18=>bif y18 then some (2,m_) else (forL (F_4l m_ x_ worths_) y10 0 []).bind fun o=>o.elim (fun x73=>(F_3n x73).bind fun y78=>bif y78.2 then chk (inb y78.1 x73.length) (some (0,(GSummary.mk m_.Fingerprint m_.Spots m_.Public m_.Readers m_.Since (x73.getD (y78.1).toNat default) m_.Rotated m_.Dead))) else some (0,m_)) (fun r74=>some r74)
@[irreducible] def mc_4l:MC := (sR [bT .lss 53 52 54] (.seq (.cond (.t 54) .skip (.exit 0)) (.seq (.block 1 (sR [iA 1 51 53 55,oL 55 56,oV 56 15] (.seq (.regD [lN 5 6 58,oV 3 59,oV 15 60,oV 0 61,mo (.nck (.t 61)) 62,oF 3 62 63,oL 63 64,oV 0 65,mo (.nck (.t 65)) 66,oF 2 66 67,oL 67 68,mo (.call (.f 114) [(.t 58),(.t 59),(.t 60),(.t 64),(.t 68)] [] []) 69,oV 69 57,xT 0 57 70,xT 1 57 71,mo (.alloc [(.int .i64 0),(.int .i64 0),(.int .i64 0),(.int .i64 0)]) 16,⟨.st 4 (.t 16) (.t 70),none,none⟩,oV 71 17] [[],[],[],[],[3],[4],[5],[],[7],[8],[9],[0,1,2,6,10],[11],[12],[12],[],[15,13,11,0,1,2,3,4,5,6,7,8,9,10,11,12,13,15],[14,16,0,1,2,3,4,5,6,7,8,9,10,11,12,13,14,15,16]] [[],[],[],[],[3],[3,4],[3,4,5],[],[7],[7,8],[7,8,9],[0,1,2,3,4,5,6,7,8,9,10],[0,1,2,3,4,5,6,7,8,9,10,11],[0,1,2,3,4,5,6,7,8,9,10,11,12],[0,1,2,3,4,5,6,7,8,9,10,11,12],[],[0,1,2,3,4,5,6,7,8,9,10,11,12,13,15],[0,1,2,3,4,5,6,7,8,9,10,11,12,13,14,15,16]]) (.seq (sR [oV 17 72,bC .neq 72 0 73] (.cond (.t 73) (sR [oV 17 74,oV 74 8] .ret) .skip)) (.note (.gc [0,3,6,13,16,51,52,53]) (.reg [oV 13 75,lN 4 16 76,mo (.bslice 4 [(.t 76)]) 77,ap 4 32 75 77 78,oV 78 13])))))) (.reg [aI 53 1 79,oV 79 53]))))
def mc_1w:MC := (sR [bx 1 5,bx 2 6,oC 0 8] (.seq (sR [lN 2 5 20,k1 108 20 21,oV 21 9] (sR [oV 9 22,bC .neq 22 0 23] (.cond (.t 23) (sR [oV 9 24,oV 24 8] .ret) .skip))) (.seq (.seq (.note (.gc [0,3,5,6,42,43,44,47,48,49]) (.reg [lN 5 6 25,k1 109 25 26,oV 26 10])) (sR [oV 10 27,bC .neq 27 0 28] (.cond (.t 28) (sR [oV 10 29,oV 29 8] .ret) .skip))) (sR [mo (.mv (.f 110)) 11] (.seq (.regD [lN 2 5 30,oV 0 31,mo (.nck (.t 31)) 32,oF 0 32 33,oL 33 34,k2 111 30 34 35,oV 35 12] [[],[],[1],[2],[3],[0,4],[5,5,0,1,2,3,4,5]] [[],[],[1],[1,2],[1,2,3],[0,1,2,3,4],[0,1,2,3,4,5]]) (.seq (.seq (.note (.gc [0,3,6,11,12,42,43,44,47,48,49]) (.reg [oV 3 36,lE 36 37,oF 1 6 38,oL 38 39,bT .neq 37 39 40,oV 40 41,fV 41 42 3,fV 41 43 11,gF 41 44 (.call (.f 112) [(.t 42),(.t 43)] [] []),pO 41 44 45,oV 45 46,fV 46 47 12,gF 46 48 (.mkfn 113 [(.t 6)]),gF 46 49 (.call (.f 112) [(.t 47),(.t 48)] [6] []),pO 46 49 50])) (.cond (.t 50) (sR [oC 2 8] .ret) .skip)) (sR [mo (.mv (.c .nils)) 13] (.seq (.seq (.note (.gc [0,3,6,12,13]) (.reg [oV 12 51,lE 51 52,oC 0 53])) (.block 0 (.loop mc_4l))) (.seq (.seq (.regI [.op (oV 13 81),.nt (.fz 81),.op (k1 115 81 82),.op (oV 82 80),.op (xT 0 80 83),.op (xT 1 80 84),.op (oV 83 18),.op (oV 84 19)]) (sR [oV 19 85] (.cond (.t 85) (.note (.gc [0,13,18]) (.reg [oV 0 86,oV 13 87,oV 18 88,iA 4 87 88 89,lN 4 89 90,mo (.nck (.t 86)) 91,oF 5 91 92,⟨.st 4 (.t 92) (.t 90),none,none⟩])) .skip))) (sR [oC 0 8] .ret))))))))))
instance Wq_1w {m_:GSummary} {r_:GRegistry} {x_:GRights} {worths_:List Int}:WI (F_1w m_ r_ x_ worths_) Tryz.prog 69 [.ptr 1000 0,GRegistry.v r_,GRights.v x_,.sl (worths_.map (V.int .i64))] [(1000,.cells [.int .u64 m_.Fingerprint,.int .i64 m_.Spots,.bool m_.Public,.int .i64 m_.Readers,.int .i64 m_.Since,.int .i64 m_.Severity.Level,.int .i64 m_.Severity.Worth,.int .i64 m_.Severity.Audience,.int .i64 m_.Severity.Score,.bool m_.Rotated,.bool m_.Dead])] (fun z=>.int .i64 z.1) (fun z=>[(1000,.cells [.int .u64 z.2.Fingerprint,.int .i64 z.2.Spots,.bool z.2.Public,.int .i64 z.2.Readers,.int .i64 z.2.Since,.int .i64 z.2.Severity.Level,.int .i64 z.2.Severity.Worth,.int .i64 z.2.Severity.Audience,.int .i64 z.2.Severity.Score,.bool z.2.Rotated,.bool z.2.Dead])]):=⟨fun Q Q' h hQ=>by
 refine acallM mc_1w [] [1000] [.t 8] Tryz.func69 fun M=>?_
 unfold F_1w at h
 unfold mc_1w
 replace h:=tY h
 refine tB ?_
 repeat' (first
 | (exact tZ)
 | ((first|refine oblg h ?_|refine roomG h ?_|refine inbG h ?_|refine incG h ?_|refine divG h ?_|refine appG h ?_|refine appC h ?_|refine fork h ?_ ?_|refine forkS h ?_ ?_)<;>clear h<;>intro hc h)
 | (obtain ⟨y,hy,h⟩:=h;(first|have hw:=acall_swe 1000 6 (Wq_1t.c.w hy)|have hw:=WI.w hy);replace hw:=tY hw;(first|refine M.sC hw ?_|refine M.sD hw ?_);clear hw hy;refine tB ?_)
 | (refine M.for1 (b:=mc_4l) 53 [0,3,6,51,52] [6,1000] (fun x=>[(13,.osl 2013 4 0 x.length)]) (fun x=>[.o 2013 (.arr 4 (x.map GSeverity.v))]) [.gc [0,3,6,13,51,52,53],.acc 13 2013 4] h ?_ ?_ ?_<;>first
 | (clear h;intro k a x Qn K hK1 hkN1 ha1 h hf;have hl:=fact_int (factsE_find (n:=52) hf.1 rfl);clear hf;have hkd:=kD hkN1;have hkB1:=kB hkN1;have hkI1:=kI (k:=k) (by omega);unfold F_4l at h;unfold mc_4l;replace h:=tY h;refine tK ha1 hkd hkN1 hkB1 hkI1 ?_)
  |(clear h;intro x K h;replace h:=And.left (And.intro h trivial);unfold mc_4l;replace h:=tY h;refine tB ?_)
  |(clear h;(try refine tB ?_);exact tU0;done))
 | (simp only [ha1])
 | (refine hK1 _ ?_;(try refine tB ?_);refine ⟨_,h,?_⟩;exact tU0;done)
 | (refine tE ?_;(first|rw [M.lok_compU]|rw [M.lokD_compU]);refine tB ?_)
 | (refine tA ?_)
 | fail)⟩
end Go.Ab
