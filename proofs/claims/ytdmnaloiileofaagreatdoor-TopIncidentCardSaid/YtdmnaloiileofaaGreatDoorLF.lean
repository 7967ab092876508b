/- What the functions of this seat that lie on the laws' road compute (part LF), each for every input. By AI agents. -/
import Derived.Test.YtdmnaloiileofaaGreatDoorLT
set_option linter.all false
set_option maxRecDepth 20000
set_option maxHeartbeats 2000000
namespace Go.Ab
open Go.Proofs
noncomputable section
def d4s (x_:Int) (qD:Int) (jC:Int):Option Bool :=
 grp ((decide (qD≤x_)&&decide (x_≤jC))) fun b2=>some b2
instance h6r {x_ qD jC:Int}:WJ (d4s x_ qD jC) 109 [.int .i64 x_,.int .i64 qD,.int .i64 jC] .bool:=wX Tryz.func109 [(1,⟨[],[],[.v 4 7]⟩)] (h:=fun _ _ h hQ M=>by unfold d4s at h;exact tX)
@[go_sem] def g4w (k39:Int) (a40:u7) (x38:Unit):Option (Fl Unit Bool) :=
 (d4s a40.Pool 0 7).bind fun y48=>bif (!y48) then some (.ex false) else some (.nx ())
def e1o (f_:w9):Option Bool :=
 (d4s f_.Slots 1 2).bind fun y7=>bif (!y7) then some false else (d4s (f_.Consumers.length:Int) 1 8).bind fun y8=>bif (!y8) then some false else (forL g4w f_.Consumers 0 ()).bind fun o=>o.elim (fun x49=>some true) (fun r50=>some r50)
def g8r:List (Nat×RN):=[(3,⟨[.gc [1]],[],[]⟩)]
@[irreducible] def e76:MC:=rdc (cK Tryz.prog Tryz.f76 g8r [] 4)
instance:LI e76 19 18 [17,18] [] (fun y:Unit=>[]) (fun y=>[]) []:=⟨⟩
instance h79 {f_:w9}:WJ (e1o f_) 76 [w9.v f_] .bool:=wX Tryz.func76 g8r [(4,e76)] (h:=fun _ _ h hQ M=>by unfold e1o at h;exact tX)
@[go_sem] def g4v (kJ:Int) (k20:Int) (a21:u7) (x19:List Int):Option (List Int) :=
 bif decide (a21.Pool=kJ) then chk (room (x19.length+[k20].length) 8) (some (x19++[k20])) else some x19
def F_m (f_:w9) (kJ:Int):Option (List Int) := (e1o f_).bind fun y4=>bif (!y4) then some [] else (foldL (g4v kJ) f_.Consumers 0 []).bind fun x22=>some x22
def a_m:List (Nat×RN):=[(0,⟨[],[.k 1 1],[]⟩),(2,⟨[],[.k 0 1],[]⟩),(3,⟨[],[.k 0 1],[]⟩),(8,⟨[.gc [1,5,6,12,13,14]],[],[]⟩)]
@[irreducible] def e75:MC:=rdc (cK Tryz.prog Tryz.f33 a_m [] 5)
instance:LI e75 14 13 [1,12,13] [] (fun y:List Int=>[(5,.osl 2005 1 0 y.length)]) (fun y=>[.o 2005 (.arr 1 (y.map (V.int .i64)))]) [.gc [1,5,12,13,14],.acc 5 2005 1]:=⟨⟩
instance h0s {f_:w9} {kJ:Int}:WI (F_m f_ kJ) Tryz.prog 33 [w9.v f_,.int .i64 kJ] [] (fun z=>.osl 1900 1 0 z.length) (fun z=>[(1900,.arr 1 (z.map (V.int .i64)))]):=wX Tryz.func33 a_m [(5,e75)] [.acc 4 1900 1] [1900] (h:=fun _ _ h hQ M=>by unfold F_m at h;exact tX)
@[go_sem] def g4u (k20:Int) (a21:u7) (x19:List a1b):Option (List a1b) :=
 chk (room (x19.length+[(a1b.mk true 1 1)].length) 24) (some (x19++[(a1b.mk true 1 1)]))
def f4w (f_:w9):Option (o5×Int) :=
 (e1o f_).bind fun y4=>bif (!y4) then some ((o5.mk 0 0 []),36) else (foldL g4u f_.Consumers 0 []).bind fun x22=>some ((o5.mk 1 1 x22),0)
def g87:List (Nat×RN):=[(3,⟨[],[.k 0 1],[]⟩)]
@[irreducible] def e74:MC:=rdc (cK Tryz.prog Tryz.f34 g87 [] 5)
instance:LI e74 13 12 [2,4,12] [4,2] (fun y:List a1b=>[]) (fun y=>[.p 4 2 [.osl 4066 3 0 y.length],.o 4066 (.arr 3 (y.map a1b.v))]) [.gc [2,4,12,13],.ownC 4 2 4066 3 none]:=⟨⟩
instance h5u {f_:w9}:WJ (f4w f_) 34 [w9.v f_] fun z=>.tup [o5.v z.1,.int .i64 z.2]:=wX Tryz.func34 g87 [(5,e74)] [.fzc 2] (h:=fun _ _ h hQ M=>by unfold f4w at h;exact tX)
def e2w (c_:u7) (s_:o5) (x_:Int):Option Bool :=
 (d4s x_ 1 3).bind fun y4=>jn (α:=Bool) (bif y4 then some (decide ((bits .andNot .i64 x_ s_.Known)=0)) else some false) fun j5=>grp ((j5&&((!decide (x_=3))||c_.Dual))) fun b6=>some b6
instance f0g {m:List MOp}:GI (gjt 1100103 m) [2,3,6] [3] (fun y:Bool=>[(15,.bool y)]) (fun y=>[]):=⟨⟩
instance h4j {c_:u7} {s_:o5} {x_:Int}:WJ (e2w c_ s_ x_) 110 [u7.v c_,o5.v s_,.int .i64 x_] .bool:=wX Tryz.func110 [(1,⟨[],[],[.w 3 8 1100103,.v 10 16]⟩)] (h:=fun _ _ h hQ M=>by unfold e2w at h;exact tX)
@[go_sem] def g61 (f_:w9) (s_:o5) (k168:Int) (a169:a1b) (x167:Unit):Option (Fl Unit Bool) :=
 chk (inb k168 f_.Consumers.length) ((e2w (f_.Consumers.getD (k168).toNat default) s_ a169.Stored).bind fun y212=>grp (((!y212)||((!a169.Up)&&(!decide (a169.Used=0))))) fun b213=>bif b213 then grp (true) fun b214=>bif b214 then some (.ex false) else some (.nx ()) else bif a169.Up then (e2w (f_.Consumers.getD (k168).toNat default) s_ a169.Used).bind fun y215=>grp (((!y215)||((a169.Up&&(f_.Consumers.getD (k168).toNat default).Live)&&(!decide (a169.Used=a169.Stored))))) fun b216=>bif b216 then some (.ex false) else some (.nx ()) else grp (((a169.Up&&(f_.Consumers.getD (k168).toNat default).Live)&&(!decide (a169.Used=a169.Stored)))) fun b217=>bif b217 then some (.ex false) else some (.nx ()))
def e1v (f_:w9) (s_:o5):Option Bool :=
 jn (α:=Fl Unit Bool) ((e1o f_).bind fun y29=>grp (((!y29)||((!decide (s_.Known=1))&&(!decide (s_.Known=3))))) fun b30=>bif b30 then grp (true) fun b31=>grp ((b31||(!decide ((s_.Units.length:Int)=(f_.Consumers.length:Int))))) fun b32=>bif b32 then some (.ex false) else some (.nx ()) else (d4s s_.Valid 1 3).bind fun y33=>bif (!y33) then grp (true) fun b34=>grp ((b34||(!decide ((s_.Units.length:Int)=(f_.Consumers.length:Int))))) fun b35=>bif b35 then some (.ex false) else some (.nx ()) else grp (((!decide ((bits .andNot .i64 s_.Valid s_.Known)=0))||(decide (s_.Valid=3)&&decide (f_.Slots=1)))) fun b36=>grp ((b36||(!decide ((s_.Units.length:Int)=(f_.Consumers.length:Int))))) fun b37=>bif b37 then some (.ex false) else some (.nx ())) fun o=>o.elim (fun j19=>(forL (g61 f_ s_) s_.Units 0 ()).bind fun o=>o.elim (fun x218=>some true) (fun r219=>some r219)) (fun r220=>some r220)
def g37:List (Nat×RN):=[(1,⟨[],[],[.v 4 12,.v 28 36,.v 38 45]⟩),(7,⟨[.gc [2,3,6,7,55,56,57,74,75,76,77,78,79,80,81,84,85,86,87,88,89,90,91,92,93,96,97,98,99,100,101,102,103,104,105,106,107,108]],[],[.v 7 15,.v 29 42]⟩)]
@[irreducible] def d8q:MC:=rdc (cK Tryz.prog Tryz.f53 g37 [] 4)
@[irreducible] def e5y:MC:=rdc (cK Tryz.prog Tryz.f53 g37 [(4,d8q)] 10000003)
instance:LI d8q 57 56 [2,3,55,56] [3,2] (fun y:Unit=>[]) (fun y=>[]) []:=⟨⟩
instance:LI e5y 0 0 [2,3] [3,2] (fun y:Unit=>[]) (fun y=>[]) []:=⟨⟩
instance h7r {f_:w9} {s_:o5}:WJ (e1v f_ s_) 53 [w9.v f_,o5.v s_] .bool:=wX Tryz.func53 g37 [(4,d8q),(10000003,e5y)] (h:=fun _ _ h hQ M=>by unfold e1v at h;exact tX)
def f5r (f_:w9) (x_:GStep):Option Bool :=
 jn (α:=Bool) (bif decide (x_.Kind=1) then some true else bif decide (x_.Kind=2) then some true else bif decide (x_.Kind=3) then some true else some (decide (x_.Kind=8))) fun j5=>bif j5 then some (decide (x_.Unit=0)) else jn (α:=Bool) (bif decide (x_.Kind=4) then some true else bif decide (x_.Kind=5) then some true else bif decide (x_.Kind=6) then some true else some (decide (x_.Kind=7))) fun j6=>bif j6 then grp ((decide (0≤x_.Unit)&&decide (x_.Unit<(f_.Consumers.length:Int)))) fun b8=>some b8 else some false
def g2w:List (Nat×RN):=[(11,⟨[],[],[.v 4 10]⟩)]
@[irreducible] def d89:MC:=rdc (cK Tryz.prog Tryz.f78 g2w [] 10000011)
@[irreducible] def e5x:MC:=rdc (cK Tryz.prog Tryz.f78 g2w [(10000011,d89)] 10000006)
instance:LI d89 0 0 [2,3] [3,2] (fun y:Bool=>[(15,.bool y)]) (fun y=>[]) []:=⟨⟩
instance:LI e5x 0 0 [2,3,6] [3,2] (fun y:Bool=>[(7,.bool y)]) (fun y=>[]) []:=⟨⟩
instance h6q {f_:w9} {x_:GStep}:WJ (f5r f_ x_) 78 [w9.v f_,GStep.v x_] .bool:=wX Tryz.func78 g2w [(10000011,d89),(10000006,e5x)] (h:=fun _ _ h hQ M=>by unfold f5r at h;exact tX)
def f7y (s_:o5):Option o5 :=
 chk (room s_.Units.length 24) (some (o5.mk s_.Known s_.Valid s_.Units))
instance h2b {s_:o5}:WI (f7y s_) Tryz.prog 159 [o5.v s_] [] (fun z=>.agg [.int .i64 z.Known,.int .i64 z.Valid,.osl 1502 3 0 z.Units.length]) (fun z=>[(1502,.arr 3 (z.Units.map a1b.v))]):=wX Tryz.func159 [] [] [.ownC 2 2 1502 3 none] [1502] (h:=fun _ _ h hQ M=>by unfold f7y at h;exact tX)
def f5q (f_:w9) (s_:o5) (x_:GStep):Option (o5×Bool) :=
 (f7y s_).bind fun y2=>chk (inb x_.Unit y2.Units.length) (chk (inb x_.Unit f_.Consumers.length) (jn (α:=Fl (Bool×a1b) (o5×Bool)) (bif decide (x_.Kind=1) then some (.ex ((o5.mk (bits .or .i64 y2.Known 2) y2.Valid y2.Units),(!(!decide ((bits .and .i64 y2.Known 2)=0))))) else bif decide (x_.Kind=2) then grp (((!decide ((bits .and .i64 y2.Known 2)=0))&&decide (y2.Valid=1))) fun b14=>grp ((b14&&decide (f_.Slots=2))) fun b15=>some (.ex ((o5.mk y2.Known (bits .or .i64 y2.Valid 2) y2.Units),b15)) else bif decide (x_.Kind=3) then grp (((!decide ((bits .and .i64 y2.Known 2)=0))&&decide (y2.Valid=1))) fun b17=>some (.ex ((o5.mk y2.Known 2 y2.Units),b17)) else bif decide (x_.Kind=8) then some (.ex ((o5.mk y2.Known 2 y2.Units),decide (y2.Valid=3))) else bif decide (x_.Kind=4) then jn (α:=Bool) (bif (!decide ((bits .and .i64 y2.Known 2)=0)) then some (decide ((bits .and .i64 ((y2.Units.getD ((x_.Unit).toNat) default).Stored) 2)=0)) else some false) fun j19=>bif (f_.Consumers.getD (x_.Unit).toNat default).Dual then some (.nx (j19,(a1b.mk ((y2.Units.getD ((x_.Unit).toNat) default).Up) 3 ((y2.Units.getD ((x_.Unit).toNat) default).Used)))) else some (.nx (j19,(a1b.mk ((y2.Units.getD ((x_.Unit).toNat) default).Up) 2 ((y2.Units.getD ((x_.Unit).toNat) default).Used)))) else bif decide (x_.Kind=7) then some (.nx (decide ((y2.Units.getD ((x_.Unit).toNat) default).Stored=3),(a1b.mk ((y2.Units.getD ((x_.Unit).toNat) default).Up) 2 ((y2.Units.getD ((x_.Unit).toNat) default).Used)))) else bif decide (x_.Kind=5) then some (.nx ((y2.Units.getD ((x_.Unit).toNat) default).Up,(a1b.mk false ((y2.Units.getD ((x_.Unit).toNat) default).Stored) 0))) else bif decide (x_.Kind=6) then some (.nx ((!((y2.Units.getD ((x_.Unit).toNat) default).Up)),(a1b.mk true ((y2.Units.getD ((x_.Unit).toNat) default).Stored) ((y2.Units.getD ((x_.Unit).toNat) default).Stored)))) else some (.nx (false,y2.Units.getD ((x_.Unit).toNat) default))) fun o=>o.elim (fun j11=>jn (α:=a1b) (grp (((f_.Consumers.getD (x_.Unit).toNat default).Live&&j11.2.Up)) fun b24=>bif b24 then some (a1b.mk j11.2.Up j11.2.Stored j11.2.Stored) else some j11.2) fun j22=>chk (inb x_.Unit y2.Units.length) (some ((o5.mk y2.Known y2.Valid (y2.Units.set ((x_.Unit).toNat) j22)),j11.1))) (fun r25=>some r25)))
def g2v:List (Nat×RN):=[(1,⟨[],[.c 1 0 [] [33330]],[]⟩),(3,⟨[.gc [3,4,5,6,8,46,47,48,51,52,53,65,66,67,84,85,86,87,117,118]],[],[]⟩),(8,⟨[.gc [4,6,10]],[],[]⟩),(12,⟨[.gc [3,4,6,10,46,47,48,51,52,53]],[],[.v 2 5,.v 7 10]⟩),(14,⟨[.gc [4,6,11]],[],[]⟩),(16,⟨[.gc [4,6,10,65,66,67]],[],[.v 2 5]⟩),(20,⟨[.gc [4,6]],[],[]⟩),(24,⟨[.gc [4,5,6,8,9,10,84,85,86,87,117,118]],[],[.w 2 6 792402]⟩),(29,⟨[.gc [4,5,6,8,9,117,118]],[],[]⟩),(32,⟨[.gc [4,5,6,8,9,117,118]],[],[]⟩),(35,⟨[.gc [4,5,6,8,9,117,118]],[],[]⟩),(37,⟨[],[],[.v 3 5]⟩),(40,⟨[.gc [4,6,11]],[],[]⟩)]
@[irreducible] def d88:MC:=rdc (cK Tryz.prog Tryz.f79 g2v [] 10000039)
@[irreducible] def e5w:MC:=rdc (cK Tryz.prog Tryz.f79 g2v [(10000039,d88)] 10000037)
instance f6o {m:List MOp}:GI (gjt 792402 m) [4,5,6,8,9] [9,8,6,5,4,33330] (fun y:Bool=>[(88,.bool y)]) (fun y=>[]):=⟨⟩
instance:LI d88 0 0 [4,5,6,8,11] [6,5,4,33330] (fun y:a1b=>[]) (fun y=>[.o 8 (.cells [.bool y.Up,.int .i64 y.Stored,.int .i64 y.Used])]) []:=⟨⟩
instance:LI e5w 0 0 [4,5,6,8,9] [9,6,5,4,33330] (fun y:Bool×a1b=>[(11,.bool y.1)]) (fun y=>[.o 8 (.cells [.bool y.2.Up,.int .i64 y.2.Stored,.int .i64 y.2.Used])]) []:=⟨⟩
instance h6p {f_:w9} {s_:o5} {x_:GStep}:WJ (f5q f_ s_ x_) 79 [w9.v f_,o5.v s_,GStep.v x_] fun z=>.tup [o5.v z.1,.bool z.2]:=wX Tryz.func79 g2v [(10000039,d88),(10000037,e5w)] [.fzc 6] (h:=fun _ _ h hQ M=>by have:SwA [(1502,33330)]:=⟨⟩;unfold f5q at h;exact tX)
def F_n (f_:w9) (s_:o5) (x_:GStep):Option (o5×Int) := (e1v f_ s_).bind fun y4=>bif (!y4) then some ((o5.mk 0 0 []),36) else (f5r f_ x_).bind fun y8=>bif (!y8) then some ((o5.mk 0 0 []),2) else (f5q f_ s_ x_).bind fun y10=>bif (!y10.2) then some ((o5.mk 0 0 []),37) else some (y10.1,0)
instance h8q {f_:w9} {s_:o5} {x_:GStep}:WJ (F_n f_ s_ x_) 36 [w9.v f_,o5.v s_,GStep.v x_] fun z=>.tup [o5.v z.1,.int .i64 z.2]:=wX Tryz.func36 [(2,⟨[.gc [6]],[],[]⟩),(3,⟨[.gc [3,4,5,6]],[],[]⟩),(7,⟨[.gc [6]],[],[]⟩),(8,⟨[.gc [6,8]],[],[]⟩)] [] [.fzc 6] (h:=fun _ _ h hQ M=>by unfold F_n at h;exact tX)
@[go_sem] def g4t (f_:w9) (x22:Int×(List Int)):Option (Fl (Int×(List Int)) (List Int)) :=
 bif decide (x22.1≤7) then jn (α:=List Int) ((F_m f_ x22.1).bind fun y30=>bif decide (0<(y30.length:Int)) then chk (room (x22.2.length+[x22.1].length) 8) (some (x22.2++[x22.1])) else some x22.2) fun j28=>chk (a0w (x22.1+1)) (some (.nx ((x22.1+1),j28))) else some (.ex x22.2)
def f5p (f_:w9):Option (List Int) :=
 (loop (g4t f_) (0,[])).bind fun r31=>some r31
def g2u:List (Nat×RN):=[(1,⟨[],[.k 0 1],[]⟩),(5,⟨[],[.c 2 0 [] [11]],[]⟩)]
@[irreducible] def d87:MC:=rdc (cK Tryz.prog Tryz.f272 g2u [] 10000004)
@[irreducible] def e73:MC:=rdc (cK Tryz.prog Tryz.f272 g2u [(10000004,d87)] 3)
instance:LI d87 0 0 [1,4] [1] (fun y:List Int=>[(3,.osl 2003 1 0 y.length)]) (fun y=>[.o 2003 (.arr 1 (y.map (V.int .i64)))]) [.gc [1,3,4],.acc 3 2003 1]:=⟨⟩
instance:LI e73 0 0 [1] [1] (fun y:Int×(List Int)=>[(3,.osl 2003 1 0 y.2.length),(4,.int .i64 y.1)]) (fun y=>[.o 2003 (.arr 1 (y.2.map (V.int .i64)))]) [.gc [1,3,4],.acc 3 2003 1]:=⟨⟩
instance h6o {f_:w9}:WJ (f5p f_) 272 [w9.v f_] fun z=>.sl (z.map (V.int .i64)):=wX Tryz.func272 g2u [(10000004,d87),(3,e73)] [.fz 2] (h:=fun _ _ h hQ M=>by have:SwA [(1900,11)]:=⟨⟩;unfold f5p at h;exact tX)
def f3q (f_:w9) (s_:o5) (kK:Int):Option Bool :=
 (e1v f_ s_).bind fun y3=>bif y3 then chk (a0w ((s_.Units.length:Int) - 1)) ((d4s kK 0 ((s_.Units.length:Int) - 1)).bind fun y4=>bif y4 then chk (inb kK s_.Units.length) (bif (s_.Units.getD (kK).toNat default).Up then chk (inb kK s_.Units.length) (some (!decide ((bits .and .i64 ((s_.Units.getD (kK).toNat default).Used) s_.Valid)=0))) else some false) else some false) else some false
instance h3j {f_:w9} {s_:o5} {kK:Int}:WJ (f3q f_ s_ kK) 273 [w9.v f_,o5.v s_,.int .i64 kK] .bool:=wX Tryz.func273 (h:=fun _ _ h hQ M=>by unfold f3q at h;exact tX)
@[go_sem] def g60 (f_:w9) (s_:o5) (x313:List Int) (a315:Int) (k392:Int) (a393:Int) (x391:Unit):Option (Fl Unit (List Int)) :=
 (f3q f_ s_ a393).bind fun y401=>bif y401 then chk (room (x313.length+[a315].length) 8) (some (.ex (x313++[a315]))) else some (.nx ())
@[go_sem] def g4s (f_:w9) (s_:o5) (k314:Int) (a315:Int) (x313:List Int):Option (List Int) :=
 (F_m f_ a315).bind fun y380=>(forL (g60 f_ s_ x313 a315) y380 0 ()).bind fun o=>o.elim (fun x402=>some x313) (fun r403=>some r403)
def e3n (f_:w9) (s_:o5):Option (List Int) :=
 (f5p f_).bind fun y181=>(foldL (g4s f_ s_) y181 0 []).bind fun x404=>some x404
def g34:List (Nat×RN):=[(1,⟨[],[.k 0 1],[]⟩),(5,⟨[],[.c 2 0 [] [19]],[]⟩),(9,⟨[.gc [2,3,5,7,11,12,13]],[],[]⟩)]
@[irreducible] def d8p:MC:=rdc (cK Tryz.prog Tryz.f228 g34 [] 6)
@[irreducible] def e72:MC:=rdc (cK Tryz.prog Tryz.f228 g34 [(6,d8p)] 3)
instance:LI d8p 21 20 [2,3,5,7,11,12,13,19,20] [19,2005,3,2] (fun y:Unit=>[]) (fun y=>[]) []:=⟨⟩
instance:LI e72 13 12 [2,3,11,12] [3,2] (fun y:List Int=>[(5,.osl 2005 1 0 y.length)]) (fun y=>[.o 2005 (.arr 1 (y.map (V.int .i64)))]) [.gc [2,3,5,11,12,13],.acc 5 2005 1]:=⟨⟩
instance h78 {f_:w9} {s_:o5}:WJ (e3n f_ s_) 228 [w9.v f_,o5.v s_] fun z=>.sl (z.map (V.int .i64)):=wX Tryz.func228 g34 [(6,d8p),(3,e72)] [.fz 4] (h:=fun _ _ h hQ M=>by have:SwA [(1900,19)]:=⟨⟩;unfold e3n at h;exact tX)
@[go_sem] def g9o (a358:Int) (k490:Int) (a491:Int) (x489:Bool):Option Bool :=
 grp ((x489||decide (a358=a491))) fun b495=>some b495
@[go_sem] def g4r (y2:List Int) (k357:Int) (a358:Int) (x356:Unit):Option (Fl Unit Bool) :=
 (foldL (g9o a358) y2 0 false).bind fun x496=>bif (!x496) then some (.ex false) else some (.nx ())
def f5o (f_:w9) (s_:o5) (t_:o5):Option Bool :=
 (e3n f_ t_).bind fun y2=>(e3n f_ s_).bind fun y217=>(forL (g4r y2) y217 0 ()).bind fun o=>o.elim (fun x497=>some true) (fun r498=>some r498)
def g2t:List (Nat×RN):=[(2,⟨[.gc [3,4,7,32,33,34]],[],[]⟩),(9,⟨[],[],[.v 2 5]⟩)]
@[irreducible] def d8i:MC:=rdc (cK Tryz.prog Tryz.f158 g2t [] 7)
@[irreducible] def e71:MC:=rdc (cK Tryz.prog Tryz.f158 g2t [(7,d8i)] 3)
instance:LI d8i 26 25 [7,9,18,19,20,24,25] [] (fun y:Bool=>[(10,.bool y)]) (fun y=>[]) []:=⟨⟩
instance:LI e71 20 19 [7,18,19] [] (fun y:Unit=>[]) (fun y=>[]) []:=⟨⟩
instance h6n {f_:w9} {s_ t_:o5}:WJ (f5o f_ s_ t_) 158 [w9.v f_,o5.v s_,o5.v t_] .bool:=wX Tryz.func158 g2t [(7,d8i),(3,e71)] (h:=fun _ _ h hQ M=>by unfold f5o at h;exact tX)
def f3p (f_:w9) (s_:o5) (x_:GStep):Option Bool :=
 (F_n f_ s_ x_).bind fun y2=>jn (α:=Bool) (bif decide (y2.2=0) then (f5o f_ s_ y2.1).bind fun y6=>some y6 else some false) fun j7=>some j7
instance f6p {m:List MOp}:GI (gjt 770203 m) [] [] (fun y:Bool=>[(23,.bool y)]) (fun y=>[]):=⟨⟩
instance h3i {f_:w9} {s_:o5} {x_:GStep}:WJ (f3p f_ s_ x_) 77 [w9.v f_,o5.v s_,GStep.v x_] .bool:=wX Tryz.func77 [(2,⟨[.gc [3,4,7,8,19,20,21,22]],[],[.w 3 7 770203]⟩)] (h:=fun _ _ h hQ M=>by unfold f3p at h;exact tX)
@[go_sem] def g5z (f_:w9) (s_:o5) (x257:Int×(List GStep)) (k351:Int) (a352:u7) (x350:List GStep):Option (List GStep) :=
 (f3p f_ s_ (GStep.mk x257.1 k351)).bind fun y360=>bif y360 then chk (room (x350.length+[(GStep.mk x257.1 k351)].length) 16) (some (x350++[(GStep.mk x257.1 k351)])) else some x350
@[go_sem] def g4q (f_:w9) (s_:o5) (x257:Int×(List GStep)):Option (Fl (Int×(List GStep)) (List GStep)) :=
 bif decide (x257.1≤8) then (foldL (g5z f_ s_ x257) f_.Consumers 0 x257.2).bind fun x361=>chk (a0w (x257.1+1)) (some (.nx ((x257.1+1),x361))) else some (.ex x257.2)
def f5n (f_:w9) (s_:o5):Option (List GStep) :=
 (loop (g4q f_ s_) (1,[])).bind fun r362=>some r362
def g2s:List (Nat×RN):=[(1,⟨[],[.k 0 1],[]⟩),(10,⟨[.gc [2,3,5,6,8,15,16]],[],[]⟩)]
@[irreducible] def d8o:MC:=rdc (cK Tryz.prog Tryz.f35 g2s [] 6)
@[irreducible] def e70:MC:=rdc (cK Tryz.prog Tryz.f35 g2s [(6,d8o)] 3)
instance:LI d8o 16 15 [2,3,6,15] [3,2] (fun y:List GStep=>[(5,.osl 2005 2 0 y.length)]) (fun y=>[.o 2005 (.arr 2 (y.map GStep.v))]) [.gc [2,3,5,6,15,16],.acc 5 2005 2]:=⟨⟩
instance:LI e70 0 0 [2,3] [3,2] (fun y:Int×(List GStep)=>[(5,.osl 2005 2 0 y.2.length),(6,.int .i64 y.1)]) (fun y=>[.o 2005 (.arr 2 (y.2.map GStep.v))]) [.gc [2,3,5,6],.acc 5 2005 2]:=⟨⟩
instance h6m {f_:w9} {s_:o5}:WJ (f5n f_ s_) 35 [w9.v f_,o5.v s_] fun z=>.sl (z.map GStep.v):=wX Tryz.func35 g2s [(6,d8o),(3,e70)] [.fz 4] (h:=fun _ _ h hQ M=>by unfold f5n at h;exact tX)
def F_5 (x_:Int) (qD:Int) (jC:Int):Option Bool := grp ((decide (qD≤x_)&&decide (x_≤jC))) fun b2=>some b2
instance h98 {x_ qD jC:Int}:WJ (F_5 x_ qD jC) 80 [.int .i64 x_,.int .i64 qD,.int .i64 jC] .bool:=wX Tryz.func80 [(1,⟨[],[],[.v 4 7]⟩)] (h:=fun _ _ h hQ M=>by unfold F_5 at h;exact tX)
@[go_sem] def g4p (qF:Int) (x15:Int×Bool×(List q9)):Option (Fl (Int×Bool×(List q9)) (Bool×(List q9))) :=
 bif decide (x15.1<qF) then chk (room (x15.2.2.length+[(q9.mk 0 true)].length) 16) (chk (a0w (x15.1+1)) (some (.nx ((x15.1+1),x15.2.1,(x15.2.2++[(q9.mk 0 true)]))))) else some (.ex (x15.2.1,x15.2.2))
def f9m (qF:Int) (jJ:Int) (gK:Bool):Option (o6×Int) :=
 (F_5 qF 1 5).bind fun y7=>bif (!y7) then some ((o6.mk false [] [] []),39) else (F_5 jJ 0 3).bind fun y8=>bif (!y8) then some ((o6.mk false [] [] []),39) else (loop (g4p qF) (0,gK,[])).bind fun r16=>some ((o6.mk r16.1 [jJ] r16.2 []),0)
def g7w:List (Nat×RN):=[(2,⟨[.gc [6]],[],[]⟩),(3,⟨[.gc [0,1,2,6]],[.k 3 1],[]⟩)]
@[irreducible] def e6z:MC:=rdc (cK Tryz.prog Tryz.f37 g7w [] 5)
instance:LI e6z 0 0 [6,8,22] [8,20,6] (fun y:Int×Bool×(List q9)=>[(23,.int .i64 y.1)]) (fun y=>[.p 8 0 [.bool y.2.1],.p 8 2 [.osl 4130 2 0 y.2.2.length],.o 4130 (.arr 2 (y.2.2.map q9.v))]) [.gc [6,8,22,23],.ownC 8 2 4130 2 none]:=⟨⟩
instance h58 {qF jJ:Int} {gK:Bool}:WJ (f9m qF jJ gK) 37 [.int .i64 qF,.int .i64 jJ,.bool gK] fun z=>.tup [o6.v z.1,.int .i64 z.2]:=wX Tryz.func37 g7w [(5,e6z)] [.fzc 6] (h:=fun _ _ h hQ M=>by unfold f9m at h;exact tX)
@[go_sem] def g6r (k48:Int) (a49:Int) (x47:Unit):Option (Fl Unit Bool) :=
 (F_5 a49 0 3).bind fun y57=>bif (!y57) then some (.ex false) else some (.nx ())
@[go_sem] def g6l (c_:o6) (k90:Int) (a91:q9) (x89:Unit):Option (Fl Unit Bool) :=
 chk (a0w ((c_.Sets.length:Int) - 1)) ((F_5 a91.Generation 0 ((c_.Sets.length:Int) - 1)).bind fun y99=>bif (!y99) then some (.ex false) else some (.nx ()))
@[go_sem] def g5y (c_:o6) (k132:Int) (a133:Int) (x131:Unit):Option (Fl Unit Bool) :=
 chk (a0w ((c_.Sets.length:Int) - 1)) ((F_5 a133 0 ((c_.Sets.length:Int) - 1)).bind fun y141=>bif (!y141) then some (.ex false) else some (.nx ()))
def F_d (c_:o6):Option Bool := jn (α:=Fl Unit Bool) ((F_5 (c_.Replicas.length:Int) 1 5).bind fun y14=>bif (!y14) then grp (true) fun b15=>bif b15 then some (.ex false) else some (.nx ()) else (F_5 (c_.Sets.length:Int) 1 121).bind fun y16=>grp (((!y16)||decide (120<(c_.Snapshots.length:Int)))) fun b17=>bif b17 then some (.ex false) else some (.nx ())) fun o=>o.elim (fun j9=>(forL g6r c_.Sets 0 ()).bind fun o=>o.elim (fun x58=>(forL (g6l c_) c_.Replicas 0 ()).bind fun o=>o.elim (fun x100=>(forL (g5y c_) c_.Snapshots 0 ()).bind fun o=>o.elim (fun x142=>some true) (fun r143=>some r143)) (fun r101=>some r101)) (fun r59=>some r59)) (fun r144=>some r144)
def a_d:List (Nat×RN):=[(1,⟨[],[],[.v 13 17]⟩)]
@[irreducible] def c86:MC:=rdc (cK Tryz.prog Tryz.f54 a_d [] 4)
@[irreducible] def d2j:MC:=rdc (cK Tryz.prog Tryz.f54 a_d [(4,c86)] 10)
@[irreducible] def d8n:MC:=rdc (cK Tryz.prog Tryz.f54 a_d [(4,c86),(10,d2j)] 16)
@[irreducible] def e5v:MC:=rdc (cK Tryz.prog Tryz.f54 a_d [(4,c86),(10,d2j),(16,d8n)] 10000003)
instance:LI c86 30 29 [1,28,29] [1] (fun y:Unit=>[]) (fun y=>[]) []:=⟨⟩
instance:LI d2j 41 40 [1,39,40] [1] (fun y:Unit=>[]) (fun y=>[]) []:=⟨⟩
instance:LI d8n 57 56 [1,55,56] [1] (fun y:Unit=>[]) (fun y=>[]) []:=⟨⟩
instance:LI e5v 0 0 [1] [1] (fun y:Unit=>[]) (fun y=>[]) []:=⟨⟩
instance h90 {c_:o6}:WJ (F_d c_) 54 [o6.v c_] .bool:=wX Tryz.func54 a_d [(4,c86),(10,d2j),(16,d8n),(10000003,e5v)] (h:=fun _ _ h hQ M=>by unfold F_d at h;exact tX)
def f7x (c_:o6):Option o6 :=
 chk (room c_.Sets.length 8) (chk (room c_.Replicas.length 16) (chk (room c_.Snapshots.length 8) (some (o6.mk c_.Fence c_.Sets c_.Replicas c_.Snapshots))))
instance h2a {c_:o6}:WI (f7x c_) Tryz.prog 81 [o6.v c_] [] (fun z=>.agg [.bool z.Fence,.osl 1501 1 0 z.Sets.length,.osl 1502 2 0 z.Replicas.length,.osl 1503 1 0 z.Snapshots.length]) (fun z=>[(1501,.arr 1 (z.Sets.map (V.int .i64))),(1502,.arr 2 (z.Replicas.map q9.v)),(1503,.arr 1 (z.Snapshots.map (V.int .i64)))]):=wX Tryz.func81 [] [] [.ownC 2 1 1501 1 none,.ownC 2 2 1502 2 none,.ownC 2 3 1503 1 none] [1501,1502,1503] (h:=fun _ _ h hQ M=>by unfold f7x at h;exact tX)
def f6f (c_:o6) (x_:a0e):Option (o6×Int) :=
 (F_d c_).bind fun y4=>bif (!y4) then some ((o6.mk false [] [] []),39) else (f7x c_).bind fun y6=>jn (α:=Fl a0e (o6×Int)) (bif decide (x_.Kind=1) then bif (!(decide (x_.Kind=x_.Kind)&&(decide (x_.Replica=0)&&(decide (x_.Snapshot=0)&&decide (x_.Bits=x_.Bits))))) then some (.ex ((o6.mk false [] [] []),39)) else (F_5 x_.Bits 0 3).bind fun y16=>bif (!y16) then some (.ex ((o6.mk false [] [] []),39)) else bif decide (120<(y6.Sets.length:Int)) then some (.ex ((o6.mk false [] [] []),3)) else chk (room (y6.Sets.length+[x_.Bits].length) 8) (some (.ex ((o6.mk y6.Fence (y6.Sets++[x_.Bits]) y6.Replicas y6.Snapshots),0))) else jn (α:=Bool) (bif decide (x_.Kind=2) then some true else some (decide (x_.Kind=3))) fun j17=>bif j17 then some (.nx (a0e.mk x_.Kind x_.Replica 0 0)) else bif decide (x_.Kind=4) then some (.nx (a0e.mk x_.Kind x_.Replica x_.Snapshot 0)) else some (.nx (a0e.mk x_.Kind 0 0 0))) fun o=>o.elim (fun j12=>jn (α:=Fl Unit (o6×Int)) (bif (!(decide (x_.Kind=j12.Kind)&&(decide (x_.Replica=j12.Replica)&&(decide (x_.Snapshot=j12.Snapshot)&&decide (x_.Bits=j12.Bits))))) then some (.ex ((o6.mk false [] [] []),39)) else (F_5 x_.Kind 2 4).bind fun y28=>bif (!y28) then some (.ex ((o6.mk false [] [] []),39)) else chk (a0w ((y6.Replicas.length:Int) - 1)) ((F_5 x_.Replica 0 ((y6.Replicas.length:Int) - 1)).bind fun y29=>bif (!y29) then some (.ex ((o6.mk false [] [] []),39)) else bif decide (x_.Kind=4) then chk (a0w ((y6.Snapshots.length:Int) - 1)) ((F_5 x_.Snapshot 0 ((y6.Snapshots.length:Int) - 1)).bind fun y30=>bif (!y30) then some (.ex ((o6.mk false [] [] []),39)) else some (.nx ())) else some (.nx ()))) fun o=>o.elim (fun j24=>chk (inb x_.Replica y6.Replicas.length) (jn (α:=Fl (Bool×(List q9)×(List Int)) (o6×Int)) (bif decide (x_.Kind=2) then chk (a0w ((y6.Sets.length:Int) - 1)) (some (.nx (y6.Fence,y6.Replicas.set ((x_.Replica).toNat) (q9.mk ((y6.Sets.length:Int) - 1) true),y6.Snapshots))) else bif decide (x_.Kind=3) then bif decide (120≤(y6.Snapshots.length:Int)) then some (.ex ((o6.mk false [] [] []),3)) else chk (room (y6.Snapshots.length+[(y6.Replicas.getD ((x_.Replica).toNat) default).Generation].length) 8) (some (.nx (y6.Fence,y6.Replicas,(y6.Snapshots++[(y6.Replicas.getD ((x_.Replica).toNat) default).Generation])))) else chk (inb x_.Snapshot y6.Snapshots.length) (some (.nx (y6.Fence,y6.Replicas.set ((x_.Replica).toNat) (q9.mk (y6.Snapshots.getD ((x_.Snapshot).toNat) default) (!y6.Fence)),y6.Snapshots)))) fun o=>o.elim (fun j31=>some ((o6.mk j31.1 y6.Sets j31.2.1 j31.2.2),0)) (fun r32=>some r32))) (fun r33=>some r33)) (fun r34=>some r34)
def f2w:List (Nat×RN):=[(2,⟨[.gc [4]],[],[]⟩),(4,⟨[.gc [2,3,4,6,28,29,30,31,65,66,67,68,71,72,73,74,75,76,77,78,81,82,83,84,85,86,87,88,89,90,91,92,93]],[.c 1 0 [] [34097,34098,34099]],[]⟩),(8,⟨[.gc [2,3,4,6,28,29,30,31]],[],[]⟩),(9,⟨[.gc [4]],[],[]⟩),(10,⟨[.gc [2,3,4]],[],[]⟩),(13,⟨[.gc [2,4]],[],[]⟩),(20,⟨[.gc [4]],[],[]⟩),(23,⟨[.gc [2,3,4,7]],[],[]⟩),(25,⟨[.gc [2,4,7]],[],[]⟩),(27,⟨[.gc [2,4,7]],[],[]⟩)]
@[irreducible] def c83:MC:=rdc (cK Tryz.prog Tryz.f38 f2w [] 10000016)
@[irreducible] def d2a:MC:=rdc (cK Tryz.prog Tryz.f38 f2w [(10000016,c83)] 10000030)
@[irreducible] def d86:MC:=rdc (cK Tryz.prog Tryz.f38 f2w [(10000016,c83),(10000030,d2a)] 10000021)
@[irreducible] def e5u:MC:=rdc (cK Tryz.prog Tryz.f38 f2w [(10000016,c83),(10000030,d2a),(10000021,d86)] 10000019)
instance:LI c83 0 0 [2,3,4,6,18] [6,4,3,2,34097,34098,34099] (fun y:Bool=>[(47,.bool y)]) (fun y=>[]) []:=⟨⟩
instance:LI d2a 0 0 [2,4] [4,2,34097] (fun y:Bool×(List q9)×(List Int)=>[]) (fun y=>[.p 2 0 [.bool y.1],.p 2 2 [.osl 34098 2 0 y.2.1.length],.p 2 3 [.osl 4035 1 0 y.2.2.length],.o 34098 (.arr 2 (y.2.1.map q9.v)),.o 4035 (.arr 1 (y.2.2.map (V.int .i64)))]) [.gc [2,4],.ownC 2 3 4035 1 none]:=⟨⟩
instance:LI d86 0 0 [2,3,4] [4,3,2,34097,34098,34099] (fun y:Unit=>[]) (fun y=>[]) []:=⟨⟩
instance:LI e5u 0 0 [2,3,4,6] [4,3,2,34097,34098,34099] (fun y:a0e=>[]) (fun y=>[.o 6 (.cells [.int .i64 y.Kind,.int .i64 y.Replica,.int .i64 y.Snapshot,.int .i64 y.Bits])]) []:=⟨⟩
instance h7q {c_:o6} {x_:a0e}:WJ (f6f c_ x_) 38 [o6.v c_,a0e.v x_] fun z=>.tup [o6.v z.1,.int .i64 z.2]:=wX Tryz.func38 f2w [(10000016,c83),(10000030,d2a),(10000021,d86),(10000019,e5u)] [.fzc 4] (h:=fun _ _ h hQ M=>by have:SwA [(1501,34097),(1502,34098),(1503,34099)]:=⟨⟩;unfold f6f at h;exact tX)
set_option maxRecDepth 20000
set_option maxHeartbeats 2000000
@[go_sem] def g6q (x21:Int×(List Int)×x8):Option (Fl (Int×(List Int)×x8) ((List Int)×x8)) :=
 bif decide (0<x21.1) then (d4t x21.2.2 [2,2,1,3]).bind fun y25=>chk (room (x21.2.1.length+[y25.1].length) 8) (chk (a0w (x21.1 - 1)) (some (.nx ((x21.1 - 1),(x21.2.1++[y25.1]),y25.2)))) else some (.ex (x21.2.1,x21.2.2))
@[go_sem] def g6k (k42:Int) (a43:Int) (x41:List Int):Option (List Int) :=
 bif decide (a43=2) then chk (room (x41.length+[k42].length) 8) (some (x41++[k42])) else some x41
@[go_sem] def g4o (r26:(List Int)×x8) (x44:List Int) (k166:Int) (a167:Int) (x165:(List a0n)×x8):Option ((List a0n)×x8) :=
 (F_0 x165.2 (r26.1.length:Int)).bind fun y191=>(F_0 y191.2 (x44.length:Int)).bind fun y192=>chk (inb y192.1 x44.length) (jn (α:=a0n×x8) ((F_0 y192.2 4).bind fun y197=>bif decide (y197.1=3) then some ((a0n.mk a167 2 y191.1 (x44.getD ((y192.1).toNat) default)),y197.2) else some ((a0n.mk a167 1 y191.1 (x44.getD ((y192.1).toNat) default)),y197.2)) fun j195=>bif (!decide (j195.1.Principal=j195.1.Group)) then chk (room (x165.1.length+[j195.1].length) 32) (some ((x165.1++[j195.1]),j195.2)) else some (x165.1,j195.2))
def f6e (t_:x8):Option (d9×x8) :=
 (F_4 t_ 2 6).bind fun y14=>(loop g6q (y14.1,[1],y14.2)).bind fun r26=>(foldL g6k r26.1 0 []).bind fun x44=>bif decide ((x44.length:Int)=0) then some ((d9.mk r26.1 []),r26.2) else (F_0 r26.2 12).bind fun y116=>(e3l y116.2 y116.1).bind fun y117=>(foldL (g4o r26 x44) y117.1 0 ([],y117.2)).bind fun x198=>some ((d9.mk r26.1 x198.1),x198.2)
def f2v:List (Nat×RN):=[(1,⟨[],[.k 1 1],[]⟩),(2,⟨[],[.c 1 0 [1000] []],[]⟩),(4,⟨[.gc [0,2,3,4]],[],[]⟩),(5,⟨[],[.k 3 2,.c 4 0 [1000] []],[]⟩),(6,⟨[],[.k 0 1],[]⟩),(15,⟨[],[.c 2 0 [1000] [],.c 3 0 [1000] []],[]⟩),(18,⟨[],[.c 5 0 [1000] [],.c 10 0 [1000] []],[]⟩),(19,⟨[.gc [0,2,3,5,10,49,50,51]],[.c 1 0 [1000] []],[]⟩)]
@[irreducible] def c84:MC:=rdc (cK Tryz.prog Tryz.f5 f2v [] 3)
@[irreducible] def d2i:MC:=rdc (cK Tryz.prog Tryz.f5 f2v [(3,c84)] 8)
@[irreducible] def d85:MC:=rdc (cK Tryz.prog Tryz.f5 f2v [(3,c84),(8,d2i)] 10000021)
@[irreducible] def e6y:MC:=rdc (cK Tryz.prog Tryz.f5 f2v [(3,c84),(8,d2i),(10000021,d85)] 16)
instance:LI c84 0 0 [0,2,3] [3,2] (fun y:Int×(List Int)×x8=>[(4,.int .i64 y.1)]) (fun y=>[.p 3 0 [.osl 4048 1 0 y.2.1.length],.o 4048 (.arr 1 (y.2.1.map (V.int .i64))),.o 1000 (.cells [.sl (y.2.2.L.map (V.int .i64)),.int .i64 y.2.2.at_])]) [.gc [0,2,3,4],.ownC 3 0 4048 1 none]:=⟨⟩
instance:LI d2i 30 29 [0,2,3,28,29] [4048,3,2,1000] (fun y:List Int=>[(5,.osl 2005 1 0 y.length)]) (fun y=>[.o 2005 (.arr 1 (y.map (V.int .i64)))]) [.gc [0,2,3,5,28,29,30],.acc 5 2005 1]:=⟨⟩
instance:LI d85 0 0 [0,2,3,5,10,49,50,51] [2005,3,4048,4049,2] (fun y:a0n×x8=>[]) (fun y=>[.o 10 (.cells [.int .i64 y.1.Time,.int .i64 y.1.Kind,.int .i64 y.1.Principal,.int .i64 y.1.Group]),.o 1000 (.cells [.sl (y.2.L.map (V.int .i64)),.int .i64 y.2.at_])]) []:=⟨⟩
instance:LI e6y 51 50 [0,2,3,5,49,50] [2005,3,4048,2] (fun y:(List a0n)×x8=>[]) (fun y=>[.p 3 1 [.osl 4049 4 0 y.1.length],.o 4049 (.arr 4 (y.1.map a0n.v)),.o 1000 (.cells [.sl (y.2.L.map (V.int .i64)),.int .i64 y.2.at_])]) [.gc [0,2,3,5,49,50,51],.ownC 3 1 4049 4 none]:=⟨⟩
instance h7p {t_:x8}:WI (f6e t_) Tryz.prog 5 [.ptr 1000 0] [(1000,.cells [.sl (t_.L.map (V.int .i64)),.int .i64 t_.at_])] (fun z=>d9.v z.1) (fun z=>[(1000,.cells [.sl (z.2.L.map (V.int .i64)),.int .i64 z.2.at_])]):=wX Tryz.func5 f2v [(3,c84),(8,d2i),(10000021,d85),(16,e6y)] [.fzc 2] [1000] (h:=fun _ _ h hQ M=>by unfold f6e at h;exact tX)
@[go_sem] def g4n (d_:d9) (k208:Int) (a209:Int) (x207:Int×(List o7)×x8):Option (Int×(List o7)×x8) :=
 (d4t x207.2.2 [1,1,2,3,4,5,5,6,7,7]).bind fun y251=>(F_0 y251.2 x207.1).bind fun y252=>jn (α:=Fl (o7×x8) x8) (jn (α:=Bool) (bif decide (y251.1=1) then some true else some (decide (y251.1=2))) fun j261=>bif j261 then chk (a0w ((d_.Kinds.length:Int)+1)) ((F_0 y252.2 ((d_.Kinds.length:Int)+1)).bind fun y262=>some (.nx ((o7.mk a209 y251.1 y252.1 y262.1 0 0 0),y262.2))) else bif decide (y251.1=3) then chk (a0w (a209+1)) ((F_0 y252.2 5).bind fun y263=>chk (a0w ((a209+1)+y263.1)) (some (.nx ((o7.mk a209 y251.1 y252.1 0 ((a209+1)+y263.1) 0 0),y263.2)))) else jn (α:=Bool) (bif decide (y251.1=5) then some true else some (decide (y251.1=6))) fun j264=>bif j264 then (F_0 y252.2 3).bind fun y265=>some (.nx ((o7.mk a209 y251.1 y252.1 0 0 y265.1 0),y265.2)) else bif decide (y251.1=7) then (F_0 y252.2 x207.1).bind fun y267=>bif decide (y267.1=y252.1) then some (.ex y267.2) else some (.nx ((o7.mk a209 y251.1 y252.1 0 0 0 y267.1),y267.2)) else some (.nx ((o7.mk a209 y251.1 y252.1 0 0 0 0),y252.2))) fun o=>o.elim (fun j260=>chk (room (x207.2.1.length+[j260.1].length) 56) (some (x207.1,(x207.2.1++[j260.1]),j260.2))) (fun r268=>some (x207.1,x207.2.1,r268))
def f6d (t_:x8) (d_:d9):Option (l5×x8) :=
 (F_4 t_ 1 4).bind fun y2=>(F_0 y2.2 16).bind fun y122=>(e3l y122.2 y122.1).bind fun y123=>(foldL (g4n d_) y123.1 0 (y2.1,[],y123.2)).bind fun x269=>some ((l5.mk x269.1 x269.2.1),x269.2.2)
def f2u:List (Nat×RN):=[(1,⟨[],[.c 1 0 [1000] [],.k 2 1],[]⟩),(2,⟨[],[.c 2 0 [1000] [],.c 3 0 [1000] []],[]⟩),(5,⟨[],[.k 2 2,.c 3 0 [1000] [],.c 7 0 [1000] []],[]⟩),(9,⟨[],[.c 5 0 [1000] []],[]⟩),(11,⟨[],[.c 3 0 [1000] []],[]⟩),(14,⟨[],[.c 1 0 [1000] []],[]⟩),(16,⟨[],[.c 3 0 [1000] []],[]⟩),(17,⟨[.gc [0,3,4,5,8,15,16,17]],[],[]⟩)]
@[irreducible] def c82:MC:=rdc (cK Tryz.prog Tryz.f6 f2u [] 10000014)
@[irreducible] def d29:MC:=rdc (cK Tryz.prog Tryz.f6 f2u [(10000014,c82)] 10000009)
@[irreducible] def d84:MC:=rdc (cK Tryz.prog Tryz.f6 f2u [(10000014,c82),(10000009,d29)] 10000018)
@[irreducible] def e6x:MC:=rdc (cK Tryz.prog Tryz.f6 f2u [(10000014,c82),(10000009,d29),(10000018,d84)] 3)
instance:LI c82 0 0 [0,3,4,5,8,15,16,17,31] [8,5,4081,4,3,1000] (fun y:Bool=>[(50,.bool y)]) (fun y=>[]) []:=⟨⟩
instance:LI d29 0 0 [0,3,4,5,7,8,15,16,17,31] [8,5,4081,4,3,1000] (fun y:Bool=>[(32,.bool y)]) (fun y=>[]) []:=⟨⟩
instance:LI d84 0 0 [0,3,4,5,8,15,16,17] [5,4081,4,3] (fun y:o7×x8=>[]) (fun y=>[.o 8 (.cells [.int .i64 y.1.Time,.int .i64 y.1.Kind,.int .i64 y.1.Place,.int .i64 y.1.Principal,.int .i64 y.1.Until,.int .i64 y.1.Content,.int .i64 y.1.From]),.o 1000 (.cells [.sl (y.2.L.map (V.int .i64)),.int .i64 y.2.at_])]) []:=⟨⟩
instance:LI e6x 17 16 [0,3,4,5,15,16] [4,3] (fun y:Int×(List o7)×x8=>[]) (fun y=>[.o 5 (.cells [.int .i64 y.1,.osl 4081 7 0 y.2.1.length]),.o 4081 (.arr 7 (y.2.1.map o7.v)),.o 1000 (.cells [.sl (y.2.2.L.map (V.int .i64)),.int .i64 y.2.2.at_])]) [.gc [0,3,4,5,15,16,17],.ownC 5 1 4081 7 none]:=⟨⟩
instance h7o {t_:x8} {d_:d9}:WI (f6d t_ d_) Tryz.prog 6 [.ptr 1000 0,d9.v d_] [(1000,.cells [.sl (t_.L.map (V.int .i64)),.int .i64 t_.at_])] (fun z=>l5.v z.1) (fun z=>[(1000,.cells [.sl (z.2.L.map (V.int .i64)),.int .i64 z.2.at_])]):=wX Tryz.func6 f2u [(10000014,c82),(10000009,d29),(10000018,d84),(3,e6x)] [.fzc 4] [1000] (h:=fun _ _ h hQ M=>by unfold f6d at h;exact tX)
def f7w (t_:x8) (r_:l7):Option (l9×x8) :=
 (F_0 t_ 20).bind fun y2=>(F_0 y2.2 (r_.Issuers.length:Int)).bind fun y7=>(F_0 y7.2 5).bind fun y8=>(F_0 y8.2 3).bind fun y9=>chk (a0w (y2.1+1)) ((F_0 y9.2 12).bind fun y10=>chk (a0w ((y2.1+1)+y10.1)) (some ((l9.mk y7.1 (IntKind.wrap .u64 y8.1) y9.1 y2.1 ((y2.1+1)+y10.1)),y10.2)))
instance h29 {t_:x8} {r_:l7}:WI (f7w t_ r_) Tryz.prog 31 [.ptr 1000 0,l7.v r_] [(1000,.cells [.sl (t_.L.map (V.int .i64)),.int .i64 t_.at_])] (fun z=>l9.v z.1) (fun z=>[(1000,.cells [.sl (z.2.L.map (V.int .i64)),.int .i64 z.2.at_])]):=wX Tryz.func31 [(1,⟨[],[.c 1 0 [1000] []],[]⟩),(2,⟨[],[.c 4 0 [1000] [],.c 6 0 [1000] [],.c 9 0 [1000] [],.c 14 0 [1000] []],[]⟩)] [] [] [1000] (h:=fun _ _ h hQ M=>by unfold f7w at h;exact tX)
def e1c (x_:Int) (qD:Int) (jC:Int):Option Bool :=
 grp ((decide (qD≤x_)&&decide (x_≤jC))) fun b2=>some b2
instance h56 {x_ qD jC:Int}:WJ (e1c x_ qD jC) 63 [.int .i64 x_,.int .i64 qD,.int .i64 jC] .bool:=wX Tryz.func63 [(1,⟨[],[],[.v 4 7]⟩)] (h:=fun _ _ h hQ M=>by unfold e1c at h;exact tX)
@[go_sem] def f8u (s_:Str) (x13:Int):Option (Fl Int (Sum Unit Bool)) :=
 bif decide (x13<(s_.length:Int)) then chk (inb x13 s_.length) (bif decide (((s_.getD (x13).toNat 0).toNat:Int)<97) then some (.ex (.inr false)) else chk (inb x13 s_.length) (bif decide (122<((s_.getD (x13).toNat 0).toNat:Int)) then some (.ex (.inr false)) else chk (a0w (x13+1)) (some (.nx (x13+1))))) else some (.ex (.inl ()))
def f4v (s_:Str):Option Bool :=
 (e1c (s_.length:Int) 1 40).bind fun y4=>bif (!y4) then some false else (loop (f8u s_) 0).bind fun r14=>Sum.elim (fun u15=>some true) (fun u16=>some u16) r14
def g86:List (Nat×RN):=[(5,⟨[.gc [0,3,19,20,21,22]],[],[]⟩)]
@[irreducible] def e84:MC:=rdc (cK Tryz.prog Tryz.f62 g86 [] 4)
instance:LI e84 0 0 [0] [] (fun y:Int=>[(3,.int .i64 y)]) (fun y=>[]) []:=⟨⟩
instance h5t {s_:Str}:WJ (f4v s_) 62 [.str s_] .bool:=wX Tryz.func62 g86 [(4,e84)] (h:=fun _ _ h hQ M=>by unfold f4v at h;exact tX)
def f3o (r_:l7) (c_:l9):Option Bool :=
 chk (a0w ((r_.Issuers.length:Int) - 1)) ((e1c c_.Issuer 0 ((r_.Issuers.length:Int) - 1)).bind fun y7=>jn (α:=Bool) (bif y7 then (e1c c_.Holder 0 23).bind fun y9=>some y9 else some false) fun j10=>grp ((j10&&decide (0≤c_.From))) fun b11=>grp ((b11&&decide (c_.From<c_.Until))) fun b12=>grp ((b12&&decide (c_.Until≤1099511627777))) fun b13=>some b13)
instance f6q {m:List MOp}:GI (gjt 640108 m) [3,4] [3] (fun y:Bool=>[(16,.bool y)]) (fun y=>[]):=⟨⟩
instance h3h {r_:l7} {c_:l9}:WJ (f3o r_ c_) 64 [l7.v r_,l9.v c_] .bool:=wX Tryz.func64 [(1,⟨[],[],[.w 8 11 640108,.v 13 16,.v 18 23,.v 25 28]⟩)] (h:=fun _ _ h hQ M=>by unfold f3o at h;exact tX)
@[go_sem] def g4m (jE:Int) (qE:Int) (t_:Int) (k100:Int) (a101:l9) (x99:List Int):Option (List Int) :=
 grp ((decide (a101.Issuer=jE)&&decide (a101.Holder=qE))) fun b123=>grp ((b123&&decide (a101.From≤t_))) fun b124=>grp ((b124&&decide (t_<a101.Until))) fun b125=>bif b125 then chk (room (x99.length+[k100].length) 8) (some (x99++[k100])) else some x99
def f4u (r_:l7) (jE:Int) (qE:Int) (t_:Int):Option (List Int) :=
 (foldL (g4m jE qE t_) r_.Credentials 0 []).bind fun x126=>some x126
def g85:List (Nat×RN):=[(1,⟨[],[.k 0 1],[]⟩),(5,⟨[],[],[.v 5 9,.v 11 15,.v 17 21]⟩),(6,⟨[.gc [1,2,3,9,10,13,14,15,25,26,27,28,31,32,33,34,37,38,39,40]],[],[]⟩)]
@[irreducible] def e6w:MC:=rdc (cK Tryz.prog Tryz.f65 g85 [] 3)
instance:LI e6w 15 14 [1,2,3,13,14] [] (fun y:List Int=>[(9,.osl 2009 1 0 y.length)]) (fun y=>[.o 2009 (.arr 1 (y.map (V.int .i64)))]) [.gc [1,2,3,9,13,14,15],.acc 9 2009 1]:=⟨⟩
instance h5s {r_:l7} {jE qE t_:Int}:WJ (f4u r_ jE qE t_) 65 [l7.v r_,.int .i64 jE,.int .i64 qE,.int .i64 t_] fun z=>.sl (z.map (V.int .i64)):=wX Tryz.func65 g85 [(3,e6w)] [.fz 8] (h:=fun _ _ h hQ M=>by unfold f4u at h;exact tX)
@[go_sem] def g6j (k55:Int) (a56:a0j) (x54:Unit):Option (Fl Unit Bool) :=
 (f4v a56.Name).bind fun y71=>bif (!y71) then some (.ex false) else (e1c a56.Slots 1 2).bind fun y72=>bif (!y72) then some (.ex false) else some (.nx ())
@[go_sem] def g5x (r_:l7) (k105:Int) (a106:l9) (x104:Unit):Option (Fl Unit Bool) :=
 (f3o r_ a106).bind fun y114=>bif (!y114) then some (.ex false) else some (.nx ())
@[go_sem] def g4l (r_:l7) (k147:Int) (a148:l9) (x146:Unit):Option (Fl Unit Bool) :=
 (f4u r_ a148.Issuer a148.Holder a148.From).bind fun y156=>chk (inb a148.Issuer r_.Issuers.length) (bif decide ((r_.Issuers.getD (a148.Issuer).toNat default).Slots<(y156.length:Int)) then some (.ex false) else some (.nx ()))
def F_o (r_:l7):Option Bool := grp ((decide (8<(r_.Issuers.length:Int))||decide (24<(r_.Credentials.length:Int)))) fun b4=>bif b4 then some false else (forL g6j r_.Issuers 0 ()).bind fun o=>o.elim (fun x73=>(forL (g5x r_) r_.Credentials 0 ()).bind fun o=>o.elim (fun x115=>(forL (g4l r_) r_.Credentials 0 ()).bind fun o=>o.elim (fun x157=>some true) (fun r158=>some r158)) (fun r116=>some r116)) (fun r74=>some r74)
def a_o:List (Nat×RN):=[(1,⟨[],[],[.v 5 9]⟩),(3,⟨[.gc [1,31,32,33,34]],[],[]⟩)]
@[irreducible] def d2h:MC:=rdc (cK Tryz.prog Tryz.f24 a_o [] 4)
@[irreducible] def d8m:MC:=rdc (cK Tryz.prog Tryz.f24 a_o [(4,d2h)] 10)
@[irreducible] def e6v:MC:=rdc (cK Tryz.prog Tryz.f24 a_o [(4,d2h),(10,d8m)] 16)
instance:LI d2h 22 21 [1,20,21] [1] (fun y:Unit=>[]) (fun y=>[]) []:=⟨⟩
instance:LI d8m 40 39 [1,38,39] [1] (fun y:Unit=>[]) (fun y=>[]) []:=⟨⟩
instance:LI e6v 52 51 [1,50,51] [1] (fun y:Unit=>[]) (fun y=>[]) []:=⟨⟩
instance h8p {r_:l7}:WJ (F_o r_) 24 [l7.v r_] .bool:=wX Tryz.func24 a_o [(4,d2h),(10,d8m),(16,e6v)] (h:=fun _ _ h hQ M=>by unfold F_o at h;exact tX)
def f7v (r_:l7):Option l7 :=
 chk (room r_.Issuers.length 24) (chk (room r_.Credentials.length 40) (some (l7.mk r_.Issuers r_.Credentials)))
instance h28 {r_:l7}:WI (f7v r_) Tryz.prog 75 [l7.v r_] [] (fun z=>.agg [.osl 1500 2 0 z.Issuers.length,.osl 1501 5 0 z.Credentials.length]) (fun z=>[(1500,.arr 2 (z.Issuers.map a0j.v)),(1501,.arr 5 (z.Credentials.map l9.v))]):=wX Tryz.func75 [] [] [.ownC 2 0 1500 2 none,.ownC 2 1 1501 5 none] [1500,1501] (h:=fun _ _ h hQ M=>by unfold f7v at h;exact tX)
def f3n (r_:l7) (c_:l9):Option (l7×Int×Int) :=
 (F_o r_).bind fun y4=>bif (!y4) then some ((l7.mk [] []),0,31) else bif decide (24≤(r_.Credentials.length:Int)) then some ((l7.mk [] []),0,3) else (f7v r_).bind fun y6=>chk (room (y6.Credentials.length+[c_].length) 40) ((F_o (l7.mk y6.Issuers (y6.Credentials++[c_]))).bind fun y10=>bif (!y10) then some ((l7.mk [] []),0,31) else some ((l7.mk y6.Issuers (y6.Credentials++[c_])),(r_.Credentials.length:Int),0))
instance h3g {r_:l7} {c_:l9}:WJ (f3n r_ c_) 30 [l7.v r_,l9.v c_] fun z=>.tup [l7.v z.1,.int .i64 z.2.1,.int .i64 z.2.2]:=wX Tryz.func30 [(2,⟨[.gc [4]],[],[]⟩),(4,⟨[.gc [4]],[],[]⟩),(5,⟨[.gc [2,3,4]],[.c 1 0 [] [34608,34609]],[]⟩),(7,⟨[.gc [2,4,7]],[],[.n 1 (.fz 25)]⟩)] [] [.fzc 4] (h:=fun _ _ h hQ M=>by have:SwA [(1500,34608),(1501,34609)]:=⟨⟩;unfold f3n at h;exact tX)
@[go_sem] def g6i (x21:Int×(List a0j)×x8):Option (Fl (Int×(List a0j)×x8) ((List a0j)×x8)) :=
 bif decide (0<x21.1) then (F_4 x21.2.2 1 2).bind fun y25=>chk (room (x21.2.1.length+[(a0j.mk [105,115,115,117,101,114] y25.1)].length) 24) (chk (a0w (x21.1 - 1)) (some (.nx ((x21.1 - 1),(x21.2.1++[(a0j.mk [105,115,115,117,101,114] y25.1)]),y25.2)))) else some (.ex (x21.2.1,x21.2.2))
@[go_sem] def g4k (x62:Int×l7×x8):Option (Fl (Int×l7×x8) (l7×x8)) :=
 bif decide (0<x62.1) then jn (α:=l7×x8) ((f7w x62.2.2 x62.2.1).bind fun y75=>(f3n x62.2.1 y75.1).bind fun y76=>bif decide (y76.2.2=0) then some (y76.1,y75.2) else some (x62.2.1,y75.2)) fun j72=>chk (a0w (x62.1 - 1)) (some (.nx ((x62.1 - 1),j72.1,j72.2))) else some (.ex (x62.2.1,x62.2.2))
def f5z (t_:x8):Option (l7×x8) :=
 (F_4 t_ 1 2).bind fun y14=>(loop g6i (y14.1,[],y14.2)).bind fun r26=>(F_0 r26.2 8).bind fun y49=>(loop g4k (y49.1,(l7.mk r26.1 []),y49.2)).bind fun r77=>some (r77.1,r77.2)
def f6y:List (Nat×RN):=[(1,⟨[],[.k 0 1],[]⟩),(2,⟨[],[.c 1 0 [1000] []],[]⟩),(4,⟨[.gc [0,2,3,4]],[],[]⟩),(5,⟨[],[.c 3 0 [1000] []],[]⟩),(6,⟨[],[.c 1 0 [1000] []],[]⟩),(9,⟨[.fzc 3],[.c 3 0 [1000] []],[]⟩)]
@[irreducible] def d2g:MC:=rdc (cK Tryz.prog Tryz.f7 f6y [] 3)
@[irreducible] def d83:MC:=rdc (cK Tryz.prog Tryz.f7 f6y [(3,d2g)] 10000008)
@[irreducible] def e6u:MC:=rdc (cK Tryz.prog Tryz.f7 f6y [(3,d2g),(10000008,d83)] 7)
instance:LI d2g 0 0 [0,2,3] [3,2] (fun y:Int×(List a0j)×x8=>[(4,.int .i64 y.1)]) (fun y=>[.p 3 0 [.osl 4048 2 0 y.2.1.length],.o 4048 (.arr 2 (y.2.1.map a0j.v)),.o 1000 (.cells [.sl (y.2.2.L.map (V.int .i64)),.int .i64 y.2.2.at_])]) [.gc [0,2,3,4],.ownC 3 0 4048 2 none]:=⟨⟩
instance:LI d83 0 0 [0,2,3,5] [2] (fun y:l7×x8=>[]) (fun y=>[.o 3 (.cells [.sl (y.1.Issuers.map a0j.v),.sl (y.1.Credentials.map l9.v)]),.o 1000 (.cells [.sl (y.2.L.map (V.int .i64)),.int .i64 y.2.at_])]) []:=⟨⟩
instance:LI e6u 0 0 [0,2,3] [2] (fun y:Int×l7×x8=>[(5,.int .i64 y.1)]) (fun y=>[.o 3 (.cells [.sl (y.2.1.Issuers.map a0j.v),.sl (y.2.1.Credentials.map l9.v)]),.o 1000 (.cells [.sl (y.2.2.L.map (V.int .i64)),.int .i64 y.2.2.at_])]) [.fzc 3]:=⟨⟩
instance h77 {t_:x8}:WI (f5z t_) Tryz.prog 7 [.ptr 1000 0] [(1000,.cells [.sl (t_.L.map (V.int .i64)),.int .i64 t_.at_])] (fun z=>l7.v z.1) (fun z=>[(1000,.cells [.sl (z.2.L.map (V.int .i64)),.int .i64 z.2.at_])]):=wX Tryz.func7 f6y [(3,d2g),(10000008,d83),(7,e6u)] [.fzc 2] [1000] (h:=fun _ _ h hQ M=>by unfold f5z at h;exact tX)
@[go_sem] def g6h (x45:Int×Int×Int×(List a0g)×x8):Option (Fl (Int×Int×Int×(List a0g)×x8) (Int×Int×(List a0g)×x8)) :=
 bif decide (0<x45.1) then (F_0 x45.2.2.2.2 x45.2.1).bind fun y55=>(F_0 y55.2 x45.2.2.1).bind fun y56=>(F_4 y56.2 1 3).bind fun y57=>chk (room (x45.2.2.2.1.length+[(a0g.mk y55.1 y56.1 y57.1)].length) 24) (chk (a0w (x45.1 - 1)) (some (.nx ((x45.1 - 1),x45.2.1,x45.2.2.1,(x45.2.2.2.1++[(a0g.mk y55.1 y56.1 y57.1)]),y57.2)))) else some (.ex (x45.2.1,x45.2.2.1,x45.2.2.2.1,x45.2.2.2.2))
@[go_sem] def g5w (x89:Int×Int×Int×(List a0m)×x8):Option (Fl (Int×Int×Int×(List a0m)×x8) (Int×Int×(List a0m)×x8)) :=
 bif decide (0<x89.1) then (F_0 x89.2.2.2.2 x89.2.2.1).bind fun y96=>(F_0 y96.2 x89.2.1).bind fun y97=>chk (room (x89.2.2.2.1.length+[(a0m.mk y96.1 y97.1)].length) 16) (chk (a0w (x89.1 - 1)) (some (.nx ((x89.1 - 1),x89.2.1,x89.2.2.1,(x89.2.2.2.1++[(a0m.mk y96.1 y97.1)]),y97.2)))) else some (.ex (x89.2.1,x89.2.2.1,x89.2.2.2.1,x89.2.2.2.2))
@[go_sem] def g4j (x129:Int×Int×Int×(List a1d)×x8):Option (Fl (Int×Int×Int×(List a1d)×x8) (Int×Int×(List a1d)×x8)) :=
 bif decide (0<x129.1) then (F_0 x129.2.2.2.2 x129.2.1).bind fun y136=>(F_0 y136.2 x129.2.1).bind fun y137=>chk (room (x129.2.2.2.1.length+[(a1d.mk y136.1 y137.1)].length) 16) (chk (a0w (x129.1 - 1)) (some (.nx ((x129.1 - 1),x129.2.1,x129.2.2.1,(x129.2.2.2.1++[(a1d.mk y136.1 y137.1)]),y137.2)))) else some (.ex (x129.2.1,x129.2.2.1,x129.2.2.2.1,x129.2.2.2.2))
def e3r (t_:x8):Option (o8×x8) :=
 (F_4 t_ 1 6).bind fun y3=>(F_4 y3.2 1 5).bind fun y4=>(F_0 y4.2 8).bind fun y30=>(loop g6h (y30.1,y3.1,y4.1,[],y30.2)).bind fun r58=>(F_0 r58.2.2.2 5).bind fun y78=>(loop g5w (y78.1,r58.1,r58.2.1,[],y78.2)).bind fun r98=>(F_0 r98.2.2.2 4).bind fun y118=>(loop g4j (y118.1,r98.1,r98.2.1,[],y118.2)).bind fun r138=>some ((o8.mk r138.1 r138.2.1 r58.2.2.1 r98.2.2.1 r138.2.2.1),r138.2.2.2)
def f7a:List (Nat×RN):=[(1,⟨[],[.c 1 0 [1000] [],.c 3 0 [1000] [],.k 4 1],[]⟩),(2,⟨[],[.c 1 0 [1000] []],[]⟩),(4,⟨[.gc [0,2,3,4]],[],[]⟩),(5,⟨[],[.c 5 0 [1000] [],.c 9 0 [1000] [],.c 11 0 [1000] []],[]⟩),(6,⟨[],[.c 1 0 [1000] []],[]⟩),(8,⟨[.gc [0,2,3,5]],[],[]⟩),(9,⟨[],[.c 5 0 [1000] [],.c 9 0 [1000] []],[]⟩),(10,⟨[],[.c 1 0 [1000] []],[]⟩),(12,⟨[.gc [0,2,3,6]],[],[]⟩),(13,⟨[],[.c 5 0 [1000] [],.c 9 0 [1000] []],[]⟩)]
@[irreducible] def d2f:MC:=rdc (cK Tryz.prog Tryz.f8 f7a [] 3)
@[irreducible] def d8l:MC:=rdc (cK Tryz.prog Tryz.f8 f7a [(3,d2f)] 7)
@[irreducible] def e6t:MC:=rdc (cK Tryz.prog Tryz.f8 f7a [(3,d2f),(7,d8l)] 11)
instance:LI d2f 0 0 [0,2,3] [3,2] (fun y:Int×Int×Int×(List a0g)×x8=>[(4,.int .i64 y.1)]) (fun y=>[.p 3 0 [.int .i64 y.2.1],.p 3 1 [.int .i64 y.2.2.1],.p 3 2 [.osl 4050 3 0 y.2.2.2.1.length],.o 4050 (.arr 3 (y.2.2.2.1.map a0g.v)),.o 1000 (.cells [.sl (y.2.2.2.2.L.map (V.int .i64)),.int .i64 y.2.2.2.2.at_])]) [.gc [0,2,3,4],.ownC 3 2 4050 3 none]:=⟨⟩
instance:LI d8l 0 0 [0,2,3] [3,4050,2] (fun y:Int×Int×Int×(List a0m)×x8=>[(5,.int .i64 y.1)]) (fun y=>[.p 3 0 [.int .i64 y.2.1],.p 3 1 [.int .i64 y.2.2.1],.p 3 3 [.osl 4051 2 0 y.2.2.2.1.length],.o 4051 (.arr 2 (y.2.2.2.1.map a0m.v)),.o 1000 (.cells [.sl (y.2.2.2.2.L.map (V.int .i64)),.int .i64 y.2.2.2.2.at_])]) [.gc [0,2,3,5],.ownC 3 3 4051 2 none]:=⟨⟩
instance:LI e6t 0 0 [0,2,3] [3,4050,4051,2] (fun y:Int×Int×Int×(List a1d)×x8=>[(6,.int .i64 y.1)]) (fun y=>[.p 3 0 [.int .i64 y.2.1],.p 3 1 [.int .i64 y.2.2.1],.p 3 4 [.osl 4052 2 0 y.2.2.2.1.length],.o 4052 (.arr 2 (y.2.2.2.1.map a1d.v)),.o 1000 (.cells [.sl (y.2.2.2.2.L.map (V.int .i64)),.int .i64 y.2.2.2.2.at_])]) [.gc [0,2,3,6],.ownC 3 4 4052 2 none]:=⟨⟩
instance h7n {t_:x8}:WI (e3r t_) Tryz.prog 8 [.ptr 1000 0] [(1000,.cells [.sl (t_.L.map (V.int .i64)),.int .i64 t_.at_])] (fun z=>o8.v z.1) (fun z=>[(1000,.cells [.sl (z.2.L.map (V.int .i64)),.int .i64 z.2.at_])]):=wX Tryz.func8 f7a [(3,d2f),(7,d8l),(11,e6t)] [.fzc 2] [1000] (h:=fun _ _ h hQ M=>by unfold e3r at h;exact tX)
@[go_sem] def g4i (n_:Int) (x17:Int×(List Int)×x8):Option (Fl (Int×(List Int)×x8) ((List Int)×x8)) :=
 bif decide (x17.1<n_) then (d4t x17.2.2 [0,1,10,50,100]).bind fun y21=>chk (room (x17.2.1.length+[y21.1].length) 8) (chk (a0w (x17.1+1)) (some (.nx ((x17.1+1),(x17.2.1++[y21.1]),y21.2)))) else some (.ex (x17.2.1,x17.2.2))
def f4t (t_:x8) (n_:Int):Option ((List Int)×x8) :=
 (loop (g4i n_) (0,[],t_)).bind fun r22=>some (r22.1,r22.2)
def g84:List (Nat×RN):=[(1,⟨[],[.k 0 1],[]⟩),(4,⟨[.gc [0,1,5,6]],[],[]⟩),(5,⟨[],[.k 2 2,.c 3 0 [1000] []],[]⟩)]
@[irreducible] def e6s:MC:=rdc (cK Tryz.prog Tryz.f9 g84 [] 3)
instance:LI e6s 0 0 [0,1] [] (fun y:Int×(List Int)×x8=>[(5,.osl 2005 1 0 y.2.1.length),(6,.int .i64 y.1)]) (fun y=>[.o 2005 (.arr 1 (y.2.1.map (V.int .i64))),.o 1000 (.cells [.sl (y.2.2.L.map (V.int .i64)),.int .i64 y.2.2.at_])]) [.gc [0,1,5,6],.acc 5 2005 1]:=⟨⟩
instance h5r {t_:x8} {n_:Int}:WI (f4t t_ n_) Tryz.prog 9 [.ptr 1000 0,.int .i64 n_] [(1000,.cells [.sl (t_.L.map (V.int .i64)),.int .i64 t_.at_])] (fun z=>.sl (z.1.map (V.int .i64))) (fun z=>[(1000,.cells [.sl (z.2.L.map (V.int .i64)),.int .i64 z.2.at_])]):=wX Tryz.func9 g84 [(3,e6s)] [.fz 4] [1000] (h:=fun _ _ h hQ M=>by unfold f4t at h;exact tX)
def e2v (is_:Bool) (gL:Str) (no_:Str):Option Str :=
 bif is_ then some gL else some no_
instance h4i {is_:Bool} {gL no_:Str}:WJ (e2v is_ gL no_) 51 [.bool is_,.str gL,.str no_] .str:=wX Tryz.func51 (h:=fun _ _ h hQ M=>by unfold e2v at h;exact tX)
def f9t (k36:Int) (a37:a5z) (x35:List Str):Option (List Str) :=
 (b2z a37.n_).bind fun y41=>chk (room (x35.length+[a37.kH,y41].length) 16) (some (x35++[a37.kH,y41]))
def F_e (m_:o9):Option Str := (e2m m_.Fingerprint 10).bind fun y4=>(b2z m_.Spots).bind fun y5=>(e2v m_.Public [112,117,98,108,105,99] [105,110,115,105,100,101]).bind fun y6=>(foldL f9t [(a5z.mk [114,101,97,100,101,114,115] m_.Readers),(a5z.mk [115,105,110,99,101] m_.Since),(a5z.mk [108,101,118,101,108] m_.Severity.Level),(a5z.mk [119,111,114,116,104] m_.Severity.Worth),(a5z.mk [97,117,100,105,101,110,99,101] m_.Severity.Audience),(a5z.mk [115,99,111,114,101] m_.Severity.Score)] 0 [[108,101,97,107],y4,[115,112,111,116,115],y5,y6]).bind fun x42=>(e2v m_.Rotated [114,111,116,97,116,101,100] [118,97,108,105,100]).bind fun y46=>(e2v m_.Dead [100,101,97,100] [97,108,105,118,101]).bind fun y47=>chk (room (x42.length+[y46,y47].length) 16) ((d2u (x42++[y46,y47]) [32]).bind fun y48=>some y48)
def a_e:List (Nat×RN):=[(2,⟨[.gc [1,3]],[],[]⟩),(7,⟨[],[.c 9 0 [61] []],[]⟩)]
@[irreducible] def d2q:MC:=rdc (cK Tryz.prog Tryz.f16 a_e [] 3)
def g71:MC:=rdc (cT Tryz.prog Tryz.f16 a_e [(3,d2q)])
instance h8y {m_:o9}:WI (F_e m_) Tryz.prog 16 [o9.v m_] [] (fun z=>.str z) (fun z=>[]):=⟨fun Q Q' h hQ=>by
 refine a2m g71 [] [] [.t 2] Tryz.func16 fun M=>?_
 unfold F_e at h
 unfold g71
 replace h:=tY h
 refine tB ?_
 repeat' (first
 | (exact tZ)
 | ((first|refine b5l h ?_|refine a5u h ?_|refine b5p h ?_|refine b5o h ?_|refine b5u h ?_|refine appG h ?_|refine b5w h ?_|refine fork h ?_ ?_|refine a5w h ?_ ?_)<;>clear h<;>intro hc h)
 | (obtain ⟨y,hy,h⟩:=h;(first|have hw:=a03 1000 61 (h88 hy)|have hw:=g99 hy|have hw:=g3m hy|have hw:=WI.w hy);replace hw:=tY hw;(first|refine M.sC hw ?_|refine M.sD hw ?_);clear hw hy;refine tB ?_)
 | (refine M.fold1 (b:=d2q) 40 [1,38,39] [38,1] (fun x=>[(3,.osl 2003 1 0 x.length)]) (fun x=>[.o 2003 (.arr 1 (x.map V.str))]) [.gc [1,3,38,39,40],.acc 3 2003 1] h ?_ ?_ ?_<;>first
 | (clear h;intro k a x Qn K hK1 hkN1 ha1 h hf;skip;clear hf;have hkd:=kD hkN1;have hkB1:=kB hkN1;have hkI1:=kI (k:=k) (by (try simp only [wA,wM] at hkN1);omega);have hkd1:decide ((k:Int)<6)=true:=wT (by simp only [wA,wM] at hkN1;omega);have hkr1:(0≤(k:Int)∧(k:Int)<6)=True:=eq_true (by simp only [wA,wM] at hkN1;omega);have hle1:=trivial;have hpt1:=trivial;unfold f9t at h;unfold d2q;replace h:=tY h;refine tKA ha1 hkd hkN1 hkB1 hkI1 hkd1 hkr1 hle1 hpt1 ?_)
  |(clear h;intro x K h;replace h:=And.left (And.intro h trivial);unfold d2q;replace h:=tY h;refine tB ?_)
  |(clear h;(try refine tB ?_);exact tU0;done))
 | (simp only [ha1])
 | (refine hK1 _ ?_;(try refine tB ?_);refine ⟨_,h,?_⟩;exact tU0;done)
 | (refine tE6 a5z.v ([(a5z.mk [114,101,97,100,101,114,115] m_.Readers),(a5z.mk [115,105,110,99,101] m_.Since),(a5z.mk [108,101,118,101,108] m_.Severity.Level),(a5z.mk [119,111,114,116,104] m_.Severity.Worth),(a5z.mk [97,117,100,105,101,110,99,101] m_.Severity.Audience),(a5z.mk [115,99,111,114,101] m_.Severity.Score)]:List a5z) ?_;(first|rw [M.lok_compU]|rw [M.lokD_compU]|(simp only [slV,V.cells];first|rw [M.lok_comp]|rw [M.lokD_comp]));refine tB ?_)
 | (refine tE4 a5z.v ?_;(first|rw [M.lok_compU]|rw [M.lokD_compU]|(simp only [V.cells];first|rw [M.lok_comp]|rw [M.lokD_comp]));refine tB ?_)
 | (refine tE ?_;(first|rw [M.lok_compU]|rw [M.lokD_compU]);refine tB ?_)
 | (refine tA ?_)
 | fail)⟩
def e3h (y2:List Str) (k101:Int) (a78:Int×Nat) (x77:Bool×o9):Option (Bool×o9) :=
 bif Nat.beq a78.2 1 then chk (inb a78.1 y2.length) ((a5y (y2.getD (a78.1).toNat default)).bind fun y121=>grp ((x77.1||(!y121.2))) fun b122=>some (b122,(o9.mk x77.2.Fingerprint y121.1 x77.2.Public x77.2.Readers x77.2.Since x77.2.Severity x77.2.Rotated x77.2.Dead))) else bif Nat.beq a78.2 3 then chk (inb a78.1 y2.length) ((a5y (y2.getD (a78.1).toNat default)).bind fun y118=>grp ((x77.1||(!y118.2))) fun b119=>some (b119,(o9.mk x77.2.Fingerprint x77.2.Spots x77.2.Public y118.1 x77.2.Since x77.2.Severity x77.2.Rotated x77.2.Dead))) else bif Nat.beq a78.2 4 then chk (inb a78.1 y2.length) ((a5y (y2.getD (a78.1).toNat default)).bind fun y115=>grp ((x77.1||(!y115.2))) fun b116=>some (b116,(o9.mk x77.2.Fingerprint x77.2.Spots x77.2.Public x77.2.Readers y115.1 x77.2.Severity x77.2.Rotated x77.2.Dead))) else bif Nat.beq a78.2 5 then chk (inb a78.1 y2.length) ((a5y (y2.getD (a78.1).toNat default)).bind fun y112=>grp ((x77.1||(!y112.2))) fun b113=>some (b113,(o9.mk x77.2.Fingerprint x77.2.Spots x77.2.Public x77.2.Readers x77.2.Since (a00.mk y112.1 x77.2.Severity.Worth x77.2.Severity.Audience x77.2.Severity.Score) x77.2.Rotated x77.2.Dead))) else bif Nat.beq a78.2 6 then chk (inb a78.1 y2.length) ((a5y (y2.getD (a78.1).toNat default)).bind fun y109=>grp ((x77.1||(!y109.2))) fun b110=>some (b110,(o9.mk x77.2.Fingerprint x77.2.Spots x77.2.Public x77.2.Readers x77.2.Since (a00.mk x77.2.Severity.Level y109.1 x77.2.Severity.Audience x77.2.Severity.Score) x77.2.Rotated x77.2.Dead))) else bif Nat.beq a78.2 7 then chk (inb a78.1 y2.length) ((a5y (y2.getD (a78.1).toNat default)).bind fun y106=>grp ((x77.1||(!y106.2))) fun b107=>some (b107,(o9.mk x77.2.Fingerprint x77.2.Spots x77.2.Public x77.2.Readers x77.2.Since (a00.mk x77.2.Severity.Level x77.2.Severity.Worth y106.1 x77.2.Severity.Score) x77.2.Rotated x77.2.Dead))) else bif Nat.beq a78.2 8 then chk (inb a78.1 y2.length) ((a5y (y2.getD (a78.1).toNat default)).bind fun y103=>grp ((x77.1||(!y103.2))) fun b104=>some (b104,(o9.mk x77.2.Fingerprint x77.2.Spots x77.2.Public x77.2.Readers x77.2.Since (a00.mk x77.2.Severity.Level x77.2.Severity.Worth x77.2.Severity.Audience y103.1) x77.2.Rotated x77.2.Dead))) else none
def F_7 (kG:Str):Option (o9×Int) := (d4x kG [32]).bind fun y2=>bif (!decide ((y2.length:Int)=19)) then some ((o9.mk 0 0 false 0 0 (a00.mk 0 0 0 0) false false),4) else chk (inb 1 y2.length) ((puE (y2.getD 1 default) 10 64).bind fun y4=>b7j (fun l100=>(foldL (e3h y2) l100 0 ((!y4.2),(o9.mk 0 0 false 0 0 (a00.mk 0 0 0 0) false false))).bind fun x123=>chk (inb 4 y2.length) (chk (inb 17 y2.length) (chk (inb 18 y2.length) (bif x123.1 then some ((o9.mk 0 0 false 0 0 (a00.mk 0 0 0 0) false false),4) else (F_e (o9.mk y4.1 x123.2.Spots (decide ((y2.getD 4 default)=[112,117,98,108,105,99])) x123.2.Readers x123.2.Since x123.2.Severity (decide ((y2.getD 17 default)=[114,111,116,97,116,101,100])) (decide ((y2.getD 18 default)=[100,101,97,100])))).bind fun y127=>bif (!decide (y127=kG)) then some ((o9.mk 0 0 false 0 0 (a00.mk 0 0 0 0) false false),4) else some ((o9.mk y4.1 x123.2.Spots (decide ((y2.getD 4 default)=[112,117,98,108,105,99])) x123.2.Readers x123.2.Since x123.2.Severity (decide ((y2.getD 17 default)=[114,111,116,97,116,101,100])) (decide ((y2.getD 18 default)=[100,101,97,100]))),0))))) [(3,1),(6,3),(8,4),(10,5),(12,6),(14,7),(16,8)])
@[irreducible] def d7w:List MOp:=rdc (cG Tryz.prog Tryz.f15 [] 11 2 4)
def a_7:List (Nat×RN):=[(3,⟨[.gc [2]],[],[]⟩),(6,⟨[.gc [0,2,4,5,6,7,11,57,58,79,80,81,82]],[],[]⟩),(7,⟨[],[],[.n 2 (.adq 5 11),.n 2 (.toA 27 11),.n 4 (.toA 28 11),.n 6 (.toA 29 11),.n 9 (.toA 31 11),.n 12 (.toA 33 11),.n 15 (.toA 35 11),.n 18 (.toA 37 11),.n 20 (.shut 26)]⟩),(10,⟨[],[],[.n 0 (.ofA 10 11)]⟩),(11,⟨[.gc [0,2,4,5,6,7,8,11,39,57,58,79,80,81,82]],[],[.u 2 4 d7w]⟩),(13,⟨[.gc [0,2,5,8,11,79,80,81,82]],[],[]⟩),(14,⟨[.gc [2,11]],[],[]⟩),(15,⟨[.gc [2,5,11]],[],[]⟩)]
@[irreducible] def d91:MC:=rdc (cK Tryz.prog Tryz.f15 a_7 [] 8)
def g75:MC:=rdc (cT Tryz.prog Tryz.f15 a_7 [(8,d91)])
instance h95 {kG:Str}:WI (F_7 kG) Tryz.prog 15 [.str kG] [] (fun z=>.tup [o9.v z.1,.int .i64 z.2]) (fun z=>[]):=⟨fun Q Q' h hQ=>by
 refine a2m g75 [] [] [.c 2 (some 11),.t 3] Tryz.func15 fun M=>?_
 unfold F_7 at h
 unfold g75
 replace h:=tY h
 refine tB ?_
 repeat' (first
 | (exact tZ)
 | ((first|refine b5l h ?_|refine a5u h ?_|refine b5p h ?_|refine b5o h ?_|refine b5u h ?_|refine appG h ?_|refine b5w h ?_|refine fork h ?_ ?_|refine a5w h ?_ ?_)<;>clear h<;>intro hc h)
 | (intro b;(try refine tB ?_))
 | (obtain ⟨y,hy,h⟩:=h;(first|with_reducible first|have hw:=g98 hy|have hw:=g96 hy|have hw:=g95 hy|have hw:=WI.w hy);replace hw:=tY hw;(first|refine M.sC hw ?_|refine M.sD hw ?_);clear hw hy;refine tB ?_)
 | (refine M.gv1 (ms:=d7w) 59 [57,58] h ?_ ?_<;>first
 | (clear h;intro K hK1;unfold d7w;refine tB ?_)
 | (clear h;intro b h;replace h:=tY h;refine tB ?_))
 | (refine M.mfold1 (b:=d91) (kv:=(kvV (V.int .i64) (V.adr b))) 39 [0,2,4,5,6,11,39] [2] (fun x=>[(8,.bool x.1)]) (fun x=>[.o 5 (.cells [.int .u64 x.2.Fingerprint,.int .i64 x.2.Spots,.bool x.2.Public,.int .i64 x.2.Readers,.int .i64 x.2.Since,.int .i64 x.2.Severity.Level,.int .i64 x.2.Severity.Worth,.int .i64 x.2.Severity.Audience,.int .i64 x.2.Severity.Score,.bool x.2.Rotated,.bool x.2.Dead])]) [] h ?_ ?_<;>first
 | (clear h;intro rem cur x k Qn K hK2 hs2 hn2;unfold e3h at hn2;unfold d91;refine tB ?_)
 | (clear h;(try refine tB ?_);exact tU0;done))
 | (refine c7t hs2 hn2 ?_ ?_<;>first
  |(intro h;rw [M.lok_eq];replace h:=tY h;refine tB ?_)
  |(intro i a h;rw [M.lok_eq];obtain ⟨ak,ao⟩:=a;rcases ao with _|_|_|_|_|_|_|_|_|_|_|_|ao<;>replace h:=tY h<;>first|exact False.elim h|(exfalso;simp [Nat.beq,b5d] at h;done)|refine tB ?_))
 | (refine hK1 _ ?_;exact tU;done)
 | (apply hK2;(try refine tB ?_);refine ⟨_,h,?_⟩;exact tU0;done)
 | (refine e0g (fun hc=>?_) (fun hc=>?_))
 | (refine tE ?_;(first|rw [M.lok_compU]|rw [M.lokD_compU]);refine tB ?_)
 | (refine tA ?_)
 | fail)⟩
def f7u (m_:o9):Option Bool :=
 grp ((m_.Rotated&&m_.Dead)) fun b2=>some b2
instance h26 {m_:o9}:WJ (f7u m_) 17 [o9.v m_] .bool:=wX Tryz.func17 [(1,⟨[],[],[.v 3 5]⟩)] (h:=fun _ _ h hQ M=>by unfold f7u at h;exact tX)
def f7t (c_:u7):Option Bool :=
 grp ((decide (c_.Pool<0)||decide (7<c_.Pool))) fun b2=>some b2
instance h25 {c_:u7}:WJ (f7t c_) 172 [u7.v c_] .bool:=wX Tryz.func172 [(1,⟨[],[],[.v 4 7]⟩)] (h:=fun _ _ h hQ M=>by unfold f7t at h;exact tX)
@[go_sem] def g4h (k31:Int) (a32:u7) (x30:Unit):Option (Fl Unit Int) :=
 (f7t a32).bind fun y40=>bif y40 then some (.ex k31) else some (.nx ())
def f7s (s_:List u7):Option Int :=
 (forL g4h s_ 0 ()).bind fun o=>o.elim (fun x41=>some (-1)) (fun r42=>some r42)
@[irreducible] def e6r:MC:=rdc (cK Tryz.prog Tryz.f234 [] [] 2)
instance:LI e6r 8 7 [0,1,7] [] (fun y:Unit=>[]) (fun y=>[]) []:=⟨⟩
instance h24 {s_:List u7}:WJ (f7s s_) 234 [.sl (s_.map u7.v),.fn (.func 172) []] (.int .i64):=wX Tryz.func234 [] [(2,e6r)] (h:=fun _ _ h hQ M=>by unfold f7s at h;exact tX)
def f3m (s_:List u7):Option Bool :=
 (f7s s_).bind fun y2=>some (decide (0≤y2))
instance h3f {s_:List u7}:WJ (f3m s_) 173 [.sl (s_.map u7.v),.fn (.func 172) []] .bool:=wX Tryz.func173 (h:=fun _ _ h hQ M=>by unfold f3m at h;exact tX)
def f3l (f_:w9):Option Int :=
 grp (((!decide (f_.Slots=1))&&(!decide (f_.Slots=2)))) fun b13=>grp ((b13||decide ((f_.Consumers.length:Int)<1))) fun b14=>grp ((b14||decide (8<(f_.Consumers.length:Int)))) fun b15=>bif b15 then some 36 else (f3m f_.Consumers).bind fun y16=>bif y16 then some 36 else some 0
instance h3e {f_:w9}:WJ (f3l f_) 89 [w9.v f_] (.int .i64):=wX Tryz.func89 [(2,⟨[],[],[.v 4 7,.v 9 13,.v 15 19]⟩)] (h:=fun _ _ h hQ M=>by unfold f3l at h;exact tX)
def d5s (x_:Int) (qH:Int) (kM:Bool):Option Bool :=
 grp ((decide (0<x_)&&decide (x_≤3))) fun b4=>jn (α:=Bool) (bif b4 then some (decide ((bits .andNot .i64 x_ qH)=0)) else some false) fun j5=>grp ((j5&&(kM||(!decide (x_=3))))) fun b6=>some b6
instance f6n {m:List MOp}:GI (gjt 900107 m) [0,2,6] [] (fun y:Bool=>[(18,.bool y)]) (fun y=>[]):=⟨⟩
instance h5q {x_ qH:Int} {kM:Bool}:WJ (d5s x_ qH kM) 90 [.int .i64 x_,.int .i64 qH,.bool kM] .bool:=wX Tryz.func90 [(1,⟨[],[],[.v 3 5,.w 7 11 900107,.v 13 18]⟩)] (h:=fun _ _ h hQ M=>by unfold d5s at h;exact tX)
def f3k (c_:u7) (u_:a1b) (qH:Int):Option Bool :=
 (d5s u_.Stored qH c_.Dual).bind fun y4=>bif (!y4) then some false else bif (!u_.Up) then some (decide (u_.Used=0)) else (d5s u_.Used qH c_.Dual).bind fun y7=>grp ((y7&&((!c_.Live)||decide (u_.Used=u_.Stored)))) fun b8=>some b8
instance h3d {c_:u7} {u_:a1b} {qH:Int}:WJ (f3k c_ u_ qH) 91 [u7.v c_,a1b.v u_,.int .i64 qH] .bool:=wX Tryz.func91 [(3,⟨[.gc [2,3,4,27,28,29,30,31,32,33,34,35,36]],[],[]⟩),(5,⟨[],[],[.v 7 17]⟩)] (h:=fun _ _ h hQ M=>by unfold f3k at h;exact tX)
@[go_sem] def g5v (f_:w9) (s_:o5) (k52:Int) (a53:a1b) (x51:Unit):Option (Fl Unit Bool) :=
 chk (inb k52 f_.Consumers.length) ((f3k (f_.Consumers.getD (k52).toNat default) a53 s_.Known).bind fun y61=>bif (!y61) then some (.ex false) else some (.nx ()))
def e3m (f_:w9) (s_:o5):Option Bool :=
 jn (α:=Fl Unit Bool) ((f3l f_).bind fun y17=>grp (((!decide (y17=0))||((!decide (s_.Known=1))&&(!decide (s_.Known=3))))) fun b18=>bif b18 then grp (true) fun b19=>bif b19 then some (.ex false) else some (.nx ()) else (d5s s_.Valid s_.Known (decide (f_.Slots=2))).bind fun y20=>grp (((!y20)||(!decide ((s_.Units.length:Int)=(f_.Consumers.length:Int))))) fun b21=>bif b21 then some (.ex false) else some (.nx ())) fun o=>o.elim (fun j11=>(forL (g5v f_ s_) s_.Units 0 ()).bind fun o=>o.elim (fun x62=>some true) (fun r63=>some r63)) (fun r64=>some r64)
def g33:List (Nat×RN):=[(1,⟨[],[],[.v 4 12,.v 25 32]⟩)]
@[irreducible] def d8k:MC:=rdc (cK Tryz.prog Tryz.f42 g33 [] 4)
@[irreducible] def e5t:MC:=rdc (cK Tryz.prog Tryz.f42 g33 [(4,d8k)] 10000003)
instance:LI d8k 43 42 [2,3,41,42] [3,2] (fun y:Unit=>[]) (fun y=>[]) []:=⟨⟩
instance:LI e5t 0 0 [2,3] [3,2] (fun y:Unit=>[]) (fun y=>[]) []:=⟨⟩
instance h76 {f_:w9} {s_:o5}:WJ (e3m f_ s_) 42 [w9.v f_,o5.v s_] .bool:=wX Tryz.func42 g33 [(4,d8k),(10000003,e5t)] (h:=fun _ _ h hQ M=>by unfold e3m at h;exact tX)
def e1b (n_:Int) (qD:Int) (jC:Int):Option Bool :=
 grp ((decide (qD≤n_)&&decide (n_≤jC))) fun b2=>some b2
instance h55 {n_ qD jC:Int}:WJ (e1b n_ qD jC) 93 [.int .i64 n_,.int .i64 qD,.int .i64 jC] .bool:=wX Tryz.func93 [(1,⟨[],[],[.v 4 7]⟩)] (h:=fun _ _ h hQ M=>by unfold e1b at h;exact tX)
def f7r (jJ:Int):Option Bool :=
 (e1b jJ 0 3).bind fun y2=>some (!y2)
instance h1y {jJ:Int}:WJ (f7r jJ) 94 [.int .i64 jJ] .bool:=wX Tryz.func94 (h:=fun _ _ h hQ M=>by unfold f7r at h;exact tX)
@[go_sem] def g4g (k31:Int) (a32:Int) (x30:Unit):Option (Fl Unit Int) :=
 (f7r a32).bind fun y40=>bif y40 then some (.ex k31) else some (.nx ())
def f7q (s_:List Int):Option Int :=
 (forL g4g s_ 0 ()).bind fun o=>o.elim (fun x41=>some (-1)) (fun r42=>some r42)
@[irreducible] def e6q:MC:=rdc (cK Tryz.prog Tryz.f169 [] [] 2)
instance:LI e6q 8 7 [0,1,7] [] (fun y:Unit=>[]) (fun y=>[]) []:=⟨⟩
instance h1w {s_:List Int}:WJ (f7q s_) 169 [.sl (s_.map (V.int .i64)),.fn (.func 94) []] (.int .i64):=wX Tryz.func169 [] [(2,e6q)] (h:=fun _ _ h hQ M=>by unfold f7q at h;exact tX)
def e2u (s_:List Int):Option Bool :=
 (f7q s_).bind fun y2=>some (decide (0≤y2))
instance h4h {s_:List Int}:WJ (e2u s_) 85 [.sl (s_.map (V.int .i64)),.fn (.func 94) []] .bool:=wX Tryz.func85 (h:=fun _ _ h hQ M=>by unfold e2u at h;exact tX)
def e2t (g_:Int) (p_:o6):Option Bool :=
 chk (a0w ((p_.Sets.length:Int) - 1)) ((e1b g_ 0 ((p_.Sets.length:Int) - 1)).bind fun y2=>some (!y2))
instance h4g {g_:Int} {p_:o6}:WI (e2t g_ p_) Tryz.prog 92 [.int .i64 g_,.ptr 1000 0] [(1000,.cells [.bool p_.Fence,.sl (p_.Sets.map (V.int .i64)),.sl (p_.Replicas.map q9.v),.sl (p_.Snapshots.map (V.int .i64))])] (fun z=>.bool z) (fun z=>[(1000,.cells [.bool p_.Fence,.sl (p_.Sets.map (V.int .i64)),.sl (p_.Replicas.map q9.v),.sl (p_.Snapshots.map (V.int .i64))])]):=wX Tryz.func92 [] [] [] [1000] (h:=fun _ _ h hQ M=>by unfold e2t at h;exact tX)
@[go_sem] def g4f (jB:o6) (k31:Int) (a32:Int) (x30:Unit):Option (Fl Unit Int) :=
 (e2t a32 jB).bind fun y40=>bif y40 then some (.ex k31) else some (.nx ())
def f9l (s_:List Int) (jB:o6):Option Int :=
 (forL (g4f jB) s_ 0 ()).bind fun o=>o.elim (fun x41=>some (-1)) (fun r42=>some r42)
def g7v:List (Nat×RN):=[(4,⟨[],[.c 5 0 [1000] []],[]⟩)]
@[irreducible] def e6p:MC:=rdc (cK Tryz.prog Tryz.f169 g7v [] 2)
instance:LI e6p 8 7 [0,1,7] [1000] (fun y:Unit=>[]) (fun y=>[]) []:=⟨⟩
instance h54 {s_:List Int} {jB:o6}:WI (f9l s_ jB) Tryz.prog 169 [.sl (s_.map (V.int .i64)),.fn (.func 92) [.ptr 1000 0]] [(1000,.cells [.bool jB.Fence,.sl (jB.Sets.map (V.int .i64)),.sl (jB.Replicas.map q9.v),.sl (jB.Snapshots.map (V.int .i64))])] (fun z=>.int .i64 z) (fun z=>[(1000,.cells [.bool jB.Fence,.sl (jB.Sets.map (V.int .i64)),.sl (jB.Replicas.map q9.v),.sl (jB.Snapshots.map (V.int .i64))])]):=wX Tryz.func169 g7v [(2,e6p)] [] [1000] (h:=fun _ _ h hQ M=>by unfold f9l at h;exact tX)
def e2s (s_:List Int) (jB:o6):Option Bool :=
 (f9l s_ jB).bind fun y2=>some (decide (0≤y2))
instance h4f {s_:List Int} {jB:o6}:WI (e2s s_ jB) Tryz.prog 85 [.sl (s_.map (V.int .i64)),.fn (.func 92) [.ptr 1000 0]] [(1000,.cells [.bool jB.Fence,.sl (jB.Sets.map (V.int .i64)),.sl (jB.Replicas.map q9.v),.sl (jB.Snapshots.map (V.int .i64))])] (fun z=>.bool z) (fun z=>[(1000,.cells [.bool jB.Fence,.sl (jB.Sets.map (V.int .i64)),.sl (jB.Replicas.map q9.v),.sl (jB.Snapshots.map (V.int .i64))])]):=wX Tryz.func85 [(1,⟨[],[.c 2 0 [1000] []],[]⟩)] [] [] [1000] (h:=fun _ _ h hQ M=>by unfold e2s at h;exact tX)
def f7p (r_:q9) (qI:o6):Option Bool :=
 (e2t r_.Generation qI).bind fun y2=>some y2
instance h1u {r_:q9} {qI:o6}:WI (f7p r_ qI) Tryz.prog 96 [q9.v r_,.ptr 1000 0] [(1000,.cells [.fn (.func 92) [.ptr 1001 0]]),(1001,.cells [.bool qI.Fence,.sl (qI.Sets.map (V.int .i64)),.sl (qI.Replicas.map q9.v),.sl (qI.Snapshots.map (V.int .i64))])] (fun z=>.bool z) (fun z=>[(1000,.cells [.fn (.func 92) [.ptr 1001 0]]),(1001,.cells [.bool qI.Fence,.sl (qI.Sets.map (V.int .i64)),.sl (qI.Replicas.map q9.v),.sl (qI.Snapshots.map (V.int .i64))])]):=wX Tryz.func96 [(1,⟨[],[.c 3 0 [1001] []],[]⟩)] [] [] [1000,1001] (h:=fun _ _ h hQ M=>by have:SwA [(1000,1001)]:=⟨⟩;unfold f7p at h;exact tX)
@[go_sem] def g4e (gB:o6) (k31:Int) (a32:q9) (x30:Unit):Option (Fl Unit Int) :=
 (f7p a32 gB).bind fun y40=>bif y40 then some (.ex k31) else some (.nx ())
def f9k (s_:List q9) (gB:o6):Option Int :=
 (forL (g4e gB) s_ 0 ()).bind fun o=>o.elim (fun x41=>some (-1)) (fun r42=>some r42)
def g7u:List (Nat×RN):=[(4,⟨[],[.c 5 0 [1000,1001] []],[]⟩)]
@[irreducible] def e6o:MC:=rdc (cK Tryz.prog Tryz.f174 g7u [] 2)
instance:LI e6o 8 7 [0,1,7] [1000,1001] (fun y:Unit=>[]) (fun y=>[]) []:=⟨⟩
instance h53 {s_:List q9} {gB:o6}:WI (f9k s_ gB) Tryz.prog 174 [.sl (s_.map q9.v),.fn (.func 96) [.ptr 1000 0]] [(1000,.cells [.fn (.func 92) [.ptr 1001 0]]),(1001,.cells [.bool gB.Fence,.sl (gB.Sets.map (V.int .i64)),.sl (gB.Replicas.map q9.v),.sl (gB.Snapshots.map (V.int .i64))])] (fun z=>.int .i64 z) (fun z=>[(1000,.cells [.fn (.func 92) [.ptr 1001 0]]),(1001,.cells [.bool gB.Fence,.sl (gB.Sets.map (V.int .i64)),.sl (gB.Replicas.map q9.v),.sl (gB.Snapshots.map (V.int .i64))])]):=wX Tryz.func174 g7u [(2,e6o)] [] [1000,1001] (h:=fun _ _ h hQ M=>by unfold f9k at h;exact tX)
def e2r (s_:List q9) (gB:o6):Option Bool :=
 (f9k s_ gB).bind fun y2=>some (decide (0≤y2))
instance h4e {s_:List q9} {gB:o6}:WI (e2r s_ gB) Tryz.prog 95 [.sl (s_.map q9.v),.fn (.func 96) [.ptr 1000 0]] [(1000,.cells [.fn (.func 92) [.ptr 1001 0]]),(1001,.cells [.bool gB.Fence,.sl (gB.Sets.map (V.int .i64)),.sl (gB.Replicas.map q9.v),.sl (gB.Snapshots.map (V.int .i64))])] (fun z=>.bool z) (fun z=>[(1000,.cells [.fn (.func 92) [.ptr 1001 0]]),(1001,.cells [.bool gB.Fence,.sl (gB.Sets.map (V.int .i64)),.sl (gB.Replicas.map q9.v),.sl (gB.Snapshots.map (V.int .i64))])]):=wX Tryz.func95 [(1,⟨[],[.c 2 0 [1000,1001] []],[]⟩)] [] [] [1000,1001] (h:=fun _ _ h hQ M=>by unfold e2r at h;exact tX)
def e2q (c_:o6):Option Int :=
 (e1b (c_.Replicas.length:Int) 1 5).bind fun y25=>bif (!y25) then grp (true) fun b26=>bif b26 then some 39 else (e2u c_.Sets).bind fun y29=>bif y29 then some 39 else (e2s c_.Snapshots c_).bind fun y30=>bif y30 then some 39 else (e2r c_.Replicas c_).bind fun y32=>bif y32 then some 39 else some 0 else (e1b (c_.Sets.length:Int) 1 121).bind fun y33=>grp (((!y33)||decide (120<(c_.Snapshots.length:Int)))) fun b34=>bif b34 then some 39 else (e2u c_.Sets).bind fun y37=>bif y37 then some 39 else (e2s c_.Snapshots c_).bind fun y38=>bif y38 then some 39 else (e2r c_.Replicas c_).bind fun y40=>bif y40 then some 39 else some 0
instance h4d {c_:o6}:WJ (e2q c_) 43 [o6.v c_] (.int .i64):=wX Tryz.func43 [(2,⟨[],[],[.v 13 17]⟩),(4,⟨[.gc [1,3,29,30,31,32]],[.c 7 0 [1] []],[]⟩),(6,⟨[.gc [1,3]],[.c 3 0 [3,1] []],[]⟩)] (h:=fun _ _ h hQ M=>by have:SwA [(1000,1)]:=⟨⟩;have:SwB [(1000,3),(1001,1)]:=⟨⟩;unfold e2q at h;exact tX)
def g3v (u_:a1b) (p_:a1b):Option Bool :=
 some (!((u_.Up==p_.Up)&&(decide (u_.Stored=p_.Stored)&&decide (u_.Used=p_.Used))))
instance h0y {u_ p_:a1b}:WI (g3v u_ p_) Tryz.prog 98 [a1b.v u_,.ptr 1000 0] [(1000,.cells [.bool p_.Up,.int .i64 p_.Stored,.int .i64 p_.Used])] (fun z=>.bool z) (fun z=>[(1000,.cells [.bool p_.Up,.int .i64 p_.Stored,.int .i64 p_.Used])]):=wX Tryz.func98 [] [] [] [1000] (h:=fun _ _ h hQ M=>by unfold g3v at h;exact tX)
@[go_sem] def g9i (jB:a1b) (k31:Int) (a32:a1b) (x30:Unit):Option (Fl Unit Int) :=
 (g3v a32 jB).bind fun y40=>bif y40 then some (.ex k31) else some (.nx ())
def f9j (s_:List a1b) (jB:a1b):Option Int :=
 (forL (g9i jB) s_ 0 ()).bind fun o=>o.elim (fun x41=>some (-1)) (fun r42=>some r42)
def g7t:List (Nat×RN):=[(4,⟨[],[.c 5 0 [1000] []],[]⟩)]
@[irreducible] def e6c:MC:=rdc (cK Tryz.prog Tryz.f175 g7t [] 2)
instance:LI e6c 8 7 [0,1,7] [1000] (fun y:Unit=>[]) (fun y=>[]) []:=⟨⟩
instance h52 {s_:List a1b} {jB:a1b}:WI (f9j s_ jB) Tryz.prog 175 [.sl (s_.map a1b.v),.fn (.func 98) [.ptr 1000 0]] [(1000,.cells [.bool jB.Up,.int .i64 jB.Stored,.int .i64 jB.Used])] (fun z=>.int .i64 z) (fun z=>[(1000,.cells [.bool jB.Up,.int .i64 jB.Stored,.int .i64 jB.Used])]):=wX Tryz.func175 g7t [(2,e6c)] [] [1000] (h:=fun _ _ h hQ M=>by unfold f9j at h;exact tX)
def f3j (s_:List a1b) (jB:a1b):Option Bool :=
 (f9j s_ jB).bind fun y2=>some (decide (0≤y2))
instance h3c {s_:List a1b} {jB:a1b}:WI (f3j s_ jB) Tryz.prog 97 [.sl (s_.map a1b.v),.fn (.func 98) [.ptr 1000 0]] [(1000,.cells [.bool jB.Up,.int .i64 jB.Stored,.int .i64 jB.Used])] (fun z=>.bool z) (fun z=>[(1000,.cells [.bool jB.Up,.int .i64 jB.Stored,.int .i64 jB.Used])]):=wX Tryz.func97 [(1,⟨[],[.c 2 0 [1000] []],[]⟩)] [] [] [1000] (h:=fun _ _ h hQ M=>by unfold f3j at h;exact tX)
def f3i (f_:w9) (s_:o5):Option Bool :=
 (e3m f_ s_).bind fun y5=>grp ((y5&&decide (s_.Valid=2))) fun b6=>jn (α:=Bool) (bif b6 then (f3j s_.Units (a1b.mk true 2 2)).bind fun y8=>some (!y8) else some false) fun j9=>some j9
instance f6w {m:List MOp}:GI (gjt 440209 m) [4] [] (fun y:Bool=>[(21,.bool y)]) (fun y=>[]):=⟨⟩
instance h3b {f_:w9} {s_:o5}:WJ (f3i f_ s_) 44 [w9.v f_,o5.v s_] .bool:=wX Tryz.func44 [(2,⟨[],[.c 12 0 [5] []],[.v 4 7,.w 9 14 440209]⟩)] (h:=fun _ _ h hQ M=>by have:SwA [(1000,5)]:=⟨⟩;unfold f3i at h;exact tX)
def f7o (kE:Int):Option Bool :=
 grp ((decide (kE=1)||decide (kE=2))) fun b2=>some b2
instance h1t {kE:Int}:WJ (f7o kE) 99 [.int .i64 kE] .bool:=wX Tryz.func99 [(1,⟨[],[],[.v 3 5]⟩)] (h:=fun _ _ h hQ M=>by unfold f7o at h;exact tX)
def e2p (c_:o6) (qG:Int) (kE:Int):Option Bool :=
 chk (inb qG c_.Sets.length) (some (!decide ((bits .and .i64 (c_.Sets.getD (qG).toNat default) kE)=0)))
instance h4c {c_:o6} {qG kE:Int}:WJ (e2p c_ qG kE) 100 [o6.v c_,.int .i64 qG,.int .i64 kE] .bool:=wX Tryz.func100 (h:=fun _ _ h hQ M=>by unfold e2p at h;exact tX)
def f7n (c_:o6) (r_:q9) (kE:Int):Option Bool :=
 jn (α:=Bool) (bif r_.Serving then (e2p c_ r_.Generation kE).bind fun y4=>some y4 else some false) fun j5=>some j5
instance e9y {m:List MOp}:GI (gjt 1770103 m) [6] [] (fun y:Bool=>[(15,.bool y)]) (fun y=>[]):=⟨⟩
instance h1s {c_:o6} {r_:q9} {kE:Int}:WJ (f7n c_ r_ kE) 177 [o6.v c_,q9.v r_,.int .i64 kE] .bool:=wX Tryz.func177 [(1,⟨[],[],[.w 3 8 1770103]⟩)] (h:=fun _ _ h hQ M=>by unfold f7n at h;exact tX)
def f7m (r_:q9) (p_:o6) (p__:Int):Option Bool :=
 (f7n p_ r_ p__).bind fun y2=>some y2
instance h1r {r_:q9} {p_:o6} {p__:Int}:WI (f7m r_ p_ p__) Tryz.prog 176 [q9.v r_,.ptr 1000 0,.ptr 1001 0] [(1000,.cells [.bool p_.Fence,.sl (p_.Sets.map (V.int .i64)),.sl (p_.Replicas.map q9.v),.sl (p_.Snapshots.map (V.int .i64))]),(1001,.cells [.int .i64 p__])] (fun z=>.bool z) (fun z=>[(1000,.cells [.bool p_.Fence,.sl (p_.Sets.map (V.int .i64)),.sl (p_.Replicas.map q9.v),.sl (p_.Snapshots.map (V.int .i64))]),(1001,.cells [.int .i64 p__])]):=wX Tryz.func176 [] [] [] [1000,1001] (h:=fun _ _ h hQ M=>by unfold f7m at h;exact tX)
@[go_sem] def g4d (jB:o6) (tJ:Int) (k31:Int) (a32:q9) (x30:Unit):Option (Fl Unit Int) :=
 (f7m a32 jB tJ).bind fun y40=>bif y40 then some (.ex k31) else some (.nx ())
def f9i (s_:List q9) (jB:o6) (tJ:Int):Option Int :=
 (forL (g4d jB tJ) s_ 0 ()).bind fun o=>o.elim (fun x41=>some (-1)) (fun r42=>some r42)
def g7s:List (Nat×RN):=[(4,⟨[],[.c 5 0 [1000,1001] []],[]⟩)]
@[irreducible] def e6n:MC:=rdc (cK Tryz.prog Tryz.f174 g7s [] 2)
instance:LI e6n 8 7 [0,1,7] [1001,1000] (fun y:Unit=>[]) (fun y=>[]) []:=⟨⟩
instance h51 {s_:List q9} {jB:o6} {tJ:Int}:WI (f9i s_ jB tJ) Tryz.prog 174 [.sl (s_.map q9.v),.fn (.func 176) [.ptr 1000 0,.ptr 1001 0]] [(1000,.cells [.bool jB.Fence,.sl (jB.Sets.map (V.int .i64)),.sl (jB.Replicas.map q9.v),.sl (jB.Snapshots.map (V.int .i64))]),(1001,.cells [.int .i64 tJ])] (fun z=>.int .i64 z) (fun z=>[(1000,.cells [.bool jB.Fence,.sl (jB.Sets.map (V.int .i64)),.sl (jB.Replicas.map q9.v),.sl (jB.Snapshots.map (V.int .i64))]),(1001,.cells [.int .i64 tJ])]):=wX Tryz.func174 g7s [(2,e6n)] [] [1000,1001] (h:=fun _ _ h hQ M=>by unfold f9i at h;exact tX)
def f7l (s_:List q9) (jB:o6) (tJ:Int):Option Bool :=
 (f9i s_ jB tJ).bind fun y2=>some (decide (0≤y2))
instance h1q {s_:List q9} {jB:o6} {tJ:Int}:WI (f7l s_ jB tJ) Tryz.prog 95 [.sl (s_.map q9.v),.fn (.func 176) [.ptr 1000 0,.ptr 1001 0]] [(1000,.cells [.bool jB.Fence,.sl (jB.Sets.map (V.int .i64)),.sl (jB.Replicas.map q9.v),.sl (jB.Snapshots.map (V.int .i64))]),(1001,.cells [.int .i64 tJ])] (fun z=>.bool z) (fun z=>[(1000,.cells [.bool jB.Fence,.sl (jB.Sets.map (V.int .i64)),.sl (jB.Replicas.map q9.v),.sl (jB.Snapshots.map (V.int .i64))]),(1001,.cells [.int .i64 tJ])]):=wX Tryz.func95 [(1,⟨[],[.c 2 0 [1000,1001] []],[]⟩)] [] [] [1000,1001] (h:=fun _ _ h hQ M=>by unfold f7l at h;exact tX)
def f3h (c_:o6) (kE:Int):Option Bool :=
 (f7l c_.Replicas c_ kE).bind fun y2=>some y2
instance h3a {c_:o6} {kE:Int}:WJ (f3h c_ kE) 101 [o6.v c_,.int .i64 kE] .bool:=wX Tryz.func101 [(1,⟨[],[.c 3 0 [2,3] []],[]⟩)] (h:=fun _ _ h hQ M=>by have:SwA [(1000,2),(1001,3)]:=⟨⟩;unfold f3h at h;exact tX)
def f3g (c_:o6) (kE:Int):Option Bool :=
 (e2q c_).bind fun y8=>jn (α:=Bool) (bif decide (y8=0) then (f7o kE).bind fun y10=>some y10 else some false) fun j11=>jn (α:=Bool) (bif j11 then chk (a0w ((c_.Sets.length:Int) - 1)) ((e2p c_ ((c_.Sets.length:Int) - 1) kE).bind fun y13=>some (!y13)) else some false) fun j14=>jn (α:=Bool) (bif j14 then (f3h c_ kE).bind fun y16=>some (!y16) else some false) fun j17=>some j17
instance f6t {m:List MOp}:GI (gjt 450118 m) [4] [] (fun y:Bool=>[(27,.bool y)]) (fun y=>[]):=⟨⟩
instance f6u {m:List MOp}:GI (gjt 450108 m) [1,2,4] [2] (fun y:Bool=>[(21,.bool y)]) (fun y=>[]):=⟨⟩
instance f6v {m:List MOp}:GI (gjt 450104 m) [1,2,4] [2] (fun y:Bool=>[(11,.bool y)]) (fun y=>[]):=⟨⟩
instance h39 {c_:o6} {kE:Int}:WJ (f3g c_ kE) 45 [o6.v c_,.int .i64 kE] .bool:=wX Tryz.func45 [(1,⟨[],[],[.w 4 6 450104,.w 8 16 450108,.w 18 22 450118]⟩)] (h:=fun _ _ h hQ M=>by unfold f3g at h;exact tX)
@[go_sem] def g4c (x43:Int×Int×(List u7)×x8):Option (Fl (Int×Int×(List u7)×x8) (Int×(List u7)×x8)) :=
 bif decide (0<x43.1) then (F_0 x43.2.2.2 2).bind fun y53=>(F_0 y53.2 2).bind fun y54=>(F_0 y54.2 2).bind fun y55=>chk (room (x43.2.2.1.length+[(u7.mk y53.1 (decide (y54.1=1)) (decide (y55.1=1)))].length) 16) (chk (a0w (x43.1 - 1)) (some (.nx ((x43.1 - 1),x43.2.1,(x43.2.2.1++[(u7.mk y53.1 (decide (y54.1=1)) (decide (y55.1=1)))]),y55.2)))) else some (.ex (x43.2.1,x43.2.2.1,x43.2.2.2))
def f5m (t_:x8) (qJ:Int):Option (w9×x8) :=
 (F_4 t_ 1 2).bind fun y2=>(F_4 y2.2 1 qJ).bind fun y28=>(loop g4c (y28.1,y2.1,[],y28.2)).bind fun r56=>some ((w9.mk r56.1 r56.2.1),r56.2.2)
def g8m:List (Nat×RN):=[(1,⟨[],[.c 1 0 [1000] [],.k 2 1],[]⟩),(2,⟨[],[.c 2 0 [1000] []],[]⟩),(4,⟨[.gc [0,4,5,6]],[],[]⟩),(5,⟨[],[.c 3 0 [1000] [],.c 5 0 [1000] [],.c 8 0 [1000] []],[]⟩)]
@[irreducible] def e6m:MC:=rdc (cK Tryz.prog Tryz.f32 g8m [] 3)
instance:LI e6m 0 0 [0,4,5] [4] (fun y:Int×Int×(List u7)×x8=>[(6,.int .i64 y.1)]) (fun y=>[.o 5 (.cells [.int .i64 y.2.1,.osl 4081 3 0 y.2.2.1.length]),.o 4081 (.arr 3 (y.2.2.1.map u7.v)),.o 1000 (.cells [.sl (y.2.2.2.L.map (V.int .i64)),.int .i64 y.2.2.2.at_])]) [.gc [0,4,5,6],.ownC 5 1 4081 3 none]:=⟨⟩
instance g3f {t_:x8} {qJ:Int}:WI (f5m t_ qJ) Tryz.prog 32 [.ptr 1000 0,.int .i64 qJ] [(1000,.cells [.sl (t_.L.map (V.int .i64)),.int .i64 t_.at_])] (fun z=>.agg [.int .i64 z.1.Slots,.osl 1501 3 0 z.1.Consumers.length]) (fun z=>[(1000,.cells [.sl (z.2.L.map (V.int .i64)),.int .i64 z.2.at_]),(1501,.arr 3 (z.1.Consumers.map u7.v))]):=wX Tryz.func32 g8m [(3,e6m)] [.ownC 4 1 1501 3 none] [1000,1501] (h:=fun _ _ h hQ M=>by unfold f5m at h;exact tX)
def g6g (y2:w9×x8) (k46:Int) (a47:u7) (x45:List u7):Option (List u7) :=
 chk (inb k46 x45.length) ((F_m (w9.mk y2.1.Slots x45) ((x45.getD ((k46).toNat) default).Pool)).bind fun y55=>bif decide ((y55.length:Int)=1) then chk (inb k46 x45.length) (chk (inb k46 (x45.set ((k46).toNat) (u7.mk ((x45.getD ((k46).toNat) default).Pool) ((x45.getD ((k46).toNat) default).Dual) true)).length) (bif (x45.getD ((k46).toNat) default).Dual then chk (inb k46 (x45.set ((k46).toNat) (u7.mk ((x45.getD ((k46).toNat) default).Pool) ((x45.getD ((k46).toNat) default).Dual) true)).length) (some (x45.set ((k46).toNat) (u7.mk ((x45.getD ((k46).toNat) default).Pool) true true))) else chk (inb k46 (x45.set ((k46).toNat) (u7.mk ((x45.getD ((k46).toNat) default).Pool) ((x45.getD ((k46).toNat) default).Dual) true)).length) (some (x45.set ((k46).toNat) (u7.mk ((x45.getD ((k46).toNat) default).Pool) (decide (y2.1.Slots=1)) true))))) else some x45)
def f6c (t_:x8) (qJ:Int):Option (w9×x8) :=
 (f5m t_ qJ).bind fun y2=>(foldL (g6g y2) y2.1.Consumers 0 y2.1.Consumers).bind fun x56=>some ((w9.mk y2.1.Slots x56),y2.2)
def g8z:List (Nat×RN):=[(1,⟨[],[.c 2 0 [1000] [32561]],[]⟩),(5,⟨[],[.c 3 0 [32561] [22]],[]⟩),(6,⟨[.gc [4,5,6,12,13,14,40,41,42]],[],[]⟩)]
@[irreducible] def d2e:MC:=rdc (cK Tryz.prog Tryz.f11 g8z [] 3)
def e8u:MC:=rdc (cT Tryz.prog Tryz.f11 g8z [(3,d2e)])
theorem b0w {f_:w9} {kJ:Int} {y:List Int} (hy:F_m f_ kJ=some y):a0s Tryz.prog 33 [.agg [.int .i64 f_.Slots,.osl 1000 3 0 f_.Consumers.length],.int .i64 kJ] [(1000,.arr 3 (f_.Consumers.map u7.v))] (fun r H=>r=.osl 1900 1 0 y.length∧H=(1000,.arr 3 (f_.Consumers.map u7.v))::[(1900,.arr 1 (y.map (V.int .i64)))]):=by
 refine c60 (n:=1000) (k:=3) (args:=[.agg [.int .i64 f_.Slots,.osl 1000 3 0 f_.Consumers.length],.int .i64 kJ]) ?_ (by simp [V.sealOK,V.sealOKs]) (by simp [V.lf,V.lfL,a0t]) rfl (fun id o ho=>?_)
 ·have h:=h0s.c.w hy
  simpa [V.shut,V.sealL,d6c,w9.v] using h
 ·obtain rfl:=c8y ho
  exact ⟨_,_,_,rfl,by simp [V.cells,V.lf,V.lfL]⟩
instance h7m {t_:x8} {qJ:Int}:WI (f6c t_ qJ) Tryz.prog 11 [.ptr 1000 0,.int .i64 qJ] [(1000,.cells [.sl (t_.L.map (V.int .i64)),.int .i64 t_.at_])] (fun z=>w9.v z.1) (fun z=>[(1000,.cells [.sl (z.2.L.map (V.int .i64)),.int .i64 z.2.at_])]):=⟨fun Q Q' h hQ=>by
 refine a2m e8u [.fzc 4] [1000] [.c 4 (some 2)] Tryz.func11 fun M=>?_
 unfold f6c at h
 unfold e8u
 replace h:=tY h
 refine tB ?_
 repeat' (first
 | (exact tZ)
 | ((first|refine b5l h ?_|refine a5u h ?_|refine b5p h ?_|refine b5o h ?_|refine b5u h ?_|refine appG h ?_|refine b5w h ?_|refine fork h ?_ ?_|refine a5w h ?_ ?_)<;>clear h<;>intro hc h)
 | (obtain ⟨y,hy,h⟩:=h;(first|have hw:=a03 1501 32561 (g3f.c.w hy)|have hw:=a03 1900 22 (a03 1000 32561 (b0w hy)));replace hw:=tY hw;(first|refine M.sC hw ?_|refine M.sD hw ?_);clear hw hy;refine tB ?_)
 | (refine M.fold1 (b:=d2e) 14 [4,5,13] [5,4,1000] (fun x=>[(12,.osl 32561 3 0 x.length)]) (fun x=>[.o 32561 (.arr 3 (x.map u7.v)),.p 5 1 [.osl 32561 3 0 x.length]]) [] h ?_ ?_ ?_<;>first
 | (clear h;intro k a x Qn K hK1 hkN1 ha1 h hf;have hl:=a4o (a1m (n:=13) hf.1 rfl);clear hf;have hkd:=kD hkN1;have hkB1:=kB hkN1;have hkI1:=kI (k:=k) (by omega);unfold g6g at h;unfold d2e;replace h:=tY h;refine tK ha1 hkd hkN1 hkB1 hkI1 ?_)
  |(clear h;intro x K h;replace h:=And.left (And.intro h trivial);unfold d2e;replace h:=tY h;refine tB ?_)
  |(clear h;(try refine tB ?_);exact tU0;done))
 | (simp only [ha1])
 | (exact absurd (hc.symm.trans (by assumption:_=true)) xK)
 | (exact absurd (hc.symm.trans (by assumption:_=false)) xK.symm)
 | (refine hK1 _ ?_;(try refine tB ?_);refine ⟨_,h,?_⟩;exact tU0;done)
 | (refine tE ?_;(first|rw [M.lok_compU]|rw [M.lokD_compU]);refine tB ?_)
 | (refine ⟨_,g7h (by first|exact a2k (by assumption)|exact a9d (by assumption)|assumption) rfl,?_⟩;(first|rw [M.lok_compU]|rw [M.lokD_compU]);refine tB ?_)
 | (refine ⟨_,g7g (by first|exact a2k (by assumption)|exact a9d (by assumption)|assumption),?_⟩;(first|rw [M.lok_compU]|rw [M.lokD_compU]|(simp only [V.cells,xC,wU];first|rw [M.lok_comp]|rw [M.lokD_comp]));refine tB ?_)
 | (refine ⟨_,b4q (by first|exact a2k (by assumption)|exact a9d (by assumption)),?_⟩;(first|rw [M.lok_compU]|rw [M.lokD_compU]|(simp only [V.cells];first|rw [M.lok_comp]|rw [M.lokD_comp]));refine tB ?_)
 | (refine tA ?_)
 | fail)⟩
@[go_sem] def g4b (f_:w9) (x55:Int×o5×x8):Option (Fl (Int×o5×x8) (Sum (o5×x8) (o5×x8))) :=
 bif decide (0<x55.1) then (f5n f_ x55.2.1).bind fun y69=>bif decide ((y69.length:Int)=0) then some (.ex (.inr (x55.2.1,x55.2.2))) else (F_0 x55.2.2 (y69.length:Int)).bind fun y70=>chk (inb y70.1 y69.length) ((F_n f_ x55.2.1 (y69.getD (y70.1).toNat default)).bind fun y71=>chk (a0w (x55.1 - 1)) (some (.nx ((x55.1 - 1),y71.1,y70.2)))) else some (.ex (.inl (x55.2.1,x55.2.2)))
def f4s (t_:x8) (f_:w9):Option (o5×x8) :=
 (f4w f_).bind fun y2=>(F_0 t_ 16).bind fun y36=>(loop (g4b f_) (y36.1,y2.1,y36.2)).bind fun r72=>Sum.elim (fun u73=>some (u73.1,u73.2)) (fun u74=>some u74) r72
def g83:List (Nat×RN):=[(2,⟨[],[.c 1 0 [1000] []],[]⟩),(4,⟨[.gc [0,3,4,5,7]],[],[]⟩),(8,⟨[.gc [0,3,4,5,7,8]],[.c 6 0 [1000] []],[]⟩)]
@[irreducible] def e6l:MC:=rdc (cK Tryz.prog Tryz.f12 g83 [] 3)
instance:LI e6l 0 0 [0,3,4,5] [4,3] (fun y:Int×o5×x8=>[(7,.int .i64 y.1)]) (fun y=>[.o 5 (.cells [.int .i64 y.2.1.Known,.int .i64 y.2.1.Valid,.sl (y.2.1.Units.map a1b.v)]),.o 1000 (.cells [.sl (y.2.2.L.map (V.int .i64)),.int .i64 y.2.2.at_])]) []:=⟨⟩
instance h5p {t_:x8} {f_:w9}:WI (f4s t_ f_) Tryz.prog 12 [.ptr 1000 0,w9.v f_] [(1000,.cells [.sl (t_.L.map (V.int .i64)),.int .i64 t_.at_])] (fun z=>o5.v z.1) (fun z=>[(1000,.cells [.sl (z.2.L.map (V.int .i64)),.int .i64 z.2.at_])]):=wX Tryz.func12 g83 [(3,e6l)] [.fzc 4] [1000] (h:=fun _ _ h hQ M=>by unfold f4s at h;exact tX)
def f3f (t_:x8) (c_:o6):Option (a0e×x8) :=
 (F_4 t_ 1 4).bind fun y2=>bif decide (y2.1=1) then (d4t y2.2 [1,2,2,3,0]).bind fun y7=>some ((a0e.mk y2.1 0 0 y7.1),y7.2) else bif decide (y2.1=4) then (F_0 y2.2 (c_.Replicas.length:Int)).bind fun y8=>chk (a0w ((c_.Snapshots.length:Int)+1)) ((F_0 y8.2 ((c_.Snapshots.length:Int)+1)).bind fun y9=>some ((a0e.mk y2.1 y8.1 y9.1 0),y9.2)) else (F_0 y2.2 (c_.Replicas.length:Int)).bind fun y10=>some ((a0e.mk y2.1 y10.1 0 0),y10.2)
instance h38 {t_:x8} {c_:o6}:WI (f3f t_ c_) Tryz.prog 39 [.ptr 1000 0,o6.v c_] [(1000,.cells [.sl (t_.L.map (V.int .i64)),.int .i64 t_.at_])] (fun z=>a0e.v z.1) (fun z=>[(1000,.cells [.sl (z.2.L.map (V.int .i64)),.int .i64 z.2.at_])]):=wX Tryz.func39 [(1,⟨[],[.c 1 0 [1000] []],[]⟩),(3,⟨[.gc [0,3,4,5]],[.c 4 0 [1000] []],[]⟩),(5,⟨[.gc [0,4,5]],[.k 1 2,.c 2 0 [1000] []],[]⟩),(7,⟨[.gc [0,3,4,5]],[.c 4 0 [1000] [],.c 10 0 [1000] []],[]⟩)] [] [] [1000] (h:=fun _ _ h hQ M=>by unfold f3f at h;exact tX)
@[go_sem] def g4a (x44:Int×o6×x8):Option (Fl (Int×o6×x8) (o6×x8)) :=
 bif decide (0<x44.1) then jn (α:=o6×x8) ((f3f x44.2.2 x44.2.1).bind fun y57=>(f6f x44.2.1 y57.1).bind fun y58=>bif decide (y58.2=0) then some (y58.1,y57.2) else some (x44.2.1,y57.2)) fun j54=>chk (a0w (x44.1 - 1)) (some (.nx ((x44.1 - 1),j54.1,j54.2))) else some (.ex (x44.2.1,x44.2.2))
def f5l (t_:x8):Option (o6×x8) :=
 (F_4 t_ 1 3).bind fun y5=>(d4t y5.2 [1,1,3,2]).bind fun y6=>(F_0 y6.2 2).bind fun y7=>(f9m y5.1 y6.1 (decide (y7.1=1))).bind fun y8=>(F_0 y7.2 12).bind fun y31=>(loop g4a (y31.1,y8.1,y31.2)).bind fun r59=>some (r59.1,r59.2)
def g2r:List (Nat×RN):=[(1,⟨[],[.c 1 0 [1000] [],.k 3 2,.c 4 0 [1000] [],.c 6 0 [1000] []],[]⟩),(2,⟨[.gc [0,2,3]],[.c 1 0 [1000] []],[]⟩),(5,⟨[],[.c 3 0 [1000] []],[]⟩)]
@[irreducible] def d82:MC:=rdc (cK Tryz.prog Tryz.f13 g2r [] 10000004)
@[irreducible] def e6k:MC:=rdc (cK Tryz.prog Tryz.f13 g2r [(10000004,d82)] 3)
instance:LI d82 0 0 [0,2,3,5] [2] (fun y:o6×x8=>[]) (fun y=>[.o 3 (.cells [.bool y.1.Fence,.sl (y.1.Sets.map (V.int .i64)),.sl (y.1.Replicas.map q9.v),.sl (y.1.Snapshots.map (V.int .i64))]),.o 1000 (.cells [.sl (y.2.L.map (V.int .i64)),.int .i64 y.2.at_])]) []:=⟨⟩
instance:LI e6k 0 0 [0,2,3] [2] (fun y:Int×o6×x8=>[(5,.int .i64 y.1)]) (fun y=>[.o 3 (.cells [.bool y.2.1.Fence,.sl (y.2.1.Sets.map (V.int .i64)),.sl (y.2.1.Replicas.map q9.v),.sl (y.2.1.Snapshots.map (V.int .i64))]),.o 1000 (.cells [.sl (y.2.2.L.map (V.int .i64)),.int .i64 y.2.2.at_])]) []:=⟨⟩
instance h6l {t_:x8}:WI (f5l t_) Tryz.prog 13 [.ptr 1000 0] [(1000,.cells [.sl (t_.L.map (V.int .i64)),.int .i64 t_.at_])] (fun z=>o6.v z.1) (fun z=>[(1000,.cells [.sl (z.2.L.map (V.int .i64)),.int .i64 z.2.at_])]):=wX Tryz.func13 g2r [(10000004,d82),(3,e6k)] [.fzc 2] [1000] (h:=fun _ _ h hQ M=>by unfold f5l at h;exact tX)
@[go_sem] def f8t (k59:Int) (a60:a1b) (x58:Unit):Option (Fl Unit Bool) :=
 grp (((!a60.Up)||(!decide (a60.Stored=2)))) fun b75=>grp ((b75||(!decide (a60.Used=2)))) fun b76=>bif b76 then some (.ex false) else some (.nx ())
def f4r (f_:w9) (s_:o5):Option Bool :=
 (e1v f_ s_).bind fun y7=>grp (((!y7)||(!decide (s_.Valid=2)))) fun b8=>bif b8 then some false else (forL f8t s_.Units 0 ()).bind fun o=>o.elim (fun x77=>some true) (fun r78=>some r78)
def g82:List (Nat×RN):=[(1,⟨[],[],[.v 5 8]⟩),(3,⟨[.gc [3,27,28,29,32,33,34]],[],[]⟩),(6,⟨[],[],[.v 4 7,.v 9 12]⟩)]
@[irreducible] def e83:MC:=rdc (cK Tryz.prog Tryz.f18 g82 [] 4)
instance:LI e83 19 18 [17,18] [] (fun y:Unit=>[]) (fun y=>[]) []:=⟨⟩
instance h5o {f_:w9} {s_:o5}:WJ (f4r f_ s_) 18 [w9.v f_,o5.v s_] .bool:=wX Tryz.func18 g82 [(4,e83)] (h:=fun _ _ h hQ M=>by unfold f4r at h;exact tX)
def f4q (c_:o6) (jG:Int) (kE:Int):Option Bool :=
 jn (α:=Fl Unit Bool) ((F_d c_).bind fun y14=>bif (!y14) then grp (true) fun b15=>bif b15 then some (.ex false) else some (.nx ()) else chk (a0w ((c_.Replicas.length:Int) - 1)) ((F_5 jG 0 ((c_.Replicas.length:Int) - 1)).bind fun y16=>grp (((!y16)||((!decide (kE=1))&&(!decide (kE=2))))) fun b17=>bif b17 then some (.ex false) else some (.nx ()))) fun o=>o.elim (fun j9=>chk (inb jG c_.Replicas.length) (jn (α:=Bool) (bif (c_.Replicas.getD (jG).toNat default).Serving then chk (inb ((c_.Replicas.getD (jG).toNat default).Generation) c_.Sets.length) (some (!decide ((bits .and .i64 (c_.Sets.getD ((c_.Replicas.getD (jG).toNat default).Generation).toNat default) kE)=0))) else some false) fun j19=>some j19)) (fun r20=>some r20)
def g81:List (Nat×RN):=[(1,⟨[],[],[.v 13 19]⟩),(4,⟨[],[],[.w 3 12 550403]⟩)]
@[irreducible] def e5s:MC:=rdc (cK Tryz.prog Tryz.f55 g81 [] 10000003)
instance f6s {m:List MOp}:GI (gjt 550403 m) [] [] (fun y:Bool=>[(45,.bool y)]) (fun y=>[]):=⟨⟩
instance:LI e5s 0 0 [1,2,3] [3] (fun y:Unit=>[]) (fun y=>[]) []:=⟨⟩
instance h5n {c_:o6} {jG kE:Int}:WJ (f4q c_ jG kE) 55 [o6.v c_,.int .i64 jG,.int .i64 kE] .bool:=wX Tryz.func55 g81 [(10000003,e5s)] (h:=fun _ _ h hQ M=>by unfold f4q at h;exact tX)
@[go_sem] def g49 (c_:o6) (kE:Int) (k39:Int) (a40:q9) (x38:Unit):Option (Fl Unit Bool) :=
 (f4q c_ k39 kE).bind fun y48=>bif y48 then some (.ex false) else some (.nx ())
def f4p (c_:o6) (kE:Int):Option Bool :=
 (F_d c_).bind fun y7=>grp (((!y7)||((!decide (kE=1))&&(!decide (kE=2))))) fun b8=>bif b8 then some false else chk (a0w ((c_.Sets.length:Int) - 1)) (chk (inb ((c_.Sets.length:Int) - 1) c_.Sets.length) (bif (!decide ((bits .and .i64 (c_.Sets.getD (((c_.Sets.length:Int) - 1)).toNat default) kE)=0)) then some false else (forL (g49 c_ kE) c_.Replicas 0 ()).bind fun o=>o.elim (fun x49=>some true) (fun r50=>some r50)))
def g80:List (Nat×RN):=[(1,⟨[],[],[.v 4 10]⟩),(3,⟨[.gc [1,2]],[],[]⟩)]
@[irreducible] def e6j:MC:=rdc (cK Tryz.prog Tryz.f19 g80 [] 4)
instance:LI e6j 33 32 [1,2,32] [2] (fun y:Unit=>[]) (fun y=>[]) []:=⟨⟩
instance h5m {c_:o6} {kE:Int}:WJ (f4p c_ kE) 19 [o6.v c_,.int .i64 kE] .bool:=wX Tryz.func19 g80 [(4,e6j)] (h:=fun _ _ h hQ M=>by unfold f4p at h;exact tX)
end
end Go.Ab