/- What the functions of this seat that lie on the laws' road compute (part LN), each for every input. By AI agents. -/
import Derived.Test.YtnaeedamiaoipaaGreatDoorLT
import Derived.Test.YtnaeedamiaoipaaGreatDoorLM
set_option linter.all false
set_option maxRecDepth 20000
set_option maxHeartbeats 2000000
namespace Go.Ab
open Go.Proofs
noncomputable section
def F_1 (t_:a2i) (n_:Int):Option (Int×a2i) := bif decide ((t_.L.length:Int)≤t_.at_) then some (0,t_) else chk (inb t_.at_ t_.L.length) (chk (a0j (t_.at_+1)) (chk (d7l ((t_.L.getD (t_.at_).toNat default) % 2^16) n_) (some ((((t_.L.getD (t_.at_).toNat default) % 2^16) % n_),(a2i.mk t_.L (t_.at_+1))))))
instance g8j {t_:a2i} {n_:Int}:WI (F_1 t_ n_) Tryz.prog 11 [.ptr 1000 0,.int .i64 n_] [(1000,.cells [.sl (t_.L.map (V.int .i64)),.int .i64 t_.at_])] (fun z=>.int .i64 z.1) (fun z=>[(1000,.cells [.sl (z.2.L.map (V.int .i64)),.int .i64 z.2.at_])]):=wX Tryz.func11 [(3,⟨[.gc [0,1]],[],[]⟩),(4,⟨[.gc [0,1,5]],[],[]⟩),(5,⟨[.gc [1,5]],[],[]⟩)] [] [] [1000] (h:=fun _ _ h hQ M=>by unfold F_1 at h;exact tX)
def f3o (t_:a2i) (a_:Int) (b_:Int):Option (Int×a2i) :=
 chk (a0j (b_ - a_)) (chk (a0j ((b_ - a_)+1)) ((F_1 t_ ((b_ - a_)+1)).bind fun y2=>chk (a0j (a_+y2.1)) (some ((a_+y2.1),y2.2))))
instance g61 {t_:a2i} {a_ b_:Int}:WI (f3o t_ a_ b_) Tryz.prog 59 [.ptr 1000 0,.int .i64 a_,.int .i64 b_] [(1000,.cells [.sl (t_.L.map (V.int .i64)),.int .i64 t_.at_])] (fun z=>.int .i64 z.1) (fun z=>[(1000,.cells [.sl (z.2.L.map (V.int .i64)),.int .i64 z.2.at_])]):=wX Tryz.func59 [(1,⟨[],[.c 6 0 [1000] []],[]⟩)] [] [] [1000] (h:=fun _ _ h hQ M=>by unfold f3o at h;exact tX)
def e6w (t_:a2i) (qB:List Str):Option (d9×a2i) :=
 (F_1 t_ (qB.length:Int)).bind fun y2=>chk (inb y2.1 qB.length) ((F_1 y2.2 10).bind fun y4=>(f3o y4.2 1 11).bind fun y6=>jn (α:=Bool) (bif decide (y6.1=1) then some true else some (decide (y6.1=2))) fun j7=>bif j7 then some ((d9.mk y6.1 (qB.getD (y2.1).toNat default) [] 0 0 0),y6.2) else jn (α:=Bool) (bif decide (y6.1=3) then some true else some (decide (y6.1=4))) fun j8=>bif j8 then (F_1 y6.2 (qB.length:Int)).bind fun y10=>chk (inb y10.1 qB.length) (some ((d9.mk y6.1 (qB.getD (y2.1).toNat default) (qB.getD (y10.1).toNat default) y4.1 0 0),y10.2)) else jn (α:=Bool) (bif decide (y6.1=5) then some true else some (decide (y6.1=6))) fun j11=>bif j11 then (F_1 y6.2 3).bind fun y13=>some ((d9.mk y6.1 (qB.getD (y2.1).toNat default) [] y4.1 y13.1 0),y13.2) else bif decide (y6.1=7) then (F_1 y6.2 3).bind fun y16=>(F_1 y16.2 5).bind fun y17=>chk (a0j (y4.1+y17.1)) (some ((d9.mk y6.1 [] [] y4.1 y16.1 (y4.1+y17.1)),y17.2)) else bif decide (y6.1=8) then (F_1 y6.2 3).bind fun y20=>(F_1 y20.2 3).bind fun y21=>some ((d9.mk y6.1 [] [] y4.1 y20.1 y21.1),y21.2) else bif decide (y6.1=9) then (F_1 y6.2 3).bind fun y24=>(F_1 y24.2 3).bind fun y25=>some ((d9.mk y6.1 [] [] y4.1 y24.1 y25.1),y25.2) else bif decide (y6.1=10) then (F_1 y6.2 3).bind fun y27=>some ((d9.mk y6.1 [] [] y4.1 y27.1 0),y27.2) else (F_1 y6.2 3).bind fun y29=>some ((d9.mk 11 (qB.getD (y2.1).toNat default) [] 0 y29.1 0),y29.2))
def f6f:List (Nat×RN):=[(1,⟨[],[.c 4 0 [1000] []],[]⟩),(2,⟨[],[.c 1 0 [1000] []],[]⟩),(3,⟨[.gc [0,1,4,5,6]],[.c 1 0 [1000] []],[]⟩),(5,⟨[.gc [0,4,5]],[.c 1 0 [1000] []],[]⟩),(11,⟨[],[.c 7 0 [1000] []],[]⟩),(14,⟨[],[.c 4 0 [1000] []],[]⟩),(16,⟨[],[.c 3 0 [1000] [],.c 6 0 [1000] []],[]⟩),(18,⟨[],[.c 3 0 [1000] [],.c 5 0 [1000] []],[]⟩),(20,⟨[.gc [0,4,6,7]],[.c 3 0 [1000] [],.c 5 0 [1000] []],[]⟩),(22,⟨[.gc [0,4,6,7]],[.c 3 0 [1000] []],[]⟩)]
@[irreducible] def d3w:MC:=rdc (cK Tryz.prog Tryz.f17 f6f [] 10000014)
@[irreducible] def e0k:MC:=rdc (cK Tryz.prog Tryz.f17 f6f [(10000014,d3w)] 10000011)
@[irreducible] def e8a:MC:=rdc (cK Tryz.prog Tryz.f17 f6f [(10000014,d3w),(10000011,e0k)] 10000008)
instance:LI d3w 0 0 [0,4,5,6,7,19] [4,1000] (fun y:Bool=>[(44,.bool y)]) (fun y=>[]) []:=⟨⟩
instance:LI e0k 0 0 [0,1,4,5,6,7,19] [4,1000] (fun y:Bool=>[(30,.bool y)]) (fun y=>[]) []:=⟨⟩
instance:LI e8a 0 0 [0,1,4,5,6,7,19] [4,1000] (fun y:Bool=>[(24,.bool y)]) (fun y=>[]) []:=⟨⟩
instance g1r {t_:a2i} {qB:List Str}:WI (e6w t_ qB) Tryz.prog 17 [.ptr 1000 0,.sl (qB.map V.str)] [(1000,.cells [.sl (t_.L.map (V.int .i64)),.int .i64 t_.at_])] (fun z=>d9.v z.1) (fun z=>[(1000,.cells [.sl (z.2.L.map (V.int .i64)),.int .i64 z.2.at_])]):=wX Tryz.func17 f6f [(10000014,d3w),(10000011,e0k),(10000008,e8a)] [] [1000] (h:=fun _ _ h hQ M=>by unfold e6w at h;exact tX)
def g2h (x61:Int×(List d9)×a2i):Option (Fl (Int×(List d9)×a2i) ((List d9)×a2i)) :=
 bif decide (0<x61.1) then jn (α:=(List d9)×a2i) ((e6w x61.2.2 [[97,110,110],[111,112,115],[98,111,98],[100,101,118]]).bind fun y83=>jn (α:=Fl (d9×a2i) a2i) (jn (α:=Bool) (bif decide (y83.1.Kind=1) then some true else some (decide (y83.1.Kind=2))) fun j90=>bif j90 then some (.ex y83.2) else jn (α:=Bool) (bif decide (y83.1.Kind=3) then some true else some (decide (y83.1.Kind=4))) fun j91=>bif j91 then (F_1 y83.2 2).bind fun y93=>chk (inb y93.1 [[111,112,115],[100,101,118]].length) (bif decide (y83.1.Name=[[111,112,115],[100,101,118]].getD ((y93.1).toNat) default) then some (.ex y93.2) else some (.nx ((d9.mk y83.1.Kind y83.1.Name ([[111,112,115],[100,101,118]].getD ((y93.1).toNat) default) y83.1.Time y83.1.A y83.1.B),y93.2))) else bif decide (y83.1.Kind=7) then chk (a0j (y83.1.Time+1)) ((F_1 y83.2 5).bind fun y94=>chk (a0j ((y83.1.Time+1)+y94.1)) (some (.nx ((d9.mk y83.1.Kind y83.1.Name y83.1.Other y83.1.Time y83.1.A ((y83.1.Time+1)+y94.1)),y94.2)))) else bif decide (y83.1.Kind=9) then bif decide (y83.1.A=y83.1.B) then some (.ex y83.2) else some (.nx (y83.1,y83.2)) else some (.nx (y83.1,y83.2))) fun o=>o.elim (fun j89=>chk (room (x61.2.1.length+[j89.1].length) 64) (some ((x61.2.1++[j89.1]),j89.2))) (fun r95=>some (x61.2.1,r95))) fun j81=>chk (a0j (x61.1 - 1)) (some (.nx ((x61.1 - 1),j81.1,j81.2))) else some (.ex (x61.2.1,x61.2.2))
def F_e (t_:a2i):Option ((List d9)×a2i) := (F_1 t_ 14).bind fun y38=>(loop g2h (y38.1,[(d9.mk 1 [97,110,110] [] 0 0 0),(d9.mk 2 [111,112,115] [] 0 0 0),(d9.mk 1 [98,111,98] [] 0 0 0),(d9.mk 2 [100,101,118] [] 0 0 0)],y38.2)).bind fun r96=>some (r96.1,r96.2)
def a_e:List (Nat×RN):=[(3,⟨[],[.c 1 0 [1000] []],[]⟩),(6,⟨[],[.c 2 0 [1000] []],[.n 2 (.fz 20)]⟩),(12,⟨[],[.c 2 0 [1000] []],[]⟩),(13,⟨[.gc [0,3,4,5,6]],[],[]⟩),(15,⟨[],[.c 4 0 [1000] []],[]⟩)]
@[irreducible] def c1x:MC:=rdc (cK Tryz.prog Tryz.f9 a_e [] 10000012)
@[irreducible] def c5z:MC:=rdc (cK Tryz.prog Tryz.f9 a_e [(10000012,c1x)] 10000010)
@[irreducible] def c9e:MC:=rdc (cK Tryz.prog Tryz.f9 a_e [(10000012,c1x),(10000010,c5z)] 10000018)
@[irreducible] def d3v:MC:=rdc (cK Tryz.prog Tryz.f9 a_e [(10000012,c1x),(10000010,c5z),(10000018,c9e)] 10000005)
@[irreducible] def e0t:MC:=rdc (cK Tryz.prog Tryz.f9 a_e [(10000012,c1x),(10000010,c5z),(10000018,c9e),(10000005,d3v)] 4)
def g2w:MC:=rdc (cT Tryz.prog Tryz.f9 a_e [(10000012,c1x),(10000010,c5z),(10000018,c9e),(10000005,d3v),(4,e0t)])
instance g5l {t_:a2i}:WI (F_e t_) Tryz.prog 9 [.ptr 1000 0] [(1000,.cells [.sl (t_.L.map (V.int .i64)),.int .i64 t_.at_])] (fun z=>.sl (z.1.map d9.v)) (fun z=>[(1000,.cells [.sl (z.2.L.map (V.int .i64)),.int .i64 z.2.at_])]):=⟨fun Q Q' h hQ=>by
 refine a2g g2w [.fz 2] [1000] [.t 2] Tryz.func9 fun M=>?_
 unfold F_e at h
 unfold g2w
 replace h:=tY h
 refine tB ?_
 repeat' (first
 | (exact tZ)
 | ((first|refine b3a h ?_|refine a3y h ?_|refine b3m h ?_|refine b3l h ?_|refine b3t h ?_|refine appG h ?_|refine b3v h ?_|refine fork h ?_ ?_|refine a4a h ?_ ?_)<;>clear h<;>intro hc h)
 | (obtain ⟨y,hy,h⟩:=h;have hw:=WI.w hy;replace hw:=tY hw;(first|refine M.sC hw ?_|refine M.sD hw ?_);clear hw hy;refine tB ?_)
 | (refine M.jn1 (b:=c1x) [0,3,4,5,6,23] [6,2003,1000] (fun y=>[(27,.bool y)]) (fun y=>[]) [] h ?_ ?_<;>first
 | (clear h;intro Qn K hK1 h;replace h:=tY h;refine tB ?_)
  |(clear h;intro y h;unfold c1x;replace h:=tY h;refine tB ?_))
 | (refine M.jn1 (b:=c5z) [0,3,4,5,6,23] [6,2003,1000] (fun y=>[(24,.bool y)]) (fun y=>[]) [] h ?_ ?_<;>first
 | (clear h;intro Qn K hK2 h;replace h:=tY h;refine tB ?_)
  |(clear h;intro y h;unfold c5z;replace h:=tY h;refine tB ?_))
 | (refine M.jnE (b:=c9e) [0,3,4,5,6] [2003] (fun y=>[]) (fun y=>[.o 6 (.cells [.int .i64 y.1.Kind,.str y.1.Name,.str y.1.Other,.int .i64 y.1.Time,.int .i64 y.1.A,.int .i64 y.1.B]),.o 1000 (.cells [.sl (y.2.L.map (V.int .i64)),.int .i64 y.2.at_])]) [] h ?_ ?_<;>first
 | (clear h;intro Qn K hK3 h;replace h:=tY h;refine tB ?_)
  |(clear h;intro y h;unfold c9e;replace h:=tY h;refine tB ?_))
 | (refine M.jn1 (b:=d3v) [0,4,5] [] (fun y=>[(3,.osl 2003 6 0 y.1.length)]) (fun y=>[.o 2003 (.arr 6 (y.1.map d9.v)),.o 1000 (.cells [.sl (y.2.L.map (V.int .i64)),.int .i64 y.2.at_])]) [.gc [0,3,4,5],.acc 3 2003 6] h ?_ ?_<;>first
 | (clear h;intro Qn K hK4 h;replace h:=tY h;refine tB ?_)
  |(clear h;intro y h;unfold d3v;replace h:=tY h;refine tB ?_))
 | (refine M.wh1 (b:=e0t) [0] [] (fun x=>[(3,.osl 2003 6 0 x.2.1.length),(4,.sl ([[97,110,110],[111,112,115],[98,111,98],[100,101,118]].map V.str)),(5,.int .i64 x.1)]) (fun x=>[.o 2003 (.arr 6 (x.2.1.map d9.v)),.o 1000 (.cells [.sl (x.2.2.L.map (V.int .i64)),.int .i64 x.2.2.at_])]) [.gc [0,3,4,5],.acc 3 2003 6,.fz 4] h ?_ ?_<;>first
 | (clear h;intro x Qn K hK5 h;unfold g2h at h;unfold e0t;replace h:=tY h;refine tB ?_)
  |(clear h;(try refine tB ?_);exact tU0;done))
 | ((first|refine hK1 _ ?_|refine hK2 _ ?_|refine hK3 _ ?_|refine hK4 _ ?_|refine hK5 _ ?_);(try refine tB ?_);refine ⟨_,h,?_⟩;exact tU0;done)
 | (refine tE4 V.str ?_;(first|rw [M.lok_compU]|rw [M.lokD_compU]|(simp only [V.cells];first|rw [M.lok_comp]|rw [M.lokD_comp]));refine tB ?_)
 | (refine tE ?_;(first|rw [M.lok_compU]|rw [M.lokD_compU]);refine tB ?_)
 | (refine tA ?_)
 | fail)⟩
set_option maxRecDepth 20000
set_option maxHeartbeats 2000000
def d2a (x_:Int) (gD:Int) (qC:Int):Option Bool :=
 grp ((decide (gD≤x_)&&decide (x_≤qC))) fun b2=>some b2
instance g7s {x_ gD qC:Int}:WJ (d2a x_ gD qC) 65 [.int .i64 x_,.int .i64 gD,.int .i64 qC] .bool:=wX Tryz.func65 [(1,⟨[],[],[.v 4 7]⟩)] (h:=fun _ _ h hQ M=>by unfold d2a at h;exact tX)
def d87 (jE:Int):Option Str :=
 chk (inb jE 12) (some (([[],[110],[110],[116,110,111],[116,110,111],[116,110,112],[116,110,112],[116,112,117],[116,99,113],[116,112,113],[116,112],[99,110]]:List Str).getD (jE).toNat default))
def e9w:MC:=rdc (cT Tryz.prog Tryz.f66 [] [])
instance g88 {jE:Int}:WI (d87 jE) Tryz.prog 66 [.int .i64 jE] [] (fun z=>.str z) (fun z=>[]):=⟨fun Q Q' h hQ=>by
 refine a2g e9w [] [] [.t 2] Tryz.func66 fun M=>?_
 unfold d87 at h
 unfold e9w
 replace h:=tY h
 refine tB ?_
 repeat' (first
 | (exact tZ)
 | ((first|refine b3a h ?_|refine a3y h ?_|refine b3m h ?_|refine b3l h ?_|refine b3t h ?_|refine appG h ?_|refine b3v h ?_|refine fork h ?_ ?_|refine a4a h ?_ ?_)<;>clear h<;>intro hc h)
 | (refine tE8 V.str ?_;(try (first|rw [M.lok_compU]|rw [M.lokD_compU]|(simp only [V.cells];first|rw [M.lok_comp]|rw [M.lokD_comp])));(try refine tB ?_))
 | (refine tE ?_;(first|rw [M.lok_compU]|rw [M.lokD_compU]);refine tB ?_)
 | (refine tA ?_)
 | fail)⟩
@[go_sem] def f4i (s_:Str) (by_:UInt8) (x9:Int):Option (Fl Int (Sum Unit Bool)) :=
 bif decide (x9<(s_.length:Int)) then chk (inb x9 s_.length) (bif decide (((s_.getD (x9).toNat 0).toNat:Int)=(by_.toNat:Int)) then some (.ex (.inr true)) else chk (a0j (x9+1)) (some (.nx (x9+1)))) else some (.ex (.inl ()))
def F_4 (s_:Str) (by_:UInt8):Option Bool := (loop (f4i s_ by_) 0).bind fun r10=>Sum.elim (fun u11=>some false) (fun u12=>some u12) r10
def a_4:List (Nat×RN):=[(3,⟨[.gc [0,1,5]],[],[]⟩)]
@[irreducible] def e9f:MC:=rdc (cK Tryz.prog Tryz.f67 a_4 [] 2)
instance:LI e9f 0 0 [0,1] [] (fun y:Int=>[(5,.int .i64 y)]) (fun y=>[]) []:=⟨⟩
instance g9p {s_:Str} {by_:UInt8}:WJ (F_4 s_ by_) 67 [.str s_,a0r by_] .bool:=wX Tryz.func67 a_4 [(2,e9f)] (h:=fun _ _ h hQ M=>by unfold F_4 at h;exact tX)
@[go_sem] def f4h (s_:Str) (x13:Int):Option (Fl Int (Sum Unit Bool)) :=
 bif decide (x13<(s_.length:Int)) then chk (inb x13 s_.length) (bif decide (((s_.getD (x13).toNat 0).toNat:Int)<97) then some (.ex (.inr false)) else chk (inb x13 s_.length) (bif decide (122<((s_.getD (x13).toNat 0).toNat:Int)) then some (.ex (.inr false)) else chk (a0j (x13+1)) (some (.nx (x13+1))))) else some (.ex (.inl ()))
def e4k (s_:Str):Option Bool :=
 grp ((decide ((s_.length:Int)<1)||decide (12<(s_.length:Int)))) fun b4=>bif b4 then some false else (loop (f4h s_) 0).bind fun r14=>Sum.elim (fun u15=>some true) (fun u16=>some u16) r14
def g3u:List (Nat×RN):=[(1,⟨[],[],[.v 4 7]⟩),(5,⟨[.gc [0,3,23,24,25,26]],[],[]⟩)]
@[irreducible] def e9e:MC:=rdc (cK Tryz.prog Tryz.f68 g3u [] 4)
instance:LI e9e 0 0 [0] [] (fun y:Int=>[(3,.int .i64 y)]) (fun y=>[]) []:=⟨⟩
instance g7r {s_:Str}:WJ (e4k s_) 68 [.str s_] .bool:=wX Tryz.func68 g3u [(4,e9e)] (h:=fun _ _ h hQ M=>by unfold e4k at h;exact tX)
def F_g (c_:d9):Option Bool := (d2a c_.Kind 1 11).bind fun y4=>bif (!y4) then some false else (d87 c_.Kind).bind fun y6=>jn (α:=Fl Unit Bool) ((F_4 y6 110).bind fun y35=>(e4k c_.Name).bind fun y36=>bif (!(y35==y36)) then some (.ex false) else (F_4 y6 110).bind fun y37=>bif (!y37) then bif (!decide (c_.Name=[])) then some (.ex false) else (F_4 y6 111).bind fun y38=>(e4k c_.Other).bind fun y39=>bif (!(y38==y39)) then some (.ex false) else (F_4 y6 111).bind fun y40=>bif (!y40) then bif (!decide (c_.Other=[])) then some (.ex false) else some (.nx ()) else some (.nx ()) else (F_4 y6 111).bind fun y41=>(e4k c_.Other).bind fun y42=>bif (!(y41==y42)) then some (.ex false) else (F_4 y6 111).bind fun y43=>bif (!y43) then bif (!decide (c_.Other=[])) then some (.ex false) else some (.nx ()) else some (.nx ())) fun o=>o.elim (fun j25=>jn (α:=Fl Unit Bool) ((d2a c_.Time 0 999999).bind fun y51=>bif (!y51) then some (.ex false) else (F_4 y6 116).bind fun y52=>bif (!y52) then bif (!decide (c_.Time=0)) then some (.ex false) else some (.nx ()) else some (.nx ())) fun o=>o.elim (fun j48=>jn (α:=Fl Unit Bool) ((F_4 y6 112).bind fun y63=>bif y63 then (d2a c_.A 0 15).bind fun y65=>bif (!y65) then some (.ex false) else some (.nx ()) else (F_4 y6 99).bind fun y67=>bif y67 then (d2a c_.A 0 63).bind fun y69=>bif (!y69) then some (.ex false) else some (.nx ()) else bif (!decide (c_.A=0)) then some (.ex false) else some (.nx ())) fun o=>o.elim (fun j61=>(F_4 y6 113).bind fun y79=>bif y79 then (d2a c_.B 0 15).bind fun y81=>some y81 else (F_4 y6 117).bind fun y83=>bif y83 then (d2a c_.B 0 999999).bind fun y85=>some y85 else some (decide (c_.B=0))) (fun r86=>some r86)) (fun r87=>some r87)) (fun r88=>some r88)
def a_g:List (Nat×RN):=[(4,⟨[.gc [1,3,18,19,20,21,22,23,24,25,28,29,30,31,32,33,36,37,38,39,40,41,42,43,50,51,52,53,54,55,56,57]],[],[]⟩)]
@[irreducible] def d3u:MC:=rdc (cK Tryz.prog Tryz.f21 a_g [] 10000016)
@[irreducible] def e0j:MC:=rdc (cK Tryz.prog Tryz.f21 a_g [(10000016,d3u)] 10000008)
@[irreducible] def e89:MC:=rdc (cK Tryz.prog Tryz.f21 a_g [(10000016,d3u),(10000008,e0j)] 10000006)
instance:LI d3u 0 0 [1,3] [1] (fun y:Unit=>[]) (fun y=>[]) []:=⟨⟩
instance:LI e0j 0 0 [1,3] [1] (fun y:Unit=>[]) (fun y=>[]) []:=⟨⟩
instance:LI e89 0 0 [1,3] [1] (fun y:Unit=>[]) (fun y=>[]) []:=⟨⟩
instance g9i {c_:d9}:WJ (F_g c_) 21 [d9.v c_] .bool:=wX Tryz.func21 a_g [(10000016,d3u),(10000008,e0j),(10000006,e89)] (h:=fun _ _ h hQ M=>by unfold F_g at h;exact tX)
@[go_sem] def f6v (k31:Int) (a32:d9) (x30:Unit):Option (Fl Unit Int) :=
 (F_g a32).bind fun y40=>bif (!y40) then some (.ex 45) else some (.nx ())
def e5x (l_:List d9):Option Int :=
 bif decide (60<(l_.length:Int)) then some 3 else (forL f6v l_ 0 ()).bind fun o=>o.elim (fun x41=>some 0) (fun r42=>some r42)
@[irreducible] def e8s:MC:=rdc (cK Tryz.prog Tryz.f61 [] [] 4)
instance:LI e8s 10 9 [8,9] [] (fun y:Unit=>[]) (fun y=>[]) []:=⟨⟩
instance g6e {l_:List d9}:WJ (e5x l_) 61 [.sl (l_.map d9.v)] (.int .i64):=wX Tryz.func61 [] [(4,e8s)] (h:=fun _ _ h hQ M=>by unfold e5x at h;exact tX)
def e3x:Option c38 :=
 some (c38.mk [112,101,114,115,111,110] [103,114,111,117,112] [106,111,105,110] [108,101,97,118,101] [97,108,108,111,119] [102,111,114,98,105,100] [111,112,101,110] [112,117,116] [99,111,112,121] [119,104,111] [115,105,110,99,101])
instance g6m:WJ e3x 104 [] fun z=>c38.v z:=wX Tryz.func104 (h:=fun _ _ h hQ M=>by unfold e3x at h;exact tX)
def e4j (c_:d9) (y4:Str) (x36:Str×Int):Option (Fl (Str×Int) Str) :=
 bif decide (x36.2<(y4.length:Int)) then jn (α:=Str) (chk (inb x36.2 y4.length) (bif decide (((y4.getD (x36.2).toNat 0).toNat:Int)=116) then (a5l c_.Time).bind fun y47=>chk (a4m ([32].length+y47.length)) (chk (a4m (x36.1.length+(([32]:Str)++y47).length)) (some (x36.1++(([32]:Str)++y47)))) else bif decide (((y4.getD (x36.2).toNat 0).toNat:Int)=110) then chk (a4m ([32].length+c_.Name.length)) (chk (a4m (x36.1.length+(([32]:Str)++c_.Name).length)) (some (x36.1++(([32]:Str)++c_.Name)))) else bif decide (((y4.getD (x36.2).toNat 0).toNat:Int)=111) then chk (a4m ([32].length+c_.Other.length)) (chk (a4m (x36.1.length+(([32]:Str)++c_.Other).length)) (some (x36.1++(([32]:Str)++c_.Other)))) else jn (α:=Bool) (bif decide (((y4.getD (x36.2).toNat 0).toNat:Int)=112) then some true else some (decide (((y4.getD (x36.2).toNat 0).toNat:Int)=99))) fun j48=>bif j48 then (a5l c_.A).bind fun y49=>chk (a4m ([32].length+y49.length)) (chk (a4m (x36.1.length+(([32]:Str)++y49).length)) (some (x36.1++(([32]:Str)++y49)))) else (a5l c_.B).bind fun y50=>chk (a4m ([32].length+y50.length)) (chk (a4m (x36.1.length+(([32]:Str)++y50).length)) (some (x36.1++(([32]:Str)++y50)))))) fun j46=>chk (a0j (x36.2+1)) (some (.nx (j46,(x36.2+1)))) else some (.ex x36.1)
def F_o (c_:d9):Option Str := e3x.bind fun y2=>chk (a0j (c_.Kind - 1)) (chk (inb (c_.Kind - 1) 11) ((d87 c_.Kind).bind fun y4=>(loop (e4j c_ y4) ((([y2.e0,y2.e1,y2.e2,y2.e3,y2.e4,y2.e5,y2.e6,y2.e7,y2.e8,y2.e9,y2.e10]:List Str).getD ((c_.Kind - 1)).toNat default),0)).bind fun r51=>chk (a4m (r51.length+[10].length)) (some (r51++[10]))))
def a_o:List (Nat×RN):=[(9,⟨[.gc [1,3,4,5]],[],[]⟩),(11,⟨[.gc [1,3,4,5]],[],[]⟩),(13,⟨[.gc [1,3,4,5]],[],[]⟩)]
@[irreducible] def c9d:MC:=rdc (cK Tryz.prog Tryz.f62 a_o [] 10000016)
@[irreducible] def d3t:MC:=rdc (cK Tryz.prog Tryz.f62 a_o [(10000016,c9d)] 10000005)
@[irreducible] def e1a:MC:=rdc (cK Tryz.prog Tryz.f62 a_o [(10000016,c9d),(10000005,d3t)] 4)
def g2s:MC:=rdc (cT Tryz.prog Tryz.f62 a_o [(10000016,c9d),(10000005,d3t),(4,e1a)])
instance g9a {c_:d9}:WI (F_o c_) Tryz.prog 62 [d9.v c_] [] (fun z=>.str z) (fun z=>[]):=⟨fun Q Q' h hQ=>by
 refine a2g g2s [] [] [.t 2] Tryz.func62 fun M=>?_
 unfold F_o at h
 unfold g2s
 replace h:=tY h
 refine tB ?_
 repeat' (first
 | (exact tZ)
 | ((first|refine b3a h ?_|refine a3y h ?_|refine b3m h ?_|refine b3l h ?_|refine b3t h ?_|refine appG h ?_|refine b3v h ?_|refine fork h ?_ ?_|refine a4a h ?_ ?_)<;>clear h<;>intro hc h)
 | (obtain ⟨y,hy,h⟩:=h;(first|with_reducible first|have hw:=WI.w hy|have hw:=g1w hy);replace hw:=tY hw;(first|refine M.sC hw ?_|refine M.sD hw ?_);clear hw hy;refine tB ?_)
 | (refine M.jn1 (b:=c9d) [1,3,4,5] [1] (fun y=>[(51,.bool y)]) (fun y=>[]) [] h ?_ ?_<;>first
 | (clear h;intro Qn K hK1 h;replace h:=tY h;refine tB ?_)
  |(clear h;intro y h;unfold c9d;replace h:=tY h;refine tB ?_))
 | (refine M.jn1 (b:=d3t) [1,4,5] [1] (fun y=>[(3,.str y)]) (fun y=>[]) [] h ?_ ?_<;>first
 | (clear h;intro Qn K hK2 h;replace h:=tY h;refine tB ?_)
  |(clear h;intro y h;unfold d3t;replace h:=tY h;refine tB ?_))
 | (refine M.wh1 (b:=e1a) [1,4] [1] (fun x=>[(3,.str x.1),(5,.int .i64 x.2)]) (fun x=>[]) [] h ?_ ?_<;>first
 | (clear h;intro x Qn K hK3 h;unfold e4j at h;unfold e1a;replace h:=tY h;refine tB ?_)
  |(clear h;(try refine tB ?_);exact tU0;done))
 | ((first|refine hK1 _ ?_|refine hK2 _ ?_|refine hK3 _ ?_);(try refine tB ?_);refine ⟨_,h,?_⟩;exact tU0;done)
 | (refine tE8 V.str ?_;(try (first|rw [M.lok_compU]|rw [M.lokD_compU]|(simp only [V.cells];first|rw [M.lok_comp]|rw [M.lokD_comp])));(try refine tB ?_))
 | (refine tE ?_;(first|rw [M.lok_compU]|rw [M.lokD_compU]);refine tB ?_)
 | (refine tA ?_)
 | fail)⟩
@[go_sem] def f6u (k34:Int) (a35:d9) (x33:Str):Option Str :=
 (F_o a35).bind fun y39=>chk (a4m (x33.length+y39.length)) (some (x33++y39))
def f3n (l_:List d9):Option (Str×Int) :=
 (e5x l_).bind fun y4=>bif (!decide (y4=0)) then some ([],y4) else (foldL f6u l_ 0 []).bind fun x40=>some (x40,0)
@[irreducible] def e8r:MC:=rdc (cK Tryz.prog Tryz.f19 [] [] 6)
instance:LI e8r 15 14 [13,14] [] (fun y:Str=>[(5,.str y)]) (fun y=>[]) []:=⟨⟩
instance g60 {l_:List d9}:WJ (f3n l_) 19 [.sl (l_.map d9.v)] fun z=>.tup [.str z.1,.int .i64 z.2]:=wX Tryz.func19 [] [(6,e8r)] (h:=fun _ _ h hQ M=>by unfold f3n at h;exact tX)
@[go_sem] def f6t (s_:Str) (k11:Int) (a12:Str) (x10:Unit):Option (Fl Unit Int) :=
 bif decide (a12=s_) then some (.ex k11) else some (.nx ())
def F_x (qB:List Str) (s_:Str):Option Int := (forL (f6t s_) qB 0 ()).bind fun o=>o.elim (fun x13=>some (-1)) (fun r14=>some r14)
@[irreducible] def e8q:MC:=rdc (cK Tryz.prog Tryz.f69 [] [] 2)
instance:LI e8q 9 8 [1,7,8] [] (fun y:Unit=>[]) (fun y=>[]) []:=⟨⟩
instance g5j {qB:List Str} {s_:Str}:WJ (F_x qB s_) 69 [.sl (qB.map V.str),.str s_] (.int .i64):=wX Tryz.func69 [] [(2,e8q)] (h:=fun _ _ h hQ M=>by unfold F_x at h;exact tX)
@[go_sem] def e4f (d_:l8) (x_:a01) (x7:Int):Option (Fl Int Int) :=
 bif decide (0<x7) then chk (a0j (x7 - 1)) (chk (inb (x7 - 1) d_.Events.length) (bif decide (x_.Time<(d_.Events.getD (((x7 - 1)).toNat) default).Time) then chk (a0j (x7 - 1)) (some (.nx (x7 - 1))) else some (.ex x7))) else some (.ex x7)
def e4w (d_:l8) (x_:a01):Option l8 :=
 (loop (e4f d_ x_) (d_.Events.length:Int)).bind fun r8=>chk (inc 0 r8 d_.Events.length) (chk (inc r8 (d_.Events.length:Int) d_.Events.length) (chk (room ([x_].length+((d_.Events.drop ((r8).toNat)).take (d_.Events.length - (r8).toNat)).length) 32) (chk (b7i 0 ((r8).toNat) d_.Events.length ([x_]++(d_.Events.drop ((r8).toNat)).take (d_.Events.length - (r8).toNat)).length 32) (some (l8.mk d_.Kinds (d_.Events.take ((r8).toNat)++([x_]++(d_.Events.drop ((r8).toNat)).take (d_.Events.length - (r8).toNat))))))))
def g44:List (Nat×RN):=[(4,⟨[],[.k 11 5],[]⟩)]
@[irreducible] def e9p:MC:=rdc (cK Tryz.prog Tryz.f70 g44 [] 2)
instance:LI e9p 0 0 [2,3,4] [4,3,2,1000,1001] (fun y:Int=>[(5,.int .i64 y)]) (fun y=>[]) []:=⟨⟩
instance f3d {d_:l8} {x_:a01}:WI (e4w d_ x_) Tryz.prog 70 [.agg [.osl 1000 1 0 d_.Kinds.length,.osl 1001 4 0 d_.Events.length],a01.v x_] [(1000,.arr 1 (d_.Kinds.map (V.int .i64))),(1001,.arr 4 (d_.Events.map a01.v))] (fun z=>.agg [.osl 1500 1 0 z.Kinds.length,.osl 1501 4 0 z.Events.length]) (fun z=>[(1500,.arr 1 (z.Kinds.map (V.int .i64))),(1501,.arr 4 (z.Events.map a01.v))]):=wX Tryz.func70 g44 [(2,e9p)] [.ownC 4 0 1500 1 none,.ownC 4 1 1501 4 none] [1500,1501] (h:=fun _ _ h hQ M=>by unfold e4w at h;exact tX)
@[go_sem] def e4e (a_:l9) (x_:o6) (x7:Int):Option (Fl Int Int) :=
 bif decide (0<x7) then chk (a0j (x7 - 1)) (chk (inb (x7 - 1) a_.Events.length) (bif decide (x_.Time<(a_.Events.getD (((x7 - 1)).toNat) default).Time) then chk (a0j (x7 - 1)) (some (.nx (x7 - 1))) else some (.ex x7))) else some (.ex x7)
def e6q (a_:l9) (x_:o6):Option l9 :=
 (loop (e4e a_ x_) (a_.Events.length:Int)).bind fun r8=>chk (inc 0 r8 a_.Events.length) (chk (inc r8 (a_.Events.length:Int) a_.Events.length) (chk (room ([x_].length+((a_.Events.drop ((r8).toNat)).take (a_.Events.length - (r8).toNat)).length) 56) (chk (b7i 0 ((r8).toNat) a_.Events.length ([x_]++(a_.Events.drop ((r8).toNat)).take (a_.Events.length - (r8).toNat)).length 56) (some (l9.mk a_.Places (a_.Events.take ((r8).toNat)++([x_]++(a_.Events.drop ((r8).toNat)).take (a_.Events.length - (r8).toNat))))))))
def g3t:List (Nat×RN):=[(4,⟨[],[.k 11 5],[]⟩)]
@[irreducible] def e9o:MC:=rdc (cK Tryz.prog Tryz.f71 g3t [] 2)
instance:LI e9o 0 0 [2,3,4] [4,3,2,1000] (fun y:Int=>[(5,.int .i64 y)]) (fun y=>[]) []:=⟨⟩
instance g1m {a_:l9} {x_:o6}:WI (e6q a_ x_) Tryz.prog 71 [.agg [.int .i64 a_.Places,.osl 1000 7 0 a_.Events.length],o6.v x_] [(1000,.arr 7 (a_.Events.map o6.v))] (fun z=>.agg [.int .i64 z.Places,.osl 1501 7 0 z.Events.length]) (fun z=>[(1501,.arr 7 (z.Events.map o6.v))]):=wX Tryz.func71 g3t [(2,e9o)] [.ownC 4 1 1501 7 none] [1501] (h:=fun _ _ h hQ M=>by unfold e6q at h;exact tX)
def f7r (k77:Int) (a78:d9) (x76:(List Int)×(List Str)):Option (Fl ((List Int)×(List Str)) (l8×l9×(List Str)×Int)) :=
 bif decide (2<a78.Kind) then some (.nx (x76.1,x76.2)) else (F_x x76.2 a78.Name).bind fun y94=>bif decide (0≤y94) then some (.ex ((l8.mk [] []),(l9.mk 0 []),[],7)) else chk (room (x76.2.length+[a78.Name].length) 16) (chk (inb a78.Kind 3) (chk (room (x76.1.length+[(([0,1,2]:List Int).getD (a78.Kind).toNat default)].length) 8) (some (.nx ((x76.1++[(([0,1,2]:List Int).getD (a78.Kind).toNat default)]),(x76.2++[a78.Name]))))))
def f5e (x95:(List Int)×(List Str)) (k167:Int) (a168:d9) (x166:Unit):Option (Fl Unit (l8×l9×(List Str)×Int)) :=
 jn (α:=Bool) (bif (!decide (a168.Name=[])) then (F_x x95.2 a168.Name).bind fun y191=>some (decide (y191<0)) else some false) fun j192=>bif j192 then some (.ex ((l8.mk [] []),(l9.mk 0 []),[],6)) else bif (!decide (a168.Other=[])) then (F_x x95.2 a168.Other).bind fun y193=>bif decide (y193<0) then some (.ex ((l8.mk [] []),(l9.mk 0 []),[],6)) else some (.nx ()) else some (.nx ())
def e6p (x95:(List Int)×(List Str)) (k393:Int) (a394:d9) (x392:Int×(List o6)×(List Int)×(List a01)):Option (Int×(List o6)×(List Int)×(List a01)) :=
 (F_x x95.2 a394.Name).bind fun y435=>jn (α:=Fl o6 ((List Int)×(List a01))) (bif decide (a394.Kind=3) then (F_x x95.2 a394.Other).bind fun y447=>(e4w (l8.mk x392.2.2.1 x392.2.2.2) (a01.mk a394.Time 1 y435 y447)).bind fun y448=>some (.ex (y448.Kinds,y448.Events)) else bif decide (a394.Kind=4) then (F_x x95.2 a394.Other).bind fun y451=>(e4w (l8.mk x392.2.2.1 x392.2.2.2) (a01.mk a394.Time 2 y435 y451)).bind fun y452=>some (.ex (y452.Kinds,y452.Events)) else bif decide (a394.Kind=5) then some (.nx (o6.mk a394.Time 1 a394.A y435 0 0 0)) else bif decide (a394.Kind=6) then some (.nx (o6.mk a394.Time 2 a394.A y435 0 0 0)) else bif decide (a394.Kind=7) then some (.nx (o6.mk a394.Time 3 a394.A 0 a394.B 0 0)) else bif decide (a394.Kind=8) then some (.nx (o6.mk a394.Time 5 a394.B 0 0 a394.A 0)) else bif decide (a394.Kind=9) then some (.nx (o6.mk a394.Time 7 a394.B 0 0 0 a394.A)) else some (.ex (x392.2.2.1,x392.2.2.2))) fun o=>o.elim (fun j444=>(e6q (l9.mk x392.1 x392.2.1) j444).bind fun y453=>some (y453.Places,y453.Events,x392.2.2.1,x392.2.2.2)) (fun r454=>some (x392.1,x392.2.1,r454.1,r454.2))
def F_h (l_:List d9):Option (l8×l9×(List Str)×Int) := (e5x l_).bind fun y4=>bif (!decide (y4=0)) then some ((l8.mk [] []),(l9.mk 0 []),[],y4) else (forL f7r l_ 0 ([],[])).bind fun o=>o.elim (fun x95=>(forL (f5e x95) l_ 0 ()).bind fun o=>o.elim (fun x194=>bif decide (24<(x95.2.length:Int)) then some ((l8.mk [] []),(l9.mk 0 []),[],3) else (foldL (e6p x95) l_ 0 (16,[],x95.1,[])).bind fun x455=>(F_d (l8.mk x455.2.2.1 x455.2.2.2)).bind fun y459=>bif (!y459) then some ((l8.mk [] []),(l9.mk 0 []),[],30) else (F_n (l9.mk x455.1 x455.2.1)).bind fun y463=>bif (!y463) then some ((l8.mk [] []),(l9.mk 0 []),[],34) else some ((l8.mk x455.2.2.1 x455.2.2.2),(l9.mk x455.1 x455.2.1),x95.2,0)) (fun r195=>some r195)) (fun r96=>some r96)
@[irreducible] def e0a:List MOp:=rdc (cG Tryz.prog Tryz.f22 [(4,⟨[],[.k 0 1],[]⟩),(5,⟨[],[.k 0 1],[]⟩),(10,⟨[],[.c 3 0 [2007] []],[]⟩),(18,⟨[],[.c 7 0 [2007] [],.c 18 0 [2007] []],[]⟩),(23,⟨[],[.k 0 1],[]⟩),(27,⟨[],[.c 3 0 [2007] []],[]⟩),(31,⟨[],[.c 7 0 [2007] [],.c 9 0 [4128,44513] [60464,60465]],[]⟩),(33,⟨[],[.c 7 0 [2007] [],.c 9 0 [4128,44513] [63536,63537]],[]⟩),(44,⟨[],[.c 2 0 [53201] [75313]],[]⟩)] 18 4 9)
def a_h:List (Nat×RN):=[(4,⟨[],[.k 0 1],[]⟩),(5,⟨[],[.k 0 1],[]⟩),(10,⟨[],[.c 3 0 [2007] []],[]⟩),(11,⟨[.gc [2,3]],[],[]⟩),(12,⟨[.gc [0,2,3,7,8,10,25,26,27,66,67,68,69,70,73,74,75,76,77,78,79,80,81,82]],[],[]⟩),(18,⟨[],[.c 7 0 [2007] [],.c 18 0 [2007] []],[.u 4 9 e0a]⟩),(19,⟨[.gc [2,3]],[],[]⟩),(22,⟨[.gc [2,3]],[],[]⟩),(23,⟨[],[.k 0 1],[]⟩),(24,⟨[.gc [0,2,3,7,8,13]],[],[]⟩),(27,⟨[],[.c 3 0 [2007] []],[]⟩),(31,⟨[.gc [2,3,7,8,13,15,16,93,94,95],.ownC 8 1 44513 4 none],[.c 7 0 [2007] [],.c 9 0 [4128,44513] [60464,60465]],[]⟩),(33,⟨[.gc [2,3,7,8,13,15,16,93,94,95],.ownC 8 1 44513 4 none],[.c 7 0 [2007] [],.c 9 0 [4128,44513] [63536,63537]],[]⟩),(35,⟨[.gc [2,3,7,8,13,15,16,17,93,94,95]],[],[]⟩),(37,⟨[.gc [2,3,7,8,13,15,16,17,93,94,95]],[],[]⟩),(39,⟨[.gc [2,3,7,8,13,15,17,93,94,95]],[],[]⟩),(41,⟨[.gc [2,3,7,8,13,15,17,93,94,95]],[],[]⟩),(43,⟨[.gc [2,3,7,8,13,15,17,93,94,95]],[],[]⟩),(44,⟨[],[.c 2 0 [53201] [75313]],[.n 2 (.accA 175 1 53201 7)]⟩),(46,⟨[],[],[.n 1 (.fz 179)]⟩),(47,⟨[.gc [2,3]],[],[]⟩),(48,⟨[],[],[.n 1 (.fz 184)]⟩),(49,⟨[.gc [2,3]],[],[]⟩),(50,⟨[.gc [2,3,7,8,13]],[],[]⟩)]
@[irreducible] def c1z:MC:=rdc (cK Tryz.prog Tryz.f22 a_h [] 7)
@[irreducible] def c61:MC:=rdc (cK Tryz.prog Tryz.f22 a_h [(7,c1z)] 16)
@[irreducible] def d3s:MC:=rdc (cK Tryz.prog Tryz.f22 a_h [(7,c1z),(16,c61)] 10000044)
@[irreducible] def d48:MC:=rdc (cK Tryz.prog Tryz.f22 a_h [(7,c1z),(16,c61),(10000044,d3s)] 25)
def g2v:MC:=rdc (cT Tryz.prog Tryz.f22 a_h [(7,c1z),(16,c61),(10000044,d3s),(25,d48)])
theorem b5g {qB:List Str} {s_:Str} {y:Int} (hy:F_x qB s_=some y):a0o Tryz.prog 69 [.osl 1000 1 0 qB.length,.str s_] [(1000,.arr 1 (qB.map V.str))] (fun r H=>r=.int .i64 y∧H=(1000,.arr 1 (qB.map V.str))::[]):=by
 refine c6w (n:=1000) (k:=1) (args:=[.osl 1000 1 0 qB.length,.str s_]) ?_ (by simp [V.sealOK,V.sealOKs]) (by simp [V.lf,V.lfL,a0s]) rfl (fun id o ho=>?_)
 ·have h:=g5j.c.w hy
  simpa [V.shut,V.sealL,d8i] using h
 ·cases ho
instance g9h {l_:List d9}:WI (F_h l_) Tryz.prog 22 [.sl (l_.map d9.v)] [] (fun z=>.tup [l8.v z.1,l9.v z.2.1,.sl (z.2.2.1.map V.str),.int .i64 z.2.2.2]) (fun z=>[]):=⟨fun Q Q' h hQ=>by
 refine a2g g2v [.fzc 2,.fzc 3,.fz 4] [] [.c 2 (some 2),.c 3 (some 2),.t 4,.t 5] Tryz.func22 fun M=>?_
 unfold F_h at h
 unfold g2v
 replace h:=tY h
 refine tB ?_
 repeat' (first
 | (exact tZ)
 | ((first|refine b3a h ?_|refine a3y h ?_|refine b3m h ?_|refine b3l h ?_|refine b3t h ?_|refine appG h ?_|refine b3v h ?_|refine fork h ?_ ?_|refine a4a h ?_ ?_)<;>clear h<;>intro hc h)
 | (obtain ⟨y,hy,h⟩:=h;have hw:=o9 1501 60465 (o9 1500 60464 (o9 1001 44513 (o9 1000 4128 (f3d.c.w hy))));replace hw:=tY hw;(first|refine M.sC hw ?_|refine M.sD hw ?_);clear hw hy;refine tB ?_)
 | (obtain ⟨y,hy,h⟩:=h;have hw:=o9 1501 63537 (o9 1500 63536 (o9 1001 44513 (o9 1000 4128 (f3d.c.w hy))));replace hw:=tY hw;(first|refine M.sC hw ?_|refine M.sD hw ?_);clear hw hy;refine tB ?_)
 | (obtain ⟨y,hy,h⟩:=h;(first|have hw:=o9 1000 2007 (b5g hy)|have hw:=o9 1501 75313 (o9 1000 53201 (g1m.c.w hy))|have hw:=WI.w hy);replace hw:=tY hw;(first|refine M.sC hw ?_|refine M.sD hw ?_);clear hw hy;refine tB ?_)
 | (refine M.for1 (b:=c1z) 27 [0,2,3,8,25,26] [8,3,2] (fun x=>[(7,.osl 2007 1 0 x.2.length)]) (fun x=>[.p 8 0 [.osl 4128 1 0 x.1.length],.o 4128 (.arr 1 (x.1.map (V.int .i64))),.o 2007 (.arr 1 (x.2.map V.str))]) [.gc [0,2,3,7,8,25,26,27],.acc 7 2007 1,.ownC 8 0 4128 1 none] h ?_ ?_ ?_<;>first
 | (clear h;intro k a x Qn K hK1 hkN1 ha1 h hf;have hl:=a1s (a0q (n:=26) hf.1 rfl);clear hf;have hkd:=kD hkN1;have hkB1:=kB hkN1;have hkI1:=kI (k:=k) (by omega);unfold f7r at h;unfold c1z;replace h:=tY h;refine tK ha1 hkd hkN1 hkB1 hkI1 ?_)
  |(clear h;intro x K h;replace h:=And.left (And.intro h trivial);unfold c1z;replace h:=tY h;refine tB ?_)
  |(clear h;(try refine tB ?_);exact tU0;done))
 | (refine M.gj1 (ms:=e0a) [0,2,3,7,8,12,56,57,58] [12,8,4128,2007,3,2] (fun y=>[(71,.bool y)]) (fun y=>[]) h ?_ ?_<;>first
 | (clear h;intro Qn K hK2 h;unfold e0a;replace h:=tY h;refine tB ?_)
  |(clear h;intro y h;replace h:=tY h;refine tB ?_))
 | (refine M.for1 (b:=c61) 58 [0,2,3,7,8,56,57] [8,4128,2007,3,2] (fun x=>[]) (fun x=>[]) [.gc [0,2,3,7,8,56,57,58],.ownC 8 0 4128 1 none] h ?_ ?_ ?_<;>first
 | (clear h;intro k a x Qn K hK3 hkN3 ha3 h hf;have hl:=a1s (a0q (n:=57) hf.1 rfl);clear hf;have hkd:=kD hkN3;have hkB3:=kB hkN3;have hkI3:=kI (k:=k) (by omega);unfold f5e at h;unfold c61;replace h:=tY h;refine tK ha3 hkd hkN3 hkB3 hkI3 ?_)
  |(clear h;intro x K h;replace h:=And.left (And.intro h trivial);unfold c61;replace h:=tY h;refine tB ?_)
  |(clear h;(try refine tB ?_);exact tU0;done))
 | (refine M.jnE (b:=d3s) [2,3,7,8,13,17,93,94,95] [13,4209,8,4128,4129,2007,3,2] (fun y=>[]) (fun y=>[.o 17 (.cells [.int .i64 y.Time,.int .i64 y.Kind,.int .i64 y.Place,.int .i64 y.Principal,.int .i64 y.Until,.int .i64 y.Content,.int .i64 y.From])]) [.gc [2,3,7,8,13,17,93,94,95],.ownC 13 1 4209 7 none,.ownC 8 0 4128 1 none,.ownC 8 1 4129 4 none] h ?_ ?_<;>first
 | (clear h;intro Qn K hK4 h;replace h:=tY h;refine tB ?_)
  |(clear h;intro y h;unfold d3s;replace h:=tY h;refine tB ?_))
 | (refine M.fold1 (b:=d48) 95 [2,3,7,8,13,93,94] [2007,3,2] (fun x=>[]) (fun x=>[.o 13 (.cells [.int .i64 x.1,.osl 4209 7 0 x.2.1.length]),.o 4209 (.arr 7 (x.2.1.map o6.v)),.o 8 (.cells [.osl 4128 1 0 x.2.2.1.length,.osl 4129 4 0 x.2.2.2.length]),.o 4128 (.arr 1 (x.2.2.1.map (V.int .i64))),.o 4129 (.arr 4 (x.2.2.2.map a01.v))]) [.gc [2,3,7,8,13,93,94,95],.ownC 13 1 4209 7 none,.ownC 8 0 4128 1 none,.ownC 8 1 4129 4 none] h ?_ ?_ ?_<;>first
 | (clear h;intro k a x Qn K hK5 hkN5 ha5 h hf;have hl:=a1s (a0q (n:=94) hf.1 rfl);clear hf;have hkd:=kD hkN5;have hkB5:=kB hkN5;have hkI5:=kI (k:=k) (by omega);unfold e6p at h;unfold d48;replace h:=tY h;refine tK ha5 hkd hkN5 hkB5 hkI5 ?_)
  |(clear h;intro x K h;replace h:=And.left (And.intro h trivial);unfold d48;replace h:=tY h;refine tB ?_)
  |(clear h;(try refine tB ?_);exact tU0;done))
 | (first|simp only [ha1]|simp only [ha3]|simp only [ha5])
 | ((first|refine hK1 _ ?_|refine hK2 _ ?_|refine hK3 _ ?_|refine hK4 _ ?_|refine hK5 _ ?_);(try refine tB ?_);refine ⟨_,h,?_⟩;exact tU0;done)
 | (refine tE8 (V.int .i64) ?_;(try (first|rw [M.lok_compU]|rw [M.lokD_compU]|(simp only [V.cells];first|rw [M.lok_comp]|rw [M.lokD_comp])));(try refine tB ?_))
 | (refine tE ?_;(first|rw [M.lok_compU]|rw [M.lokD_compU]);refine tB ?_)
 | (refine tA ?_)
 | fail)⟩
@[go_sem] def e6o (y2:l8×l9×(List Str)×Int) (k480:Int) (a481:Int) (x479:Str):Option Str :=
 chk (inb a481 y2.2.2.1.length) (chk (a4m ([32].length+(y2.2.2.1.getD (a481).toNat default).length)) (chk (a4m (x479.length+(([32]:Str)++(y2.2.2.1.getD (a481).toNat default)).length)) (some (x479++(([32]:Str)++(y2.2.2.1.getD (a481).toNat default))))))
@[go_sem] def f4g (y2:l8×l9×(List Str)×Int) (k382:Int) (a383:d9) (x381:Str):Option Str :=
 bif decide (a383.Kind=10) then (e6k y2.1 y2.2.1 a383.A a383.Time).bind fun y463=>jn (α:=Str) (bif y463.1.Public then chk (a4m (x381.length+[112,117,98,108,105,99].length)) (some (x381++[112,117,98,108,105,99])) else chk (a4m (x381.length+[105,110,115,105,100,101].length)) (some (x381++[105,110,115,105,100,101]))) fun j464=>(foldL (e6o y2) y463.1.Principals 0 j464).bind fun x482=>chk (a4m (x482.length+[10].length)) (some (x482++[10])) else bif decide (a383.Kind=11) then (F_x y2.2.2.1 a383.Name).bind fun y485=>(e6j y2.1 y2.2.1 a383.A y485).bind fun y486=>bif y486.2 then (a5l y486.1).bind fun y487=>chk (a4m (y487.length+[10].length)) (chk (a4m (x381.length+(y487++[10]).length)) (some (x381++(y487++[10])))) else chk (a4m (x381.length+[110,101,118,101,114,10].length)) (some (x381++[110,101,118,101,114,10])) else some x381
def f5c (l_:List d9):Option (Str×Int) :=
 (F_h l_).bind fun y2=>bif (!decide (y2.2.2.2=0)) then some ([],y2.2.2.2) else (foldL (f4g y2) l_ 0 []).bind fun x488=>some (x488,0)
def f6d:List (Nat×RN):=[(3,⟨[.gc [7]],[],[]⟩),(5,⟨[.gc [0,4,5,6,8]],[],[]⟩),(12,⟨[.gc [4,5,6,8,11,27,28,29]],[],[]⟩),(13,⟨[.gc [4,5,6,8,11,27,28,29]],[],[]⟩),(21,⟨[.gc [4,5,6,8,10,27,28,29]],[],[]⟩),(23,⟨[.gc [4,5,6,8,15,27,28,29]],[],[]⟩),(24,⟨[.gc [4,5,6,8,27,28,29]],[],[]⟩)]
@[irreducible] def d47:MC:=rdc (cK Tryz.prog Tryz.f25 f6d [] 15)
@[irreducible] def e0i:MC:=rdc (cK Tryz.prog Tryz.f25 f6d [(15,d47)] 10000014)
@[irreducible] def e9d:MC:=rdc (cK Tryz.prog Tryz.f25 f6d [(15,d47),(10000014,e0i)] 6)
instance:LI d47 56 55 [4,5,6,27,28,29,54,55] [5,4] (fun y:Str=>[(8,.str y)]) (fun y=>[]) []:=⟨⟩
instance:LI e0i 0 0 [4,5,6,11,27,28,29] [11,5,4] (fun y:Str=>[(8,.str y)]) (fun y=>[]) []:=⟨⟩
instance:LI e9d 29 28 [4,5,6,27,28] [5,4] (fun y:Str=>[(8,.str y)]) (fun y=>[]) []:=⟨⟩
instance g7q {l_:List d9}:WJ (f5c l_) 25 [.sl (l_.map d9.v)] fun z=>.tup [.str z.1,.int .i64 z.2]:=wX Tryz.func25 f6d [(15,d47),(10000014,e0i),(6,e9d)] (h:=fun _ _ h hQ M=>by unfold f5c at h;exact tX)
@[go_sem] def F_y (s_:Str) (x13:Int×Int):Option (Fl (Int×Int) (Sum Int Int)) := bif decide (x13.2<(s_.length:Int)) then chk (inb x13.2 s_.length) (bif decide (((s_.getD (x13.2).toNat 0).toNat:Int)<48) then some (.ex (.inr (-1))) else chk (inb x13.2 s_.length) (bif decide (57<((s_.getD (x13.2).toNat 0).toNat:Int)) then some (.ex (.inr (-1))) else chk (a0j (10*x13.1)) (chk (inb x13.2 s_.length) (chk (a0j ((10*x13.1)+((u8 (((s_.getD (x13.2).toNat 0).toNat:Int) - 48)).toNat:Int))) (chk (a0j (x13.2+1)) (some (.nx (((10*x13.1)+((u8 (((s_.getD (x13.2).toNat 0).toNat:Int) - 48)).toNat:Int)),(x13.2+1))))))))) else some (.ex (.inl x13.1))
def F_6 (s_:Str):Option Int := grp ((decide ((s_.length:Int)<1)||decide (6<(s_.length:Int)))) fun b4=>bif b4 then some (-1) else (loop (F_y s_) (0,0)).bind fun r14=>Sum.elim (fun u15=>some u15) (fun u16=>some u16) r14
def a_6:List (Nat×RN):=[(1,⟨[],[],[.v 4 7]⟩),(6,⟨[.gc [0,3,4,24,25,26,27]],[],[]⟩),(9,⟨[.gc [0,3,4,24,25,26,27]],[],[]⟩)]
@[irreducible] def g2o:MC:=rdc (cK Tryz.prog Tryz.f119 a_6 [] 5)
instance:LI g2o 0 0 [0] [] (fun y:Int×Int=>[(3,.int .i64 y.1),(4,.int .i64 y.2)]) (fun y=>[]) []:=⟨⟩
instance g9n {s_:Str}:WJ (F_6 s_) 119 [.str s_] (.int .i64):=wX Tryz.func119 a_6 [(5,g2o)] (h:=fun _ _ h hQ M=>by unfold F_6 at h;exact tX)
def F_z (y2:List Str) (k22:Int) (a23:Str) (x21:d9):Option d9 := chk (inb 0 y2.length) (bif decide ((y2.getD 0 default)=a23) then some (d9.mk (k22+1) x21.Name x21.Other x21.Time x21.A x21.B) else some x21)
def d6m (k128:Int) (a129:Str) (x127:d9):Option d9 :=
 (d87 x127.Kind).bind fun y149=>chk (inb k128 y149.length) (bif decide (((y149.getD (k128).toNat 0).toNat:Int)=116) then (F_6 a129).bind fun y150=>some (d9.mk x127.Kind x127.Name x127.Other y150 x127.A x127.B) else bif decide (((y149.getD (k128).toNat 0).toNat:Int)=110) then some (d9.mk x127.Kind a129 x127.Other x127.Time x127.A x127.B) else bif decide (((y149.getD (k128).toNat 0).toNat:Int)=111) then some (d9.mk x127.Kind x127.Name a129 x127.Time x127.A x127.B) else jn (α:=Bool) (bif decide (((y149.getD (k128).toNat 0).toNat:Int)=112) then some true else some (decide (((y149.getD (k128).toNat 0).toNat:Int)=99))) fun j151=>bif j151 then (F_6 a129).bind fun y152=>some (d9.mk x127.Kind x127.Name x127.Other x127.Time y152 x127.B) else (F_6 a129).bind fun y153=>some (d9.mk x127.Kind x127.Name x127.Other x127.Time x127.A y153))
def F_7 (s_:Str):Option (d9×Bool) := (e6r s_ 32).bind fun y2=>e3x.bind fun y15=>(foldL (F_z y2) [y15.e0,y15.e1,y15.e2,y15.e3,y15.e4,y15.e5,y15.e6,y15.e7,y15.e8,y15.e9,y15.e10] 0 (d9.mk 0 [] [] 0 0 0)).bind fun x24=>bif decide (x24.Kind=0) then some ((d9.mk 0 [] [] 0 0 0),false) else (d87 x24.Kind).bind fun y28=>chk (a0j (1+(y28.length:Int))) (bif (!decide ((y2.length:Int)=(1+(y28.length:Int)))) then some ((d9.mk 0 [] [] 0 0 0),false) else chk (inc 1 (y2.length:Int) y2.length) ((foldL d6m (y2.drop 1) 0 x24).bind fun x154=>(F_g x154).bind fun y157=>bif y157 then (F_o x154).bind fun y158=>chk (a4m (s_.length+[10].length)) (some (x154,decide (y158=(s_++[10])))) else some (x154,false)))
def a_7:List (Nat×RN):=[(7,⟨[.gc [0,2,4,5,6,12,13,30,31,32,33,34,35,36,37,80,81,82,83,84]],[],[]⟩),(10,⟨[.gc [2]],[],[]⟩),(11,⟨[.gc [0,2,4,5,80,81,82,83,84]],[],[]⟩),(17,⟨[.gc [0,2,5,9,41,42,43,80,81,82,83,84]],[],[]⟩),(19,⟨[.gc [0,2,5,9,41,42,43,80,81,82,83,84]],[],[]⟩),(21,⟨[.gc [0,2,5,9,41,42,43,80,81,82,83,84]],[],[]⟩)]
@[irreducible] def e5q:MC:=rdc (cK Tryz.prog Tryz.f76 a_7 [] 4)
@[irreducible] def d3r:MC:=rdc (cK Tryz.prog Tryz.f76 a_7 [(4,e5q)] 10000024)
@[irreducible] def d4b:MC:=rdc (cK Tryz.prog Tryz.f76 a_7 [(4,e5q),(10000024,d3r)] 12)
def g31:MC:=rdc (cT Tryz.prog Tryz.f76 a_7 [(4,e5q),(10000024,d3r),(12,d4b)])
instance g9m {s_:Str}:WI (F_7 s_) Tryz.prog 76 [.str s_] [] (fun z=>.tup [d9.v z.1,.bool z.2]) (fun z=>[]):=⟨fun Q Q' h hQ=>by
 refine a2g g31 [] [] [.c 2 (some 6),.t 3] Tryz.func76 fun M=>?_
 unfold F_7 at h
 unfold g31
 replace h:=tY h
 refine tB ?_
 repeat' (first
 | (exact tZ)
 | ((first|refine b3a h ?_|refine a3y h ?_|refine b3m h ?_|refine b3l h ?_|refine b3t h ?_|refine appG h ?_|refine b3v h ?_|refine fork h ?_ ?_|refine a4a h ?_ ?_)<;>clear h<;>intro hc h)
 | (obtain ⟨y,hy,h⟩:=h;have hw:=WI.w hy;replace hw:=tY hw;(first|refine M.sC hw ?_|refine M.sD hw ?_);clear hw hy;refine tB ?_)
 | (refine M.fold1 (b:=e5q) 13 [0,2,4,5,12] [2] (fun x=>[]) (fun x=>[.o 5 (.cells [.int .i64 x.Kind,.str x.Name,.str x.Other,.int .i64 x.Time,.int .i64 x.A,.int .i64 x.B])]) [] h ?_ ?_ ?_<;>first
 | (clear h;intro k a x Qn K hK1 hkN1 ha1 h hf;skip;clear hf;have hkd:=kD hkN1;have hkB1:=kB hkN1;have hkI1:=kI (k:=k) (by (try simp only [x5,wK] at hkN1);omega);have hkd1:decide ((k:Int)<11)=true:=wR (by simp only [x5,wK] at hkN1;omega);have hkr1:(0≤(k:Int)∧(k:Int)<11)=True:=eq_true (by simp only [x5,wK] at hkN1;omega);have hle1:(k*1≤10)=True:=eq_true (by simp only [x5,wK] at hkN1;omega);have hpt1:=b89 (f:=fun e:Str=>.str e) ha1 hkN1;(try simp only [go_sem,Nat.reduceBEq,Nat.reduceAdd,Nat.reduceLeDiff,Nat.reduceSub,Nat.reduceMul,Int.reduceToNat,Int.reduceLT,Int.reduceLE,xS,List.flatMap_nil,wW,vE] at hpt1);unfold F_z at h;unfold e5q;replace h:=tY h;refine tKA ha1 hkd hkN1 hkB1 hkI1 hkd1 hkr1 hle1 hpt1 ?_)
  |(clear h;intro x K h;replace h:=And.left (And.intro h trivial);unfold e5q;replace h:=tY h;refine tB ?_)
  |(clear h;(try refine tB ?_);exact tU0;done))
 | (refine M.jn1 (b:=d3r) [0,2,5,9,41,42,43] [5,2] (fun y=>[(69,.bool y)]) (fun y=>[]) [] h ?_ ?_<;>first
 | (clear h;intro Qn K hK2 h;replace h:=tY h;refine tB ?_)
  |(clear h;intro y h;unfold d3r;replace h:=tY h;refine tB ?_))
 | (refine M.fold1 (b:=d4b) 43 [0,2,5,41,42] [2] (fun x=>[]) (fun x=>[.o 5 (.cells [.int .i64 x.Kind,.str x.Name,.str x.Other,.int .i64 x.Time,.int .i64 x.A,.int .i64 x.B])]) [] h ?_ ?_ ?_<;>first
 | (clear h;intro k a x Qn K hK3 hkN3 ha3 h hf;have hl:=a1s (a0q (n:=42) hf.1 rfl);clear hf;have hkd:=kD hkN3;have hkB3:=kB hkN3;have hkI3:=kI (k:=k) (by omega);unfold d6m at h;unfold d4b;replace h:=tY h;refine tK ha3 hkd hkN3 hkB3 hkI3 ?_)
  |(clear h;intro x K h;replace h:=And.left (And.intro h trivial);unfold d4b;replace h:=tY h;refine tB ?_)
  |(clear h;(try refine tB ?_);exact tU0;done))
 | (first|simp only [ha1]|simp only [ha3])
 | ((first|refine hK1 _ ?_|refine hK2 _ ?_|refine hK3 _ ?_);(try refine tB ?_);refine ⟨_,h,?_⟩;exact tU0;done)
 | (refine tE ?_;(first|rw [M.lok_compU]|rw [M.lokD_compU]);refine tB ?_)
 | (refine tA ?_)
 | fail)⟩
@[go_sem] def e4i (k48:Int) (a49:Str) (x47:List d9):Option (Fl (List d9) ((List d9)×Int×Int)) :=
 (F_7 a49).bind fun y57=>bif (!y57.2) then some (.ex ([],k48,45)) else chk (room (x47.length+[y57.1].length) 64) (some (.nx (x47++[y57.1])))
def f4y (jC:Str):Option ((List d9)×Int×Int) :=
 (e6r jC 10).bind fun y2=>chk (a0j ((y2.length:Int) - 1)) (chk (inb ((y2.length:Int) - 1) y2.length) (chk (a0j ((y2.length:Int) - 1)) (chk (inc 0 ((y2.length:Int) - 1) y2.length) (jn (α:=Int) (bif (!decide ((y2.getD (((y2.length:Int) - 1)).toNat default)=[])) then chk (a0j (((y2.take ((((y2.length:Int) - 1)).toNat)).length:Int)+1)) (some (((y2.take ((((y2.length:Int) - 1)).toNat)).length:Int)+1)) else some ((y2.take ((((y2.length:Int) - 1)).toNat)).length:Int)) fun j3=>bif decide (60<j3) then some ([],60,3) else (forL e4i (y2.take ((((y2.length:Int) - 1)).toNat)) 0 []).bind fun o=>o.elim (fun x58=>bif (!decide ((y2.getD (((y2.length:Int) - 1)).toNat default)=[])) then some ([],((y2.take ((((y2.length:Int) - 1)).toNat)).length:Int),45) else some (x58,0,0)) (fun r59=>some r59)))))
def g1a:List (Nat×RN):=[(3,⟨[.gc [5,6]],[],[]⟩),(6,⟨[.gc [5,6,7]],[],[]⟩),(9,⟨[],[.k 0 1],[]⟩),(15,⟨[.gc [9]],[],[]⟩),(16,⟨[.gc [5,6,8,11,34,35,36]],[],[]⟩),(19,⟨[.gc [5]],[],[]⟩),(20,⟨[.gc [8]],[],[]⟩)]
@[irreducible] def e0z:MC:=rdc (cK Tryz.prog Tryz.f27 g1a [] 11)
@[irreducible] def e88:MC:=rdc (cK Tryz.prog Tryz.f27 g1a [(11,e0z)] 10000007)
instance:LI e0z 36 35 [5,6,34,35] [] (fun y:List d9=>[(8,.osl 2008 6 0 y.length)]) (fun y=>[.o 2008 (.arr 6 (y.map d9.v))]) [.gc [5,6,8,34,35,36],.acc 8 2008 6]:=⟨⟩
instance:LI e88 0 0 [5,6] [] (fun y:Int=>[(7,.int .i64 y)]) (fun y=>[]) []:=⟨⟩
instance g7b {jC:Str}:WJ (f4y jC) 27 [.str jC] fun z=>.tup [.sl (z.1.map d9.v),.int .i64 z.2.1,.int .i64 z.2.2]:=wX Tryz.func27 g1a [(11,e0z),(10000007,e88)] [.fz 2] (h:=fun _ _ h hQ M=>by unfold f4y at h;exact tX)
@[go_sem] def f6s (b_:List d9) (k11:Int) (a12:d9) (x10:Unit):Option (Fl Unit Bool) :=
 chk (inb k11 b_.length) (bif (!(decide (a12.Kind=(b_.getD (k11).toNat default).Kind)&&(decide (a12.Name=(b_.getD (k11).toNat default).Name)&&(decide (a12.Other=(b_.getD (k11).toNat default).Other)&&(decide (a12.Time=(b_.getD (k11).toNat default).Time)&&(decide (a12.A=(b_.getD (k11).toNat default).A)&&decide (a12.B=(b_.getD (k11).toNat default).B))))))) then some (.ex false) else some (.nx ()))
def f3m (a_:List d9) (b_:List d9):Option Bool :=
 bif (!decide ((a_.length:Int)=(b_.length:Int))) then some false else (forL (f6s b_) a_ 0 ()).bind fun o=>o.elim (fun x13=>some true) (fun r14=>some r14)
@[irreducible] def e8p:MC:=rdc (cK Tryz.prog Tryz.f28 [] [] 4)
instance:LI e8p 13 12 [0,1,12] [] (fun y:Unit=>[]) (fun y=>[]) []:=⟨⟩
instance g5z {a_ b_:List d9}:WJ (f3m a_ b_) 28 [.sl (a_.map d9.v),.sl (b_.map d9.v)] .bool:=wX Tryz.func28 [] [(4,e8p)] (h:=fun _ _ h hQ M=>by unfold f3m at h;exact tX)
end
end Go.Ab