/- What the functions of this seat that lie on the laws' road compute (part LM), each for every input. By AI agents. -/
import Derived.Test.YtnaeedamiaoipaaGreatDoorLT
set_option linter.all false
set_option maxRecDepth 20000
set_option maxHeartbeats 2000000
namespace Go.Ab
open Go.Proofs
noncomputable section
def d6b (d_:l8) (a_:l9):Option Int :=
 (d6l d_).bind fun y4=>bif (!decide (y4=0)) then some y4 else (F_j a_).bind fun y6=>some y6
instance g7h {d_:l8} {a_:l9}:WJ (d6b d_ a_) 121 [l8.v d_,l9.v a_] (.int .i64):=wX Tryz.func121 [(4,⟨[.gc [3]],[],[]⟩)] (h:=fun _ _ h hQ M=>by unfold d6b at h;exact tX)
def F_2 (a_:l9) (qA:Int):Option Bool := (F_j a_).bind fun y4=>jn (α:=Bool) (bif decide (y4=0) then (d2d a_ qA).bind fun y6=>some y6 else some false) fun j7=>some j7
instance f0o {m:List MOp}:GI (gjt 1510104 m) [4] [] (fun y:Bool=>[(12,.bool y)]) (fun y=>[]):=⟨⟩
instance g9r {a_:l9} {qA:Int}:WJ (F_2 a_ qA) 151 [l9.v a_,.int .i64 qA] .bool:=wX Tryz.func151 [(1,⟨[],[],[.w 4 7 1510104]⟩)] (h:=fun _ _ h hQ M=>by unfold F_2 at h;exact tX)
def f6l (qA:Int) (t_:Int) (k24:Int) (a19:Int×o6) (x18:Unit):Option (Fl Unit (Int×Bool)) :=
 grp ((decide (t_<a19.2.Time)||(!decide (a19.2.Place=qA)))) fun b26=>bif b26 then some (.nx ()) else bif decide (a19.2.Kind=4) then some (.ex (0,false)) else grp ((decide (a19.2.Kind=3)&&decide (t_<a19.2.Until))) fun b28=>bif b28 then some (.ex (a19.1,true)) else some (.nx ())
def F_3 (a_:l9) (qA:Int) (t_:Int):Option (Int×Bool) := (F_2 a_ qA).bind fun y4=>bif (!y4) then some (0,false) else (e3h a_.Events).bind fun y17=>(forL (f6l qA t_) (d22 a_.Events) 0 ()).bind fun o=>o.elim (fun x29=>some (0,false)) (fun r30=>some r30)
@[irreducible] def e0c:List MOp:=rdc (cG Tryz.prog Tryz.f123 [] 6 5 9)
@[irreducible] def e0b:List MOp:=rdc (cG Tryz.prog Tryz.f123 [] 9 4 8)
def a_3:List (Nat×RN):=[(6,⟨[.gc [4,5,6,7,8,9,25,26,27,28,39,40,41,42]],[],[.u 5 9 e0c]⟩),(7,⟨[.gc [5,6,7,8,9,39,40,41,42]],[],[]⟩),(9,⟨[],[],[.u 4 8 e0b]⟩),(10,⟨[.gc [6,7,8]],[],[]⟩)]
@[irreducible] def e0o:MC:=rdc (cK Tryz.prog Tryz.f123 a_3 [] 6)
def g33:MC:=rdc (cT Tryz.prog Tryz.f123 a_3 [(6,e0o)])
instance g9q {a_:l9} {qA t_:Int}:WI (F_3 a_ qA t_) Tryz.prog 123 [l9.v a_,.int .i64 qA,.int .i64 t_] [] (fun z=>.tup [.int .i64 z.1,.bool z.2]) (fun z=>[]):=⟨fun Q Q' h hQ=>by
 refine a2g g33 [] [] [.c 6 none,.c 7 none] Tryz.func123 fun M=>?_
 unfold F_3 at h
 unfold g33
 replace h:=tY h
 refine tB ?_
 repeat' (first
 | (exact tZ)
 | ((first|refine b3a h ?_|refine a3y h ?_|refine b3m h ?_|refine b3l h ?_|refine b3t h ?_|refine appG h ?_|refine b3v h ?_|refine fork h ?_ ?_|refine a4a h ?_ ?_)<;>clear h<;>intro hc h)
 | (obtain ⟨y,hy,h⟩:=h;(first|have hw:=g8o (f:=o6.v) hy|have hw:=WI.w hy);replace hw:=tY hw;(first|refine M.sC hw ?_|refine M.sD hw ?_);clear hw hy;refine tB ?_)
 | (refine M.gv1 (ms:=e0b) 43 [39,40,41,42] h ?_ ?_<;>first
 | (clear h;intro K hK1;unfold e0b;refine tB ?_)
 | (clear h;intro b h;replace h:=tY h;refine tB ?_))
 | (refine M.gv1 (ms:=e0c) 29 [25,26,27,28] h ?_ ?_<;>first
 | (clear h;intro K hK2;unfold e0c;refine tB ?_)
 | (clear h;intro b h;replace h:=tY h;refine tB ?_))
 | (refine M.rfor (b:=e0o) (enc:=fun a=>[.int .i64 a.1,o6.v a.2]) [3,4,5,6,7] [3,7,6,5,4] (fun x=>[]) [] h rfl (g8n fun a=>⟨_,rfl,rfl,rfl⟩) rfl (fun a=>⟨rfl,rfl⟩) ?_ ?_ rfl ?_<;>first
 | (clear h;intro k a x Qn K hK3 hkN3 h hf;clear hf;unfold f6l at h;unfold e0o;replace h:=tY h;refine tB ?_)
  |(clear h;intro x h;replace h:=tY h;refine tB ?_)
  |(clear h;(try refine tB ?_);exact tU0;done))
 | ((first|refine hK1 _ ?_|refine hK2 _ ?_);exact tU;done)
 | (refine hK3 _ ?_;(try refine tB ?_);refine ⟨_,h,?_⟩;exact tU0;done)
 | (refine d5t (fun hc=>?_) (fun hc=>?_))
 | (refine tE ?_;(first|rw [M.lok_compU]|rw [M.lokD_compU]);refine tB ?_)
 | (refine tA ?_)
 | fail)⟩
def f3s (d_:l8) (p_:Int):Option Bool :=
 grp ((decide (0≤p_)&&decide (p_<(d_.Kinds.length:Int)))) fun b3=>jn (α:=Bool) (bif b3 then chk (inb p_ d_.Kinds.length) (some (!decide ((d_.Kinds.getD (p_).toNat default)=2))) else some false) fun j4=>some j4
instance f0k {m:List MOp}:GI (gjt 1890110 m) [4] [] (fun y:Bool=>[(21,.bool y)]) (fun y=>[]):=⟨⟩
instance g65 {d_:l8} {p_:Int}:WJ (f3s d_ p_) 189 [l8.v d_,.int .i64 p_] .bool:=wX Tryz.func189 [(1,⟨[],[],[.v 3 8,.w 10 16 1890110]⟩)] (h:=fun _ _ h hQ M=>by unfold f3s at h;exact tX)
def e68 (d_:l8) (a_:l9) (p_:Int) (qA:Int):Option Bool :=
 (d6b d_ a_).bind fun y6=>jn (α:=Bool) (bif decide (y6=0) then (f3s d_ p_).bind fun y8=>some y8 else some false) fun j9=>jn (α:=Bool) (bif j9 then (d2d a_ qA).bind fun y11=>some y11 else some false) fun j12=>some j12
instance f0m {m:List MOp}:GI (gjt 1530110 m) [8] [] (fun y:Bool=>[(22,.bool y)]) (fun y=>[]):=⟨⟩
instance f0n {m:List MOp}:GI (gjt 1530105 m) [3,5,8] [5] (fun y:Bool=>[(17,.bool y)]) (fun y=>[]):=⟨⟩
instance g6j {d_:l8} {a_:l9} {p_ qA:Int}:WJ (e68 d_ a_ p_ qA) 153 [l8.v d_,l9.v a_,.int .i64 p_,.int .i64 qA] .bool:=wX Tryz.func153 [(1,⟨[],[],[.w 5 8 1530105,.w 10 13 1530110]⟩)] (h:=fun _ _ h hQ M=>by unfold e68 at h;exact tX)
def e67 (d_:l8) (p_:Int):Option Bool :=
 (d6l d_).bind fun y4=>jn (α:=Bool) (bif decide (y4=0) then (e4a d_ p_).bind fun y6=>some y6 else some false) fun j7=>some j7
instance f0j {m:List MOp}:GI (gjt 2150104 m) [4] [] (fun y:Bool=>[(12,.bool y)]) (fun y=>[]):=⟨⟩
instance g6i {d_:l8} {p_:Int}:WJ (e67 d_ p_) 215 [l8.v d_,.int .i64 p_] .bool:=wX Tryz.func215 [(1,⟨[],[],[.w 4 7 2150104]⟩)] (h:=fun _ _ h hQ M=>by unfold e67 at h;exact tX)
@[go_sem] def e6m (k351:Int) (a352:Bool) (x350:(List Int)×(List Bool)):Option ((List Int)×(List Bool)) :=
 jn (α:=Bool) (bif a352 then chk (inb k351 x350.2.length) (some (!(x350.2.getD ((k351).toNat) default))) else some false) fun j360=>bif j360 then chk (room (x350.1.length+[k351].length) 8) (chk (inb k351 x350.2.length) (some ((x350.1++[k351]),x350.2.set ((k351).toNat) true))) else some (x350.1,x350.2)
@[go_sem] def f4l (x_:List (List Bool)) (x257:(List Int)×(List Bool)):Option (Fl ((List Int)×(List Bool)) (List Bool)) :=
 bif decide (0<(x257.1.length:Int)) then chk (inb 0 x257.1.length) (chk (inb (x257.1.getD 0 default) x_.length) ((foldL e6m (x_.getD (x257.1.getD 0 default).toNat default) 0 (x257.1,x257.2)).bind fun x361=>chk (inc 1 (x361.1.length:Int) x361.1.length) (some (.nx ((x361.1.drop 1).take (x361.1.length - 1),x361.2))))) else some (.ex x257.2)
def e4v (x_:List (List Bool)) (p_:Int):Option (List Bool) :=
 chk (b5l (x_.length:Int) (x_.length:Int) 1) (chk (inb p_ (List.replicate ((x_.length:Int)).toNat false).length) ((loop (f4l x_) ([p_],(List.replicate ((x_.length:Int)).toNat false).set ((p_).toNat) true)).bind fun r362=>some r362))
def g1f:List (Nat×RN):=[(9,⟨[],[],[.w 2 7 2180902]⟩)]
@[irreducible] def e0y:MC:=rdc (cK Tryz.prog Tryz.f218 g1f [] 7)
@[irreducible] def e9i:MC:=rdc (cK Tryz.prog Tryz.f218 g1f [(7,e0y)] 4)
instance f0i {m:List MOp}:GI (gjt 2180902 m) [0,5,6,7,27,28,29] [2006,11] (fun y:Bool=>[(41,.bool y)]) (fun y=>[]):=⟨⟩
instance:LI e0y 29 28 [0,27,28] [] (fun y:(List Int)×(List Bool)=>[(5,.osl 11 1 0 y.2.length),(6,.osl 2006 1 0 y.1.length)]) (fun y=>[.o 2006 (.arr 1 (y.1.map (V.int .i64))),.o 11 (.arr 1 (y.2.map V.bool))]) [.gc [0,5,6,27,28,29],.acc 6 2006 1]:=⟨⟩
instance:LI e9i 0 0 [0] [] (fun y:(List Int)×(List Bool)=>[(5,.osl 11 1 0 y.2.length),(6,.osl 2006 1 0 y.1.length)]) (fun y=>[.o 2006 (.arr 1 (y.1.map (V.int .i64))),.o 11 (.arr 1 (y.2.map V.bool))]) [.gc [0,5,6],.trim 6,.acc 6 2006 1]:=⟨⟩
instance g8a {x_:List (List Bool)} {p_:Int}:WJ (e4v x_ p_) 218 [.sl (x_.map (slV V.bool)),.int .i64 p_] fun z=>.sl (z.map V.bool):=wX Tryz.func218 g1f [(7,e0y),(4,e9i)] [.fz 4] (h:=fun _ _ h hQ M=>by unfold e4v at h;exact tX)
@[go_sem] def f7e (k16:Int) (a17:Bool) (x15:List Int):Option (List Int) :=
 bif a17 then chk (room (x15.length+[k16].length) 8) (some (x15++[k16])) else some x15
def e4r (l_:List Bool):Option (List Int) :=
 (foldL f7e l_ 0 []).bind fun x18=>some x18
def g41:List (Nat×RN):=[(1,⟨[],[.k 0 1],[]⟩)]
@[irreducible] def e91:MC:=rdc (cK Tryz.prog Tryz.f216 g41 [] 3)
instance:LI e91 8 7 [6,7] [] (fun y:List Int=>[(3,.osl 2003 1 0 y.length)]) (fun y=>[.o 2003 (.arr 1 (y.map (V.int .i64)))]) [.gc [3,6,7,8],.acc 3 2003 1]:=⟨⟩
instance g82 {l_:List Bool}:WJ (e4r l_) 216 [.sl (l_.map V.bool)] fun z=>.sl (z.map (V.int .i64)):=wX Tryz.func216 g41 [(3,e91)] [.fz 2] (h:=fun _ _ h hQ M=>by unfold e4r at h;exact tX)
def d88 (d_:l8) (p_:Int) (t_:Int):Option (List Int) :=
 (e67 d_ p_).bind fun y4=>bif (!y4) then some [] else (atF d_.Kinds.length (d_.Events.map fun e=>(e.Time,e.Kind,e.Principal,e.Group)) t_).bind fun y8=>(e4v y8 p_).bind fun y9=>(e4r y9).bind fun y10=>some y10
def e9x:MC:=rdc (cT Tryz.prog Tryz.f190 [] [])
instance g89 {d_:l8} {p_ t_:Int}:WI (d88 d_ p_ t_) Tryz.prog 190 [l8.v d_,.int .i64 p_,.int .i64 t_] [] (fun z=>.sl (z.map (V.int .i64))) (fun z=>[]):=⟨fun Q Q' h hQ=>by
 refine a2g e9x [.fz 6] [] [.t 6] Tryz.func190 fun M=>?_
 unfold d88 at h
 unfold e9x
 replace h:=tY h
 refine tB ?_
 repeat' (first
 | (exact tZ)
 | ((first|refine b3a h ?_|refine a3y h ?_|refine b3m h ?_|refine b3l h ?_|refine b3t h ?_|refine appG h ?_|refine b3v h ?_|refine fork h ?_ ?_|refine a4a h ?_ ?_)<;>clear h<;>intro hc h)
 | (obtain ⟨y,hy,h⟩:=h;(first|have hw:=g8m (f:=a01.v) (e4:=fun e=>(e.Time,e.Kind,e.Principal,e.Group)) (fun _=>rfl) hy|have hw:=WI.w hy);replace hw:=tY hw;(first|refine M.sC hw ?_|refine M.sD hw ?_);clear hw hy;refine tB ?_)
 | (refine tE ?_;(first|rw [M.lok_compU]|rw [M.lokD_compU]);refine tB ?_)
 | (refine tA ?_)
 | fail)⟩
@[go_sem] def f7d (qA:Int) (t_:Int) (k44:Int) (a45:o6) (x43:List (Int×Int)):Option (List (Int×Int)) :=
 grp ((decide (t_<a45.Time)||(!decide (a45.Place=qA)))) fun b53=>bif b53 then some x43 else bif decide (a45.Kind=1) then some (c0x a45.Principal k44 x43) else bif decide (a45.Kind=2) then some (c0r a45.Principal x43) else some x43
def e6l (a_:l9) (qA:Int) (t_:Int):Option (List (Int×Int)) :=
 (foldL (f7d qA t_) a_.Events 0 []).bind fun x54=>some x54
def g3q:List (Nat×RN):=[(5,⟨[],[],[.v 5 9]⟩),(6,⟨[.gc [1,2,7,8,9,12,13,14,25,26,27,28]],[],[]⟩),(9,⟨[.gc [1,2,7,9,12,13,14,25,26,27,28]],[],[]⟩)]
@[irreducible] def e90:MC:=rdc (cK Tryz.prog Tryz.f219 g3q [] 3)
instance:LI e90 14 13 [1,2,7,12,13] [] (fun y:List (Int×Int)=>[]) (fun y=>[.o 10 (.map (.int .i64) (y.map (kvV (V.int .i64) (V.int .i64))))]) []:=⟨⟩
instance g7g {a_:l9} {qA t_:Int}:WJ (e6l a_ qA t_) 219 [l9.v a_,.int .i64 qA,.int .i64 t_] fun z=>(mpV (.int .i64) (V.int .i64) (V.int .i64)) z:=wX Tryz.func219 g3q [(3,e90)] [.fz 6] (h:=fun _ _ h hQ M=>by unfold e6l at h;exact tX)
def f4v (k21:Int) (a19:Int×Int) (x18:List Int):Option (List Int) :=
 chk (room (x18.length+[a19.1].length) 8) (some (x18++[a19.1]))
def F_c (a_:l9) (qA:Int) (t_:Int):Option (List Int) := (F_2 a_ qA).bind fun y4=>bif (!y4) then some [] else (e6l a_ qA t_).bind fun y15=>c1r (fun l20=>(foldL f4v l20 0 []).bind fun x22=>(b40 x22).bind fun y24=>some y24) y15
def a_c:List (Nat×RN):=[(3,⟨[],[.k 0 1],[]⟩),(8,⟨[],[.c 1 0 [2007] []],[]⟩)]
@[irreducible] def e0w:MC:=rdc (cK Tryz.prog Tryz.f191 a_c [] 5)
def g2x:MC:=rdc (cT Tryz.prog Tryz.f191 a_c [(5,e0w)])
instance g9l {a_:l9} {qA t_:Int}:WI (F_c a_ qA t_) Tryz.prog 191 [l9.v a_,.int .i64 qA,.int .i64 t_] [] (fun z=>.sl (z.map (V.int .i64))) (fun z=>[]):=⟨fun Q Q' h hQ=>by
 refine a2g g2x [.fz 6] [] [.t 6] Tryz.func191 fun M=>?_
 unfold F_c at h
 unfold g2x
 replace h:=tY h
 refine tB ?_
 repeat' (first
 | (exact tZ)
 | (refine And.intro (by refine ⟨?_,?_,?_,?_⟩<;>omega) ?_;first|exact hQ _ h|(rw [zP (by omega)];exact hQ _ h))
 | (rw [←hlen];exact hQ _ h)
 | (have hq:=hQ _ h;simp only [x4,Nat.min_eq_left hlen.1] at hq;exact hq)
 | ((first|refine b3a h ?_|refine a3y h ?_|refine b3m h ?_|refine b3l h ?_|refine b3t h ?_|refine appG h ?_|refine b3v h ?_|refine fork h ?_ ?_|refine a4a h ?_ ?_)<;>clear h<;>intro hc h)
 | (obtain ⟨y,hy,h⟩:=h;(first|(have hw:=o9 1000 2007 (g4c hy);replace hw:=tY hw;(try simp only [hlen] at hw);have hlen:=b8t hy)|have hw:=WI.w hy);replace hw:=tY hw;(first|refine M.sC hw ?_|refine M.sD hw ?_);clear hw hy;refine tB ?_)
 | (refine M.mfold1 (b:=e0w) (kv:=(kvV (V.int .i64) (V.int .i64))) 17 [17] [] (fun x=>[(7,.osl 2007 1 0 x.length)]) (fun x=>[.o 2007 (.arr 1 (x.map (V.int .i64)))]) [.gc [7,17],.acc 7 2007 1] h ?_ ?_<;>first
 | (clear h;intro rem cur x k Qn K hK1 hs1 hn1;unfold f4v at hn1;unfold e0w;refine tB ?_)
 | (clear h;(try refine tB ?_);exact tU0;done))
 | (refine e7v hs1 hn1 ?_ ?_<;>first
  |(intro h;rw [M.lok_eq];replace h:=tY h;refine tB ?_)
  |(intro i a h;rw [M.lok_eq];replace h:=tY h;refine tB ?_))
 | (apply hK1;(try refine tB ?_);refine ⟨_,h,?_⟩;exact tU0;done)
 | (refine tE ?_;(first|rw [M.lok_compU]|rw [M.lokD_compU]);refine tB ?_)
 | (refine tA ?_)
 | fail)⟩
@[go_sem] def e6d (y2:List Int) (k37:Int) (a38:Int) (x36:Unit):Option (Fl Unit (Int×Bool)) :=
 (f3y y2 a38).bind fun y46=>bif y46 then some (.ex (a38,true)) else some (.nx ())
def e4q (d_:l8) (a_:l9) (p_:Int) (qA:Int) (t_:Int):Option (Int×Bool) :=
 (d88 d_ p_ t_).bind fun y2=>(F_c a_ qA t_).bind fun y25=>(forL (e6d y2) y25 0 ()).bind fun o=>o.elim (fun x47=>some (0,false)) (fun r48=>some r48)
def g40:List (Nat×RN):=[(2,⟨[.gc [3,4,6,12]],[],[]⟩),(6,⟨[.gc [14]],[],[]⟩)]
@[irreducible] def e9l:MC:=rdc (cK Tryz.prog Tryz.f154 g40 [] 3)
instance:LI e9l 24 23 [12,22,23] [] (fun y:Unit=>[]) (fun y=>[]) []:=⟨⟩
instance g81 {d_:l8} {a_:l9} {p_ qA t_:Int}:WJ (e4q d_ a_ p_ qA t_) 154 [l8.v d_,l9.v a_,.int .i64 p_,.int .i64 qA,.int .i64 t_] fun z=>.tup [.int .i64 z.1,.bool z.2]:=wX Tryz.func154 g40 [(3,e9l)] (h:=fun _ _ h hQ M=>by unfold e4q at h;exact tX)
def d81 (d_:l8) (a_:l9) (p_:Int) (qA:Int) (t_:Int):Option Bool :=
 (e68 d_ a_ p_ qA).bind fun y4=>bif (!y4) then some false else (F_3 a_ qA t_).bind fun y6=>(e4q d_ a_ p_ qA t_).bind fun y8=>grp ((y6.2||y8.2)) fun b10=>some b10
instance g73 {d_:l8} {a_:l9} {p_ qA t_:Int}:WJ (d81 d_ a_ p_ qA t_) 124 [l8.v d_,l9.v a_,.int .i64 p_,.int .i64 qA,.int .i64 t_] .bool:=wX Tryz.func124 [(3,⟨[.gc [2,3,4,5,6,39]],[],[]⟩),(4,⟨[.gc [2,3,4,5,6,12,39]],[],[]⟩),(5,⟨[.gc [12,14,39]],[],[.v 2 3]⟩)] (h:=fun _ _ h hQ M=>by unfold d81 at h;exact tX)
@[go_sem] def e6c (d_:l8) (a_:l9) (qA:Int) (t_:Int) (k54:Int) (a55:Int) (x53:Bool×(List Int)):Option (Bool×(List Int)) :=
 (d81 d_ a_ k54 qA t_).bind fun y63=>bif y63 then chk (room (x53.2.length+[k54].length) 8) (some (x53.1,(x53.2++[k54]))) else some (x53.1,x53.2)
def e4p (d_:l8) (a_:l9) (qA:Int) (t_:Int):Option (a14×Int) :=
 (d6b d_ a_).bind fun y4=>bif (!decide (y4=0)) then some ((a14.mk false []),y4) else (d2d a_ qA).bind fun y8=>bif (!y8) then some ((a14.mk false []),6) else (F_3 a_ qA t_).bind fun y10=>(foldL (e6c d_ a_ qA t_) d_.Kinds 0 (y10.2,[])).bind fun x64=>some ((a14.mk x64.1 x64.2),0)
def g3z:List (Nat×RN):=[(3,⟨[.gc [8,10]],[],[]⟩),(4,⟨[.gc [2,3,4,5,8]],[],[]⟩),(5,⟨[.gc [8]],[],[]⟩),(7,⟨[.gc [2,3,4,5,8,12]],[.k 1 1],[]⟩),(12,⟨[.gc [2,3,4,5,8,13,14,38,39]],[],[]⟩)]
@[irreducible] def e9k:MC:=rdc (cK Tryz.prog Tryz.f78 g3z [] 9)
instance:LI e9k 39 38 [2,3,4,5,8,13,38] [8,5,4] (fun y:Bool×(List Int)=>[]) (fun y=>[.o 13 (.cells [.bool y.1,.osl 4209 1 0 y.2.length]),.o 4209 (.arr 1 (y.2.map (V.int .i64)))]) [.gc [2,3,4,5,8,13,38,39],.ownC 13 1 4209 1 none]:=⟨⟩
instance g80 {d_:l8} {a_:l9} {qA t_:Int}:WJ (e4p d_ a_ qA t_) 78 [l8.v d_,l9.v a_,.int .i64 qA,.int .i64 t_] fun z=>.tup [a14.v z.1,.int .i64 z.2]:=wX Tryz.func78 g3z [(9,e9k)] [.fzc 8] (h:=fun _ _ h hQ M=>by unfold e4p at h;exact tX)
def e66 (d_:l8) (a_:l9) (jA:Int):Option Int :=
 (d6b d_ a_).bind fun y4=>bif (!decide (y4=0)) then some y4 else (d1y jA).bind fun y8=>bif (!y8) then some 2 else some 0
instance g6h {d_:l8} {a_:l9} {jA:Int}:WJ (e66 d_ a_ jA) 79 [l8.v d_,l9.v a_,.int .i64 jA] (.int .i64):=wX Tryz.func79 [(4,⟨[.gc [2]],[],[]⟩)] (h:=fun _ _ h hQ M=>by unfold e66 at h;exact tX)
def g2k (k20:Int) (a21:o6) (x19:List Int):Option (List Int) :=
 chk (room (x19.length+[a21.Time].length) 8) (some (x19++[a21.Time]))
def F_t (a_:l9):Option (List Int) := (F_j a_).bind fun y4=>bif (!decide (y4=0)) then some [] else (foldL g2k a_.Events 0 []).bind fun x22=>(a5u x22).bind fun y24=>some ((y24.2.drop 0).take y24.1)
def a_t:List (Nat×RN):=[(0,⟨[],[.k 1 1],[]⟩),(2,⟨[],[.k 0 1],[]⟩),(3,⟨[],[.k 0 1],[]⟩),(9,⟨[],[.c 1 0 [2003] []],[]⟩)]
@[irreducible] def d42:MC:=rdc (cK Tryz.prog Tryz.f155 a_t [] 5)
def g2r:MC:=rdc (cT Tryz.prog Tryz.f155 a_t [(5,d42)])
instance g5k {a_:l9}:WI (F_t a_) Tryz.prog 155 [l9.v a_] [] (fun z=>.osl 1900 1 0 z.length) (fun z=>[(1900,.arr 1 (z.map (V.int .i64)))]):=⟨fun Q Q' h hQ=>by
 refine a2g g2r [.gc [2],.trim 2,.acc 2 1900 1] [1900] [.t 2] Tryz.func155 fun M=>?_
 unfold F_t at h
 unfold g2r
 replace h:=tY h
 refine tB ?_
 repeat' (first
 | (exact tZ)
 | (refine And.intro (by refine ⟨?_,?_,?_,?_⟩<;>omega) ?_;first|exact hQ _ h|(rw [zP (by omega)];exact hQ _ h))
 | (rw [←hlen];exact hQ _ h)
 | (have hq:=hQ _ h;simp only [x4,Nat.min_eq_left hlen.1] at hq;exact hq)
 | ((first|refine b3a h ?_|refine a3y h ?_|refine b3m h ?_|refine b3l h ?_|refine b3t h ?_|refine appG h ?_|refine b3v h ?_|refine fork h ?_ ?_|refine a4a h ?_ ?_)<;>clear h<;>intro hc h)
 | (obtain ⟨y,hy,h⟩:=h;(first|(have hw:=o9 1000 2003 (g4b hy);replace hw:=tY hw;(try simp only [hlen] at hw);have hlen:=b2y hy)|have hw:=WI.w hy);replace hw:=tY hw;(first|refine M.sC hw ?_|refine M.sD hw ?_);clear hw hy;refine tB ?_)
 | (refine M.fold1 (b:=d42) 12 [10,11] [] (fun x=>[(3,.osl 2003 1 0 x.length)]) (fun x=>[.o 2003 (.arr 1 (x.map (V.int .i64)))]) [.gc [3,10,11,12],.acc 3 2003 1] h ?_ ?_ ?_<;>first
 | (clear h;intro k a x Qn K hK1 hkN1 ha1 h hf;have hl:=a1s (a0q (n:=11) hf.1 rfl);clear hf;have hkd:=kD hkN1;have hkB1:=kB hkN1;have hkI1:=kI (k:=k) (by omega);(try simp only [hlen] at hkd hkB1 hkN1);unfold g2k at h;unfold d42;replace h:=tY h;refine tK ha1 hkd hkN1 hkB1 hkI1 ?_)
  |(clear h;intro x K h;replace h:=And.left (And.intro h trivial);(try simp only [hlen]);unfold d42;replace h:=tY h;refine tB ?_)
  |(clear h;(try refine tB ?_);exact tU0;done))
 | (simp only [ha1])
 | (refine hK1 _ ?_;(try refine tB ?_);refine ⟨_,h,?_⟩;exact tU0;done)
 | (refine tE ?_;(first|rw [M.lok_compU]|rw [M.lokD_compU]);refine tB ?_)
 | (refine tA ?_)
 | fail)⟩
def f5b (k18:Int) (a19:a01) (x17:List Int):Option (List Int) :=
 chk (room (x17.length+[a19.Time].length) 8) (some (x17++[a19.Time]))
def F_u (d_:l8) (a_:l9):Option (List Int) := (F_t a_).bind fun y2=>(foldL f5b d_.Events 0 y2).bind fun x20=>(b40 x20).bind fun y22=>(a5u y22).bind fun y24=>some ((y24.2.drop 0).take y24.1)
def a_u:List (Nat×RN):=[(1,⟨[],[.c 1 0 [] [9]],[]⟩),(7,⟨[],[.c 1 0 [2005] []],[]⟩),(8,⟨[],[.c 1 0 [2005] []],[]⟩)]
@[irreducible] def d46:MC:=rdc (cK Tryz.prog Tryz.f126 a_u [] 3)
def g2q:MC:=rdc (cT Tryz.prog Tryz.f126 a_u [(3,d46)])
instance g98 {d_:l8} {a_:l9}:WI (F_u d_ a_) Tryz.prog 126 [l8.v d_,l9.v a_] [] (fun z=>.sl (z.map (V.int .i64))) (fun z=>[]):=⟨fun Q Q' h hQ=>by
 refine a2g g2q [.fz 4] [] [.t 4] Tryz.func126 fun M=>?_
 unfold F_u at h
 unfold g2q
 replace h:=tY h
 refine tB ?_
 repeat' (first
 | (exact tZ)
 | (refine And.intro (by refine ⟨?_,?_,?_,?_⟩<;>omega) ?_;first|exact hQ _ h|(rw [zP (by omega)];exact hQ _ h))
 | (rw [←hlen];exact hQ _ h)
 | (have hq:=hQ _ h;simp only [x4,Nat.min_eq_left hlen.1] at hq;exact hq)
 | ((first|refine b3a h ?_|refine a3y h ?_|refine b3m h ?_|refine b3l h ?_|refine b3t h ?_|refine appG h ?_|refine b3v h ?_|refine fork h ?_ ?_|refine a4a h ?_ ?_)<;>clear h<;>intro hc h)
 | (obtain ⟨y,hy,h⟩:=h;(first|have hw:=o9 1900 9 (g5k.c.w hy)|(have hw:=o9 1000 2005 (g4c hy);replace hw:=tY hw;(try simp only [hlen] at hw);have hlen:=b8t hy)|(have hw:=o9 1000 2005 (g4b hy);replace hw:=tY hw;(try simp only [hlen] at hw);have hlen:=b2y hy));replace hw:=tY hw;(first|refine M.sC hw ?_|refine M.sD hw ?_);clear hw hy;refine tB ?_)
 | (refine M.fold1 (b:=d46) 13 [11,12] [] (fun x=>[(5,.osl 2005 1 0 x.length)]) (fun x=>[.o 2005 (.arr 1 (x.map (V.int .i64)))]) [.gc [5,11,12,13],.acc 5 2005 1] h ?_ ?_ ?_<;>first
 | (clear h;intro k a x Qn K hK1 hkN1 ha1 h hf;have hl:=a1s (a0q (n:=12) hf.1 rfl);clear hf;have hkd:=kD hkN1;have hkB1:=kB hkN1;have hkI1:=kI (k:=k) (by omega);(try simp only [hlen] at hkd hkB1 hkN1);unfold f5b at h;unfold d46;replace h:=tY h;refine tK ha1 hkd hkN1 hkB1 hkI1 ?_)
  |(clear h;intro x K h;replace h:=And.left (And.intro h trivial);(try simp only [hlen]);unfold d46;replace h:=tY h;refine tB ?_)
  |(clear h;(try refine tB ?_);exact tU0;done))
 | (simp only [ha1])
 | (refine hK1 _ ?_;(try refine tB ?_);refine ⟨_,h,?_⟩;exact tU0;done)
 | (refine tE ?_;(first|rw [M.lok_compU]|rw [M.lokD_compU]);refine tB ?_)
 | (refine tA ?_)
 | fail)⟩
def e3z (jA:Int):Option Int :=
 chk (e7f jA 64) (some (IntKind.wrap .u64 (1*2^(jA).toNat)))
instance g6o {jA:Int}:WJ (e3z jA) 195 [.int .i64 jA] fun z=>.int .u64 z:=wX Tryz.func195 (h:=fun _ _ h hQ M=>by unfold e3z at h;exact tX)
def d6i (s_:List Int) (x_:o6):Option (List Int) :=
 bif decide (x_.Kind=5) then chk (inb x_.Place s_.length) ((e3z x_.Content).bind fun y1=>chk (inb x_.Place s_.length) (some (s_.set ((x_.Place).toNat) (bits .or .u64 (s_.getD ((x_.Place).toNat) default) y1)))) else bif decide (x_.Kind=6) then chk (inb x_.Place s_.length) ((e3z x_.Content).bind fun y2=>chk (inb x_.Place s_.length) (some (s_.set ((x_.Place).toNat) (bits .andNot .u64 (s_.getD ((x_.Place).toNat) default) y2)))) else bif decide (x_.Kind=7) then chk (inb x_.Place s_.length) (chk (inb x_.From s_.length) (chk (inb x_.Place s_.length) (some (s_.set ((x_.Place).toNat) (bits .or .u64 (s_.getD ((x_.Place).toNat) default) (s_.getD ((x_.From).toNat) default)))))) else some s_
instance g1n {s_:List Int} {x_:o6}:WI (d6i s_ x_) Tryz.prog 230 [.osl 1000 1 0 s_.length,o6.v x_] [(1000,.arr 1 (s_.map (V.int .u64)))] (fun z=>.tup []) (fun z=>[(1000,.arr 1 (z.map (V.int .u64)))]):=wX Tryz.func230 [(7,⟨[.gc [0,3]],[],[]⟩)] [] [] [1000] (h:=fun _ _ h hQ M=>by unfold d6i at h;exact tX)
theorem g90 {s_:List Int} {x_:o6} {y:List Int} (h:(d6i s_ x_)=some y):y.length=s_.length:=by
 simp only [d6i,chk,cond_eq_ite,zL] at h
 repeat' (first|(split at h)|(simp only [zL] at h)|(obtain ⟨_,_,h⟩:=h)|(cases h;done)|(obtain rfl:=wF h;simp;done)|(simp;done)|(subst h;simp;done))
def f7o (t_:Int) (k30:Int) (a31:o6) (x29:List Int):Option (List Int) :=
 bif decide (a31.Time≤t_) then (d6i x29 a31).bind fun y35=>some y35 else some x29
def F_v (a_:l9) (t_:Int):Option (List Int) := chk (b5l a_.Places a_.Places 8) ((foldL (f7o t_) a_.Events 0 (List.replicate (a_.Places).toNat 0)).bind fun x36=>some x36)
def a_v:List (Nat×RN):=[(6,⟨[],[.c 2 0 [10] []],[]⟩)]
@[irreducible] def d45:MC:=rdc (cK Tryz.prog Tryz.f194 a_v [] 3)
def g2p:MC:=rdc (cT Tryz.prog Tryz.f194 a_v [(3,d45)])
instance g97 {a_:l9} {t_:Int}:WI (F_v a_ t_) Tryz.prog 194 [l9.v a_,.int .i64 t_] [] (fun z=>.sl (z.map (V.int .u64))) (fun z=>[]):=⟨fun Q Q' h hQ=>by
 refine a2g g2p [.fz 4] [] [.t 4] Tryz.func194 fun M=>?_
 unfold F_v at h
 unfold g2p
 replace h:=tY h
 refine tB ?_
 repeat' (first
 | (exact tZ)
 | (rw [zP (by omega)];exact hQ _ h)
 | ((first|refine b3a h ?_|refine a3y h ?_|refine b3m h ?_|refine b3l h ?_|refine b3t h ?_|refine appG h ?_|refine b3v h ?_|refine fork h ?_ ?_|refine a4a h ?_ ?_)<;>clear h<;>intro hc h)
 | (obtain ⟨y,hy,h⟩:=h;(have hw:=o9 1000 10 (g1n.c.w hy);replace hw:=tY hw;have hlen:=g90 hy);replace hw:=tY hw;(first|refine M.sC hw ?_|refine M.sD hw ?_);clear hw hy;refine tB ?_)
 | (refine M.fold1 (b:=d45) 14 [1,12,13] [] (fun x=>[(5,.osl 10 1 0 x.length)]) (fun x=>[.o 10 (.arr 1 (x.map (V.int .u64)))]) [] h ?_ ?_ ?_<;>first
 | (clear h;intro k a x Qn K hK1 hkN1 ha1 h hf;have hl:=a1s (a0q (n:=13) hf.1 rfl);clear hf;have hkd:=kD hkN1;have hkB1:=kB hkN1;have hkI1:=kI (k:=k) (by omega);(try simp only [hlen] at hkd hkB1 hkN1);unfold f7o at h;unfold d45;replace h:=tY h;refine tK ha1 hkd hkN1 hkB1 hkI1 ?_)
  |(clear h;intro x K h;replace h:=And.left (And.intro h trivial);(try simp only [hlen]);unfold d45;replace h:=tY h;refine tB ?_)
  |(clear h;(try refine tB ?_);exact tU;done))
 | (simp only [ha1])
 | (refine hK1 _ ?_;(try refine tB ?_);refine ⟨_,h,?_⟩;exact tU;done)
 | (refine tE ?_;(first|rw [M.lok_compU]|rw [M.lokD_compU]);refine tB ?_)
 | (refine tA ?_)
 | fail)⟩
@[go_sem] def f7c (jA:Int) (k56:Int) (a57:Int) (x55:List Int):Option (List Int) :=
 (e3z jA).bind fun y65=>bif (!decide ((bits .and .u64 a57 y65)=0)) then chk (room (x55.length+[k56].length) 8) (some (x55++[k56])) else some x55
def d6j (a_:l9) (jA:Int) (t_:Int):Option (List Int) :=
 (F_j a_).bind fun y7=>bif (!decide (y7=0)) then some [] else (d1y jA).bind fun y8=>bif (!y8) then some [] else (F_v a_ t_).bind fun y37=>(foldL (f7c jA) y37 0 []).bind fun x66=>some x66
def g46:List (Nat×RN):=[(3,⟨[],[.k 0 1],[]⟩),(4,⟨[.gc [1,2,3,7]],[],[]⟩),(8,⟨[.gc [1,7,8,20,21,22]],[],[]⟩)]
@[irreducible] def e8z:MC:=rdc (cK Tryz.prog Tryz.f158 g46 [] 5)
instance:LI e8z 22 21 [1,20,21] [] (fun y:List Int=>[(7,.osl 2007 1 0 y.length)]) (fun y=>[.o 2007 (.arr 1 (y.map (V.int .i64)))]) [.gc [1,7,20,21,22],.acc 7 2007 1]:=⟨⟩
instance g8f {a_:l9} {jA t_:Int}:WJ (d6j a_ jA t_) 158 [l9.v a_,.int .i64 jA,.int .i64 t_] fun z=>.sl (z.map (V.int .i64)):=wX Tryz.func158 g46 [(5,e8z)] [.fz 6] (h:=fun _ _ h hQ M=>by unfold d6j at h;exact tX)
@[go_sem] def e6b (d_:l8) (a_:l9) (p_:Int) (t_:Int) (k75:Int) (a76:Int) (x74:Unit):Option (Fl Unit (Int×Bool)) :=
 (F_3 a_ a76 t_).bind fun y96=>grp ((decide (p_=(-1))&&y96.2)) fun b99=>bif b99 then some (.ex (a76,true)) else bif (!decide (p_=(-1))) then (d81 d_ a_ p_ a76 t_).bind fun y100=>bif y100 then some (.ex (a76,true)) else some (.nx ()) else some (.nx ())
def e4o (d_:l8) (a_:l9) (jA:Int) (p_:Int) (t_:Int):Option (Int×Bool) :=
 (d6j a_ jA t_).bind fun y47=>(forL (e6b d_ a_ p_ t_) y47 0 ()).bind fun o=>o.elim (fun x101=>some (0,false)) (fun r102=>some r102)
def g3y:List (Nat×RN):=[(5,⟨[.gc [3,4,5,6,13,15,19,20,21,35,38,39,40,41,42,43,44,45,46,47]],[],[.v 3 4]⟩),(6,⟨[.gc [13]],[],[]⟩)]
@[irreducible] def e9j:MC:=rdc (cK Tryz.prog Tryz.f127 g3y [] 2)
instance:LI e9j 21 20 [3,4,5,6,19,20] [6,5] (fun y:Unit=>[]) (fun y=>[]) []:=⟨⟩
instance g7z {d_:l8} {a_:l9} {jA p_ t_:Int}:WJ (e4o d_ a_ jA p_ t_) 127 [l8.v d_,l9.v a_,.int .i64 jA,.int .i64 p_,.int .i64 t_] fun z=>.tup [.int .i64 z.1,.bool z.2]:=wX Tryz.func127 g3y [(2,e9j)] (h:=fun _ _ h hQ M=>by unfold e4o at h;exact tX)
@[go_sem] def f4k (d_:l8) (a_:l9) (jA:Int) (p_:Int) (k35:Int) (a36:Int) (x34:Unit):Option (Fl Unit (Int×Bool)) :=
 (e4o d_ a_ jA p_ a36).bind fun y44=>bif y44.2 then some (.ex (a36,true)) else some (.nx ())
def e4n (d_:l8) (a_:l9) (jA:Int) (p_:Int):Option (Int×Bool) :=
 (F_u d_ a_).bind fun y23=>(forL (f4k d_ a_ jA p_) y23 0 ()).bind fun o=>o.elim (fun x45=>some (0,false)) (fun r46=>some r46)
def g3x:List (Nat×RN):=[(6,⟨[.gc [11]],[],[]⟩)]
@[irreducible] def e9h:MC:=rdc (cK Tryz.prog Tryz.f80 g3x [] 2)
instance:LI e9h 18 17 [2,3,4,5,16,17] [5,4] (fun y:Unit=>[]) (fun y=>[]) []:=⟨⟩
instance g7y {d_:l8} {a_:l9} {jA p_:Int}:WJ (e4n d_ a_ jA p_) 80 [l8.v d_,l9.v a_,.int .i64 jA,.int .i64 p_] fun z=>.tup [.int .i64 z.1,.bool z.2]:=wX Tryz.func80 g3x [(2,e9h)] (h:=fun _ _ h hQ M=>by unfold e4n at h;exact tX)
def d80 (d_:l8) (a_:l9) (jA:Int) (p_:Int):Option (Int×Bool) :=
 (e66 d_ a_ jA).bind fun y4=>bif (!decide (y4=0)) then some (0,false) else (e4n d_ a_ jA p_).bind fun y6=>some (y6.1,y6.2)
instance g72 {d_:l8} {a_:l9} {jA p_:Int}:WJ (d80 d_ a_ jA p_) 31 [l8.v d_,l9.v a_,.int .i64 jA,.int .i64 p_] fun z=>.tup [.int .i64 z.1,.bool z.2]:=wX Tryz.func31 [(3,⟨[.gc [2,3,4,5]],[],[]⟩)] (h:=fun _ _ h hQ M=>by unfold d80 at h;exact tX)
set_option maxRecDepth 20000
set_option maxHeartbeats 2000000
def c78 (x_:Int) (gD:Int) (qC:Int):Option Bool :=
 grp ((decide (gD≤x_)&&decide (x_≤qC))) fun b2=>some b2
instance g8e {x_ gD qC:Int}:WJ (c78 x_ gD qC) 93 [.int .i64 x_,.int .i64 gD,.int .i64 qC] .bool:=wX Tryz.func93 [(1,⟨[],[],[.v 4 7]⟩)] (h:=fun _ _ h hQ M=>by unfold c78 at h;exact tX)
def F_w (d_:l8) (p_:Int):Option Bool := chk (a0j ((d_.Kinds.length:Int) - 1)) ((c78 p_ 0 ((d_.Kinds.length:Int) - 1)).bind fun y2=>some y2)
instance g96 {d_:l8} {p_:Int}:WJ (F_w d_ p_) 94 [l8.v d_,.int .i64 p_] .bool:=wX Tryz.func94 (h:=fun _ _ h hQ M=>by unfold F_w at h;exact tX)
def d2b (d_:l8) (p_:Int):Option Bool :=
 (F_w d_ p_).bind fun y3=>jn (α:=Bool) (bif y3 then chk (inb p_ d_.Kinds.length) (some (decide ((d_.Kinds.getD (p_).toNat default)=2))) else some false) fun j4=>some j4
instance f5r {m:List MOp}:GI (gjt 950104 m) [4] [] (fun y:Bool=>[(15,.bool y)]) (fun y=>[]):=⟨⟩
instance g7x {d_:l8} {p_:Int}:WJ (d2b d_ p_) 95 [l8.v d_,.int .i64 p_] .bool:=wX Tryz.func95 [(1,⟨[],[],[.w 4 10 950104]⟩)] (h:=fun _ _ h hQ M=>by unfold d2b at h;exact tX)
@[go_sem] def f4u (k35:Int) (a36:Int) (x34:Unit):Option (Fl Unit Bool) :=
 (c78 a36 1 3).bind fun y44=>bif (!y44) then some (.ex false) else some (.nx ())
@[go_sem] def f4j (d_:l8) (k177:Int) (a178:a01) (x176:Unit):Option (Fl Unit Bool) :=
 (c78 a178.Kind 1 2).bind fun y221=>bif (!y221) then some (.ex false) else (c78 a178.Time 0 1099511627776).bind fun y222=>bif (!y222) then some (.ex false) else bif decide (0<k177) then chk (a0j (k177 - 1)) (chk (inb (k177 - 1) d_.Events.length) (bif decide (a178.Time<(d_.Events.getD ((k177 - 1)).toNat default).Time) then some (.ex false) else (F_w d_ a178.Principal).bind fun y223=>bif (!y223) then some (.ex false) else (d2b d_ a178.Group).bind fun y224=>bif (!y224) then some (.ex false) else bif decide (a178.Principal=a178.Group) then some (.ex false) else some (.nx ()))) else (F_w d_ a178.Principal).bind fun y225=>bif (!y225) then some (.ex false) else (d2b d_ a178.Group).bind fun y226=>bif (!y226) then some (.ex false) else bif decide (a178.Principal=a178.Group) then some (.ex false) else some (.nx ())
def F_d (d_:l8):Option Bool := grp ((decide (24<(d_.Kinds.length:Int))||decide (120<(d_.Events.length:Int)))) fun b4=>bif b4 then some false else (forL f4u d_.Kinds 0 ()).bind fun o=>o.elim (fun x45=>(forL (f4j d_) d_.Events 0 ()).bind fun o=>o.elim (fun x227=>some true) (fun r228=>some r228)) (fun r46=>some r46)
def a_d:List (Nat×RN):=[(1,⟨[],[],[.v 5 9]⟩),(3,⟨[.gc [1,41,42,43,44,47,48,49,50,51,52,53,54,55,56,57,58,59,60,63,64,65,66,67,70,71,72,73,74,77,78,79,80,81]],[],[]⟩)]
@[irreducible] def e0v:MC:=rdc (cK Tryz.prog Tryz.f51 a_d [] 4)
@[irreducible] def e9g:MC:=rdc (cK Tryz.prog Tryz.f51 a_d [(4,e0v)] 10)
instance:LI e0v 20 19 [1,18,19] [1] (fun y:Unit=>[]) (fun y=>[]) []:=⟨⟩
instance:LI e9g 31 30 [1,29,30] [1] (fun y:Unit=>[]) (fun y=>[]) []:=⟨⟩
instance g9k {d_:l8}:WJ (F_d d_) 51 [l8.v d_] .bool:=wX Tryz.func51 a_d [(4,e0v),(10,e9g)] (h:=fun _ _ h hQ M=>by unfold F_d at h;exact tX)
def c77 (x_:Int) (gD:Int) (qC:Int):Option Bool :=
 grp ((decide (gD≤x_)&&decide (x_≤qC))) fun b2=>some b2
instance g8d {x_ gD qC:Int}:WJ (c77 x_ gD qC) 96 [.int .i64 x_,.int .i64 gD,.int .i64 qC] .bool:=wX Tryz.func96 [(1,⟨[],[],[.v 4 7]⟩)] (h:=fun _ _ h hQ M=>by unfold c77 at h;exact tX)
def f5a (a_:l9) (x_:o6):Option Bool :=
 (c77 x_.Time 0 1099511627776).bind fun y7=>bif (!y7) then some false else chk (a0j (a_.Places - 1)) ((c77 x_.Place 0 (a_.Places - 1)).bind fun y8=>bif (!y8) then some false else jn (α:=Bool) (bif decide (x_.Kind=1) then some true else some (decide (x_.Kind=2))) fun j29=>bif j29 then jn (α:=Bool) (bif (decide (x_.Time=x_.Time)&&(decide (x_.Kind=x_.Kind)&&(decide (x_.Place=x_.Place)&&(decide (x_.Principal=x_.Principal)&&(decide (x_.Until=0)&&(decide (x_.Content=0)&&decide (x_.From=0))))))) then (c77 x_.Principal 0 23).bind fun y33=>some y33 else some false) fun j34=>some j34 else bif decide (x_.Kind=3) then grp (((decide (x_.Time=x_.Time)&&(decide (x_.Kind=x_.Kind)&&(decide (x_.Place=x_.Place)&&(decide (x_.Principal=0)&&(decide (x_.Until=x_.Until)&&(decide (x_.Content=0)&&decide (x_.From=0)))))))&&decide (x_.Time<x_.Until))) fun b37=>grp ((b37&&decide (x_.Until≤1099511627776))) fun b38=>some b38 else bif decide (x_.Kind=4) then some (decide (x_.Time=x_.Time)&&(decide (x_.Kind=x_.Kind)&&(decide (x_.Place=x_.Place)&&(decide (x_.Principal=0)&&(decide (x_.Until=0)&&(decide (x_.Content=0)&&decide (x_.From=0))))))) else jn (α:=Bool) (bif decide (x_.Kind=5) then some true else some (decide (x_.Kind=6))) fun j39=>bif j39 then jn (α:=Bool) (bif (decide (x_.Time=x_.Time)&&(decide (x_.Kind=x_.Kind)&&(decide (x_.Place=x_.Place)&&(decide (x_.Principal=0)&&(decide (x_.Until=0)&&(decide (x_.Content=x_.Content)&&decide (x_.From=0))))))) then (c77 x_.Content 0 63).bind fun y43=>some y43 else some false) fun j44=>some j44 else bif decide (x_.Kind=7) then jn (α:=Bool) (bif (decide (x_.Time=x_.Time)&&(decide (x_.Kind=x_.Kind)&&(decide (x_.Place=x_.Place)&&(decide (x_.Principal=0)&&(decide (x_.Until=0)&&(decide (x_.Content=0)&&decide (x_.From=x_.From))))))) then chk (a0j (a_.Places - 1)) ((c77 x_.From 0 (a_.Places - 1)).bind fun y49=>some y49) else some false) fun j50=>grp ((j50&&(!decide (x_.From=x_.Place)))) fun b51=>some b51 else some false)
def g1c:List (Nat×RN):=[(3,⟨[.gc [2,3,38,39,40,51,52,53,54,55,58,59,60,77,78,79,90,91,92,93,94,95,98,99,100,101,102]],[],[]⟩),(8,⟨[],[],[.w 4 7 970804]⟩),(11,⟨[.gc [3,5,51,52,53,54,55,58,59,60]],[],[.v 4 9,.v 11 14]⟩),(17,⟨[],[],[.w 4 7 971704]⟩),(20,⟨[],[],[.w 4 10 972004,.v 12 17]⟩)]
@[irreducible] def e0n:MC:=rdc (cK Tryz.prog Tryz.f97 g1c [] 10000016)
@[irreducible] def e8b:MC:=rdc (cK Tryz.prog Tryz.f97 g1c [(10000016,e0n)] 10000007)
instance f5q {m:List MOp}:GI (gjt 970804 m) [] [] (fun y:Bool=>[(41,.bool y)]) (fun y=>[]):=⟨⟩
instance f5p {m:List MOp}:GI (gjt 971704 m) [] [] (fun y:Bool=>[(80,.bool y)]) (fun y=>[]):=⟨⟩
instance f5o {m:List MOp}:GI (gjt 972004 m) [3] [3] (fun y:Bool=>[(96,.bool y)]) (fun y=>[]):=⟨⟩
instance:LI e0n 0 0 [2,3,5,27] [5,3,2] (fun y:Bool=>[(67,.bool y)]) (fun y=>[]) []:=⟨⟩
instance:LI e8b 0 0 [2,3,5,27] [5,3,2] (fun y:Bool=>[(28,.bool y)]) (fun y=>[]) []:=⟨⟩
instance g7f {a_:l9} {x_:o6}:WJ (f5a a_ x_) 97 [l9.v a_,o6.v x_] .bool:=wX Tryz.func97 g1c [(10000016,e0n),(10000007,e8b)] (h:=fun _ _ h hQ M=>by unfold f5a at h;exact tX)
@[go_sem] def f7b (a_:l9) (k39:Int) (a40:o6) (x38:Unit):Option (Fl Unit Bool) :=
 (f5a a_ a40).bind fun y48=>bif (!y48) then some (.ex false) else bif decide (0<k39) then chk (a0j (k39 - 1)) (chk (inb (k39 - 1) a_.Events.length) (bif decide (a40.Time<(a_.Events.getD ((k39 - 1)).toNat default).Time) then some (.ex false) else some (.nx ()))) else some (.nx ())
def F_n (a_:l9):Option Bool := (c77 a_.Places 1 16).bind fun y7=>grp (((!y7)||decide (120<(a_.Events.length:Int)))) fun b8=>bif b8 then some false else (forL (f7b a_) a_.Events 0 ()).bind fun o=>o.elim (fun x49=>some true) (fun r50=>some r50)
def a_n:List (Nat×RN):=[(1,⟨[],[],[.v 5 9]⟩),(3,⟨[.gc [1,28,29,30,31,32,33,34,35,36,37,38,39,40,41]],[],[]⟩)]
@[irreducible] def e8y:MC:=rdc (cK Tryz.prog Tryz.f52 a_n [] 4)
instance:LI e8y 18 17 [1,16,17] [1] (fun y:Unit=>[]) (fun y=>[]) []:=⟨⟩
instance g9b {a_:l9}:WJ (F_n a_) 52 [l9.v a_] .bool:=wX Tryz.func52 a_n [(4,e8y)] (h:=fun _ _ h hQ M=>by unfold F_n at h;exact tX)
def d7z (a_:l9) (qA:Int):Option Bool :=
 (F_n a_).bind fun y4=>jn (α:=Bool) (bif y4 then chk (a0j (a_.Places - 1)) ((c77 qA 0 (a_.Places - 1)).bind fun y6=>some y6) else some false) fun j7=>some j7
instance f5x {m:List MOp}:GI (gjt 530103 m) [4] [] (fun y:Bool=>[(13,.bool y)]) (fun y=>[]):=⟨⟩
instance g71 {a_:l9} {qA:Int}:WJ (d7z a_ qA) 53 [l9.v a_,.int .i64 qA] .bool:=wX Tryz.func53 [(1,⟨[],[],[.w 3 8 530103]⟩)] (h:=fun _ _ h hQ M=>by unfold d7z at h;exact tX)
@[go_sem] def g2f (qA:Int) (t_:Int) (k71:Int) (a72:o6) (x70:Unit):Option (Fl Unit Bool) :=
 grp ((decide (a72.Kind=4)&&decide (a72.Place=qA))) fun b87=>grp ((b87&&decide (a72.Time≤t_))) fun b88=>bif b88 then some (.ex false) else some (.nx ())
def e4m (a_:l9) (qA:Int) (kE:Int) (t_:Int):Option Bool :=
 (d7z a_ qA).bind fun y7=>bif (!y7) then some false else chk (a0j ((a_.Events.length:Int) - 1)) ((c77 kE 0 ((a_.Events.length:Int) - 1)).bind fun y8=>bif (!y8) then some false else chk (inb kE a_.Events.length) (grp (((!decide ((a_.Events.getD (kE).toNat default).Kind=3))||(!decide ((a_.Events.getD (kE).toNat default).Place=qA)))) fun b18=>grp ((b18||decide (t_<(a_.Events.getD (kE).toNat default).Time))) fun b19=>grp ((b19||decide ((a_.Events.getD (kE).toNat default).Until≤t_))) fun b20=>bif b20 then some false else chk (a0j (kE+1)) (chk (inc (kE+1) (a_.Events.length:Int) a_.Events.length) ((forL (g2f qA t_) (a_.Events.drop (((kE+1)).toNat)) 0 ()).bind fun o=>o.elim (fun x89=>some true) (fun r90=>some r90)))))
def g3w:List (Nat×RN):=[(3,⟨[.gc [1,2,3,4,34,35,36,37,40,41,42,43,46,47,48,49,65,66,67,68,71,72,73,74]],[],[]⟩),(4,⟨[],[],[.v 4 8,.v 10 14,.v 16 20]⟩),(6,⟨[.gc [1,2,3,4,65,66,67,68,71,72,73,74]],[],[]⟩),(9,⟨[],[],[.v 4 8,.v 10 14]⟩)]
@[irreducible] def e8m:MC:=rdc (cK Tryz.prog Tryz.f98 g3w [] 7)
instance:LI e8m 57 56 [1,3,55,56] [] (fun y:Unit=>[]) (fun y=>[]) []:=⟨⟩
instance g7w {a_:l9} {qA kE t_:Int}:WJ (e4m a_ qA kE t_) 98 [l9.v a_,.int .i64 qA,.int .i64 kE,.int .i64 t_] .bool:=wX Tryz.func98 g3w [(7,e8m)] (h:=fun _ _ h hQ M=>by unfold e4m at h;exact tX)
@[go_sem] def e4g (a_:l9) (qA:Int) (t_:Int) (x29:Int):Option (Fl Int (Sum Unit (Int×Bool))) :=
 bif decide (0≤x29) then (e4m a_ qA x29 t_).bind fun y37=>bif y37 then some (.ex (.inr (x29,true))) else chk (a0j (x29 - 1)) (some (.nx (x29 - 1))) else some (.ex (.inl ()))
def e4l (a_:l9) (qA:Int) (t_:Int):Option (Int×Bool) :=
 chk (a0j ((a_.Events.length:Int) - 1)) ((loop (e4g a_ qA t_) ((a_.Events.length:Int) - 1)).bind fun r38=>Sum.elim (fun u39=>some (0,false)) (fun u40=>some u40) r38)
def g3v:List (Nat×RN):=[(5,⟨[.gc [8]],[],[]⟩)]
@[irreducible] def e9q:MC:=rdc (cK Tryz.prog Tryz.f54 g3v [] 2)
instance:LI e9q 0 0 [1,2,3] [3] (fun y:Int=>[(8,.int .i64 y)]) (fun y=>[]) []:=⟨⟩
instance g7v {a_:l9} {qA t_:Int}:WJ (e4l a_ qA t_) 54 [l9.v a_,.int .i64 qA,.int .i64 t_] fun z=>.tup [.int .i64 z.1,.bool z.2]:=wX Tryz.func54 g3v [(2,e9q)] (h:=fun _ _ h hQ M=>by unfold e4l at h;exact tX)
def e5z (d_:l8) (p_:Int):Option Bool :=
 (F_w d_ p_).bind fun y3=>jn (α:=Bool) (bif y3 then chk (inb p_ d_.Kinds.length) (some (!decide ((d_.Kinds.getD (p_).toNat default)=2))) else some false) fun j4=>some j4
instance f5n {m:List MOp}:GI (gjt 990104 m) [4] [] (fun y:Bool=>[(15,.bool y)]) (fun y=>[]):=⟨⟩
instance g6g {d_:l8} {p_:Int}:WJ (e5z d_ p_) 99 [l8.v d_,.int .i64 p_] .bool:=wX Tryz.func99 [(1,⟨[],[],[.w 4 10 990104]⟩)] (h:=fun _ _ h hQ M=>by unfold e5z at h;exact tX)
def g2j (k28:Int) (a29:Bool) (x27:List Int):Option (List Int) :=
 bif a29 then chk (room (x27.length+[k28].length) 8) (some (x27++[k28])) else some x27
def e6x (d_:l8) (p_:Int) (t_:Int):Option (List Int) :=
 (F_d d_).bind fun y7=>bif (!y7) then some [] else (F_w d_ p_).bind fun y8=>bif (!y8) then some [] else (upF d_.Kinds.length (d_.Events.map fun e=>(e.Time,e.Kind,e.Principal,e.Group)) p_ t_).bind fun y21=>(foldL g2j y21 0 []).bind fun x30=>some x30
def g45:List (Nat×RN):=[(3,⟨[],[.k 0 1],[]⟩),(4,⟨[.gc [1,2,3,7]],[],[]⟩)]
@[irreducible] def d41:MC:=rdc (cK Tryz.prog Tryz.f134 g45 [] 5)
def e9z:MC:=rdc (cT Tryz.prog Tryz.f134 g45 [(5,d41)])
instance g8c {d_:l8} {p_ t_:Int}:WI (e6x d_ p_ t_) Tryz.prog 134 [l8.v d_,.int .i64 p_,.int .i64 t_] [] (fun z=>.sl (z.map (V.int .i64))) (fun z=>[]):=⟨fun Q Q' h hQ=>by
 refine a2g e9z [.fz 6] [] [.t 6] Tryz.func134 fun M=>?_
 unfold e6x at h
 unfold e9z
 replace h:=tY h
 refine tB ?_
 repeat' (first
 | (exact tZ)
 | ((first|refine b3a h ?_|refine a3y h ?_|refine b3m h ?_|refine b3l h ?_|refine b3t h ?_|refine appG h ?_|refine b3v h ?_|refine fork h ?_ ?_|refine a4a h ?_ ?_)<;>clear h<;>intro hc h)
 | (obtain ⟨y,hy,h⟩:=h;(first|have hw:=g8l (f:=a01.v) (e4:=fun e=>(e.Time,e.Kind,e.Principal,e.Group)) (fun _=>rfl) hy|have hw:=WI.w hy);replace hw:=tY hw;(first|refine M.sC hw ?_|refine M.sD hw ?_);clear hw hy;refine tB ?_)
 | (refine M.fold1 (b:=d41) 24 [22,23] [] (fun x=>[(7,.osl 2007 1 0 x.length)]) (fun x=>[.o 2007 (.arr 1 (x.map (V.int .i64)))]) [.gc [7,22,23,24],.acc 7 2007 1] h ?_ ?_ ?_<;>first
 | (clear h;intro k a x Qn K hK1 hkN1 ha1 h hf;have hl:=a1s (a0q (n:=23) hf.1 rfl);clear hf;have hkd:=kD hkN1;have hkB1:=kB hkN1;have hkI1:=kI (k:=k) (by omega);unfold g2j at h;unfold d41;replace h:=tY h;refine tK ha1 hkd hkN1 hkB1 hkI1 ?_)
  |(clear h;intro x K h;replace h:=And.left (And.intro h trivial);unfold d41;replace h:=tY h;refine tB ?_)
  |(clear h;(try refine tB ?_);exact tU0;done))
 | (simp only [ha1])
 | (refine hK1 _ ?_;(try refine tB ?_);refine ⟨_,h,?_⟩;exact tU0;done)
 | (refine tE ?_;(first|rw [M.lok_compU]|rw [M.lokD_compU]);refine tB ?_)
 | (refine tA ?_)
 | fail)⟩
@[go_sem] def f7a (qA:Int) (tC:Int) (t_:Int) (k128:Int) (a129:o6) (x127:Int):Option Int :=
 grp ((decide (t_<a129.Time)||(!decide (a129.Place=qA)))) fun b160=>grp ((b160||(!decide (a129.Principal=tC)))) fun b161=>bif b161 then some x127 else bif decide (a129.Kind=1) then some k128 else bif decide (a129.Kind=2) then some (-1) else some x127
def f4t (a_:l9) (qA:Int) (tC:Int) (t_:Int):Option Int :=
 (foldL (f7a qA tC t_) a_.Events 0 (-1)).bind fun x162=>some x162
def g3k:List (Nat×RN):=[(5,⟨[],[],[.v 5 9,.v 11 15]⟩)]
@[irreducible] def e8x:MC:=rdc (cK Tryz.prog Tryz.f176 g3k [] 3)
instance:LI e8x 15 14 [1,2,3,13,14] [] (fun y:Int=>[(9,.int .i64 y)]) (fun y=>[]) []:=⟨⟩
instance g70 {a_:l9} {qA tC t_:Int}:WJ (f4t a_ qA tC t_) 176 [l9.v a_,.int .i64 qA,.int .i64 tC,.int .i64 t_] (.int .i64):=wX Tryz.func176 g3k [(3,e8x)] (h:=fun _ _ h hQ M=>by unfold f4t at h;exact tX)
@[go_sem] def g2e (a_:l9) (qA:Int) (t_:Int) (x26:Int×(List Int)):Option (Fl (Int×(List Int)) (List Int)) :=
 bif decide (x26.1<24) then jn (α:=List Int) ((f4t a_ qA x26.1 t_).bind fun y34=>bif decide (0≤y34) then chk (room (x26.2.length+[x26.1].length) 8) (some (x26.2++[x26.1])) else some x26.2) fun j32=>chk (a0j (x26.1+1)) (some (.nx ((x26.1+1),j32))) else some (.ex x26.2)
def e6s (a_:l9) (qA:Int) (t_:Int):Option (List Int) :=
 (d7z a_ qA).bind fun y4=>bif (!y4) then some [] else (loop (g2e a_ qA t_) (0,[])).bind fun r35=>some r35
def g1e:List (Nat×RN):=[(3,⟨[],[.k 0 1],[]⟩),(8,⟨[.gc [1,2,3,7,8]],[],[]⟩)]
@[irreducible] def e0m:MC:=rdc (cK Tryz.prog Tryz.f135 g1e [] 10000006)
@[irreducible] def e8l:MC:=rdc (cK Tryz.prog Tryz.f135 g1e [(10000006,e0m)] 5)
instance:LI e0m 0 0 [1,2,3,8] [3] (fun y:List Int=>[(7,.osl 2007 1 0 y.length)]) (fun y=>[.o 2007 (.arr 1 (y.map (V.int .i64)))]) [.gc [1,2,3,7,8],.acc 7 2007 1]:=⟨⟩
instance:LI e8l 0 0 [1,2,3] [3] (fun y:Int×(List Int)=>[(7,.osl 2007 1 0 y.2.length),(8,.int .i64 y.1)]) (fun y=>[.o 2007 (.arr 1 (y.2.map (V.int .i64)))]) [.gc [1,2,3,7,8],.acc 7 2007 1]:=⟨⟩
instance g7u {a_:l9} {qA t_:Int}:WJ (e6s a_ qA t_) 135 [l9.v a_,.int .i64 qA,.int .i64 t_] fun z=>.sl (z.map (V.int .i64)):=wX Tryz.func135 g1e [(10000006,e0m),(5,e8l)] [.fz 6] (h:=fun _ _ h hQ M=>by unfold e6s at h;exact tX)
@[go_sem] def g2d (x_:Int) (k11:Int) (a12:Int) (x10:Unit):Option (Fl Unit Bool) :=
 bif decide (a12=x_) then some (.ex true) else some (.nx ())
def f3r (l_:List Int) (x_:Int):Option Bool :=
 (forL (g2d x_) l_ 0 ()).bind fun o=>o.elim (fun x13=>some false) (fun r14=>some r14)
@[irreducible] def e8k:MC:=rdc (cK Tryz.prog Tryz.f136 [] [] 2)
instance:LI e8k 9 8 [1,7,8] [] (fun y:Unit=>[]) (fun y=>[]) []:=⟨⟩
instance g64 {l_:List Int} {x_:Int}:WJ (f3r l_ x_) 136 [.sl (l_.map (V.int .i64)),.int .i64 x_] .bool:=wX Tryz.func136 [] [(2,e8k)] (h:=fun _ _ h hQ M=>by unfold f3r at h;exact tX)
@[go_sem] def g2c (y2:List Int) (k37:Int) (a38:Int) (x36:Unit):Option (Fl Unit Bool) :=
 (f3r y2 a38).bind fun y46=>bif y46 then some (.ex true) else some (.nx ())
def f4s (d_:l8) (a_:l9) (p_:Int) (qA:Int) (t_:Int):Option Bool :=
 (e6x d_ p_ t_).bind fun y2=>(e6s a_ qA t_).bind fun y25=>(forL (g2c y2) y25 0 ()).bind fun o=>o.elim (fun x47=>some false) (fun r48=>some r48)
def g3j:List (Nat×RN):=[(2,⟨[.gc [3,4,6,11]],[],[]⟩)]
@[irreducible] def e8j:MC:=rdc (cK Tryz.prog Tryz.f100 g3j [] 3)
instance:LI e8j 23 22 [11,21,22] [] (fun y:Unit=>[]) (fun y=>[]) []:=⟨⟩
instance g6z {d_:l8} {a_:l9} {p_ qA t_:Int}:WJ (f4s d_ a_ p_ qA t_) 100 [l8.v d_,l9.v a_,.int .i64 p_,.int .i64 qA,.int .i64 t_] .bool:=wX Tryz.func100 g3j [(3,e8j)] (h:=fun _ _ h hQ M=>by unfold f4s at h;exact tX)
def e5y (d_:l8) (a_:l9) (p_:Int) (qA:Int) (t_:Int):Option Bool :=
 (F_d d_).bind fun y10=>bif (!y10) then some false else (d7z a_ qA).bind fun y11=>bif (!y11) then some false else (e5z d_ p_).bind fun y12=>bif (!y12) then some false else (e4l a_ qA t_).bind fun y14=>jn (α:=Bool) (bif y14.2 then some true else (f4s d_ a_ p_ qA t_).bind fun y18=>some y18) fun j19=>some j19
instance f5w {m:List MOp}:GI (gjt 550402 m) [] [] (fun y:Bool=>[(43,.bool y)]) (fun y=>[]):=⟨⟩
instance g6f {d_:l8} {a_:l9} {p_ qA t_:Int}:WJ (e5y d_ a_ p_ qA t_) 55 [l8.v d_,l9.v a_,.int .i64 p_,.int .i64 qA,.int .i64 t_] .bool:=wX Tryz.func55 [(3,⟨[.gc [2,3,4,5,6,37,38,39,40,41,42]],[],[]⟩),(4,⟨[.gc [2,3,4,5,6,12,37,38,39,40,41,42]],[],[.w 2 8 550402]⟩)] (h:=fun _ _ h hQ M=>by unfold e5y at h;exact tX)
@[go_sem] def f6z (d_:l8) (a_:l9) (qA:Int) (t_:Int) (k58:Int) (a59:Int) (x57:Bool×(List Int)):Option (Bool×(List Int)) :=
 (e5y d_ a_ k58 qA t_).bind fun y67=>bif y67 then chk (room (x57.2.length+[k58].length) 8) (some (x57.1,(x57.2++[k58]))) else some (x57.1,x57.2)
def e6k (d_:l8) (a_:l9) (qA:Int) (t_:Int):Option (a14×Int) :=
 (F_d d_).bind fun y4=>bif (!y4) then some ((a14.mk false []),30) else (F_n a_).bind fun y8=>bif (!y8) then some ((a14.mk false []),34) else (d7z a_ qA).bind fun y12=>bif (!y12) then some ((a14.mk false []),6) else (e4l a_ qA t_).bind fun y14=>(foldL (f6z d_ a_ qA t_) d_.Kinds 0 (y14.2,[])).bind fun x68=>some ((a14.mk x68.1 x68.2),0)
def g3p:List (Nat×RN):=[(2,⟨[.gc [8]],[],[]⟩),(4,⟨[.gc [8]],[],[]⟩),(5,⟨[.gc [2,3,4,5,8]],[],[]⟩),(6,⟨[.gc [8]],[],[]⟩),(7,⟨[],[.k 0 1],[]⟩),(9,⟨[.gc [2,3,4,5,8,10]],[],[]⟩),(13,⟨[.gc [2,3,4,5,8,10,11,35,36]],[],[]⟩)]
@[irreducible] def e8w:MC:=rdc (cK Tryz.prog Tryz.f15 g3p [] 10)
instance:LI e8w 36 35 [2,3,4,5,8,10,35] [8,5,4] (fun y:Bool×(List Int)=>[]) (fun y=>[.o 10 (.cells [.bool y.1,.osl 4161 1 0 y.2.length]),.o 4161 (.arr 1 (y.2.map (V.int .i64)))]) [.gc [2,3,4,5,8,10,35,36],.ownC 10 1 4161 1 none]:=⟨⟩
instance g7e {d_:l8} {a_:l9} {qA t_:Int}:WJ (e6k d_ a_ qA t_) 15 [l8.v d_,l9.v a_,.int .i64 qA,.int .i64 t_] fun z=>.tup [a14.v z.1,.int .i64 z.2]:=wX Tryz.func15 g3p [(10,e8w)] [.fzc 8] (h:=fun _ _ h hQ M=>by unfold e6k at h;exact tX)
def e3y (d_:l8) (a_:l9) (jA:Int) (p_:Int):Option Bool :=
 (F_d d_).bind fun y8=>jn (α:=Bool) (bif y8 then (F_n a_).bind fun y10=>some y10 else some false) fun j11=>grp ((j11&&decide (0≤jA))) fun b12=>grp ((b12&&decide (jA≤63))) fun b13=>jn (α:=Bool) (bif b13 then bif decide (p_=(-1)) then some true else (e5z d_ p_).bind fun y15=>some y15 else some false) fun j16=>some j16
instance f5u {m:List MOp}:GI (gjt 560115 m) [8] [] (fun y:Bool=>[(31,.bool y)]) (fun y=>[]):=⟨⟩
instance f5v {m:List MOp}:GI (gjt 560103 m) [2,3,4,8] [4] (fun y:Bool=>[(14,.bool y)]) (fun y=>[]):=⟨⟩
instance g6n {d_:l8} {a_:l9} {jA p_:Int}:WJ (e3y d_ a_ jA p_) 56 [l8.v d_,l9.v a_,.int .i64 jA,.int .i64 p_] .bool:=wX Tryz.func56 [(1,⟨[],[],[.w 3 5 560103,.v 7 9,.v 11 13,.w 15 22 560115]⟩)] (h:=fun _ _ h hQ M=>by unfold e3y at h;exact tX)
@[go_sem] def g2b (k20:Int) (a21:o6) (x19:List Int):Option (List Int) :=
 bif decide ((x19.length:Int)=0) then chk (room (x19.length+[a21.Time].length) 8) (some (x19++[a21.Time])) else chk (a0j ((x19.length:Int) - 1)) (chk (inb ((x19.length:Int) - 1) x19.length) (bif (!decide (x19.getD ((((x19.length:Int) - 1)).toNat) default=a21.Time)) then chk (room (x19.length+[a21.Time].length) 8) (some (x19++[a21.Time])) else some x19))
def f4r (a_:l9):Option (List Int) :=
 (F_n a_).bind fun y4=>bif (!y4) then some [] else (foldL g2b a_.Events 0 []).bind fun x22=>some x22
def g3i:List (Nat×RN):=[(0,⟨[],[.k 1 1],[]⟩),(2,⟨[],[.k 0 1],[]⟩),(3,⟨[],[.k 0 1],[]⟩),(8,⟨[.gc [3,5,10,11,12,20,21,22,23,24,25,26,27,28]],[],[]⟩)]
@[irreducible] def e8i:MC:=rdc (cK Tryz.prog Tryz.f101 g3i [] 5)
instance:LI e8i 12 11 [10,11] [] (fun y:List Int=>[(3,.osl 2003 1 0 y.length)]) (fun y=>[.o 2003 (.arr 1 (y.map (V.int .i64)))]) [.gc [3,10,11,12],.acc 3 2003 1]:=⟨⟩
instance g6y {a_:l9}:WI (f4r a_) Tryz.prog 101 [l9.v a_] [] (fun z=>.osl 1900 1 0 z.length) (fun z=>[(1900,.arr 1 (z.map (V.int .i64)))]):=wX Tryz.func101 g3i [(5,e8i)] [.acc 2 1900 1] [1900] (h:=fun _ _ h hQ M=>by unfold f4r at h;exact tX)
@[go_sem] def g2i (x129:List Int) (a131:a01) (x162:Int):Option (Fl Int Int) :=
 bif decide (x162<(x129.length:Int)) then chk (inb x162 x129.length) (bif decide (x129.getD ((x162).toNat) default<a131.Time) then chk (a0j (x162+1)) (some (.nx (x162+1))) else some (.ex x162)) else some (.ex x162)
@[go_sem] def g2a (k130:Int) (a131:a01) (x129:List Int):Option (List Int) :=
 (loop (g2i x129 a131) 0).bind fun r163=>bif decide (r163=(x129.length:Int)) then chk (inc 0 r163 x129.length) (chk (inc r163 (x129.length:Int) x129.length) (chk (room ([a131.Time].length+((x129.drop ((r163).toNat)).take (x129.length - (r163).toNat)).length) 8) (chk (b7i 0 ((r163).toNat) x129.length ([a131.Time]++(x129.drop ((r163).toNat)).take (x129.length - (r163).toNat)).length 8) (some (x129.take ((r163).toNat)++([a131.Time]++(x129.drop ((r163).toNat)).take (x129.length - (r163).toNat))))))) else chk (inb r163 x129.length) (bif (!decide (x129.getD ((r163).toNat) default=a131.Time)) then chk (inc 0 r163 x129.length) (chk (inc r163 (x129.length:Int) x129.length) (chk (room ([a131.Time].length+((x129.drop ((r163).toNat)).take (x129.length - (r163).toNat)).length) 8) (chk (b7i 0 ((r163).toNat) x129.length ([a131.Time]++(x129.drop ((r163).toNat)).take (x129.length - (r163).toNat)).length 8) (some (x129.take ((r163).toNat)++([a131.Time]++(x129.drop ((r163).toNat)).take (x129.length - (r163).toNat))))))) else some x129)
def f4z (d_:l8) (a_:l9):Option (List Int) :=
 (f4r a_).bind fun y2=>(foldL g2a d_.Events 0 y2).bind fun x164=>some x164
def g1b:List (Nat×RN):=[(1,⟨[],[.c 1 0 [] [10]],[]⟩),(9,⟨[],[.k 10 5],[]⟩)]
@[irreducible] def e0u:MC:=rdc (cK Tryz.prog Tryz.f57 g1b [] 6)
@[irreducible] def e8h:MC:=rdc (cK Tryz.prog Tryz.f57 g1b [(6,e0u)] 3)
instance:LI e0u 0 0 [5,7,12,13,14] [7,2005] (fun y:Int=>[(8,.int .i64 y)]) (fun y=>[]) []:=⟨⟩
instance:LI e8h 14 13 [12,13] [] (fun y:List Int=>[(5,.osl 2005 1 0 y.length)]) (fun y=>[.o 2005 (.arr 1 (y.map (V.int .i64)))]) [.gc [5,12,13,14],.acc 5 2005 1]:=⟨⟩
instance g7d {d_:l8} {a_:l9}:WJ (f4z d_ a_) 57 [l8.v d_,l9.v a_] fun z=>.sl (z.map (V.int .i64)):=wX Tryz.func57 g1b [(6,e0u),(3,e8h)] [.fz 4] (h:=fun _ _ h hQ M=>by have:SwA [(1900,10)]:=⟨⟩;unfold f4z at h;exact tX)
def f3q (a_:l9) (jA:Int):Option Bool :=
 (F_n a_).bind fun y4=>grp ((y4&&decide (0≤jA))) fun b5=>grp ((b5&&decide (jA≤63))) fun b6=>some b6
instance g63 {a_:l9} {jA:Int}:WJ (f3q a_ jA) 137 [l9.v a_,.int .i64 jA] .bool:=wX Tryz.func137 [(1,⟨[],[],[.v 3 5,.v 7 9]⟩)] (h:=fun _ _ h hQ M=>by unfold f3q at h;exact tX)
@[go_sem] def g29 (a_:l9) (t_:Int) (x7:Int):Option (Fl Int Int) :=
 bif decide (x7<(a_.Events.length:Int)) then chk (inb x7 a_.Events.length) (bif decide ((a_.Events.getD (x7).toNat default).Time≤t_) then chk (a0j (x7+1)) (some (.nx (x7+1))) else some (.ex x7)) else some (.ex x7)
def f3p (a_:l9) (t_:Int):Option Int :=
 (loop (g29 a_ t_) 0).bind fun r8=>some r8
@[irreducible] def e8g:MC:=rdc (cK Tryz.prog Tryz.f139 [] [] 2)
instance:LI e8g 0 0 [1,2] [2] (fun y:Int=>[(5,.int .i64 y)]) (fun y=>[]) []:=⟨⟩
instance g62 {a_:l9} {t_:Int}:WJ (f3p a_ t_) 139 [l9.v a_,.int .i64 t_] (.int .i64):=wX Tryz.func139 [] [(2,e8g)] (h:=fun _ _ h hQ M=>by unfold f3p at h;exact tX)
@[go_sem] def f6y (jA:Int) (k16:Int) (a17:o6) (x15:List Bool):Option (List Bool) :=
 bif decide (a17.Kind=5) then chk (inb a17.Place x15.length) (bif x15.getD ((a17.Place).toNat) default then chk (inb a17.Place x15.length) (some (x15.set ((a17.Place).toNat) true)) else chk (inb a17.Place x15.length) (some (x15.set ((a17.Place).toNat) (decide (a17.Content=jA))))) else bif decide (a17.Kind=6) then chk (inb a17.Place x15.length) (bif x15.getD ((a17.Place).toNat) default then chk (inb a17.Place x15.length) (some (x15.set ((a17.Place).toNat) (!decide (a17.Content=jA)))) else chk (inb a17.Place x15.length) (some (x15.set ((a17.Place).toNat) false))) else bif decide (a17.Kind=7) then chk (inb a17.Place x15.length) (bif x15.getD ((a17.Place).toNat) default then chk (inb a17.Place x15.length) (some (x15.set ((a17.Place).toNat) true)) else chk (inb a17.From x15.length) (chk (inb a17.Place x15.length) (some (x15.set ((a17.Place).toNat) (x15.getD ((a17.From).toNat) default))))) else some x15
def f4q (a_:l9) (jA:Int) (n_:Int):Option (List Bool) :=
 chk (b5l a_.Places a_.Places 1) (chk (inc 0 n_ a_.Events.length) ((foldL (f6y jA) (a_.Events.take ((n_).toNat)) 0 (List.replicate (a_.Places).toNat false)).bind fun x18=>some x18))
def g3h:List (Nat×RN):=[(9,⟨[.gc [1,7,9,16,17,18,35,36,37,38,52,53,54,55,69,70,71,72,73]],[],[]⟩),(11,⟨[.gc [1,7,9,16,17,18,35,36,37,38,52,53,54,55,69,70,71,72,73]],[],[]⟩)]
@[irreducible] def e8v:MC:=rdc (cK Tryz.prog Tryz.f138 g3h [] 3)
instance:LI e8v 18 17 [1,16,17] [] (fun y:List Bool=>[(7,.osl 12 1 0 y.length)]) (fun y=>[.o 12 (.arr 1 (y.map V.bool))]) []:=⟨⟩
instance g6x {a_:l9} {jA n_:Int}:WJ (f4q a_ jA n_) 138 [l9.v a_,.int .i64 jA,.int .i64 n_] fun z=>.sl (z.map V.bool):=wX Tryz.func138 g3h [(3,e8v)] [.fz 6] (h:=fun _ _ h hQ M=>by unfold f4q at h;exact tX)
@[go_sem] def f6x (k28:Int) (a29:Bool) (x27:List Int):Option (List Int) :=
 bif a29 then chk (room (x27.length+[k28].length) 8) (some (x27++[k28])) else some x27
def f4p (a_:l9) (jA:Int) (t_:Int):Option (List Int) :=
 (f3q a_ jA).bind fun y4=>bif (!y4) then some [] else (f3p a_ t_).bind fun y20=>(f4q a_ jA y20).bind fun y21=>(foldL f6x y21 0 []).bind fun x30=>some x30
def g3g:List (Nat×RN):=[(3,⟨[],[.k 0 1],[]⟩)]
@[irreducible] def e8u:MC:=rdc (cK Tryz.prog Tryz.f102 g3g [] 5)
instance:LI e8u 21 20 [19,20] [] (fun y:List Int=>[(7,.osl 2007 1 0 y.length)]) (fun y=>[.o 2007 (.arr 1 (y.map (V.int .i64)))]) [.gc [7,19,20,21],.acc 7 2007 1]:=⟨⟩
instance g6w {a_:l9} {jA t_:Int}:WJ (f4p a_ jA t_) 102 [l9.v a_,.int .i64 jA,.int .i64 t_] fun z=>.sl (z.map (V.int .i64)):=wX Tryz.func102 g3g [(5,e8u)] [.fz 6] (h:=fun _ _ h hQ M=>by unfold f4p at h;exact tX)
@[go_sem] def f6w (d_:l8) (a_:l9) (p_:Int) (t_:Int) (k67:Int) (a68:Int) (x66:Unit):Option (Fl Unit Bool) :=
 bif decide (p_=(-1)) then (e4l a_ a68 t_).bind fun y82=>bif y82.2 then some (.ex true) else some (.nx ()) else (e5y d_ a_ p_ a68 t_).bind fun y84=>bif y84 then some (.ex true) else some (.nx ())
def f4o (d_:l8) (a_:l9) (jA:Int) (p_:Int) (t_:Int):Option Bool :=
 (e3y d_ a_ jA p_).bind fun y10=>grp (((!y10)||decide (t_<0))) fun b11=>grp ((b11||decide (1099511627776<t_))) fun b12=>bif b12 then some false else (f4p a_ jA t_).bind fun y47=>(forL (f6w d_ a_ p_ t_) y47 0 ()).bind fun o=>o.elim (fun x85=>some false) (fun r86=>some r86)
def g3f:List (Nat×RN):=[(1,⟨[],[],[.v 7 9,.v 11 13]⟩),(3,⟨[.gc [2,3,4,5,6]],[],[]⟩)]
@[irreducible] def e8t:MC:=rdc (cK Tryz.prog Tryz.f58 g3f [] 4)
instance:LI e8t 34 33 [3,4,5,6,32,33] [6,5] (fun y:Unit=>[]) (fun y=>[]) []:=⟨⟩
instance g6v {d_:l8} {a_:l9} {jA p_ t_:Int}:WJ (f4o d_ a_ jA p_ t_) 58 [l8.v d_,l9.v a_,.int .i64 jA,.int .i64 p_,.int .i64 t_] .bool:=wX Tryz.func58 g3f [(4,e8t)] (h:=fun _ _ h hQ M=>by unfold f4o at h;exact tX)
@[go_sem] def g28 (d_:l8) (a_:l9) (jA:Int) (p_:Int) (k39:Int) (a40:Int) (x38:Unit):Option (Fl Unit (Int×Bool)) :=
 (f4o d_ a_ jA p_ a40).bind fun y48=>bif y48 then some (.ex (a40,true)) else some (.nx ())
def e6j (d_:l8) (a_:l9) (jA:Int) (p_:Int):Option (Int×Bool) :=
 (e3y d_ a_ jA p_).bind fun y4=>bif (!y4) then some (0,false) else (f4z d_ a_).bind fun y27=>(forL (g28 d_ a_ jA p_) y27 0 ()).bind fun o=>o.elim (fun x49=>some (0,false)) (fun r50=>some r50)
def g3o:List (Nat×RN):=[(3,⟨[.gc [2,3,4,5]],[],[]⟩),(7,⟨[.gc [11]],[],[]⟩)]
@[irreducible] def e8f:MC:=rdc (cK Tryz.prog Tryz.f16 g3o [] 4)
instance:LI e8f 22 21 [2,3,4,5,20,21] [5,4] (fun y:Unit=>[]) (fun y=>[]) []:=⟨⟩
instance g7c {d_:l8} {a_:l9} {jA p_:Int}:WJ (e6j d_ a_ jA p_) 16 [l8.v d_,l9.v a_,.int .i64 jA,.int .i64 p_] fun z=>.tup [.int .i64 z.1,.bool z.2]:=wX Tryz.func16 g3o [(4,e8f)] (h:=fun _ _ h hQ M=>by unfold e6j at h;exact tX)
@[go_sem] def g27 (s_:Str) (by_:UInt8) (x12:Int×Int×(List Str)):Option (Fl (Int×Int×(List Str)) (Int×(List Str))) :=
 bif decide (x12.2.1<(s_.length:Int)) then jn (α:=Int×(List Str)) (chk (inb x12.2.1 s_.length) (bif decide (((s_.getD (x12.2.1).toNat 0).toNat:Int)=(by_.toNat:Int)) then chk (inc x12.1 x12.2.1 s_.length) (chk (room (x12.2.2.length+[((s_.take ((x12.2.1).toNat)).drop ((x12.1).toNat))].length) 16) (chk (a0j (x12.2.1+1)) (some ((x12.2.1+1),(x12.2.2++[((s_.take ((x12.2.1).toNat)).drop ((x12.1).toNat))]))))) else some (x12.1,x12.2.2))) fun j14=>chk (a0j (x12.2.1+1)) (some (.nx (j14.1,(x12.2.1+1),j14.2))) else some (.ex (x12.1,x12.2.2))
def e6r (s_:Str) (by_:UInt8):Option (List Str) :=
 (loop (g27 s_ by_) (0,0,[])).bind fun r15=>chk (inc r15.1 (s_.length:Int) s_.length) (chk (room (r15.2.length+[(s_.drop ((r15.1).toNat))].length) 16) (some (r15.2++[(s_.drop ((r15.1).toNat))])))
def g1d:List (Nat×RN):=[(1,⟨[],[.k 0 1],[]⟩),(7,⟨[.gc [0,1,5,6,7]],[],[]⟩),(8,⟨[.gc [0,1,5,7]],[],[]⟩)]
@[irreducible] def e0l:MC:=rdc (cK Tryz.prog Tryz.f14 g1d [] 10000005)
@[irreducible] def e8e:MC:=rdc (cK Tryz.prog Tryz.f14 g1d [(10000005,e0l)] 4)
instance:LI e0l 0 0 [0,1,7] [] (fun y:Int×(List Str)=>[(5,.osl 2005 1 0 y.2.length),(6,.int .i64 y.1)]) (fun y=>[.o 2005 (.arr 1 (y.2.map V.str))]) [.gc [0,1,5,6,7],.acc 5 2005 1]:=⟨⟩
instance:LI e8e 0 0 [0,1] [] (fun y:Int×Int×(List Str)=>[(5,.osl 2005 1 0 y.2.2.length),(6,.int .i64 y.1),(7,.int .i64 y.2.1)]) (fun y=>[.o 2005 (.arr 1 (y.2.2.map V.str))]) [.gc [0,1,5,6,7],.acc 5 2005 1]:=⟨⟩
instance g7t {s_:Str} {by_:UInt8}:WJ (e6r s_ by_) 14 [.str s_,a0r by_] fun z=>.sl (z.map V.str):=wX Tryz.func14 g1d [(10000005,e0l),(4,e8e)] [.fz 4] (h:=fun _ _ h hQ M=>by unfold e6r at h;exact tX)
end
end Go.Ab