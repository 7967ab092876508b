/- What the functions of this seat that lie on the laws' road compute (part LO), each for every input. By AI agents. -/
import Derived.Test.YtnaeedamiaoipaaGreatDoorLM
import Derived.Test.YtnaeedamiaoipaaGreatDoorLT
import Derived.Test.YtnaeedamiaoipaaGreatDoorLN
import Derived.Test.YtnaeedamiaoipaaGreatDoorAbUns
set_option linter.all false
set_option maxRecDepth 20000
set_option maxHeartbeats 2000000
namespace Go.Ab
open Go.Proofs
noncomputable section
@[go_sem] def f4f (c_:d9) (k130:Int) (a131:a1r) (x129:List Str):Option (List Str) :=
 bif a131.jF.isSome then bif decide (a131.jF=some 142) then (d6g c_).bind fun y157=>chk (room (x129.length+[c_.Name].length) 16) (some (x129++[c_.Name])) else bif decide (a131.jF=some 143) then (d6h c_).bind fun y156=>chk (room (x129.length+[c_.Other].length) 16) (some (x129++[c_.Other])) else none else bif decide (a131.n_=some 141) then (d6d c_).bind fun y162=>(a5l c_.Time).bind fun y163=>chk (room (x129.length+[y163].length) 16) (some (x129++[y163])) else bif decide (a131.n_=some 144) then (d6e c_).bind fun y160=>(a5l c_.A).bind fun y161=>chk (room (x129.length+[y161].length) 16) (some (x129++[y161])) else bif decide (a131.n_=some 145) then (d6f c_).bind fun y158=>(a5l c_.B).bind fun y159=>chk (room (x129.length+[y159].length) 16) (some (x129++[y159])) else none
def e6i (c_:d9):Option Str :=
 d83.bind fun y2=>chk (a0j (c_.Kind - 1)) (chk (inb (c_.Kind - 1) y2.length) ((foldL (f4f c_) ((y2.getD ((c_.Kind - 1)).toNat default).qE) 0 [(y2.getD ((c_.Kind - 1)).toNat default).tF]).bind fun x164=>(c29 x164 [32]).bind fun y166=>chk (a4m (y166.length+[10].length)) (some (y166++[10]))))
def g3n:List (Nat×RN):=[(2,⟨[.gc [1,3]],[],[]⟩),(7,⟨[],[.c 3 0 [1] []],[]⟩),(8,⟨[],[.c 3 0 [1] []],[]⟩),(10,⟨[],[],[.n 1 (.fz 44)]⟩)]
@[irreducible] def e9c:MC:=rdc (cK Tryz.prog Tryz.f60 g3n [] 4)
instance:LI e9c 19 18 [1,17,18] [1] (fun y:List Str=>[(4,.osl 2004 1 0 y.length)]) (fun y=>[.o 2004 (.arr 1 (y.map V.str))]) [.gc [1,4,17,18,19],.acc 4 2004 1]:=⟨⟩
instance g7a {c_:d9}:WJ (e6i c_) 60 [d9.v c_] .str:=wX Tryz.func60 g3n [(4,e9c)] (h:=fun _ _ h hQ M=>by have:SwA [(1000,1)]:=⟨⟩;unfold e6i at h;exact tX)
@[go_sem] def e6h (qB:List Str) (k19:Int) (a20:Int) (x18:Str):Option Str :=
 chk (inb a20 qB.length) (chk (a4m ([32].length+(qB.getD (a20).toNat default).length)) (chk (a4m (x18.length+(([32]:Str)++(qB.getD (a20).toNat default)).length)) (some (x18++(([32]:Str)++(qB.getD (a20).toNat default))))))
def e3w (c_:d9) (d_:l8) (a_:l9) (qB:List Str):Option Str :=
 (e4p d_ a_ c_.A c_.Time).bind fun y2=>jn (α:=Str) (bif y2.1.Public then some [112,117,98,108,105,99] else some [105,110,115,105,100,101]) fun j3=>(foldL (e6h qB) y2.1.Principals 0 j3).bind fun x21=>some x21
@[irreducible] def e0x:MC:=rdc (cK Tryz.prog Tryz.f30 [] [] 6)
@[irreducible] def e87:MC:=rdc (cK Tryz.prog Tryz.f30 [] [(6,e0x)] 10000005)
instance:LI e0x 29 28 [3,27,28] [] (fun y:Str=>[(11,.str y)]) (fun y=>[]) []:=⟨⟩
instance:LI e87 0 0 [3,9] [9] (fun y:Str=>[(11,.str y)]) (fun y=>[]) []:=⟨⟩
instance g6l {c_:d9} {d_:l8} {a_:l9} {qB:List Str}:WJ (e3w c_ d_ a_ qB) 30 [d9.v c_,l8.v d_,l9.v a_,.sl (qB.map V.str)] .str:=wX Tryz.func30 [] [(6,e0x),(10000005,e87)] (h:=fun _ _ h hQ M=>by unfold e3w at h;exact tX)
def e4u (y2:l8×l9×(List Str)×Int) (k144:Int) (a145:d9) (x143:List UInt8):Option (List UInt8) :=
 bif decide (a145.Kind=10) then (e3w a145 y2.1 y2.2.1 y2.2.2.1).bind fun y173=>chk (a4m (y173.length+[10].length)) ((bws x143 (y173++[10])).bind fun y174=>some y174) else bif decide (a145.Kind=11) then jn (α:=Str) ((d2c y2.2.2.1 a145.Name).bind fun y183=>(d80 y2.1 y2.2.1 a145.A y183).bind fun y184=>bif y184.2 then (a5l y184.1).bind fun y185=>some y185 else some [110,101,118,101,114]) fun j180=>chk (a4m (j180.length+[10].length)) ((bws x143 (j180++[10])).bind fun y186=>some y186) else some x143
def F_i (l_:List d9):Option (Str×Int) := (F_m l_).bind fun y2=>bif (!decide (y2.2.2.2=0)) then some ([],y2.2.2.2) else (foldL (e4u y2) l_ 0 ([]:Str)).bind fun x187=>(e5u x187).bind fun y189=>some (y189,0)
def a_i:List (Nat×RN):=[(3,⟨[.gc [7]],[],[]⟩),(4,⟨[],[.k 0 8],[.n 1 (.bld 8),.n 1 (.ownC 8 1 5008 1 (some 5))]⟩),(5,⟨[.gc [0,4,5,6,8]],[],[]⟩),(10,⟨[],[.c 6 0 [8,4129] [10561]],[]⟩),(13,⟨[.gc [4,5,6,8,10,11,24,25,26]],[],[]⟩),(15,⟨[.gc [4,5,6,8,12,24,25,26]],[],[]⟩),(16,⟨[],[.c 2 0 [8,4129] [11841]],[]⟩),(18,⟨[],[.c 0 0 [8,4129] []],[]⟩)]
@[irreducible] def d3q:MC:=rdc (cK Tryz.prog Tryz.f12 a_i [] 10000016)
@[irreducible] def d4a:MC:=rdc (cK Tryz.prog Tryz.f12 a_i [(10000016,d3q)] 6)
def g2u:MC:=rdc (cT Tryz.prog Tryz.f12 a_i [(10000016,d3q),(6,d4a)])
instance g9g {l_:List d9}:WI (F_i l_) Tryz.prog 12 [.sl (l_.map d9.v)] [] (fun z=>.tup [.str z.1,.int .i64 z.2]) (fun z=>[]):=⟨fun Q Q' h hQ=>by
 refine a2g g2u [] [] [.t 2,.t 3] Tryz.func12 fun M=>?_
 unfold F_i at h
 unfold g2u
 replace h:=tY h
 refine tB ?_
 repeat' (first
 | (exact tZ)
 | ((first|refine b3a h ?_|refine a3y h ?_|refine b3m h ?_|refine b3l h ?_|refine b3t h ?_|refine appG h ?_|refine b3v h ?_|refine fork h ?_ ?_|refine a4a h ?_ ?_)<;>clear h<;>intro hc h)
 | (obtain ⟨y,hy,h⟩:=h;have hw:=o9 1002 10561 (o9 1001 5008 (o9 1000 8 (e5w hy)));replace hw:=tY hw;(first|refine M.sC hw ?_|refine M.sD hw ?_);clear hw hy;refine tB ?_)
 | (obtain ⟨y,hy,h⟩:=h;have hw:=o9 1002 11841 (o9 1001 5008 (o9 1000 8 (e5w hy)));replace hw:=tY hw;(first|refine M.sC hw ?_|refine M.sD hw ?_);clear hw hy;refine tB ?_)
 | (obtain ⟨y,hy,h⟩:=h;have hw:=o9 1002 10561 (o9 1001 4129 (o9 1000 8 (e5w hy)));replace hw:=tY hw;(first|refine M.sC hw ?_|refine M.sD hw ?_);clear hw hy;refine tB ?_)
 | (obtain ⟨y,hy,h⟩:=h;have hw:=o9 1002 11841 (o9 1001 4129 (o9 1000 8 (e5w hy)));replace hw:=tY hw;(first|refine M.sC hw ?_|refine M.sD hw ?_);clear hw hy;refine tB ?_)
 | (obtain ⟨y,hy,h⟩:=h;(first|have hw:=o9 1001 4129 (o9 1000 8 (g4d hy))|have hw:=WI.w hy|have hw:=g1w hy);replace hw:=tY hw;(first|refine M.sC hw ?_|refine M.sD hw ?_);clear hw hy;refine tB ?_)
 | (refine M.jn1 (b:=d3q) [4,5,6,8,24,25,26] [8,4129,5,4] (fun y=>[(11,.str y)]) (fun y=>[]) [] h ?_ ?_<;>first
 | (clear h;intro Qn K hK1 h;replace h:=tY h;refine tB ?_)
  |(clear h;intro y h;unfold d3q;replace h:=tY h;refine tB ?_))
 | (refine M.fold1 (b:=d4a) 26 [4,5,6,8,24,25] [8,5,4] (fun x=>[]) (fun x=>[.p 8 1 [.osl 4129 1 0 x.length],.o 4129 (.arr 1 (x.map a0r) (some 5))]) [.gc [4,5,6,8,24,25,26],.ownC 8 1 4129 1 none] h ?_ ?_ ?_<;>first
 | (clear h;intro k a x Qn K hK2 hkN2 ha2 h hf;have hl:=a1s (a0q (n:=25) hf.1 rfl);clear hf;have hkd:=kD hkN2;have hkB2:=kB hkN2;have hkI2:=kI (k:=k) (by omega);unfold e4u at h;unfold d4a;replace h:=tY h;refine tK ha2 hkd hkN2 hkB2 hkI2 ?_)
  |(clear h;intro x K h;replace h:=And.left (And.intro h trivial);unfold d4a;replace h:=tY h;refine tB ?_)
  |(clear h;(try refine tB ?_);exact tU0;done))
 | (simp only [ha2])
 | ((first|refine hK1 _ ?_|refine hK2 _ ?_);(try refine tB ?_);refine ⟨_,h,?_⟩;exact tU0;done)
 | (refine tE ?_;(first|rw [M.lok_compU]|rw [M.lokD_compU]);refine tB ?_)
 | (refine tA ?_)
 | fail)⟩
def f7n (k48:Int) (a49:d9) (x47:List UInt8):Option (List UInt8) :=
 (e6i a49).bind fun y56=>(bws x47 y56).bind fun y57=>some y57
def e4z (l_:List d9):Option (Str×Int) :=
 (d6c l_).bind fun y4=>bif (!decide (y4=0)) then some ([],y4) else (foldL f7n l_ 0 ([]:Str)).bind fun x58=>(e5u x58).bind fun y60=>some (y60,0)
def g4a:List (Nat×RN):=[(4,⟨[],[.k 0 8],[.n 1 (.bld 5),.n 1 (.ownC 5 1 5005 1 (some 5))]⟩),(8,⟨[],[.c 2 0 [5,4081] [9345]],[]⟩),(10,⟨[],[.c 0 0 [5,4081] []],[]⟩)]
@[irreducible] def d44:MC:=rdc (cK Tryz.prog Tryz.f18 g4a [] 6)
def f01:MC:=rdc (cT Tryz.prog Tryz.f18 g4a [(6,d44)])
instance g8i {l_:List d9}:WI (e4z l_) Tryz.prog 18 [.sl (l_.map d9.v)] [] (fun z=>.tup [.str z.1,.int .i64 z.2]) (fun z=>[]):=⟨fun Q Q' h hQ=>by
 refine a2g f01 [] [] [.t 2,.t 3] Tryz.func18 fun M=>?_
 unfold e4z at h
 unfold f01
 replace h:=tY h
 refine tB ?_
 repeat' (first
 | (exact tZ)
 | ((first|refine b3a h ?_|refine a3y h ?_|refine b3m h ?_|refine b3l h ?_|refine b3t h ?_|refine appG h ?_|refine b3v h ?_|refine fork h ?_ ?_|refine a4a h ?_ ?_)<;>clear h<;>intro hc h)
 | (obtain ⟨y,hy,h⟩:=h;have hw:=o9 1002 9345 (o9 1001 5005 (o9 1000 5 (e5w hy)));replace hw:=tY hw;(first|refine M.sC hw ?_|refine M.sD hw ?_);clear hw hy;refine tB ?_)
 | (obtain ⟨y,hy,h⟩:=h;have hw:=o9 1002 9345 (o9 1001 4081 (o9 1000 5 (e5w hy)));replace hw:=tY hw;(first|refine M.sC hw ?_|refine M.sD hw ?_);clear hw hy;refine tB ?_)
 | (obtain ⟨y,hy,h⟩:=h;(first|have hw:=o9 1001 4081 (o9 1000 5 (g4d hy))|have hw:=WI.w hy);replace hw:=tY hw;(first|refine M.sC hw ?_|refine M.sD hw ?_);clear hw hy;refine tB ?_)
 | (refine M.fold1 (b:=d44) 15 [5,13,14] [5] (fun x=>[]) (fun x=>[.p 5 1 [.osl 4081 1 0 x.length],.o 4081 (.arr 1 (x.map a0r) (some 5))]) [.gc [5,13,14,15],.ownC 5 1 4081 1 none] h ?_ ?_ ?_<;>first
 | (clear h;intro k a x Qn K hK1 hkN1 ha1 h hf;have hl:=a1s (a0q (n:=14) hf.1 rfl);clear hf;have hkd:=kD hkN1;have hkB1:=kB hkN1;have hkI1:=kI (k:=k) (by omega);unfold f7n at h;unfold d44;replace h:=tY h;refine tK ha1 hkd hkN1 hkB1 hkI1 ?_)
  |(clear h;intro x K h;replace h:=And.left (And.intro h trivial);unfold d44;replace h:=tY h;refine tB ?_)
  |(clear h;(try refine tB ?_);exact tU0;done))
 | (simp only [ha1])
 | (refine hK1 _ ?_;(try refine tB ?_);refine ⟨_,h,?_⟩;exact tU0;done)
 | (refine tE ?_;(first|rw [M.lok_compU]|rw [M.lokD_compU]);refine tB ?_)
 | (refine tA ?_)
 | fail)⟩
set_option maxRecDepth 20000
set_option maxHeartbeats 2000000
def f6k (k12:Int) (a11:Str) (x10:List Str):Option (Fl (List Str) Empty) :=
 chk (room (x10.length+[a11].length) 16) (some (.nx (x10++[a11])))
def f7p (kC:Str):Option (List Str) :=
 (forL f6k (a1g kC) 0 []).bind fun o=>o.elim (fun x13=>some x13) (fun r14=>none)
def g3s:List (Nat×RN):=[(30000003,⟨[.ownC 2 0 4032 1 none],[],[]⟩)]
@[irreducible] def e0h:MC:=rdc (cK Tryz.prog Tryz.f111 g3s [] 3)
def e9s:MC:=rdc (cT Tryz.prog Tryz.f111 g3s [(3,e0h)])
instance g7p {kC:Str}:WI (f7p kC) Tryz.prog 111 [.nils,.fn (.func 112) [.ptr 1000 0]] [(1000,.cells [.str kC])] (fun z=>.sl (z.map V.str)) (fun z=>[]):=⟨fun Q Q' h hQ=>by
 refine a2g e9s [.fz 4] [] [.t 4] Tryz.func111 fun M=>?_
 unfold f7p at h
 unfold e9s
 replace h:=tY h
 refine tB ?_
 repeat' (first
 | (exact tZ)
 | ((first|refine b3a h ?_|refine a3y h ?_|refine b3m h ?_|refine b3l h ?_|refine b3t h ?_|refine appG h ?_|refine b3v h ?_|refine fork h ?_ ?_|refine a4a h ?_ ?_)<;>clear h<;>intro hc h)
 | (refine M.rforC (b:=e0h) (enc:=fun a=>[.str a]) _ [1000,2] [] (fun x=>[.o 2 (.cells [.osl 4032 1 0 x.length]),.o 4032 (.arr 1 (x.map V.str))]) [.gc [0,1,2,4,6],.ownC 2 0 4032 1 none] h rfl (g8s _ _) ⟨rfl,trivial,rfl,trivial⟩ rfl (fun a=>⟨rfl,rfl⟩) ?_ (g0d rfl) ?_ rfl ?_<;>first
 | (clear h;intro k a x Qn K hK1 hkN1 h hf;clear hf;unfold f6k at h;unfold e0h;replace h:=tY h;refine tB ?_)
  |(clear h;intro x h;replace h:=tY h;refine tB ?_)
  |(clear h;(try refine tB ?_);exact tU0;done))
 | (refine hK1 _ ?_;(try refine tB ?_);refine ⟨_,h,?_⟩;exact tU0;done)
 | (refine tE ?_;(first|rw [M.lok_compU]|rw [M.lokD_compU]);refine tB ?_)
 | (refine tA ?_)
 | fail)⟩
def f4b (kC:Str):Option (List Str) :=
 (f7p kC).bind fun y2=>some y2
instance g1i {kC:Str}:WI (f4b kC) Tryz.prog 73 [.fn (.func 112) [.ptr 1000 0]] [(1000,.cells [.str kC])] (fun z=>.sl (z.map V.str)) (fun z=>[]):=wX Tryz.func73 [(1,⟨[],[.c 1 1 [1000] []],[]⟩)] [] [.fz 2] (h:=fun _ _ h hQ M=>by unfold f4b at h;exact tX)
def f3l (s_:Str) (gB:Str):Option Bool :=
 jn (α:=Bool) (bif decide ((gB.length:Int)≤(s_.length:Int)) then chk (a0j ((s_.length:Int) - (gB.length:Int))) (chk (inc ((s_.length:Int) - (gB.length:Int)) (s_.length:Int) s_.length) (some (decide ((s_.drop ((((s_.length:Int) - (gB.length:Int))).toNat))=gB)))) else some false) fun j2=>some j2
instance f0l {m:List MOp}:GI (gjt 1820106 m) [4] [] (fun y:Bool=>[(20,.bool y)]) (fun y=>[]):=⟨⟩
instance g5y {s_ gB:Str}:WJ (f3l s_ gB) 182 [.str s_,.str gB] .bool:=wX Tryz.func182 [(1,⟨[],[],[.w 6 15 1820106]⟩)] (h:=fun _ _ h hQ M=>by unfold f3l at h;exact tX)
def f6n (s_:Str) (gB:Str):Option Str :=
 (f3l s_ gB).bind fun y4=>bif y4 then chk (a0j ((s_.length:Int) - (gB.length:Int))) (chk (inc 0 ((s_.length:Int) - (gB.length:Int)) s_.length) (some (s_.take ((((s_.length:Int) - (gB.length:Int))).toNat)))) else some s_
instance g5s {s_ gB:Str}:WJ (f6n s_ gB) 148 [.str s_,.str gB] .str:=wX Tryz.func148 (h:=fun _ _ h hQ M=>by unfold f6n at h;exact tX)
def f3k (s_:Str) (gB:Str):Option Str :=
 (f6n s_ gB).bind fun y2=>some y2
instance g5x {s_ gB:Str}:WJ (f3k s_ gB) 115 [.str s_,.str gB] .str:=wX Tryz.func115 (h:=fun _ _ h hQ M=>by unfold f3k at h;exact tX)
def f3j (f_:a3v) (p_:List Str):Option Bool :=
 chk (inb 0 p_.length) (some (decide (f_.tF=(p_.getD 0 default))))
instance g5w {f_:a3v} {p_:List Str}:WI (f3j f_ p_) Tryz.prog 117 [a3v.v f_,.ptr 1000 0] [(1000,.cells [.sl (p_.map V.str)])] (fun z=>.bool z) (fun z=>[(1000,.cells [.sl (p_.map V.str)])]):=wX Tryz.func117 [] [] [] [1000] (h:=fun _ _ h hQ M=>by unfold f3j at h;exact tX)
@[go_sem] def f6r (qF:List Str) (k31:Int) (a32:a3v) (x30:Unit):Option (Fl Unit Int) :=
 (f3j a32 qF).bind fun y40=>bif y40 then some (.ex k31) else some (.nx ())
def e6g (s_:List a3v) (qF:List Str):Option Int :=
 (forL (f6r qF) s_ 0 ()).bind fun o=>o.elim (fun x41=>some (-1)) (fun r42=>some r42)
def g3m:List (Nat×RN):=[(4,⟨[],[.c 5 0 [1000] []],[]⟩)]
@[irreducible] def e8o:MC:=rdc (cK Tryz.prog Tryz.f116 g3m [] 2)
instance:LI e8o 8 7 [0,1,7] [1000] (fun y:Unit=>[]) (fun y=>[]) []:=⟨⟩
instance g79 {s_:List a3v} {qF:List Str}:WI (e6g s_ qF) Tryz.prog 116 [.sl (s_.map a3v.v),.fn (.func 117) [.ptr 1000 0]] [(1000,.cells [.sl (qF.map V.str)])] (fun z=>.int .i64 z) (fun z=>[(1000,.cells [.sl (qF.map V.str)])]):=wX Tryz.func116 g3m [(2,e8o)] [] [1000] (h:=fun _ _ h hQ M=>by unfold e6g at h;exact tX)
@[go_sem] def d2e (y4:List Str) (k215:Int) (a216:a1r) (x214:d9):Option (Fl d9 (d9×Bool)) :=
 bif a216.jF.isSome then bif decide (a216.jF=some 142) then (d6g x214).bind fun y263=>chk (inb (k215+1) y4.length) (some (.nx (d9.mk x214.Kind (y4.getD ((k215+1)).toNat default) x214.Other x214.Time x214.A x214.B))) else bif decide (a216.jF=some 143) then (d6h x214).bind fun y262=>chk (inb (k215+1) y4.length) (some (.nx (d9.mk x214.Kind x214.Name (y4.getD ((k215+1)).toNat default) x214.Time x214.A x214.B))) else none else chk (inb (k215+1) y4.length) ((c0k (y4.getD ((k215+1)).toNat default)).bind fun y265=>bif (!y265.2) then some (.ex ((d9.mk 0 [] [] 0 0 0),false)) else bif decide (a216.n_=some 141) then (d6d x214).bind fun y268=>some (.nx (d9.mk x214.Kind x214.Name x214.Other y265.1 x214.A x214.B)) else bif decide (a216.n_=some 144) then (d6e x214).bind fun y267=>some (.nx (d9.mk x214.Kind x214.Name x214.Other x214.Time y265.1 x214.B)) else bif decide (a216.n_=some 145) then (d6f x214).bind fun y266=>some (.nx (d9.mk x214.Kind x214.Name x214.Other x214.Time x214.A y265.1)) else none)
def F_p (jC:Str):Option (d9×Bool) := (f3k jC [10]).bind fun y3=>(d2o y3 [32]).bind fun y4=>d83.bind fun y7=>(e6g y7 y4).bind fun y8=>bif decide (y8<0) then some ((d9.mk 0 [] [] 0 0 0),false) else d83.bind fun y12=>chk (inb y8 y12.length) (chk (a0j (1+(((y12.getD (y8).toNat default).qE).length:Int))) (bif (!decide ((y4.length:Int)=(1+(((y12.getD (y8).toNat default).qE).length:Int)))) then some ((d9.mk 0 [] [] 0 0 0),false) else chk (a0j (y8+1)) (d83.bind fun y130=>chk (inb y8 y130.length) ((forL (d2e y4) ((y130.getD (y8).toNat default).qE) 0 (d9.mk (y8+1) [] [] 0 0 0)).bind fun o=>o.elim (fun x269=>(e4t x269).bind fun y273=>bif y273 then (e6i x269).bind fun y274=>some (x269,decide (y274=jC)) else some (x269,false)) (fun r270=>some r270)))))
def a_p:List (Nat×RN):=[(2,⟨[],[.c 2 0 [4] []],[]⟩),(4,⟨[.gc [2]],[],[]⟩),(5,⟨[.gc [0,2,4,5,80,81,82,83]],[],[]⟩),(10,⟨[],[.c 2 0 [6] []],[]⟩),(13,⟨[.gc [2]],[],[]⟩),(14,⟨[.gc [0,2,4,6,8,9,39,40,41,80,81,82,83]],[.c 2 0 [6] []],[]⟩)]
@[irreducible] def e9y:MC:=rdc (cK Tryz.prog Tryz.f75 a_p [] 7)
instance:LI e9y 41 40 [0,2,4,6,39,40] [4,2] (fun y:d9=>[]) (fun y=>[.o 6 (.cells [.int .i64 y.Kind,.str y.Name,.str y.Other,.int .i64 y.Time,.int .i64 y.A,.int .i64 y.B])]) []:=⟨⟩
instance g99 {jC:Str}:WJ (F_p jC) 75 [.str jC] fun z=>.tup [d9.v z.1,.bool z.2]:=wX Tryz.func75 a_p [(7,e9y)] (h:=fun _ _ h hQ M=>by have:SwA [(1000,4)]:=⟨⟩;have:SwB [(1000,6)]:=⟨⟩;unfold F_p at h;exact tX)
def F_q (k49:Int) (a50:Str) (x48:List d9):Option (Fl (List d9) ((List d9)×Int×Int)) := (F_p a50).bind fun y58=>bif (!y58.2) then some (.ex ([],k49,45)) else chk (room (x48.length+[y58.1].length) 64) (some (.nx (x48++[y58.1])))
def e4y (jC:Str):Option ((List d9)×Int×Int) :=
 (g0a jC).bind fun y3=>(f4b jC).bind fun y4=>bif decide (60<(y4.length:Int)) then some ([],60,3) else (forL F_q y4 0 []).bind fun o=>o.elim (fun x59=>some (x59,0,0)) (fun r60=>some r60)
def g49:List (Nat×RN):=[(1,⟨[],[.c 1 0 [] [12],.c 2 0 [12] []],[]⟩),(3,⟨[.gc []],[],[]⟩),(4,⟨[],[.k 0 1],[]⟩),(5,⟨[.gc [5,6]],[],[]⟩),(10,⟨[.gc [7]],[],[]⟩),(11,⟨[.gc [6,9,17,18,19]],[],[]⟩)]
@[irreducible] def f5l:MC:=rdc (cK Tryz.prog Tryz.f26 g49 [] 6)
def f00:MC:=rdc (cT Tryz.prog Tryz.f26 g49 [(6,f5l)])
instance g8h {jC:Str}:WI (e4y jC) Tryz.prog 26 [.str jC] [] (fun z=>.tup [.sl (z.1.map d9.v),.int .i64 z.2.1,.int .i64 z.2.2]) (fun z=>[]):=⟨fun Q Q' h hQ=>by
 refine a2g f00 [.fz 2] [] [.t 2,.t 3,.t 4] Tryz.func26 fun M=>?_
 unfold e4y at h
 unfold f00
 replace h:=tY h
 refine tB ?_
 repeat' (first
 | (exact tZ)
 | ((first|refine b3a h ?_|refine a3y h ?_|refine b3m h ?_|refine b3l h ?_|refine b3t h ?_|refine appG h ?_|refine b3v h ?_|refine fork h ?_ ?_|refine a4a h ?_ ?_)<;>clear h<;>intro hc h)
 | (obtain ⟨y,hy,h⟩:=h;(first|have hw:=o9 1900 12 (g8r hy)|have hw:=o9 1000 12 (g1i.c.w hy)|have hw:=WI.w hy);replace hw:=tY hw;(first|refine M.sC hw ?_|refine M.sD hw ?_);clear hw hy;refine tB ?_)
 | (refine M.for1 (b:=f5l) 19 [17,18] [] (fun x=>[(6,.osl 2006 6 0 x.length)]) (fun x=>[.o 2006 (.arr 6 (x.map d9.v))]) [.gc [6,17,18,19],.acc 6 2006 6] h ?_ ?_ ?_<;>first
 | (clear h;intro k a x Qn K hK1 hkN1 ha1 h hf;have hl:=a1s (a0q (n:=18) hf.1 rfl);clear hf;have hkd:=kD hkN1;have hkB1:=kB hkN1;have hkI1:=kI (k:=k) (by omega);unfold F_q at h;unfold f5l;replace h:=tY h;refine tK ha1 hkd hkN1 hkB1 hkI1 ?_)
  |(clear h;intro x K h;replace h:=And.left (And.intro h trivial);unfold f5l;replace h:=tY h;refine tB ?_)
  |(clear h;(try refine tB ?_);exact tU0;done))
 | (simp only [ha1])
 | (refine hK1 _ ?_;(try refine tB ?_);refine ⟨_,h,?_⟩;exact tU0;done)
 | (refine tE ?_;(first|rw [M.lok_compU]|rw [M.lokD_compU]);refine tB ?_)
 | (refine tA ?_)
 | fail)⟩
def d7y:Option Bool :=
 (e4y [112,101,114,115,111,110,32,97,110,110,10,97,108,108,111,119,32,51,32,97,110,110,32,48,10,112,117,116,32,53,32,55,32,48,10,115,105,110,99,101,32,55,32,97,110,110,10,119,104,111,32,52,32,48,10]).bind fun y2=>(F_i y2.1).bind fun y4=>grp ((decide (y2.2.2=0)&&decide ((y2.1.length:Int)=5))) fun b8=>grp ((b8&&decide (y4.2=0))) fun b9=>grp ((b9&&decide (y4.1=[53,10,105,110,115,105,100,101,32,97,110,110,10]))) fun b10=>some b10
instance g6u:WJ d7y 8 [] .bool:=wX Tryz.func8 [(3,⟨[.gc [1,3,4,5,19,20,21,24,25,28,29]],[],[.v 3 6,.v 8 10,.v 12 14]⟩)] (h:=fun _ _ h hQ M=>by unfold d7y at h;exact tX)
@[go_sem] def f4e (b_:List Int) (k11:Int) (a12:Int) (x10:Unit):Option (Fl Unit Bool) :=
 chk (inb k11 b_.length) (bif (!decide (a12=(b_.getD (k11).toNat default))) then some (.ex false) else some (.nx ()))
def f3i (a_:List Int) (b_:List Int):Option Bool :=
 bif (!decide ((a_.length:Int)=(b_.length:Int))) then some false else (forL (f4e b_) a_ 0 ()).bind fun o=>o.elim (fun x13=>some true) (fun r14=>some r14)
@[irreducible] def e9b:MC:=rdc (cK Tryz.prog Tryz.f72 [] [] 4)
instance:LI e9b 13 12 [0,1,12] [] (fun y:Unit=>[]) (fun y=>[]) []:=⟨⟩
instance g5v {a_ b_:List Int}:WJ (f3i a_ b_) 72 [.sl (a_.map (V.int .i64)),.sl (b_.map (V.int .i64))] .bool:=wX Tryz.func72 [] [(4,e9b)] (h:=fun _ _ h hQ M=>by unfold f3i at h;exact tX)
@[go_sem] def f4d (b_:l8) (k19:Int) (a20:a01) (x18:Unit):Option (Fl Unit Bool) :=
 chk (inb k19 b_.Events.length) (bif (!(decide (a20.Time=(b_.Events.getD (k19).toNat default).Time)&&(decide (a20.Kind=(b_.Events.getD (k19).toNat default).Kind)&&(decide (a20.Principal=(b_.Events.getD (k19).toNat default).Principal)&&decide (a20.Group=(b_.Events.getD (k19).toNat default).Group))))) then some (.ex false) else some (.nx ()))
def f4n (a_:l8) (b_:l8):Option Bool :=
 (f3i a_.Kinds b_.Kinds).bind fun y7=>grp (((!y7)||(!decide ((a_.Events.length:Int)=(b_.Events.length:Int))))) fun b8=>bif b8 then some false else (forL (f4d b_) a_.Events 0 ()).bind fun o=>o.elim (fun x21=>some true) (fun r22=>some r22)
def g3e:List (Nat×RN):=[(1,⟨[],[],[.v 7 14]⟩),(3,⟨[.gc [2,3]],[],[]⟩)]
@[irreducible] def e9a:MC:=rdc (cK Tryz.prog Tryz.f23 g3e [] 4)
instance:LI e9a 24 23 [2,3,23] [3,2] (fun y:Unit=>[]) (fun y=>[]) []:=⟨⟩
instance g6t {a_ b_:l8}:WJ (f4n a_ b_) 23 [l8.v a_,l8.v b_] .bool:=wX Tryz.func23 g3e [(4,e9a)] (h:=fun _ _ h hQ M=>by unfold f4n at h;exact tX)
@[go_sem] def f4c (b_:l9) (k15:Int) (a16:o6) (x14:Unit):Option (Fl Unit Bool) :=
 chk (inb k15 b_.Events.length) (bif (!(decide (a16.Time=(b_.Events.getD (k15).toNat default).Time)&&(decide (a16.Kind=(b_.Events.getD (k15).toNat default).Kind)&&(decide (a16.Place=(b_.Events.getD (k15).toNat default).Place)&&(decide (a16.Principal=(b_.Events.getD (k15).toNat default).Principal)&&(decide (a16.Until=(b_.Events.getD (k15).toNat default).Until)&&(decide (a16.Content=(b_.Events.getD (k15).toNat default).Content)&&decide (a16.From=(b_.Events.getD (k15).toNat default).From)))))))) then some (.ex false) else some (.nx ()))
def f4m (a_:l9) (b_:l9):Option Bool :=
 grp (((!decide (a_.Places=b_.Places))||(!decide ((a_.Events.length:Int)=(b_.Events.length:Int))))) fun b4=>bif b4 then some false else (forL (f4c b_) a_.Events 0 ()).bind fun o=>o.elim (fun x17=>some true) (fun r18=>some r18)
def g3d:List (Nat×RN):=[(1,⟨[],[],[.v 6 13]⟩),(3,⟨[.gc [2,3]],[],[]⟩)]
@[irreducible] def e98:MC:=rdc (cK Tryz.prog Tryz.f24 g3d [] 4)
instance:LI e98 23 22 [2,3,22] [3,2] (fun y:Unit=>[]) (fun y=>[]) []:=⟨⟩
instance g6s {a_ b_:l9}:WJ (f4m a_ b_) 24 [l9.v a_,l9.v b_] .bool:=wX Tryz.func24 g3d [(4,e98)] (h:=fun _ _ h hQ M=>by unfold f4m at h;exact tX)
def F_8 (k63:Int) (a64:d9) (x62:Unit):Option (Fl Unit Bool) := grp ((decide (40<(a64.Name.length:Int))||decide (40<(a64.Other.length:Int)))) fun b78=>bif b78 then d7y.bind fun y80=>some (.ex y80) else some (.nx ())
def F_r (k2985:Int) (a2986:d9) (x2984:Unit):Option (Fl Unit Bool) := (e4t a2986).bind fun y3001=>(F_g a2986).bind fun y3002=>bif (!(y3001==y3002)) then some (.ex false) else some (.nx ())
def f5g (y3008:l8×l9×(List Str)×Int) (k3040:Int) (a3041:Str) (x3039:Unit):Option (Fl Unit Bool) :=
 chk (inb k3040 y3008.2.2.1.length) (bif (!decide (a3041=(y3008.2.2.1.getD (k3040).toNat default))) then some (.ex false) else some (.nx ()))
def f5f (k3092:Int) (a3093:Str) (x3091:Unit):Option (Fl Unit Bool) :=
 (e4y a3093).bind fun y3119=>(f4y a3093).bind fun y3121=>grp (((!decide (y3119.2.2=y3121.2.2))||(!decide (y3119.2.1=y3121.2.1)))) fun b3124=>bif b3124 then some (.ex false) else (f3m y3119.1 y3121.1).bind fun y3125=>bif (!y3125) then some (.ex false) else some (.nx ())
def f7m (jC:Str) (k2427:Int) (a2428:List d9) (x2426:a2i):Option (Fl a2i Bool) :=
 (e4z a2428).bind fun y2928=>(f3n a2428).bind fun y2930=>grp (((!decide (y2928.1=y2930.1))||(!decide (y2928.2=y2930.2)))) fun b2934=>bif b2934 then some (.ex false) else (forL F_r a2428 0 ()).bind fun o=>o.elim (fun x3003=>(F_m a2428).bind fun y3006=>(F_h a2428).bind fun y3008=>jn (α:=Fl Unit Bool) (bif (!decide (y3006.2.2.2=y3008.2.2.2)) then grp (true) fun b3025=>bif b3025 then some (.ex false) else some (.nx ()) else (f4n y3006.1 y3008.1).bind fun y3026=>bif (!y3026) then grp (true) fun b3027=>bif b3027 then some (.ex false) else some (.nx ()) else (f4m y3006.2.1 y3008.2.1).bind fun y3028=>grp (((!y3028)||(!decide ((y3006.2.2.1.length:Int)=(y3008.2.2.1.length:Int))))) fun b3029=>bif b3029 then some (.ex false) else some (.nx ())) fun o=>o.elim (fun j3019=>(forL (f5g y3008) y3006.2.2.1 0 ()).bind fun o=>o.elim (fun x3042=>(F_i a2428).bind fun y3045=>(f5c a2428).bind fun y3047=>grp (((!decide (y3045.1=y3047.1))||(!decide (y3045.2=y3047.2)))) fun b3051=>bif b3051 then some (.ex false) else jn (α:=(List UInt8)×a2i) (bif decide (0<(y2930.1.length:Int)) then (F_1 x2426 (y2930.1.length:Int)).bind fun y3055=>(F_1 y3055.2 8).bind fun y3056=>chk (inb y3056.1 [97,32,48,44,47,45,10,49].length) (chk (inb y3055.1 y2930.1.length) (some (y2930.1.set ((y3055.1).toNat) (([97,32,48,44,47,45,10,49]:Str).getD (y3056.1).toNat 0),y3056.2))) else some (y2930.1,x2426)) fun j3054=>chk (a4m (y2930.1.length+jC.length)) ((forL f5f [y2930.1,j3054.1,jC,(y2930.1++jC)] 0 ()).bind fun o=>o.elim (fun x3126=>some (.nx j3054.2)) (fun r3127=>some (.ex r3127)))) (fun r3043=>some (.ex r3043))) (fun r3128=>some (.ex r3128))) (fun r3004=>some (.ex r3004))
def F_9 (l_:List Int) (kG:List d9) (jC:Str):Option Bool := grp ((decide (400<(l_.length:Int))||decide (70<(kG.length:Int)))) fun b9=>grp ((b9||decide (300<(jC.length:Int)))) fun b10=>bif b10 then d7y.bind fun y12=>some y12 else (forL F_8 kG 0 ()).bind fun o=>o.elim (fun x81=>(F_e (a2i.mk l_ 0)).bind fun y84=>chk (room y84.1.length 64) ((e6w y84.2 [[97,110,110],[101,118,101],[111,112,115]]).bind fun y86=>chk (room (y84.1.length+[y86.1].length) 64) ((forL (f7m jC) [y84.1,(y84.1++[y86.1]),kG] 0 y86.2).bind fun o=>o.elim (fun x3129=>d7y.bind fun y3132=>some y3132) (fun r3130=>some r3130)))) (fun r82=>some r82)
@[irreducible] def e09:List MOp:=rdc (cG Tryz.prog Tryz.f6 [(10,⟨[],[.c 1 0 [76] []],[]⟩),(11,⟨[],[.k 3 2,.c 4 0 [76] []],[]⟩),(41,⟨[],[.c 4 0 [76] [],.c 6 0 [76] []],[]⟩)] 1 4 7)
@[irreducible] def e08:List MOp:=rdc (cG Tryz.prog Tryz.f6 [(10,⟨[],[.c 1 0 [76] []],[]⟩),(11,⟨[],[.k 3 2,.c 4 0 [76] []],[]⟩),(41,⟨[],[.c 4 0 [76] [],.c 6 0 [76] []],[]⟩)] 1 9 12)
@[irreducible] def e07:List MOp:=rdc (cG Tryz.prog Tryz.f6 [(10,⟨[],[.c 1 0 [76] []],[]⟩),(11,⟨[],[.k 3 2,.c 4 0 [76] []],[]⟩),(41,⟨[],[.c 4 0 [76] [],.c 6 0 [76] []],[]⟩)] 6 5 9)
@[irreducible] def e06:List MOp:=rdc (cG Tryz.prog Tryz.f6 [(10,⟨[],[.c 1 0 [76] []],[]⟩),(11,⟨[],[.k 3 2,.c 4 0 [76] []],[]⟩),(41,⟨[],[.c 4 0 [76] [],.c 6 0 [76] []],[]⟩)] 17 4 7)
@[irreducible] def c1v:List MOp:=rdc (cG Tryz.prog Tryz.f6 [(10,⟨[],[.c 1 0 [76] []],[]⟩),(11,⟨[],[.k 3 2,.c 4 0 [76] []],[]⟩),(41,⟨[],[.c 4 0 [76] [],.c 6 0 [76] []],[]⟩)] 27 16 21)
@[irreducible] def e05:List MOp:=rdc (cG Tryz.prog Tryz.f6 [(10,⟨[],[.c 1 0 [76] []],[]⟩),(11,⟨[],[.k 3 2,.c 4 0 [76] []],[]⟩),(41,⟨[],[.c 4 0 [76] [],.c 6 0 [76] []],[]⟩)] 37 4 7)
@[irreducible] def e04:List MOp:=rdc (cG Tryz.prog Tryz.f6 [(10,⟨[],[.c 1 0 [76] []],[]⟩),(11,⟨[],[.k 3 2,.c 4 0 [76] []],[]⟩),(41,⟨[],[.c 4 0 [76] [],.c 6 0 [76] []],[]⟩)] 47 4 7)
def a_9:List (Nat×RN):=[(1,⟨[],[],[.u 4 7 e09,.u 9 12 e08]⟩),(3,⟨[.gc [0,1,2,67,68,69,70,107,108,109,141,142,143,144,147,148,149,150,153,154,155,156,157,188,189,190,233,234,235,238,239,240,241]],[],[]⟩),(6,⟨[],[],[.u 5 9 e07]⟩),(10,⟨[.gc [1,2,9,107,108,109,141,142,143,144,147,148,149,150,153,154,155,156,157,188,189,190,233,234,235,238,239,240,241]],[.c 1 0 [76] []],[]⟩),(11,⟨[],[.k 3 2,.c 4 0 [76] []],[]⟩),(12,⟨[.gc [1,2,9,10,11,107,108,109,141,142,143,144,147,148,149,150,153,154,155,156,157,188,189,190,233,234,235,238,239,240,241]],[],[.n 3 (.fz 87)]⟩),(17,⟨[.gc [2,9,13,14,15,16,17,89,90,107,108,109,141,142,143,144,147,148,149,150,153,154,155,156,157,188,189,190,233,234,235,238,239,240,241]],[],[.u 4 7 e06]⟩),(19,⟨[.gc [2,9,13,16,89,90,107,108,109,141,142,143,144,147,148,149,150,153,154,155,156,157,188,189,190,233,234,235,238,239,240,241]],[],[]⟩),(26,⟨[.gc [2,9,13,16,20,21,22,23,89,90,107,108,109,141,142,143,144,147,148,149,150,153,154,155,156,157,188,189,190,233,234,235,238,239,240,241]],[],[]⟩),(27,⟨[],[],[.u 16 21 c1v]⟩),(36,⟨[.gc [2,9,13,16,29,30,89,90,107,108,109,141,142,143,144,147,148,149,150,153,154,155,156,157,188,189,190,233,234,235,238,239,240,241]],[],[]⟩),(37,⟨[],[],[.u 4 7 e05]⟩),(39,⟨[.gc [2,9,16,89,90,107,108,109,141,142,143,144,147,148,149,150,153,154,155,156,157,188,189,190,233,234,235,238,239,240,241]],[],[]⟩),(41,⟨[],[.c 4 0 [76] [],.c 6 0 [76] []],[]⟩),(46,⟨[.gc [2,9,35,36,37,38,89,90,107,108,109,141,142,143,144,147,148,149,150,153,154,155,156,157,188,189,190,213,214,233,234,235,238,239,240,241]],[],[]⟩),(47,⟨[],[],[.u 4 7 e04]⟩)]
@[irreducible] def d25:MC:=rdc (cK Tryz.prog Tryz.f6 a_9 [] 4)
@[irreducible] def d3o:MC:=rdc (cK Tryz.prog Tryz.f6 a_9 [(4,d25)] 20)
@[irreducible] def b9e:MC:=rdc (cK Tryz.prog Tryz.f6 a_9 [(4,d25),(20,d3o)] 30)
@[irreducible] def c22:MC:=rdc (cK Tryz.prog Tryz.f6 a_9 [(4,d25),(20,d3o),(30,b9e)] 43)
@[irreducible] def c9c:MC:=rdc (cK Tryz.prog Tryz.f6 a_9 [(4,d25),(20,d3o),(30,b9e),(43,c22)] 10000042)
@[irreducible] def d3p:MC:=rdc (cK Tryz.prog Tryz.f6 a_9 [(4,d25),(20,d3o),(30,b9e),(43,c22),(10000042,c9c)] 10000029)
@[irreducible] def d43:MC:=rdc (cK Tryz.prog Tryz.f6 a_9 [(4,d25),(20,d3o),(30,b9e),(43,c22),(10000042,c9c),(10000029,d3p)] 13)
def g30:MC:=rdc (cT Tryz.prog Tryz.f6 a_9 [(4,d25),(20,d3o),(30,b9e),(43,c22),(10000042,c9c),(10000029,d3p),(13,d43)])
instance g5o {l_:List Int} {kG:List d9} {jC:Str}:WI (F_9 l_ kG jC) Tryz.prog 6 [.sl (l_.map (V.int .i64)),.sl (kG.map d9.v),.str jC] [] (fun z=>.bool z) (fun z=>[]):=⟨fun Q Q' h hQ=>by
 refine a2g g30 [] [] [.t 6] Tryz.func6 fun M=>?_
 unfold F_9 at h
 unfold g30
 replace h:=tY h
 refine tB ?_
 repeat' (first
 | (exact tZ)
 | ((first|refine b3a h ?_|refine a3y h ?_|refine b3m h ?_|refine b3l h ?_|refine b3t h ?_|refine appG h ?_|refine b3v h ?_|refine fork h ?_ ?_|refine a4a h ?_ ?_)<;>clear h<;>intro hc h)
 | (obtain ⟨y,hy,h⟩:=h;(first|have hw:=o9 1000 76 (g5l.c.w hy)|have hw:=o9 1000 76 (g1r.c.w hy)|have hw:=o9 1000 76 (g8j.c.w hy)|have hw:=WI.w hy);replace hw:=tY hw;(first|refine M.sC hw ?_|refine M.sD hw ?_);clear hw hy;refine tB ?_)
 | (refine M.gv1 (ms:=e07) 71 [67,68,69,70] h ?_ ?_<;>first
 | (clear h;intro K hK1;unfold e07;refine tB ?_)
 | (clear h;intro b h;replace h:=tY h;refine tB ?_))
 | (refine M.for1 (b:=d25) 58 [0,1,2,56,57] [] (fun x=>[]) (fun x=>[]) [] h ?_ ?_ ?_<;>first
 | (clear h;intro k a x Qn K hK2 hkN2 ha2 h hf;have hl:=a1s (a0q (n:=57) hf.1 rfl);clear hf;have hkd:=kD hkN2;have hkB2:=kB hkN2;have hkI2:=kI (k:=k) (by omega);unfold F_8 at h;unfold d25;replace h:=tY h;refine tK ha2 hkd hkN2 hkB2 hkI2 ?_)
  |(clear h;intro x K h;replace h:=And.left (And.intro h trivial);unfold d25;replace h:=tY h;refine tB ?_)
  |(clear h;(try refine tB ?_);exact tU0;done))
 | (refine M.for1 (b:=d3o) 113 [2,9,13,16,89,90,111,112] [76] (fun x=>[]) (fun x=>[]) [] h ?_ ?_ ?_<;>first
 | (clear h;intro k a x Qn K hK3 hkN3 ha3 h hf;have hl:=a1s (a0q (n:=112) hf.1 rfl);clear hf;have hkd:=kD hkN3;have hkB3:=kB hkN3;have hkI3:=kI (k:=k) (by omega);unfold F_r at h;unfold d3o;replace h:=tY h;refine tK ha3 hkd hkN3 hkB3 hkI3 ?_)
  |(clear h;intro x K h;replace h:=And.left (And.intro h trivial);unfold d3o;replace h:=tY h;refine tB ?_)
  |(clear h;(try refine tB ?_);exact tU0;done))
 | (refine M.gv1 (ms:=c1v) 158 [153,154,155,156,157] h ?_ ?_<;>first
 | (clear h;intro K hK4;unfold c1v;refine tB ?_)
 | (clear h;intro b h;replace h:=tY h;refine tB ?_))
 | (refine M.gv1 (ms:=c1v) 158 [153,154,155,156,157] h ?_ ?_<;>first
 | (clear h;intro K hK5;unfold c1v;refine tB ?_)
 | (clear h;intro b h;replace h:=tY h;refine tB ?_))
 | (refine M.gv1 (ms:=c1v) 158 [153,154,155,156,157] h ?_ ?_<;>first
 | (clear h;intro K hK6;unfold c1v;refine tB ?_)
 | (clear h;intro b h;replace h:=tY h;refine tB ?_))
 | (refine M.for1 (b:=b9e) 161 [2,9,13,16,22,26,89,90,160] [76] (fun x=>[]) (fun x=>[]) [] h ?_ ?_ ?_<;>first
 | (clear h;intro k a x Qn K hK7 hkN7 ha7 h hf;have hl:=a1s (a0q (n:=160) hf.1 rfl);clear hf;have hkd:=kD hkN7;have hkB7:=kB hkN7;have hkI7:=kI (k:=k) (by omega);unfold f5g at h;unfold b9e;replace h:=tY h;refine tK ha7 hkd hkN7 hkB7 hkI7 ?_)
  |(clear h;intro x K h;replace h:=And.left (And.intro h trivial);unfold b9e;replace h:=tY h;refine tB ?_)
  |(clear h;(try refine tB ?_);exact tU0;done))
 | (refine M.gv1 (ms:=e04) 236 [233,234,235] h ?_ ?_<;>first
 | (clear h;intro K hK8;unfold e04;refine tB ?_)
 | (clear h;intro b h;replace h:=tY h;refine tB ?_))
 | (refine M.for1 (b:=c22) 214 [2,9,89,90,213] [76] (fun x=>[]) (fun x=>[]) [] h ?_ ?_ ?_<;>first
 | (clear h;intro k a x Qn K hK9 hkN9 ha9 h hf;skip;clear hf;have hkd:=kD hkN9;have hkB9:=kB hkN9;have hkI9:=kI (k:=k) (by (try simp only [x5,wK] at hkN9);omega);have hkd9:decide ((k:Int)<4)=true:=wR (by simp only [x5,wK] at hkN9;omega);have hkr9:(0≤(k:Int)∧(k:Int)<4)=True:=eq_true (by simp only [x5,wK] at hkN9;omega);have hle9:(k*1≤3)=True:=eq_true (by simp only [x5,wK] at hkN9;omega);have hpt9:=b89 (f:=fun e:Str=>.str e) ha9 hkN9;(try simp only [go_sem,Nat.reduceBEq,Nat.reduceAdd,Nat.reduceLeDiff,Nat.reduceSub,Nat.reduceMul,Int.reduceToNat,Int.reduceLT,Int.reduceLE,xS,List.flatMap_nil,wW,vE] at hpt9);unfold f5f at h;unfold c22;replace h:=tY h;refine tKA ha9 hkd hkN9 hkB9 hkI9 hkd9 hkr9 hle9 hpt9 ?_)
  |(clear h;intro x K h;replace h:=And.left (And.intro h trivial);unfold c22;replace h:=tY h;refine tB ?_)
  |(clear h;(try refine tB ?_);exact tU0;done))
 | (refine M.jn1 (b:=c9c) [2,9,16,89,90] [] (fun y=>[(33,.osl 193 1 0 y.1.length)]) (fun y=>[.o 193 (.arr 1 (y.1.map a0r)),.o 76 (.cells [.sl (y.2.L.map (V.int .i64)),.int .i64 y.2.at_])]) [] h ?_ ?_<;>first
 | (clear h;intro Qn K hK10 h;replace h:=tY h;refine tB ?_)
  |(clear h;intro y h;unfold c9c;replace h:=tY h;refine tB ?_))
 | (refine M.gv1 (ms:=e05) 191 [188,189,190] h ?_ ?_<;>first
 | (clear h;intro K hK11;unfold e05;refine tB ?_)
 | (clear h;intro b h;replace h:=tY h;refine tB ?_))
 | (refine M.jnE (b:=d3p) [2,9,13,16,22,26,89,90] [76] (fun y=>[]) (fun y=>[]) [] h ?_ ?_<;>first
 | (clear h;intro Qn K hK12 h;replace h:=tY h;refine tB ?_)
  |(clear h;intro y h;unfold d3p;replace h:=tY h;refine tB ?_))
 | (refine M.gv1 (ms:=e06) 110 [107,108,109] h ?_ ?_<;>first
 | (clear h;intro K hK13;unfold e06;refine tB ?_)
 | (clear h;intro b h;replace h:=tY h;refine tB ?_))
 | (refine M.for1 (b:=d43) 90 [2,9,89] [] (fun x=>[]) (fun x=>[.o 76 (.cells [.sl (x.L.map (V.int .i64)),.int .i64 x.at_])]) [] h ?_ ?_ ?_<;>first
 | (clear h;intro k a x Qn K hK14 hkN14 ha14 h hf;skip;clear hf;have hkd:=kD hkN14;have hkB14:=kB hkN14;have hkI14:=kI (k:=k) (by (try simp only [x5,wK] at hkN14);omega);have hkd14:decide ((k:Int)<3)=true:=wR (by simp only [x5,wK] at hkN14;omega);have hkr14:(0≤(k:Int)∧(k:Int)<3)=True:=eq_true (by simp only [x5,wK] at hkN14;omega);have hle14:(k*1≤2)=True:=eq_true (by simp only [x5,wK] at hkN14;omega);have hpt14:=b89 (f:=fun e:List d9=>.sl (e.map d9.v)) ha14 hkN14;(try simp only [go_sem,Nat.reduceBEq,Nat.reduceAdd,Nat.reduceLeDiff,Nat.reduceSub,Nat.reduceMul,Int.reduceToNat,Int.reduceLT,Int.reduceLE,xS,List.flatMap_nil,wW,vE] at hpt14);unfold f7m at h;unfold d43;replace h:=tY h;refine tKA ha14 hkd hkN14 hkB14 hkI14 hkd14 hkr14 hle14 hpt14 ?_)
  |(clear h;intro x K h;replace h:=And.left (And.intro h trivial);unfold d43;replace h:=tY h;refine tB ?_)
  |(clear h;(try refine tB ?_);exact tU0;done))
 | (refine M.gv1 (ms:=e08) 54 [51,52,53] h ?_ ?_<;>first
 | (clear h;intro K hK15;unfold e08;refine tB ?_)
 | (clear h;intro b h;replace h:=tY h;refine tB ?_))
 | (refine M.gv1 (ms:=e09) 49 [46,47,48] h ?_ ?_<;>first
 | (clear h;intro K hK16;unfold e09;refine tB ?_)
 | (clear h;intro b h;replace h:=tY h;refine tB ?_))
 | (first|simp only [ha2]|simp only [ha3]|simp only [ha7]|simp only [ha9]|simp only [ha14])
 | (exact absurd (hc.symm.trans (by assumption:_=true)) xL)
 | (exact absurd (hc.symm.trans (by assumption:_=false)) xL.symm)
 | ((first|refine hK1 _ ?_|refine hK4 _ ?_|refine hK5 _ ?_|refine hK6 _ ?_|refine hK8 _ ?_|refine hK11 _ ?_|refine hK13 _ ?_|refine hK15 _ ?_|refine hK16 _ ?_);exact tU;done)
 | ((first|refine hK2 _ ?_|refine hK3 _ ?_|refine hK7 _ ?_|refine hK9 _ ?_|refine hK10 _ ?_|refine hK12 _ ?_|refine hK14 _ ?_);(try refine tB ?_);refine ⟨_,h,?_⟩;exact tU0;done)
 | (refine d5t (fun hc=>?_) (fun hc=>?_))
 | (refine tE ?_;(first|rw [M.lok_compU]|rw [M.lokD_compU]);refine tB ?_)
 | (refine ⟨_,g0z (by first|exact a1v (by assumption)|exact a5x (by assumption)|assumption) rfl,?_⟩;(first|rw [M.lok_compU]|rw [M.lokD_compU]);refine tB ?_)
 | (refine ⟨_,g0y (by first|exact a1v (by assumption)|exact a5x (by assumption)|assumption),?_⟩;(first|rw [M.lok_compU]|rw [M.lokD_compU]|(simp only [V.cells,xD,wS];first|rw [M.lok_comp]|rw [M.lokD_comp]));refine tB ?_)
 | (refine ⟨_,a9g (by first|exact a1v (by assumption)|exact a5x (by assumption)),?_⟩;(first|rw [M.lok_compU]|rw [M.lokD_compU]|(simp only [V.cells];first|rw [M.lok_comp]|rw [M.lokD_comp]));refine tB ?_)
 | (refine tA ?_)
 | fail)⟩
def a0w (s_:List d9):Option (List d9) :=
 g3b s_.isEmpty (some []) (chk (room (([]:List d9).length+s_.length) 64) (some (([]:List d9)++s_)))
theorem a1b {s_:List d9}:Le (a0w s_) (e4d s_):=by
 unfold a0w e4d
 (repeat' (with_reducible first|exact Le.refl|assumption|(refine Le.bind ?_ fun _=>?_)|(refine Le.jn ?_ fun _=>?_)|(refine Le.grp fun _=>?_)|(refine Le.chk ?_)|(refine Le.cond ?_ ?_)|(refine Le.fl (fun _=>?_) fun _=>?_)|(refine Le.sum (fun _=>?_) fun _=>?_)|(refine Le.forL (fun _ _ _=>?_) _ _ _)|(refine Le.foldL (fun _ _ _=>?_) _ _ _)|(refine Le.loop fun _=>?_)|(refine Le.perm fun _=>?_)|(refine Le.amb ?_)|exact Le.sort))
def a00 (a_:Int) (x126:Int×(List d9)):Option (Fl (Int×(List d9)) (List d9)) :=
 bif decide (a_<x126.1) then chk (inb x126.1 x126.2.length) (chk (a0j (x126.1 - 1)) (chk (inb (x126.1 - 1) x126.2.length) ((d1z (x126.2.getD ((x126.1).toNat) default) (x126.2.getD (((x126.1 - 1)).toNat) default)).bind fun y134=>bif decide (y134<0) then chk (a0j (x126.1 - 1)) (chk (a0j (x126.1 - 1)) (chk (inb (x126.1 - 1) x126.2.length) (chk (inb x126.1 x126.2.length) (chk (inb x126.1 x126.2.length) (chk (inb (x126.1 - 1) (x126.2.set ((x126.1).toNat) (x126.2.getD (((x126.1 - 1)).toNat) default)).length) (chk (a0j (x126.1 - 1)) (some (.nx ((x126.1 - 1),(x126.2.set ((x126.1).toNat) (x126.2.getD (((x126.1 - 1)).toNat) default)).set (((x126.1 - 1)).toNat) (x126.2.getD ((x126.1).toNat) default)))))))))) else some (.ex x126.2)))) else some (.ex x126.2)
theorem a0h  (a_:Int) (x126:Int×(List d9)):Le (a00 a_ x126) (d89 a_ x126):=by
 unfold a00 d89
 (repeat' (with_reducible first|exact Le.refl|assumption|(refine Le.bind ?_ fun _=>?_)|(refine Le.jn ?_ fun _=>?_)|(refine Le.grp fun _=>?_)|(refine Le.chk ?_)|(refine Le.cond ?_ ?_)|(refine Le.fl (fun _=>?_) fun _=>?_)|(refine Le.sum (fun _=>?_) fun _=>?_)|(refine Le.forL (fun _ _ _=>?_) _ _ _)|(refine Le.foldL (fun _ _ _=>?_) _ _ _)|(refine Le.loop fun _=>?_)|(refine Le.perm fun _=>?_)|(refine Le.amb ?_)|exact Le.sort))
def z8 (a_:Int) (b_:Int) (x67:Int×(List d9)):Option (Fl (Int×(List d9)) (List d9)) :=
 bif decide (x67.1<b_) then (iter (a00 a_) 100000 (x67.1,x67.2)).bind fun r135=>chk (a0j (x67.1+1)) (some (.nx ((x67.1+1),r135))) else some (.ex x67.2)
theorem a13  (a_:Int) (b_:Int) (x67:Int×(List d9)):Le (z8 a_ b_ x67) (d86 a_ b_ x67):=by
 unfold z8 d86
 (repeat' (with_reducible first|exact Le.refl|assumption|(refine Le.bind ?_ fun _=>?_)|(refine Le.jn ?_ fun _=>?_)|(refine Le.grp fun _=>?_)|(refine Le.chk ?_)|(refine Le.cond ?_ ?_)|(refine Le.fl (fun _=>?_) fun _=>?_)|(refine Le.sum (fun _=>?_) fun _=>?_)|(refine Le.forL (fun _ _ _=>?_) _ _ _)|(refine Le.foldL (fun _ _ _=>?_) _ _ _)|(refine Le.loop fun _=>?_)|(refine Le.perm fun _=>?_)|(refine Le.amb ?_)|exact Le.sort|apply a0h))
def u6 (jB:List d9) (a_:Int) (b_:Int):Option (List d9) :=
 chk (a0j (a_+1)) ((iter (z8 a_ b_) 100000 ((a_+1),jB)).bind fun r136=>some r136)
theorem q9 {jB:List d9} {a_:Int} {b_:Int}:Le (u6 jB a_ b_) (F_k jB a_ b_):=by
 unfold u6 F_k
 (repeat' (with_reducible first|exact Le.refl|assumption|(refine Le.bind ?_ fun _=>?_)|(refine Le.jn ?_ fun _=>?_)|(refine Le.grp fun _=>?_)|(refine Le.chk ?_)|(refine Le.cond ?_ ?_)|(refine Le.fl (fun _=>?_) fun _=>?_)|(refine Le.sum (fun _=>?_) fun _=>?_)|(refine Le.forL (fun _ _ _=>?_) _ _ _)|(refine Le.foldL (fun _ _ _=>?_) _ _ _)|(refine Le.loop fun _=>?_)|(refine Le.perm fun _=>?_)|(refine Le.amb ?_)|exact Le.sort|apply a0h|apply a13))
def a03 (a_:Int) (b_:Int) (n_:Int) (x3:Int×(List d9)):Option (Fl (Int×(List d9)) (List d9)) :=
 bif decide (x3.1<n_) then chk (a0j (a_+x3.1)) (chk (a0j (b_+x3.1)) (chk (a0j (b_+x3.1)) (chk (inb (b_+x3.1) x3.2.length) (chk (a0j (a_+x3.1)) (chk (inb (a_+x3.1) x3.2.length) (chk (inb (a_+x3.1) x3.2.length) (chk (inb (b_+x3.1) (x3.2.set (((a_+x3.1)).toNat) (x3.2.getD (((b_+x3.1)).toNat) default)).length) (chk (a0j (x3.1+1)) (some (.nx ((x3.1+1),(x3.2.set (((a_+x3.1)).toNat) (x3.2.getD (((b_+x3.1)).toNat) default)).set (((b_+x3.1)).toNat) (x3.2.getD (((a_+x3.1)).toNat) default)))))))))))) else some (.ex x3.2)
theorem a1a  (a_:Int) (b_:Int) (n_:Int) (x3:Int×(List d9)):Le (a03 a_ b_ n_ x3) (e4h a_ b_ n_ x3):=by
 unfold a03 e4h
 (repeat' (with_reducible first|exact Le.refl|assumption|(refine Le.bind ?_ fun _=>?_)|(refine Le.jn ?_ fun _=>?_)|(refine Le.grp fun _=>?_)|(refine Le.chk ?_)|(refine Le.cond ?_ ?_)|(refine Le.fl (fun _=>?_) fun _=>?_)|(refine Le.sum (fun _=>?_) fun _=>?_)|(refine Le.forL (fun _ _ _=>?_) _ _ _)|(refine Le.foldL (fun _ _ _=>?_) _ _ _)|(refine Le.loop fun _=>?_)|(refine Le.perm fun _=>?_)|(refine Le.amb ?_)|exact Le.sort))
def p9 (jB:List d9) (a_:Int) (b_:Int) (n_:Int):Option (List d9) :=
 (iter (a03 a_ b_ n_) 100000 (0,jB)).bind fun r4=>some r4
theorem a0k {jB:List d9} {a_:Int} {b_:Int} {n_:Int}:Le (p9 jB a_ b_ n_) (F_l jB a_ b_ n_):=by
 unfold p9 F_l
 (repeat' (with_reducible first|exact Le.refl|assumption|(refine Le.bind ?_ fun _=>?_)|(refine Le.jn ?_ fun _=>?_)|(refine Le.grp fun _=>?_)|(refine Le.chk ?_)|(refine Le.cond ?_ ?_)|(refine Le.fl (fun _=>?_) fun _=>?_)|(refine Le.sum (fun _=>?_) fun _=>?_)|(refine Le.forL (fun _ _ _=>?_) _ _ _)|(refine Le.foldL (fun _ _ _=>?_) _ _ _)|(refine Le.loop fun _=>?_)|(refine Le.perm fun _=>?_)|(refine Le.amb ?_)|exact Le.sort|apply a1a))
def a0b (m_:Int) (x27:Int×Int×(List d9)):Option (Fl (Int×Int×(List d9)) (Int×(List d9))) :=
 bif (!decide (x27.1=x27.2.1)) then bif decide (x27.2.1<x27.1) then chk (a0j (m_ - x27.1)) ((p9 x27.2.2 (m_ - x27.1) m_ x27.2.1).bind fun y33=>chk (a0j (x27.1 - x27.2.1)) (some (.nx ((x27.1 - x27.2.1),x27.2.1,y33)))) else chk (a0j (m_ - x27.1)) (chk (a0j (m_+x27.2.1)) (chk (a0j ((m_+x27.2.1) - x27.1)) ((p9 x27.2.2 (m_ - x27.1) ((m_+x27.2.1) - x27.1) x27.1).bind fun y35=>chk (a0j (x27.2.1 - x27.1)) (some (.nx (x27.1,(x27.2.1 - x27.1),y35)))))) else some (.ex (x27.1,x27.2.2))
theorem a1e  (m_:Int) (x27:Int×Int×(List d9)):Le (a0b m_ x27) (e4s m_ x27):=by
 unfold a0b e4s
 (repeat' (with_reducible first|exact Le.refl|assumption|(refine Le.bind ?_ fun _=>?_)|(refine Le.jn ?_ fun _=>?_)|(refine Le.grp fun _=>?_)|(refine Le.chk ?_)|(refine Le.cond ?_ ?_)|(refine Le.fl (fun _=>?_) fun _=>?_)|(refine Le.sum (fun _=>?_) fun _=>?_)|(refine Le.forL (fun _ _ _=>?_) _ _ _)|(refine Le.foldL (fun _ _ _=>?_) _ _ _)|(refine Le.loop fun _=>?_)|(refine Le.perm fun _=>?_)|(refine Le.amb ?_)|exact Le.sort|exact a0k))
def a0e (jB:List d9) (a_:Int) (m_:Int) (b_:Int):Option (List d9) :=
 chk (a0j (m_ - a_)) (chk (a0j (b_ - m_)) ((iter (a0b m_) 100000 ((m_ - a_),(b_ - m_),jB)).bind fun r36=>chk (a0j (m_ - r36.1)) ((p9 r36.2 (m_ - r36.1) m_ r36.1).bind fun y37=>some y37)))
theorem a1i {jB:List d9} {a_:Int} {m_:Int} {b_:Int}:Le (a0e jB a_ m_ b_) (F_a jB a_ m_ b_):=by
 unfold a0e F_a
 (repeat' (with_reducible first|exact Le.refl|assumption|(refine Le.bind ?_ fun _=>?_)|(refine Le.jn ?_ fun _=>?_)|(refine Le.grp fun _=>?_)|(refine Le.chk ?_)|(refine Le.cond ?_ ?_)|(refine Le.fl (fun _=>?_) fun _=>?_)|(refine Le.sum (fun _=>?_) fun _=>?_)|(refine Le.forL (fun _ _ _=>?_) _ _ _)|(refine Le.foldL (fun _ _ _=>?_) _ _ _)|(refine Le.loop fun _=>?_)|(refine Le.perm fun _=>?_)|(refine Le.amb ?_)|exact Le.sort|exact a0k|apply a1e))
def o8:Nat→(List d9)→Int→Int→Int→Option (List d9)
 | 0,_,_,_,_=>none
 | n+1,jB,a_,m_,b_ =>
 chk (a0j (m_ - a_)) (bif decide ((m_ - a_)=1) then (iter (fun (x45:Int×Int)=>(bif decide (x45.1<x45.2) then chk (a0j (x45.1+x45.2)) (chk (inb (IntKind.wrap .i64 ((IntKind.wrap .u64 (x45.1+x45.2)) / 2^1)) jB.length) (chk (inb a_ jB.length) ((d1z (jB.getD (((IntKind.wrap .i64 ((IntKind.wrap .u64 (x45.1+x45.2)) / 2^1))).toNat) default) (jB.getD ((a_).toNat) default)).bind fun y49=>bif decide (y49<0) then chk (a0j ((IntKind.wrap .i64 ((IntKind.wrap .u64 (x45.1+x45.2)) / 2^1))+1)) (some (.nx (((IntKind.wrap .i64 ((IntKind.wrap .u64 (x45.1+x45.2)) / 2^1))+1),x45.2))) else some (.nx (x45.1,(IntKind.wrap .i64 ((IntKind.wrap .u64 (x45.1+x45.2)) / 2^1))))))) else some (.ex x45.1):Option (Fl (Int×Int) Int))) 100000 (m_,b_)).bind fun r50=>(iter (fun (x57:Int×(List d9))=>(chk (a0j (r50 - 1)) (bif decide (x57.1<(r50 - 1)) then chk (a0j (x57.1+1)) (chk (a0j (x57.1+1)) (chk (inb (x57.1+1) x57.2.length) (chk (inb x57.1 x57.2.length) (chk (inb x57.1 x57.2.length) (chk (inb (x57.1+1) (x57.2.set ((x57.1).toNat) (x57.2.getD (((x57.1+1)).toNat) default)).length) (chk (a0j (x57.1+1)) (some (.nx ((x57.1+1),(x57.2.set ((x57.1).toNat) (x57.2.getD (((x57.1+1)).toNat) default)).set (((x57.1+1)).toNat) (x57.2.getD ((x57.1).toNat) default)))))))))) else some (.ex x57.2)):Option (Fl (Int×(List d9)) (List d9)))) 100000 (a_,jB)).bind fun r58=>some r58 else chk (a0j (b_ - m_)) (bif decide ((b_ - m_)=1) then (iter (fun (x103:Int×Int)=>(bif decide (x103.1<x103.2) then chk (a0j (x103.1+x103.2)) (chk (inb m_ jB.length) (chk (inb (IntKind.wrap .i64 ((IntKind.wrap .u64 (x103.1+x103.2)) / 2^1)) jB.length) ((d1z (jB.getD ((m_).toNat) default) (jB.getD (((IntKind.wrap .i64 ((IntKind.wrap .u64 (x103.1+x103.2)) / 2^1))).toNat) default)).bind fun y107=>bif (!(decide (y107<0))) then chk (a0j ((IntKind.wrap .i64 ((IntKind.wrap .u64 (x103.1+x103.2)) / 2^1))+1)) (some (.nx (((IntKind.wrap .i64 ((IntKind.wrap .u64 (x103.1+x103.2)) / 2^1))+1),x103.2))) else some (.nx (x103.1,(IntKind.wrap .i64 ((IntKind.wrap .u64 (x103.1+x103.2)) / 2^1))))))) else some (.ex x103.1):Option (Fl (Int×Int) Int))) 100000 (a_,m_)).bind fun r108=>(iter (fun (x115:Int×(List d9))=>(bif decide (r108<x115.1) then chk (a0j (x115.1 - 1)) (chk (a0j (x115.1 - 1)) (chk (inb (x115.1 - 1) x115.2.length) (chk (inb x115.1 x115.2.length) (chk (inb x115.1 x115.2.length) (chk (inb (x115.1 - 1) (x115.2.set ((x115.1).toNat) (x115.2.getD (((x115.1 - 1)).toNat) default)).length) (chk (a0j (x115.1 - 1)) (some (.nx ((x115.1 - 1),(x115.2.set ((x115.1).toNat) (x115.2.getD (((x115.1 - 1)).toNat) default)).set (((x115.1 - 1)).toNat) (x115.2.getD ((x115.1).toNat) default)))))))))) else some (.ex x115.2):Option (Fl (Int×(List d9)) (List d9)))) 100000 (m_,jB)).bind fun r116=>some r116 else chk (a0j (a_+b_)) (chk (a0j ((IntKind.wrap .i64 ((IntKind.wrap .u64 (a_+b_)) / 2^1))+m_)) (jn (α:=Int×Int) (bif decide ((IntKind.wrap .i64 ((IntKind.wrap .u64 (a_+b_)) / 2^1))<m_) then chk (a0j (((IntKind.wrap .i64 ((IntKind.wrap .u64 (a_+b_)) / 2^1))+m_) - b_)) (some ((((IntKind.wrap .i64 ((IntKind.wrap .u64 (a_+b_)) / 2^1))+m_) - b_),(IntKind.wrap .i64 ((IntKind.wrap .u64 (a_+b_)) / 2^1)))) else some (a_,m_)) fun j117=>chk (a0j (((IntKind.wrap .i64 ((IntKind.wrap .u64 (a_+b_)) / 2^1))+m_) - 1)) ((iter (fun (x134:Int×Int)=>(bif decide (x134.1<x134.2) then chk (a0j (x134.1+x134.2)) (chk (a0j ((((IntKind.wrap .i64 ((IntKind.wrap .u64 (a_+b_)) / 2^1))+m_) - 1) - (IntKind.wrap .i64 ((IntKind.wrap .u64 (x134.1+x134.2)) / 2^1)))) (chk (inb ((((IntKind.wrap .i64 ((IntKind.wrap .u64 (a_+b_)) / 2^1))+m_) - 1) - (IntKind.wrap .i64 ((IntKind.wrap .u64 (x134.1+x134.2)) / 2^1))) jB.length) (chk (inb (IntKind.wrap .i64 ((IntKind.wrap .u64 (x134.1+x134.2)) / 2^1)) jB.length) ((d1z (jB.getD ((((((IntKind.wrap .i64 ((IntKind.wrap .u64 (a_+b_)) / 2^1))+m_) - 1) - (IntKind.wrap .i64 ((IntKind.wrap .u64 (x134.1+x134.2)) / 2^1)))).toNat) default) (jB.getD (((IntKind.wrap .i64 ((IntKind.wrap .u64 (x134.1+x134.2)) / 2^1))).toNat) default)).bind fun y138=>bif (!(decide (y138<0))) then chk (a0j ((IntKind.wrap .i64 ((IntKind.wrap .u64 (x134.1+x134.2)) / 2^1))+1)) (some (.nx (((IntKind.wrap .i64 ((IntKind.wrap .u64 (x134.1+x134.2)) / 2^1))+1),x134.2))) else some (.nx (x134.1,(IntKind.wrap .i64 ((IntKind.wrap .u64 (x134.1+x134.2)) / 2^1)))))))) else some (.ex x134.1):Option (Fl (Int×Int) Int))) 100000 (j117.1,j117.2)).bind fun r139=>chk (a0j (((IntKind.wrap .i64 ((IntKind.wrap .u64 (a_+b_)) / 2^1))+m_) - r139)) (jn (α:=List d9) (grp ((decide (r139<m_)&&decide (m_<(((IntKind.wrap .i64 ((IntKind.wrap .u64 (a_+b_)) / 2^1))+m_) - r139)))) fun b145=>bif b145 then (a0e jB r139 m_ (((IntKind.wrap .i64 ((IntKind.wrap .u64 (a_+b_)) / 2^1))+m_) - r139)).bind fun y146=>some y146 else some jB) fun j143=>jn (α:=List d9) (grp ((decide (a_<r139)&&decide (r139<(IntKind.wrap .i64 ((IntKind.wrap .u64 (a_+b_)) / 2^1))))) fun b152=>bif b152 then (o8 n j143 a_ r139 (IntKind.wrap .i64 ((IntKind.wrap .u64 (a_+b_)) / 2^1))).bind fun y153=>some y153 else some j143) fun j150=>grp ((decide ((IntKind.wrap .i64 ((IntKind.wrap .u64 (a_+b_)) / 2^1))<(((IntKind.wrap .i64 ((IntKind.wrap .u64 (a_+b_)) / 2^1))+m_) - r139))&&decide ((((IntKind.wrap .i64 ((IntKind.wrap .u64 (a_+b_)) / 2^1))+m_) - r139)<b_))) fun b155=>bif b155 then (o8 n j150 (IntKind.wrap .i64 ((IntKind.wrap .u64 (a_+b_)) / 2^1)) (((IntKind.wrap .i64 ((IntKind.wrap .u64 (a_+b_)) / 2^1))+m_) - r139) b_).bind fun y156=>some y156 else some j150))))))
theorem a0n:∀n m,n≤m→(∀(jB:List d9) (a_:Int) (m_:Int) (b_:Int),Le (o8 n jB a_ m_ b_) (b8j m jB a_ m_ b_))
 | 0,m,_=>by
  refine ?_
  all_goals (intros;first|(simp only [o8];exact Le.non))
 | n+1,0,h=>absurd h (by omega)
 | n+1,m+1,h=>by
  have ih:=a0n n m (by omega)
  have ih_slices_symMergeCmpFunc_api_Command_of_console_Make_4:=ih
  intros;simp only [o8,b8j];(repeat' (with_reducible first|exact Le.refl|assumption|(refine Le.bind ?_ fun _=>?_)|(refine Le.jn ?_ fun _=>?_)|(refine Le.grp fun _=>?_)|(refine Le.chk ?_)|(refine Le.cond ?_ ?_)|(refine Le.fl (fun _=>?_) fun _=>?_)|(refine Le.sum (fun _=>?_) fun _=>?_)|(refine Le.forL (fun _ _ _=>?_) _ _ _)|(refine Le.foldL (fun _ _ _=>?_) _ _ _)|(refine Le.loop fun _=>?_)|(refine Le.perm fun _=>?_)|(refine Le.amb ?_)|exact Le.sort|exact ih_slices_symMergeCmpFunc_api_Command_of_console_Make_4 _ _ _ _|exact a1i))
def a0c (jB:List d9) (a_:Int) (m_:Int) (b_:Int):Option (List d9):=o8 400 jB a_ m_ b_
theorem u7 {jB:List d9} {a_:Int} {m_:Int} {b_:Int}:Le (a0c jB a_ m_ b_) (F_0 jB a_ m_ b_):=Le.lim (n:=400) fun m hm=>(a0n 400 m hm) _ _ _ _
def a0a (n_:Int) (x17:Int×Int×(List d9)):Option (Fl (Int×Int×(List d9)) (Int×(List d9))) :=
 bif decide (x17.2.1≤n_) then (u6 x17.2.2 x17.1 x17.2.1).bind fun y21=>chk (a0j (x17.2.1+20)) (some (.nx (x17.2.1,(x17.2.1+20),y21))) else some (.ex (x17.1,x17.2.2))
theorem a04  (n_:Int) (x17:Int×Int×(List d9)):Le (a0a n_ x17) (F_s n_ x17):=by
 unfold a0a F_s
 (repeat' (with_reducible first|exact Le.refl|assumption|(refine Le.bind ?_ fun _=>?_)|(refine Le.jn ?_ fun _=>?_)|(refine Le.grp fun _=>?_)|(refine Le.chk ?_)|(refine Le.cond ?_ ?_)|(refine Le.fl (fun _=>?_) fun _=>?_)|(refine Le.sum (fun _=>?_) fun _=>?_)|(refine Le.forL (fun _ _ _=>?_) _ _ _)|(refine Le.foldL (fun _ _ _=>?_) _ _ _)|(refine Le.loop fun _=>?_)|(refine Le.perm fun _=>?_)|(refine Le.amb ?_)|exact Le.sort|exact q9|exact u7))
def a09 (n_:Int) (x71:Int×(List d9)) (x110:Int×Int×(List d9)):Option (Fl (Int×Int×(List d9)) (Int×(List d9))) :=
 bif decide (x110.2.1≤n_) then chk (a0j (x110.1+x71.1)) ((a0c x110.2.2 x110.1 (x110.1+x71.1) x110.2.1).bind fun y114=>chk (a0j (2*x71.1)) (chk (a0j (x110.2.1+(2*x71.1))) (some (.nx (x110.2.1,(x110.2.1+(2*x71.1)),y114))))) else some (.ex (x110.1,x110.2.2))
theorem a0l  (n_:Int) (x71:Int×(List d9)) (x110:Int×Int×(List d9)):Le (a09 n_ x71 x110) (e4x n_ x71 x110):=by
 unfold a09 e4x
 (repeat' (with_reducible first|exact Le.refl|assumption|(refine Le.bind ?_ fun _=>?_)|(refine Le.jn ?_ fun _=>?_)|(refine Le.grp fun _=>?_)|(refine Le.chk ?_)|(refine Le.cond ?_ ?_)|(refine Le.fl (fun _=>?_) fun _=>?_)|(refine Le.sum (fun _=>?_) fun _=>?_)|(refine Le.forL (fun _ _ _=>?_) _ _ _)|(refine Le.foldL (fun _ _ _=>?_) _ _ _)|(refine Le.loop fun _=>?_)|(refine Le.perm fun _=>?_)|(refine Le.amb ?_)|exact Le.sort|exact q9|exact u7|apply a04))
def a08 (n_:Int) (x71:Int×(List d9)):Option (Fl (Int×(List d9)) (List d9)) :=
 bif decide (x71.1<n_) then chk (a0j (2*x71.1)) ((iter (a09 n_ x71) 100000 (0,(2*x71.1),x71.2)).bind fun r115=>jn (α:=List d9) (chk (a0j (r115.1+x71.1)) (bif decide ((r115.1+x71.1)<n_) then (a0c r115.2 r115.1 (r115.1+x71.1) n_).bind fun y118=>some y118 else some r115.2)) fun j117=>chk (a0j (x71.1*2)) (some (.nx ((x71.1*2),j117)))) else some (.ex x71.2)
theorem a1d  (n_:Int) (x71:Int×(List d9)):Le (a08 n_ x71) (d6k n_ x71):=by
 unfold a08 d6k
 (repeat' (with_reducible first|exact Le.refl|assumption|(refine Le.bind ?_ fun _=>?_)|(refine Le.jn ?_ fun _=>?_)|(refine Le.grp fun _=>?_)|(refine Le.chk ?_)|(refine Le.cond ?_ ?_)|(refine Le.fl (fun _=>?_) fun _=>?_)|(refine Le.sum (fun _=>?_) fun _=>?_)|(refine Le.forL (fun _ _ _=>?_) _ _ _)|(refine Le.foldL (fun _ _ _=>?_) _ _ _)|(refine Le.loop fun _=>?_)|(refine Le.perm fun _=>?_)|(refine Le.amb ?_)|exact Le.sort|exact q9|exact u7|apply a04|apply a0l))
def a0d (jB:List d9) (n_:Int):Option (List d9) :=
 (iter (a0a n_) 100000 (0,20,jB)).bind fun r22=>(u6 r22.2 r22.1 n_).bind fun y24=>(iter (a08 n_) 100000 (20,y24)).bind fun r119=>some r119
theorem a1h {jB:List d9} {n_:Int}:Le (a0d jB n_) (F_5 jB n_):=by
 unfold a0d F_5
 (repeat' (with_reducible first|exact Le.refl|assumption|(refine Le.bind ?_ fun _=>?_)|(refine Le.jn ?_ fun _=>?_)|(refine Le.grp fun _=>?_)|(refine Le.chk ?_)|(refine Le.cond ?_ ?_)|(refine Le.fl (fun _=>?_) fun _=>?_)|(refine Le.sum (fun _=>?_) fun _=>?_)|(refine Le.forL (fun _ _ _=>?_) _ _ _)|(refine Le.foldL (fun _ _ _=>?_) _ _ _)|(refine Le.loop fun _=>?_)|(refine Le.perm fun _=>?_)|(refine Le.amb ?_)|exact Le.sort|exact q9|exact u7|apply a04|apply a0l|apply a1d))
def w9 (x_:List d9):Option (List d9) :=
 (a0d x_ (x_.length:Int)).bind fun y1=>some y1
theorem a0f {x_:List d9}:Le (w9 x_) (F_b x_):=by
 unfold w9 F_b
 (repeat' (with_reducible first|exact Le.refl|assumption|(refine Le.bind ?_ fun _=>?_)|(refine Le.jn ?_ fun _=>?_)|(refine Le.grp fun _=>?_)|(refine Le.chk ?_)|(refine Le.cond ?_ ?_)|(refine Le.fl (fun _=>?_) fun _=>?_)|(refine Le.sum (fun _=>?_) fun _=>?_)|(refine Le.forL (fun _ _ _=>?_) _ _ _)|(refine Le.foldL (fun _ _ _=>?_) _ _ _)|(refine Le.loop fun _=>?_)|(refine Le.perm fun _=>?_)|(refine Le.amb ?_)|exact Le.sort|exact a1h))
def a3m (y10:(List Int)×(List Str)) (k68:Int) (a69:d9) (x67:Int×(List o6)×(List Int)×(List a01)):Option (Int×(List o6)×(List Int)×(List a01)) :=
 (e6v a69 y10.2 (l8.mk x67.2.2.1 x67.2.2.2) (l9.mk x67.1 x67.2.1)).bind fun y73=>some (y73.2.Places,y73.2.Events,y73.1.Kinds,y73.1.Events)
theorem a8z  (y10:(List Int)×(List Str)) (k68:Int) (a69:d9) (x67:Int×(List o6)×(List Int)×(List a01)):Le (a3m y10 k68 a69 x67) (e6t y10 k68 a69 x67):=by
 unfold a3m e6t
 (repeat' (with_reducible first|exact Le.refl|assumption|(refine Le.bind ?_ fun _=>?_)|(refine Le.jn ?_ fun _=>?_)|(refine Le.grp fun _=>?_)|(refine Le.chk ?_)|(refine Le.cond ?_ ?_)|(refine Le.fl (fun _=>?_) fun _=>?_)|(refine Le.sum (fun _=>?_) fun _=>?_)|(refine Le.forL (fun _ _ _=>?_) _ _ _)|(refine Le.foldL (fun _ _ _=>?_) _ _ _)|(refine Le.loop fun _=>?_)|(refine Le.perm fun _=>?_)|(refine Le.amb ?_)|exact Le.sort|exact a1b|exact a0f))
def a5z (l_:List d9):Option (l8×l9×(List Str)×Int) :=
 (d6c l_).bind fun y6=>bif (!decide (y6=0)) then (F_f y6).bind fun y8=>some (y8.1,y8.2.1,y8.2.2.1,y8.2.2.2) else (e6n l_).bind fun y10=>(d2f y10.2).bind fun y13=>(e6u y10.2).bind fun y14=>(a4u y14).bind fun y26=>bif decide ((y26.1:Int)<(y10.2.length:Int)) then (F_f 7).bind fun y28=>some (y28.1,y28.2.1,y28.2.2.1,y28.2.2.2) else (e6a l_ y10.2).bind fun y30=>bif y30 then (F_f 6).bind fun y32=>some (y32.1,y32.2.1,y32.2.2.1,y32.2.2.2) else bif decide (24<(y10.2.length:Int)) then (F_f 3).bind fun y34=>some (y34.1,y34.2.1,y34.2.2.1,y34.2.2.2) else (a0w l_).bind fun y36=>(w9 y36).bind fun y38=>(foldL (a3m y10) y38 0 (16,[],y10.1,[])).bind fun x74=>(d6l (l8.mk x74.2.2.1 x74.2.2.2)).bind fun y80=>bif (!decide (y80=0)) then (F_f y80).bind fun y82=>some (y82.1,y82.2.1,y82.2.2.1,y82.2.2.2) else (F_j (l9.mk x74.1 x74.2.1)).bind fun y88=>bif (!decide (y88=0)) then (F_f y88).bind fun y90=>some (y90.1,y90.2.1,y90.2.2.1,y90.2.2.2) else some ((l8.mk x74.2.2.1 x74.2.2.2),(l9.mk x74.1 x74.2.1),y10.2,0)
theorem a6p {l_:List d9}:Le (a5z l_) (F_m l_):=by
 unfold a5z F_m
 (repeat' (with_reducible first|exact Le.refl|assumption|(refine Le.bind ?_ fun _=>?_)|(refine Le.jn ?_ fun _=>?_)|(refine Le.grp fun _=>?_)|(refine Le.chk ?_)|(refine Le.cond ?_ ?_)|(refine Le.fl (fun _=>?_) fun _=>?_)|(refine Le.sum (fun _=>?_) fun _=>?_)|(refine Le.forL (fun _ _ _=>?_) _ _ _)|(refine Le.foldL (fun _ _ _=>?_) _ _ _)|(refine Le.loop fun _=>?_)|(refine Le.perm fun _=>?_)|(refine Le.amb ?_)|exact Le.sort|exact a1b|exact a0f|apply a8z))
def a1m (k351:Int) (a352:Bool) (x350:(List Int)×(List Bool)):Option ((List Int)×(List Bool)) :=
 jn (α:=Bool) (bif a352 then chk (inb k351 x350.2.length) (some (!(x350.2.getD ((k351).toNat) default))) else some false) fun j360=>bif j360 then chk (room (x350.1.length+[k351].length) 8) (chk (inb k351 x350.2.length) (some ((x350.1++[k351]),x350.2.set ((k351).toNat) true))) else some (x350.1,x350.2)
theorem a2a  (k351:Int) (a352:Bool) (x350:(List Int)×(List Bool)):Le (a1m k351 a352 x350) (e6m k351 a352 x350):=by
 unfold a1m e6m
 (repeat' (with_reducible first|exact Le.refl|assumption|(refine Le.bind ?_ fun _=>?_)|(refine Le.jn ?_ fun _=>?_)|(refine Le.grp fun _=>?_)|(refine Le.chk ?_)|(refine Le.cond ?_ ?_)|(refine Le.fl (fun _=>?_) fun _=>?_)|(refine Le.sum (fun _=>?_) fun _=>?_)|(refine Le.forL (fun _ _ _=>?_) _ _ _)|(refine Le.foldL (fun _ _ _=>?_) _ _ _)|(refine Le.loop fun _=>?_)|(refine Le.perm fun _=>?_)|(refine Le.amb ?_)|exact Le.sort))
def a1l (x_:List (List Bool)) (x257:(List Int)×(List Bool)):Option (Fl ((List Int)×(List Bool)) (List Bool)) :=
 bif decide (0<(x257.1.length:Int)) then chk (inb 0 x257.1.length) (chk (inb (x257.1.getD 0 default) x_.length) ((foldL a1m (x_.getD (x257.1.getD 0 default).toNat default) 0 (x257.1,x257.2)).bind fun x361=>chk (inc 1 (x361.1.length:Int) x361.1.length) (some (.nx ((x361.1.drop 1).take (x361.1.length - 1),x361.2))))) else some (.ex x257.2)
theorem a3w  (x_:List (List Bool)) (x257:(List Int)×(List Bool)):Le (a1l x_ x257) (f4l x_ x257):=by
 unfold a1l f4l
 (repeat' (with_reducible first|exact Le.refl|assumption|(refine Le.bind ?_ fun _=>?_)|(refine Le.jn ?_ fun _=>?_)|(refine Le.grp fun _=>?_)|(refine Le.chk ?_)|(refine Le.cond ?_ ?_)|(refine Le.fl (fun _=>?_) fun _=>?_)|(refine Le.sum (fun _=>?_) fun _=>?_)|(refine Le.forL (fun _ _ _=>?_) _ _ _)|(refine Le.foldL (fun _ _ _=>?_) _ _ _)|(refine Le.loop fun _=>?_)|(refine Le.perm fun _=>?_)|(refine Le.amb ?_)|exact Le.sort|apply a2a))
def a1z (x_:List (List Bool)) (p_:Int):Option (List Bool) :=
 chk (b5l (x_.length:Int) (x_.length:Int) 1) (chk (inb p_ (List.replicate ((x_.length:Int)).toNat false).length) ((iter (a1l x_) 100000 ([p_],(List.replicate ((x_.length:Int)).toNat false).set ((p_).toNat) true)).bind fun r362=>some r362))
theorem a5j {x_:List (List Bool)} {p_:Int}:Le (a1z x_ p_) (e4v x_ p_):=by
 unfold a1z e4v
 (repeat' (with_reducible first|exact Le.refl|assumption|(refine Le.bind ?_ fun _=>?_)|(refine Le.jn ?_ fun _=>?_)|(refine Le.grp fun _=>?_)|(refine Le.chk ?_)|(refine Le.cond ?_ ?_)|(refine Le.fl (fun _=>?_) fun _=>?_)|(refine Le.sum (fun _=>?_) fun _=>?_)|(refine Le.forL (fun _ _ _=>?_) _ _ _)|(refine Le.foldL (fun _ _ _=>?_) _ _ _)|(refine Le.loop fun _=>?_)|(refine Le.perm fun _=>?_)|(refine Le.amb ?_)|exact Le.sort|apply a2a|apply a3w))
def a3e (d_:l8) (p_:Int) (t_:Int):Option (List Int) :=
 (e67 d_ p_).bind fun y4=>bif (!y4) then some [] else (atF d_.Kinds.length (d_.Events.map fun e=>(e.Time,e.Kind,e.Principal,e.Group)) t_).bind fun y8=>(a1z y8 p_).bind fun y9=>(e4r y9).bind fun y10=>some y10
theorem a3x {d_:l8} {p_:Int} {t_:Int}:Le (a3e d_ p_ t_) (d88 d_ p_ t_):=by
 unfold a3e d88
 (repeat' (with_reducible first|exact Le.refl|assumption|(refine Le.bind ?_ fun _=>?_)|(refine Le.jn ?_ fun _=>?_)|(refine Le.grp fun _=>?_)|(refine Le.chk ?_)|(refine Le.cond ?_ ?_)|(refine Le.fl (fun _=>?_) fun _=>?_)|(refine Le.sum (fun _=>?_) fun _=>?_)|(refine Le.forL (fun _ _ _=>?_) _ _ _)|(refine Le.foldL (fun _ _ _=>?_) _ _ _)|(refine Le.loop fun _=>?_)|(refine Le.perm fun _=>?_)|(refine Le.amb ?_)|exact Le.sort|exact a5j))
def a2v (k21:Int) (a19:Int×Int) (x18:List Int):Option (List Int) :=
 chk (room (x18.length+[a19.1].length) 8) (some (x18++[a19.1]))
theorem a7n  (k21:Int) (a19:Int×Int) (x18:List Int):Le (a2v k21 a19 x18) (f4v k21 a19 x18):=by
 unfold a2v f4v
 (repeat' (with_reducible first|exact Le.refl|assumption|(refine Le.bind ?_ fun _=>?_)|(refine Le.jn ?_ fun _=>?_)|(refine Le.grp fun _=>?_)|(refine Le.chk ?_)|(refine Le.cond ?_ ?_)|(refine Le.fl (fun _=>?_) fun _=>?_)|(refine Le.sum (fun _=>?_) fun _=>?_)|(refine Le.forL (fun _ _ _=>?_) _ _ _)|(refine Le.foldL (fun _ _ _=>?_) _ _ _)|(refine Le.loop fun _=>?_)|(refine Le.perm fun _=>?_)|(refine Le.amb ?_)|exact Le.sort))
def a4l (a_:l9) (qA:Int) (t_:Int):Option (List Int) :=
 (F_2 a_ qA).bind fun y4=>bif (!y4) then some [] else (e6l a_ qA t_).bind fun y15=>e7t (fun l20=>(foldL a2v l20 0 []).bind fun x22=>(c3d x22).bind fun y24=>some y24) y15
theorem a5k {a_:l9} {qA:Int} {t_:Int}:Le (a4l a_ qA t_) (F_c a_ qA t_):=by
 unfold a4l F_c
 (repeat' (with_reducible first|exact Le.refl|assumption|(refine Le.bind ?_ fun _=>?_)|(refine Le.jn ?_ fun _=>?_)|(refine Le.grp fun _=>?_)|(refine Le.chk ?_)|(refine Le.cond ?_ ?_)|(refine Le.fl (fun _=>?_) fun _=>?_)|(refine Le.sum (fun _=>?_) fun _=>?_)|(refine Le.forL (fun _ _ _=>?_) _ _ _)|(refine Le.foldL (fun _ _ _=>?_) _ _ _)|(refine Le.loop fun _=>?_)|(refine Le.perm fun _=>?_)|(refine Le.amb ?_)|exact Le.sort|apply a7n))
def a3d (y2:List Int) (k37:Int) (a38:Int) (x36:Unit):Option (Fl Unit (Int×Bool)) :=
 (f3y y2 a38).bind fun y46=>bif y46 then some (.ex (a38,true)) else some (.nx ())
theorem a8i  (y2:List Int) (k37:Int) (a38:Int) (x36:Unit):Le (a3d y2 k37 a38 x36) (e6d y2 k37 a38 x36):=by
 unfold a3d e6d
 (repeat' (with_reducible first|exact Le.refl|assumption|(refine Le.bind ?_ fun _=>?_)|(refine Le.jn ?_ fun _=>?_)|(refine Le.grp fun _=>?_)|(refine Le.chk ?_)|(refine Le.cond ?_ ?_)|(refine Le.fl (fun _=>?_) fun _=>?_)|(refine Le.sum (fun _=>?_) fun _=>?_)|(refine Le.forL (fun _ _ _=>?_) _ _ _)|(refine Le.foldL (fun _ _ _=>?_) _ _ _)|(refine Le.loop fun _=>?_)|(refine Le.perm fun _=>?_)|(refine Le.amb ?_)|exact Le.sort|exact a3x|exact a5k))
def a5f (d_:l8) (a_:l9) (p_:Int) (qA:Int) (t_:Int):Option (Int×Bool) :=
 (a3e d_ p_ t_).bind fun y2=>(a4l a_ qA t_).bind fun y25=>(forL (a3d y2) y25 0 ()).bind fun o=>o.elim (fun x47=>some (0,false)) (fun r48=>some r48)
theorem b1g {d_:l8} {a_:l9} {p_:Int} {qA:Int} {t_:Int}:Le (a5f d_ a_ p_ qA t_) (e4q d_ a_ p_ qA t_):=by
 unfold a5f e4q
 (repeat' (with_reducible first|exact Le.refl|assumption|(refine Le.bind ?_ fun _=>?_)|(refine Le.jn ?_ fun _=>?_)|(refine Le.grp fun _=>?_)|(refine Le.chk ?_)|(refine Le.cond ?_ ?_)|(refine Le.fl (fun _=>?_) fun _=>?_)|(refine Le.sum (fun _=>?_) fun _=>?_)|(refine Le.forL (fun _ _ _=>?_) _ _ _)|(refine Le.foldL (fun _ _ _=>?_) _ _ _)|(refine Le.loop fun _=>?_)|(refine Le.perm fun _=>?_)|(refine Le.amb ?_)|exact Le.sort|exact a3x|exact a5k|apply a8i))
def a4v (d_:l8) (a_:l9) (p_:Int) (qA:Int) (t_:Int):Option Bool :=
 (e68 d_ a_ p_ qA).bind fun y4=>bif (!y4) then some false else (F_3 a_ qA t_).bind fun y6=>(a5f d_ a_ p_ qA t_).bind fun y8=>grp ((y6.2||y8.2)) fun b10=>some b10
theorem a2o {d_:l8} {a_:l9} {p_:Int} {qA:Int} {t_:Int}:Le (a4v d_ a_ p_ qA t_) (d81 d_ a_ p_ qA t_):=by
 unfold a4v d81
 (repeat' (with_reducible first|exact Le.refl|assumption|(refine Le.bind ?_ fun _=>?_)|(refine Le.jn ?_ fun _=>?_)|(refine Le.grp fun _=>?_)|(refine Le.chk ?_)|(refine Le.cond ?_ ?_)|(refine Le.fl (fun _=>?_) fun _=>?_)|(refine Le.sum (fun _=>?_) fun _=>?_)|(refine Le.forL (fun _ _ _=>?_) _ _ _)|(refine Le.foldL (fun _ _ _=>?_) _ _ _)|(refine Le.loop fun _=>?_)|(refine Le.perm fun _=>?_)|(refine Le.amb ?_)|exact Le.sort|exact b1g))
def a4e (d_:l8) (a_:l9) (qA:Int) (t_:Int) (k54:Int) (a55:Int) (x53:Bool×(List Int)):Option (Bool×(List Int)) :=
 (a4v d_ a_ k54 qA t_).bind fun y63=>bif y63 then chk (room (x53.2.length+[k54].length) 8) (some (x53.1,(x53.2++[k54]))) else some (x53.1,x53.2)
theorem a9n  (d_:l8) (a_:l9) (qA:Int) (t_:Int) (k54:Int) (a55:Int) (x53:Bool×(List Int)):Le (a4e d_ a_ qA t_ k54 a55 x53) (e6c d_ a_ qA t_ k54 a55 x53):=by
 unfold a4e e6c
 (repeat' (with_reducible first|exact Le.refl|assumption|(refine Le.bind ?_ fun _=>?_)|(refine Le.jn ?_ fun _=>?_)|(refine Le.grp fun _=>?_)|(refine Le.chk ?_)|(refine Le.cond ?_ ?_)|(refine Le.fl (fun _=>?_) fun _=>?_)|(refine Le.sum (fun _=>?_) fun _=>?_)|(refine Le.forL (fun _ _ _=>?_) _ _ _)|(refine Le.foldL (fun _ _ _=>?_) _ _ _)|(refine Le.loop fun _=>?_)|(refine Le.perm fun _=>?_)|(refine Le.amb ?_)|exact Le.sort|exact a2o))
def a7d (d_:l8) (a_:l9) (qA:Int) (t_:Int):Option (a14×Int) :=
 (d6b d_ a_).bind fun y4=>bif (!decide (y4=0)) then some ((a14.mk false []),y4) else (d2d a_ qA).bind fun y8=>bif (!y8) then some ((a14.mk false []),6) else (F_3 a_ qA t_).bind fun y10=>(foldL (a4e d_ a_ qA t_) d_.Kinds 0 (y10.2,[])).bind fun x64=>some ((a14.mk x64.1 x64.2),0)
theorem a7h {d_:l8} {a_:l9} {qA:Int} {t_:Int}:Le (a7d d_ a_ qA t_) (e4p d_ a_ qA t_):=by
 unfold a7d e4p
 (repeat' (with_reducible first|exact Le.refl|assumption|(refine Le.bind ?_ fun _=>?_)|(refine Le.jn ?_ fun _=>?_)|(refine Le.grp fun _=>?_)|(refine Le.chk ?_)|(refine Le.cond ?_ ?_)|(refine Le.fl (fun _=>?_) fun _=>?_)|(refine Le.sum (fun _=>?_) fun _=>?_)|(refine Le.forL (fun _ _ _=>?_) _ _ _)|(refine Le.foldL (fun _ _ _=>?_) _ _ _)|(refine Le.loop fun _=>?_)|(refine Le.perm fun _=>?_)|(refine Le.amb ?_)|exact Le.sort|exact a2o|apply a9n))
def a4j (qB:List Str) (k19:Int) (a20:Int) (x18:Str):Option Str :=
 chk (inb a20 qB.length) (chk (a4m ([32].length+(qB.getD (a20).toNat default).length)) (chk (a4m (x18.length+(([32]:Str)++(qB.getD (a20).toNat default)).length)) (some (x18++(([32]:Str)++(qB.getD (a20).toNat default))))))
theorem a9p  (qB:List Str) (k19:Int) (a20:Int) (x18:Str):Le (a4j qB k19 a20 x18) (e6h qB k19 a20 x18):=by
 unfold a4j e6h
 (repeat' (with_reducible first|exact Le.refl|assumption|(refine Le.bind ?_ fun _=>?_)|(refine Le.jn ?_ fun _=>?_)|(refine Le.grp fun _=>?_)|(refine Le.chk ?_)|(refine Le.cond ?_ ?_)|(refine Le.fl (fun _=>?_) fun _=>?_)|(refine Le.sum (fun _=>?_) fun _=>?_)|(refine Le.forL (fun _ _ _=>?_) _ _ _)|(refine Le.foldL (fun _ _ _=>?_) _ _ _)|(refine Le.loop fun _=>?_)|(refine Le.perm fun _=>?_)|(refine Le.amb ?_)|exact Le.sort|exact a7h))
def a7e (c_:d9) (d_:l8) (a_:l9) (qB:List Str):Option Str :=
 (a7d d_ a_ c_.A c_.Time).bind fun y2=>jn (α:=Str) (bif y2.1.Public then some [112,117,98,108,105,99] else some [105,110,115,105,100,101]) fun j3=>(foldL (a4j qB) y2.1.Principals 0 j3).bind fun x21=>some x21
theorem a7i {c_:d9} {d_:l8} {a_:l9} {qB:List Str}:Le (a7e c_ d_ a_ qB) (e3w c_ d_ a_ qB):=by
 unfold a7e e3w
 (repeat' (with_reducible first|exact Le.refl|assumption|(refine Le.bind ?_ fun _=>?_)|(refine Le.jn ?_ fun _=>?_)|(refine Le.grp fun _=>?_)|(refine Le.chk ?_)|(refine Le.cond ?_ ?_)|(refine Le.fl (fun _=>?_) fun _=>?_)|(refine Le.sum (fun _=>?_) fun _=>?_)|(refine Le.forL (fun _ _ _=>?_) _ _ _)|(refine Le.foldL (fun _ _ _=>?_) _ _ _)|(refine Le.loop fun _=>?_)|(refine Le.perm fun _=>?_)|(refine Le.amb ?_)|exact Le.sort|exact a7h|apply a9p))
def a2s (k18:Int) (a19:a01) (x17:List Int):Option (List Int) :=
 chk (room (x17.length+[a19.Time].length) 8) (some (x17++[a19.Time]))
theorem a7k  (k18:Int) (a19:a01) (x17:List Int):Le (a2s k18 a19 x17) (f5b k18 a19 x17):=by
 unfold a2s f5b
 (repeat' (with_reducible first|exact Le.refl|assumption|(refine Le.bind ?_ fun _=>?_)|(refine Le.jn ?_ fun _=>?_)|(refine Le.grp fun _=>?_)|(refine Le.chk ?_)|(refine Le.cond ?_ ?_)|(refine Le.fl (fun _=>?_) fun _=>?_)|(refine Le.sum (fun _=>?_) fun _=>?_)|(refine Le.forL (fun _ _ _=>?_) _ _ _)|(refine Le.foldL (fun _ _ _=>?_) _ _ _)|(refine Le.loop fun _=>?_)|(refine Le.perm fun _=>?_)|(refine Le.amb ?_)|exact Le.sort))
def a4f (d_:l8) (a_:l9):Option (List Int) :=
 (F_t a_).bind fun y2=>(foldL a2s d_.Events 0 y2).bind fun x20=>(c3d x20).bind fun y22=>(a5u y22).bind fun y24=>some ((y24.2.drop 0).take y24.1)
theorem a5g {d_:l8} {a_:l9}:Le (a4f d_ a_) (F_u d_ a_):=by
 unfold a4f F_u
 (repeat' (with_reducible first|exact Le.refl|assumption|(refine Le.bind ?_ fun _=>?_)|(refine Le.jn ?_ fun _=>?_)|(refine Le.grp fun _=>?_)|(refine Le.chk ?_)|(refine Le.cond ?_ ?_)|(refine Le.fl (fun _=>?_) fun _=>?_)|(refine Le.sum (fun _=>?_) fun _=>?_)|(refine Le.forL (fun _ _ _=>?_) _ _ _)|(refine Le.foldL (fun _ _ _=>?_) _ _ _)|(refine Le.loop fun _=>?_)|(refine Le.perm fun _=>?_)|(refine Le.amb ?_)|exact Le.sort|apply a7k))
def a2u (d_:l8) (a_:l9) (p_:Int) (t_:Int) (k75:Int) (a76:Int) (x74:Unit):Option (Fl Unit (Int×Bool)) :=
 (F_3 a_ a76 t_).bind fun y96=>grp ((decide (p_=(-1))&&y96.2)) fun b99=>bif b99 then some (.ex (a76,true)) else bif (!decide (p_=(-1))) then (a4v d_ a_ p_ a76 t_).bind fun y100=>bif y100 then some (.ex (a76,true)) else some (.nx ()) else some (.nx ())
theorem a7m  (d_:l8) (a_:l9) (p_:Int) (t_:Int) (k75:Int) (a76:Int) (x74:Unit):Le (a2u d_ a_ p_ t_ k75 a76 x74) (e6b d_ a_ p_ t_ k75 a76 x74):=by
 unfold a2u e6b
 (repeat' (with_reducible first|exact Le.refl|assumption|(refine Le.bind ?_ fun _=>?_)|(refine Le.jn ?_ fun _=>?_)|(refine Le.grp fun _=>?_)|(refine Le.chk ?_)|(refine Le.cond ?_ ?_)|(refine Le.fl (fun _=>?_) fun _=>?_)|(refine Le.sum (fun _=>?_) fun _=>?_)|(refine Le.forL (fun _ _ _=>?_) _ _ _)|(refine Le.foldL (fun _ _ _=>?_) _ _ _)|(refine Le.loop fun _=>?_)|(refine Le.perm fun _=>?_)|(refine Le.amb ?_)|exact Le.sort|exact a2o))
def a4h (d_:l8) (a_:l9) (jA:Int) (p_:Int) (t_:Int):Option (Int×Bool) :=
 (d6j a_ jA t_).bind fun y47=>(forL (a2u d_ a_ p_ t_) y47 0 ()).bind fun o=>o.elim (fun x101=>some (0,false)) (fun r102=>some r102)
theorem a5h {d_:l8} {a_:l9} {jA:Int} {p_:Int} {t_:Int}:Le (a4h d_ a_ jA p_ t_) (e4o d_ a_ jA p_ t_):=by
 unfold a4h e4o
 (repeat' (with_reducible first|exact Le.refl|assumption|(refine Le.bind ?_ fun _=>?_)|(refine Le.jn ?_ fun _=>?_)|(refine Le.grp fun _=>?_)|(refine Le.chk ?_)|(refine Le.cond ?_ ?_)|(refine Le.fl (fun _=>?_) fun _=>?_)|(refine Le.sum (fun _=>?_) fun _=>?_)|(refine Le.forL (fun _ _ _=>?_) _ _ _)|(refine Le.foldL (fun _ _ _=>?_) _ _ _)|(refine Le.loop fun _=>?_)|(refine Le.perm fun _=>?_)|(refine Le.amb ?_)|exact Le.sort|exact a2o|apply a7m))
def a2t (d_:l8) (a_:l9) (jA:Int) (p_:Int) (k35:Int) (a36:Int) (x34:Unit):Option (Fl Unit (Int×Bool)) :=
 (a4h d_ a_ jA p_ a36).bind fun y44=>bif y44.2 then some (.ex (a36,true)) else some (.nx ())
theorem a7l  (d_:l8) (a_:l9) (jA:Int) (p_:Int) (k35:Int) (a36:Int) (x34:Unit):Le (a2t d_ a_ jA p_ k35 a36 x34) (f4k d_ a_ jA p_ k35 a36 x34):=by
 unfold a2t f4k
 (repeat' (with_reducible first|exact Le.refl|assumption|(refine Le.bind ?_ fun _=>?_)|(refine Le.jn ?_ fun _=>?_)|(refine Le.grp fun _=>?_)|(refine Le.chk ?_)|(refine Le.cond ?_ ?_)|(refine Le.fl (fun _=>?_) fun _=>?_)|(refine Le.sum (fun _=>?_) fun _=>?_)|(refine Le.forL (fun _ _ _=>?_) _ _ _)|(refine Le.foldL (fun _ _ _=>?_) _ _ _)|(refine Le.loop fun _=>?_)|(refine Le.perm fun _=>?_)|(refine Le.amb ?_)|exact Le.sort|exact a5g|exact a5h))
def a4g (d_:l8) (a_:l9) (jA:Int) (p_:Int):Option (Int×Bool) :=
 (a4f d_ a_).bind fun y23=>(forL (a2t d_ a_ jA p_) y23 0 ()).bind fun o=>o.elim (fun x45=>some (0,false)) (fun r46=>some r46)
theorem a9o {d_:l8} {a_:l9} {jA:Int} {p_:Int}:Le (a4g d_ a_ jA p_) (e4n d_ a_ jA p_):=by
 unfold a4g e4n
 (repeat' (with_reducible first|exact Le.refl|assumption|(refine Le.bind ?_ fun _=>?_)|(refine Le.jn ?_ fun _=>?_)|(refine Le.grp fun _=>?_)|(refine Le.chk ?_)|(refine Le.cond ?_ ?_)|(refine Le.fl (fun _=>?_) fun _=>?_)|(refine Le.sum (fun _=>?_) fun _=>?_)|(refine Le.forL (fun _ _ _=>?_) _ _ _)|(refine Le.foldL (fun _ _ _=>?_) _ _ _)|(refine Le.loop fun _=>?_)|(refine Le.perm fun _=>?_)|(refine Le.amb ?_)|exact Le.sort|exact a5g|exact a5h|apply a7l))
def a4i (d_:l8) (a_:l9) (jA:Int) (p_:Int):Option (Int×Bool) :=
 (e66 d_ a_ jA).bind fun y4=>bif (!decide (y4=0)) then some (0,false) else (a4g d_ a_ jA p_).bind fun y6=>some (y6.1,y6.2)
theorem a5i {d_:l8} {a_:l9} {jA:Int} {p_:Int}:Le (a4i d_ a_ jA p_) (d80 d_ a_ jA p_):=by
 unfold a4i d80
 (repeat' (with_reducible first|exact Le.refl|assumption|(refine Le.bind ?_ fun _=>?_)|(refine Le.jn ?_ fun _=>?_)|(refine Le.grp fun _=>?_)|(refine Le.chk ?_)|(refine Le.cond ?_ ?_)|(refine Le.fl (fun _=>?_) fun _=>?_)|(refine Le.sum (fun _=>?_) fun _=>?_)|(refine Le.forL (fun _ _ _=>?_) _ _ _)|(refine Le.foldL (fun _ _ _=>?_) _ _ _)|(refine Le.loop fun _=>?_)|(refine Le.perm fun _=>?_)|(refine Le.amb ?_)|exact Le.sort|exact a9o))
def a4k (y2:l8×l9×(List Str)×Int) (k144:Int) (a145:d9) (x143:List UInt8):Option (List UInt8) :=
 bif decide (a145.Kind=10) then (a7e a145 y2.1 y2.2.1 y2.2.2.1).bind fun y173=>chk (a4m (y173.length+[10].length)) ((bws x143 (y173++[10])).bind fun y174=>some y174) else bif decide (a145.Kind=11) then jn (α:=Str) ((d2c y2.2.2.1 a145.Name).bind fun y183=>(a4i y2.1 y2.2.1 a145.A y183).bind fun y184=>bif y184.2 then (a5l y184.1).bind fun y185=>some y185 else some [110,101,118,101,114]) fun j180=>chk (a4m (j180.length+[10].length)) ((bws x143 (j180++[10])).bind fun y186=>some y186) else some x143
theorem a9q  (y2:l8×l9×(List Str)×Int) (k144:Int) (a145:d9) (x143:List UInt8):Le (a4k y2 k144 a145 x143) (e4u y2 k144 a145 x143):=by
 unfold a4k e4u
 (repeat' (with_reducible first|exact Le.refl|assumption|(refine Le.bind ?_ fun _=>?_)|(refine Le.jn ?_ fun _=>?_)|(refine Le.grp fun _=>?_)|(refine Le.chk ?_)|(refine Le.cond ?_ ?_)|(refine Le.fl (fun _=>?_) fun _=>?_)|(refine Le.sum (fun _=>?_) fun _=>?_)|(refine Le.forL (fun _ _ _=>?_) _ _ _)|(refine Le.foldL (fun _ _ _=>?_) _ _ _)|(refine Le.loop fun _=>?_)|(refine Le.perm fun _=>?_)|(refine Le.amb ?_)|exact Le.sort|exact a6p|exact a7i|exact a5i))
def a7f (l_:List d9):Option (Str×Int) :=
 (a5z l_).bind fun y2=>bif (!decide (y2.2.2.2=0)) then some ([],y2.2.2.2) else (foldL (a4k y2) l_ 0 ([]:Str)).bind fun x187=>(e5u x187).bind fun y189=>some (y189,0)
theorem b3e {l_:List d9}:Le (a7f l_) (F_i l_):=by
 unfold a7f F_i
 (repeat' (with_reducible first|exact Le.refl|assumption|(refine Le.bind ?_ fun _=>?_)|(refine Le.jn ?_ fun _=>?_)|(refine Le.grp fun _=>?_)|(refine Le.chk ?_)|(refine Le.cond ?_ ?_)|(refine Le.fl (fun _=>?_) fun _=>?_)|(refine Le.sum (fun _=>?_) fun _=>?_)|(refine Le.forL (fun _ _ _=>?_) _ _ _)|(refine Le.foldL (fun _ _ _=>?_) _ _ _)|(refine Le.loop fun _=>?_)|(refine Le.perm fun _=>?_)|(refine Le.amb ?_)|exact Le.sort|exact a6p|exact a7i|exact a5i|apply a9q))
def b1h:Option Bool :=
 (e4y [112,101,114,115,111,110,32,97,110,110,10,97,108,108,111,119,32,51,32,97,110,110,32,48,10,112,117,116,32,53,32,55,32,48,10,115,105,110,99,101,32,55,32,97,110,110,10,119,104,111,32,52,32,48,10]).bind fun y2=>(a7f y2.1).bind fun y4=>grp ((decide (y2.2.2=0)&&decide ((y2.1.length:Int)=5))) fun b8=>grp ((b8&&decide (y4.2=0))) fun b9=>grp ((b9&&decide (y4.1=[53,10,105,110,115,105,100,101,32,97,110,110,10]))) fun b10=>some b10
theorem b3d:Le (b1h ) (d7y ):=by
 unfold b1h d7y
 (repeat' (with_reducible first|exact Le.refl|assumption|(refine Le.bind ?_ fun _=>?_)|(refine Le.jn ?_ fun _=>?_)|(refine Le.grp fun _=>?_)|(refine Le.chk ?_)|(refine Le.cond ?_ ?_)|(refine Le.fl (fun _=>?_) fun _=>?_)|(refine Le.sum (fun _=>?_) fun _=>?_)|(refine Le.forL (fun _ _ _=>?_) _ _ _)|(refine Le.foldL (fun _ _ _=>?_) _ _ _)|(refine Le.loop fun _=>?_)|(refine Le.perm fun _=>?_)|(refine Le.amb ?_)|exact Le.sort|exact b3e))
theorem c2s:d7y=some true:=b3d _ (by kernel_rfl)
end
end Go.Ab