/- What the functions of this seat that lie on the laws' road compute (part LG), each for every input. By AI agents. -/
import Derived.Test.YtbmjlaknnpmgpaaGreatDoorLT
import Derived.Test.YtbmjlaknnpmgpaaGreatDoorLD
set_option linter.all false
set_option linter.all false
set_option maxRecDepth 20000
set_option maxHeartbeats 2000000
namespace Go.Ab
open Go.Proofs
def f1g (c_:u7):Option Bool :=
 grp ((decide (c_.Pool<0)||decide (7<c_.Pool))) fun b2=>some b2
instance g5d {c_:u7}:WJ (f1g c_) 178 [u7.v c_] .bool:=wX Tryz.func178 [(1,⟨[],[],[.v 4 7]⟩)] (h:=fun _ _ h hQ M=>by unfold f1g at h;exact tX)
def f8h (k31:Int) (a32:u7) (x30:Unit):Option (Fl Unit Int) :=
 (f1g a32).bind fun y40=>bif y40 then some (.ex k31) else some (.nx ())
def f1f (s_:List u7):Option Int :=
 (a0x f8h s_ 0 ()).bind fun o=>o.elim (fun x41=>some (-1)) (fun r42=>some r42)
@[irreducible] def e3c:MC:=rdc (cK Tryz.prog Tryz.f218 [] [] 2)
attribute [go_sem] f8h
instance:LI e3c 8 7 [0,1,7] [] (fun y:Unit=>[]) (fun y=>[]) []:=⟨⟩
instance g5c {s_:List u7}:WJ (f1f s_) 218 [.sl (s_.map u7.v),.fn (.func 178) []] (.int .i64):=wX Tryz.func218 [] [(2,e3c)] (h:=fun _ _ h hQ M=>by unfold f1f at h;exact tX)
def e8j (s_:List u7):Option Bool :=
 (f1f s_).bind fun y2=>some (decide (0≤y2))
instance g6a {s_:List u7}:WJ (e8j s_) 179 [.sl (s_.map u7.v),.fn (.func 178) []] .bool:=wX Tryz.func179 (h:=fun _ _ h hQ M=>by unfold e8j at h;exact tX)
def e8i (f_:x8):Option Int :=
 grp (((!decide (f_.Slots=1))&&(!decide (f_.Slots=2)))) fun b13=>grp ((b13||decide ((f_.Consumers.length:Int)<1))) fun b14=>grp ((b14||decide (8<(f_.Consumers.length:Int)))) fun b15=>bif b15 then some 36 else (e8j f_.Consumers).bind fun y16=>bif y16 then some 36 else some 0
instance g69 {f_:x8}:WJ (e8i f_) 116 [x8.v f_] (.int .i64):=wX Tryz.func116 [(2,⟨[],[],[.v 4 7,.v 9 13,.v 15 19]⟩)] (h:=fun _ _ h hQ M=>by unfold e8i at h;exact tX)
def d3l (x_:Int) (known_:Int) (two_:Bool):Option Bool :=
 grp ((decide (0<x_)&&decide (x_≤3))) fun b4=>jn (α:=Bool) (bif b4 then some (decide ((bits .andNot .i64 x_ known_)=0)) else some false) fun j5=>grp ((j5&&(two_||(!decide (x_=3))))) fun b6=>some b6
instance {m:List MOp}:GI (gjt 1170107 m) [0,2,6] [] (fun y:Bool=>[(18,.bool y)]) (fun y=>[]):=⟨⟩
instance g8b {x_ known_:Int} {two_:Bool}:WJ (d3l x_ known_ two_) 117 [.int .i64 x_,.int .i64 known_,.bool two_] .bool:=wX Tryz.func117 [(1,⟨[],[],[.v 3 5,.w 7 11 1170107,.v 13 18]⟩)] (h:=fun _ _ h hQ M=>by unfold d3l at h;exact tX)
def e8h (c_:u7) (u_:a0r) (known_:Int):Option Bool :=
 (d3l u_.Stored known_ c_.Dual).bind fun y4=>bif (!y4) then some false else bif (!u_.Up) then some (decide (u_.Used=0)) else (d3l u_.Used known_ c_.Dual).bind fun y7=>grp ((y7&&((!c_.Live)||decide (u_.Used=u_.Stored)))) fun b8=>some b8
instance g68 {c_:u7} {u_:a0r} {known_:Int}:WJ (e8h c_ u_ known_) 118 [u7.v c_,a0r.v u_,.int .i64 known_] .bool:=wX Tryz.func118 [(3,⟨[.gc [2,3,4,27,28,29,30,31,32,33,34,35,36]],[],[]⟩),(5,⟨[],[],[.v 7 17]⟩)] (h:=fun _ _ h hQ M=>by unfold e8h at h;exact tX)
def g01 (f_:x8) (s_:l7) (k52:Int) (a53:a0r) (x51:Unit):Option (Fl Unit Bool) :=
 chk (inb k52 f_.Consumers.length) ((e8h (f_.Consumers.getD (k52).toNat default) a53 s_.Known).bind fun y61=>bif (!y61) then some (.ex false) else some (.nx ()))
def e03 (f_:x8) (s_:l7):Option Bool :=
 jn (α:=Fl Unit Bool) ((e8i f_).bind fun y17=>grp (((!decide (y17=0))||((!decide (s_.Known=1))&&(!decide (s_.Known=3))))) fun b18=>bif b18 then grp (true) fun b19=>bif b19 then some (.ex false) else some (.nx ()) else (d3l s_.Valid s_.Known (decide (f_.Slots=2))).bind fun y20=>grp (((!y20)||(!decide ((s_.Units.length:Int)=(f_.Consumers.length:Int))))) fun b21=>bif b21 then some (.ex false) else some (.nx ())) fun o=>o.elim (fun j11=>(a0x (g01 f_ s_) s_.Units 0 ()).bind fun o=>o.elim (fun x62=>some true) (fun r63=>some r63)) (fun r64=>some r64)
def f6w:List (Nat×RN):=[(1,⟨[],[],[.v 4 12,.v 25 32]⟩)]
@[irreducible] def d67:MC:=rdc (cK Tryz.prog Tryz.f70 f6w [] 4)
@[irreducible] def e1w:MC:=rdc (cK Tryz.prog Tryz.f70 f6w [(4,d67)] 10000003)
attribute [go_sem] g01
instance:LI d67 43 42 [2,3,41,42] [3,2] (fun y:Unit=>[]) (fun y=>[]) []:=⟨⟩
instance:LI e1w 0 0 [2,3] [3,2] (fun y:Unit=>[]) (fun y=>[]) []:=⟨⟩
instance g9h {f_:x8} {s_:l7}:WJ (e03 f_ s_) 70 [x8.v f_,l7.v s_] .bool:=wX Tryz.func70 f6w [(4,d67),(10000003,e1w)] (h:=fun _ _ h hQ M=>by unfold e03 at h;exact tX)
def d8k (n_:Int) (low_:Int) (high_:Int):Option Bool :=
 grp ((decide (low_≤n_)&&decide (n_≤high_))) fun b2=>some b2
instance g7n {n_ low_ high_:Int}:WJ (d8k n_ low_ high_) 120 [.int .i64 n_,.int .i64 low_,.int .i64 high_] .bool:=wX Tryz.func120 [(1,⟨[],[],[.v 4 7]⟩)] (h:=fun _ _ h hQ M=>by unfold d8k at h;exact tX)
def f1e (bits_:Int):Option Bool :=
 (d8k bits_ 0 3).bind fun y2=>some (!y2)
instance g5b {bits_:Int}:WJ (f1e bits_) 121 [.int .i64 bits_] .bool:=wX Tryz.func121 (h:=fun _ _ h hQ M=>by unfold f1e at h;exact tX)
def f8g (k31:Int) (a32:Int) (x30:Unit):Option (Fl Unit Int) :=
 (f1e a32).bind fun y40=>bif y40 then some (.ex k31) else some (.nx ())
def f1d (s_:List Int):Option Int :=
 (a0x f8g s_ 0 ()).bind fun o=>o.elim (fun x41=>some (-1)) (fun r42=>some r42)
@[irreducible] def e3a:MC:=rdc (cK Tryz.prog Tryz.f175 [] [] 2)
attribute [go_sem] f8g
instance:LI e3a 8 7 [0,1,7] [] (fun y:Unit=>[]) (fun y=>[]) []:=⟨⟩
instance g5a {s_:List Int}:WJ (f1d s_) 175 [.sl (s_.map (V.int .i64)),.fn (.func 121) []] (.int .i64):=wX Tryz.func175 [] [(2,e3a)] (h:=fun _ _ h hQ M=>by unfold f1d at h;exact tX)
def d9k (s_:List Int):Option Bool :=
 (f1d s_).bind fun y2=>some (decide (0≤y2))
instance g74 {s_:List Int}:WJ (d9k s_) 112 [.sl (s_.map (V.int .i64)),.fn (.func 121) []] .bool:=wX Tryz.func112 (h:=fun _ _ h hQ M=>by unfold d9k at h;exact tX)
def d9j (g_:Int) (p_:l9):Option Bool :=
 chk (a0l ((p_.Sets.length:Int) - 1)) ((d8k g_ 0 ((p_.Sets.length:Int) - 1)).bind fun y2=>some (!y2))
instance g73 {g_:Int} {p_:l9}:WI (d9j g_ p_) Tryz.prog 119 [.int .i64 g_,.ptr 1000 0] [(1000,.cells [.bool p_.Fence,.sl (p_.Sets.map (V.int .i64)),.sl (p_.Replicas.map p8.v),.sl (p_.Snapshots.map (V.int .i64))])] (fun z=>.bool z) (fun z=>[(1000,.cells [.bool p_.Fence,.sl (p_.Sets.map (V.int .i64)),.sl (p_.Replicas.map p8.v),.sl (p_.Snapshots.map (V.int .i64))])]):=wX Tryz.func119 [] [] [] [1000] (h:=fun _ _ h hQ M=>by unfold d9j at h;exact tX)
def f8f (fc0_:l9) (k31:Int) (a32:Int) (x30:Unit):Option (Fl Unit Int) :=
 (d9j a32 fc0_).bind fun y40=>bif y40 then some (.ex k31) else some (.nx ())
def f2x (s_:List Int) (fc0_:l9):Option Int :=
 (a0x (f8f fc0_) s_ 0 ()).bind fun o=>o.elim (fun x41=>some (-1)) (fun r42=>some r42)
def g26:List (Nat×RN):=[(4,⟨[],[.c 5 0 [1000] []],[]⟩)]
@[irreducible] def e2z:MC:=rdc (cK Tryz.prog Tryz.f175 g26 [] 2)
attribute [go_sem] f8f
instance:LI e2z 8 7 [0,1,7] [1000] (fun y:Unit=>[]) (fun y=>[]) []:=⟨⟩
instance g7m {s_:List Int} {fc0_:l9}:WI (f2x s_ fc0_) Tryz.prog 175 [.sl (s_.map (V.int .i64)),.fn (.func 119) [.ptr 1000 0]] [(1000,.cells [.bool fc0_.Fence,.sl (fc0_.Sets.map (V.int .i64)),.sl (fc0_.Replicas.map p8.v),.sl (fc0_.Snapshots.map (V.int .i64))])] (fun z=>.int .i64 z) (fun z=>[(1000,.cells [.bool fc0_.Fence,.sl (fc0_.Sets.map (V.int .i64)),.sl (fc0_.Replicas.map p8.v),.sl (fc0_.Snapshots.map (V.int .i64))])]):=wX Tryz.func175 g26 [(2,e2z)] [] [1000] (h:=fun _ _ h hQ M=>by unfold f2x at h;exact tX)
def d9i (s_:List Int) (fc0_:l9):Option Bool :=
 (f2x s_ fc0_).bind fun y2=>some (decide (0≤y2))
instance g72 {s_:List Int} {fc0_:l9}:WI (d9i s_ fc0_) Tryz.prog 112 [.sl (s_.map (V.int .i64)),.fn (.func 119) [.ptr 1000 0]] [(1000,.cells [.bool fc0_.Fence,.sl (fc0_.Sets.map (V.int .i64)),.sl (fc0_.Replicas.map p8.v),.sl (fc0_.Snapshots.map (V.int .i64))])] (fun z=>.bool z) (fun z=>[(1000,.cells [.bool fc0_.Fence,.sl (fc0_.Sets.map (V.int .i64)),.sl (fc0_.Replicas.map p8.v),.sl (fc0_.Snapshots.map (V.int .i64))])]):=wX Tryz.func112 [(1,⟨[],[.c 2 0 [1000] []],[]⟩)] [] [] [1000] (h:=fun _ _ h hQ M=>by unfold d9i at h;exact tX)
def f1c (r_:p8) (pc0_:l9):Option Bool :=
 (d9j r_.Generation pc0_).bind fun y2=>some y2
instance g59 {r_:p8} {pc0_:l9}:WI (f1c r_ pc0_) Tryz.prog 123 [p8.v r_,.ptr 1000 0] [(1000,.cells [.fn (.func 119) [.ptr 1001 0]]),(1001,.cells [.bool pc0_.Fence,.sl (pc0_.Sets.map (V.int .i64)),.sl (pc0_.Replicas.map p8.v),.sl (pc0_.Snapshots.map (V.int .i64))])] (fun z=>.bool z) (fun z=>[(1000,.cells [.fn (.func 119) [.ptr 1001 0]]),(1001,.cells [.bool pc0_.Fence,.sl (pc0_.Sets.map (V.int .i64)),.sl (pc0_.Replicas.map p8.v),.sl (pc0_.Snapshots.map (V.int .i64))])]):=wX Tryz.func123 [(1,⟨[],[.c 3 0 [1001] []],[]⟩)] [] [] [1000,1001] (h:=fun _ _ h hQ M=>by have:SwA [(1000,1001)]:=⟨⟩;unfold f1c at h;exact tX)
def f8e (fc0c0_:l9) (k31:Int) (a32:p8) (x30:Unit):Option (Fl Unit Int) :=
 (f1c a32 fc0c0_).bind fun y40=>bif y40 then some (.ex k31) else some (.nx ())
def f2w (s_:List p8) (fc0c0_:l9):Option Int :=
 (a0x (f8e fc0c0_) s_ 0 ()).bind fun o=>o.elim (fun x41=>some (-1)) (fun r42=>some r42)
def g25:List (Nat×RN):=[(4,⟨[],[.c 5 0 [1000,1001] []],[]⟩)]
@[irreducible] def e2y:MC:=rdc (cK Tryz.prog Tryz.f180 g25 [] 2)
attribute [go_sem] f8e
instance:LI e2y 8 7 [0,1,7] [1000,1001] (fun y:Unit=>[]) (fun y=>[]) []:=⟨⟩
instance g7l {s_:List p8} {fc0c0_:l9}:WI (f2w s_ fc0c0_) Tryz.prog 180 [.sl (s_.map p8.v),.fn (.func 123) [.ptr 1000 0]] [(1000,.cells [.fn (.func 119) [.ptr 1001 0]]),(1001,.cells [.bool fc0c0_.Fence,.sl (fc0c0_.Sets.map (V.int .i64)),.sl (fc0c0_.Replicas.map p8.v),.sl (fc0c0_.Snapshots.map (V.int .i64))])] (fun z=>.int .i64 z) (fun z=>[(1000,.cells [.fn (.func 119) [.ptr 1001 0]]),(1001,.cells [.bool fc0c0_.Fence,.sl (fc0c0_.Sets.map (V.int .i64)),.sl (fc0c0_.Replicas.map p8.v),.sl (fc0c0_.Snapshots.map (V.int .i64))])]):=wX Tryz.func180 g25 [(2,e2y)] [] [1000,1001] (h:=fun _ _ h hQ M=>by unfold f2w at h;exact tX)
def d9h (s_:List p8) (fc0c0_:l9):Option Bool :=
 (f2w s_ fc0c0_).bind fun y2=>some (decide (0≤y2))
instance g71 {s_:List p8} {fc0c0_:l9}:WI (d9h s_ fc0c0_) Tryz.prog 122 [.sl (s_.map p8.v),.fn (.func 123) [.ptr 1000 0]] [(1000,.cells [.fn (.func 119) [.ptr 1001 0]]),(1001,.cells [.bool fc0c0_.Fence,.sl (fc0c0_.Sets.map (V.int .i64)),.sl (fc0c0_.Replicas.map p8.v),.sl (fc0c0_.Snapshots.map (V.int .i64))])] (fun z=>.bool z) (fun z=>[(1000,.cells [.fn (.func 119) [.ptr 1001 0]]),(1001,.cells [.bool fc0c0_.Fence,.sl (fc0c0_.Sets.map (V.int .i64)),.sl (fc0c0_.Replicas.map p8.v),.sl (fc0c0_.Snapshots.map (V.int .i64))])]):=wX Tryz.func122 [(1,⟨[],[.c 2 0 [1000,1001] []],[]⟩)] [] [] [1000,1001] (h:=fun _ _ h hQ M=>by unfold d9h at h;exact tX)
def d9g (c_:l9):Option Int :=
 (d8k (c_.Replicas.length:Int) 1 5).bind fun y25=>bif (!y25) then grp (true) fun b26=>bif b26 then some 39 else (d9k c_.Sets).bind fun y29=>bif y29 then some 39 else (d9i c_.Snapshots c_).bind fun y30=>bif y30 then some 39 else (d9h c_.Replicas c_).bind fun y32=>bif y32 then some 39 else some 0 else (d8k (c_.Sets.length:Int) 1 121).bind fun y33=>grp (((!y33)||decide (120<(c_.Snapshots.length:Int)))) fun b34=>bif b34 then some 39 else (d9k c_.Sets).bind fun y37=>bif y37 then some 39 else (d9i c_.Snapshots c_).bind fun y38=>bif y38 then some 39 else (d9h c_.Replicas c_).bind fun y40=>bif y40 then some 39 else some 0
instance g70 {c_:l9}:WJ (d9g c_) 71 [l9.v c_] (.int .i64):=wX Tryz.func71 [(2,⟨[],[],[.v 13 17]⟩),(4,⟨[.gc [1,3,29,30,31,32]],[.c 7 0 [1] []],[]⟩),(6,⟨[.gc [1,3]],[.c 3 0 [3,1] []],[]⟩)] (h:=fun _ _ h hQ M=>by have:SwA [(1000,1)]:=⟨⟩;have:SwB [(1000,3),(1001,1)]:=⟨⟩;unfold d9g at h;exact tX)
def f7j (u_:a0r) (p_:a0r):Option Bool :=
 some (!((u_.Up==p_.Up)&&(decide (u_.Stored=p_.Stored)&&decide (u_.Used=p_.Used))))
instance g4z {u_ p_:a0r}:WI (f7j u_ p_) Tryz.prog 125 [a0r.v u_,.ptr 1000 0] [(1000,.cells [.bool p_.Up,.int .i64 p_.Stored,.int .i64 p_.Used])] (fun z=>.bool z) (fun z=>[(1000,.cells [.bool p_.Up,.int .i64 p_.Stored,.int .i64 p_.Used])]):=wX Tryz.func125 [] [] [] [1000] (h:=fun _ _ h hQ M=>by unfold f7j at h;exact tX)
def g3q (fc0_:a0r) (k31:Int) (a32:a0r) (x30:Unit):Option (Fl Unit Int) :=
 (f7j a32 fc0_).bind fun y40=>bif y40 then some (.ex k31) else some (.nx ())
def f2v (s_:List a0r) (fc0_:a0r):Option Int :=
 (a0x (g3q fc0_) s_ 0 ()).bind fun o=>o.elim (fun x41=>some (-1)) (fun r42=>some r42)
def g1z:List (Nat×RN):=[(4,⟨[],[.c 5 0 [1000] []],[]⟩)]
@[irreducible] def e2g:MC:=rdc (cK Tryz.prog Tryz.f181 g1z [] 2)
attribute [go_sem] g3q
instance:LI e2g 8 7 [0,1,7] [1000] (fun y:Unit=>[]) (fun y=>[]) []:=⟨⟩
instance g7k {s_:List a0r} {fc0_:a0r}:WI (f2v s_ fc0_) Tryz.prog 181 [.sl (s_.map a0r.v),.fn (.func 125) [.ptr 1000 0]] [(1000,.cells [.bool fc0_.Up,.int .i64 fc0_.Stored,.int .i64 fc0_.Used])] (fun z=>.int .i64 z) (fun z=>[(1000,.cells [.bool fc0_.Up,.int .i64 fc0_.Stored,.int .i64 fc0_.Used])]):=wX Tryz.func181 g1z [(2,e2g)] [] [1000] (h:=fun _ _ h hQ M=>by unfold f2v at h;exact tX)
def e8g (s_:List a0r) (fc0_:a0r):Option Bool :=
 (f2v s_ fc0_).bind fun y2=>some (decide (0≤y2))
instance g67 {s_:List a0r} {fc0_:a0r}:WI (e8g s_ fc0_) Tryz.prog 124 [.sl (s_.map a0r.v),.fn (.func 125) [.ptr 1000 0]] [(1000,.cells [.bool fc0_.Up,.int .i64 fc0_.Stored,.int .i64 fc0_.Used])] (fun z=>.bool z) (fun z=>[(1000,.cells [.bool fc0_.Up,.int .i64 fc0_.Stored,.int .i64 fc0_.Used])]):=wX Tryz.func124 [(1,⟨[],[.c 2 0 [1000] []],[]⟩)] [] [] [1000] (h:=fun _ _ h hQ M=>by unfold e8g at h;exact tX)
def e8f (f_:x8) (s_:l7):Option Bool :=
 (e03 f_ s_).bind fun y5=>grp ((y5&&decide (s_.Valid=2))) fun b6=>jn (α:=Bool) (bif b6 then (e8g s_.Units (a0r.mk true 2 2)).bind fun y8=>some (!y8) else some false) fun j9=>some j9
instance {m:List MOp}:GI (gjt 720209 m) [4] [] (fun y:Bool=>[(21,.bool y)]) (fun y=>[]):=⟨⟩
instance g66 {f_:x8} {s_:l7}:WJ (e8f f_ s_) 72 [x8.v f_,l7.v s_] .bool:=wX Tryz.func72 [(2,⟨[],[.c 12 0 [5] []],[.v 4 7,.w 9 14 720209]⟩)] (h:=fun _ _ h hQ M=>by have:SwA [(1000,5)]:=⟨⟩;unfold e8f at h;exact tX)
def f1b (bit_:Int):Option Bool :=
 grp ((decide (bit_=1)||decide (bit_=2))) fun b2=>some b2
instance g58 {bit_:Int}:WJ (f1b bit_) 126 [.int .i64 bit_] .bool:=wX Tryz.func126 [(1,⟨[],[],[.v 3 5]⟩)] (h:=fun _ _ h hQ M=>by unfold f1b at h;exact tX)
def d9f (c_:l9) (generation_:Int) (bit_:Int):Option Bool :=
 chk (inb generation_ c_.Sets.length) (some (!decide ((bits .and .i64 (c_.Sets.getD (generation_).toNat default) bit_)=0)))
instance g6z {c_:l9} {generation_ bit_:Int}:WJ (d9f c_ generation_ bit_) 127 [l9.v c_,.int .i64 generation_,.int .i64 bit_] .bool:=wX Tryz.func127 (h:=fun _ _ h hQ M=>by unfold d9f at h;exact tX)
def f0z (c_:l9) (r_:p8) (bit_:Int):Option Bool :=
 jn (α:=Bool) (bif r_.Serving then (d9f c_ r_.Generation bit_).bind fun y4=>some y4 else some false) fun j5=>some j5
instance {m:List MOp}:GI (gjt 1830103 m) [6] [] (fun y:Bool=>[(15,.bool y)]) (fun y=>[]):=⟨⟩
instance g57 {c_:l9} {r_:p8} {bit_:Int}:WJ (f0z c_ r_ bit_) 183 [l9.v c_,p8.v r_,.int .i64 bit_] .bool:=wX Tryz.func183 [(1,⟨[],[],[.w 3 8 1830103]⟩)] (h:=fun _ _ h hQ M=>by unfold f0z at h;exact tX)
def f0y (r_:p8) (p_:l9) (p__:Int):Option Bool :=
 (f0z p_ r_ p__).bind fun y2=>some y2
instance g56 {r_:p8} {p_:l9} {p__:Int}:WI (f0y r_ p_ p__) Tryz.prog 182 [p8.v r_,.ptr 1000 0,.ptr 1001 0] [(1000,.cells [.bool p_.Fence,.sl (p_.Sets.map (V.int .i64)),.sl (p_.Replicas.map p8.v),.sl (p_.Snapshots.map (V.int .i64))]),(1001,.cells [.int .i64 p__])] (fun z=>.bool z) (fun z=>[(1000,.cells [.bool p_.Fence,.sl (p_.Sets.map (V.int .i64)),.sl (p_.Replicas.map p8.v),.sl (p_.Snapshots.map (V.int .i64))]),(1001,.cells [.int .i64 p__])]):=wX Tryz.func182 [] [] [] [1000,1001] (h:=fun _ _ h hQ M=>by unfold f0y at h;exact tX)
def f8d (fc0_:l9) (fc1_:Int) (k31:Int) (a32:p8) (x30:Unit):Option (Fl Unit Int) :=
 (f0y a32 fc0_ fc1_).bind fun y40=>bif y40 then some (.ex k31) else some (.nx ())
def f2u (s_:List p8) (fc0_:l9) (fc1_:Int):Option Int :=
 (a0x (f8d fc0_ fc1_) s_ 0 ()).bind fun o=>o.elim (fun x41=>some (-1)) (fun r42=>some r42)
def g1y:List (Nat×RN):=[(4,⟨[],[.c 5 0 [1000,1001] []],[]⟩)]
@[irreducible] def e2x:MC:=rdc (cK Tryz.prog Tryz.f180 g1y [] 2)
attribute [go_sem] f8d
instance:LI e2x 8 7 [0,1,7] [1001,1000] (fun y:Unit=>[]) (fun y=>[]) []:=⟨⟩
instance g7j {s_:List p8} {fc0_:l9} {fc1_:Int}:WI (f2u s_ fc0_ fc1_) Tryz.prog 180 [.sl (s_.map p8.v),.fn (.func 182) [.ptr 1000 0,.ptr 1001 0]] [(1000,.cells [.bool fc0_.Fence,.sl (fc0_.Sets.map (V.int .i64)),.sl (fc0_.Replicas.map p8.v),.sl (fc0_.Snapshots.map (V.int .i64))]),(1001,.cells [.int .i64 fc1_])] (fun z=>.int .i64 z) (fun z=>[(1000,.cells [.bool fc0_.Fence,.sl (fc0_.Sets.map (V.int .i64)),.sl (fc0_.Replicas.map p8.v),.sl (fc0_.Snapshots.map (V.int .i64))]),(1001,.cells [.int .i64 fc1_])]):=wX Tryz.func180 g1y [(2,e2x)] [] [1000,1001] (h:=fun _ _ h hQ M=>by unfold f2u at h;exact tX)
def f0x (s_:List p8) (fc0_:l9) (fc1_:Int):Option Bool :=
 (f2u s_ fc0_ fc1_).bind fun y2=>some (decide (0≤y2))
instance g55 {s_:List p8} {fc0_:l9} {fc1_:Int}:WI (f0x s_ fc0_ fc1_) Tryz.prog 122 [.sl (s_.map p8.v),.fn (.func 182) [.ptr 1000 0,.ptr 1001 0]] [(1000,.cells [.bool fc0_.Fence,.sl (fc0_.Sets.map (V.int .i64)),.sl (fc0_.Replicas.map p8.v),.sl (fc0_.Snapshots.map (V.int .i64))]),(1001,.cells [.int .i64 fc1_])] (fun z=>.bool z) (fun z=>[(1000,.cells [.bool fc0_.Fence,.sl (fc0_.Sets.map (V.int .i64)),.sl (fc0_.Replicas.map p8.v),.sl (fc0_.Snapshots.map (V.int .i64))]),(1001,.cells [.int .i64 fc1_])]):=wX Tryz.func122 [(1,⟨[],[.c 2 0 [1000,1001] []],[]⟩)] [] [] [1000,1001] (h:=fun _ _ h hQ M=>by unfold f0x at h;exact tX)
def e8e (c_:l9) (bit_:Int):Option Bool :=
 (f0x c_.Replicas c_ bit_).bind fun y2=>some y2
instance g65 {c_:l9} {bit_:Int}:WJ (e8e c_ bit_) 128 [l9.v c_,.int .i64 bit_] .bool:=wX Tryz.func128 [(1,⟨[],[.c 3 0 [2,3] []],[]⟩)] (h:=fun _ _ h hQ M=>by have:SwA [(1000,2),(1001,3)]:=⟨⟩;unfold e8e at h;exact tX)
def e8d (c_:l9) (bit_:Int):Option Bool :=
 (d9g c_).bind fun y8=>jn (α:=Bool) (bif decide (y8=0) then (f1b bit_).bind fun y10=>some y10 else some false) fun j11=>jn (α:=Bool) (bif j11 then chk (a0l ((c_.Sets.length:Int) - 1)) ((d9f c_ ((c_.Sets.length:Int) - 1) bit_).bind fun y13=>some (!y13)) else some false) fun j14=>jn (α:=Bool) (bif j14 then (e8e c_ bit_).bind fun y16=>some (!y16) else some false) fun j17=>some j17
instance {m:List MOp}:GI (gjt 730118 m) [4] [] (fun y:Bool=>[(27,.bool y)]) (fun y=>[]):=⟨⟩
instance {m:List MOp}:GI (gjt 730108 m) [1,2,4] [2] (fun y:Bool=>[(21,.bool y)]) (fun y=>[]):=⟨⟩
instance {m:List MOp}:GI (gjt 730104 m) [1,2,4] [2] (fun y:Bool=>[(11,.bool y)]) (fun y=>[]):=⟨⟩
instance g64 {c_:l9} {bit_:Int}:WJ (e8d c_ bit_) 73 [l9.v c_,.int .i64 bit_] .bool:=wX Tryz.func73 [(1,⟨[],[],[.w 4 6 730104,.w 8 16 730108,.w 18 22 730118]⟩)] (h:=fun _ _ h hQ M=>by unfold e8d at h;exact tX)
end Go.Ab
set_option maxRecDepth 20000
set_option maxHeartbeats 2000000
namespace Go.Ab
open Go.Proofs
noncomputable def f0w (d_:d9) (a_:l5) (r_:o5) (x_:l6) (worths_:List Int) (f_:a2z) (content_:Int) (fl_:x8) (s_:l7) (c_:l9):Option (o6×Int) :=
 (f01 (o6.mk f_.Fingerprint (f_.Where.length:Int) false 0 0 (q9.mk 0 0 0 0) false false) d_ a_ content_).bind fun y4=>bif (!decide (y4.1=0)) then some ((o6.mk 0 0 false 0 0 (q9.mk 0 0 0 0) false false),y4.1) else (e9l y4.2 r_ x_ worths_).bind fun y8=>bif (!decide (y8.1=0)) then some ((o6.mk 0 0 false 0 0 (q9.mk 0 0 0 0) false false),y8.1) else (e03 fl_ s_).bind fun y12=>bif (!y12) then some ((o6.mk 0 0 false 0 0 (q9.mk 0 0 0 0) false false),36) else (d9g c_).bind fun y16=>bif (!decide (y16=0)) then some ((o6.mk 0 0 false 0 0 (q9.mk 0 0 0 0) false false),y16) else (e8f fl_ s_).bind fun y19=>(e8d c_ 1).bind fun y20=>some ((o6.mk y8.2.Fingerprint y8.2.Spots y8.2.Public y8.2.Readers y8.2.Since y8.2.Severity y19 y20),0)
instance g54 {d_:d9} {a_:l5} {r_:o5} {x_:l6} {worths_:List Int} {f_:a2z} {content_:Int} {fl_:x8} {s_:l7} {c_:l9}:WJ (f0w d_ a_ r_ x_ worths_ f_ content_ fl_ s_ c_) 38 [d9.v d_,l5.v a_,o5.v r_,l6.v x_,.sl (worths_.map (V.int .i64)),a2z.v f_,.int .i64 content_,x8.v fl_,l7.v s_,l9.v c_] fun z=>.tup [o6.v z.1,.int .i64 z.2]:=wX Tryz.func38 [(1,⟨[.gc [4,6,10,11,12,13,15,17,18,19,20]],[],[]⟩),(2,⟨[],[.c 3 0 [22] []],[]⟩),(4,⟨[.gc [20,23]],[],[]⟩),(5,⟨[.gc [4,12,13,17,18,19,20,22]],[.c 3 0 [22] []],[]⟩),(7,⟨[.gc [20,24]],[],[]⟩),(8,⟨[.gc [17,18,19,20,22]],[],[]⟩),(9,⟨[.gc [20]],[],[]⟩),(12,⟨[.gc [20,25]],[],[]⟩),(13,⟨[.gc [17,18,19,20,22]],[],[]⟩),(14,⟨[.gc [20,22]],[],[]⟩)] (h:=fun _ _ h hQ M=>by have:SwA [(1000,22)]:=⟨⟩;unfold f0w at h;exact tX)
noncomputable def d9e (z_:a2d):Option (o6×Int) :=
 (f0w z_.d_ z_.a_ z_.r_ z_.x_ z_.w_ z_.f_ z_.c_ z_.fleet_ z_.s_ z_.group_).bind fun y2=>some (y2.1,y2.2)
instance g6y {z_:a2d}:WJ (d9e z_) 14 [a2d.v z_] fun z=>.tup [o6.v z.1,.int .i64 z.2]:=wX Tryz.func14 (h:=fun _ _ h hQ M=>by unfold d9e at h;exact tX)
end Go.Ab

