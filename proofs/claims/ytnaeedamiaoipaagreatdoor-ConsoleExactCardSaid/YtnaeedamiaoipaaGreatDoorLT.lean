/- What the functions of this seat that lie on the laws' road compute (part LT), each for every input. By AI agents. -/
import Derived.Test.YtnaeedamiaoipaaGreatDoorProg
import Derived.KernelRfl
import Derived.Test.YtnaeedamiaoipaaGreatDoorAbMC
import Derived.Test.YtnaeedamiaoipaaGreatDoorSL
import Derived.Test.YtnaeedamiaoipaaGreatDoorXM
import Derived.Test.YtnaeedamiaoipaaGreatDoorAbUns
set_option linter.all false
set_option maxRecDepth 20000
set_option maxHeartbeats 2000000
namespace Go.Ab
open Go.Proofs
noncomputable section
structure d9 where
 Kind:Int
 Name:Str
 Other:Str
 Time:Int
 A:Int
 B:Int
instance:Inhabited d9:=⟨⟨default,default,default,default,default,default⟩⟩
def d9.v (x:d9):V:=.agg [.int .i64 x.Kind,.str x.Name,.str x.Other,.int .i64 x.Time,.int .i64 x.A,.int .i64 x.B]
structure a1r where
 jF:Option Nat
 n_:Option Nat
 qD:Int
instance:Inhabited a1r:=⟨⟨default,default,default⟩⟩
def a1r.v (x:a1r):V:=.agg [fnV x.jF,fnV x.n_,.int .i64 x.qD]
structure a3v where
 tF:Str
 qE:List a1r
instance:Inhabited a3v:=⟨⟨default,default⟩⟩
def a3v.v (x:a3v):V:=.agg [.str x.tF,.sl (x.qE.map a1r.v)]
structure a01 where
 Time:Int
 Kind:Int
 Principal:Int
 Group:Int
instance:Inhabited a01:=⟨⟨default,default,default,default⟩⟩
def a01.v (x:a01):V:=.agg [.int .i64 x.Time,.int .i64 x.Kind,.int .i64 x.Principal,.int .i64 x.Group]
structure l8 where
 Kinds:List Int
 Events:List a01
instance:Inhabited l8:=⟨⟨default,default⟩⟩
def l8.v (x:l8):V:=.agg [.sl (x.Kinds.map (V.int .i64)),.sl (x.Events.map a01.v)]
structure o6 where
 Time:Int
 Kind:Int
 Place:Int
 Principal:Int
 Until:Int
 Content:Int
 From:Int
instance:Inhabited o6:=⟨⟨default,default,default,default,default,default,default⟩⟩
def o6.v (x:o6):V:=.agg [.int .i64 x.Time,.int .i64 x.Kind,.int .i64 x.Place,.int .i64 x.Principal,.int .i64 x.Until,.int .i64 x.Content,.int .i64 x.From]
structure l9 where
 Places:Int
 Events:List o6
instance:Inhabited l9:=⟨⟨default,default⟩⟩
def l9.v (x:l9):V:=.agg [.int .i64 x.Places,.sl (x.Events.map o6.v)]
structure a14 where
 Public:Bool
 Principals:List Int
instance:Inhabited a14:=⟨⟨default,default⟩⟩
def a14.v (x:a14):V:=.agg [.bool x.Public,.sl (x.Principals.map (V.int .i64))]
structure a2i where
 L:List Int
 at_:Int
instance:Inhabited a2i:=⟨⟨default,default⟩⟩
def a2i.v (x:a2i):V:=.agg [.sl (x.L.map (V.int .i64)),.int .i64 x.at_]
structure d69 where
 e0:Str
 e1:Str
 e2:Str
 e3:Str
 e4:Str
 e5:Str
 e6:Str
 e7:Str
 e8:Str
 e9:Str
 e10:Str
 e11:Str
instance:Inhabited d69:=⟨⟨default,default,default,default,default,default,default,default,default,default,default,default⟩⟩
def d69.v (x:d69):V:=.agg [.str x.e0,.str x.e1,.str x.e2,.str x.e3,.str x.e4,.str x.e5,.str x.e6,.str x.e7,.str x.e8,.str x.e9,.str x.e10,.str x.e11]
structure c38 where
 e0:Str
 e1:Str
 e2:Str
 e3:Str
 e4:Str
 e5:Str
 e6:Str
 e7:Str
 e8:Str
 e9:Str
 e10:Str
instance:Inhabited c38:=⟨⟨default,default,default,default,default,default,default,default,default,default,default⟩⟩
def c38.v (x:c38):V:=.agg [.str x.e0,.str x.e1,.str x.e2,.str x.e3,.str x.e4,.str x.e5,.str x.e6,.str x.e7,.str x.e8,.str x.e9,.str x.e10]
structure d6a where
 e0:Int
 e1:Int
 e2:Int
instance:Inhabited d6a:=⟨⟨default,default,default⟩⟩
def d6a.v (x:d6a):V:=.agg [.int .i64 x.e0,.int .i64 x.e1,.int .i64 x.e2]
structure f6j where
 e0:Str
 e1:Str
 e2:Str
 e3:Str
instance:Inhabited f6j:=⟨⟨default,default,default,default⟩⟩
def f6j.v (x:f6j):V:=.agg [.str x.e0,.str x.e1,.str x.e2,.str x.e3]
theorem dlt {a:Int}:decide (a<a)=false:=by simp
abbrev WJ {α:Type} (F:Option α) (n:Nat) (args:List V) (RV:α→V):Prop:=WI F Tryz.prog n args [] RV fun _=>[]
attribute [go_sem] a10.b2s_set a10.b2s_setD e2x d34 d32 d31 d35 d33 a0r beq_self_eq_true Int.cast_ofNat_Int List.take_succ_cons List.take_zero xD wA wH b5m b7l wrap_u8 f9y e1l e1k d30 c8e d5g b5z f9z e7r e82 e81 e7z e7y e86 e85 g51 g50 g4y g4z f06 f05 f03 f04 g01 g00 ovS ovE ovU g2l d26 d59 c08 a0m a2j d2s f5j V.oids V.oidsL V.tr V.trL trE trH a0g.tr true_implies false_implies xM Bool.true_eq_false dlt mpV slV Int.natCast_zero List.map_set kvV d9w d0r V.sw V.swL swN swH f8q e79 d8m e77 d8k d8l a0g.sw e7a e78 f2f f2e List.set_set a10.b2s_e a10.b2s_eD c7h List.length_set List.length_replicate zP vG bounds a0x wG Option.map_none a5m a5y e3s e3r d7t d7u b2d a9m b8i
theorem e1n:inb 0 3=true:=p8.2 (by decide)
attribute [go_sem] e1n
theorem e1m:inb 0 4=true:=p8.2 (by decide)
attribute [go_sem] e1m
theorem d4f:inb 0 11=true:=p8.2 (by decide)
attribute [go_sem] d4f
theorem f0c {n:Nat}:(inb 0 n=true)=(((0:Nat):Int)<(n:Int)):=propext (by rw [p8];omega)
attribute [go_sem] f0c
theorem f0b {b:Int} {n:Nat}:(inc 0 b n=true)=(((0:Nat):Int)≤b∧b≤(n:Int)):=propext (by rw [a1u];omega)
attribute [go_sem] f0b
theorem f09 {b:Int} {n:Nat}:(inc 1 b n=true)=(((1:Nat):Int)≤b∧b≤(n:Int)):=propext (by rw [a1u];omega)
attribute [go_sem] f09
attribute [go_sem] d6a.v c38.v d69.v f6j.v o6.v a14.v d9.v l8.v l9.v a01.v a2i.v a1r.v a3v.v
set_option maxRecDepth 20000
set_option maxHeartbeats 2000000
def d85:Option a1r :=
 some (a1r.mk none (some 141) 1000000)
instance g78:WJ d85 105 [] fun z=>a1r.v z:=wX Tryz.func105 (h:=fun _ _ h hQ M=>by unfold d85 at h;exact tX)
def e4c:Option a1r :=
 some (a1r.mk (some 142) none 0)
instance g6r:WJ e4c 106 [] fun z=>a1r.v z:=wX Tryz.func106 (h:=fun _ _ h hQ M=>by unfold e4c at h;exact tX)
def g26:Option a1r :=
 some (a1r.mk (some 143) none 0)
instance g5r:WJ g26 107 [] fun z=>a1r.v z:=wX Tryz.func107 (h:=fun _ _ h hQ M=>by unfold g26 at h;exact tX)
def d84 (qD:Int):Option a1r :=
 some (a1r.mk none (some 144) qD)
instance g77 {qD:Int}:WJ (d84 qD) 108 [.int .i64 qD] fun z=>a1r.v z:=wX Tryz.func108 (h:=fun _ _ h hQ M=>by unfold d84 at h;exact tX)
def f4a (qD:Int):Option a1r :=
 some (a1r.mk none (some 145) qD)
instance g6d {qD:Int}:WJ (f4a qD) 109 [.int .i64 qD] fun z=>a1r.v z:=wX Tryz.func109 (h:=fun _ _ h hQ M=>by unfold f4a at h;exact tX)
def d83:Option (List a3v) :=
 d85.bind fun y4=>e4c.bind fun y5=>g26.bind fun y6=>d85.bind fun y10=>e4c.bind fun y11=>(d84 16).bind fun y12=>e4c.bind fun y28=>e4c.bind fun y29=>d85.bind fun y30=>(d84 16).bind fun y31=>(f4a 1000000).bind fun y32=>d85.bind fun y33=>(d84 64).bind fun y34=>(f4a 16).bind fun y35=>d85.bind fun y36=>(d84 16).bind fun y37=>(f4a 16).bind fun y38=>d85.bind fun y39=>(d84 16).bind fun y40=>(d84 64).bind fun y41=>e4c.bind fun y42=>some [(a3v.mk [112,101,114,115,111,110] [y28]),(a3v.mk [103,114,111,117,112] [y29]),(a3v.mk [106,111,105,110] [y4,y5,y6]),(a3v.mk [108,101,97,118,101] [y4,y5,y6]),(a3v.mk [97,108,108,111,119] [y10,y11,y12]),(a3v.mk [102,111,114,98,105,100] [y10,y11,y12]),(a3v.mk [111,112,101,110] [y30,y31,y32]),(a3v.mk [112,117,116] [y33,y34,y35]),(a3v.mk [99,111,112,121] [y36,y37,y38]),(a3v.mk [119,104,111] [y39,y40]),(a3v.mk [115,105,110,99,101] [y41,y42])]
instance g76:WJ d83 63 [] fun z=>.sl (z.map a3v.v):=wX Tryz.func63 [(3,⟨[.gc [1,2]],[.k 1 2,.k 4 2,.k 17 2,.k 22 2,.k 27 2,.k 31 2,.k 35 2],[.n 37 (.fz 18),.n 37 (.fz 22)]⟩)] [] [.fz 0] (h:=fun _ _ h hQ M=>by unfold d83 at h;exact tX)
def d6h (c_:d9):Option Unit :=
 some ()
instance g7o {c_:d9}:WI (d6h c_) Tryz.prog 143 [.ptr 1000 0] [(1000,.cells [.int .i64 c_.Kind,.str c_.Name,.str c_.Other,.int .i64 c_.Time,.int .i64 c_.A,.int .i64 c_.B])] (fun z=>.ptr 1000 2) (fun z=>[(1000,.cells [.int .i64 c_.Kind,.str c_.Name,.str c_.Other,.int .i64 c_.Time,.int .i64 c_.A,.int .i64 c_.B])]):=wX Tryz.func143 [] [] [] [1000] (h:=fun _ _ h hQ M=>by unfold d6h at h;exact tX)
def d6g (c_:d9):Option Unit :=
 some ()
instance g7n {c_:d9}:WI (d6g c_) Tryz.prog 142 [.ptr 1000 0] [(1000,.cells [.int .i64 c_.Kind,.str c_.Name,.str c_.Other,.int .i64 c_.Time,.int .i64 c_.A,.int .i64 c_.B])] (fun z=>.ptr 1000 1) (fun z=>[(1000,.cells [.int .i64 c_.Kind,.str c_.Name,.str c_.Other,.int .i64 c_.Time,.int .i64 c_.A,.int .i64 c_.B])]):=wX Tryz.func142 [] [] [] [1000] (h:=fun _ _ h hQ M=>by unfold d6g at h;exact tX)
def d6f (c_:d9):Option Unit :=
 some ()
instance g7m {c_:d9}:WI (d6f c_) Tryz.prog 145 [.ptr 1000 0] [(1000,.cells [.int .i64 c_.Kind,.str c_.Name,.str c_.Other,.int .i64 c_.Time,.int .i64 c_.A,.int .i64 c_.B])] (fun z=>.ptr 1000 5) (fun z=>[(1000,.cells [.int .i64 c_.Kind,.str c_.Name,.str c_.Other,.int .i64 c_.Time,.int .i64 c_.A,.int .i64 c_.B])]):=wX Tryz.func145 [] [] [] [1000] (h:=fun _ _ h hQ M=>by unfold d6f at h;exact tX)
def d6e (c_:d9):Option Unit :=
 some ()
instance g7l {c_:d9}:WI (d6e c_) Tryz.prog 144 [.ptr 1000 0] [(1000,.cells [.int .i64 c_.Kind,.str c_.Name,.str c_.Other,.int .i64 c_.Time,.int .i64 c_.A,.int .i64 c_.B])] (fun z=>.ptr 1000 4) (fun z=>[(1000,.cells [.int .i64 c_.Kind,.str c_.Name,.str c_.Other,.int .i64 c_.Time,.int .i64 c_.A,.int .i64 c_.B])]):=wX Tryz.func144 [] [] [] [1000] (h:=fun _ _ h hQ M=>by unfold d6e at h;exact tX)
def d6d (c_:d9):Option Unit :=
 some ()
instance g7k {c_:d9}:WI (d6d c_) Tryz.prog 141 [.ptr 1000 0] [(1000,.cells [.int .i64 c_.Kind,.str c_.Name,.str c_.Other,.int .i64 c_.Time,.int .i64 c_.A,.int .i64 c_.B])] (fun z=>.ptr 1000 3) (fun z=>[(1000,.cells [.int .i64 c_.Kind,.str c_.Name,.str c_.Other,.int .i64 c_.Time,.int .i64 c_.A,.int .i64 c_.B])]):=wX Tryz.func141 [] [] [] [1000] (h:=fun _ _ h hQ M=>by unfold d6d at h;exact tX)
def f4x (f_:a1r) (c_:d9):Option (Bool×d9) :=
 bif f_.jF.isSome then bif decide (f_.jF=some 142) then (d6g c_).bind fun y14=>(b98 c_.Name 12).bind fun y16=>some (y16,(d9.mk c_.Kind [] c_.Other c_.Time c_.A c_.B)) else bif decide (f_.jF=some 143) then (d6h c_).bind fun y11=>(b98 c_.Other 12).bind fun y13=>some (y13,(d9.mk c_.Kind c_.Name [] c_.Time c_.A c_.B)) else none else bif decide (f_.n_=some 141) then (d6d c_).bind fun y24=>jn (α:=Bool) (bif decide (0≤c_.Time) then some (decide (c_.Time<f_.qD)) else some false) fun j25=>some (j25,(d9.mk c_.Kind c_.Name c_.Other 0 c_.A c_.B)) else bif decide (f_.n_=some 144) then (d6e c_).bind fun y22=>jn (α:=Bool) (bif decide (0≤c_.A) then some (decide (c_.A<f_.qD)) else some false) fun j23=>some (j23,(d9.mk c_.Kind c_.Name c_.Other c_.Time 0 c_.B)) else bif decide (f_.n_=some 145) then (d6f c_).bind fun y20=>jn (α:=Bool) (bif decide (0≤c_.B) then some (decide (c_.B<f_.qD)) else some false) fun j21=>some (j21,(d9.mk c_.Kind c_.Name c_.Other c_.Time c_.A 0)) else none
def g3l:List (Nat×RN):=[(2,⟨[],[.c 3 0 [1000] []],[]⟩),(3,⟨[.gc [5]],[],[]⟩),(6,⟨[],[.c 3 0 [1000] []],[]⟩),(7,⟨[.gc [2,7,32,33,34,35,36,37]],[],[]⟩)]
@[irreducible] def d40:MC:=rdc (cK Tryz.prog Tryz.f64 g3l [] 10000008)
instance:LI d40 0 0 [7] [1000] (fun y:Bool=>[(8,.bool y)]) (fun y=>[]) []:=⟨⟩
instance:LI d40 0 0 [7] [1000] (fun y:Bool=>[(8,.bool y)]) (fun y=>[]) []:=⟨⟩
instance:LI d40 0 0 [7] [1000] (fun y:Bool=>[(8,.bool y)]) (fun y=>[]) []:=⟨⟩
instance g75 {f_:a1r} {c_:d9}:WI (f4x f_ c_) Tryz.prog 64 [a1r.v f_,.ptr 1000 0] [(1000,.cells [.int .i64 c_.Kind,.str c_.Name,.str c_.Other,.int .i64 c_.Time,.int .i64 c_.A,.int .i64 c_.B])] (fun z=>.bool z.1) (fun z=>[(1000,.cells [.int .i64 z.2.Kind,.str z.2.Name,.str z.2.Other,.int .i64 z.2.Time,.int .i64 z.2.A,.int .i64 z.2.B])]):=wX Tryz.func64 g3l [(10000008,d40)] [] [1000] (h:=fun _ _ h hQ M=>by unfold f4x at h;exact tX)
@[go_sem] def f7k (k52:Int) (a53:a1r) (x51:Bool×d9):Option (Bool×d9) :=
 (f4x a53 x51.2).bind fun y60=>grp ((y60.1&&x51.1)) fun b61=>some (b61,y60.2)
def e4t (c_:d9):Option Bool :=
 grp ((decide (c_.Kind<1)||decide (11<c_.Kind))) fun b4=>bif b4 then some false else d83.bind fun y33=>chk (a0j (c_.Kind - 1)) (chk (inb (c_.Kind - 1) y33.length) ((foldL f7k ((y33.getD ((c_.Kind - 1)).toNat default).qE) 0 (true,c_)).bind fun x62=>jn (α:=Bool) (bif x62.1 then some (decide (x62.2.Kind=x62.2.Kind)&&(decide (x62.2.Name=[])&&(decide (x62.2.Other=[])&&(decide (x62.2.Time=0)&&(decide (x62.2.A=0)&&decide (x62.2.B=0)))))) else some false) fun j64=>some j64))
def g43:List (Nat×RN):=[(1,⟨[],[],[.v 4 7]⟩),(7,⟨[],[.c 1 0 [1] []],[.v 3 4]⟩),(9,⟨[],[],[.w 2 7 200902]⟩)]
@[irreducible] def e97:MC:=rdc (cK Tryz.prog Tryz.f20 g43 [] 5)
instance:LI e97 22 21 [1,20,21] [] (fun y:Bool×d9=>[(3,.bool y.1)]) (fun y=>[.o 1 (.cells [.int .i64 y.2.Kind,.str y.2.Name,.str y.2.Other,.int .i64 y.2.Time,.int .i64 y.2.A,.int .i64 y.2.B])]) []:=⟨⟩
instance f6a {m:List MOp}:GI (gjt 200902 m) [] [] (fun y:Bool=>[(39,.bool y)]) (fun y=>[]):=⟨⟩
instance g87 {c_:d9}:WJ (e4t c_) 20 [d9.v c_] .bool:=wX Tryz.func20 g43 [(5,e97)] (h:=fun _ _ h hQ M=>by have:SwA [(1000,1)]:=⟨⟩;unfold e4t at h;exact tX)
def f6p (jE:Int):Option Bool :=
 grp ((decide (jE<1)||decide (3<jE))) fun b2=>some b2
instance g5u {jE:Int}:WJ (f6p jE) 87 [.int .i64 jE] .bool:=wX Tryz.func87 [(1,⟨[],[],[.v 3 5]⟩)] (h:=fun _ _ h hQ M=>by unfold f6p at h;exact tX)
@[go_sem] def g2g (k31:Int) (a32:Int) (x30:Unit):Option (Fl Unit Int) :=
 (f6p a32).bind fun y40=>bif y40 then some (.ex k31) else some (.nx ())
def g25 (s_:List Int):Option Int :=
 (forL g2g s_ 0 ()).bind fun o=>o.elim (fun x41=>some (-1)) (fun r42=>some r42)
@[irreducible] def e8n:MC:=rdc (cK Tryz.prog Tryz.f133 [] [] 2)
instance:LI e8n 8 7 [0,1,7] [] (fun y:Unit=>[]) (fun y=>[]) []:=⟨⟩
instance g5q {s_:List Int}:WJ (g25 s_) 133 [.sl (s_.map (V.int .i64)),.fn (.func 87) []] (.int .i64):=wX Tryz.func133 [] [(2,e8n)] (h:=fun _ _ h hQ M=>by unfold g25 at h;exact tX)
def f6o (s_:List Int):Option Bool :=
 (g25 s_).bind fun y2=>some (decide (0≤y2))
instance g5t {s_:List Int}:WJ (f6o s_) 88 [.sl (s_.map (V.int .i64)),.fn (.func 87) []] .bool:=wX Tryz.func88 (h:=fun _ _ h hQ M=>by unfold f6o at h;exact tX)
def e4a (d_:l8) (p_:Int):Option Bool :=
 grp ((decide (0≤p_)&&decide (p_<(d_.Kinds.length:Int)))) fun b2=>some b2
instance g6q {d_:l8} {p_:Int}:WJ (e4a d_ p_) 89 [l8.v d_,.int .i64 p_] .bool:=wX Tryz.func89 [(1,⟨[],[],[.v 3 8]⟩)] (h:=fun _ _ h hQ M=>by unfold e4a at h;exact tX)
def f3z (d_:l8) (p_:Int):Option Bool :=
 (e4a d_ p_).bind fun y3=>jn (α:=Bool) (bif y3 then chk (inb p_ d_.Kinds.length) (some (decide ((d_.Kinds.getD (p_).toNat default)=2))) else some false) fun j4=>some j4
instance f5t {m:List MOp}:GI (gjt 900104 m) [4] [] (fun y:Bool=>[(15,.bool y)]) (fun y=>[]):=⟨⟩
instance g6c {d_:l8} {p_:Int}:WJ (f3z d_ p_) 90 [l8.v d_,.int .i64 p_] .bool:=wX Tryz.func90 [(1,⟨[],[],[.w 4 10 900104]⟩)] (h:=fun _ _ h hQ M=>by unfold f3z at h;exact tX)
@[go_sem] def f7j (d_:l8) (k473:Int) (a474:a01) (x472:Int):Option (Fl Int Int) :=
 grp (((!decide (a474.Kind=1))&&(!decide (a474.Kind=2)))) fun b595=>grp ((b595||decide (a474.Time<x472))) fun b596=>grp ((b596||decide (1099511627776<a474.Time))) fun b597=>bif b597 then grp (true) fun b598=>bif b598 then some (.ex 30) else some (.nx a474.Time) else (e4a d_ a474.Principal).bind fun y599=>bif (!y599) then grp (true) fun b600=>bif b600 then some (.ex 30) else some (.nx a474.Time) else (f3z d_ a474.Group).bind fun y601=>grp (((!y601)||decide (a474.Principal=a474.Group))) fun b602=>bif b602 then some (.ex 30) else some (.nx a474.Time)
def d6l (d_:l8):Option Int :=
 grp ((decide (24<(d_.Kinds.length:Int))||decide (120<(d_.Events.length:Int)))) fun b7=>bif b7 then some 30 else (f6o d_.Kinds).bind fun y8=>bif y8 then some 30 else (forL (f7j d_) d_.Events 0 0).bind fun o=>o.elim (fun x603=>some 0) (fun r604=>some r604)
def g48:List (Nat×RN):=[(2,⟨[],[],[.v 5 9]⟩),(5,⟨[.gc [1,4,34,35,36,39,40,41,42,45,46,47,50,51,52,53,54,57,58,59,60,61,64,65,66,67,68]],[],[]⟩),(8,⟨[],[],[.v 4 7,.v 9 13,.v 15 18,.v 34 39]⟩),(10,⟨[.gc [1,6,24,25,26,34,35,36,39,40,41,42,45,46,47,50,51,52,53,54,57,58,59,60,61,64,65,66,67,68]],[],[]⟩)]
@[irreducible] def e96:MC:=rdc (cK Tryz.prog Tryz.f49 g48 [] 6)
instance:LI e96 26 25 [1,24,25] [1] (fun y:Int=>[(4,.int .i64 y)]) (fun y=>[]) []:=⟨⟩
instance g8g {d_:l8}:WJ (d6l d_) 49 [l8.v d_] (.int .i64):=wX Tryz.func49 g48 [(6,e96)] (h:=fun _ _ h hQ M=>by unfold d6l at h;exact tX)
def d82 (n_:Int) (gD:Int) (qC:Int):Option Bool :=
 grp ((decide (gD≤n_)&&decide (n_≤qC))) fun b2=>some b2
instance g74 {n_ gD qC:Int}:WJ (d82 n_ gD qC) 91 [.int .i64 n_,.int .i64 gD,.int .i64 qC] .bool:=wX Tryz.func91 [(1,⟨[],[],[.v 4 7]⟩)] (h:=fun _ _ h hQ M=>by unfold d82 at h;exact tX)
def d1y (jA:Int):Option Bool :=
 (d82 jA 0 63).bind fun y2=>some y2
instance g8b {jA:Int}:WJ (d1y jA) 125 [.int .i64 jA] .bool:=wX Tryz.func125 (h:=fun _ _ h hQ M=>by unfold d1y at h;exact tX)
def d2d (a_:l9) (qA:Int):Option Bool :=
 chk (a0j (a_.Places - 1)) ((d82 qA 0 (a_.Places - 1)).bind fun y2=>some y2)
instance g86 {a_:l9} {qA:Int}:WJ (d2d a_ qA) 122 [l9.v a_,.int .i64 qA] .bool:=wX Tryz.func122 (h:=fun _ _ h hQ M=>by unfold d2d at h;exact tX)
def f5d (a_:l9) (x_:o6):Option Bool :=
 jn (α:=Bool×o6) (jn (α:=Bool) (bif decide (x_.Kind=1) then some true else some (decide (x_.Kind=2))) fun j7=>bif j7 then (d82 x_.Principal 0 23).bind fun y8=>some (y8,(o6.mk x_.Time x_.Kind x_.Place x_.Principal 0 0 0)) else bif decide (x_.Kind=3) then bif decide (x_.Time<x_.Until) then some (decide (x_.Until≤1099511627776),(o6.mk x_.Time x_.Kind x_.Place 0 x_.Until 0 0)) else some (false,(o6.mk x_.Time x_.Kind x_.Place 0 x_.Until 0 0)) else bif decide (x_.Kind=4) then some (true,(o6.mk x_.Time x_.Kind x_.Place 0 0 0 0)) else jn (α:=Bool) (bif decide (x_.Kind=5) then some true else some (decide (x_.Kind=6))) fun j9=>bif j9 then (d1y x_.Content).bind fun y10=>some (y10,(o6.mk x_.Time x_.Kind x_.Place 0 0 x_.Content 0)) else bif decide (x_.Kind=7) then (d2d a_ x_.From).bind fun y11=>bif y11 then some ((!decide (x_.From=x_.Place)),(o6.mk x_.Time x_.Kind x_.Place 0 0 0 x_.From)) else some (false,(o6.mk x_.Time x_.Kind x_.Place 0 0 0 x_.From)) else some (false,(o6.mk x_.Time x_.Kind x_.Place 0 0 0 0))) fun j6=>jn (α:=Bool) (bif j6.1 then (d2d a_ x_.Place).bind fun y16=>some y16 else some false) fun j17=>grp ((j17&&(decide (x_.Time=j6.2.Time)&&(decide (x_.Kind=j6.2.Kind)&&(decide (x_.Place=j6.2.Place)&&(decide (x_.Principal=j6.2.Principal)&&(decide (x_.Until=j6.2.Until)&&(decide (x_.Content=j6.2.Content)&&decide (x_.From=j6.2.From))))))))) fun b18=>some b18
def f6e:List (Nat×RN):=[(16,⟨[],[],[.w 2 6 921602,.v 8 11]⟩)]
@[irreducible] def d3z:MC:=rdc (cK Tryz.prog Tryz.f92 f6e [] 10000013)
@[irreducible] def e0s:MC:=rdc (cK Tryz.prog Tryz.f92 f6e [(10000013,d3z)] 10000006)
@[irreducible] def e8d:MC:=rdc (cK Tryz.prog Tryz.f92 f6e [(10000013,d3z),(10000006,e0s)] 10000016)
instance:LI d3z 0 0 [2,3,5,6,15] [5,3,2] (fun y:Bool=>[(42,.bool y)]) (fun y=>[]) []:=⟨⟩
instance:LI e0s 0 0 [2,3,5,6,15] [5,3,2] (fun y:Bool=>[(16,.bool y)]) (fun y=>[]) []:=⟨⟩
instance f5s {m:List MOp}:GI (gjt 921602 m) [3,5] [5,3] (fun y:Bool=>[(73,.bool y)]) (fun y=>[]):=⟨⟩
instance:LI e8d 0 0 [2,3,5] [3,2] (fun y:Bool×o6=>[(6,.bool y.1)]) (fun y=>[.o 5 (.cells [.int .i64 y.2.Time,.int .i64 y.2.Kind,.int .i64 y.2.Place,.int .i64 y.2.Principal,.int .i64 y.2.Until,.int .i64 y.2.Content,.int .i64 y.2.From])]) []:=⟨⟩
instance g85 {a_:l9} {x_:o6}:WJ (f5d a_ x_) 92 [l9.v a_,o6.v x_] .bool:=wX Tryz.func92 f6e [(10000013,d3z),(10000006,e0s),(10000016,e8d)] (h:=fun _ _ h hQ M=>by unfold f5d at h;exact tX)
@[go_sem] def f7i (a_:l9) (k137:Int) (a138:o6) (x136:Int):Option (Fl Int Int) :=
 grp ((decide (a138.Time<x136)||decide (1099511627776<a138.Time))) fun b169=>bif b169 then some (.ex 34) else (f5d a_ a138).bind fun y170=>bif (!y170) then some (.ex 34) else some (.nx a138.Time)
def F_j (a_:l9):Option Int := (d82 a_.Places 1 16).bind fun y7=>grp (((!y7)||decide (120<(a_.Events.length:Int)))) fun b8=>bif b8 then some 34 else (forL (f7i a_) a_.Events 0 0).bind fun o=>o.elim (fun x171=>some 0) (fun r172=>some r172)
def a_j:List (Nat×RN):=[(1,⟨[],[],[.v 5 9]⟩),(4,⟨[.gc [1,3,28,29,30,33,34,35,36]],[],[]⟩),(7,⟨[],[],[.v 5 8]⟩),(9,⟨[.gc [1,5,17,18,19,28,29,30,33,34,35,36]],[],[]⟩)]
@[irreducible] def e95:MC:=rdc (cK Tryz.prog Tryz.f50 a_j [] 5)
instance:LI e95 19 18 [1,17,18] [1] (fun y:Int=>[(3,.int .i64 y)]) (fun y=>[]) []:=⟨⟩
instance g9f {a_:l9}:WJ (F_j a_) 50 [l9.v a_] (.int .i64):=wX Tryz.func50 a_j [(5,e95)] (h:=fun _ _ h hQ M=>by unfold F_j at h;exact tX)
@[go_sem] def f7h (v_:Int) (k11:Int) (a12:Int) (x10:Unit):Option (Fl Unit Int) :=
 bif decide (v_=a12) then some (.ex k11) else some (.nx ())
def g1z (s_:List Int) (v_:Int):Option Int :=
 (forL (f7h v_) s_ 0 ()).bind fun o=>o.elim (fun x13=>some (-1)) (fun r14=>some r14)
@[irreducible] def e94:MC:=rdc (cK Tryz.prog Tryz.f220 [] [] 2)
instance:LI e94 8 7 [0,1,7] [] (fun y:Unit=>[]) (fun y=>[]) []:=⟨⟩
instance g5p {s_:List Int} {v_:Int}:WJ (g1z s_ v_) 220 [.sl (s_.map (V.int .i64)),.int .i64 v_] (.int .i64):=wX Tryz.func220 [] [(2,e94)] (h:=fun _ _ h hQ M=>by unfold g1z at h;exact tX)
def f3y (s_:List Int) (v_:Int):Option Bool :=
 (g1z s_ v_).bind fun y2=>some (decide (0≤y2))
instance g6b {s_:List Int} {v_:Int}:WJ (f3y s_ v_) 192 [.sl (s_.map (V.int .i64)),.int .i64 v_] .bool:=wX Tryz.func192 (h:=fun _ _ h hQ M=>by unfold f3y at h;exact tX)
def f3x (c_:d9):Option Bool :=
 (e4t c_).bind fun y2=>some (!y2)
instance g6a {c_:d9}:WJ (f3x c_) 82 [d9.v c_] .bool:=wX Tryz.func82 (h:=fun _ _ h hQ M=>by unfold f3x at h;exact tX)
@[go_sem] def e6f (k31:Int) (a32:d9) (x30:Unit):Option (Fl Unit Int) :=
 (f3x a32).bind fun y40=>bif y40 then some (.ex k31) else some (.nx ())
def f3w (s_:List d9):Option Int :=
 (forL e6f s_ 0 ()).bind fun o=>o.elim (fun x41=>some (-1)) (fun r42=>some r42)
@[irreducible] def e9n:MC:=rdc (cK Tryz.prog Tryz.f85 [] [] 2)
instance:LI e9n 8 7 [0,1,7] [] (fun y:Unit=>[]) (fun y=>[]) []:=⟨⟩
instance g69 {s_:List d9}:WJ (f3w s_) 85 [.sl (s_.map d9.v),.fn (.func 82) []] (.int .i64):=wX Tryz.func85 [] [(2,e9n)] (h:=fun _ _ h hQ M=>by unfold f3w at h;exact tX)
def f3v (s_:List d9):Option Bool :=
 (f3w s_).bind fun y2=>some (decide (0≤y2))
instance g68 {s_:List d9}:WJ (f3v s_) 43 [.sl (s_.map d9.v),.fn (.func 82) []] .bool:=wX Tryz.func43 (h:=fun _ _ h hQ M=>by unfold f3v at h;exact tX)
def d6c (l_:List d9):Option Int :=
 bif decide (60<(l_.length:Int)) then some 3 else (f3v l_).bind fun y4=>bif y4 then some 45 else some 0
instance g7j {l_:List d9}:WJ (d6c l_) 36 [.sl (l_.map d9.v)] (.int .i64):=wX Tryz.func36 (h:=fun _ _ h hQ M=>by unfold d6c at h;exact tX)
def F_f (e_:Int):Option (l8×l9×(List Str)×Int) := some ((l8.mk [] []),(l9.mk 0 []),[],e_)
instance g9j {e_:Int}:WJ (F_f e_) 35 [.int .i64 e_] fun z=>.tup [l8.v z.1,l9.v z.2.1,.sl (z.2.2.1.map V.str),.int .i64 z.2.2.2]:=wX Tryz.func35 [] [] [.fzc 2,.fzc 3,.fz 4] (h:=fun _ _ h hQ M=>by unfold F_f at h;exact tX)
@[go_sem] def e6e (k16:Int) (a17:d9) (x15:(List Str)×(List Int)):Option ((List Str)×(List Int)) :=
 bif decide (a17.Kind=1) then chk (room (x15.2.length+[1].length) 8) (chk (room (x15.1.length+[a17.Name].length) 16) (some ((x15.1++[a17.Name]),(x15.2++[1])))) else bif decide (a17.Kind=2) then chk (room (x15.2.length+[2].length) 8) (chk (room (x15.1.length+[a17.Name].length) 16) (some ((x15.1++[a17.Name]),(x15.2++[2])))) else some (x15.1,x15.2)
def e6n (l_:List d9):Option ((List Int)×(List Str)) :=
 (foldL e6e l_ 0 ([],[])).bind fun x18=>some (x18.2,x18.1)
def g3r:List (Nat×RN):=[(0,⟨[],[.k 0 1,.k 1 1],[]⟩),(8,⟨[.gc [2,3,5,6,7,8]],[],[]⟩)]
@[irreducible] def e9m:MC:=rdc (cK Tryz.prog Tryz.f37 g3r [] 2)
instance:LI e9m 8 7 [6,7] [] (fun y:(List Str)×(List Int)=>[(2,.osl 2002 1 0 y.2.length),(3,.osl 2003 1 0 y.1.length)]) (fun y=>[.o 2003 (.arr 1 (y.1.map V.str)),.o 2002 (.arr 1 (y.2.map (V.int .i64)))]) [.gc [2,3,6,7,8],.acc 2 2002 1,.acc 3 2003 1]:=⟨⟩
instance g7i {l_:List d9}:WJ (e6n l_) 37 [.sl (l_.map d9.v)] fun z=>.tup [.sl (z.1.map (V.int .i64)),.sl (z.2.map V.str)]:=wX Tryz.func37 g3r [(2,e9m)] [.fz 2,.fz 3] (h:=fun _ _ h hQ M=>by unfold e6n at h;exact tX)
def f6m (k12:Int) (a11:Str) (x10:List Str):Option (Fl (List Str) Empty) :=
 chk (room (x10.length+[a11].length) 16) (some (.nx (x10++[a11])))
def f7q (kC:List Str):Option (List Str) :=
 (forL f6m kC 0 []).bind fun o=>o.elim (fun x13=>some x13) (fun r14=>none)
def g42:List (Nat×RN):=[(0,⟨[],[.k 1 1],[]⟩),(30000003,⟨[.ownC 2 0 4032 1 none],[],[]⟩)]
@[irreducible] def e0r:MC:=rdc (cK Tryz.prog Tryz.f111 g42 [] 3)
def e9v:MC:=rdc (cT Tryz.prog Tryz.f111 g42 [(3,e0r)])
instance g84 {kC:List Str}:WI (f7q kC) Tryz.prog 111 [.nils,.fn (.func 84) [.eptr (.agg [.sl (kC.map V.str)]) 0]] [] (fun z=>.osl 1900 1 0 z.length) (fun z=>[(1900,.arr 1 (z.map V.str))]):=⟨fun Q Q' h hQ=>by
 refine a2g e9v [.acc 4 1900 1] [1900] [.t 4] Tryz.func111 fun M=>?_
 unfold f7q at h
 unfold e9v
 replace h:=tY h
 refine tB ?_
 repeat' (first
 | (exact tZ)
 | ((first|refine b3a h ?_|refine a3y h ?_|refine b3m h ?_|refine b3l h ?_|refine b3t h ?_|refine appG h ?_|refine b3v h ?_|refine fork h ?_ ?_|refine a4a h ?_ ?_)<;>clear h<;>intro hc h)
 | (refine M.rfor (b:=e0r) (enc:=fun a=>[.str a]) [2] [] (fun x=>[.o 2 (.cells [.osl 4032 1 0 x.length]),.o 4032 (.arr 1 (x.map V.str))]) [.gc [0,1,2,4,6],.ownC 2 0 4032 1 none] h rfl (c6t _) rfl (fun a=>⟨rfl,rfl⟩) ?_ ?_ rfl ?_<;>first
 | (clear h;intro k a x Qn K hK1 hkN1 h hf;clear hf;unfold f6m at h;unfold e0r;replace h:=tY h;refine tB ?_)
  |(clear h;intro x h;replace h:=tY h;refine tB ?_)
  |(clear h;(try refine tB ?_);exact tU0;done))
 | (refine hK1 _ ?_;(try refine tB ?_);refine ⟨_,h,?_⟩;exact tU0;done)
 | (refine tE ?_;(first|rw [M.lok_compU]|rw [M.lokD_compU]);refine tB ?_)
 | (refine tA ?_)
 | fail)⟩
def f6q (kC:List Str):Option (List Str) :=
 (f7q kC).bind fun y2=>some y2
instance g1h {kC:List Str}:WI (f6q kC) Tryz.prog 73 [.fn (.func 84) [.eptr (.agg [.sl (kC.map V.str)]) 0]] [] (fun z=>.osl 1900 1 0 z.length) (fun z=>[(1900,.arr 1 (z.map V.str))]):=wX Tryz.func73 [(0,⟨[],[.k 0 1],[]⟩),(1,⟨[],[.c 1 1 [] [4]],[]⟩)] [] [.acc 2 1900 1] [1900] (h:=fun _ _ h hQ M=>by have:SwA [(1900,4)]:=⟨⟩;unfold f6q at h;exact tX)
def e6u (kC:List Str):Option (List Str) :=
 (f6q kC).bind fun y2=>(c1f y2).bind fun y4=>some y4
def e9u:MC:=rdc (cT Tryz.prog Tryz.f38 [(0,⟨[],[.k 0 1],[]⟩),(1,⟨[],[.c 1 0 [] [5]],[]⟩),(2,⟨[],[.c 1 0 [5] []],[]⟩)] [])
instance g1p {kC:List Str}:WI (e6u kC) Tryz.prog 38 [.fn (.func 84) [.eptr (.agg [.sl (kC.map V.str)]) 0]] [] (fun z=>.osl 1900 1 0 z.length) (fun z=>[(1900,.arr 1 (z.map V.str))]):=⟨fun Q Q' h hQ=>by
 refine a2g e9u [.acc 2 1900 1] [1900] [.t 2] Tryz.func38 fun M=>?_
 unfold e6u at h
 unfold e9u
 replace h:=tY h
 refine tB ?_
 repeat' (first
 | (exact tZ)
 | (refine And.intro (by refine ⟨?_,?_,?_,?_⟩<;>omega) ?_;first|exact hQ _ h|(rw [zP (by omega)];exact hQ _ h))
 | (rw [←hlen];exact hQ _ h)
 | (have hq:=hQ _ h;simp only [x4,Nat.min_eq_left hlen.1] at hq;exact hq)
 | ((first|refine b3a h ?_|refine a3y h ?_|refine b3m h ?_|refine b3l h ?_|refine b3t h ?_|refine appG h ?_|refine b3v h ?_|refine fork h ?_ ?_|refine a4a h ?_ ?_)<;>clear h<;>intro hc h)
 | (obtain ⟨y,hy,h⟩:=h;(first|have hw:=o9 1900 5 (g1h.c.w hy)|(have hw:=o9 1000 5 (g8u hy);replace hw:=tY hw;(try simp only [hlen] at hw);have hlen:=c7u hy));replace hw:=tY hw;(first|refine M.sC hw ?_|refine M.sD hw ?_);clear hw hy;refine tB ?_)
 | (refine tE ?_;(first|rw [M.lok_compU]|rw [M.lokD_compU]);refine tB ?_)
 | (refine tA ?_)
 | fail)⟩
@[go_sem] def f7g (v_:Str) (k11:Int) (a12:Str) (x10:Unit):Option (Fl Unit Int) :=
 bif decide (v_=a12) then some (.ex k11) else some (.nx ())
def d2c (s_:List Str) (v_:Str):Option Int :=
 (forL (f7g v_) s_ 0 ()).bind fun o=>o.elim (fun x13=>some (-1)) (fun r14=>some r14)
@[irreducible] def e93:MC:=rdc (cK Tryz.prog Tryz.f32 [] [] 2)
instance:LI e93 8 7 [0,1,7] [] (fun y:Unit=>[]) (fun y=>[]) []:=⟨⟩
instance g83 {s_:List Str} {v_:Str}:WJ (d2c s_ v_) 32 [.sl (s_.map V.str),.str v_] (.int .i64):=wX Tryz.func32 [] [(2,e93)] (h:=fun _ _ h hQ M=>by unfold d2c at h;exact tX)
def f3u (s_:List Str) (v_:Str):Option Bool :=
 (d2c s_ v_).bind fun y2=>some (decide (0≤y2))
instance g67 {s_:List Str} {v_:Str}:WJ (f3u s_ v_) 41 [.sl (s_.map V.str),.str v_] .bool:=wX Tryz.func41 (h:=fun _ _ h hQ M=>by unfold f3u at h;exact tX)
def e69 (s_:Str) (p_:List Str):Option Bool :=
 jn (α:=Bool) (bif (!decide (s_=[])) then (f3u p_ s_).bind fun y4=>some (!y4) else some false) fun j5=>some j5
instance f5z {m:List MOp}:GI (gjt 400103 m) [3] [1000] (fun y:Bool=>[(11,.bool y)]) (fun y=>[]):=⟨⟩
instance g6k {s_:Str} {p_:List Str}:WI (e69 s_ p_) Tryz.prog 40 [.str s_,.ptr 1000 0] [(1000,.cells [.sl (p_.map V.str)])] (fun z=>.bool z) (fun z=>[(1000,.cells [.sl (p_.map V.str)])]):=wX Tryz.func40 [(1,⟨[],[],[.w 3 7 400103]⟩)] [] [] [1000] (h:=fun _ _ h hQ M=>by unfold e69 at h;exact tX)
def f3t (c_:d9) (jG:List Str):Option Bool :=
 (e69 c_.Name jG).bind fun y4=>jn (α:=Bool) (bif y4 then some true else (e69 c_.Other jG).bind fun y6=>some y6) fun j7=>some j7
instance f5y {m:List MOp}:GI (gjt 440105 m) [3] [1000,1001] (fun y:Bool=>[(13,.bool y)]) (fun y=>[]):=⟨⟩
instance g66 {c_:d9} {jG:List Str}:WI (f3t c_ jG) Tryz.prog 44 [d9.v c_,.ptr 1000 0] [(1000,.cells [.fn (.func 40) [.ptr 1001 0]]),(1001,.cells [.sl (jG.map V.str)])] (fun z=>.bool z) (fun z=>[(1000,.cells [.fn (.func 40) [.ptr 1001 0]]),(1001,.cells [.sl (jG.map V.str)])]):=wX Tryz.func44 [(1,⟨[],[.c 3 0 [1001] [],.c 8 0 [1001] []],[.w 5 9 440105]⟩)] [] [] [1000,1001] (h:=fun _ _ h hQ M=>by have:SwA [(1000,1001)]:=⟨⟩;unfold f3t at h;exact tX)
@[go_sem] def f7f (jD:List Str) (k31:Int) (a32:d9) (x30:Unit):Option (Fl Unit Int) :=
 (f3t a32 jD).bind fun y40=>bif y40 then some (.ex k31) else some (.nx ())
def f7l (s_:List d9) (jD:List Str):Option Int :=
 (forL (f7f jD) s_ 0 ()).bind fun o=>o.elim (fun x41=>some (-1)) (fun r42=>some r42)
def g3c:List (Nat×RN):=[(4,⟨[],[.c 5 0 [1000,1001] []],[]⟩)]
@[irreducible] def e92:MC:=rdc (cK Tryz.prog Tryz.f85 g3c [] 2)
instance:LI e92 8 7 [0,1,7] [1000,1001] (fun y:Unit=>[]) (fun y=>[]) []:=⟨⟩
instance g6p {s_:List d9} {jD:List Str}:WI (f7l s_ jD) Tryz.prog 85 [.sl (s_.map d9.v),.fn (.func 44) [.ptr 1000 0]] [(1000,.cells [.fn (.func 40) [.ptr 1001 0]]),(1001,.cells [.sl (jD.map V.str)])] (fun z=>.int .i64 z) (fun z=>[(1000,.cells [.fn (.func 40) [.ptr 1001 0]]),(1001,.cells [.sl (jD.map V.str)])]):=wX Tryz.func85 g3c [(2,e92)] [] [1000,1001] (h:=fun _ _ h hQ M=>by unfold f7l at h;exact tX)
def e6a (s_:List d9) (jD:List Str):Option Bool :=
 (f7l s_ jD).bind fun y2=>some (decide (0≤y2))
instance g1j {s_:List d9} {jD:List Str}:WI (e6a s_ jD) Tryz.prog 43 [.sl (s_.map d9.v),.fn (.func 44) [.ptr 1000 0]] [(1000,.cells [.fn (.func 40) [.ptr 1001 0]]),(1001,.cells [.sl (jD.map V.str)])] (fun z=>.bool z) (fun z=>[(1000,.cells [.fn (.func 40) [.ptr 1001 0]]),(1001,.cells [.sl (jD.map V.str)])]):=wX Tryz.func43 [(1,⟨[],[.c 2 0 [1000,1001] []],[]⟩)] [] [] [1000,1001] (h:=fun _ _ h hQ M=>by unfold e6a at h;exact tX)
def e4d (s_:List d9):Option (List d9) :=
 amb s_.isEmpty (some []) (chk (room (([]:List d9).length+s_.length) 64) (some (([]:List d9)++s_)))
instance g1l {s_:List d9}:WI (e4d s_) Tryz.prog 45 [.sl (s_.map d9.v)] [] (fun z=>.osl 1900 6 0 z.length) (fun z=>[(1900,.arr 6 (z.map d9.v))]):=wX Tryz.func45 [(0,⟨[],[.k 0 1],[]⟩),(2,⟨[],[.k 0 1],[]⟩)] [] [.acc 2 1900 6] [1900] (h:=fun _ _ h hQ M=>by unfold e4d at h;exact tX)
def d1z (x_:d9) (y_:d9):Option Int :=
 chk (a0j (x_.Time - y_.Time)) (some (x_.Time - y_.Time))
instance g1s {x_ y_:d9}:WJ (d1z x_ y_) 47 [d9.v x_,d9.v y_] (.int .i64):=wX Tryz.func47 (h:=fun _ _ h hQ M=>by unfold d1z at h;exact tX)
@[go_sem] def d89 (a_:Int) (x126:Int×(List d9)):Option (Fl (Int×(List d9)) (List d9)) :=
 bif decide (a_<x126.1) then chk (inb x126.1 x126.2.length) (chk (a0j (x126.1 - 1)) (chk (inb (x126.1 - 1) x126.2.length) ((d1z (x126.2.getD ((x126.1).toNat) default) (x126.2.getD (((x126.1 - 1)).toNat) default)).bind fun y134=>bif decide (y134<0) then chk (a0j (x126.1 - 1)) (chk (a0j (x126.1 - 1)) (chk (inb (x126.1 - 1) x126.2.length) (chk (inb x126.1 x126.2.length) (chk (inb x126.1 x126.2.length) (chk (inb (x126.1 - 1) (x126.2.set ((x126.1).toNat) (x126.2.getD (((x126.1 - 1)).toNat) default)).length) (chk (a0j (x126.1 - 1)) (some (.nx ((x126.1 - 1),(x126.2.set ((x126.1).toNat) (x126.2.getD (((x126.1 - 1)).toNat) default)).set (((x126.1 - 1)).toNat) (x126.2.getD ((x126.1).toNat) default)))))))))) else some (.ex x126.2)))) else some (.ex x126.2)
@[go_sem] def d86 (a_:Int) (b_:Int) (x67:Int×(List d9)):Option (Fl (Int×(List d9)) (List d9)) :=
 bif decide (x67.1<b_) then (loop (d89 a_) (x67.1,x67.2)).bind fun r135=>chk (a0j (x67.1+1)) (some (.nx ((x67.1+1),r135))) else some (.ex x67.2)
def F_k (jB:List d9) (a_:Int) (b_:Int):Option (List d9) := chk (a0j (a_+1)) ((loop (d86 a_ b_) ((a_+1),jB)).bind fun r136=>some r136)
def a_k:List (Nat×RN):=[(5,⟨[.gc [0,1,2,3,8,9,22,23,24,25,26,27,28,29,30,31,32,33]],[],[]⟩)]
@[irreducible] def e1c:MC:=rdc (cK Tryz.prog Tryz.f131 a_k [] 4)
@[irreducible] def e9t:MC:=rdc (cK Tryz.prog Tryz.f131 a_k [(4,e1c)] 1)
instance:LI e1c 0 0 [1,2,3,8] [] (fun y:Int×(List d9)=>[(0,.osl 1000 6 0 y.2.length),(9,.int .i64 y.1)]) (fun y=>[.o 1000 (.arr 6 (y.2.map d9.v))]) []:=⟨⟩
instance:LI e9t 0 0 [1,2,3] [] (fun y:Int×(List d9)=>[(0,.osl 1000 6 0 y.2.length),(8,.int .i64 y.1)]) (fun y=>[.o 1000 (.arr 6 (y.2.map d9.v))]) []:=⟨⟩
instance g9e {jB:List d9} {a_ b_:Int}:WI (F_k jB a_ b_) Tryz.prog 131 [.osl 1000 6 0 jB.length,.int .i64 a_,.int .i64 b_,.fn (.func 47) []] [(1000,.arr 6 (jB.map d9.v))] (fun z=>.tup []) (fun z=>[(1000,.arr 6 (z.map d9.v))]):=wX Tryz.func131 a_k [(4,e1c),(1,e9t)] [] [1000] (h:=fun _ _ h hQ M=>by unfold F_k at h;exact tX)
theorem g4i {a_:Int} {s:Int×(List d9)} {o:Fl (Int×(List d9)) (List d9)} (h:d89 a_ s=some o):o.elim (fun s'=>s'.2.length=s.2.length) (fun q=>q.length=s.2.length):=by
 refine (?_:Al _ _) o h
 clear h
 unfold d89
 repeat' (first|(with_reducible first|exact Al.none|apply Al.chk|apply Al.ite|apply Al.grp)|((with_reducible refine Al.some ?_);simp_all [Fl.elim];done)|((with_reducible first|refine Al.jn fun w h1=>?_|refine Al.bind fun w h1=>?_);(first|skip)))
theorem g95 {a_:Int} {b_:Int} {s:Int×(List d9)} {o:Fl (Int×(List d9)) (List d9)} (h:d86 a_ b_ s=some o):o.elim (fun s'=>s'.2.length=s.2.length) (fun q=>q.length=s.2.length):=by
 refine (?_:Al _ _) o h
 clear h
 unfold d86
 repeat' (first|(with_reducible first|exact Al.none|apply Al.chk|apply Al.ite|apply Al.grp)|((with_reducible refine Al.some ?_);simp_all [Fl.elim];done)|((with_reducible first|refine Al.jn fun w h1=>?_|refine Al.bind fun w h1=>?_);(first|(have e1:=a2m (m:=fun s:Int×(List d9)=>s.2.length) (r:=fun q:(List d9)=>q.length) (fun _ _=>g4i) h1)|skip)))
theorem f3h {jB:List d9} {a_:Int} {b_:Int} {y:List d9} (h:(F_k jB a_ b_)=some y):y.length=jB.length:=by
 refine (?_:Al _ (fun y=>y.length=jB.length)) y h
 clear h
 unfold F_k
 repeat' (first|(with_reducible first|exact Al.none|apply Al.chk|apply Al.ite|apply Al.grp)|((with_reducible refine Al.some ?_);simp_all [Fl.elim];done)|((with_reducible first|refine Al.jn fun w h1=>?_|refine Al.bind fun w h1=>?_);(first|(have e1:=a2m (m:=fun s:Int×(List d9)=>s.2.length) (r:=fun q:(List d9)=>q.length) (fun _ _=>g4i) h1)|(have e1:=a2m (m:=fun s:Int×(List d9)=>s.2.length) (r:=fun q:(List d9)=>q.length) (fun _ _=>g95) h1)|skip)))
@[go_sem] def e4h (a_:Int) (b_:Int) (n_:Int) (x3:Int×(List d9)):Option (Fl (Int×(List d9)) (List d9)) :=
 bif decide (x3.1<n_) then chk (a0j (a_+x3.1)) (chk (a0j (b_+x3.1)) (chk (a0j (b_+x3.1)) (chk (inb (b_+x3.1) x3.2.length) (chk (a0j (a_+x3.1)) (chk (inb (a_+x3.1) x3.2.length) (chk (inb (a_+x3.1) x3.2.length) (chk (inb (b_+x3.1) (x3.2.set (((a_+x3.1)).toNat) (x3.2.getD (((b_+x3.1)).toNat) default)).length) (chk (a0j (x3.1+1)) (some (.nx ((x3.1+1),(x3.2.set (((a_+x3.1)).toNat) (x3.2.getD (((b_+x3.1)).toNat) default)).set (((b_+x3.1)).toNat) (x3.2.getD (((a_+x3.1)).toNat) default)))))))))))) else some (.ex x3.2)
def F_l (jB:List d9) (a_:Int) (b_:Int) (n_:Int):Option (List d9) := (loop (e4h a_ b_ n_) (0,jB)).bind fun r4=>some r4
def a_l:List (Nat×RN):=[(2,⟨[.gc [0,1,2,3,10]],[],[]⟩)]
@[irreducible] def e9r:MC:=rdc (cK Tryz.prog Tryz.f206 a_l [] 1)
instance:LI e9r 0 0 [1,2,3] [] (fun y:Int×(List d9)=>[(0,.osl 1000 6 0 y.2.length),(10,.int .i64 y.1)]) (fun y=>[.o 1000 (.arr 6 (y.2.map d9.v))]) []:=⟨⟩
instance g9d {jB:List d9} {a_ b_ n_:Int}:WI (F_l jB a_ b_ n_) Tryz.prog 206 [.osl 1000 6 0 jB.length,.int .i64 a_,.int .i64 b_,.int .i64 n_,.fn (.func 47) []] [(1000,.arr 6 (jB.map d9.v))] (fun z=>.tup []) (fun z=>[(1000,.arr 6 (z.map d9.v))]):=wX Tryz.func206 a_l [(1,e9r)] [] [1000] (h:=fun _ _ h hQ M=>by unfold F_l at h;exact tX)
theorem g94 {a_:Int} {b_:Int} {n_:Int} {s:Int×(List d9)} {o:Fl (Int×(List d9)) (List d9)} (h:e4h a_ b_ n_ s=some o):o.elim (fun s'=>s'.2.length=s.2.length) (fun q=>q.length=s.2.length):=by
 refine (?_:Al _ _) o h
 clear h
 unfold e4h
 repeat' (first|(with_reducible first|exact Al.none|apply Al.chk|apply Al.ite|apply Al.grp)|((with_reducible refine Al.some ?_);simp_all [Fl.elim];done)|((with_reducible first|refine Al.jn fun w h1=>?_|refine Al.bind fun w h1=>?_);(first|skip)))
theorem g1y {jB:List d9} {a_:Int} {b_:Int} {n_:Int} {y:List d9} (h:(F_l jB a_ b_ n_)=some y):y.length=jB.length:=by
 refine (?_:Al _ (fun y=>y.length=jB.length)) y h
 clear h
 unfold F_l
 repeat' (first|(with_reducible first|exact Al.none|apply Al.chk|apply Al.ite|apply Al.grp)|((with_reducible refine Al.some ?_);simp_all [Fl.elim];done)|((with_reducible first|refine Al.jn fun w h1=>?_|refine Al.bind fun w h1=>?_);(first|(have e1:=a2m (m:=fun s:Int×(List d9)=>s.2.length) (r:=fun q:(List d9)=>q.length) (fun _ _=>g94) h1)|skip)))
def e4s (m_:Int) (x27:Int×Int×(List d9)):Option (Fl (Int×Int×(List d9)) (Int×(List d9))) :=
 bif (!decide (x27.1=x27.2.1)) then bif decide (x27.2.1<x27.1) then chk (a0j (m_ - x27.1)) ((F_l x27.2.2 (m_ - x27.1) m_ x27.2.1).bind fun y33=>chk (a0j (x27.1 - x27.2.1)) (some (.nx ((x27.1 - x27.2.1),x27.2.1,y33)))) else chk (a0j (m_ - x27.1)) (chk (a0j (m_+x27.2.1)) (chk (a0j ((m_+x27.2.1) - x27.1)) ((F_l x27.2.2 (m_ - x27.1) ((m_+x27.2.1) - x27.1) x27.1).bind fun y35=>chk (a0j (x27.2.1 - x27.1)) (some (.nx (x27.1,(x27.2.1 - x27.1),y35)))))) else some (.ex (x27.1,x27.2.2))
def F_a (jB:List d9) (a_:Int) (m_:Int) (b_:Int):Option (List d9) := chk (a0j (m_ - a_)) (chk (a0j (b_ - m_)) ((loop (e4s m_) ((m_ - a_),(b_ - m_),jB)).bind fun r36=>chk (a0j (m_ - r36.1)) ((F_l r36.2 (m_ - r36.1) m_ r36.1).bind fun y37=>some y37)))
def a_a:List (Nat×RN):=[(4,⟨[],[.c 7 0 [1000] []],[]⟩),(5,⟨[.gc [0,2,4,10,11]],[],[]⟩),(6,⟨[],[.c 11 0 [1000] []],[]⟩),(7,⟨[.gc [0,2,4,10,11]],[],[]⟩),(8,⟨[],[.c 7 0 [1000] []],[]⟩)]
@[irreducible] def e1b:MC:=rdc (cK Tryz.prog Tryz.f174 a_a [] 2)
def g2z:MC:=rdc (cT Tryz.prog Tryz.f174 a_a [(2,e1b)])
instance g5n {jB:List d9} {a_ m_ b_:Int}:WI (F_a jB a_ m_ b_) Tryz.prog 174 [.osl 1000 6 0 jB.length,.int .i64 a_,.int .i64 m_,.int .i64 b_,.fn (.func 47) []] [(1000,.arr 6 (jB.map d9.v))] (fun z=>.tup []) (fun z=>[(1000,.arr 6 (z.map d9.v))]):=⟨fun Q Q' h hQ=>by
 refine a2g g2z [] [1000] [] Tryz.func174 fun M=>?_
 unfold F_a at h
 unfold g2z
 replace h:=tY h
 refine tB ?_
 repeat' (first
 | (exact tZ)
 | (rw [zP (by omega)];exact hQ _ h)
 | ((first|refine b3a h ?_|refine a3y h ?_|refine b3m h ?_|refine b3l h ?_|refine b3t h ?_|refine appG h ?_|refine b3v h ?_|refine fork h ?_ ?_|refine a4a h ?_ ?_)<;>clear h<;>intro hc h)
 | (obtain ⟨y,hy,h⟩:=h;(have hw:=WI.w hy;replace hw:=tY hw;have hlen:=g1y hy);replace hw:=tY hw;(first|refine M.sC hw ?_|refine M.sD hw ?_);clear hw hy;refine tB ?_)
 | (refine M.wh1 (b:=e1b) [2,4] [] (fun x=>[(0,.osl 1000 6 0 x.2.2.length),(10,.int .i64 x.1),(11,.int .i64 x.2.1)]) (fun x=>[.o 1000 (.arr 6 (x.2.2.map d9.v))]) [] h ?_ ?_<;>first
 | (clear h;intro x Qn K hK1 h;unfold e4s at h;unfold e1b;replace h:=tY h;refine tB ?_)
  |(clear h;(try refine tB ?_);exact tU;done))
 | (refine hK1 _ ?_;(try refine tB ?_);refine ⟨_,h,?_⟩;exact tU;done)
 | (refine tE ?_;(first|rw [M.lok_compU]|rw [M.lokD_compU]);refine tB ?_)
 | (refine tA ?_)
 | fail)⟩
theorem g93 {m_:Int} {s:Int×Int×(List d9)} {o:Fl (Int×Int×(List d9)) (Int×(List d9))} (h:e4s m_ s=some o):o.elim (fun s'=>s'.2.2.length=s.2.2.length) (fun q=>q.2.length=s.2.2.length):=by
 refine (?_:Al _ _) o h
 clear h
 unfold e4s
 repeat' (first|(with_reducible first|exact Al.none|apply Al.chk|apply Al.ite|apply Al.grp)|((with_reducible refine Al.some ?_);simp_all [Fl.elim];done)|((with_reducible first|refine Al.jn fun w h1=>?_|refine Al.bind fun w h1=>?_);(first|(have e1:=g1y h1)|skip)))
theorem g4h {jB:List d9} {a_:Int} {m_:Int} {b_:Int} {y:List d9} (h:(F_a jB a_ m_ b_)=some y):y.length=jB.length:=by
 refine (?_:Al _ (fun y=>y.length=jB.length)) y h
 clear h
 unfold F_a
 repeat' (first|(with_reducible first|exact Al.none|apply Al.chk|apply Al.ite|apply Al.grp)|((with_reducible refine Al.some ?_);simp_all [Fl.elim];done)|((with_reducible first|refine Al.jn fun w h1=>?_|refine Al.bind fun w h1=>?_);(first|(have e1:=a2m (m:=fun s:Int×Int×(List d9)=>s.2.2.length) (r:=fun q:(Int×(List d9))=>q.2.length) (fun _ _=>g93) h1)|(have e1:=g1y h1)|skip)))
def b8j:Nat→(List d9)→Int→Int→Int→Option (List d9)
 | 0,_,_,_,_=>none
 | n+1,jB,a_,m_,b_ =>
 chk (a0j (m_ - a_)) (bif decide ((m_ - a_)=1) then (loop (fun (x45:Int×Int)=>(bif decide (x45.1<x45.2) then chk (a0j (x45.1+x45.2)) (chk (inb (IntKind.wrap .i64 ((IntKind.wrap .u64 (x45.1+x45.2)) / 2^1)) jB.length) (chk (inb a_ jB.length) ((d1z (jB.getD (((IntKind.wrap .i64 ((IntKind.wrap .u64 (x45.1+x45.2)) / 2^1))).toNat) default) (jB.getD ((a_).toNat) default)).bind fun y49=>bif decide (y49<0) then chk (a0j ((IntKind.wrap .i64 ((IntKind.wrap .u64 (x45.1+x45.2)) / 2^1))+1)) (some (.nx (((IntKind.wrap .i64 ((IntKind.wrap .u64 (x45.1+x45.2)) / 2^1))+1),x45.2))) else some (.nx (x45.1,(IntKind.wrap .i64 ((IntKind.wrap .u64 (x45.1+x45.2)) / 2^1))))))) else some (.ex x45.1):Option (Fl (Int×Int) Int))) (m_,b_)).bind fun r50=>(loop (fun (x57:Int×(List d9))=>(chk (a0j (r50 - 1)) (bif decide (x57.1<(r50 - 1)) then chk (a0j (x57.1+1)) (chk (a0j (x57.1+1)) (chk (inb (x57.1+1) x57.2.length) (chk (inb x57.1 x57.2.length) (chk (inb x57.1 x57.2.length) (chk (inb (x57.1+1) (x57.2.set ((x57.1).toNat) (x57.2.getD (((x57.1+1)).toNat) default)).length) (chk (a0j (x57.1+1)) (some (.nx ((x57.1+1),(x57.2.set ((x57.1).toNat) (x57.2.getD (((x57.1+1)).toNat) default)).set (((x57.1+1)).toNat) (x57.2.getD ((x57.1).toNat) default)))))))))) else some (.ex x57.2)):Option (Fl (Int×(List d9)) (List d9)))) (a_,jB)).bind fun r58=>some r58 else chk (a0j (b_ - m_)) (bif decide ((b_ - m_)=1) then (loop (fun (x103:Int×Int)=>(bif decide (x103.1<x103.2) then chk (a0j (x103.1+x103.2)) (chk (inb m_ jB.length) (chk (inb (IntKind.wrap .i64 ((IntKind.wrap .u64 (x103.1+x103.2)) / 2^1)) jB.length) ((d1z (jB.getD ((m_).toNat) default) (jB.getD (((IntKind.wrap .i64 ((IntKind.wrap .u64 (x103.1+x103.2)) / 2^1))).toNat) default)).bind fun y107=>bif (!(decide (y107<0))) then chk (a0j ((IntKind.wrap .i64 ((IntKind.wrap .u64 (x103.1+x103.2)) / 2^1))+1)) (some (.nx (((IntKind.wrap .i64 ((IntKind.wrap .u64 (x103.1+x103.2)) / 2^1))+1),x103.2))) else some (.nx (x103.1,(IntKind.wrap .i64 ((IntKind.wrap .u64 (x103.1+x103.2)) / 2^1))))))) else some (.ex x103.1):Option (Fl (Int×Int) Int))) (a_,m_)).bind fun r108=>(loop (fun (x115:Int×(List d9))=>(bif decide (r108<x115.1) then chk (a0j (x115.1 - 1)) (chk (a0j (x115.1 - 1)) (chk (inb (x115.1 - 1) x115.2.length) (chk (inb x115.1 x115.2.length) (chk (inb x115.1 x115.2.length) (chk (inb (x115.1 - 1) (x115.2.set ((x115.1).toNat) (x115.2.getD (((x115.1 - 1)).toNat) default)).length) (chk (a0j (x115.1 - 1)) (some (.nx ((x115.1 - 1),(x115.2.set ((x115.1).toNat) (x115.2.getD (((x115.1 - 1)).toNat) default)).set (((x115.1 - 1)).toNat) (x115.2.getD ((x115.1).toNat) default)))))))))) else some (.ex x115.2):Option (Fl (Int×(List d9)) (List d9)))) (m_,jB)).bind fun r116=>some r116 else chk (a0j (a_+b_)) (chk (a0j ((IntKind.wrap .i64 ((IntKind.wrap .u64 (a_+b_)) / 2^1))+m_)) (jn (α:=Int×Int) (bif decide ((IntKind.wrap .i64 ((IntKind.wrap .u64 (a_+b_)) / 2^1))<m_) then chk (a0j (((IntKind.wrap .i64 ((IntKind.wrap .u64 (a_+b_)) / 2^1))+m_) - b_)) (some ((((IntKind.wrap .i64 ((IntKind.wrap .u64 (a_+b_)) / 2^1))+m_) - b_),(IntKind.wrap .i64 ((IntKind.wrap .u64 (a_+b_)) / 2^1)))) else some (a_,m_)) fun j117=>chk (a0j (((IntKind.wrap .i64 ((IntKind.wrap .u64 (a_+b_)) / 2^1))+m_) - 1)) ((loop (fun (x134:Int×Int)=>(bif decide (x134.1<x134.2) then chk (a0j (x134.1+x134.2)) (chk (a0j ((((IntKind.wrap .i64 ((IntKind.wrap .u64 (a_+b_)) / 2^1))+m_) - 1) - (IntKind.wrap .i64 ((IntKind.wrap .u64 (x134.1+x134.2)) / 2^1)))) (chk (inb ((((IntKind.wrap .i64 ((IntKind.wrap .u64 (a_+b_)) / 2^1))+m_) - 1) - (IntKind.wrap .i64 ((IntKind.wrap .u64 (x134.1+x134.2)) / 2^1))) jB.length) (chk (inb (IntKind.wrap .i64 ((IntKind.wrap .u64 (x134.1+x134.2)) / 2^1)) jB.length) ((d1z (jB.getD ((((((IntKind.wrap .i64 ((IntKind.wrap .u64 (a_+b_)) / 2^1))+m_) - 1) - (IntKind.wrap .i64 ((IntKind.wrap .u64 (x134.1+x134.2)) / 2^1)))).toNat) default) (jB.getD (((IntKind.wrap .i64 ((IntKind.wrap .u64 (x134.1+x134.2)) / 2^1))).toNat) default)).bind fun y138=>bif (!(decide (y138<0))) then chk (a0j ((IntKind.wrap .i64 ((IntKind.wrap .u64 (x134.1+x134.2)) / 2^1))+1)) (some (.nx (((IntKind.wrap .i64 ((IntKind.wrap .u64 (x134.1+x134.2)) / 2^1))+1),x134.2))) else some (.nx (x134.1,(IntKind.wrap .i64 ((IntKind.wrap .u64 (x134.1+x134.2)) / 2^1)))))))) else some (.ex x134.1):Option (Fl (Int×Int) Int))) (j117.1,j117.2)).bind fun r139=>chk (a0j (((IntKind.wrap .i64 ((IntKind.wrap .u64 (a_+b_)) / 2^1))+m_) - r139)) (jn (α:=List d9) (grp ((decide (r139<m_)&&decide (m_<(((IntKind.wrap .i64 ((IntKind.wrap .u64 (a_+b_)) / 2^1))+m_) - r139)))) fun b145=>bif b145 then (F_a jB r139 m_ (((IntKind.wrap .i64 ((IntKind.wrap .u64 (a_+b_)) / 2^1))+m_) - r139)).bind fun y146=>some y146 else some jB) fun j143=>jn (α:=List d9) (grp ((decide (a_<r139)&&decide (r139<(IntKind.wrap .i64 ((IntKind.wrap .u64 (a_+b_)) / 2^1))))) fun b152=>bif b152 then (b8j n j143 a_ r139 (IntKind.wrap .i64 ((IntKind.wrap .u64 (a_+b_)) / 2^1))).bind fun y153=>some y153 else some j143) fun j150=>grp ((decide ((IntKind.wrap .i64 ((IntKind.wrap .u64 (a_+b_)) / 2^1))<(((IntKind.wrap .i64 ((IntKind.wrap .u64 (a_+b_)) / 2^1))+m_) - r139))&&decide ((((IntKind.wrap .i64 ((IntKind.wrap .u64 (a_+b_)) / 2^1))+m_) - r139)<b_))) fun b155=>bif b155 then (b8j n j150 (IntKind.wrap .i64 ((IntKind.wrap .u64 (a_+b_)) / 2^1)) (((IntKind.wrap .i64 ((IntKind.wrap .u64 (a_+b_)) / 2^1))+m_) - r139) b_).bind fun y156=>some y156 else some j150))))))
def F_0 (jB:List d9) (a_:Int) (m_:Int) (b_:Int):Option (List d9):=lim fun n=>b8j n jB a_ m_ b_
theorem d8a {α β:Type} {Q:α→Prop} {P:β→Prop} {o:Option β} {f:β→Option α} (h0:Al o P) (h:∀y,P y→Al (f y) Q):Al (Go.Ab.jn o f) Q:=Al.jn fun y e=>h y (h0 y e)
theorem e5a:∀(n:Nat) (jB:List d9) (a_:Int) (m_:Int) (b_:Int) (y:List d9) (h:b8j n jB a_ m_ b_=some y),y.length=jB.length
 | 0,_,_,_,_,_,h=>by cases h
 | n+1,jB,a_,m_,b_,y,h=>by
  have ih:=e5a n
  refine (?_:Al _ (fun y=>y.length=jB.length)) y h
  clear h
  rw [b8j]
  repeat' (first|(with_reducible first|exact Al.none|apply Al.chk|apply Al.ite|apply Al.grp)|(with_reducible refine d8a (β:=List d9) (P:=fun w=>w.length=jB.length) ?_ fun w e1=>?_)|((with_reducible refine Al.some ?_);simp_all [Fl.elim];done)|((with_reducible first|refine Al.jn fun w h1=>?_|refine Al.bind fun w h1=>?_);(first|(have e1:=(by refine a2m (m:=fun s:Int×(List d9)=>s.2.length) (r:=fun q:(List d9)=>q.length) (fun s o h=>?_) h1;refine (?_:Al _ (fun o=>o.elim (fun s'=>s'.2.length=s.2.length) (fun q=>q.length=s.2.length))) o h;clear h;(try dsimp only);repeat' (first|(with_reducible first|exact Al.none|apply Al.chk|apply Al.ite|apply Al.grp)|((with_reducible refine Al.some ?_);simp_all [Fl.elim];done)|(with_reducible first|refine Al.jn fun w h1=>?_|refine Al.bind fun w h1=>?_)):w.length=_))|(have e1:=g4h h1)|(have e1:=ih _ _ _ _ _ h1)|skip))|(refine fun y h1=>?_;have e1:=ih _ _ _ _ _ h1;simp_all;done))
theorem f4w {jB:List d9} {a_:Int} {m_:Int} {b_:Int} {y:List d9} (h:F_0 jB a_ m_ b_=some y):y.length=jB.length:=by
 obtain ⟨n,hn⟩:=c9q h
 exact e5a n _ _ _ _ _ hn
@[irreducible] def e0f:List MOp:=rdc (cG Tryz.prog Tryz.f132 [(40,⟨[],[.c 5 0 [1000] []],[]⟩),(42,⟨[],[.c 5 0 [1000] []],[]⟩),(44,⟨[],[.c 5 0 [1000] []],[]⟩)] 39 4 7)
@[irreducible] def e0e:List MOp:=rdc (cG Tryz.prog Tryz.f132 [(40,⟨[],[.c 5 0 [1000] []],[]⟩),(42,⟨[],[.c 5 0 [1000] []],[]⟩),(44,⟨[],[.c 5 0 [1000] []],[]⟩)] 41 4 7)
@[irreducible] def e0d:List MOp:=rdc (cG Tryz.prog Tryz.f132 [(40,⟨[],[.c 5 0 [1000] []],[]⟩),(42,⟨[],[.c 5 0 [1000] []],[]⟩),(44,⟨[],[.c 5 0 [1000] []],[]⟩)] 43 4 7)
def a_0:List (Nat×RN):=[(5,⟨[.gc [0,1,4,10,11,12]],[],[]⟩),(6,⟨[.gc [0,1,4,11,12]],[],[]⟩),(10,⟨[.gc [0,10,13]],[],[]⟩),(17,⟨[.gc [0,2,4,14,15,16]],[],[]⟩),(18,⟨[.gc [0,2,4,15,16]],[],[]⟩),(22,⟨[.gc [0,14,17]],[],[]⟩),(24,⟨[.gc [0,1,2,3,4,182,183,184,196,197,198,210,211,212]],[],[]⟩),(27,⟨[.gc [0,1,2,3,4,18,19,182,183,184,196,197,198,210,211,212]],[],[]⟩),(35,⟨[.gc [0,1,2,3,4,18,19,20,21,22,23,182,183,184,196,197,198,210,211,212]],[],[]⟩),(36,⟨[.gc [0,1,2,3,4,18,19,21,22,23,182,183,184,196,197,198,210,211,212]],[],[]⟩),(39,⟨[],[],[.u 4 7 e0f]⟩),(40,⟨[.gc [0,1,2,3,4,18,20,24,196,197,198,210,211,212]],[.c 5 0 [1000] []],[]⟩),(41,⟨[],[],[.u 4 7 e0e]⟩),(42,⟨[],[.c 5 0 [1000] []],[]⟩),(43,⟨[],[],[.u 4 7 e0d]⟩),(44,⟨[],[.c 5 0 [1000] []],[]⟩)]
@[irreducible] def b5o:MC:=rdc (cK Tryz.prog Tryz.f132 a_0 [] 3)
@[irreducible] def b7q:MC:=rdc (cK Tryz.prog Tryz.f132 a_0 [(3,b5o)] 9)
@[irreducible] def b9d:MC:=rdc (cK Tryz.prog Tryz.f132 a_0 [(3,b5o),(9,b7q)] 15)
@[irreducible] def c1y:MC:=rdc (cK Tryz.prog Tryz.f132 a_0 [(3,b5o),(9,b7q),(15,b9d)] 21)
@[irreducible] def c60:MC:=rdc (cK Tryz.prog Tryz.f132 a_0 [(3,b5o),(9,b7q),(15,b9d),(21,c1y)] 33)
@[irreducible] def c9f:MC:=rdc (cK Tryz.prog Tryz.f132 a_0 [(3,b5o),(9,b7q),(15,b9d),(21,c1y),(33,c60)] 10000043)
@[irreducible] def d3y:MC:=rdc (cK Tryz.prog Tryz.f132 a_0 [(3,b5o),(9,b7q),(15,b9d),(21,c1y),(33,c60),(10000043,c9f)] 10000041)
@[irreducible] def e0q:MC:=rdc (cK Tryz.prog Tryz.f132 a_0 [(3,b5o),(9,b7q),(15,b9d),(21,c1y),(33,c60),(10000043,c9f),(10000041,d3y)] 10000032)
def g34:MC:=rdc (cT Tryz.prog Tryz.f132 a_0 [(3,b5o),(9,b7q),(15,b9d),(21,c1y),(33,c60),(10000043,c9f),(10000041,d3y),(10000032,e0q)])
theorem g8k {n:Nat} (ih_slices_symMergeCmpFunc_api_Command_of_console_Make_4:∀{jB:List d9} {a_:Int} {m_:Int} {b_:Int} {y:List d9},b8j n jB a_ m_ b_=some y→a0o Tryz.prog 132 [.osl 1000 6 0 jB.length,.int .i64 a_,.int .i64 m_,.int .i64 b_,.fn (.func 47) []] [(1000,.arr 6 (jB.map d9.v))] (fun r H=>r=.tup []∧H=[(1000,.arr 6 (y.map d9.v))])) (jB:List d9) (a_:Int) (m_:Int) (b_:Int) {Q:List d9→Prop} {Q':V→Heap→Prop} (h:Ok (b8j (n+1) jB a_ m_ b_) Q) (hQ:∀z,Q z→Q' (.tup []) [(1000,.arr 6 (z.map d9.v))]):a0o Tryz.prog 132 [.osl 1000 6 0 jB.length,.int .i64 a_,.int .i64 m_,.int .i64 b_,.fn (.func 47) []] [(1000,.arr 6 (jB.map d9.v))] Q':=by
 refine a2g g34 [] [1000] [] Tryz.func132 fun M=>?_
 simp only [b8j] at h
 unfold g34
 replace h:=tY h
 refine tB ?_
 repeat' (first
 | (exact tZ)
 | (rw [zP (by omega)];exact hQ _ h)
 | ((first|refine b3a h ?_|refine a3y h ?_|refine fork h ?_ ?_|refine a4a h ?_ ?_)<;>clear h<;>intro hc h)
 | (obtain ⟨y,hy,h⟩:=h;(first|with_reducible first|have hw:=g1s.c.w hy|(have hw:=g5n.c.w hy;replace hw:=tY hw;have hlen:=g4h hy)|(have hw:=ih_slices_symMergeCmpFunc_api_Command_of_console_Make_4 hy;replace hw:=tY hw;have hlen:=e5a _ _ _ _ _ _ hy));replace hw:=tY hw;(first|refine M.sC hw ?_|refine M.sD hw ?_);clear hw hy;refine tB ?_)
 | (refine M.wh1 (b:=b5o) [0,1,4] [1000] (fun x=>[(10,.int .i64 x.1),(11,.int .i64 x.2)]) (fun x=>[]) [] h ?_ ?_<;>first
 | (clear h;intro x Qn K hK1 h;unfold b5o;replace h:=tY h;refine tB ?_)
  |(clear h;(try refine tB ?_);exact tU;done))
 | (refine M.wh1 (b:=b7q) [10] [] (fun x=>[(0,.osl 1000 6 0 x.2.length),(13,.int .i64 x.1)]) (fun x=>[.o 1000 (.arr 6 (x.2.map d9.v))]) [] h ?_ ?_<;>first
 | (clear h;intro x Qn K hK2 h;unfold b7q;replace h:=tY h;refine tB ?_)
  |(clear h;(try refine tB ?_);exact tU;done))
 | (refine M.wh1 (b:=b9d) [0,2,4] [1000] (fun x=>[(14,.int .i64 x.1),(15,.int .i64 x.2)]) (fun x=>[]) [] h ?_ ?_<;>first
 | (clear h;intro x Qn K hK3 h;unfold b9d;replace h:=tY h;refine tB ?_)
  |(clear h;(try refine tB ?_);exact tU;done))
 | (refine M.wh1 (b:=c1y) [14] [] (fun x=>[(0,.osl 1000 6 0 x.2.length),(17,.int .i64 x.1)]) (fun x=>[.o 1000 (.arr 6 (x.2.map d9.v))]) [] h ?_ ?_<;>first
 | (clear h;intro x Qn K hK4 h;unfold c1y;replace h:=tY h;refine tB ?_)
  |(clear h;(try refine tB ?_);exact tU;done))
 | (refine M.wh1 (b:=c60) [0,1,2,3,4,18,19,22] [1000] (fun x=>[(20,.int .i64 x.1),(21,.int .i64 x.2)]) (fun x=>[]) [] h ?_ ?_<;>first
 | (clear h;intro x Qn K hK5 h;unfold c60;replace h:=tY h;refine tB ?_)
  |(clear h;(try refine tB ?_);exact tU;done))
 | (refine M.gv1 (ms:=e0f) 185 [182,183,184] h ?_ ?_<;>first
 | (clear h;intro K hK6;unfold e0f;refine tB ?_)
 | (clear h;intro b h;replace h:=tY h;refine tB ?_))
 | (refine M.gv1 (ms:=e0e) 199 [196,197,198] h ?_ ?_<;>first
 | (clear h;intro K hK7;unfold e0e;refine tB ?_)
 | (clear h;intro b h;replace h:=tY h;refine tB ?_))
 | (refine M.gv1 (ms:=e0d) 213 [210,211,212] h ?_ ?_<;>first
 | (clear h;intro K hK8;unfold e0d;refine tB ?_)
 | (clear h;intro b h;replace h:=tY h;refine tB ?_))
 | (refine M.jn1 (b:=c9f) [3,4,18,24] [] (fun y=>[(0,.osl 1000 6 0 y.length)]) (fun y=>[.o 1000 (.arr 6 (y.map d9.v))]) [] h ?_ ?_<;>first
 | (clear h;intro Qn K hK9 h;replace h:=tY h;refine tB ?_)
  |(clear h;intro y h;unfold c9f;replace h:=tY h;refine tB ?_))
 | (refine M.jn1 (b:=d3y) [1,3,4,18,20,24] [] (fun y=>[(0,.osl 1000 6 0 y.length)]) (fun y=>[.o 1000 (.arr 6 (y.map d9.v))]) [] h ?_ ?_<;>first
 | (clear h;intro Qn K hK10 h;replace h:=tY h;refine tB ?_)
  |(clear h;intro y h;unfold d3y;replace h:=tY h;refine tB ?_))
 | (refine M.jn1 (b:=e0q) [0,1,2,3,4,18,19] [1000] (fun y=>[(20,.int .i64 y.1),(21,.int .i64 y.2)]) (fun y=>[]) [] h ?_ ?_<;>first
 | (clear h;intro Qn K hK11 h;replace h:=tY h;refine tB ?_)
  |(clear h;intro y h;unfold e0q;replace h:=tY h;refine tB ?_))
 | (exact absurd (hc.symm.trans (by assumption:_=true)) xL)
 | (exact absurd (hc.symm.trans (by assumption:_=false)) xL.symm)
 | ((first|refine hK1 _ ?_|refine hK2 _ ?_|refine hK3 _ ?_|refine hK4 _ ?_|refine hK5 _ ?_|refine hK9 _ ?_|refine hK10 _ ?_|refine hK11 _ ?_);(try refine tB ?_);refine ⟨_,h,?_⟩;exact tU;done)
 | ((first|refine hK6 _ ?_|refine hK7 _ ?_|refine hK8 _ ?_);exact tU;done)
 | (refine d5t (fun hc=>?_) (fun hc=>?_))
 | (refine tE ?_;(first|rw [M.lok_compU]|rw [M.lokD_compU]);refine tB ?_)
 | (refine ⟨_,g0z (by first|exact a1v (by assumption)|exact a5x (by assumption)|assumption) rfl,?_⟩;(first|rw [M.lok_compU]|rw [M.lokD_compU]);refine tB ?_)
 | (refine ⟨_,g0y (by first|exact a1v (by assumption)|exact a5x (by assumption)|assumption),?_⟩;(first|rw [M.lok_compU]|rw [M.lokD_compU]|(simp only [V.cells,xD,wS];first|rw [M.lok_comp]|rw [M.lokD_comp]));refine tB ?_)
 | (refine ⟨_,a9g (by first|exact a1v (by assumption)|exact a5x (by assumption)),?_⟩;(first|rw [M.lok_compU]|rw [M.lokD_compU]|(simp only [V.cells];first|rw [M.lok_comp]|rw [M.lokD_comp]));refine tB ?_)
 | (refine tA ?_)
 | fail)
theorem g4e:∀n,(∀{jB:List d9} {a_:Int} {m_:Int} {b_:Int} {y:List d9},b8j n jB a_ m_ b_=some y→a0o Tryz.prog 132 [.osl 1000 6 0 jB.length,.int .i64 a_,.int .i64 m_,.int .i64 b_,.fn (.func 47) []] [(1000,.arr 6 (jB.map d9.v))] (fun r H=>r=.tup []∧H=[(1000,.arr 6 (y.map d9.v))]))
 | 0=>fun hy=>(by simp only [b8j] at hy;cases hy)
 | n+1=>by
  have ih_slices_symMergeCmpFunc_api_Command_of_console_Make_4:=@g4e n
  exact fun hy=>g8k ih_slices_symMergeCmpFunc_api_Command_of_console_Make_4 _ _ _ _ (Q:=(·=_)) ⟨_,hy,rfl⟩ fun|_,rfl=>⟨rfl,rfl⟩
theorem W_0:∀{jB:List d9} {a_:Int} {m_:Int} {b_:Int} {y:List d9},F_0 jB a_ m_ b_=some y→a0o Tryz.prog 132 [.osl 1000 6 0 jB.length,.int .i64 a_,.int .i64 m_,.int .i64 b_,.fn (.func 47) []] [(1000,.arr 6 (jB.map d9.v))] (fun r H=>r=.tup []∧H=[(1000,.arr 6 (y.map d9.v))]):=fun hy=>by
 obtain ⟨n,hn⟩:=c9q hy
 exact (g4e n) hn
instance a4d {jB:List d9} {a_:Int} {m_:Int} {b_:Int}:WI (F_0 jB a_ m_ b_) Tryz.prog 132 [.osl 1000 6 0 jB.length,.int .i64 a_,.int .i64 m_,.int .i64 b_,.fn (.func 47) []] [(1000,.arr 6 (jB.map d9.v))] (fun y=>.tup []) (fun y=>[(1000,.arr 6 (y.map d9.v))]):=⟨fun Q Q' h hQ=>by obtain ⟨y,hy,hq⟩:=h;exact (W_0 hy).mono fun r H' e=>by rw [e.1,e.2];exact hQ y hq⟩
def F_s (n_:Int) (x17:Int×Int×(List d9)):Option (Fl (Int×Int×(List d9)) (Int×(List d9))) := bif decide (x17.2.1≤n_) then (F_k x17.2.2 x17.1 x17.2.1).bind fun y21=>chk (a0j (x17.2.1+20)) (some (.nx (x17.2.1,(x17.2.1+20),y21))) else some (.ex (x17.1,x17.2.2))
def e4x (n_:Int) (x71:Int×(List d9)) (x110:Int×Int×(List d9)):Option (Fl (Int×Int×(List d9)) (Int×(List d9))) :=
 bif decide (x110.2.1≤n_) then chk (a0j (x110.1+x71.1)) ((F_0 x110.2.2 x110.1 (x110.1+x71.1) x110.2.1).bind fun y114=>chk (a0j (2*x71.1)) (chk (a0j (x110.2.1+(2*x71.1))) (some (.nx (x110.2.1,(x110.2.1+(2*x71.1)),y114))))) else some (.ex (x110.1,x110.2.2))
def d6k (n_:Int) (x71:Int×(List d9)):Option (Fl (Int×(List d9)) (List d9)) :=
 bif decide (x71.1<n_) then chk (a0j (2*x71.1)) ((loop (e4x n_ x71) (0,(2*x71.1),x71.2)).bind fun r115=>jn (α:=List d9) (chk (a0j (r115.1+x71.1)) (bif decide ((r115.1+x71.1)<n_) then (F_0 r115.2 r115.1 (r115.1+x71.1) n_).bind fun y118=>some y118 else some r115.2)) fun j117=>chk (a0j (x71.1*2)) (some (.nx ((x71.1*2),j117)))) else some (.ex x71.2)
def F_5 (jB:List d9) (n_:Int):Option (List d9) := (loop (F_s n_) (0,20,jB)).bind fun r22=>(F_k r22.2 r22.1 n_).bind fun y24=>(loop (d6k n_) (20,y24)).bind fun r119=>some r119
def a_5:List (Nat×RN):=[(3,⟨[],[.c 4 0 [1000] []],[]⟩),(5,⟨[.gc [0,1,2,6,7,8]],[],[]⟩),(6,⟨[],[.c 4 0 [1000] []],[]⟩),(10,⟨[],[.c 7 0 [1000] []],[]⟩),(12,⟨[.gc [0,1,2,6,7,8]],[],[]⟩),(15,⟨[],[.c 5 0 [1000] []],[]⟩)]
@[irreducible] def e5r:MC:=rdc (cK Tryz.prog Tryz.f86 a_5 [] 2)
@[irreducible] def c9g:MC:=rdc (cK Tryz.prog Tryz.f86 a_5 [(2,e5r)] 9)
@[irreducible] def d3x:MC:=rdc (cK Tryz.prog Tryz.f86 a_5 [(2,e5r),(9,c9g)] 10000016)
@[irreducible] def e1d:MC:=rdc (cK Tryz.prog Tryz.f86 a_5 [(2,e5r),(9,c9g),(10000016,d3x)] 7)
def g32:MC:=rdc (cT Tryz.prog Tryz.f86 a_5 [(2,e5r),(9,c9g),(10000016,d3x),(7,e1d)])
instance g9o {jB:List d9} {n_:Int}:WI (F_5 jB n_) Tryz.prog 86 [.osl 1000 6 0 jB.length,.int .i64 n_,.fn (.func 47) []] [(1000,.arr 6 (jB.map d9.v))] (fun z=>.tup []) (fun z=>[(1000,.arr 6 (z.map d9.v))]):=⟨fun Q Q' h hQ=>by
 refine a2g g32 [] [1000] [] Tryz.func86 fun M=>?_
 unfold F_5 at h
 unfold g32
 replace h:=tY h
 refine tB ?_
 repeat' (first
 | (exact tZ)
 | (rw [zP (by omega)];exact hQ _ h)
 | ((first|refine b3a h ?_|refine a3y h ?_|refine b3m h ?_|refine b3l h ?_|refine b3t h ?_|refine appG h ?_|refine b3v h ?_|refine fork h ?_ ?_|refine a4a h ?_ ?_)<;>clear h<;>intro hc h)
 | (obtain ⟨y,hy,h⟩:=h;(first|with_reducible first|(have hw:=WI.w hy;replace hw:=tY hw;have hlen:=f3h hy)|(have hw:=W_0 hy;replace hw:=tY hw;have hlen:=f4w hy));replace hw:=tY hw;(first|refine M.sC hw ?_|refine M.sD hw ?_);clear hw hy;refine tB ?_)
 | (refine M.wh1 (b:=e5r) [1,2,6] [] (fun x=>[(0,.osl 1000 6 0 x.2.2.length),(7,.int .i64 x.1),(8,.int .i64 x.2.1)]) (fun x=>[.o 1000 (.arr 6 (x.2.2.map d9.v))]) [] h ?_ ?_<;>first
 | (clear h;intro x Qn K hK1 h;unfold F_s at h;unfold e5r;replace h:=tY h;refine tB ?_)
  |(clear h;(try refine tB ?_);exact tU;done))
 | (refine M.wh1 (b:=c9g) [1,2,6] [] (fun x=>[(0,.osl 1000 6 0 x.2.2.length),(7,.int .i64 x.1),(8,.int .i64 x.2.1)]) (fun x=>[.o 1000 (.arr 6 (x.2.2.map d9.v))]) [] h ?_ ?_<;>first
 | (clear h;intro x Qn K hK2 h;unfold e4x at h;unfold c9g;replace h:=tY h;refine tB ?_)
  |(clear h;(try refine tB ?_);exact tU;done))
 | (refine M.jn1 (b:=d3x) [1,2,6] [] (fun y=>[(0,.osl 1000 6 0 y.length)]) (fun y=>[.o 1000 (.arr 6 (y.map d9.v))]) [] h ?_ ?_<;>first
 | (clear h;intro Qn K hK3 h;replace h:=tY h;refine tB ?_)
  |(clear h;intro y h;unfold d3x;replace h:=tY h;refine tB ?_))
 | (refine M.wh1 (b:=e1d) [1,2] [] (fun x=>[(0,.osl 1000 6 0 x.2.length),(6,.int .i64 x.1)]) (fun x=>[.o 1000 (.arr 6 (x.2.map d9.v))]) [] h ?_ ?_<;>first
 | (clear h;intro x Qn K hK4 h;unfold d6k at h;unfold e1d;replace h:=tY h;refine tB ?_)
  |(clear h;(try refine tB ?_);exact tU;done))
 | ((first|refine hK1 _ ?_|refine hK2 _ ?_|refine hK3 _ ?_|refine hK4 _ ?_);(try refine tB ?_);refine ⟨_,h,?_⟩;exact tU;done)
 | (refine tE ?_;(first|rw [M.lok_compU]|rw [M.lokD_compU]);refine tB ?_)
 | (refine tA ?_)
 | fail)⟩
theorem g1x {n_:Int} {s:Int×Int×(List d9)} {o:Fl (Int×Int×(List d9)) (Int×(List d9))} (h:F_s n_ s=some o):o.elim (fun s'=>s'.2.2.length=s.2.2.length) (fun q=>q.2.length=s.2.2.length):=by
 refine (?_:Al _ _) o h
 clear h
 unfold F_s
 repeat' (first|(with_reducible first|exact Al.none|apply Al.chk|apply Al.ite|apply Al.grp)|((with_reducible refine Al.some ?_);simp_all [Fl.elim];done)|((with_reducible first|refine Al.jn fun w h1=>?_|refine Al.bind fun w h1=>?_);(first|(have e1:=f3h h1)|(have e1:=f4w h1)|skip)))
theorem g4g {n_:Int} {x71:Int×(List d9)} {s:Int×Int×(List d9)} {o:Fl (Int×Int×(List d9)) (Int×(List d9))} (h:e4x n_ x71 s=some o):o.elim (fun s'=>s'.2.2.length=s.2.2.length) (fun q=>q.2.length=s.2.2.length):=by
 refine (?_:Al _ _) o h
 clear h
 unfold e4x
 repeat' (first|(with_reducible first|exact Al.none|apply Al.chk|apply Al.ite|apply Al.grp)|((with_reducible refine Al.some ?_);simp_all [Fl.elim];done)|((with_reducible first|refine Al.jn fun w h1=>?_|refine Al.bind fun w h1=>?_);(first|(have e1:=a2m (m:=fun s:Int×Int×(List d9)=>s.2.2.length) (r:=fun q:(Int×(List d9))=>q.2.length) (fun _ _=>g1x) h1)|(have e1:=f3h h1)|(have e1:=f4w h1)|skip)))
theorem g92 {n_:Int} {s:Int×(List d9)} {o:Fl (Int×(List d9)) (List d9)} (h:d6k n_ s=some o):o.elim (fun s'=>s'.2.length=s.2.length) (fun q=>q.length=s.2.length):=by
 refine (?_:Al _ _) o h
 clear h
 unfold d6k
 repeat' (first|(with_reducible first|exact Al.none|apply Al.chk|apply Al.ite|apply Al.grp)|(with_reducible refine d8a (β:=List d9) (P:=fun w=>w.length=s.2.length) ?_ fun w e1=>?_)|((with_reducible refine Al.some ?_);simp_all [Fl.elim];done)|((with_reducible first|refine Al.jn fun w h1=>?_|refine Al.bind fun w h1=>?_);(first|(have e1:=a2m (m:=fun s:Int×Int×(List d9)=>s.2.2.length) (r:=fun q:(Int×(List d9))=>q.2.length) (fun _ _=>g1x) h1)|(have e1:=a2m (m:=fun s:Int×Int×(List d9)=>s.2.2.length) (r:=fun q:(Int×(List d9))=>q.2.length) (fun _ _=>g4g) h1)|(have e1:=f3h h1)|(have e1:=f4w h1)|skip)))
theorem g4f {jB:List d9} {n_:Int} {y:List d9} (h:(F_5 jB n_)=some y):y.length=jB.length:=by
 refine (?_:Al _ (fun y=>y.length=jB.length)) y h
 clear h
 unfold F_5
 repeat' (first|(with_reducible first|exact Al.none|apply Al.chk|apply Al.ite|apply Al.grp)|((with_reducible refine Al.some ?_);simp_all [Fl.elim];done)|((with_reducible first|refine Al.jn fun w h1=>?_|refine Al.bind fun w h1=>?_);(first|(have e1:=a2m (m:=fun s:Int×Int×(List d9)=>s.2.2.length) (r:=fun q:(Int×(List d9))=>q.2.length) (fun _ _=>g1x) h1)|(have e1:=a2m (m:=fun s:Int×Int×(List d9)=>s.2.2.length) (r:=fun q:(Int×(List d9))=>q.2.length) (fun _ _=>g4g) h1)|(have e1:=a2m (m:=fun s:Int×(List d9)=>s.2.length) (r:=fun q:(List d9)=>q.length) (fun _ _=>g92) h1)|(have e1:=f3h h1)|(have e1:=f4w h1)|skip)))
def F_b (x_:List d9):Option (List d9) := (F_5 x_ (x_.length:Int)).bind fun y1=>some y1
def g2y:MC:=rdc (cT Tryz.prog Tryz.f46 [(0,⟨[],[.c 4 0 [1000] []],[]⟩)] [])
instance g5m {x_:List d9}:WI (F_b x_) Tryz.prog 46 [.osl 1000 6 0 x_.length,.fn (.func 47) []] [(1000,.arr 6 (x_.map d9.v))] (fun z=>.tup []) (fun z=>[(1000,.arr 6 (z.map d9.v))]):=⟨fun Q Q' h hQ=>by
 refine a2g g2y [] [1000] [] Tryz.func46 fun M=>?_
 unfold F_b at h
 unfold g2y
 replace h:=tY h
 refine tB ?_
 repeat' (first
 | (exact tZ)
 | (rw [zP (by omega)];exact hQ _ h)
 | ((first|refine b3a h ?_|refine a3y h ?_|refine b3m h ?_|refine b3l h ?_|refine b3t h ?_|refine appG h ?_|refine b3v h ?_|refine fork h ?_ ?_|refine a4a h ?_ ?_)<;>clear h<;>intro hc h)
 | (obtain ⟨y,hy,h⟩:=h;(have hw:=WI.w hy;replace hw:=tY hw;have hlen:=g4f hy);replace hw:=tY hw;(first|refine M.sC hw ?_|refine M.sD hw ?_);clear hw hy;refine tB ?_)
 | (refine tE ?_;(first|rw [M.lok_compU]|rw [M.lokD_compU]);refine tB ?_)
 | (refine tA ?_)
 | fail)⟩
theorem g91 {x_:List d9} {y:List d9} (h:(F_b x_)=some y):y.length=x_.length:=by
 refine (?_:Al _ (fun y=>y.length=x_.length)) y h
 clear h
 unfold F_b
 repeat' (first|(with_reducible first|exact Al.none|apply Al.chk|apply Al.ite|apply Al.grp)|((with_reducible refine Al.some ?_);simp_all [Fl.elim];done)|((with_reducible first|refine Al.jn fun w h1=>?_|refine Al.bind fun w h1=>?_);(first|(have e1:=g4f h1)|skip)))
def e6v (c_:d9) (qB:List Str) (d_:l8) (a_:l9):Option (l8×l9) :=
 (d2c qB c_.Name).bind fun y2=>jn (α:=Bool) (bif decide (c_.Kind=3) then some true else some (decide (c_.Kind=4))) fun j3=>bif j3 then chk (a0j (1+c_.Kind)) (chk (a0j ((1+c_.Kind) - 3)) ((d2c qB c_.Other).bind fun y4=>chk (room (d_.Events.length+[(a01.mk c_.Time ((1+c_.Kind) - 3) y2 y4)].length) 32) (some ((l8.mk d_.Kinds (d_.Events++[(a01.mk c_.Time ((1+c_.Kind) - 3) y2 y4)])),(l9.mk a_.Places a_.Events))))) else jn (α:=Bool) (bif decide (c_.Kind=5) then some true else some (decide (c_.Kind=6))) fun j5=>bif j5 then chk (a0j (1+c_.Kind)) (chk (a0j ((1+c_.Kind) - 5)) (chk (room (a_.Events.length+[(o6.mk c_.Time ((1+c_.Kind) - 5) c_.A y2 0 0 0)].length) 56) (some ((l8.mk d_.Kinds d_.Events),(l9.mk a_.Places (a_.Events++[(o6.mk c_.Time ((1+c_.Kind) - 5) c_.A y2 0 0 0)])))))) else bif decide (c_.Kind=7) then chk (room (a_.Events.length+[(o6.mk c_.Time 3 c_.A 0 c_.B 0 0)].length) 56) (some ((l8.mk d_.Kinds d_.Events),(l9.mk a_.Places (a_.Events++[(o6.mk c_.Time 3 c_.A 0 c_.B 0 0)])))) else bif decide (c_.Kind=8) then chk (room (a_.Events.length+[(o6.mk c_.Time 5 c_.B 0 0 c_.A 0)].length) 56) (some ((l8.mk d_.Kinds d_.Events),(l9.mk a_.Places (a_.Events++[(o6.mk c_.Time 5 c_.B 0 0 c_.A 0)])))) else bif decide (c_.Kind=9) then chk (room (a_.Events.length+[(o6.mk c_.Time 7 c_.B 0 0 0 c_.A)].length) 56) (some ((l8.mk d_.Kinds d_.Events),(l9.mk a_.Places (a_.Events++[(o6.mk c_.Time 7 c_.B 0 0 0 c_.A)])))) else some ((l8.mk d_.Kinds d_.Events),(l9.mk a_.Places a_.Events))
def g1g:List (Nat×RN):=[(14,⟨[.gc [3,4]],[],[]⟩)]
@[irreducible] def e0p:MC:=rdc (cK Tryz.prog Tryz.f48 g1g [] 10000008)
@[irreducible] def e8c:MC:=rdc (cK Tryz.prog Tryz.f48 g1g [(10000008,e0p)] 10000005)
instance:LI e0p 0 0 [3,4,8,14] [4,1002,1003,1000,1001] (fun y:Bool=>[(39,.bool y)]) (fun y=>[]) []:=⟨⟩
instance:LI e8c 0 0 [1,2,3,4,8,14] [4,1002,1003,1000,1001] (fun y:Bool=>[(15,.bool y)]) (fun y=>[]) []:=⟨⟩
instance g1q {c_:d9} {qB:List Str} {d_:l8} {a_:l9}:WI (e6v c_ qB d_ a_) Tryz.prog 48 [d9.v c_,.sl (qB.map V.str),.ptr 1000 0,.ptr 1002 0] [(1000,.cells [.sl (d_.Kinds.map (V.int .i64)),.osl 1001 4 0 d_.Events.length]),(1001,.arr 4 (d_.Events.map a01.v)),(1002,.cells [.int .i64 a_.Places,.osl 1003 7 0 a_.Events.length]),(1003,.arr 7 (a_.Events.map o6.v))] (fun z=>.tup []) (fun z=>[(1000,.cells [.sl (z.1.Kinds.map (V.int .i64)),.osl 1701 4 0 z.1.Events.length]),(1701,.arr 4 (z.1.Events.map a01.v)),(1002,.cells [.int .i64 z.2.Places,.osl 1733 7 0 z.2.Events.length]),(1733,.arr 7 (z.2.Events.map o6.v))]):=wX Tryz.func48 g1g [(10000008,e0p),(10000005,e8c)] [.ownC 1000 1 1701 4 none,.ownC 1002 1 1733 7 none] [1000,1701,1002,1733] (h:=fun _ _ h hQ M=>by unfold e6v at h;exact tX)
def e6t (y10:(List Int)×(List Str)) (k68:Int) (a69:d9) (x67:Int×(List o6)×(List Int)×(List a01)):Option (Int×(List o6)×(List Int)×(List a01)) :=
 (e6v a69 y10.2 (l8.mk x67.2.2.1 x67.2.2.2) (l9.mk x67.1 x67.2.1)).bind fun y73=>some (y73.2.Places,y73.2.Events,y73.1.Kinds,y73.1.Events)
def F_m (l_:List d9):Option (l8×l9×(List Str)×Int) := (d6c l_).bind fun y6=>bif (!decide (y6=0)) then (F_f y6).bind fun y8=>some (y8.1,y8.2.1,y8.2.2.1,y8.2.2.2) else (e6n l_).bind fun y10=>(d2f y10.2).bind fun y13=>(e6u y10.2).bind fun y14=>(a4u y14).bind fun y26=>bif decide ((y26.1:Int)<(y10.2.length:Int)) then (F_f 7).bind fun y28=>some (y28.1,y28.2.1,y28.2.2.1,y28.2.2.2) else (e6a l_ y10.2).bind fun y30=>bif y30 then (F_f 6).bind fun y32=>some (y32.1,y32.2.1,y32.2.2.1,y32.2.2.2) else bif decide (24<(y10.2.length:Int)) then (F_f 3).bind fun y34=>some (y34.1,y34.2.1,y34.2.2.1,y34.2.2.2) else (e4d l_).bind fun y36=>(F_b y36).bind fun y38=>(foldL (e6t y10) y38 0 (16,[],y10.1,[])).bind fun x74=>(d6l (l8.mk x74.2.2.1 x74.2.2.2)).bind fun y80=>bif (!decide (y80=0)) then (F_f y80).bind fun y82=>some (y82.1,y82.2.1,y82.2.2.1,y82.2.2.2) else (F_j (l9.mk x74.1 x74.2.1)).bind fun y88=>bif (!decide (y88=0)) then (F_f y88).bind fun y90=>some (y90.1,y90.2.1,y90.2.2.1,y90.2.2.2) else some ((l8.mk x74.2.2.1 x74.2.2.2),(l9.mk x74.1 x74.2.1),y10.2,0)
def a_m:List (Nat×RN):=[(1,⟨[],[.k 0 1,.k 1 1],[]⟩),(5,⟨[.gc [2,3,8,9]],[],[]⟩),(6,⟨[.gc [0,2,3,6,7,8]],[],[]⟩),(7,⟨[],[.c 2 0 [] [39]],[]⟩),(8,⟨[.gc [0,2,3,6,7,8,10,11,12]],[],[]⟩),(9,⟨[],[.c 1 0 [39] []],[]⟩),(10,⟨[.gc [2,3,8]],[],[]⟩),(11,⟨[.gc [0,2,3,6,7,8,10,11,13]],[.c 2 0 [13,11] []],[]⟩),(12,⟨[.gc [2,3,8]],[],[]⟩),(14,⟨[.gc [2,3,8]],[],[]⟩),(15,⟨[.gc [0,2,3,6,7,8,10,11]],[],[]⟩),(16,⟨[],[.c 1 0 [] [77]],[]⟩),(17,⟨[],[.c 1 0 [77] []],[]⟩),(18,⟨[.gc [2,3,6,7,8,11,14]],[],[]⟩),(21,⟨[],[.c 2 0 [6,7193,7,7225] [13633,13649]],[.n 2 (.ownC 6 1 7193 4 none),.n 2 (.ownC 7 1 7225 7 none)]⟩),(23,⟨[],[],[.n 1 (.fz 90)]⟩),(25,⟨[.gc [2,3,8,17]],[],[]⟩),(26,⟨[.gc [2,3,6,7,8,11]],[],[.n 1 (.fz 101)]⟩)]
@[irreducible] def d49:MC:=rdc (cK Tryz.prog Tryz.f13 a_m [] 19)
def g2t:MC:=rdc (cT Tryz.prog Tryz.f13 a_m [(19,d49)])
instance g9c {l_:List d9}:WI (F_m l_) Tryz.prog 13 [.sl (l_.map d9.v)] [] (fun z=>.tup [l8.v z.1,l9.v z.2.1,.sl (z.2.2.1.map V.str),.int .i64 z.2.2.2]) (fun z=>[]):=⟨fun Q Q' h hQ=>by
 refine a2g g2t [.fzc 2,.fzc 3,.fz 4] [] [.c 2 (some 2),.c 3 (some 2),.t 4,.t 5] Tryz.func13 fun M=>?_
 unfold F_m at h
 unfold g2t
 replace h:=tY h
 refine tB ?_
 repeat' (first
 | (exact tZ)
 | (refine And.intro (by refine ⟨?_,?_,?_,?_⟩<;>omega) ?_;first|exact hQ _ h|(rw [zP (by omega)];exact hQ _ h))
 | (rw [←hlen];exact hQ _ h)
 | (have hq:=hQ _ h;simp only [x4,Nat.min_eq_left hlen.1] at hq;exact hq)
 | ((first|refine b3a h ?_|refine a3y h ?_|refine b3m h ?_|refine b3l h ?_|refine b3t h ?_|refine appG h ?_|refine b3v h ?_|refine fork h ?_ ?_|refine a4a h ?_ ?_)<;>clear h<;>intro hc h)
 | (obtain ⟨y,hy,h⟩:=h;(first|have hw:=o9 1900 39 (g1p.c.w hy)|(have hw:=o9 1000 39 (g8t hy);replace hw:=tY hw;(try simp only [hlen] at hw);have hlen:=c0e hy)|have hw:=o9 1001 11 (o9 1000 13 (g1j.c.w hy))|have hw:=o9 1900 77 (g1l.c.w hy)|(have hw:=o9 1000 77 (g5m.c.w hy);replace hw:=tY hw;have hlen:=g91 hy)|have hw:=o9 1733 13649 (o9 1701 13633 (o9 1003 7225 (o9 1002 7 (o9 1001 7193 (o9 1000 6 (g1q.c.w hy))))))|have hw:=WI.w hy|have hw:=g8p hy);replace hw:=tY hw;(first|refine M.sC hw ?_|refine M.sD hw ?_);clear hw hy;refine tB ?_)
 | (refine M.fold1 (b:=d49) 82 [2,3,6,7,8,11,80,81] [77,11,3,2] (fun x=>[]) (fun x=>[.o 7 (.cells [.int .i64 x.1,.osl 4113 7 0 x.2.1.length]),.o 4113 (.arr 7 (x.2.1.map o6.v)),.o 6 (.cells [.sl (x.2.2.1.map (V.int .i64)),.osl 4097 4 0 x.2.2.2.length]),.o 4097 (.arr 4 (x.2.2.2.map a01.v))]) [.gc [2,3,6,7,8,11,80,81,82],.ownC 7 1 4113 7 none,.ownC 6 1 4097 4 none] h ?_ ?_ ?_<;>first
 | (clear h;intro k a x Qn K hK1 hkN1 ha1 h hf;have hl:=a1s (a0q (n:=81) hf.1 rfl);clear hf;have hkd:=kD hkN1;have hkB1:=kB hkN1;have hkI1:=kI (k:=k) (by omega);(try simp only [hlen] at hkd hkB1 hkN1);unfold e6t at h;unfold d49;replace h:=tY h;refine tK ha1 hkd hkN1 hkB1 hkI1 ?_)
  |(clear h;intro x K h;replace h:=And.left (And.intro h trivial);(try simp only [hlen]);unfold d49;replace h:=tY h;refine tB ?_)
  |(clear h;(try refine tB ?_);exact tU;done))
 | (simp only [ha1])
 | (refine hK1 _ ?_;(try refine tB ?_);refine ⟨_,h,?_⟩;exact tU;done)
 | (refine tE ?_;(first|rw [M.lok_compU]|rw [M.lokD_compU]);refine tB ?_)
 | (refine tA ?_)
 | fail)⟩
end
end Go.Ab