/- What the functions of this seat that lie on the laws' road compute (part LT), each for every input. By AI agents. -/
import Derived.Test.YtdmnaloiileofaaGreatDoorProg
import Derived.KernelRfl
import Derived.Test.YtdmnaloiileofaaGreatDoorAbMC
import Derived.Test.YtdmnaloiileofaaGreatDoorSL
import Derived.Test.YtdmnaloiileofaaGreatDoorXM
import Derived.Test.YtdmnaloiileofaaGreatDoorAbSortS
set_option linter.all false
set_option maxRecDepth 20000
set_option maxHeartbeats 2000000
namespace Go.Ab
open Go.Proofs
noncomputable section
structure l6 where
 Kind:Int
 Name:Str
 Other:Str
 Time:Int
 A:Int
 B:Int
instance:Inhabited l6:=⟨⟨default,default,default,default,default,default⟩⟩
def l6.v (x:l6):V:=.agg [.int .i64 x.Kind,.str x.Name,.str x.Other,.int .i64 x.Time,.int .i64 x.A,.int .i64 x.B]
structure a1w where
 kH:Option Nat
 n_:Option Nat
 jH:Int
instance:Inhabited a1w:=⟨⟨default,default,default⟩⟩
def a1w.v (x:a1w):V:=.agg [fnV x.kH,fnV x.n_,.int .i64 x.jH]
structure a4s where
 qL:Str
 gI:List a1w
instance:Inhabited a4s:=⟨⟨default,default⟩⟩
def a4s.v (x:a4s):V:=.agg [.str x.qL,.sl (x.gI.map a1w.v)]
structure a0n where
 Time:Int
 Kind:Int
 Principal:Int
 Group:Int
instance:Inhabited a0n:=⟨⟨default,default,default,default⟩⟩
def a0n.v (x:a0n):V:=.agg [.int .i64 x.Time,.int .i64 x.Kind,.int .i64 x.Principal,.int .i64 x.Group]
structure d9 where
 Kinds:List Int
 Events:List a0n
instance:Inhabited d9:=⟨⟨default,default⟩⟩
def d9.v (x:d9):V:=.agg [.sl (x.Kinds.map (V.int .i64)),.sl (x.Events.map a0n.v)]
structure o7 where
 Time:Int
 Kind:Int
 Place:Int
 Principal:Int
 Until:Int
 Content:Int
 From:Int
instance:Inhabited o7:=⟨⟨default,default,default,default,default,default,default⟩⟩
def o7.v (x:o7):V:=.agg [.int .i64 x.Time,.int .i64 x.Kind,.int .i64 x.Place,.int .i64 x.Principal,.int .i64 x.Until,.int .i64 x.Content,.int .i64 x.From]
structure l5 where
 Places:Int
 Events:List o7
instance:Inhabited l5:=⟨⟨default,default⟩⟩
def l5.v (x:l5):V:=.agg [.int .i64 x.Places,.sl (x.Events.map o7.v)]
structure a1x where
 Public:Bool
 Principals:List Int
instance:Inhabited a1x:=⟨⟨default,default⟩⟩
def a1x.v (x:a1x):V:=.agg [.bool x.Public,.sl (x.Principals.map (V.int .i64))]
structure x8 where
 L:List Int
 at_:Int
instance:Inhabited x8:=⟨⟨default,default⟩⟩
def x8.v (x:x8):V:=.agg [.sl (x.L.map (V.int .i64)),.int .i64 x.at_]
structure a0j where
 Name:Str
 Slots:Int
instance:Inhabited a0j:=⟨⟨default,default⟩⟩
def a0j.v (x:a0j):V:=.agg [.str x.Name,.int .i64 x.Slots]
structure l9 where
 Issuer:Int
 Fingerprint:Int
 Holder:Int
 From:Int
 Until:Int
instance:Inhabited l9:=⟨⟨default,default,default,default,default⟩⟩
def l9.v (x:l9):V:=.agg [.int .i64 x.Issuer,.int .u64 x.Fingerprint,.int .i64 x.Holder,.int .i64 x.From,.int .i64 x.Until]
structure l7 where
 Issuers:List a0j
 Credentials:List l9
instance:Inhabited l7:=⟨⟨default,default⟩⟩
def l7.v (x:l7):V:=.agg [.sl (x.Issuers.map a0j.v),.sl (x.Credentials.map l9.v)]
structure a0g where
 Credential:Int
 Resource:Int
 Right:Int
instance:Inhabited a0g:=⟨⟨default,default,default⟩⟩
def a0g.v (x:a0g):V:=.agg [.int .i64 x.Credential,.int .i64 x.Resource,.int .i64 x.Right]
structure a0m where
 Resource:Int
 Credential:Int
instance:Inhabited a0m:=⟨⟨default,default⟩⟩
def a0m.v (x:a0m):V:=.agg [.int .i64 x.Resource,.int .i64 x.Credential]
structure a1d where
 From:Int
 To:Int
instance:Inhabited a1d:=⟨⟨default,default⟩⟩
def a1d.v (x:a1d):V:=.agg [.int .i64 x.From,.int .i64 x.To]
structure o8 where
 Credentials:Int
 Resources:Int
 Grants:List a0g
 Stores:List a0m
 Mints:List a1d
instance:Inhabited o8:=⟨⟨default,default,default,default,default⟩⟩
def o8.v (x:o8):V:=.agg [.int .i64 x.Credentials,.int .i64 x.Resources,.sl (x.Grants.map a0g.v),.sl (x.Stores.map a0m.v),.sl (x.Mints.map a1d.v)]
structure b0y where
 Source:Int
 Path:Str
 Time:Int
instance:Inhabited b0y:=⟨⟨default,default,default⟩⟩
def b0y.v (x:b0y):V:=.agg [.int .i64 x.Source,.str x.Path,.int .i64 x.Time]
structure b6z where
 Coding:Int
 From:Int
 To:Int
instance:Inhabited b6z:=⟨⟨default,default,default⟩⟩
def b6z.v (x:b6z):V:=.agg [.int .i64 x.Coding,.int .i64 x.From,.int .i64 x.To]
structure b5f where
 Place:b0y
 Layers:List b6z
 From:Int
 To:Int
instance:Inhabited b5f:=⟨⟨default,default,default,default⟩⟩
def b5f.v (x:b5f):V:=.agg [.int .i64 x.Place.Source,.str x.Place.Path,.int .i64 x.Place.Time,.sl (x.Layers.map b6z.v),.int .i64 x.From,.int .i64 x.To]
structure a2h where
 Kind:Int
 Fingerprint:Int
 Where:List b5f
instance:Inhabited a2h:=⟨⟨default,default,default⟩⟩
def a2h.v (x:a2h):V:=.agg [.int .i64 x.Kind,.int .u64 x.Fingerprint,.sl (x.Where.map b5f.v)]
structure u7 where
 Pool:Int
 Dual:Bool
 Live:Bool
instance:Inhabited u7:=⟨⟨default,default,default⟩⟩
def u7.v (x:u7):V:=.agg [.int .i64 x.Pool,.bool x.Dual,.bool x.Live]
structure w9 where
 Slots:Int
 Consumers:List u7
instance:Inhabited w9:=⟨⟨default,default⟩⟩
def w9.v (x:w9):V:=.agg [.int .i64 x.Slots,.sl (x.Consumers.map u7.v)]
structure a1b where
 Up:Bool
 Stored:Int
 Used:Int
instance:Inhabited a1b:=⟨⟨default,default,default⟩⟩
def a1b.v (x:a1b):V:=.agg [.bool x.Up,.int .i64 x.Stored,.int .i64 x.Used]
structure o5 where
 Known:Int
 Valid:Int
 Units:List a1b
instance:Inhabited o5:=⟨⟨default,default,default⟩⟩
def o5.v (x:o5):V:=.agg [.int .i64 x.Known,.int .i64 x.Valid,.sl (x.Units.map a1b.v)]
structure GStep where
 Kind:Int
 Unit:Int
instance:Inhabited GStep:=⟨⟨default,default⟩⟩
def GStep.v (x:GStep):V:=.agg [.int .i64 x.Kind,.int .i64 x.Unit]
structure q9 where
 Generation:Int
 Serving:Bool
instance:Inhabited q9:=⟨⟨default,default⟩⟩
def q9.v (x:q9):V:=.agg [.int .i64 x.Generation,.bool x.Serving]
structure o6 where
 Fence:Bool
 Sets:List Int
 Replicas:List q9
 Snapshots:List Int
instance:Inhabited o6:=⟨⟨default,default,default,default⟩⟩
def o6.v (x:o6):V:=.agg [.bool x.Fence,.sl (x.Sets.map (V.int .i64)),.sl (x.Replicas.map q9.v),.sl (x.Snapshots.map (V.int .i64))]
structure a0e where
 Kind:Int
 Replica:Int
 Snapshot:Int
 Bits:Int
instance:Inhabited a0e:=⟨⟨default,default,default,default⟩⟩
def a0e.v (x:a0e):V:=.agg [.int .i64 x.Kind,.int .i64 x.Replica,.int .i64 x.Snapshot,.int .i64 x.Bits]
structure a00 where
 Level:Int
 Worth:Int
 Audience:Int
 Score:Int
instance:Inhabited a00:=⟨⟨default,default,default,default⟩⟩
def a00.v (x:a00):V:=.agg [.int .i64 x.Level,.int .i64 x.Worth,.int .i64 x.Audience,.int .i64 x.Score]
structure o9 where
 Fingerprint:Int
 Spots:Int
 Public:Bool
 Readers:Int
 Since:Int
 Severity:a00
 Rotated:Bool
 Dead:Bool
instance:Inhabited o9:=⟨⟨default,default,default,default,default,default,default,default⟩⟩
def o9.v (x:o9):V:=.agg [.int .u64 x.Fingerprint,.int .i64 x.Spots,.bool x.Public,.int .i64 x.Readers,.int .i64 x.Since,.int .i64 x.Severity.Level,.int .i64 x.Severity.Worth,.int .i64 x.Severity.Audience,.int .i64 x.Severity.Score,.bool x.Rotated,.bool x.Dead]
structure a01 where
 Principal:Int
 Time:Int
instance:Inhabited a01:=⟨⟨default,default⟩⟩
def a01.v (x:a01):V:=.agg [.int .i64 x.Principal,.int .i64 x.Time]
structure a1a where
 Kind:Int
 Grant:Int
 Store:Int
 Mint:Int
instance:Inhabited a1a:=⟨⟨default,default,default,default⟩⟩
def a1a.v (x:a1a):V:=.agg [.int .i64 x.Kind,.int .i64 x.Grant,.int .i64 x.Store,.int .i64 x.Mint]
structure d4r where
 e0:Int
 e1:Int
 e2:Int
 e3:Int
instance:Inhabited d4r:=⟨⟨default,default,default,default⟩⟩
def d4r.v (x:d4r):V:=.agg [.int .i64 x.e0,.int .i64 x.e1,.int .i64 x.e2,.int .i64 x.e3]
structure a5z where
 kH:Str
 n_:Int
instance:Inhabited a5z:=⟨⟨default,default⟩⟩
def a5z.v (x:a5z):V:=.agg [.str x.kH,.int .i64 x.n_]
theorem dlt {a:Int}:decide (a<a)=false:=by simp
abbrev WJ {α:Type} (F:Option α) (n:Nat) (args:List V) (RV:α→V):Prop:=WI F Tryz.prog n args [] RV fun _=>[]
attribute [go_sem] a15.b2s_set a15.b2s_setD e08 d1h d1f d1e d1i d1g a18 beq_self_eq_true Int.cast_ofNat_Int List.take_succ_cons List.take_zero xC wC wJ b5k b7i wrap_u8 e5b d9a d97 d1d c74 d3t b63 g1r e5d e5l e5k e5j e5i e5n e5m h0d h0c h0a h0b e92 e91 e8z e90 g1t g1s ovS ovE ovU g6v d0j d3m b9q a0q a2i d13 f6l V.oids V.oidsL V.tr V.trL trE trH a0i.tr true_implies false_implies xL Bool.true_eq_false dlt mpV slV Int.natCast_zero List.map_set kvV d7u c99 V.sw V.swL swN swH g0j e4i d6f e4g d6d d6e a0i.sw e4j e4h f1x f1w List.set_set a15.b2s_e a15.b2s_eD c6g List.length_set List.length_replicate zP vH bounds a0z wI Option.map_none a6o a6p e0w e0v d5o d5p b1z a9i b5d
theorem d9b:inb 0 4=true:=u6.2 (by decide)
attribute [go_sem] d9b
theorem e9d {n:Nat}:(inb 0 n=true)=(((0:Nat):Int)<(n:Int)):=propext (by rw [u6];omega)
attribute [go_sem] e9d
theorem e9c {n:Nat}:(inb 1 n=true)=(((1:Nat):Int)<(n:Int)):=propext (by rw [u6];omega)
attribute [go_sem] e9c
theorem e9b {n:Nat}:(inb 4 n=true)=(((4:Nat):Int)<(n:Int)):=propext (by rw [u6];omega)
attribute [go_sem] e9b
theorem d99 {n:Nat}:(inb 17 n=true)=(((17:Nat):Int)<(n:Int)):=propext (by rw [u6];omega)
attribute [go_sem] d99
theorem d98 {n:Nat}:(inb 18 n=true)=(((18:Nat):Int)<(n:Int)):=propext (by rw [u6];omega)
attribute [go_sem] d98
theorem e9a {b:Int} {n:Nat}:(inc 0 b n=true)=(((0:Nat):Int)≤b∧b≤(n:Int)):=propext (by rw [a5v];omega)
attribute [go_sem] e9a
theorem e98 {b:Int} {n:Nat}:(inc 1 b n=true)=(((1:Nat):Int)≤b∧b≤(n:Int)):=propext (by rw [a5v];omega)
attribute [go_sem] e98
theorem c7e {n:Nat}:List.replicate n (V.agg [.int .i64 0,.str [],.int .i64 0,.sl [],.int .i64 0,.int .i64 0])=(List.replicate n (b5f.mk (b0y.mk 0 [] 0) [] 0 0)).map b5f.v:=by rw [List.map_replicate];rfl
attribute [go_sem] c7e
attribute [go_sem] d4r.v o7.v a1x.v o6.v l6.v u7.v l9.v d9.v l5.v a01.v a2h.v w9.v a0g.v a0j.v b6z.v a1a.v a0n.v a1d.v b0y.v l7.v q9.v a0e.v o8.v o5.v a5z.v a00.v b5f.v GStep.v a0m.v o9.v x8.v a1b.v a1w.v a4s.v
set_option maxRecDepth 20000
set_option maxHeartbeats 2000000
def d5z:Option a1w :=
 some (a1w.mk none (some 255) 1000000)
instance h6j:WJ d5z 204 [] fun z=>a1w.v z:=wX Tryz.func204 (h:=fun _ _ h hQ M=>by unfold d5z at h;exact tX)
def e1m:Option a1w :=
 some (a1w.mk (some 256) none 0)
instance h5l:WJ e1m 205 [] fun z=>a1w.v z:=wX Tryz.func205 (h:=fun _ _ h hQ M=>by unfold e1m at h;exact tX)
def g44:Option a1w :=
 some (a1w.mk (some 257) none 0)
instance h1k:WJ g44 206 [] fun z=>a1w.v z:=wX Tryz.func206 (h:=fun _ _ h hQ M=>by unfold g44 at h;exact tX)
def d5y (jH:Int):Option a1w :=
 some (a1w.mk none (some 258) jH)
instance h6i {jH:Int}:WJ (d5y jH) 207 [.int .i64 jH] fun z=>a1w.v z:=wX Tryz.func207 (h:=fun _ _ h hQ M=>by unfold d5y at h;exact tX)
def f4k (jH:Int):Option a1w :=
 some (a1w.mk none (some 259) jH)
instance h4a {jH:Int}:WJ (f4k jH) 208 [.int .i64 jH] fun z=>a1w.v z:=wX Tryz.func208 (h:=fun _ _ h hQ M=>by unfold f4k at h;exact tX)
def e1l:Option (List a4s) :=
 d5z.bind fun y4=>e1m.bind fun y5=>g44.bind fun y6=>d5z.bind fun y10=>e1m.bind fun y11=>(d5y 16).bind fun y12=>e1m.bind fun y28=>e1m.bind fun y29=>d5z.bind fun y30=>(d5y 16).bind fun y31=>(f4k 1000000).bind fun y32=>d5z.bind fun y33=>(d5y 64).bind fun y34=>(f4k 16).bind fun y35=>d5z.bind fun y36=>(d5y 16).bind fun y37=>(f4k 16).bind fun y38=>d5z.bind fun y39=>(d5y 16).bind fun y40=>(d5y 64).bind fun y41=>e1m.bind fun y42=>some [(a4s.mk [112,101,114,115,111,110] [y28]),(a4s.mk [103,114,111,117,112] [y29]),(a4s.mk [106,111,105,110] [y4,y5,y6]),(a4s.mk [108,101,97,118,101] [y4,y5,y6]),(a4s.mk [97,108,108,111,119] [y10,y11,y12]),(a4s.mk [102,111,114,98,105,100] [y10,y11,y12]),(a4s.mk [111,112,101,110] [y30,y31,y32]),(a4s.mk [112,117,116] [y33,y34,y35]),(a4s.mk [99,111,112,121] [y36,y37,y38]),(a4s.mk [119,104,111] [y39,y40]),(a4s.mk [115,105,110,99,101] [y41,y42])]
instance h5k:WJ e1l 134 [] fun z=>.sl (z.map a4s.v):=wX Tryz.func134 [(3,⟨[.gc [1,2]],[.k 1 2,.k 4 2,.k 17 2,.k 22 2,.k 27 2,.k 31 2,.k 35 2],[.n 37 (.fz 18),.n 37 (.fz 22)]⟩)] [] [.fz 0] (h:=fun _ _ h hQ M=>by unfold e1l at h;exact tX)
def f4j (c_:l6):Option Unit :=
 some ()
instance h49 {c_:l6}:WI (f4j c_) Tryz.prog 257 [.ptr 1000 0] [(1000,.cells [.int .i64 c_.Kind,.str c_.Name,.str c_.Other,.int .i64 c_.Time,.int .i64 c_.A,.int .i64 c_.B])] (fun z=>.ptr 1000 2) (fun z=>[(1000,.cells [.int .i64 c_.Kind,.str c_.Name,.str c_.Other,.int .i64 c_.Time,.int .i64 c_.A,.int .i64 c_.B])]):=wX Tryz.func257 [] [] [] [1000] (h:=fun _ _ h hQ M=>by unfold f4j at h;exact tX)
def f4i (c_:l6):Option Unit :=
 some ()
instance h44 {c_:l6}:WI (f4i c_) Tryz.prog 256 [.ptr 1000 0] [(1000,.cells [.int .i64 c_.Kind,.str c_.Name,.str c_.Other,.int .i64 c_.Time,.int .i64 c_.A,.int .i64 c_.B])] (fun z=>.ptr 1000 1) (fun z=>[(1000,.cells [.int .i64 c_.Kind,.str c_.Name,.str c_.Other,.int .i64 c_.Time,.int .i64 c_.A,.int .i64 c_.B])]):=wX Tryz.func256 [] [] [] [1000] (h:=fun _ _ h hQ M=>by unfold f4i at h;exact tX)
def f4h (c_:l6):Option Unit :=
 some ()
instance h42 {c_:l6}:WI (f4h c_) Tryz.prog 259 [.ptr 1000 0] [(1000,.cells [.int .i64 c_.Kind,.str c_.Name,.str c_.Other,.int .i64 c_.Time,.int .i64 c_.A,.int .i64 c_.B])] (fun z=>.ptr 1000 5) (fun z=>[(1000,.cells [.int .i64 c_.Kind,.str c_.Name,.str c_.Other,.int .i64 c_.Time,.int .i64 c_.A,.int .i64 c_.B])]):=wX Tryz.func259 [] [] [] [1000] (h:=fun _ _ h hQ M=>by unfold f4h at h;exact tX)
def f4g (c_:l6):Option Unit :=
 some ()
instance h41 {c_:l6}:WI (f4g c_) Tryz.prog 258 [.ptr 1000 0] [(1000,.cells [.int .i64 c_.Kind,.str c_.Name,.str c_.Other,.int .i64 c_.Time,.int .i64 c_.A,.int .i64 c_.B])] (fun z=>.ptr 1000 4) (fun z=>[(1000,.cells [.int .i64 c_.Kind,.str c_.Name,.str c_.Other,.int .i64 c_.Time,.int .i64 c_.A,.int .i64 c_.B])]):=wX Tryz.func258 [] [] [] [1000] (h:=fun _ _ h hQ M=>by unfold f4g at h;exact tX)
def f4f (c_:l6):Option Unit :=
 some ()
instance h40 {c_:l6}:WI (f4f c_) Tryz.prog 255 [.ptr 1000 0] [(1000,.cells [.int .i64 c_.Kind,.str c_.Name,.str c_.Other,.int .i64 c_.Time,.int .i64 c_.A,.int .i64 c_.B])] (fun z=>.ptr 1000 3) (fun z=>[(1000,.cells [.int .i64 c_.Kind,.str c_.Name,.str c_.Other,.int .i64 c_.Time,.int .i64 c_.A,.int .i64 c_.B])]):=wX Tryz.func255 [] [] [] [1000] (h:=fun _ _ h hQ M=>by unfold f4f at h;exact tX)
def g6f (f_:a1w) (c_:l6):Option (Bool×l6) :=
 bif f_.kH.isSome then bif decide (f_.kH=some 256) then (f4i c_).bind fun y14=>(b6h c_.Name 12).bind fun y16=>some (y16,(l6.mk c_.Kind [] c_.Other c_.Time c_.A c_.B)) else bif decide (f_.kH=some 257) then (f4j c_).bind fun y11=>(b6h c_.Other 12).bind fun y13=>some (y13,(l6.mk c_.Kind c_.Name [] c_.Time c_.A c_.B)) else none else bif decide (f_.n_=some 255) then (f4f c_).bind fun y24=>jn (α:=Bool) (bif decide (0≤c_.Time) then some (decide (c_.Time<f_.jH)) else some false) fun j25=>some (j25,(l6.mk c_.Kind c_.Name c_.Other 0 c_.A c_.B)) else bif decide (f_.n_=some 258) then (f4g c_).bind fun y22=>jn (α:=Bool) (bif decide (0≤c_.A) then some (decide (c_.A<f_.jH)) else some false) fun j23=>some (j23,(l6.mk c_.Kind c_.Name c_.Other c_.Time 0 c_.B)) else bif decide (f_.n_=some 259) then (f4h c_).bind fun y20=>jn (α:=Bool) (bif decide (0≤c_.B) then some (decide (c_.B<f_.jH)) else some false) fun j21=>some (j21,(l6.mk c_.Kind c_.Name c_.Other c_.Time c_.A 0)) else none
def g7q:List (Nat×RN):=[(2,⟨[],[.c 3 0 [1000] []],[]⟩),(3,⟨[.gc [5]],[],[]⟩),(6,⟨[],[.c 3 0 [1000] []],[]⟩),(7,⟨[.gc [2,7,32,33,34,35,36,37]],[],[]⟩)]
@[irreducible] def d2c:MC:=rdc (cK Tryz.prog Tryz.f209 g7q [] 10000008)
instance:LI d2c 0 0 [7] [1000] (fun y:Bool=>[(8,.bool y)]) (fun y=>[]) []:=⟨⟩
instance:LI d2c 0 0 [7] [1000] (fun y:Bool=>[(8,.bool y)]) (fun y=>[]) []:=⟨⟩
instance:LI d2c 0 0 [7] [1000] (fun y:Bool=>[(8,.bool y)]) (fun y=>[]) []:=⟨⟩
instance h4v {f_:a1w} {c_:l6}:WI (g6f f_ c_) Tryz.prog 209 [a1w.v f_,.ptr 1000 0] [(1000,.cells [.int .i64 c_.Kind,.str c_.Name,.str c_.Other,.int .i64 c_.Time,.int .i64 c_.A,.int .i64 c_.B])] (fun z=>.bool z.1) (fun z=>[(1000,.cells [.int .i64 z.2.Kind,.str z.2.Name,.str z.2.Other,.int .i64 z.2.Time,.int .i64 z.2.A,.int .i64 z.2.B])]):=wX Tryz.func209 g7q [(10000008,d2c)] [] [1000] (h:=fun _ _ h hQ M=>by unfold g6f at h;exact tX)
@[go_sem] def g9n (k52:Int) (a53:a1w) (x51:Bool×l6):Option (Bool×l6) :=
 (g6f a53 x51.2).bind fun y60=>grp ((y60.1&&x51.1)) fun b61=>some (b61,y60.2)
def f9p (c_:l6):Option Bool :=
 grp ((decide (c_.Kind<1)||decide (11<c_.Kind))) fun b4=>bif b4 then some false else e1l.bind fun y33=>chk (a0w (c_.Kind - 1)) (chk (inb (c_.Kind - 1) y33.length) ((foldL g9n ((y33.getD ((c_.Kind - 1)).toNat default).gI) 0 (true,c_)).bind fun x62=>jn (α:=Bool) (bif x62.1 then some (decide (x62.2.Kind=x62.2.Kind)&&(decide (x62.2.Name=[])&&(decide (x62.2.Other=[])&&(decide (x62.2.Time=0)&&(decide (x62.2.A=0)&&decide (x62.2.B=0)))))) else some false) fun j64=>some j64))
def g7z:List (Nat×RN):=[(1,⟨[],[],[.v 4 7]⟩),(7,⟨[],[.c 1 0 [1] []],[.v 3 4]⟩),(9,⟨[],[],[.w 2 7 1360902]⟩)]
@[irreducible] def e6h:MC:=rdc (cK Tryz.prog Tryz.f136 g7z [] 5)
instance:LI e6h 22 21 [1,20,21] [] (fun y:Bool×l6=>[(3,.bool y.1)]) (fun y=>[.o 1 (.cells [.int .i64 y.2.Kind,.str y.2.Name,.str y.2.Other,.int .i64 y.2.Time,.int .i64 y.2.A,.int .i64 y.2.B])]) []:=⟨⟩
instance f05 {m:List MOp}:GI (gjt 1360902 m) [] [] (fun y:Bool=>[(39,.bool y)]) (fun y=>[]):=⟨⟩
instance h5j {c_:l6}:WJ (f9p c_) 136 [l6.v c_] .bool:=wX Tryz.func136 g7z [(5,e6h)] (h:=fun _ _ h hQ M=>by have:SwA [(1000,1)]:=⟨⟩;unfold f9p at h;exact tX)
def f8r (kL:Int):Option Bool :=
 grp ((decide (kL<1)||decide (3<kL))) fun b2=>some b2
instance h2w {kL:Int}:WJ (f8r kL) 215 [.int .i64 kL] .bool:=wX Tryz.func215 [(1,⟨[],[],[.v 3 5]⟩)] (h:=fun _ _ h hQ M=>by unfold f8r at h;exact tX)
@[go_sem] def g5s (k31:Int) (a32:Int) (x30:Unit):Option (Fl Unit Int) :=
 (f8r a32).bind fun y40=>bif y40 then some (.ex k31) else some (.nx ())
def g43 (s_:List Int):Option Int :=
 (forL g5s s_ 0 ()).bind fun o=>o.elim (fun x41=>some (-1)) (fun r42=>some r42)
@[irreducible] def e82:MC:=rdc (cK Tryz.prog Tryz.f169 [] [] 2)
instance:LI e82 8 7 [0,1,7] [] (fun y:Unit=>[]) (fun y=>[]) []:=⟨⟩
instance h1j {s_:List Int}:WJ (g43 s_) 169 [.sl (s_.map (V.int .i64)),.fn (.func 215) []] (.int .i64):=wX Tryz.func169 [] [(2,e82)] (h:=fun _ _ h hQ M=>by unfold g43 at h;exact tX)
def f8q (s_:List Int):Option Bool :=
 (g43 s_).bind fun y2=>some (decide (0≤y2))
instance h2v {s_:List Int}:WJ (f8q s_) 85 [.sl (s_.map (V.int .i64)),.fn (.func 215) []] .bool:=wX Tryz.func85 (h:=fun _ _ h hQ M=>by unfold f8q at h;exact tX)
def e1k (d_:d9) (p_:Int):Option Bool :=
 grp ((decide (0≤p_)&&decide (p_<(d_.Kinds.length:Int)))) fun b2=>some b2
instance h5i {d_:d9} {p_:Int}:WJ (e1k d_ p_) 216 [d9.v d_,.int .i64 p_] .bool:=wX Tryz.func216 [(1,⟨[],[],[.v 3 8]⟩)] (h:=fun _ _ h hQ M=>by unfold e1k at h;exact tX)
def f4e (d_:d9) (p_:Int):Option Bool :=
 (e1k d_ p_).bind fun y3=>jn (α:=Bool) (bif y3 then chk (inb p_ d_.Kinds.length) (some (decide ((d_.Kinds.getD (p_).toNat default)=2))) else some false) fun j4=>some j4
instance e9v {m:List MOp}:GI (gjt 2170104 m) [4] [] (fun y:Bool=>[(15,.bool y)]) (fun y=>[]):=⟨⟩
instance h3z {d_:d9} {p_:Int}:WJ (f4e d_ p_) 217 [d9.v d_,.int .i64 p_] .bool:=wX Tryz.func217 [(1,⟨[],[],[.w 4 10 2170104]⟩)] (h:=fun _ _ h hQ M=>by unfold f4e at h;exact tX)
@[go_sem] def f9e (d_:d9) (k473:Int) (a474:a0n) (x472:Int):Option (Fl Int Int) :=
 grp (((!decide (a474.Kind=1))&&(!decide (a474.Kind=2)))) fun b595=>grp ((b595||decide (a474.Time<x472))) fun b596=>grp ((b596||decide (1099511627776<a474.Time))) fun b597=>bif b597 then grp (true) fun b598=>bif b598 then some (.ex 30) else some (.nx a474.Time) else (e1k d_ a474.Principal).bind fun y599=>bif (!y599) then grp (true) fun b600=>bif b600 then some (.ex 30) else some (.nx a474.Time) else (f4e d_ a474.Group).bind fun y601=>grp (((!y601)||decide (a474.Principal=a474.Group))) fun b602=>bif b602 then some (.ex 30) else some (.nx a474.Time)
def F_r (d_:d9):Option Int := grp ((decide (24<(d_.Kinds.length:Int))||decide (120<(d_.Events.length:Int)))) fun b7=>bif b7 then some 30 else (f8q d_.Kinds).bind fun y8=>bif y8 then some 30 else (forL (f9e d_) d_.Events 0 0).bind fun o=>o.elim (fun x603=>some 0) (fun r604=>some r604)
def a_r:List (Nat×RN):=[(2,⟨[],[],[.v 5 9]⟩),(5,⟨[.gc [1,4,34,35,36,39,40,41,42,45,46,47,50,51,52,53,54,57,58,59,60,61,64,65,66,67,68]],[],[]⟩),(8,⟨[],[],[.v 4 7,.v 9 13,.v 15 18,.v 34 39]⟩),(10,⟨[.gc [1,6,24,25,26,34,35,36,39,40,41,42,45,46,47,50,51,52,53,54,57,58,59,60,61,64,65,66,67,68]],[],[]⟩)]
@[irreducible] def e8f:MC:=rdc (cK Tryz.prog Tryz.f152 a_r [] 6)
instance:LI e8f 26 25 [1,24,25] [1] (fun y:Int=>[(4,.int .i64 y)]) (fun y=>[]) []:=⟨⟩
instance h8m {d_:d9}:WJ (F_r d_) 152 [d9.v d_] (.int .i64):=wX Tryz.func152 a_r [(6,e8f)] (h:=fun _ _ h hQ M=>by unfold F_r at h;exact tX)
@[go_sem] def e3f (v_:Int) (k11:Int) (a12:Int) (x10:Unit):Option (Fl Unit Int) :=
 bif decide (v_=a12) then some (.ex k11) else some (.nx ())
def g42 (s_:List Int) (v_:Int):Option Int :=
 (forL (e3f v_) s_ 0 ()).bind fun o=>o.elim (fun x13=>some (-1)) (fun r14=>some r14)
@[irreducible] def e8n:MC:=rdc (cK Tryz.prog Tryz.f321 [] [] 2)
instance:LI e8n 8 7 [0,1,7] [] (fun y:Unit=>[]) (fun y=>[]) []:=⟨⟩
instance h1i {s_:List Int} {v_:Int}:WJ (g42 s_ v_) 321 [.sl (s_.map (V.int .i64)),.int .i64 v_] (.int .i64):=wX Tryz.func321 [] [(2,e8n)] (h:=fun _ _ h hQ M=>by unfold g42 at h;exact tX)
def d5x (s_:List Int) (v_:Int):Option Bool :=
 (g42 s_ v_).bind fun y2=>some (decide (0≤y2))
instance h6h {s_:List Int} {v_:Int}:WJ (d5x s_ v_) 300 [.sl (s_.map (V.int .i64)),.int .i64 v_] .bool:=wX Tryz.func300 (h:=fun _ _ h hQ M=>by unfold d5x at h;exact tX)
def F_0 (t_:x8) (n_:Int):Option (Int×x8) := bif decide ((t_.L.length:Int)≤t_.at_) then some (0,t_) else chk (inb t_.at_ t_.L.length) (chk (a0w (t_.at_+1)) (chk (d5i ((t_.L.getD (t_.at_).toNat default) % 2^16) n_) (some ((((t_.L.getD (t_.at_).toNat default) % 2^16) % n_),(x8.mk t_.L (t_.at_+1))))))
instance h9d {t_:x8} {n_:Int}:WI (F_0 t_ n_) Tryz.prog 10 [.ptr 1000 0,.int .i64 n_] [(1000,.cells [.sl (t_.L.map (V.int .i64)),.int .i64 t_.at_])] (fun z=>.int .i64 z.1) (fun z=>[(1000,.cells [.sl (z.2.L.map (V.int .i64)),.int .i64 z.2.at_])]):=wX Tryz.func10 [(3,⟨[.gc [0,1]],[],[]⟩),(4,⟨[.gc [0,1,5]],[],[]⟩),(5,⟨[.gc [1,5]],[],[]⟩)] [] [] [1000] (h:=fun _ _ h hQ M=>by unfold F_0 at h;exact tX)
def F_4 (t_:x8) (a_:Int) (b_:Int):Option (Int×x8) := chk (a0w (b_ - a_)) (chk (a0w ((b_ - a_)+1)) ((F_0 t_ ((b_ - a_)+1)).bind fun y2=>chk (a0w (a_+y2.1)) (some ((a_+y2.1),y2.2))))
instance h99 {t_:x8} {a_ b_:Int}:WI (F_4 t_ a_ b_) Tryz.prog 27 [.ptr 1000 0,.int .i64 a_,.int .i64 b_] [(1000,.cells [.sl (t_.L.map (V.int .i64)),.int .i64 t_.at_])] (fun z=>.int .i64 z.1) (fun z=>[(1000,.cells [.sl (z.2.L.map (V.int .i64)),.int .i64 z.2.at_])]):=wX Tryz.func27 [(1,⟨[],[.c 6 0 [1000] []],[]⟩)] [] [] [1000] (h:=fun _ _ h hQ M=>by unfold F_4 at h;exact tX)
def d4t (t_:x8) (l_:List Int):Option (Int×x8) :=
 (F_0 t_ (l_.length:Int)).bind fun y2=>chk (inb y2.1 l_.length) (some ((l_.getD (y2.1).toNat default),y2.2))
instance h74 {t_:x8} {l_:List Int}:WI (d4t t_ l_) Tryz.prog 28 [.ptr 1000 0,.sl (l_.map (V.int .i64))] [(1000,.cells [.sl (t_.L.map (V.int .i64)),.int .i64 t_.at_])] (fun z=>.int .i64 z.1) (fun z=>[(1000,.cells [.sl (z.2.L.map (V.int .i64)),.int .i64 z.2.at_])]):=wX Tryz.func28 [(1,⟨[],[.c 4 0 [1000] []],[]⟩)] [] [] [1000] (h:=fun _ _ h hQ M=>by unfold d4t at h;exact tX)
@[go_sem] def g5r (n_:Int) (x29:Int×Int×(List Int)×x8):Option (Fl (Int×Int×(List Int)×x8) ((List Int)×x8)) :=
 bif decide (x29.2.1<n_) then (F_0 x29.2.2.2 3).bind fun y37=>chk (a0w (x29.1+y37.1)) (chk (room (x29.2.2.1.length+[(x29.1+y37.1)].length) 8) (chk (a0w (x29.2.1+1)) (some (.nx ((x29.1+y37.1),(x29.2.1+1),(x29.2.2.1++[(x29.1+y37.1)]),y37.2))))) else some (.ex (x29.2.2.1,x29.2.2.2))
def e3l (t_:x8) (n_:Int):Option ((List Int)×x8) :=
 (F_0 t_ 4).bind fun y2=>(loop (g5r n_) (y2.1,0,[],y2.2)).bind fun r38=>some (r38.1,r38.2)
def g8q:List (Nat×RN):=[(1,⟨[],[.k 0 1],[]⟩),(2,⟨[],[.c 1 0 [1000] []],[]⟩),(5,⟨[.gc [0,1,5,6,7]],[],[]⟩),(6,⟨[],[.c 2 0 [1000] []],[]⟩)]
@[irreducible] def e81:MC:=rdc (cK Tryz.prog Tryz.f29 g8q [] 4)
instance:LI e81 0 0 [0,1] [] (fun y:Int×Int×(List Int)×x8=>[(5,.osl 2005 1 0 y.2.2.1.length),(6,.int .i64 y.1),(7,.int .i64 y.2.1)]) (fun y=>[.o 2005 (.arr 1 (y.2.2.1.map (V.int .i64))),.o 1000 (.cells [.sl (y.2.2.2.L.map (V.int .i64)),.int .i64 y.2.2.2.at_])]) [.gc [0,1,5,6,7],.acc 5 2005 1]:=⟨⟩
instance h73 {t_:x8} {n_:Int}:WI (e3l t_ n_) Tryz.prog 29 [.ptr 1000 0,.int .i64 n_] [(1000,.cells [.sl (t_.L.map (V.int .i64)),.int .i64 t_.at_])] (fun z=>.sl (z.1.map (V.int .i64))) (fun z=>[(1000,.cells [.sl (z.2.L.map (V.int .i64)),.int .i64 z.2.at_])]):=wX Tryz.func29 g8q [(4,e81)] [.fz 4] [1000] (h:=fun _ _ h hQ M=>by unfold e3l at h;exact tX)
def g9d (k12:Int) (a11:Str) (x10:List Str):Option (Fl (List Str) Empty) :=
 chk (room (x10.length+[a11].length) 16) (some (.nx (x10++[a11])))
def g6t (jD:Str):Option (List Str) :=
 (forL g9d (a1s jD) 0 []).bind fun o=>o.elim (fun x13=>some x13) (fun r14=>none)
def g8p:List (Nat×RN):=[(30000003,⟨[.ownC 2 0 4032 1 none],[],[]⟩)]
@[irreducible] def d8h:MC:=rdc (cK Tryz.prog Tryz.f129 g8p [] 3)
def e8q:MC:=rdc (cT Tryz.prog Tryz.f129 g8p [(3,d8h)])
instance h71 {jD:Str}:WI (g6t jD) Tryz.prog 129 [.nils,.fn (.func 130) [.ptr 1000 0]] [(1000,.cells [.str jD])] (fun z=>.sl (z.map V.str)) (fun z=>[]):=⟨fun Q Q' h hQ=>by
 refine a2m e8q [.fz 4] [] [.t 4] Tryz.func129 fun M=>?_
 unfold g6t at h
 unfold e8q
 replace h:=tY h
 refine tB ?_
 repeat' (first
 | (exact tZ)
 | ((first|refine b5l h ?_|refine a5u h ?_|refine b5p h ?_|refine b5o h ?_|refine b5u h ?_|refine appG h ?_|refine b5w h ?_|refine fork h ?_ ?_|refine a5w h ?_ ?_)<;>clear h<;>intro hc h)
 | (refine M.rforC (b:=d8h) (enc:=fun a=>[.str a]) _ [1000,2] [] (fun x=>[.o 2 (.cells [.osl 4032 1 0 x.length]),.o 4032 (.arr 1 (x.map V.str))]) [.gc [0,1,2,4,6],.ownC 2 0 4032 1 none] h rfl (h81 _ _) ⟨rfl,trivial,rfl,trivial⟩ rfl (fun a=>⟨rfl,rfl⟩) ?_ (g1x rfl) ?_ rfl ?_<;>first
 | (clear h;intro k a x Qn K hK1 hkN1 h hf;clear hf;unfold g9d at h;unfold d8h;replace h:=tY h;refine tB ?_)
  |(clear h;intro x h;replace h:=tY h;refine tB ?_)
  |(clear h;(try refine tB ?_);exact tU0;done))
 | (refine hK1 _ ?_;(try refine tB ?_);refine ⟨_,h,?_⟩;exact tU0;done)
 | (refine tE ?_;(first|rw [M.lok_compU]|rw [M.lokD_compU]);refine tB ?_)
 | (refine tA ?_)
 | fail)⟩
def g46 (jD:Str):Option (List Str) :=
 (g6t jD).bind fun y2=>some y2
instance g39 {jD:Str}:WI (g46 jD) Tryz.prog 66 [.fn (.func 130) [.ptr 1000 0]] [(1000,.cells [.str jD])] (fun z=>.sl (z.map V.str)) (fun z=>[]):=wX Tryz.func66 [(1,⟨[],[.c 1 1 [1000] []],[]⟩)] [] [.fz 2] (h:=fun _ _ h hQ M=>by unfold g46 at h;exact tX)
def g41 (s_:Str) (tC:Str):Option Bool :=
 jn (α:=Bool) (bif decide ((tC.length:Int)≤(s_.length:Int)) then chk (a0w ((s_.length:Int) - (tC.length:Int))) (chk (inc ((s_.length:Int) - (tC.length:Int)) (s_.length:Int) s_.length) (some (decide ((s_.drop ((((s_.length:Int) - (tC.length:Int))).toNat))=tC)))) else some false) fun j2=>some j2
instance e9s {m:List MOp}:GI (gjt 2540106 m) [4] [] (fun y:Bool=>[(20,.bool y)]) (fun y=>[]):=⟨⟩
instance h1h {s_ tC:Str}:WJ (g41 s_ tC) 254 [.str s_,.str tC] .bool:=wX Tryz.func254 [(1,⟨[],[],[.w 6 15 2540106]⟩)] (h:=fun _ _ h hQ M=>by unfold g41 at h;exact tX)
def g40 (s_:Str) (tC:Str):Option Str :=
 (g41 s_ tC).bind fun y4=>bif y4 then chk (a0w ((s_.length:Int) - (tC.length:Int))) (chk (inc 0 ((s_.length:Int) - (tC.length:Int)) s_.length) (some (s_.take ((((s_.length:Int) - (tC.length:Int))).toNat)))) else some s_
instance h1g {s_ tC:Str}:WJ (g40 s_ tC) 203 [.str s_,.str tC] .str:=wX Tryz.func203 (h:=fun _ _ h hQ M=>by unfold g40 at h;exact tX)
def g3z (s_:Str) (tC:Str):Option Str :=
 (g40 s_ tC).bind fun y2=>some y2
instance h1f {s_ tC:Str}:WJ (g3z s_ tC) 132 [.str s_,.str tC] .str:=wX Tryz.func132 (h:=fun _ _ h hQ M=>by unfold g3z at h;exact tX)
def g3y (f_:a4s) (p_:List Str):Option Bool :=
 chk (inb 0 p_.length) (some (decide (f_.qL=(p_.getD 0 default))))
instance h1e {f_:a4s} {p_:List Str}:WI (g3y f_ p_) Tryz.prog 135 [a4s.v f_,.ptr 1000 0] [(1000,.cells [.sl (p_.map V.str)])] (fun z=>.bool z) (fun z=>[(1000,.cells [.sl (p_.map V.str)])]):=wX Tryz.func135 [] [] [] [1000] (h:=fun _ _ h hQ M=>by unfold g3y at h;exact tX)
@[go_sem] def g9m (jB:List Str) (k31:Int) (a32:a4s) (x30:Unit):Option (Fl Unit Int) :=
 (g3y a32 jB).bind fun y40=>bif y40 then some (.ex k31) else some (.nx ())
def g6e (s_:List a4s) (jB:List Str):Option Int :=
 (forL (g9m jB) s_ 0 ()).bind fun o=>o.elim (fun x41=>some (-1)) (fun r42=>some r42)
def g7p:List (Nat×RN):=[(4,⟨[],[.c 5 0 [1000] []],[]⟩)]
@[irreducible] def e6g:MC:=rdc (cK Tryz.prog Tryz.f133 g7p [] 2)
instance:LI e6g 8 7 [0,1,7] [1000] (fun y:Unit=>[]) (fun y=>[]) []:=⟨⟩
instance h4u {s_:List a4s} {jB:List Str}:WI (g6e s_ jB) Tryz.prog 133 [.sl (s_.map a4s.v),.fn (.func 135) [.ptr 1000 0]] [(1000,.cells [.sl (jB.map V.str)])] (fun z=>.int .i64 z) (fun z=>[(1000,.cells [.sl (jB.map V.str)])]):=wX Tryz.func133 g7p [(2,e6g)] [] [1000] (h:=fun _ _ h hQ M=>by unfold g6e at h;exact tX)
@[go_sem] def g9l (c_:l6) (k130:Int) (a131:a1w) (x129:List Str):Option (List Str) :=
 bif a131.kH.isSome then bif decide (a131.kH=some 256) then (f4i c_).bind fun y157=>chk (room (x129.length+[c_.Name].length) 16) (some (x129++[c_.Name])) else bif decide (a131.kH=some 257) then (f4j c_).bind fun y156=>chk (room (x129.length+[c_.Other].length) 16) (some (x129++[c_.Other])) else none else bif decide (a131.n_=some 255) then (f4f c_).bind fun y162=>(b2z c_.Time).bind fun y163=>chk (room (x129.length+[y163].length) 16) (some (x129++[y163])) else bif decide (a131.n_=some 258) then (f4g c_).bind fun y160=>(b2z c_.A).bind fun y161=>chk (room (x129.length+[y161].length) 16) (some (x129++[y161])) else bif decide (a131.n_=some 259) then (f4h c_).bind fun y158=>(b2z c_.B).bind fun y159=>chk (room (x129.length+[y159].length) 16) (some (x129++[y159])) else none
def g6d (c_:l6):Option Str :=
 e1l.bind fun y2=>chk (a0w (c_.Kind - 1)) (chk (inb (c_.Kind - 1) y2.length) ((foldL (g9l c_) ((y2.getD ((c_.Kind - 1)).toNat default).gI) 0 [(y2.getD ((c_.Kind - 1)).toNat default).qL]).bind fun x164=>(c58 x164 [32]).bind fun y166=>chk (c48 (y166.length+[10].length)) (some (y166++[10]))))
def g7o:List (Nat×RN):=[(2,⟨[.gc [1,3]],[],[]⟩),(7,⟨[],[.c 3 0 [1] []],[]⟩),(8,⟨[],[.c 3 0 [1] []],[]⟩),(10,⟨[],[],[.n 1 (.fz 44)]⟩)]
@[irreducible] def e6f:MC:=rdc (cK Tryz.prog Tryz.f137 g7o [] 4)
instance:LI e6f 19 18 [1,17,18] [1] (fun y:List Str=>[(4,.osl 2004 1 0 y.length)]) (fun y=>[.o 2004 (.arr 1 (y.map V.str))]) [.gc [1,4,17,18,19],.acc 4 2004 1]:=⟨⟩
instance h4t {c_:l6}:WJ (g6d c_) 137 [l6.v c_] .str:=wX Tryz.func137 g7o [(4,e6f)] (h:=fun _ _ h hQ M=>by have:SwA [(1000,1)]:=⟨⟩;unfold g6d at h;exact tX)
@[go_sem] def g9k (y4:List Str) (k215:Int) (a216:a1w) (x214:l6):Option (Fl l6 (l6×Bool)) :=
 bif a216.kH.isSome then bif decide (a216.kH=some 256) then (f4i x214).bind fun y263=>chk (inb (k215+1) y4.length) (some (.nx (l6.mk x214.Kind (y4.getD ((k215+1)).toNat default) x214.Other x214.Time x214.A x214.B))) else bif decide (a216.kH=some 257) then (f4j x214).bind fun y262=>chk (inb (k215+1) y4.length) (some (.nx (l6.mk x214.Kind x214.Name (y4.getD ((k215+1)).toNat default) x214.Time x214.A x214.B))) else none else chk (inb (k215+1) y4.length) ((a5y (y4.getD ((k215+1)).toNat default)).bind fun y265=>bif (!y265.2) then some (.ex ((l6.mk 0 [] [] 0 0 0),false)) else bif decide (a216.n_=some 255) then (f4f x214).bind fun y268=>some (.nx (l6.mk x214.Kind x214.Name x214.Other y265.1 x214.A x214.B)) else bif decide (a216.n_=some 258) then (f4g x214).bind fun y267=>some (.nx (l6.mk x214.Kind x214.Name x214.Other x214.Time y265.1 x214.B)) else bif decide (a216.n_=some 259) then (f4h x214).bind fun y266=>some (.nx (l6.mk x214.Kind x214.Name x214.Other x214.Time x214.A y265.1)) else none)
def g6c (kG:Str):Option (l6×Bool) :=
 (g3z kG [10]).bind fun y3=>(d4x y3 [32]).bind fun y4=>e1l.bind fun y7=>(g6e y7 y4).bind fun y8=>bif decide (y8<0) then some ((l6.mk 0 [] [] 0 0 0),false) else e1l.bind fun y12=>chk (inb y8 y12.length) (chk (a0w (1+(((y12.getD (y8).toNat default).gI).length:Int))) (bif (!decide ((y4.length:Int)=(1+(((y12.getD (y8).toNat default).gI).length:Int)))) then some ((l6.mk 0 [] [] 0 0 0),false) else chk (a0w (y8+1)) (e1l.bind fun y130=>chk (inb y8 y130.length) ((forL (g9k y4) ((y130.getD (y8).toNat default).gI) 0 (l6.mk (y8+1) [] [] 0 0 0)).bind fun o=>o.elim (fun x269=>(f9p x269).bind fun y273=>bif y273 then (g6d x269).bind fun y274=>some (x269,decide (y274=kG)) else some (x269,false)) (fun r270=>some r270)))))
def g7n:List (Nat×RN):=[(2,⟨[],[.c 2 0 [4] []],[]⟩),(4,⟨[.gc [2]],[],[]⟩),(5,⟨[.gc [0,2,4,5,80,81,82,83]],[],[]⟩),(10,⟨[],[.c 2 0 [6] []],[]⟩),(13,⟨[.gc [2]],[],[]⟩),(14,⟨[.gc [0,2,4,6,8,9,39,40,41,80,81,82,83]],[.c 2 0 [6] []],[]⟩)]
@[irreducible] def e6e:MC:=rdc (cK Tryz.prog Tryz.f68 g7n [] 7)
instance:LI e6e 41 40 [0,2,4,6,39,40] [4,2] (fun y:l6=>[]) (fun y=>[.o 6 (.cells [.int .i64 y.Kind,.str y.Name,.str y.Other,.int .i64 y.Time,.int .i64 y.A,.int .i64 y.B])]) []:=⟨⟩
instance h4s {kG:Str}:WJ (g6c kG) 68 [.str kG] fun z=>.tup [l6.v z.1,.bool z.2]:=wX Tryz.func68 g7n [(7,e6e)] (h:=fun _ _ h hQ M=>by have:SwA [(1000,4)]:=⟨⟩;have:SwB [(1000,6)]:=⟨⟩;unfold g6c at h;exact tX)
def g9p (k49:Int) (a50:Str) (x48:List l6):Option (Fl (List l6) ((List l6)×Int×Int)) :=
 (g6c a50).bind fun y58=>bif (!y58.2) then some (.ex ([],k49,45)) else chk (room (x48.length+[y58.1].length) 64) (some (.nx (x48++[y58.1])))
def f9x (kG:Str):Option ((List l6)×Int×Int) :=
 (g7a kG).bind fun y3=>(g46 kG).bind fun y4=>bif decide (60<(y4.length:Int)) then some ([],60,3) else (forL g9p y4 0 []).bind fun o=>o.elim (fun x59=>some (x59,0,0)) (fun r60=>some r60)
def g8x:List (Nat×RN):=[(1,⟨[],[.c 1 0 [] [12],.c 2 0 [12] []],[]⟩),(3,⟨[.gc []],[],[]⟩),(4,⟨[],[.k 0 1],[]⟩),(5,⟨[.gc [5,6]],[],[]⟩),(10,⟨[.gc [7]],[],[]⟩),(11,⟨[.gc [6,9,17,18,19]],[],[]⟩)]
@[irreducible] def d2d:MC:=rdc (cK Tryz.prog Tryz.f25 g8x [] 6)
def e8r:MC:=rdc (cT Tryz.prog Tryz.f25 g8x [(6,d2d)])
instance h7k {kG:Str}:WI (f9x kG) Tryz.prog 25 [.str kG] [] (fun z=>.tup [.sl (z.1.map l6.v),.int .i64 z.2.1,.int .i64 z.2.2]) (fun z=>[]):=⟨fun Q Q' h hQ=>by
 refine a2m e8r [.fz 2] [] [.t 2,.t 3,.t 4] Tryz.func25 fun M=>?_
 unfold f9x at h
 unfold e8r
 replace h:=tY h
 refine tB ?_
 repeat' (first
 | (exact tZ)
 | ((first|refine b5l h ?_|refine a5u h ?_|refine b5p h ?_|refine b5o h ?_|refine b5u h ?_|refine appG h ?_|refine b5w h ?_|refine fork h ?_ ?_|refine a5w h ?_ ?_)<;>clear h<;>intro hc h)
 | (obtain ⟨y,hy,h⟩:=h;(first|have hw:=a03 1900 12 (h7z hy)|have hw:=a03 1000 12 (g39.c.w hy)|have hw:=WI.w hy);replace hw:=tY hw;(first|refine M.sC hw ?_|refine M.sD hw ?_);clear hw hy;refine tB ?_)
 | (refine M.for1 (b:=d2d) 19 [17,18] [] (fun x=>[(6,.osl 2006 6 0 x.length)]) (fun x=>[.o 2006 (.arr 6 (x.map l6.v))]) [.gc [6,17,18,19],.acc 6 2006 6] h ?_ ?_ ?_<;>first
 | (clear h;intro k a x Qn K hK1 hkN1 ha1 h hf;have hl:=a4o (a1m (n:=18) hf.1 rfl);clear hf;have hkd:=kD hkN1;have hkB1:=kB hkN1;have hkI1:=kI (k:=k) (by omega);unfold g9p at h;unfold d2d;replace h:=tY h;refine tK ha1 hkd hkN1 hkB1 hkI1 ?_)
  |(clear h;intro x K h;replace h:=And.left (And.intro h trivial);unfold d2d;replace h:=tY h;refine tB ?_)
  |(clear h;(try refine tB ?_);exact tU0;done))
 | (simp only [ha1])
 | (refine hK1 _ ?_;(try refine tB ?_);refine ⟨_,h,?_⟩;exact tU0;done)
 | (refine tE ?_;(first|rw [M.lok_compU]|rw [M.lokD_compU]);refine tB ?_)
 | (refine tA ?_)
 | fail)⟩
def d5w (n_:Int) (qD:Int) (jC:Int):Option Bool :=
 grp ((decide (qD≤n_)&&decide (n_≤jC))) fun b2=>some b2
instance h6g {n_ qD jC:Int}:WJ (d5w n_ qD jC) 218 [.int .i64 n_,.int .i64 qD,.int .i64 jC] .bool:=wX Tryz.func218 [(1,⟨[],[],[.v 4 7]⟩)] (h:=fun _ _ h hQ M=>by unfold d5w at h;exact tX)
def F_s (jA:Int):Option Bool := (d5w jA 0 63).bind fun y2=>some y2
instance h8l {jA:Int}:WJ (F_s jA) 225 [.int .i64 jA] .bool:=wX Tryz.func225 (h:=fun _ _ h hQ M=>by unfold F_s at h;exact tX)
def d0p (a_:l5) (qA:Int):Option Bool :=
 chk (a0w (a_.Places - 1)) ((d5w qA 0 (a_.Places - 1)).bind fun y2=>some y2)
instance h7j {a_:l5} {qA:Int}:WJ (d0p a_ qA) 222 [l5.v a_,.int .i64 qA] .bool:=wX Tryz.func222 (h:=fun _ _ h hQ M=>by unfold d0p at h;exact tX)
def f6a (a_:l5) (x_:o7):Option Bool :=
 jn (α:=Bool×o7) (jn (α:=Bool) (bif decide (x_.Kind=1) then some true else some (decide (x_.Kind=2))) fun j7=>bif j7 then (d5w x_.Principal 0 23).bind fun y8=>some (y8,(o7.mk x_.Time x_.Kind x_.Place x_.Principal 0 0 0)) else bif decide (x_.Kind=3) then bif decide (x_.Time<x_.Until) then some (decide (x_.Until≤1099511627776),(o7.mk x_.Time x_.Kind x_.Place 0 x_.Until 0 0)) else some (false,(o7.mk x_.Time x_.Kind x_.Place 0 x_.Until 0 0)) else bif decide (x_.Kind=4) then some (true,(o7.mk x_.Time x_.Kind x_.Place 0 0 0 0)) else jn (α:=Bool) (bif decide (x_.Kind=5) then some true else some (decide (x_.Kind=6))) fun j9=>bif j9 then (F_s x_.Content).bind fun y10=>some (y10,(o7.mk x_.Time x_.Kind x_.Place 0 0 x_.Content 0)) else bif decide (x_.Kind=7) then (d0p a_ x_.From).bind fun y11=>bif y11 then some ((!decide (x_.From=x_.Place)),(o7.mk x_.Time x_.Kind x_.Place 0 0 0 x_.From)) else some (false,(o7.mk x_.Time x_.Kind x_.Place 0 0 0 x_.From)) else some (false,(o7.mk x_.Time x_.Kind x_.Place 0 0 0 0))) fun j6=>jn (α:=Bool) (bif j6.1 then (d0p a_ x_.Place).bind fun y16=>some y16 else some false) fun j17=>grp ((j17&&(decide (x_.Time=j6.2.Time)&&(decide (x_.Kind=j6.2.Kind)&&(decide (x_.Place=j6.2.Place)&&(decide (x_.Principal=j6.2.Principal)&&(decide (x_.Until=j6.2.Until)&&(decide (x_.Content=j6.2.Content)&&decide (x_.From=j6.2.From))))))))) fun b18=>some b18
def f6z:List (Nat×RN):=[(16,⟨[],[],[.w 2 6 2191602,.v 8 11]⟩)]
@[irreducible] def d2b:MC:=rdc (cK Tryz.prog Tryz.f219 f6z [] 10000013)
@[irreducible] def d8g:MC:=rdc (cK Tryz.prog Tryz.f219 f6z [(10000013,d2b)] 10000006)
@[irreducible] def e67:MC:=rdc (cK Tryz.prog Tryz.f219 f6z [(10000013,d2b),(10000006,d8g)] 10000016)
instance:LI d2b 0 0 [2,3,5,6,15] [5,3,2] (fun y:Bool=>[(42,.bool y)]) (fun y=>[]) []:=⟨⟩
instance:LI d8g 0 0 [2,3,5,6,15] [5,3,2] (fun y:Bool=>[(16,.bool y)]) (fun y=>[]) []:=⟨⟩
instance e9u {m:List MOp}:GI (gjt 2191602 m) [3,5] [5,3] (fun y:Bool=>[(73,.bool y)]) (fun y=>[]):=⟨⟩
instance:LI e67 0 0 [2,3,5] [3,2] (fun y:Bool×o7=>[(6,.bool y.1)]) (fun y=>[.o 5 (.cells [.int .i64 y.2.Time,.int .i64 y.2.Kind,.int .i64 y.2.Place,.int .i64 y.2.Principal,.int .i64 y.2.Until,.int .i64 y.2.Content,.int .i64 y.2.From])]) []:=⟨⟩
instance h7i {a_:l5} {x_:o7}:WJ (f6a a_ x_) 219 [l5.v a_,o7.v x_] .bool:=wX Tryz.func219 f6z [(10000013,d2b),(10000006,d8g),(10000016,e67)] (h:=fun _ _ h hQ M=>by unfold f6a at h;exact tX)
@[go_sem] def f9d (a_:l5) (k137:Int) (a138:o7) (x136:Int):Option (Fl Int Int) :=
 grp ((decide (a138.Time<x136)||decide (1099511627776<a138.Time))) fun b169=>bif b169 then some (.ex 34) else (f6a a_ a138).bind fun y170=>bif (!y170) then some (.ex 34) else some (.nx a138.Time)
def F_9 (a_:l5):Option Int := (d5w a_.Places 1 16).bind fun y7=>grp (((!y7)||decide (120<(a_.Events.length:Int)))) fun b8=>bif b8 then some 34 else (forL (f9d a_) a_.Events 0 0).bind fun o=>o.elim (fun x171=>some 0) (fun r172=>some r172)
def a_9:List (Nat×RN):=[(1,⟨[],[],[.v 5 9]⟩),(4,⟨[.gc [1,3,28,29,30,33,34,35,36]],[],[]⟩),(7,⟨[],[],[.v 5 8]⟩),(9,⟨[.gc [1,5,17,18,19,28,29,30,33,34,35,36]],[],[]⟩)]
@[irreducible] def e8e:MC:=rdc (cK Tryz.prog Tryz.f153 a_9 [] 5)
instance:LI e8e 19 18 [1,17,18] [1] (fun y:Int=>[(3,.int .i64 y)]) (fun y=>[]) []:=⟨⟩
instance h93 {a_:l5}:WJ (F_9 a_) 153 [l5.v a_] (.int .i64):=wX Tryz.func153 a_9 [(5,e8e)] (h:=fun _ _ h hQ M=>by unfold F_9 at h;exact tX)
def d5v (d_:d9) (a_:l5):Option Int :=
 (F_r d_).bind fun y4=>bif (!decide (y4=0)) then some y4 else (F_9 a_).bind fun y6=>some y6
instance h6f {d_:d9} {a_:l5}:WJ (d5v d_ a_) 221 [d9.v d_,l5.v a_] (.int .i64):=wX Tryz.func221 [(4,⟨[.gc [3]],[],[]⟩)] (h:=fun _ _ h hQ M=>by unfold d5v at h;exact tX)
def F_1 (a_:l5) (qA:Int):Option Bool := (F_9 a_).bind fun y4=>jn (α:=Bool) (bif decide (y4=0) then (d0p a_ qA).bind fun y6=>some y6 else some false) fun j7=>some j7
instance e9r {m:List MOp}:GI (gjt 2640104 m) [4] [] (fun y:Bool=>[(12,.bool y)]) (fun y=>[]):=⟨⟩
instance h9c {a_:l5} {qA:Int}:WJ (F_1 a_ qA) 264 [l5.v a_,.int .i64 qA] .bool:=wX Tryz.func264 [(1,⟨[],[],[.w 4 7 2640104]⟩)] (h:=fun _ _ h hQ M=>by unfold F_1 at h;exact tX)
def f7g (qA:Int) (t_:Int) (k24:Int) (a19:Int×o7) (x18:Unit):Option (Fl Unit (Int×Bool)) :=
 grp ((decide (t_<a19.2.Time)||(!decide (a19.2.Place=qA)))) fun b26=>bif b26 then some (.nx ()) else bif decide (a19.2.Kind=4) then some (.ex (0,false)) else grp ((decide (a19.2.Kind=3)&&decide (t_<a19.2.Until))) fun b28=>bif b28 then some (.ex (a19.1,true)) else some (.nx ())
def F_2 (a_:l5) (qA:Int) (t_:Int):Option (Int×Bool) := (F_1 a_ qA).bind fun y4=>bif (!y4) then some (0,false) else (e0j a_.Events).bind fun y17=>(forL (f7g qA t_) (d0g a_.Events) 0 ()).bind fun o=>o.elim (fun x29=>some (0,false)) (fun r30=>some r30)
@[irreducible] def d7y:List MOp:=rdc (cG Tryz.prog Tryz.f223 [] 6 5 9)
@[irreducible] def d7x:List MOp:=rdc (cG Tryz.prog Tryz.f223 [] 9 4 8)
def a_2:List (Nat×RN):=[(6,⟨[.gc [4,5,6,7,8,9,25,26,27,28,39,40,41,42]],[],[.u 5 9 d7y]⟩),(7,⟨[.gc [5,6,7,8,9,39,40,41,42]],[],[]⟩),(9,⟨[],[],[.u 4 8 d7x]⟩),(10,⟨[.gc [6,7,8]],[],[]⟩)]
@[irreducible] def d8f:MC:=rdc (cK Tryz.prog Tryz.f223 a_2 [] 6)
def g78:MC:=rdc (cT Tryz.prog Tryz.f223 a_2 [(6,d8f)])
instance h9b {a_:l5} {qA t_:Int}:WI (F_2 a_ qA t_) Tryz.prog 223 [l5.v a_,.int .i64 qA,.int .i64 t_] [] (fun z=>.tup [.int .i64 z.1,.bool z.2]) (fun z=>[]):=⟨fun Q Q' h hQ=>by
 refine a2m g78 [] [] [.c 6 none,.c 7 none] Tryz.func223 fun M=>?_
 unfold F_2 at h
 unfold g78
 replace h:=tY h
 refine tB ?_
 repeat' (first
 | (exact tZ)
 | ((first|refine b5l h ?_|refine a5u h ?_|refine b5p h ?_|refine b5o h ?_|refine b5u h ?_|refine appG h ?_|refine b5w h ?_|refine fork h ?_ ?_|refine a5w h ?_ ?_)<;>clear h<;>intro hc h)
 | (obtain ⟨y,hy,h⟩:=h;(first|have hw:=h7w (f:=o7.v) hy|have hw:=WI.w hy);replace hw:=tY hw;(first|refine M.sC hw ?_|refine M.sD hw ?_);clear hw hy;refine tB ?_)
 | (refine M.gv1 (ms:=d7x) 43 [39,40,41,42] h ?_ ?_<;>first
 | (clear h;intro K hK1;unfold d7x;refine tB ?_)
 | (clear h;intro b h;replace h:=tY h;refine tB ?_))
 | (refine M.gv1 (ms:=d7y) 29 [25,26,27,28] h ?_ ?_<;>first
 | (clear h;intro K hK2;unfold d7y;refine tB ?_)
 | (clear h;intro b h;replace h:=tY h;refine tB ?_))
 | (refine M.rfor (b:=d8f) (enc:=fun a=>[.int .i64 a.1,o7.v a.2]) [3,4,5,6,7] [3,7,6,5,4] (fun x=>[]) [] h rfl (h7v fun a=>⟨_,rfl,rfl,rfl⟩) rfl (fun a=>⟨rfl,rfl⟩) ?_ ?_ rfl ?_<;>first
 | (clear h;intro k a x Qn K hK3 hkN3 h hf;clear hf;unfold f7g at h;unfold d8f;replace h:=tY h;refine tB ?_)
  |(clear h;intro x h;replace h:=tY h;refine tB ?_)
  |(clear h;(try refine tB ?_);exact tU0;done))
 | ((first|refine hK1 _ ?_|refine hK2 _ ?_);exact tU;done)
 | (refine hK3 _ ?_;(try refine tB ?_);refine ⟨_,h,?_⟩;exact tU0;done)
 | (refine e0g (fun hc=>?_) (fun hc=>?_))
 | (refine tE ?_;(first|rw [M.lok_compU]|rw [M.lokD_compU]);refine tB ?_)
 | (refine tA ?_)
 | fail)⟩
def f4d (d_:d9) (p_:Int):Option Bool :=
 grp ((decide (0≤p_)&&decide (p_<(d_.Kinds.length:Int)))) fun b3=>jn (α:=Bool) (bif b3 then chk (inb p_ d_.Kinds.length) (some (!decide ((d_.Kinds.getD (p_).toNat default)=2))) else some false) fun j4=>some j4
instance e9o {m:List MOp}:GI (gjt 2970110 m) [4] [] (fun y:Bool=>[(21,.bool y)]) (fun y=>[]):=⟨⟩
instance h3y {d_:d9} {p_:Int}:WJ (f4d d_ p_) 297 [d9.v d_,.int .i64 p_] .bool:=wX Tryz.func297 [(1,⟨[],[],[.v 3 8,.w 10 16 2970110]⟩)] (h:=fun _ _ h hQ M=>by unfold f4d at h;exact tX)
def e3a (d_:d9) (a_:l5) (p_:Int) (qA:Int):Option Bool :=
 (d5v d_ a_).bind fun y6=>jn (α:=Bool) (bif decide (y6=0) then (f4d d_ p_).bind fun y8=>some y8 else some false) fun j9=>jn (α:=Bool) (bif j9 then (d0p a_ qA).bind fun y11=>some y11 else some false) fun j12=>some j12
instance e9p {m:List MOp}:GI (gjt 2660110 m) [8] [] (fun y:Bool=>[(22,.bool y)]) (fun y=>[]):=⟨⟩
instance e9q {m:List MOp}:GI (gjt 2660105 m) [3,5,8] [5] (fun y:Bool=>[(17,.bool y)]) (fun y=>[]):=⟨⟩
instance h4r {d_:d9} {a_:l5} {p_ qA:Int}:WJ (e3a d_ a_ p_ qA) 266 [d9.v d_,l5.v a_,.int .i64 p_,.int .i64 qA] .bool:=wX Tryz.func266 [(1,⟨[],[],[.w 5 8 2660105,.w 10 13 2660110]⟩)] (h:=fun _ _ h hQ M=>by unfold e3a at h;exact tX)
def e2z (d_:d9) (p_:Int):Option Bool :=
 (F_r d_).bind fun y4=>jn (α:=Bool) (bif decide (y4=0) then (e1k d_ p_).bind fun y6=>some y6 else some false) fun j7=>some j7
instance e9n {m:List MOp}:GI (gjt 3160104 m) [4] [] (fun y:Bool=>[(12,.bool y)]) (fun y=>[]):=⟨⟩
instance h4q {d_:d9} {p_:Int}:WJ (e2z d_ p_) 316 [d9.v d_,.int .i64 p_] .bool:=wX Tryz.func316 [(1,⟨[],[],[.w 4 7 3160104]⟩)] (h:=fun _ _ h hQ M=>by unfold e2z at h;exact tX)
@[go_sem] def e3k (k351:Int) (a352:Bool) (x350:(List Int)×(List Bool)):Option ((List Int)×(List Bool)) :=
 jn (α:=Bool) (bif a352 then chk (inb k351 x350.2.length) (some (!(x350.2.getD ((k351).toNat) default))) else some false) fun j360=>bif j360 then chk (room (x350.1.length+[k351].length) 8) (chk (inb k351 x350.2.length) (some ((x350.1++[k351]),x350.2.set ((k351).toNat) true))) else some (x350.1,x350.2)
@[go_sem] def f4o (x_:List (List Bool)) (x257:(List Int)×(List Bool)):Option (Fl ((List Int)×(List Bool)) (List Bool)) :=
 bif decide (0<(x257.1.length:Int)) then chk (inb 0 x257.1.length) (chk (inb (x257.1.getD 0 default) x_.length) ((foldL e3k (x_.getD (x257.1.getD 0 default).toNat default) 0 (x257.1,x257.2)).bind fun x361=>chk (inc 1 (x361.1.length:Int) x361.1.length) (some (.nx ((x361.1.drop 1).take (x361.1.length - 1),x361.2))))) else some (.ex x257.2)
def F_t (x_:List (List Bool)) (p_:Int):Option (List Bool) := chk (b2y (x_.length:Int) (x_.length:Int) 1) (chk (inb p_ (List.replicate ((x_.length:Int)).toNat false).length) ((loop (f4o x_) ([p_],(List.replicate ((x_.length:Int)).toNat false).set ((p_).toNat) true)).bind fun r362=>some r362))
def a_t:List (Nat×RN):=[(9,⟨[],[],[.w 2 7 3190902]⟩)]
@[irreducible] def d92:MC:=rdc (cK Tryz.prog Tryz.f319 a_t [] 7)
@[irreducible] def e8i:MC:=rdc (cK Tryz.prog Tryz.f319 a_t [(7,d92)] 4)
instance e9m {m:List MOp}:GI (gjt 3190902 m) [0,5,6,7,27,28,29] [2006,11] (fun y:Bool=>[(41,.bool y)]) (fun y=>[]):=⟨⟩
instance:LI d92 29 28 [0,27,28] [] (fun y:(List Int)×(List Bool)=>[(5,.osl 11 1 0 y.2.length),(6,.osl 2006 1 0 y.1.length)]) (fun y=>[.o 2006 (.arr 1 (y.1.map (V.int .i64))),.o 11 (.arr 1 (y.2.map V.bool))]) [.gc [0,5,6,27,28,29],.acc 6 2006 1]:=⟨⟩
instance:LI e8i 0 0 [0] [] (fun y:(List Int)×(List Bool)=>[(5,.osl 11 1 0 y.2.length),(6,.osl 2006 1 0 y.1.length)]) (fun y=>[.o 2006 (.arr 1 (y.1.map (V.int .i64))),.o 11 (.arr 1 (y.2.map V.bool))]) [.gc [0,5,6],.trim 6,.acc 6 2006 1]:=⟨⟩
instance h8k {x_:List (List Bool)} {p_:Int}:WJ (F_t x_ p_) 319 [.sl (x_.map (slV V.bool)),.int .i64 p_] fun z=>.sl (z.map V.bool):=wX Tryz.func319 a_t [(7,d92),(4,e8i)] [.fz 4] (h:=fun _ _ h hQ M=>by unfold F_t at h;exact tX)
@[go_sem] def f9c (k16:Int) (a17:Bool) (x15:List Int):Option (List Int) :=
 bif a17 then chk (room (x15.length+[k16].length) 8) (some (x15++[k16])) else some x15
def e1t (l_:List Bool):Option (List Int) :=
 (foldL f9c l_ 0 []).bind fun x18=>some x18
def g8w:List (Nat×RN):=[(1,⟨[],[.k 0 1],[]⟩)]
@[irreducible] def e8d:MC:=rdc (cK Tryz.prog Tryz.f317 g8w [] 3)
instance:LI e8d 8 7 [6,7] [] (fun y:List Int=>[(3,.osl 2003 1 0 y.length)]) (fun y=>[.o 2003 (.arr 1 (y.map (V.int .i64)))]) [.gc [3,6,7,8],.acc 3 2003 1]:=⟨⟩
instance h7h {l_:List Bool}:WJ (e1t l_) 317 [.sl (l_.map V.bool)] fun z=>.sl (z.map (V.int .i64)):=wX Tryz.func317 g8w [(3,e8d)] [.fz 2] (h:=fun _ _ h hQ M=>by unfold e1t at h;exact tX)
def F_u (d_:d9) (p_:Int) (t_:Int):Option (List Int) := (e2z d_ p_).bind fun y4=>bif (!y4) then some [] else (atF d_.Kinds.length (d_.Events.map fun e=>(e.Time,e.Kind,e.Principal,e.Group)) t_).bind fun y8=>(F_t y8 p_).bind fun y9=>(e1t y9).bind fun y10=>some y10
def g6y:MC:=rdc (cT Tryz.prog Tryz.f298 [] [])
instance h8j {d_:d9} {p_ t_:Int}:WI (F_u d_ p_ t_) Tryz.prog 298 [d9.v d_,.int .i64 p_,.int .i64 t_] [] (fun z=>.sl (z.map (V.int .i64))) (fun z=>[]):=⟨fun Q Q' h hQ=>by
 refine a2m g6y [.fz 6] [] [.t 6] Tryz.func298 fun M=>?_
 unfold F_u at h
 unfold g6y
 replace h:=tY h
 refine tB ?_
 repeat' (first
 | (exact tZ)
 | ((first|refine b5l h ?_|refine a5u h ?_|refine b5p h ?_|refine b5o h ?_|refine b5u h ?_|refine appG h ?_|refine b5w h ?_|refine fork h ?_ ?_|refine a5w h ?_ ?_)<;>clear h<;>intro hc h)
 | (obtain ⟨y,hy,h⟩:=h;(first|have hw:=h89 (f:=a0n.v) (e4:=fun e=>(e.Time,e.Kind,e.Principal,e.Group)) (fun _=>rfl) hy|have hw:=WI.w hy);replace hw:=tY hw;(first|refine M.sC hw ?_|refine M.sD hw ?_);clear hw hy;refine tB ?_)
 | (refine tE ?_;(first|rw [M.lok_compU]|rw [M.lokD_compU]);refine tB ?_)
 | (refine tA ?_)
 | fail)⟩
@[go_sem] def f9b (qA:Int) (t_:Int) (k44:Int) (a45:o7) (x43:List (Int×Int)):Option (List (Int×Int)) :=
 grp ((decide (t_<a45.Time)||(!decide (a45.Place=qA)))) fun b53=>bif b53 then some x43 else bif decide (a45.Kind=1) then some (a9f a45.Principal k44 x43) else bif decide (a45.Kind=2) then some (c07 a45.Principal x43) else some x43
def e3j (a_:l5) (qA:Int) (t_:Int):Option (List (Int×Int)) :=
 (foldL (f9b qA t_) a_.Events 0 []).bind fun x54=>some x54
def g8o:List (Nat×RN):=[(5,⟨[],[],[.v 5 9]⟩),(6,⟨[.gc [1,2,7,8,9,12,13,14,25,26,27,28]],[],[]⟩),(9,⟨[.gc [1,2,7,9,12,13,14,25,26,27,28]],[],[]⟩)]
@[irreducible] def e8c:MC:=rdc (cK Tryz.prog Tryz.f320 g8o [] 3)
instance:LI e8c 14 13 [1,2,7,12,13] [] (fun y:List (Int×Int)=>[]) (fun y=>[.o 10 (.map (.int .i64) (y.map (kvV (V.int .i64) (V.int .i64))))]) []:=⟨⟩
instance h70 {a_:l5} {qA t_:Int}:WJ (e3j a_ qA t_) 320 [l5.v a_,.int .i64 qA,.int .i64 t_] fun z=>(mpV (.int .i64) (V.int .i64) (V.int .i64)) z:=wX Tryz.func320 g8o [(3,e8c)] [.fz 6] (h:=fun _ _ h hQ M=>by unfold e3j at h;exact tX)
def f5k (k21:Int) (a19:Int×Int) (x18:List Int):Option (List Int) :=
 chk (room (x18.length+[a19.1].length) 8) (some (x18++[a19.1]))
def F_3 (a_:l5) (qA:Int) (t_:Int):Option (List Int) := (F_1 a_ qA).bind fun y4=>bif (!y4) then some [] else (e3j a_ qA t_).bind fun y15=>b7j (fun l20=>(foldL f5k l20 0 []).bind fun x22=>(b1d x22).bind fun y24=>some y24) y15
def a_3:List (Nat×RN):=[(3,⟨[],[.k 0 1],[]⟩),(8,⟨[],[.c 1 0 [2007] []],[]⟩)]
@[irreducible] def d8z:MC:=rdc (cK Tryz.prog Tryz.f299 a_3 [] 5)
def g77:MC:=rdc (cT Tryz.prog Tryz.f299 a_3 [(5,d8z)])
instance h9a {a_:l5} {qA t_:Int}:WI (F_3 a_ qA t_) Tryz.prog 299 [l5.v a_,.int .i64 qA,.int .i64 t_] [] (fun z=>.sl (z.map (V.int .i64))) (fun z=>[]):=⟨fun Q Q' h hQ=>by
 refine a2m g77 [.fz 6] [] [.t 6] Tryz.func299 fun M=>?_
 unfold F_3 at h
 unfold g77
 replace h:=tY h
 refine tB ?_
 repeat' (first
 | (exact tZ)
 | (refine And.intro (by refine ⟨?_,?_,?_,?_⟩<;>omega) ?_;first|exact hQ _ h|(rw [zP (by omega)];exact hQ _ h))
 | (rw [←hlen];exact hQ _ h)
 | (have hq:=hQ _ h;simp only [xZ,Nat.min_eq_left hlen.1] at hq;exact hq)
 | ((first|refine b5l h ?_|refine a5u h ?_|refine b5p h ?_|refine b5o h ?_|refine b5u h ?_|refine appG h ?_|refine b5w h ?_|refine fork h ?_ ?_|refine a5w h ?_ ?_)<;>clear h<;>intro hc h)
 | (obtain ⟨y,hy,h⟩:=h;(first|(have hw:=a03 1000 2007 (g3l hy);replace hw:=tY hw;(try simp only [hlen] at hw);have hlen:=b3p hy)|have hw:=WI.w hy);replace hw:=tY hw;(first|refine M.sC hw ?_|refine M.sD hw ?_);clear hw hy;refine tB ?_)
 | (refine M.mfold1 (b:=d8z) (kv:=(kvV (V.int .i64) (V.int .i64))) 17 [17] [] (fun x=>[(7,.osl 2007 1 0 x.length)]) (fun x=>[.o 2007 (.arr 1 (x.map (V.int .i64)))]) [.gc [7,17],.acc 7 2007 1] h ?_ ?_<;>first
 | (clear h;intro rem cur x k Qn K hK1 hs1 hn1;unfold f5k at hn1;unfold d8z;refine tB ?_)
 | (clear h;(try refine tB ?_);exact tU0;done))
 | (refine c7t hs1 hn1 ?_ ?_<;>first
  |(intro h;rw [M.lok_eq];replace h:=tY h;refine tB ?_)
  |(intro i a h;rw [M.lok_eq];replace h:=tY h;refine tB ?_))
 | (apply hK1;(try refine tB ?_);refine ⟨_,h,?_⟩;exact tU0;done)
 | (refine tE ?_;(first|rw [M.lok_compU]|rw [M.lokD_compU]);refine tB ?_)
 | (refine tA ?_)
 | fail)⟩
@[go_sem] def e3e (y2:List Int) (k37:Int) (a38:Int) (x36:Unit):Option (Fl Unit (Int×Bool)) :=
 (d5x y2 a38).bind fun y46=>bif y46 then some (.ex (a38,true)) else some (.nx ())
def e1s (d_:d9) (a_:l5) (p_:Int) (qA:Int) (t_:Int):Option (Int×Bool) :=
 (F_u d_ p_ t_).bind fun y2=>(F_3 a_ qA t_).bind fun y25=>(forL (e3e y2) y25 0 ()).bind fun o=>o.elim (fun x47=>some (0,false)) (fun r48=>some r48)
def g8v:List (Nat×RN):=[(2,⟨[.gc [3,4,6,12]],[],[]⟩),(6,⟨[.gc [14]],[],[]⟩)]
@[irreducible] def e8m:MC:=rdc (cK Tryz.prog Tryz.f267 g8v [] 3)
instance:LI e8m 24 23 [12,22,23] [] (fun y:Unit=>[]) (fun y=>[]) []:=⟨⟩
instance h7g {d_:d9} {a_:l5} {p_ qA t_:Int}:WJ (e1s d_ a_ p_ qA t_) 267 [d9.v d_,l5.v a_,.int .i64 p_,.int .i64 qA,.int .i64 t_] fun z=>.tup [.int .i64 z.1,.bool z.2]:=wX Tryz.func267 g8v [(3,e8m)] (h:=fun _ _ h hQ M=>by unfold e1s at h;exact tX)
def d5u (d_:d9) (a_:l5) (p_:Int) (qA:Int) (t_:Int):Option Bool :=
 (e3a d_ a_ p_ qA).bind fun y4=>bif (!y4) then some false else (F_2 a_ qA t_).bind fun y6=>(e1s d_ a_ p_ qA t_).bind fun y8=>grp ((y6.2||y8.2)) fun b10=>some b10
instance h6e {d_:d9} {a_:l5} {p_ qA t_:Int}:WJ (d5u d_ a_ p_ qA t_) 224 [d9.v d_,l5.v a_,.int .i64 p_,.int .i64 qA,.int .i64 t_] .bool:=wX Tryz.func224 [(3,⟨[.gc [2,3,4,5,6,39]],[],[]⟩),(4,⟨[.gc [2,3,4,5,6,12,39]],[],[]⟩),(5,⟨[.gc [12,14,39]],[],[.v 2 3]⟩)] (h:=fun _ _ h hQ M=>by unfold d5u at h;exact tX)
@[go_sem] def f9a (d_:d9) (a_:l5) (qA:Int) (t_:Int) (k54:Int) (a55:Int) (x53:Bool×(List Int)):Option (Bool×(List Int)) :=
 (d5u d_ a_ k54 qA t_).bind fun y63=>bif y63 then chk (room (x53.2.length+[k54].length) 8) (some (x53.1,(x53.2++[k54]))) else some (x53.1,x53.2)
def f5j (d_:d9) (a_:l5) (qA:Int) (t_:Int):Option (a1x×Int) :=
 (d5v d_ a_).bind fun y4=>bif (!decide (y4=0)) then some ((a1x.mk false []),y4) else (d0p a_ qA).bind fun y8=>bif (!y8) then some ((a1x.mk false []),6) else (F_2 a_ qA t_).bind fun y10=>(foldL (f9a d_ a_ qA t_) d_.Kinds 0 (y10.2,[])).bind fun x64=>some ((a1x.mk x64.1 x64.2),0)
def g8k:List (Nat×RN):=[(3,⟨[.gc [8,10]],[],[]⟩),(4,⟨[.gc [2,3,4,5,8]],[],[]⟩),(5,⟨[.gc [8]],[],[]⟩),(7,⟨[.gc [2,3,4,5,8,12]],[.k 1 1],[]⟩),(12,⟨[.gc [2,3,4,5,8,13,14,38,39]],[],[]⟩)]
@[irreducible] def e8b:MC:=rdc (cK Tryz.prog Tryz.f155 g8k [] 9)
instance:LI e8b 39 38 [2,3,4,5,8,13,38] [8,5,4] (fun y:Bool×(List Int)=>[]) (fun y=>[.o 13 (.cells [.bool y.1,.osl 4209 1 0 y.2.length]),.o 4209 (.arr 1 (y.2.map (V.int .i64)))]) [.gc [2,3,4,5,8,13,38,39],.ownC 13 1 4209 1 none]:=⟨⟩
instance h6d {d_:d9} {a_:l5} {qA t_:Int}:WJ (f5j d_ a_ qA t_) 155 [d9.v d_,l5.v a_,.int .i64 qA,.int .i64 t_] fun z=>.tup [a1x.v z.1,.int .i64 z.2]:=wX Tryz.func155 g8k [(9,e8b)] [.fzc 8] (h:=fun _ _ h hQ M=>by unfold f5j at h;exact tX)
def e1j (d_:d9) (a_:l5) (jA:Int):Option Int :=
 (d5v d_ a_).bind fun y4=>bif (!decide (y4=0)) then some y4 else (F_s jA).bind fun y8=>bif (!y8) then some 2 else some 0
instance h5h {d_:d9} {a_:l5} {jA:Int}:WJ (e1j d_ a_ jA) 156 [d9.v d_,l5.v a_,.int .i64 jA] (.int .i64):=wX Tryz.func156 [(4,⟨[.gc [2]],[],[]⟩)] (h:=fun _ _ h hQ M=>by unfold e1j at h;exact tX)
def g6p (k20:Int) (a21:o7) (x19:List Int):Option (List Int) :=
 chk (room (x19.length+[a21.Time].length) 8) (some (x19++[a21.Time]))
def F_a (a_:l5):Option (List Int) := (F_9 a_).bind fun y4=>bif (!decide (y4=0)) then some [] else (foldL g6p a_.Events 0 []).bind fun x22=>(a5s x22).bind fun y24=>some ((y24.2.drop 0).take y24.1)
def a_a:List (Nat×RN):=[(0,⟨[],[.k 1 1],[]⟩),(2,⟨[],[.k 0 1],[]⟩),(3,⟨[],[.k 0 1],[]⟩),(9,⟨[],[.c 1 0 [2003] []],[]⟩)]
@[irreducible] def d2n:MC:=rdc (cK Tryz.prog Tryz.f268 a_a [] 5)
def g74:MC:=rdc (cT Tryz.prog Tryz.f268 a_a [(5,d2n)])
instance h1p {a_:l5}:WI (F_a a_) Tryz.prog 268 [l5.v a_] [] (fun z=>.osl 1900 1 0 z.length) (fun z=>[(1900,.arr 1 (z.map (V.int .i64)))]):=⟨fun Q Q' h hQ=>by
 refine a2m g74 [.gc [2],.trim 2,.acc 2 1900 1] [1900] [.t 2] Tryz.func268 fun M=>?_
 unfold F_a at h
 unfold g74
 replace h:=tY h
 refine tB ?_
 repeat' (first
 | (exact tZ)
 | (refine And.intro (by refine ⟨?_,?_,?_,?_⟩<;>omega) ?_;first|exact hQ _ h|(rw [zP (by omega)];exact hQ _ h))
 | (rw [←hlen];exact hQ _ h)
 | (have hq:=hQ _ h;simp only [xZ,Nat.min_eq_left hlen.1] at hq;exact hq)
 | ((first|refine b5l h ?_|refine a5u h ?_|refine b5p h ?_|refine b5o h ?_|refine b5u h ?_|refine appG h ?_|refine b5w h ?_|refine fork h ?_ ?_|refine a5w h ?_ ?_)<;>clear h<;>intro hc h)
 | (obtain ⟨y,hy,h⟩:=h;(first|(have hw:=a03 1000 2003 (g94 hy);replace hw:=tY hw;(try simp only [hlen] at hw);have hlen:=b2p hy)|have hw:=WI.w hy);replace hw:=tY hw;(first|refine M.sC hw ?_|refine M.sD hw ?_);clear hw hy;refine tB ?_)
 | (refine M.fold1 (b:=d2n) 12 [10,11] [] (fun x=>[(3,.osl 2003 1 0 x.length)]) (fun x=>[.o 2003 (.arr 1 (x.map (V.int .i64)))]) [.gc [3,10,11,12],.acc 3 2003 1] h ?_ ?_ ?_<;>first
 | (clear h;intro k a x Qn K hK1 hkN1 ha1 h hf;have hl:=a4o (a1m (n:=11) hf.1 rfl);clear hf;have hkd:=kD hkN1;have hkB1:=kB hkN1;have hkI1:=kI (k:=k) (by omega);(try simp only [hlen] at hkd hkB1 hkN1);unfold g6p at h;unfold d2n;replace h:=tY h;refine tK ha1 hkd hkN1 hkB1 hkI1 ?_)
  |(clear h;intro x K h;replace h:=And.left (And.intro h trivial);(try simp only [hlen]);unfold d2n;replace h:=tY h;refine tB ?_)
  |(clear h;(try refine tB ?_);exact tU0;done))
 | (simp only [ha1])
 | (refine hK1 _ ?_;(try refine tB ?_);refine ⟨_,h,?_⟩;exact tU0;done)
 | (refine tE ?_;(first|rw [M.lok_compU]|rw [M.lokD_compU]);refine tB ?_)
 | (refine tA ?_)
 | fail)⟩
def f5y (k18:Int) (a19:a0n) (x17:List Int):Option (List Int) :=
 chk (room (x17.length+[a19.Time].length) 8) (some (x17++[a19.Time]))
def F_b (d_:d9) (a_:l5):Option (List Int) := (F_a a_).bind fun y2=>(foldL f5y d_.Events 0 y2).bind fun x20=>(b1d x20).bind fun y22=>(a5s y22).bind fun y24=>some ((y24.2.drop 0).take y24.1)
def a_b:List (Nat×RN):=[(1,⟨[],[.c 1 0 [] [9]],[]⟩),(7,⟨[],[.c 1 0 [2005] []],[]⟩),(8,⟨[],[.c 1 0 [2005] []],[]⟩)]
@[irreducible] def d2s:MC:=rdc (cK Tryz.prog Tryz.f226 a_b [] 3)
def g73:MC:=rdc (cT Tryz.prog Tryz.f226 a_b [(3,d2s)])
instance h92 {d_:d9} {a_:l5}:WI (F_b d_ a_) Tryz.prog 226 [d9.v d_,l5.v a_] [] (fun z=>.sl (z.map (V.int .i64))) (fun z=>[]):=⟨fun Q Q' h hQ=>by
 refine a2m g73 [.fz 4] [] [.t 4] Tryz.func226 fun M=>?_
 unfold F_b at h
 unfold g73
 replace h:=tY h
 refine tB ?_
 repeat' (first
 | (exact tZ)
 | (refine And.intro (by refine ⟨?_,?_,?_,?_⟩<;>omega) ?_;first|exact hQ _ h|(rw [zP (by omega)];exact hQ _ h))
 | (rw [←hlen];exact hQ _ h)
 | (have hq:=hQ _ h;simp only [xZ,Nat.min_eq_left hlen.1] at hq;exact hq)
 | ((first|refine b5l h ?_|refine a5u h ?_|refine b5p h ?_|refine b5o h ?_|refine b5u h ?_|refine appG h ?_|refine b5w h ?_|refine fork h ?_ ?_|refine a5w h ?_ ?_)<;>clear h<;>intro hc h)
 | (obtain ⟨y,hy,h⟩:=h;(first|have hw:=a03 1900 9 (h1p.c.w hy)|(have hw:=a03 1000 2005 (g3l hy);replace hw:=tY hw;(try simp only [hlen] at hw);have hlen:=b3p hy)|(have hw:=a03 1000 2005 (g94 hy);replace hw:=tY hw;(try simp only [hlen] at hw);have hlen:=b2p hy));replace hw:=tY hw;(first|refine M.sC hw ?_|refine M.sD hw ?_);clear hw hy;refine tB ?_)
 | (refine M.fold1 (b:=d2s) 13 [11,12] [] (fun x=>[(5,.osl 2005 1 0 x.length)]) (fun x=>[.o 2005 (.arr 1 (x.map (V.int .i64)))]) [.gc [5,11,12,13],.acc 5 2005 1] h ?_ ?_ ?_<;>first
 | (clear h;intro k a x Qn K hK1 hkN1 ha1 h hf;have hl:=a4o (a1m (n:=12) hf.1 rfl);clear hf;have hkd:=kD hkN1;have hkB1:=kB hkN1;have hkI1:=kI (k:=k) (by omega);(try simp only [hlen] at hkd hkB1 hkN1);unfold f5y at h;unfold d2s;replace h:=tY h;refine tK ha1 hkd hkN1 hkB1 hkI1 ?_)
  |(clear h;intro x K h;replace h:=And.left (And.intro h trivial);(try simp only [hlen]);unfold d2s;replace h:=tY h;refine tB ?_)
  |(clear h;(try refine tB ?_);exact tU0;done))
 | (simp only [ha1])
 | (refine hK1 _ ?_;(try refine tB ?_);refine ⟨_,h,?_⟩;exact tU0;done)
 | (refine tE ?_;(first|rw [M.lok_compU]|rw [M.lokD_compU]);refine tB ?_)
 | (refine tA ?_)
 | fail)⟩
def e1i (jA:Int):Option Int :=
 chk (e4m jA 64) (some (IntKind.wrap .u64 (1*2^(jA).toNat)))
instance h5g {jA:Int}:WJ (e1i jA) 303 [.int .i64 jA] fun z=>.int .u64 z:=wX Tryz.func303 (h:=fun _ _ h hQ M=>by unfold e1i at h;exact tX)
def d4u (s_:List Int) (x_:o7):Option (List Int) :=
 bif decide (x_.Kind=5) then chk (inb x_.Place s_.length) ((e1i x_.Content).bind fun y1=>chk (inb x_.Place s_.length) (some (s_.set ((x_.Place).toNat) (bits .or .u64 (s_.getD ((x_.Place).toNat) default) y1)))) else bif decide (x_.Kind=6) then chk (inb x_.Place s_.length) ((e1i x_.Content).bind fun y2=>chk (inb x_.Place s_.length) (some (s_.set ((x_.Place).toNat) (bits .andNot .u64 (s_.getD ((x_.Place).toNat) default) y2)))) else bif decide (x_.Kind=7) then chk (inb x_.Place s_.length) (chk (inb x_.From s_.length) (chk (inb x_.Place s_.length) (some (s_.set ((x_.Place).toNat) (bits .or .u64 (s_.getD ((x_.Place).toNat) default) (s_.getD ((x_.From).toNat) default)))))) else some s_
instance g3g {s_:List Int} {x_:o7}:WI (d4u s_ x_) Tryz.prog 331 [.osl 1000 1 0 s_.length,o7.v x_] [(1000,.arr 1 (s_.map (V.int .u64)))] (fun z=>.tup []) (fun z=>[(1000,.arr 1 (z.map (V.int .u64)))]):=wX Tryz.func331 [(7,⟨[.gc [0,3]],[],[]⟩)] [] [] [1000] (h:=fun _ _ h hQ M=>by unfold d4u at h;exact tX)
theorem h8d {s_:List Int} {x_:o7} {y:List Int} (h:(d4u s_ x_)=some y):y.length=s_.length:=by
 simp only [d4u,chk,cond_eq_ite,zL] at h
 repeat' (first|(split at h)|(simp only [zL] at h)|(obtain ⟨_,_,h⟩:=h)|(cases h;done)|(obtain rfl:=wH h;simp;done)|(simp;done)|(subst h;simp;done))
def f9u (t_:Int) (k30:Int) (a31:o7) (x29:List Int):Option (List Int) :=
 bif decide (a31.Time≤t_) then (d4u x29 a31).bind fun y35=>some y35 else some x29
def F_c (a_:l5) (t_:Int):Option (List Int) := chk (b2y a_.Places a_.Places 8) ((foldL (f9u t_) a_.Events 0 (List.replicate (a_.Places).toNat 0)).bind fun x36=>some x36)
def a_c:List (Nat×RN):=[(6,⟨[],[.c 2 0 [10] []],[]⟩)]
@[irreducible] def d2r:MC:=rdc (cK Tryz.prog Tryz.f302 a_c [] 3)
def g72:MC:=rdc (cT Tryz.prog Tryz.f302 a_c [(3,d2r)])
instance h91 {a_:l5} {t_:Int}:WI (F_c a_ t_) Tryz.prog 302 [l5.v a_,.int .i64 t_] [] (fun z=>.sl (z.map (V.int .u64))) (fun z=>[]):=⟨fun Q Q' h hQ=>by
 refine a2m g72 [.fz 4] [] [.t 4] Tryz.func302 fun M=>?_
 unfold F_c at h
 unfold g72
 replace h:=tY h
 refine tB ?_
 repeat' (first
 | (exact tZ)
 | (rw [zP (by omega)];exact hQ _ h)
 | ((first|refine b5l h ?_|refine a5u h ?_|refine b5p h ?_|refine b5o h ?_|refine b5u h ?_|refine appG h ?_|refine b5w h ?_|refine fork h ?_ ?_|refine a5w h ?_ ?_)<;>clear h<;>intro hc h)
 | (obtain ⟨y,hy,h⟩:=h;(have hw:=a03 1000 10 (g3g.c.w hy);replace hw:=tY hw;have hlen:=h8d hy);replace hw:=tY hw;(first|refine M.sC hw ?_|refine M.sD hw ?_);clear hw hy;refine tB ?_)
 | (refine M.fold1 (b:=d2r) 14 [1,12,13] [] (fun x=>[(5,.osl 10 1 0 x.length)]) (fun x=>[.o 10 (.arr 1 (x.map (V.int .u64)))]) [] h ?_ ?_ ?_<;>first
 | (clear h;intro k a x Qn K hK1 hkN1 ha1 h hf;have hl:=a4o (a1m (n:=13) hf.1 rfl);clear hf;have hkd:=kD hkN1;have hkB1:=kB hkN1;have hkI1:=kI (k:=k) (by omega);(try simp only [hlen] at hkd hkB1 hkN1);unfold f9u at h;unfold d2r;replace h:=tY h;refine tK ha1 hkd hkN1 hkB1 hkI1 ?_)
  |(clear h;intro x K h;replace h:=And.left (And.intro h trivial);(try simp only [hlen]);unfold d2r;replace h:=tY h;refine tB ?_)
  |(clear h;(try refine tB ?_);exact tU;done))
 | (simp only [ha1])
 | (refine hK1 _ ?_;(try refine tB ?_);refine ⟨_,h,?_⟩;exact tU;done)
 | (refine tE ?_;(first|rw [M.lok_compU]|rw [M.lokD_compU]);refine tB ?_)
 | (refine tA ?_)
 | fail)⟩
@[go_sem] def f98 (jA:Int) (k56:Int) (a57:Int) (x55:List Int):Option (List Int) :=
 (e1i jA).bind fun y65=>bif (!decide ((bits .and .u64 a57 y65)=0)) then chk (room (x55.length+[k56].length) 8) (some (x55++[k56])) else some x55
def F_f (a_:l5) (jA:Int) (t_:Int):Option (List Int) := (F_9 a_).bind fun y7=>bif (!decide (y7=0)) then some [] else (F_s jA).bind fun y8=>bif (!y8) then some [] else (F_c a_ t_).bind fun y37=>(foldL (f98 jA) y37 0 []).bind fun x66=>some x66
def a_f:List (Nat×RN):=[(3,⟨[],[.k 0 1],[]⟩),(4,⟨[.gc [1,2,3,7]],[],[]⟩),(8,⟨[.gc [1,7,8,20,21,22]],[],[]⟩)]
@[irreducible] def e8a:MC:=rdc (cK Tryz.prog Tryz.f271 a_f [] 5)
instance:LI e8a 22 21 [1,20,21] [] (fun y:List Int=>[(7,.osl 2007 1 0 y.length)]) (fun y=>[.o 2007 (.arr 1 (y.map (V.int .i64)))]) [.gc [1,7,20,21,22],.acc 7 2007 1]:=⟨⟩
instance h8x {a_:l5} {jA t_:Int}:WJ (F_f a_ jA t_) 271 [l5.v a_,.int .i64 jA,.int .i64 t_] fun z=>.sl (z.map (V.int .i64)):=wX Tryz.func271 a_f [(5,e8a)] [.fz 6] (h:=fun _ _ h hQ M=>by unfold F_f at h;exact tX)
@[go_sem] def e3d (d_:d9) (a_:l5) (p_:Int) (t_:Int) (k75:Int) (a76:Int) (x74:Unit):Option (Fl Unit (Int×Bool)) :=
 (F_2 a_ a76 t_).bind fun y96=>grp ((decide (p_=(-1))&&y96.2)) fun b99=>bif b99 then some (.ex (a76,true)) else bif (!decide (p_=(-1))) then (d5u d_ a_ p_ a76 t_).bind fun y100=>bif y100 then some (.ex (a76,true)) else some (.nx ()) else some (.nx ())
def e1r (d_:d9) (a_:l5) (jA:Int) (p_:Int) (t_:Int):Option (Int×Bool) :=
 (F_f a_ jA t_).bind fun y47=>(forL (e3d d_ a_ p_ t_) y47 0 ()).bind fun o=>o.elim (fun x101=>some (0,false)) (fun r102=>some r102)
def g8u:List (Nat×RN):=[(5,⟨[.gc [3,4,5,6,13,15,19,20,21,35,38,39,40,41,42,43,44,45,46,47]],[],[.v 3 4]⟩),(6,⟨[.gc [13]],[],[]⟩)]
@[irreducible] def e8l:MC:=rdc (cK Tryz.prog Tryz.f227 g8u [] 2)
instance:LI e8l 21 20 [3,4,5,6,19,20] [6,5] (fun y:Unit=>[]) (fun y=>[]) []:=⟨⟩
instance h7f {d_:d9} {a_:l5} {jA p_ t_:Int}:WJ (e1r d_ a_ jA p_ t_) 227 [d9.v d_,l5.v a_,.int .i64 jA,.int .i64 p_,.int .i64 t_] fun z=>.tup [.int .i64 z.1,.bool z.2]:=wX Tryz.func227 g8u [(2,e8l)] (h:=fun _ _ h hQ M=>by unfold e1r at h;exact tX)
@[go_sem] def f4n (d_:d9) (a_:l5) (jA:Int) (p_:Int) (k35:Int) (a36:Int) (x34:Unit):Option (Fl Unit (Int×Bool)) :=
 (e1r d_ a_ jA p_ a36).bind fun y44=>bif y44.2 then some (.ex (a36,true)) else some (.nx ())
def F_v (d_:d9) (a_:l5) (jA:Int) (p_:Int):Option (Int×Bool) := (F_b d_ a_).bind fun y23=>(forL (f4n d_ a_ jA p_) y23 0 ()).bind fun o=>o.elim (fun x45=>some (0,false)) (fun r46=>some r46)
def a_v:List (Nat×RN):=[(6,⟨[.gc [11]],[],[]⟩)]
@[irreducible] def e8h:MC:=rdc (cK Tryz.prog Tryz.f157 a_v [] 2)
instance:LI e8h 18 17 [2,3,4,5,16,17] [5,4] (fun y:Unit=>[]) (fun y=>[]) []:=⟨⟩
instance h8i {d_:d9} {a_:l5} {jA p_:Int}:WJ (F_v d_ a_ jA p_) 157 [d9.v d_,l5.v a_,.int .i64 jA,.int .i64 p_] fun z=>.tup [.int .i64 z.1,.bool z.2]:=wX Tryz.func157 a_v [(2,e8h)] (h:=fun _ _ h hQ M=>by unfold F_v at h;exact tX)
def f4c (d_:d9) (a_:l5) (jA:Int) (p_:Int):Option (Int×Bool) :=
 (e1j d_ a_ jA).bind fun y4=>bif (!decide (y4=0)) then some (0,false) else (F_v d_ a_ jA p_).bind fun y6=>some (y6.1,y6.2)
instance h3w {d_:d9} {a_:l5} {jA p_:Int}:WJ (f4c d_ a_ jA p_) 72 [d9.v d_,l5.v a_,.int .i64 jA,.int .i64 p_] fun z=>.tup [.int .i64 z.1,.bool z.2]:=wX Tryz.func72 [(3,⟨[.gc [2,3,4,5]],[],[]⟩)] (h:=fun _ _ h hQ M=>by unfold f4c at h;exact tX)
end
end Go.Ab