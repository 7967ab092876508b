/- What the functions of this seat that lie on the laws' road compute (part LT), each for every input. By AI agents. -/
import Derived.Test.YtbmjlaknnpmgpaaGreatDoorProg
import Derived.KernelRfl
import Derived.Test.YtbmjlaknnpmgpaaGreatDoorAbMach
import Derived.Test.YtbmjlaknnpmgpaaGreatDoorSL
import Derived.Test.YtbmjlaknnpmgpaaGreatDoorXM
set_option linter.all false
set_option maxRecDepth 20000
set_option maxHeartbeats 2000000
namespace Go.Ab
open Go.Proofs
noncomputable section
structure p8 where
 Level:Int
 Worth:Int
 Audience:Int
 Score:Int
instance:Inhabited p8:=⟨⟨default,default,default,default⟩⟩
def p8.v (x:p8):V:=.agg [.int .i64 x.Level,.int .i64 x.Worth,.int .i64 x.Audience,.int .i64 x.Score]
structure l6 where
 Fingerprint:Int
 Spots:Int
 Public:Bool
 Readers:Int
 Since:Int
 Severity:p8
 Rotated:Bool
 Dead:Bool
instance:Inhabited l6:=⟨⟨default,default,default,default,default,default,default,default⟩⟩
def l6.v (x:l6):V:=.agg [.int .u64 x.Fingerprint,.int .i64 x.Spots,.bool x.Public,.int .i64 x.Readers,.int .i64 x.Since,.int .i64 x.Severity.Level,.int .i64 x.Severity.Worth,.int .i64 x.Severity.Audience,.int .i64 x.Severity.Score,.bool x.Rotated,.bool x.Dead]
structure a4e where
 kK:Str
 n_:Int
instance:Inhabited a4e:=⟨⟨default,default⟩⟩
def a4e.v (x:a4e):V:=.agg [.str x.kK,.int .i64 x.n_]
structure x8 where
 L:List Int
 at_:Int
instance:Inhabited x8:=⟨⟨default,default⟩⟩
def x8.v (x:x8):V:=.agg [.sl (x.L.map (V.int .i64)),.int .i64 x.at_]
structure a0f where
 Time:Int
 Kind:Int
 Principal:Int
 Group:Int
instance:Inhabited a0f:=⟨⟨default,default,default,default⟩⟩
def a0f.v (x:a0f):V:=.agg [.int .i64 x.Time,.int .i64 x.Kind,.int .i64 x.Principal,.int .i64 x.Group]
structure d9 where
 Kinds:List Int
 Events:List a0f
instance:Inhabited d9:=⟨⟨default,default⟩⟩
def d9.v (x:d9):V:=.agg [.sl (x.Kinds.map (V.int .i64)),.sl (x.Events.map a0f.v)]
structure o9 where
 Time:Int
 Kind:Int
 Place:Int
 Principal:Int
 Until:Int
 Content:Int
 From:Int
instance:Inhabited o9:=⟨⟨default,default,default,default,default,default,default⟩⟩
def o9.v (x:o9):V:=.agg [.int .i64 x.Time,.int .i64 x.Kind,.int .i64 x.Place,.int .i64 x.Principal,.int .i64 x.Until,.int .i64 x.Content,.int .i64 x.From]
structure l5 where
 Places:Int
 Events:List o9
instance:Inhabited l5:=⟨⟨default,default⟩⟩
def l5.v (x:l5):V:=.agg [.int .i64 x.Places,.sl (x.Events.map o9.v)]
structure a0e where
 Name:Str
 Slots:Int
instance:Inhabited a0e:=⟨⟨default,default⟩⟩
def a0e.v (x:a0e):V:=.agg [.str x.Name,.int .i64 x.Slots]
structure o7 where
 Issuer:Int
 Fingerprint:Int
 Holder:Int
 From:Int
 Until:Int
instance:Inhabited o7:=⟨⟨default,default,default,default,default⟩⟩
def o7.v (x:o7):V:=.agg [.int .i64 x.Issuer,.int .u64 x.Fingerprint,.int .i64 x.Holder,.int .i64 x.From,.int .i64 x.Until]
structure o6 where
 Issuers:List a0e
 Credentials:List o7
instance:Inhabited o6:=⟨⟨default,default⟩⟩
def o6.v (x:o6):V:=.agg [.sl (x.Issuers.map a0e.v),.sl (x.Credentials.map o7.v)]
structure a03 where
 Credential:Int
 Resource:Int
 Right:Int
instance:Inhabited a03:=⟨⟨default,default,default⟩⟩
def a03.v (x:a03):V:=.agg [.int .i64 x.Credential,.int .i64 x.Resource,.int .i64 x.Right]
structure a08 where
 Resource:Int
 Credential:Int
instance:Inhabited a08:=⟨⟨default,default⟩⟩
def a08.v (x:a08):V:=.agg [.int .i64 x.Resource,.int .i64 x.Credential]
structure a0n where
 From:Int
 To:Int
instance:Inhabited a0n:=⟨⟨default,default⟩⟩
def a0n.v (x:a0n):V:=.agg [.int .i64 x.From,.int .i64 x.To]
structure l7 where
 Credentials:Int
 Resources:Int
 Grants:List a03
 Stores:List a08
 Mints:List a0n
instance:Inhabited l7:=⟨⟨default,default,default,default,default⟩⟩
def l7.v (x:l7):V:=.agg [.int .i64 x.Credentials,.int .i64 x.Resources,.sl (x.Grants.map a03.v),.sl (x.Stores.map a08.v),.sl (x.Mints.map a0n.v)]
structure b3p where
 Source:Int
 Path:Str
 Time:Int
instance:Inhabited b3p:=⟨⟨default,default,default⟩⟩
def b3p.v (x:b3p):V:=.agg [.int .i64 x.Source,.str x.Path,.int .i64 x.Time]
structure b58 where
 Coding:Int
 From:Int
 To:Int
instance:Inhabited b58:=⟨⟨default,default,default⟩⟩
def b58.v (x:b58):V:=.agg [.int .i64 x.Coding,.int .i64 x.From,.int .i64 x.To]
structure a9h where
 Place:b3p
 Layers:List b58
 From:Int
 To:Int
instance:Inhabited a9h:=⟨⟨default,default,default,default⟩⟩
def a9h.v (x:a9h):V:=.agg [.int .i64 x.Place.Source,.str x.Place.Path,.int .i64 x.Place.Time,.sl (x.Layers.map b58.v),.int .i64 x.From,.int .i64 x.To]
structure a1v where
 Kind:Int
 Fingerprint:Int
 Where:List a9h
instance:Inhabited a1v:=⟨⟨default,default,default⟩⟩
def a1v.v (x:a1v):V:=.agg [.int .i64 x.Kind,.int .u64 x.Fingerprint,.sl (x.Where.map a9h.v)]
structure u7 where
 Pool:Int
 Dual:Bool
 Live:Bool
instance:Inhabited u7:=⟨⟨default,default,default⟩⟩
def u7.v (x:u7):V:=.agg [.int .i64 x.Pool,.bool x.Dual,.bool x.Live]
structure a01 where
 Slots:Int
 Consumers:List u7
instance:Inhabited a01:=⟨⟨default,default⟩⟩
def a01.v (x:a01):V:=.agg [.int .i64 x.Slots,.sl (x.Consumers.map u7.v)]
structure a0r where
 Up:Bool
 Stored:Int
 Used:Int
instance:Inhabited a0r:=⟨⟨default,default,default⟩⟩
def a0r.v (x:a0r):V:=.agg [.bool x.Up,.int .i64 x.Stored,.int .i64 x.Used]
structure o5 where
 Known:Int
 Valid:Int
 Units:List a0r
instance:Inhabited o5:=⟨⟨default,default,default⟩⟩
def o5.v (x:o5):V:=.agg [.int .i64 x.Known,.int .i64 x.Valid,.sl (x.Units.map a0r.v)]
structure p9 where
 Generation:Int
 Serving:Bool
instance:Inhabited p9:=⟨⟨default,default⟩⟩
def p9.v (x:p9):V:=.agg [.int .i64 x.Generation,.bool x.Serving]
structure l9 where
 Fence:Bool
 Sets:List Int
 Replicas:List p9
 Snapshots:List Int
instance:Inhabited l9:=⟨⟨default,default,default,default⟩⟩
def l9.v (x:l9):V:=.agg [.bool x.Fence,.sl (x.Sets.map (V.int .i64)),.sl (x.Replicas.map p9.v),.sl (x.Snapshots.map (V.int .i64))]
structure a0x where
 d_:d9
 a_:l5
 r_:o6
 x_:l7
 w_:List Int
 f_:a1v
 c_:Int
 qC:a01
 s_:o5
 gB:l9
instance:Inhabited a0x:=⟨⟨default,default,default,default,default,default,default,default,default,default⟩⟩
def a0x.v (x:a0x):V:=.agg [.sl (x.d_.Kinds.map (V.int .i64)),.sl (x.d_.Events.map a0f.v),.int .i64 x.a_.Places,.sl (x.a_.Events.map o9.v),.sl (x.r_.Issuers.map a0e.v),.sl (x.r_.Credentials.map o7.v),.int .i64 x.x_.Credentials,.int .i64 x.x_.Resources,.sl (x.x_.Grants.map a03.v),.sl (x.x_.Stores.map a08.v),.sl (x.x_.Mints.map a0n.v),.sl (x.w_.map (V.int .i64)),.int .i64 x.f_.Kind,.int .u64 x.f_.Fingerprint,.sl (x.f_.Where.map a9h.v),.int .i64 x.c_,.int .i64 x.qC.Slots,.sl (x.qC.Consumers.map u7.v),.int .i64 x.s_.Known,.int .i64 x.s_.Valid,.sl (x.s_.Units.map a0r.v),.bool x.gB.Fence,.sl (x.gB.Sets.map (V.int .i64)),.sl (x.gB.Replicas.map p9.v),.sl (x.gB.Snapshots.map (V.int .i64))]
structure GStep where
 Kind:Int
 Unit:Int
instance:Inhabited GStep:=⟨⟨default,default⟩⟩
def GStep.v (x:GStep):V:=.agg [.int .i64 x.Kind,.int .i64 x.Unit]
structure a0a where
 Kind:Int
 Replica:Int
 Snapshot:Int
 Bits:Int
instance:Inhabited a0a:=⟨⟨default,default,default,default⟩⟩
def a0a.v (x:a0a):V:=.agg [.int .i64 x.Kind,.int .i64 x.Replica,.int .i64 x.Snapshot,.int .i64 x.Bits]
structure f5i where
 e0:a0x
 e1:a0x
instance:Inhabited f5i:=⟨⟨default,default⟩⟩
def f5i.v (x:f5i):V:=.agg [.sl (x.e0.d_.Kinds.map (V.int .i64)),.sl (x.e0.d_.Events.map a0f.v),.int .i64 x.e0.a_.Places,.sl (x.e0.a_.Events.map o9.v),.sl (x.e0.r_.Issuers.map a0e.v),.sl (x.e0.r_.Credentials.map o7.v),.int .i64 x.e0.x_.Credentials,.int .i64 x.e0.x_.Resources,.sl (x.e0.x_.Grants.map a03.v),.sl (x.e0.x_.Stores.map a08.v),.sl (x.e0.x_.Mints.map a0n.v),.sl (x.e0.w_.map (V.int .i64)),.int .i64 x.e0.f_.Kind,.int .u64 x.e0.f_.Fingerprint,.sl (x.e0.f_.Where.map a9h.v),.int .i64 x.e0.c_,.int .i64 x.e0.qC.Slots,.sl (x.e0.qC.Consumers.map u7.v),.int .i64 x.e0.s_.Known,.int .i64 x.e0.s_.Valid,.sl (x.e0.s_.Units.map a0r.v),.bool x.e0.gB.Fence,.sl (x.e0.gB.Sets.map (V.int .i64)),.sl (x.e0.gB.Replicas.map p9.v),.sl (x.e0.gB.Snapshots.map (V.int .i64)),.sl (x.e1.d_.Kinds.map (V.int .i64)),.sl (x.e1.d_.Events.map a0f.v),.int .i64 x.e1.a_.Places,.sl (x.e1.a_.Events.map o9.v),.sl (x.e1.r_.Issuers.map a0e.v),.sl (x.e1.r_.Credentials.map o7.v),.int .i64 x.e1.x_.Credentials,.int .i64 x.e1.x_.Resources,.sl (x.e1.x_.Grants.map a03.v),.sl (x.e1.x_.Stores.map a08.v),.sl (x.e1.x_.Mints.map a0n.v),.sl (x.e1.w_.map (V.int .i64)),.int .i64 x.e1.f_.Kind,.int .u64 x.e1.f_.Fingerprint,.sl (x.e1.f_.Where.map a9h.v),.int .i64 x.e1.c_,.int .i64 x.e1.qC.Slots,.sl (x.e1.qC.Consumers.map u7.v),.int .i64 x.e1.s_.Known,.int .i64 x.e1.s_.Valid,.sl (x.e1.s_.Units.map a0r.v),.bool x.e1.gB.Fence,.sl (x.e1.gB.Sets.map (V.int .i64)),.sl (x.e1.gB.Replicas.map p9.v),.sl (x.e1.gB.Snapshots.map (V.int .i64))]
structure a00 where
 Principal:Int
 Time:Int
instance:Inhabited a00:=⟨⟨default,default⟩⟩
def a00.v (x:a00):V:=.agg [.int .i64 x.Principal,.int .i64 x.Time]
structure a0u where
 Kind:Int
 Grant:Int
 Store:Int
 Mint:Int
instance:Inhabited a0u:=⟨⟨default,default,default,default⟩⟩
def a0u.v (x:a0u):V:=.agg [.int .i64 x.Kind,.int .i64 x.Grant,.int .i64 x.Store,.int .i64 x.Mint]
structure d3j where
 e0:Int
 e1:Int
 e2:Int
 e3:Int
instance:Inhabited d3j:=⟨⟨default,default,default,default⟩⟩
def d3j.v (x:d3j):V:=.agg [.int .i64 x.e0,.int .i64 x.e1,.int .i64 x.e2,.int .i64 x.e3]
theorem dlt {a:Int}:decide (a<a)=false:=by simp
abbrev WJ {α:Type} (F:Option α) (n:Nat) (args:List V) (RV:α→V):Prop:=WI F Tryz.prog n args [] RV fun _=>[]
attribute [go_sem] a0t.b2s_set a0t.b2s_setD d9e d07 d05 d04 d08 d06 a13 beq_self_eq_true Int.cast_ofNat_Int List.take_succ_cons List.take_zero xF wE wL b3t b5o wrap_u8 e3p d8e d8b d03 c5u d2n b46 f9u e3s e3z e3y e3x e3w e4c e4a g7o g7n g7l g7m e7w e7v e7t e7u f9w f9v ovS ovE ovU g4j c99 d2g b7y a0g a1r c9t f4n V.oids V.oidsL V.tr V.trL trE trH a0c.tr true_implies false_implies xN Bool.true_eq_false dlt mpV slV Int.natCast_zero List.map_set kvV d6w c7v V.sw V.swL swN swH f8p e2v d5c e2t d5a d5b a0c.sw e2w e2u f02 f01 List.set_set a0t.b2s_e a0t.b2s_eD c54 List.length_set List.length_replicate zP vJ bounds a0q wK Option.map_none a1t a1p e02 e00 d4j d4k b06 a7t b3n
theorem d8g:inb 0 2=true:=q9.2 (by decide)
attribute [go_sem] d8g
theorem d8f:inb 0 4=true:=q9.2 (by decide)
attribute [go_sem] d8f
theorem e85 {n:Nat}:(inb 0 n=true)=(((0:Nat):Int)<(n:Int)):=propext (by rw [q9];omega)
attribute [go_sem] e85
theorem e84 {n:Nat}:(inb 1 n=true)=(((1:Nat):Int)<(n:Int)):=propext (by rw [q9];omega)
attribute [go_sem] e84
theorem e83 {n:Nat}:(inb 4 n=true)=(((4:Nat):Int)<(n:Int)):=propext (by rw [q9];omega)
attribute [go_sem] e83
theorem d8d {n:Nat}:(inb 17 n=true)=(((17:Nat):Int)<(n:Int)):=propext (by rw [q9];omega)
attribute [go_sem] d8d
theorem d8c {n:Nat}:(inb 18 n=true)=(((18:Nat):Int)<(n:Int)):=propext (by rw [q9];omega)
attribute [go_sem] d8c
theorem e82 {b:Int} {n:Nat}:(inc 0 b n=true)=(((0:Nat):Int)≤b∧b≤(n:Int)):=propext (by rw [a4c];omega)
attribute [go_sem] e82
theorem e81 {b:Int} {n:Nat}:(inc 1 b n=true)=(((1:Nat):Int)≤b∧b≤(n:Int)):=propext (by rw [a4c];omega)
attribute [go_sem] e81
theorem c62 {n:Nat}:List.replicate n (V.agg [.int .i64 0,.str [],.int .i64 0,.sl [],.int .i64 0,.int .i64 0])=(List.replicate n (a9h.mk (b3p.mk 0 [] 0) [] 0 0)).map a9h.v:=by rw [List.map_replicate];rfl
attribute [go_sem] c62
attribute [go_sem] d3j.v f5i.v o9.v l9.v u7.v o7.v d9.v l5.v a00.v a1v.v a01.v a03.v a0e.v b58.v a0u.v a0f.v a0n.v b3p.v o6.v p9.v a0a.v l7.v o5.v a4e.v p8.v a9h.v GStep.v a08.v l6.v x8.v a0r.v a0x.v
set_option maxRecDepth 20000
set_option maxHeartbeats 2000000
@[go_sem] def e1q (v_:Int) (k11:Int) (a12:Int) (x10:Unit):Option (Fl Unit Int) :=
 bif decide (v_=a12) then some (.ex k11) else some (.nx ())
def g1w (s_:List Int) (v_:Int):Option Int :=
 (a10 (e1q v_) s_ 0 ()).bind fun o=>o.elim (fun x13=>some (-1)) (fun r14=>some r14)
@[irreducible] def e7h:MC:=rdc (cK Tryz.prog Tryz.f281 [] [] 2)
instance:LI e7h 8 7 [0,1,7] [] (fun y:Unit=>[]) (fun y=>[]) []:=⟨⟩
instance g88 {s_:List Int} {v_:Int}:WJ (g1w s_ v_) 281 [.sl (s_.map (V.int .i64)),.int .i64 v_] (.int .i64):=wX Tryz.func281 [] [(2,e7h)] (h:=fun _ _ h hQ M=>by unfold g1w at h;exact tX)
def e0g (s_:List Int) (v_:Int):Option Bool :=
 (g1w s_ v_).bind fun y2=>some (decide (0≤y2))
instance h17 {s_:List Int} {v_:Int}:WJ (e0g s_ v_) 259 [.sl (s_.map (V.int .i64)),.int .i64 v_] .bool:=wX Tryz.func259 (h:=fun _ _ h hQ M=>by unfold e0g at h;exact tX)
@[go_sem] def g4g (a_:Int) (b_:Int) (k31:Int) (a32:a0n) (x30:Unit):Option (Fl Unit Bool) :=
 grp ((decide (a32.From=a_)&&decide (a32.To=b_))) fun b40=>bif b40 then some (.ex true) else some (.nx ())
@[go_sem] def g43 (b_:Int) (a244:a03) (k313:Int) (a314:a08) (x312:Unit):Option (Fl Unit Bool) :=
 grp ((decide (a314.Resource=a244.Resource)&&decide (a314.Credential=b_))) fun b322=>bif b322 then some (.ex true) else some (.nx ())
@[go_sem] def g3l (x_:l7) (a_:Int) (b_:Int) (k243:Int) (a244:a03) (x242:Unit):Option (Fl Unit Bool) :=
 bif (!decide (a244.Credential=a_)) then some (.nx ()) else (a10 (g43 b_ a244) x_.Stores 0 ()).bind fun o=>o.elim (fun x323=>some (.nx ())) (fun r324=>some (.ex r324))
def F_4 (x_:l7) (a_:Int) (b_:Int):Option Bool := (a10 (g4g a_ b_) x_.Mints 0 ()).bind fun o=>o.elim (fun x41=>(a10 (g3l x_ a_ b_) x_.Grants 0 ()).bind fun o=>o.elim (fun x325=>some false) (fun r326=>some r326)) (fun r42=>some r42)
def a_4:List (Nat×RN):=[(4,⟨[],[],[.v 5 9]⟩),(14,⟨[],[],[.v 6 10]⟩)]
@[irreducible] def d1f:MC:=rdc (cK Tryz.prog Tryz.f228 a_4 [] 2)
@[irreducible] def d7y:MC:=rdc (cK Tryz.prog Tryz.f228 a_4 [(2,d1f)] 12)
@[irreducible] def e6t:MC:=rdc (cK Tryz.prog Tryz.f228 a_4 [(2,d1f),(12,d7y)] 8)
instance:LI d1f 16 15 [1,2,3,14,15] [3] (fun y:Unit=>[]) (fun y=>[]) []:=⟨⟩
instance:LI d7y 45 44 [1,2,3,10,32,33,34,43,44] [10,3] (fun y:Unit=>[]) (fun y=>[]) []:=⟨⟩
instance:LI e6t 34 33 [1,2,3,32,33] [3] (fun y:Unit=>[]) (fun y=>[]) []:=⟨⟩
instance h0u {x_:l7} {a_ b_:Int}:WJ (F_4 x_ a_ b_) 228 [l7.v x_,.int .i64 a_,.int .i64 b_] .bool:=wX Tryz.func228 a_4 [(2,d1f),(12,d7y),(8,e6t)] (h:=fun _ _ h hQ M=>by unfold F_4 at h;exact tX)
def d3l (x_:Int) (jD:Int) (kC:Int):Option Bool :=
 grp ((decide (jD≤x_)&&decide (x_≤kC))) fun b2=>some b2
instance h3f {x_ jD kC:Int}:WJ (d3l x_ jD kC) 87 [.int .i64 x_,.int .i64 jD,.int .i64 kC] .bool:=wX Tryz.func87 [(1,⟨[],[],[.v 4 7]⟩)] (h:=fun _ _ h hQ M=>by unfold d3l at h;exact tX)
@[go_sem] def g3k (k39:Int) (a40:u7) (x38:Unit):Option (Fl Unit Bool) :=
 (d3l a40.Pool 0 7).bind fun y48=>bif (!y48) then some (.ex false) else some (.nx ())
def F_w (f_:a01):Option Bool := (d3l f_.Slots 1 2).bind fun y7=>bif (!y7) then some false else (d3l (f_.Consumers.length:Int) 1 8).bind fun y8=>bif (!y8) then some false else (a10 g3k f_.Consumers 0 ()).bind fun o=>o.elim (fun x49=>some true) (fun r50=>some r50)
def a_w:List (Nat×RN):=[(3,⟨[.gc [1]],[],[]⟩)]
@[irreducible] def e6s:MC:=rdc (cK Tryz.prog Tryz.f86 a_w [] 4)
instance:LI e6s 19 18 [17,18] [] (fun y:Unit=>[]) (fun y=>[]) []:=⟨⟩
instance h4m {f_:a01}:WJ (F_w f_) 86 [a01.v f_] .bool:=wX Tryz.func86 a_w [(4,e6s)] (h:=fun _ _ h hQ M=>by unfold F_w at h;exact tX)
@[go_sem] def g3j (qH:Int) (k20:Int) (a21:u7) (x19:List Int):Option (List Int) :=
 bif decide (a21.Pool=qH) then chk (room (x19.length+[k20].length) 8) (some (x19++[k20])) else some x19
def F_l (f_:a01) (qH:Int):Option (List Int) := (F_w f_).bind fun y4=>bif (!y4) then some [] else (a0d (g3j qH) f_.Consumers 0 []).bind fun x22=>some x22
def a_l:List (Nat×RN):=[(0,⟨[],[.k 1 1],[]⟩),(2,⟨[],[.k 0 1],[]⟩),(3,⟨[],[.k 0 1],[]⟩),(8,⟨[.gc [1,5,6,12,13,14]],[],[]⟩)]
@[irreducible] def e6r:MC:=rdc (cK Tryz.prog Tryz.f61 a_l [] 5)
instance:LI e6r 14 13 [1,12,13] [] (fun y:List Int=>[(5,.osl 2005 1 0 y.length)]) (fun y=>[.o 2005 (.arr 1 (y.map (V.int .i64)))]) [.gc [1,5,12,13,14],.acc 5 2005 1]:=⟨⟩
instance g82 {f_:a01} {qH:Int}:WI (F_l f_ qH) Tryz.prog 61 [a01.v f_,.int .i64 qH] [] (fun z=>.osl 1900 1 0 z.length) (fun z=>[(1900,.arr 1 (z.map (V.int .i64)))]):=wX Tryz.func61 a_l [(5,e6r)] [.acc 4 1900 1] [1900] (h:=fun _ _ h hQ M=>by unfold F_l at h;exact tX)
@[go_sem] def g3i (k20:Int) (a21:u7) (x19:List a0r):Option (List a0r) :=
 chk (room (x19.length+[(a0r.mk true 1 1)].length) 24) (some (x19++[(a0r.mk true 1 1)]))
def f3m (f_:a01):Option (o5×Int) :=
 (F_w f_).bind fun y4=>bif (!y4) then some ((o5.mk 0 0 []),36) else (a0d g3i f_.Consumers 0 []).bind fun x22=>some ((o5.mk 1 1 x22),0)
def g61:List (Nat×RN):=[(3,⟨[],[.k 0 1],[]⟩)]
@[irreducible] def e6q:MC:=rdc (cK Tryz.prog Tryz.f62 g61 [] 5)
instance:LI e6q 13 12 [2,4,12] [4,2] (fun y:List a0r=>[]) (fun y=>[.p 4 2 [.osl 4066 3 0 y.length],.o 4066 (.arr 3 (y.map a0r.v))]) [.gc [2,4,12,13],.ownC 4 2 4066 3 none]:=⟨⟩
instance h2s {f_:a01}:WJ (f3m f_) 62 [a01.v f_] fun z=>.tup [o5.v z.1,.int .i64 z.2]:=wX Tryz.func62 g61 [(5,e6q)] [.fzc 2] (h:=fun _ _ h hQ M=>by unfold f3m at h;exact tX)
def e1p (c_:u7) (s_:o5) (x_:Int):Option Bool :=
 (d3l x_ 1 3).bind fun y4=>jn (α:=Bool) (bif y4 then some (decide ((bits .andNot .i64 x_ s_.Known)=0)) else some false) fun j5=>grp ((j5&&((!decide (x_=3))||c_.Dual))) fun b6=>some b6
instance f4v {m:List MOp}:GI (gjt 880103 m) [2,3,6] [3] (fun y:Bool=>[(15,.bool y)]) (fun y=>[]):=⟨⟩
instance h0g {c_:u7} {s_:o5} {x_:Int}:WJ (e1p c_ s_ x_) 88 [u7.v c_,o5.v s_,.int .i64 x_] .bool:=wX Tryz.func88 [(1,⟨[],[],[.w 3 8 880103,.v 10 16]⟩)] (h:=fun _ _ h hQ M=>by unfold e1p at h;exact tX)
@[go_sem] def g42 (f_:a01) (s_:o5) (k168:Int) (a169:a0r) (x167:Unit):Option (Fl Unit Bool) :=
 chk (inb k168 f_.Consumers.length) ((e1p (f_.Consumers.getD (k168).toNat default) s_ a169.Stored).bind fun y212=>grp (((!y212)||((!a169.Up)&&(!decide (a169.Used=0))))) fun b213=>bif b213 then grp (true) fun b214=>bif b214 then some (.ex false) else some (.nx ()) else bif a169.Up then (e1p (f_.Consumers.getD (k168).toNat default) s_ a169.Used).bind fun y215=>grp (((!y215)||((a169.Up&&(f_.Consumers.getD (k168).toNat default).Live)&&(!decide (a169.Used=a169.Stored))))) fun b216=>bif b216 then some (.ex false) else some (.nx ()) else grp (((a169.Up&&(f_.Consumers.getD (k168).toNat default).Live)&&(!decide (a169.Used=a169.Stored)))) fun b217=>bif b217 then some (.ex false) else some (.nx ()))
def F_5 (f_:a01) (s_:o5):Option Bool := jn (α:=Fl Unit Bool) ((F_w f_).bind fun y29=>grp (((!y29)||((!decide (s_.Known=1))&&(!decide (s_.Known=3))))) fun b30=>bif b30 then grp (true) fun b31=>grp ((b31||(!decide ((s_.Units.length:Int)=(f_.Consumers.length:Int))))) fun b32=>bif b32 then some (.ex false) else some (.nx ()) else (d3l s_.Valid 1 3).bind fun y33=>bif (!y33) then grp (true) fun b34=>grp ((b34||(!decide ((s_.Units.length:Int)=(f_.Consumers.length:Int))))) fun b35=>bif b35 then some (.ex false) else some (.nx ()) else grp (((!decide ((bits .andNot .i64 s_.Valid s_.Known)=0))||(decide (s_.Valid=3)&&decide (f_.Slots=1)))) fun b36=>grp ((b36||(!decide ((s_.Units.length:Int)=(f_.Consumers.length:Int))))) fun b37=>bif b37 then some (.ex false) else some (.nx ())) fun o=>o.elim (fun j19=>(a10 (g42 f_ s_) s_.Units 0 ()).bind fun o=>o.elim (fun x218=>some true) (fun r219=>some r219)) (fun r220=>some r220)
def a_5:List (Nat×RN):=[(1,⟨[],[],[.v 4 12,.v 28 36,.v 38 45]⟩),(7,⟨[.gc [2,3,6,7,55,56,57,74,75,76,77,78,79,80,81,84,85,86,87,88,89,90,91,92,93,96,97,98,99,100,101,102,103,104,105,106,107,108]],[],[.v 7 15,.v 29 42]⟩)]
@[irreducible] def d7x:MC:=rdc (cK Tryz.prog Tryz.f48 a_5 [] 4)
@[irreducible] def e4p:MC:=rdc (cK Tryz.prog Tryz.f48 a_5 [(4,d7x)] 10000003)
instance:LI d7x 57 56 [2,3,55,56] [3,2] (fun y:Unit=>[]) (fun y=>[]) []:=⟨⟩
instance:LI e4p 0 0 [2,3] [3,2] (fun y:Unit=>[]) (fun y=>[]) []:=⟨⟩
instance h5d {f_:a01} {s_:o5}:WJ (F_5 f_ s_) 48 [a01.v f_,o5.v s_] .bool:=wX Tryz.func48 a_5 [(4,d7x),(10000003,e4p)] (h:=fun _ _ h hQ M=>by unfold F_5 at h;exact tX)
def f3z (f_:a01) (x_:GStep):Option Bool :=
 jn (α:=Bool) (bif decide (x_.Kind=1) then some true else bif decide (x_.Kind=2) then some true else bif decide (x_.Kind=3) then some true else some (decide (x_.Kind=8))) fun j5=>bif j5 then some (decide (x_.Unit=0)) else jn (α:=Bool) (bif decide (x_.Kind=4) then some true else bif decide (x_.Kind=5) then some true else bif decide (x_.Kind=6) then some true else some (decide (x_.Kind=7))) fun j6=>bif j6 then grp ((decide (0≤x_.Unit)&&decide (x_.Unit<(f_.Consumers.length:Int)))) fun b8=>some b8 else some false
def g1a:List (Nat×RN):=[(11,⟨[],[],[.v 4 10]⟩)]
@[irreducible] def d7k:MC:=rdc (cK Tryz.prog Tryz.f105 g1a [] 10000011)
@[irreducible] def e4o:MC:=rdc (cK Tryz.prog Tryz.f105 g1a [(10000011,d7k)] 10000006)
instance:LI d7k 0 0 [2,3] [3,2] (fun y:Bool=>[(15,.bool y)]) (fun y=>[]) []:=⟨⟩
instance:LI e4o 0 0 [2,3,6] [3,2] (fun y:Bool=>[(7,.bool y)]) (fun y=>[]) []:=⟨⟩
instance h3e {f_:a01} {x_:GStep}:WJ (f3z f_ x_) 105 [a01.v f_,GStep.v x_] .bool:=wX Tryz.func105 g1a [(10000011,d7k),(10000006,e4o)] (h:=fun _ _ h hQ M=>by unfold f3z at h;exact tX)
def f6k (s_:o5):Option o5 :=
 chk (room s_.Units.length 24) (some (o5.mk s_.Known s_.Valid s_.Units))
instance g8z {s_:o5}:WI (f6k s_) Tryz.prog 155 [o5.v s_] [] (fun z=>.agg [.int .i64 z.Known,.int .i64 z.Valid,.osl 1502 3 0 z.Units.length]) (fun z=>[(1502,.arr 3 (z.Units.map a0r.v))]):=wX Tryz.func155 [] [] [.ownC 2 2 1502 3 none] [1502] (h:=fun _ _ h hQ M=>by unfold f6k at h;exact tX)
def f3y (f_:a01) (s_:o5) (x_:GStep):Option (o5×Bool) :=
 (f6k s_).bind fun y2=>chk (inb x_.Unit y2.Units.length) (chk (inb x_.Unit f_.Consumers.length) (jn (α:=Fl (Bool×a0r) (o5×Bool)) (bif decide (x_.Kind=1) then some (.ex ((o5.mk (bits .or .i64 y2.Known 2) y2.Valid y2.Units),(!(!decide ((bits .and .i64 y2.Known 2)=0))))) else bif decide (x_.Kind=2) then grp (((!decide ((bits .and .i64 y2.Known 2)=0))&&decide (y2.Valid=1))) fun b14=>grp ((b14&&decide (f_.Slots=2))) fun b15=>some (.ex ((o5.mk y2.Known (bits .or .i64 y2.Valid 2) y2.Units),b15)) else bif decide (x_.Kind=3) then grp (((!decide ((bits .and .i64 y2.Known 2)=0))&&decide (y2.Valid=1))) fun b17=>some (.ex ((o5.mk y2.Known 2 y2.Units),b17)) else bif decide (x_.Kind=8) then some (.ex ((o5.mk y2.Known 2 y2.Units),decide (y2.Valid=3))) else bif decide (x_.Kind=4) then jn (α:=Bool) (bif (!decide ((bits .and .i64 y2.Known 2)=0)) then some (decide ((bits .and .i64 ((y2.Units.getD ((x_.Unit).toNat) default).Stored) 2)=0)) else some false) fun j19=>bif (f_.Consumers.getD (x_.Unit).toNat default).Dual then some (.nx (j19,(a0r.mk ((y2.Units.getD ((x_.Unit).toNat) default).Up) 3 ((y2.Units.getD ((x_.Unit).toNat) default).Used)))) else some (.nx (j19,(a0r.mk ((y2.Units.getD ((x_.Unit).toNat) default).Up) 2 ((y2.Units.getD ((x_.Unit).toNat) default).Used)))) else bif decide (x_.Kind=7) then some (.nx (decide ((y2.Units.getD ((x_.Unit).toNat) default).Stored=3),(a0r.mk ((y2.Units.getD ((x_.Unit).toNat) default).Up) 2 ((y2.Units.getD ((x_.Unit).toNat) default).Used)))) else bif decide (x_.Kind=5) then some (.nx ((y2.Units.getD ((x_.Unit).toNat) default).Up,(a0r.mk false ((y2.Units.getD ((x_.Unit).toNat) default).Stored) 0))) else bif decide (x_.Kind=6) then some (.nx ((!((y2.Units.getD ((x_.Unit).toNat) default).Up)),(a0r.mk true ((y2.Units.getD ((x_.Unit).toNat) default).Stored) ((y2.Units.getD ((x_.Unit).toNat) default).Stored)))) else some (.nx (false,y2.Units.getD ((x_.Unit).toNat) default))) fun o=>o.elim (fun j11=>jn (α:=a0r) (grp (((f_.Consumers.getD (x_.Unit).toNat default).Live&&j11.2.Up)) fun b24=>bif b24 then some (a0r.mk j11.2.Up j11.2.Stored j11.2.Stored) else some j11.2) fun j22=>chk (inb x_.Unit y2.Units.length) (some ((o5.mk y2.Known y2.Valid (y2.Units.set ((x_.Unit).toNat) j22)),j11.1))) (fun r25=>some r25)))
def g0z:List (Nat×RN):=[(1,⟨[],[.c 1 0 [] [33330]],[]⟩),(3,⟨[.gc [3,4,5,6,8,46,47,48,51,52,53,65,66,67,84,85,86,87,117,118]],[],[]⟩),(8,⟨[.gc [4,6,10]],[],[]⟩),(12,⟨[.gc [3,4,6,10,46,47,48,51,52,53]],[],[.v 2 5,.v 7 10]⟩),(14,⟨[.gc [4,6,11]],[],[]⟩),(16,⟨[.gc [4,6,10,65,66,67]],[],[.v 2 5]⟩),(20,⟨[.gc [4,6]],[],[]⟩),(24,⟨[.gc [4,5,6,8,9,10,84,85,86,87,117,118]],[],[.w 2 6 1062402]⟩),(29,⟨[.gc [4,5,6,8,9,117,118]],[],[]⟩),(32,⟨[.gc [4,5,6,8,9,117,118]],[],[]⟩),(35,⟨[.gc [4,5,6,8,9,117,118]],[],[]⟩),(37,⟨[],[],[.v 3 5]⟩),(40,⟨[.gc [4,6,11]],[],[]⟩)]
@[irreducible] def d7j:MC:=rdc (cK Tryz.prog Tryz.f106 g0z [] 10000039)
@[irreducible] def e4n:MC:=rdc (cK Tryz.prog Tryz.f106 g0z [(10000039,d7j)] 10000037)
instance e8x {m:List MOp}:GI (gjt 1062402 m) [4,5,6,8,9] [9,8,6,5,4,33330] (fun y:Bool=>[(88,.bool y)]) (fun y=>[]):=⟨⟩
instance:LI d7j 0 0 [4,5,6,8,11] [6,5,4,33330] (fun y:a0r=>[]) (fun y=>[.o 8 (.cells [.bool y.Up,.int .i64 y.Stored,.int .i64 y.Used])]) []:=⟨⟩
instance:LI e4n 0 0 [4,5,6,8,9] [9,6,5,4,33330] (fun y:Bool×a0r=>[(11,.bool y.1)]) (fun y=>[.o 8 (.cells [.bool y.2.Up,.int .i64 y.2.Stored,.int .i64 y.2.Used])]) []:=⟨⟩
instance h3d {f_:a01} {s_:o5} {x_:GStep}:WJ (f3y f_ s_ x_) 106 [a01.v f_,o5.v s_,GStep.v x_] fun z=>.tup [o5.v z.1,.bool z.2]:=wX Tryz.func106 g0z [(10000039,d7j),(10000037,e4n)] [.fzc 6] (h:=fun _ _ h hQ M=>by have:SwA [(1502,33330)]:=⟨⟩;unfold f3y at h;exact tX)
def F_m (f_:a01) (s_:o5) (x_:GStep):Option (o5×Int) := (F_5 f_ s_).bind fun y4=>bif (!y4) then some ((o5.mk 0 0 []),36) else (f3z f_ x_).bind fun y8=>bif (!y8) then some ((o5.mk 0 0 []),2) else (f3y f_ s_ x_).bind fun y10=>bif (!y10.2) then some ((o5.mk 0 0 []),37) else some (y10.1,0)
instance h4v {f_:a01} {s_:o5} {x_:GStep}:WJ (F_m f_ s_ x_) 64 [a01.v f_,o5.v s_,GStep.v x_] fun z=>.tup [o5.v z.1,.int .i64 z.2]:=wX Tryz.func64 [(2,⟨[.gc [6]],[],[]⟩),(3,⟨[.gc [3,4,5,6]],[],[]⟩),(7,⟨[.gc [6]],[],[]⟩),(8,⟨[.gc [6,8]],[],[]⟩)] [] [.fzc 6] (h:=fun _ _ h hQ M=>by unfold F_m at h;exact tX)
@[go_sem] def g3h (f_:a01) (x22:Int×(List Int)):Option (Fl (Int×(List Int)) (List Int)) :=
 bif decide (x22.1≤7) then jn (α:=List Int) ((F_l f_ x22.1).bind fun y30=>bif decide (0<(y30.length:Int)) then chk (room (x22.2.length+[x22.1].length) 8) (some (x22.2++[x22.1])) else some x22.2) fun j28=>chk (a0p (x22.1+1)) (some (.nx ((x22.1+1),j28))) else some (.ex x22.2)
def f3x (f_:a01):Option (List Int) :=
 (loop (g3h f_) (0,[])).bind fun r31=>some r31
def g0y:List (Nat×RN):=[(1,⟨[],[.k 0 1],[]⟩),(5,⟨[],[.c 2 0 [] [11]],[]⟩)]
@[irreducible] def d7i:MC:=rdc (cK Tryz.prog Tryz.f229 g0y [] 10000004)
@[irreducible] def e6p:MC:=rdc (cK Tryz.prog Tryz.f229 g0y [(10000004,d7i)] 3)
instance:LI d7i 0 0 [1,4] [1] (fun y:List Int=>[(3,.osl 2003 1 0 y.length)]) (fun y=>[.o 2003 (.arr 1 (y.map (V.int .i64)))]) [.gc [1,3,4],.acc 3 2003 1]:=⟨⟩
instance:LI e6p 0 0 [1] [1] (fun y:Int×(List Int)=>[(3,.osl 2003 1 0 y.2.length),(4,.int .i64 y.1)]) (fun y=>[.o 2003 (.arr 1 (y.2.map (V.int .i64)))]) [.gc [1,3,4],.acc 3 2003 1]:=⟨⟩
instance h3c {f_:a01}:WJ (f3x f_) 229 [a01.v f_] fun z=>.sl (z.map (V.int .i64)):=wX Tryz.func229 g0y [(10000004,d7i),(3,e6p)] [.fz 2] (h:=fun _ _ h hQ M=>by have:SwA [(1900,11)]:=⟨⟩;unfold f3x at h;exact tX)
def f2b (f_:a01) (s_:o5) (gI:Int):Option Bool :=
 (F_5 f_ s_).bind fun y3=>bif y3 then chk (a0p ((s_.Units.length:Int) - 1)) ((d3l gI 0 ((s_.Units.length:Int) - 1)).bind fun y4=>bif y4 then chk (inb gI s_.Units.length) (bif (s_.Units.getD (gI).toNat default).Up then chk (inb gI s_.Units.length) (some (!decide ((bits .and .i64 ((s_.Units.getD (gI).toNat default).Used) s_.Valid)=0))) else some false) else some false) else some false
instance g9v {f_:a01} {s_:o5} {gI:Int}:WJ (f2b f_ s_ gI) 230 [a01.v f_,o5.v s_,.int .i64 gI] .bool:=wX Tryz.func230 (h:=fun _ _ h hQ M=>by unfold f2b at h;exact tX)
@[go_sem] def g41 (f_:a01) (s_:o5) (x313:List Int) (a315:Int) (k392:Int) (a393:Int) (x391:Unit):Option (Fl Unit (List Int)) :=
 (f2b f_ s_ a393).bind fun y401=>bif y401 then chk (room (x313.length+[a315].length) 8) (some (.ex (x313++[a315]))) else some (.nx ())
@[go_sem] def g3g (f_:a01) (s_:o5) (k314:Int) (a315:Int) (x313:List Int):Option (List Int) :=
 (F_l f_ a315).bind fun y380=>(a10 (g41 f_ s_ x313 a315) y380 0 ()).bind fun o=>o.elim (fun x402=>some x313) (fun r403=>some r403)
def e2a (f_:a01) (s_:o5):Option (List Int) :=
 (f3x f_).bind fun y181=>(a0d (g3g f_ s_) y181 0 []).bind fun x404=>some x404
def g1d:List (Nat×RN):=[(1,⟨[],[.k 0 1],[]⟩),(5,⟨[],[.c 2 0 [] [19]],[]⟩),(9,⟨[.gc [2,3,5,7,11,12,13]],[],[]⟩)]
@[irreducible] def d7w:MC:=rdc (cK Tryz.prog Tryz.f205 g1d [] 6)
@[irreducible] def e6o:MC:=rdc (cK Tryz.prog Tryz.f205 g1d [(6,d7w)] 3)
instance:LI d7w 21 20 [2,3,5,7,11,12,13,19,20] [19,2005,3,2] (fun y:Unit=>[]) (fun y=>[]) []:=⟨⟩
instance:LI e6o 13 12 [2,3,11,12] [3,2] (fun y:List Int=>[(5,.osl 2005 1 0 y.length)]) (fun y=>[.o 2005 (.arr 1 (y.map (V.int .i64)))]) [.gc [2,3,5,11,12,13],.acc 5 2005 1]:=⟨⟩
instance h3q {f_:a01} {s_:o5}:WJ (e2a f_ s_) 205 [a01.v f_,o5.v s_] fun z=>.sl (z.map (V.int .i64)):=wX Tryz.func205 g1d [(6,d7w),(3,e6o)] [.fz 4] (h:=fun _ _ h hQ M=>by have:SwA [(1900,19)]:=⟨⟩;unfold e2a at h;exact tX)
@[go_sem] def g6x (a358:Int) (k490:Int) (a491:Int) (x489:Bool):Option Bool :=
 grp ((x489||decide (a358=a491))) fun b495=>some b495
@[go_sem] def g3f (y2:List Int) (k357:Int) (a358:Int) (x356:Unit):Option (Fl Unit Bool) :=
 (a0d (g6x a358) y2 0 false).bind fun x496=>bif (!x496) then some (.ex false) else some (.nx ())
def f3w (f_:a01) (s_:o5) (t_:o5):Option Bool :=
 (e2a f_ t_).bind fun y2=>(e2a f_ s_).bind fun y217=>(a10 (g3f y2) y217 0 ()).bind fun o=>o.elim (fun x497=>some true) (fun r498=>some r498)
def g0x:List (Nat×RN):=[(2,⟨[.gc [3,4,7,32,33,34]],[],[]⟩),(9,⟨[],[],[.v 2 5]⟩)]
@[irreducible] def d7l:MC:=rdc (cK Tryz.prog Tryz.f154 g0x [] 7)
@[irreducible] def e6n:MC:=rdc (cK Tryz.prog Tryz.f154 g0x [(7,d7l)] 3)
instance:LI d7l 26 25 [7,9,18,19,20,24,25] [] (fun y:Bool=>[(10,.bool y)]) (fun y=>[]) []:=⟨⟩
instance:LI e6n 20 19 [7,18,19] [] (fun y:Unit=>[]) (fun y=>[]) []:=⟨⟩
instance h3b {f_:a01} {s_ t_:o5}:WJ (f3w f_ s_ t_) 154 [a01.v f_,o5.v s_,o5.v t_] .bool:=wX Tryz.func154 g0x [(7,d7l),(3,e6n)] (h:=fun _ _ h hQ M=>by unfold f3w at h;exact tX)
def f2a (f_:a01) (s_:o5) (x_:GStep):Option Bool :=
 (F_m f_ s_ x_).bind fun y2=>jn (α:=Bool) (bif decide (y2.2=0) then (f3w f_ s_ y2.1).bind fun y6=>some y6 else some false) fun j7=>some j7
instance e8y {m:List MOp}:GI (gjt 1040203 m) [] [] (fun y:Bool=>[(23,.bool y)]) (fun y=>[]):=⟨⟩
instance g9u {f_:a01} {s_:o5} {x_:GStep}:WJ (f2a f_ s_ x_) 104 [a01.v f_,o5.v s_,GStep.v x_] .bool:=wX Tryz.func104 [(2,⟨[.gc [3,4,7,8,19,20,21,22]],[],[.w 3 7 1040203]⟩)] (h:=fun _ _ h hQ M=>by unfold f2a at h;exact tX)
@[go_sem] def g40 (f_:a01) (s_:o5) (x257:Int×(List GStep)) (k351:Int) (a352:u7) (x350:List GStep):Option (List GStep) :=
 (f2a f_ s_ (GStep.mk x257.1 k351)).bind fun y360=>bif y360 then chk (room (x350.length+[(GStep.mk x257.1 k351)].length) 16) (some (x350++[(GStep.mk x257.1 k351)])) else some x350
@[go_sem] def g3e (f_:a01) (s_:o5) (x257:Int×(List GStep)):Option (Fl (Int×(List GStep)) (List GStep)) :=
 bif decide (x257.1≤8) then (a0d (g40 f_ s_ x257) f_.Consumers 0 x257.2).bind fun x361=>chk (a0p (x257.1+1)) (some (.nx ((x257.1+1),x361))) else some (.ex x257.2)
def f3v (f_:a01) (s_:o5):Option (List GStep) :=
 (loop (g3e f_ s_) (1,[])).bind fun r362=>some r362
def g0w:List (Nat×RN):=[(1,⟨[],[.k 0 1],[]⟩),(10,⟨[.gc [2,3,5,6,8,15,16]],[],[]⟩)]
@[irreducible] def d7v:MC:=rdc (cK Tryz.prog Tryz.f63 g0w [] 6)
@[irreducible] def e6m:MC:=rdc (cK Tryz.prog Tryz.f63 g0w [(6,d7v)] 3)
instance:LI d7v 16 15 [2,3,6,15] [3,2] (fun y:List GStep=>[(5,.osl 2005 2 0 y.length)]) (fun y=>[.o 2005 (.arr 2 (y.map GStep.v))]) [.gc [2,3,5,6,15,16],.acc 5 2005 2]:=⟨⟩
instance:LI e6m 0 0 [2,3] [3,2] (fun y:Int×(List GStep)=>[(5,.osl 2005 2 0 y.2.length),(6,.int .i64 y.1)]) (fun y=>[.o 2005 (.arr 2 (y.2.map GStep.v))]) [.gc [2,3,5,6],.acc 5 2005 2]:=⟨⟩
instance h3a {f_:a01} {s_:o5}:WJ (f3v f_ s_) 63 [a01.v f_,o5.v s_] fun z=>.sl (z.map GStep.v):=wX Tryz.func63 g0w [(6,d7v),(3,e6m)] [.fz 4] (h:=fun _ _ h hQ M=>by unfold f3v at h;exact tX)
def F_6 (x_:Int) (jD:Int) (kC:Int):Option Bool := grp ((decide (jD≤x_)&&decide (x_≤kC))) fun b2=>some b2
instance h5c {x_ jD kC:Int}:WJ (F_6 x_ jD kC) 89 [.int .i64 x_,.int .i64 jD,.int .i64 kC] .bool:=wX Tryz.func89 [(1,⟨[],[],[.v 4 7]⟩)] (h:=fun _ _ h hQ M=>by unfold F_6 at h;exact tX)
@[go_sem] def g3d (qF:Int) (x15:Int×Bool×(List p9)):Option (Fl (Int×Bool×(List p9)) (Bool×(List p9))) :=
 bif decide (x15.1<qF) then chk (room (x15.2.2.length+[(p9.mk 0 true)].length) 16) (chk (a0p (x15.1+1)) (some (.nx ((x15.1+1),x15.2.1,(x15.2.2++[(p9.mk 0 true)]))))) else some (.ex (x15.2.1,x15.2.2))
def f7k (qF:Int) (gH:Int) (qJ:Bool):Option (l9×Int) :=
 (F_6 qF 1 5).bind fun y7=>bif (!y7) then some ((l9.mk false [] [] []),39) else (F_6 gH 0 3).bind fun y8=>bif (!y8) then some ((l9.mk false [] [] []),39) else (loop (g3d qF) (0,qJ,[])).bind fun r16=>some ((l9.mk r16.1 [gH] r16.2 []),0)
def g58:List (Nat×RN):=[(2,⟨[.gc [6]],[],[]⟩),(3,⟨[.gc [0,1,2,6]],[.k 3 1],[]⟩)]
@[irreducible] def e6l:MC:=rdc (cK Tryz.prog Tryz.f65 g58 [] 5)
instance:LI e6l 0 0 [6,8,22] [8,20,6] (fun y:Int×Bool×(List p9)=>[(23,.int .i64 y.1)]) (fun y=>[.p 8 0 [.bool y.2.1],.p 8 2 [.osl 4130 2 0 y.2.2.length],.o 4130 (.arr 2 (y.2.2.map p9.v))]) [.gc [6,8,22,23],.ownC 8 2 4130 2 none]:=⟨⟩
instance h15 {qF gH:Int} {qJ:Bool}:WJ (f7k qF gH qJ) 65 [.int .i64 qF,.int .i64 gH,.bool qJ] fun z=>.tup [l9.v z.1,.int .i64 z.2]:=wX Tryz.func65 g58 [(5,e6l)] [.fzc 6] (h:=fun _ _ h hQ M=>by unfold f7k at h;exact tX)
@[go_sem] def f4d (k48:Int) (a49:Int) (x47:Unit):Option (Fl Unit Bool) :=
 (F_6 a49 0 3).bind fun y57=>bif (!y57) then some (.ex false) else some (.nx ())
@[go_sem] def f3u (c_:l9) (k90:Int) (a91:p9) (x89:Unit):Option (Fl Unit Bool) :=
 chk (a0p ((c_.Sets.length:Int) - 1)) ((F_6 a91.Generation 0 ((c_.Sets.length:Int) - 1)).bind fun y99=>bif (!y99) then some (.ex false) else some (.nx ()))
@[go_sem] def f3l (c_:l9) (k132:Int) (a133:Int) (x131:Unit):Option (Fl Unit Bool) :=
 chk (a0p ((c_.Sets.length:Int) - 1)) ((F_6 a133 0 ((c_.Sets.length:Int) - 1)).bind fun y141=>bif (!y141) then some (.ex false) else some (.nx ()))
def F_2 (c_:l9):Option Bool := jn (α:=Fl Unit Bool) ((F_6 (c_.Replicas.length:Int) 1 5).bind fun y14=>bif (!y14) then grp (true) fun b15=>bif b15 then some (.ex false) else some (.nx ()) else (F_6 (c_.Sets.length:Int) 1 121).bind fun y16=>grp (((!y16)||decide (120<(c_.Snapshots.length:Int)))) fun b17=>bif b17 then some (.ex false) else some (.nx ())) fun o=>o.elim (fun j9=>(a10 f4d c_.Sets 0 ()).bind fun o=>o.elim (fun x58=>(a10 (f3u c_) c_.Replicas 0 ()).bind fun o=>o.elim (fun x100=>(a10 (f3l c_) c_.Snapshots 0 ()).bind fun o=>o.elim (fun x142=>some true) (fun r143=>some r143)) (fun r101=>some r101)) (fun r59=>some r59)) (fun r144=>some r144)
def a_2:List (Nat×RN):=[(1,⟨[],[],[.v 13 17]⟩)]
@[irreducible] def c6u:MC:=rdc (cK Tryz.prog Tryz.f49 a_2 [] 4)
@[irreducible] def d1k:MC:=rdc (cK Tryz.prog Tryz.f49 a_2 [(4,c6u)] 10)
@[irreducible] def d82:MC:=rdc (cK Tryz.prog Tryz.f49 a_2 [(4,c6u),(10,d1k)] 16)
@[irreducible] def e4m:MC:=rdc (cK Tryz.prog Tryz.f49 a_2 [(4,c6u),(10,d1k),(16,d82)] 10000003)
instance:LI c6u 30 29 [1,28,29] [1] (fun y:Unit=>[]) (fun y=>[]) []:=⟨⟩
instance:LI d1k 41 40 [1,39,40] [1] (fun y:Unit=>[]) (fun y=>[]) []:=⟨⟩
instance:LI d82 57 56 [1,55,56] [1] (fun y:Unit=>[]) (fun y=>[]) []:=⟨⟩
instance:LI e4m 0 0 [1] [1] (fun y:Unit=>[]) (fun y=>[]) []:=⟨⟩
instance h5f {c_:l9}:WJ (F_2 c_) 49 [l9.v c_] .bool:=wX Tryz.func49 a_2 [(4,c6u),(10,d1k),(16,d82),(10000003,e4m)] (h:=fun _ _ h hQ M=>by unfold F_2 at h;exact tX)
def e1o (c_:l9):Option l9 :=
 chk (room c_.Sets.length 8) (chk (room c_.Replicas.length 16) (chk (room c_.Snapshots.length 8) (some (l9.mk c_.Fence c_.Sets c_.Replicas c_.Snapshots))))
instance h0f {c_:l9}:WI (e1o c_) Tryz.prog 37 [l9.v c_] [] (fun z=>.agg [.bool z.Fence,.osl 1501 1 0 z.Sets.length,.osl 1502 2 0 z.Replicas.length,.osl 1503 1 0 z.Snapshots.length]) (fun z=>[(1501,.arr 1 (z.Sets.map (V.int .i64))),(1502,.arr 2 (z.Replicas.map p9.v)),(1503,.arr 1 (z.Snapshots.map (V.int .i64)))]):=wX Tryz.func37 [] [] [.ownC 2 1 1501 1 none,.ownC 2 2 1502 2 none,.ownC 2 3 1503 1 none] [1501,1502,1503] (h:=fun _ _ h hQ M=>by unfold e1o at h;exact tX)
def F_x (c_:l9) (x_:a0a):Option (l9×Int) := (F_2 c_).bind fun y4=>bif (!y4) then some ((l9.mk false [] [] []),39) else (e1o c_).bind fun y6=>jn (α:=Fl a0a (l9×Int)) (bif decide (x_.Kind=1) then bif (!(decide (x_.Kind=x_.Kind)&&(decide (x_.Replica=0)&&(decide (x_.Snapshot=0)&&decide (x_.Bits=x_.Bits))))) then some (.ex ((l9.mk false [] [] []),39)) else (F_6 x_.Bits 0 3).bind fun y16=>bif (!y16) then some (.ex ((l9.mk false [] [] []),39)) else bif decide (120<(y6.Sets.length:Int)) then some (.ex ((l9.mk false [] [] []),3)) else chk (room (y6.Sets.length+[x_.Bits].length) 8) (some (.ex ((l9.mk y6.Fence (y6.Sets++[x_.Bits]) y6.Replicas y6.Snapshots),0))) else jn (α:=Bool) (bif decide (x_.Kind=2) then some true else some (decide (x_.Kind=3))) fun j17=>bif j17 then some (.nx (a0a.mk x_.Kind x_.Replica 0 0)) else bif decide (x_.Kind=4) then some (.nx (a0a.mk x_.Kind x_.Replica x_.Snapshot 0)) else some (.nx (a0a.mk x_.Kind 0 0 0))) fun o=>o.elim (fun j12=>jn (α:=Fl Unit (l9×Int)) (bif (!(decide (x_.Kind=j12.Kind)&&(decide (x_.Replica=j12.Replica)&&(decide (x_.Snapshot=j12.Snapshot)&&decide (x_.Bits=j12.Bits))))) then some (.ex ((l9.mk false [] [] []),39)) else (F_6 x_.Kind 2 4).bind fun y28=>bif (!y28) then some (.ex ((l9.mk false [] [] []),39)) else chk (a0p ((y6.Replicas.length:Int) - 1)) ((F_6 x_.Replica 0 ((y6.Replicas.length:Int) - 1)).bind fun y29=>bif (!y29) then some (.ex ((l9.mk false [] [] []),39)) else bif decide (x_.Kind=4) then chk (a0p ((y6.Snapshots.length:Int) - 1)) ((F_6 x_.Snapshot 0 ((y6.Snapshots.length:Int) - 1)).bind fun y30=>bif (!y30) then some (.ex ((l9.mk false [] [] []),39)) else some (.nx ())) else some (.nx ()))) fun o=>o.elim (fun j24=>chk (inb x_.Replica y6.Replicas.length) (jn (α:=Fl (Bool×(List p9)×(List Int)) (l9×Int)) (bif decide (x_.Kind=2) then chk (a0p ((y6.Sets.length:Int) - 1)) (some (.nx (y6.Fence,y6.Replicas.set ((x_.Replica).toNat) (p9.mk ((y6.Sets.length:Int) - 1) true),y6.Snapshots))) else bif decide (x_.Kind=3) then bif decide (120≤(y6.Snapshots.length:Int)) then some (.ex ((l9.mk false [] [] []),3)) else chk (room (y6.Snapshots.length+[(y6.Replicas.getD ((x_.Replica).toNat) default).Generation].length) 8) (some (.nx (y6.Fence,y6.Replicas,(y6.Snapshots++[(y6.Replicas.getD ((x_.Replica).toNat) default).Generation])))) else chk (inb x_.Snapshot y6.Snapshots.length) (some (.nx (y6.Fence,y6.Replicas.set ((x_.Replica).toNat) (p9.mk (y6.Snapshots.getD ((x_.Snapshot).toNat) default) (!y6.Fence)),y6.Snapshots)))) fun o=>o.elim (fun j31=>some ((l9.mk j31.1 y6.Sets j31.2.1 j31.2.2),0)) (fun r32=>some r32))) (fun r33=>some r33)) (fun r34=>some r34)
def a_x:List (Nat×RN):=[(2,⟨[.gc [4]],[],[]⟩),(4,⟨[.gc [2,3,4,6,28,29,30,31,65,66,67,68,71,72,73,74,75,76,77,78,81,82,83,84,85,86,87,88,89,90,91,92,93]],[.c 1 0 [] [34097,34098,34099]],[]⟩),(8,⟨[.gc [2,3,4,6,28,29,30,31]],[],[]⟩),(9,⟨[.gc [4]],[],[]⟩),(10,⟨[.gc [2,3,4]],[],[]⟩),(13,⟨[.gc [2,4]],[],[]⟩),(20,⟨[.gc [4]],[],[]⟩),(23,⟨[.gc [2,3,4,7]],[],[]⟩),(25,⟨[.gc [2,4,7]],[],[]⟩),(27,⟨[.gc [2,4,7]],[],[]⟩)]
@[irreducible] def c6p:MC:=rdc (cK Tryz.prog Tryz.f66 a_x [] 10000016)
@[irreducible] def d12:MC:=rdc (cK Tryz.prog Tryz.f66 a_x [(10000016,c6p)] 10000030)
@[irreducible] def d7h:MC:=rdc (cK Tryz.prog Tryz.f66 a_x [(10000016,c6p),(10000030,d12)] 10000021)
@[irreducible] def e4l:MC:=rdc (cK Tryz.prog Tryz.f66 a_x [(10000016,c6p),(10000030,d12),(10000021,d7h)] 10000019)
instance:LI c6p 0 0 [2,3,4,6,18] [6,4,3,2,34097,34098,34099] (fun y:Bool=>[(47,.bool y)]) (fun y=>[]) []:=⟨⟩
instance:LI d12 0 0 [2,4] [4,2,34097] (fun y:Bool×(List p9)×(List Int)=>[]) (fun y=>[.p 2 0 [.bool y.1],.p 2 2 [.osl 34098 2 0 y.2.1.length],.p 2 3 [.osl 4035 1 0 y.2.2.length],.o 34098 (.arr 2 (y.2.1.map p9.v)),.o 4035 (.arr 1 (y.2.2.map (V.int .i64)))]) [.gc [2,4],.ownC 2 3 4035 1 none]:=⟨⟩
instance:LI d7h 0 0 [2,3,4] [4,3,2,34097,34098,34099] (fun y:Unit=>[]) (fun y=>[]) []:=⟨⟩
instance:LI e4l 0 0 [2,3,4,6] [4,3,2,34097,34098,34099] (fun y:a0a=>[]) (fun y=>[.o 6 (.cells [.int .i64 y.Kind,.int .i64 y.Replica,.int .i64 y.Snapshot,.int .i64 y.Bits])]) []:=⟨⟩
instance h4l {c_:l9} {x_:a0a}:WJ (F_x c_ x_) 66 [l9.v c_,a0a.v x_] fun z=>.tup [l9.v z.1,.int .i64 z.2]:=wX Tryz.func66 a_x [(10000016,c6p),(10000030,d12),(10000021,d7h),(10000019,e4l)] [.fzc 4] (h:=fun _ _ h hQ M=>by have:SwA [(1501,34097),(1502,34098),(1503,34099)]:=⟨⟩;unfold F_x at h;exact tX)
def e1n (n_:Int) (jD:Int) (kC:Int):Option Bool :=
 grp ((decide (jD≤n_)&&decide (n_≤kC))) fun b2=>some b2
instance h0e {n_ jD kC:Int}:WJ (e1n n_ jD kC) 160 [.int .i64 n_,.int .i64 jD,.int .i64 kC] .bool:=wX Tryz.func160 [(1,⟨[],[],[.v 4 7]⟩)] (h:=fun _ _ h hQ M=>by unfold e1n at h;exact tX)
def f6j (x_:a0e):Option Bool :=
 (c1h x_.Name 40).bind fun y4=>jn (α:=Bool) (bif (!y4) then some true else (e1n x_.Slots 1 2).bind fun y6=>some (!y6)) fun j7=>some j7
instance e8t {m:List MOp}:GI (gjt 1580105 m) [2] [] (fun y:Bool=>[(12,.bool y)]) (fun y=>[]):=⟨⟩
instance g8y {x_:a0e}:WJ (f6j x_) 158 [a0e.v x_] .bool:=wX Tryz.func158 [(1,⟨[],[],[.w 5 9 1580105]⟩)] (h:=fun _ _ h hQ M=>by unfold f6j at h;exact tX)
@[go_sem] def g3c (k31:Int) (a32:a0e) (x30:Unit):Option (Fl Unit Int) :=
 (f6j a32).bind fun y40=>bif y40 then some (.ex k31) else some (.nx ())
def f6i (s_:List a0e):Option Int :=
 (a10 g3c s_ 0 ()).bind fun o=>o.elim (fun x41=>some (-1)) (fun r42=>some r42)
@[irreducible] def e6k:MC:=rdc (cK Tryz.prog Tryz.f210 [] [] 2)
instance:LI e6k 8 7 [0,1,7] [] (fun y:Unit=>[]) (fun y=>[]) []:=⟨⟩
instance g8x {s_:List a0e}:WJ (f6i s_) 210 [.sl (s_.map a0e.v),.fn (.func 158) []] (.int .i64):=wX Tryz.func210 [] [(2,e6k)] (h:=fun _ _ h hQ M=>by unfold f6i at h;exact tX)
def e1m (s_:List a0e):Option Bool :=
 (f6i s_).bind fun y2=>some (decide (0≤y2))
instance h0d {s_:List a0e}:WJ (e1m s_) 163 [.sl (s_.map a0e.v),.fn (.func 158) []] .bool:=wX Tryz.func163 (h:=fun _ _ h hQ M=>by unfold e1m at h;exact tX)
def f6h (r_:o6) (c_:o7):Option Bool :=
 chk (a0p ((r_.Issuers.length:Int) - 1)) ((e1n c_.Issuer 0 ((r_.Issuers.length:Int) - 1)).bind fun y7=>jn (α:=Bool) (bif y7 then (e1n c_.Holder 0 23).bind fun y9=>some y9 else some false) fun j10=>grp ((j10&&decide (0≤c_.From))) fun b11=>grp ((b11&&decide (c_.From<c_.Until))) fun b12=>grp ((b12&&decide (c_.Until≤1099511627777))) fun b13=>some b13)
instance e8s {m:List MOp}:GI (gjt 1620108 m) [3,4] [3] (fun y:Bool=>[(16,.bool y)]) (fun y=>[]):=⟨⟩
instance g8w {r_:o6} {c_:o7}:WJ (f6h r_ c_) 162 [o6.v r_,o7.v c_] .bool:=wX Tryz.func162 [(1,⟨[],[],[.w 8 11 1620108,.v 13 16,.v 18 23,.v 25 28]⟩)] (h:=fun _ _ h hQ M=>by unfold f6h at h;exact tX)
def f1z (c_:o7) (p_:o6):Option Bool :=
 (f6h p_ c_).bind fun y2=>some (!y2)
instance g9t {c_:o7} {p_:o6}:WI (f1z c_ p_) Tryz.prog 161 [o7.v c_,.ptr 1000 0] [(1000,.cells [.sl (p_.Issuers.map a0e.v),.sl (p_.Credentials.map o7.v)])] (fun z=>.bool z) (fun z=>[(1000,.cells [.sl (p_.Issuers.map a0e.v),.sl (p_.Credentials.map o7.v)])]):=wX Tryz.func161 [] [] [] [1000] (h:=fun _ _ h hQ M=>by unfold f1z at h;exact tX)
@[go_sem] def f7e (qA:o6) (k31:Int) (a32:o7) (x30:Unit):Option (Fl Unit Int) :=
 (f1z a32 qA).bind fun y40=>bif y40 then some (.ex k31) else some (.nx ())
def f3k (s_:List o7) (qA:o6):Option Int :=
 (a10 (f7e qA) s_ 0 ()).bind fun o=>o.elim (fun x41=>some (-1)) (fun r42=>some r42)
def g60:List (Nat×RN):=[(4,⟨[],[.c 5 0 [1000] []],[]⟩)]
@[irreducible] def e7e:MC:=rdc (cK Tryz.prog Tryz.f211 g60 [] 2)
instance:LI e7e 8 7 [0,1,7] [1000] (fun y:Unit=>[]) (fun y=>[]) []:=⟨⟩
instance h2q {s_:List o7} {qA:o6}:WI (f3k s_ qA) Tryz.prog 211 [.sl (s_.map o7.v),.fn (.func 161) [.ptr 1000 0]] [(1000,.cells [.sl (qA.Issuers.map a0e.v),.sl (qA.Credentials.map o7.v)])] (fun z=>.int .i64 z) (fun z=>[(1000,.cells [.sl (qA.Issuers.map a0e.v),.sl (qA.Credentials.map o7.v)])]):=wX Tryz.func211 g60 [(2,e7e)] [] [1000] (h:=fun _ _ h hQ M=>by unfold f3k at h;exact tX)
def e0f (s_:List o7) (qA:o6):Option Bool :=
 (f3k s_ qA).bind fun y2=>some (decide (0≤y2))
instance h0y {s_:List o7} {qA:o6}:WI (e0f s_ qA) Tryz.prog 164 [.sl (s_.map o7.v),.fn (.func 161) [.ptr 1000 0]] [(1000,.cells [.sl (qA.Issuers.map a0e.v),.sl (qA.Credentials.map o7.v)])] (fun z=>.bool z) (fun z=>[(1000,.cells [.sl (qA.Issuers.map a0e.v),.sl (qA.Credentials.map o7.v)])]):=wX Tryz.func164 [(1,⟨[],[.c 2 0 [1000] []],[]⟩)] [] [] [1000] (h:=fun _ _ h hQ M=>by unfold e0f at h;exact tX)
def f6g (c_:o7) (t_:Int):Option Bool :=
 grp ((decide (c_.From≤t_)&&decide (t_<c_.Until))) fun b2=>some b2
instance g8v {c_:o7} {t_:Int}:WJ (f6g c_ t_) 212 [o7.v c_,.int .i64 t_] .bool:=wX Tryz.func212 [(1,⟨[],[],[.v 5 9]⟩)] (h:=fun _ _ h hQ M=>by unfold f6g at h;exact tX)
@[go_sem] def g3b (kE:Int) (jE:Int) (t_:Int) (k100:Int) (a101:o7) (x99:List Int):Option (List Int) :=
 grp ((decide (a101.Issuer=kE)&&decide (a101.Holder=jE))) fun b123=>jn (α:=Bool) (bif b123 then (f6g a101 t_).bind fun y125=>some y125 else some false) fun j126=>bif j126 then chk (room (x99.length+[k100].length) 8) (some (x99++[k100])) else some x99
def f3j (r_:o6) (kE:Int) (jE:Int) (t_:Int):Option (List Int) :=
 (a0d (g3b kE jE t_) r_.Credentials 0 []).bind fun x127=>some x127
def g5z:List (Nat×RN):=[(1,⟨[],[.k 0 1],[]⟩),(5,⟨[],[],[.v 5 9,.w 11 14 1650511]⟩)]
@[irreducible] def e6j:MC:=rdc (cK Tryz.prog Tryz.f165 g5z [] 3)
instance e8r {m:List MOp}:GI (gjt 1650511 m) [1,2,3,9,10,13,14,15] [2009] (fun y:Bool=>[(34,.bool y)]) (fun y=>[]):=⟨⟩
instance:LI e6j 15 14 [1,2,3,13,14] [] (fun y:List Int=>[(9,.osl 2009 1 0 y.length)]) (fun y=>[.o 2009 (.arr 1 (y.map (V.int .i64)))]) [.gc [1,2,3,9,13,14,15],.acc 9 2009 1]:=⟨⟩
instance h2p {r_:o6} {kE jE t_:Int}:WJ (f3j r_ kE jE t_) 165 [o6.v r_,.int .i64 kE,.int .i64 jE,.int .i64 t_] fun z=>.sl (z.map (V.int .i64)):=wX Tryz.func165 g5z [(3,e6j)] [.fz 8] (h:=fun _ _ h hQ M=>by unfold f3j at h;exact tX)
@[go_sem] def g3a (r_:o6) (k43:Int) (a44:o7) (x42:Unit):Option (Fl Unit Int) :=
 (f3j r_ a44.Issuer a44.Holder a44.From).bind fun y52=>chk (inb a44.Issuer r_.Issuers.length) (bif decide ((r_.Issuers.getD (a44.Issuer).toNat default).Slots<(y52.length:Int)) then some (.ex 31) else some (.nx ()))
def F_n (r_:o6):Option Int := grp ((decide (8<(r_.Issuers.length:Int))||decide (24<(r_.Credentials.length:Int)))) fun b10=>bif b10 then some 31 else (e1m r_.Issuers).bind fun y11=>bif y11 then some 31 else (e0f r_.Credentials r_).bind fun y12=>bif y12 then some 31 else (a10 (g3a r_) r_.Credentials 0 ()).bind fun o=>o.elim (fun x53=>some 0) (fun r54=>some r54)
def a_n:List (Nat×RN):=[(3,⟨[],[.c 20 0 [1] []],[.v 5 9]⟩),(5,⟨[.gc [1]],[],[]⟩)]
@[irreducible] def e6i:MC:=rdc (cK Tryz.prog Tryz.f108 a_n [] 6)
instance:LI e6i 33 32 [1,31,32] [1] (fun y:Unit=>[]) (fun y=>[]) []:=⟨⟩
instance h4u {r_:o6}:WJ (F_n r_) 108 [o6.v r_] (.int .i64):=wX Tryz.func108 a_n [(6,e6i)] (h:=fun _ _ h hQ M=>by have:SwA [(1000,1)]:=⟨⟩;unfold F_n at h;exact tX)
def F_o (n_:Int) (jD:Int) (kC:Int):Option Bool := grp ((decide (jD≤n_)&&decide (n_≤kC))) fun b2=>some b2
instance h4t {n_ jD kC:Int}:WJ (F_o n_ jD kC) 166 [.int .i64 n_,.int .i64 jD,.int .i64 kC] .bool:=wX Tryz.func166 [(1,⟨[],[],[.v 4 7]⟩)] (h:=fun _ _ h hQ M=>by unfold F_o at h;exact tX)
def F_y (x_:l7) (c_:Int):Option Bool := chk (a0p (x_.Credentials - 1)) ((F_o c_ 0 (x_.Credentials - 1)).bind fun y2=>some y2)
instance h4k {x_:l7} {c_:Int}:WJ (F_y x_ c_) 168 [l7.v x_,.int .i64 c_] .bool:=wX Tryz.func168 (h:=fun _ _ h hQ M=>by unfold F_y at h;exact tX)
def e1l (x_:l7) (r_:Int):Option Bool :=
 chk (a0p (x_.Resources - 1)) ((F_o r_ 0 (x_.Resources - 1)).bind fun y2=>some y2)
instance h0c {x_:l7} {r_:Int}:WJ (e1l x_ r_) 169 [l7.v x_,.int .i64 r_] .bool:=wX Tryz.func169 (h:=fun _ _ h hQ M=>by unfold e1l at h;exact tX)
def f6f (g_:a03) (p_:l7):Option Bool :=
 (F_y p_ g_.Credential).bind fun y6=>jn (α:=Bool) (bif (!y6) then some true else (e1l p_ g_.Resource).bind fun y8=>some (!y8)) fun j9=>jn (α:=Bool) (bif j9 then some true else (F_o g_.Right 1 3).bind fun y11=>some (!y11)) fun j12=>some j12
instance e8p {m:List MOp}:GI (gjt 1670113 m) [3] [1000] (fun y:Bool=>[(21,.bool y)]) (fun y=>[]):=⟨⟩
instance e8q {m:List MOp}:GI (gjt 1670106 m) [2,3] [2,1000] (fun y:Bool=>[(15,.bool y)]) (fun y=>[]):=⟨⟩
instance g8u {g_:a03} {p_:l7}:WI (f6f g_ p_) Tryz.prog 167 [a03.v g_,.ptr 1000 0] [(1000,.cells [.int .i64 p_.Credentials,.int .i64 p_.Resources,.sl (p_.Grants.map a03.v),.sl (p_.Stores.map a08.v),.sl (p_.Mints.map a0n.v)])] (fun z=>.bool z) (fun z=>[(1000,.cells [.int .i64 p_.Credentials,.int .i64 p_.Resources,.sl (p_.Grants.map a03.v),.sl (p_.Stores.map a08.v),.sl (p_.Mints.map a0n.v)])]):=wX Tryz.func167 [(1,⟨[],[],[.w 6 11 1670106,.w 13 17 1670113]⟩)] [] [] [1000] (h:=fun _ _ h hQ M=>by unfold f6f at h;exact tX)
@[go_sem] def g39 (qA:l7) (k31:Int) (a32:a03) (x30:Unit):Option (Fl Unit Int) :=
 (f6f a32 qA).bind fun y40=>bif y40 then some (.ex k31) else some (.nx ())
def g3z (s_:List a03) (qA:l7):Option Int :=
 (a10 (g39 qA) s_ 0 ()).bind fun o=>o.elim (fun x41=>some (-1)) (fun r42=>some r42)
def g54:List (Nat×RN):=[(4,⟨[],[.c 5 0 [1000] []],[]⟩)]
@[irreducible] def e6h:MC:=rdc (cK Tryz.prog Tryz.f213 g54 [] 2)
instance:LI e6h 8 7 [0,1,7] [1000] (fun y:Unit=>[]) (fun y=>[]) []:=⟨⟩
instance h0b {s_:List a03} {qA:l7}:WI (g3z s_ qA) Tryz.prog 213 [.sl (s_.map a03.v),.fn (.func 167) [.ptr 1000 0]] [(1000,.cells [.int .i64 qA.Credentials,.int .i64 qA.Resources,.sl (qA.Grants.map a03.v),.sl (qA.Stores.map a08.v),.sl (qA.Mints.map a0n.v)])] (fun z=>.int .i64 z) (fun z=>[(1000,.cells [.int .i64 qA.Credentials,.int .i64 qA.Resources,.sl (qA.Grants.map a03.v),.sl (qA.Stores.map a08.v),.sl (qA.Mints.map a0n.v)])]):=wX Tryz.func213 g54 [(2,e6h)] [] [1000] (h:=fun _ _ h hQ M=>by unfold g3z at h;exact tX)
def f6e (s_:List a03) (qA:l7):Option Bool :=
 (g3z s_ qA).bind fun y2=>some (decide (0≤y2))
instance g8t {s_:List a03} {qA:l7}:WI (f6e s_ qA) Tryz.prog 172 [.sl (s_.map a03.v),.fn (.func 167) [.ptr 1000 0]] [(1000,.cells [.int .i64 qA.Credentials,.int .i64 qA.Resources,.sl (qA.Grants.map a03.v),.sl (qA.Stores.map a08.v),.sl (qA.Mints.map a0n.v)])] (fun z=>.bool z) (fun z=>[(1000,.cells [.int .i64 qA.Credentials,.int .i64 qA.Resources,.sl (qA.Grants.map a03.v),.sl (qA.Stores.map a08.v),.sl (qA.Mints.map a0n.v)])]):=wX Tryz.func172 [(1,⟨[],[.c 2 0 [1000] []],[]⟩)] [] [] [1000] (h:=fun _ _ h hQ M=>by unfold f6e at h;exact tX)
def f6d (s_:a08) (p_:l7):Option Bool :=
 (F_y p_ s_.Credential).bind fun y4=>jn (α:=Bool) (bif (!y4) then some true else (e1l p_ s_.Resource).bind fun y6=>some (!y6)) fun j7=>some j7
instance e8o {m:List MOp}:GI (gjt 1700106 m) [3] [1000] (fun y:Bool=>[(15,.bool y)]) (fun y=>[]):=⟨⟩
instance g8s {s_:a08} {p_:l7}:WI (f6d s_ p_) Tryz.prog 170 [a08.v s_,.ptr 1000 0] [(1000,.cells [.int .i64 p_.Credentials,.int .i64 p_.Resources,.sl (p_.Grants.map a03.v),.sl (p_.Stores.map a08.v),.sl (p_.Mints.map a0n.v)])] (fun z=>.bool z) (fun z=>[(1000,.cells [.int .i64 p_.Credentials,.int .i64 p_.Resources,.sl (p_.Grants.map a03.v),.sl (p_.Stores.map a08.v),.sl (p_.Mints.map a0n.v)])]):=wX Tryz.func170 [(1,⟨[],[],[.w 6 11 1700106]⟩)] [] [] [1000] (h:=fun _ _ h hQ M=>by unfold f6d at h;exact tX)
@[go_sem] def g38 (qA:l7) (k31:Int) (a32:a08) (x30:Unit):Option (Fl Unit Int) :=
 (f6d a32 qA).bind fun y40=>bif y40 then some (.ex k31) else some (.nx ())
def g3y (s_:List a08) (qA:l7):Option Int :=
 (a10 (g38 qA) s_ 0 ()).bind fun o=>o.elim (fun x41=>some (-1)) (fun r42=>some r42)
def g53:List (Nat×RN):=[(4,⟨[],[.c 5 0 [1000] []],[]⟩)]
@[irreducible] def e6g:MC:=rdc (cK Tryz.prog Tryz.f214 g53 [] 2)
instance:LI e6g 8 7 [0,1,7] [1000] (fun y:Unit=>[]) (fun y=>[]) []:=⟨⟩
instance h0a {s_:List a08} {qA:l7}:WI (g3y s_ qA) Tryz.prog 214 [.sl (s_.map a08.v),.fn (.func 170) [.ptr 1000 0]] [(1000,.cells [.int .i64 qA.Credentials,.int .i64 qA.Resources,.sl (qA.Grants.map a03.v),.sl (qA.Stores.map a08.v),.sl (qA.Mints.map a0n.v)])] (fun z=>.int .i64 z) (fun z=>[(1000,.cells [.int .i64 qA.Credentials,.int .i64 qA.Resources,.sl (qA.Grants.map a03.v),.sl (qA.Stores.map a08.v),.sl (qA.Mints.map a0n.v)])]):=wX Tryz.func214 g53 [(2,e6g)] [] [1000] (h:=fun _ _ h hQ M=>by unfold g3y at h;exact tX)
def f6c (s_:List a08) (qA:l7):Option Bool :=
 (g3y s_ qA).bind fun y2=>some (decide (0≤y2))
instance g8r {s_:List a08} {qA:l7}:WI (f6c s_ qA) Tryz.prog 173 [.sl (s_.map a08.v),.fn (.func 170) [.ptr 1000 0]] [(1000,.cells [.int .i64 qA.Credentials,.int .i64 qA.Resources,.sl (qA.Grants.map a03.v),.sl (qA.Stores.map a08.v),.sl (qA.Mints.map a0n.v)])] (fun z=>.bool z) (fun z=>[(1000,.cells [.int .i64 qA.Credentials,.int .i64 qA.Resources,.sl (qA.Grants.map a03.v),.sl (qA.Stores.map a08.v),.sl (qA.Mints.map a0n.v)])]):=wX Tryz.func173 [(1,⟨[],[.c 2 0 [1000] []],[]⟩)] [] [] [1000] (h:=fun _ _ h hQ M=>by unfold f6c at h;exact tX)
def f6b (m_:a0n) (p_:l7):Option Bool :=
 (F_y p_ m_.From).bind fun y4=>jn (α:=Bool) (bif (!y4) then some true else (F_y p_ m_.To).bind fun y6=>some (!y6)) fun j7=>some j7
instance e8n {m:List MOp}:GI (gjt 1710106 m) [3] [1000] (fun y:Bool=>[(15,.bool y)]) (fun y=>[]):=⟨⟩
instance g8q {m_:a0n} {p_:l7}:WI (f6b m_ p_) Tryz.prog 171 [a0n.v m_,.ptr 1000 0] [(1000,.cells [.int .i64 p_.Credentials,.int .i64 p_.Resources,.sl (p_.Grants.map a03.v),.sl (p_.Stores.map a08.v),.sl (p_.Mints.map a0n.v)])] (fun z=>.bool z) (fun z=>[(1000,.cells [.int .i64 p_.Credentials,.int .i64 p_.Resources,.sl (p_.Grants.map a03.v),.sl (p_.Stores.map a08.v),.sl (p_.Mints.map a0n.v)])]):=wX Tryz.func171 [(1,⟨[],[],[.w 6 11 1710106]⟩)] [] [] [1000] (h:=fun _ _ h hQ M=>by unfold f6b at h;exact tX)
@[go_sem] def g37 (qA:l7) (k31:Int) (a32:a0n) (x30:Unit):Option (Fl Unit Int) :=
 (f6b a32 qA).bind fun y40=>bif y40 then some (.ex k31) else some (.nx ())
def g3x (s_:List a0n) (qA:l7):Option Int :=
 (a10 (g37 qA) s_ 0 ()).bind fun o=>o.elim (fun x41=>some (-1)) (fun r42=>some r42)
def g52:List (Nat×RN):=[(4,⟨[],[.c 5 0 [1000] []],[]⟩)]
@[irreducible] def e6f:MC:=rdc (cK Tryz.prog Tryz.f215 g52 [] 2)
instance:LI e6f 8 7 [0,1,7] [1000] (fun y:Unit=>[]) (fun y=>[]) []:=⟨⟩
instance h09 {s_:List a0n} {qA:l7}:WI (g3x s_ qA) Tryz.prog 215 [.sl (s_.map a0n.v),.fn (.func 171) [.ptr 1000 0]] [(1000,.cells [.int .i64 qA.Credentials,.int .i64 qA.Resources,.sl (qA.Grants.map a03.v),.sl (qA.Stores.map a08.v),.sl (qA.Mints.map a0n.v)])] (fun z=>.int .i64 z) (fun z=>[(1000,.cells [.int .i64 qA.Credentials,.int .i64 qA.Resources,.sl (qA.Grants.map a03.v),.sl (qA.Stores.map a08.v),.sl (qA.Mints.map a0n.v)])]):=wX Tryz.func215 g52 [(2,e6f)] [] [1000] (h:=fun _ _ h hQ M=>by unfold g3x at h;exact tX)
def f6a (s_:List a0n) (qA:l7):Option Bool :=
 (g3x s_ qA).bind fun y2=>some (decide (0≤y2))
instance g8p {s_:List a0n} {qA:l7}:WI (f6a s_ qA) Tryz.prog 174 [.sl (s_.map a0n.v),.fn (.func 171) [.ptr 1000 0]] [(1000,.cells [.int .i64 qA.Credentials,.int .i64 qA.Resources,.sl (qA.Grants.map a03.v),.sl (qA.Stores.map a08.v),.sl (qA.Mints.map a0n.v)])] (fun z=>.bool z) (fun z=>[(1000,.cells [.int .i64 qA.Credentials,.int .i64 qA.Resources,.sl (qA.Grants.map a03.v),.sl (qA.Stores.map a08.v),.sl (qA.Mints.map a0n.v)])]):=wX Tryz.func174 [(1,⟨[],[.c 2 0 [1000] []],[]⟩)] [] [] [1000] (h:=fun _ _ h hQ M=>by unfold f6a at h;exact tX)
def d4x (x_:l7):Option Int :=
 (F_o x_.Credentials 0 24).bind fun y11=>bif (!y11) then some 32 else (F_o x_.Resources 0 24).bind fun y12=>bif (!y12) then some 32 else grp ((decide (100<(x_.Grants.length:Int))||decide (100<(x_.Stores.length:Int)))) fun b15=>grp ((b15||decide (100<(x_.Mints.length:Int)))) fun b16=>bif b16 then some 32 else (f6e x_.Grants x_).bind fun y26=>bif y26 then some 32 else (f6c x_.Stores x_).bind fun y27=>bif y27 then some 32 else (f6a x_.Mints x_).bind fun y28=>bif y28 then some 32 else some 0
instance h2o {x_:l7}:WJ (d4x x_) 109 [l7.v x_] (.int .i64):=wX Tryz.func109 [(3,⟨[.gc [1,23,24,25,26,29,30,31,32,42,43,44,45,48,49,50,51]],[],[.v 5 9,.v 11 15]⟩),(8,⟨[.gc [1,3,4,5,42,43,44,45,48,49,50,51]],[.c 3 0 [1] [],.c 8 0 [1] [],.c 14 0 [1] []],[]⟩)] (h:=fun _ _ h hQ M=>by have:SwA [(1000,1)]:=⟨⟩;unfold d4x at h;exact tX)
@[go_sem] def g36 (jC:Int) (k20:Int) (a21:o7) (x19:List Int):Option (List Int) :=
 bif decide (a21.Fingerprint=jC) then chk (room (x19.length+[k20].length) 8) (some (x19++[k20])) else some x19
def f3i (r_:o6) (jC:Int):Option (List Int) :=
 (F_n r_).bind fun y4=>bif (!decide (y4=0)) then some [] else (a0d (g36 jC) r_.Credentials 0 []).bind fun x22=>some x22
def g5y:List (Nat×RN):=[(3,⟨[],[.k 0 1],[]⟩),(8,⟨[.gc [1,5,6,12,13,14]],[],[]⟩)]
@[irreducible] def e6e:MC:=rdc (cK Tryz.prog Tryz.f111 g5y [] 5)
instance:LI e6e 14 13 [1,12,13] [] (fun y:List Int=>[(5,.osl 2005 1 0 y.length)]) (fun y=>[.o 2005 (.arr 1 (y.map (V.int .i64)))]) [.gc [1,5,12,13,14],.acc 5 2005 1]:=⟨⟩
instance h2m {r_:o6} {jC:Int}:WJ (f3i r_ jC) 111 [o6.v r_,.int .u64 jC] fun z=>.sl (z.map (V.int .i64)):=wX Tryz.func111 g5y [(5,e6e)] [.fz 4] (h:=fun _ _ h hQ M=>by unfold f3i at h;exact tX)
def f5z (w_:Int):Option Bool :=
 grp ((decide (w_<0)||decide (100<w_))) fun b2=>some b2
instance g8o {w_:Int}:WJ (f5z w_) 110 [.int .i64 w_] .bool:=wX Tryz.func110 [(1,⟨[],[],[.v 3 5]⟩)] (h:=fun _ _ h hQ M=>by unfold f5z at h;exact tX)
@[go_sem] def g35 (k31:Int) (a32:Int) (x30:Unit):Option (Fl Unit Int) :=
 (f5z a32).bind fun y40=>bif y40 then some (.ex k31) else some (.nx ())
def f5y (s_:List Int):Option Int :=
 (a10 g35 s_ 0 ()).bind fun o=>o.elim (fun x41=>some (-1)) (fun r42=>some r42)
@[irreducible] def e6d:MC:=rdc (cK Tryz.prog Tryz.f175 [] [] 2)
instance:LI e6d 8 7 [0,1,7] [] (fun y:Unit=>[]) (fun y=>[]) []:=⟨⟩
instance g8n {s_:List Int}:WJ (f5y s_) 175 [.sl (s_.map (V.int .i64)),.fn (.func 110) []] (.int .i64):=wX Tryz.func175 [] [(2,e6d)] (h:=fun _ _ h hQ M=>by unfold f5y at h;exact tX)
def f1y (s_:List Int):Option Bool :=
 (f5y s_).bind fun y2=>some (decide (0≤y2))
instance g9s {s_:List Int}:WJ (f1y s_) 112 [.sl (s_.map (V.int .i64)),.fn (.func 110) []] .bool:=wX Tryz.func112 (h:=fun _ _ h hQ M=>by unfold f1y at h;exact tX)
def g1v (c_:Int) (p_:l7):Option Bool :=
 some (decide (p_.Credentials≤c_))
instance g87 {c_:Int} {p_:l7}:WI (g1v c_ p_) Tryz.prog 113 [.int .i64 c_,.ptr 1000 0] [(1000,.cells [.int .i64 p_.Credentials,.int .i64 p_.Resources,.sl (p_.Grants.map a03.v),.sl (p_.Stores.map a08.v),.sl (p_.Mints.map a0n.v)])] (fun z=>.bool z) (fun z=>[(1000,.cells [.int .i64 p_.Credentials,.int .i64 p_.Resources,.sl (p_.Grants.map a03.v),.sl (p_.Stores.map a08.v),.sl (p_.Mints.map a0n.v)])]):=wX Tryz.func113 [] [] [] [1000] (h:=fun _ _ h hQ M=>by unfold g1v at h;exact tX)
@[go_sem] def g6w (qA:l7) (k31:Int) (a32:Int) (x30:Unit):Option (Fl Unit Int) :=
 (g1v a32 qA).bind fun y40=>bif y40 then some (.ex k31) else some (.nx ())
def f7j (s_:List Int) (qA:l7):Option Int :=
 (a10 (g6w qA) s_ 0 ()).bind fun o=>o.elim (fun x41=>some (-1)) (fun r42=>some r42)
def g57:List (Nat×RN):=[(4,⟨[],[.c 5 0 [1000] []],[]⟩)]
@[irreducible] def e4t:MC:=rdc (cK Tryz.prog Tryz.f175 g57 [] 2)
instance:LI e4t 8 7 [0,1,7] [1000] (fun y:Unit=>[]) (fun y=>[]) []:=⟨⟩
instance h0x {s_:List Int} {qA:l7}:WI (f7j s_ qA) Tryz.prog 175 [.sl (s_.map (V.int .i64)),.fn (.func 113) [.ptr 1000 0]] [(1000,.cells [.int .i64 qA.Credentials,.int .i64 qA.Resources,.sl (qA.Grants.map a03.v),.sl (qA.Stores.map a08.v),.sl (qA.Mints.map a0n.v)])] (fun z=>.int .i64 z) (fun z=>[(1000,.cells [.int .i64 qA.Credentials,.int .i64 qA.Resources,.sl (qA.Grants.map a03.v),.sl (qA.Stores.map a08.v),.sl (qA.Mints.map a0n.v)])]):=wX Tryz.func175 g57 [(2,e4t)] [] [1000] (h:=fun _ _ h hQ M=>by unfold f7j at h;exact tX)
def f1x (s_:List Int) (qA:l7):Option Bool :=
 (f7j s_ qA).bind fun y2=>some (decide (0≤y2))
instance g9r {s_:List Int} {qA:l7}:WI (f1x s_ qA) Tryz.prog 112 [.sl (s_.map (V.int .i64)),.fn (.func 113) [.ptr 1000 0]] [(1000,.cells [.int .i64 qA.Credentials,.int .i64 qA.Resources,.sl (qA.Grants.map a03.v),.sl (qA.Stores.map a08.v),.sl (qA.Mints.map a0n.v)])] (fun z=>.bool z) (fun z=>[(1000,.cells [.int .i64 qA.Credentials,.int .i64 qA.Resources,.sl (qA.Grants.map a03.v),.sl (qA.Stores.map a08.v),.sl (qA.Mints.map a0n.v)])]):=wX Tryz.func112 [(1,⟨[],[.c 2 0 [1000] []],[]⟩)] [] [] [1000] (h:=fun _ _ h hQ M=>by unfold f1x at h;exact tX)
def f1w (w_:Int):Option Bool :=
 grp ((decide (w_<0)||decide (100<w_))) fun b2=>some b2
instance g9q {w_:Int}:WJ (f1w w_) 216 [.int .i64 w_] .bool:=wX Tryz.func216 [(1,⟨[],[],[.v 3 5]⟩)] (h:=fun _ _ h hQ M=>by unfold f1w at h;exact tX)
@[go_sem] def f7d (k31:Int) (a32:Int) (x30:Unit):Option (Fl Unit Int) :=
 (f1w a32).bind fun y40=>bif y40 then some (.ex k31) else some (.nx ())
def g1u (s_:List Int):Option Int :=
 (a10 f7d s_ 0 ()).bind fun o=>o.elim (fun x41=>some (-1)) (fun r42=>some r42)
@[irreducible] def e7d:MC:=rdc (cK Tryz.prog Tryz.f175 [] [] 2)
instance:LI e7d 8 7 [0,1,7] [] (fun y:Unit=>[]) (fun y=>[]) []:=⟨⟩
instance g86 {s_:List Int}:WJ (g1u s_) 175 [.sl (s_.map (V.int .i64)),.fn (.func 216) []] (.int .i64):=wX Tryz.func175 [] [(2,e7d)] (h:=fun _ _ h hQ M=>by unfold g1u at h;exact tX)
def f1v (s_:List Int):Option Bool :=
 (g1u s_).bind fun y2=>some (decide (0≤y2))
instance g9p {s_:List Int}:WJ (f1v s_) 112 [.sl (s_.map (V.int .i64)),.fn (.func 216) []] .bool:=wX Tryz.func112 (h:=fun _ _ h hQ M=>by unfold f1v at h;exact tX)
@[go_sem] def g4f (c_:Int) (k16:Int) (a17:a0n) (x15:List a0u):Option (List a0u) :=
 bif decide (a17.From=c_) then chk (room (x15.length+[(a0u.mk 2 (-1) (-1) k16)].length) 32) (some (x15++[(a0u.mk 2 (-1) (-1) k16)])) else some x15
@[go_sem] def g3w (c_:Int) (k384:Int) (a385:a03) (k479:Int) (a480:a08) (x478:List a0u):Option (List a0u) :=
 grp ((decide (a385.Credential=c_)&&decide (a480.Resource=a385.Resource))) fun b488=>bif b488 then chk (room (x478.length+[(a0u.mk 1 k384 k479 (-1))].length) 32) (some (x478++[(a0u.mk 1 k384 k479 (-1))])) else some x478
@[go_sem] def g34 (x_:l7) (c_:Int) (k384:Int) (a385:a03) (x383:List a0u):Option (List a0u) :=
 (a0d (g3w c_ k384 a385) x_.Stores 0 x383).bind fun x489=>some x489
def F_z (x_:l7) (c_:Int):Option (List a0u) := (a0d (g4f c_) x_.Mints 0 []).bind fun x18=>(a0d (g34 x_ c_) x_.Grants 0 x18).bind fun x490=>some x490
def a_z:List (Nat×RN):=[(1,⟨[],[.k 0 1],[]⟩),(6,⟨[.gc [1,2,5,6,13,14,15,51,52,53,54,55]],[],[]⟩),(14,⟨[],[],[.v 5 10]⟩),(15,⟨[.gc [1,2,5,8,9,10,31,32,33,39,40,41,51,52,53,54,55]],[],[]⟩)]
@[irreducible] def d1e:MC:=rdc (cK Tryz.prog Tryz.f279 a_z [] 3)
@[irreducible] def d7u:MC:=rdc (cK Tryz.prog Tryz.f279 a_z [(3,d1e)] 12)
@[irreducible] def e6c:MC:=rdc (cK Tryz.prog Tryz.f279 a_z [(3,d1e),(12,d7u)] 9)
instance:LI d1e 15 14 [1,2,13,14] [2] (fun y:List a0u=>[(5,.osl 2005 4 0 y.length)]) (fun y=>[.o 2005 (.arr 4 (y.map a0u.v))]) [.gc [1,2,5,13,14,15],.acc 5 2005 4]:=⟨⟩
instance:LI d7u 41 40 [1,2,8,9,31,32,33,39,40] [9,2] (fun y:List a0u=>[(5,.osl 2005 4 0 y.length)]) (fun y=>[.o 2005 (.arr 4 (y.map a0u.v))]) [.gc [1,2,5,8,9,31,32,33,39,40,41],.acc 5 2005 4]:=⟨⟩
instance:LI e6c 33 32 [1,2,31,32] [2] (fun y:List a0u=>[(5,.osl 2005 4 0 y.length)]) (fun y=>[.o 2005 (.arr 4 (y.map a0u.v))]) []:=⟨⟩
instance h4j {x_:l7} {c_:Int}:WJ (F_z x_ c_) 279 [l7.v x_,.int .i64 c_] fun z=>.sl (z.map a0u.v):=wX Tryz.func279 a_z [(3,d1e),(12,d7u),(9,e6c)] [.fz 4] (h:=fun _ _ h hQ M=>by unfold F_z at h;exact tX)
def e0e (x_:l7) (c_:Int) (l_:a0u):Option (Int×Bool) :=
 grp ((decide (l_.Kind=2)&&decide (l_.Grant=(-1)))) fun b20=>grp ((b20&&decide (l_.Store=(-1)))) fun b21=>jn (α:=Bool) (bif b21 then chk (a0p ((x_.Mints.length:Int) - 1)) ((F_o l_.Mint 0 ((x_.Mints.length:Int) - 1)).bind fun y23=>some y23) else some false) fun j24=>jn (α:=Bool) (bif j24 then chk (inb l_.Mint x_.Mints.length) (some (decide ((x_.Mints.getD (l_.Mint).toNat default).From=c_))) else some false) fun j25=>bif j25 then chk (inb l_.Mint x_.Mints.length) (some ((x_.Mints.getD (l_.Mint).toNat default).To,true)) else bif decide (l_.Kind=1) then bif decide (l_.Mint=(-1)) then chk (a0p ((x_.Grants.length:Int) - 1)) ((F_o l_.Grant 0 ((x_.Grants.length:Int) - 1)).bind fun y28=>bif y28 then chk (a0p ((x_.Stores.length:Int) - 1)) ((F_o l_.Store 0 ((x_.Stores.length:Int) - 1)).bind fun y29=>bif y29 then chk (inb l_.Grant x_.Grants.length) (bif decide ((x_.Grants.getD (l_.Grant).toNat default).Credential=c_) then chk (inb l_.Store x_.Stores.length) (chk (inb l_.Grant x_.Grants.length) (bif decide ((x_.Stores.getD (l_.Store).toNat default).Resource=(x_.Grants.getD (l_.Grant).toNat default).Resource) then chk (inb l_.Store x_.Stores.length) (some ((x_.Stores.getD (l_.Store).toNat default).Credential,true)) else some (0,false))) else some (0,false)) else some (0,false)) else some (0,false)) else some (0,false) else some (0,false)
instance e8d {m:List MOp}:GI (gjt 2800123 m) [1,3,5] [5,3] (fun y:Bool=>[(41,.bool y)]) (fun y=>[]):=⟨⟩
instance e8e {m:List MOp}:GI (gjt 2800114 m) [1,3,5] [5,3] (fun y:Bool=>[(30,.bool y)]) (fun y=>[]):=⟨⟩
instance h0w {x_:l7} {c_:Int} {l_:a0u}:WJ (e0e x_ c_ l_) 280 [l7.v x_,.int .i64 c_,a0u.v l_] fun z=>.tup [.int .i64 z.1,.bool z.2]:=wX Tryz.func280 [(1,⟨[],[],[.v 4 7,.v 9 12,.w 14 21 2800114,.w 23 32 2800123]⟩),(4,⟨[.gc [3,5]],[],[]⟩)] (h:=fun _ _ h hQ M=>by unfold e0e at h;exact tX)
def f1u (s_:List a0u):Option (List a0u) :=
 amb s_.isEmpty (some []) (chk (room (([]:List a0u).length+s_.length) 32) (some (([]:List a0u)++s_)))
instance g9o {s_:List a0u}:WI (f1u s_) Tryz.prog 282 [.sl (s_.map a0u.v)] [] (fun z=>.osl 1900 4 0 z.length) (fun z=>[(1900,.arr 4 (z.map a0u.v))]):=wX Tryz.func282 [(0,⟨[],[.k 0 1],[]⟩),(2,⟨[],[.k 0 1],[]⟩)] [] [.acc 2 1900 4] [1900] (h:=fun _ _ h hQ M=>by unfold f1u at h;exact tX)
@[go_sem] def g3v (x_:l7) (k599:Int) (a600:a0u) (x598:(List Int)×(List (Int×List a0u))):Option ((List Int)×(List (Int×List a0u))) :=
 chk (inb 0 x598.1.length) ((e0e x_ (x598.1.getD 0 default) a600).bind fun y614=>bif (!((a5o y614.1 x598.2).isSome)) then chk (inb 0 x598.1.length) ((f1u ((a5o (x598.1.getD 0 default) x598.2).getD [])).bind fun y616=>chk (room (y616.length+[a600].length) 32) (chk (room (x598.1.length+[y614.1].length) 8) (some ((x598.1++[y614.1]),a7q y614.1 (y616++[a600]) x598.2)))) else some (x598.1,x598.2))
@[go_sem] def g33 (x_:l7) (x437:(List Int)×(List (Int×List a0u))):Option (Fl ((List Int)×(List (Int×List a0u))) (List (Int×List a0u))) :=
 bif decide (0<(x437.1.length:Int)) then chk (inb 0 x437.1.length) ((F_z x_ (x437.1.getD 0 default)).bind fun y568=>(a0d (g3v x_) y568 0 (x437.1,x437.2)).bind fun x617=>chk (inc 1 (x617.1.length:Int) x617.1.length) (some (.nx ((x617.1.drop 1).take (x617.1.length - 1),x617.2)))) else some (.ex x437.2)
def f3t (x_:l7) (c_:Int):Option (List (Int×List a0u)) :=
 (loop (g33 x_) ([c_],a7q c_ [] [])).bind fun r618=>some r618
def g0v:List (Nat×RN):=[(9,⟨[.gc [2,5,6,8,9,27,28,29]],[],[]⟩),(11,⟨[.gc [2,5,6,8,9,27,28,29]],[.c 7 0 [] [57],.k 11 4],[]⟩),(12,⟨[.gc [2,5,6,9,27,28,29]],[],[]⟩)]
@[irreducible] def d7t:MC:=rdc (cK Tryz.prog Tryz.f260 g0v [] 6)
@[irreducible] def e6b:MC:=rdc (cK Tryz.prog Tryz.f260 g0v [(6,d7t)] 3)
instance:LI d7t 29 28 [2,5,27,28] [2] (fun y:(List Int)×(List (Int×List a0u))=>[(6,.osl 2006 1 0 y.1.length)]) (fun y=>[.o 2006 (.arr 1 (y.1.map (V.int .i64))),.o 13 (.map (.int .i64) (y.2.map (kvV (V.int .i64) (slV a0u.v))))]) [.gc [2,5,6,27,28,29],.acc 6 2006 1]:=⟨⟩
instance:LI e6b 0 0 [2,5] [2] (fun y:(List Int)×(List (Int×List a0u))=>[(6,.osl 2006 1 0 y.1.length)]) (fun y=>[.o 2006 (.arr 1 (y.1.map (V.int .i64))),.o 13 (.map (.int .i64) (y.2.map (kvV (V.int .i64) (slV a0u.v))))]) [.gc [2,5,6],.trim 6,.acc 6 2006 1]:=⟨⟩
instance h39 {x_:l7} {c_:Int}:WJ (f3t x_ c_) 260 [l7.v x_,.int .i64 c_] fun z=>(mpV (.int .i64) (V.int .i64) (slV a0u.v)) z:=wX Tryz.func260 g0v [(6,d7t),(3,e6b)] [.fz 4] (h:=fun _ _ h hQ M=>by have:SwA [(1900,57)]:=⟨⟩;unfold f3t at h;exact tX)
def g3u (k25:Int) (a23:Int×List a0u) (x22:List Int):Option (List Int) :=
 chk (room (x22.length+[a23.1].length) 8) (some (x22++[a23.1]))
def f4k (x_:l7) (c_:Int):Option (List Int) :=
 (d4x x_).bind fun y7=>bif (!decide (y7=0)) then some [] else (F_y x_ c_).bind fun y8=>bif (!y8) then some [] else (f3t x_ c_).bind fun y19=>b6v (fun l24=>(a0d g3u l24 0 []).bind fun x26=>(b1s x26).bind fun y28=>some y28) y19
def g6j:List (Nat×RN):=[(3,⟨[],[.k 0 1],[]⟩),(4,⟨[.gc [1,2,5]],[],[]⟩),(8,⟨[],[.c 1 0 [2005] []],[]⟩)]
@[irreducible] def d7s:MC:=rdc (cK Tryz.prog Tryz.f241 g6j [] 5)
def e7o:MC:=rdc (cT Tryz.prog Tryz.f241 g6j [(5,d7s)])
instance h42 {x_:l7} {c_:Int}:WI (f4k x_ c_) Tryz.prog 241 [l7.v x_,.int .i64 c_] [] (fun z=>.sl (z.map (V.int .i64))) (fun z=>[]):=⟨fun Q Q' h hQ=>by
 refine a3a e7o [.fz 4] [] [.t 4] Tryz.func241 fun M=>?_
 unfold f4k at h
 unfold e7o
 replace h:=tY h
 refine tB ?_
 repeat' (first
 | (exact tZ)
 | (refine And.intro (by refine ⟨?_,?_,?_,?_⟩<;>omega) ?_;first|exact hQ _ h|(rw [zP (by omega)];exact hQ _ h))
 | (rw [←hlen];exact hQ _ h)
 | (have hq:=hQ _ h;simp only [wB,Nat.min_eq_left hlen.1] at hq;exact hq)
 | ((first|refine b8n h ?_|refine a6x h ?_|refine b8p h ?_|refine b8o h ?_|refine b8q h ?_|refine appG h ?_|refine b8r h ?_|refine fork h ?_ ?_|refine a6y h ?_ ?_)<;>clear h<;>intro hc h)
 | (obtain ⟨y,hy,h⟩:=h;(first|(have hw:=a0w 1000 2005 (g1q hy);replace hw:=tY hw;(try simp only [hlen] at hw);have hlen:=b1r hy)|have hw:=WI.w hy);replace hw:=tY hw;(first|refine M.sC hw ?_|refine M.sD hw ?_);clear hw hy;refine tB ?_)
 | (refine M.mfold1 (b:=d7s) (kv:=(kvV (V.int .i64) (slV a0u.v))) 19 [19] [] (fun x=>[(5,.osl 2005 1 0 x.length)]) (fun x=>[.o 2005 (.arr 1 (x.map (V.int .i64)))]) [.gc [5,19],.acc 5 2005 1] h ?_ ?_<;>first
 | (clear h;intro rem cur x k Qn K hK1 hs1 hn1;unfold g3u at hn1;unfold d7s;refine tB ?_)
 | (clear h;(try refine tB ?_);exact tU0;done))
 | (refine c6h hs1 hn1 ?_ ?_<;>first
  |(intro h;rw [M.lok_eq];replace h:=tY h;refine tB ?_)
  |(intro i a h;rw [M.lok_eq];replace h:=tY h;refine tB ?_))
 | (apply hK1;(try refine tB ?_);refine ⟨_,h,?_⟩;exact tU0;done)
 | (refine tE ?_;(first|rw [M.lok_compU]|rw [M.lokD_compU]);refine tB ?_)
 | (refine tA ?_)
 | fail)⟩
@[go_sem] def g32 (l_:List Int) (x9:Int):Option (Fl Int (Sum Unit Bool)) :=
 bif decide (x9<(l_.length:Int)) then chk (a0p (x9 - 1)) (chk (inb (x9 - 1) l_.length) (chk (inb x9 l_.length) (bif decide ((l_.getD (x9).toNat default)≤(l_.getD ((x9 - 1)).toNat default)) then some (.ex (.inr false)) else chk (a0p (x9+1)) (some (.nx (x9+1)))))) else some (.ex (.inl ()))
def f3h (l_:List Int):Option Bool :=
 (loop (g32 l_) 1).bind fun r10=>Sum.elim (fun u11=>some true) (fun u12=>some u12) r10
def g5x:List (Nat×RN):=[(3,⟨[.gc [0,3]],[],[]⟩)]
@[irreducible] def e6a:MC:=rdc (cK Tryz.prog Tryz.f277 g5x [] 2)
instance:LI e6a 0 0 [0] [] (fun y:Int=>[(3,.int .i64 y)]) (fun y=>[]) []:=⟨⟩
instance h2l {l_:List Int}:WJ (f3h l_) 277 [.sl (l_.map (V.int .i64))] .bool:=wX Tryz.func277 g5x [(2,e6a)] (h:=fun _ _ h hQ M=>by unfold f3h at h;exact tX)
def f5x (c_:Int) (p_:l7):Option Bool :=
 (F_y p_ c_).bind fun y2=>some (!y2)
instance g8m {c_:Int} {p_:l7}:WI (f5x c_ p_) Tryz.prog 278 [.int .i64 c_,.ptr 1000 0] [(1000,.cells [.int .i64 p_.Credentials,.int .i64 p_.Resources,.sl (p_.Grants.map a03.v),.sl (p_.Stores.map a08.v),.sl (p_.Mints.map a0n.v)])] (fun z=>.bool z) (fun z=>[(1000,.cells [.int .i64 p_.Credentials,.int .i64 p_.Resources,.sl (p_.Grants.map a03.v),.sl (p_.Stores.map a08.v),.sl (p_.Mints.map a0n.v)])]):=wX Tryz.func278 [] [] [] [1000] (h:=fun _ _ h hQ M=>by unfold f5x at h;exact tX)
@[go_sem] def g31 (qA:l7) (k31:Int) (a32:Int) (x30:Unit):Option (Fl Unit Int) :=
 (f5x a32 qA).bind fun y40=>bif y40 then some (.ex k31) else some (.nx ())
def g3t (s_:List Int) (qA:l7):Option Int :=
 (a10 (g31 qA) s_ 0 ()).bind fun o=>o.elim (fun x41=>some (-1)) (fun r42=>some r42)
def g51:List (Nat×RN):=[(4,⟨[],[.c 5 0 [1000] []],[]⟩)]
@[irreducible] def e69:MC:=rdc (cK Tryz.prog Tryz.f175 g51 [] 2)
instance:LI e69 8 7 [0,1,7] [1000] (fun y:Unit=>[]) (fun y=>[]) []:=⟨⟩
instance h08 {s_:List Int} {qA:l7}:WI (g3t s_ qA) Tryz.prog 175 [.sl (s_.map (V.int .i64)),.fn (.func 278) [.ptr 1000 0]] [(1000,.cells [.int .i64 qA.Credentials,.int .i64 qA.Resources,.sl (qA.Grants.map a03.v),.sl (qA.Stores.map a08.v),.sl (qA.Mints.map a0n.v)])] (fun z=>.int .i64 z) (fun z=>[(1000,.cells [.int .i64 qA.Credentials,.int .i64 qA.Resources,.sl (qA.Grants.map a03.v),.sl (qA.Stores.map a08.v),.sl (qA.Mints.map a0n.v)])]):=wX Tryz.func175 g51 [(2,e69)] [] [1000] (h:=fun _ _ h hQ M=>by unfold g3t at h;exact tX)
def f5w (s_:List Int) (qA:l7):Option Bool :=
 (g3t s_ qA).bind fun y2=>some (decide (0≤y2))
instance g8l {s_:List Int} {qA:l7}:WI (f5w s_ qA) Tryz.prog 112 [.sl (s_.map (V.int .i64)),.fn (.func 278) [.ptr 1000 0]] [(1000,.cells [.int .i64 qA.Credentials,.int .i64 qA.Resources,.sl (qA.Grants.map a03.v),.sl (qA.Stores.map a08.v),.sl (qA.Mints.map a0n.v)])] (fun z=>.bool z) (fun z=>[(1000,.cells [.int .i64 qA.Credentials,.int .i64 qA.Resources,.sl (qA.Grants.map a03.v),.sl (qA.Stores.map a08.v),.sl (qA.Mints.map a0n.v)])]):=wX Tryz.func112 [(1,⟨[],[.c 2 0 [1000] []],[]⟩)] [] [] [1000] (h:=fun _ _ h hQ M=>by unfold f5w at h;exact tX)
@[go_sem] def g3s (x_:l7) (qE:List Int) (a358:Int) (k479:Int) (a480:a0u) (x478:Unit):Option (Fl Unit Bool) :=
 (e0e x_ a358 a480).bind fun y494=>(e0g qE y494.1).bind fun y496=>bif (!y496) then some (.ex false) else some (.nx ())
@[go_sem] def g30 (x_:l7) (qE:List Int) (k357:Int) (a358:Int) (x356:Unit):Option (Fl Unit Bool) :=
 (F_z x_ a358).bind fun y459=>(a10 (g3s x_ qE a358) y459 0 ()).bind fun o=>o.elim (fun x497=>some (.nx ())) (fun r498=>some (.ex r498))
def e1z (x_:l7) (qE:List Int):Option Bool :=
 (d4x x_).bind fun y13=>grp (((!decide (y13=0))||decide ((qE.length:Int)=0))) fun b14=>bif b14 then some false else (f3h qE).bind fun y15=>bif (!y15) then some false else (f5w qE x_).bind fun y16=>bif y16 then some false else (a10 (g30 x_ qE) qE 0 ()).bind fun o=>o.elim (fun x499=>some true) (fun r500=>some r500)
def g1c:List (Nat×RN):=[(1,⟨[],[.c 16 0 [2] []],[.v 4 7]⟩),(3,⟨[.gc [1,2]],[],[]⟩),(10,⟨[.gc [1,2,6,9,29,30,31,37,38,39]],[],[]⟩)]
@[irreducible] def d7r:MC:=rdc (cK Tryz.prog Tryz.f258 g1c [] 7)
@[irreducible] def e68:MC:=rdc (cK Tryz.prog Tryz.f258 g1c [(7,d7r)] 4)
instance:LI d7r 39 38 [1,2,6,29,30,31,37,38] [2] (fun y:Unit=>[]) (fun y=>[]) []:=⟨⟩
instance:LI e68 31 30 [1,2,29,30] [2] (fun y:Unit=>[]) (fun y=>[]) []:=⟨⟩
instance h3p {x_:l7} {qE:List Int}:WJ (e1z x_ qE) 258 [l7.v x_,.sl (qE.map (V.int .i64))] .bool:=wX Tryz.func258 g1c [(7,d7r),(4,e68)] (h:=fun _ _ h hQ M=>by have:SwA [(1000,2)]:=⟨⟩;unfold e1z at h;exact tX)
@[go_sem] def g2z (qE:List Int) (k48:Int) (a49:a03) (x47:List Int):Option (List Int) :=
 (e0g qE a49.Credential).bind fun y57=>bif y57 then chk (inb a49.Resource x47.length) (chk (inb a49.Resource x47.length) (some (x47.set ((a49.Resource).toNat) (max (x47.getD ((a49.Resource).toNat) default) a49.Right)))) else some x47
def f3g (x_:l7) (qE:List Int):Option (List Int) :=
 (e1z x_ qE).bind fun y4=>bif (!y4) then some [] else chk (b0z x_.Resources x_.Resources 8) ((a0d (g2z qE) x_.Grants 0 (List.replicate (x_.Resources).toNat 0)).bind fun x58=>some x58)
def g5w:List (Nat×RN):=[(4,⟨[.gc [1,2,5]],[],[]⟩)]
@[irreducible] def e67:MC:=rdc (cK Tryz.prog Tryz.f240 g5w [] 5)
instance:LI e67 18 17 [1,16,17] [] (fun y:List Int=>[(5,.osl 14 1 0 y.length)]) (fun y=>[.o 14 (.arr 1 (y.map (V.int .i64)))]) []:=⟨⟩
instance h2k {x_:l7} {qE:List Int}:WJ (f3g x_ qE) 240 [l7.v x_,.sl (qE.map (V.int .i64))] fun z=>.sl (z.map (V.int .i64)):=wX Tryz.func240 g5w [(5,e67)] [.fz 4] (h:=fun _ _ h hQ M=>by unfold f3g at h;exact tX)
def e1k (x_:l7) (c_:Int):Option (List Int) :=
 (f4k x_ c_).bind fun y3=>(f3g x_ y3).bind fun y4=>some y4
instance h07 {x_:l7} {c_:Int}:WJ (e1k x_ c_) 217 [l7.v x_,.int .i64 c_] fun z=>.sl (z.map (V.int .i64)):=wX Tryz.func217 [] [] [.fz 4] (h:=fun _ _ h hQ M=>by unfold e1k at h;exact tX)
@[go_sem] def g2y (qB:List Int) (k32:Int) (a33:Int) (x31:Int):Option Int :=
 chk (inb k32 qB.length) (chk (a0p ((qB.getD (k32).toNat default)*a33)) (chk (a0p (x31+((qB.getD (k32).toNat default)*a33))) (some (x31+((qB.getD (k32).toNat default)*a33)))))
def e0l (x_:l7) (qB:List Int) (c_:Int):Option (Int×Int) :=
 (d4x x_).bind fun y4=>bif (!decide (y4=0)) then some (0,y4) else bif (!decide ((qB.length:Int)=x_.Resources)) then some (0,2) else (f1v qB).bind fun y10=>bif y10 then some (0,2) else grp ((decide (c_<0)||decide (x_.Credentials≤c_))) fun b12=>bif b12 then some (0,6) else (e1k x_ c_).bind fun y25=>(a0d (g2y qB) y25 0 0).bind fun x34=>some (x34,0)
def g6c:List (Nat×RN):=[(3,⟨[.gc [8]],[],[]⟩),(4,⟨[.gc [1,2,3,24,25,31,32,33,34]],[],[]⟩),(6,⟨[.gc [1,2,3,31,32,33,34]],[],[.v 3 7]⟩)]
@[irreducible] def e66:MC:=rdc (cK Tryz.prog Tryz.f176 g6c [] 10)
instance:LI e66 40 39 [1,38,39] [] (fun y:Int=>[(9,.int .i64 y)]) (fun y=>[]) []:=⟨⟩
instance h3o {x_:l7} {qB:List Int} {c_:Int}:WJ (e0l x_ qB c_) 176 [l7.v x_,.sl (qB.map (V.int .i64)),.int .i64 c_] fun z=>.tup [.int .i64 z.1,.int .i64 z.2]:=wX Tryz.func176 g6c [(10,e66)] (h:=fun _ _ h hQ M=>by unfold e0l at h;exact tX)
def g4e (jF:Int) (k16:Int) (a17:Int) (x15:Int):Option Int :=
 bif decide (a17≤jF) then chk (a0p (x15+1)) (some (x15+1)) else some x15
def f4j (jF:Int):Option Int :=
 (a0d (g4e jF) [1,100,1000,10000] 0 0).bind fun x18=>some x18
def g6i:List (Nat×RN):=[(2,⟨[],[.k 0 101],[]⟩)]
@[irreducible] def d1d:MC:=rdc (cK Tryz.prog Tryz.f177 g6i [] 3)
def e7n:MC:=rdc (cT Tryz.prog Tryz.f177 g6i [(3,d1d)])
instance h41 {jF:Int}:WI (f4j jF) Tryz.prog 177 [.int .i64 jF] [] (fun z=>.int .i64 z) (fun z=>[]):=⟨fun Q Q' h hQ=>by
 refine a3a e7n [] [] [.t 2] Tryz.func177 fun M=>?_
 unfold f4j at h
 unfold e7n
 replace h:=tY h
 refine tB ?_
 repeat' (first
 | (exact tZ)
 | ((first|refine b8n h ?_|refine a6x h ?_|refine b8p h ?_|refine b8o h ?_|refine b8q h ?_|refine appG h ?_|refine b8r h ?_|refine fork h ?_ ?_|refine a6y h ?_ ?_)<;>clear h<;>intro hc h)
 | (refine M.fold1 (b:=d1d) 7 [0,6] [] (fun x=>[(3,.int .i64 x)]) (fun x=>[]) [] h ?_ ?_ ?_<;>first
 | (clear h;intro k a x Qn K hK1 hkN1 ha1 h hf;skip;clear hf;have hkd:=kD hkN1;have hkB1:=kB hkN1;have hkI1:=kI (k:=k) (by (try simp only [wC,wO] at hkN1);omega);have hkd1:decide ((k:Int)<4)=true:=wV (by simp only [wC,wO] at hkN1;omega);have hkr1:(0≤(k:Int)∧(k:Int)<4)=True:=eq_true (by simp only [wC,wO] at hkN1;omega);have hle1:(k*1≤3)=True:=eq_true (by simp only [wC,wO] at hkN1;omega);have hpt1:=c7z (f:=fun e:Int=>.int .i64 e) ha1 hkN1;(try simp only [go_sem,Nat.reduceBEq,Nat.reduceAdd,Nat.reduceLeDiff,Nat.reduceSub,Nat.reduceMul,Int.reduceToNat,Int.reduceLT,Int.reduceLE,xU,List.flatMap_nil,w5,vH] at hpt1);unfold g4e at h;unfold d1d;replace h:=tY h;refine tKA ha1 hkd hkN1 hkB1 hkI1 hkd1 hkr1 hle1 hpt1 ?_)
  |(clear h;intro x K h;replace h:=And.left (And.intro h trivial);unfold d1d;replace h:=tY h;refine tB ?_)
  |(clear h;(try refine tB ?_);exact tU0;done))
 | (simp only [ha1])
 | (refine hK1 _ ?_;(try refine tB ?_);refine ⟨_,h,?_⟩;exact tU0;done)
 | (refine tE ?_;(first|rw [M.lok_compU]|rw [M.lokD_compU]);refine tB ?_)
 | (refine tA ?_)
 | fail)⟩
def e0k (x_:l7) (qB:List Int) (c_:Int) (qD:Int) (qG:Bool):Option (p8×Int) :=
 (e0l x_ qB c_).bind fun y2=>bif (!decide (y2.2=0)) then some ((p8.mk 0 0 0 0),y2.2) else grp ((decide (qD<0)||decide (24<qD))) fun b6=>bif b6 then some ((p8.mk 0 0 0 0),2) else chk (a0p (1+qD)) (jn (α:=p8) (bif qG then some (p8.mk 0 y2.1 100 0) else some (p8.mk 0 y2.1 (1+qD) 0)) fun j7=>chk (a0p (j7.Worth*j7.Audience)) ((f4j (j7.Worth*j7.Audience)).bind fun y9=>some ((p8.mk y9 j7.Worth j7.Audience (j7.Worth*j7.Audience)),0)))
def g6b:List (Nat×RN):=[(3,⟨[.gc [10,13]],[],[]⟩),(4,⟨[.gc [3,4,10,12,29,30]],[],[.v 3 5]⟩),(11,⟨[.gc [10,14]],[],[]⟩)]
@[irreducible] def e4k:MC:=rdc (cK Tryz.prog Tryz.f114 g6b [] 10000009)
instance:LI e4k 0 0 [10,14] [10] (fun y:p8=>[]) (fun y=>[.o 14 (.cells [.int .i64 y.Level,.int .i64 y.Worth,.int .i64 y.Audience,.int .i64 y.Score])]) []:=⟨⟩
instance h3n {x_:l7} {qB:List Int} {c_ qD:Int} {qG:Bool}:WJ (e0k x_ qB c_ qD qG) 114 [l7.v x_,.sl (qB.map (V.int .i64)),.int .i64 c_,.int .i64 qD,.bool qG] fun z=>.tup [p8.v z.1,.int .i64 z.2]:=wX Tryz.func114 g6b [(10000009,e4k)] (h:=fun _ _ h hQ M=>by unfold e0k at h;exact tX)
@[go_sem] def g2x (l_:List p8) (k18:Int) (a19:p8) (x17:Int):Option Int :=
 chk (inb x17 l_.length) (bif decide ((l_.getD (x17).toNat default).Score<a19.Score) then some k18 else some x17)
def e0d (l_:List p8):Option (Int×Bool) :=
 (a0d (g2x l_) l_ 0 0).bind fun x20=>some (x20,decide (0<(l_.length:Int)))
@[irreducible] def e5z:MC:=rdc (cK Tryz.prog Tryz.f115 [] [] 3)
instance:LI e5z 9 8 [0,7,8] [] (fun y:Int=>[(4,.int .i64 y)]) (fun y=>[]) []:=⟨⟩
instance h0v {l_:List p8}:WJ (e0d l_) 115 [.sl (l_.map p8.v)] fun z=>.tup [.int .i64 z.1,.bool z.2]:=wX Tryz.func115 [] [(3,e5z)] (h:=fun _ _ h hQ M=>by unfold e0d at h;exact tX)
@[go_sem] def g2w (m_:l6) (x_:l7) (qB:List Int) (k63:Int) (a64:Int) (x62:List p8):Option (Fl (List p8) (Int×l6)) :=
 (e0k x_ qB a64 m_.Readers m_.Public).bind fun y72=>bif (!decide (y72.2=0)) then some (.ex (y72.2,m_)) else chk (room (x62.length+[y72.1].length) 32) (some (.nx (x62++[y72.1])))
def e1x (m_:l6) (r_:o6) (x_:l7) (qB:List Int):Option (Int×l6) :=
 (F_n r_).bind fun y4=>bif (!decide (y4=0)) then some (y4,m_) else (d4x x_).bind fun y8=>bif (!decide (y8=0)) then some (y8,m_) else (f3i r_ m_.Fingerprint).bind fun y10=>bif (!decide ((qB.length:Int)=x_.Resources)) then some (2,m_) else (f1y qB).bind fun y17=>bif y17 then some (2,m_) else (f1x y10 x_).bind fun y18=>bif y18 then some (2,m_) else (a10 (g2w m_ x_ qB) y10 0 []).bind fun o=>o.elim (fun x73=>(e0d x73).bind fun y78=>bif y78.2 then chk (inb y78.1 x73.length) (some (0,(l6.mk m_.Fingerprint m_.Spots m_.Public m_.Readers m_.Since (x73.getD (y78.1).toNat default) m_.Rotated m_.Dead))) else some (0,m_)) (fun r74=>some r74)
def g68:List (Nat×RN):=[(4,⟨[.gc [0,3,5,6,42,43,44,47,48,49]],[],[]⟩),(9,⟨[.gc [0,3,6,11,12,42,43,44,47,48,49]],[.c 13 0 [6] []],[]⟩),(11,⟨[],[.k 0 1],[]⟩),(12,⟨[.gc [0,3,6,12,13]],[],[]⟩),(18,⟨[.gc [0,3,6,13,16,51,52,53]],[],[]⟩),(20,⟨[],[],[.n 1 (.fz 81)]⟩),(22,⟨[.gc [0,13,18]],[],[]⟩)]
@[irreducible] def e5y:MC:=rdc (cK Tryz.prog Tryz.f69 g68 [] 13)
instance:LI e5y 53 52 [0,3,6,51,52] [6,1000] (fun y:List p8=>[(13,.osl 2013 4 0 y.length)]) (fun y=>[.o 2013 (.arr 4 (y.map p8.v))]) [.gc [0,3,6,13,51,52,53],.acc 13 2013 4]:=⟨⟩
instance h38 {m_:l6} {r_:o6} {x_:l7} {qB:List Int}:WI (e1x m_ r_ x_ qB) Tryz.prog 69 [.ptr 1000 0,o6.v r_,l7.v x_,.sl (qB.map (V.int .i64))] [(1000,.cells [.int .u64 m_.Fingerprint,.int .i64 m_.Spots,.bool m_.Public,.int .i64 m_.Readers,.int .i64 m_.Since,.int .i64 m_.Severity.Level,.int .i64 m_.Severity.Worth,.int .i64 m_.Severity.Audience,.int .i64 m_.Severity.Score,.bool m_.Rotated,.bool m_.Dead])] (fun z=>.int .i64 z.1) (fun z=>[(1000,.cells [.int .u64 z.2.Fingerprint,.int .i64 z.2.Spots,.bool z.2.Public,.int .i64 z.2.Readers,.int .i64 z.2.Since,.int .i64 z.2.Severity.Level,.int .i64 z.2.Severity.Worth,.int .i64 z.2.Severity.Audience,.int .i64 z.2.Severity.Score,.bool z.2.Rotated,.bool z.2.Dead])]):=wX Tryz.func69 g68 [(13,e5y)] [] [1000] (h:=fun _ _ h hQ M=>by have:SwA [(1000,6)]:=⟨⟩;unfold e1x at h;exact tX)
def F_p (x_:Int) (jD:Int) (kC:Int):Option Bool := grp ((decide (jD≤x_)&&decide (x_≤kC))) fun b2=>some b2
instance h4s {x_ jD kC:Int}:WJ (F_p x_ jD kC) 90 [.int .i64 x_,.int .i64 jD,.int .i64 kC] .bool:=wX Tryz.func90 [(1,⟨[],[],[.v 4 7]⟩)] (h:=fun _ _ h hQ M=>by unfold F_p at h;exact tX)
def F_h (d_:d9) (p_:Int):Option Bool := chk (a0p ((d_.Kinds.length:Int) - 1)) ((F_p p_ 0 ((d_.Kinds.length:Int) - 1)).bind fun y2=>some y2)
instance h4y {d_:d9} {p_:Int}:WJ (F_h d_ p_) 91 [d9.v d_,.int .i64 p_] .bool:=wX Tryz.func91 (h:=fun _ _ h hQ M=>by unfold F_h at h;exact tX)
def c9f (d_:d9) (p_:Int):Option Bool :=
 (F_h d_ p_).bind fun y3=>jn (α:=Bool) (bif y3 then chk (inb p_ d_.Kinds.length) (some (decide ((d_.Kinds.getD (p_).toNat default)=2))) else some false) fun j4=>some j4
instance f4u {m:List MOp}:GI (gjt 920104 m) [4] [] (fun y:Bool=>[(15,.bool y)]) (fun y=>[]):=⟨⟩
instance h3m {d_:d9} {p_:Int}:WJ (c9f d_ p_) 92 [d9.v d_,.int .i64 p_] .bool:=wX Tryz.func92 [(1,⟨[],[],[.w 4 10 920104]⟩)] (h:=fun _ _ h hQ M=>by unfold c9f at h;exact tX)
@[go_sem] def f3f (k35:Int) (a36:Int) (x34:Unit):Option (Fl Unit Bool) :=
 (F_p a36 1 3).bind fun y44=>bif (!y44) then some (.ex false) else some (.nx ())
@[go_sem] def f2h (d_:d9) (k177:Int) (a178:a0f) (x176:Unit):Option (Fl Unit Bool) :=
 (F_p a178.Kind 1 2).bind fun y221=>bif (!y221) then some (.ex false) else (F_p a178.Time 0 1099511627776).bind fun y222=>bif (!y222) then some (.ex false) else bif decide (0<k177) then chk (a0p (k177 - 1)) (chk (inb (k177 - 1) d_.Events.length) (bif decide (a178.Time<(d_.Events.getD ((k177 - 1)).toNat default).Time) then some (.ex false) else (F_h d_ a178.Principal).bind fun y223=>bif (!y223) then some (.ex false) else (c9f d_ a178.Group).bind fun y224=>bif (!y224) then some (.ex false) else bif decide (a178.Principal=a178.Group) then some (.ex false) else some (.nx ()))) else (F_h d_ a178.Principal).bind fun y225=>bif (!y225) then some (.ex false) else (c9f d_ a178.Group).bind fun y226=>bif (!y226) then some (.ex false) else bif decide (a178.Principal=a178.Group) then some (.ex false) else some (.nx ())
def F_c (d_:d9):Option Bool := grp ((decide (24<(d_.Kinds.length:Int))||decide (120<(d_.Events.length:Int)))) fun b4=>bif b4 then some false else (a10 f3f d_.Kinds 0 ()).bind fun o=>o.elim (fun x45=>(a10 (f2h d_) d_.Events 0 ()).bind fun o=>o.elim (fun x227=>some true) (fun r228=>some r228)) (fun r46=>some r46)
def a_c:List (Nat×RN):=[(1,⟨[],[],[.v 5 9]⟩),(3,⟨[.gc [1,41,42,43,44,47,48,49,50,51,52,53,54,55,56,57,58,59,60,63,64,65,66,67,70,71,72,73,74,77,78,79,80,81]],[],[]⟩)]
@[irreducible] def d81:MC:=rdc (cK Tryz.prog Tryz.f51 a_c [] 4)
@[irreducible] def e7g:MC:=rdc (cK Tryz.prog Tryz.f51 a_c [(4,d81)] 10)
instance:LI d81 20 19 [1,18,19] [1] (fun y:Unit=>[]) (fun y=>[]) []:=⟨⟩
instance:LI e7g 31 30 [1,29,30] [1] (fun y:Unit=>[]) (fun y=>[]) []:=⟨⟩
instance h55 {d_:d9}:WJ (F_c d_) 51 [d9.v d_] .bool:=wX Tryz.func51 a_c [(4,d81),(10,e7g)] (h:=fun _ _ h hQ M=>by unfold F_c at h;exact tX)
def F_q (x_:Int) (jD:Int) (kC:Int):Option Bool := grp ((decide (jD≤x_)&&decide (x_≤kC))) fun b2=>some b2
instance h4r {x_ jD kC:Int}:WJ (F_q x_ jD kC) 93 [.int .i64 x_,.int .i64 jD,.int .i64 kC] .bool:=wX Tryz.func93 [(1,⟨[],[],[.v 4 7]⟩)] (h:=fun _ _ h hQ M=>by unfold F_q at h;exact tX)
def f3s (a_:l5) (x_:o9):Option Bool :=
 (F_q x_.Time 0 1099511627776).bind fun y7=>bif (!y7) then some false else chk (a0p (a_.Places - 1)) ((F_q x_.Place 0 (a_.Places - 1)).bind fun y8=>bif (!y8) then some false else jn (α:=Bool) (bif decide (x_.Kind=1) then some true else some (decide (x_.Kind=2))) fun j29=>bif j29 then jn (α:=Bool) (bif (decide (x_.Time=x_.Time)&&(decide (x_.Kind=x_.Kind)&&(decide (x_.Place=x_.Place)&&(decide (x_.Principal=x_.Principal)&&(decide (x_.Until=0)&&(decide (x_.Content=0)&&decide (x_.From=0))))))) then (F_q x_.Principal 0 23).bind fun y33=>some y33 else some false) fun j34=>some j34 else bif decide (x_.Kind=3) then grp (((decide (x_.Time=x_.Time)&&(decide (x_.Kind=x_.Kind)&&(decide (x_.Place=x_.Place)&&(decide (x_.Principal=0)&&(decide (x_.Until=x_.Until)&&(decide (x_.Content=0)&&decide (x_.From=0)))))))&&decide (x_.Time<x_.Until))) fun b37=>grp ((b37&&decide (x_.Until≤1099511627776))) fun b38=>some b38 else bif decide (x_.Kind=4) then some (decide (x_.Time=x_.Time)&&(decide (x_.Kind=x_.Kind)&&(decide (x_.Place=x_.Place)&&(decide (x_.Principal=0)&&(decide (x_.Until=0)&&(decide (x_.Content=0)&&decide (x_.From=0))))))) else jn (α:=Bool) (bif decide (x_.Kind=5) then some true else some (decide (x_.Kind=6))) fun j39=>bif j39 then jn (α:=Bool) (bif (decide (x_.Time=x_.Time)&&(decide (x_.Kind=x_.Kind)&&(decide (x_.Place=x_.Place)&&(decide (x_.Principal=0)&&(decide (x_.Until=0)&&(decide (x_.Content=x_.Content)&&decide (x_.From=0))))))) then (F_q x_.Content 0 63).bind fun y43=>some y43 else some false) fun j44=>some j44 else bif decide (x_.Kind=7) then jn (α:=Bool) (bif (decide (x_.Time=x_.Time)&&(decide (x_.Kind=x_.Kind)&&(decide (x_.Place=x_.Place)&&(decide (x_.Principal=0)&&(decide (x_.Until=0)&&(decide (x_.Content=0)&&decide (x_.From=x_.From))))))) then chk (a0p (a_.Places - 1)) ((F_q x_.From 0 (a_.Places - 1)).bind fun y49=>some y49) else some false) fun j50=>grp ((j50&&(!decide (x_.From=x_.Place)))) fun b51=>some b51 else some false)
def g0u:List (Nat×RN):=[(3,⟨[.gc [2,3,38,39,40,51,52,53,54,55,58,59,60,77,78,79,90,91,92,93,94,95,98,99,100,101,102]],[],[]⟩),(8,⟨[],[],[.w 4 7 940804]⟩),(11,⟨[.gc [3,5,51,52,53,54,55,58,59,60]],[],[.v 4 9,.v 11 14]⟩),(17,⟨[],[],[.w 4 7 941704]⟩),(20,⟨[],[],[.w 4 10 942004,.v 12 17]⟩)]
@[irreducible] def d7g:MC:=rdc (cK Tryz.prog Tryz.f94 g0u [] 10000016)
@[irreducible] def e4j:MC:=rdc (cK Tryz.prog Tryz.f94 g0u [(10000016,d7g)] 10000007)
instance f4t {m:List MOp}:GI (gjt 940804 m) [] [] (fun y:Bool=>[(41,.bool y)]) (fun y=>[]):=⟨⟩
instance f4s {m:List MOp}:GI (gjt 941704 m) [] [] (fun y:Bool=>[(80,.bool y)]) (fun y=>[]):=⟨⟩
instance f4r {m:List MOp}:GI (gjt 942004 m) [3] [3] (fun y:Bool=>[(96,.bool y)]) (fun y=>[]):=⟨⟩
instance:LI d7g 0 0 [2,3,5,27] [5,3,2] (fun y:Bool=>[(67,.bool y)]) (fun y=>[]) []:=⟨⟩
instance:LI e4j 0 0 [2,3,5,27] [5,3,2] (fun y:Bool=>[(28,.bool y)]) (fun y=>[]) []:=⟨⟩
instance h36 {a_:l5} {x_:o9}:WJ (f3s a_ x_) 94 [l5.v a_,o9.v x_] .bool:=wX Tryz.func94 g0u [(10000016,d7g),(10000007,e4j)] (h:=fun _ _ h hQ M=>by unfold f3s at h;exact tX)
@[go_sem] def f7c (a_:l5) (k39:Int) (a40:o9) (x38:Unit):Option (Fl Unit Bool) :=
 (f3s a_ a40).bind fun y48=>bif (!y48) then some (.ex false) else bif decide (0<k39) then chk (a0p (k39 - 1)) (chk (inb (k39 - 1) a_.Events.length) (bif decide (a40.Time<(a_.Events.getD ((k39 - 1)).toNat default).Time) then some (.ex false) else some (.nx ()))) else some (.nx ())
def F_r (a_:l5):Option Bool := (F_q a_.Places 1 16).bind fun y7=>grp (((!y7)||decide (120<(a_.Events.length:Int)))) fun b8=>bif b8 then some false else (a10 (f7c a_) a_.Events 0 ()).bind fun o=>o.elim (fun x49=>some true) (fun r50=>some r50)
def a_r:List (Nat×RN):=[(1,⟨[],[],[.v 5 9]⟩),(3,⟨[.gc [1,28,29,30,31,32,33,34,35,36,37,38,39,40,41]],[],[]⟩)]
@[irreducible] def e7c:MC:=rdc (cK Tryz.prog Tryz.f52 a_r [] 4)
instance:LI e7c 18 17 [1,16,17] [1] (fun y:Unit=>[]) (fun y=>[]) []:=⟨⟩
instance h4q {a_:l5}:WJ (F_r a_) 52 [l5.v a_] .bool:=wX Tryz.func52 a_r [(4,e7c)] (h:=fun _ _ h hQ M=>by unfold F_r at h;exact tX)
def e1j (d_:d9) (p_:Int):Option Bool :=
 (F_h d_ p_).bind fun y3=>jn (α:=Bool) (bif y3 then chk (inb p_ d_.Kinds.length) (some (!decide ((d_.Kinds.getD (p_).toNat default)=2))) else some false) fun j4=>some j4
instance e8v {m:List MOp}:GI (gjt 1470104 m) [4] [] (fun y:Bool=>[(15,.bool y)]) (fun y=>[]):=⟨⟩
instance h06 {d_:d9} {p_:Int}:WJ (e1j d_ p_) 147 [d9.v d_,.int .i64 p_] .bool:=wX Tryz.func147 [(1,⟨[],[],[.w 4 10 1470104]⟩)] (h:=fun _ _ h hQ M=>by unfold e1j at h;exact tX)
def e0c (d_:d9) (a_:l5) (jA:Int) (p_:Int):Option Bool :=
 (F_c d_).bind fun y8=>jn (α:=Bool) (bif y8 then (F_r a_).bind fun y10=>some y10 else some false) fun j11=>grp ((j11&&decide (0≤jA))) fun b12=>grp ((b12&&decide (jA≤63))) fun b13=>jn (α:=Bool) (bif b13 then bif decide (p_=(-1)) then some true else (e1j d_ p_).bind fun y15=>some y15 else some false) fun j16=>some j16
instance f4p {m:List MOp}:GI (gjt 950115 m) [8] [] (fun y:Bool=>[(31,.bool y)]) (fun y=>[]):=⟨⟩
instance f4q {m:List MOp}:GI (gjt 950103 m) [2,3,4,8] [4] (fun y:Bool=>[(14,.bool y)]) (fun y=>[]):=⟨⟩
instance h0t {d_:d9} {a_:l5} {jA p_:Int}:WJ (e0c d_ a_ jA p_) 95 [d9.v d_,l5.v a_,.int .i64 jA,.int .i64 p_] .bool:=wX Tryz.func95 [(1,⟨[],[],[.w 3 5 950103,.v 7 9,.v 11 13,.w 15 22 950115]⟩)] (h:=fun _ _ h hQ M=>by unfold e0c at h;exact tX)
@[go_sem] def g2v (k20:Int) (a21:o9) (x19:List Int):Option (List Int) :=
 bif decide ((x19.length:Int)=0) then chk (room (x19.length+[a21.Time].length) 8) (some (x19++[a21.Time])) else chk (a0p ((x19.length:Int) - 1)) (chk (inb ((x19.length:Int) - 1) x19.length) (bif (!decide (x19.getD ((((x19.length:Int) - 1)).toNat) default=a21.Time)) then chk (room (x19.length+[a21.Time].length) 8) (some (x19++[a21.Time])) else some x19))
def f3e (a_:l5):Option (List Int) :=
 (F_r a_).bind fun y4=>bif (!y4) then some [] else (a0d g2v a_.Events 0 []).bind fun x22=>some x22
def g5v:List (Nat×RN):=[(0,⟨[],[.k 1 1],[]⟩),(2,⟨[],[.k 0 1],[]⟩),(3,⟨[],[.k 0 1],[]⟩),(8,⟨[.gc [3,5,10,11,12,20,21,22,23,24,25,26,27,28]],[],[]⟩)]
@[irreducible] def e5x:MC:=rdc (cK Tryz.prog Tryz.f148 g5v [] 5)
instance:LI e5x 12 11 [10,11] [] (fun y:List Int=>[(3,.osl 2003 1 0 y.length)]) (fun y=>[.o 2003 (.arr 1 (y.map (V.int .i64)))]) [.gc [3,10,11,12],.acc 3 2003 1]:=⟨⟩
instance h2j {a_:l5}:WI (f3e a_) Tryz.prog 148 [l5.v a_] [] (fun z=>.osl 1900 1 0 z.length) (fun z=>[(1900,.arr 1 (z.map (V.int .i64)))]):=wX Tryz.func148 g5v [(5,e5x)] [.acc 2 1900 1] [1900] (h:=fun _ _ h hQ M=>by unfold f3e at h;exact tX)
@[go_sem] def g3r (x129:List Int) (a131:a0f) (x162:Int):Option (Fl Int Int) :=
 bif decide (x162<(x129.length:Int)) then chk (inb x162 x129.length) (bif decide (x129.getD ((x162).toNat) default<a131.Time) then chk (a0p (x162+1)) (some (.nx (x162+1))) else some (.ex x162)) else some (.ex x162)
@[go_sem] def g2u (k130:Int) (a131:a0f) (x129:List Int):Option (List Int) :=
 (loop (g3r x129 a131) 0).bind fun r163=>bif decide (r163=(x129.length:Int)) then chk (inc 0 r163 x129.length) (chk (inc r163 (x129.length:Int) x129.length) (chk (room ([a131.Time].length+((x129.drop ((r163).toNat)).take (x129.length - (r163).toNat)).length) 8) (chk (b96 0 ((r163).toNat) x129.length ([a131.Time]++(x129.drop ((r163).toNat)).take (x129.length - (r163).toNat)).length 8) (some (x129.take ((r163).toNat)++([a131.Time]++(x129.drop ((r163).toNat)).take (x129.length - (r163).toNat))))))) else chk (inb r163 x129.length) (bif (!decide (x129.getD ((r163).toNat) default=a131.Time)) then chk (inc 0 r163 x129.length) (chk (inc r163 (x129.length:Int) x129.length) (chk (room ([a131.Time].length+((x129.drop ((r163).toNat)).take (x129.length - (r163).toNat)).length) 8) (chk (b96 0 ((r163).toNat) x129.length ([a131.Time]++(x129.drop ((r163).toNat)).take (x129.length - (r163).toNat)).length 8) (some (x129.take ((r163).toNat)++([a131.Time]++(x129.drop ((r163).toNat)).take (x129.length - (r163).toNat))))))) else some x129)
def f3r (d_:d9) (a_:l5):Option (List Int) :=
 (f3e a_).bind fun y2=>(a0d g2u d_.Events 0 y2).bind fun x164=>some x164
def g0t:List (Nat×RN):=[(1,⟨[],[.c 1 0 [] [10]],[]⟩),(9,⟨[],[.k 10 5],[]⟩)]
@[irreducible] def d7q:MC:=rdc (cK Tryz.prog Tryz.f96 g0t [] 6)
@[irreducible] def e5w:MC:=rdc (cK Tryz.prog Tryz.f96 g0t [(6,d7q)] 3)
instance:LI d7q 0 0 [5,7,12,13,14] [7,2005] (fun y:Int=>[(8,.int .i64 y)]) (fun y=>[]) []:=⟨⟩
instance:LI e5w 14 13 [12,13] [] (fun y:List Int=>[(5,.osl 2005 1 0 y.length)]) (fun y=>[.o 2005 (.arr 1 (y.map (V.int .i64)))]) [.gc [5,12,13,14],.acc 5 2005 1]:=⟨⟩
instance h35 {d_:d9} {a_:l5}:WJ (f3r d_ a_) 96 [d9.v d_,l5.v a_] fun z=>.sl (z.map (V.int .i64)):=wX Tryz.func96 g0t [(6,d7q),(3,e5w)] [.fz 4] (h:=fun _ _ h hQ M=>by have:SwA [(1900,10)]:=⟨⟩;unfold f3r at h;exact tX)
def f1t (a_:l5) (jA:Int):Option Bool :=
 (F_r a_).bind fun y4=>grp ((y4&&decide (0≤jA))) fun b5=>grp ((b5&&decide (jA≤63))) fun b6=>some b6
instance g9n {a_:l5} {jA:Int}:WJ (f1t a_ jA) 197 [l5.v a_,.int .i64 jA] .bool:=wX Tryz.func197 [(1,⟨[],[],[.v 3 5,.v 7 9]⟩)] (h:=fun _ _ h hQ M=>by unfold f1t at h;exact tX)
@[go_sem] def g2t (a_:l5) (t_:Int) (x7:Int):Option (Fl Int Int) :=
 bif decide (x7<(a_.Events.length:Int)) then chk (inb x7 a_.Events.length) (bif decide ((a_.Events.getD (x7).toNat default).Time≤t_) then chk (a0p (x7+1)) (some (.nx (x7+1))) else some (.ex x7)) else some (.ex x7)
def f1s (a_:l5) (t_:Int):Option Int :=
 (loop (g2t a_ t_) 0).bind fun r8=>some r8
@[irreducible] def e5v:MC:=rdc (cK Tryz.prog Tryz.f199 [] [] 2)
instance:LI e5v 0 0 [1,2] [2] (fun y:Int=>[(5,.int .i64 y)]) (fun y=>[]) []:=⟨⟩
instance g9m {a_:l5} {t_:Int}:WJ (f1s a_ t_) 199 [l5.v a_,.int .i64 t_] (.int .i64):=wX Tryz.func199 [] [(2,e5v)] (h:=fun _ _ h hQ M=>by unfold f1s at h;exact tX)
@[go_sem] def f7b (jA:Int) (k16:Int) (a17:o9) (x15:List Bool):Option (List Bool) :=
 bif decide (a17.Kind=5) then chk (inb a17.Place x15.length) (bif x15.getD ((a17.Place).toNat) default then chk (inb a17.Place x15.length) (some (x15.set ((a17.Place).toNat) true)) else chk (inb a17.Place x15.length) (some (x15.set ((a17.Place).toNat) (decide (a17.Content=jA))))) else bif decide (a17.Kind=6) then chk (inb a17.Place x15.length) (bif x15.getD ((a17.Place).toNat) default then chk (inb a17.Place x15.length) (some (x15.set ((a17.Place).toNat) (!decide (a17.Content=jA)))) else chk (inb a17.Place x15.length) (some (x15.set ((a17.Place).toNat) false))) else bif decide (a17.Kind=7) then chk (inb a17.Place x15.length) (bif x15.getD ((a17.Place).toNat) default then chk (inb a17.Place x15.length) (some (x15.set ((a17.Place).toNat) true)) else chk (inb a17.From x15.length) (chk (inb a17.Place x15.length) (some (x15.set ((a17.Place).toNat) (x15.getD ((a17.From).toNat) default))))) else some x15
def f3d (a_:l5) (jA:Int) (n_:Int):Option (List Bool) :=
 chk (b0z a_.Places a_.Places 1) (chk (inc 0 n_ a_.Events.length) ((a0d (f7b jA) (a_.Events.take ((n_).toNat)) 0 (List.replicate (a_.Places).toNat false)).bind fun x18=>some x18))
def g5u:List (Nat×RN):=[(9,⟨[.gc [1,7,9,16,17,18,35,36,37,38,52,53,54,55,69,70,71,72,73]],[],[]⟩),(11,⟨[.gc [1,7,9,16,17,18,35,36,37,38,52,53,54,55,69,70,71,72,73]],[],[]⟩)]
@[irreducible] def e7b:MC:=rdc (cK Tryz.prog Tryz.f198 g5u [] 3)
instance:LI e7b 18 17 [1,16,17] [] (fun y:List Bool=>[(7,.osl 12 1 0 y.length)]) (fun y=>[.o 12 (.arr 1 (y.map V.bool))]) []:=⟨⟩
instance h2i {a_:l5} {jA n_:Int}:WJ (f3d a_ jA n_) 198 [l5.v a_,.int .i64 jA,.int .i64 n_] fun z=>.sl (z.map V.bool):=wX Tryz.func198 g5u [(3,e7b)] [.fz 6] (h:=fun _ _ h hQ M=>by unfold f3d at h;exact tX)
@[go_sem] def f7a (k28:Int) (a29:Bool) (x27:List Int):Option (List Int) :=
 bif a29 then chk (room (x27.length+[k28].length) 8) (some (x27++[k28])) else some x27
def f3c (a_:l5) (jA:Int) (t_:Int):Option (List Int) :=
 (f1t a_ jA).bind fun y4=>bif (!y4) then some [] else (f1s a_ t_).bind fun y20=>(f3d a_ jA y20).bind fun y21=>(a0d f7a y21 0 []).bind fun x30=>some x30
def g5t:List (Nat×RN):=[(3,⟨[],[.k 0 1],[]⟩)]
@[irreducible] def e7a:MC:=rdc (cK Tryz.prog Tryz.f149 g5t [] 5)
instance:LI e7a 21 20 [19,20] [] (fun y:List Int=>[(7,.osl 2007 1 0 y.length)]) (fun y=>[.o 2007 (.arr 1 (y.map (V.int .i64)))]) [.gc [7,19,20,21],.acc 7 2007 1]:=⟨⟩
instance h2h {a_:l5} {jA t_:Int}:WJ (f3c a_ jA t_) 149 [l5.v a_,.int .i64 jA,.int .i64 t_] fun z=>.sl (z.map (V.int .i64)):=wX Tryz.func149 g5t [(5,e7a)] [.fz 6] (h:=fun _ _ h hQ M=>by unfold f3c at h;exact tX)
def e0b (a_:l5) (jB:Int):Option Bool :=
 (F_r a_).bind fun y4=>jn (α:=Bool) (bif y4 then chk (a0p (a_.Places - 1)) ((F_q jB 0 (a_.Places - 1)).bind fun y6=>some y6) else some false) fun j7=>some j7
instance e8l {m:List MOp}:GI (gjt 2010103 m) [4] [] (fun y:Bool=>[(13,.bool y)]) (fun y=>[]):=⟨⟩
instance h0s {a_:l5} {jB:Int}:WJ (e0b a_ jB) 201 [l5.v a_,.int .i64 jB] .bool:=wX Tryz.func201 [(1,⟨[],[],[.w 3 8 2010103]⟩)] (h:=fun _ _ h hQ M=>by unfold e0b at h;exact tX)
@[go_sem] def g2s (jB:Int) (t_:Int) (k71:Int) (a72:o9) (x70:Unit):Option (Fl Unit Bool) :=
 grp ((decide (a72.Kind=4)&&decide (a72.Place=jB))) fun b87=>grp ((b87&&decide (a72.Time≤t_))) fun b88=>bif b88 then some (.ex false) else some (.nx ())
def e0j (a_:l5) (jB:Int) (kH:Int) (t_:Int):Option Bool :=
 (e0b a_ jB).bind fun y7=>bif (!y7) then some false else chk (a0p ((a_.Events.length:Int) - 1)) ((F_q kH 0 ((a_.Events.length:Int) - 1)).bind fun y8=>bif (!y8) then some false else chk (inb kH a_.Events.length) (grp (((!decide ((a_.Events.getD (kH).toNat default).Kind=3))||(!decide ((a_.Events.getD (kH).toNat default).Place=jB)))) fun b18=>grp ((b18||decide (t_<(a_.Events.getD (kH).toNat default).Time))) fun b19=>grp ((b19||decide ((a_.Events.getD (kH).toNat default).Until≤t_))) fun b20=>bif b20 then some false else chk (a0p (kH+1)) (chk (inc (kH+1) (a_.Events.length:Int) a_.Events.length) ((a10 (g2s jB t_) (a_.Events.drop (((kH+1)).toNat)) 0 ()).bind fun o=>o.elim (fun x89=>some true) (fun r90=>some r90)))))
def g6a:List (Nat×RN):=[(3,⟨[.gc [1,2,3,4,34,35,36,37,40,41,42,43,46,47,48,49,65,66,67,68,71,72,73,74]],[],[]⟩),(4,⟨[],[],[.v 4 8,.v 10 14,.v 16 20]⟩),(6,⟨[.gc [1,2,3,4,65,66,67,68,71,72,73,74]],[],[]⟩),(9,⟨[],[],[.v 4 8,.v 10 14]⟩)]
@[irreducible] def e5u:MC:=rdc (cK Tryz.prog Tryz.f200 g6a [] 7)
instance:LI e5u 57 56 [1,3,55,56] [] (fun y:Unit=>[]) (fun y=>[]) []:=⟨⟩
instance h3k {a_:l5} {jB kH t_:Int}:WJ (e0j a_ jB kH t_) 200 [l5.v a_,.int .i64 jB,.int .i64 kH,.int .i64 t_] .bool:=wX Tryz.func200 g6a [(7,e5u)] (h:=fun _ _ h hQ M=>by unfold e0j at h;exact tX)
@[go_sem] def e0h (a_:l5) (jB:Int) (t_:Int) (x29:Int):Option (Fl Int (Sum Unit (Int×Bool))) :=
 bif decide (0≤x29) then (e0j a_ jB x29 t_).bind fun y37=>bif y37 then some (.ex (.inr (x29,true))) else chk (a0p (x29 - 1)) (some (.nx (x29 - 1))) else some (.ex (.inl ()))
def e1w (a_:l5) (jB:Int) (t_:Int):Option (Int×Bool) :=
 chk (a0p ((a_.Events.length:Int) - 1)) ((loop (e0h a_ jB t_) ((a_.Events.length:Int) - 1)).bind fun r38=>Sum.elim (fun u39=>some (0,false)) (fun u40=>some u40) r38)
def g67:List (Nat×RN):=[(5,⟨[.gc [8]],[],[]⟩)]
@[irreducible] def e7j:MC:=rdc (cK Tryz.prog Tryz.f150 g67 [] 2)
instance:LI e7j 0 0 [1,2,3] [3] (fun y:Int=>[(8,.int .i64 y)]) (fun y=>[]) []:=⟨⟩
instance h34 {a_:l5} {jB t_:Int}:WJ (e1w a_ jB t_) 150 [l5.v a_,.int .i64 jB,.int .i64 t_] fun z=>.tup [.int .i64 z.1,.bool z.2]:=wX Tryz.func150 g67 [(2,e7j)] (h:=fun _ _ h hQ M=>by unfold e1w at h;exact tX)
def g4d (k28:Int) (a29:Bool) (x27:List Int):Option (List Int) :=
 bif a29 then chk (room (x27.length+[k28].length) 8) (some (x27++[k28])) else some x27
def F_s (d_:d9) (p_:Int) (t_:Int):Option (List Int) := (F_c d_).bind fun y7=>bif (!y7) then some [] else (F_h d_ p_).bind fun y8=>bif (!y8) then some [] else (upF d_.Kinds.length (d_.Events.map fun e=>(e.Time,e.Kind,e.Principal,e.Group)) p_ t_).bind fun y21=>(a0d g4d y21 0 []).bind fun x30=>some x30
def a_s:List (Nat×RN):=[(3,⟨[],[.k 0 1],[]⟩),(4,⟨[.gc [1,2,3,7]],[],[]⟩)]
@[irreducible] def d1c:MC:=rdc (cK Tryz.prog Tryz.f226 a_s [] 5)
def g4m:MC:=rdc (cT Tryz.prog Tryz.f226 a_s [(5,d1c)])
instance h4p {d_:d9} {p_ t_:Int}:WI (F_s d_ p_ t_) Tryz.prog 226 [d9.v d_,.int .i64 p_,.int .i64 t_] [] (fun z=>.sl (z.map (V.int .i64))) (fun z=>[]):=⟨fun Q Q' h hQ=>by
 refine a3a g4m [.fz 6] [] [.t 6] Tryz.func226 fun M=>?_
 unfold F_s at h
 unfold g4m
 replace h:=tY h
 refine tB ?_
 repeat' (first
 | (exact tZ)
 | ((first|refine b8n h ?_|refine a6x h ?_|refine b8p h ?_|refine b8o h ?_|refine b8q h ?_|refine appG h ?_|refine b8r h ?_|refine fork h ?_ ?_|refine a6y h ?_ ?_)<;>clear h<;>intro hc h)
 | (obtain ⟨y,hy,h⟩:=h;(first|have hw:=h49 (f:=a0f.v) (e4:=fun e=>(e.Time,e.Kind,e.Principal,e.Group)) (fun _=>rfl) hy|have hw:=WI.w hy);replace hw:=tY hw;(first|refine M.sC hw ?_|refine M.sD hw ?_);clear hw hy;refine tB ?_)
 | (refine M.fold1 (b:=d1c) 24 [22,23] [] (fun x=>[(7,.osl 2007 1 0 x.length)]) (fun x=>[.o 2007 (.arr 1 (x.map (V.int .i64)))]) [.gc [7,22,23,24],.acc 7 2007 1] h ?_ ?_ ?_<;>first
 | (clear h;intro k a x Qn K hK1 hkN1 ha1 h hf;have hl:=a3h (a1d (n:=23) hf.1 rfl);clear hf;have hkd:=kD hkN1;have hkB1:=kB hkN1;have hkI1:=kI (k:=k) (by omega);unfold g4d at h;unfold d1c;replace h:=tY h;refine tK ha1 hkd hkN1 hkB1 hkI1 ?_)
  |(clear h;intro x K h;replace h:=And.left (And.intro h trivial);unfold d1c;replace h:=tY h;refine tB ?_)
  |(clear h;(try refine tB ?_);exact tU0;done))
 | (simp only [ha1])
 | (refine hK1 _ ?_;(try refine tB ?_);refine ⟨_,h,?_⟩;exact tU0;done)
 | (refine tE ?_;(first|rw [M.lok_compU]|rw [M.lokD_compU]);refine tB ?_)
 | (refine tA ?_)
 | fail)⟩
@[go_sem] def f6z (jB:Int) (tF:Int) (t_:Int) (k128:Int) (a129:o9) (x127:Int):Option Int :=
 grp ((decide (t_<a129.Time)||(!decide (a129.Place=jB)))) fun b160=>grp ((b160||(!decide (a129.Principal=tF)))) fun b161=>bif b161 then some x127 else bif decide (a129.Kind=1) then some k128 else bif decide (a129.Kind=2) then some (-1) else some x127
def f3b (a_:l5) (jB:Int) (tF:Int) (t_:Int):Option Int :=
 (a0d (f6z jB tF t_) a_.Events 0 (-1)).bind fun x162=>some x162
def g5s:List (Nat×RN):=[(5,⟨[],[],[.v 5 9,.v 11 15]⟩)]
@[irreducible] def e79:MC:=rdc (cK Tryz.prog Tryz.f245 g5s [] 3)
instance:LI e79 15 14 [1,2,3,13,14] [] (fun y:Int=>[(9,.int .i64 y)]) (fun y=>[]) []:=⟨⟩
instance h2g {a_:l5} {jB tF t_:Int}:WJ (f3b a_ jB tF t_) 245 [l5.v a_,.int .i64 jB,.int .i64 tF,.int .i64 t_] (.int .i64):=wX Tryz.func245 g5s [(3,e79)] (h:=fun _ _ h hQ M=>by unfold f3b at h;exact tX)
@[go_sem] def g2r (a_:l5) (jB:Int) (t_:Int) (x26:Int×(List Int)):Option (Fl (Int×(List Int)) (List Int)) :=
 bif decide (x26.1<24) then jn (α:=List Int) ((f3b a_ jB x26.1 t_).bind fun y34=>bif decide (0≤y34) then chk (room (x26.2.length+[x26.1].length) 8) (some (x26.2++[x26.1])) else some x26.2) fun j32=>chk (a0p (x26.1+1)) (some (.nx ((x26.1+1),j32))) else some (.ex x26.2)
def e1y (a_:l5) (jB:Int) (t_:Int):Option (List Int) :=
 (e0b a_ jB).bind fun y4=>bif (!y4) then some [] else (loop (g2r a_ jB t_) (0,[])).bind fun r35=>some r35
def g1b:List (Nat×RN):=[(3,⟨[],[.k 0 1],[]⟩),(8,⟨[.gc [1,2,3,7,8]],[],[]⟩)]
@[irreducible] def d7f:MC:=rdc (cK Tryz.prog Tryz.f227 g1b [] 10000006)
@[irreducible] def e5t:MC:=rdc (cK Tryz.prog Tryz.f227 g1b [(10000006,d7f)] 5)
instance:LI d7f 0 0 [1,2,3,8] [3] (fun y:List Int=>[(7,.osl 2007 1 0 y.length)]) (fun y=>[.o 2007 (.arr 1 (y.map (V.int .i64)))]) [.gc [1,2,3,7,8],.acc 7 2007 1]:=⟨⟩
instance:LI e5t 0 0 [1,2,3] [3] (fun y:Int×(List Int)=>[(7,.osl 2007 1 0 y.2.length),(8,.int .i64 y.1)]) (fun y=>[.o 2007 (.arr 1 (y.2.map (V.int .i64)))]) [.gc [1,2,3,7,8],.acc 7 2007 1]:=⟨⟩
instance h3j {a_:l5} {jB t_:Int}:WJ (e1y a_ jB t_) 227 [l5.v a_,.int .i64 jB,.int .i64 t_] fun z=>.sl (z.map (V.int .i64)):=wX Tryz.func227 g1b [(10000006,d7f),(5,e5t)] [.fz 6] (h:=fun _ _ h hQ M=>by unfold e1y at h;exact tX)
@[go_sem] def f6y (x_:Int) (k11:Int) (a12:Int) (x10:Unit):Option (Fl Unit Bool) :=
 bif decide (a12=x_) then some (.ex true) else some (.nx ())
def d4w (l_:List Int) (x_:Int):Option Bool :=
 (a10 (f6y x_) l_ 0 ()).bind fun o=>o.elim (fun x13=>some false) (fun r14=>some r14)
@[irreducible] def e78:MC:=rdc (cK Tryz.prog Tryz.f203 [] [] 2)
instance:LI e78 9 8 [1,7,8] [] (fun y:Unit=>[]) (fun y=>[]) []:=⟨⟩
instance h2f {l_:List Int} {x_:Int}:WJ (d4w l_ x_) 203 [.sl (l_.map (V.int .i64)),.int .i64 x_] .bool:=wX Tryz.func203 [] [(2,e78)] (h:=fun _ _ h hQ M=>by unfold d4w at h;exact tX)
@[go_sem] def g2q (y2:List Int) (k37:Int) (a38:Int) (x36:Unit):Option (Fl Unit Bool) :=
 (d4w y2 a38).bind fun y46=>bif y46 then some (.ex true) else some (.nx ())
def f3a (d_:d9) (a_:l5) (p_:Int) (jB:Int) (t_:Int):Option Bool :=
 (F_s d_ p_ t_).bind fun y2=>(e1y a_ jB t_).bind fun y25=>(a10 (g2q y2) y25 0 ()).bind fun o=>o.elim (fun x47=>some false) (fun r48=>some r48)
def g5r:List (Nat×RN):=[(2,⟨[.gc [3,4,6,11]],[],[]⟩)]
@[irreducible] def e5s:MC:=rdc (cK Tryz.prog Tryz.f202 g5r [] 3)
instance:LI e5s 23 22 [11,21,22] [] (fun y:Unit=>[]) (fun y=>[]) []:=⟨⟩
instance h2e {d_:d9} {a_:l5} {p_ jB t_:Int}:WJ (f3a d_ a_ p_ jB t_) 202 [d9.v d_,l5.v a_,.int .i64 p_,.int .i64 jB,.int .i64 t_] .bool:=wX Tryz.func202 g5r [(3,e5s)] (h:=fun _ _ h hQ M=>by unfold f3a at h;exact tX)
def f1r (d_:d9) (a_:l5) (p_:Int) (jB:Int) (t_:Int):Option Bool :=
 (F_c d_).bind fun y10=>bif (!y10) then some false else (e0b a_ jB).bind fun y11=>bif (!y11) then some false else (e1j d_ p_).bind fun y12=>bif (!y12) then some false else (e1w a_ jB t_).bind fun y14=>jn (α:=Bool) (bif y14.2 then some true else (f3a d_ a_ p_ jB t_).bind fun y18=>some y18) fun j19=>some j19
instance e8u {m:List MOp}:GI (gjt 1510402 m) [] [] (fun y:Bool=>[(43,.bool y)]) (fun y=>[]):=⟨⟩
instance g9l {d_:d9} {a_:l5} {p_ jB t_:Int}:WJ (f1r d_ a_ p_ jB t_) 151 [d9.v d_,l5.v a_,.int .i64 p_,.int .i64 jB,.int .i64 t_] .bool:=wX Tryz.func151 [(3,⟨[.gc [2,3,4,5,6,37,38,39,40,41,42]],[],[]⟩),(4,⟨[.gc [2,3,4,5,6,12,37,38,39,40,41,42]],[],[.w 2 8 1510402]⟩)] (h:=fun _ _ h hQ M=>by unfold f1r at h;exact tX)
@[go_sem] def f6x (d_:d9) (a_:l5) (p_:Int) (t_:Int) (k67:Int) (a68:Int) (x66:Unit):Option (Fl Unit Bool) :=
 bif decide (p_=(-1)) then (e1w a_ a68 t_).bind fun y82=>bif y82.2 then some (.ex true) else some (.nx ()) else (f1r d_ a_ p_ a68 t_).bind fun y84=>bif y84 then some (.ex true) else some (.nx ())
def f2z (d_:d9) (a_:l5) (jA:Int) (p_:Int) (t_:Int):Option Bool :=
 (e0c d_ a_ jA p_).bind fun y10=>grp (((!y10)||decide (t_<0))) fun b11=>grp ((b11||decide (1099511627776<t_))) fun b12=>bif b12 then some false else (f3c a_ jA t_).bind fun y47=>(a10 (f6x d_ a_ p_ t_) y47 0 ()).bind fun o=>o.elim (fun x85=>some false) (fun r86=>some r86)
def g5q:List (Nat×RN):=[(1,⟨[],[],[.v 7 9,.v 11 13]⟩),(3,⟨[.gc [2,3,4,5,6]],[],[]⟩)]
@[irreducible] def e77:MC:=rdc (cK Tryz.prog Tryz.f97 g5q [] 4)
instance:LI e77 34 33 [3,4,5,6,32,33] [6,5] (fun y:Unit=>[]) (fun y=>[]) []:=⟨⟩
instance h2d {d_:d9} {a_:l5} {jA p_ t_:Int}:WJ (f2z d_ a_ jA p_ t_) 97 [d9.v d_,l5.v a_,.int .i64 jA,.int .i64 p_,.int .i64 t_] .bool:=wX Tryz.func97 g5q [(4,e77)] (h:=fun _ _ h hQ M=>by unfold f2z at h;exact tX)
@[go_sem] def g2p (d_:d9) (a_:l5) (jA:Int) (p_:Int) (k39:Int) (a40:Int) (x38:Unit):Option (Fl Unit (Int×Bool)) :=
 (f2z d_ a_ jA p_ a40).bind fun y48=>bif y48 then some (.ex (a40,true)) else some (.nx ())
def f2y (d_:d9) (a_:l5) (jA:Int) (p_:Int):Option (Int×Bool) :=
 (e0c d_ a_ jA p_).bind fun y4=>bif (!y4) then some (0,false) else (f3r d_ a_).bind fun y27=>(a10 (g2p d_ a_ jA p_) y27 0 ()).bind fun o=>o.elim (fun x49=>some (0,false)) (fun r50=>some r50)
def g5p:List (Nat×RN):=[(3,⟨[.gc [2,3,4,5]],[],[]⟩),(7,⟨[.gc [11]],[],[]⟩)]
@[irreducible] def e5r:MC:=rdc (cK Tryz.prog Tryz.f53 g5p [] 4)
instance:LI e5r 22 21 [2,3,4,5,20,21] [5,4] (fun y:Unit=>[]) (fun y=>[]) []:=⟨⟩
instance h2c {d_:d9} {a_:l5} {jA p_:Int}:WJ (f2y d_ a_ jA p_) 53 [d9.v d_,l5.v a_,.int .i64 jA,.int .i64 p_] fun z=>.tup [.int .i64 z.1,.bool z.2]:=wX Tryz.func53 g5p [(4,e5r)] (h:=fun _ _ h hQ M=>by unfold f2y at h;exact tX)
@[go_sem] def g2o (d_:d9) (a_:l5) (jA:Int) (x34:Int×(List a00)):Option (Fl (Int×(List a00)) (List a00)) :=
 bif decide (x34.1<(d_.Kinds.length:Int)) then jn (α:=List a00) ((f2y d_ a_ jA x34.1).bind fun y42=>bif y42.2 then chk (room (x34.2.length+[(a00.mk x34.1 y42.1)].length) 16) (some (x34.2++[(a00.mk x34.1 y42.1)])) else some x34.2) fun j40=>chk (a0p (x34.1+1)) (some (.nx ((x34.1+1),j40))) else some (.ex x34.2)
def F_7 (d_:d9) (a_:l5) (jA:Int):Option ((List a00)×Int) := (F_c d_).bind fun y4=>bif (!y4) then some ([],30) else (F_r a_).bind fun y8=>bif (!y8) then some ([],34) else grp ((decide (jA<0)||decide (63<jA))) fun b12=>bif b12 then some ([],2) else (loop (g2o d_ a_ jA) ((-1),[])).bind fun r43=>some (r43,0)
def a_7:List (Nat×RN):=[(5,⟨[.gc [2,3,4,21,22]],[],[.v 3 5]⟩),(7,⟨[],[.k 0 1],[]⟩),(13,⟨[.gc [2,3,4,8,9,10]],[],[]⟩)]
@[irreducible] def d7e:MC:=rdc (cK Tryz.prog Tryz.f23 a_7 [] 10000010)
@[irreducible] def e5q:MC:=rdc (cK Tryz.prog Tryz.f23 a_7 [(10000010,d7e)] 9)
instance:LI d7e 0 0 [2,3,4,9] [4,3] (fun y:List a00=>[(8,.osl 2008 2 0 y.length)]) (fun y=>[.o 2008 (.arr 2 (y.map a00.v))]) [.gc [2,3,4,8,9],.acc 8 2008 2]:=⟨⟩
instance:LI e5q 0 0 [2,3,4] [4,3] (fun y:Int×(List a00)=>[(8,.osl 2008 2 0 y.2.length),(9,.int .i64 y.1)]) (fun y=>[.o 2008 (.arr 2 (y.2.map a00.v))]) [.gc [2,3,4,8,9],.acc 8 2008 2]:=⟨⟩
instance h5b {d_:d9} {a_:l5} {jA:Int}:WJ (F_7 d_ a_ jA) 23 [d9.v d_,l5.v a_,.int .i64 jA] fun z=>.tup [.sl (z.1.map a00.v),.int .i64 z.2]:=wX Tryz.func23 a_7 [(10000010,d7e),(9,e5q)] [.fz 6] (h:=fun _ _ h hQ M=>by unfold F_7 at h;exact tX)
end
end Go.Ab