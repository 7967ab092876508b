/- What the functions of this seat that lie on the laws' road compute (part LT), each for every input. By AI agents. -/
import Derived.Test.YtbmjlaknnpmgpaaGreatDoorProg
import Derived.KernelRfl
import Derived.Test.YtbmjlaknnpmgpaaGreatDoorAbMach
import Derived.Test.YtbmjlaknnpmgpaaGreatDoorSL
import Derived.Test.YtbmjlaknnpmgpaaGreatDoorXM
set_option linter.all false
set_option linter.all false
set_option maxRecDepth 20000
set_option maxHeartbeats 2000000
namespace Go.Ab
open Go.Proofs
structure q9 where
 Level:Int
 Worth:Int
 Audience:Int
 Score:Int
instance:Inhabited q9:=⟨⟨default,default,default,default⟩⟩
def q9.v (x:q9):V:=.agg [.int .i64 x.Level,.int .i64 x.Worth,.int .i64 x.Audience,.int .i64 x.Score]
structure o6 where
 Fingerprint:Int
 Spots:Int
 Public:Bool
 Readers:Int
 Since:Int
 Severity:q9
 Rotated:Bool
 Dead:Bool
instance:Inhabited o6:=⟨⟨default,default,default,default,default,default,default,default⟩⟩
def o6.v (x:o6):V:=.agg [.int .u64 x.Fingerprint,.int .i64 x.Spots,.bool x.Public,.int .i64 x.Readers,.int .i64 x.Since,.int .i64 x.Severity.Level,.int .i64 x.Severity.Worth,.int .i64 x.Severity.Audience,.int .i64 x.Severity.Score,.bool x.Rotated,.bool x.Dead]
structure a3w where
 name_:Str
 n_:Int
instance:Inhabited a3w:=⟨⟨default,default⟩⟩
def a3w.v (x:a3w):V:=.agg [.str x.name_,.int .i64 x.n_]
structure w9 where
 L:List Int
 at_:Int
instance:Inhabited w9:=⟨⟨default,default⟩⟩
def w9.v (x:w9):V:=.agg [.sl (x.L.map (V.int .i64)),.int .i64 x.at_]
structure a0n where
 Time:Int
 Kind:Int
 Principal:Int
 Group:Int
instance:Inhabited a0n:=⟨⟨default,default,default,default⟩⟩
def a0n.v (x:a0n):V:=.agg [.int .i64 x.Time,.int .i64 x.Kind,.int .i64 x.Principal,.int .i64 x.Group]
structure d9 where
 Kinds:List Int
 Events:List a0n
instance:Inhabited d9:=⟨⟨default,default⟩⟩
def d9.v (x:d9):V:=.agg [.sl (x.Kinds.map (V.int .i64)),.sl (x.Events.map a0n.v)]
structure o8 where
 Time:Int
 Kind:Int
 Place:Int
 Principal:Int
 Until:Int
 Content:Int
 From:Int
instance:Inhabited o8:=⟨⟨default,default,default,default,default,default,default⟩⟩
def o8.v (x:o8):V:=.agg [.int .i64 x.Time,.int .i64 x.Kind,.int .i64 x.Place,.int .i64 x.Principal,.int .i64 x.Until,.int .i64 x.Content,.int .i64 x.From]
structure l5 where
 Places:Int
 Events:List o8
instance:Inhabited l5:=⟨⟨default,default⟩⟩
def l5.v (x:l5):V:=.agg [.int .i64 x.Places,.sl (x.Events.map o8.v)]
structure a0e where
 Name:Str
 Slots:Int
instance:Inhabited a0e:=⟨⟨default,default⟩⟩
def a0e.v (x:a0e):V:=.agg [.str x.Name,.int .i64 x.Slots]
structure o7 where
 Issuer:Int
 Fingerprint:Int
 Holder:Int
 From:Int
 Until:Int
instance:Inhabited o7:=⟨⟨default,default,default,default,default⟩⟩
def o7.v (x:o7):V:=.agg [.int .i64 x.Issuer,.int .u64 x.Fingerprint,.int .i64 x.Holder,.int .i64 x.From,.int .i64 x.Until]
structure o5 where
 Issuers:List a0e
 Credentials:List o7
instance:Inhabited o5:=⟨⟨default,default⟩⟩
def o5.v (x:o5):V:=.agg [.sl (x.Issuers.map a0e.v),.sl (x.Credentials.map o7.v)]
structure a02 where
 Credential:Int
 Resource:Int
 Right:Int
instance:Inhabited a02:=⟨⟨default,default,default⟩⟩
def a02.v (x:a02):V:=.agg [.int .i64 x.Credential,.int .i64 x.Resource,.int .i64 x.Right]
structure a08 where
 Resource:Int
 Credential:Int
instance:Inhabited a08:=⟨⟨default,default⟩⟩
def a08.v (x:a08):V:=.agg [.int .i64 x.Resource,.int .i64 x.Credential]
structure a0p where
 From:Int
 To:Int
instance:Inhabited a0p:=⟨⟨default,default⟩⟩
def a0p.v (x:a0p):V:=.agg [.int .i64 x.From,.int .i64 x.To]
structure l6 where
 Credentials:Int
 Resources:Int
 Grants:List a02
 Stores:List a08
 Mints:List a0p
instance:Inhabited l6:=⟨⟨default,default,default,default,default⟩⟩
def l6.v (x:l6):V:=.agg [.int .i64 x.Credentials,.int .i64 x.Resources,.sl (x.Grants.map a02.v),.sl (x.Stores.map a08.v),.sl (x.Mints.map a0p.v)]
structure b2x where
 Source:Int
 Path:Str
 Time:Int
instance:Inhabited b2x:=⟨⟨default,default,default⟩⟩
def b2x.v (x:b2x):V:=.agg [.int .i64 x.Source,.str x.Path,.int .i64 x.Time]
structure b4l where
 Coding:Int
 From:Int
 To:Int
instance:Inhabited b4l:=⟨⟨default,default,default⟩⟩
def b4l.v (x:b4l):V:=.agg [.int .i64 x.Coding,.int .i64 x.From,.int .i64 x.To]
structure b3k where
 Place:b2x
 Layers:List b4l
 From:Int
 To:Int
instance:Inhabited b3k:=⟨⟨default,default,default,default⟩⟩
def b3k.v (x:b3k):V:=.agg [.int .i64 x.Place.Source,.str x.Place.Path,.int .i64 x.Place.Time,.sl (x.Layers.map b4l.v),.int .i64 x.From,.int .i64 x.To]
structure a2z where
 Kind:Int
 Fingerprint:Int
 Where:List b3k
instance:Inhabited a2z:=⟨⟨default,default,default⟩⟩
def a2z.v (x:a2z):V:=.agg [.int .i64 x.Kind,.int .u64 x.Fingerprint,.sl (x.Where.map b3k.v)]
structure u7 where
 Pool:Int
 Dual:Bool
 Live:Bool
instance:Inhabited u7:=⟨⟨default,default,default⟩⟩
def u7.v (x:u7):V:=.agg [.int .i64 x.Pool,.bool x.Dual,.bool x.Live]
structure x8 where
 Slots:Int
 Consumers:List u7
instance:Inhabited x8:=⟨⟨default,default⟩⟩
def x8.v (x:x8):V:=.agg [.int .i64 x.Slots,.sl (x.Consumers.map u7.v)]
structure a0r where
 Up:Bool
 Stored:Int
 Used:Int
instance:Inhabited a0r:=⟨⟨default,default,default⟩⟩
def a0r.v (x:a0r):V:=.agg [.bool x.Up,.int .i64 x.Stored,.int .i64 x.Used]
structure l7 where
 Known:Int
 Valid:Int
 Units:List a0r
instance:Inhabited l7:=⟨⟨default,default,default⟩⟩
def l7.v (x:l7):V:=.agg [.int .i64 x.Known,.int .i64 x.Valid,.sl (x.Units.map a0r.v)]
structure p8 where
 Generation:Int
 Serving:Bool
instance:Inhabited p8:=⟨⟨default,default⟩⟩
def p8.v (x:p8):V:=.agg [.int .i64 x.Generation,.bool x.Serving]
structure l9 where
 Fence:Bool
 Sets:List Int
 Replicas:List p8
 Snapshots:List Int
instance:Inhabited l9:=⟨⟨default,default,default,default⟩⟩
def l9.v (x:l9):V:=.agg [.bool x.Fence,.sl (x.Sets.map (V.int .i64)),.sl (x.Replicas.map p8.v),.sl (x.Snapshots.map (V.int .i64))]
structure a2d where
 d_:d9
 a_:l5
 r_:o5
 x_:l6
 w_:List Int
 f_:a2z
 c_:Int
 fleet_:x8
 s_:l7
 group_:l9
instance:Inhabited a2d:=⟨⟨default,default,default,default,default,default,default,default,default,default⟩⟩
def a2d.v (x:a2d):V:=.agg [.sl (x.d_.Kinds.map (V.int .i64)),.sl (x.d_.Events.map a0n.v),.int .i64 x.a_.Places,.sl (x.a_.Events.map o8.v),.sl (x.r_.Issuers.map a0e.v),.sl (x.r_.Credentials.map o7.v),.int .i64 x.x_.Credentials,.int .i64 x.x_.Resources,.sl (x.x_.Grants.map a02.v),.sl (x.x_.Stores.map a08.v),.sl (x.x_.Mints.map a0p.v),.sl (x.w_.map (V.int .i64)),.int .i64 x.f_.Kind,.int .u64 x.f_.Fingerprint,.sl (x.f_.Where.map b3k.v),.int .i64 x.c_,.int .i64 x.fleet_.Slots,.sl (x.fleet_.Consumers.map u7.v),.int .i64 x.s_.Known,.int .i64 x.s_.Valid,.sl (x.s_.Units.map a0r.v),.bool x.group_.Fence,.sl (x.group_.Sets.map (V.int .i64)),.sl (x.group_.Replicas.map p8.v),.sl (x.group_.Snapshots.map (V.int .i64))]
structure GStep where
 Kind:Int
 Unit:Int
instance:Inhabited GStep:=⟨⟨default,default⟩⟩
def GStep.v (x:GStep):V:=.agg [.int .i64 x.Kind,.int .i64 x.Unit]
structure a06 where
 Kind:Int
 Replica:Int
 Snapshot:Int
 Bits:Int
instance:Inhabited a06:=⟨⟨default,default,default,default⟩⟩
def a06.v (x:a06):V:=.agg [.int .i64 x.Kind,.int .i64 x.Replica,.int .i64 x.Snapshot,.int .i64 x.Bits]
structure z8 where
 Principal:Int
 Time:Int
instance:Inhabited z8:=⟨⟨default,default⟩⟩
def z8.v (x:z8):V:=.agg [.int .i64 x.Principal,.int .i64 x.Time]
structure a0q where
 Kind:Int
 Grant:Int
 Store:Int
 Mint:Int
instance:Inhabited a0q:=⟨⟨default,default,default,default⟩⟩
def a0q.v (x:a0q):V:=.agg [.int .i64 x.Kind,.int .i64 x.Grant,.int .i64 x.Store,.int .i64 x.Mint]
structure d2j where
 e0:Int
 e1:Int
 e2:Int
 e3:Int
instance:Inhabited d2j:=⟨⟨default,default,default,default⟩⟩
def d2j.v (x:d2j):V:=.agg [.int .i64 x.e0,.int .i64 x.e1,.int .i64 x.e2,.int .i64 x.e3]
structure f0u where
 e0:o6
 e1:o6
instance:Inhabited f0u:=⟨⟨default,default⟩⟩
def f0u.v (x:f0u):V:=.agg [.int .u64 x.e0.Fingerprint,.int .i64 x.e0.Spots,.bool x.e0.Public,.int .i64 x.e0.Readers,.int .i64 x.e0.Since,.int .i64 x.e0.Severity.Level,.int .i64 x.e0.Severity.Worth,.int .i64 x.e0.Severity.Audience,.int .i64 x.e0.Severity.Score,.bool x.e0.Rotated,.bool x.e0.Dead,.int .u64 x.e1.Fingerprint,.int .i64 x.e1.Spots,.bool x.e1.Public,.int .i64 x.e1.Readers,.int .i64 x.e1.Since,.int .i64 x.e1.Severity.Level,.int .i64 x.e1.Severity.Worth,.int .i64 x.e1.Severity.Audience,.int .i64 x.e1.Severity.Score,.bool x.e1.Rotated,.bool x.e1.Dead]
theorem dlt {a:Int}:decide (a<a)=false:=by simp
abbrev WJ {α:Type} (F:Option α) (n:Nat) (args:List V) (RV:α→V):Prop:=WI F Tryz.prog n args [] RV fun _=>[]
attribute [go_sem] a0o.b2s_set a0o.b2s_setD d7t c9d c9a c99 c9e c9c a0y beq_self_eq_true Int.cast_ofNat_Int List.take_succ_cons List.take_zero xD wD wK b3b b54 wrap_u8 e1e d6w d6t c98 c4s d1q b3n f5g e1g e1o e1n e1m e1l e1q e1p g4j g4i g4g g4h e5w e5v e5t e5u f5i f5h ovS ovE ovU g0y c8d d1j b7a a0b a1k c8v f0m V.oids V.oidsL V.tr V.trL trE trH a07.tr true_implies false_implies xM Bool.true_eq_false dlt mpV slV Int.natCast_zero List.map_set kvV d5h c6v V.sw V.swL swN swH f4c e0m d41 e0k d3z d40 a07.sw e0n e0l e7j e7i List.set_set a0o.b2s_e a0o.b2s_eD c41 List.length_set List.length_replicate zP vI bounds a0k wJ Option.map_none a2e a1o d8e d8d d3g d3h a9h a7b b2v
theorem d6y:inb 0 2=true:=u6.2 (by decide)
attribute [go_sem] d6y
theorem d6x:inb 0 4=true:=u6.2 (by decide)
attribute [go_sem] d6x
theorem e6b {n:Nat}:(inb 0 n=true)=(((0:Nat):Int)<(n:Int)):=propext (by rw [u6];omega)
attribute [go_sem] e6b
theorem e6a {n:Nat}:(inb 1 n=true)=(((1:Nat):Int)<(n:Int)):=propext (by rw [u6];omega)
attribute [go_sem] e6a
theorem e69 {n:Nat}:(inb 4 n=true)=(((4:Nat):Int)<(n:Int)):=propext (by rw [u6];omega)
attribute [go_sem] e69
theorem d6v {n:Nat}:(inb 17 n=true)=(((17:Nat):Int)<(n:Int)):=propext (by rw [u6];omega)
attribute [go_sem] d6v
theorem d6u {n:Nat}:(inb 18 n=true)=(((18:Nat):Int)<(n:Int)):=propext (by rw [u6];omega)
attribute [go_sem] d6u
theorem e68 {b:Int} {n:Nat}:(inc 0 b n=true)=(((0:Nat):Int)≤b∧b≤(n:Int)):=propext (by rw [a3t];omega)
attribute [go_sem] e68
theorem e67 {b:Int} {n:Nat}:(inc 1 b n=true)=(((1:Nat):Int)≤b∧b≤(n:Int)):=propext (by rw [a3t];omega)
attribute [go_sem] e67
theorem c50 {n:Nat}:List.replicate n (V.agg [.int .i64 0,.str [],.int .i64 0,.sl [],.int .i64 0,.int .i64 0])=(List.replicate n (b3k.mk (b2x.mk 0 [] 0) [] 0 0)).map b3k.v:=by rw [List.map_replicate];rfl
attribute [go_sem] c50
attribute [go_sem] d2j.v f0u.v o8.v l9.v u7.v o7.v d9.v l5.v z8.v a2z.v x8.v a02.v a0e.v b4l.v a0q.v a0n.v a0p.v b2x.v o5.v p8.v a06.v l6.v l7.v a3w.v q9.v b3k.v GStep.v a08.v o6.v w9.v a0r.v a2d.v
end Go.Ab
set_option maxRecDepth 20000
set_option maxHeartbeats 2000000
namespace Go.Ab
open Go.Proofs
def d9s (v_:Int) (k11:Int) (a12:Int) (x10:Unit):Option (Fl Unit Int) :=
 bif decide (v_=a12) then some (.ex k11) else some (.nx ())
def f7n (s_:List Int) (v_:Int):Option Int :=
 (a0x (d9s v_) s_ 0 ()).bind fun o=>o.elim (fun x13=>some (-1)) (fun r14=>some r14)
@[irreducible] def e5k:MC:=rdc (cK Tryz.prog Tryz.f281 [] [] 2)
attribute [go_sem] d9s
instance:LI e5k 8 7 [0,1,7] [] (fun y:Unit=>[]) (fun y=>[]) []:=⟨⟩
instance g53 {s_:List Int} {v_:Int}:WJ (f7n s_ v_) 281 [.sl (s_.map (V.int .i64)),.int .i64 v_] (.int .i64):=wX Tryz.func281 [] [(2,e5k)] (h:=fun _ _ h hQ M=>by unfold f7n at h;exact tX)
def d8o (s_:List Int) (v_:Int):Option Bool :=
 (f7n s_ v_).bind fun y2=>some (decide (0≤y2))
instance g7u {s_:List Int} {v_:Int}:WJ (d8o s_ v_) 259 [.sl (s_.map (V.int .i64)),.int .i64 v_] .bool:=wX Tryz.func259 (h:=fun _ _ h hQ M=>by unfold d8o at h;exact tX)
end Go.Ab
set_option maxRecDepth 20000
set_option maxHeartbeats 2000000
namespace Go.Ab
open Go.Proofs
def d9r (is_:Bool) (yes_:Str) (no_:Str):Option Str :=
 bif is_ then some yes_ else some no_
instance g7f {is_:Bool} {yes_ no_:Str}:WJ (d9r is_ yes_ no_) 42 [.bool is_,.str yes_,.str no_] .str:=wX Tryz.func42 (h:=fun _ _ h hQ M=>by unfold d9r at h;exact tX)
def f3e (k36:Int) (a37:a3w) (x35:List Str):Option (List Str) :=
 (b8v a37.n_).bind fun y41=>chk (room (x35.length+[a37.name_,y41].length) 16) (some (x35++[a37.name_,y41]))
def F_9 (m_:o6):Option Str := (d9a m_.Fingerprint 10).bind fun y4=>(b8v m_.Spots).bind fun y5=>(d9r m_.Public [112,117,98,108,105,99] [105,110,115,105,100,101]).bind fun y6=>(a09 f3e [(a3w.mk [114,101,97,100,101,114,115] m_.Readers),(a3w.mk [115,105,110,99,101] m_.Since),(a3w.mk [108,101,118,101,108] m_.Severity.Level),(a3w.mk [119,111,114,116,104] m_.Severity.Worth),(a3w.mk [97,117,100,105,101,110,99,101] m_.Severity.Audience),(a3w.mk [115,99,111,114,101] m_.Severity.Score)] 0 [[108,101,97,107],y4,[115,112,111,116,115],y5,y6]).bind fun x42=>(d9r m_.Rotated [114,111,116,97,116,101,100] [118,97,108,105,100]).bind fun y46=>(d9r m_.Dead [100,101,97,100] [97,108,105,118,101]).bind fun y47=>chk (room (x42.length+[y46,y47].length) 16) ((d0r (x42++[y46,y47]) [32]).bind fun y48=>some y48)
def a_9:List (Nat×RN):=[(2,⟨[.gc [1,3]],[],[]⟩),(7,⟨[],[.c 9 0 [61] []],[]⟩)]
@[irreducible] def d0o:MC:=rdc (cK Tryz.prog Tryz.f16 a_9 [] 3)
def g1g:MC:=rdc (cT Tryz.prog Tryz.f16 a_9 [(3,d0o)])
instance h0u {m_:o6}:WI (F_9 m_) Tryz.prog 16 [o6.v m_] [] (fun z=>.str z) (fun z=>[]):=⟨fun Q Q' h hQ=>by
 refine a2s g1g [] [] [.t 2] Tryz.func16 fun M=>?_
 unfold F_9 at h
 unfold g1g
 replace h:=tY h
 refine tB ?_
 repeat' (first
 | (exact tZ)
 | ((first|refine b7w h ?_|refine a6f h ?_|refine b8y h ?_|refine b8x h ?_|refine b96 h ?_|refine appG h ?_|refine b9e h ?_|refine fork h ?_ ?_|refine a6g h ?_ ?_)<;>clear h<;>intro hc h)
 | (obtain ⟨y,hy,h⟩:=h;(first|have hw:=a1b 1000 61 (g9z hy)|have hw:=g3o hy|have hw:=g3k hy|have hw:=WI.w hy);replace hw:=tY hw;(first|refine M.sC hw ?_|refine M.sD hw ?_);clear hw hy;refine tB ?_)
 | (refine M.fold1 (b:=d0o) 40 [1,38,39] [38,1] (fun x=>[(3,.osl 2003 1 0 x.length)]) (fun x=>[.o 2003 (.arr 1 (x.map V.str))]) [.gc [1,3,38,39,40],.acc 3 2003 1] h ?_ ?_ ?_<;>first
 | (clear h;intro k a x Qn K hK1 hkN1 ha1 h hf;skip;clear hf;have hkd:=kD hkN1;have hkB1:=kB hkN1;have hkI1:=kI (k:=k) (by (try simp only [wB,wN] at hkN1);omega);have hkd1:decide ((k:Int)<6)=true:=wU (by simp only [wB,wN] at hkN1;omega);have hkr1:(0≤(k:Int)∧(k:Int)<6)=True:=eq_true (by simp only [wB,wN] at hkN1;omega);have hle1:=trivial;have hpt1:=trivial;unfold f3e at h;unfold d0o;replace h:=tY h;refine tKA ha1 hkd hkN1 hkB1 hkI1 hkd1 hkr1 hle1 hpt1 ?_)
  |(clear h;intro x K h;replace h:=And.left (And.intro h trivial);unfold d0o;replace h:=tY h;refine tB ?_)
  |(clear h;(try refine tB ?_);exact tU0;done))
 | (simp only [ha1])
 | (refine hK1 _ ?_;(try refine tB ?_);refine ⟨_,h,?_⟩;exact tU0;done)
 | (refine tE6 a3w.v ([(a3w.mk [114,101,97,100,101,114,115] m_.Readers),(a3w.mk [115,105,110,99,101] m_.Since),(a3w.mk [108,101,118,101,108] m_.Severity.Level),(a3w.mk [119,111,114,116,104] m_.Severity.Worth),(a3w.mk [97,117,100,105,101,110,99,101] m_.Severity.Audience),(a3w.mk [115,99,111,114,101] m_.Severity.Score)]:List a3w) ?_;(first|rw [M.lok_compU]|rw [M.lokD_compU]|(simp only [slV,V.cells];first|rw [M.lok_comp]|rw [M.lokD_comp]));refine tB ?_)
 | (refine tE4 a3w.v ?_;(first|rw [M.lok_compU]|rw [M.lokD_compU]|(simp only [V.cells];first|rw [M.lok_comp]|rw [M.lokD_comp]));refine tB ?_)
 | (refine tE ?_;(first|rw [M.lok_compU]|rw [M.lokD_compU]);refine tB ?_)
 | (refine tA ?_)
 | fail)⟩
noncomputable def d9z (y2:List Str) (k101:Int) (a78:Int×Nat) (x77:Bool×o6):Option (Bool×o6) :=
 bif Nat.beq a78.2 1 then chk (inb a78.1 y2.length) ((a4i (y2.getD (a78.1).toNat default)).bind fun y121=>grp ((x77.1||(!y121.2))) fun b122=>some (b122,(o6.mk x77.2.Fingerprint y121.1 x77.2.Public x77.2.Readers x77.2.Since x77.2.Severity x77.2.Rotated x77.2.Dead))) else bif Nat.beq a78.2 3 then chk (inb a78.1 y2.length) ((a4i (y2.getD (a78.1).toNat default)).bind fun y118=>grp ((x77.1||(!y118.2))) fun b119=>some (b119,(o6.mk x77.2.Fingerprint x77.2.Spots x77.2.Public y118.1 x77.2.Since x77.2.Severity x77.2.Rotated x77.2.Dead))) else bif Nat.beq a78.2 4 then chk (inb a78.1 y2.length) ((a4i (y2.getD (a78.1).toNat default)).bind fun y115=>grp ((x77.1||(!y115.2))) fun b116=>some (b116,(o6.mk x77.2.Fingerprint x77.2.Spots x77.2.Public x77.2.Readers y115.1 x77.2.Severity x77.2.Rotated x77.2.Dead))) else bif Nat.beq a78.2 5 then chk (inb a78.1 y2.length) ((a4i (y2.getD (a78.1).toNat default)).bind fun y112=>grp ((x77.1||(!y112.2))) fun b113=>some (b113,(o6.mk x77.2.Fingerprint x77.2.Spots x77.2.Public x77.2.Readers x77.2.Since (q9.mk y112.1 x77.2.Severity.Worth x77.2.Severity.Audience x77.2.Severity.Score) x77.2.Rotated x77.2.Dead))) else bif Nat.beq a78.2 6 then chk (inb a78.1 y2.length) ((a4i (y2.getD (a78.1).toNat default)).bind fun y109=>grp ((x77.1||(!y109.2))) fun b110=>some (b110,(o6.mk x77.2.Fingerprint x77.2.Spots x77.2.Public x77.2.Readers x77.2.Since (q9.mk x77.2.Severity.Level y109.1 x77.2.Severity.Audience x77.2.Severity.Score) x77.2.Rotated x77.2.Dead))) else bif Nat.beq a78.2 7 then chk (inb a78.1 y2.length) ((a4i (y2.getD (a78.1).toNat default)).bind fun y106=>grp ((x77.1||(!y106.2))) fun b107=>some (b107,(o6.mk x77.2.Fingerprint x77.2.Spots x77.2.Public x77.2.Readers x77.2.Since (q9.mk x77.2.Severity.Level x77.2.Severity.Worth y106.1 x77.2.Severity.Score) x77.2.Rotated x77.2.Dead))) else bif Nat.beq a78.2 8 then chk (inb a78.1 y2.length) ((a4i (y2.getD (a78.1).toNat default)).bind fun y103=>grp ((x77.1||(!y103.2))) fun b104=>some (b104,(o6.mk x77.2.Fingerprint x77.2.Spots x77.2.Public x77.2.Readers x77.2.Since (q9.mk x77.2.Severity.Level x77.2.Severity.Worth x77.2.Severity.Audience y103.1) x77.2.Rotated x77.2.Dead))) else none
noncomputable def F_a (text_:Str):Option (o6×Int) := (d43 text_ [32]).bind fun y2=>bif (!decide ((y2.length:Int)=19)) then some ((o6.mk 0 0 false 0 0 (q9.mk 0 0 0 0) false false),4) else chk (inb 1 y2.length) ((puE (y2.getD 1 default) 10 64).bind fun y4=>b69 (fun l100=>(a09 (d9z y2) l100 0 ((!y4.2),(o6.mk 0 0 false 0 0 (q9.mk 0 0 0 0) false false))).bind fun x123=>chk (inb 4 y2.length) (chk (inb 17 y2.length) (chk (inb 18 y2.length) (bif x123.1 then some ((o6.mk 0 0 false 0 0 (q9.mk 0 0 0 0) false false),4) else (F_9 (o6.mk y4.1 x123.2.Spots (decide ((y2.getD 4 default)=[112,117,98,108,105,99])) x123.2.Readers x123.2.Since x123.2.Severity (decide ((y2.getD 17 default)=[114,111,116,97,116,101,100])) (decide ((y2.getD 18 default)=[100,101,97,100])))).bind fun y127=>bif (!decide (y127=text_)) then some ((o6.mk 0 0 false 0 0 (q9.mk 0 0 0 0) false false),4) else some ((o6.mk y4.1 x123.2.Spots (decide ((y2.getD 4 default)=[112,117,98,108,105,99])) x123.2.Readers x123.2.Since x123.2.Severity (decide ((y2.getD 17 default)=[114,111,116,97,116,101,100])) (decide ((y2.getD 18 default)=[100,101,97,100]))),0))))) [(3,1),(6,3),(8,4),(10,5),(12,6),(14,7),(16,8)])
@[irreducible] def d5l:List MOp:=rdc (cG Tryz.prog Tryz.f20 [] 11 2 4)
def a_a:List (Nat×RN):=[(3,⟨[.gc [2]],[],[]⟩),(6,⟨[.gc [0,2,4,5,6,7,11,57,58,79,80,81,82]],[],[]⟩),(7,⟨[],[],[.n 2 (.adq 5 11),.n 2 (.toA 27 11),.n 4 (.toA 28 11),.n 6 (.toA 29 11),.n 9 (.toA 31 11),.n 12 (.toA 33 11),.n 15 (.toA 35 11),.n 18 (.toA 37 11),.n 20 (.shut 26)]⟩),(10,⟨[],[],[.n 0 (.ofA 10 11)]⟩),(11,⟨[.gc [0,2,4,5,6,7,8,11,39,57,58,79,80,81,82]],[],[.u 2 4 d5l]⟩),(13,⟨[.gc [0,2,5,8,11,79,80,81,82]],[],[]⟩),(14,⟨[.gc [2,11]],[],[]⟩),(15,⟨[.gc [2,5,11]],[],[]⟩)]
@[irreducible] def d6l:MC:=rdc (cK Tryz.prog Tryz.f20 a_a [] 8)
def g1f:MC:=rdc (cT Tryz.prog Tryz.f20 a_a [(8,d6l)])
instance h0t {text_:Str}:WI (F_a text_) Tryz.prog 20 [.str text_] [] (fun z=>.tup [o6.v z.1,.int .i64 z.2]) (fun z=>[]):=⟨fun Q Q' h hQ=>by
 refine a2s g1f [] [] [.c 2 (some 11),.t 3] Tryz.func20 fun M=>?_
 unfold F_a at h
 unfold g1f
 replace h:=tY h
 refine tB ?_
 repeat' (first
 | (exact tZ)
 | ((first|refine b7w h ?_|refine a6f h ?_|refine b8y h ?_|refine b8x h ?_|refine b96 h ?_|refine appG h ?_|refine b9e h ?_|refine fork h ?_ ?_|refine a6g h ?_ ?_)<;>clear h<;>intro hc h)
 | (intro b;(try refine tB ?_))
 | (obtain ⟨y,hy,h⟩:=h;(first|with_reducible first|have hw:=g3n hy|have hw:=g3l hy|have hw:=g3j hy|have hw:=WI.w hy);replace hw:=tY hw;(first|refine M.sC hw ?_|refine M.sD hw ?_);clear hw hy;refine tB ?_)
 | (refine M.gv1 (ms:=d5l) 59 [57,58] h ?_ ?_<;>first
 | (clear h;intro K hK1;unfold d5l;refine tB ?_)
 | (clear h;intro b h;replace h:=tY h;refine tB ?_))
 | (refine M.mfold1 (b:=d6l) (kv:=(kvV (V.int .i64) (V.adr b))) 39 [0,2,4,5,6,11,39] [2] (fun x=>[(8,.bool x.1)]) (fun x=>[.o 5 (.cells [.int .u64 x.2.Fingerprint,.int .i64 x.2.Spots,.bool x.2.Public,.int .i64 x.2.Readers,.int .i64 x.2.Since,.int .i64 x.2.Severity.Level,.int .i64 x.2.Severity.Worth,.int .i64 x.2.Severity.Audience,.int .i64 x.2.Severity.Score,.bool x.2.Rotated,.bool x.2.Dead])]) [] h ?_ ?_<;>first
 | (clear h;intro rem cur x k Qn K hK2 hs2 hn2;unfold d9z at hn2;unfold d6l;refine tB ?_)
 | (clear h;(try refine tB ?_);exact tU0;done))
 | (refine c5k hs2 hn2 ?_ ?_<;>first
  |(intro h;rw [M.lok_eq];replace h:=tY h;refine tB ?_)
  |(intro i a h;rw [M.lok_eq];obtain ⟨ak,ao⟩:=a;rcases ao with _|_|_|_|_|_|_|_|_|_|_|_|ao<;>replace h:=tY h<;>first|exact False.elim h|(exfalso;simp [Nat.beq,b2v] at h;done)|refine tB ?_))
 | (refine hK1 _ ?_;exact tU;done)
 | (apply hK2;(try refine tB ?_);refine ⟨_,h,?_⟩;exact tU0;done)
 | (refine d7y (fun hc=>?_) (fun hc=>?_))
 | (refine tE ?_;(first|rw [M.lok_compU]|rw [M.lokD_compU]);refine tB ?_)
 | (refine tA ?_)
 | fail)⟩
def f2c (m_:o6):Option Bool :=
 grp ((m_.Rotated&&m_.Dead)) fun b2=>some b2
instance g5z {m_:o6}:WJ (f2c m_) 18 [o6.v m_] .bool:=wX Tryz.func18 [(1,⟨[],[],[.v 3 5]⟩)] (h:=fun _ _ h hQ M=>by unfold f2c at h;exact tX)
noncomputable def d9q:Option Bool :=
 (F_a [108,101,97,107,32,55,32,115,112,111,116,115,32,49,32,105,110,115,105,100,101,32,114,101,97,100,101,114,115,32,50,32,115,105,110,99,101,32,53,32,108,101,118,101,108,32,50,32,119,111,114,116,104,32,49,48,48,32,97,117,100,105,101,110,99,101,32,51,32,115,99,111,114,101,32,51,48,48,32,114,111,116,97,116,101,100,32,100,101,97,100]).bind fun y2=>jn (α:=Bool) (bif decide (y2.2=0) then (F_9 y2.1).bind fun y10=>some (decide (y10=[108,101,97,107,32,55,32,115,112,111,116,115,32,49,32,105,110,115,105,100,101,32,114,101,97,100,101,114,115,32,50,32,115,105,110,99,101,32,53,32,108,101,118,101,108,32,50,32,119,111,114,116,104,32,49,48,48,32,97,117,100,105,101,110,99,101,32,51,32,115,99,111,114,101,32,51,48,48,32,114,111,116,97,116,101,100,32,100,101,97,100])) else some false) fun j11=>grp ((j11&&decide (y2.1.Fingerprint=7))) fun b12=>grp ((b12&&decide (y2.1.Since=5))) fun b13=>jn (α:=Bool) (bif b13 then (f2c y2.1).bind fun y15=>some y15 else some false) fun j16=>some j16
instance {m:List MOp}:GI (gjt 70319 m) [0] [] (fun y:Bool=>[(30,.bool y)]) (fun y=>[]):=⟨⟩
instance {m:List MOp}:GI (gjt 70303 m) [0,2] [2] (fun y:Bool=>[(16,.bool y)]) (fun y=>[]):=⟨⟩
instance g7e:WJ d9q 7 [] .bool:=wX Tryz.func7 [(3,⟨[],[],[.w 3 7 70303,.v 9 12,.v 14 17,.w 19 21 70319]⟩)] (h:=fun _ _ h hQ M=>by unfold d9q at h;exact tX)
end Go.Ab
set_option maxRecDepth 20000
set_option maxHeartbeats 2000000
namespace Go.Ab
open Go.Proofs
def F_0 (t_:w9) (n_:Int):Option (Int×w9) := bif decide ((t_.L.length:Int)≤t_.at_) then some (0,t_) else chk (inb t_.at_ t_.L.length) (chk (a0l (t_.at_+1)) (chk (d39 ((t_.L.getD (t_.at_).toNat default) % 2^16) n_) (some ((((t_.L.getD (t_.at_).toNat default) % 2^16) % n_),(w9.mk t_.L (t_.at_+1))))))
instance h1f {t_:w9} {n_:Int}:WI (F_0 t_ n_) Tryz.prog 12 [.ptr 1000 0,.int .i64 n_] [(1000,.cells [.sl (t_.L.map (V.int .i64)),.int .i64 t_.at_])] (fun z=>.int .i64 z.1) (fun z=>[(1000,.cells [.sl (z.2.L.map (V.int .i64)),.int .i64 z.2.at_])]):=wX Tryz.func12 [(3,⟨[.gc [0,1]],[],[]⟩),(4,⟨[.gc [0,1,5]],[],[]⟩),(5,⟨[.gc [1,5]],[],[]⟩)] [] [] [1000] (h:=fun _ _ h hQ M=>by unfold F_0 at h;exact tX)
def F_3 (t_:w9) (a_:Int) (b_:Int):Option (Int×w9) := chk (a0l (b_ - a_)) (chk (a0l ((b_ - a_)+1)) ((F_0 t_ ((b_ - a_)+1)).bind fun y2=>chk (a0l (a_+y2.1)) (some ((a_+y2.1),y2.2))))
instance h17 {t_:w9} {a_ b_:Int}:WI (F_3 t_ a_ b_) Tryz.prog 35 [.ptr 1000 0,.int .i64 a_,.int .i64 b_] [(1000,.cells [.sl (t_.L.map (V.int .i64)),.int .i64 t_.at_])] (fun z=>.int .i64 z.1) (fun z=>[(1000,.cells [.sl (z.2.L.map (V.int .i64)),.int .i64 z.2.at_])]):=wX Tryz.func35 [(1,⟨[],[.c 6 0 [1000] []],[]⟩)] [] [] [1000] (h:=fun _ _ h hQ M=>by unfold F_3 at h;exact tX)
def d2l (t_:w9) (l_:List Int):Option (Int×w9) :=
 (F_0 t_ (l_.length:Int)).bind fun y2=>chk (inb y2.1 l_.length) (some ((l_.getD (y2.1).toNat default),y2.2))
instance g9c {t_:w9} {l_:List Int}:WI (d2l t_ l_) Tryz.prog 36 [.ptr 1000 0,.sl (l_.map (V.int .i64))] [(1000,.cells [.sl (t_.L.map (V.int .i64)),.int .i64 t_.at_])] (fun z=>.int .i64 z.1) (fun z=>[(1000,.cells [.sl (z.2.L.map (V.int .i64)),.int .i64 z.2.at_])]):=wX Tryz.func36 [(1,⟨[],[.c 4 0 [1000] []],[]⟩)] [] [] [1000] (h:=fun _ _ h hQ M=>by unfold d2l at h;exact tX)
noncomputable def f9v (n_:Int) (x29:Int×Int×(List Int)×w9):Option (Fl (Int×Int×(List Int)×w9) ((List Int)×w9)) :=
 bif decide (x29.2.1<n_) then (F_0 x29.2.2.2 3).bind fun y37=>chk (a0l (x29.1+y37.1)) (chk (room (x29.2.2.1.length+[(x29.1+y37.1)].length) 8) (chk (a0l (x29.2.1+1)) (some (.nx ((x29.1+y37.1),(x29.2.1+1),(x29.2.2.1++[(x29.1+y37.1)]),y37.2))))) else some (.ex (x29.2.2.1,x29.2.2.2))
noncomputable def d9y (t_:w9) (n_:Int):Option ((List Int)×w9) :=
 (F_0 t_ 4).bind fun y2=>(loop (f9v n_) (y2.1,0,[],y2.2)).bind fun r38=>some (r38.1,r38.2)
def g38:List (Nat×RN):=[(1,⟨[],[.k 0 1],[]⟩),(2,⟨[],[.c 1 0 [1000] []],[]⟩),(5,⟨[.gc [0,1,5,6,7]],[],[]⟩),(6,⟨[],[.c 2 0 [1000] []],[]⟩)]
@[irreducible] def e4r:MC:=rdc (cK Tryz.prog Tryz.f57 g38 [] 4)
attribute [go_sem] f9v
instance:LI e4r 0 0 [0,1] [] (fun y:Int×Int×(List Int)×w9=>[(5,.osl 2005 1 0 y.2.2.1.length),(6,.int .i64 y.1),(7,.int .i64 y.2.1)]) (fun y=>[.o 2005 (.arr 1 (y.2.2.1.map (V.int .i64))),.o 1000 (.cells [.sl (y.2.2.2.L.map (V.int .i64)),.int .i64 y.2.2.2.at_])]) [.gc [0,1,5,6,7],.acc 5 2005 1]:=⟨⟩
instance g9b {t_:w9} {n_:Int}:WI (d9y t_ n_) Tryz.prog 57 [.ptr 1000 0,.int .i64 n_] [(1000,.cells [.sl (t_.L.map (V.int .i64)),.int .i64 t_.at_])] (fun z=>.sl (z.1.map (V.int .i64))) (fun z=>[(1000,.cells [.sl (z.2.L.map (V.int .i64)),.int .i64 z.2.at_])]):=wX Tryz.func57 g38 [(4,e4r)] [.fz 4] [1000] (h:=fun _ _ h hQ M=>by unfold d9y at h;exact tX)
noncomputable def g0w (x21:Int×(List Int)×w9):Option (Fl (Int×(List Int)×w9) ((List Int)×w9)) :=
 bif decide (0<x21.1) then (d2l x21.2.2 [2,2,1,3]).bind fun y25=>chk (room (x21.2.1.length+[y25.1].length) 8) (chk (a0l (x21.1 - 1)) (some (.nx ((x21.1 - 1),(x21.2.1++[y25.1]),y25.2)))) else some (.ex (x21.2.1,x21.2.2))
noncomputable def g0t (k42:Int) (a43:Int) (x41:List Int):Option (List Int) :=
 bif decide (a43=2) then chk (room (x41.length+[k42].length) 8) (some (x41++[k42])) else some x41
noncomputable def f9u (r26:(List Int)×w9) (x44:List Int) (k166:Int) (a167:Int) (x165:(List a0n)×w9):Option ((List a0n)×w9) :=
 (F_0 x165.2 (r26.1.length:Int)).bind fun y191=>(F_0 y191.2 (x44.length:Int)).bind fun y192=>chk (inb y192.1 x44.length) (jn (α:=a0n×w9) ((F_0 y192.2 4).bind fun y197=>bif decide (y197.1=3) then some ((a0n.mk a167 2 y191.1 (x44.getD ((y192.1).toNat) default)),y197.2) else some ((a0n.mk a167 1 y191.1 (x44.getD ((y192.1).toNat) default)),y197.2)) fun j195=>bif (!decide (j195.1.Principal=j195.1.Group)) then chk (room (x165.1.length+[j195.1].length) 32) (some ((x165.1++[j195.1]),j195.2)) else some (x165.1,j195.2))
noncomputable def F_p (t_:w9):Option (d9×w9) := (F_3 t_ 2 6).bind fun y14=>(loop g0w (y14.1,[1],y14.2)).bind fun r26=>(a09 g0t r26.1 0 []).bind fun x44=>bif decide ((x44.length:Int)=0) then some ((d9.mk r26.1 []),r26.2) else (F_0 r26.2 12).bind fun y116=>(d9y y116.2 y116.1).bind fun y117=>(a09 (f9u r26 x44) y117.1 0 ([],y117.2)).bind fun x198=>some ((d9.mk r26.1 x198.1),x198.2)
def a_p:List (Nat×RN):=[(1,⟨[],[.k 1 1],[]⟩),(2,⟨[],[.c 1 0 [1000] []],[]⟩),(4,⟨[.gc [0,2,3,4]],[],[]⟩),(5,⟨[],[.k 3 2,.c 4 0 [1000] []],[]⟩),(6,⟨[],[.k 0 1],[]⟩),(15,⟨[],[.c 2 0 [1000] [],.c 3 0 [1000] []],[]⟩),(18,⟨[],[.c 5 0 [1000] [],.c 10 0 [1000] []],[]⟩),(19,⟨[.gc [0,2,3,5,10,49,50,51]],[.c 1 0 [1000] []],[]⟩)]
@[irreducible] def c5v:MC:=rdc (cK Tryz.prog Tryz.f27 a_p [] 3)
@[irreducible] def d0l:MC:=rdc (cK Tryz.prog Tryz.f27 a_p [(3,c5v)] 8)
@[irreducible] def d61:MC:=rdc (cK Tryz.prog Tryz.f27 a_p [(3,c5v),(8,d0l)] 10000021)
@[irreducible] def e4q:MC:=rdc (cK Tryz.prog Tryz.f27 a_p [(3,c5v),(8,d0l),(10000021,d61)] 16)
attribute [go_sem] g0w g0t f9u
instance:LI c5v 0 0 [0,2,3] [3,2] (fun y:Int×(List Int)×w9=>[(4,.int .i64 y.1)]) (fun y=>[.p 3 0 [.osl 4048 1 0 y.2.1.length],.o 4048 (.arr 1 (y.2.1.map (V.int .i64))),.o 1000 (.cells [.sl (y.2.2.L.map (V.int .i64)),.int .i64 y.2.2.at_])]) [.gc [0,2,3,4],.ownC 3 0 4048 1 none]:=⟨⟩
instance:LI d0l 30 29 [0,2,3,28,29] [4048,3,2,1000] (fun y:List Int=>[(5,.osl 2005 1 0 y.length)]) (fun y=>[.o 2005 (.arr 1 (y.map (V.int .i64)))]) [.gc [0,2,3,5,28,29,30],.acc 5 2005 1]:=⟨⟩
instance:LI d61 0 0 [0,2,3,5,10,49,50,51] [2005,3,4048,4049,2] (fun y:a0n×w9=>[]) (fun y=>[.o 10 (.cells [.int .i64 y.1.Time,.int .i64 y.1.Kind,.int .i64 y.1.Principal,.int .i64 y.1.Group]),.o 1000 (.cells [.sl (y.2.L.map (V.int .i64)),.int .i64 y.2.at_])]) []:=⟨⟩
instance:LI e4q 51 50 [0,2,3,5,49,50] [2005,3,4048,2] (fun y:(List a0n)×w9=>[]) (fun y=>[.p 3 1 [.osl 4049 4 0 y.1.length],.o 4049 (.arr 4 (y.1.map a0n.v)),.o 1000 (.cells [.sl (y.2.L.map (V.int .i64)),.int .i64 y.2.at_])]) [.gc [0,2,3,5,49,50,51],.ownC 3 1 4049 4 none]:=⟨⟩
instance h0e {t_:w9}:WI (F_p t_) Tryz.prog 27 [.ptr 1000 0] [(1000,.cells [.sl (t_.L.map (V.int .i64)),.int .i64 t_.at_])] (fun z=>d9.v z.1) (fun z=>[(1000,.cells [.sl (z.2.L.map (V.int .i64)),.int .i64 z.2.at_])]):=wX Tryz.func27 a_p [(3,c5v),(8,d0l),(10000021,d61),(16,e4q)] [.fzc 2] [1000] (h:=fun _ _ h hQ M=>by unfold F_p at h;exact tX)
noncomputable def f9t (d_:d9) (k208:Int) (a209:Int) (x207:Int×(List o8)×w9):Option (Int×(List o8)×w9) :=
 (d2l x207.2.2 [1,1,2,3,4,5,5,6,7,7]).bind fun y251=>(F_0 y251.2 x207.1).bind fun y252=>jn (α:=Fl (o8×w9) w9) (jn (α:=Bool) (bif decide (y251.1=1) then some true else some (decide (y251.1=2))) fun j261=>bif j261 then chk (a0l ((d_.Kinds.length:Int)+1)) ((F_0 y252.2 ((d_.Kinds.length:Int)+1)).bind fun y262=>some (.nx ((o8.mk a209 y251.1 y252.1 y262.1 0 0 0),y262.2))) else bif decide (y251.1=3) then chk (a0l (a209+1)) ((F_0 y252.2 5).bind fun y263=>chk (a0l ((a209+1)+y263.1)) (some (.nx ((o8.mk a209 y251.1 y252.1 0 ((a209+1)+y263.1) 0 0),y263.2)))) else jn (α:=Bool) (bif decide (y251.1=5) then some true else some (decide (y251.1=6))) fun j264=>bif j264 then (F_0 y252.2 3).bind fun y265=>some (.nx ((o8.mk a209 y251.1 y252.1 0 0 y265.1 0),y265.2)) else bif decide (y251.1=7) then (F_0 y252.2 x207.1).bind fun y267=>bif decide (y267.1=y252.1) then some (.ex y267.2) else some (.nx ((o8.mk a209 y251.1 y252.1 0 0 0 y267.1),y267.2)) else some (.nx ((o8.mk a209 y251.1 y252.1 0 0 0 0),y252.2))) fun o=>o.elim (fun j260=>chk (room (x207.2.1.length+[j260.1].length) 56) (some (x207.1,(x207.2.1++[j260.1]),j260.2))) (fun r268=>some (x207.1,x207.2.1,r268))
noncomputable def F_q (t_:w9) (d_:d9):Option (l5×w9) := (F_3 t_ 1 4).bind fun y2=>(F_0 y2.2 16).bind fun y122=>(d9y y122.2 y122.1).bind fun y123=>(a09 (f9t d_) y123.1 0 (y2.1,[],y123.2)).bind fun x269=>some ((l5.mk x269.1 x269.2.1),x269.2.2)
def a_q:List (Nat×RN):=[(1,⟨[],[.c 1 0 [1000] [],.k 2 1],[]⟩),(2,⟨[],[.c 2 0 [1000] [],.c 3 0 [1000] []],[]⟩),(5,⟨[],[.k 2 2,.c 3 0 [1000] [],.c 7 0 [1000] []],[]⟩),(9,⟨[],[.c 5 0 [1000] []],[]⟩),(11,⟨[],[.c 3 0 [1000] []],[]⟩),(14,⟨[],[.c 1 0 [1000] []],[]⟩),(16,⟨[],[.c 3 0 [1000] []],[]⟩),(17,⟨[.gc [0,3,4,5,8,15,16,17]],[],[]⟩)]
@[irreducible] def c5s:MC:=rdc (cK Tryz.prog Tryz.f28 a_q [] 10000014)
@[irreducible] def d07:MC:=rdc (cK Tryz.prog Tryz.f28 a_q [(10000014,c5s)] 10000009)
@[irreducible] def d60:MC:=rdc (cK Tryz.prog Tryz.f28 a_q [(10000014,c5s),(10000009,d07)] 10000018)
@[irreducible] def e4p:MC:=rdc (cK Tryz.prog Tryz.f28 a_q [(10000014,c5s),(10000009,d07),(10000018,d60)] 3)
attribute [go_sem] f9t
instance:LI c5s 0 0 [0,3,4,5,8,15,16,17,31] [8,5,4081,4,3,1000] (fun y:Bool=>[(50,.bool y)]) (fun y=>[]) []:=⟨⟩
instance:LI d07 0 0 [0,3,4,5,7,8,15,16,17,31] [8,5,4081,4,3,1000] (fun y:Bool=>[(32,.bool y)]) (fun y=>[]) []:=⟨⟩
instance:LI d60 0 0 [0,3,4,5,8,15,16,17] [5,4081,4,3] (fun y:o8×w9=>[]) (fun y=>[.o 8 (.cells [.int .i64 y.1.Time,.int .i64 y.1.Kind,.int .i64 y.1.Place,.int .i64 y.1.Principal,.int .i64 y.1.Until,.int .i64 y.1.Content,.int .i64 y.1.From]),.o 1000 (.cells [.sl (y.2.L.map (V.int .i64)),.int .i64 y.2.at_])]) []:=⟨⟩
instance:LI e4p 17 16 [0,3,4,5,15,16] [4,3] (fun y:Int×(List o8)×w9=>[]) (fun y=>[.o 5 (.cells [.int .i64 y.1,.osl 4081 7 0 y.2.1.length]),.o 4081 (.arr 7 (y.2.1.map o8.v)),.o 1000 (.cells [.sl (y.2.2.L.map (V.int .i64)),.int .i64 y.2.2.at_])]) [.gc [0,3,4,5,15,16,17],.ownC 5 1 4081 7 none]:=⟨⟩
instance h0d {t_:w9} {d_:d9}:WI (F_q t_ d_) Tryz.prog 28 [.ptr 1000 0,d9.v d_] [(1000,.cells [.sl (t_.L.map (V.int .i64)),.int .i64 t_.at_])] (fun z=>l5.v z.1) (fun z=>[(1000,.cells [.sl (z.2.L.map (V.int .i64)),.int .i64 z.2.at_])]):=wX Tryz.func28 a_q [(10000014,c5s),(10000009,d07),(10000018,d60),(3,e4p)] [.fzc 4] [1000] (h:=fun _ _ h hQ M=>by unfold F_q at h;exact tX)
def f2b (t_:w9) (r_:o5):Option (o7×w9) :=
 (F_0 t_ 20).bind fun y2=>(F_0 y2.2 (r_.Issuers.length:Int)).bind fun y7=>(F_0 y7.2 5).bind fun y8=>(F_0 y8.2 3).bind fun y9=>chk (a0l (y2.1+1)) ((F_0 y9.2 12).bind fun y10=>chk (a0l ((y2.1+1)+y10.1)) (some ((o7.mk y7.1 (IntKind.wrap .u64 y8.1) y9.1 y2.1 ((y2.1+1)+y10.1)),y10.2)))
instance g5y {t_:w9} {r_:o5}:WI (f2b t_ r_) Tryz.prog 59 [.ptr 1000 0,o5.v r_] [(1000,.cells [.sl (t_.L.map (V.int .i64)),.int .i64 t_.at_])] (fun z=>o7.v z.1) (fun z=>[(1000,.cells [.sl (z.2.L.map (V.int .i64)),.int .i64 z.2.at_])]):=wX Tryz.func59 [(1,⟨[],[.c 1 0 [1000] []],[]⟩),(2,⟨[],[.c 4 0 [1000] [],.c 6 0 [1000] [],.c 9 0 [1000] [],.c 14 0 [1000] []],[]⟩)] [] [] [1000] (h:=fun _ _ h hQ M=>by unfold f2b at h;exact tX)
def d8n (x_:Int) (low_:Int) (high_:Int):Option Bool :=
 grp ((decide (low_≤x_)&&decide (x_≤high_))) fun b2=>some b2
instance g7t {x_ low_ high_:Int}:WJ (d8n x_ low_ high_) 99 [.int .i64 x_,.int .i64 low_,.int .i64 high_] .bool:=wX Tryz.func99 [(1,⟨[],[],[.v 4 7]⟩)] (h:=fun _ _ h hQ M=>by unfold d8n at h;exact tX)
noncomputable def f2s (s_:Str) (x13:Int):Option (Fl Int (Sum Unit Bool)) :=
 bif decide (x13<(s_.length:Int)) then chk (inb x13 s_.length) (bif decide (((s_.getD (x13).toNat 0).toNat:Int)<97) then some (.ex (.inr false)) else chk (inb x13 s_.length) (bif decide (122<((s_.getD (x13).toNat 0).toNat:Int)) then some (.ex (.inr false)) else chk (a0l (x13+1)) (some (.nx (x13+1))))) else some (.ex (.inl ()))
noncomputable def e9y (s_:Str):Option Bool :=
 (d8n (s_.length:Int) 1 40).bind fun y4=>bif (!y4) then some false else (loop (f2s s_) 0).bind fun r14=>Sum.elim (fun u15=>some true) (fun u16=>some u16) r14
def g32:List (Nat×RN):=[(5,⟨[.gc [0,3,19,20,21,22]],[],[]⟩)]
@[irreducible] def e5i:MC:=rdc (cK Tryz.prog Tryz.f98 g32 [] 4)
attribute [go_sem] f2s
instance:LI e5i 0 0 [0] [] (fun y:Int=>[(3,.int .i64 y)]) (fun y=>[]) []:=⟨⟩
instance g8s {s_:Str}:WJ (e9y s_) 98 [.str s_] .bool:=wX Tryz.func98 g32 [(4,e5i)] (h:=fun _ _ h hQ M=>by unfold e9y at h;exact tX)
def e92 (r_:o5) (c_:o7):Option Bool :=
 chk (a0l ((r_.Issuers.length:Int) - 1)) ((d8n c_.Issuer 0 ((r_.Issuers.length:Int) - 1)).bind fun y7=>jn (α:=Bool) (bif y7 then (d8n c_.Holder 0 23).bind fun y9=>some y9 else some false) fun j10=>grp ((j10&&decide (0≤c_.From))) fun b11=>grp ((b11&&decide (c_.From<c_.Until))) fun b12=>grp ((b12&&decide (c_.Until≤1099511627777))) fun b13=>some b13)
instance {m:List MOp}:GI (gjt 1000108 m) [3,4] [3] (fun y:Bool=>[(16,.bool y)]) (fun y=>[]):=⟨⟩
instance g6u {r_:o5} {c_:o7}:WJ (e92 r_ c_) 100 [o5.v r_,o7.v c_] .bool:=wX Tryz.func100 [(1,⟨[],[],[.w 8 11 1000108,.v 13 16,.v 18 23,.v 25 28]⟩)] (h:=fun _ _ h hQ M=>by unfold e92 at h;exact tX)
def f9s (issuer_:Int) (holder_:Int) (t_:Int) (k100:Int) (a101:o7) (x99:List Int):Option (List Int) :=
 grp ((decide (a101.Issuer=issuer_)&&decide (a101.Holder=holder_))) fun b123=>grp ((b123&&decide (a101.From≤t_))) fun b124=>grp ((b124&&decide (t_<a101.Until))) fun b125=>bif b125 then chk (room (x99.length+[k100].length) 8) (some (x99++[k100])) else some x99
def e9x (r_:o5) (issuer_:Int) (holder_:Int) (t_:Int):Option (List Int) :=
 (a09 (f9s issuer_ holder_ t_) r_.Credentials 0 []).bind fun x126=>some x126
def g31:List (Nat×RN):=[(1,⟨[],[.k 0 1],[]⟩),(5,⟨[],[],[.v 5 9,.v 11 15,.v 17 21]⟩),(6,⟨[.gc [1,2,3,9,10,13,14,15,25,26,27,28,31,32,33,34,37,38,39,40]],[],[]⟩)]
@[irreducible] def e4o:MC:=rdc (cK Tryz.prog Tryz.f101 g31 [] 3)
attribute [go_sem] f9s
instance:LI e4o 15 14 [1,2,3,13,14] [] (fun y:List Int=>[(9,.osl 2009 1 0 y.length)]) (fun y=>[.o 2009 (.arr 1 (y.map (V.int .i64)))]) [.gc [1,2,3,9,13,14,15],.acc 9 2009 1]:=⟨⟩
instance g8r {r_:o5} {issuer_ holder_ t_:Int}:WJ (e9x r_ issuer_ holder_ t_) 101 [o5.v r_,.int .i64 issuer_,.int .i64 holder_,.int .i64 t_] fun z=>.sl (z.map (V.int .i64)):=wX Tryz.func101 g31 [(3,e4o)] [.fz 8] (h:=fun _ _ h hQ M=>by unfold e9x at h;exact tX)
noncomputable def g0s (k55:Int) (a56:a0e) (x54:Unit):Option (Fl Unit Bool) :=
 (e9y a56.Name).bind fun y71=>bif (!y71) then some (.ex false) else (d8n a56.Slots 1 2).bind fun y72=>bif (!y72) then some (.ex false) else some (.nx ())
noncomputable def g0g (r_:o5) (k105:Int) (a106:o7) (x104:Unit):Option (Fl Unit Bool) :=
 (e92 r_ a106).bind fun y114=>bif (!y114) then some (.ex false) else some (.nx ())
noncomputable def f9r (r_:o5) (k147:Int) (a148:o7) (x146:Unit):Option (Fl Unit Bool) :=
 (e9x r_ a148.Issuer a148.Holder a148.From).bind fun y156=>chk (inb a148.Issuer r_.Issuers.length) (bif decide ((r_.Issuers.getD (a148.Issuer).toNat default).Slots<(y156.length:Int)) then some (.ex false) else some (.nx ()))
noncomputable def F_e (r_:o5):Option Bool := grp ((decide (8<(r_.Issuers.length:Int))||decide (24<(r_.Credentials.length:Int)))) fun b4=>bif b4 then some false else (a0x g0s r_.Issuers 0 ()).bind fun o=>o.elim (fun x73=>(a0x (g0g r_) r_.Credentials 0 ()).bind fun o=>o.elim (fun x115=>(a0x (f9r r_) r_.Credentials 0 ()).bind fun o=>o.elim (fun x157=>some true) (fun r158=>some r158)) (fun r116=>some r116)) (fun r74=>some r74)
def a_e:List (Nat×RN):=[(1,⟨[],[],[.v 5 9]⟩),(3,⟨[.gc [1,31,32,33,34]],[],[]⟩)]
@[irreducible] def d0k:MC:=rdc (cK Tryz.prog Tryz.f54 a_e [] 4)
@[irreducible] def d6i:MC:=rdc (cK Tryz.prog Tryz.f54 a_e [(4,d0k)] 10)
@[irreducible] def e4n:MC:=rdc (cK Tryz.prog Tryz.f54 a_e [(4,d0k),(10,d6i)] 16)
attribute [go_sem] g0s g0g f9r
instance:LI d0k 22 21 [1,20,21] [1] (fun y:Unit=>[]) (fun y=>[]) []:=⟨⟩
instance:LI d6i 40 39 [1,38,39] [1] (fun y:Unit=>[]) (fun y=>[]) []:=⟨⟩
instance:LI e4n 52 51 [1,50,51] [1] (fun y:Unit=>[]) (fun y=>[]) []:=⟨⟩
instance h0o {r_:o5}:WJ (F_e r_) 54 [o5.v r_] .bool:=wX Tryz.func54 a_e [(4,d0k),(10,d6i),(16,e4n)] (h:=fun _ _ h hQ M=>by unfold F_e at h;exact tX)
def f2a (r_:o5):Option o5 :=
 chk (room r_.Issuers.length 24) (chk (room r_.Credentials.length 40) (some (o5.mk r_.Issuers r_.Credentials)))
instance g5x {r_:o5}:WI (f2a r_) Tryz.prog 103 [o5.v r_] [] (fun z=>.agg [.osl 1500 2 0 z.Issuers.length,.osl 1501 5 0 z.Credentials.length]) (fun z=>[(1500,.arr 2 (z.Issuers.map a0e.v)),(1501,.arr 5 (z.Credentials.map o7.v))]):=wX Tryz.func103 [] [] [.ownC 2 0 1500 2 none,.ownC 2 1 1501 5 none] [1500,1501] (h:=fun _ _ h hQ M=>by unfold f2a at h;exact tX)
noncomputable def e91 (r_:o5) (c_:o7):Option (o5×Int×Int) :=
 (F_e r_).bind fun y4=>bif (!y4) then some ((o5.mk [] []),0,31) else bif decide (24≤(r_.Credentials.length:Int)) then some ((o5.mk [] []),0,3) else (f2a r_).bind fun y6=>chk (room (y6.Credentials.length+[c_].length) 40) ((F_e (o5.mk y6.Issuers (y6.Credentials++[c_]))).bind fun y10=>bif (!y10) then some ((o5.mk [] []),0,31) else some ((o5.mk y6.Issuers (y6.Credentials++[c_])),(r_.Credentials.length:Int),0))
instance g6t {r_:o5} {c_:o7}:WJ (e91 r_ c_) 58 [o5.v r_,o7.v c_] fun z=>.tup [o5.v z.1,.int .i64 z.2.1,.int .i64 z.2.2]:=wX Tryz.func58 [(2,⟨[.gc [4]],[],[]⟩),(4,⟨[.gc [4]],[],[]⟩),(5,⟨[.gc [2,3,4]],[.c 1 0 [] [34608,34609]],[]⟩),(7,⟨[.gc [2,4,7]],[],[.n 1 (.fz 25)]⟩)] [] [.fzc 4] (h:=fun _ _ h hQ M=>by have:SwA [(1500,34608),(1501,34609)]:=⟨⟩;unfold e91 at h;exact tX)
noncomputable def g0r (x21:Int×(List a0e)×w9):Option (Fl (Int×(List a0e)×w9) ((List a0e)×w9)) :=
 bif decide (0<x21.1) then (F_3 x21.2.2 1 2).bind fun y25=>chk (room (x21.2.1.length+[(a0e.mk [105,115,115,117,101,114] y25.1)].length) 24) (chk (a0l (x21.1 - 1)) (some (.nx ((x21.1 - 1),(x21.2.1++[(a0e.mk [105,115,115,117,101,114] y25.1)]),y25.2)))) else some (.ex (x21.2.1,x21.2.2))
noncomputable def f9q (x62:Int×o5×w9):Option (Fl (Int×o5×w9) (o5×w9)) :=
 bif decide (0<x62.1) then jn (α:=o5×w9) ((f2b x62.2.2 x62.2.1).bind fun y75=>(e91 x62.2.1 y75.1).bind fun y76=>bif decide (y76.2.2=0) then some (y76.1,y75.2) else some (x62.2.1,y75.2)) fun j72=>chk (a0l (x62.1 - 1)) (some (.nx ((x62.1 - 1),j72.1,j72.2))) else some (.ex (x62.2.1,x62.2.2))
noncomputable def f0d (t_:w9):Option (o5×w9) :=
 (F_3 t_ 1 2).bind fun y14=>(loop g0r (y14.1,[],y14.2)).bind fun r26=>(F_0 r26.2 8).bind fun y49=>(loop f9q (y49.1,(o5.mk r26.1 []),y49.2)).bind fun r77=>some (r77.1,r77.2)
def f0q:List (Nat×RN):=[(1,⟨[],[.k 0 1],[]⟩),(2,⟨[],[.c 1 0 [1000] []],[]⟩),(4,⟨[.gc [0,2,3,4]],[],[]⟩),(5,⟨[],[.c 3 0 [1000] []],[]⟩),(6,⟨[],[.c 1 0 [1000] []],[]⟩),(9,⟨[.fzc 3],[.c 3 0 [1000] []],[]⟩)]
@[irreducible] def d0j:MC:=rdc (cK Tryz.prog Tryz.f29 f0q [] 3)
@[irreducible] def d5z:MC:=rdc (cK Tryz.prog Tryz.f29 f0q [(3,d0j)] 10000008)
@[irreducible] def e4m:MC:=rdc (cK Tryz.prog Tryz.f29 f0q [(3,d0j),(10000008,d5z)] 7)
attribute [go_sem] g0r f9q
instance:LI d0j 0 0 [0,2,3] [3,2] (fun y:Int×(List a0e)×w9=>[(4,.int .i64 y.1)]) (fun y=>[.p 3 0 [.osl 4048 2 0 y.2.1.length],.o 4048 (.arr 2 (y.2.1.map a0e.v)),.o 1000 (.cells [.sl (y.2.2.L.map (V.int .i64)),.int .i64 y.2.2.at_])]) [.gc [0,2,3,4],.ownC 3 0 4048 2 none]:=⟨⟩
instance:LI d5z 0 0 [0,2,3,5] [2] (fun y:o5×w9=>[]) (fun y=>[.o 3 (.cells [.sl (y.1.Issuers.map a0e.v),.sl (y.1.Credentials.map o7.v)]),.o 1000 (.cells [.sl (y.2.L.map (V.int .i64)),.int .i64 y.2.at_])]) []:=⟨⟩
instance:LI e4m 0 0 [0,2,3] [2] (fun y:Int×o5×w9=>[(5,.int .i64 y.1)]) (fun y=>[.o 3 (.cells [.sl (y.2.1.Issuers.map a0e.v),.sl (y.2.1.Credentials.map o7.v)]),.o 1000 (.cells [.sl (y.2.2.L.map (V.int .i64)),.int .i64 y.2.2.at_])]) [.fzc 3]:=⟨⟩
instance g9o {t_:w9}:WI (f0d t_) Tryz.prog 29 [.ptr 1000 0] [(1000,.cells [.sl (t_.L.map (V.int .i64)),.int .i64 t_.at_])] (fun z=>o5.v z.1) (fun z=>[(1000,.cells [.sl (z.2.L.map (V.int .i64)),.int .i64 z.2.at_])]):=wX Tryz.func29 f0q [(3,d0j),(10000008,d5z),(7,e4m)] [.fzc 2] [1000] (h:=fun _ _ h hQ M=>by unfold f0d at h;exact tX)
noncomputable def g0q (x45:Int×Int×Int×(List a02)×w9):Option (Fl (Int×Int×Int×(List a02)×w9) (Int×Int×(List a02)×w9)) :=
 bif decide (0<x45.1) then (F_0 x45.2.2.2.2 x45.2.1).bind fun y55=>(F_0 y55.2 x45.2.2.1).bind fun y56=>(F_3 y56.2 1 3).bind fun y57=>chk (room (x45.2.2.2.1.length+[(a02.mk y55.1 y56.1 y57.1)].length) 24) (chk (a0l (x45.1 - 1)) (some (.nx ((x45.1 - 1),x45.2.1,x45.2.2.1,(x45.2.2.2.1++[(a02.mk y55.1 y56.1 y57.1)]),y57.2)))) else some (.ex (x45.2.1,x45.2.2.1,x45.2.2.2.1,x45.2.2.2.2))
noncomputable def g0f (x89:Int×Int×Int×(List a08)×w9):Option (Fl (Int×Int×Int×(List a08)×w9) (Int×Int×(List a08)×w9)) :=
 bif decide (0<x89.1) then (F_0 x89.2.2.2.2 x89.2.2.1).bind fun y96=>(F_0 y96.2 x89.2.1).bind fun y97=>chk (room (x89.2.2.2.1.length+[(a08.mk y96.1 y97.1)].length) 16) (chk (a0l (x89.1 - 1)) (some (.nx ((x89.1 - 1),x89.2.1,x89.2.2.1,(x89.2.2.2.1++[(a08.mk y96.1 y97.1)]),y97.2)))) else some (.ex (x89.2.1,x89.2.2.1,x89.2.2.2.1,x89.2.2.2.2))
noncomputable def f9p (x129:Int×Int×Int×(List a0p)×w9):Option (Fl (Int×Int×Int×(List a0p)×w9) (Int×Int×(List a0p)×w9)) :=
 bif decide (0<x129.1) then (F_0 x129.2.2.2.2 x129.2.1).bind fun y136=>(F_0 y136.2 x129.2.1).bind fun y137=>chk (room (x129.2.2.2.1.length+[(a0p.mk y136.1 y137.1)].length) 16) (chk (a0l (x129.1 - 1)) (some (.nx ((x129.1 - 1),x129.2.1,x129.2.2.1,(x129.2.2.2.1++[(a0p.mk y136.1 y137.1)]),y137.2)))) else some (.ex (x129.2.1,x129.2.2.1,x129.2.2.2.1,x129.2.2.2.2))
noncomputable def F_r (t_:w9):Option (l6×w9) := (F_3 t_ 1 6).bind fun y3=>(F_3 y3.2 1 5).bind fun y4=>(F_0 y4.2 8).bind fun y30=>(loop g0q (y30.1,y3.1,y4.1,[],y30.2)).bind fun r58=>(F_0 r58.2.2.2 5).bind fun y78=>(loop g0f (y78.1,r58.1,r58.2.1,[],y78.2)).bind fun r98=>(F_0 r98.2.2.2 4).bind fun y118=>(loop f9p (y118.1,r98.1,r98.2.1,[],y118.2)).bind fun r138=>some ((l6.mk r138.1 r138.2.1 r58.2.2.1 r98.2.2.1 r138.2.2.1),r138.2.2.2)
def a_r:List (Nat×RN):=[(1,⟨[],[.c 1 0 [1000] [],.c 3 0 [1000] [],.k 4 1],[]⟩),(2,⟨[],[.c 1 0 [1000] []],[]⟩),(4,⟨[.gc [0,2,3,4]],[],[]⟩),(5,⟨[],[.c 5 0 [1000] [],.c 9 0 [1000] [],.c 11 0 [1000] []],[]⟩),(6,⟨[],[.c 1 0 [1000] []],[]⟩),(8,⟨[.gc [0,2,3,5]],[],[]⟩),(9,⟨[],[.c 5 0 [1000] [],.c 9 0 [1000] []],[]⟩),(10,⟨[],[.c 1 0 [1000] []],[]⟩),(12,⟨[.gc [0,2,3,6]],[],[]⟩),(13,⟨[],[.c 5 0 [1000] [],.c 9 0 [1000] []],[]⟩)]
@[irreducible] def d0i:MC:=rdc (cK Tryz.prog Tryz.f30 a_r [] 3)
@[irreducible] def d6h:MC:=rdc (cK Tryz.prog Tryz.f30 a_r [(3,d0i)] 7)
@[irreducible] def e4l:MC:=rdc (cK Tryz.prog Tryz.f30 a_r [(3,d0i),(7,d6h)] 11)
attribute [go_sem] g0q g0f f9p
instance:LI d0i 0 0 [0,2,3] [3,2] (fun y:Int×Int×Int×(List a02)×w9=>[(4,.int .i64 y.1)]) (fun y=>[.p 3 0 [.int .i64 y.2.1],.p 3 1 [.int .i64 y.2.2.1],.p 3 2 [.osl 4050 3 0 y.2.2.2.1.length],.o 4050 (.arr 3 (y.2.2.2.1.map a02.v)),.o 1000 (.cells [.sl (y.2.2.2.2.L.map (V.int .i64)),.int .i64 y.2.2.2.2.at_])]) [.gc [0,2,3,4],.ownC 3 2 4050 3 none]:=⟨⟩
instance:LI d6h 0 0 [0,2,3] [3,4050,2] (fun y:Int×Int×Int×(List a08)×w9=>[(5,.int .i64 y.1)]) (fun y=>[.p 3 0 [.int .i64 y.2.1],.p 3 1 [.int .i64 y.2.2.1],.p 3 3 [.osl 4051 2 0 y.2.2.2.1.length],.o 4051 (.arr 2 (y.2.2.2.1.map a08.v)),.o 1000 (.cells [.sl (y.2.2.2.2.L.map (V.int .i64)),.int .i64 y.2.2.2.2.at_])]) [.gc [0,2,3,5],.ownC 3 3 4051 2 none]:=⟨⟩
instance:LI e4l 0 0 [0,2,3] [3,4050,4051,2] (fun y:Int×Int×Int×(List a0p)×w9=>[(6,.int .i64 y.1)]) (fun y=>[.p 3 0 [.int .i64 y.2.1],.p 3 1 [.int .i64 y.2.2.1],.p 3 4 [.osl 4052 2 0 y.2.2.2.1.length],.o 4052 (.arr 2 (y.2.2.2.1.map a0p.v)),.o 1000 (.cells [.sl (y.2.2.2.2.L.map (V.int .i64)),.int .i64 y.2.2.2.2.at_])]) [.gc [0,2,3,6],.ownC 3 4 4052 2 none]:=⟨⟩
instance h0c {t_:w9}:WI (F_r t_) Tryz.prog 30 [.ptr 1000 0] [(1000,.cells [.sl (t_.L.map (V.int .i64)),.int .i64 t_.at_])] (fun z=>l6.v z.1) (fun z=>[(1000,.cells [.sl (z.2.L.map (V.int .i64)),.int .i64 z.2.at_])]):=wX Tryz.func30 a_r [(3,d0i),(7,d6h),(11,e4l)] [.fzc 2] [1000] (h:=fun _ _ h hQ M=>by unfold F_r at h;exact tX)
noncomputable def f9o (n_:Int) (x17:Int×(List Int)×w9):Option (Fl (Int×(List Int)×w9) ((List Int)×w9)) :=
 bif decide (x17.1<n_) then (d2l x17.2.2 [0,1,10,50,100]).bind fun y21=>chk (room (x17.2.1.length+[y21.1].length) 8) (chk (a0l (x17.1+1)) (some (.nx ((x17.1+1),(x17.2.1++[y21.1]),y21.2)))) else some (.ex (x17.2.1,x17.2.2))
noncomputable def e9w (t_:w9) (n_:Int):Option ((List Int)×w9) :=
 (loop (f9o n_) (0,[],t_)).bind fun r22=>some (r22.1,r22.2)
def g30:List (Nat×RN):=[(1,⟨[],[.k 0 1],[]⟩),(4,⟨[.gc [0,1,5,6]],[],[]⟩),(5,⟨[],[.k 2 2,.c 3 0 [1000] []],[]⟩)]
@[irreducible] def e4k:MC:=rdc (cK Tryz.prog Tryz.f31 g30 [] 3)
attribute [go_sem] f9o
instance:LI e4k 0 0 [0,1] [] (fun y:Int×(List Int)×w9=>[(5,.osl 2005 1 0 y.2.1.length),(6,.int .i64 y.1)]) (fun y=>[.o 2005 (.arr 1 (y.2.1.map (V.int .i64))),.o 1000 (.cells [.sl (y.2.2.L.map (V.int .i64)),.int .i64 y.2.2.at_])]) [.gc [0,1,5,6],.acc 5 2005 1]:=⟨⟩
instance g8q {t_:w9} {n_:Int}:WI (e9w t_ n_) Tryz.prog 31 [.ptr 1000 0,.int .i64 n_] [(1000,.cells [.sl (t_.L.map (V.int .i64)),.int .i64 t_.at_])] (fun z=>.sl (z.1.map (V.int .i64))) (fun z=>[(1000,.cells [.sl (z.2.L.map (V.int .i64)),.int .i64 z.2.at_])]):=wX Tryz.func31 g30 [(3,e4k)] [.fz 4] [1000] (h:=fun _ _ h hQ M=>by unfold e9w at h;exact tX)
end Go.Ab
set_option maxRecDepth 20000
set_option maxHeartbeats 2000000
namespace Go.Ab
open Go.Proofs
def d2k (x_:Int) (low_:Int) (high_:Int):Option Bool :=
 grp ((decide (low_≤x_)&&decide (x_≤high_))) fun b2=>some b2
instance g9a {x_ low_ high_:Int}:WJ (d2k x_ low_ high_) 87 [.int .i64 x_,.int .i64 low_,.int .i64 high_] .bool:=wX Tryz.func87 [(1,⟨[],[],[.v 4 7]⟩)] (h:=fun _ _ h hQ M=>by unfold d2k at h;exact tX)
def f9n (k39:Int) (a40:u7) (x38:Unit):Option (Fl Unit Bool) :=
 (d2k a40.Pool 0 7).bind fun y48=>bif (!y48) then some (.ex false) else some (.nx ())
def d8u (f_:x8):Option Bool :=
 (d2k f_.Slots 1 2).bind fun y7=>bif (!y7) then some false else (d2k (f_.Consumers.length:Int) 1 8).bind fun y8=>bif (!y8) then some false else (a0x f9n f_.Consumers 0 ()).bind fun o=>o.elim (fun x49=>some true) (fun r50=>some r50)
def g3c:List (Nat×RN):=[(3,⟨[.gc [1]],[],[]⟩)]
@[irreducible] def e4j:MC:=rdc (cK Tryz.prog Tryz.f86 g3c [] 4)
attribute [go_sem] f9n
instance:LI e4j 19 18 [17,18] [] (fun y:Unit=>[]) (fun y=>[]) []:=⟨⟩
instance g9n {f_:x8}:WJ (d8u f_) 86 [x8.v f_] .bool:=wX Tryz.func86 g3c [(4,e4j)] (h:=fun _ _ h hQ M=>by unfold d8u at h;exact tX)
def f9m (pool_:Int) (k20:Int) (a21:u7) (x19:List Int):Option (List Int) :=
 bif decide (a21.Pool=pool_) then chk (room (x19.length+[k20].length) 8) (some (x19++[k20])) else some x19
def F_f (f_:x8) (pool_:Int):Option (List Int) := (d8u f_).bind fun y4=>bif (!y4) then some [] else (a09 (f9m pool_) f_.Consumers 0 []).bind fun x22=>some x22
def a_f:List (Nat×RN):=[(0,⟨[],[.k 1 1],[]⟩),(2,⟨[],[.k 0 1],[]⟩),(3,⟨[],[.k 0 1],[]⟩),(8,⟨[.gc [1,5,6,12,13,14]],[],[]⟩)]
@[irreducible] def e4i:MC:=rdc (cK Tryz.prog Tryz.f61 a_f [] 5)
attribute [go_sem] f9m
instance:LI e4i 14 13 [1,12,13] [] (fun y:List Int=>[(5,.osl 2005 1 0 y.length)]) (fun y=>[.o 2005 (.arr 1 (y.map (V.int .i64)))]) [.gc [1,5,12,13,14],.acc 5 2005 1]:=⟨⟩
instance g4y {f_:x8} {pool_:Int}:WI (F_f f_ pool_) Tryz.prog 61 [x8.v f_,.int .i64 pool_] [] (fun z=>.osl 1900 1 0 z.length) (fun z=>[(1900,.arr 1 (z.map (V.int .i64)))]):=wX Tryz.func61 a_f [(5,e4i)] [.acc 4 1900 1] [1900] (h:=fun _ _ h hQ M=>by unfold F_f at h;exact tX)
def f9l (k20:Int) (a21:u7) (x19:List a0r):Option (List a0r) :=
 chk (room (x19.length+[(a0r.mk true 1 1)].length) 24) (some (x19++[(a0r.mk true 1 1)]))
def e9v (f_:x8):Option (l7×Int) :=
 (d8u f_).bind fun y4=>bif (!y4) then some ((l7.mk 0 0 []),36) else (a09 f9l f_.Consumers 0 []).bind fun x22=>some ((l7.mk 1 1 x22),0)
def g2z:List (Nat×RN):=[(3,⟨[],[.k 0 1],[]⟩)]
@[irreducible] def e4h:MC:=rdc (cK Tryz.prog Tryz.f62 g2z [] 5)
attribute [go_sem] f9l
instance:LI e4h 13 12 [2,4,12] [4,2] (fun y:List a0r=>[]) (fun y=>[.p 4 2 [.osl 4066 3 0 y.length],.o 4066 (.arr 3 (y.map a0r.v))]) [.gc [2,4,12,13],.ownC 4 2 4066 3 none]:=⟨⟩
instance g8p {f_:x8}:WJ (e9v f_) 62 [x8.v f_] fun z=>.tup [l7.v z.1,.int .i64 z.2]:=wX Tryz.func62 g2z [(5,e4h)] [.fzc 2] (h:=fun _ _ h hQ M=>by unfold e9v at h;exact tX)
def d9p (c_:u7) (s_:l7) (x_:Int):Option Bool :=
 (d2k x_ 1 3).bind fun y4=>jn (α:=Bool) (bif y4 then some (decide ((bits .andNot .i64 x_ s_.Known)=0)) else some false) fun j5=>grp ((j5&&((!decide (x_=3))||c_.Dual))) fun b6=>some b6
instance {m:List MOp}:GI (gjt 880103 m) [2,3,6] [3] (fun y:Bool=>[(15,.bool y)]) (fun y=>[]):=⟨⟩
instance g7d {c_:u7} {s_:l7} {x_:Int}:WJ (d9p c_ s_ x_) 88 [u7.v c_,l7.v s_,.int .i64 x_] .bool:=wX Tryz.func88 [(1,⟨[],[],[.w 3 8 880103,.v 10 16]⟩)] (h:=fun _ _ h hQ M=>by unfold d9p at h;exact tX)
def g0e (f_:x8) (s_:l7) (k168:Int) (a169:a0r) (x167:Unit):Option (Fl Unit Bool) :=
 chk (inb k168 f_.Consumers.length) ((d9p (f_.Consumers.getD (k168).toNat default) s_ a169.Stored).bind fun y212=>grp (((!y212)||((!a169.Up)&&(!decide (a169.Used=0))))) fun b213=>bif b213 then grp (true) fun b214=>bif b214 then some (.ex false) else some (.nx ()) else bif a169.Up then (d9p (f_.Consumers.getD (k168).toNat default) s_ a169.Used).bind fun y215=>grp (((!y215)||((a169.Up&&(f_.Consumers.getD (k168).toNat default).Live)&&(!decide (a169.Used=a169.Stored))))) fun b216=>bif b216 then some (.ex false) else some (.nx ()) else grp (((a169.Up&&(f_.Consumers.getD (k168).toNat default).Live)&&(!decide (a169.Used=a169.Stored)))) fun b217=>bif b217 then some (.ex false) else some (.nx ()))
def F_s (f_:x8) (s_:l7):Option Bool := jn (α:=Fl Unit Bool) ((d8u f_).bind fun y29=>grp (((!y29)||((!decide (s_.Known=1))&&(!decide (s_.Known=3))))) fun b30=>bif b30 then grp (true) fun b31=>grp ((b31||(!decide ((s_.Units.length:Int)=(f_.Consumers.length:Int))))) fun b32=>bif b32 then some (.ex false) else some (.nx ()) else (d2k s_.Valid 1 3).bind fun y33=>bif (!y33) then grp (true) fun b34=>grp ((b34||(!decide ((s_.Units.length:Int)=(f_.Consumers.length:Int))))) fun b35=>bif b35 then some (.ex false) else some (.nx ()) else grp (((!decide ((bits .andNot .i64 s_.Valid s_.Known)=0))||(decide (s_.Valid=3)&&decide (f_.Slots=1)))) fun b36=>grp ((b36||(!decide ((s_.Units.length:Int)=(f_.Consumers.length:Int))))) fun b37=>bif b37 then some (.ex false) else some (.nx ())) fun o=>o.elim (fun j19=>(a0x (g0e f_ s_) s_.Units 0 ()).bind fun o=>o.elim (fun x218=>some true) (fun r219=>some r219)) (fun r220=>some r220)
def a_s:List (Nat×RN):=[(1,⟨[],[],[.v 4 12,.v 28 36,.v 38 45]⟩),(7,⟨[.gc [2,3,6,7,55,56,57,74,75,76,77,78,79,80,81,84,85,86,87,88,89,90,91,92,93,96,97,98,99,100,101,102,103,104,105,106,107,108]],[],[.v 7 15,.v 29 42]⟩)]
@[irreducible] def d6g:MC:=rdc (cK Tryz.prog Tryz.f48 a_s [] 4)
@[irreducible] def e2e:MC:=rdc (cK Tryz.prog Tryz.f48 a_s [(4,d6g)] 10000003)
attribute [go_sem] g0e
instance:LI d6g 57 56 [2,3,55,56] [3,2] (fun y:Unit=>[]) (fun y=>[]) []:=⟨⟩
instance:LI e2e 0 0 [2,3] [3,2] (fun y:Unit=>[]) (fun y=>[]) []:=⟨⟩
instance h0b {f_:x8} {s_:l7}:WJ (F_s f_ s_) 48 [x8.v f_,l7.v s_] .bool:=wX Tryz.func48 a_s [(4,d6g),(10000003,e2e)] (h:=fun _ _ h hQ M=>by unfold F_s at h;exact tX)
def f0b (f_:x8) (x_:GStep):Option Bool :=
 jn (α:=Bool) (bif decide (x_.Kind=1) then some true else bif decide (x_.Kind=2) then some true else bif decide (x_.Kind=3) then some true else some (decide (x_.Kind=8))) fun j5=>bif j5 then some (decide (x_.Unit=0)) else jn (α:=Bool) (bif decide (x_.Kind=4) then some true else bif decide (x_.Kind=5) then some true else bif decide (x_.Kind=6) then some true else some (decide (x_.Kind=7))) fun j6=>bif j6 then grp ((decide (0≤x_.Unit)&&decide (x_.Unit<(f_.Consumers.length:Int)))) fun b8=>some b8 else some false
def f6t:List (Nat×RN):=[(11,⟨[],[],[.v 4 10]⟩)]
@[irreducible] def d5y:MC:=rdc (cK Tryz.prog Tryz.f105 f6t [] 10000011)
@[irreducible] def e2d:MC:=rdc (cK Tryz.prog Tryz.f105 f6t [(10000011,d5y)] 10000006)
instance:LI d5y 0 0 [2,3] [3,2] (fun y:Bool=>[(15,.bool y)]) (fun y=>[]) []:=⟨⟩
instance:LI e2d 0 0 [2,3,6] [3,2] (fun y:Bool=>[(7,.bool y)]) (fun y=>[]) []:=⟨⟩
instance g99 {f_:x8} {x_:GStep}:WJ (f0b f_ x_) 105 [x8.v f_,GStep.v x_] .bool:=wX Tryz.func105 f6t [(10000011,d5y),(10000006,e2d)] (h:=fun _ _ h hQ M=>by unfold f0b at h;exact tX)
def f1z (s_:l7):Option l7 :=
 chk (room s_.Units.length 24) (some (l7.mk s_.Known s_.Valid s_.Units))
instance g5w {s_:l7}:WI (f1z s_) Tryz.prog 155 [l7.v s_] [] (fun z=>.agg [.int .i64 z.Known,.int .i64 z.Valid,.osl 1502 3 0 z.Units.length]) (fun z=>[(1502,.arr 3 (z.Units.map a0r.v))]):=wX Tryz.func155 [] [] [.ownC 2 2 1502 3 none] [1502] (h:=fun _ _ h hQ M=>by unfold f1z at h;exact tX)
def f09 (f_:x8) (s_:l7) (x_:GStep):Option (l7×Bool) :=
 (f1z s_).bind fun y2=>chk (inb x_.Unit y2.Units.length) (chk (inb x_.Unit f_.Consumers.length) (jn (α:=Fl (Bool×a0r) (l7×Bool)) (bif decide (x_.Kind=1) then some (.ex ((l7.mk (bits .or .i64 y2.Known 2) y2.Valid y2.Units),(!(!decide ((bits .and .i64 y2.Known 2)=0))))) else bif decide (x_.Kind=2) then grp (((!decide ((bits .and .i64 y2.Known 2)=0))&&decide (y2.Valid=1))) fun b14=>grp ((b14&&decide (f_.Slots=2))) fun b15=>some (.ex ((l7.mk y2.Known (bits .or .i64 y2.Valid 2) y2.Units),b15)) else bif decide (x_.Kind=3) then grp (((!decide ((bits .and .i64 y2.Known 2)=0))&&decide (y2.Valid=1))) fun b17=>some (.ex ((l7.mk y2.Known 2 y2.Units),b17)) else bif decide (x_.Kind=8) then some (.ex ((l7.mk y2.Known 2 y2.Units),decide (y2.Valid=3))) else bif decide (x_.Kind=4) then jn (α:=Bool) (bif (!decide ((bits .and .i64 y2.Known 2)=0)) then some (decide ((bits .and .i64 ((y2.Units.getD ((x_.Unit).toNat) default).Stored) 2)=0)) else some false) fun j19=>bif (f_.Consumers.getD (x_.Unit).toNat default).Dual then some (.nx (j19,(a0r.mk ((y2.Units.getD ((x_.Unit).toNat) default).Up) 3 ((y2.Units.getD ((x_.Unit).toNat) default).Used)))) else some (.nx (j19,(a0r.mk ((y2.Units.getD ((x_.Unit).toNat) default).Up) 2 ((y2.Units.getD ((x_.Unit).toNat) default).Used)))) else bif decide (x_.Kind=7) then some (.nx (decide ((y2.Units.getD ((x_.Unit).toNat) default).Stored=3),(a0r.mk ((y2.Units.getD ((x_.Unit).toNat) default).Up) 2 ((y2.Units.getD ((x_.Unit).toNat) default).Used)))) else bif decide (x_.Kind=5) then some (.nx ((y2.Units.getD ((x_.Unit).toNat) default).Up,(a0r.mk false ((y2.Units.getD ((x_.Unit).toNat) default).Stored) 0))) else bif decide (x_.Kind=6) then some (.nx ((!((y2.Units.getD ((x_.Unit).toNat) default).Up)),(a0r.mk true ((y2.Units.getD ((x_.Unit).toNat) default).Stored) ((y2.Units.getD ((x_.Unit).toNat) default).Stored)))) else some (.nx (false,y2.Units.getD ((x_.Unit).toNat) default))) fun o=>o.elim (fun j11=>jn (α:=a0r) (grp (((f_.Consumers.getD (x_.Unit).toNat default).Live&&j11.2.Up)) fun b24=>bif b24 then some (a0r.mk j11.2.Up j11.2.Stored j11.2.Stored) else some j11.2) fun j22=>chk (inb x_.Unit y2.Units.length) (some ((l7.mk y2.Known y2.Valid (y2.Units.set ((x_.Unit).toNat) j22)),j11.1))) (fun r25=>some r25)))
def f6s:List (Nat×RN):=[(1,⟨[],[.c 1 0 [] [33330]],[]⟩),(3,⟨[.gc [3,4,5,6,8,46,47,48,51,52,53,65,66,67,84,85,86,87,117,118]],[],[]⟩),(8,⟨[.gc [4,6,10]],[],[]⟩),(12,⟨[.gc [3,4,6,10,46,47,48,51,52,53]],[],[.v 2 5,.v 7 10]⟩),(14,⟨[.gc [4,6,11]],[],[]⟩),(16,⟨[.gc [4,6,10,65,66,67]],[],[.v 2 5]⟩),(20,⟨[.gc [4,6]],[],[]⟩),(24,⟨[.gc [4,5,6,8,9,10,84,85,86,87,117,118]],[],[.w 2 6 1062402]⟩),(29,⟨[.gc [4,5,6,8,9,117,118]],[],[]⟩),(32,⟨[.gc [4,5,6,8,9,117,118]],[],[]⟩),(35,⟨[.gc [4,5,6,8,9,117,118]],[],[]⟩),(37,⟨[],[],[.v 3 5]⟩),(40,⟨[.gc [4,6,11]],[],[]⟩)]
@[irreducible] def d5x:MC:=rdc (cK Tryz.prog Tryz.f106 f6s [] 10000039)
@[irreducible] def e2c:MC:=rdc (cK Tryz.prog Tryz.f106 f6s [(10000039,d5x)] 10000037)
instance {m:List MOp}:GI (gjt 1062402 m) [4,5,6,8,9] [9,8,6,5,4,33330] (fun y:Bool=>[(88,.bool y)]) (fun y=>[]):=⟨⟩
instance:LI d5x 0 0 [4,5,6,8,11] [6,5,4,33330] (fun y:a0r=>[]) (fun y=>[.o 8 (.cells [.bool y.Up,.int .i64 y.Stored,.int .i64 y.Used])]) []:=⟨⟩
instance:LI e2c 0 0 [4,5,6,8,9] [9,6,5,4,33330] (fun y:Bool×a0r=>[(11,.bool y.1)]) (fun y=>[.o 8 (.cells [.bool y.2.Up,.int .i64 y.2.Stored,.int .i64 y.2.Used])]) []:=⟨⟩
instance g98 {f_:x8} {s_:l7} {x_:GStep}:WJ (f09 f_ s_ x_) 106 [x8.v f_,l7.v s_,GStep.v x_] fun z=>.tup [l7.v z.1,.bool z.2]:=wX Tryz.func106 f6s [(10000039,d5x),(10000037,e2c)] [.fzc 6] (h:=fun _ _ h hQ M=>by have:SwA [(1502,33330)]:=⟨⟩;unfold f09 at h;exact tX)
def F_g (f_:x8) (s_:l7) (x_:GStep):Option (l7×Int) := (F_s f_ s_).bind fun y4=>bif (!y4) then some ((l7.mk 0 0 []),36) else (f0b f_ x_).bind fun y8=>bif (!y8) then some ((l7.mk 0 0 []),2) else (f09 f_ s_ x_).bind fun y10=>bif (!y10.2) then some ((l7.mk 0 0 []),37) else some (y10.1,0)
instance h0n {f_:x8} {s_:l7} {x_:GStep}:WJ (F_g f_ s_ x_) 64 [x8.v f_,l7.v s_,GStep.v x_] fun z=>.tup [l7.v z.1,.int .i64 z.2]:=wX Tryz.func64 [(2,⟨[.gc [6]],[],[]⟩),(3,⟨[.gc [3,4,5,6]],[],[]⟩),(7,⟨[.gc [6]],[],[]⟩),(8,⟨[.gc [6,8]],[],[]⟩)] [] [.fzc 6] (h:=fun _ _ h hQ M=>by unfold F_g at h;exact tX)
noncomputable def f9k (f_:x8) (x22:Int×(List Int)):Option (Fl (Int×(List Int)) (List Int)) :=
 bif decide (x22.1≤7) then jn (α:=List Int) ((F_f f_ x22.1).bind fun y30=>bif decide (0<(y30.length:Int)) then chk (room (x22.2.length+[x22.1].length) 8) (some (x22.2++[x22.1])) else some x22.2) fun j28=>chk (a0l (x22.1+1)) (some (.nx ((x22.1+1),j28))) else some (.ex x22.2)
noncomputable def f08 (f_:x8):Option (List Int) :=
 (loop (f9k f_) (0,[])).bind fun r31=>some r31
def f6r:List (Nat×RN):=[(1,⟨[],[.k 0 1],[]⟩),(5,⟨[],[.c 2 0 [] [11]],[]⟩)]
@[irreducible] def d5w:MC:=rdc (cK Tryz.prog Tryz.f229 f6r [] 10000004)
@[irreducible] def e4g:MC:=rdc (cK Tryz.prog Tryz.f229 f6r [(10000004,d5w)] 3)
attribute [go_sem] f9k
instance:LI d5w 0 0 [1,4] [1] (fun y:List Int=>[(3,.osl 2003 1 0 y.length)]) (fun y=>[.o 2003 (.arr 1 (y.map (V.int .i64)))]) [.gc [1,3,4],.acc 3 2003 1]:=⟨⟩
instance:LI e4g 0 0 [1] [1] (fun y:Int×(List Int)=>[(3,.osl 2003 1 0 y.2.length),(4,.int .i64 y.1)]) (fun y=>[.o 2003 (.arr 1 (y.2.map (V.int .i64)))]) [.gc [1,3,4],.acc 3 2003 1]:=⟨⟩
instance g97 {f_:x8}:WJ (f08 f_) 229 [x8.v f_] fun z=>.sl (z.map (V.int .i64)):=wX Tryz.func229 f6r [(10000004,d5w),(3,e4g)] [.fz 2] (h:=fun _ _ h hQ M=>by have:SwA [(1900,11)]:=⟨⟩;unfold f08 at h;exact tX)
def e90 (f_:x8) (s_:l7) (unit_:Int):Option Bool :=
 (F_s f_ s_).bind fun y3=>bif y3 then chk (a0l ((s_.Units.length:Int) - 1)) ((d2k unit_ 0 ((s_.Units.length:Int) - 1)).bind fun y4=>bif y4 then chk (inb unit_ s_.Units.length) (bif (s_.Units.getD (unit_).toNat default).Up then chk (inb unit_ s_.Units.length) (some (!decide ((bits .and .i64 ((s_.Units.getD (unit_).toNat default).Used) s_.Valid)=0))) else some false) else some false) else some false
instance g6r {f_:x8} {s_:l7} {unit_:Int}:WJ (e90 f_ s_ unit_) 230 [x8.v f_,l7.v s_,.int .i64 unit_] .bool:=wX Tryz.func230 (h:=fun _ _ h hQ M=>by unfold e90 at h;exact tX)
noncomputable def g0d (f_:x8) (s_:l7) (x313:List Int) (a315:Int) (k392:Int) (a393:Int) (x391:Unit):Option (Fl Unit (List Int)) :=
 (e90 f_ s_ a393).bind fun y401=>bif y401 then chk (room (x313.length+[a315].length) 8) (some (.ex (x313++[a315]))) else some (.nx ())
noncomputable def f9j (f_:x8) (s_:l7) (k314:Int) (a315:Int) (x313:List Int):Option (List Int) :=
 (F_f f_ a315).bind fun y380=>(a0x (g0d f_ s_ x313 a315) y380 0 ()).bind fun o=>o.elim (fun x402=>some x313) (fun r403=>some r403)
noncomputable def e05 (f_:x8) (s_:l7):Option (List Int) :=
 (f08 f_).bind fun y181=>(a09 (f9j f_ s_) y181 0 []).bind fun x404=>some x404
def f6y:List (Nat×RN):=[(1,⟨[],[.k 0 1],[]⟩),(5,⟨[],[.c 2 0 [] [19]],[]⟩),(9,⟨[.gc [2,3,5,7,11,12,13]],[],[]⟩)]
@[irreducible] def d6f:MC:=rdc (cK Tryz.prog Tryz.f205 f6y [] 6)
@[irreducible] def e4f:MC:=rdc (cK Tryz.prog Tryz.f205 f6y [(6,d6f)] 3)
attribute [go_sem] g0d f9j
instance:LI d6f 21 20 [2,3,5,7,11,12,13,19,20] [19,2005,3,2] (fun y:Unit=>[]) (fun y=>[]) []:=⟨⟩
instance:LI e4f 13 12 [2,3,11,12] [3,2] (fun y:List Int=>[(5,.osl 2005 1 0 y.length)]) (fun y=>[.o 2005 (.arr 1 (y.map (V.int .i64)))]) [.gc [2,3,5,11,12,13],.acc 5 2005 1]:=⟨⟩
instance g9m {f_:x8} {s_:l7}:WJ (e05 f_ s_) 205 [x8.v f_,l7.v s_] fun z=>.sl (z.map (V.int .i64)):=wX Tryz.func205 f6y [(6,d6f),(3,e4f)] [.fz 4] (h:=fun _ _ h hQ M=>by have:SwA [(1900,19)]:=⟨⟩;unfold e05 at h;exact tX)
noncomputable def g3s (a358:Int) (k490:Int) (a491:Int) (x489:Bool):Option Bool :=
 grp ((x489||decide (a358=a491))) fun b495=>some b495
noncomputable def f9i (y2:List Int) (k357:Int) (a358:Int) (x356:Unit):Option (Fl Unit Bool) :=
 (a09 (g3s a358) y2 0 false).bind fun x496=>bif (!x496) then some (.ex false) else some (.nx ())
noncomputable def f07 (f_:x8) (s_:l7) (t_:l7):Option Bool :=
 (e05 f_ t_).bind fun y2=>(e05 f_ s_).bind fun y217=>(a0x (f9i y2) y217 0 ()).bind fun o=>o.elim (fun x497=>some true) (fun r498=>some r498)
def f6q:List (Nat×RN):=[(2,⟨[.gc [3,4,7,32,33,34]],[],[]⟩),(9,⟨[],[],[.v 2 5]⟩)]
@[irreducible] def d62:MC:=rdc (cK Tryz.prog Tryz.f154 f6q [] 7)
@[irreducible] def e4e:MC:=rdc (cK Tryz.prog Tryz.f154 f6q [(7,d62)] 3)
attribute [go_sem] g3s f9i
instance:LI d62 26 25 [7,9,18,19,20,24,25] [] (fun y:Bool=>[(10,.bool y)]) (fun y=>[]) []:=⟨⟩
instance:LI e4e 20 19 [7,18,19] [] (fun y:Unit=>[]) (fun y=>[]) []:=⟨⟩
instance g96 {f_:x8} {s_ t_:l7}:WJ (f07 f_ s_ t_) 154 [x8.v f_,l7.v s_,l7.v t_] .bool:=wX Tryz.func154 f6q [(7,d62),(3,e4e)] (h:=fun _ _ h hQ M=>by unfold f07 at h;exact tX)
noncomputable def e8z (f_:x8) (s_:l7) (x_:GStep):Option Bool :=
 (F_g f_ s_ x_).bind fun y2=>jn (α:=Bool) (bif decide (y2.2=0) then (f07 f_ s_ y2.1).bind fun y6=>some y6 else some false) fun j7=>some j7
instance {m:List MOp}:GI (gjt 1040203 m) [] [] (fun y:Bool=>[(23,.bool y)]) (fun y=>[]):=⟨⟩
instance g6q {f_:x8} {s_:l7} {x_:GStep}:WJ (e8z f_ s_ x_) 104 [x8.v f_,l7.v s_,GStep.v x_] .bool:=wX Tryz.func104 [(2,⟨[.gc [3,4,7,8,19,20,21,22]],[],[.w 3 7 1040203]⟩)] (h:=fun _ _ h hQ M=>by unfold e8z at h;exact tX)
noncomputable def g0c (f_:x8) (s_:l7) (x257:Int×(List GStep)) (k351:Int) (a352:u7) (x350:List GStep):Option (List GStep) :=
 (e8z f_ s_ (GStep.mk x257.1 k351)).bind fun y360=>bif y360 then chk (room (x350.length+[(GStep.mk x257.1 k351)].length) 16) (some (x350++[(GStep.mk x257.1 k351)])) else some x350
noncomputable def f9h (f_:x8) (s_:l7) (x257:Int×(List GStep)):Option (Fl (Int×(List GStep)) (List GStep)) :=
 bif decide (x257.1≤8) then (a09 (g0c f_ s_ x257) f_.Consumers 0 x257.2).bind fun x361=>chk (a0l (x257.1+1)) (some (.nx ((x257.1+1),x361))) else some (.ex x257.2)
noncomputable def f06 (f_:x8) (s_:l7):Option (List GStep) :=
 (loop (f9h f_ s_) (1,[])).bind fun r362=>some r362
def f6p:List (Nat×RN):=[(1,⟨[],[.k 0 1],[]⟩),(10,⟨[.gc [2,3,5,6,8,15,16]],[],[]⟩)]
@[irreducible] def d6e:MC:=rdc (cK Tryz.prog Tryz.f63 f6p [] 6)
@[irreducible] def e4d:MC:=rdc (cK Tryz.prog Tryz.f63 f6p [(6,d6e)] 3)
attribute [go_sem] g0c f9h
instance:LI d6e 16 15 [2,3,6,15] [3,2] (fun y:List GStep=>[(5,.osl 2005 2 0 y.length)]) (fun y=>[.o 2005 (.arr 2 (y.map GStep.v))]) [.gc [2,3,5,6,15,16],.acc 5 2005 2]:=⟨⟩
instance:LI e4d 0 0 [2,3] [3,2] (fun y:Int×(List GStep)=>[(5,.osl 2005 2 0 y.2.length),(6,.int .i64 y.1)]) (fun y=>[.o 2005 (.arr 2 (y.2.map GStep.v))]) [.gc [2,3,5,6],.acc 5 2005 2]:=⟨⟩
instance g95 {f_:x8} {s_:l7}:WJ (f06 f_ s_) 63 [x8.v f_,l7.v s_] fun z=>.sl (z.map GStep.v):=wX Tryz.func63 f6p [(6,d6e),(3,e4d)] [.fz 4] (h:=fun _ _ h hQ M=>by unfold f06 at h;exact tX)
def F_4 (x_:Int) (low_:Int) (high_:Int):Option Bool := grp ((decide (low_≤x_)&&decide (x_≤high_))) fun b2=>some b2
instance h0y {x_ low_ high_:Int}:WJ (F_4 x_ low_ high_) 89 [.int .i64 x_,.int .i64 low_,.int .i64 high_] .bool:=wX Tryz.func89 [(1,⟨[],[],[.v 4 7]⟩)] (h:=fun _ _ h hQ M=>by unfold F_4 at h;exact tX)
noncomputable def f9g (replicas_:Int) (x15:Int×Bool×(List p8)):Option (Fl (Int×Bool×(List p8)) (Bool×(List p8))) :=
 bif decide (x15.1<replicas_) then chk (room (x15.2.2.length+[(p8.mk 0 true)].length) 16) (chk (a0l (x15.1+1)) (some (.nx ((x15.1+1),x15.2.1,(x15.2.2++[(p8.mk 0 true)]))))) else some (.ex (x15.2.1,x15.2.2))
noncomputable def f3b (replicas_:Int) (bits_:Int) (fence_:Bool):Option (l9×Int) :=
 (F_4 replicas_ 1 5).bind fun y7=>bif (!y7) then some ((l9.mk false [] [] []),39) else (F_4 bits_ 0 3).bind fun y8=>bif (!y8) then some ((l9.mk false [] [] []),39) else (loop (f9g replicas_) (0,fence_,[])).bind fun r16=>some ((l9.mk r16.1 [bits_] r16.2 []),0)
def g29:List (Nat×RN):=[(2,⟨[.gc [6]],[],[]⟩),(3,⟨[.gc [0,1,2,6]],[.k 3 1],[]⟩)]
@[irreducible] def e4c:MC:=rdc (cK Tryz.prog Tryz.f65 g29 [] 5)
attribute [go_sem] f9g
instance:LI e4c 0 0 [6,8,22] [8,20,6] (fun y:Int×Bool×(List p8)=>[(23,.int .i64 y.1)]) (fun y=>[.p 8 0 [.bool y.2.1],.p 8 2 [.osl 4130 2 0 y.2.2.length],.o 4130 (.arr 2 (y.2.2.map p8.v))]) [.gc [6,8,22,23],.ownC 8 2 4130 2 none]:=⟨⟩
instance g7s {replicas_ bits_:Int} {fence_:Bool}:WJ (f3b replicas_ bits_ fence_) 65 [.int .i64 replicas_,.int .i64 bits_,.bool fence_] fun z=>.tup [l9.v z.1,.int .i64 z.2]:=wX Tryz.func65 g29 [(5,e4c)] [.fzc 6] (h:=fun _ _ h hQ M=>by unfold f3b at h;exact tX)
def g0v (k48:Int) (a49:Int) (x47:Unit):Option (Fl Unit Bool) :=
 (F_4 a49 0 3).bind fun y57=>bif (!y57) then some (.ex false) else some (.nx ())
def g0p (c_:l9) (k90:Int) (a91:p8) (x89:Unit):Option (Fl Unit Bool) :=
 chk (a0l ((c_.Sets.length:Int) - 1)) ((F_4 a91.Generation 0 ((c_.Sets.length:Int) - 1)).bind fun y99=>bif (!y99) then some (.ex false) else some (.nx ()))
def g0b (c_:l9) (k132:Int) (a133:Int) (x131:Unit):Option (Fl Unit Bool) :=
 chk (a0l ((c_.Sets.length:Int) - 1)) ((F_4 a133 0 ((c_.Sets.length:Int) - 1)).bind fun y141=>bif (!y141) then some (.ex false) else some (.nx ()))
def F_b (c_:l9):Option Bool := jn (α:=Fl Unit Bool) ((F_4 (c_.Replicas.length:Int) 1 5).bind fun y14=>bif (!y14) then grp (true) fun b15=>bif b15 then some (.ex false) else some (.nx ()) else (F_4 (c_.Sets.length:Int) 1 121).bind fun y16=>grp (((!y16)||decide (120<(c_.Snapshots.length:Int)))) fun b17=>bif b17 then some (.ex false) else some (.nx ())) fun o=>o.elim (fun j9=>(a0x g0v c_.Sets 0 ()).bind fun o=>o.elim (fun x58=>(a0x (g0p c_) c_.Replicas 0 ()).bind fun o=>o.elim (fun x100=>(a0x (g0b c_) c_.Snapshots 0 ()).bind fun o=>o.elim (fun x142=>some true) (fun r143=>some r143)) (fun r101=>some r101)) (fun r59=>some r59)) (fun r144=>some r144)
def a_b:List (Nat×RN):=[(1,⟨[],[],[.v 13 17]⟩)]
@[irreducible] def c5u:MC:=rdc (cK Tryz.prog Tryz.f49 a_b [] 4)
@[irreducible] def d0h:MC:=rdc (cK Tryz.prog Tryz.f49 a_b [(4,c5u)] 10)
@[irreducible] def d6d:MC:=rdc (cK Tryz.prog Tryz.f49 a_b [(4,c5u),(10,d0h)] 16)
@[irreducible] def e2a:MC:=rdc (cK Tryz.prog Tryz.f49 a_b [(4,c5u),(10,d0h),(16,d6d)] 10000003)
attribute [go_sem] g0v g0p g0b
instance:LI c5u 30 29 [1,28,29] [1] (fun y:Unit=>[]) (fun y=>[]) []:=⟨⟩
instance:LI d0h 41 40 [1,39,40] [1] (fun y:Unit=>[]) (fun y=>[]) []:=⟨⟩
instance:LI d6d 57 56 [1,55,56] [1] (fun y:Unit=>[]) (fun y=>[]) []:=⟨⟩
instance:LI e2a 0 0 [1] [1] (fun y:Unit=>[]) (fun y=>[]) []:=⟨⟩
instance h0s {c_:l9}:WJ (F_b c_) 49 [l9.v c_] .bool:=wX Tryz.func49 a_b [(4,c5u),(10,d0h),(16,d6d),(10000003,e2a)] (h:=fun _ _ h hQ M=>by unfold F_b at h;exact tX)
def f1y (c_:l9):Option l9 :=
 chk (room c_.Sets.length 8) (chk (room c_.Replicas.length 16) (chk (room c_.Snapshots.length 8) (some (l9.mk c_.Fence c_.Sets c_.Replicas c_.Snapshots))))
instance g5v {c_:l9}:WI (f1y c_) Tryz.prog 37 [l9.v c_] [] (fun z=>.agg [.bool z.Fence,.osl 1501 1 0 z.Sets.length,.osl 1502 2 0 z.Replicas.length,.osl 1503 1 0 z.Snapshots.length]) (fun z=>[(1501,.arr 1 (z.Sets.map (V.int .i64))),(1502,.arr 2 (z.Replicas.map p8.v)),(1503,.arr 1 (z.Snapshots.map (V.int .i64)))]):=wX Tryz.func37 [] [] [.ownC 2 1 1501 1 none,.ownC 2 2 1502 2 none,.ownC 2 3 1503 1 none] [1501,1502,1503] (h:=fun _ _ h hQ M=>by unfold f1y at h;exact tX)
def F_t (c_:l9) (x_:a06):Option (l9×Int) := (F_b c_).bind fun y4=>bif (!y4) then some ((l9.mk false [] [] []),39) else (f1y c_).bind fun y6=>jn (α:=Fl a06 (l9×Int)) (bif decide (x_.Kind=1) then bif (!(decide (x_.Kind=x_.Kind)&&(decide (x_.Replica=0)&&(decide (x_.Snapshot=0)&&decide (x_.Bits=x_.Bits))))) then some (.ex ((l9.mk false [] [] []),39)) else (F_4 x_.Bits 0 3).bind fun y16=>bif (!y16) then some (.ex ((l9.mk false [] [] []),39)) else bif decide (120<(y6.Sets.length:Int)) then some (.ex ((l9.mk false [] [] []),3)) else chk (room (y6.Sets.length+[x_.Bits].length) 8) (some (.ex ((l9.mk y6.Fence (y6.Sets++[x_.Bits]) y6.Replicas y6.Snapshots),0))) else jn (α:=Bool) (bif decide (x_.Kind=2) then some true else some (decide (x_.Kind=3))) fun j17=>bif j17 then some (.nx (a06.mk x_.Kind x_.Replica 0 0)) else bif decide (x_.Kind=4) then some (.nx (a06.mk x_.Kind x_.Replica x_.Snapshot 0)) else some (.nx (a06.mk x_.Kind 0 0 0))) fun o=>o.elim (fun j12=>jn (α:=Fl Unit (l9×Int)) (bif (!(decide (x_.Kind=j12.Kind)&&(decide (x_.Replica=j12.Replica)&&(decide (x_.Snapshot=j12.Snapshot)&&decide (x_.Bits=j12.Bits))))) then some (.ex ((l9.mk false [] [] []),39)) else (F_4 x_.Kind 2 4).bind fun y28=>bif (!y28) then some (.ex ((l9.mk false [] [] []),39)) else chk (a0l ((y6.Replicas.length:Int) - 1)) ((F_4 x_.Replica 0 ((y6.Replicas.length:Int) - 1)).bind fun y29=>bif (!y29) then some (.ex ((l9.mk false [] [] []),39)) else bif decide (x_.Kind=4) then chk (a0l ((y6.Snapshots.length:Int) - 1)) ((F_4 x_.Snapshot 0 ((y6.Snapshots.length:Int) - 1)).bind fun y30=>bif (!y30) then some (.ex ((l9.mk false [] [] []),39)) else some (.nx ())) else some (.nx ()))) fun o=>o.elim (fun j24=>chk (inb x_.Replica y6.Replicas.length) (jn (α:=Fl (Bool×(List p8)×(List Int)) (l9×Int)) (bif decide (x_.Kind=2) then chk (a0l ((y6.Sets.length:Int) - 1)) (some (.nx (y6.Fence,y6.Replicas.set ((x_.Replica).toNat) (p8.mk ((y6.Sets.length:Int) - 1) true),y6.Snapshots))) else bif decide (x_.Kind=3) then bif decide (120≤(y6.Snapshots.length:Int)) then some (.ex ((l9.mk false [] [] []),3)) else chk (room (y6.Snapshots.length+[(y6.Replicas.getD ((x_.Replica).toNat) default).Generation].length) 8) (some (.nx (y6.Fence,y6.Replicas,(y6.Snapshots++[(y6.Replicas.getD ((x_.Replica).toNat) default).Generation])))) else chk (inb x_.Snapshot y6.Snapshots.length) (some (.nx (y6.Fence,y6.Replicas.set ((x_.Replica).toNat) (p8.mk (y6.Snapshots.getD ((x_.Snapshot).toNat) default) (!y6.Fence)),y6.Snapshots)))) fun o=>o.elim (fun j31=>some ((l9.mk j31.1 y6.Sets j31.2.1 j31.2.2),0)) (fun r32=>some r32))) (fun r33=>some r33)) (fun r34=>some r34)
def a_t:List (Nat×RN):=[(2,⟨[.gc [4]],[],[]⟩),(4,⟨[.gc [2,3,4,6,28,29,30,31,65,66,67,68,71,72,73,74,75,76,77,78,81,82,83,84,85,86,87,88,89,90,91,92,93]],[.c 1 0 [] [34097,34098,34099]],[]⟩),(8,⟨[.gc [2,3,4,6,28,29,30,31]],[],[]⟩),(9,⟨[.gc [4]],[],[]⟩),(10,⟨[.gc [2,3,4]],[],[]⟩),(13,⟨[.gc [2,4]],[],[]⟩),(20,⟨[.gc [4]],[],[]⟩),(23,⟨[.gc [2,3,4,7]],[],[]⟩),(25,⟨[.gc [2,4,7]],[],[]⟩),(27,⟨[.gc [2,4,7]],[],[]⟩)]
@[irreducible] def c5r:MC:=rdc (cK Tryz.prog Tryz.f66 a_t [] 10000016)
@[irreducible] def d06:MC:=rdc (cK Tryz.prog Tryz.f66 a_t [(10000016,c5r)] 10000030)
@[irreducible] def d5v:MC:=rdc (cK Tryz.prog Tryz.f66 a_t [(10000016,c5r),(10000030,d06)] 10000021)
@[irreducible] def e1z:MC:=rdc (cK Tryz.prog Tryz.f66 a_t [(10000016,c5r),(10000030,d06),(10000021,d5v)] 10000019)
instance:LI c5r 0 0 [2,3,4,6,18] [6,4,3,2,34097,34098,34099] (fun y:Bool=>[(47,.bool y)]) (fun y=>[]) []:=⟨⟩
instance:LI d06 0 0 [2,4] [4,2,34097] (fun y:Bool×(List p8)×(List Int)=>[]) (fun y=>[.p 2 0 [.bool y.1],.p 2 2 [.osl 34098 2 0 y.2.1.length],.p 2 3 [.osl 4035 1 0 y.2.2.length],.o 34098 (.arr 2 (y.2.1.map p8.v)),.o 4035 (.arr 1 (y.2.2.map (V.int .i64)))]) [.gc [2,4],.ownC 2 3 4035 1 none]:=⟨⟩
instance:LI d5v 0 0 [2,3,4] [4,3,2,34097,34098,34099] (fun y:Unit=>[]) (fun y=>[]) []:=⟨⟩
instance:LI e1z 0 0 [2,3,4,6] [4,3,2,34097,34098,34099] (fun y:a06=>[]) (fun y=>[.o 6 (.cells [.int .i64 y.Kind,.int .i64 y.Replica,.int .i64 y.Snapshot,.int .i64 y.Bits])]) []:=⟨⟩
instance h0a {c_:l9} {x_:a06}:WJ (F_t c_ x_) 66 [l9.v c_,a06.v x_] fun z=>.tup [l9.v z.1,.int .i64 z.2]:=wX Tryz.func66 a_t [(10000016,c5r),(10000030,d06),(10000021,d5v),(10000019,e1z)] [.fzc 4] (h:=fun _ _ h hQ M=>by have:SwA [(1501,34097),(1502,34098),(1503,34099)]:=⟨⟩;unfold F_t at h;exact tX)
end Go.Ab
set_option maxRecDepth 20000
set_option maxHeartbeats 2000000
namespace Go.Ab
open Go.Proofs
noncomputable def f9f (x43:Int×Int×(List u7)×w9):Option (Fl (Int×Int×(List u7)×w9) (Int×(List u7)×w9)) :=
 bif decide (0<x43.1) then (F_0 x43.2.2.2 2).bind fun y53=>(F_0 y53.2 2).bind fun y54=>(F_0 y54.2 2).bind fun y55=>chk (room (x43.2.2.1.length+[(u7.mk y53.1 (decide (y54.1=1)) (decide (y55.1=1)))].length) 16) (chk (a0l (x43.1 - 1)) (some (.nx ((x43.1 - 1),x43.2.1,(x43.2.2.1++[(u7.mk y53.1 (decide (y54.1=1)) (decide (y55.1=1)))]),y55.2)))) else some (.ex (x43.2.1,x43.2.2.1,x43.2.2.2))
noncomputable def f05 (t_:w9) (most_:Int):Option (x8×w9) :=
 (F_3 t_ 1 2).bind fun y2=>(F_3 y2.2 1 most_).bind fun y28=>(loop f9f (y28.1,y2.1,[],y28.2)).bind fun r56=>some ((x8.mk r56.1 r56.2.1),r56.2.2)
def g37:List (Nat×RN):=[(1,⟨[],[.c 1 0 [1000] [],.k 2 1],[]⟩),(2,⟨[],[.c 2 0 [1000] []],[]⟩),(4,⟨[.gc [0,4,5,6]],[],[]⟩),(5,⟨[],[.c 3 0 [1000] [],.c 5 0 [1000] [],.c 8 0 [1000] []],[]⟩)]
@[irreducible] def e4a:MC:=rdc (cK Tryz.prog Tryz.f60 g37 [] 3)
attribute [go_sem] f9f
instance:LI e4a 0 0 [0,4,5] [4] (fun y:Int×Int×(List u7)×w9=>[(6,.int .i64 y.1)]) (fun y=>[.o 5 (.cells [.int .i64 y.2.1,.osl 4081 3 0 y.2.2.1.length]),.o 4081 (.arr 3 (y.2.2.1.map u7.v)),.o 1000 (.cells [.sl (y.2.2.2.L.map (V.int .i64)),.int .i64 y.2.2.2.at_])]) [.gc [0,4,5,6],.ownC 5 1 4081 3 none]:=⟨⟩
instance f7c {t_:w9} {most_:Int}:WI (f05 t_ most_) Tryz.prog 60 [.ptr 1000 0,.int .i64 most_] [(1000,.cells [.sl (t_.L.map (V.int .i64)),.int .i64 t_.at_])] (fun z=>.agg [.int .i64 z.1.Slots,.osl 1501 3 0 z.1.Consumers.length]) (fun z=>[(1000,.cells [.sl (z.2.L.map (V.int .i64)),.int .i64 z.2.at_]),(1501,.arr 3 (z.1.Consumers.map u7.v))]):=wX Tryz.func60 g37 [(3,e4a)] [.ownC 4 1 1501 3 none] [1000,1501] (h:=fun _ _ h hQ M=>by unfold f05 at h;exact tX)
noncomputable def g0o (y2:x8×w9) (k46:Int) (a47:u7) (x45:List u7):Option (List u7) :=
 chk (inb k46 x45.length) ((F_f (x8.mk y2.1.Slots x45) ((x45.getD ((k46).toNat) default).Pool)).bind fun y55=>bif decide ((y55.length:Int)=1) then chk (inb k46 x45.length) (chk (inb k46 (x45.set ((k46).toNat) (u7.mk ((x45.getD ((k46).toNat) default).Pool) ((x45.getD ((k46).toNat) default).Dual) true)).length) (bif (x45.getD ((k46).toNat) default).Dual then chk (inb k46 (x45.set ((k46).toNat) (u7.mk ((x45.getD ((k46).toNat) default).Pool) ((x45.getD ((k46).toNat) default).Dual) true)).length) (some (x45.set ((k46).toNat) (u7.mk ((x45.getD ((k46).toNat) default).Pool) true true))) else chk (inb k46 (x45.set ((k46).toNat) (u7.mk ((x45.getD ((k46).toNat) default).Pool) ((x45.getD ((k46).toNat) default).Dual) true)).length) (some (x45.set ((k46).toNat) (u7.mk ((x45.getD ((k46).toNat) default).Pool) (decide (y2.1.Slots=1)) true))))) else some x45)
noncomputable def F_u (t_:w9) (most_:Int):Option (x8×w9) := (f05 t_ most_).bind fun y2=>(a09 (g0o y2) y2.1.Consumers 0 y2.1.Consumers).bind fun x56=>some ((x8.mk y2.1.Slots x56),y2.2)
def a_u:List (Nat×RN):=[(1,⟨[],[.c 2 0 [1000] [32561]],[]⟩),(5,⟨[],[.c 3 0 [32561] [22]],[]⟩),(6,⟨[.gc [4,5,6,12,13,14,40,41,42]],[],[]⟩)]
@[irreducible] def d0g:MC:=rdc (cK Tryz.prog Tryz.f32 a_u [] 3)
def g1b:MC:=rdc (cT Tryz.prog Tryz.f32 a_u [(3,d0g)])
theorem a8q {f_:x8} {pool_:Int} {y:List Int} (hy:F_f f_ pool_=some y):a0j Tryz.prog 61 [.agg [.int .i64 f_.Slots,.osl 1000 3 0 f_.Consumers.length],.int .i64 pool_] [(1000,.arr 3 (f_.Consumers.map u7.v))] (fun r H=>r=.osl 1900 1 0 y.length∧H=(1000,.arr 3 (f_.Consumers.map u7.v))::[(1900,.arr 1 (y.map (V.int .i64)))]):=by
 refine c3j (n:=1000) (k:=3) (args:=[.agg [.int .i64 f_.Slots,.osl 1000 3 0 f_.Consumers.length],.int .i64 pool_]) ?_ (by simp [V.sealOK,V.sealOKs]) (by simp [V.lf,V.lfL,a0f]) rfl (fun id o ho=>?_)
 ·have h:=g4y.c.w hy
  simpa [V.shut,V.sealL,d3y,x8.v] using h
 ·obtain rfl:=c6n ho
  exact ⟨_,_,_,rfl,by simp [V.cells,V.lf,V.lfL]⟩
instance h09 {t_:w9} {most_:Int}:WI (F_u t_ most_) Tryz.prog 32 [.ptr 1000 0,.int .i64 most_] [(1000,.cells [.sl (t_.L.map (V.int .i64)),.int .i64 t_.at_])] (fun z=>x8.v z.1) (fun z=>[(1000,.cells [.sl (z.2.L.map (V.int .i64)),.int .i64 z.2.at_])]):=⟨fun Q Q' h hQ=>by
 refine a2s g1b [.fzc 4] [1000] [.c 4 (some 2)] Tryz.func32 fun M=>?_
 unfold F_u at h
 unfold g1b
 replace h:=tY h
 refine tB ?_
 repeat' (first
 | (exact tZ)
 | ((first|refine b7w h ?_|refine a6f h ?_|refine b8y h ?_|refine b8x h ?_|refine b96 h ?_|refine appG h ?_|refine b9e h ?_|refine fork h ?_ ?_|refine a6g h ?_ ?_)<;>clear h<;>intro hc h)
 | (obtain ⟨y,hy,h⟩:=h;(first|have hw:=a1b 1501 32561 (f7c.c.w hy)|have hw:=a1b 1900 22 (a1b 1000 32561 (a8q hy)));replace hw:=tY hw;(first|refine M.sC hw ?_|refine M.sD hw ?_);clear hw hy;refine tB ?_)
 | (refine M.fold1 (b:=d0g) 14 [4,5,13] [5,4,1000] (fun x=>[(12,.osl 32561 3 0 x.length)]) (fun x=>[.o 32561 (.arr 3 (x.map u7.v)),.p 5 1 [.osl 32561 3 0 x.length]]) [] h ?_ ?_ ?_<;>first
 | (clear h;intro k a x Qn K hK1 hkN1 ha1 h hf;have hl:=a3r (a14 (n:=13) hf.1 rfl);clear hf;have hkd:=kD hkN1;have hkB1:=kB hkN1;have hkI1:=kI (k:=k) (by omega);unfold g0o at h;unfold d0g;replace h:=tY h;refine tK ha1 hkd hkN1 hkB1 hkI1 ?_)
  |(clear h;intro x K h;replace h:=And.left (And.intro h trivial);unfold d0g;replace h:=tY h;refine tB ?_)
  |(clear h;(try refine tB ?_);exact tU0;done))
 | (simp only [ha1])
 | (exact absurd (hc.symm.trans (by assumption:_=true)) xL)
 | (exact absurd (hc.symm.trans (by assumption:_=false)) xL.symm)
 | (refine hK1 _ ?_;(try refine tB ?_);refine ⟨_,h,?_⟩;exact tU0;done)
 | (refine tE ?_;(first|rw [M.lok_compU]|rw [M.lokD_compU]);refine tB ?_)
 | (refine ⟨_,g1t (by first|exact a1l (by assumption)|exact a6w (by assumption)|assumption) rfl,?_⟩;(first|rw [M.lok_compU]|rw [M.lokD_compU]);refine tB ?_)
 | (refine ⟨_,g1s (by first|exact a1l (by assumption)|exact a6w (by assumption)|assumption),?_⟩;(first|rw [M.lok_compU]|rw [M.lokD_compU]|(simp only [V.cells,xD,wV];first|rw [M.lok_comp]|rw [M.lokD_comp]));refine tB ?_)
 | (refine ⟨_,b2b (by first|exact a1l (by assumption)|exact a6w (by assumption)),?_⟩;(first|rw [M.lok_compU]|rw [M.lokD_compU]|(simp only [V.cells];first|rw [M.lok_comp]|rw [M.lokD_comp]));refine tB ?_)
 | (refine tA ?_)
 | fail)⟩
noncomputable def f9e (f_:x8) (x55:Int×l7×w9):Option (Fl (Int×l7×w9) (Sum (l7×w9) (l7×w9))) :=
 bif decide (0<x55.1) then (f06 f_ x55.2.1).bind fun y69=>bif decide ((y69.length:Int)=0) then some (.ex (.inr (x55.2.1,x55.2.2))) else (F_0 x55.2.2 (y69.length:Int)).bind fun y70=>chk (inb y70.1 y69.length) ((F_g f_ x55.2.1 (y69.getD (y70.1).toNat default)).bind fun y71=>chk (a0l (x55.1 - 1)) (some (.nx ((x55.1 - 1),y71.1,y70.2)))) else some (.ex (.inl (x55.2.1,x55.2.2)))
noncomputable def e9u (t_:w9) (f_:x8):Option (l7×w9) :=
 (e9v f_).bind fun y2=>(F_0 t_ 16).bind fun y36=>(loop (f9e f_) (y36.1,y2.1,y36.2)).bind fun r72=>Sum.elim (fun u73=>some (u73.1,u73.2)) (fun u74=>some u74) r72
def g2y:List (Nat×RN):=[(2,⟨[],[.c 1 0 [1000] []],[]⟩),(4,⟨[.gc [0,3,4,5,7]],[],[]⟩),(8,⟨[.gc [0,3,4,5,7,8]],[.c 6 0 [1000] []],[]⟩)]
@[irreducible] def e3z:MC:=rdc (cK Tryz.prog Tryz.f33 g2y [] 3)
attribute [go_sem] f9e
instance:LI e3z 0 0 [0,3,4,5] [4,3] (fun y:Int×l7×w9=>[(7,.int .i64 y.1)]) (fun y=>[.o 5 (.cells [.int .i64 y.2.1.Known,.int .i64 y.2.1.Valid,.sl (y.2.1.Units.map a0r.v)]),.o 1000 (.cells [.sl (y.2.2.L.map (V.int .i64)),.int .i64 y.2.2.at_])]) []:=⟨⟩
instance g8o {t_:w9} {f_:x8}:WI (e9u t_ f_) Tryz.prog 33 [.ptr 1000 0,x8.v f_] [(1000,.cells [.sl (t_.L.map (V.int .i64)),.int .i64 t_.at_])] (fun z=>l7.v z.1) (fun z=>[(1000,.cells [.sl (z.2.L.map (V.int .i64)),.int .i64 z.2.at_])]):=wX Tryz.func33 g2y [(3,e3z)] [.fzc 4] [1000] (h:=fun _ _ h hQ M=>by unfold e9u at h;exact tX)
def e8y (t_:w9) (c_:l9):Option (a06×w9) :=
 (F_3 t_ 1 4).bind fun y2=>bif decide (y2.1=1) then (d2l y2.2 [1,2,2,3,0]).bind fun y7=>some ((a06.mk y2.1 0 0 y7.1),y7.2) else bif decide (y2.1=4) then (F_0 y2.2 (c_.Replicas.length:Int)).bind fun y8=>chk (a0l ((c_.Snapshots.length:Int)+1)) ((F_0 y8.2 ((c_.Snapshots.length:Int)+1)).bind fun y9=>some ((a06.mk y2.1 y8.1 y9.1 0),y9.2)) else (F_0 y2.2 (c_.Replicas.length:Int)).bind fun y10=>some ((a06.mk y2.1 y10.1 0 0),y10.2)
instance g6p {t_:w9} {c_:l9}:WI (e8y t_ c_) Tryz.prog 67 [.ptr 1000 0,l9.v c_] [(1000,.cells [.sl (t_.L.map (V.int .i64)),.int .i64 t_.at_])] (fun z=>a06.v z.1) (fun z=>[(1000,.cells [.sl (z.2.L.map (V.int .i64)),.int .i64 z.2.at_])]):=wX Tryz.func67 [(1,⟨[],[.c 1 0 [1000] []],[]⟩),(3,⟨[.gc [0,3,4,5]],[.c 4 0 [1000] []],[]⟩),(5,⟨[.gc [0,4,5]],[.k 1 2,.c 2 0 [1000] []],[]⟩),(7,⟨[.gc [0,3,4,5]],[.c 4 0 [1000] [],.c 10 0 [1000] []],[]⟩)] [] [] [1000] (h:=fun _ _ h hQ M=>by unfold e8y at h;exact tX)
noncomputable def f9d (x44:Int×l9×w9):Option (Fl (Int×l9×w9) (l9×w9)) :=
 bif decide (0<x44.1) then jn (α:=l9×w9) ((e8y x44.2.2 x44.2.1).bind fun y57=>(F_t x44.2.1 y57.1).bind fun y58=>bif decide (y58.2=0) then some (y58.1,y57.2) else some (x44.2.1,y57.2)) fun j54=>chk (a0l (x44.1 - 1)) (some (.nx ((x44.1 - 1),j54.1,j54.2))) else some (.ex (x44.2.1,x44.2.2))
noncomputable def f04 (t_:w9):Option (l9×w9) :=
 (F_3 t_ 1 3).bind fun y5=>(d2l y5.2 [1,1,3,2]).bind fun y6=>(F_0 y6.2 2).bind fun y7=>(f3b y5.1 y6.1 (decide (y7.1=1))).bind fun y8=>(F_0 y7.2 12).bind fun y31=>(loop f9d (y31.1,y8.1,y31.2)).bind fun r59=>some (r59.1,r59.2)
def f6o:List (Nat×RN):=[(1,⟨[],[.c 1 0 [1000] [],.k 3 2,.c 4 0 [1000] [],.c 6 0 [1000] []],[]⟩),(2,⟨[.gc [0,2,3]],[.c 1 0 [1000] []],[]⟩),(5,⟨[],[.c 3 0 [1000] []],[]⟩)]
@[irreducible] def d5u:MC:=rdc (cK Tryz.prog Tryz.f34 f6o [] 10000004)
@[irreducible] def e3y:MC:=rdc (cK Tryz.prog Tryz.f34 f6o [(10000004,d5u)] 3)
attribute [go_sem] f9d
instance:LI d5u 0 0 [0,2,3,5] [2] (fun y:l9×w9=>[]) (fun y=>[.o 3 (.cells [.bool y.1.Fence,.sl (y.1.Sets.map (V.int .i64)),.sl (y.1.Replicas.map p8.v),.sl (y.1.Snapshots.map (V.int .i64))]),.o 1000 (.cells [.sl (y.2.L.map (V.int .i64)),.int .i64 y.2.at_])]) []:=⟨⟩
instance:LI e3y 0 0 [0,2,3] [2] (fun y:Int×l9×w9=>[(5,.int .i64 y.1)]) (fun y=>[.o 3 (.cells [.bool y.2.1.Fence,.sl (y.2.1.Sets.map (V.int .i64)),.sl (y.2.1.Replicas.map p8.v),.sl (y.2.1.Snapshots.map (V.int .i64))]),.o 1000 (.cells [.sl (y.2.2.L.map (V.int .i64)),.int .i64 y.2.2.at_])]) []:=⟨⟩
instance g94 {t_:w9}:WI (f04 t_) Tryz.prog 34 [.ptr 1000 0] [(1000,.cells [.sl (t_.L.map (V.int .i64)),.int .i64 t_.at_])] (fun z=>l9.v z.1) (fun z=>[(1000,.cells [.sl (z.2.L.map (V.int .i64)),.int .i64 z.2.at_])]):=wX Tryz.func34 f6o [(10000004,d5u),(3,e3y)] [.fzc 2] [1000] (h:=fun _ _ h hQ M=>by unfold f04 at h;exact tX)
noncomputable def e8x (m_:w9):Option (a2d×w9) :=
 (F_p m_).bind fun y2=>(F_q y2.2 y2.1).bind fun y4=>(f0d y4.2).bind fun y6=>(F_r y6.2).bind fun y8=>(e9w y8.2 y8.1.Resources).bind fun y10=>(F_0 y10.2 5).bind fun y13=>(F_0 y13.2 4).bind fun y14=>chk (b0b y14.1 y14.1 72) ((F_0 y14.2 3).bind fun y16=>(F_u y16.2 3).bind fun y18=>(e9u y18.2 y18.1).bind fun y20=>(f04 y20.2).bind fun y22=>some ((a2d.mk y2.1 y4.1 y6.1 y8.1 y10.1 (a2z.mk 0 (IntKind.wrap .u64 y13.1) (List.replicate (y14.1).toNat (b3k.mk (b2x.mk 0 [] 0) [] 0 0))) y16.1 y18.1 y20.1 y22.1),y22.2))
instance g6o {m_:w9}:WI (e8x m_) Tryz.prog 8 [.ptr 1000 0] [(1000,.cells [.sl (m_.L.map (V.int .i64)),.int .i64 m_.at_])] (fun z=>a2d.v z.1) (fun z=>[(1000,.cells [.sl (z.2.L.map (V.int .i64)),.int .i64 z.2.at_])]):=wX Tryz.func8 [(2,⟨[],[.c 1 0 [1000] []],[]⟩),(3,⟨[],[.c 3 0 [1000] []],[]⟩),(4,⟨[.gc [0,2,3]],[.c 1 0 [1000] []],[]⟩),(5,⟨[],[.c 1 0 [1000] []],[]⟩),(6,⟨[],[.c 4 0 [1000] []],[]⟩),(7,⟨[.gc [0,2,3]],[.c 1 0 [1000] [],.c 4 0 [1000] []],[]⟩),(8,⟨[.gc [0,2,3]],[.c 1 0 [1000] []],[]⟩),(9,⟨[],[.c 1 0 [1000] []],[]⟩),(10,⟨[],[.c 3 0 [1000] []],[]⟩),(11,⟨[.gc [0,2,3]],[.c 1 0 [1000] []],[]⟩)] [] [.fzc 2] [1000] (h:=fun _ _ h hQ M=>by unfold e8x at h;exact tX)
end Go.Ab
