/- What the functions of this seat that lie on the laws' road compute (part LE), each for every input. By AI agents. -/
import Derived.Test.YtdmnaloiileofaaGreatDoorLT
set_option linter.all false
set_option maxRecDepth 20000
set_option maxHeartbeats 2000000
namespace Go.Ab
open Go.Proofs
noncomputable section
def e1h (n_:Int) (qD:Int) (jC:Int):Option Bool :=
 grp ((decide (qD≤n_)&&decide (n_≤jC))) fun b2=>some b2
instance h5f {n_ qD jC:Int}:WJ (e1h n_ qD jC) 113 [.int .i64 n_,.int .i64 qD,.int .i64 jC] .bool:=wX Tryz.func113 [(1,⟨[],[],[.v 4 7]⟩)] (h:=fun _ _ h hQ M=>by unfold e1h at h;exact tX)
def f8p (x_:a0j):Option Bool :=
 (b6h x_.Name 40).bind fun y4=>jn (α:=Bool) (bif (!y4) then some true else (e1h x_.Slots 1 2).bind fun y6=>some (!y6)) fun j7=>some j7
instance f0f {m:List MOp}:GI (gjt 1110105 m) [2] [] (fun y:Bool=>[(12,.bool y)]) (fun y=>[]):=⟨⟩
instance h2u {x_:a0j}:WJ (f8p x_) 111 [a0j.v x_] .bool:=wX Tryz.func111 [(1,⟨[],[],[.w 5 9 1110105]⟩)] (h:=fun _ _ h hQ M=>by unfold f8p at h;exact tX)
@[go_sem] def g5q (k31:Int) (a32:a0j) (x30:Unit):Option (Fl Unit Int) :=
 (f8p a32).bind fun y40=>bif y40 then some (.ex k31) else some (.nx ())
def f8o (s_:List a0j):Option Int :=
 (forL g5q s_ 0 ()).bind fun o=>o.elim (fun x41=>some (-1)) (fun r42=>some r42)
@[irreducible] def e80:MC:=rdc (cK Tryz.prog Tryz.f194 [] [] 2)
instance:LI e80 8 7 [0,1,7] [] (fun y:Unit=>[]) (fun y=>[]) []:=⟨⟩
instance h2t {s_:List a0j}:WJ (f8o s_) 194 [.sl (s_.map a0j.v),.fn (.func 111) []] (.int .i64):=wX Tryz.func194 [] [(2,e80)] (h:=fun _ _ h hQ M=>by unfold f8o at h;exact tX)
def f4b (s_:List a0j):Option Bool :=
 (f8o s_).bind fun y2=>some (decide (0≤y2))
instance h3v {s_:List a0j}:WJ (f4b s_) 116 [.sl (s_.map a0j.v),.fn (.func 111) []] .bool:=wX Tryz.func116 (h:=fun _ _ h hQ M=>by unfold f4b at h;exact tX)
def f8n (r_:l7) (c_:l9):Option Bool :=
 chk (a0w ((r_.Issuers.length:Int) - 1)) ((e1h c_.Issuer 0 ((r_.Issuers.length:Int) - 1)).bind fun y7=>jn (α:=Bool) (bif y7 then (e1h c_.Holder 0 23).bind fun y9=>some y9 else some false) fun j10=>grp ((j10&&decide (0≤c_.From))) fun b11=>grp ((b11&&decide (c_.From<c_.Until))) fun b12=>grp ((b12&&decide (c_.Until≤1099511627777))) fun b13=>some b13)
instance f0e {m:List MOp}:GI (gjt 1150108 m) [3,4] [3] (fun y:Bool=>[(16,.bool y)]) (fun y=>[]):=⟨⟩
instance h2s {r_:l7} {c_:l9}:WJ (f8n r_ c_) 115 [l7.v r_,l9.v c_] .bool:=wX Tryz.func115 [(1,⟨[],[],[.w 8 11 1150108,.v 13 16,.v 18 23,.v 25 28]⟩)] (h:=fun _ _ h hQ M=>by unfold f8n at h;exact tX)
def f8m (c_:l9) (p_:l7):Option Bool :=
 (f8n p_ c_).bind fun y2=>some (!y2)
instance h2q {c_:l9} {p_:l7}:WI (f8m c_ p_) Tryz.prog 114 [l9.v c_,.ptr 1000 0] [(1000,.cells [.sl (p_.Issuers.map a0j.v),.sl (p_.Credentials.map l9.v)])] (fun z=>.bool z) (fun z=>[(1000,.cells [.sl (p_.Issuers.map a0j.v),.sl (p_.Credentials.map l9.v)])]):=wX Tryz.func114 [] [] [] [1000] (h:=fun _ _ h hQ M=>by unfold f8m at h;exact tX)
@[go_sem] def g5p (jB:l7) (k31:Int) (a32:l9) (x30:Unit):Option (Fl Unit Int) :=
 (f8m a32 jB).bind fun y40=>bif y40 then some (.ex k31) else some (.nx ())
def f9o (s_:List l9) (jB:l7):Option Int :=
 (forL (g5p jB) s_ 0 ()).bind fun o=>o.elim (fun x41=>some (-1)) (fun r42=>some r42)
def g7y:List (Nat×RN):=[(4,⟨[],[.c 5 0 [1000] []],[]⟩)]
@[irreducible] def e7z:MC:=rdc (cK Tryz.prog Tryz.f195 g7y [] 2)
instance:LI e7z 8 7 [0,1,7] [1000] (fun y:Unit=>[]) (fun y=>[]) []:=⟨⟩
instance h5e {s_:List l9} {jB:l7}:WI (f9o s_ jB) Tryz.prog 195 [.sl (s_.map l9.v),.fn (.func 114) [.ptr 1000 0]] [(1000,.cells [.sl (jB.Issuers.map a0j.v),.sl (jB.Credentials.map l9.v)])] (fun z=>.int .i64 z) (fun z=>[(1000,.cells [.sl (jB.Issuers.map a0j.v),.sl (jB.Credentials.map l9.v)])]):=wX Tryz.func195 g7y [(2,e7z)] [] [1000] (h:=fun _ _ h hQ M=>by unfold f9o at h;exact tX)
def f4a (s_:List l9) (jB:l7):Option Bool :=
 (f9o s_ jB).bind fun y2=>some (decide (0≤y2))
instance h3u {s_:List l9} {jB:l7}:WI (f4a s_ jB) Tryz.prog 117 [.sl (s_.map l9.v),.fn (.func 114) [.ptr 1000 0]] [(1000,.cells [.sl (jB.Issuers.map a0j.v),.sl (jB.Credentials.map l9.v)])] (fun z=>.bool z) (fun z=>[(1000,.cells [.sl (jB.Issuers.map a0j.v),.sl (jB.Credentials.map l9.v)])]):=wX Tryz.func117 [(1,⟨[],[.c 2 0 [1000] []],[]⟩)] [] [] [1000] (h:=fun _ _ h hQ M=>by unfold f4a at h;exact tX)
def f8l (c_:l9) (t_:Int):Option Bool :=
 grp ((decide (c_.From≤t_)&&decide (t_<c_.Until))) fun b2=>some b2
instance h2p {c_:l9} {t_:Int}:WJ (f8l c_ t_) 196 [l9.v c_,.int .i64 t_] .bool:=wX Tryz.func196 [(1,⟨[],[],[.v 5 9]⟩)] (h:=fun _ _ h hQ M=>by unfold f8l at h;exact tX)
@[go_sem] def g5o (jE:Int) (qE:Int) (t_:Int) (k100:Int) (a101:l9) (x99:List Int):Option (List Int) :=
 grp ((decide (a101.Issuer=jE)&&decide (a101.Holder=qE))) fun b123=>jn (α:=Bool) (bif b123 then (f8l a101 t_).bind fun y125=>some y125 else some false) fun j126=>bif j126 then chk (room (x99.length+[k100].length) 8) (some (x99++[k100])) else some x99
def f5i (r_:l7) (jE:Int) (qE:Int) (t_:Int):Option (List Int) :=
 (foldL (g5o jE qE t_) r_.Credentials 0 []).bind fun x127=>some x127
def g8j:List (Nat×RN):=[(1,⟨[],[.k 0 1],[]⟩),(5,⟨[],[],[.v 5 9,.w 11 14 1180511]⟩)]
@[irreducible] def e7y:MC:=rdc (cK Tryz.prog Tryz.f118 g8j [] 3)
instance f0d {m:List MOp}:GI (gjt 1180511 m) [1,2,3,9,10,13,14,15] [2009] (fun y:Bool=>[(34,.bool y)]) (fun y=>[]):=⟨⟩
instance:LI e7y 15 14 [1,2,3,13,14] [] (fun y:List Int=>[(9,.osl 2009 1 0 y.length)]) (fun y=>[.o 2009 (.arr 1 (y.map (V.int .i64)))]) [.gc [1,2,3,9,13,14,15],.acc 9 2009 1]:=⟨⟩
instance h6c {r_:l7} {jE qE t_:Int}:WJ (f5i r_ jE qE t_) 118 [l7.v r_,.int .i64 jE,.int .i64 qE,.int .i64 t_] fun z=>.sl (z.map (V.int .i64)):=wX Tryz.func118 g8j [(3,e7y)] [.fz 8] (h:=fun _ _ h hQ M=>by unfold f5i at h;exact tX)
@[go_sem] def g5n (r_:l7) (k43:Int) (a44:l9) (x42:Unit):Option (Fl Unit Int) :=
 (f5i r_ a44.Issuer a44.Holder a44.From).bind fun y52=>chk (inb a44.Issuer r_.Issuers.length) (bif decide ((r_.Issuers.getD (a44.Issuer).toNat default).Slots<(y52.length:Int)) then some (.ex 31) else some (.nx ()))
def F_w (r_:l7):Option Int := grp ((decide (8<(r_.Issuers.length:Int))||decide (24<(r_.Credentials.length:Int)))) fun b10=>bif b10 then some 31 else (f4b r_.Issuers).bind fun y11=>bif y11 then some 31 else (f4a r_.Credentials r_).bind fun y12=>bif y12 then some 31 else (forL (g5n r_) r_.Credentials 0 ()).bind fun o=>o.elim (fun x53=>some 0) (fun r54=>some r54)
def a_w:List (Nat×RN):=[(3,⟨[],[.c 20 0 [1] []],[.v 5 9]⟩),(5,⟨[.gc [1]],[],[]⟩)]
@[irreducible] def e7x:MC:=rdc (cK Tryz.prog Tryz.f56 a_w [] 6)
instance:LI e7x 33 32 [1,31,32] [1] (fun y:Unit=>[]) (fun y=>[]) []:=⟨⟩
instance h8h {r_:l7}:WJ (F_w r_) 56 [l7.v r_] (.int .i64):=wX Tryz.func56 a_w [(6,e7x)] (h:=fun _ _ h hQ M=>by have:SwA [(1000,1)]:=⟨⟩;unfold F_w at h;exact tX)
def F_g (n_:Int) (qD:Int) (jC:Int):Option Bool := grp ((decide (qD≤n_)&&decide (n_≤jC))) fun b2=>some b2
instance h8w {n_ qD jC:Int}:WJ (F_g n_ qD jC) 160 [.int .i64 n_,.int .i64 qD,.int .i64 jC] .bool:=wX Tryz.func160 [(1,⟨[],[],[.v 4 7]⟩)] (h:=fun _ _ h hQ M=>by unfold F_g at h;exact tX)
def F_x (x_:o8) (c_:Int):Option Bool := chk (a0w (x_.Credentials - 1)) ((F_g c_ 0 (x_.Credentials - 1)).bind fun y2=>some y2)
instance h8g {x_:o8} {c_:Int}:WJ (F_x x_ c_) 162 [o8.v x_,.int .i64 c_] .bool:=wX Tryz.func162 (h:=fun _ _ h hQ M=>by unfold F_x at h;exact tX)
def e2y (x_:o8) (r_:Int):Option Bool :=
 chk (a0w (x_.Resources - 1)) ((F_g r_ 0 (x_.Resources - 1)).bind fun y2=>some y2)
instance h4p {x_:o8} {r_:Int}:WJ (e2y x_ r_) 163 [o8.v x_,.int .i64 r_] .bool:=wX Tryz.func163 (h:=fun _ _ h hQ M=>by unfold e2y at h;exact tX)
def f8k (g_:a0g) (p_:o8):Option Bool :=
 (F_x p_ g_.Credential).bind fun y6=>jn (α:=Bool) (bif (!y6) then some true else (e2y p_ g_.Resource).bind fun y8=>some (!y8)) fun j9=>jn (α:=Bool) (bif j9 then some true else (F_g g_.Right 1 3).bind fun y11=>some (!y11)) fun j12=>some j12
instance f01 {m:List MOp}:GI (gjt 1610113 m) [3] [1000] (fun y:Bool=>[(21,.bool y)]) (fun y=>[]):=⟨⟩
instance f02 {m:List MOp}:GI (gjt 1610106 m) [2,3] [2,1000] (fun y:Bool=>[(15,.bool y)]) (fun y=>[]):=⟨⟩
instance h2o {g_:a0g} {p_:o8}:WI (f8k g_ p_) Tryz.prog 161 [a0g.v g_,.ptr 1000 0] [(1000,.cells [.int .i64 p_.Credentials,.int .i64 p_.Resources,.sl (p_.Grants.map a0g.v),.sl (p_.Stores.map a0m.v),.sl (p_.Mints.map a1d.v)])] (fun z=>.bool z) (fun z=>[(1000,.cells [.int .i64 p_.Credentials,.int .i64 p_.Resources,.sl (p_.Grants.map a0g.v),.sl (p_.Stores.map a0m.v),.sl (p_.Mints.map a1d.v)])]):=wX Tryz.func161 [(1,⟨[],[],[.w 6 11 1610106,.w 13 17 1610113]⟩)] [] [] [1000] (h:=fun _ _ h hQ M=>by unfold f8k at h;exact tX)
@[go_sem] def g5m (jB:o8) (k31:Int) (a32:a0g) (x30:Unit):Option (Fl Unit Int) :=
 (f8k a32 jB).bind fun y40=>bif y40 then some (.ex k31) else some (.nx ())
def g6b (s_:List a0g) (jB:o8):Option Int :=
 (forL (g5m jB) s_ 0 ()).bind fun o=>o.elim (fun x41=>some (-1)) (fun r42=>some r42)
def g7m:List (Nat×RN):=[(4,⟨[],[.c 5 0 [1000] []],[]⟩)]
@[irreducible] def e7w:MC:=rdc (cK Tryz.prog Tryz.f229 g7m [] 2)
instance:LI e7w 8 7 [0,1,7] [1000] (fun y:Unit=>[]) (fun y=>[]) []:=⟨⟩
instance h4o {s_:List a0g} {jB:o8}:WI (g6b s_ jB) Tryz.prog 229 [.sl (s_.map a0g.v),.fn (.func 161) [.ptr 1000 0]] [(1000,.cells [.int .i64 jB.Credentials,.int .i64 jB.Resources,.sl (jB.Grants.map a0g.v),.sl (jB.Stores.map a0m.v),.sl (jB.Mints.map a1d.v)])] (fun z=>.int .i64 z) (fun z=>[(1000,.cells [.int .i64 jB.Credentials,.int .i64 jB.Resources,.sl (jB.Grants.map a0g.v),.sl (jB.Stores.map a0m.v),.sl (jB.Mints.map a1d.v)])]):=wX Tryz.func229 g7m [(2,e7w)] [] [1000] (h:=fun _ _ h hQ M=>by unfold g6b at h;exact tX)
def f8j (s_:List a0g) (jB:o8):Option Bool :=
 (g6b s_ jB).bind fun y2=>some (decide (0≤y2))
instance h2m {s_:List a0g} {jB:o8}:WI (f8j s_ jB) Tryz.prog 166 [.sl (s_.map a0g.v),.fn (.func 161) [.ptr 1000 0]] [(1000,.cells [.int .i64 jB.Credentials,.int .i64 jB.Resources,.sl (jB.Grants.map a0g.v),.sl (jB.Stores.map a0m.v),.sl (jB.Mints.map a1d.v)])] (fun z=>.bool z) (fun z=>[(1000,.cells [.int .i64 jB.Credentials,.int .i64 jB.Resources,.sl (jB.Grants.map a0g.v),.sl (jB.Stores.map a0m.v),.sl (jB.Mints.map a1d.v)])]):=wX Tryz.func166 [(1,⟨[],[.c 2 0 [1000] []],[]⟩)] [] [] [1000] (h:=fun _ _ h hQ M=>by unfold f8j at h;exact tX)
def f8i (s_:a0m) (p_:o8):Option Bool :=
 (F_x p_ s_.Credential).bind fun y4=>jn (α:=Bool) (bif (!y4) then some true else (e2y p_ s_.Resource).bind fun y6=>some (!y6)) fun j7=>some j7
instance f00 {m:List MOp}:GI (gjt 1640106 m) [3] [1000] (fun y:Bool=>[(15,.bool y)]) (fun y=>[]):=⟨⟩
instance h2l {s_:a0m} {p_:o8}:WI (f8i s_ p_) Tryz.prog 164 [a0m.v s_,.ptr 1000 0] [(1000,.cells [.int .i64 p_.Credentials,.int .i64 p_.Resources,.sl (p_.Grants.map a0g.v),.sl (p_.Stores.map a0m.v),.sl (p_.Mints.map a1d.v)])] (fun z=>.bool z) (fun z=>[(1000,.cells [.int .i64 p_.Credentials,.int .i64 p_.Resources,.sl (p_.Grants.map a0g.v),.sl (p_.Stores.map a0m.v),.sl (p_.Mints.map a1d.v)])]):=wX Tryz.func164 [(1,⟨[],[],[.w 6 11 1640106]⟩)] [] [] [1000] (h:=fun _ _ h hQ M=>by unfold f8i at h;exact tX)
@[go_sem] def g5l (jB:o8) (k31:Int) (a32:a0m) (x30:Unit):Option (Fl Unit Int) :=
 (f8i a32 jB).bind fun y40=>bif y40 then some (.ex k31) else some (.nx ())
def g6a (s_:List a0m) (jB:o8):Option Int :=
 (forL (g5l jB) s_ 0 ()).bind fun o=>o.elim (fun x41=>some (-1)) (fun r42=>some r42)
def g7l:List (Nat×RN):=[(4,⟨[],[.c 5 0 [1000] []],[]⟩)]
@[irreducible] def e7v:MC:=rdc (cK Tryz.prog Tryz.f230 g7l [] 2)
instance:LI e7v 8 7 [0,1,7] [1000] (fun y:Unit=>[]) (fun y=>[]) []:=⟨⟩
instance h4n {s_:List a0m} {jB:o8}:WI (g6a s_ jB) Tryz.prog 230 [.sl (s_.map a0m.v),.fn (.func 164) [.ptr 1000 0]] [(1000,.cells [.int .i64 jB.Credentials,.int .i64 jB.Resources,.sl (jB.Grants.map a0g.v),.sl (jB.Stores.map a0m.v),.sl (jB.Mints.map a1d.v)])] (fun z=>.int .i64 z) (fun z=>[(1000,.cells [.int .i64 jB.Credentials,.int .i64 jB.Resources,.sl (jB.Grants.map a0g.v),.sl (jB.Stores.map a0m.v),.sl (jB.Mints.map a1d.v)])]):=wX Tryz.func230 g7l [(2,e7v)] [] [1000] (h:=fun _ _ h hQ M=>by unfold g6a at h;exact tX)
def f8h (s_:List a0m) (jB:o8):Option Bool :=
 (g6a s_ jB).bind fun y2=>some (decide (0≤y2))
instance h2k {s_:List a0m} {jB:o8}:WI (f8h s_ jB) Tryz.prog 167 [.sl (s_.map a0m.v),.fn (.func 164) [.ptr 1000 0]] [(1000,.cells [.int .i64 jB.Credentials,.int .i64 jB.Resources,.sl (jB.Grants.map a0g.v),.sl (jB.Stores.map a0m.v),.sl (jB.Mints.map a1d.v)])] (fun z=>.bool z) (fun z=>[(1000,.cells [.int .i64 jB.Credentials,.int .i64 jB.Resources,.sl (jB.Grants.map a0g.v),.sl (jB.Stores.map a0m.v),.sl (jB.Mints.map a1d.v)])]):=wX Tryz.func167 [(1,⟨[],[.c 2 0 [1000] []],[]⟩)] [] [] [1000] (h:=fun _ _ h hQ M=>by unfold f8h at h;exact tX)
def f8g (m_:a1d) (p_:o8):Option Bool :=
 (F_x p_ m_.From).bind fun y4=>jn (α:=Bool) (bif (!y4) then some true else (F_x p_ m_.To).bind fun y6=>some (!y6)) fun j7=>some j7
instance e9z {m:List MOp}:GI (gjt 1650106 m) [3] [1000] (fun y:Bool=>[(15,.bool y)]) (fun y=>[]):=⟨⟩
instance h2j {m_:a1d} {p_:o8}:WI (f8g m_ p_) Tryz.prog 165 [a1d.v m_,.ptr 1000 0] [(1000,.cells [.int .i64 p_.Credentials,.int .i64 p_.Resources,.sl (p_.Grants.map a0g.v),.sl (p_.Stores.map a0m.v),.sl (p_.Mints.map a1d.v)])] (fun z=>.bool z) (fun z=>[(1000,.cells [.int .i64 p_.Credentials,.int .i64 p_.Resources,.sl (p_.Grants.map a0g.v),.sl (p_.Stores.map a0m.v),.sl (p_.Mints.map a1d.v)])]):=wX Tryz.func165 [(1,⟨[],[],[.w 6 11 1650106]⟩)] [] [] [1000] (h:=fun _ _ h hQ M=>by unfold f8g at h;exact tX)
@[go_sem] def g5k (jB:o8) (k31:Int) (a32:a1d) (x30:Unit):Option (Fl Unit Int) :=
 (f8g a32 jB).bind fun y40=>bif y40 then some (.ex k31) else some (.nx ())
def g69 (s_:List a1d) (jB:o8):Option Int :=
 (forL (g5k jB) s_ 0 ()).bind fun o=>o.elim (fun x41=>some (-1)) (fun r42=>some r42)
def g7k:List (Nat×RN):=[(4,⟨[],[.c 5 0 [1000] []],[]⟩)]
@[irreducible] def e7u:MC:=rdc (cK Tryz.prog Tryz.f231 g7k [] 2)
instance:LI e7u 8 7 [0,1,7] [1000] (fun y:Unit=>[]) (fun y=>[]) []:=⟨⟩
instance h4m {s_:List a1d} {jB:o8}:WI (g69 s_ jB) Tryz.prog 231 [.sl (s_.map a1d.v),.fn (.func 165) [.ptr 1000 0]] [(1000,.cells [.int .i64 jB.Credentials,.int .i64 jB.Resources,.sl (jB.Grants.map a0g.v),.sl (jB.Stores.map a0m.v),.sl (jB.Mints.map a1d.v)])] (fun z=>.int .i64 z) (fun z=>[(1000,.cells [.int .i64 jB.Credentials,.int .i64 jB.Resources,.sl (jB.Grants.map a0g.v),.sl (jB.Stores.map a0m.v),.sl (jB.Mints.map a1d.v)])]):=wX Tryz.func231 g7k [(2,e7u)] [] [1000] (h:=fun _ _ h hQ M=>by unfold g69 at h;exact tX)
def f8f (s_:List a1d) (jB:o8):Option Bool :=
 (g69 s_ jB).bind fun y2=>some (decide (0≤y2))
instance h2i {s_:List a1d} {jB:o8}:WI (f8f s_ jB) Tryz.prog 168 [.sl (s_.map a1d.v),.fn (.func 165) [.ptr 1000 0]] [(1000,.cells [.int .i64 jB.Credentials,.int .i64 jB.Resources,.sl (jB.Grants.map a0g.v),.sl (jB.Stores.map a0m.v),.sl (jB.Mints.map a1d.v)])] (fun z=>.bool z) (fun z=>[(1000,.cells [.int .i64 jB.Credentials,.int .i64 jB.Resources,.sl (jB.Grants.map a0g.v),.sl (jB.Stores.map a0m.v),.sl (jB.Mints.map a1d.v)])]):=wX Tryz.func168 [(1,⟨[],[.c 2 0 [1000] []],[]⟩)] [] [] [1000] (h:=fun _ _ h hQ M=>by unfold f8f at h;exact tX)
def d5t (x_:o8):Option Int :=
 (F_g x_.Credentials 0 24).bind fun y11=>bif (!y11) then some 32 else (F_g x_.Resources 0 24).bind fun y12=>bif (!y12) then some 32 else grp ((decide (100<(x_.Grants.length:Int))||decide (100<(x_.Stores.length:Int)))) fun b15=>grp ((b15||decide (100<(x_.Mints.length:Int)))) fun b16=>bif b16 then some 32 else (f8j x_.Grants x_).bind fun y26=>bif y26 then some 32 else (f8h x_.Stores x_).bind fun y27=>bif y27 then some 32 else (f8f x_.Mints x_).bind fun y28=>bif y28 then some 32 else some 0
instance h6b {x_:o8}:WJ (d5t x_) 83 [o8.v x_] (.int .i64):=wX Tryz.func83 [(3,⟨[.gc [1,23,24,25,26,29,30,31,32,42,43,44,45,48,49,50,51]],[],[.v 5 9,.v 11 15]⟩),(8,⟨[.gc [1,3,4,5,42,43,44,45,48,49,50,51]],[.c 3 0 [1] [],.c 8 0 [1] [],.c 14 0 [1] []],[]⟩)] (h:=fun _ _ h hQ M=>by have:SwA [(1000,1)]:=⟨⟩;unfold d5t at h;exact tX)
@[go_sem] def g5j (jF:Int) (k20:Int) (a21:l9) (x19:List Int):Option (List Int) :=
 bif decide (a21.Fingerprint=jF) then chk (room (x19.length+[k20].length) 8) (some (x19++[k20])) else some x19
def e1q (r_:l7) (jF:Int):Option (List Int) :=
 (F_w r_).bind fun y4=>bif (!decide (y4=0)) then some [] else (foldL (g5j jF) r_.Credentials 0 []).bind fun x22=>some x22
def g8t:List (Nat×RN):=[(3,⟨[],[.k 0 1],[]⟩),(8,⟨[.gc [1,5,6,12,13,14]],[],[]⟩)]
@[irreducible] def e7t:MC:=rdc (cK Tryz.prog Tryz.f20 g8t [] 5)
instance:LI e7t 14 13 [1,12,13] [] (fun y:List Int=>[(5,.osl 2005 1 0 y.length)]) (fun y=>[.o 2005 (.arr 1 (y.map (V.int .i64)))]) [.gc [1,5,12,13,14],.acc 5 2005 1]:=⟨⟩
instance h7e {r_:l7} {jF:Int}:WJ (e1q r_ jF) 20 [l7.v r_,.int .u64 jF] fun z=>.sl (z.map (V.int .i64)):=wX Tryz.func20 g8t [(5,e7t)] [.fz 4] (h:=fun _ _ h hQ M=>by unfold e1q at h;exact tX)
def f8e (w_:Int):Option Bool :=
 grp ((decide (w_<0)||decide (100<w_))) fun b2=>some b2
instance h2h {w_:Int}:WJ (f8e w_) 84 [.int .i64 w_] .bool:=wX Tryz.func84 [(1,⟨[],[],[.v 3 5]⟩)] (h:=fun _ _ h hQ M=>by unfold f8e at h;exact tX)
@[go_sem] def g5i (k31:Int) (a32:Int) (x30:Unit):Option (Fl Unit Int) :=
 (f8e a32).bind fun y40=>bif y40 then some (.ex k31) else some (.nx ())
def f8d (s_:List Int):Option Int :=
 (forL g5i s_ 0 ()).bind fun o=>o.elim (fun x41=>some (-1)) (fun r42=>some r42)
@[irreducible] def e7s:MC:=rdc (cK Tryz.prog Tryz.f169 [] [] 2)
instance:LI e7s 8 7 [0,1,7] [] (fun y:Unit=>[]) (fun y=>[]) []:=⟨⟩
instance h2g {s_:List Int}:WJ (f8d s_) 169 [.sl (s_.map (V.int .i64)),.fn (.func 84) []] (.int .i64):=wX Tryz.func169 [] [(2,e7s)] (h:=fun _ _ h hQ M=>by unfold f8d at h;exact tX)
def f3z (s_:List Int):Option Bool :=
 (f8d s_).bind fun y2=>some (decide (0≤y2))
instance h3t {s_:List Int}:WJ (f3z s_) 85 [.sl (s_.map (V.int .i64)),.fn (.func 84) []] .bool:=wX Tryz.func85 (h:=fun _ _ h hQ M=>by unfold f3z at h;exact tX)
def g3x (c_:Int) (p_:o8):Option Bool :=
 some (decide (p_.Credentials≤c_))
instance h17 {c_:Int} {p_:o8}:WI (g3x c_ p_) Tryz.prog 86 [.int .i64 c_,.ptr 1000 0] [(1000,.cells [.int .i64 p_.Credentials,.int .i64 p_.Resources,.sl (p_.Grants.map a0g.v),.sl (p_.Stores.map a0m.v),.sl (p_.Mints.map a1d.v)])] (fun z=>.bool z) (fun z=>[(1000,.cells [.int .i64 p_.Credentials,.int .i64 p_.Resources,.sl (p_.Grants.map a0g.v),.sl (p_.Stores.map a0m.v),.sl (p_.Mints.map a1d.v)])]):=wX Tryz.func86 [] [] [] [1000] (h:=fun _ _ h hQ M=>by unfold g3x at h;exact tX)
@[go_sem] def g9j (jB:o8) (k31:Int) (a32:Int) (x30:Unit):Option (Fl Unit Int) :=
 (g3x a32 jB).bind fun y40=>bif y40 then some (.ex k31) else some (.nx ())
def f9n (s_:List Int) (jB:o8):Option Int :=
 (forL (g9j jB) s_ 0 ()).bind fun o=>o.elim (fun x41=>some (-1)) (fun r42=>some r42)
def g7x:List (Nat×RN):=[(4,⟨[],[.c 5 0 [1000] []],[]⟩)]
@[irreducible] def e6d:MC:=rdc (cK Tryz.prog Tryz.f169 g7x [] 2)
instance:LI e6d 8 7 [0,1,7] [1000] (fun y:Unit=>[]) (fun y=>[]) []:=⟨⟩
instance h5d {s_:List Int} {jB:o8}:WI (f9n s_ jB) Tryz.prog 169 [.sl (s_.map (V.int .i64)),.fn (.func 86) [.ptr 1000 0]] [(1000,.cells [.int .i64 jB.Credentials,.int .i64 jB.Resources,.sl (jB.Grants.map a0g.v),.sl (jB.Stores.map a0m.v),.sl (jB.Mints.map a1d.v)])] (fun z=>.int .i64 z) (fun z=>[(1000,.cells [.int .i64 jB.Credentials,.int .i64 jB.Resources,.sl (jB.Grants.map a0g.v),.sl (jB.Stores.map a0m.v),.sl (jB.Mints.map a1d.v)])]):=wX Tryz.func169 g7x [(2,e6d)] [] [1000] (h:=fun _ _ h hQ M=>by unfold f9n at h;exact tX)
def f3y (s_:List Int) (jB:o8):Option Bool :=
 (f9n s_ jB).bind fun y2=>some (decide (0≤y2))
instance h3s {s_:List Int} {jB:o8}:WI (f3y s_ jB) Tryz.prog 85 [.sl (s_.map (V.int .i64)),.fn (.func 86) [.ptr 1000 0]] [(1000,.cells [.int .i64 jB.Credentials,.int .i64 jB.Resources,.sl (jB.Grants.map a0g.v),.sl (jB.Stores.map a0m.v),.sl (jB.Mints.map a1d.v)])] (fun z=>.bool z) (fun z=>[(1000,.cells [.int .i64 jB.Credentials,.int .i64 jB.Resources,.sl (jB.Grants.map a0g.v),.sl (jB.Stores.map a0m.v),.sl (jB.Mints.map a1d.v)])]):=wX Tryz.func85 [(1,⟨[],[.c 2 0 [1000] []],[]⟩)] [] [] [1000] (h:=fun _ _ h hQ M=>by unfold f3y at h;exact tX)
def f8c (w_:Int):Option Bool :=
 grp ((decide (w_<0)||decide (100<w_))) fun b2=>some b2
instance h2f {w_:Int}:WJ (f8c w_) 232 [.int .i64 w_] .bool:=wX Tryz.func232 [(1,⟨[],[],[.v 3 5]⟩)] (h:=fun _ _ h hQ M=>by unfold f8c at h;exact tX)
@[go_sem] def g5h (k31:Int) (a32:Int) (x30:Unit):Option (Fl Unit Int) :=
 (f8c a32).bind fun y40=>bif y40 then some (.ex k31) else some (.nx ())
def g3w (s_:List Int):Option Int :=
 (forL g5h s_ 0 ()).bind fun o=>o.elim (fun x41=>some (-1)) (fun r42=>some r42)
@[irreducible] def e7r:MC:=rdc (cK Tryz.prog Tryz.f169 [] [] 2)
instance:LI e7r 8 7 [0,1,7] [] (fun y:Unit=>[]) (fun y=>[]) []:=⟨⟩
instance h15 {s_:List Int}:WJ (g3w s_) 169 [.sl (s_.map (V.int .i64)),.fn (.func 232) []] (.int .i64):=wX Tryz.func169 [] [(2,e7r)] (h:=fun _ _ h hQ M=>by unfold g3w at h;exact tX)
def f8b (s_:List Int):Option Bool :=
 (g3w s_).bind fun y2=>some (decide (0≤y2))
instance h2e {s_:List Int}:WJ (f8b s_) 85 [.sl (s_.map (V.int .i64)),.fn (.func 232) []] .bool:=wX Tryz.func85 (h:=fun _ _ h hQ M=>by unfold f8b at h;exact tX)
@[go_sem] def g6o (c_:Int) (k16:Int) (a17:a1d) (x15:List a1a):Option (List a1a) :=
 bif decide (a17.From=c_) then chk (room (x15.length+[(a1a.mk 2 (-1) (-1) k16)].length) 32) (some (x15++[(a1a.mk 2 (-1) (-1) k16)])) else some x15
@[go_sem] def g68 (c_:Int) (k384:Int) (a385:a0g) (k479:Int) (a480:a0m) (x478:List a1a):Option (List a1a) :=
 grp ((decide (a385.Credential=c_)&&decide (a480.Resource=a385.Resource))) fun b488=>bif b488 then chk (room (x478.length+[(a1a.mk 1 k384 k479 (-1))].length) 32) (some (x478++[(a1a.mk 1 k384 k479 (-1))])) else some x478
@[go_sem] def g5g (x_:o8) (c_:Int) (k384:Int) (a385:a0g) (x383:List a1a):Option (List a1a) :=
 (foldL (g68 c_ k384 a385) x_.Stores 0 x383).bind fun x489=>some x489
def F_y (x_:o8) (c_:Int):Option (List a1a) := (foldL (g6o c_) x_.Mints 0 []).bind fun x18=>(foldL (g5g x_ c_) x_.Grants 0 x18).bind fun x490=>some x490
def a_y:List (Nat×RN):=[(1,⟨[],[.k 0 1],[]⟩),(6,⟨[.gc [1,2,5,6,13,14,15,51,52,53,54,55]],[],[]⟩),(14,⟨[],[],[.v 5 10]⟩),(15,⟨[.gc [1,2,5,8,9,10,31,32,33,39,40,41,51,52,53,54,55]],[],[]⟩)]
@[irreducible] def d2m:MC:=rdc (cK Tryz.prog Tryz.f334 a_y [] 3)
@[irreducible] def d8w:MC:=rdc (cK Tryz.prog Tryz.f334 a_y [(3,d2m)] 12)
@[irreducible] def e7q:MC:=rdc (cK Tryz.prog Tryz.f334 a_y [(3,d2m),(12,d8w)] 9)
instance:LI d2m 15 14 [1,2,13,14] [2] (fun y:List a1a=>[(5,.osl 2005 4 0 y.length)]) (fun y=>[.o 2005 (.arr 4 (y.map a1a.v))]) [.gc [1,2,5,13,14,15],.acc 5 2005 4]:=⟨⟩
instance:LI d8w 41 40 [1,2,8,9,31,32,33,39,40] [9,2] (fun y:List a1a=>[(5,.osl 2005 4 0 y.length)]) (fun y=>[.o 2005 (.arr 4 (y.map a1a.v))]) [.gc [1,2,5,8,9,31,32,33,39,40,41],.acc 5 2005 4]:=⟨⟩
instance:LI e7q 33 32 [1,2,31,32] [2] (fun y:List a1a=>[(5,.osl 2005 4 0 y.length)]) (fun y=>[.o 2005 (.arr 4 (y.map a1a.v))]) []:=⟨⟩
instance h8f {x_:o8} {c_:Int}:WJ (F_y x_ c_) 334 [o8.v x_,.int .i64 c_] fun z=>.sl (z.map a1a.v):=wX Tryz.func334 a_y [(3,d2m),(12,d8w),(9,e7q)] [.fz 4] (h:=fun _ _ h hQ M=>by unfold F_y at h;exact tX)
def e1g (x_:o8) (c_:Int) (l_:a1a):Option (Int×Bool) :=
 grp ((decide (l_.Kind=2)&&decide (l_.Grant=(-1)))) fun b20=>grp ((b20&&decide (l_.Store=(-1)))) fun b21=>jn (α:=Bool) (bif b21 then chk (a0w ((x_.Mints.length:Int) - 1)) ((F_g l_.Mint 0 ((x_.Mints.length:Int) - 1)).bind fun y23=>some y23) else some false) fun j24=>jn (α:=Bool) (bif j24 then chk (inb l_.Mint x_.Mints.length) (some (decide ((x_.Mints.getD (l_.Mint).toNat default).From=c_))) else some false) fun j25=>bif j25 then chk (inb l_.Mint x_.Mints.length) (some ((x_.Mints.getD (l_.Mint).toNat default).To,true)) else bif decide (l_.Kind=1) then bif decide (l_.Mint=(-1)) then chk (a0w ((x_.Grants.length:Int) - 1)) ((F_g l_.Grant 0 ((x_.Grants.length:Int) - 1)).bind fun y28=>bif y28 then chk (a0w ((x_.Stores.length:Int) - 1)) ((F_g l_.Store 0 ((x_.Stores.length:Int) - 1)).bind fun y29=>bif y29 then chk (inb l_.Grant x_.Grants.length) (bif decide ((x_.Grants.getD (l_.Grant).toNat default).Credential=c_) then chk (inb l_.Store x_.Stores.length) (chk (inb l_.Grant x_.Grants.length) (bif decide ((x_.Stores.getD (l_.Store).toNat default).Resource=(x_.Grants.getD (l_.Grant).toNat default).Resource) then chk (inb l_.Store x_.Stores.length) (some ((x_.Stores.getD (l_.Store).toNat default).Credential,true)) else some (0,false))) else some (0,false)) else some (0,false)) else some (0,false)) else some (0,false) else some (0,false)
instance e9k {m:List MOp}:GI (gjt 3350123 m) [1,3,5] [5,3] (fun y:Bool=>[(41,.bool y)]) (fun y=>[]):=⟨⟩
instance e9l {m:List MOp}:GI (gjt 3350114 m) [1,3,5] [5,3] (fun y:Bool=>[(30,.bool y)]) (fun y=>[]):=⟨⟩
instance h5c {x_:o8} {c_:Int} {l_:a1a}:WJ (e1g x_ c_ l_) 335 [o8.v x_,.int .i64 c_,a1a.v l_] fun z=>.tup [.int .i64 z.1,.bool z.2]:=wX Tryz.func335 [(1,⟨[],[],[.v 4 7,.v 9 12,.w 14 21 3350114,.w 23 32 3350123]⟩),(4,⟨[.gc [3,5]],[],[]⟩)] (h:=fun _ _ h hQ M=>by unfold e1g at h;exact tX)
def f3x (s_:List a1a):Option (List a1a) :=
 amb s_.isEmpty (some []) (chk (room (([]:List a1a).length+s_.length) 32) (some (([]:List a1a)++s_)))
instance h3r {s_:List a1a}:WI (f3x s_) Tryz.prog 336 [.sl (s_.map a1a.v)] [] (fun z=>.osl 1900 4 0 z.length) (fun z=>[(1900,.arr 4 (z.map a1a.v))]):=wX Tryz.func336 [(0,⟨[],[.k 0 1],[]⟩),(2,⟨[],[.k 0 1],[]⟩)] [] [.acc 2 1900 4] [1900] (h:=fun _ _ h hQ M=>by unfold f3x at h;exact tX)
@[go_sem] def g67 (x_:o8) (k599:Int) (a600:a1a) (x598:(List Int)×(List (Int×List a1a))):Option ((List Int)×(List (Int×List a1a))) :=
 chk (inb 0 x598.1.length) ((e1g x_ (x598.1.getD 0 default) a600).bind fun y614=>bif (!((a7p y614.1 x598.2).isSome)) then chk (inb 0 x598.1.length) ((f3x ((a7p (x598.1.getD 0 default) x598.2).getD [])).bind fun y616=>chk (room (y616.length+[a600].length) 32) (chk (room (x598.1.length+[y614.1].length) 8) (some ((x598.1++[y614.1]),a9f y614.1 (y616++[a600]) x598.2)))) else some (x598.1,x598.2))
@[go_sem] def g5f (x_:o8) (x437:(List Int)×(List (Int×List a1a))):Option (Fl ((List Int)×(List (Int×List a1a))) (List (Int×List a1a))) :=
 bif decide (0<(x437.1.length:Int)) then chk (inb 0 x437.1.length) ((F_y x_ (x437.1.getD 0 default)).bind fun y568=>(foldL (g67 x_) y568 0 (x437.1,x437.2)).bind fun x617=>chk (inc 1 (x617.1.length:Int) x617.1.length) (some (.nx ((x617.1.drop 1).take (x617.1.length - 1),x617.2)))) else some (.ex x437.2)
def f5x (x_:o8) (c_:Int):Option (List (Int×List a1a)) :=
 (loop (g5f x_) ([c_],a9f c_ [] [])).bind fun r618=>some r618
def g32:List (Nat×RN):=[(9,⟨[.gc [2,5,6,8,9,27,28,29]],[],[]⟩),(11,⟨[.gc [2,5,6,8,9,27,28,29]],[.c 7 0 [] [57],.k 11 4],[]⟩),(12,⟨[.gc [2,5,6,9,27,28,29]],[],[]⟩)]
@[irreducible] def d8v:MC:=rdc (cK Tryz.prog Tryz.f305 g32 [] 6)
@[irreducible] def e7p:MC:=rdc (cK Tryz.prog Tryz.f305 g32 [(6,d8v)] 3)
instance:LI d8v 29 28 [2,5,27,28] [2] (fun y:(List Int)×(List (Int×List a1a))=>[(6,.osl 2006 1 0 y.1.length)]) (fun y=>[.o 2006 (.arr 1 (y.1.map (V.int .i64))),.o 13 (.map (.int .i64) (y.2.map (kvV (V.int .i64) (slV a1a.v))))]) [.gc [2,5,6,27,28,29],.acc 6 2006 1]:=⟨⟩
instance:LI e7p 0 0 [2,5] [2] (fun y:(List Int)×(List (Int×List a1a))=>[(6,.osl 2006 1 0 y.1.length)]) (fun y=>[.o 2006 (.arr 1 (y.1.map (V.int .i64))),.o 13 (.map (.int .i64) (y.2.map (kvV (V.int .i64) (slV a1a.v))))]) [.gc [2,5,6],.trim 6,.acc 6 2006 1]:=⟨⟩
instance h6z {x_:o8} {c_:Int}:WJ (f5x x_ c_) 305 [o8.v x_,.int .i64 c_] fun z=>(mpV (.int .i64) (V.int .i64) (slV a1a.v)) z:=wX Tryz.func305 g32 [(6,d8v),(3,e7p)] [.fz 4] (h:=fun _ _ h hQ M=>by have:SwA [(1900,57)]:=⟨⟩;unfold f5x at h;exact tX)
def g66 (k25:Int) (a23:Int×List a1a) (x22:List Int):Option (List Int) :=
 chk (room (x22.length+[a23.1].length) 8) (some (x22++[a23.1]))
def F_z (x_:o8) (c_:Int):Option (List Int) := (d5t x_).bind fun y7=>bif (!decide (y7=0)) then some [] else (F_x x_ c_).bind fun y8=>bif (!y8) then some [] else (f5x x_ c_).bind fun y19=>b7j (fun l24=>(foldL g66 l24 0 []).bind fun x26=>(b1d x26).bind fun y28=>some y28) y19
def a_z:List (Nat×RN):=[(3,⟨[],[.k 0 1],[]⟩),(4,⟨[.gc [1,2,5]],[],[]⟩),(8,⟨[],[.c 1 0 [2005] []],[]⟩)]
@[irreducible] def d8u:MC:=rdc (cK Tryz.prog Tryz.f275 a_z [] 5)
def g6x:MC:=rdc (cT Tryz.prog Tryz.f275 a_z [(5,d8u)])
instance h8e {x_:o8} {c_:Int}:WI (F_z x_ c_) Tryz.prog 275 [o8.v x_,.int .i64 c_] [] (fun z=>.sl (z.map (V.int .i64))) (fun z=>[]):=⟨fun Q Q' h hQ=>by
 refine a2m g6x [.fz 4] [] [.t 4] Tryz.func275 fun M=>?_
 unfold F_z at h
 unfold g6x
 replace h:=tY h
 refine tB ?_
 repeat' (first
 | (exact tZ)
 | (refine And.intro (by refine ⟨?_,?_,?_,?_⟩<;>omega) ?_;first|exact hQ _ h|(rw [zP (by omega)];exact hQ _ h))
 | (rw [←hlen];exact hQ _ h)
 | (have hq:=hQ _ h;simp only [xZ,Nat.min_eq_left hlen.1] at hq;exact hq)
 | ((first|refine b5l h ?_|refine a5u h ?_|refine b5p h ?_|refine b5o h ?_|refine b5u h ?_|refine appG h ?_|refine b5w h ?_|refine fork h ?_ ?_|refine a5w h ?_ ?_)<;>clear h<;>intro hc h)
 | (obtain ⟨y,hy,h⟩:=h;(first|(have hw:=a03 1000 2005 (g3l hy);replace hw:=tY hw;(try simp only [hlen] at hw);have hlen:=b3p hy)|have hw:=WI.w hy);replace hw:=tY hw;(first|refine M.sC hw ?_|refine M.sD hw ?_);clear hw hy;refine tB ?_)
 | (refine M.mfold1 (b:=d8u) (kv:=(kvV (V.int .i64) (slV a1a.v))) 19 [19] [] (fun x=>[(5,.osl 2005 1 0 x.length)]) (fun x=>[.o 2005 (.arr 1 (x.map (V.int .i64)))]) [.gc [5,19],.acc 5 2005 1] h ?_ ?_<;>first
 | (clear h;intro rem cur x k Qn K hK1 hs1 hn1;unfold g66 at hn1;unfold d8u;refine tB ?_)
 | (clear h;(try refine tB ?_);exact tU0;done))
 | (refine c7t hs1 hn1 ?_ ?_<;>first
  |(intro h;rw [M.lok_eq];replace h:=tY h;refine tB ?_)
  |(intro i a h;rw [M.lok_eq];replace h:=tY h;refine tB ?_))
 | (apply hK1;(try refine tB ?_);refine ⟨_,h,?_⟩;exact tU0;done)
 | (refine tE ?_;(first|rw [M.lok_compU]|rw [M.lokD_compU]);refine tB ?_)
 | (refine tA ?_)
 | fail)⟩
@[go_sem] def g5e (l_:List Int) (x9:Int):Option (Fl Int (Sum Unit Bool)) :=
 bif decide (x9<(l_.length:Int)) then chk (a0w (x9 - 1)) (chk (inb (x9 - 1) l_.length) (chk (inb x9 l_.length) (bif decide ((l_.getD (x9).toNat default)≤(l_.getD ((x9 - 1)).toNat default)) then some (.ex (.inr false)) else chk (a0w (x9+1)) (some (.nx (x9+1)))))) else some (.ex (.inl ()))
def f5h (l_:List Int):Option Bool :=
 (loop (g5e l_) 1).bind fun r10=>Sum.elim (fun u11=>some true) (fun u12=>some u12) r10
def g8i:List (Nat×RN):=[(3,⟨[.gc [0,3]],[],[]⟩)]
@[irreducible] def e7o:MC:=rdc (cK Tryz.prog Tryz.f332 g8i [] 2)
instance:LI e7o 0 0 [0] [] (fun y:Int=>[(3,.int .i64 y)]) (fun y=>[]) []:=⟨⟩
instance h6a {l_:List Int}:WJ (f5h l_) 332 [.sl (l_.map (V.int .i64))] .bool:=wX Tryz.func332 g8i [(2,e7o)] (h:=fun _ _ h hQ M=>by unfold f5h at h;exact tX)
def f8a (c_:Int) (p_:o8):Option Bool :=
 (F_x p_ c_).bind fun y2=>some (!y2)
instance h2d {c_:Int} {p_:o8}:WI (f8a c_ p_) Tryz.prog 333 [.int .i64 c_,.ptr 1000 0] [(1000,.cells [.int .i64 p_.Credentials,.int .i64 p_.Resources,.sl (p_.Grants.map a0g.v),.sl (p_.Stores.map a0m.v),.sl (p_.Mints.map a1d.v)])] (fun z=>.bool z) (fun z=>[(1000,.cells [.int .i64 p_.Credentials,.int .i64 p_.Resources,.sl (p_.Grants.map a0g.v),.sl (p_.Stores.map a0m.v),.sl (p_.Mints.map a1d.v)])]):=wX Tryz.func333 [] [] [] [1000] (h:=fun _ _ h hQ M=>by unfold f8a at h;exact tX)
@[go_sem] def g5d (jB:o8) (k31:Int) (a32:Int) (x30:Unit):Option (Fl Unit Int) :=
 (f8a a32 jB).bind fun y40=>bif y40 then some (.ex k31) else some (.nx ())
def g65 (s_:List Int) (jB:o8):Option Int :=
 (forL (g5d jB) s_ 0 ()).bind fun o=>o.elim (fun x41=>some (-1)) (fun r42=>some r42)
def g7j:List (Nat×RN):=[(4,⟨[],[.c 5 0 [1000] []],[]⟩)]
@[irreducible] def e7n:MC:=rdc (cK Tryz.prog Tryz.f169 g7j [] 2)
instance:LI e7n 8 7 [0,1,7] [1000] (fun y:Unit=>[]) (fun y=>[]) []:=⟨⟩
instance h4l {s_:List Int} {jB:o8}:WI (g65 s_ jB) Tryz.prog 169 [.sl (s_.map (V.int .i64)),.fn (.func 333) [.ptr 1000 0]] [(1000,.cells [.int .i64 jB.Credentials,.int .i64 jB.Resources,.sl (jB.Grants.map a0g.v),.sl (jB.Stores.map a0m.v),.sl (jB.Mints.map a1d.v)])] (fun z=>.int .i64 z) (fun z=>[(1000,.cells [.int .i64 jB.Credentials,.int .i64 jB.Resources,.sl (jB.Grants.map a0g.v),.sl (jB.Stores.map a0m.v),.sl (jB.Mints.map a1d.v)])]):=wX Tryz.func169 g7j [(2,e7n)] [] [1000] (h:=fun _ _ h hQ M=>by unfold g65 at h;exact tX)
def f7z (s_:List Int) (jB:o8):Option Bool :=
 (g65 s_ jB).bind fun y2=>some (decide (0≤y2))
instance h2c {s_:List Int} {jB:o8}:WI (f7z s_ jB) Tryz.prog 85 [.sl (s_.map (V.int .i64)),.fn (.func 333) [.ptr 1000 0]] [(1000,.cells [.int .i64 jB.Credentials,.int .i64 jB.Resources,.sl (jB.Grants.map a0g.v),.sl (jB.Stores.map a0m.v),.sl (jB.Mints.map a1d.v)])] (fun z=>.bool z) (fun z=>[(1000,.cells [.int .i64 jB.Credentials,.int .i64 jB.Resources,.sl (jB.Grants.map a0g.v),.sl (jB.Stores.map a0m.v),.sl (jB.Mints.map a1d.v)])]):=wX Tryz.func85 [(1,⟨[],[.c 2 0 [1000] []],[]⟩)] [] [] [1000] (h:=fun _ _ h hQ M=>by unfold f7z at h;exact tX)
@[go_sem] def g64 (x_:o8) (gH:List Int) (a358:Int) (k479:Int) (a480:a1a) (x478:Unit):Option (Fl Unit Bool) :=
 (e1g x_ a358 a480).bind fun y494=>(d5x gH y494.1).bind fun y496=>bif (!y496) then some (.ex false) else some (.nx ())
@[go_sem] def g5c (x_:o8) (gH:List Int) (k357:Int) (a358:Int) (x356:Unit):Option (Fl Unit Bool) :=
 (F_y x_ a358).bind fun y459=>(forL (g64 x_ gH a358) y459 0 ()).bind fun o=>o.elim (fun x497=>some (.nx ())) (fun r498=>some (.ex r498))
def e3p (x_:o8) (gH:List Int):Option Bool :=
 (d5t x_).bind fun y13=>grp (((!decide (y13=0))||decide ((gH.length:Int)=0))) fun b14=>bif b14 then some false else (f5h gH).bind fun y15=>bif (!y15) then some false else (f7z gH x_).bind fun y16=>bif y16 then some false else (forL (g5c x_ gH) gH 0 ()).bind fun o=>o.elim (fun x499=>some true) (fun r500=>some r500)
def g36:List (Nat×RN):=[(1,⟨[],[.c 16 0 [2] []],[.v 4 7]⟩),(3,⟨[.gc [1,2]],[],[]⟩),(10,⟨[.gc [1,2,6,9,29,30,31,37,38,39]],[],[]⟩)]
@[irreducible] def d8t:MC:=rdc (cK Tryz.prog Tryz.f304 g36 [] 7)
@[irreducible] def e7m:MC:=rdc (cK Tryz.prog Tryz.f304 g36 [(7,d8t)] 4)
instance:LI d8t 39 38 [1,2,6,29,30,31,37,38] [2] (fun y:Unit=>[]) (fun y=>[]) []:=⟨⟩
instance:LI e7m 31 30 [1,2,29,30] [2] (fun y:Unit=>[]) (fun y=>[]) []:=⟨⟩
instance h7d {x_:o8} {gH:List Int}:WJ (e3p x_ gH) 304 [o8.v x_,.sl (gH.map (V.int .i64))] .bool:=wX Tryz.func304 g36 [(7,d8t),(4,e7m)] (h:=fun _ _ h hQ M=>by have:SwA [(1000,2)]:=⟨⟩;unfold e3p at h;exact tX)
@[go_sem] def g5b (gH:List Int) (k48:Int) (a49:a0g) (x47:List Int):Option (List Int) :=
 (d5x gH a49.Credential).bind fun y57=>bif y57 then chk (inb a49.Resource x47.length) (chk (inb a49.Resource x47.length) (some (x47.set ((a49.Resource).toNat) (max (x47.getD ((a49.Resource).toNat) default) a49.Right)))) else some x47
def f5g (x_:o8) (gH:List Int):Option (List Int) :=
 (e3p x_ gH).bind fun y4=>bif (!y4) then some [] else chk (b2y x_.Resources x_.Resources 8) ((foldL (g5b gH) x_.Grants 0 (List.replicate (x_.Resources).toNat 0)).bind fun x58=>some x58)
def g8h:List (Nat×RN):=[(4,⟨[.gc [1,2,5]],[],[]⟩)]
@[irreducible] def e7l:MC:=rdc (cK Tryz.prog Tryz.f274 g8h [] 5)
instance:LI e7l 18 17 [1,16,17] [] (fun y:List Int=>[(5,.osl 14 1 0 y.length)]) (fun y=>[.o 14 (.arr 1 (y.map (V.int .i64)))]) []:=⟨⟩
instance h69 {x_:o8} {gH:List Int}:WJ (f5g x_ gH) 274 [o8.v x_,.sl (gH.map (V.int .i64))] fun z=>.sl (z.map (V.int .i64)):=wX Tryz.func274 g8h [(5,e7l)] [.fz 4] (h:=fun _ _ h hQ M=>by unfold f5g at h;exact tX)
def f3w (x_:o8) (c_:Int):Option (List Int) :=
 (F_z x_ c_).bind fun y3=>(f5g x_ y3).bind fun y4=>some y4
instance h3q {x_:o8} {c_:Int}:WJ (f3w x_ c_) 233 [o8.v x_,.int .i64 c_] fun z=>.sl (z.map (V.int .i64)):=wX Tryz.func233 [] [] [.fz 4] (h:=fun _ _ h hQ M=>by unfold f3w at h;exact tX)
@[go_sem] def g5a (kC:List Int) (k32:Int) (a33:Int) (x31:Int):Option Int :=
 chk (inb k32 kC.length) (chk (a0w ((kC.getD (k32).toNat default)*a33)) (chk (a0w (x31+((kC.getD (k32).toNat default)*a33))) (some (x31+((kC.getD (k32).toNat default)*a33)))))
def f5f (x_:o8) (kC:List Int) (c_:Int):Option (Int×Int) :=
 (d5t x_).bind fun y4=>bif (!decide (y4=0)) then some (0,y4) else bif (!decide ((kC.length:Int)=x_.Resources)) then some (0,2) else (f8b kC).bind fun y10=>bif y10 then some (0,2) else grp ((decide (c_<0)||decide (x_.Credentials≤c_))) fun b12=>bif b12 then some (0,6) else (f3w x_ c_).bind fun y25=>(foldL (g5a kC) y25 0 0).bind fun x34=>some (x34,0)
def g8g:List (Nat×RN):=[(3,⟨[.gc [8]],[],[]⟩),(4,⟨[.gc [1,2,3,24,25,31,32,33,34]],[],[]⟩),(6,⟨[.gc [1,2,3,31,32,33,34]],[],[.v 3 7]⟩)]
@[irreducible] def e7k:MC:=rdc (cK Tryz.prog Tryz.f170 g8g [] 10)
instance:LI e7k 40 39 [1,38,39] [] (fun y:Int=>[(9,.int .i64 y)]) (fun y=>[]) []:=⟨⟩
instance h67 {x_:o8} {kC:List Int} {c_:Int}:WJ (f5f x_ kC c_) 170 [o8.v x_,.sl (kC.map (V.int .i64)),.int .i64 c_] fun z=>.tup [.int .i64 z.1,.int .i64 z.2]:=wX Tryz.func170 g8g [(10,e7k)] (h:=fun _ _ h hQ M=>by unfold f5f at h;exact tX)
def g6n (gJ:Int) (k16:Int) (a17:Int) (x15:Int):Option Int :=
 bif decide (a17≤gJ) then chk (a0w (x15+1)) (some (x15+1)) else some x15
def f6g (gJ:Int):Option Int :=
 (foldL (g6n gJ) [1,100,1000,10000] 0 0).bind fun x18=>some x18
def g91:List (Nat×RN):=[(2,⟨[],[.k 0 101],[]⟩)]
@[irreducible] def d2l:MC:=rdc (cK Tryz.prog Tryz.f171 g91 [] 3)
def e8v:MC:=rdc (cT Tryz.prog Tryz.f171 g91 [(3,d2l)])
instance h7t {gJ:Int}:WI (f6g gJ) Tryz.prog 171 [.int .i64 gJ] [] (fun z=>.int .i64 z) (fun z=>[]):=⟨fun Q Q' h hQ=>by
 refine a2m e8v [] [] [.t 2] Tryz.func171 fun M=>?_
 unfold f6g at h
 unfold e8v
 replace h:=tY h
 refine tB ?_
 repeat' (first
 | (exact tZ)
 | ((first|refine b5l h ?_|refine a5u h ?_|refine b5p h ?_|refine b5o h ?_|refine b5u h ?_|refine appG h ?_|refine b5w h ?_|refine fork h ?_ ?_|refine a5w h ?_ ?_)<;>clear h<;>intro hc h)
 | (refine M.fold1 (b:=d2l) 7 [0,6] [] (fun x=>[(3,.int .i64 x)]) (fun x=>[]) [] h ?_ ?_ ?_<;>first
 | (clear h;intro k a x Qn K hK1 hkN1 ha1 h hf;skip;clear hf;have hkd:=kD hkN1;have hkB1:=kB hkN1;have hkI1:=kI (k:=k) (by (try simp only [wA,wM] at hkN1);omega);have hkd1:decide ((k:Int)<4)=true:=wT (by simp only [wA,wM] at hkN1;omega);have hkr1:(0≤(k:Int)∧(k:Int)<4)=True:=eq_true (by simp only [wA,wM] at hkN1;omega);have hle1:(k*1≤3)=True:=eq_true (by simp only [wA,wM] at hkN1;omega);have hpt1:=d9u (f:=fun e:Int=>.int .i64 e) ha1 hkN1;(try simp only [go_sem,Nat.reduceBEq,Nat.reduceAdd,Nat.reduceLeDiff,Nat.reduceSub,Nat.reduceMul,Int.reduceToNat,Int.reduceLT,Int.reduceLE,xR,List.flatMap_nil,wZ,vF] at hpt1);unfold g6n at h;unfold d2l;replace h:=tY h;refine tKA ha1 hkd hkN1 hkB1 hkI1 hkd1 hkr1 hle1 hpt1 ?_)
  |(clear h;intro x K h;replace h:=And.left (And.intro h trivial);unfold d2l;replace h:=tY h;refine tB ?_)
  |(clear h;(try refine tB ?_);exact tU0;done))
 | (simp only [ha1])
 | (refine hK1 _ ?_;(try refine tB ?_);refine ⟨_,h,?_⟩;exact tU0;done)
 | (refine tE ?_;(first|rw [M.lok_compU]|rw [M.lokD_compU]);refine tB ?_)
 | (refine tA ?_)
 | fail)⟩
def f5e (x_:o8) (kC:List Int) (c_:Int) (gG:Int) (jK:Bool):Option (a00×Int) :=
 (f5f x_ kC c_).bind fun y2=>bif (!decide (y2.2=0)) then some ((a00.mk 0 0 0 0),y2.2) else grp ((decide (gG<0)||decide (24<gG))) fun b6=>bif b6 then some ((a00.mk 0 0 0 0),2) else chk (a0w (1+gG)) (jn (α:=a00) (bif jK then some (a00.mk 0 y2.1 100 0) else some (a00.mk 0 y2.1 (1+gG) 0)) fun j7=>chk (a0w (j7.Worth*j7.Audience)) ((f6g (j7.Worth*j7.Audience)).bind fun y9=>some ((a00.mk y9 j7.Worth j7.Audience (j7.Worth*j7.Audience)),0)))
def g8f:List (Nat×RN):=[(3,⟨[.gc [10,13]],[],[]⟩),(4,⟨[.gc [3,4,10,12,29,30]],[],[.v 3 5]⟩),(11,⟨[.gc [10,14]],[],[]⟩)]
@[irreducible] def e66:MC:=rdc (cK Tryz.prog Tryz.f87 g8f [] 10000009)
instance:LI e66 0 0 [10,14] [10] (fun y:a00=>[]) (fun y=>[.o 14 (.cells [.int .i64 y.Level,.int .i64 y.Worth,.int .i64 y.Audience,.int .i64 y.Score])]) []:=⟨⟩
instance h66 {x_:o8} {kC:List Int} {c_ gG:Int} {jK:Bool}:WJ (f5e x_ kC c_ gG jK) 87 [o8.v x_,.sl (kC.map (V.int .i64)),.int .i64 c_,.int .i64 gG,.bool jK] fun z=>.tup [a00.v z.1,.int .i64 z.2]:=wX Tryz.func87 g8f [(10000009,e66)] (h:=fun _ _ h hQ M=>by unfold f5e at h;exact tX)
@[go_sem] def g59 (l_:List a00) (k18:Int) (a19:a00) (x17:Int):Option Int :=
 chk (inb x17 l_.length) (bif decide ((l_.getD (x17).toNat default).Score<a19.Score) then some k18 else some x17)
def f3v (l_:List a00):Option (Int×Bool) :=
 (foldL (g59 l_) l_ 0 0).bind fun x20=>some (x20,decide (0<(l_.length:Int)))
@[irreducible] def e7j:MC:=rdc (cK Tryz.prog Tryz.f88 [] [] 3)
instance:LI e7j 9 8 [0,7,8] [] (fun y:Int=>[(4,.int .i64 y)]) (fun y=>[]) []:=⟨⟩
instance h3p {l_:List a00}:WJ (f3v l_) 88 [.sl (l_.map a00.v)] fun z=>.tup [.int .i64 z.1,.bool z.2]:=wX Tryz.func88 [] [(3,e7j)] (h:=fun _ _ h hQ M=>by unfold f3v at h;exact tX)
@[go_sem] def g58 (m_:o9) (x_:o8) (kC:List Int) (k63:Int) (a64:Int) (x62:List a00):Option (Fl (List a00) (Int×o9)) :=
 (f5e x_ kC a64 m_.Readers m_.Public).bind fun y72=>bif (!decide (y72.2=0)) then some (.ex (y72.2,m_)) else chk (room (x62.length+[y72.1].length) 32) (some (.nx (x62++[y72.1])))
def d60 (m_:o9) (r_:l7) (x_:o8) (kC:List Int):Option (Int×o9) :=
 (F_w r_).bind fun y4=>bif (!decide (y4=0)) then some (y4,m_) else (d5t x_).bind fun y8=>bif (!decide (y8=0)) then some (y8,m_) else (e1q r_ m_.Fingerprint).bind fun y10=>bif (!decide ((kC.length:Int)=x_.Resources)) then some (2,m_) else (f3z kC).bind fun y17=>bif y17 then some (2,m_) else (f3y y10 x_).bind fun y18=>bif y18 then some (2,m_) else (forL (g58 m_ x_ kC) y10 0 []).bind fun o=>o.elim (fun x73=>(f3v x73).bind fun y78=>bif y78.2 then chk (inb y78.1 x73.length) (some (0,(o9.mk m_.Fingerprint m_.Spots m_.Public m_.Readers m_.Since (x73.getD (y78.1).toNat default) m_.Rotated m_.Dead))) else some (0,m_)) (fun r74=>some r74)
def g90:List (Nat×RN):=[(4,⟨[.gc [0,3,5,6,42,43,44,47,48,49]],[],[]⟩),(9,⟨[.gc [0,3,6,11,12,42,43,44,47,48,49]],[.c 13 0 [6] []],[]⟩),(11,⟨[],[.k 0 1],[]⟩),(12,⟨[.gc [0,3,6,12,13]],[],[]⟩),(18,⟨[.gc [0,3,6,13,16,51,52,53]],[],[]⟩),(20,⟨[],[],[.n 1 (.fz 81)]⟩),(22,⟨[.gc [0,13,18]],[],[]⟩)]
@[irreducible] def e7i:MC:=rdc (cK Tryz.prog Tryz.f41 g90 [] 13)
instance:LI e7i 53 52 [0,3,6,51,52] [6,1000] (fun y:List a00=>[(13,.osl 2013 4 0 y.length)]) (fun y=>[.o 2013 (.arr 4 (y.map a00.v))]) [.gc [0,3,6,13,51,52,53],.acc 13 2013 4]:=⟨⟩
instance h7s {m_:o9} {r_:l7} {x_:o8} {kC:List Int}:WI (d60 m_ r_ x_ kC) Tryz.prog 41 [.ptr 1000 0,l7.v r_,o8.v x_,.sl (kC.map (V.int .i64))] [(1000,.cells [.int .u64 m_.Fingerprint,.int .i64 m_.Spots,.bool m_.Public,.int .i64 m_.Readers,.int .i64 m_.Since,.int .i64 m_.Severity.Level,.int .i64 m_.Severity.Worth,.int .i64 m_.Severity.Audience,.int .i64 m_.Severity.Score,.bool m_.Rotated,.bool m_.Dead])] (fun z=>.int .i64 z.1) (fun z=>[(1000,.cells [.int .u64 z.2.Fingerprint,.int .i64 z.2.Spots,.bool z.2.Public,.int .i64 z.2.Readers,.int .i64 z.2.Since,.int .i64 z.2.Severity.Level,.int .i64 z.2.Severity.Worth,.int .i64 z.2.Severity.Audience,.int .i64 z.2.Severity.Score,.bool z.2.Rotated,.bool z.2.Dead])]):=wX Tryz.func41 g90 [(13,e7i)] [] [1000] (h:=fun _ _ h hQ M=>by have:SwA [(1000,6)]:=⟨⟩;unfold d60 at h;exact tX)
set_option maxRecDepth 20000
set_option maxHeartbeats 2000000
@[go_sem] def g57 (d_:d9) (a_:l5) (jA:Int) (x26:Int×(List a01)):Option (Fl (Int×(List a01)) (List a01)) :=
 bif decide (x26.1<(d_.Kinds.length:Int)) then jn (α:=List a01) ((F_v d_ a_ jA x26.1).bind fun y34=>bif y34.2 then chk (room (x26.2.length+[(a01.mk x26.1 y34.1)].length) 16) (some (x26.2++[(a01.mk x26.1 y34.1)])) else some x26.2) fun j32=>chk (a0w (x26.1+1)) (some (.nx ((x26.1+1),j32))) else some (.ex x26.2)
def f5w (d_:d9) (a_:l5) (jA:Int):Option ((List a01)×Int) :=
 (e1j d_ a_ jA).bind fun y4=>bif (!decide (y4=0)) then some ([],y4) else (loop (g57 d_ a_ jA) ((-1),[])).bind fun r35=>some (r35,0)
def g31:List (Nat×RN):=[(3,⟨[.gc [8]],[],[]⟩),(4,⟨[],[.k 0 1],[]⟩),(10,⟨[.gc [2,3,4,9,10,11]],[],[]⟩)]
@[irreducible] def d8e:MC:=rdc (cK Tryz.prog Tryz.f82 g31 [] 10000007)
@[irreducible] def e7h:MC:=rdc (cK Tryz.prog Tryz.f82 g31 [(10000007,d8e)] 6)
instance:LI d8e 0 0 [2,3,4,10] [4,3] (fun y:List a01=>[(9,.osl 2009 2 0 y.length)]) (fun y=>[.o 2009 (.arr 2 (y.map a01.v))]) [.gc [2,3,4,9,10],.acc 9 2009 2]:=⟨⟩
instance:LI e7h 0 0 [2,3,4] [4,3] (fun y:Int×(List a01)=>[(9,.osl 2009 2 0 y.2.length),(10,.int .i64 y.1)]) (fun y=>[.o 2009 (.arr 2 (y.2.map a01.v))]) [.gc [2,3,4,9,10],.acc 9 2009 2]:=⟨⟩
instance h6y {d_:d9} {a_:l5} {jA:Int}:WJ (f5w d_ a_ jA) 82 [d9.v d_,l5.v a_,.int .i64 jA] fun z=>.tup [.sl (z.1.map a01.v),.int .i64 z.2]:=wX Tryz.func82 g31 [(10000007,d8e),(6,e7h)] [.fz 6] (h:=fun _ _ h hQ M=>by unfold f5w at h;exact tX)
@[go_sem] def f4m (k32:Int) (a33:a01) (x31:o9):Option o9 :=
 jn (α:=o9) (bif decide (a33.Principal=(-1)) then some (o9.mk x31.Fingerprint x31.Spots true x31.Readers x31.Since x31.Severity x31.Rotated x31.Dead) else chk (a0w (x31.Readers+1)) (some (o9.mk x31.Fingerprint x31.Spots x31.Public (x31.Readers+1) x31.Since x31.Severity x31.Rotated x31.Dead))) fun j37=>bif decide (j37.Since=(-1)) then some (o9.mk j37.Fingerprint j37.Spots j37.Public j37.Readers a33.Time j37.Severity j37.Rotated j37.Dead) else bif decide (a33.Time<j37.Since) then some (o9.mk j37.Fingerprint j37.Spots j37.Public j37.Readers a33.Time j37.Severity j37.Rotated j37.Dead) else some j37
def f5v (m_:o9) (d_:d9) (a_:l5) (jA:Int):Option (Int×o9) :=
 (f5w d_ a_ jA).bind fun y2=>bif (!decide (y2.2=0)) then some (y2.2,m_) else (foldL f4m y2.1 0 (o9.mk m_.Fingerprint m_.Spots m_.Public m_.Readers (-1) m_.Severity m_.Rotated m_.Dead)).bind fun x38=>some (0,x38)
def g30:List (Nat×RN):=[(4,⟨[.gc [0,9,51,52,53,54,55,56,57]],[],[]⟩)]
@[irreducible] def d8d:MC:=rdc (cK Tryz.prog Tryz.f40 g30 [] 10000011)
@[irreducible] def e8g:MC:=rdc (cK Tryz.prog Tryz.f40 g30 [(10000011,d8d)] 6)
instance:LI d8d 0 0 [0,12,26,27,28] [12] (fun y:o9=>[]) (fun y=>[.o 1000 (.cells [.int .u64 y.Fingerprint,.int .i64 y.Spots,.bool y.Public,.int .i64 y.Readers,.int .i64 y.Since,.int .i64 y.Severity.Level,.int .i64 y.Severity.Worth,.int .i64 y.Severity.Audience,.int .i64 y.Severity.Score,.bool y.Rotated,.bool y.Dead])]) []:=⟨⟩
instance:LI e8g 28 27 [0,26,27] [] (fun y:o9=>[]) (fun y=>[.o 1000 (.cells [.int .u64 y.Fingerprint,.int .i64 y.Spots,.bool y.Public,.int .i64 y.Readers,.int .i64 y.Since,.int .i64 y.Severity.Level,.int .i64 y.Severity.Worth,.int .i64 y.Severity.Audience,.int .i64 y.Severity.Score,.bool y.Rotated,.bool y.Dead])]) []:=⟨⟩
instance h6x {m_:o9} {d_:d9} {a_:l5} {jA:Int}:WI (f5v m_ d_ a_ jA) Tryz.prog 40 [.ptr 1000 0,d9.v d_,l5.v a_,.int .i64 jA] [(1000,.cells [.int .u64 m_.Fingerprint,.int .i64 m_.Spots,.bool m_.Public,.int .i64 m_.Readers,.int .i64 m_.Since,.int .i64 m_.Severity.Level,.int .i64 m_.Severity.Worth,.int .i64 m_.Severity.Audience,.int .i64 m_.Severity.Score,.bool m_.Rotated,.bool m_.Dead])] (fun z=>.int .i64 z.1) (fun z=>[(1000,.cells [.int .u64 z.2.Fingerprint,.int .i64 z.2.Spots,.bool z.2.Public,.int .i64 z.2.Readers,.int .i64 z.2.Since,.int .i64 z.2.Severity.Level,.int .i64 z.2.Severity.Worth,.int .i64 z.2.Severity.Audience,.int .i64 z.2.Severity.Score,.bool z.2.Rotated,.bool z.2.Dead])]):=wX Tryz.func40 g30 [(10000011,d8d),(6,e8g)] [] [1000] (h:=fun _ _ h hQ M=>by unfold f5v at h;exact tX)
def d0o (x_:Int) (qD:Int) (jC:Int):Option Bool :=
 grp ((decide (qD≤x_)&&decide (x_≤jC))) fun b2=>some b2
instance h7c {x_ qD jC:Int}:WJ (d0o x_ qD jC) 121 [.int .i64 x_,.int .i64 qD,.int .i64 jC] .bool:=wX Tryz.func121 [(1,⟨[],[],[.v 4 7]⟩)] (h:=fun _ _ h hQ M=>by unfold d0o at h;exact tX)
def F_h (d_:d9) (p_:Int):Option Bool := chk (a0w ((d_.Kinds.length:Int) - 1)) ((d0o p_ 0 ((d_.Kinds.length:Int) - 1)).bind fun y2=>some y2)
instance h8v {d_:d9} {p_:Int}:WJ (F_h d_ p_) 122 [d9.v d_,.int .i64 p_] .bool:=wX Tryz.func122 (h:=fun _ _ h hQ M=>by unfold F_h at h;exact tX)
def e1f (d_:d9) (p_:Int):Option Bool :=
 (F_h d_ p_).bind fun y3=>jn (α:=Bool) (bif y3 then chk (inb p_ d_.Kinds.length) (some (decide ((d_.Kinds.getD (p_).toNat default)=2))) else some false) fun j4=>some j4
instance f0c {m:List MOp}:GI (gjt 1230104 m) [4] [] (fun y:Bool=>[(15,.bool y)]) (fun y=>[]):=⟨⟩
instance h5b {d_:d9} {p_:Int}:WJ (e1f d_ p_) 123 [d9.v d_,.int .i64 p_] .bool:=wX Tryz.func123 [(1,⟨[],[],[.w 4 10 1230104]⟩)] (h:=fun _ _ h hQ M=>by unfold e1f at h;exact tX)
@[go_sem] def g63 (k35:Int) (a36:Int) (x34:Unit):Option (Fl Unit Bool) :=
 (d0o a36 1 3).bind fun y44=>bif (!y44) then some (.ex false) else some (.nx ())
@[go_sem] def g56 (d_:d9) (k177:Int) (a178:a0n) (x176:Unit):Option (Fl Unit Bool) :=
 (d0o a178.Kind 1 2).bind fun y221=>bif (!y221) then some (.ex false) else (d0o a178.Time 0 1099511627776).bind fun y222=>bif (!y222) then some (.ex false) else bif decide (0<k177) then chk (a0w (k177 - 1)) (chk (inb (k177 - 1) d_.Events.length) (bif decide (a178.Time<(d_.Events.getD ((k177 - 1)).toNat default).Time) then some (.ex false) else (F_h d_ a178.Principal).bind fun y223=>bif (!y223) then some (.ex false) else (e1f d_ a178.Group).bind fun y224=>bif (!y224) then some (.ex false) else bif decide (a178.Principal=a178.Group) then some (.ex false) else some (.nx ()))) else (F_h d_ a178.Principal).bind fun y225=>bif (!y225) then some (.ex false) else (e1f d_ a178.Group).bind fun y226=>bif (!y226) then some (.ex false) else bif decide (a178.Principal=a178.Group) then some (.ex false) else some (.nx ())
def F_i (d_:d9):Option Bool := grp ((decide (24<(d_.Kinds.length:Int))||decide (120<(d_.Events.length:Int)))) fun b4=>bif b4 then some false else (forL g63 d_.Kinds 0 ()).bind fun o=>o.elim (fun x45=>(forL (g56 d_) d_.Events 0 ()).bind fun o=>o.elim (fun x227=>some true) (fun r228=>some r228)) (fun r46=>some r46)
def a_i:List (Nat×RN):=[(1,⟨[],[],[.v 5 9]⟩),(3,⟨[.gc [1,41,42,43,44,47,48,49,50,51,52,53,54,55,56,57,58,59,60,63,64,65,66,67,70,71,72,73,74,77,78,79,80,81]],[],[]⟩)]
@[irreducible] def d8s:MC:=rdc (cK Tryz.prog Tryz.f59 a_i [] 4)
@[irreducible] def e7g:MC:=rdc (cK Tryz.prog Tryz.f59 a_i [(4,d8s)] 10)
instance:LI d8s 20 19 [1,18,19] [1] (fun y:Unit=>[]) (fun y=>[]) []:=⟨⟩
instance:LI e7g 31 30 [1,29,30] [1] (fun y:Unit=>[]) (fun y=>[]) []:=⟨⟩
instance h8u {d_:d9}:WJ (F_i d_) 59 [d9.v d_] .bool:=wX Tryz.func59 a_i [(4,d8s),(10,e7g)] (h:=fun _ _ h hQ M=>by unfold F_i at h;exact tX)
def F_j (x_:Int) (qD:Int) (jC:Int):Option Bool := grp ((decide (qD≤x_)&&decide (x_≤jC))) fun b2=>some b2
instance h8t {x_ qD jC:Int}:WJ (F_j x_ qD jC) 124 [.int .i64 x_,.int .i64 qD,.int .i64 jC] .bool:=wX Tryz.func124 [(1,⟨[],[],[.v 4 7]⟩)] (h:=fun _ _ h hQ M=>by unfold F_j at h;exact tX)
def f5u (a_:l5) (x_:o7):Option Bool :=
 (F_j x_.Time 0 1099511627776).bind fun y7=>bif (!y7) then some false else chk (a0w (a_.Places - 1)) ((F_j x_.Place 0 (a_.Places - 1)).bind fun y8=>bif (!y8) then some false else jn (α:=Bool) (bif decide (x_.Kind=1) then some true else some (decide (x_.Kind=2))) fun j29=>bif j29 then jn (α:=Bool) (bif (decide (x_.Time=x_.Time)&&(decide (x_.Kind=x_.Kind)&&(decide (x_.Place=x_.Place)&&(decide (x_.Principal=x_.Principal)&&(decide (x_.Until=0)&&(decide (x_.Content=0)&&decide (x_.From=0))))))) then (F_j x_.Principal 0 23).bind fun y33=>some y33 else some false) fun j34=>some j34 else bif decide (x_.Kind=3) then grp (((decide (x_.Time=x_.Time)&&(decide (x_.Kind=x_.Kind)&&(decide (x_.Place=x_.Place)&&(decide (x_.Principal=0)&&(decide (x_.Until=x_.Until)&&(decide (x_.Content=0)&&decide (x_.From=0)))))))&&decide (x_.Time<x_.Until))) fun b37=>grp ((b37&&decide (x_.Until≤1099511627776))) fun b38=>some b38 else bif decide (x_.Kind=4) then some (decide (x_.Time=x_.Time)&&(decide (x_.Kind=x_.Kind)&&(decide (x_.Place=x_.Place)&&(decide (x_.Principal=0)&&(decide (x_.Until=0)&&(decide (x_.Content=0)&&decide (x_.From=0))))))) else jn (α:=Bool) (bif decide (x_.Kind=5) then some true else some (decide (x_.Kind=6))) fun j39=>bif j39 then jn (α:=Bool) (bif (decide (x_.Time=x_.Time)&&(decide (x_.Kind=x_.Kind)&&(decide (x_.Place=x_.Place)&&(decide (x_.Principal=0)&&(decide (x_.Until=0)&&(decide (x_.Content=x_.Content)&&decide (x_.From=0))))))) then (F_j x_.Content 0 63).bind fun y43=>some y43 else some false) fun j44=>some j44 else bif decide (x_.Kind=7) then jn (α:=Bool) (bif (decide (x_.Time=x_.Time)&&(decide (x_.Kind=x_.Kind)&&(decide (x_.Place=x_.Place)&&(decide (x_.Principal=0)&&(decide (x_.Until=0)&&(decide (x_.Content=0)&&decide (x_.From=x_.From))))))) then chk (a0w (a_.Places - 1)) ((F_j x_.From 0 (a_.Places - 1)).bind fun y49=>some y49) else some false) fun j50=>grp ((j50&&(!decide (x_.From=x_.Place)))) fun b51=>some b51 else some false)
def g2z:List (Nat×RN):=[(3,⟨[.gc [2,3,38,39,40,51,52,53,54,55,58,59,60,77,78,79,90,91,92,93,94,95,98,99,100,101,102]],[],[]⟩),(8,⟨[],[],[.w 4 7 1250804]⟩),(11,⟨[.gc [3,5,51,52,53,54,55,58,59,60]],[],[.v 4 9,.v 11 14]⟩),(17,⟨[],[],[.w 4 7 1251704]⟩),(20,⟨[],[],[.w 4 10 1252004,.v 12 17]⟩)]
@[irreducible] def d8c:MC:=rdc (cK Tryz.prog Tryz.f125 g2z [] 10000016)
@[irreducible] def e5z:MC:=rdc (cK Tryz.prog Tryz.f125 g2z [(10000016,d8c)] 10000007)
instance f0b {m:List MOp}:GI (gjt 1250804 m) [] [] (fun y:Bool=>[(41,.bool y)]) (fun y=>[]):=⟨⟩
instance f09 {m:List MOp}:GI (gjt 1251704 m) [] [] (fun y:Bool=>[(80,.bool y)]) (fun y=>[]):=⟨⟩
instance f08 {m:List MOp}:GI (gjt 1252004 m) [3] [3] (fun y:Bool=>[(96,.bool y)]) (fun y=>[]):=⟨⟩
instance:LI d8c 0 0 [2,3,5,27] [5,3,2] (fun y:Bool=>[(67,.bool y)]) (fun y=>[]) []:=⟨⟩
instance:LI e5z 0 0 [2,3,5,27] [5,3,2] (fun y:Bool=>[(28,.bool y)]) (fun y=>[]) []:=⟨⟩
instance h6v {a_:l5} {x_:o7}:WJ (f5u a_ x_) 125 [l5.v a_,o7.v x_] .bool:=wX Tryz.func125 g2z [(10000016,d8c),(10000007,e5z)] (h:=fun _ _ h hQ M=>by unfold f5u at h;exact tX)
@[go_sem] def f8z (a_:l5) (k39:Int) (a40:o7) (x38:Unit):Option (Fl Unit Bool) :=
 (f5u a_ a40).bind fun y48=>bif (!y48) then some (.ex false) else bif decide (0<k39) then chk (a0w (k39 - 1)) (chk (inb (k39 - 1) a_.Events.length) (bif decide (a40.Time<(a_.Events.getD ((k39 - 1)).toNat default).Time) then some (.ex false) else some (.nx ()))) else some (.nx ())
def F_k (a_:l5):Option Bool := (F_j a_.Places 1 16).bind fun y7=>grp (((!y7)||decide (120<(a_.Events.length:Int)))) fun b8=>bif b8 then some false else (forL (f8z a_) a_.Events 0 ()).bind fun o=>o.elim (fun x49=>some true) (fun r50=>some r50)
def a_k:List (Nat×RN):=[(1,⟨[],[],[.v 5 9]⟩),(3,⟨[.gc [1,28,29,30,31,32,33,34,35,36,37,38,39,40,41]],[],[]⟩)]
@[irreducible] def e89:MC:=rdc (cK Tryz.prog Tryz.f60 a_k [] 4)
instance:LI e89 18 17 [1,16,17] [1] (fun y:Unit=>[]) (fun y=>[]) []:=⟨⟩
instance h8s {a_:l5}:WJ (F_k a_) 60 [l5.v a_] .bool:=wX Tryz.func60 a_k [(4,e89)] (h:=fun _ _ h hQ M=>by unfold F_k at h;exact tX)
def e2x (d_:d9) (p_:Int):Option Bool :=
 (F_h d_ p_).bind fun y3=>jn (α:=Bool) (bif y3 then chk (inb p_ d_.Kinds.length) (some (!decide ((d_.Kinds.getD (p_).toNat default)=2))) else some false) fun j4=>some j4
instance e9x {m:List MOp}:GI (gjt 1970104 m) [4] [] (fun y:Bool=>[(15,.bool y)]) (fun y=>[]):=⟨⟩
instance h4k {d_:d9} {p_:Int}:WJ (e2x d_ p_) 197 [d9.v d_,.int .i64 p_] .bool:=wX Tryz.func197 [(1,⟨[],[],[.w 4 10 1970104]⟩)] (h:=fun _ _ h hQ M=>by unfold e2x at h;exact tX)
def e1e (d_:d9) (a_:l5) (jA:Int) (p_:Int):Option Bool :=
 (F_i d_).bind fun y8=>jn (α:=Bool) (bif y8 then (F_k a_).bind fun y10=>some y10 else some false) fun j11=>grp ((j11&&decide (0≤jA))) fun b12=>grp ((b12&&decide (jA≤63))) fun b13=>jn (α:=Bool) (bif b13 then bif decide (p_=(-1)) then some true else (e2x d_ p_).bind fun y15=>some y15 else some false) fun j16=>some j16
instance f06 {m:List MOp}:GI (gjt 1260115 m) [8] [] (fun y:Bool=>[(31,.bool y)]) (fun y=>[]):=⟨⟩
instance f07 {m:List MOp}:GI (gjt 1260103 m) [2,3,4,8] [4] (fun y:Bool=>[(14,.bool y)]) (fun y=>[]):=⟨⟩
instance h5a {d_:d9} {a_:l5} {jA p_:Int}:WJ (e1e d_ a_ jA p_) 126 [d9.v d_,l5.v a_,.int .i64 jA,.int .i64 p_] .bool:=wX Tryz.func126 [(1,⟨[],[],[.w 3 5 1260103,.v 7 9,.v 11 13,.w 15 22 1260115]⟩)] (h:=fun _ _ h hQ M=>by unfold e1e at h;exact tX)
@[go_sem] def g55 (k20:Int) (a21:o7) (x19:List Int):Option (List Int) :=
 bif decide ((x19.length:Int)=0) then chk (room (x19.length+[a21.Time].length) 8) (some (x19++[a21.Time])) else chk (a0w ((x19.length:Int) - 1)) (chk (inb ((x19.length:Int) - 1) x19.length) (bif (!decide (x19.getD ((((x19.length:Int) - 1)).toNat) default=a21.Time)) then chk (room (x19.length+[a21.Time].length) 8) (some (x19++[a21.Time])) else some x19))
def f5d (a_:l5):Option (List Int) :=
 (F_k a_).bind fun y4=>bif (!y4) then some [] else (foldL g55 a_.Events 0 []).bind fun x22=>some x22
def g8e:List (Nat×RN):=[(0,⟨[],[.k 1 1],[]⟩),(2,⟨[],[.k 0 1],[]⟩),(3,⟨[],[.k 0 1],[]⟩),(8,⟨[.gc [3,5,10,11,12,20,21,22,23,24,25,26,27,28]],[],[]⟩)]
@[irreducible] def e7f:MC:=rdc (cK Tryz.prog Tryz.f198 g8e [] 5)
instance:LI e7f 12 11 [10,11] [] (fun y:List Int=>[(3,.osl 2003 1 0 y.length)]) (fun y=>[.o 2003 (.arr 1 (y.map (V.int .i64)))]) [.gc [3,10,11,12],.acc 3 2003 1]:=⟨⟩
instance h65 {a_:l5}:WI (f5d a_) Tryz.prog 198 [l5.v a_] [] (fun z=>.osl 1900 1 0 z.length) (fun z=>[(1900,.arr 1 (z.map (V.int .i64)))]):=wX Tryz.func198 g8e [(5,e7f)] [.acc 2 1900 1] [1900] (h:=fun _ _ h hQ M=>by unfold f5d at h;exact tX)
@[go_sem] def g62 (x129:List Int) (a131:a0n) (x162:Int):Option (Fl Int Int) :=
 bif decide (x162<(x129.length:Int)) then chk (inb x162 x129.length) (bif decide (x129.getD ((x162).toNat) default<a131.Time) then chk (a0w (x162+1)) (some (.nx (x162+1))) else some (.ex x162)) else some (.ex x162)
@[go_sem] def g54 (k130:Int) (a131:a0n) (x129:List Int):Option (List Int) :=
 (loop (g62 x129 a131) 0).bind fun r163=>bif decide (r163=(x129.length:Int)) then chk (inc 0 r163 x129.length) (chk (inc r163 (x129.length:Int) x129.length) (chk (room ([a131.Time].length+((x129.drop ((r163).toNat)).take (x129.length - (r163).toNat)).length) 8) (chk (c0u 0 ((r163).toNat) x129.length ([a131.Time]++(x129.drop ((r163).toNat)).take (x129.length - (r163).toNat)).length 8) (some (x129.take ((r163).toNat)++([a131.Time]++(x129.drop ((r163).toNat)).take (x129.length - (r163).toNat))))))) else chk (inb r163 x129.length) (bif (!decide (x129.getD ((r163).toNat) default=a131.Time)) then chk (inc 0 r163 x129.length) (chk (inc r163 (x129.length:Int) x129.length) (chk (room ([a131.Time].length+((x129.drop ((r163).toNat)).take (x129.length - (r163).toNat)).length) 8) (chk (c0u 0 ((r163).toNat) x129.length ([a131.Time]++(x129.drop ((r163).toNat)).take (x129.length - (r163).toNat)).length 8) (some (x129.take ((r163).toNat)++([a131.Time]++(x129.drop ((r163).toNat)).take (x129.length - (r163).toNat))))))) else some x129)
def f5t (d_:d9) (a_:l5):Option (List Int) :=
 (f5d a_).bind fun y2=>(foldL g54 d_.Events 0 y2).bind fun x164=>some x164
def g2y:List (Nat×RN):=[(1,⟨[],[.c 1 0 [] [10]],[]⟩),(9,⟨[],[.k 10 5],[]⟩)]
@[irreducible] def d8r:MC:=rdc (cK Tryz.prog Tryz.f127 g2y [] 6)
@[irreducible] def e7e:MC:=rdc (cK Tryz.prog Tryz.f127 g2y [(6,d8r)] 3)
instance:LI d8r 0 0 [5,7,12,13,14] [7,2005] (fun y:Int=>[(8,.int .i64 y)]) (fun y=>[]) []:=⟨⟩
instance:LI e7e 14 13 [12,13] [] (fun y:List Int=>[(5,.osl 2005 1 0 y.length)]) (fun y=>[.o 2005 (.arr 1 (y.map (V.int .i64)))]) [.gc [5,12,13,14],.acc 5 2005 1]:=⟨⟩
instance h6u {d_:d9} {a_:l5}:WJ (f5t d_ a_) 127 [d9.v d_,l5.v a_] fun z=>.sl (z.map (V.int .i64)):=wX Tryz.func127 g2y [(6,d8r),(3,e7e)] [.fz 4] (h:=fun _ _ h hQ M=>by have:SwA [(1900,10)]:=⟨⟩;unfold f5t at h;exact tX)
def f3u (a_:l5) (jA:Int):Option Bool :=
 (F_k a_).bind fun y4=>grp ((y4&&decide (0≤jA))) fun b5=>grp ((b5&&decide (jA≤63))) fun b6=>some b6
instance h3o {a_:l5} {jA:Int}:WJ (f3u a_ jA) 247 [l5.v a_,.int .i64 jA] .bool:=wX Tryz.func247 [(1,⟨[],[],[.v 3 5,.v 7 9]⟩)] (h:=fun _ _ h hQ M=>by unfold f3u at h;exact tX)
@[go_sem] def g53 (a_:l5) (t_:Int) (x7:Int):Option (Fl Int Int) :=
 bif decide (x7<(a_.Events.length:Int)) then chk (inb x7 a_.Events.length) (bif decide ((a_.Events.getD (x7).toNat default).Time≤t_) then chk (a0w (x7+1)) (some (.nx (x7+1))) else some (.ex x7)) else some (.ex x7)
def f3t (a_:l5) (t_:Int):Option Int :=
 (loop (g53 a_ t_) 0).bind fun r8=>some r8
@[irreducible] def e7d:MC:=rdc (cK Tryz.prog Tryz.f249 [] [] 2)
instance:LI e7d 0 0 [1,2] [2] (fun y:Int=>[(5,.int .i64 y)]) (fun y=>[]) []:=⟨⟩
instance h3n {a_:l5} {t_:Int}:WJ (f3t a_ t_) 249 [l5.v a_,.int .i64 t_] (.int .i64):=wX Tryz.func249 [] [(2,e7d)] (h:=fun _ _ h hQ M=>by unfold f3t at h;exact tX)
@[go_sem] def f8y (jA:Int) (k16:Int) (a17:o7) (x15:List Bool):Option (List Bool) :=
 bif decide (a17.Kind=5) then chk (inb a17.Place x15.length) (bif x15.getD ((a17.Place).toNat) default then chk (inb a17.Place x15.length) (some (x15.set ((a17.Place).toNat) true)) else chk (inb a17.Place x15.length) (some (x15.set ((a17.Place).toNat) (decide (a17.Content=jA))))) else bif decide (a17.Kind=6) then chk (inb a17.Place x15.length) (bif x15.getD ((a17.Place).toNat) default then chk (inb a17.Place x15.length) (some (x15.set ((a17.Place).toNat) (!decide (a17.Content=jA)))) else chk (inb a17.Place x15.length) (some (x15.set ((a17.Place).toNat) false))) else bif decide (a17.Kind=7) then chk (inb a17.Place x15.length) (bif x15.getD ((a17.Place).toNat) default then chk (inb a17.Place x15.length) (some (x15.set ((a17.Place).toNat) true)) else chk (inb a17.From x15.length) (chk (inb a17.Place x15.length) (some (x15.set ((a17.Place).toNat) (x15.getD ((a17.From).toNat) default))))) else some x15
def f5c (a_:l5) (jA:Int) (n_:Int):Option (List Bool) :=
 chk (b2y a_.Places a_.Places 1) (chk (inc 0 n_ a_.Events.length) ((foldL (f8y jA) (a_.Events.take ((n_).toNat)) 0 (List.replicate (a_.Places).toNat false)).bind fun x18=>some x18))
def g8d:List (Nat×RN):=[(9,⟨[.gc [1,7,9,16,17,18,35,36,37,38,52,53,54,55,69,70,71,72,73]],[],[]⟩),(11,⟨[.gc [1,7,9,16,17,18,35,36,37,38,52,53,54,55,69,70,71,72,73]],[],[]⟩)]
@[irreducible] def e88:MC:=rdc (cK Tryz.prog Tryz.f248 g8d [] 3)
instance:LI e88 18 17 [1,16,17] [] (fun y:List Bool=>[(7,.osl 12 1 0 y.length)]) (fun y=>[.o 12 (.arr 1 (y.map V.bool))]) []:=⟨⟩
instance h62 {a_:l5} {jA n_:Int}:WJ (f5c a_ jA n_) 248 [l5.v a_,.int .i64 jA,.int .i64 n_] fun z=>.sl (z.map V.bool):=wX Tryz.func248 g8d [(3,e88)] [.fz 6] (h:=fun _ _ h hQ M=>by unfold f5c at h;exact tX)
@[go_sem] def f8x (k28:Int) (a29:Bool) (x27:List Int):Option (List Int) :=
 bif a29 then chk (room (x27.length+[k28].length) 8) (some (x27++[k28])) else some x27
def f5b (a_:l5) (jA:Int) (t_:Int):Option (List Int) :=
 (f3u a_ jA).bind fun y4=>bif (!y4) then some [] else (f3t a_ t_).bind fun y20=>(f5c a_ jA y20).bind fun y21=>(foldL f8x y21 0 []).bind fun x30=>some x30
def g8c:List (Nat×RN):=[(3,⟨[],[.k 0 1],[]⟩)]
@[irreducible] def e87:MC:=rdc (cK Tryz.prog Tryz.f199 g8c [] 5)
instance:LI e87 21 20 [19,20] [] (fun y:List Int=>[(7,.osl 2007 1 0 y.length)]) (fun y=>[.o 2007 (.arr 1 (y.map (V.int .i64)))]) [.gc [7,19,20,21],.acc 7 2007 1]:=⟨⟩
instance h61 {a_:l5} {jA t_:Int}:WJ (f5b a_ jA t_) 199 [l5.v a_,.int .i64 jA,.int .i64 t_] fun z=>.sl (z.map (V.int .i64)):=wX Tryz.func199 g8c [(5,e87)] [.fz 6] (h:=fun _ _ h hQ M=>by unfold f5b at h;exact tX)
def e1d (a_:l5) (qA:Int):Option Bool :=
 (F_k a_).bind fun y4=>jn (α:=Bool) (bif y4 then chk (a0w (a_.Places - 1)) ((F_j qA 0 (a_.Places - 1)).bind fun y6=>some y6) else some false) fun j7=>some j7
instance e9t {m:List MOp}:GI (gjt 2510103 m) [4] [] (fun y:Bool=>[(13,.bool y)]) (fun y=>[]):=⟨⟩
instance h59 {a_:l5} {qA:Int}:WJ (e1d a_ qA) 251 [l5.v a_,.int .i64 qA] .bool:=wX Tryz.func251 [(1,⟨[],[],[.w 3 8 2510103]⟩)] (h:=fun _ _ h hQ M=>by unfold e1d at h;exact tX)
@[go_sem] def g52 (qA:Int) (t_:Int) (k71:Int) (a72:o7) (x70:Unit):Option (Fl Unit Bool) :=
 grp ((decide (a72.Kind=4)&&decide (a72.Place=qA))) fun b87=>grp ((b87&&decide (a72.Time≤t_))) fun b88=>bif b88 then some (.ex false) else some (.nx ())
def e1p (a_:l5) (qA:Int) (jI:Int) (t_:Int):Option Bool :=
 (e1d a_ qA).bind fun y7=>bif (!y7) then some false else chk (a0w ((a_.Events.length:Int) - 1)) ((F_j jI 0 ((a_.Events.length:Int) - 1)).bind fun y8=>bif (!y8) then some false else chk (inb jI a_.Events.length) (grp (((!decide ((a_.Events.getD (jI).toNat default).Kind=3))||(!decide ((a_.Events.getD (jI).toNat default).Place=qA)))) fun b18=>grp ((b18||decide (t_<(a_.Events.getD (jI).toNat default).Time))) fun b19=>grp ((b19||decide ((a_.Events.getD (jI).toNat default).Until≤t_))) fun b20=>bif b20 then some false else chk (a0w (jI+1)) (chk (inc (jI+1) (a_.Events.length:Int) a_.Events.length) ((forL (g52 qA t_) (a_.Events.drop (((jI+1)).toNat)) 0 ()).bind fun o=>o.elim (fun x89=>some true) (fun r90=>some r90)))))
def g8s:List (Nat×RN):=[(3,⟨[.gc [1,2,3,4,34,35,36,37,40,41,42,43,46,47,48,49,65,66,67,68,71,72,73,74]],[],[]⟩),(4,⟨[],[],[.v 4 8,.v 10 14,.v 16 20]⟩),(6,⟨[.gc [1,2,3,4,65,66,67,68,71,72,73,74]],[],[]⟩),(9,⟨[],[],[.v 4 8,.v 10 14]⟩)]
@[irreducible] def e7c:MC:=rdc (cK Tryz.prog Tryz.f250 g8s [] 7)
instance:LI e7c 57 56 [1,3,55,56] [] (fun y:Unit=>[]) (fun y=>[]) []:=⟨⟩
instance h7b {a_:l5} {qA jI t_:Int}:WJ (e1p a_ qA jI t_) 250 [l5.v a_,.int .i64 qA,.int .i64 jI,.int .i64 t_] .bool:=wX Tryz.func250 g8s [(7,e7c)] (h:=fun _ _ h hQ M=>by unfold e1p at h;exact tX)
@[go_sem] def e1n (a_:l5) (qA:Int) (t_:Int) (x29:Int):Option (Fl Int (Sum Unit (Int×Bool))) :=
 bif decide (0≤x29) then (e1p a_ qA x29 t_).bind fun y37=>bif y37 then some (.ex (.inr (x29,true))) else chk (a0w (x29 - 1)) (some (.nx (x29 - 1))) else some (.ex (.inl ()))
def e3i (a_:l5) (qA:Int) (t_:Int):Option (Int×Bool) :=
 chk (a0w ((a_.Events.length:Int) - 1)) ((loop (e1n a_ qA t_) ((a_.Events.length:Int) - 1)).bind fun r38=>Sum.elim (fun u39=>some (0,false)) (fun u40=>some u40) r38)
def g8n:List (Nat×RN):=[(5,⟨[.gc [8]],[],[]⟩)]
@[irreducible] def e8p:MC:=rdc (cK Tryz.prog Tryz.f200 g8n [] 2)
instance:LI e8p 0 0 [1,2,3] [3] (fun y:Int=>[(8,.int .i64 y)]) (fun y=>[]) []:=⟨⟩
instance h6t {a_:l5} {qA t_:Int}:WJ (e3i a_ qA t_) 200 [l5.v a_,.int .i64 qA,.int .i64 t_] fun z=>.tup [.int .i64 z.1,.bool z.2]:=wX Tryz.func200 g8n [(2,e8p)] (h:=fun _ _ h hQ M=>by unfold e3i at h;exact tX)
def g6m (k28:Int) (a29:Bool) (x27:List Int):Option (List Int) :=
 bif a29 then chk (room (x27.length+[k28].length) 8) (some (x27++[k28])) else some x27
def F_l (d_:d9) (p_:Int) (t_:Int):Option (List Int) := (F_i d_).bind fun y7=>bif (!y7) then some [] else (F_h d_ p_).bind fun y8=>bif (!y8) then some [] else (upF d_.Kinds.length (d_.Events.map fun e=>(e.Time,e.Kind,e.Principal,e.Group)) p_ t_).bind fun y21=>(foldL g6m y21 0 []).bind fun x30=>some x30
def a_l:List (Nat×RN):=[(3,⟨[],[.k 0 1],[]⟩),(4,⟨[.gc [1,2,3,7]],[],[]⟩)]
@[irreducible] def d2k:MC:=rdc (cK Tryz.prog Tryz.f282 a_l [] 5)
def g70:MC:=rdc (cT Tryz.prog Tryz.f282 a_l [(5,d2k)])
instance h8r {d_:d9} {p_ t_:Int}:WI (F_l d_ p_ t_) Tryz.prog 282 [d9.v d_,.int .i64 p_,.int .i64 t_] [] (fun z=>.sl (z.map (V.int .i64))) (fun z=>[]):=⟨fun Q Q' h hQ=>by
 refine a2m g70 [.fz 6] [] [.t 6] Tryz.func282 fun M=>?_
 unfold F_l at h
 unfold g70
 replace h:=tY h
 refine tB ?_
 repeat' (first
 | (exact tZ)
 | ((first|refine b5l h ?_|refine a5u h ?_|refine b5p h ?_|refine b5o h ?_|refine b5u h ?_|refine appG h ?_|refine b5w h ?_|refine fork h ?_ ?_|refine a5w h ?_ ?_)<;>clear h<;>intro hc h)
 | (obtain ⟨y,hy,h⟩:=h;(first|have hw:=h7u (f:=a0n.v) (e4:=fun e=>(e.Time,e.Kind,e.Principal,e.Group)) (fun _=>rfl) hy|have hw:=WI.w hy);replace hw:=tY hw;(first|refine M.sC hw ?_|refine M.sD hw ?_);clear hw hy;refine tB ?_)
 | (refine M.fold1 (b:=d2k) 24 [22,23] [] (fun x=>[(7,.osl 2007 1 0 x.length)]) (fun x=>[.o 2007 (.arr 1 (x.map (V.int .i64)))]) [.gc [7,22,23,24],.acc 7 2007 1] h ?_ ?_ ?_<;>first
 | (clear h;intro k a x Qn K hK1 hkN1 ha1 h hf;have hl:=a4o (a1m (n:=23) hf.1 rfl);clear hf;have hkd:=kD hkN1;have hkB1:=kB hkN1;have hkI1:=kI (k:=k) (by omega);unfold g6m at h;unfold d2k;replace h:=tY h;refine tK ha1 hkd hkN1 hkB1 hkI1 ?_)
  |(clear h;intro x K h;replace h:=And.left (And.intro h trivial);unfold d2k;replace h:=tY h;refine tB ?_)
  |(clear h;(try refine tB ?_);exact tU0;done))
 | (simp only [ha1])
 | (refine hK1 _ ?_;(try refine tB ?_);refine ⟨_,h,?_⟩;exact tU0;done)
 | (refine tE ?_;(first|rw [M.lok_compU]|rw [M.lokD_compU]);refine tB ?_)
 | (refine tA ?_)
 | fail)⟩
@[go_sem] def f8w (qA:Int) (tF:Int) (t_:Int) (k128:Int) (a129:o7) (x127:Int):Option Int :=
 grp ((decide (t_<a129.Time)||(!decide (a129.Place=qA)))) fun b160=>grp ((b160||(!decide (a129.Principal=tF)))) fun b161=>bif b161 then some x127 else bif decide (a129.Kind=1) then some k128 else bif decide (a129.Kind=2) then some (-1) else some x127
def f5a (a_:l5) (qA:Int) (tF:Int) (t_:Int):Option Int :=
 (foldL (f8w qA tF t_) a_.Events 0 (-1)).bind fun x162=>some x162
def g8b:List (Nat×RN):=[(5,⟨[],[],[.v 5 9,.v 11 15]⟩)]
@[irreducible] def e86:MC:=rdc (cK Tryz.prog Tryz.f308 g8b [] 3)
instance:LI e86 15 14 [1,2,3,13,14] [] (fun y:Int=>[(9,.int .i64 y)]) (fun y=>[]) []:=⟨⟩
instance h60 {a_:l5} {qA tF t_:Int}:WJ (f5a a_ qA tF t_) 308 [l5.v a_,.int .i64 qA,.int .i64 tF,.int .i64 t_] (.int .i64):=wX Tryz.func308 g8b [(3,e86)] (h:=fun _ _ h hQ M=>by unfold f5a at h;exact tX)
@[go_sem] def g51 (a_:l5) (qA:Int) (t_:Int) (x26:Int×(List Int)):Option (Fl (Int×(List Int)) (List Int)) :=
 bif decide (x26.1<24) then jn (α:=List Int) ((f5a a_ qA x26.1 t_).bind fun y34=>bif decide (0≤y34) then chk (room (x26.2.length+[x26.1].length) 8) (some (x26.2++[x26.1])) else some x26.2) fun j32=>chk (a0w (x26.1+1)) (some (.nx ((x26.1+1),j32))) else some (.ex x26.2)
def e3o (a_:l5) (qA:Int) (t_:Int):Option (List Int) :=
 (e1d a_ qA).bind fun y4=>bif (!y4) then some [] else (loop (g51 a_ qA t_) (0,[])).bind fun r35=>some r35
def g35:List (Nat×RN):=[(3,⟨[],[.k 0 1],[]⟩),(8,⟨[.gc [1,2,3,7,8]],[],[]⟩)]
@[irreducible] def d8b:MC:=rdc (cK Tryz.prog Tryz.f283 g35 [] 10000006)
@[irreducible] def e7b:MC:=rdc (cK Tryz.prog Tryz.f283 g35 [(10000006,d8b)] 5)
instance:LI d8b 0 0 [1,2,3,8] [3] (fun y:List Int=>[(7,.osl 2007 1 0 y.length)]) (fun y=>[.o 2007 (.arr 1 (y.map (V.int .i64)))]) [.gc [1,2,3,7,8],.acc 7 2007 1]:=⟨⟩
instance:LI e7b 0 0 [1,2,3] [3] (fun y:Int×(List Int)=>[(7,.osl 2007 1 0 y.2.length),(8,.int .i64 y.1)]) (fun y=>[.o 2007 (.arr 1 (y.2.map (V.int .i64)))]) [.gc [1,2,3,7,8],.acc 7 2007 1]:=⟨⟩
instance h7a {a_:l5} {qA t_:Int}:WJ (e3o a_ qA t_) 283 [l5.v a_,.int .i64 qA,.int .i64 t_] fun z=>.sl (z.map (V.int .i64)):=wX Tryz.func283 g35 [(10000006,d8b),(5,e7b)] [.fz 6] (h:=fun _ _ h hQ M=>by unfold e3o at h;exact tX)
@[go_sem] def g50 (x_:Int) (k11:Int) (a12:Int) (x10:Unit):Option (Fl Unit Bool) :=
 bif decide (a12=x_) then some (.ex true) else some (.nx ())
def f3s (l_:List Int) (x_:Int):Option Bool :=
 (forL (g50 x_) l_ 0 ()).bind fun o=>o.elim (fun x13=>some false) (fun r14=>some r14)
@[irreducible] def e7a:MC:=rdc (cK Tryz.prog Tryz.f284 [] [] 2)
instance:LI e7a 9 8 [1,7,8] [] (fun y:Unit=>[]) (fun y=>[]) []:=⟨⟩
instance h3m {l_:List Int} {x_:Int}:WJ (f3s l_ x_) 284 [.sl (l_.map (V.int .i64)),.int .i64 x_] .bool:=wX Tryz.func284 [] [(2,e7a)] (h:=fun _ _ h hQ M=>by unfold f3s at h;exact tX)
@[go_sem] def g4z (y2:List Int) (k37:Int) (a38:Int) (x36:Unit):Option (Fl Unit Bool) :=
 (f3s y2 a38).bind fun y46=>bif y46 then some (.ex true) else some (.nx ())
def f4z (d_:d9) (a_:l5) (p_:Int) (qA:Int) (t_:Int):Option Bool :=
 (F_l d_ p_ t_).bind fun y2=>(e3o a_ qA t_).bind fun y25=>(forL (g4z y2) y25 0 ()).bind fun o=>o.elim (fun x47=>some false) (fun r48=>some r48)
def g8a:List (Nat×RN):=[(2,⟨[.gc [3,4,6,11]],[],[]⟩)]
@[irreducible] def e79:MC:=rdc (cK Tryz.prog Tryz.f252 g8a [] 3)
instance:LI e79 23 22 [11,21,22] [] (fun y:Unit=>[]) (fun y=>[]) []:=⟨⟩
instance h5y {d_:d9} {a_:l5} {p_ qA t_:Int}:WJ (f4z d_ a_ p_ qA t_) 252 [d9.v d_,l5.v a_,.int .i64 p_,.int .i64 qA,.int .i64 t_] .bool:=wX Tryz.func252 g8a [(3,e79)] (h:=fun _ _ h hQ M=>by unfold f4z at h;exact tX)
def f3r (d_:d9) (a_:l5) (p_:Int) (qA:Int) (t_:Int):Option Bool :=
 (F_i d_).bind fun y10=>bif (!y10) then some false else (e1d a_ qA).bind fun y11=>bif (!y11) then some false else (e2x d_ p_).bind fun y12=>bif (!y12) then some false else (e3i a_ qA t_).bind fun y14=>jn (α:=Bool) (bif y14.2 then some true else (f4z d_ a_ p_ qA t_).bind fun y18=>some y18) fun j19=>some j19
instance e9w {m:List MOp}:GI (gjt 2010402 m) [] [] (fun y:Bool=>[(43,.bool y)]) (fun y=>[]):=⟨⟩
instance h3k {d_:d9} {a_:l5} {p_ qA t_:Int}:WJ (f3r d_ a_ p_ qA t_) 201 [d9.v d_,l5.v a_,.int .i64 p_,.int .i64 qA,.int .i64 t_] .bool:=wX Tryz.func201 [(3,⟨[.gc [2,3,4,5,6,37,38,39,40,41,42]],[],[]⟩),(4,⟨[.gc [2,3,4,5,6,12,37,38,39,40,41,42]],[],[.w 2 8 2010402]⟩)] (h:=fun _ _ h hQ M=>by unfold f3r at h;exact tX)
@[go_sem] def f8v (d_:d9) (a_:l5) (p_:Int) (t_:Int) (k67:Int) (a68:Int) (x66:Unit):Option (Fl Unit Bool) :=
 bif decide (p_=(-1)) then (e3i a_ a68 t_).bind fun y82=>bif y82.2 then some (.ex true) else some (.nx ()) else (f3r d_ a_ p_ a68 t_).bind fun y84=>bif y84 then some (.ex true) else some (.nx ())
def f4y (d_:d9) (a_:l5) (jA:Int) (p_:Int) (t_:Int):Option Bool :=
 (e1e d_ a_ jA p_).bind fun y10=>grp (((!y10)||decide (t_<0))) fun b11=>grp ((b11||decide (1099511627776<t_))) fun b12=>bif b12 then some false else (f5b a_ jA t_).bind fun y47=>(forL (f8v d_ a_ p_ t_) y47 0 ()).bind fun o=>o.elim (fun x85=>some false) (fun r86=>some r86)
def g89:List (Nat×RN):=[(1,⟨[],[],[.v 7 9,.v 11 13]⟩),(3,⟨[.gc [2,3,4,5,6]],[],[]⟩)]
@[irreducible] def e85:MC:=rdc (cK Tryz.prog Tryz.f128 g89 [] 4)
instance:LI e85 34 33 [3,4,5,6,32,33] [6,5] (fun y:Unit=>[]) (fun y=>[]) []:=⟨⟩
instance h5x {d_:d9} {a_:l5} {jA p_ t_:Int}:WJ (f4y d_ a_ jA p_ t_) 128 [d9.v d_,l5.v a_,.int .i64 jA,.int .i64 p_,.int .i64 t_] .bool:=wX Tryz.func128 g89 [(4,e85)] (h:=fun _ _ h hQ M=>by unfold f4y at h;exact tX)
@[go_sem] def g4y (d_:d9) (a_:l5) (jA:Int) (p_:Int) (k39:Int) (a40:Int) (x38:Unit):Option (Fl Unit (Int×Bool)) :=
 (f4y d_ a_ jA p_ a40).bind fun y48=>bif y48 then some (.ex (a40,true)) else some (.nx ())
def f4x (d_:d9) (a_:l5) (jA:Int) (p_:Int):Option (Int×Bool) :=
 (e1e d_ a_ jA p_).bind fun y4=>bif (!y4) then some (0,false) else (f5t d_ a_).bind fun y27=>(forL (g4y d_ a_ jA p_) y27 0 ()).bind fun o=>o.elim (fun x49=>some (0,false)) (fun r50=>some r50)
def g88:List (Nat×RN):=[(3,⟨[.gc [2,3,4,5]],[],[]⟩),(7,⟨[.gc [11]],[],[]⟩)]
@[irreducible] def e78:MC:=rdc (cK Tryz.prog Tryz.f61 g88 [] 4)
instance:LI e78 22 21 [2,3,4,5,20,21] [5,4] (fun y:Unit=>[]) (fun y=>[]) []:=⟨⟩
instance h5v {d_:d9} {a_:l5} {jA p_:Int}:WJ (f4x d_ a_ jA p_) 61 [d9.v d_,l5.v a_,.int .i64 jA,.int .i64 p_] fun z=>.tup [.int .i64 z.1,.bool z.2]:=wX Tryz.func61 g88 [(4,e78)] (h:=fun _ _ h hQ M=>by unfold f4x at h;exact tX)
@[go_sem] def g4x (d_:d9) (a_:l5) (jA:Int) (x34:Int×(List a01)):Option (Fl (Int×(List a01)) (List a01)) :=
 bif decide (x34.1<(d_.Kinds.length:Int)) then jn (α:=List a01) ((f4x d_ a_ jA x34.1).bind fun y42=>bif y42.2 then chk (room (x34.2.length+[(a01.mk x34.1 y42.1)].length) 16) (some (x34.2++[(a01.mk x34.1 y42.1)])) else some x34.2) fun j40=>chk (a0w (x34.1+1)) (some (.nx ((x34.1+1),j40))) else some (.ex x34.2)
def f5s (d_:d9) (a_:l5) (jA:Int):Option ((List a01)×Int) :=
 (F_i d_).bind fun y4=>bif (!y4) then some ([],30) else (F_k a_).bind fun y8=>bif (!y8) then some ([],34) else grp ((decide (jA<0)||decide (63<jA))) fun b12=>bif b12 then some ([],2) else (loop (g4x d_ a_ jA) ((-1),[])).bind fun r43=>some (r43,0)
def g2x:List (Nat×RN):=[(5,⟨[.gc [2,3,4,21,22]],[],[.v 3 5]⟩),(7,⟨[],[.k 0 1],[]⟩),(13,⟨[.gc [2,3,4,8,9,10]],[],[]⟩)]
@[irreducible] def d8a:MC:=rdc (cK Tryz.prog Tryz.f23 g2x [] 10000010)
@[irreducible] def e77:MC:=rdc (cK Tryz.prog Tryz.f23 g2x [(10000010,d8a)] 9)
instance:LI d8a 0 0 [2,3,4,9] [4,3] (fun y:List a01=>[(8,.osl 2008 2 0 y.length)]) (fun y=>[.o 2008 (.arr 2 (y.map a01.v))]) [.gc [2,3,4,8,9],.acc 8 2008 2]:=⟨⟩
instance:LI e77 0 0 [2,3,4] [4,3] (fun y:Int×(List a01)=>[(8,.osl 2008 2 0 y.2.length),(9,.int .i64 y.1)]) (fun y=>[.o 2008 (.arr 2 (y.2.map a01.v))]) [.gc [2,3,4,8,9],.acc 8 2008 2]:=⟨⟩
instance h6s {d_:d9} {a_:l5} {jA:Int}:WJ (f5s d_ a_ jA) 23 [d9.v d_,l5.v a_,.int .i64 jA] fun z=>.tup [.sl (z.1.map a01.v),.int .i64 z.2]:=wX Tryz.func23 g2x [(10000010,d8a),(9,e77)] [.fz 6] (h:=fun _ _ h hQ M=>by unfold f5s at h;exact tX)
end
end Go.Ab