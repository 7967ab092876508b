/- What the functions of this seat that lie on the laws' road compute (part LD), each for every input. By AI agents. -/
import Derived.Test.YtbmjlaknnpmgpaaGreatDoorLT
set_option linter.all false
set_option linter.all false
set_option maxRecDepth 20000
set_option maxHeartbeats 2000000
namespace Go.Ab
open Go.Proofs
def f1x (kind_:Int):Option Bool :=
 grp ((decide (kind_<1)||decide (3<kind_))) fun b2=>some b2
instance g5u {kind_:Int}:WJ (f1x kind_) 246 [.int .i64 kind_] .bool:=wX Tryz.func246 [(1,⟨[],[],[.v 3 5]⟩)] (h:=fun _ _ h hQ M=>by unfold f1x at h;exact tX)
def f9c (k31:Int) (a32:Int) (x30:Unit):Option (Fl Unit Int) :=
 (f1x a32).bind fun y40=>bif y40 then some (.ex k31) else some (.nx ())
def f7m (s_:List Int):Option Int :=
 (a0x f9c s_ 0 ()).bind fun o=>o.elim (fun x41=>some (-1)) (fun r42=>some r42)
@[irreducible] def e3x:MC:=rdc (cK Tryz.prog Tryz.f175 [] [] 2)
attribute [go_sem] f9c
instance:LI e3x 8 7 [0,1,7] [] (fun y:Unit=>[]) (fun y=>[]) []:=⟨⟩
instance g52 {s_:List Int}:WJ (f7m s_) 175 [.sl (s_.map (V.int .i64)),.fn (.func 246) []] (.int .i64):=wX Tryz.func175 [] [(2,e3x)] (h:=fun _ _ h hQ M=>by unfold f7m at h;exact tX)
def f1w (s_:List Int):Option Bool :=
 (f7m s_).bind fun y2=>some (decide (0≤y2))
instance g5t {s_:List Int}:WJ (f1w s_) 112 [.sl (s_.map (V.int .i64)),.fn (.func 246) []] .bool:=wX Tryz.func112 (h:=fun _ _ h hQ M=>by unfold f1w at h;exact tX)
def d8m (d_:d9) (p_:Int):Option Bool :=
 grp ((decide (0≤p_)&&decide (p_<(d_.Kinds.length:Int)))) fun b2=>some b2
instance g7r {d_:d9} {p_:Int}:WJ (d8m d_ p_) 247 [d9.v d_,.int .i64 p_] .bool:=wX Tryz.func247 [(1,⟨[],[],[.v 3 8]⟩)] (h:=fun _ _ h hQ M=>by unfold d8m at h;exact tX)
def e8w (d_:d9) (p_:Int):Option Bool :=
 (d8m d_ p_).bind fun y3=>jn (α:=Bool) (bif y3 then chk (inb p_ d_.Kinds.length) (some (decide ((d_.Kinds.getD (p_).toNat default)=2))) else some false) fun j4=>some j4
instance {m:List MOp}:GI (gjt 2480104 m) [4] [] (fun y:Bool=>[(15,.bool y)]) (fun y=>[]):=⟨⟩
instance g6n {d_:d9} {p_:Int}:WJ (e8w d_ p_) 248 [d9.v d_,.int .i64 p_] .bool:=wX Tryz.func248 [(1,⟨[],[],[.w 4 10 2480104]⟩)] (h:=fun _ _ h hQ M=>by unfold e8w at h;exact tX)
def f2r (d_:d9) (k473:Int) (a474:a0n) (x472:Int):Option (Fl Int Int) :=
 grp (((!decide (a474.Kind=1))&&(!decide (a474.Kind=2)))) fun b595=>grp ((b595||decide (a474.Time<x472))) fun b596=>grp ((b596||decide (1099511627776<a474.Time))) fun b597=>bif b597 then grp (true) fun b598=>bif b598 then some (.ex 30) else some (.nx a474.Time) else (d8m d_ a474.Principal).bind fun y599=>bif (!y599) then grp (true) fun b600=>bif b600 then some (.ex 30) else some (.nx a474.Time) else (e8w d_ a474.Group).bind fun y601=>grp (((!y601)||decide (a474.Principal=a474.Group))) fun b602=>bif b602 then some (.ex 30) else some (.nx a474.Time)
def d9x (d_:d9):Option Int :=
 grp ((decide (24<(d_.Kinds.length:Int))||decide (120<(d_.Events.length:Int)))) fun b7=>bif b7 then some 30 else (f1w d_.Kinds).bind fun y8=>bif y8 then some 30 else (a0x (f2r d_) d_.Events 0 0).bind fun o=>o.elim (fun x603=>some 0) (fun r604=>some r604)
def g36:List (Nat×RN):=[(2,⟨[],[],[.v 5 9]⟩),(5,⟨[.gc [1,4,34,35,36,39,40,41,42,45,46,47,50,51,52,53,54,57,58,59,60,61,64,65,66,67,68]],[],[]⟩),(8,⟨[],[],[.v 4 7,.v 9 13,.v 15 18,.v 34 39]⟩),(10,⟨[.gc [1,6,24,25,26,34,35,36,39,40,41,42,45,46,47,50,51,52,53,54,57,58,59,60,61,64,65,66,67,68]],[],[]⟩)]
@[irreducible] def e5h:MC:=rdc (cK Tryz.prog Tryz.f231 g36 [] 6)
attribute [go_sem] f2r
instance:LI e5h 26 25 [1,24,25] [1] (fun y:Int=>[(4,.int .i64 y)]) (fun y=>[]) []:=⟨⟩
instance g93 {d_:d9}:WJ (d9x d_) 231 [d9.v d_] (.int .i64):=wX Tryz.func231 g36 [(6,e5h)] (h:=fun _ _ h hQ M=>by unfold d9x at h;exact tX)
def d3o (n_:Int) (low_:Int) (high_:Int):Option Bool :=
 grp ((decide (low_≤n_)&&decide (n_≤high_))) fun b2=>some b2
instance g8n {n_ low_ high_:Int}:WJ (d3o n_ low_ high_) 233 [.int .i64 n_,.int .i64 low_,.int .i64 high_] .bool:=wX Tryz.func233 [(1,⟨[],[],[.v 4 7]⟩)] (h:=fun _ _ h hQ M=>by unfold d3o at h;exact tX)
def F_v (content_:Int):Option Bool := (d3o content_ 0 63).bind fun y2=>some y2
instance h08 {content_:Int}:WJ (F_v content_) 207 [.int .i64 content_] .bool:=wX Tryz.func207 (h:=fun _ _ h hQ M=>by unfold F_v at h;exact tX)
def d3n (a_:l5) (place_:Int):Option Bool :=
 chk (a0l (a_.Places - 1)) ((d3o place_ 0 (a_.Places - 1)).bind fun y2=>some y2)
instance g8m {a_:l5} {place_:Int}:WJ (d3n a_ place_) 261 [l5.v a_,.int .i64 place_] .bool:=wX Tryz.func261 (h:=fun _ _ h hQ M=>by unfold d3n at h;exact tX)
def f0c (a_:l5) (x_:o8):Option Bool :=
 jn (α:=Bool×o8) (jn (α:=Bool) (bif decide (x_.Kind=1) then some true else some (decide (x_.Kind=2))) fun j7=>bif j7 then (d3o x_.Principal 0 23).bind fun y8=>some (y8,(o8.mk x_.Time x_.Kind x_.Place x_.Principal 0 0 0)) else bif decide (x_.Kind=3) then bif decide (x_.Time<x_.Until) then some (decide (x_.Until≤1099511627776),(o8.mk x_.Time x_.Kind x_.Place 0 x_.Until 0 0)) else some (false,(o8.mk x_.Time x_.Kind x_.Place 0 x_.Until 0 0)) else bif decide (x_.Kind=4) then some (true,(o8.mk x_.Time x_.Kind x_.Place 0 0 0 0)) else jn (α:=Bool) (bif decide (x_.Kind=5) then some true else some (decide (x_.Kind=6))) fun j9=>bif j9 then (F_v x_.Content).bind fun y10=>some (y10,(o8.mk x_.Time x_.Kind x_.Place 0 0 x_.Content 0)) else bif decide (x_.Kind=7) then (d3n a_ x_.From).bind fun y11=>bif y11 then some ((!decide (x_.From=x_.Place)),(o8.mk x_.Time x_.Kind x_.Place 0 0 0 x_.From)) else some (false,(o8.mk x_.Time x_.Kind x_.Place 0 0 0 x_.From)) else some (false,(o8.mk x_.Time x_.Kind x_.Place 0 0 0 0))) fun j6=>jn (α:=Bool) (bif j6.1 then (d3n a_ x_.Place).bind fun y16=>some y16 else some false) fun j17=>grp ((j17&&(decide (x_.Time=j6.2.Time)&&(decide (x_.Kind=j6.2.Kind)&&(decide (x_.Place=j6.2.Place)&&(decide (x_.Principal=j6.2.Principal)&&(decide (x_.Until=j6.2.Until)&&(decide (x_.Content=j6.2.Content)&&decide (x_.From=j6.2.From))))))))) fun b18=>some b18
def f0p:List (Nat×RN):=[(16,⟨[],[],[.w 2 6 2491602,.v 8 11]⟩)]
@[irreducible] def d05:MC:=rdc (cK Tryz.prog Tryz.f249 f0p [] 10000013)
@[irreducible] def d5t:MC:=rdc (cK Tryz.prog Tryz.f249 f0p [(10000013,d05)] 10000006)
@[irreducible] def e1y:MC:=rdc (cK Tryz.prog Tryz.f249 f0p [(10000013,d05),(10000006,d5t)] 10000016)
instance:LI d05 0 0 [2,3,5,6,15] [5,3,2] (fun y:Bool=>[(42,.bool y)]) (fun y=>[]) []:=⟨⟩
instance:LI d5t 0 0 [2,3,5,6,15] [5,3,2] (fun y:Bool=>[(16,.bool y)]) (fun y=>[]) []:=⟨⟩
instance {m:List MOp}:GI (gjt 2491602 m) [3,5] [5,3] (fun y:Bool=>[(73,.bool y)]) (fun y=>[]):=⟨⟩
instance:LI e1y 0 0 [2,3,5] [3,2] (fun y:Bool×o8=>[(6,.bool y.1)]) (fun y=>[.o 5 (.cells [.int .i64 y.2.Time,.int .i64 y.2.Kind,.int .i64 y.2.Place,.int .i64 y.2.Principal,.int .i64 y.2.Until,.int .i64 y.2.Content,.int .i64 y.2.From])]) []:=⟨⟩
instance g9l {a_:l5} {x_:o8}:WJ (f0c a_ x_) 249 [l5.v a_,o8.v x_] .bool:=wX Tryz.func249 f0p [(10000013,d05),(10000006,d5t),(10000016,e1y)] (h:=fun _ _ h hQ M=>by unfold f0c at h;exact tX)
def f2q (a_:l5) (k137:Int) (a138:o8) (x136:Int):Option (Fl Int Int) :=
 grp ((decide (a138.Time<x136)||decide (1099511627776<a138.Time))) fun b169=>bif b169 then some (.ex 34) else (f0c a_ a138).bind fun y170=>bif (!y170) then some (.ex 34) else some (.nx a138.Time)
def F_w (a_:l5):Option Int := (d3o a_.Places 1 16).bind fun y7=>grp (((!y7)||decide (120<(a_.Events.length:Int)))) fun b8=>bif b8 then some 34 else (a0x (f2q a_) a_.Events 0 0).bind fun o=>o.elim (fun x171=>some 0) (fun r172=>some r172)
def a_w:List (Nat×RN):=[(1,⟨[],[],[.v 5 9]⟩),(4,⟨[.gc [1,3,28,29,30,33,34,35,36]],[],[]⟩),(7,⟨[],[],[.v 5 8]⟩),(9,⟨[.gc [1,5,17,18,19,28,29,30,33,34,35,36]],[],[]⟩)]
@[irreducible] def e5g:MC:=rdc (cK Tryz.prog Tryz.f232 a_w [] 5)
attribute [go_sem] f2q
instance:LI e5g 19 18 [1,17,18] [1] (fun y:Int=>[(3,.int .i64 y)]) (fun y=>[]) []:=⟨⟩
instance h07 {a_:l5}:WJ (F_w a_) 232 [l5.v a_] (.int .i64):=wX Tryz.func232 a_w [(5,e5g)] (h:=fun _ _ h hQ M=>by unfold F_w at h;exact tX)
def d9o (d_:d9) (a_:l5):Option Int :=
 (d9x d_).bind fun y4=>bif (!decide (y4=0)) then some y4 else (F_w a_).bind fun y6=>some y6
instance g7c {d_:d9} {a_:l5}:WJ (d9o d_ a_) 206 [d9.v d_,l5.v a_] (.int .i64):=wX Tryz.func206 [(4,⟨[.gc [3]],[],[]⟩)] (h:=fun _ _ h hQ M=>by unfold d9o at h;exact tX)
def e8v (d_:d9) (a_:l5) (content_:Int):Option Int :=
 (d9o d_ a_).bind fun y4=>bif (!decide (y4=0)) then some y4 else (F_v content_).bind fun y8=>bif (!y8) then some 2 else some 0
instance g6m {d_:d9} {a_:l5} {content_:Int}:WJ (e8v d_ a_ content_) 156 [d9.v d_,l5.v a_,.int .i64 content_] (.int .i64):=wX Tryz.func156 [(4,⟨[.gc [2]],[],[]⟩)] (h:=fun _ _ h hQ M=>by unfold e8v at h;exact tX)
def g0n (k20:Int) (a21:o8) (x19:List Int):Option (List Int) :=
 chk (room (x19.length+[a21.Time].length) 8) (some (x19++[a21.Time]))
def F_h (a_:l5):Option (List Int) := (F_w a_).bind fun y4=>bif (!decide (y4=0)) then some [] else (a09 g0n a_.Events 0 []).bind fun x22=>(a4u x22).bind fun y24=>some ((y24.2.drop 0).take y24.1)
def a_h:List (Nat×RN):=[(0,⟨[],[.k 1 1],[]⟩),(2,⟨[],[.k 0 1],[]⟩),(3,⟨[],[.k 0 1],[]⟩),(9,⟨[],[.c 1 0 [2003] []],[]⟩)]
@[irreducible] def d0f:MC:=rdc (cK Tryz.prog Tryz.f234 a_h [] 5)
def g1d:MC:=rdc (cT Tryz.prog Tryz.f234 a_h [(5,d0f)])
instance g4x {a_:l5}:WI (F_h a_) Tryz.prog 234 [l5.v a_] [] (fun z=>.osl 1900 1 0 z.length) (fun z=>[(1900,.arr 1 (z.map (V.int .i64)))]):=⟨fun Q Q' h hQ=>by
 refine a2s g1d [.gc [2],.trim 2,.acc 2 1900 1] [1900] [.t 2] Tryz.func234 fun M=>?_
 unfold F_h at h
 unfold g1d
 replace h:=tY h
 refine tB ?_
 repeat' (first
 | (exact tZ)
 | (refine And.intro (by refine ⟨?_,?_,?_,?_⟩<;>omega) ?_;first|exact hQ _ h|(rw [zP (by omega)];exact hQ _ h))
 | (rw [←hlen];exact hQ _ h)
 | (have hq:=hQ _ h;simp only [wA,Nat.min_eq_left hlen.1] at hq;exact hq)
 | ((first|refine b7w h ?_|refine a6f h ?_|refine b8y h ?_|refine b8x h ?_|refine b96 h ?_|refine appG h ?_|refine b9e h ?_|refine fork h ?_ ?_|refine a6g h ?_ ?_)<;>clear h<;>intro hc h)
 | (obtain ⟨y,hy,h⟩:=h;(first|(have hw:=a1b 1000 2003 (g3i hy);replace hw:=tY hw;(try simp only [hlen] at hw);have hlen:=b04 hy)|have hw:=WI.w hy);replace hw:=tY hw;(first|refine M.sC hw ?_|refine M.sD hw ?_);clear hw hy;refine tB ?_)
 | (refine M.fold1 (b:=d0f) 12 [10,11] [] (fun x=>[(3,.osl 2003 1 0 x.length)]) (fun x=>[.o 2003 (.arr 1 (x.map (V.int .i64)))]) [.gc [3,10,11,12],.acc 3 2003 1] h ?_ ?_ ?_<;>first
 | (clear h;intro k a x Qn K hK1 hkN1 ha1 h hf;have hl:=a3r (a14 (n:=11) hf.1 rfl);clear hf;have hkd:=kD hkN1;have hkB1:=kB hkN1;have hkI1:=kI (k:=k) (by omega);(try simp only [hlen] at hkd hkB1 hkN1);unfold g0n at h;unfold d0f;replace h:=tY h;refine tK ha1 hkd hkN1 hkB1 hkI1 ?_)
  |(clear h;intro x K h;replace h:=And.left (And.intro h trivial);(try simp only [hlen]);unfold d0f;replace h:=tY h;refine tB ?_)
  |(clear h;(try refine tB ?_);exact tU0;done))
 | (simp only [ha1])
 | (refine hK1 _ ?_;(try refine tB ?_);refine ⟨_,h,?_⟩;exact tU0;done)
 | (refine tE ?_;(first|rw [M.lok_compU]|rw [M.lokD_compU]);refine tB ?_)
 | (refine tA ?_)
 | fail)⟩
def g0m (k18:Int) (a19:a0n) (x17:List Int):Option (List Int) :=
 chk (room (x17.length+[a19.Time].length) 8) (some (x17++[a19.Time]))
def F_x (d_:d9) (a_:l5):Option (List Int) := (F_h a_).bind fun y2=>(a09 g0m d_.Events 0 y2).bind fun x20=>(b0u x20).bind fun y22=>(a4u y22).bind fun y24=>some ((y24.2.drop 0).take y24.1)
def a_x:List (Nat×RN):=[(1,⟨[],[.c 1 0 [] [9]],[]⟩),(7,⟨[],[.c 1 0 [2005] []],[]⟩),(8,⟨[],[.c 1 0 [2005] []],[]⟩)]
@[irreducible] def d0e:MC:=rdc (cK Tryz.prog Tryz.f208 a_x [] 3)
def g1a:MC:=rdc (cT Tryz.prog Tryz.f208 a_x [(3,d0e)])
instance h06 {d_:d9} {a_:l5}:WI (F_x d_ a_) Tryz.prog 208 [d9.v d_,l5.v a_] [] (fun z=>.sl (z.map (V.int .i64))) (fun z=>[]):=⟨fun Q Q' h hQ=>by
 refine a2s g1a [.fz 4] [] [.t 4] Tryz.func208 fun M=>?_
 unfold F_x at h
 unfold g1a
 replace h:=tY h
 refine tB ?_
 repeat' (first
 | (exact tZ)
 | (refine And.intro (by refine ⟨?_,?_,?_,?_⟩<;>omega) ?_;first|exact hQ _ h|(rw [zP (by omega)];exact hQ _ h))
 | (rw [←hlen];exact hQ _ h)
 | (have hq:=hQ _ h;simp only [wA,Nat.min_eq_left hlen.1] at hq;exact hq)
 | ((first|refine b7w h ?_|refine a6f h ?_|refine b8y h ?_|refine b8x h ?_|refine b96 h ?_|refine appG h ?_|refine b9e h ?_|refine fork h ?_ ?_|refine a6g h ?_ ?_)<;>clear h<;>intro hc h)
 | (obtain ⟨y,hy,h⟩:=h;(first|have hw:=a1b 1900 9 (g4x.c.w hy)|(have hw:=a1b 1000 2005 (f7h hy);replace hw:=tY hw;(try simp only [hlen] at hw);have hlen:=b0t hy)|(have hw:=a1b 1000 2005 (g3i hy);replace hw:=tY hw;(try simp only [hlen] at hw);have hlen:=b04 hy));replace hw:=tY hw;(first|refine M.sC hw ?_|refine M.sD hw ?_);clear hw hy;refine tB ?_)
 | (refine M.fold1 (b:=d0e) 13 [11,12] [] (fun x=>[(5,.osl 2005 1 0 x.length)]) (fun x=>[.o 2005 (.arr 1 (x.map (V.int .i64)))]) [.gc [5,11,12,13],.acc 5 2005 1] h ?_ ?_ ?_<;>first
 | (clear h;intro k a x Qn K hK1 hkN1 ha1 h hf;have hl:=a3r (a14 (n:=12) hf.1 rfl);clear hf;have hkd:=kD hkN1;have hkB1:=kB hkN1;have hkI1:=kI (k:=k) (by omega);(try simp only [hlen] at hkd hkB1 hkN1);unfold g0m at h;unfold d0e;replace h:=tY h;refine tK ha1 hkd hkN1 hkB1 hkI1 ?_)
  |(clear h;intro x K h;replace h:=And.left (And.intro h trivial);(try simp only [hlen]);unfold d0e;replace h:=tY h;refine tB ?_)
  |(clear h;(try refine tB ?_);exact tU0;done))
 | (simp only [ha1])
 | (refine hK1 _ ?_;(try refine tB ?_);refine ⟨_,h,?_⟩;exact tU0;done)
 | (refine tE ?_;(first|rw [M.lok_compU]|rw [M.lokD_compU]);refine tB ?_)
 | (refine tA ?_)
 | fail)⟩
def d8l (content_:Int):Option Int :=
 chk (e0q content_ 64) (some (IntKind.wrap .u64 (1*2^(content_).toNat)))
instance g7q {content_:Int}:WJ (d8l content_) 253 [.int .i64 content_] fun z=>.int .u64 z:=wX Tryz.func253 (h:=fun _ _ h hQ M=>by unfold d8l at h;exact tX)
def d2m (s_:List Int) (x_:o8):Option (List Int) :=
 bif decide (x_.Kind=5) then chk (inb x_.Place s_.length) ((d8l x_.Content).bind fun y1=>chk (inb x_.Place s_.length) (some (s_.set ((x_.Place).toNat) (bits .or .u64 (s_.getD ((x_.Place).toNat) default) y1)))) else bif decide (x_.Kind=6) then chk (inb x_.Place s_.length) ((d8l x_.Content).bind fun y2=>chk (inb x_.Place s_.length) (some (s_.set ((x_.Place).toNat) (bits .andNot .u64 (s_.getD ((x_.Place).toNat) default) y2)))) else bif decide (x_.Kind=7) then chk (inb x_.Place s_.length) (chk (inb x_.From s_.length) (chk (inb x_.Place s_.length) (some (s_.set ((x_.Place).toNat) (bits .or .u64 (s_.getD ((x_.Place).toNat) default) (s_.getD ((x_.From).toNat) default)))))) else some s_
instance f7d {s_:List Int} {x_:o8}:WI (d2m s_ x_) Tryz.prog 272 [.osl 1000 1 0 s_.length,o8.v x_] [(1000,.arr 1 (s_.map (V.int .u64)))] (fun z=>.tup []) (fun z=>[(1000,.arr 1 (z.map (V.int .u64)))]):=wX Tryz.func272 [(7,⟨[.gc [0,3]],[],[]⟩)] [] [] [1000] (h:=fun _ _ h hQ M=>by unfold d2m at h;exact tX)
theorem h03 {s_:List Int} {x_:o8} {y:List Int} (h:(d2m s_ x_)=some y):y.length=s_.length:=by
 simp only [d2m,chk,cond_eq_ite,zL] at h
 repeat' (first|(split at h)|(simp only [zL] at h)|(obtain ⟨_,_,h⟩:=h)|(cases h;done)|(obtain rfl:=wI h;simp;done)|(simp;done)|(subst h;simp;done))
def f3d (t_:Int) (k30:Int) (a31:o8) (x29:List Int):Option (List Int) :=
 bif decide (a31.Time≤t_) then (d2m x29 a31).bind fun y35=>some y35 else some x29
def F_c (a_:l5) (t_:Int):Option (List Int) := chk (b0b a_.Places a_.Places 8) ((a09 (f3d t_) a_.Events 0 (List.replicate (a_.Places).toNat 0)).bind fun x36=>some x36)
def a_c:List (Nat×RN):=[(6,⟨[],[.c 2 0 [10] []],[]⟩)]
@[irreducible] def d0n:MC:=rdc (cK Tryz.prog Tryz.f252 a_c [] 3)
def g1e:MC:=rdc (cT Tryz.prog Tryz.f252 a_c [(3,d0n)])
instance h0q {a_:l5} {t_:Int}:WI (F_c a_ t_) Tryz.prog 252 [l5.v a_,.int .i64 t_] [] (fun z=>.sl (z.map (V.int .u64))) (fun z=>[]):=⟨fun Q Q' h hQ=>by
 refine a2s g1e [.fz 4] [] [.t 4] Tryz.func252 fun M=>?_
 unfold F_c at h
 unfold g1e
 replace h:=tY h
 refine tB ?_
 repeat' (first
 | (exact tZ)
 | ((first|refine b7w h ?_|refine a6f h ?_|refine b8y h ?_|refine b8x h ?_|refine b96 h ?_|refine appG h ?_|refine b9e h ?_|refine fork h ?_ ?_|refine a6g h ?_ ?_)<;>clear h<;>intro hc h)
 | (obtain ⟨y,hy,h⟩:=h;(have hw:=a1b 1000 10 (f7d.c.w hy);replace hw:=tY hw;have hlen:=h03 hy);replace hw:=tY hw;(first|refine M.sC hw ?_|refine M.sD hw ?_);clear hw hy;refine tB ?_)
 | (refine M.fold1 (b:=d0n) 14 [1,12,13] [] (fun x=>[(5,.osl 10 1 0 x.length)]) (fun x=>[.o 10 (.arr 1 (x.map (V.int .u64)))]) [] h ?_ ?_ ?_<;>first
 | (clear h;intro k a x Qn K hK1 hkN1 ha1 h hf;have hl:=a3r (a14 (n:=13) hf.1 rfl);clear hf;have hkd:=kD hkN1;have hkB1:=kB hkN1;have hkI1:=kI (k:=k) (by omega);(try simp only [hlen] at hkd hkB1 hkN1);unfold f3d at h;unfold d0n;replace h:=tY h;refine tK ha1 hkd hkN1 hkB1 hkI1 ?_)
  |(clear h;intro x K h;replace h:=And.left (And.intro h trivial);(try simp only [hlen]);unfold d0n;replace h:=tY h;refine tB ?_)
  |(clear h;(try refine tB ?_);exact tU;done))
 | (simp only [ha1])
 | (refine hK1 _ ?_;(try refine tB ?_);refine ⟨_,h,?_⟩;exact tU;done)
 | (refine tE ?_;(first|rw [M.lok_compU]|rw [M.lokD_compU]);refine tB ?_)
 | (refine tA ?_)
 | fail)⟩
def f2p (content_:Int) (k56:Int) (a57:Int) (x55:List Int):Option (List Int) :=
 (d8l content_).bind fun y65=>bif (!decide ((bits .and .u64 a57 y65)=0)) then chk (room (x55.length+[k56].length) 8) (some (x55++[k56])) else some x55
def F_y (a_:l5) (content_:Int) (t_:Int):Option (List Int) := (F_w a_).bind fun y7=>bif (!decide (y7=0)) then some [] else (F_v content_).bind fun y8=>bif (!y8) then some [] else (F_c a_ t_).bind fun y37=>(a09 (f2p content_) y37 0 []).bind fun x66=>some x66
def a_y:List (Nat×RN):=[(3,⟨[],[.k 0 1],[]⟩),(4,⟨[.gc [1,2,3,7]],[],[]⟩),(8,⟨[.gc [1,7,8,20,21,22]],[],[]⟩)]
@[irreducible] def e5f:MC:=rdc (cK Tryz.prog Tryz.f237 a_y [] 5)
attribute [go_sem] f2p
instance:LI e5f 22 21 [1,20,21] [] (fun y:List Int=>[(7,.osl 2007 1 0 y.length)]) (fun y=>[.o 2007 (.arr 1 (y.map (V.int .i64)))]) [.gc [1,7,20,21,22],.acc 7 2007 1]:=⟨⟩
instance h05 {a_:l5} {content_ t_:Int}:WJ (F_y a_ content_ t_) 237 [l5.v a_,.int .i64 content_,.int .i64 t_] fun z=>.sl (z.map (V.int .i64)):=wX Tryz.func237 a_y [(5,e5f)] [.fz 6] (h:=fun _ _ h hQ M=>by unfold F_y at h;exact tX)
def F_1 (a_:l5) (place_:Int):Option Bool := (F_w a_).bind fun y4=>jn (α:=Bool) (bif decide (y4=0) then (d3n a_ place_).bind fun y6=>some y6 else some false) fun j7=>some j7
instance {m:List MOp}:GI (gjt 2540104 m) [4] [] (fun y:Bool=>[(12,.bool y)]) (fun y=>[]):=⟨⟩
instance h1e {a_:l5} {place_:Int}:WJ (F_1 a_ place_) 254 [l5.v a_,.int .i64 place_] .bool:=wX Tryz.func254 [(1,⟨[],[],[.w 4 7 2540104]⟩)] (h:=fun _ _ h hQ M=>by unfold F_1 at h;exact tX)
def f0v (place_:Int) (t_:Int) (k24:Int) (a19:Int×o8) (x18:Unit):Option (Fl Unit (Int×Bool)) :=
 grp ((decide (t_<a19.2.Time)||(!decide (a19.2.Place=place_)))) fun b26=>bif b26 then some (.nx ()) else bif decide (a19.2.Kind=4) then some (.ex (0,false)) else grp ((decide (a19.2.Kind=3)&&decide (t_<a19.2.Until))) fun b28=>bif b28 then some (.ex (a19.1,true)) else some (.nx ())
def F_5 (a_:l5) (place_:Int) (t_:Int):Option (Int×Bool) := (F_1 a_ place_).bind fun y4=>bif (!y4) then some (0,false) else (d81 a_.Events).bind fun y17=>(a0x (f0v place_ t_) (c8a a_.Events) 0 ()).bind fun o=>o.elim (fun x29=>some (0,false)) (fun r30=>some r30)
@[irreducible] def d5k:List MOp:=rdc (cG Tryz.prog Tryz.f238 [] 6 5 9)
@[irreducible] def d5j:List MOp:=rdc (cG Tryz.prog Tryz.f238 [] 9 4 8)
def a_5:List (Nat×RN):=[(6,⟨[.gc [4,5,6,7,8,9,25,26,27,28,39,40,41,42]],[],[.u 5 9 d5k]⟩),(7,⟨[.gc [5,6,7,8,9,39,40,41,42]],[],[]⟩),(9,⟨[],[],[.u 4 8 d5j]⟩),(10,⟨[.gc [6,7,8]],[],[]⟩)]
@[irreducible] def d5s:MC:=rdc (cK Tryz.prog Tryz.f238 a_5 [] 6)
def g1j:MC:=rdc (cT Tryz.prog Tryz.f238 a_5 [(6,d5s)])
instance h0x {a_:l5} {place_ t_:Int}:WI (F_5 a_ place_ t_) Tryz.prog 238 [l5.v a_,.int .i64 place_,.int .i64 t_] [] (fun z=>.tup [.int .i64 z.1,.bool z.2]) (fun z=>[]):=⟨fun Q Q' h hQ=>by
 refine a2s g1j [] [] [.c 6 none,.c 7 none] Tryz.func238 fun M=>?_
 unfold F_5 at h
 unfold g1j
 replace h:=tY h
 refine tB ?_
 repeat' (first
 | (exact tZ)
 | ((first|refine b7w h ?_|refine a6f h ?_|refine b8y h ?_|refine b8x h ?_|refine b96 h ?_|refine appG h ?_|refine b9e h ?_|refine fork h ?_ ?_|refine a6g h ?_ ?_)<;>clear h<;>intro hc h)
 | (obtain ⟨y,hy,h⟩:=h;(first|have hw:=g9w (f:=o8.v) hy|have hw:=WI.w hy);replace hw:=tY hw;(first|refine M.sC hw ?_|refine M.sD hw ?_);clear hw hy;refine tB ?_)
 | (refine M.gv1 (ms:=d5j) 43 [39,40,41,42] h ?_ ?_<;>first
 | (clear h;intro K hK1;unfold d5j;refine tB ?_)
 | (clear h;intro b h;replace h:=tY h;refine tB ?_))
 | (refine M.gv1 (ms:=d5k) 29 [25,26,27,28] h ?_ ?_<;>first
 | (clear h;intro K hK2;unfold d5k;refine tB ?_)
 | (clear h;intro b h;replace h:=tY h;refine tB ?_))
 | (refine M.rfor (b:=d5s) (enc:=fun a=>[.int .i64 a.1,o8.v a.2]) [3,4,5,6,7] [3,7,6,5,4] (fun x=>[]) [] h rfl (g9v fun a=>⟨_,rfl,rfl,rfl⟩) rfl (fun a=>⟨rfl,rfl⟩) ?_ ?_ rfl ?_<;>first
 | (clear h;intro k a x Qn K hK3 hkN3 h hf;clear hf;unfold f0v at h;unfold d5s;replace h:=tY h;refine tB ?_)
  |(clear h;intro x h;replace h:=tY h;refine tB ?_)
  |(clear h;(try refine tB ?_);exact tU0;done))
 | ((first|refine hK1 _ ?_|refine hK2 _ ?_);exact tU;done)
 | (refine hK3 _ ?_;(try refine tB ?_);refine ⟨_,h,?_⟩;exact tU0;done)
 | (refine d7y (fun hc=>?_) (fun hc=>?_))
 | (refine tE ?_;(first|rw [M.lok_compU]|rw [M.lokD_compU]);refine tB ?_)
 | (refine tA ?_)
 | fail)⟩
def e8u (d_:d9) (p_:Int):Option Bool :=
 grp ((decide (0≤p_)&&decide (p_<(d_.Kinds.length:Int)))) fun b3=>jn (α:=Bool) (bif b3 then chk (inb p_ d_.Kinds.length) (some (!decide ((d_.Kinds.getD (p_).toNat default)=2))) else some false) fun j4=>some j4
instance {m:List MOp}:GI (gjt 2740110 m) [4] [] (fun y:Bool=>[(21,.bool y)]) (fun y=>[]):=⟨⟩
instance g6l {d_:d9} {p_:Int}:WJ (e8u d_ p_) 274 [d9.v d_,.int .i64 p_] .bool:=wX Tryz.func274 [(1,⟨[],[],[.v 3 8,.w 10 16 2740110]⟩)] (h:=fun _ _ h hQ M=>by unfold e8u at h;exact tX)
def e8t (d_:d9) (a_:l5) (p_:Int) (place_:Int):Option Bool :=
 (d9o d_ a_).bind fun y6=>jn (α:=Bool) (bif decide (y6=0) then (e8u d_ p_).bind fun y8=>some y8 else some false) fun j9=>jn (α:=Bool) (bif j9 then (d3n a_ place_).bind fun y11=>some y11 else some false) fun j12=>some j12
instance {m:List MOp}:GI (gjt 2560110 m) [8] [] (fun y:Bool=>[(22,.bool y)]) (fun y=>[]):=⟨⟩
instance {m:List MOp}:GI (gjt 2560105 m) [3,5,8] [5] (fun y:Bool=>[(17,.bool y)]) (fun y=>[]):=⟨⟩
instance g6k {d_:d9} {a_:l5} {p_ place_:Int}:WJ (e8t d_ a_ p_ place_) 256 [d9.v d_,l5.v a_,.int .i64 p_,.int .i64 place_] .bool:=wX Tryz.func256 [(1,⟨[],[],[.w 5 8 2560105,.w 10 13 2560110]⟩)] (h:=fun _ _ h hQ M=>by unfold e8t at h;exact tX)
def e8s (d_:d9) (p_:Int):Option Bool :=
 (d9x d_).bind fun y4=>jn (α:=Bool) (bif decide (y4=0) then (d8m d_ p_).bind fun y6=>some y6 else some false) fun j7=>some j7
instance {m:List MOp}:GI (gjt 2890104 m) [4] [] (fun y:Bool=>[(12,.bool y)]) (fun y=>[]):=⟨⟩
instance g6j {d_:d9} {p_:Int}:WJ (e8s d_ p_) 289 [d9.v d_,.int .i64 p_] .bool:=wX Tryz.func289 [(1,⟨[],[],[.w 4 7 2890104]⟩)] (h:=fun _ _ h hQ M=>by unfold e8s at h;exact tX)
noncomputable def f3a (k351:Int) (a352:Bool) (x350:(List Int)×(List Bool)):Option ((List Int)×(List Bool)) :=
 jn (α:=Bool) (bif a352 then chk (inb k351 x350.2.length) (some (!(x350.2.getD ((k351).toNat) default))) else some false) fun j360=>bif j360 then chk (room (x350.1.length+[k351].length) 8) (chk (inb k351 x350.2.length) (some ((x350.1++[k351]),x350.2.set ((k351).toNat) true))) else some (x350.1,x350.2)
noncomputable def f9b (x_:List (List Bool)) (x257:(List Int)×(List Bool)):Option (Fl ((List Int)×(List Bool)) (List Bool)) :=
 bif decide (0<(x257.1.length:Int)) then chk (inb 0 x257.1.length) (chk (inb (x257.1.getD 0 default) x_.length) ((a09 f3a (x_.getD (x257.1.getD 0 default).toNat default) 0 (x257.1,x257.2)).bind fun x361=>chk (inc 1 (x361.1.length:Int) x361.1.length) (some (.nx ((x361.1.drop 1).take (x361.1.length - 1),x361.2))))) else some (.ex x257.2)
noncomputable def f03 (x_:List (List Bool)) (p_:Int):Option (List Bool) :=
 chk (b0b (x_.length:Int) (x_.length:Int) 1) (chk (inb p_ (List.replicate ((x_.length:Int)).toNat false).length) ((loop (f9b x_) ([p_],(List.replicate ((x_.length:Int)).toNat false).set ((p_).toNat) true)).bind fun r362=>some r362))
def f6n:List (Nat×RN):=[(9,⟨[],[],[.w 2 7 2920902]⟩)]
@[irreducible] def d6k:MC:=rdc (cK Tryz.prog Tryz.f292 f6n [] 7)
@[irreducible] def e3w:MC:=rdc (cK Tryz.prog Tryz.f292 f6n [(7,d6k)] 4)
attribute [go_sem] f3a f9b
instance {m:List MOp}:GI (gjt 2920902 m) [0,5,6,7,27,28,29] [2006,11] (fun y:Bool=>[(41,.bool y)]) (fun y=>[]):=⟨⟩
instance:LI d6k 29 28 [0,27,28] [] (fun y:(List Int)×(List Bool)=>[(5,.osl 11 1 0 y.2.length),(6,.osl 2006 1 0 y.1.length)]) (fun y=>[.o 2006 (.arr 1 (y.1.map (V.int .i64))),.o 11 (.arr 1 (y.2.map V.bool))]) [.gc [0,5,6,27,28,29],.acc 6 2006 1]:=⟨⟩
instance:LI e3w 0 0 [0] [] (fun y:(List Int)×(List Bool)=>[(5,.osl 11 1 0 y.2.length),(6,.osl 2006 1 0 y.1.length)]) (fun y=>[.o 2006 (.arr 1 (y.1.map (V.int .i64))),.o 11 (.arr 1 (y.2.map V.bool))]) [.gc [0,5,6],.trim 6,.acc 6 2006 1]:=⟨⟩
instance g92 {x_:List (List Bool)} {p_:Int}:WJ (f03 x_ p_) 292 [.sl (x_.map (slV V.bool)),.int .i64 p_] fun z=>.sl (z.map V.bool):=wX Tryz.func292 f6n [(7,d6k),(4,e3w)] [.fz 4] (h:=fun _ _ h hQ M=>by unfold f03 at h;exact tX)
def f2o (k16:Int) (a17:Bool) (x15:List Int):Option (List Int) :=
 bif a17 then chk (room (x15.length+[k16].length) 8) (some (x15++[k16])) else some x15
def d9w (l_:List Bool):Option (List Int) :=
 (a09 f2o l_ 0 []).bind fun x18=>some x18
def g35:List (Nat×RN):=[(1,⟨[],[.k 0 1],[]⟩)]
@[irreducible] def e5e:MC:=rdc (cK Tryz.prog Tryz.f290 g35 [] 3)
attribute [go_sem] f2o
instance:LI e5e 8 7 [6,7] [] (fun y:List Int=>[(3,.osl 2003 1 0 y.length)]) (fun y=>[.o 2003 (.arr 1 (y.map (V.int .i64)))]) [.gc [3,6,7,8],.acc 3 2003 1]:=⟨⟩
instance g91 {l_:List Bool}:WJ (d9w l_) 290 [.sl (l_.map V.bool)] fun z=>.sl (z.map (V.int .i64)):=wX Tryz.func290 g35 [(3,e5e)] [.fz 2] (h:=fun _ _ h hQ M=>by unfold d9w at h;exact tX)
noncomputable def d9v (d_:d9) (p_:Int) (t_:Int):Option (List Int) :=
 (e8s d_ p_).bind fun y4=>bif (!y4) then some [] else (atF d_.Kinds.length (d_.Events.map fun e=>(e.Time,e.Kind,e.Principal,e.Group)) t_).bind fun y8=>(f03 y8 p_).bind fun y9=>(d9w y9).bind fun y10=>some y10
def e5m:MC:=rdc (cT Tryz.prog Tryz.f275 [] [])
instance g90 {d_:d9} {p_ t_:Int}:WI (d9v d_ p_ t_) Tryz.prog 275 [d9.v d_,.int .i64 p_,.int .i64 t_] [] (fun z=>.sl (z.map (V.int .i64))) (fun z=>[]):=⟨fun Q Q' h hQ=>by
 refine a2s e5m [.fz 6] [] [.t 6] Tryz.func275 fun M=>?_
 unfold d9v at h
 unfold e5m
 replace h:=tY h
 refine tB ?_
 repeat' (first
 | (exact tZ)
 | ((first|refine b7w h ?_|refine a6f h ?_|refine b8y h ?_|refine b8x h ?_|refine b96 h ?_|refine appG h ?_|refine b9e h ?_|refine fork h ?_ ?_|refine a6g h ?_ ?_)<;>clear h<;>intro hc h)
 | (obtain ⟨y,hy,h⟩:=h;(first|have hw:=g9t (f:=a0n.v) (e4:=fun e=>(e.Time,e.Kind,e.Principal,e.Group)) (fun _=>rfl) hy|have hw:=WI.w hy);replace hw:=tY hw;(first|refine M.sC hw ?_|refine M.sD hw ?_);clear hw hy;refine tB ?_)
 | (refine tE ?_;(first|rw [M.lok_compU]|rw [M.lokD_compU]);refine tB ?_)
 | (refine tA ?_)
 | fail)⟩
def f2n (place_:Int) (t_:Int) (k44:Int) (a45:o8) (x43:List (Int×Int)):Option (List (Int×Int)) :=
 grp ((decide (t_<a45.Time)||(!decide (a45.Place=place_)))) fun b53=>bif b53 then some x43 else bif decide (a45.Kind=1) then some (a6y a45.Principal k44 x43) else bif decide (a45.Kind=2) then some (b7o a45.Principal x43) else some x43
def e9t (a_:l5) (place_:Int) (t_:Int):Option (List (Int×Int)) :=
 (a09 (f2n place_ t_) a_.Events 0 []).bind fun x54=>some x54
def g2x:List (Nat×RN):=[(5,⟨[],[],[.v 5 9]⟩),(6,⟨[.gc [1,2,7,8,9,12,13,14,25,26,27,28]],[],[]⟩),(9,⟨[.gc [1,2,7,9,12,13,14,25,26,27,28]],[],[]⟩)]
@[irreducible] def e5d:MC:=rdc (cK Tryz.prog Tryz.f293 g2x [] 3)
attribute [go_sem] f2n
instance:LI e5d 14 13 [1,2,7,12,13] [] (fun y:List (Int×Int)=>[]) (fun y=>[.o 10 (.map (.int .i64) (y.map (kvV (V.int .i64) (V.int .i64))))]) []:=⟨⟩
instance g8l {a_:l5} {place_ t_:Int}:WJ (e9t a_ place_ t_) 293 [l5.v a_,.int .i64 place_,.int .i64 t_] fun z=>(mpV (.int .i64) (V.int .i64) (V.int .i64)) z:=wX Tryz.func293 g2x [(3,e5d)] [.fz 6] (h:=fun _ _ h hQ M=>by unfold e9t at h;exact tX)
noncomputable def g0a (k21:Int) (a19:Int×Int) (x18:List Int):Option (List Int) :=
 chk (room (x18.length+[a19.1].length) 8) (some (x18++[a19.1]))
noncomputable def F_8 (a_:l5) (place_:Int) (t_:Int):Option (List Int) := (F_1 a_ place_).bind fun y4=>bif (!y4) then some [] else (e9t a_ place_ t_).bind fun y15=>b69 (fun l20=>(a09 g0a l20 0 []).bind fun x22=>(b0u x22).bind fun y24=>some y24) y15
def a_8:List (Nat×RN):=[(3,⟨[],[.k 0 1],[]⟩),(8,⟨[],[.c 1 0 [2007] []],[]⟩)]
@[irreducible] def d6c:MC:=rdc (cK Tryz.prog Tryz.f276 a_8 [] 5)
def g1h:MC:=rdc (cT Tryz.prog Tryz.f276 a_8 [(5,d6c)])
instance h0v {a_:l5} {place_ t_:Int}:WI (F_8 a_ place_ t_) Tryz.prog 276 [l5.v a_,.int .i64 place_,.int .i64 t_] [] (fun z=>.sl (z.map (V.int .i64))) (fun z=>[]):=⟨fun Q Q' h hQ=>by
 refine a2s g1h [.fz 6] [] [.t 6] Tryz.func276 fun M=>?_
 unfold F_8 at h
 unfold g1h
 replace h:=tY h
 refine tB ?_
 repeat' (first
 | (exact tZ)
 | (refine And.intro (by refine ⟨?_,?_,?_,?_⟩<;>omega) ?_;first|exact hQ _ h|(rw [zP (by omega)];exact hQ _ h))
 | (rw [←hlen];exact hQ _ h)
 | (have hq:=hQ _ h;simp only [wA,Nat.min_eq_left hlen.1] at hq;exact hq)
 | ((first|refine b7w h ?_|refine a6f h ?_|refine b8y h ?_|refine b8x h ?_|refine b96 h ?_|refine appG h ?_|refine b9e h ?_|refine fork h ?_ ?_|refine a6g h ?_ ?_)<;>clear h<;>intro hc h)
 | (obtain ⟨y,hy,h⟩:=h;(first|(have hw:=a1b 1000 2007 (f7h hy);replace hw:=tY hw;(try simp only [hlen] at hw);have hlen:=b0t hy)|have hw:=WI.w hy);replace hw:=tY hw;(first|refine M.sC hw ?_|refine M.sD hw ?_);clear hw hy;refine tB ?_)
 | (refine M.mfold1 (b:=d6c) (kv:=(kvV (V.int .i64) (V.int .i64))) 17 [17] [] (fun x=>[(7,.osl 2007 1 0 x.length)]) (fun x=>[.o 2007 (.arr 1 (x.map (V.int .i64)))]) [.gc [7,17],.acc 7 2007 1] h ?_ ?_<;>first
 | (clear h;intro rem cur x k Qn K hK1 hs1 hn1;unfold g0a at hn1;unfold d6c;refine tB ?_)
 | (clear h;(try refine tB ?_);exact tU0;done))
 | (refine c5k hs1 hn1 ?_ ?_<;>first
  |(intro h;rw [M.lok_eq];replace h:=tY h;refine tB ?_)
  |(intro i a h;rw [M.lok_eq];replace h:=tY h;refine tB ?_))
 | (apply hK1;(try refine tB ?_);refine ⟨_,h,?_⟩;exact tU0;done)
 | (refine tE ?_;(first|rw [M.lok_compU]|rw [M.lokD_compU]);refine tB ?_)
 | (refine tA ?_)
 | fail)⟩
noncomputable def f2m (y2:List Int) (k37:Int) (a38:Int) (x36:Unit):Option (Fl Unit (Int×Bool)) :=
 (d8o y2 a38).bind fun y46=>bif y46 then some (.ex (a38,true)) else some (.nx ())
noncomputable def e9s (d_:d9) (a_:l5) (p_:Int) (place_:Int) (t_:Int):Option (Int×Bool) :=
 (d9v d_ p_ t_).bind fun y2=>(F_8 a_ place_ t_).bind fun y25=>(a0x (f2m y2) y25 0 ()).bind fun o=>o.elim (fun x47=>some (0,false)) (fun r48=>some r48)
def g2w:List (Nat×RN):=[(2,⟨[.gc [3,4,6,12]],[],[]⟩),(6,⟨[.gc [14]],[],[]⟩)]
@[irreducible] def e5c:MC:=rdc (cK Tryz.prog Tryz.f257 g2w [] 3)
attribute [go_sem] f2m
instance:LI e5c 24 23 [12,22,23] [] (fun y:Unit=>[]) (fun y=>[]) []:=⟨⟩
instance g8k {d_:d9} {a_:l5} {p_ place_ t_:Int}:WJ (e9s d_ a_ p_ place_ t_) 257 [d9.v d_,l5.v a_,.int .i64 p_,.int .i64 place_,.int .i64 t_] fun z=>.tup [.int .i64 z.1,.bool z.2]:=wX Tryz.func257 g2w [(3,e5c)] (h:=fun _ _ h hQ M=>by unfold e9s at h;exact tX)
noncomputable def e8r (d_:d9) (a_:l5) (p_:Int) (place_:Int) (t_:Int):Option Bool :=
 (e8t d_ a_ p_ place_).bind fun y4=>bif (!y4) then some false else (F_5 a_ place_ t_).bind fun y6=>(e9s d_ a_ p_ place_ t_).bind fun y8=>grp ((y6.2||y8.2)) fun b10=>some b10
instance g6i {d_:d9} {a_:l5} {p_ place_ t_:Int}:WJ (e8r d_ a_ p_ place_ t_) 239 [d9.v d_,l5.v a_,.int .i64 p_,.int .i64 place_,.int .i64 t_] .bool:=wX Tryz.func239 [(3,⟨[.gc [2,3,4,5,6,39]],[],[]⟩),(4,⟨[.gc [2,3,4,5,6,12,39]],[],[]⟩),(5,⟨[.gc [12,14,39]],[],[.v 2 3]⟩)] (h:=fun _ _ h hQ M=>by unfold e8r at h;exact tX)
noncomputable def f2l (d_:d9) (a_:l5) (p_:Int) (t_:Int) (k75:Int) (a76:Int) (x74:Unit):Option (Fl Unit (Int×Bool)) :=
 (F_5 a_ a76 t_).bind fun y96=>grp ((decide (p_=(-1))&&y96.2)) fun b99=>bif b99 then some (.ex (a76,true)) else bif (!decide (p_=(-1))) then (e8r d_ a_ p_ a76 t_).bind fun y100=>bif y100 then some (.ex (a76,true)) else some (.nx ()) else some (.nx ())
noncomputable def e9r (d_:d9) (a_:l5) (content_:Int) (p_:Int) (t_:Int):Option (Int×Bool) :=
 (F_y a_ content_ t_).bind fun y47=>(a0x (f2l d_ a_ p_ t_) y47 0 ()).bind fun o=>o.elim (fun x101=>some (0,false)) (fun r102=>some r102)
def g2v:List (Nat×RN):=[(5,⟨[.gc [3,4,5,6,13,15,19,20,21,35,38,39,40,41,42,43,44,45,46,47]],[],[.v 3 4]⟩),(6,⟨[.gc [13]],[],[]⟩)]
@[irreducible] def e5b:MC:=rdc (cK Tryz.prog Tryz.f209 g2v [] 2)
attribute [go_sem] f2l
instance:LI e5b 21 20 [3,4,5,6,19,20] [6,5] (fun y:Unit=>[]) (fun y=>[]) []:=⟨⟩
instance g8j {d_:d9} {a_:l5} {content_ p_ t_:Int}:WJ (e9r d_ a_ content_ p_ t_) 209 [d9.v d_,l5.v a_,.int .i64 content_,.int .i64 p_,.int .i64 t_] fun z=>.tup [.int .i64 z.1,.bool z.2]:=wX Tryz.func209 g2v [(2,e5b)] (h:=fun _ _ h hQ M=>by unfold e9r at h;exact tX)
noncomputable def f9a (d_:d9) (a_:l5) (content_:Int) (p_:Int) (k35:Int) (a36:Int) (x34:Unit):Option (Fl Unit (Int×Bool)) :=
 (e9r d_ a_ content_ p_ a36).bind fun y44=>bif y44.2 then some (.ex (a36,true)) else some (.nx ())
noncomputable def e9q (d_:d9) (a_:l5) (content_:Int) (p_:Int):Option (Int×Bool) :=
 (F_x d_ a_).bind fun y23=>(a0x (f9a d_ a_ content_ p_) y23 0 ()).bind fun o=>o.elim (fun x45=>some (0,false)) (fun r46=>some r46)
def g2u:List (Nat×RN):=[(6,⟨[.gc [11]],[],[]⟩)]
@[irreducible] def e3v:MC:=rdc (cK Tryz.prog Tryz.f157 g2u [] 2)
attribute [go_sem] f9a
instance:LI e3v 18 17 [2,3,4,5,16,17] [5,4] (fun y:Unit=>[]) (fun y=>[]) []:=⟨⟩
instance g8i {d_:d9} {a_:l5} {content_ p_:Int}:WJ (e9q d_ a_ content_ p_) 157 [d9.v d_,l5.v a_,.int .i64 content_,.int .i64 p_] fun z=>.tup [.int .i64 z.1,.bool z.2]:=wX Tryz.func157 g2u [(2,e3v)] (h:=fun _ _ h hQ M=>by unfold e9q at h;exact tX)
noncomputable def f8z (d_:d9) (a_:l5) (content_:Int) (x26:Int×(List z8)):Option (Fl (Int×(List z8)) (List z8)) :=
 bif decide (x26.1<(d_.Kinds.length:Int)) then jn (α:=List z8) ((e9q d_ a_ content_ x26.1).bind fun y34=>bif y34.2 then chk (room (x26.2.length+[(z8.mk x26.1 y34.1)].length) 16) (some (x26.2++[(z8.mk x26.1 y34.1)])) else some x26.2) fun j32=>chk (a0l (x26.1+1)) (some (.nx ((x26.1+1),j32))) else some (.ex x26.2)
noncomputable def f02 (d_:d9) (a_:l5) (content_:Int):Option ((List z8)×Int) :=
 (e8v d_ a_ content_).bind fun y4=>bif (!decide (y4=0)) then some ([],y4) else (loop (f8z d_ a_ content_) ((-1),[])).bind fun r35=>some (r35,0)
def f6m:List (Nat×RN):=[(3,⟨[.gc [8]],[],[]⟩),(4,⟨[],[.k 0 1],[]⟩),(10,⟨[.gc [2,3,4,9,10,11]],[],[]⟩)]
@[irreducible] def d5r:MC:=rdc (cK Tryz.prog Tryz.f107 f6m [] 10000007)
@[irreducible] def e3u:MC:=rdc (cK Tryz.prog Tryz.f107 f6m [(10000007,d5r)] 6)
attribute [go_sem] f8z
instance:LI d5r 0 0 [2,3,4,10] [4,3] (fun y:List z8=>[(9,.osl 2009 2 0 y.length)]) (fun y=>[.o 2009 (.arr 2 (y.map z8.v))]) [.gc [2,3,4,9,10],.acc 9 2009 2]:=⟨⟩
instance:LI e3u 0 0 [2,3,4] [4,3] (fun y:Int×(List z8)=>[(9,.osl 2009 2 0 y.2.length),(10,.int .i64 y.1)]) (fun y=>[.o 2009 (.arr 2 (y.2.map z8.v))]) [.gc [2,3,4,9,10],.acc 9 2009 2]:=⟨⟩
instance g8z {d_:d9} {a_:l5} {content_:Int}:WJ (f02 d_ a_ content_) 107 [d9.v d_,l5.v a_,.int .i64 content_] fun z=>.tup [.sl (z.1.map z8.v),.int .i64 z.2]:=wX Tryz.func107 f6m [(10000007,d5r),(6,e3u)] [.fz 6] (h:=fun _ _ h hQ M=>by unfold f02 at h;exact tX)
noncomputable def e94 (k32:Int) (a33:z8) (x31:o6):Option o6 :=
 jn (α:=o6) (bif decide (a33.Principal=(-1)) then some (o6.mk x31.Fingerprint x31.Spots true x31.Readers x31.Since x31.Severity x31.Rotated x31.Dead) else chk (a0l (x31.Readers+1)) (some (o6.mk x31.Fingerprint x31.Spots x31.Public (x31.Readers+1) x31.Since x31.Severity x31.Rotated x31.Dead))) fun j37=>bif decide (j37.Since=(-1)) then some (o6.mk j37.Fingerprint j37.Spots j37.Public j37.Readers a33.Time j37.Severity j37.Rotated j37.Dead) else bif decide (a33.Time<j37.Since) then some (o6.mk j37.Fingerprint j37.Spots j37.Public j37.Readers a33.Time j37.Severity j37.Rotated j37.Dead) else some j37
noncomputable def f01 (m_:o6) (d_:d9) (a_:l5) (content_:Int):Option (Int×o6) :=
 (f02 d_ a_ content_).bind fun y2=>bif (!decide (y2.2=0)) then some (y2.2,m_) else (a09 e94 y2.1 0 (o6.mk m_.Fingerprint m_.Spots m_.Public m_.Readers (-1) m_.Severity m_.Rotated m_.Dead)).bind fun x38=>some (0,x38)
def f6l:List (Nat×RN):=[(4,⟨[.gc [0,9,51,52,53,54,55,56,57]],[],[]⟩)]
@[irreducible] def d5q:MC:=rdc (cK Tryz.prog Tryz.f68 f6l [] 10000011)
@[irreducible] def e5j:MC:=rdc (cK Tryz.prog Tryz.f68 f6l [(10000011,d5q)] 6)
attribute [go_sem] e94
instance:LI d5q 0 0 [0,12,26,27,28] [12] (fun y:o6=>[]) (fun y=>[.o 1000 (.cells [.int .u64 y.Fingerprint,.int .i64 y.Spots,.bool y.Public,.int .i64 y.Readers,.int .i64 y.Since,.int .i64 y.Severity.Level,.int .i64 y.Severity.Worth,.int .i64 y.Severity.Audience,.int .i64 y.Severity.Score,.bool y.Rotated,.bool y.Dead])]) []:=⟨⟩
instance:LI e5j 28 27 [0,26,27] [] (fun y:o6=>[]) (fun y=>[.o 1000 (.cells [.int .u64 y.Fingerprint,.int .i64 y.Spots,.bool y.Public,.int .i64 y.Readers,.int .i64 y.Since,.int .i64 y.Severity.Level,.int .i64 y.Severity.Worth,.int .i64 y.Severity.Audience,.int .i64 y.Severity.Score,.bool y.Rotated,.bool y.Dead])]) []:=⟨⟩
instance g8y {m_:o6} {d_:d9} {a_:l5} {content_:Int}:WI (f01 m_ d_ a_ content_) Tryz.prog 68 [.ptr 1000 0,d9.v d_,l5.v a_,.int .i64 content_] [(1000,.cells [.int .u64 m_.Fingerprint,.int .i64 m_.Spots,.bool m_.Public,.int .i64 m_.Readers,.int .i64 m_.Since,.int .i64 m_.Severity.Level,.int .i64 m_.Severity.Worth,.int .i64 m_.Severity.Audience,.int .i64 m_.Severity.Score,.bool m_.Rotated,.bool m_.Dead])] (fun z=>.int .i64 z.1) (fun z=>[(1000,.cells [.int .u64 z.2.Fingerprint,.int .i64 z.2.Spots,.bool z.2.Public,.int .i64 z.2.Readers,.int .i64 z.2.Since,.int .i64 z.2.Severity.Level,.int .i64 z.2.Severity.Worth,.int .i64 z.2.Severity.Audience,.int .i64 z.2.Severity.Score,.bool z.2.Rotated,.bool z.2.Dead])]):=wX Tryz.func68 f6l [(10000011,d5q),(6,e5j)] [] [1000] (h:=fun _ _ h hQ M=>by unfold f01 at h;exact tX)
end Go.Ab
set_option maxRecDepth 20000
set_option maxHeartbeats 2000000
namespace Go.Ab
open Go.Proofs
def d9n (n_:Int) (low_:Int) (high_:Int):Option Bool :=
 grp ((decide (low_≤n_)&&decide (n_≤high_))) fun b2=>some b2
instance g7b {n_ low_ high_:Int}:WJ (d9n n_ low_ high_) 160 [.int .i64 n_,.int .i64 low_,.int .i64 high_] .bool:=wX Tryz.func160 [(1,⟨[],[],[.v 4 7]⟩)] (h:=fun _ _ h hQ M=>by unfold d9n at h;exact tX)
def f1v (x_:a0e):Option Bool :=
 (c0f x_.Name 40).bind fun y4=>jn (α:=Bool) (bif (!y4) then some true else (d9n x_.Slots 1 2).bind fun y6=>some (!y6)) fun j7=>some j7
instance {m:List MOp}:GI (gjt 1580105 m) [2] [] (fun y:Bool=>[(12,.bool y)]) (fun y=>[]):=⟨⟩
instance g5s {x_:a0e}:WJ (f1v x_) 158 [a0e.v x_] .bool:=wX Tryz.func158 [(1,⟨[],[],[.w 5 9 1580105]⟩)] (h:=fun _ _ h hQ M=>by unfold f1v at h;exact tX)
def f8y (k31:Int) (a32:a0e) (x30:Unit):Option (Fl Unit Int) :=
 (f1v a32).bind fun y40=>bif y40 then some (.ex k31) else some (.nx ())
def f1u (s_:List a0e):Option Int :=
 (a0x f8y s_ 0 ()).bind fun o=>o.elim (fun x41=>some (-1)) (fun r42=>some r42)
@[irreducible] def e3t:MC:=rdc (cK Tryz.prog Tryz.f210 [] [] 2)
attribute [go_sem] f8y
instance:LI e3t 8 7 [0,1,7] [] (fun y:Unit=>[]) (fun y=>[]) []:=⟨⟩
instance g5r {s_:List a0e}:WJ (f1u s_) 210 [.sl (s_.map a0e.v),.fn (.func 158) []] (.int .i64):=wX Tryz.func210 [] [(2,e3t)] (h:=fun _ _ h hQ M=>by unfold f1u at h;exact tX)
def e8q (s_:List a0e):Option Bool :=
 (f1u s_).bind fun y2=>some (decide (0≤y2))
instance g6h {s_:List a0e}:WJ (e8q s_) 163 [.sl (s_.map a0e.v),.fn (.func 158) []] .bool:=wX Tryz.func163 (h:=fun _ _ h hQ M=>by unfold e8q at h;exact tX)
def f1t (r_:o5) (c_:o7):Option Bool :=
 chk (a0l ((r_.Issuers.length:Int) - 1)) ((d9n c_.Issuer 0 ((r_.Issuers.length:Int) - 1)).bind fun y7=>jn (α:=Bool) (bif y7 then (d9n c_.Holder 0 23).bind fun y9=>some y9 else some false) fun j10=>grp ((j10&&decide (0≤c_.From))) fun b11=>grp ((b11&&decide (c_.From<c_.Until))) fun b12=>grp ((b12&&decide (c_.Until≤1099511627777))) fun b13=>some b13)
instance {m:List MOp}:GI (gjt 1620108 m) [3,4] [3] (fun y:Bool=>[(16,.bool y)]) (fun y=>[]):=⟨⟩
instance g5q {r_:o5} {c_:o7}:WJ (f1t r_ c_) 162 [o5.v r_,o7.v c_] .bool:=wX Tryz.func162 [(1,⟨[],[],[.w 8 11 1620108,.v 13 16,.v 18 23,.v 25 28]⟩)] (h:=fun _ _ h hQ M=>by unfold f1t at h;exact tX)
def f1s (c_:o7) (p_:o5):Option Bool :=
 (f1t p_ c_).bind fun y2=>some (!y2)
instance g5p {c_:o7} {p_:o5}:WI (f1s c_ p_) Tryz.prog 161 [o7.v c_,.ptr 1000 0] [(1000,.cells [.sl (p_.Issuers.map a0e.v),.sl (p_.Credentials.map o7.v)])] (fun z=>.bool z) (fun z=>[(1000,.cells [.sl (p_.Issuers.map a0e.v),.sl (p_.Credentials.map o7.v)])]):=wX Tryz.func161 [] [] [] [1000] (h:=fun _ _ h hQ M=>by unfold f1s at h;exact tX)
def f8x (fc0_:o5) (k31:Int) (a32:o7) (x30:Unit):Option (Fl Unit Int) :=
 (f1s a32 fc0_).bind fun y40=>bif y40 then some (.ex k31) else some (.nx ())
def f2z (s_:List o7) (fc0_:o5):Option Int :=
 (a0x (f8x fc0_) s_ 0 ()).bind fun o=>o.elim (fun x41=>some (-1)) (fun r42=>some r42)
def g28:List (Nat×RN):=[(4,⟨[],[.c 5 0 [1000] []],[]⟩)]
@[irreducible] def e3s:MC:=rdc (cK Tryz.prog Tryz.f211 g28 [] 2)
attribute [go_sem] f8x
instance:LI e3s 8 7 [0,1,7] [1000] (fun y:Unit=>[]) (fun y=>[]) []:=⟨⟩
instance g7p {s_:List o7} {fc0_:o5}:WI (f2z s_ fc0_) Tryz.prog 211 [.sl (s_.map o7.v),.fn (.func 161) [.ptr 1000 0]] [(1000,.cells [.sl (fc0_.Issuers.map a0e.v),.sl (fc0_.Credentials.map o7.v)])] (fun z=>.int .i64 z) (fun z=>[(1000,.cells [.sl (fc0_.Issuers.map a0e.v),.sl (fc0_.Credentials.map o7.v)])]):=wX Tryz.func211 g28 [(2,e3s)] [] [1000] (h:=fun _ _ h hQ M=>by unfold f2z at h;exact tX)
def e8p (s_:List o7) (fc0_:o5):Option Bool :=
 (f2z s_ fc0_).bind fun y2=>some (decide (0≤y2))
instance g6g {s_:List o7} {fc0_:o5}:WI (e8p s_ fc0_) Tryz.prog 164 [.sl (s_.map o7.v),.fn (.func 161) [.ptr 1000 0]] [(1000,.cells [.sl (fc0_.Issuers.map a0e.v),.sl (fc0_.Credentials.map o7.v)])] (fun z=>.bool z) (fun z=>[(1000,.cells [.sl (fc0_.Issuers.map a0e.v),.sl (fc0_.Credentials.map o7.v)])]):=wX Tryz.func164 [(1,⟨[],[.c 2 0 [1000] []],[]⟩)] [] [] [1000] (h:=fun _ _ h hQ M=>by unfold e8p at h;exact tX)
def f1r (c_:o7) (t_:Int):Option Bool :=
 grp ((decide (c_.From≤t_)&&decide (t_<c_.Until))) fun b2=>some b2
instance g5o {c_:o7} {t_:Int}:WJ (f1r c_ t_) 212 [o7.v c_,.int .i64 t_] .bool:=wX Tryz.func212 [(1,⟨[],[],[.v 5 9]⟩)] (h:=fun _ _ h hQ M=>by unfold f1r at h;exact tX)
def f8w (issuer_:Int) (holder_:Int) (t_:Int) (k100:Int) (a101:o7) (x99:List Int):Option (List Int) :=
 grp ((decide (a101.Issuer=issuer_)&&decide (a101.Holder=holder_))) fun b123=>jn (α:=Bool) (bif b123 then (f1r a101 t_).bind fun y125=>some y125 else some false) fun j126=>bif j126 then chk (room (x99.length+[k100].length) 8) (some (x99++[k100])) else some x99
def e9p (r_:o5) (issuer_:Int) (holder_:Int) (t_:Int):Option (List Int) :=
 (a09 (f8w issuer_ holder_ t_) r_.Credentials 0 []).bind fun x127=>some x127
def g2t:List (Nat×RN):=[(1,⟨[],[.k 0 1],[]⟩),(5,⟨[],[],[.v 5 9,.w 11 14 1650511]⟩)]
@[irreducible] def e3r:MC:=rdc (cK Tryz.prog Tryz.f165 g2t [] 3)
attribute [go_sem] f8w
instance {m:List MOp}:GI (gjt 1650511 m) [1,2,3,9,10,13,14,15] [2009] (fun y:Bool=>[(34,.bool y)]) (fun y=>[]):=⟨⟩
instance:LI e3r 15 14 [1,2,3,13,14] [] (fun y:List Int=>[(9,.osl 2009 1 0 y.length)]) (fun y=>[.o 2009 (.arr 1 (y.map (V.int .i64)))]) [.gc [1,2,3,9,13,14,15],.acc 9 2009 1]:=⟨⟩
instance g8h {r_:o5} {issuer_ holder_ t_:Int}:WJ (e9p r_ issuer_ holder_ t_) 165 [o5.v r_,.int .i64 issuer_,.int .i64 holder_,.int .i64 t_] fun z=>.sl (z.map (V.int .i64)):=wX Tryz.func165 g2t [(3,e3r)] [.fz 8] (h:=fun _ _ h hQ M=>by unfold e9p at h;exact tX)
def f8v (r_:o5) (k43:Int) (a44:o7) (x42:Unit):Option (Fl Unit Int) :=
 (e9p r_ a44.Issuer a44.Holder a44.From).bind fun y52=>chk (inb a44.Issuer r_.Issuers.length) (bif decide ((r_.Issuers.getD (a44.Issuer).toNat default).Slots<(y52.length:Int)) then some (.ex 31) else some (.nx ()))
def d9u (r_:o5):Option Int :=
 grp ((decide (8<(r_.Issuers.length:Int))||decide (24<(r_.Credentials.length:Int)))) fun b10=>bif b10 then some 31 else (e8q r_.Issuers).bind fun y11=>bif y11 then some 31 else (e8p r_.Credentials r_).bind fun y12=>bif y12 then some 31 else (a0x (f8v r_) r_.Credentials 0 ()).bind fun o=>o.elim (fun x53=>some 0) (fun r54=>some r54)
def g34:List (Nat×RN):=[(3,⟨[],[.c 20 0 [1] []],[.v 5 9]⟩),(5,⟨[.gc [1]],[],[]⟩)]
@[irreducible] def e3q:MC:=rdc (cK Tryz.prog Tryz.f108 g34 [] 6)
attribute [go_sem] f8v
instance:LI e3q 33 32 [1,31,32] [1] (fun y:Unit=>[]) (fun y=>[]) []:=⟨⟩
instance g8x {r_:o5}:WJ (d9u r_) 108 [o5.v r_] (.int .i64):=wX Tryz.func108 g34 [(6,e3q)] (h:=fun _ _ h hQ M=>by have:SwA [(1000,1)]:=⟨⟩;unfold d9u at h;exact tX)
def F_i (n_:Int) (low_:Int) (high_:Int):Option Bool := grp ((decide (low_≤n_)&&decide (n_≤high_))) fun b2=>some b2
instance h0m {n_ low_ high_:Int}:WJ (F_i n_ low_ high_) 166 [.int .i64 n_,.int .i64 low_,.int .i64 high_] .bool:=wX Tryz.func166 [(1,⟨[],[],[.v 4 7]⟩)] (h:=fun _ _ h hQ M=>by unfold F_i at h;exact tX)
def F_z (x_:l6) (c_:Int):Option Bool := chk (a0l (x_.Credentials - 1)) ((F_i c_ 0 (x_.Credentials - 1)).bind fun y2=>some y2)
instance h04 {x_:l6} {c_:Int}:WJ (F_z x_ c_) 168 [l6.v x_,.int .i64 c_] .bool:=wX Tryz.func168 (h:=fun _ _ h hQ M=>by unfold F_z at h;exact tX)
def d9m (x_:l6) (r_:Int):Option Bool :=
 chk (a0l (x_.Resources - 1)) ((F_i r_ 0 (x_.Resources - 1)).bind fun y2=>some y2)
instance g7a {x_:l6} {r_:Int}:WJ (d9m x_ r_) 169 [l6.v x_,.int .i64 r_] .bool:=wX Tryz.func169 (h:=fun _ _ h hQ M=>by unfold d9m at h;exact tX)
def f1q (g_:a02) (p_:l6):Option Bool :=
 (F_z p_ g_.Credential).bind fun y6=>jn (α:=Bool) (bif (!y6) then some true else (d9m p_ g_.Resource).bind fun y8=>some (!y8)) fun j9=>jn (α:=Bool) (bif j9 then some true else (F_i g_.Right 1 3).bind fun y11=>some (!y11)) fun j12=>some j12
instance {m:List MOp}:GI (gjt 1670113 m) [3] [1000] (fun y:Bool=>[(21,.bool y)]) (fun y=>[]):=⟨⟩
instance {m:List MOp}:GI (gjt 1670106 m) [2,3] [2,1000] (fun y:Bool=>[(15,.bool y)]) (fun y=>[]):=⟨⟩
instance g5n {g_:a02} {p_:l6}:WI (f1q g_ p_) Tryz.prog 167 [a02.v g_,.ptr 1000 0] [(1000,.cells [.int .i64 p_.Credentials,.int .i64 p_.Resources,.sl (p_.Grants.map a02.v),.sl (p_.Stores.map a08.v),.sl (p_.Mints.map a0p.v)])] (fun z=>.bool z) (fun z=>[(1000,.cells [.int .i64 p_.Credentials,.int .i64 p_.Resources,.sl (p_.Grants.map a02.v),.sl (p_.Stores.map a08.v),.sl (p_.Mints.map a0p.v)])]):=wX Tryz.func167 [(1,⟨[],[],[.w 6 11 1670106,.w 13 17 1670113]⟩)] [] [] [1000] (h:=fun _ _ h hQ M=>by unfold f1q at h;exact tX)
def f8u (fc0_:l6) (k31:Int) (a32:a02) (x30:Unit):Option (Fl Unit Int) :=
 (f1q a32 fc0_).bind fun y40=>bif y40 then some (.ex k31) else some (.nx ())
def g09 (s_:List a02) (fc0_:l6):Option Int :=
 (a0x (f8u fc0_) s_ 0 ()).bind fun o=>o.elim (fun x41=>some (-1)) (fun r42=>some r42)
def g1x:List (Nat×RN):=[(4,⟨[],[.c 5 0 [1000] []],[]⟩)]
@[irreducible] def e3p:MC:=rdc (cK Tryz.prog Tryz.f213 g1x [] 2)
attribute [go_sem] f8u
instance:LI e3p 8 7 [0,1,7] [1000] (fun y:Unit=>[]) (fun y=>[]) []:=⟨⟩
instance g79 {s_:List a02} {fc0_:l6}:WI (g09 s_ fc0_) Tryz.prog 213 [.sl (s_.map a02.v),.fn (.func 167) [.ptr 1000 0]] [(1000,.cells [.int .i64 fc0_.Credentials,.int .i64 fc0_.Resources,.sl (fc0_.Grants.map a02.v),.sl (fc0_.Stores.map a08.v),.sl (fc0_.Mints.map a0p.v)])] (fun z=>.int .i64 z) (fun z=>[(1000,.cells [.int .i64 fc0_.Credentials,.int .i64 fc0_.Resources,.sl (fc0_.Grants.map a02.v),.sl (fc0_.Stores.map a08.v),.sl (fc0_.Mints.map a0p.v)])]):=wX Tryz.func213 g1x [(2,e3p)] [] [1000] (h:=fun _ _ h hQ M=>by unfold g09 at h;exact tX)
def f1p (s_:List a02) (fc0_:l6):Option Bool :=
 (g09 s_ fc0_).bind fun y2=>some (decide (0≤y2))
instance g5m {s_:List a02} {fc0_:l6}:WI (f1p s_ fc0_) Tryz.prog 172 [.sl (s_.map a02.v),.fn (.func 167) [.ptr 1000 0]] [(1000,.cells [.int .i64 fc0_.Credentials,.int .i64 fc0_.Resources,.sl (fc0_.Grants.map a02.v),.sl (fc0_.Stores.map a08.v),.sl (fc0_.Mints.map a0p.v)])] (fun z=>.bool z) (fun z=>[(1000,.cells [.int .i64 fc0_.Credentials,.int .i64 fc0_.Resources,.sl (fc0_.Grants.map a02.v),.sl (fc0_.Stores.map a08.v),.sl (fc0_.Mints.map a0p.v)])]):=wX Tryz.func172 [(1,⟨[],[.c 2 0 [1000] []],[]⟩)] [] [] [1000] (h:=fun _ _ h hQ M=>by unfold f1p at h;exact tX)
def f1o (s_:a08) (p_:l6):Option Bool :=
 (F_z p_ s_.Credential).bind fun y4=>jn (α:=Bool) (bif (!y4) then some true else (d9m p_ s_.Resource).bind fun y6=>some (!y6)) fun j7=>some j7
instance {m:List MOp}:GI (gjt 1700106 m) [3] [1000] (fun y:Bool=>[(15,.bool y)]) (fun y=>[]):=⟨⟩
instance g5l {s_:a08} {p_:l6}:WI (f1o s_ p_) Tryz.prog 170 [a08.v s_,.ptr 1000 0] [(1000,.cells [.int .i64 p_.Credentials,.int .i64 p_.Resources,.sl (p_.Grants.map a02.v),.sl (p_.Stores.map a08.v),.sl (p_.Mints.map a0p.v)])] (fun z=>.bool z) (fun z=>[(1000,.cells [.int .i64 p_.Credentials,.int .i64 p_.Resources,.sl (p_.Grants.map a02.v),.sl (p_.Stores.map a08.v),.sl (p_.Mints.map a0p.v)])]):=wX Tryz.func170 [(1,⟨[],[],[.w 6 11 1700106]⟩)] [] [] [1000] (h:=fun _ _ h hQ M=>by unfold f1o at h;exact tX)
def f8t (fc0_:l6) (k31:Int) (a32:a08) (x30:Unit):Option (Fl Unit Int) :=
 (f1o a32 fc0_).bind fun y40=>bif y40 then some (.ex k31) else some (.nx ())
def g08 (s_:List a08) (fc0_:l6):Option Int :=
 (a0x (f8t fc0_) s_ 0 ()).bind fun o=>o.elim (fun x41=>some (-1)) (fun r42=>some r42)
def g1w:List (Nat×RN):=[(4,⟨[],[.c 5 0 [1000] []],[]⟩)]
@[irreducible] def e3o:MC:=rdc (cK Tryz.prog Tryz.f214 g1w [] 2)
attribute [go_sem] f8t
instance:LI e3o 8 7 [0,1,7] [1000] (fun y:Unit=>[]) (fun y=>[]) []:=⟨⟩
instance g78 {s_:List a08} {fc0_:l6}:WI (g08 s_ fc0_) Tryz.prog 214 [.sl (s_.map a08.v),.fn (.func 170) [.ptr 1000 0]] [(1000,.cells [.int .i64 fc0_.Credentials,.int .i64 fc0_.Resources,.sl (fc0_.Grants.map a02.v),.sl (fc0_.Stores.map a08.v),.sl (fc0_.Mints.map a0p.v)])] (fun z=>.int .i64 z) (fun z=>[(1000,.cells [.int .i64 fc0_.Credentials,.int .i64 fc0_.Resources,.sl (fc0_.Grants.map a02.v),.sl (fc0_.Stores.map a08.v),.sl (fc0_.Mints.map a0p.v)])]):=wX Tryz.func214 g1w [(2,e3o)] [] [1000] (h:=fun _ _ h hQ M=>by unfold g08 at h;exact tX)
def f1n (s_:List a08) (fc0_:l6):Option Bool :=
 (g08 s_ fc0_).bind fun y2=>some (decide (0≤y2))
instance g5k {s_:List a08} {fc0_:l6}:WI (f1n s_ fc0_) Tryz.prog 173 [.sl (s_.map a08.v),.fn (.func 170) [.ptr 1000 0]] [(1000,.cells [.int .i64 fc0_.Credentials,.int .i64 fc0_.Resources,.sl (fc0_.Grants.map a02.v),.sl (fc0_.Stores.map a08.v),.sl (fc0_.Mints.map a0p.v)])] (fun z=>.bool z) (fun z=>[(1000,.cells [.int .i64 fc0_.Credentials,.int .i64 fc0_.Resources,.sl (fc0_.Grants.map a02.v),.sl (fc0_.Stores.map a08.v),.sl (fc0_.Mints.map a0p.v)])]):=wX Tryz.func173 [(1,⟨[],[.c 2 0 [1000] []],[]⟩)] [] [] [1000] (h:=fun _ _ h hQ M=>by unfold f1n at h;exact tX)
def f1m (m_:a0p) (p_:l6):Option Bool :=
 (F_z p_ m_.From).bind fun y4=>jn (α:=Bool) (bif (!y4) then some true else (F_z p_ m_.To).bind fun y6=>some (!y6)) fun j7=>some j7
instance {m:List MOp}:GI (gjt 1710106 m) [3] [1000] (fun y:Bool=>[(15,.bool y)]) (fun y=>[]):=⟨⟩
instance g5j {m_:a0p} {p_:l6}:WI (f1m m_ p_) Tryz.prog 171 [a0p.v m_,.ptr 1000 0] [(1000,.cells [.int .i64 p_.Credentials,.int .i64 p_.Resources,.sl (p_.Grants.map a02.v),.sl (p_.Stores.map a08.v),.sl (p_.Mints.map a0p.v)])] (fun z=>.bool z) (fun z=>[(1000,.cells [.int .i64 p_.Credentials,.int .i64 p_.Resources,.sl (p_.Grants.map a02.v),.sl (p_.Stores.map a08.v),.sl (p_.Mints.map a0p.v)])]):=wX Tryz.func171 [(1,⟨[],[],[.w 6 11 1710106]⟩)] [] [] [1000] (h:=fun _ _ h hQ M=>by unfold f1m at h;exact tX)
def f8s (fc0_:l6) (k31:Int) (a32:a0p) (x30:Unit):Option (Fl Unit Int) :=
 (f1m a32 fc0_).bind fun y40=>bif y40 then some (.ex k31) else some (.nx ())
def g07 (s_:List a0p) (fc0_:l6):Option Int :=
 (a0x (f8s fc0_) s_ 0 ()).bind fun o=>o.elim (fun x41=>some (-1)) (fun r42=>some r42)
def g1v:List (Nat×RN):=[(4,⟨[],[.c 5 0 [1000] []],[]⟩)]
@[irreducible] def e3n:MC:=rdc (cK Tryz.prog Tryz.f215 g1v [] 2)
attribute [go_sem] f8s
instance:LI e3n 8 7 [0,1,7] [1000] (fun y:Unit=>[]) (fun y=>[]) []:=⟨⟩
instance g77 {s_:List a0p} {fc0_:l6}:WI (g07 s_ fc0_) Tryz.prog 215 [.sl (s_.map a0p.v),.fn (.func 171) [.ptr 1000 0]] [(1000,.cells [.int .i64 fc0_.Credentials,.int .i64 fc0_.Resources,.sl (fc0_.Grants.map a02.v),.sl (fc0_.Stores.map a08.v),.sl (fc0_.Mints.map a0p.v)])] (fun z=>.int .i64 z) (fun z=>[(1000,.cells [.int .i64 fc0_.Credentials,.int .i64 fc0_.Resources,.sl (fc0_.Grants.map a02.v),.sl (fc0_.Stores.map a08.v),.sl (fc0_.Mints.map a0p.v)])]):=wX Tryz.func215 g1v [(2,e3n)] [] [1000] (h:=fun _ _ h hQ M=>by unfold g07 at h;exact tX)
def f1l (s_:List a0p) (fc0_:l6):Option Bool :=
 (g07 s_ fc0_).bind fun y2=>some (decide (0≤y2))
instance g5i {s_:List a0p} {fc0_:l6}:WI (f1l s_ fc0_) Tryz.prog 174 [.sl (s_.map a0p.v),.fn (.func 171) [.ptr 1000 0]] [(1000,.cells [.int .i64 fc0_.Credentials,.int .i64 fc0_.Resources,.sl (fc0_.Grants.map a02.v),.sl (fc0_.Stores.map a08.v),.sl (fc0_.Mints.map a0p.v)])] (fun z=>.bool z) (fun z=>[(1000,.cells [.int .i64 fc0_.Credentials,.int .i64 fc0_.Resources,.sl (fc0_.Grants.map a02.v),.sl (fc0_.Stores.map a08.v),.sl (fc0_.Mints.map a0p.v)])]):=wX Tryz.func174 [(1,⟨[],[.c 2 0 [1000] []],[]⟩)] [] [] [1000] (h:=fun _ _ h hQ M=>by unfold f1l at h;exact tX)
def d3m (x_:l6):Option Int :=
 (F_i x_.Credentials 0 24).bind fun y11=>bif (!y11) then some 32 else (F_i x_.Resources 0 24).bind fun y12=>bif (!y12) then some 32 else grp ((decide (100<(x_.Grants.length:Int))||decide (100<(x_.Stores.length:Int)))) fun b15=>grp ((b15||decide (100<(x_.Mints.length:Int)))) fun b16=>bif b16 then some 32 else (f1p x_.Grants x_).bind fun y26=>bif y26 then some 32 else (f1n x_.Stores x_).bind fun y27=>bif y27 then some 32 else (f1l x_.Mints x_).bind fun y28=>bif y28 then some 32 else some 0
instance g8g {x_:l6}:WJ (d3m x_) 109 [l6.v x_] (.int .i64):=wX Tryz.func109 [(3,⟨[.gc [1,23,24,25,26,29,30,31,32,42,43,44,45,48,49,50,51]],[],[.v 5 9,.v 11 15]⟩),(8,⟨[.gc [1,3,4,5,42,43,44,45,48,49,50,51]],[.c 3 0 [1] [],.c 8 0 [1] [],.c 14 0 [1] []],[]⟩)] (h:=fun _ _ h hQ M=>by have:SwA [(1000,1)]:=⟨⟩;unfold d3m at h;exact tX)
def f8r (fingerprint_:Int) (k20:Int) (a21:o7) (x19:List Int):Option (List Int) :=
 bif decide (a21.Fingerprint=fingerprint_) then chk (room (x19.length+[k20].length) 8) (some (x19++[k20])) else some x19
def e9o (r_:o5) (fingerprint_:Int):Option (List Int) :=
 (d9u r_).bind fun y4=>bif (!decide (y4=0)) then some [] else (a09 (f8r fingerprint_) r_.Credentials 0 []).bind fun x22=>some x22
def g2s:List (Nat×RN):=[(3,⟨[],[.k 0 1],[]⟩),(8,⟨[.gc [1,5,6,12,13,14]],[],[]⟩)]
@[irreducible] def e3m:MC:=rdc (cK Tryz.prog Tryz.f111 g2s [] 5)
attribute [go_sem] f8r
instance:LI e3m 14 13 [1,12,13] [] (fun y:List Int=>[(5,.osl 2005 1 0 y.length)]) (fun y=>[.o 2005 (.arr 1 (y.map (V.int .i64)))]) [.gc [1,5,12,13,14],.acc 5 2005 1]:=⟨⟩
instance g8f {r_:o5} {fingerprint_:Int}:WJ (e9o r_ fingerprint_) 111 [o5.v r_,.int .u64 fingerprint_] fun z=>.sl (z.map (V.int .i64)):=wX Tryz.func111 g2s [(5,e3m)] [.fz 4] (h:=fun _ _ h hQ M=>by unfold e9o at h;exact tX)
def f1k (w_:Int):Option Bool :=
 grp ((decide (w_<0)||decide (100<w_))) fun b2=>some b2
instance g5h {w_:Int}:WJ (f1k w_) 110 [.int .i64 w_] .bool:=wX Tryz.func110 [(1,⟨[],[],[.v 3 5]⟩)] (h:=fun _ _ h hQ M=>by unfold f1k at h;exact tX)
def f8q (k31:Int) (a32:Int) (x30:Unit):Option (Fl Unit Int) :=
 (f1k a32).bind fun y40=>bif y40 then some (.ex k31) else some (.nx ())
def f1j (s_:List Int):Option Int :=
 (a0x f8q s_ 0 ()).bind fun o=>o.elim (fun x41=>some (-1)) (fun r42=>some r42)
@[irreducible] def e3l:MC:=rdc (cK Tryz.prog Tryz.f175 [] [] 2)
attribute [go_sem] f8q
instance:LI e3l 8 7 [0,1,7] [] (fun y:Unit=>[]) (fun y=>[]) []:=⟨⟩
instance g5g {s_:List Int}:WJ (f1j s_) 175 [.sl (s_.map (V.int .i64)),.fn (.func 110) []] (.int .i64):=wX Tryz.func175 [] [(2,e3l)] (h:=fun _ _ h hQ M=>by unfold f1j at h;exact tX)
def e8o (s_:List Int):Option Bool :=
 (f1j s_).bind fun y2=>some (decide (0≤y2))
instance g6f {s_:List Int}:WJ (e8o s_) 112 [.sl (s_.map (V.int .i64)),.fn (.func 110) []] .bool:=wX Tryz.func112 (h:=fun _ _ h hQ M=>by unfold e8o at h;exact tX)
def f7l (c_:Int) (p_:l6):Option Bool :=
 some (decide (p_.Credentials≤c_))
instance g51 {c_:Int} {p_:l6}:WI (f7l c_ p_) Tryz.prog 113 [.int .i64 c_,.ptr 1000 0] [(1000,.cells [.int .i64 p_.Credentials,.int .i64 p_.Resources,.sl (p_.Grants.map a02.v),.sl (p_.Stores.map a08.v),.sl (p_.Mints.map a0p.v)])] (fun z=>.bool z) (fun z=>[(1000,.cells [.int .i64 p_.Credentials,.int .i64 p_.Resources,.sl (p_.Grants.map a02.v),.sl (p_.Stores.map a08.v),.sl (p_.Mints.map a0p.v)])]):=wX Tryz.func113 [] [] [] [1000] (h:=fun _ _ h hQ M=>by unfold f7l at h;exact tX)
def g3r (fc0_:l6) (k31:Int) (a32:Int) (x30:Unit):Option (Fl Unit Int) :=
 (f7l a32 fc0_).bind fun y40=>bif y40 then some (.ex k31) else some (.nx ())
def f2y (s_:List Int) (fc0_:l6):Option Int :=
 (a0x (g3r fc0_) s_ 0 ()).bind fun o=>o.elim (fun x41=>some (-1)) (fun r42=>some r42)
def g27:List (Nat×RN):=[(4,⟨[],[.c 5 0 [1000] []],[]⟩)]
@[irreducible] def e2h:MC:=rdc (cK Tryz.prog Tryz.f175 g27 [] 2)
attribute [go_sem] g3r
instance:LI e2h 8 7 [0,1,7] [1000] (fun y:Unit=>[]) (fun y=>[]) []:=⟨⟩
instance g7o {s_:List Int} {fc0_:l6}:WI (f2y s_ fc0_) Tryz.prog 175 [.sl (s_.map (V.int .i64)),.fn (.func 113) [.ptr 1000 0]] [(1000,.cells [.int .i64 fc0_.Credentials,.int .i64 fc0_.Resources,.sl (fc0_.Grants.map a02.v),.sl (fc0_.Stores.map a08.v),.sl (fc0_.Mints.map a0p.v)])] (fun z=>.int .i64 z) (fun z=>[(1000,.cells [.int .i64 fc0_.Credentials,.int .i64 fc0_.Resources,.sl (fc0_.Grants.map a02.v),.sl (fc0_.Stores.map a08.v),.sl (fc0_.Mints.map a0p.v)])]):=wX Tryz.func175 g27 [(2,e2h)] [] [1000] (h:=fun _ _ h hQ M=>by unfold f2y at h;exact tX)
def e8n (s_:List Int) (fc0_:l6):Option Bool :=
 (f2y s_ fc0_).bind fun y2=>some (decide (0≤y2))
instance g6e {s_:List Int} {fc0_:l6}:WI (e8n s_ fc0_) Tryz.prog 112 [.sl (s_.map (V.int .i64)),.fn (.func 113) [.ptr 1000 0]] [(1000,.cells [.int .i64 fc0_.Credentials,.int .i64 fc0_.Resources,.sl (fc0_.Grants.map a02.v),.sl (fc0_.Stores.map a08.v),.sl (fc0_.Mints.map a0p.v)])] (fun z=>.bool z) (fun z=>[(1000,.cells [.int .i64 fc0_.Credentials,.int .i64 fc0_.Resources,.sl (fc0_.Grants.map a02.v),.sl (fc0_.Stores.map a08.v),.sl (fc0_.Mints.map a0p.v)])]):=wX Tryz.func112 [(1,⟨[],[.c 2 0 [1000] []],[]⟩)] [] [] [1000] (h:=fun _ _ h hQ M=>by unfold e8n at h;exact tX)
def e8m (w_:Int):Option Bool :=
 grp ((decide (w_<0)||decide (100<w_))) fun b2=>some b2
instance g6d {w_:Int}:WJ (e8m w_) 216 [.int .i64 w_] .bool:=wX Tryz.func216 [(1,⟨[],[],[.v 3 5]⟩)] (h:=fun _ _ h hQ M=>by unfold e8m at h;exact tX)
def f2k (k31:Int) (a32:Int) (x30:Unit):Option (Fl Unit Int) :=
 (e8m a32).bind fun y40=>bif y40 then some (.ex k31) else some (.nx ())
def f7k (s_:List Int):Option Int :=
 (a0x f2k s_ 0 ()).bind fun o=>o.elim (fun x41=>some (-1)) (fun r42=>some r42)
@[irreducible] def e5a:MC:=rdc (cK Tryz.prog Tryz.f175 [] [] 2)
attribute [go_sem] f2k
instance:LI e5a 8 7 [0,1,7] [] (fun y:Unit=>[]) (fun y=>[]) []:=⟨⟩
instance g50 {s_:List Int}:WJ (f7k s_) 175 [.sl (s_.map (V.int .i64)),.fn (.func 216) []] (.int .i64):=wX Tryz.func175 [] [(2,e5a)] (h:=fun _ _ h hQ M=>by unfold f7k at h;exact tX)
def e8l (s_:List Int):Option Bool :=
 (f7k s_).bind fun y2=>some (decide (0≤y2))
instance g6c {s_:List Int}:WJ (e8l s_) 112 [.sl (s_.map (V.int .i64)),.fn (.func 216) []] .bool:=wX Tryz.func112 (h:=fun _ _ h hQ M=>by unfold e8l at h;exact tX)
def g0l (c_:Int) (k16:Int) (a17:a0p) (x15:List a0q):Option (List a0q) :=
 bif decide (a17.From=c_) then chk (room (x15.length+[(a0q.mk 2 (-1) (-1) k16)].length) 32) (some (x15++[(a0q.mk 2 (-1) (-1) k16)])) else some x15
def g06 (c_:Int) (k384:Int) (a385:a02) (k479:Int) (a480:a08) (x478:List a0q):Option (List a0q) :=
 grp ((decide (a385.Credential=c_)&&decide (a480.Resource=a385.Resource))) fun b488=>bif b488 then chk (room (x478.length+[(a0q.mk 1 k384 k479 (-1))].length) 32) (some (x478++[(a0q.mk 1 k384 k479 (-1))])) else some x478
def f8p (x_:l6) (c_:Int) (k384:Int) (a385:a02) (x383:List a0q):Option (List a0q) :=
 (a09 (g06 c_ k384 a385) x_.Stores 0 x383).bind fun x489=>some x489
def F_j (x_:l6) (c_:Int):Option (List a0q) := (a09 (g0l c_) x_.Mints 0 []).bind fun x18=>(a09 (f8p x_ c_) x_.Grants 0 x18).bind fun x490=>some x490
def a_j:List (Nat×RN):=[(1,⟨[],[.k 0 1],[]⟩),(6,⟨[.gc [1,2,5,6,13,14,15,51,52,53,54,55]],[],[]⟩),(14,⟨[],[],[.v 5 10]⟩),(15,⟨[.gc [1,2,5,8,9,10,31,32,33,39,40,41,51,52,53,54,55]],[],[]⟩)]
@[irreducible] def d0d:MC:=rdc (cK Tryz.prog Tryz.f279 a_j [] 3)
@[irreducible] def d6b:MC:=rdc (cK Tryz.prog Tryz.f279 a_j [(3,d0d)] 12)
@[irreducible] def e3k:MC:=rdc (cK Tryz.prog Tryz.f279 a_j [(3,d0d),(12,d6b)] 9)
attribute [go_sem] g0l g06 f8p
instance:LI d0d 15 14 [1,2,13,14] [2] (fun y:List a0q=>[(5,.osl 2005 4 0 y.length)]) (fun y=>[.o 2005 (.arr 4 (y.map a0q.v))]) [.gc [1,2,5,13,14,15],.acc 5 2005 4]:=⟨⟩
instance:LI d6b 41 40 [1,2,8,9,31,32,33,39,40] [9,2] (fun y:List a0q=>[(5,.osl 2005 4 0 y.length)]) (fun y=>[.o 2005 (.arr 4 (y.map a0q.v))]) [.gc [1,2,5,8,9,31,32,33,39,40,41],.acc 5 2005 4]:=⟨⟩
instance:LI e3k 33 32 [1,2,31,32] [2] (fun y:List a0q=>[(5,.osl 2005 4 0 y.length)]) (fun y=>[.o 2005 (.arr 4 (y.map a0q.v))]) []:=⟨⟩
instance g4w {x_:l6} {c_:Int}:WJ (F_j x_ c_) 279 [l6.v x_,.int .i64 c_] fun z=>.sl (z.map a0q.v):=wX Tryz.func279 a_j [(3,d0d),(12,d6b),(9,e3k)] [.fz 4] (h:=fun _ _ h hQ M=>by unfold F_j at h;exact tX)
def d8p (x_:l6) (c_:Int) (l_:a0q):Option (Int×Bool) :=
 grp ((decide (l_.Kind=2)&&decide (l_.Grant=(-1)))) fun b20=>grp ((b20&&decide (l_.Store=(-1)))) fun b21=>jn (α:=Bool) (bif b21 then chk (a0l ((x_.Mints.length:Int) - 1)) ((F_i l_.Mint 0 ((x_.Mints.length:Int) - 1)).bind fun y23=>some y23) else some false) fun j24=>jn (α:=Bool) (bif j24 then chk (inb l_.Mint x_.Mints.length) (some (decide ((x_.Mints.getD (l_.Mint).toNat default).From=c_))) else some false) fun j25=>bif j25 then chk (inb l_.Mint x_.Mints.length) (some ((x_.Mints.getD (l_.Mint).toNat default).To,true)) else bif decide (l_.Kind=1) then bif decide (l_.Mint=(-1)) then chk (a0l ((x_.Grants.length:Int) - 1)) ((F_i l_.Grant 0 ((x_.Grants.length:Int) - 1)).bind fun y28=>bif y28 then chk (a0l ((x_.Stores.length:Int) - 1)) ((F_i l_.Store 0 ((x_.Stores.length:Int) - 1)).bind fun y29=>bif y29 then chk (inb l_.Grant x_.Grants.length) (bif decide ((x_.Grants.getD (l_.Grant).toNat default).Credential=c_) then chk (inb l_.Store x_.Stores.length) (chk (inb l_.Grant x_.Grants.length) (bif decide ((x_.Stores.getD (l_.Store).toNat default).Resource=(x_.Grants.getD (l_.Grant).toNat default).Resource) then chk (inb l_.Store x_.Stores.length) (some ((x_.Stores.getD (l_.Store).toNat default).Credential,true)) else some (0,false))) else some (0,false)) else some (0,false)) else some (0,false)) else some (0,false) else some (0,false)
instance {m:List MOp}:GI (gjt 2800123 m) [1,3,5] [5,3] (fun y:Bool=>[(41,.bool y)]) (fun y=>[]):=⟨⟩
instance {m:List MOp}:GI (gjt 2800114 m) [1,3,5] [5,3] (fun y:Bool=>[(30,.bool y)]) (fun y=>[]):=⟨⟩
instance f7a {x_:l6} {c_:Int} {l_:a0q}:WJ (d8p x_ c_ l_) 280 [l6.v x_,.int .i64 c_,a0q.v l_] fun z=>.tup [.int .i64 z.1,.bool z.2]:=wX Tryz.func280 [(1,⟨[],[],[.v 4 7,.v 9 12,.w 14 21 2800114,.w 23 32 2800123]⟩),(4,⟨[.gc [3,5]],[],[]⟩)] (h:=fun _ _ h hQ M=>by unfold d8p at h;exact tX)
noncomputable def e93 (s_:List a0q):Option (List a0q) :=
 amb s_.isEmpty (some []) (chk (room (([]:List a0q).length+s_.length) 32) (some (([]:List a0q)++s_)))
instance f6z {s_:List a0q}:WI (e93 s_) Tryz.prog 282 [.sl (s_.map a0q.v)] [] (fun z=>.osl 1900 4 0 z.length) (fun z=>[(1900,.arr 4 (z.map a0q.v))]):=wX Tryz.func282 [(0,⟨[],[.k 0 1],[]⟩),(2,⟨[],[.k 0 1],[]⟩)] [] [.acc 2 1900 4] [1900] (h:=fun _ _ h hQ M=>by unfold e93 at h;exact tX)
noncomputable def g0u (x_:l6) (k599:Int) (a600:a0q) (x598:(List Int)×(List (Int×List a0q))):Option ((List Int)×(List (Int×List a0q))) :=
 chk (inb 0 x598.1.length) ((d8p x_ (x598.1.getD 0 default) a600).bind fun y614=>bif (!((a4z y614.1 x598.2).isSome)) then chk (inb 0 x598.1.length) ((e93 ((a4z (x598.1.getD 0 default) x598.2).getD [])).bind fun y616=>chk (room (y616.length+[a600].length) 32) (chk (room (x598.1.length+[y614.1].length) 8) (some ((x598.1++[y614.1]),a6y y614.1 (y616++[a600]) x598.2)))) else some (x598.1,x598.2))
noncomputable def g05 (x_:l6) (x437:(List Int)×(List (Int×List a0q))):Option (Fl ((List Int)×(List (Int×List a0q))) (List (Int×List a0q))) :=
 bif decide (0<(x437.1.length:Int)) then chk (inb 0 x437.1.length) ((F_j x_ (x437.1.getD 0 default)).bind fun y568=>(a09 (g0u x_) y568 0 (x437.1,x437.2)).bind fun x617=>chk (inc 1 (x617.1.length:Int) x617.1.length) (some (.nx ((x617.1.drop 1).take (x617.1.length - 1),x617.2)))) else some (.ex x437.2)
noncomputable def F_6 (x_:l6) (c_:Int):Option (List (Int×List a0q)) := (loop (g05 x_) ([c_],a6y c_ [] [])).bind fun r618=>some r618
def a_6:List (Nat×RN):=[(1,⟨[],[.k 2 1],[.n 3 (.nm 13 1900 4)]⟩),(9,⟨[.gc [2,5,6,8,9,27,28,29]],[],[]⟩),(11,⟨[.gc [2,5,6,8,9,27,28,29]],[.c 7 0 [] [57],.k 11 4],[]⟩),(12,⟨[.gc [2,5,6,9,27,28,29]],[],[]⟩)]
@[irreducible] def c5t:MC:=rdc (cK Tryz.prog Tryz.f260 a_6 [] 6)
@[irreducible] def d6a:MC:=rdc (cK Tryz.prog Tryz.f260 a_6 [(6,c5t)] 3)
def g1i:MC:=rdc (cT Tryz.prog Tryz.f260 a_6 [(6,c5t),(3,d6a)])
theorem b0e {x_:l6} {c_:Int}:Cn Tryz.prog 260 [l6.v x_,.int .i64 c_] [(1900,.mark)] (F_6 x_ c_) (fun z=>.nsmap 1900 4 (.int .i64) (z.map (kvV (V.int .i64) (slV a0q.v)))) (fun z=>[(1900,.mark)]):=fun Q Q' h hQ=>by
 refine a2s g1i [.fz 4] [1900] [.t 4] Tryz.func260 fun M=>?_
 unfold F_6 at h
 unfold g1i
 replace h:=tY h
 refine tB ?_
 repeat' (first
 | (exact tZ)
 | ((first|refine b7w h ?_|refine a6f h ?_|refine fork h ?_ ?_|refine a6g h ?_ ?_)<;>clear h<;>intro hc h)
 | (obtain ⟨y,hy,h⟩:=h;(first|(with_reducible first|have hw:=g4w.c.w hy|have hw:=f7a.c.w hy)|have hw:=a1b 1900 57 (f6z.c.w hy));replace hw:=tY hw;(first|refine M.sC hw ?_|refine M.sD hw ?_);clear hw hy;refine tB ?_)
 | (refine M.fold1 (b:=c5t) 29 [2,5,27,28] [2,1900] (fun x=>[(6,.osl 2006 1 0 x.1.length)]) (fun x=>[.o 2006 (.arr 1 (x.1.map (V.int .i64))),.o 13 (.nmap 1900 4 (.int .i64) (x.2.map (kvV (V.int .i64) (slV a0q.v))))]) [.gc [2,5,6,27,28,29],.acc 6 2006 1] h ?_ ?_ ?_<;>first
 | (clear h;intro k a x Qn K hK1 hkN1 ha1 h hf;have hl:=a3r (a14 (n:=28) hf.1 rfl);clear hf;have hkd:=kD hkN1;have hkB1:=kB hkN1;have hkI1:=kI (k:=k) (by omega);unfold g0u at h;unfold c5t;replace h:=tY h;refine tK ha1 hkd hkN1 hkB1 hkI1 ?_)
  |(clear h;intro x K h;replace h:=And.left (And.intro h trivial);unfold c5t;replace h:=tY h;refine tB ?_)
  |(clear h;(try refine tB ?_);exact tU0;done))
 | (refine M.wh1 (b:=d6a) [2,5] [2,1900] (fun x=>[(6,.osl 2006 1 0 x.1.length)]) (fun x=>[.o 2006 (.arr 1 (x.1.map (V.int .i64))),.o 13 (.nmap 1900 4 (.int .i64) (x.2.map (kvV (V.int .i64) (slV a0q.v))))]) [.gc [2,5,6],.trim 6,.acc 6 2006 1] h ?_ ?_<;>first
 | (clear h;intro x Qn K hK2 h;unfold g05 at h;unfold d6a;replace h:=tY h;refine tB ?_)
  |(clear h;(try refine tB ?_);exact tU0;done))
 | (simp only [ha1])
 | ((first|refine hK1 _ ?_|refine hK2 _ ?_);(try refine tB ?_);refine ⟨_,h,?_⟩;exact tU0;done)
 | (refine tE ?_;(first|rw [M.lok_compU]|rw [M.lokD_compU]);refine tB ?_)
 | (refine tA ?_)
 | fail)
theorem g6s {x_:l6} {c_:Int}:Cn Tryz.prog 260 [l6.v x_,.int .i64 c_] [] (F_6 x_ c_) (fun z=>(mpV (.int .i64) (V.int .i64) (slV a0q.v)) z) (fun z=>[]):=fun Q Q' h hQ=>by
 obtain ⟨y,hy,hq⟩:=h
 exact (b7p (b0e.w hy) rfl).mono fun r H' ⟨e1,e2⟩=>by rw [e1,e2];exact hQ y hq
instance c3s {x_:l6} {c_:Int}:WI (F_6 x_ c_) Tryz.prog 260 [l6.v x_,.int .i64 c_] [] (fun z=>(mpV (.int .i64) (V.int .i64) (slV a0q.v)) z) (fun z=>[]):=⟨g6s⟩
noncomputable def g04 (k25:Int) (a23:Int×List a0q) (x22:List Int):Option (List Int) :=
 chk (room (x22.length+[a23.1].length) 8) (some (x22++[a23.1]))
noncomputable def f0g (x_:l6) (c_:Int):Option (List Int) :=
 (d3m x_).bind fun y7=>bif (!decide (y7=0)) then some [] else (F_z x_ c_).bind fun y8=>bif (!y8) then some [] else (F_6 x_ c_).bind fun y19=>b69 (fun l24=>(a09 g04 l24 0 []).bind fun x26=>(b0u x26).bind fun y28=>some y28) y19
def g3f:List (Nat×RN):=[(3,⟨[],[.k 0 1],[]⟩),(4,⟨[.gc [1,2,5]],[],[]⟩),(8,⟨[],[.c 1 0 [2005] []],[]⟩)]
@[irreducible] def d69:MC:=rdc (cK Tryz.prog Tryz.f241 g3f [] 5)
def e5p:MC:=rdc (cT Tryz.prog Tryz.f241 g3f [(5,d69)])
instance g9r {x_:l6} {c_:Int}:WI (f0g x_ c_) Tryz.prog 241 [l6.v x_,.int .i64 c_] [] (fun z=>.sl (z.map (V.int .i64))) (fun z=>[]):=⟨fun Q Q' h hQ=>by
 refine a2s e5p [.fz 4] [] [.t 4] Tryz.func241 fun M=>?_
 unfold f0g at h
 unfold e5p
 replace h:=tY h
 refine tB ?_
 repeat' (first
 | (exact tZ)
 | (refine And.intro (by refine ⟨?_,?_,?_,?_⟩<;>omega) ?_;first|exact hQ _ h|(rw [zP (by omega)];exact hQ _ h))
 | (rw [←hlen];exact hQ _ h)
 | (have hq:=hQ _ h;simp only [wA,Nat.min_eq_left hlen.1] at hq;exact hq)
 | ((first|refine b7w h ?_|refine a6f h ?_|refine b8y h ?_|refine b8x h ?_|refine b96 h ?_|refine appG h ?_|refine b9e h ?_|refine fork h ?_ ?_|refine a6g h ?_ ?_)<;>clear h<;>intro hc h)
 | (obtain ⟨y,hy,h⟩:=h;(first|(have hw:=a1b 1000 2005 (f7h hy);replace hw:=tY hw;(try simp only [hlen] at hw);have hlen:=b0t hy)|have hw:=WI.w hy);replace hw:=tY hw;(first|refine M.sC hw ?_|refine M.sD hw ?_);clear hw hy;refine tB ?_)
 | (refine M.mfold1 (b:=d69) (kv:=(kvV (V.int .i64) (slV a0q.v))) 19 [19] [] (fun x=>[(5,.osl 2005 1 0 x.length)]) (fun x=>[.o 2005 (.arr 1 (x.map (V.int .i64)))]) [.gc [5,19],.acc 5 2005 1] h ?_ ?_<;>first
 | (clear h;intro rem cur x k Qn K hK1 hs1 hn1;unfold g04 at hn1;unfold d69;refine tB ?_)
 | (clear h;(try refine tB ?_);exact tU0;done))
 | (refine c5k hs1 hn1 ?_ ?_<;>first
  |(intro h;rw [M.lok_eq];replace h:=tY h;refine tB ?_)
  |(intro i a h;rw [M.lok_eq];replace h:=tY h;refine tB ?_))
 | (apply hK1;(try refine tB ?_);refine ⟨_,h,?_⟩;exact tU0;done)
 | (refine tE ?_;(first|rw [M.lok_compU]|rw [M.lokD_compU]);refine tB ?_)
 | (refine tA ?_)
 | fail)⟩
noncomputable def f8o (l_:List Int) (x9:Int):Option (Fl Int (Sum Unit Bool)) :=
 bif decide (x9<(l_.length:Int)) then chk (a0l (x9 - 1)) (chk (inb (x9 - 1) l_.length) (chk (inb x9 l_.length) (bif decide ((l_.getD (x9).toNat default)≤(l_.getD ((x9 - 1)).toNat default)) then some (.ex (.inr false)) else chk (a0l (x9+1)) (some (.nx (x9+1)))))) else some (.ex (.inl ()))
noncomputable def e9n (l_:List Int):Option Bool :=
 (loop (f8o l_) 1).bind fun r10=>Sum.elim (fun u11=>some true) (fun u12=>some u12) r10
def g2r:List (Nat×RN):=[(3,⟨[.gc [0,3]],[],[]⟩)]
@[irreducible] def e3j:MC:=rdc (cK Tryz.prog Tryz.f277 g2r [] 2)
attribute [go_sem] f8o
instance:LI e3j 0 0 [0] [] (fun y:Int=>[(3,.int .i64 y)]) (fun y=>[]) []:=⟨⟩
instance g8e {l_:List Int}:WJ (e9n l_) 277 [.sl (l_.map (V.int .i64))] .bool:=wX Tryz.func277 g2r [(2,e3j)] (h:=fun _ _ h hQ M=>by unfold e9n at h;exact tX)
def f1i (c_:Int) (p_:l6):Option Bool :=
 (F_z p_ c_).bind fun y2=>some (!y2)
instance g5f {c_:Int} {p_:l6}:WI (f1i c_ p_) Tryz.prog 278 [.int .i64 c_,.ptr 1000 0] [(1000,.cells [.int .i64 p_.Credentials,.int .i64 p_.Resources,.sl (p_.Grants.map a02.v),.sl (p_.Stores.map a08.v),.sl (p_.Mints.map a0p.v)])] (fun z=>.bool z) (fun z=>[(1000,.cells [.int .i64 p_.Credentials,.int .i64 p_.Resources,.sl (p_.Grants.map a02.v),.sl (p_.Stores.map a08.v),.sl (p_.Mints.map a0p.v)])]):=wX Tryz.func278 [] [] [] [1000] (h:=fun _ _ h hQ M=>by unfold f1i at h;exact tX)
def f8n (fc0_:l6) (k31:Int) (a32:Int) (x30:Unit):Option (Fl Unit Int) :=
 (f1i a32 fc0_).bind fun y40=>bif y40 then some (.ex k31) else some (.nx ())
def g03 (s_:List Int) (fc0_:l6):Option Int :=
 (a0x (f8n fc0_) s_ 0 ()).bind fun o=>o.elim (fun x41=>some (-1)) (fun r42=>some r42)
def g1u:List (Nat×RN):=[(4,⟨[],[.c 5 0 [1000] []],[]⟩)]
@[irreducible] def e3i:MC:=rdc (cK Tryz.prog Tryz.f175 g1u [] 2)
attribute [go_sem] f8n
instance:LI e3i 8 7 [0,1,7] [1000] (fun y:Unit=>[]) (fun y=>[]) []:=⟨⟩
instance g76 {s_:List Int} {fc0_:l6}:WI (g03 s_ fc0_) Tryz.prog 175 [.sl (s_.map (V.int .i64)),.fn (.func 278) [.ptr 1000 0]] [(1000,.cells [.int .i64 fc0_.Credentials,.int .i64 fc0_.Resources,.sl (fc0_.Grants.map a02.v),.sl (fc0_.Stores.map a08.v),.sl (fc0_.Mints.map a0p.v)])] (fun z=>.int .i64 z) (fun z=>[(1000,.cells [.int .i64 fc0_.Credentials,.int .i64 fc0_.Resources,.sl (fc0_.Grants.map a02.v),.sl (fc0_.Stores.map a08.v),.sl (fc0_.Mints.map a0p.v)])]):=wX Tryz.func175 g1u [(2,e3i)] [] [1000] (h:=fun _ _ h hQ M=>by unfold g03 at h;exact tX)
def f1h (s_:List Int) (fc0_:l6):Option Bool :=
 (g03 s_ fc0_).bind fun y2=>some (decide (0≤y2))
instance g5e {s_:List Int} {fc0_:l6}:WI (f1h s_ fc0_) Tryz.prog 112 [.sl (s_.map (V.int .i64)),.fn (.func 278) [.ptr 1000 0]] [(1000,.cells [.int .i64 fc0_.Credentials,.int .i64 fc0_.Resources,.sl (fc0_.Grants.map a02.v),.sl (fc0_.Stores.map a08.v),.sl (fc0_.Mints.map a0p.v)])] (fun z=>.bool z) (fun z=>[(1000,.cells [.int .i64 fc0_.Credentials,.int .i64 fc0_.Resources,.sl (fc0_.Grants.map a02.v),.sl (fc0_.Stores.map a08.v),.sl (fc0_.Mints.map a0p.v)])]):=wX Tryz.func112 [(1,⟨[],[.c 2 0 [1000] []],[]⟩)] [] [] [1000] (h:=fun _ _ h hQ M=>by unfold f1h at h;exact tX)
noncomputable def g02 (x_:l6) (set_:List Int) (a358:Int) (k479:Int) (a480:a0q) (x478:Unit):Option (Fl Unit Bool) :=
 (d8p x_ a358 a480).bind fun y494=>(d8o set_ y494.1).bind fun y496=>bif (!y496) then some (.ex false) else some (.nx ())
noncomputable def f8m (x_:l6) (set_:List Int) (k357:Int) (a358:Int) (x356:Unit):Option (Fl Unit Bool) :=
 (F_j x_ a358).bind fun y459=>(a0x (g02 x_ set_ a358) y459 0 ()).bind fun o=>o.elim (fun x497=>some (.nx ())) (fun r498=>some (.ex r498))
noncomputable def e04 (x_:l6) (set_:List Int):Option Bool :=
 (d3m x_).bind fun y13=>grp (((!decide (y13=0))||decide ((set_.length:Int)=0))) fun b14=>bif b14 then some false else (e9n set_).bind fun y15=>bif (!y15) then some false else (f1h set_ x_).bind fun y16=>bif y16 then some false else (a0x (f8m x_ set_) set_ 0 ()).bind fun o=>o.elim (fun x499=>some true) (fun r500=>some r500)
def f6x:List (Nat×RN):=[(1,⟨[],[.c 16 0 [2] []],[.v 4 7]⟩),(3,⟨[.gc [1,2]],[],[]⟩),(10,⟨[.gc [1,2,6,9,29,30,31,37,38,39]],[],[]⟩)]
@[irreducible] def d68:MC:=rdc (cK Tryz.prog Tryz.f258 f6x [] 7)
@[irreducible] def e3h:MC:=rdc (cK Tryz.prog Tryz.f258 f6x [(7,d68)] 4)
attribute [go_sem] g02 f8m
instance:LI d68 39 38 [1,2,6,29,30,31,37,38] [2] (fun y:Unit=>[]) (fun y=>[]) []:=⟨⟩
instance:LI e3h 31 30 [1,2,29,30] [2] (fun y:Unit=>[]) (fun y=>[]) []:=⟨⟩
instance g9k {x_:l6} {set_:List Int}:WJ (e04 x_ set_) 258 [l6.v x_,.sl (set_.map (V.int .i64))] .bool:=wX Tryz.func258 f6x [(7,d68),(4,e3h)] (h:=fun _ _ h hQ M=>by have:SwA [(1000,2)]:=⟨⟩;unfold e04 at h;exact tX)
noncomputable def f8l (set_:List Int) (k48:Int) (a49:a02) (x47:List Int):Option (List Int) :=
 (d8o set_ a49.Credential).bind fun y57=>bif y57 then chk (inb a49.Resource x47.length) (chk (inb a49.Resource x47.length) (some (x47.set ((a49.Resource).toNat) (max (x47.getD ((a49.Resource).toNat) default) a49.Right)))) else some x47
noncomputable def e9m (x_:l6) (set_:List Int):Option (List Int) :=
 (e04 x_ set_).bind fun y4=>bif (!y4) then some [] else chk (b0b x_.Resources x_.Resources 8) ((a09 (f8l set_) x_.Grants 0 (List.replicate (x_.Resources).toNat 0)).bind fun x58=>some x58)
def g2q:List (Nat×RN):=[(4,⟨[.gc [1,2,5]],[],[]⟩)]
@[irreducible] def e3g:MC:=rdc (cK Tryz.prog Tryz.f240 g2q [] 5)
attribute [go_sem] f8l
instance:LI e3g 18 17 [1,16,17] [] (fun y:List Int=>[(5,.osl 14 1 0 y.length)]) (fun y=>[.o 14 (.arr 1 (y.map (V.int .i64)))]) []:=⟨⟩
instance g8d {x_:l6} {set_:List Int}:WJ (e9m x_ set_) 240 [l6.v x_,.sl (set_.map (V.int .i64))] fun z=>.sl (z.map (V.int .i64)):=wX Tryz.func240 g2q [(5,e3g)] [.fz 4] (h:=fun _ _ h hQ M=>by unfold e9m at h;exact tX)
noncomputable def d9l (x_:l6) (c_:Int):Option (List Int) :=
 (f0g x_ c_).bind fun y3=>(e9m x_ y3).bind fun y4=>some y4
instance g75 {x_:l6} {c_:Int}:WJ (d9l x_ c_) 217 [l6.v x_,.int .i64 c_] fun z=>.sl (z.map (V.int .i64)):=wX Tryz.func217 [] [] [.fz 4] (h:=fun _ _ h hQ M=>by unfold d9l at h;exact tX)
noncomputable def f8k (worths_:List Int) (k32:Int) (a33:Int) (x31:Int):Option Int :=
 chk (inb k32 worths_.length) (chk (a0l ((worths_.getD (k32).toNat default)*a33)) (chk (a0l (x31+((worths_.getD (k32).toNat default)*a33))) (some (x31+((worths_.getD (k32).toNat default)*a33)))))
noncomputable def d8t (x_:l6) (worths_:List Int) (c_:Int):Option (Int×Int) :=
 (d3m x_).bind fun y4=>bif (!decide (y4=0)) then some (0,y4) else bif (!decide ((worths_.length:Int)=x_.Resources)) then some (0,2) else (e8l worths_).bind fun y10=>bif y10 then some (0,2) else grp ((decide (c_<0)||decide (x_.Credentials≤c_))) fun b12=>bif b12 then some (0,6) else (d9l x_ c_).bind fun y25=>(a09 (f8k worths_) y25 0 0).bind fun x34=>some (x34,0)
def g3b:List (Nat×RN):=[(3,⟨[.gc [8]],[],[]⟩),(4,⟨[.gc [1,2,3,24,25,31,32,33,34]],[],[]⟩),(6,⟨[.gc [1,2,3,31,32,33,34]],[],[.v 3 7]⟩)]
@[irreducible] def e3f:MC:=rdc (cK Tryz.prog Tryz.f176 g3b [] 10)
attribute [go_sem] f8k
instance:LI e3f 40 39 [1,38,39] [] (fun y:Int=>[(9,.int .i64 y)]) (fun y=>[]) []:=⟨⟩
instance g9j {x_:l6} {worths_:List Int} {c_:Int}:WJ (d8t x_ worths_ c_) 176 [l6.v x_,.sl (worths_.map (V.int .i64)),.int .i64 c_] fun z=>.tup [.int .i64 z.1,.int .i64 z.2]:=wX Tryz.func176 g3b [(10,e3f)] (h:=fun _ _ h hQ M=>by unfold d8t at h;exact tX)
def g0k (score_:Int) (k16:Int) (a17:Int) (x15:Int):Option Int :=
 bif decide (a17≤score_) then chk (a0l (x15+1)) (some (x15+1)) else some x15
def f0f (score_:Int):Option Int :=
 (a09 (g0k score_) [1,100,1000,10000] 0 0).bind fun x18=>some x18
def g3e:List (Nat×RN):=[(2,⟨[],[.k 0 101],[]⟩)]
@[irreducible] def d0c:MC:=rdc (cK Tryz.prog Tryz.f177 g3e [] 3)
def e5o:MC:=rdc (cT Tryz.prog Tryz.f177 g3e [(3,d0c)])
instance g9q {score_:Int}:WI (f0f score_) Tryz.prog 177 [.int .i64 score_] [] (fun z=>.int .i64 z) (fun z=>[]):=⟨fun Q Q' h hQ=>by
 refine a2s e5o [] [] [.t 2] Tryz.func177 fun M=>?_
 unfold f0f at h
 unfold e5o
 replace h:=tY h
 refine tB ?_
 repeat' (first
 | (exact tZ)
 | ((first|refine b7w h ?_|refine a6f h ?_|refine b8y h ?_|refine b8x h ?_|refine b96 h ?_|refine appG h ?_|refine b9e h ?_|refine fork h ?_ ?_|refine a6g h ?_ ?_)<;>clear h<;>intro hc h)
 | (refine M.fold1 (b:=d0c) 7 [0,6] [] (fun x=>[(3,.int .i64 x)]) (fun x=>[]) [] h ?_ ?_ ?_<;>first
 | (clear h;intro k a x Qn K hK1 hkN1 ha1 h hf;skip;clear hf;have hkd:=kD hkN1;have hkB1:=kB hkN1;have hkI1:=kI (k:=k) (by (try simp only [wB,wN] at hkN1);omega);have hkd1:decide ((k:Int)<4)=true:=wU (by simp only [wB,wN] at hkN1;omega);have hkr1:(0≤(k:Int)∧(k:Int)<4)=True:=eq_true (by simp only [wB,wN] at hkN1;omega);have hle1:(k*1≤3)=True:=eq_true (by simp only [wB,wN] at hkN1;omega);have hpt1:=c6y (f:=fun e:Int=>.int .i64 e) ha1 hkN1;(try simp only [go_sem,Nat.reduceBEq,Nat.reduceAdd,Nat.reduceLeDiff,Nat.reduceSub,Nat.reduceMul,Int.reduceToNat,Int.reduceLT,Int.reduceLE,xS,List.flatMap_nil,w4,vG] at hpt1);unfold g0k at h;unfold d0c;replace h:=tY h;refine tKA ha1 hkd hkN1 hkB1 hkI1 hkd1 hkr1 hle1 hpt1 ?_)
  |(clear h;intro x K h;replace h:=And.left (And.intro h trivial);unfold d0c;replace h:=tY h;refine tB ?_)
  |(clear h;(try refine tB ?_);exact tU0;done))
 | (simp only [ha1])
 | (refine hK1 _ ?_;(try refine tB ?_);refine ⟨_,h,?_⟩;exact tU0;done)
 | (refine tE ?_;(first|rw [M.lok_compU]|rw [M.lokD_compU]);refine tB ?_)
 | (refine tA ?_)
 | fail)⟩
noncomputable def d8s (x_:l6) (worths_:List Int) (c_:Int) (readers_:Int) (public_:Bool):Option (q9×Int) :=
 (d8t x_ worths_ c_).bind fun y2=>bif (!decide (y2.2=0)) then some ((q9.mk 0 0 0 0),y2.2) else grp ((decide (readers_<0)||decide (24<readers_))) fun b6=>bif b6 then some ((q9.mk 0 0 0 0),2) else chk (a0l (1+readers_)) (jn (α:=q9) (bif public_ then some (q9.mk 0 y2.1 100 0) else some (q9.mk 0 y2.1 (1+readers_) 0)) fun j7=>chk (a0l (j7.Worth*j7.Audience)) ((f0f (j7.Worth*j7.Audience)).bind fun y9=>some ((q9.mk y9 j7.Worth j7.Audience (j7.Worth*j7.Audience)),0)))
def g3a:List (Nat×RN):=[(3,⟨[.gc [10,13]],[],[]⟩),(4,⟨[.gc [3,4,10,12,29,30]],[],[.v 3 5]⟩),(11,⟨[.gc [10,14]],[],[]⟩)]
@[irreducible] def e1x:MC:=rdc (cK Tryz.prog Tryz.f114 g3a [] 10000009)
instance:LI e1x 0 0 [10,14] [10] (fun y:q9=>[]) (fun y=>[.o 14 (.cells [.int .i64 y.Level,.int .i64 y.Worth,.int .i64 y.Audience,.int .i64 y.Score])]) []:=⟨⟩
instance g9i {x_:l6} {worths_:List Int} {c_ readers_:Int} {public_:Bool}:WJ (d8s x_ worths_ c_ readers_ public_) 114 [l6.v x_,.sl (worths_.map (V.int .i64)),.int .i64 c_,.int .i64 readers_,.bool public_] fun z=>.tup [q9.v z.1,.int .i64 z.2]:=wX Tryz.func114 g3a [(10000009,e1x)] (h:=fun _ _ h hQ M=>by unfold d8s at h;exact tX)
def f8j (l_:List q9) (k18:Int) (a19:q9) (x17:Int):Option Int :=
 chk (inb x17 l_.length) (bif decide ((l_.getD (x17).toNat default).Score<a19.Score) then some k18 else some x17)
def e8k (l_:List q9):Option (Int×Bool) :=
 (a09 (f8j l_) l_ 0 0).bind fun x20=>some (x20,decide (0<(l_.length:Int)))
@[irreducible] def e3e:MC:=rdc (cK Tryz.prog Tryz.f115 [] [] 3)
attribute [go_sem] f8j
instance:LI e3e 9 8 [0,7,8] [] (fun y:Int=>[(4,.int .i64 y)]) (fun y=>[]) []:=⟨⟩
instance g6b {l_:List q9}:WJ (e8k l_) 115 [.sl (l_.map q9.v)] fun z=>.tup [.int .i64 z.1,.bool z.2]:=wX Tryz.func115 [] [(3,e3e)] (h:=fun _ _ h hQ M=>by unfold e8k at h;exact tX)
noncomputable def f8i (m_:o6) (x_:l6) (worths_:List Int) (k63:Int) (a64:Int) (x62:List q9):Option (Fl (List q9) (Int×o6)) :=
 (d8s x_ worths_ a64 m_.Readers m_.Public).bind fun y72=>bif (!decide (y72.2=0)) then some (.ex (y72.2,m_)) else chk (room (x62.length+[y72.1].length) 32) (some (.nx (x62++[y72.1])))
noncomputable def e9l (m_:o6) (r_:o5) (x_:l6) (worths_:List Int):Option (Int×o6) :=
 (d9u r_).bind fun y4=>bif (!decide (y4=0)) then some (y4,m_) else (d3m x_).bind fun y8=>bif (!decide (y8=0)) then some (y8,m_) else (e9o r_ m_.Fingerprint).bind fun y10=>bif (!decide ((worths_.length:Int)=x_.Resources)) then some (2,m_) else (e8o worths_).bind fun y17=>bif y17 then some (2,m_) else (e8n y10 x_).bind fun y18=>bif y18 then some (2,m_) else (a0x (f8i m_ x_ worths_) y10 0 []).bind fun o=>o.elim (fun x73=>(e8k x73).bind fun y78=>bif y78.2 then chk (inb y78.1 x73.length) (some (0,(o6.mk m_.Fingerprint m_.Spots m_.Public m_.Readers m_.Since (x73.getD (y78.1).toNat default) m_.Rotated m_.Dead))) else some (0,m_)) (fun r74=>some r74)
def g2p:List (Nat×RN):=[(4,⟨[.gc [0,3,5,6,42,43,44,47,48,49]],[],[]⟩),(9,⟨[.gc [0,3,6,11,12,42,43,44,47,48,49]],[.c 13 0 [6] []],[]⟩),(11,⟨[],[.k 0 1],[]⟩),(12,⟨[.gc [0,3,6,12,13]],[],[]⟩),(18,⟨[.gc [0,3,6,13,16,51,52,53]],[],[]⟩),(20,⟨[],[],[.n 1 (.fz 81)]⟩),(22,⟨[.gc [0,13,18]],[],[]⟩)]
@[irreducible] def e3d:MC:=rdc (cK Tryz.prog Tryz.f69 g2p [] 13)
attribute [go_sem] f8i
instance:LI e3d 53 52 [0,3,6,51,52] [6,1000] (fun y:List q9=>[(13,.osl 2013 4 0 y.length)]) (fun y=>[.o 2013 (.arr 4 (y.map q9.v))]) [.gc [0,3,6,13,51,52,53],.acc 13 2013 4]:=⟨⟩
instance g8c {m_:o6} {r_:o5} {x_:l6} {worths_:List Int}:WI (e9l m_ r_ x_ worths_) Tryz.prog 69 [.ptr 1000 0,o5.v r_,l6.v x_,.sl (worths_.map (V.int .i64))] [(1000,.cells [.int .u64 m_.Fingerprint,.int .i64 m_.Spots,.bool m_.Public,.int .i64 m_.Readers,.int .i64 m_.Since,.int .i64 m_.Severity.Level,.int .i64 m_.Severity.Worth,.int .i64 m_.Severity.Audience,.int .i64 m_.Severity.Score,.bool m_.Rotated,.bool m_.Dead])] (fun z=>.int .i64 z.1) (fun z=>[(1000,.cells [.int .u64 z.2.Fingerprint,.int .i64 z.2.Spots,.bool z.2.Public,.int .i64 z.2.Readers,.int .i64 z.2.Since,.int .i64 z.2.Severity.Level,.int .i64 z.2.Severity.Worth,.int .i64 z.2.Severity.Audience,.int .i64 z.2.Severity.Score,.bool z.2.Rotated,.bool z.2.Dead])]):=wX Tryz.func69 g2p [(13,e3d)] [] [1000] (h:=fun _ _ h hQ M=>by have:SwA [(1000,6)]:=⟨⟩;unfold e9l at h;exact tX)
end Go.Ab
