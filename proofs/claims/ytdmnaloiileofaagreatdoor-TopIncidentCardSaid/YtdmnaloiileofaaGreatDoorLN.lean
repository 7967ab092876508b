/- What the functions of this seat that lie on the laws' road compute (part LN), each for every input. By AI agents. -/
import Derived.Test.YtdmnaloiileofaaGreatDoorLT
import Derived.Test.YtdmnaloiileofaaGreatDoorLE
import Derived.Test.YtdmnaloiileofaaGreatDoorLF
import Derived.Test.YtdmnaloiileofaaGreatDoorAbSortS
set_option linter.all false
set_option maxRecDepth 20000
set_option maxHeartbeats 2000000
namespace Go.Ab
open Go.Proofs
noncomputable section
def g3u (c_:l6):Option Bool :=
 (f9p c_).bind fun y2=>some (!y2)
instance h0x {c_:l6}:WJ (g3u c_) 210 [l6.v c_] .bool:=wX Tryz.func210 (h:=fun _ _ h hQ M=>by unfold g3u at h;exact tX)
@[go_sem] def g9h (k31:Int) (a32:l6) (x30:Unit):Option (Fl Unit Int) :=
 (g3u a32).bind fun y40=>bif y40 then some (.ex k31) else some (.nx ())
def g3t (s_:List l6):Option Int :=
 (forL g9h s_ 0 ()).bind fun o=>o.elim (fun x41=>some (-1)) (fun r42=>some r42)
@[irreducible] def e6b:MC:=rdc (cK Tryz.prog Tryz.f213 [] [] 2)
instance:LI e6b 8 7 [0,1,7] [] (fun y:Unit=>[]) (fun y=>[]) []:=⟨⟩
instance h0w {s_:List l6}:WJ (g3t s_) 213 [.sl (s_.map l6.v),.fn (.func 210) []] (.int .i64):=wX Tryz.func213 [] [(2,e6b)] (h:=fun _ _ h hQ M=>by unfold g3t at h;exact tX)
def g3s (s_:List l6):Option Bool :=
 (g3t s_).bind fun y2=>some (decide (0≤y2))
instance h0v {s_:List l6}:WJ (g3s s_) 146 [.sl (s_.map l6.v),.fn (.func 210) []] .bool:=wX Tryz.func146 (h:=fun _ _ h hQ M=>by unfold g3s at h;exact tX)
def f7k (l_:List l6):Option Int :=
 bif decide (60<(l_.length:Int)) then some 3 else (g3s l_).bind fun y4=>bif y4 then some 45 else some 0
instance h1o {l_:List l6}:WJ (f7k l_) 139 [.sl (l_.map l6.v)] (.int .i64):=wX Tryz.func139 (h:=fun _ _ h hQ M=>by unfold f7k at h;exact tX)
def F_8 (e_:Int):Option (d9×l5×(List Str)×Int) := some ((d9.mk [] []),(l5.mk 0 []),[],e_)
instance h94 {e_:Int}:WJ (F_8 e_) 138 [.int .i64 e_] fun z=>.tup [d9.v z.1,l5.v z.2.1,.sl (z.2.2.1.map V.str),.int .i64 z.2.2.2]:=wX Tryz.func138 [] [] [.fzc 2,.fzc 3,.fz 4] (h:=fun _ _ h hQ M=>by unfold F_8 at h;exact tX)
@[go_sem] def g9g (k16:Int) (a17:l6) (x15:(List Str)×(List Int)):Option ((List Str)×(List Int)) :=
 bif decide (a17.Kind=1) then chk (room (x15.2.length+[1].length) 8) (chk (room (x15.1.length+[a17.Name].length) 16) (some ((x15.1++[a17.Name]),(x15.2++[1])))) else bif decide (a17.Kind=2) then chk (room (x15.2.length+[2].length) 8) (chk (room (x15.1.length+[a17.Name].length) 16) (some ((x15.1++[a17.Name]),(x15.2++[2])))) else some (x15.1,x15.2)
def f9h (l_:List l6):Option ((List Int)×(List Str)) :=
 (foldL g9g l_ 0 ([],[])).bind fun x18=>some (x18.2,x18.1)
def g7r:List (Nat×RN):=[(0,⟨[],[.k 0 1,.k 1 1],[]⟩),(8,⟨[.gc [2,3,5,6,7,8]],[],[]⟩)]
@[irreducible] def e6a:MC:=rdc (cK Tryz.prog Tryz.f140 g7r [] 2)
instance:LI e6a 8 7 [6,7] [] (fun y:(List Str)×(List Int)=>[(2,.osl 2002 1 0 y.2.length),(3,.osl 2003 1 0 y.1.length)]) (fun y=>[.o 2003 (.arr 1 (y.1.map V.str)),.o 2002 (.arr 1 (y.2.map (V.int .i64)))]) [.gc [2,3,6,7,8],.acc 2 2002 1,.acc 3 2003 1]:=⟨⟩
instance h4y {l_:List l6}:WJ (f9h l_) 140 [.sl (l_.map l6.v)] fun z=>.tup [.sl (z.1.map (V.int .i64)),.sl (z.2.map V.str)]:=wX Tryz.func140 g7r [(2,e6a)] [.fz 2,.fz 3] (h:=fun _ _ h hQ M=>by unfold f9h at h;exact tX)
def g9c (k12:Int) (a11:Str) (x10:List Str):Option (Fl (List Str) Empty) :=
 chk (room (x10.length+[a11].length) 16) (some (.nx (x10++[a11])))
def g6s (jD:List Str):Option (List Str) :=
 (forL g9c jD 0 []).bind fun o=>o.elim (fun x13=>some x13) (fun r14=>none)
def g8l:List (Nat×RN):=[(0,⟨[],[.k 1 1],[]⟩),(30000003,⟨[.ownC 2 0 4032 1 none],[],[]⟩)]
@[irreducible] def d81:MC:=rdc (cK Tryz.prog Tryz.f129 g8l [] 3)
def e8o:MC:=rdc (cT Tryz.prog Tryz.f129 g8l [(3,d81)])
instance h6k {jD:List Str}:WI (g6s jD) Tryz.prog 129 [.nils,.fn (.func 212) [.eptr (.agg [.sl (jD.map V.str)]) 0]] [] (fun z=>.osl 1900 1 0 z.length) (fun z=>[(1900,.arr 1 (z.map V.str))]):=⟨fun Q Q' h hQ=>by
 refine a2m e8o [.acc 4 1900 1] [1900] [.t 4] Tryz.func129 fun M=>?_
 unfold g6s at h
 unfold e8o
 replace h:=tY h
 refine tB ?_
 repeat' (first
 | (exact tZ)
 | ((first|refine b5l h ?_|refine a5u h ?_|refine b5p h ?_|refine b5o h ?_|refine b5u h ?_|refine appG h ?_|refine b5w h ?_|refine fork h ?_ ?_|refine a5w h ?_ ?_)<;>clear h<;>intro hc h)
 | (refine M.rfor (b:=d81) (enc:=fun a=>[.str a]) [2] [] (fun x=>[.o 2 (.cells [.osl 4032 1 0 x.length]),.o 4032 (.arr 1 (x.map V.str))]) [.gc [0,1,2,4,6],.ownC 2 0 4032 1 none] h rfl (c5w _) rfl (fun a=>⟨rfl,rfl⟩) ?_ ?_ rfl ?_<;>first
 | (clear h;intro k a x Qn K hK1 hkN1 h hf;clear hf;unfold g9c at h;unfold d81;replace h:=tY h;refine tB ?_)
  |(clear h;intro x h;replace h:=tY h;refine tB ?_)
  |(clear h;(try refine tB ?_);exact tU0;done))
 | (refine hK1 _ ?_;(try refine tB ?_);refine ⟨_,h,?_⟩;exact tU0;done)
 | (refine tE ?_;(first|rw [M.lok_compU]|rw [M.lokD_compU]);refine tB ?_)
 | (refine tA ?_)
 | fail)⟩
def g45 (jD:List Str):Option (List Str) :=
 (g6s jD).bind fun y2=>some y2
instance g38 {jD:List Str}:WI (g45 jD) Tryz.prog 66 [.fn (.func 212) [.eptr (.agg [.sl (jD.map V.str)]) 0]] [] (fun z=>.osl 1900 1 0 z.length) (fun z=>[(1900,.arr 1 (z.map V.str))]):=wX Tryz.func66 [(0,⟨[],[.k 0 1],[]⟩),(1,⟨[],[.c 1 1 [] [4]],[]⟩)] [] [.acc 2 1900 1] [1900] (h:=fun _ _ h hQ M=>by have:SwA [(1900,4)]:=⟨⟩;unfold g45 at h;exact tX)
def f9s (jD:List Str):Option (List Str) :=
 (g45 jD).bind fun y2=>(c4e y2).bind fun y4=>some y4
def e8k:MC:=rdc (cT Tryz.prog Tryz.f141 [(0,⟨[],[.k 0 1],[]⟩),(1,⟨[],[.c 1 0 [] [5]],[]⟩),(2,⟨[],[.c 1 0 [5] []],[]⟩)] [])
instance g3c {jD:List Str}:WI (f9s jD) Tryz.prog 141 [.fn (.func 212) [.eptr (.agg [.sl (jD.map V.str)]) 0]] [] (fun z=>.osl 1900 1 0 z.length) (fun z=>[(1900,.arr 1 (z.map V.str))]):=⟨fun Q Q' h hQ=>by
 refine a2m e8k [.acc 2 1900 1] [1900] [.t 2] Tryz.func141 fun M=>?_
 unfold f9s at h
 unfold e8k
 replace h:=tY h
 refine tB ?_
 repeat' (first
 | (exact tZ)
 | (refine And.intro (by refine ⟨?_,?_,?_,?_⟩<;>omega) ?_;first|exact hQ _ h|(rw [zP (by omega)];exact hQ _ h))
 | (rw [←hlen];exact hQ _ h)
 | (have hq:=hQ _ h;simp only [xZ,Nat.min_eq_left hlen.1] at hq;exact hq)
 | ((first|refine b5l h ?_|refine a5u h ?_|refine b5p h ?_|refine b5o h ?_|refine b5u h ?_|refine appG h ?_|refine b5w h ?_|refine fork h ?_ ?_|refine a5w h ?_ ?_)<;>clear h<;>intro hc h)
 | (obtain ⟨y,hy,h⟩:=h;(first|have hw:=a03 1900 5 (g38.c.w hy)|(have hw:=a03 1000 5 (h83 hy);replace hw:=tY hw;(try simp only [hlen] at hw);have hlen:=c6s hy));replace hw:=tY hw;(first|refine M.sC hw ?_|refine M.sD hw ?_);clear hw hy;refine tB ?_)
 | (refine tE ?_;(first|rw [M.lok_compU]|rw [M.lokD_compU]);refine tB ?_)
 | (refine tA ?_)
 | fail)⟩
@[go_sem] def g9f (v_:Str) (k11:Int) (a12:Str) (x10:Unit):Option (Fl Unit Int) :=
 bif decide (v_=a12) then some (.ex k11) else some (.nx ())
def e1a (s_:List Str) (v_:Str):Option Int :=
 (forL (g9f v_) s_ 0 ()).bind fun o=>o.elim (fun x13=>some (-1)) (fun r14=>some r14)
@[irreducible] def e69:MC:=rdc (cK Tryz.prog Tryz.f73 [] [] 2)
instance:LI e69 8 7 [0,1,7] [] (fun y:Unit=>[]) (fun y=>[]) []:=⟨⟩
instance h4x {s_:List Str} {v_:Str}:WJ (e1a s_ v_) 73 [.sl (s_.map V.str),.str v_] (.int .i64):=wX Tryz.func73 [] [(2,e69)] (h:=fun _ _ h hQ M=>by unfold e1a at h;exact tX)
def g3r (s_:List Str) (v_:Str):Option Bool :=
 (e1a s_ v_).bind fun y2=>some (decide (0≤y2))
instance h0u {s_:List Str} {v_:Str}:WJ (g3r s_ v_) 144 [.sl (s_.map V.str),.str v_] .bool:=wX Tryz.func144 (h:=fun _ _ h hQ M=>by unfold g3r at h;exact tX)
def f7j (s_:Str) (p_:List Str):Option Bool :=
 jn (α:=Bool) (bif (!decide (s_=[])) then (g3r p_ s_).bind fun y4=>some (!y4) else some false) fun j5=>some j5
instance f04 {m:List MOp}:GI (gjt 1430103 m) [3] [1000] (fun y:Bool=>[(11,.bool y)]) (fun y=>[]):=⟨⟩
instance h1n {s_:Str} {p_:List Str}:WI (f7j s_ p_) Tryz.prog 143 [.str s_,.ptr 1000 0] [(1000,.cells [.sl (p_.map V.str)])] (fun z=>.bool z) (fun z=>[(1000,.cells [.sl (p_.map V.str)])]):=wX Tryz.func143 [(1,⟨[],[],[.w 3 7 1430103]⟩)] [] [] [1000] (h:=fun _ _ h hQ M=>by unfold f7j at h;exact tX)
def g3q (c_:l6) (qI:List Str):Option Bool :=
 (f7j c_.Name qI).bind fun y4=>jn (α:=Bool) (bif y4 then some true else (f7j c_.Other qI).bind fun y6=>some y6) fun j7=>some j7
instance f03 {m:List MOp}:GI (gjt 1470105 m) [3] [1000,1001] (fun y:Bool=>[(13,.bool y)]) (fun y=>[]):=⟨⟩
instance h0t {c_:l6} {qI:List Str}:WI (g3q c_ qI) Tryz.prog 147 [l6.v c_,.ptr 1000 0] [(1000,.cells [.fn (.func 143) [.ptr 1001 0]]),(1001,.cells [.sl (qI.map V.str)])] (fun z=>.bool z) (fun z=>[(1000,.cells [.fn (.func 143) [.ptr 1001 0]]),(1001,.cells [.sl (qI.map V.str)])]):=wX Tryz.func147 [(1,⟨[],[.c 3 0 [1001] [],.c 8 0 [1001] []],[.w 5 9 1470105]⟩)] [] [] [1000,1001] (h:=fun _ _ h hQ M=>by have:SwA [(1000,1001)]:=⟨⟩;unfold g3q at h;exact tX)
@[go_sem] def g9e (gB:List Str) (k31:Int) (a32:l6) (x30:Unit):Option (Fl Unit Int) :=
 (g3q a32 gB).bind fun y40=>bif y40 then some (.ex k31) else some (.nx ())
def g5u (s_:List l6) (gB:List Str):Option Int :=
 (forL (g9e gB) s_ 0 ()).bind fun o=>o.elim (fun x41=>some (-1)) (fun r42=>some r42)
def g7i:List (Nat×RN):=[(4,⟨[],[.c 5 0 [1000,1001] []],[]⟩)]
@[irreducible] def e68:MC:=rdc (cK Tryz.prog Tryz.f213 g7i [] 2)
instance:LI e68 8 7 [0,1,7] [1000,1001] (fun y:Unit=>[]) (fun y=>[]) []:=⟨⟩
instance h4b {s_:List l6} {gB:List Str}:WI (g5u s_ gB) Tryz.prog 213 [.sl (s_.map l6.v),.fn (.func 147) [.ptr 1000 0]] [(1000,.cells [.fn (.func 143) [.ptr 1001 0]]),(1001,.cells [.sl (gB.map V.str)])] (fun z=>.int .i64 z) (fun z=>[(1000,.cells [.fn (.func 143) [.ptr 1001 0]]),(1001,.cells [.sl (gB.map V.str)])]):=wX Tryz.func213 g7i [(2,e68)] [] [1000,1001] (h:=fun _ _ h hQ M=>by unfold g5u at h;exact tX)
def f8s (s_:List l6) (gB:List Str):Option Bool :=
 (g5u s_ gB).bind fun y2=>some (decide (0≤y2))
instance g3a {s_:List l6} {gB:List Str}:WI (f8s s_ gB) Tryz.prog 146 [.sl (s_.map l6.v),.fn (.func 147) [.ptr 1000 0]] [(1000,.cells [.fn (.func 143) [.ptr 1001 0]]),(1001,.cells [.sl (gB.map V.str)])] (fun z=>.bool z) (fun z=>[(1000,.cells [.fn (.func 143) [.ptr 1001 0]]),(1001,.cells [.sl (gB.map V.str)])]):=wX Tryz.func146 [(1,⟨[],[.c 2 0 [1000,1001] []],[]⟩)] [] [] [1000,1001] (h:=fun _ _ h hQ M=>by unfold f8s at h;exact tX)
def f4l (s_:List l6):Option (List l6) :=
 amb s_.isEmpty (some []) (chk (room (([]:List l6).length+s_.length) 64) (some (([]:List l6)++s_)))
instance g3b {s_:List l6}:WI (f4l s_) Tryz.prog 148 [.sl (s_.map l6.v)] [] (fun z=>.osl 1900 6 0 z.length) (fun z=>[(1900,.arr 6 (z.map l6.v))]):=wX Tryz.func148 [(0,⟨[],[.k 0 1],[]⟩),(2,⟨[],[.k 0 1],[]⟩)] [] [.acc 2 1900 6] [1900] (h:=fun _ _ h hQ M=>by unfold f4l at h;exact tX)
def f7i (x_:l6) (y_:l6):Option Int :=
 chk (a0w (x_.Time - y_.Time)) (some (x_.Time - y_.Time))
instance h1m {x_ y_:l6}:WJ (f7i x_ y_) 150 [l6.v x_,l6.v y_] (.int .i64):=wX Tryz.func150 (h:=fun _ _ h hQ M=>by unfold f7i at h;exact tX)
@[go_sem] def e3g (a_:Int) (x126:Int×(List l6)):Option (Fl (Int×(List l6)) (List l6)) :=
 bif decide (a_<x126.1) then chk (inb x126.1 x126.2.length) (chk (a0w (x126.1 - 1)) (chk (inb (x126.1 - 1) x126.2.length) ((f7i (x126.2.getD ((x126.1).toNat) default) (x126.2.getD (((x126.1 - 1)).toNat) default)).bind fun y134=>bif decide (y134<0) then chk (a0w (x126.1 - 1)) (chk (a0w (x126.1 - 1)) (chk (inb (x126.1 - 1) x126.2.length) (chk (inb x126.1 x126.2.length) (chk (inb x126.1 x126.2.length) (chk (inb (x126.1 - 1) (x126.2.set ((x126.1).toNat) (x126.2.getD (((x126.1 - 1)).toNat) default)).length) (chk (a0w (x126.1 - 1)) (some (.nx ((x126.1 - 1),(x126.2.set ((x126.1).toNat) (x126.2.getD (((x126.1 - 1)).toNat) default)).set (((x126.1 - 1)).toNat) (x126.2.getD ((x126.1).toNat) default)))))))))) else some (.ex x126.2)))) else some (.ex x126.2)
@[go_sem] def e3c (a_:Int) (b_:Int) (x67:Int×(List l6)):Option (Fl (Int×(List l6)) (List l6)) :=
 bif decide (x67.1<b_) then (loop (e3g a_) (x67.1,x67.2)).bind fun r135=>chk (a0w (x67.1+1)) (some (.nx ((x67.1+1),r135))) else some (.ex x67.2)
def F_p (gD:List l6) (a_:Int) (b_:Int):Option (List l6) := chk (a0w (a_+1)) ((loop (e3c a_ b_) ((a_+1),gD)).bind fun r136=>some r136)
def a_p:List (Nat×RN):=[(5,⟨[.gc [0,1,2,3,8,9,22,23,24,25,26,27,28,29,30,31,32,33]],[],[]⟩)]
@[irreducible] def d90:MC:=rdc (cK Tryz.prog Tryz.f262 a_p [] 4)
@[irreducible] def e8j:MC:=rdc (cK Tryz.prog Tryz.f262 a_p [(4,d90)] 1)
instance:LI d90 0 0 [1,2,3,8] [] (fun y:Int×(List l6)=>[(0,.osl 1000 6 0 y.2.length),(9,.int .i64 y.1)]) (fun y=>[.o 1000 (.arr 6 (y.2.map l6.v))]) []:=⟨⟩
instance:LI e8j 0 0 [1,2,3] [] (fun y:Int×(List l6)=>[(0,.osl 1000 6 0 y.2.length),(8,.int .i64 y.1)]) (fun y=>[.o 1000 (.arr 6 (y.2.map l6.v))]) []:=⟨⟩
instance h8o {gD:List l6} {a_ b_:Int}:WI (F_p gD a_ b_) Tryz.prog 262 [.osl 1000 6 0 gD.length,.int .i64 a_,.int .i64 b_,.fn (.func 150) []] [(1000,.arr 6 (gD.map l6.v))] (fun z=>.tup []) (fun z=>[(1000,.arr 6 (z.map l6.v))]):=wX Tryz.func262 a_p [(4,d90),(1,e8j)] [] [1000] (h:=fun _ _ h hQ M=>by unfold F_p at h;exact tX)
theorem g9b {a_:Int} {s:Int×(List l6)} {o:Fl (Int×(List l6)) (List l6)} (h:e3g a_ s=some o):o.elim (fun s'=>s'.2.length=s.2.length) (fun q=>q.length=s.2.length):=by
 refine (?_:Al _ _) o h
 clear h
 unfold e3g
 repeat' (first|(with_reducible first|exact Al.none|apply Al.chk|apply Al.ite|apply Al.grp)|((with_reducible refine Al.some ?_);simp_all [Fl.elim];done)|((with_reducible first|refine Al.jn fun w h1=>?_|refine Al.bind fun w h1=>?_);(first|skip)))
theorem h8c {a_:Int} {b_:Int} {s:Int×(List l6)} {o:Fl (Int×(List l6)) (List l6)} (h:e3c a_ b_ s=some o):o.elim (fun s'=>s'.2.length=s.2.length) (fun q=>q.length=s.2.length):=by
 refine (?_:Al _ _) o h
 clear h
 unfold e3c
 repeat' (first|(with_reducible first|exact Al.none|apply Al.chk|apply Al.ite|apply Al.grp)|((with_reducible refine Al.some ?_);simp_all [Fl.elim];done)|((with_reducible first|refine Al.jn fun w h1=>?_|refine Al.bind fun w h1=>?_);(first|(have e1:=b3e (m:=fun s:Int×(List l6)=>s.2.length) (r:=fun q:(List l6)=>q.length) (fun _ _=>g9b) h1)|skip)))
theorem g3p {gD:List l6} {a_:Int} {b_:Int} {y:List l6} (h:(F_p gD a_ b_)=some y):y.length=gD.length:=by
 refine (?_:Al _ (fun y=>y.length=gD.length)) y h
 clear h
 unfold F_p
 repeat' (first|(with_reducible first|exact Al.none|apply Al.chk|apply Al.ite|apply Al.grp)|((with_reducible refine Al.some ?_);simp_all [Fl.elim];done)|((with_reducible first|refine Al.jn fun w h1=>?_|refine Al.bind fun w h1=>?_);(first|(have e1:=b3e (m:=fun s:Int×(List l6)=>s.2.length) (r:=fun q:(List l6)=>q.length) (fun _ _=>g9b) h1)|(have e1:=b3e (m:=fun s:Int×(List l6)=>s.2.length) (r:=fun q:(List l6)=>q.length) (fun _ _=>h8c) h1)|skip)))
def e3q (n_:Int) (x17:Int×Int×(List l6)):Option (Fl (Int×Int×(List l6)) (Int×(List l6))) :=
 bif decide (x17.2.1≤n_) then (F_p x17.2.2 x17.1 x17.2.1).bind fun y21=>chk (a0w (x17.2.1+20)) (some (.nx (x17.2.1,(x17.2.1+20),y21))) else some (.ex (x17.1,x17.2.2))
def f9g (n_:Int) (x26:Unit):Option (Fl Unit Unit) :=
 bif decide (20<n_) then none else some (.ex ())
def F_6 (gD:List l6) (n_:Int):Option (List l6) := (loop (e3q n_) (0,20,gD)).bind fun r22=>(F_p r22.2 r22.1 n_).bind fun y24=>(loop (f9g n_) ()).bind fun r27=>some y24
def a_6:List (Nat×RN):=[(3,⟨[],[.c 4 0 [1000] []],[]⟩),(5,⟨[.gc [0,1,2,6,7,8]],[],[]⟩),(6,⟨[],[.c 4 0 [1000] []],[]⟩)]
@[irreducible] def c88:MC:=rdc (cK Tryz.prog Tryz.f214 a_6 [(20000008,.no)] 2)
@[irreducible] def e5r:MC:=rdc (cK Tryz.prog Tryz.f214 a_6 [(20000008,.no),(2,c88)] 9)
@[irreducible] def d8y:MC:=rdc (cK Tryz.prog Tryz.f214 a_6 [(20000008,.no),(2,c88),(9,e5r)] 7)
def g76:MC:=rdc (cT Tryz.prog Tryz.f214 a_6 [(20000008,.no),(2,c88),(9,e5r),(7,d8y)])
instance h96 {gD:List l6} {n_:Int}:WI (F_6 gD n_) Tryz.prog 214 [.osl 1000 6 0 gD.length,.int .i64 n_,.fn (.func 150) []] [(1000,.arr 6 (gD.map l6.v))] (fun z=>.tup []) (fun z=>[(1000,.arr 6 (z.map l6.v))]):=⟨fun Q Q' h hQ=>by
 refine a2m g76 [] [1000] [] Tryz.func214 fun M=>?_
 unfold F_6 at h
 unfold g76
 replace h:=tY h
 refine tB ?_
 repeat' (first
 | (exact tZ)
 | (rw [zP (by omega)];exact hQ _ h)
 | ((first|refine b5l h ?_|refine a5u h ?_|refine b5p h ?_|refine b5o h ?_|refine b5u h ?_|refine appG h ?_|refine b5w h ?_|refine fork h ?_ ?_|refine a5w h ?_ ?_)<;>clear h<;>intro hc h)
 | (obtain ⟨y,hy,h⟩:=h;(have hw:=WI.w hy;replace hw:=tY hw;have hlen:=g3p hy);replace hw:=tY hw;(first|refine M.sC hw ?_|refine M.sD hw ?_);clear hw hy;refine tB ?_)
 | (refine M.wh1 (b:=c88) [1,2,6] [] (fun x=>[(0,.osl 1000 6 0 x.2.2.length),(7,.int .i64 x.1),(8,.int .i64 x.2.1)]) (fun x=>[.o 1000 (.arr 6 (x.2.2.map l6.v))]) [] h ?_ ?_<;>first
 | (clear h;intro x Qn K hK1 h;unfold e3q at h;unfold c88;replace h:=tY h;refine tB ?_)
  |(clear h;(try refine tB ?_);exact tU;done))
 | (refine M.wh1 (b:=d8y) [0,1,2,6] [1000] (fun x=>[]) (fun x=>[]) [] h ?_ ?_<;>first
 | (clear h;intro x Qn K hK2 h;unfold f9g at h;unfold d8y;replace h:=tY h;refine tB ?_)
  |(clear h;(try refine tB ?_);exact tU;done))
 | ((first|refine hK1 _ ?_|refine hK2 _ ?_);(try refine tB ?_);refine ⟨_,h,?_⟩;exact tU;done)
 | (refine tE ?_;(first|rw [M.lok_compU]|rw [M.lokD_compU]);refine tB ?_)
 | (refine tA ?_)
 | fail)⟩
theorem h8b {n_:Int} {s:Int×Int×(List l6)} {o:Fl (Int×Int×(List l6)) (Int×(List l6))} (h:e3q n_ s=some o):o.elim (fun s'=>s'.2.2.length=s.2.2.length) (fun q=>q.2.length=s.2.2.length):=by
 refine (?_:Al _ _) o h
 clear h
 unfold e3q
 repeat' (first|(with_reducible first|exact Al.none|apply Al.chk|apply Al.ite|apply Al.grp)|((with_reducible refine Al.some ?_);simp_all [Fl.elim];done)|((with_reducible first|refine Al.jn fun w h1=>?_|refine Al.bind fun w h1=>?_);(first|(have e1:=g3p h1)|skip)))
theorem g9a {gD:List l6} {n_:Int} {y:List l6} (h:(F_6 gD n_)=some y):y.length=gD.length:=by
 refine (?_:Al _ (fun y=>y.length=gD.length)) y h
 clear h
 unfold F_6
 repeat' (first|(with_reducible first|exact Al.none|apply Al.chk|apply Al.ite|apply Al.grp)|((with_reducible refine Al.some ?_);simp_all [Fl.elim];done)|((with_reducible first|refine Al.jn fun w h1=>?_|refine Al.bind fun w h1=>?_);(first|(have e1:=b3e (m:=fun s:Int×Int×(List l6)=>s.2.2.length) (r:=fun q:(Int×(List l6))=>q.2.length) (fun _ _=>h8b) h1)|(have e1:=g3p h1)|skip)))
def e1u (x_:List l6):Option (List l6) :=
 (F_6 x_ (x_.length:Int)).bind fun y1=>some y1
def e8t:MC:=rdc (cT Tryz.prog Tryz.f149 [(0,⟨[],[.c 4 0 [1000] []],[]⟩)] [])
instance g3h {x_:List l6}:WI (e1u x_) Tryz.prog 149 [.osl 1000 6 0 x_.length,.fn (.func 150) []] [(1000,.arr 6 (x_.map l6.v))] (fun z=>.tup []) (fun z=>[(1000,.arr 6 (z.map l6.v))]):=⟨fun Q Q' h hQ=>by
 refine a2m e8t [] [1000] [] Tryz.func149 fun M=>?_
 unfold e1u at h
 unfold e8t
 replace h:=tY h
 refine tB ?_
 repeat' (first
 | (exact tZ)
 | (rw [zP (by omega)];exact hQ _ h)
 | ((first|refine b5l h ?_|refine a5u h ?_|refine b5p h ?_|refine b5o h ?_|refine b5u h ?_|refine appG h ?_|refine b5w h ?_|refine fork h ?_ ?_|refine a5w h ?_ ?_)<;>clear h<;>intro hc h)
 | (obtain ⟨y,hy,h⟩:=h;(have hw:=WI.w hy;replace hw:=tY hw;have hlen:=g9a hy);replace hw:=tY hw;(first|refine M.sC hw ?_|refine M.sD hw ?_);clear hw hy;refine tB ?_)
 | (refine tE ?_;(first|rw [M.lok_compU]|rw [M.lokD_compU]);refine tB ?_)
 | (refine tA ?_)
 | fail)⟩
theorem h8a {x_:List l6} {y:List l6} (h:(e1u x_)=some y):y.length=x_.length:=by
 refine (?_:Al _ (fun y=>y.length=x_.length)) y h
 clear h
 unfold e1u
 repeat' (first|(with_reducible first|exact Al.none|apply Al.chk|apply Al.ite|apply Al.grp)|((with_reducible refine Al.some ?_);simp_all [Fl.elim];done)|((with_reducible first|refine Al.jn fun w h1=>?_|refine Al.bind fun w h1=>?_);(first|(have e1:=g9a h1)|skip)))
def f9w (c_:l6) (qC:List Str) (d_:d9) (a_:l5):Option (d9×l5) :=
 (e1a qC c_.Name).bind fun y2=>jn (α:=Bool) (bif decide (c_.Kind=3) then some true else some (decide (c_.Kind=4))) fun j3=>bif j3 then chk (a0w (1+c_.Kind)) (chk (a0w ((1+c_.Kind) - 3)) ((e1a qC c_.Other).bind fun y4=>chk (room (d_.Events.length+[(a0n.mk c_.Time ((1+c_.Kind) - 3) y2 y4)].length) 32) (some ((d9.mk d_.Kinds (d_.Events++[(a0n.mk c_.Time ((1+c_.Kind) - 3) y2 y4)])),(l5.mk a_.Places a_.Events))))) else jn (α:=Bool) (bif decide (c_.Kind=5) then some true else some (decide (c_.Kind=6))) fun j5=>bif j5 then chk (a0w (1+c_.Kind)) (chk (a0w ((1+c_.Kind) - 5)) (chk (room (a_.Events.length+[(o7.mk c_.Time ((1+c_.Kind) - 5) c_.A y2 0 0 0)].length) 56) (some ((d9.mk d_.Kinds d_.Events),(l5.mk a_.Places (a_.Events++[(o7.mk c_.Time ((1+c_.Kind) - 5) c_.A y2 0 0 0)])))))) else bif decide (c_.Kind=7) then chk (room (a_.Events.length+[(o7.mk c_.Time 3 c_.A 0 c_.B 0 0)].length) 56) (some ((d9.mk d_.Kinds d_.Events),(l5.mk a_.Places (a_.Events++[(o7.mk c_.Time 3 c_.A 0 c_.B 0 0)])))) else bif decide (c_.Kind=8) then chk (room (a_.Events.length+[(o7.mk c_.Time 5 c_.B 0 0 c_.A 0)].length) 56) (some ((d9.mk d_.Kinds d_.Events),(l5.mk a_.Places (a_.Events++[(o7.mk c_.Time 5 c_.B 0 0 c_.A 0)])))) else bif decide (c_.Kind=9) then chk (room (a_.Events.length+[(o7.mk c_.Time 7 c_.B 0 0 0 c_.A)].length) 56) (some ((d9.mk d_.Kinds d_.Events),(l5.mk a_.Places (a_.Events++[(o7.mk c_.Time 7 c_.B 0 0 0 c_.A)])))) else some ((d9.mk d_.Kinds d_.Events),(l5.mk a_.Places a_.Events))
def g2q:List (Nat×RN):=[(14,⟨[.gc [3,4]],[],[]⟩)]
@[irreducible] def d80:MC:=rdc (cK Tryz.prog Tryz.f151 g2q [] 10000008)
@[irreducible] def e5q:MC:=rdc (cK Tryz.prog Tryz.f151 g2q [(10000008,d80)] 10000005)
instance:LI d80 0 0 [3,4,8,14] [4,1002,1003,1000,1001] (fun y:Bool=>[(39,.bool y)]) (fun y=>[]) []:=⟨⟩
instance:LI e5q 0 0 [1,2,3,4,8,14] [4,1002,1003,1000,1001] (fun y:Bool=>[(15,.bool y)]) (fun y=>[]) []:=⟨⟩
instance g3e {c_:l6} {qC:List Str} {d_:d9} {a_:l5}:WI (f9w c_ qC d_ a_) Tryz.prog 151 [l6.v c_,.sl (qC.map V.str),.ptr 1000 0,.ptr 1002 0] [(1000,.cells [.sl (d_.Kinds.map (V.int .i64)),.osl 1001 4 0 d_.Events.length]),(1001,.arr 4 (d_.Events.map a0n.v)),(1002,.cells [.int .i64 a_.Places,.osl 1003 7 0 a_.Events.length]),(1003,.arr 7 (a_.Events.map o7.v))] (fun z=>.tup []) (fun z=>[(1000,.cells [.sl (z.1.Kinds.map (V.int .i64)),.osl 1701 4 0 z.1.Events.length]),(1701,.arr 4 (z.1.Events.map a0n.v)),(1002,.cells [.int .i64 z.2.Places,.osl 1733 7 0 z.2.Events.length]),(1733,.arr 7 (z.2.Events.map o7.v))]):=wX Tryz.func151 g2q [(10000008,d80),(10000005,e5q)] [.ownC 1000 1 1701 4 none,.ownC 1002 1 1733 7 none] [1000,1701,1002,1733] (h:=fun _ _ h hQ M=>by unfold f9w at h;exact tX)
def f9r (y10:(List Int)×(List Str)) (k68:Int) (a69:l6) (x67:Int×(List o7)×(List Int)×(List a0n)):Option (Int×(List o7)×(List Int)×(List a0n)) :=
 (f9w a69 y10.2 (d9.mk x67.2.2.1 x67.2.2.2) (l5.mk x67.1 x67.2.1)).bind fun y73=>some (y73.2.Places,y73.2.Events,y73.1.Kinds,y73.1.Events)
def f6b (l_:List l6):Option (d9×l5×(List Str)×Int) :=
 (f7k l_).bind fun y6=>bif (!decide (y6=0)) then (F_8 y6).bind fun y8=>some (y8.1,y8.2.1,y8.2.2.1,y8.2.2.2) else (f9h l_).bind fun y10=>(d65 y10.2).bind fun y13=>(f9s y10.2).bind fun y14=>(a7d y14).bind fun y26=>bif decide ((y26.1:Int)<(y10.2.length:Int)) then (F_8 7).bind fun y28=>some (y28.1,y28.2.1,y28.2.2.1,y28.2.2.2) else (f8s l_ y10.2).bind fun y30=>bif y30 then (F_8 6).bind fun y32=>some (y32.1,y32.2.1,y32.2.2.1,y32.2.2.2) else bif decide (24<(y10.2.length:Int)) then (F_8 3).bind fun y34=>some (y34.1,y34.2.1,y34.2.2.1,y34.2.2.2) else (f4l l_).bind fun y36=>(e1u y36).bind fun y38=>(foldL (f9r y10) y38 0 (16,[],y10.1,[])).bind fun x74=>(F_r (d9.mk x74.2.2.1 x74.2.2.2)).bind fun y80=>bif (!decide (y80=0)) then (F_8 y80).bind fun y82=>some (y82.1,y82.2.1,y82.2.2.1,y82.2.2.2) else (F_9 (l5.mk x74.1 x74.2.1)).bind fun y88=>bif (!decide (y88=0)) then (F_8 y88).bind fun y90=>some (y90.1,y90.2.1,y90.2.2.1,y90.2.2.2) else some ((d9.mk x74.2.2.1 x74.2.2.2),(l5.mk x74.1 x74.2.1),y10.2,0)
def g8y:List (Nat×RN):=[(1,⟨[],[.k 0 1,.k 1 1],[]⟩),(5,⟨[.gc [2,3,8,9]],[],[]⟩),(6,⟨[.gc [0,2,3,6,7,8]],[],[]⟩),(7,⟨[],[.c 2 0 [] [39]],[]⟩),(8,⟨[.gc [0,2,3,6,7,8,10,11,12]],[],[]⟩),(9,⟨[],[.c 1 0 [39] []],[]⟩),(10,⟨[.gc [2,3,8]],[],[]⟩),(11,⟨[.gc [0,2,3,6,7,8,10,11,13]],[.c 2 0 [13,11] []],[]⟩),(12,⟨[.gc [2,3,8]],[],[]⟩),(14,⟨[.gc [2,3,8]],[],[]⟩),(15,⟨[.gc [0,2,3,6,7,8,10,11]],[],[]⟩),(16,⟨[],[.c 1 0 [] [77]],[]⟩),(17,⟨[],[.c 1 0 [77] []],[]⟩),(18,⟨[.gc [2,3,6,7,8,11,14]],[],[]⟩),(21,⟨[],[.c 2 0 [6,7193,7,7225] [13633,13649]],[.n 2 (.ownC 6 1 7193 4 none),.n 2 (.ownC 7 1 7225 7 none)]⟩),(23,⟨[],[],[.n 1 (.fz 90)]⟩),(25,⟨[.gc [2,3,8,17]],[],[]⟩),(26,⟨[.gc [2,3,6,7,8,11]],[],[.n 1 (.fz 101)]⟩)]
@[irreducible] def d2p:MC:=rdc (cK Tryz.prog Tryz.f69 g8y [] 19)
def e8s:MC:=rdc (cT Tryz.prog Tryz.f69 g8y [(19,d2p)])
instance h7l {l_:List l6}:WI (f6b l_) Tryz.prog 69 [.sl (l_.map l6.v)] [] (fun z=>.tup [d9.v z.1,l5.v z.2.1,.sl (z.2.2.1.map V.str),.int .i64 z.2.2.2]) (fun z=>[]):=⟨fun Q Q' h hQ=>by
 refine a2m e8s [.fzc 2,.fzc 3,.fz 4] [] [.c 2 (some 2),.c 3 (some 2),.t 4,.t 5] Tryz.func69 fun M=>?_
 unfold f6b at h
 unfold e8s
 replace h:=tY h
 refine tB ?_
 repeat' (first
 | (exact tZ)
 | (refine And.intro (by refine ⟨?_,?_,?_,?_⟩<;>omega) ?_;first|exact hQ _ h|(rw [zP (by omega)];exact hQ _ h))
 | (rw [←hlen];exact hQ _ h)
 | (have hq:=hQ _ h;simp only [xZ,Nat.min_eq_left hlen.1] at hq;exact hq)
 | ((first|refine b5l h ?_|refine a5u h ?_|refine b5p h ?_|refine b5o h ?_|refine b5u h ?_|refine appG h ?_|refine b5w h ?_|refine fork h ?_ ?_|refine a5w h ?_ ?_)<;>clear h<;>intro hc h)
 | (obtain ⟨y,hy,h⟩:=h;(first|have hw:=a03 1900 39 (g3c.c.w hy)|(have hw:=a03 1000 39 (h82 hy);replace hw:=tY hw;(try simp only [hlen] at hw);have hlen:=b9u hy)|have hw:=a03 1001 11 (a03 1000 13 (g3a.c.w hy))|have hw:=a03 1900 77 (g3b.c.w hy)|(have hw:=a03 1000 77 (g3h.c.w hy);replace hw:=tY hw;have hlen:=h8a hy)|have hw:=a03 1733 13649 (a03 1701 13633 (a03 1003 7225 (a03 1002 7 (a03 1001 7193 (a03 1000 6 (g3e.c.w hy))))))|have hw:=WI.w hy|have hw:=h7x hy);replace hw:=tY hw;(first|refine M.sC hw ?_|refine M.sD hw ?_);clear hw hy;refine tB ?_)
 | (refine M.fold1 (b:=d2p) 82 [2,3,6,7,8,11,80,81] [77,11,3,2] (fun x=>[]) (fun x=>[.o 7 (.cells [.int .i64 x.1,.osl 4113 7 0 x.2.1.length]),.o 4113 (.arr 7 (x.2.1.map o7.v)),.o 6 (.cells [.sl (x.2.2.1.map (V.int .i64)),.osl 4097 4 0 x.2.2.2.length]),.o 4097 (.arr 4 (x.2.2.2.map a0n.v))]) [.gc [2,3,6,7,8,11,80,81,82],.ownC 7 1 4113 7 none,.ownC 6 1 4097 4 none] h ?_ ?_ ?_<;>first
 | (clear h;intro k a x Qn K hK1 hkN1 ha1 h hf;have hl:=a4o (a1m (n:=81) hf.1 rfl);clear hf;have hkd:=kD hkN1;have hkB1:=kB hkN1;have hkI1:=kI (k:=k) (by omega);(try simp only [hlen] at hkd hkB1 hkN1);unfold f9r at h;unfold d2p;replace h:=tY h;refine tK ha1 hkd hkN1 hkB1 hkI1 ?_)
  |(clear h;intro x K h;replace h:=And.left (And.intro h trivial);(try simp only [hlen]);unfold d2p;replace h:=tY h;refine tB ?_)
  |(clear h;(try refine tB ?_);exact tU;done))
 | (simp only [ha1])
 | (refine hK1 _ ?_;(try refine tB ?_);refine ⟨_,h,?_⟩;exact tU;done)
 | (refine tE ?_;(first|rw [M.lok_compU]|rw [M.lokD_compU]);refine tB ?_)
 | (refine tA ?_)
 | fail)⟩
@[go_sem] def f9f (qC:List Str) (k19:Int) (a20:Int) (x18:Str):Option Str :=
 chk (inb a20 qC.length) (chk (c48 ([32].length+(qC.getD (a20).toNat default).length)) (chk (c48 (x18.length+(([32]:Str)++(qC.getD (a20).toNat default)).length)) (some (x18++(([32]:Str)++(qC.getD (a20).toNat default))))))
def f3e (c_:l6) (d_:d9) (a_:l5) (qC:List Str):Option Str :=
 (f5j d_ a_ c_.A c_.Time).bind fun y2=>jn (α:=Str) (bif y2.1.Public then some [112,117,98,108,105,99] else some [105,110,115,105,100,101]) fun j3=>(foldL (f9f qC) y2.1.Principals 0 j3).bind fun x21=>some x21
@[irreducible] def d8x:MC:=rdc (cK Tryz.prog Tryz.f71 [] [] 6)
@[irreducible] def e5p:MC:=rdc (cK Tryz.prog Tryz.f71 [] [(6,d8x)] 10000005)
instance:LI d8x 29 28 [3,27,28] [] (fun y:Str=>[(11,.str y)]) (fun y=>[]) []:=⟨⟩
instance:LI e5p 0 0 [3,9] [9] (fun y:Str=>[(11,.str y)]) (fun y=>[]) []:=⟨⟩
instance h36 {c_:l6} {d_:d9} {a_:l5} {qC:List Str}:WJ (f3e c_ d_ a_ qC) 71 [l6.v c_,d9.v d_,l5.v a_,.sl (qC.map V.str)] .str:=wX Tryz.func71 [] [(6,d8x),(10000005,e5p)] (h:=fun _ _ h hQ M=>by unfold f3e at h;exact tX)
def f9q (y2:d9×l5×(List Str)×Int) (k144:Int) (a145:l6) (x143:List UInt8):Option (List UInt8) :=
 bif decide (a145.Kind=10) then (f3e a145 y2.1 y2.2.1 y2.2.2.1).bind fun y173=>chk (c48 (y173.length+[10].length)) ((bws x143 (y173++[10])).bind fun y174=>some y174) else bif decide (a145.Kind=11) then jn (α:=Str) ((e1a y2.2.2.1 a145.Name).bind fun y183=>(f4c y2.1 y2.2.1 a145.A y183).bind fun y184=>bif y184.2 then (b2z y184.1).bind fun y185=>some y185 else some [110,101,118,101,114]) fun j180=>chk (c48 (j180.length+[10].length)) ((bws x143 (j180++[10])).bind fun y186=>some y186) else some x143
def F_q (l_:List l6):Option (Str×Int) := (f6b l_).bind fun y2=>bif (!decide (y2.2.2.2=0)) then some ([],y2.2.2.2) else (foldL (f9q y2) l_ 0 ([]:Str)).bind fun x187=>(g2d x187).bind fun y189=>some (y189,0)
def a_q:List (Nat×RN):=[(3,⟨[.gc [7]],[],[]⟩),(4,⟨[],[.k 0 8],[.n 1 (.bld 8),.n 1 (.ownC 8 1 5008 1 (some 5))]⟩),(5,⟨[.gc [0,4,5,6,8]],[],[]⟩),(10,⟨[],[.c 6 0 [8,4129] [10561]],[]⟩),(13,⟨[.gc [4,5,6,8,10,11,24,25,26]],[],[]⟩),(15,⟨[.gc [4,5,6,8,12,24,25,26]],[],[]⟩),(16,⟨[],[.c 2 0 [8,4129] [11841]],[]⟩),(18,⟨[],[.c 0 0 [8,4129] []],[]⟩)]
@[irreducible] def d28:MC:=rdc (cK Tryz.prog Tryz.f26 a_q [] 10000016)
@[irreducible] def d2o:MC:=rdc (cK Tryz.prog Tryz.f26 a_q [(10000016,d28)] 6)
def g6z:MC:=rdc (cT Tryz.prog Tryz.f26 a_q [(10000016,d28),(6,d2o)])
instance h8n {l_:List l6}:WI (F_q l_) Tryz.prog 26 [.sl (l_.map l6.v)] [] (fun z=>.tup [.str z.1,.int .i64 z.2]) (fun z=>[]):=⟨fun Q Q' h hQ=>by
 refine a2m g6z [] [] [.t 2,.t 3] Tryz.func26 fun M=>?_
 unfold F_q at h
 unfold g6z
 replace h:=tY h
 refine tB ?_
 repeat' (first
 | (exact tZ)
 | ((first|refine b5l h ?_|refine a5u h ?_|refine b5p h ?_|refine b5o h ?_|refine b5u h ?_|refine appG h ?_|refine b5w h ?_|refine fork h ?_ ?_|refine a5w h ?_ ?_)<;>clear h<;>intro hc h)
 | (obtain ⟨y,hy,h⟩:=h;have hw:=a03 1002 10561 (a03 1001 5008 (a03 1000 8 (f7e hy)));replace hw:=tY hw;(first|refine M.sC hw ?_|refine M.sD hw ?_);clear hw hy;refine tB ?_)
 | (obtain ⟨y,hy,h⟩:=h;have hw:=a03 1002 11841 (a03 1001 5008 (a03 1000 8 (f7e hy)));replace hw:=tY hw;(first|refine M.sC hw ?_|refine M.sD hw ?_);clear hw hy;refine tB ?_)
 | (obtain ⟨y,hy,h⟩:=h;have hw:=a03 1002 10561 (a03 1001 4129 (a03 1000 8 (f7e hy)));replace hw:=tY hw;(first|refine M.sC hw ?_|refine M.sD hw ?_);clear hw hy;refine tB ?_)
 | (obtain ⟨y,hy,h⟩:=h;have hw:=a03 1002 11841 (a03 1001 4129 (a03 1000 8 (f7e hy)));replace hw:=tY hw;(first|refine M.sC hw ?_|refine M.sD hw ?_);clear hw hy;refine tB ?_)
 | (obtain ⟨y,hy,h⟩:=h;(first|have hw:=a03 1001 4129 (a03 1000 8 (h85 hy))|have hw:=WI.w hy|have hw:=g3m hy);replace hw:=tY hw;(first|refine M.sC hw ?_|refine M.sD hw ?_);clear hw hy;refine tB ?_)
 | (refine M.jn1 (b:=d28) [4,5,6,8,24,25,26] [8,4129,5,4] (fun y=>[(11,.str y)]) (fun y=>[]) [] h ?_ ?_<;>first
 | (clear h;intro Qn K hK1 h;replace h:=tY h;refine tB ?_)
  |(clear h;intro y h;unfold d28;replace h:=tY h;refine tB ?_))
 | (refine M.fold1 (b:=d2o) 26 [4,5,6,8,24,25] [8,5,4] (fun x=>[]) (fun x=>[.p 8 1 [.osl 4129 1 0 x.length],.o 4129 (.arr 1 (x.map a18) (some 5))]) [.gc [4,5,6,8,24,25,26],.ownC 8 1 4129 1 none] h ?_ ?_ ?_<;>first
 | (clear h;intro k a x Qn K hK2 hkN2 ha2 h hf;have hl:=a4o (a1m (n:=25) hf.1 rfl);clear hf;have hkd:=kD hkN2;have hkB2:=kB hkN2;have hkI2:=kI (k:=k) (by omega);unfold f9q at h;unfold d2o;replace h:=tY h;refine tK ha2 hkd hkN2 hkB2 hkI2 ?_)
  |(clear h;intro x K h;replace h:=And.left (And.intro h trivial);unfold d2o;replace h:=tY h;refine tB ?_)
  |(clear h;(try refine tB ?_);exact tU0;done))
 | (simp only [ha2])
 | ((first|refine hK1 _ ?_|refine hK2 _ ?_);(try refine tB ?_);refine ⟨_,h,?_⟩;exact tU0;done)
 | (refine tE ?_;(first|rw [M.lok_compU]|rw [M.lokD_compU]);refine tB ?_)
 | (refine tA ?_)
 | fail)⟩
set_option maxRecDepth 20000
set_option maxHeartbeats 2000000
def e0z:Option Bool :=
 (f9x [112,101,114,115,111,110,32,97,110,110,10,97,108,108,111,119,32,51,32,97,110,110,32,48,10,112,117,116,32,53,32,55,32,48,10,115,105,110,99,101,32,55,32,97,110,110,10]).bind fun y2=>(F_q y2.1).bind fun y4=>grp ((decide (y2.2.2=0)&&decide (y4.2=0))) fun b7=>grp ((b7&&decide (y4.1=[53,10]))) fun b8=>some b8
instance h4w:WJ e0z 4 [] .bool:=wX Tryz.func4 [(3,⟨[.gc [3,4,5,19,20,23,24]],[],[.v 3 5,.v 7 9]⟩)] (h:=fun _ _ h hQ M=>by unfold e0z at h;exact tX)
def d0n (d_:d9) (a_:l5) (r_:l7) (x_:o8) (kC:List Int) (f_:a2h) (jA:Int) (fl_:w9) (s_:o5) (c_:o6):Option (o9×Int) :=
 (f5v (o9.mk f_.Fingerprint (f_.Where.length:Int) false 0 0 (a00.mk 0 0 0 0) false false) d_ a_ jA).bind fun y4=>bif (!decide (y4.1=0)) then some ((o9.mk 0 0 false 0 0 (a00.mk 0 0 0 0) false false),y4.1) else (d60 y4.2 r_ x_ kC).bind fun y8=>bif (!decide (y8.1=0)) then some ((o9.mk 0 0 false 0 0 (a00.mk 0 0 0 0) false false),y8.1) else (e3m fl_ s_).bind fun y12=>bif (!y12) then some ((o9.mk 0 0 false 0 0 (a00.mk 0 0 0 0) false false),36) else (e2q c_).bind fun y16=>bif (!decide (y16=0)) then some ((o9.mk 0 0 false 0 0 (a00.mk 0 0 0 0) false false),y16) else (f3i fl_ s_).bind fun y19=>(f3g c_ 1).bind fun y20=>some ((o9.mk y8.2.Fingerprint y8.2.Spots y8.2.Public y8.2.Readers y8.2.Since y8.2.Severity y19 y20),0)
instance h75 {d_:d9} {a_:l5} {r_:l7} {x_:o8} {kC:List Int} {f_:a2h} {jA:Int} {fl_:w9} {s_:o5} {c_:o6}:WJ (d0n d_ a_ r_ x_ kC f_ jA fl_ s_ c_) 14 [d9.v d_,l5.v a_,l7.v r_,o8.v x_,.sl (kC.map (V.int .i64)),a2h.v f_,.int .i64 jA,w9.v fl_,o5.v s_,o6.v c_] fun z=>.tup [o9.v z.1,.int .i64 z.2]:=wX Tryz.func14 [(1,⟨[.gc [4,6,10,11,12,13,15,17,18,19,20]],[],[]⟩),(2,⟨[],[.c 3 0 [22] []],[]⟩),(4,⟨[.gc [20,23]],[],[]⟩),(5,⟨[.gc [4,12,13,17,18,19,20,22]],[.c 3 0 [22] []],[]⟩),(7,⟨[.gc [20,24]],[],[]⟩),(8,⟨[.gc [17,18,19,20,22]],[],[]⟩),(9,⟨[.gc [20]],[],[]⟩),(12,⟨[.gc [20,25]],[],[]⟩),(13,⟨[.gc [17,18,19,20,22]],[],[]⟩),(14,⟨[.gc [20,22]],[],[]⟩)] (h:=fun _ _ h hQ M=>by have:SwA [(1000,22)]:=⟨⟩;unfold d0n at h;exact tX)
def f3d (r_:l7) (qB:Int):Option Bool :=
 (F_w r_).bind fun y4=>jn (α:=Bool) (bif decide (y4=0) then chk (a0w ((r_.Credentials.length:Int) - 1)) ((e1h qB 0 ((r_.Credentials.length:Int) - 1)).bind fun y6=>some y6) else some false) fun j7=>some j7
instance f6r {m:List MOp}:GI (gjt 570104 m) [4] [] (fun y:Bool=>[(15,.bool y)]) (fun y=>[]):=⟨⟩
instance h35 {r_:l7} {qB:Int}:WJ (f3d r_ qB) 57 [l7.v r_,.int .i64 qB] .bool:=wX Tryz.func57 [(1,⟨[],[],[.w 4 10 570104]⟩)] (h:=fun _ _ h hQ M=>by unfold f3d at h;exact tX)
def f3c (s_:List a0j):Option (List a0j) :=
 amb s_.isEmpty (some []) (chk (room (([]:List a0j).length+s_.length) 24) (some (([]:List a0j)++s_)))
instance h34 {s_:List a0j}:WJ (f3c s_) 119 [.sl (s_.map a0j.v)] fun z=>.sl (z.map a0j.v):=wX Tryz.func119 [] [] [.fz 2] (h:=fun _ _ h hQ M=>by unfold f3c at h;exact tX)
def f3b (s_:List l9):Option (List l9) :=
 amb s_.isEmpty (some []) (chk (room (([]:List l9).length+s_.length) 40) (some (([]:List l9)++s_)))
instance h33 {s_:List l9}:WI (f3b s_) Tryz.prog 120 [.sl (s_.map l9.v)] [] (fun z=>.osl 1900 5 0 z.length) (fun z=>[(1900,.arr 5 (z.map l9.v))]):=wX Tryz.func120 [(0,⟨[],[.k 0 1],[]⟩),(2,⟨[],[.k 0 1],[]⟩)] [] [.acc 2 1900 5] [1900] (h:=fun _ _ h hQ M=>by unfold f3b at h;exact tX)
def f7h (r_:l7):Option l7 :=
 (f3c r_.Issuers).bind fun y3=>(f3b r_.Credentials).bind fun y4=>some (l7.mk y3 y4)
instance h1l {r_:l7}:WI (f7h r_) Tryz.prog 58 [l7.v r_] [] (fun z=>.agg [.sl (z.Issuers.map a0j.v),.osl 1501 5 0 z.Credentials.length]) (fun z=>[(1501,.arr 5 (z.Credentials.map l9.v))]):=wX Tryz.func58 [(1,⟨[],[.c 5 0 [] [8]],[]⟩)] [] [.ownC 2 1 1501 5 none] [1501] (h:=fun _ _ h hQ M=>by have:SwA [(1900,8)]:=⟨⟩;unfold f7h at h;exact tX)
def f3a (r_:l7) (qB:Int) (t_:Int):Option (l7×Int) :=
 (F_w r_).bind fun y6=>bif (!decide (y6=0)) then some ((l7.mk [] []),31) else (f3d r_ qB).bind fun y8=>bif (!y8) then some ((l7.mk [] []),6) else chk (inb qB r_.Credentials.length) (bif decide (t_≤(r_.Credentials.getD (qB).toNat default).From) then some ((l7.mk [] []),2) else (f7h r_).bind fun y10=>chk (inb qB y10.Credentials.length) (chk (inb qB y10.Credentials.length) (some ((l7.mk y10.Issuers (y10.Credentials.set ((qB).toNat) (l9.mk ((y10.Credentials.getD ((qB).toNat) default).Issuer) ((y10.Credentials.getD ((qB).toNat) default).Fingerprint) ((y10.Credentials.getD ((qB).toNat) default).Holder) ((y10.Credentials.getD ((qB).toNat) default).From) (min ((y10.Credentials.getD ((qB).toNat) default).Until) t_)))),0))))
instance h30 {r_:l7} {qB t_:Int}:WJ (f3a r_ qB t_) 21 [l7.v r_,.int .i64 qB,.int .i64 t_] fun z=>.tup [l7.v z.1,.int .i64 z.2]:=wX Tryz.func21 [(2,⟨[.gc [6]],[],[]⟩),(4,⟨[.gc [6]],[],[]⟩),(5,⟨[.gc [1,2,3,6]],[],[]⟩),(6,⟨[.gc [6]],[],[]⟩),(7,⟨[.gc [1,2,3,6]],[.c 1 0 [] [37937]],[]⟩),(9,⟨[.gc [6,8]],[],[]⟩)] [] [.fzc 6] (h:=fun _ _ h hQ M=>by have:SwA [(1501,37937)]:=⟨⟩;unfold f3a at h;exact tX)
@[go_sem] def g48 (b_:List Int) (k11:Int) (a12:Int) (x10:Unit):Option (Fl Unit Bool) :=
 chk (inb k11 b_.length) (bif (!decide (a12=(b_.getD (k11).toNat default))) then some (.ex false) else some (.nx ()))
def f2z (a_:List Int) (b_:List Int):Option Bool :=
 bif (!decide ((a_.length:Int)=(b_.length:Int))) then some false else (forL (g48 b_) a_ 0 ()).bind fun o=>o.elim (fun x13=>some true) (fun r14=>some r14)
@[irreducible] def e6i:MC:=rdc (cK Tryz.prog Tryz.f22 [] [] 4)
instance:LI e6i 13 12 [0,1,12] [] (fun y:Unit=>[]) (fun y=>[]) []:=⟨⟩
instance h2y {a_ b_:List Int}:WJ (f2z a_ b_) 22 [.sl (a_.map (V.int .i64)),.sl (b_.map (V.int .i64))] .bool:=wX Tryz.func22 [] [(4,e6i)] (h:=fun _ _ h hQ M=>by unfold f2z at h;exact tX)
@[go_sem] def g5t (y17:Int×x8) (y47:List Int) (k260:Int) (a261:Int) (x259:l7):Option (Fl l7 Bool) :=
 grp ((decide (a261<0)||decide ((x259.Credentials.length:Int)≤a261))) fun b307=>bif b307 then some (.ex false) else chk (inb a261 x259.Credentials.length) (chk (a0w ((x259.Credentials.getD (a261).toNat default).From+1)) ((f3a x259 a261 ((x259.Credentials.getD (a261).toNat default).From+1)).bind fun y309=>bif (!decide (y309.2=0)) then some (.ex false) else (e1q y309.1 (IntKind.wrap .u64 y17.1)).bind fun y316=>(f2z y316 y47).bind fun y317=>bif (!y317) then some (.ex false) else some (.nx y309.1)))
def f9v (l_:List Int):Option Bool :=
 bif decide (700<(l_.length:Int)) then e0z.bind fun y4=>some y4 else (f6e (x8.mk l_ 0)).bind fun y6=>(f6d y6.2 y6.1).bind fun y8=>(f5z y8.2).bind fun y10=>(e3r y10.2).bind fun y12=>(f4t y12.2 y12.1.Resources).bind fun y14=>(F_0 y14.2 5).bind fun y17=>(F_0 y17.2 3).bind fun y18=>chk (a0w (1+y18.1)) (chk (b2y (1+y18.1) (1+y18.1) 72) ((F_0 y18.2 3).bind fun y20=>(f6c y20.2 3).bind fun y22=>(f4s y22.2 y22.1).bind fun y24=>(f5l y24.2).bind fun y26=>(d0n y6.1 y8.1 y10.1 (o8.mk 24 y12.1.Resources y12.1.Grants y12.1.Stores y12.1.Mints) y14.1 (a2h.mk 0 (IntKind.wrap .u64 y17.1) (List.replicate ((1+y18.1)).toNat (b5f.mk (b0y.mk 0 [] 0) [] 0 0))) y20.1 y22.1 y24.1 y26.1).bind fun y28=>(F_e y28.1).bind fun y31=>(F_7 y31).bind fun y32=>jn (α:=Fl Unit Bool) (bif (!decide (y28.2=0)) then some (.ex false) else bif (!decide (y32.2=0)) then some (.ex false) else bif (!(decide (y32.1.Fingerprint=y28.1.Fingerprint)&&(decide (y32.1.Spots=y28.1.Spots)&&((y32.1.Public==y28.1.Public)&&(decide (y32.1.Readers=y28.1.Readers)&&(decide (y32.1.Since=y28.1.Since)&&(decide (y32.1.Severity.Level=y28.1.Severity.Level)&&(decide (y32.1.Severity.Worth=y28.1.Severity.Worth)&&(decide (y32.1.Severity.Audience=y28.1.Severity.Audience)&&(decide (y32.1.Severity.Score=y28.1.Severity.Score)&&((y32.1.Rotated==y28.1.Rotated)&&(y32.1.Dead==y28.1.Dead)))))))))))) then some (.ex false) else (f7u y28.1).bind fun y43=>(f4r y22.1 y24.1).bind fun y44=>bif y44 then (f4p y26.1 1).bind fun y45=>bif (!(y43==y45)) then some (.ex false) else some (.nx ()) else bif (!(y43==false)) then some (.ex false) else some (.nx ())) fun o=>o.elim (fun j39=>(e1q y10.1 (IntKind.wrap .u64 y17.1)).bind fun y47=>(forL (g5t y17 y47) y47 0 y10.1).bind fun o=>o.elim (fun x318=>(d0n y6.1 y8.1 x318 (o8.mk 24 y12.1.Resources y12.1.Grants y12.1.Stores y12.1.Mints) y14.1 (a2h.mk 0 (IntKind.wrap .u64 y17.1) (List.replicate ((1+y18.1)).toNat (b5f.mk (b0y.mk 0 [] 0) [] 0 0))) y20.1 y22.1 y24.1 y26.1).bind fun y321=>(f5s y6.1 y8.1 y20.1).bind fun y323=>grp ((decide (y321.2=0)&&(decide (y321.1.Fingerprint=y28.1.Fingerprint)&&(decide (y321.1.Spots=y28.1.Spots)&&((y321.1.Public==y28.1.Public)&&(decide (y321.1.Readers=y28.1.Readers)&&(decide (y321.1.Since=y28.1.Since)&&(decide (y321.1.Severity.Level=y28.1.Severity.Level)&&(decide (y321.1.Severity.Worth=y28.1.Severity.Worth)&&(decide (y321.1.Severity.Audience=y28.1.Severity.Audience)&&(decide (y321.1.Severity.Score=y28.1.Severity.Score)&&((y321.1.Rotated==y28.1.Rotated)&&(y321.1.Dead==y28.1.Dead))))))))))))) fun b330=>grp ((b330&&decide (y28.1.Readers≤(y323.1.length:Int)))) fun b331=>jn (α:=Bool) (bif b331 then (F_o x318).bind fun y333=>some y333 else some false) fun j334=>jn (α:=Bool) (bif j334 then e0z.bind fun y336=>some y336 else some false) fun j337=>some j337) (fun r319=>some r319)) (fun r338=>some r338)))
def g2p:List (Nat×RN):=[(4,⟨[.gc [3,88,89,92,93,94,97,98,99,100,101,102,103,104,105,106,121,122,123,124,125,143,144,145,146,147,148,149,177,178,179,182,183,184,185,186,189,190,193]],[.c 1 0 [33] []],[]⟩),(5,⟨[],[.c 2 0 [33] []],[]⟩),(6,⟨[],[.c 1 0 [33] []],[]⟩),(7,⟨[],[.c 1 0 [33] []],[]⟩),(9,⟨[.gc [3,4,5,6,7,88,89,92,93,94,97,98,99,100,101,102,103,104,105,106,121,122,123,124,125,143,144,145,146,147,148,149,177,178,179,182,183,184,185,186,189,190,193]],[.c 3 0 [33] []],[]⟩),(10,⟨[],[.c 1 0 [33] [],.c 4 0 [33] []],[]⟩),(11,⟨[.gc [3,4,5,6,7,8,9,88,89,92,93,94,97,98,99,100,101,102,103,104,105,106,121,122,123,124,125,143,144,145,146,147,148,149,177,178,179,182,183,184,185,186,189,190,193]],[.c 1 0 [33] []],[]⟩),(12,⟨[],[.c 1 0 [33] []],[]⟩),(13,⟨[],[.c 2 0 [33] []],[]⟩),(14,⟨[],[.c 1 0 [33] []],[]⟩),(15,⟨[.gc [4,5,6,7,8,9,10,11,12,13,88,89,92,93,94,97,98,99,100,101,102,103,104,105,106,121,122,123,124,125,143,144,145,146,147,148,149,177,178,179,182,183,184,185,186,189,190,193]],[],[.n 10 (.fz 71)]⟩),(16,⟨[.gc [4,5,6,7,8,9,10,11,12,13,14,15,88,89,92,93,94,97,98,99,100,101,102,103,104,105,106,121,122,123,124,125,143,144,145,146,147,148,149,177,178,179,182,183,184,185,186,189,190,193]],[],[]⟩),(23,⟨[],[],[.v 3 8]⟩),(26,⟨[.gc [4,5,6,7,8,9,10,11,12,13,14,18,21,22,112,113,114,121,122,123,124,125,143,144,145,146,147,148,149,177,178,179,182,183,184,185,186,189,190,193]],[],[]⟩),(31,⟨[.gc [4,5,6,10,14,23,24,177,178,179,182,183,184,185,186,189,190,193]],[],[]⟩),(32,⟨[.gc [6,14,23,24,25,177,178,179,182,183,184,185,186,189,190,193]],[],[.v 3 6,.v 8 13,.w 15 17 33215,.w 19 20 33219]⟩)]
@[irreducible] def d8j:MC:=rdc (cK Tryz.prog Tryz.f3 g2p [] 21)
@[irreducible] def e5o:MC:=rdc (cK Tryz.prog Tryz.f3 g2p [(21,d8j)] 10000019)
instance:LI d8j 114 113 [4,5,6,7,8,9,10,11,12,13,14,18,112,113] [14,13,12,11,9,7,5,4] (fun y:l7=>[]) (fun y=>[.o 6 (.cells [.sl (y.Issuers.map a0j.v),.sl (y.Credentials.map l9.v)])]) []:=⟨⟩
instance g1z {m:List MOp}:GI (gjt 33219 m) [] [] (fun y:Bool=>[(194,.bool y)]) (fun y=>[]):=⟨⟩
instance g25 {m:List MOp}:GI (gjt 33215 m) [] [] (fun y:Bool=>[(191,.bool y)]) (fun y=>[]):=⟨⟩
instance:LI e5o 0 0 [4,5,6,7,8,9,10,11,12,13,14] [14,13,12,11,9,7,6,5,4] (fun y:Unit=>[]) (fun y=>[]) []:=⟨⟩
instance g3d {l_:List Int}:WJ (f9v l_) 3 [.sl (l_.map (V.int .i64))] .bool:=wX Tryz.func3 g2p [(21,d8j),(10000019,e5o)] (h:=fun _ _ h hQ M=>by have:SwA [(1000,33)]:=⟨⟩;unfold f9v at h;exact tX)
structure b2u where
 d_:d9
 a_:l5
 r_:l7
 x_:o8
 w_:List Int
 f_:a2h
 c_:Int
 jL:w9
 s_:o5
 qK:o6
def g3o (z_:b2u):Option (o9×Int) :=
 (d0n z_.d_ z_.a_ z_.r_ z_.x_ z_.w_ z_.f_ z_.c_ z_.jL z_.s_ z_.qK).bind fun y2=>some (y2.1,y2.2)
def a0v (s_:List l6):Option (List l6) :=
 g7f s_.isEmpty (some []) (chk (room (([]:List l6).length+s_.length) 64) (some (([]:List l6)++s_)))
theorem a1e {s_:List l6}:Le (a0v s_) (f4l s_):=by
 unfold a0v f4l
 (repeat' (with_reducible first|exact Le.refl|assumption|(refine Le.bind ?_ fun _=>?_)|(refine Le.jn ?_ fun _=>?_)|(refine Le.grp fun _=>?_)|(refine Le.chk ?_)|(refine Le.cond ?_ ?_)|(refine Le.fl (fun _=>?_) fun _=>?_)|(refine Le.sum (fun _=>?_) fun _=>?_)|(refine Le.forL (fun _ _ _=>?_) _ _ _)|(refine Le.foldL (fun _ _ _=>?_) _ _ _)|(refine Le.loop fun _=>?_)|(refine Le.perm fun _=>?_)|(refine Le.amb ?_)|exact Le.sort))
def a07 (a_:Int) (x126:Int×(List l6)):Option (Fl (Int×(List l6)) (List l6)) :=
 bif decide (a_<x126.1) then chk (inb x126.1 x126.2.length) (chk (a0w (x126.1 - 1)) (chk (inb (x126.1 - 1) x126.2.length) ((f7i (x126.2.getD ((x126.1).toNat) default) (x126.2.getD (((x126.1 - 1)).toNat) default)).bind fun y134=>bif decide (y134<0) then chk (a0w (x126.1 - 1)) (chk (a0w (x126.1 - 1)) (chk (inb (x126.1 - 1) x126.2.length) (chk (inb x126.1 x126.2.length) (chk (inb x126.1 x126.2.length) (chk (inb (x126.1 - 1) (x126.2.set ((x126.1).toNat) (x126.2.getD (((x126.1 - 1)).toNat) default)).length) (chk (a0w (x126.1 - 1)) (some (.nx ((x126.1 - 1),(x126.2.set ((x126.1).toNat) (x126.2.getD (((x126.1 - 1)).toNat) default)).set (((x126.1 - 1)).toNat) (x126.2.getD ((x126.1).toNat) default)))))))))) else some (.ex x126.2)))) else some (.ex x126.2)
theorem a0k  (a_:Int) (x126:Int×(List l6)):Le (a07 a_ x126) (e3g a_ x126):=by
 unfold a07 e3g
 (repeat' (with_reducible first|exact Le.refl|assumption|(refine Le.bind ?_ fun _=>?_)|(refine Le.jn ?_ fun _=>?_)|(refine Le.grp fun _=>?_)|(refine Le.chk ?_)|(refine Le.cond ?_ ?_)|(refine Le.fl (fun _=>?_) fun _=>?_)|(refine Le.sum (fun _=>?_) fun _=>?_)|(refine Le.forL (fun _ _ _=>?_) _ _ _)|(refine Le.foldL (fun _ _ _=>?_) _ _ _)|(refine Le.loop fun _=>?_)|(refine Le.perm fun _=>?_)|(refine Le.amb ?_)|exact Le.sort))
def a06 (a_:Int) (b_:Int) (x67:Int×(List l6)):Option (Fl (Int×(List l6)) (List l6)) :=
 bif decide (x67.1<b_) then (iter (a07 a_) 100000 (x67.1,x67.2)).bind fun r135=>chk (a0w (x67.1+1)) (some (.nx ((x67.1+1),r135))) else some (.ex x67.2)
theorem a14  (a_:Int) (b_:Int) (x67:Int×(List l6)):Le (a06 a_ b_ x67) (e3c a_ b_ x67):=by
 unfold a06 e3c
 (repeat' (with_reducible first|exact Le.refl|assumption|(refine Le.bind ?_ fun _=>?_)|(refine Le.jn ?_ fun _=>?_)|(refine Le.grp fun _=>?_)|(refine Le.chk ?_)|(refine Le.cond ?_ ?_)|(refine Le.fl (fun _=>?_) fun _=>?_)|(refine Le.sum (fun _=>?_) fun _=>?_)|(refine Le.forL (fun _ _ _=>?_) _ _ _)|(refine Le.foldL (fun _ _ _=>?_) _ _ _)|(refine Le.loop fun _=>?_)|(refine Le.perm fun _=>?_)|(refine Le.amb ?_)|exact Le.sort|apply a0k))
def a02 (gD:List l6) (a_:Int) (b_:Int):Option (List l6) :=
 chk (a0w (a_+1)) ((iter (a06 a_ b_) 100000 ((a_+1),gD)).bind fun r136=>some r136)
theorem a05 {gD:List l6} {a_:Int} {b_:Int}:Le (a02 gD a_ b_) (F_p gD a_ b_):=by
 unfold a02 F_p
 (repeat' (with_reducible first|exact Le.refl|assumption|(refine Le.bind ?_ fun _=>?_)|(refine Le.jn ?_ fun _=>?_)|(refine Le.grp fun _=>?_)|(refine Le.chk ?_)|(refine Le.cond ?_ ?_)|(refine Le.fl (fun _=>?_) fun _=>?_)|(refine Le.sum (fun _=>?_) fun _=>?_)|(refine Le.forL (fun _ _ _=>?_) _ _ _)|(refine Le.foldL (fun _ _ _=>?_) _ _ _)|(refine Le.loop fun _=>?_)|(refine Le.perm fun _=>?_)|(refine Le.amb ?_)|exact Le.sort|apply a0k|apply a14))
def a0d (n_:Int) (x17:Int×Int×(List l6)):Option (Fl (Int×Int×(List l6)) (Int×(List l6))) :=
 bif decide (x17.2.1≤n_) then (a02 x17.2.2 x17.1 x17.2.1).bind fun y21=>chk (a0w (x17.2.1+20)) (some (.nx (x17.2.1,(x17.2.1+20),y21))) else some (.ex (x17.1,x17.2.2))
theorem a0o  (n_:Int) (x17:Int×Int×(List l6)):Le (a0d n_ x17) (e3q n_ x17):=by
 unfold a0d e3q
 (repeat' (with_reducible first|exact Le.refl|assumption|(refine Le.bind ?_ fun _=>?_)|(refine Le.jn ?_ fun _=>?_)|(refine Le.grp fun _=>?_)|(refine Le.chk ?_)|(refine Le.cond ?_ ?_)|(refine Le.fl (fun _=>?_) fun _=>?_)|(refine Le.sum (fun _=>?_) fun _=>?_)|(refine Le.forL (fun _ _ _=>?_) _ _ _)|(refine Le.foldL (fun _ _ _=>?_) _ _ _)|(refine Le.loop fun _=>?_)|(refine Le.perm fun _=>?_)|(refine Le.amb ?_)|exact Le.sort|exact a05))
def a0c (n_:Int) (x26:Unit):Option (Fl Unit Unit) :=
 bif decide (20<n_) then none else some (.ex ())
theorem a1g  (n_:Int) (x26:Unit):Le (a0c n_ x26) (f9g n_ x26):=by
 unfold a0c f9g
 (repeat' (with_reducible first|exact Le.refl|assumption|(refine Le.bind ?_ fun _=>?_)|(refine Le.jn ?_ fun _=>?_)|(refine Le.grp fun _=>?_)|(refine Le.chk ?_)|(refine Le.cond ?_ ?_)|(refine Le.fl (fun _=>?_) fun _=>?_)|(refine Le.sum (fun _=>?_) fun _=>?_)|(refine Le.forL (fun _ _ _=>?_) _ _ _)|(refine Le.foldL (fun _ _ _=>?_) _ _ _)|(refine Le.loop fun _=>?_)|(refine Le.perm fun _=>?_)|(refine Le.amb ?_)|exact Le.sort|exact a05|apply a0o))
def a0f (gD:List l6) (n_:Int):Option (List l6) :=
 (iter (a0d n_) 100000 (0,20,gD)).bind fun r22=>(a02 r22.2 r22.1 n_).bind fun y24=>(iter (a0c n_) 100000 ()).bind fun r27=>some y24
theorem a1i {gD:List l6} {n_:Int}:Le (a0f gD n_) (F_6 gD n_):=by
 unfold a0f F_6
 (repeat' (with_reducible first|exact Le.refl|assumption|(refine Le.bind ?_ fun _=>?_)|(refine Le.jn ?_ fun _=>?_)|(refine Le.grp fun _=>?_)|(refine Le.chk ?_)|(refine Le.cond ?_ ?_)|(refine Le.fl (fun _=>?_) fun _=>?_)|(refine Le.sum (fun _=>?_) fun _=>?_)|(refine Le.forL (fun _ _ _=>?_) _ _ _)|(refine Le.foldL (fun _ _ _=>?_) _ _ _)|(refine Le.loop fun _=>?_)|(refine Le.perm fun _=>?_)|(refine Le.amb ?_)|exact Le.sort|exact a05|apply a0o|apply a1g))
def a04 (x_:List l6):Option (List l6) :=
 (a0f x_ (x_.length:Int)).bind fun y1=>some y1
theorem a0h {x_:List l6}:Le (a04 x_) (e1u x_):=by
 unfold a04 e1u
 (repeat' (with_reducible first|exact Le.refl|assumption|(refine Le.bind ?_ fun _=>?_)|(refine Le.jn ?_ fun _=>?_)|(refine Le.grp fun _=>?_)|(refine Le.chk ?_)|(refine Le.cond ?_ ?_)|(refine Le.fl (fun _=>?_) fun _=>?_)|(refine Le.sum (fun _=>?_) fun _=>?_)|(refine Le.forL (fun _ _ _=>?_) _ _ _)|(refine Le.foldL (fun _ _ _=>?_) _ _ _)|(refine Le.loop fun _=>?_)|(refine Le.perm fun _=>?_)|(refine Le.amb ?_)|exact Le.sort|exact a1i))
def a3r (y10:(List Int)×(List Str)) (k68:Int) (a69:l6) (x67:Int×(List o7)×(List Int)×(List a0n)):Option (Int×(List o7)×(List Int)×(List a0n)) :=
 (f9w a69 y10.2 (d9.mk x67.2.2.1 x67.2.2.2) (l5.mk x67.1 x67.2.1)).bind fun y73=>some (y73.2.Places,y73.2.Events,y73.1.Kinds,y73.1.Events)
theorem a8w  (y10:(List Int)×(List Str)) (k68:Int) (a69:l6) (x67:Int×(List o7)×(List Int)×(List a0n)):Le (a3r y10 k68 a69 x67) (f9r y10 k68 a69 x67):=by
 unfold a3r f9r
 (repeat' (with_reducible first|exact Le.refl|assumption|(refine Le.bind ?_ fun _=>?_)|(refine Le.jn ?_ fun _=>?_)|(refine Le.grp fun _=>?_)|(refine Le.chk ?_)|(refine Le.cond ?_ ?_)|(refine Le.fl (fun _=>?_) fun _=>?_)|(refine Le.sum (fun _=>?_) fun _=>?_)|(refine Le.forL (fun _ _ _=>?_) _ _ _)|(refine Le.foldL (fun _ _ _=>?_) _ _ _)|(refine Le.loop fun _=>?_)|(refine Le.perm fun _=>?_)|(refine Le.amb ?_)|exact Le.sort|exact a1e|exact a0h))
def a6a (l_:List l6):Option (d9×l5×(List Str)×Int) :=
 (f7k l_).bind fun y6=>bif (!decide (y6=0)) then (F_8 y6).bind fun y8=>some (y8.1,y8.2.1,y8.2.2.1,y8.2.2.2) else (f9h l_).bind fun y10=>(d65 y10.2).bind fun y13=>(f9s y10.2).bind fun y14=>(a7d y14).bind fun y26=>bif decide ((y26.1:Int)<(y10.2.length:Int)) then (F_8 7).bind fun y28=>some (y28.1,y28.2.1,y28.2.2.1,y28.2.2.2) else (f8s l_ y10.2).bind fun y30=>bif y30 then (F_8 6).bind fun y32=>some (y32.1,y32.2.1,y32.2.2.1,y32.2.2.2) else bif decide (24<(y10.2.length:Int)) then (F_8 3).bind fun y34=>some (y34.1,y34.2.1,y34.2.2.1,y34.2.2.2) else (a0v l_).bind fun y36=>(a04 y36).bind fun y38=>(foldL (a3r y10) y38 0 (16,[],y10.1,[])).bind fun x74=>(F_r (d9.mk x74.2.2.1 x74.2.2.2)).bind fun y80=>bif (!decide (y80=0)) then (F_8 y80).bind fun y82=>some (y82.1,y82.2.1,y82.2.2.1,y82.2.2.2) else (F_9 (l5.mk x74.1 x74.2.1)).bind fun y88=>bif (!decide (y88=0)) then (F_8 y88).bind fun y90=>some (y90.1,y90.2.1,y90.2.2.1,y90.2.2.2) else some ((d9.mk x74.2.2.1 x74.2.2.2),(l5.mk x74.1 x74.2.1),y10.2,0)
theorem a6q {l_:List l6}:Le (a6a l_) (f6b l_):=by
 unfold a6a f6b
 (repeat' (with_reducible first|exact Le.refl|assumption|(refine Le.bind ?_ fun _=>?_)|(refine Le.jn ?_ fun _=>?_)|(refine Le.grp fun _=>?_)|(refine Le.chk ?_)|(refine Le.cond ?_ ?_)|(refine Le.fl (fun _=>?_) fun _=>?_)|(refine Le.sum (fun _=>?_) fun _=>?_)|(refine Le.forL (fun _ _ _=>?_) _ _ _)|(refine Le.foldL (fun _ _ _=>?_) _ _ _)|(refine Le.loop fun _=>?_)|(refine Le.perm fun _=>?_)|(refine Le.amb ?_)|exact Le.sort|exact a1e|exact a0h|apply a8w))
def a1o (k351:Int) (a352:Bool) (x350:(List Int)×(List Bool)):Option ((List Int)×(List Bool)) :=
 jn (α:=Bool) (bif a352 then chk (inb k351 x350.2.length) (some (!(x350.2.getD ((k351).toNat) default))) else some false) fun j360=>bif j360 then chk (room (x350.1.length+[k351].length) 8) (chk (inb k351 x350.2.length) (some ((x350.1++[k351]),x350.2.set ((k351).toNat) true))) else some (x350.1,x350.2)
theorem a1z  (k351:Int) (a352:Bool) (x350:(List Int)×(List Bool)):Le (a1o k351 a352 x350) (e3k k351 a352 x350):=by
 unfold a1o e3k
 (repeat' (with_reducible first|exact Le.refl|assumption|(refine Le.bind ?_ fun _=>?_)|(refine Le.jn ?_ fun _=>?_)|(refine Le.grp fun _=>?_)|(refine Le.chk ?_)|(refine Le.cond ?_ ?_)|(refine Le.fl (fun _=>?_) fun _=>?_)|(refine Le.sum (fun _=>?_) fun _=>?_)|(refine Le.forL (fun _ _ _=>?_) _ _ _)|(refine Le.foldL (fun _ _ _=>?_) _ _ _)|(refine Le.loop fun _=>?_)|(refine Le.perm fun _=>?_)|(refine Le.amb ?_)|exact Le.sort))
def a1n (x_:List (List Bool)) (x257:(List Int)×(List Bool)):Option (Fl ((List Int)×(List Bool)) (List Bool)) :=
 bif decide (0<(x257.1.length:Int)) then chk (inb 0 x257.1.length) (chk (inb (x257.1.getD 0 default) x_.length) ((foldL a1o (x_.getD (x257.1.getD 0 default).toNat default) 0 (x257.1,x257.2)).bind fun x361=>chk (inc 1 (x361.1.length:Int) x361.1.length) (some (.nx ((x361.1.drop 1).take (x361.1.length - 1),x361.2))))) else some (.ex x257.2)
theorem a3y  (x_:List (List Bool)) (x257:(List Int)×(List Bool)):Le (a1n x_ x257) (f4o x_ x257):=by
 unfold a1n f4o
 (repeat' (with_reducible first|exact Le.refl|assumption|(refine Le.bind ?_ fun _=>?_)|(refine Le.jn ?_ fun _=>?_)|(refine Le.grp fun _=>?_)|(refine Le.chk ?_)|(refine Le.cond ?_ ?_)|(refine Le.fl (fun _=>?_) fun _=>?_)|(refine Le.sum (fun _=>?_) fun _=>?_)|(refine Le.forL (fun _ _ _=>?_) _ _ _)|(refine Le.foldL (fun _ _ _=>?_) _ _ _)|(refine Le.loop fun _=>?_)|(refine Le.perm fun _=>?_)|(refine Le.amb ?_)|exact Le.sort|apply a1z))
def a1y (x_:List (List Bool)) (p_:Int):Option (List Bool) :=
 chk (b2y (x_.length:Int) (x_.length:Int) 1) (chk (inb p_ (List.replicate ((x_.length:Int)).toNat false).length) ((iter (a1n x_) 100000 ([p_],(List.replicate ((x_.length:Int)).toNat false).set ((p_).toNat) true)).bind fun r362=>some r362))
theorem a5h {x_:List (List Bool)} {p_:Int}:Le (a1y x_ p_) (F_t x_ p_):=by
 unfold a1y F_t
 (repeat' (with_reducible first|exact Le.refl|assumption|(refine Le.bind ?_ fun _=>?_)|(refine Le.jn ?_ fun _=>?_)|(refine Le.grp fun _=>?_)|(refine Le.chk ?_)|(refine Le.cond ?_ ?_)|(refine Le.fl (fun _=>?_) fun _=>?_)|(refine Le.sum (fun _=>?_) fun _=>?_)|(refine Le.forL (fun _ _ _=>?_) _ _ _)|(refine Le.foldL (fun _ _ _=>?_) _ _ _)|(refine Le.loop fun _=>?_)|(refine Le.perm fun _=>?_)|(refine Le.amb ?_)|exact Le.sort|apply a1z|apply a3y))
def a3g (d_:d9) (p_:Int) (t_:Int):Option (List Int) :=
 (e2z d_ p_).bind fun y4=>bif (!y4) then some [] else (atF d_.Kinds.length (d_.Events.map fun e=>(e.Time,e.Kind,e.Principal,e.Group)) t_).bind fun y8=>(a1y y8 p_).bind fun y9=>(e1t y9).bind fun y10=>some y10
theorem a3z {d_:d9} {p_:Int} {t_:Int}:Le (a3g d_ p_ t_) (F_u d_ p_ t_):=by
 unfold a3g F_u
 (repeat' (with_reducible first|exact Le.refl|assumption|(refine Le.bind ?_ fun _=>?_)|(refine Le.jn ?_ fun _=>?_)|(refine Le.grp fun _=>?_)|(refine Le.chk ?_)|(refine Le.cond ?_ ?_)|(refine Le.fl (fun _=>?_) fun _=>?_)|(refine Le.sum (fun _=>?_) fun _=>?_)|(refine Le.forL (fun _ _ _=>?_) _ _ _)|(refine Le.foldL (fun _ _ _=>?_) _ _ _)|(refine Le.loop fun _=>?_)|(refine Le.perm fun _=>?_)|(refine Le.amb ?_)|exact Le.sort|exact a5h))
def a2x (k21:Int) (a19:Int×Int) (x18:List Int):Option (List Int) :=
 chk (room (x18.length+[a19.1].length) 8) (some (x18++[a19.1]))
theorem a7o  (k21:Int) (a19:Int×Int) (x18:List Int):Le (a2x k21 a19 x18) (f5k k21 a19 x18):=by
 unfold a2x f5k
 (repeat' (with_reducible first|exact Le.refl|assumption|(refine Le.bind ?_ fun _=>?_)|(refine Le.jn ?_ fun _=>?_)|(refine Le.grp fun _=>?_)|(refine Le.chk ?_)|(refine Le.cond ?_ ?_)|(refine Le.fl (fun _=>?_) fun _=>?_)|(refine Le.sum (fun _=>?_) fun _=>?_)|(refine Le.forL (fun _ _ _=>?_) _ _ _)|(refine Le.foldL (fun _ _ _=>?_) _ _ _)|(refine Le.loop fun _=>?_)|(refine Le.perm fun _=>?_)|(refine Le.amb ?_)|exact Le.sort))
def a4i (a_:l5) (qA:Int) (t_:Int):Option (List Int) :=
 (F_1 a_ qA).bind fun y4=>bif (!y4) then some [] else (e3j a_ qA t_).bind fun y15=>e5g (fun l20=>(foldL a2x l20 0 []).bind fun x22=>(c2i x22).bind fun y24=>some y24) y15
theorem a5i {a_:l5} {qA:Int} {t_:Int}:Le (a4i a_ qA t_) (F_3 a_ qA t_):=by
 unfold a4i F_3
 (repeat' (with_reducible first|exact Le.refl|assumption|(refine Le.bind ?_ fun _=>?_)|(refine Le.jn ?_ fun _=>?_)|(refine Le.grp fun _=>?_)|(refine Le.chk ?_)|(refine Le.cond ?_ ?_)|(refine Le.fl (fun _=>?_) fun _=>?_)|(refine Le.sum (fun _=>?_) fun _=>?_)|(refine Le.forL (fun _ _ _=>?_) _ _ _)|(refine Le.foldL (fun _ _ _=>?_) _ _ _)|(refine Le.loop fun _=>?_)|(refine Le.perm fun _=>?_)|(refine Le.amb ?_)|exact Le.sort|apply a7o))
def a3f (y2:List Int) (k37:Int) (a38:Int) (x36:Unit):Option (Fl Unit (Int×Bool)) :=
 (d5x y2 a38).bind fun y46=>bif y46 then some (.ex (a38,true)) else some (.nx ())
theorem a8e  (y2:List Int) (k37:Int) (a38:Int) (x36:Unit):Le (a3f y2 k37 a38 x36) (e3e y2 k37 a38 x36):=by
 unfold a3f e3e
 (repeat' (with_reducible first|exact Le.refl|assumption|(refine Le.bind ?_ fun _=>?_)|(refine Le.jn ?_ fun _=>?_)|(refine Le.grp fun _=>?_)|(refine Le.chk ?_)|(refine Le.cond ?_ ?_)|(refine Le.fl (fun _=>?_) fun _=>?_)|(refine Le.sum (fun _=>?_) fun _=>?_)|(refine Le.forL (fun _ _ _=>?_) _ _ _)|(refine Le.foldL (fun _ _ _=>?_) _ _ _)|(refine Le.loop fun _=>?_)|(refine Le.perm fun _=>?_)|(refine Le.amb ?_)|exact Le.sort|exact a3z|exact a5i))
def a5d (d_:d9) (a_:l5) (p_:Int) (qA:Int) (t_:Int):Option (Int×Bool) :=
 (a3g d_ p_ t_).bind fun y2=>(a4i a_ qA t_).bind fun y25=>(forL (a3f y2) y25 0 ()).bind fun o=>o.elim (fun x47=>some (0,false)) (fun r48=>some r48)
theorem b0z {d_:d9} {a_:l5} {p_:Int} {qA:Int} {t_:Int}:Le (a5d d_ a_ p_ qA t_) (e1s d_ a_ p_ qA t_):=by
 unfold a5d e1s
 (repeat' (with_reducible first|exact Le.refl|assumption|(refine Le.bind ?_ fun _=>?_)|(refine Le.jn ?_ fun _=>?_)|(refine Le.grp fun _=>?_)|(refine Le.chk ?_)|(refine Le.cond ?_ ?_)|(refine Le.fl (fun _=>?_) fun _=>?_)|(refine Le.sum (fun _=>?_) fun _=>?_)|(refine Le.forL (fun _ _ _=>?_) _ _ _)|(refine Le.foldL (fun _ _ _=>?_) _ _ _)|(refine Le.loop fun _=>?_)|(refine Le.perm fun _=>?_)|(refine Le.amb ?_)|exact Le.sort|exact a3z|exact a5i|apply a8e))
def a4t (d_:d9) (a_:l5) (p_:Int) (qA:Int) (t_:Int):Option Bool :=
 (e3a d_ a_ p_ qA).bind fun y4=>bif (!y4) then some false else (F_2 a_ qA t_).bind fun y6=>(a5d d_ a_ p_ qA t_).bind fun y8=>grp ((y6.2||y8.2)) fun b10=>some b10
theorem a2p {d_:d9} {a_:l5} {p_:Int} {qA:Int} {t_:Int}:Le (a4t d_ a_ p_ qA t_) (d5u d_ a_ p_ qA t_):=by
 unfold a4t d5u
 (repeat' (with_reducible first|exact Le.refl|assumption|(refine Le.bind ?_ fun _=>?_)|(refine Le.jn ?_ fun _=>?_)|(refine Le.grp fun _=>?_)|(refine Le.chk ?_)|(refine Le.cond ?_ ?_)|(refine Le.fl (fun _=>?_) fun _=>?_)|(refine Le.sum (fun _=>?_) fun _=>?_)|(refine Le.forL (fun _ _ _=>?_) _ _ _)|(refine Le.foldL (fun _ _ _=>?_) _ _ _)|(refine Le.loop fun _=>?_)|(refine Le.perm fun _=>?_)|(refine Le.amb ?_)|exact Le.sort|exact b0z))
def a4b (d_:d9) (a_:l5) (qA:Int) (t_:Int) (k54:Int) (a55:Int) (x53:Bool×(List Int)):Option (Bool×(List Int)) :=
 (a4t d_ a_ k54 qA t_).bind fun y63=>bif y63 then chk (room (x53.2.length+[k54].length) 8) (some (x53.1,(x53.2++[k54]))) else some (x53.1,x53.2)
theorem a9j  (d_:d9) (a_:l5) (qA:Int) (t_:Int) (k54:Int) (a55:Int) (x53:Bool×(List Int)):Le (a4b d_ a_ qA t_ k54 a55 x53) (f9a d_ a_ qA t_ k54 a55 x53):=by
 unfold a4b f9a
 (repeat' (with_reducible first|exact Le.refl|assumption|(refine Le.bind ?_ fun _=>?_)|(refine Le.jn ?_ fun _=>?_)|(refine Le.grp fun _=>?_)|(refine Le.chk ?_)|(refine Le.cond ?_ ?_)|(refine Le.fl (fun _=>?_) fun _=>?_)|(refine Le.sum (fun _=>?_) fun _=>?_)|(refine Le.forL (fun _ _ _=>?_) _ _ _)|(refine Le.foldL (fun _ _ _=>?_) _ _ _)|(refine Le.loop fun _=>?_)|(refine Le.perm fun _=>?_)|(refine Le.amb ?_)|exact Le.sort|exact a2p))
def a7f (d_:d9) (a_:l5) (qA:Int) (t_:Int):Option (a1x×Int) :=
 (d5v d_ a_).bind fun y4=>bif (!decide (y4=0)) then some ((a1x.mk false []),y4) else (d0p a_ qA).bind fun y8=>bif (!y8) then some ((a1x.mk false []),6) else (F_2 a_ qA t_).bind fun y10=>(foldL (a4b d_ a_ qA t_) d_.Kinds 0 (y10.2,[])).bind fun x64=>some ((a1x.mk x64.1 x64.2),0)
theorem a7j {d_:d9} {a_:l5} {qA:Int} {t_:Int}:Le (a7f d_ a_ qA t_) (f5j d_ a_ qA t_):=by
 unfold a7f f5j
 (repeat' (with_reducible first|exact Le.refl|assumption|(refine Le.bind ?_ fun _=>?_)|(refine Le.jn ?_ fun _=>?_)|(refine Le.grp fun _=>?_)|(refine Le.chk ?_)|(refine Le.cond ?_ ?_)|(refine Le.fl (fun _=>?_) fun _=>?_)|(refine Le.sum (fun _=>?_) fun _=>?_)|(refine Le.forL (fun _ _ _=>?_) _ _ _)|(refine Le.foldL (fun _ _ _=>?_) _ _ _)|(refine Le.loop fun _=>?_)|(refine Le.perm fun _=>?_)|(refine Le.amb ?_)|exact Le.sort|exact a2p|apply a9j))
def a4g (qC:List Str) (k19:Int) (a20:Int) (x18:Str):Option Str :=
 chk (inb a20 qC.length) (chk (c48 ([32].length+(qC.getD (a20).toNat default).length)) (chk (c48 (x18.length+(([32]:Str)++(qC.getD (a20).toNat default)).length)) (some (x18++(([32]:Str)++(qC.getD (a20).toNat default))))))
theorem a9l  (qC:List Str) (k19:Int) (a20:Int) (x18:Str):Le (a4g qC k19 a20 x18) (f9f qC k19 a20 x18):=by
 unfold a4g f9f
 (repeat' (with_reducible first|exact Le.refl|assumption|(refine Le.bind ?_ fun _=>?_)|(refine Le.jn ?_ fun _=>?_)|(refine Le.grp fun _=>?_)|(refine Le.chk ?_)|(refine Le.cond ?_ ?_)|(refine Le.fl (fun _=>?_) fun _=>?_)|(refine Le.sum (fun _=>?_) fun _=>?_)|(refine Le.forL (fun _ _ _=>?_) _ _ _)|(refine Le.foldL (fun _ _ _=>?_) _ _ _)|(refine Le.loop fun _=>?_)|(refine Le.perm fun _=>?_)|(refine Le.amb ?_)|exact Le.sort|exact a7j))
def a7g (c_:l6) (d_:d9) (a_:l5) (qC:List Str):Option Str :=
 (a7f d_ a_ c_.A c_.Time).bind fun y2=>jn (α:=Str) (bif y2.1.Public then some [112,117,98,108,105,99] else some [105,110,115,105,100,101]) fun j3=>(foldL (a4g qC) y2.1.Principals 0 j3).bind fun x21=>some x21
theorem a7k {c_:l6} {d_:d9} {a_:l5} {qC:List Str}:Le (a7g c_ d_ a_ qC) (f3e c_ d_ a_ qC):=by
 unfold a7g f3e
 (repeat' (with_reducible first|exact Le.refl|assumption|(refine Le.bind ?_ fun _=>?_)|(refine Le.jn ?_ fun _=>?_)|(refine Le.grp fun _=>?_)|(refine Le.chk ?_)|(refine Le.cond ?_ ?_)|(refine Le.fl (fun _=>?_) fun _=>?_)|(refine Le.sum (fun _=>?_) fun _=>?_)|(refine Le.forL (fun _ _ _=>?_) _ _ _)|(refine Le.foldL (fun _ _ _=>?_) _ _ _)|(refine Le.loop fun _=>?_)|(refine Le.perm fun _=>?_)|(refine Le.amb ?_)|exact Le.sort|exact a7j|apply a9l))
def a2u (k18:Int) (a19:a0n) (x17:List Int):Option (List Int) :=
 chk (room (x17.length+[a19.Time].length) 8) (some (x17++[a19.Time]))
theorem a7l  (k18:Int) (a19:a0n) (x17:List Int):Le (a2u k18 a19 x17) (f5y k18 a19 x17):=by
 unfold a2u f5y
 (repeat' (with_reducible first|exact Le.refl|assumption|(refine Le.bind ?_ fun _=>?_)|(refine Le.jn ?_ fun _=>?_)|(refine Le.grp fun _=>?_)|(refine Le.chk ?_)|(refine Le.cond ?_ ?_)|(refine Le.fl (fun _=>?_) fun _=>?_)|(refine Le.sum (fun _=>?_) fun _=>?_)|(refine Le.forL (fun _ _ _=>?_) _ _ _)|(refine Le.foldL (fun _ _ _=>?_) _ _ _)|(refine Le.loop fun _=>?_)|(refine Le.perm fun _=>?_)|(refine Le.amb ?_)|exact Le.sort))
def a4c (d_:d9) (a_:l5):Option (List Int) :=
 (F_a a_).bind fun y2=>(foldL a2u d_.Events 0 y2).bind fun x20=>(c2i x20).bind fun y22=>(a5s y22).bind fun y24=>some ((y24.2.drop 0).take y24.1)
theorem a5e {d_:d9} {a_:l5}:Le (a4c d_ a_) (F_b d_ a_):=by
 unfold a4c F_b
 (repeat' (with_reducible first|exact Le.refl|assumption|(refine Le.bind ?_ fun _=>?_)|(refine Le.jn ?_ fun _=>?_)|(refine Le.grp fun _=>?_)|(refine Le.chk ?_)|(refine Le.cond ?_ ?_)|(refine Le.fl (fun _=>?_) fun _=>?_)|(refine Le.sum (fun _=>?_) fun _=>?_)|(refine Le.forL (fun _ _ _=>?_) _ _ _)|(refine Le.foldL (fun _ _ _=>?_) _ _ _)|(refine Le.loop fun _=>?_)|(refine Le.perm fun _=>?_)|(refine Le.amb ?_)|exact Le.sort|apply a7l))
def a2w (d_:d9) (a_:l5) (p_:Int) (t_:Int) (k75:Int) (a76:Int) (x74:Unit):Option (Fl Unit (Int×Bool)) :=
 (F_2 a_ a76 t_).bind fun y96=>grp ((decide (p_=(-1))&&y96.2)) fun b99=>bif b99 then some (.ex (a76,true)) else bif (!decide (p_=(-1))) then (a4t d_ a_ p_ a76 t_).bind fun y100=>bif y100 then some (.ex (a76,true)) else some (.nx ()) else some (.nx ())
theorem a7n  (d_:d9) (a_:l5) (p_:Int) (t_:Int) (k75:Int) (a76:Int) (x74:Unit):Le (a2w d_ a_ p_ t_ k75 a76 x74) (e3d d_ a_ p_ t_ k75 a76 x74):=by
 unfold a2w e3d
 (repeat' (with_reducible first|exact Le.refl|assumption|(refine Le.bind ?_ fun _=>?_)|(refine Le.jn ?_ fun _=>?_)|(refine Le.grp fun _=>?_)|(refine Le.chk ?_)|(refine Le.cond ?_ ?_)|(refine Le.fl (fun _=>?_) fun _=>?_)|(refine Le.sum (fun _=>?_) fun _=>?_)|(refine Le.forL (fun _ _ _=>?_) _ _ _)|(refine Le.foldL (fun _ _ _=>?_) _ _ _)|(refine Le.loop fun _=>?_)|(refine Le.perm fun _=>?_)|(refine Le.amb ?_)|exact Le.sort|exact a2p))
def a4e (d_:d9) (a_:l5) (jA:Int) (p_:Int) (t_:Int):Option (Int×Bool) :=
 (F_f a_ jA t_).bind fun y47=>(forL (a2w d_ a_ p_ t_) y47 0 ()).bind fun o=>o.elim (fun x101=>some (0,false)) (fun r102=>some r102)
theorem a5f {d_:d9} {a_:l5} {jA:Int} {p_:Int} {t_:Int}:Le (a4e d_ a_ jA p_ t_) (e1r d_ a_ jA p_ t_):=by
 unfold a4e e1r
 (repeat' (with_reducible first|exact Le.refl|assumption|(refine Le.bind ?_ fun _=>?_)|(refine Le.jn ?_ fun _=>?_)|(refine Le.grp fun _=>?_)|(refine Le.chk ?_)|(refine Le.cond ?_ ?_)|(refine Le.fl (fun _=>?_) fun _=>?_)|(refine Le.sum (fun _=>?_) fun _=>?_)|(refine Le.forL (fun _ _ _=>?_) _ _ _)|(refine Le.foldL (fun _ _ _=>?_) _ _ _)|(refine Le.loop fun _=>?_)|(refine Le.perm fun _=>?_)|(refine Le.amb ?_)|exact Le.sort|exact a2p|apply a7n))
def a2v (d_:d9) (a_:l5) (jA:Int) (p_:Int) (k35:Int) (a36:Int) (x34:Unit):Option (Fl Unit (Int×Bool)) :=
 (a4e d_ a_ jA p_ a36).bind fun y44=>bif y44.2 then some (.ex (a36,true)) else some (.nx ())
theorem a7m  (d_:d9) (a_:l5) (jA:Int) (p_:Int) (k35:Int) (a36:Int) (x34:Unit):Le (a2v d_ a_ jA p_ k35 a36 x34) (f4n d_ a_ jA p_ k35 a36 x34):=by
 unfold a2v f4n
 (repeat' (with_reducible first|exact Le.refl|assumption|(refine Le.bind ?_ fun _=>?_)|(refine Le.jn ?_ fun _=>?_)|(refine Le.grp fun _=>?_)|(refine Le.chk ?_)|(refine Le.cond ?_ ?_)|(refine Le.fl (fun _=>?_) fun _=>?_)|(refine Le.sum (fun _=>?_) fun _=>?_)|(refine Le.forL (fun _ _ _=>?_) _ _ _)|(refine Le.foldL (fun _ _ _=>?_) _ _ _)|(refine Le.loop fun _=>?_)|(refine Le.perm fun _=>?_)|(refine Le.amb ?_)|exact Le.sort|exact a5e|exact a5f))
def a4d (d_:d9) (a_:l5) (jA:Int) (p_:Int):Option (Int×Bool) :=
 (a4c d_ a_).bind fun y23=>(forL (a2v d_ a_ jA p_) y23 0 ()).bind fun o=>o.elim (fun x45=>some (0,false)) (fun r46=>some r46)
theorem a9k {d_:d9} {a_:l5} {jA:Int} {p_:Int}:Le (a4d d_ a_ jA p_) (F_v d_ a_ jA p_):=by
 unfold a4d F_v
 (repeat' (with_reducible first|exact Le.refl|assumption|(refine Le.bind ?_ fun _=>?_)|(refine Le.jn ?_ fun _=>?_)|(refine Le.grp fun _=>?_)|(refine Le.chk ?_)|(refine Le.cond ?_ ?_)|(refine Le.fl (fun _=>?_) fun _=>?_)|(refine Le.sum (fun _=>?_) fun _=>?_)|(refine Le.forL (fun _ _ _=>?_) _ _ _)|(refine Le.foldL (fun _ _ _=>?_) _ _ _)|(refine Le.loop fun _=>?_)|(refine Le.perm fun _=>?_)|(refine Le.amb ?_)|exact Le.sort|exact a5e|exact a5f|apply a7m))
def a4f (d_:d9) (a_:l5) (jA:Int) (p_:Int):Option (Int×Bool) :=
 (e1j d_ a_ jA).bind fun y4=>bif (!decide (y4=0)) then some (0,false) else (a4d d_ a_ jA p_).bind fun y6=>some (y6.1,y6.2)
theorem a5g {d_:d9} {a_:l5} {jA:Int} {p_:Int}:Le (a4f d_ a_ jA p_) (f4c d_ a_ jA p_):=by
 unfold a4f f4c
 (repeat' (with_reducible first|exact Le.refl|assumption|(refine Le.bind ?_ fun _=>?_)|(refine Le.jn ?_ fun _=>?_)|(refine Le.grp fun _=>?_)|(refine Le.chk ?_)|(refine Le.cond ?_ ?_)|(refine Le.fl (fun _=>?_) fun _=>?_)|(refine Le.sum (fun _=>?_) fun _=>?_)|(refine Le.forL (fun _ _ _=>?_) _ _ _)|(refine Le.foldL (fun _ _ _=>?_) _ _ _)|(refine Le.loop fun _=>?_)|(refine Le.perm fun _=>?_)|(refine Le.amb ?_)|exact Le.sort|exact a9k))
def a4h (y2:d9×l5×(List Str)×Int) (k144:Int) (a145:l6) (x143:List UInt8):Option (List UInt8) :=
 bif decide (a145.Kind=10) then (a7g a145 y2.1 y2.2.1 y2.2.2.1).bind fun y173=>chk (c48 (y173.length+[10].length)) ((bws x143 (y173++[10])).bind fun y174=>some y174) else bif decide (a145.Kind=11) then jn (α:=Str) ((e1a y2.2.2.1 a145.Name).bind fun y183=>(a4f y2.1 y2.2.1 a145.A y183).bind fun y184=>bif y184.2 then (b2z y184.1).bind fun y185=>some y185 else some [110,101,118,101,114]) fun j180=>chk (c48 (j180.length+[10].length)) ((bws x143 (j180++[10])).bind fun y186=>some y186) else some x143
theorem a9m  (y2:d9×l5×(List Str)×Int) (k144:Int) (a145:l6) (x143:List UInt8):Le (a4h y2 k144 a145 x143) (f9q y2 k144 a145 x143):=by
 unfold a4h f9q
 (repeat' (with_reducible first|exact Le.refl|assumption|(refine Le.bind ?_ fun _=>?_)|(refine Le.jn ?_ fun _=>?_)|(refine Le.grp fun _=>?_)|(refine Le.chk ?_)|(refine Le.cond ?_ ?_)|(refine Le.fl (fun _=>?_) fun _=>?_)|(refine Le.sum (fun _=>?_) fun _=>?_)|(refine Le.forL (fun _ _ _=>?_) _ _ _)|(refine Le.foldL (fun _ _ _=>?_) _ _ _)|(refine Le.loop fun _=>?_)|(refine Le.perm fun _=>?_)|(refine Le.amb ?_)|exact Le.sort|exact a6q|exact a7k|exact a5g))
def a7h (l_:List l6):Option (Str×Int) :=
 (a6a l_).bind fun y2=>bif (!decide (y2.2.2.2=0)) then some ([],y2.2.2.2) else (foldL (a4h y2) l_ 0 ([]:Str)).bind fun x187=>(g2d x187).bind fun y189=>some (y189,0)
theorem b3a {l_:List l6}:Le (a7h l_) (F_q l_):=by
 unfold a7h F_q
 (repeat' (with_reducible first|exact Le.refl|assumption|(refine Le.bind ?_ fun _=>?_)|(refine Le.jn ?_ fun _=>?_)|(refine Le.grp fun _=>?_)|(refine Le.chk ?_)|(refine Le.cond ?_ ?_)|(refine Le.fl (fun _=>?_) fun _=>?_)|(refine Le.sum (fun _=>?_) fun _=>?_)|(refine Le.forL (fun _ _ _=>?_) _ _ _)|(refine Le.foldL (fun _ _ _=>?_) _ _ _)|(refine Le.loop fun _=>?_)|(refine Le.perm fun _=>?_)|(refine Le.amb ?_)|exact Le.sort|exact a6q|exact a7k|exact a5g|apply a9m))
def a2n:Option Bool :=
 (f9x [112,101,114,115,111,110,32,97,110,110,10,97,108,108,111,119,32,51,32,97,110,110,32,48,10,112,117,116,32,53,32,55,32,48,10,115,105,110,99,101,32,55,32,97,110,110,10]).bind fun y2=>(a7h y2.1).bind fun y4=>grp ((decide (y2.2.2=0)&&decide (y4.2=0))) fun b7=>grp ((b7&&decide (y4.1=[53,10]))) fun b8=>some b8
theorem a4u:Le (a2n ) (e0z ):=by
 unfold a2n e0z
 (repeat' (with_reducible first|exact Le.refl|assumption|(refine Le.bind ?_ fun _=>?_)|(refine Le.jn ?_ fun _=>?_)|(refine Le.grp fun _=>?_)|(refine Le.chk ?_)|(refine Le.cond ?_ ?_)|(refine Le.fl (fun _=>?_) fun _=>?_)|(refine Le.sum (fun _=>?_) fun _=>?_)|(refine Le.forL (fun _ _ _=>?_) _ _ _)|(refine Le.foldL (fun _ _ _=>?_) _ _ _)|(refine Le.loop fun _=>?_)|(refine Le.perm fun _=>?_)|(refine Le.amb ?_)|exact Le.sort|exact b3a))
theorem d5m:e0z=some true:=a4u _ (by kernel_rfl)
end
end Go.Ab