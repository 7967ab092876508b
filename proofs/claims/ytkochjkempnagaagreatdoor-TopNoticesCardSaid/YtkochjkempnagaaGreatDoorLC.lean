/- What the functions of this seat that lie on the laws' road compute (part LC), each for every input. By AI agents. -/
import Derived.Test.YtkochjkempnagaaGreatDoorLB
import Derived.Test.YtkochjkempnagaaGreatDoorLT
import Derived.Test.YtkochjkempnagaaGreatDoorAbRun
set_option linter.all false
set_option linter.all false
set_option maxRecDepth 20000
set_option maxHeartbeats 2000000
namespace Go.Ab
open Go.Proofs
def F_54 (c_:GCommand):Option Bool := (F_1w c_).bind fun y2=>some (!y2)
instance Wq_54 {c_:GCommand}:WJ (F_54 c_) 115 [GCommand.v c_] .bool:=wX Tryz.func115 (h:=fun _ _ h hQ M=>by unfold F_54 at h;exact tX)
def F_4f (k31:Int) (a32:GCommand) (x30:Unit):Option (Fl Unit Int) := (F_54 a32).bind fun y40=>bif y40 then some (.ex k31) else some (.nx ())
def F_55 (s_:List GCommand):Option Int := (forL F_4f s_ 0 ()).bind fun o=>o.elim (fun x41=>some (-1)) (fun r42=>some r42)
@[irreducible] def mc_4f:MC:=rdc (cK Tryz.prog Tryz.f118 [] [] 2)
attribute [go_sem] F_4f
instance:LI mc_4f 8 7 [0,1,7] [] (fun y:Unit=>[]) (fun y=>[]) []:=⟨⟩
instance Wq_55 {s_:List GCommand}:WJ (F_55 s_) 118 [.sl (s_.map GCommand.v),.fn (.func 115) []] (.int .i64):=wX Tryz.func118 [] [(2,mc_4f)] (h:=fun _ _ h hQ M=>by unfold F_55 at h;exact tX)
def F_56 (s_:List GCommand):Option Bool := (F_55 s_).bind fun y2=>some (decide (0≤y2))
instance Wq_56 {s_:List GCommand}:WJ (F_56 s_) 74 [.sl (s_.map GCommand.v),.fn (.func 115) []] .bool:=wX Tryz.func74 (h:=fun _ _ h hQ M=>by unfold F_56 at h;exact tX)
def F_4g (l_:List GCommand):Option Int := bif decide (60<(l_.length:Int)) then some 3 else (F_56 l_).bind fun y4=>bif y4 then some 45 else some 0
instance Wq_4g {l_:List GCommand}:WJ (F_4g l_) 67 [.sl (l_.map GCommand.v)] (.int .i64):=wX Tryz.func67 (h:=fun _ _ h hQ M=>by unfold F_4g at h;exact tX)
def F_4 (e_:Int):Option (GDirectory×GEstate×(List Str)×Int) := some ((GDirectory.mk [] []),(GEstate.mk 0 []),[],e_)
instance Wq_4 {e_:Int}:WJ (F_4 e_) 66 [.int .i64 e_] fun z=>.tup [GDirectory.v z.1,GEstate.v z.2.1,.sl (z.2.2.1.map V.str),.int .i64 z.2.2.2]:=wX Tryz.func66 [] [] [.fzc 2,.fzc 3,.fz 4] (h:=fun _ _ h hQ M=>by unfold F_4 at h;exact tX)
def F_4h (k16:Int) (a17:GCommand) (x15:(List Str)×(List Int)):Option ((List Str)×(List Int)) := bif decide (a17.Kind=1) then chk (room (x15.2.length+[1].length) 8) (chk (room (x15.1.length+[a17.Name].length) 16) (some ((x15.1++[a17.Name]),(x15.2++[1])))) else bif decide (a17.Kind=2) then chk (room (x15.2.length+[2].length) 8) (chk (room (x15.1.length+[a17.Name].length) 16) (some ((x15.1++[a17.Name]),(x15.2++[2])))) else some (x15.1,x15.2)
def F_2a (l_:List GCommand):Option ((List Int)×(List Str)) := (foldL F_4h l_ 0 ([],[])).bind fun x18=>some (x18.2,x18.1)
def a_2a:List (Nat×RN):=[(0,⟨[],[.k 0 1,.k 1 1],[]⟩),(8,⟨[.gc [2,3,5,6,7,8]],[],[]⟩)]
@[irreducible] def mc_4h:MC:=rdc (cK Tryz.prog Tryz.f68 a_2a [] 2)
attribute [go_sem] F_4h
instance:LI mc_4h 8 7 [6,7] [] (fun y:(List Str)×(List Int)=>[(2,.osl 2002 1 0 y.2.length),(3,.osl 2003 1 0 y.1.length)]) (fun y=>[.o 2003 (.arr 1 (y.1.map V.str)),.o 2002 (.arr 1 (y.2.map (V.int .i64)))]) [.gc [2,3,6,7,8],.acc 2 2002 1,.acc 3 2003 1]:=⟨⟩
instance Wq_2a {l_:List GCommand}:WJ (F_2a l_) 68 [.sl (l_.map GCommand.v)] fun z=>.tup [.sl (z.1.map (V.int .i64)),.sl (z.2.map V.str)]:=wX Tryz.func68 a_2a [(2,mc_4h)] [.fz 2,.fz 3] (h:=fun _ _ h hQ M=>by unfold F_2a at h;exact tX)
def F_60 (k12:Int) (a11:Str) (x10:List Str):Option (Fl (List Str) Empty) := chk (room (x10.length+[a11].length) 16) (some (.nx (x10++[a11])))
def F_11 (seqc0_:List Str):Option (List Str) := (forL F_60 seqc0_ 0 []).bind fun o=>o.elim (fun x13=>some x13) (fun r14=>none)
def a_11:List (Nat×RN):=[(0,⟨[],[.k 1 1],[]⟩),(30000003,⟨[.ownC 2 0 4032 1 none],[],[]⟩)]
@[irreducible] def mc_5l:MC:=rdc (cK Tryz.prog Tryz.f55 a_11 [] 3)
def mc_11:MC:=rdc (cT Tryz.prog Tryz.f55 a_11 [(3,mc_5l)])
instance Wq_11 {seqc0_:List Str}:WI (F_11 seqc0_) Tryz.prog 55 [.nils,.fn (.func 117) [.eptr (.agg [.sl (seqc0_.map V.str)]) 0]] [] (fun z=>.osl 1900 1 0 z.length) (fun z=>[(1900,.arr 1 (z.map V.str))]):=⟨fun Q Q' h hQ=>by
 refine acallM mc_11 [.acc 4 1900 1] [1900] [.t 4] Tryz.func55 fun M=>?_
 unfold F_11 at h
 unfold mc_11
 replace h:=tY h
 refine tB ?_
 repeat' (first
 | (exact tZ)
 | ((first|refine oblg h ?_|refine roomG h ?_|refine inbG h ?_|refine incG h ?_|refine divG h ?_|refine appG h ?_|refine appC h ?_|refine fork h ?_ ?_|refine forkS h ?_ ?_)<;>clear h<;>intro hc h)
 | (refine M.rfor (b:=mc_5l) (enc:=fun a=>[.str a]) [2] [] (fun x=>[.o 2 (.cells [.osl 4032 1 0 x.length]),.o 4032 (.arr 1 (x.map V.str))]) [.gc [0,1,2,4,6],.ownC 2 0 4032 1 none] h rfl (aiter_vals _) rfl (fun a=>⟨rfl,rfl⟩) ?_ ?_ rfl ?_<;>first
 | (clear h;intro k a x Qn K hK1 hkN1 h hf;clear hf;unfold F_60 at h;unfold mc_5l;replace h:=tY h;refine tB ?_)
  |(clear h;intro x h;replace h:=tY h;refine tB ?_)
  |(clear h;(try refine tB ?_);exact tU0;done))
 | (refine hK1 _ ?_;(try refine tB ?_);refine ⟨_,h,?_⟩;exact tU0;done)
 | (refine tE ?_;(first|rw [M.lok_compU]|rw [M.lokD_compU]);refine tB ?_)
 | (refine tA ?_)
 | fail)⟩
def F_4i (seqc0_:List Str):Option (List Str) := (F_11 seqc0_).bind fun y2=>some y2
instance Wq_4i {seqc0_:List Str}:WI (F_4i seqc0_) Tryz.prog 32 [.fn (.func 117) [.eptr (.agg [.sl (seqc0_.map V.str)]) 0]] [] (fun z=>.osl 1900 1 0 z.length) (fun z=>[(1900,.arr 1 (z.map V.str))]):=wX Tryz.func32 [(0,⟨[],[.k 0 1],[]⟩),(1,⟨[],[.c 1 1 [] [4]],[]⟩)] [] [.acc 2 1900 1] [1900] (h:=fun _ _ h hQ M=>by have:SwA [(1900,4)]:=⟨⟩;unfold F_4i at h;exact tX)
def F_1p (seqc0_:List Str):Option (List Str) := (F_4i seqc0_).bind fun y2=>(sortS y2).bind fun y4=>some y4
def mc_1p:MC:=rdc (cT Tryz.prog Tryz.f69 [(0,⟨[],[.k 0 1],[]⟩),(1,⟨[],[.c 1 0 [] [5]],[]⟩),(2,⟨[],[.c 1 0 [5] []],[]⟩)] [])
instance Wq_1p {seqc0_:List Str}:WI (F_1p seqc0_) Tryz.prog 69 [.fn (.func 117) [.eptr (.agg [.sl (seqc0_.map V.str)]) 0]] [] (fun z=>.osl 1900 1 0 z.length) (fun z=>[(1900,.arr 1 (z.map V.str))]):=⟨fun Q Q' h hQ=>by
 refine acallM mc_1p [.acc 2 1900 1] [1900] [.t 2] Tryz.func69 fun M=>?_
 unfold F_1p at h
 unfold mc_1p
 replace h:=tY h
 refine tB ?_
 repeat' (first
 | (exact tZ)
 | (refine And.intro (by refine ⟨?_,?_,?_,?_⟩<;>omega) ?_;first|exact hQ _ h|(rw [zP (by omega)];exact hQ _ h))
 | (rw [←hlen];exact hQ _ h)
 | (have hq:=hQ _ h;simp only [xW,Nat.min_eq_left hlen.1] at hq;exact hq)
 | ((first|refine oblg h ?_|refine roomG h ?_|refine inbG h ?_|refine incG h ?_|refine divG h ?_|refine appG h ?_|refine appC h ?_|refine fork h ?_ ?_|refine forkS h ?_ ?_)<;>clear h<;>intro hc h)
 | (obtain ⟨y,hy,h⟩:=h;(first|have hw:=acall_swe 1900 5 (Wq_4i.c.w hy)|(have hw:=acall_swe 1000 5 (W_6b hy);replace hw:=tY hw;(try simp only [hlen] at hw);have hlen:=sortS_len hy));replace hw:=tY hw;(first|refine M.sC hw ?_|refine M.sD hw ?_);clear hw hy;refine tB ?_)
 | (refine tE ?_;(first|rw [M.lok_compU]|rw [M.lokD_compU]);refine tB ?_)
 | (refine tA ?_)
 | fail)⟩
def F_4j (v_:Str) (k11:Int) (a12:Str) (x10:Unit):Option (Fl Unit Int) := bif decide (v_=a12) then some (.ex k11) else some (.nx ())
def F_2b (s_:List Str) (v_:Str):Option Int := (forL (F_4j v_) s_ 0 ()).bind fun o=>o.elim (fun x13=>some (-1)) (fun r14=>some r14)
@[irreducible] def mc_4j:MC:=rdc (cK Tryz.prog Tryz.f39 [] [] 2)
attribute [go_sem] F_4j
instance:LI mc_4j 8 7 [0,1,7] [] (fun y:Unit=>[]) (fun y=>[]) []:=⟨⟩
instance Wq_2b {s_:List Str} {v_:Str}:WJ (F_2b s_ v_) 39 [.sl (s_.map V.str),.str v_] (.int .i64):=wX Tryz.func39 [] [(2,mc_4j)] (h:=fun _ _ h hQ M=>by unfold F_2b at h;exact tX)
def F_57 (s_:List Str) (v_:Str):Option Bool := (F_2b s_ v_).bind fun y2=>some (decide (0≤y2))
instance Wq_57 {s_:List Str} {v_:Str}:WJ (F_57 s_ v_) 72 [.sl (s_.map V.str),.str v_] .bool:=wX Tryz.func72 (h:=fun _ _ h hQ M=>by unfold F_57 at h;exact tX)
def F_4k (s_:Str) (p_:List Str):Option Bool := jn (α:=Bool) (bif (!decide (s_=[])) then (F_57 p_ s_).bind fun y4=>some (!y4) else some false) fun j5=>some j5
instance {m:List MOp}:GI (gjt 710103 m) [3] [1000] (fun y:Bool=>[(11,.bool y)]) (fun y=>[]):=⟨⟩
instance Wq_4k {s_:Str} {p_:List Str}:WI (F_4k s_ p_) Tryz.prog 71 [.str s_,.ptr 1000 0] [(1000,.cells [.sl (p_.map V.str)])] (fun z=>.bool z) (fun z=>[(1000,.cells [.sl (p_.map V.str)])]):=wX Tryz.func71 [(1,⟨[],[],[.w 3 7 710103]⟩)] [] [] [1000] (h:=fun _ _ h hQ M=>by unfold F_4k at h;exact tX)
def F_58 (c_:GCommand) (pc0_:List Str):Option Bool := (F_4k c_.Name pc0_).bind fun y4=>jn (α:=Bool) (bif y4 then some true else (F_4k c_.Other pc0_).bind fun y6=>some y6) fun j7=>some j7
instance {m:List MOp}:GI (gjt 750105 m) [3] [1000,1001] (fun y:Bool=>[(13,.bool y)]) (fun y=>[]):=⟨⟩
instance Wq_58 {c_:GCommand} {pc0_:List Str}:WI (F_58 c_ pc0_) Tryz.prog 75 [GCommand.v c_,.ptr 1000 0] [(1000,.cells [.fn (.func 71) [.ptr 1001 0]]),(1001,.cells [.sl (pc0_.map V.str)])] (fun z=>.bool z) (fun z=>[(1000,.cells [.fn (.func 71) [.ptr 1001 0]]),(1001,.cells [.sl (pc0_.map V.str)])]):=wX Tryz.func75 [(1,⟨[],[.c 3 0 [1001] [],.c 8 0 [1001] []],[.w 5 9 750105]⟩)] [] [] [1000,1001] (h:=fun _ _ h hQ M=>by have:SwA [(1000,1001)]:=⟨⟩;unfold F_58 at h;exact tX)
def F_4l (fc0c0_:List Str) (k31:Int) (a32:GCommand) (x30:Unit):Option (Fl Unit Int) := (F_58 a32 fc0c0_).bind fun y40=>bif y40 then some (.ex k31) else some (.nx ())
def F_33 (s_:List GCommand) (fc0c0_:List Str):Option Int := (forL (F_4l fc0c0_) s_ 0 ()).bind fun o=>o.elim (fun x41=>some (-1)) (fun r42=>some r42)
def a_33:List (Nat×RN):=[(4,⟨[],[.c 5 0 [1000,1001] []],[]⟩)]
@[irreducible] def mc_4l:MC:=rdc (cK Tryz.prog Tryz.f118 a_33 [] 2)
attribute [go_sem] F_4l
instance:LI mc_4l 8 7 [0,1,7] [1000,1001] (fun y:Unit=>[]) (fun y=>[]) []:=⟨⟩
instance Wq_33 {s_:List GCommand} {fc0c0_:List Str}:WI (F_33 s_ fc0c0_) Tryz.prog 118 [.sl (s_.map GCommand.v),.fn (.func 75) [.ptr 1000 0]] [(1000,.cells [.fn (.func 71) [.ptr 1001 0]]),(1001,.cells [.sl (fc0c0_.map V.str)])] (fun z=>.int .i64 z) (fun z=>[(1000,.cells [.fn (.func 71) [.ptr 1001 0]]),(1001,.cells [.sl (fc0c0_.map V.str)])]):=wX Tryz.func118 a_33 [(2,mc_4l)] [] [1000,1001] (h:=fun _ _ h hQ M=>by unfold F_33 at h;exact tX)
def F_3t (s_:List GCommand) (fc0c0_:List Str):Option Bool := (F_33 s_ fc0c0_).bind fun y2=>some (decide (0≤y2))
instance Wq_3t {s_:List GCommand} {fc0c0_:List Str}:WI (F_3t s_ fc0c0_) Tryz.prog 74 [.sl (s_.map GCommand.v),.fn (.func 75) [.ptr 1000 0]] [(1000,.cells [.fn (.func 71) [.ptr 1001 0]]),(1001,.cells [.sl (fc0c0_.map V.str)])] (fun z=>.bool z) (fun z=>[(1000,.cells [.fn (.func 71) [.ptr 1001 0]]),(1001,.cells [.sl (fc0c0_.map V.str)])]):=wX Tryz.func74 [(1,⟨[],[.c 2 0 [1000,1001] []],[]⟩)] [] [] [1000,1001] (h:=fun _ _ h hQ M=>by unfold F_3t at h;exact tX)
noncomputable def F_34 (s_:List GCommand):Option (List GCommand) := amb s_.isEmpty (some []) (chk (room (([]:List GCommand).length+s_.length) 64) (some (([]:List GCommand)++s_)))
instance Wq_34 {s_:List GCommand}:WI (F_34 s_) Tryz.prog 76 [.sl (s_.map GCommand.v)] [] (fun z=>.osl 1900 6 0 z.length) (fun z=>[(1900,.arr 6 (z.map GCommand.v))]):=wX Tryz.func76 [(0,⟨[],[.k 0 1],[]⟩),(2,⟨[],[.k 0 1],[]⟩)] [] [.acc 2 1900 6] [1900] (h:=fun _ _ h hQ M=>by unfold F_34 at h;exact tX)
def F_4m (x_:GCommand) (y_:GCommand):Option Int := chk (in64 (x_.Time - y_.Time)) (some (x_.Time - y_.Time))
instance Wq_4m {x_ y_:GCommand}:WJ (F_4m x_ y_) 78 [GCommand.v x_,GCommand.v y_] (.int .i64):=wX Tryz.func78 (h:=fun _ _ h hQ M=>by unfold F_4m at h;exact tX)
noncomputable def F_12 (a_:Int) (x126:Int×(List GCommand)):Option (Fl (Int×(List GCommand)) (List GCommand)) := bif decide (a_<x126.1) then chk (inb x126.1 x126.2.length) (chk (in64 (x126.1 - 1)) (chk (inb (x126.1 - 1) x126.2.length) ((F_4m (x126.2.getD ((x126.1).toNat) default) (x126.2.getD (((x126.1 - 1)).toNat) default)).bind fun y134=>bif decide (y134<0) then chk (in64 (x126.1 - 1)) (chk (in64 (x126.1 - 1)) (chk (inb (x126.1 - 1) x126.2.length) (chk (inb x126.1 x126.2.length) (chk (inb x126.1 x126.2.length) (chk (inb (x126.1 - 1) (x126.2.set ((x126.1).toNat) (x126.2.getD (((x126.1 - 1)).toNat) default)).length) (chk (in64 (x126.1 - 1)) (some (.nx ((x126.1 - 1),(x126.2.set ((x126.1).toNat) (x126.2.getD (((x126.1 - 1)).toNat) default)).set (((x126.1 - 1)).toNat) (x126.2.getD ((x126.1).toNat) default)))))))))) else some (.ex x126.2)))) else some (.ex x126.2)
noncomputable def F_1q (a_:Int) (b_:Int) (x67:Int×(List GCommand)):Option (Fl (Int×(List GCommand)) (List GCommand)) := bif decide (x67.1<b_) then (loop (F_12 a_) (x67.1,x67.2)).bind fun r135=>chk (in64 (x67.1+1)) (some (.nx ((x67.1+1),r135))) else some (.ex x67.2)
noncomputable def F_7 (data_:List GCommand) (a_:Int) (b_:Int):Option (List GCommand) := chk (in64 (a_+1)) ((loop (F_1q a_ b_) ((a_+1),data_)).bind fun r136=>some r136)
def a_7:List (Nat×RN):=[(5,⟨[.gc [0,1,2,3,8,9,22,23,24,25,26,27,28,29,30,31,32,33]],[],[]⟩)]
@[irreducible] def mc_12:MC:=rdc (cK Tryz.prog Tryz.f158 a_7 [] 4)
@[irreducible] def mc_1q:MC:=rdc (cK Tryz.prog Tryz.f158 a_7 [(4,mc_12)] 1)
attribute [go_sem] F_12 F_1q
instance:LI mc_12 0 0 [1,2,3,8] [] (fun y:Int×(List GCommand)=>[(0,.osl 1000 6 0 y.2.length),(9,.int .i64 y.1)]) (fun y=>[.o 1000 (.arr 6 (y.2.map GCommand.v))]) []:=⟨⟩
instance:LI mc_1q 0 0 [1,2,3] [] (fun y:Int×(List GCommand)=>[(0,.osl 1000 6 0 y.2.length),(8,.int .i64 y.1)]) (fun y=>[.o 1000 (.arr 6 (y.2.map GCommand.v))]) []:=⟨⟩
instance Wq_7 {data_:List GCommand} {a_ b_:Int}:WI (F_7 data_ a_ b_) Tryz.prog 158 [.osl 1000 6 0 data_.length,.int .i64 a_,.int .i64 b_,.fn (.func 78) []] [(1000,.arr 6 (data_.map GCommand.v))] (fun z=>.tup []) (fun z=>[(1000,.arr 6 (z.map GCommand.v))]):=wX Tryz.func158 a_7 [(4,mc_12),(1,mc_1q)] [] [1000] (h:=fun _ _ h hQ M=>by unfold F_7 at h;exact tX)
theorem F_61 {a_:Int} {s:Int×(List GCommand)} {o:Fl (Int×(List GCommand)) (List GCommand)} (h:F_12 a_ s=some o):o.elim (fun s'=>s'.2.length=s.2.length) (fun q=>q.length=s.2.length):=by
 refine (?_:Al _ _) o h
 clear h
 unfold F_12
 repeat' (first|(with_reducible first|exact Al.none|apply Al.chk|apply Al.ite|apply Al.grp)|((with_reducible refine Al.some ?_);simp_all [Fl.elim];done)|((with_reducible first|refine Al.jn fun w h1=>?_|refine Al.bind fun w h1=>?_);(first|skip)))
theorem F_6o {a_:Int} {b_:Int} {s:Int×(List GCommand)} {o:Fl (Int×(List GCommand)) (List GCommand)} (h:F_1q a_ b_ s=some o):o.elim (fun s'=>s'.2.length=s.2.length) (fun q=>q.length=s.2.length):=by
 refine (?_:Al _ _) o h
 clear h
 unfold F_1q
 repeat' (first|(with_reducible first|exact Al.none|apply Al.chk|apply Al.ite|apply Al.grp)|((with_reducible refine Al.some ?_);simp_all [Fl.elim];done)|((with_reducible first|refine Al.jn fun w h1=>?_|refine Al.bind fun w h1=>?_);(first|(have e1:=loop_len (m:=fun s:Int×(List GCommand)=>s.2.length) (r:=fun q:(List GCommand)=>q.length) (fun _ _=>F_61) h1)|skip)))
theorem F_5m {data_:List GCommand} {a_:Int} {b_:Int} {y:List GCommand} (h:(F_7 data_ a_ b_)=some y):y.length=data_.length:=by
 refine (?_:Al _ (fun y=>y.length=data_.length)) y h
 clear h
 unfold F_7
 repeat' (first|(with_reducible first|exact Al.none|apply Al.chk|apply Al.ite|apply Al.grp)|((with_reducible refine Al.some ?_);simp_all [Fl.elim];done)|((with_reducible first|refine Al.jn fun w h1=>?_|refine Al.bind fun w h1=>?_);(first|(have e1:=loop_len (m:=fun s:Int×(List GCommand)=>s.2.length) (r:=fun q:(List GCommand)=>q.length) (fun _ _=>F_61) h1)|(have e1:=loop_len (m:=fun s:Int×(List GCommand)=>s.2.length) (r:=fun q:(List GCommand)=>q.length) (fun _ _=>F_6o) h1)|skip)))
noncomputable def F_i (n_:Int) (x17:Int×Int×(List GCommand)):Option (Fl (Int×Int×(List GCommand)) (Int×(List GCommand))) := bif decide (x17.2.1≤n_) then (F_7 x17.2.2 x17.1 x17.2.1).bind fun y21=>chk (in64 (x17.2.1+20)) (some (.nx (x17.2.1,(x17.2.1+20),y21))) else some (.ex (x17.1,x17.2.2))
noncomputable def F_2c (n_:Int) (x26:Unit):Option (Fl Unit Unit) := bif decide (20<n_) then none else some (.ex ())
noncomputable def F_2 (data_:List GCommand) (n_:Int):Option (List GCommand) := (loop (F_i n_) (0,20,data_)).bind fun r22=>(F_7 r22.2 r22.1 n_).bind fun y24=>(loop (F_2c n_) ()).bind fun r27=>some y24
def a_2:List (Nat×RN):=[(3,⟨[],[.c 4 0 [1000] []],[]⟩),(5,⟨[.gc [0,1,2,6,7,8]],[],[]⟩),(6,⟨[],[.c 4 0 [1000] []],[]⟩)]
@[irreducible] def mc_i:MC:=rdc (cK Tryz.prog Tryz.f119 a_2 [(20000008,.no)] 2)
@[irreducible] def mc_62:MC:=rdc (cK Tryz.prog Tryz.f119 a_2 [(20000008,.no),(2,mc_i)] 9)
@[irreducible] def mc_2c:MC:=rdc (cK Tryz.prog Tryz.f119 a_2 [(20000008,.no),(2,mc_i),(9,mc_62)] 7)
def mc_2:MC:=rdc (cT Tryz.prog Tryz.f119 a_2 [(20000008,.no),(2,mc_i),(9,mc_62),(7,mc_2c)])
instance Wq_2 {data_:List GCommand} {n_:Int}:WI (F_2 data_ n_) Tryz.prog 119 [.osl 1000 6 0 data_.length,.int .i64 n_,.fn (.func 78) []] [(1000,.arr 6 (data_.map GCommand.v))] (fun z=>.tup []) (fun z=>[(1000,.arr 6 (z.map GCommand.v))]):=⟨fun Q Q' h hQ=>by
 refine acallM mc_2 [] [1000] [] Tryz.func119 fun M=>?_
 unfold F_2 at h
 unfold mc_2
 replace h:=tY h
 refine tB ?_
 repeat' (first
 | (exact tZ)
 | (rw [zP (by omega)];exact hQ _ h)
 | ((first|refine oblg h ?_|refine roomG h ?_|refine inbG h ?_|refine incG h ?_|refine divG h ?_|refine appG h ?_|refine appC h ?_|refine fork h ?_ ?_|refine forkS h ?_ ?_)<;>clear h<;>intro hc h)
 | (obtain ⟨y,hy,h⟩:=h;(have hw:=WI.w hy;replace hw:=tY hw;have hlen:=F_5m hy);replace hw:=tY hw;(first|refine M.sC hw ?_|refine M.sD hw ?_);clear hw hy;refine tB ?_)
 | (refine M.wh1 (b:=mc_i) [1,2,6] [] (fun x=>[(0,.osl 1000 6 0 x.2.2.length),(7,.int .i64 x.1),(8,.int .i64 x.2.1)]) (fun x=>[.o 1000 (.arr 6 (x.2.2.map GCommand.v))]) [] h ?_ ?_<;>first
 | (clear h;intro x Qn K hK1 h;unfold F_i at h;unfold mc_i;replace h:=tY h;refine tB ?_)
  |(clear h;(try refine tB ?_);exact tU;done))
 | (refine M.wh1 (b:=mc_2c) [0,1,2,6] [1000] (fun x=>[]) (fun x=>[]) [] h ?_ ?_<;>first
 | (clear h;intro x Qn K hK2 h;unfold F_2c at h;unfold mc_2c;replace h:=tY h;refine tB ?_)
  |(clear h;(try refine tB ?_);exact tU;done))
 | ((first|refine hK1 _ ?_|refine hK2 _ ?_);(try refine tB ?_);refine ⟨_,h,?_⟩;exact tU;done)
 | (refine tE ?_;(first|rw [M.lok_compU]|rw [M.lokD_compU]);refine tB ?_)
 | (refine tA ?_)
 | fail)⟩
theorem F_6p {n_:Int} {s:Int×Int×(List GCommand)} {o:Fl (Int×Int×(List GCommand)) (Int×(List GCommand))} (h:F_i n_ s=some o):o.elim (fun s'=>s'.2.2.length=s.2.2.length) (fun q=>q.2.length=s.2.2.length):=by
 refine (?_:Al _ _) o h
 clear h
 unfold F_i
 repeat' (first|(with_reducible first|exact Al.none|apply Al.chk|apply Al.ite|apply Al.grp)|((with_reducible refine Al.some ?_);simp_all [Fl.elim];done)|((with_reducible first|refine Al.jn fun w h1=>?_|refine Al.bind fun w h1=>?_);(first|(have e1:=F_5m h1)|skip)))
theorem F_63 {data_:List GCommand} {n_:Int} {y:List GCommand} (h:(F_2 data_ n_)=some y):y.length=data_.length:=by
 refine (?_:Al _ (fun y=>y.length=data_.length)) y h
 clear h
 unfold F_2
 repeat' (first|(with_reducible first|exact Al.none|apply Al.chk|apply Al.ite|apply Al.grp)|((with_reducible refine Al.some ?_);simp_all [Fl.elim];done)|((with_reducible first|refine Al.jn fun w h1=>?_|refine Al.bind fun w h1=>?_);(first|(have e1:=loop_len (m:=fun s:Int×Int×(List GCommand)=>s.2.2.length) (r:=fun q:(Int×(List GCommand))=>q.2.length) (fun _ _=>F_6p) h1)|(have e1:=F_5m h1)|skip)))
noncomputable def F_j (x_:List GCommand):Option (List GCommand) := (F_2 x_ (x_.length:Int)).bind fun y1=>some y1
def mc_j:MC:=rdc (cT Tryz.prog Tryz.f77 [(0,⟨[],[.c 4 0 [1000] []],[]⟩)] [])
instance Wq_j {x_:List GCommand}:WI (F_j x_) Tryz.prog 77 [.osl 1000 6 0 x_.length,.fn (.func 78) []] [(1000,.arr 6 (x_.map GCommand.v))] (fun z=>.tup []) (fun z=>[(1000,.arr 6 (z.map GCommand.v))]):=⟨fun Q Q' h hQ=>by
 refine acallM mc_j [] [1000] [] Tryz.func77 fun M=>?_
 unfold F_j at h
 unfold mc_j
 replace h:=tY h
 refine tB ?_
 repeat' (first
 | (exact tZ)
 | (rw [zP (by omega)];exact hQ _ h)
 | ((first|refine oblg h ?_|refine roomG h ?_|refine inbG h ?_|refine incG h ?_|refine divG h ?_|refine appG h ?_|refine appC h ?_|refine fork h ?_ ?_|refine forkS h ?_ ?_)<;>clear h<;>intro hc h)
 | (obtain ⟨y,hy,h⟩:=h;(have hw:=WI.w hy;replace hw:=tY hw;have hlen:=F_63 hy);replace hw:=tY hw;(first|refine M.sC hw ?_|refine M.sD hw ?_);clear hw hy;refine tB ?_)
 | (refine tE ?_;(first|rw [M.lok_compU]|rw [M.lokD_compU]);refine tB ?_)
 | (refine tA ?_)
 | fail)⟩
theorem F_6q {x_:List GCommand} {y:List GCommand} (h:(F_j x_)=some y):y.length=x_.length:=by
 refine (?_:Al _ (fun y=>y.length=x_.length)) y h
 clear h
 unfold F_j
 repeat' (first|(with_reducible first|exact Al.none|apply Al.chk|apply Al.ite|apply Al.grp)|((with_reducible refine Al.some ?_);simp_all [Fl.elim];done)|((with_reducible first|refine Al.jn fun w h1=>?_|refine Al.bind fun w h1=>?_);(first|(have e1:=F_63 h1)|skip)))
def F_13 (c_:GCommand) (names_:List Str) (d_:GDirectory) (a_:GEstate):Option (GDirectory×GEstate) := (F_2b names_ c_.Name).bind fun y2=>jn (α:=Bool) (bif decide (c_.Kind=3) then some true else some (decide (c_.Kind=4))) fun j3=>bif j3 then chk (in64 (1+c_.Kind)) (chk (in64 ((1+c_.Kind) - 3)) ((F_2b names_ c_.Other).bind fun y4=>chk (room (d_.Events.length+[(GMember.mk c_.Time ((1+c_.Kind) - 3) y2 y4)].length) 32) (some ((GDirectory.mk d_.Kinds (d_.Events++[(GMember.mk c_.Time ((1+c_.Kind) - 3) y2 y4)])),(GEstate.mk a_.Places a_.Events))))) else jn (α:=Bool) (bif decide (c_.Kind=5) then some true else some (decide (c_.Kind=6))) fun j5=>bif j5 then chk (in64 (1+c_.Kind)) (chk (in64 ((1+c_.Kind) - 5)) (chk (room (a_.Events.length+[(GAccess.mk c_.Time ((1+c_.Kind) - 5) c_.A y2 0 0 0)].length) 56) (some ((GDirectory.mk d_.Kinds d_.Events),(GEstate.mk a_.Places (a_.Events++[(GAccess.mk c_.Time ((1+c_.Kind) - 5) c_.A y2 0 0 0)])))))) else bif decide (c_.Kind=7) then chk (room (a_.Events.length+[(GAccess.mk c_.Time 3 c_.A 0 c_.B 0 0)].length) 56) (some ((GDirectory.mk d_.Kinds d_.Events),(GEstate.mk a_.Places (a_.Events++[(GAccess.mk c_.Time 3 c_.A 0 c_.B 0 0)])))) else bif decide (c_.Kind=8) then chk (room (a_.Events.length+[(GAccess.mk c_.Time 5 c_.B 0 0 c_.A 0)].length) 56) (some ((GDirectory.mk d_.Kinds d_.Events),(GEstate.mk a_.Places (a_.Events++[(GAccess.mk c_.Time 5 c_.B 0 0 c_.A 0)])))) else bif decide (c_.Kind=9) then chk (room (a_.Events.length+[(GAccess.mk c_.Time 7 c_.B 0 0 0 c_.A)].length) 56) (some ((GDirectory.mk d_.Kinds d_.Events),(GEstate.mk a_.Places (a_.Events++[(GAccess.mk c_.Time 7 c_.B 0 0 0 c_.A)])))) else some ((GDirectory.mk d_.Kinds d_.Events),(GEstate.mk a_.Places a_.Events))
def a_13:List (Nat×RN):=[(14,⟨[.gc [3,4]],[],[]⟩)]
@[irreducible] def mc_5n:MC:=rdc (cK Tryz.prog Tryz.f79 a_13 [] 10000008)
@[irreducible] def mc_64:MC:=rdc (cK Tryz.prog Tryz.f79 a_13 [(10000008,mc_5n)] 10000005)
instance:LI mc_5n 0 0 [3,4,8,14] [4,1002,1003,1000,1001] (fun y:Bool=>[(39,.bool y)]) (fun y=>[]) []:=⟨⟩
instance:LI mc_64 0 0 [1,2,3,4,8,14] [4,1002,1003,1000,1001] (fun y:Bool=>[(15,.bool y)]) (fun y=>[]) []:=⟨⟩
instance Wq_13 {c_:GCommand} {names_:List Str} {d_:GDirectory} {a_:GEstate}:WI (F_13 c_ names_ d_ a_) Tryz.prog 79 [GCommand.v c_,.sl (names_.map V.str),.ptr 1000 0,.ptr 1002 0] [(1000,.cells [.sl (d_.Kinds.map (V.int .i64)),.osl 1001 4 0 d_.Events.length]),(1001,.arr 4 (d_.Events.map GMember.v)),(1002,.cells [.int .i64 a_.Places,.osl 1003 7 0 a_.Events.length]),(1003,.arr 7 (a_.Events.map GAccess.v))] (fun z=>.tup []) (fun z=>[(1000,.cells [.sl (z.1.Kinds.map (V.int .i64)),.osl 1701 4 0 z.1.Events.length]),(1701,.arr 4 (z.1.Events.map GMember.v)),(1002,.cells [.int .i64 z.2.Places,.osl 1733 7 0 z.2.Events.length]),(1733,.arr 7 (z.2.Events.map GAccess.v))]):=wX Tryz.func79 a_13 [(10000008,mc_5n),(10000005,mc_64)] [.ownC 1000 1 1701 4 none,.ownC 1002 1 1733 7 none] [1000,1701,1002,1733] (h:=fun _ _ h hQ M=>by unfold F_13 at h;exact tX)
noncomputable def F_1r (y10:(List Int)×(List Str)) (k68:Int) (a69:GCommand) (x67:Int×(List GAccess)×(List Int)×(List GMember)):Option (Int×(List GAccess)×(List Int)×(List GMember)) := (F_13 a69 y10.2 (GDirectory.mk x67.2.2.1 x67.2.2.2) (GEstate.mk x67.1 x67.2.1)).bind fun y73=>some (y73.2.Places,y73.2.Events,y73.1.Kinds,y73.1.Events)
noncomputable def F_k (l_:List GCommand):Option (GDirectory×GEstate×(List Str)×Int) := (F_4g l_).bind fun y6=>bif (!decide (y6=0)) then (F_4 y6).bind fun y8=>some (y8.1,y8.2.1,y8.2.2.1,y8.2.2.2) else (F_2a l_).bind fun y10=>(valsF y10.2).bind fun y13=>(F_1p y10.2).bind fun y14=>(compactS y14).bind fun y26=>bif decide ((y26.1:Int)<(y10.2.length:Int)) then (F_4 7).bind fun y28=>some (y28.1,y28.2.1,y28.2.2.1,y28.2.2.2) else (F_3t l_ y10.2).bind fun y30=>bif y30 then (F_4 6).bind fun y32=>some (y32.1,y32.2.1,y32.2.2.1,y32.2.2.2) else bif decide (24<(y10.2.length:Int)) then (F_4 3).bind fun y34=>some (y34.1,y34.2.1,y34.2.2.1,y34.2.2.2) else (F_34 l_).bind fun y36=>(F_j y36).bind fun y38=>(foldL (F_1r y10) y38 0 (16,[],y10.1,[])).bind fun x74=>(F_5 (GDirectory.mk x74.2.2.1 x74.2.2.2)).bind fun y80=>bif (!decide (y80=0)) then (F_4 y80).bind fun y82=>some (y82.1,y82.2.1,y82.2.2.1,y82.2.2.2) else (F_a (GEstate.mk x74.1 x74.2.1)).bind fun y88=>bif (!decide (y88=0)) then (F_4 y88).bind fun y90=>some (y90.1,y90.2.1,y90.2.2.1,y90.2.2.2) else some ((GDirectory.mk x74.2.2.1 x74.2.2.2),(GEstate.mk x74.1 x74.2.1),y10.2,0)
def a_k:List (Nat×RN):=[(1,⟨[],[.k 0 1,.k 1 1],[]⟩),(5,⟨[.gc [2,3,8,9]],[],[]⟩),(6,⟨[.gc [0,2,3,6,7,8]],[],[]⟩),(7,⟨[],[.c 2 0 [] [39]],[]⟩),(8,⟨[.gc [0,2,3,6,7,8,10,11,12]],[],[]⟩),(9,⟨[],[.c 1 0 [39] []],[]⟩),(10,⟨[.gc [2,3,8]],[],[]⟩),(11,⟨[.gc [0,2,3,6,7,8,10,11,13]],[.c 2 0 [13,11] []],[]⟩),(12,⟨[.gc [2,3,8]],[],[]⟩),(14,⟨[.gc [2,3,8]],[],[]⟩),(15,⟨[.gc [0,2,3,6,7,8,10,11]],[],[]⟩),(16,⟨[],[.c 1 0 [] [77]],[]⟩),(17,⟨[],[.c 1 0 [77] []],[]⟩),(18,⟨[.gc [2,3,6,7,8,11,14]],[],[]⟩),(21,⟨[],[.c 2 0 [6,7193,7,7225] [13633,13649]],[.n 2 (.ownC 6 1 7193 4 none),.n 2 (.ownC 7 1 7225 7 none)]⟩),(23,⟨[],[],[.n 1 (.fz 90)]⟩),(25,⟨[.gc [2,3,8,17]],[],[]⟩),(26,⟨[.gc [2,3,6,7,8,11]],[],[.n 1 (.fz 101)]⟩)]
@[irreducible] def mc_1r:MC:=rdc (cK Tryz.prog Tryz.f35 a_k [] 19)
def mc_k:MC:=rdc (cT Tryz.prog Tryz.f35 a_k [(19,mc_1r)])
instance Wq_k {l_:List GCommand}:WI (F_k l_) Tryz.prog 35 [.sl (l_.map GCommand.v)] [] (fun z=>.tup [GDirectory.v z.1,GEstate.v z.2.1,.sl (z.2.2.1.map V.str),.int .i64 z.2.2.2]) (fun z=>[]):=⟨fun Q Q' h hQ=>by
 refine acallM mc_k [.fzc 2,.fzc 3,.fz 4] [] [.c 2 (some 2),.c 3 (some 2),.t 4,.t 5] Tryz.func35 fun M=>?_
 unfold F_k at h
 unfold mc_k
 replace h:=tY h
 refine tB ?_
 repeat' (first
 | (exact tZ)
 | (refine And.intro (by refine ⟨?_,?_,?_,?_⟩<;>omega) ?_;first|exact hQ _ h|(rw [zP (by omega)];exact hQ _ h))
 | (rw [←hlen];exact hQ _ h)
 | (have hq:=hQ _ h;simp only [xW,Nat.min_eq_left hlen.1] at hq;exact hq)
 | ((first|refine oblg h ?_|refine roomG h ?_|refine inbG h ?_|refine incG h ?_|refine divG h ?_|refine appG h ?_|refine appC h ?_|refine fork h ?_ ?_|refine forkS h ?_ ?_)<;>clear h<;>intro hc h)
 | (obtain ⟨y,hy,h⟩:=h;(first|have hw:=acall_swe 1900 39 (Wq_1p.c.w hy)|(have hw:=acall_swe 1000 39 (W_6c hy);replace hw:=tY hw;(try simp only [hlen] at hw);have hlen:=compactS_len hy)|have hw:=acall_swe 1001 11 (acall_swe 1000 13 (Wq_3t.c.w hy))|have hw:=acall_swe 1900 77 (Wq_34.c.w hy)|(have hw:=acall_swe 1000 77 (Wq_j.c.w hy);replace hw:=tY hw;have hlen:=F_6q hy)|have hw:=acall_swe 1733 13649 (acall_swe 1701 13633 (acall_swe 1003 7225 (acall_swe 1002 7 (acall_swe 1001 7193 (acall_swe 1000 6 (Wq_13.c.w hy))))))|have hw:=WI.w hy|have hw:=W_6g hy);replace hw:=tY hw;(first|refine M.sC hw ?_|refine M.sD hw ?_);clear hw hy;refine tB ?_)
 | (refine M.fold1 (b:=mc_1r) 82 [2,3,6,7,8,11,80,81] [77,11,3,2] (fun x=>[]) (fun x=>[.o 7 (.cells [.int .i64 x.1,.osl 4113 7 0 x.2.1.length]),.o 4113 (.arr 7 (x.2.1.map GAccess.v)),.o 6 (.cells [.sl (x.2.2.1.map (V.int .i64)),.osl 4097 4 0 x.2.2.2.length]),.o 4097 (.arr 4 (x.2.2.2.map GMember.v))]) [.gc [2,3,6,7,8,11,80,81,82],.ownC 7 1 4113 7 none,.ownC 6 1 4097 4 none] h ?_ ?_ ?_<;>first
 | (clear h;intro k a x Qn K hK1 hkN1 ha1 h hf;have hl:=fact_int (factsE_find (n:=81) hf.1 rfl);clear hf;have hkd:=kD hkN1;have hkB1:=kB hkN1;have hkI1:=kI (k:=k) (by omega);(try simp only [hlen] at hkd hkB1 hkN1);unfold F_1r at h;unfold mc_1r;replace h:=tY h;refine tK ha1 hkd hkN1 hkB1 hkI1 ?_)
  |(clear h;intro x K h;replace h:=And.left (And.intro h trivial);(try simp only [hlen]);unfold mc_1r;replace h:=tY h;refine tB ?_)
  |(clear h;(try refine tB ?_);exact tU;done))
 | (simp only [ha1])
 | (refine hK1 _ ?_;(try refine tB ?_);refine ⟨_,h,?_⟩;exact tU;done)
 | (refine tE ?_;(first|rw [M.lok_compU]|rw [M.lokD_compU]);refine tB ?_)
 | (refine tA ?_)
 | fail)⟩
noncomputable def F_2d (names_:List Str) (k19:Int) (a20:Int) (x18:Str):Option Str := chk (inb a20 names_.length) (chk (strl ([32].length+(names_.getD (a20).toNat default).length)) (chk (strl (x18.length+(([32]:Str)++(names_.getD (a20).toNat default)).length)) (some (x18++(([32]:Str)++(names_.getD (a20).toNat default))))))
noncomputable def F_3u (c_:GCommand) (d_:GDirectory) (a_:GEstate) (names_:List Str):Option Str := (F_1e d_ a_ c_.A c_.Time).bind fun y2=>jn (α:=Str) (bif y2.1.Public then some [112,117,98,108,105,99] else some [105,110,115,105,100,101]) fun j3=>(foldL (F_2d names_) y2.1.Principals 0 j3).bind fun x21=>some x21
@[irreducible] def mc_2d:MC:=rdc (cK Tryz.prog Tryz.f37 [] [] 6)
@[irreducible] def mc_65:MC:=rdc (cK Tryz.prog Tryz.f37 [] [(6,mc_2d)] 10000005)
attribute [go_sem] F_2d
instance:LI mc_2d 29 28 [3,27,28] [] (fun y:Str=>[(11,.str y)]) (fun y=>[]) []:=⟨⟩
instance:LI mc_65 0 0 [3,9] [9] (fun y:Str=>[(11,.str y)]) (fun y=>[]) []:=⟨⟩
instance Wq_3u {c_:GCommand} {d_:GDirectory} {a_:GEstate} {names_:List Str}:WJ (F_3u c_ d_ a_ names_) 37 [GCommand.v c_,GDirectory.v d_,GEstate.v a_,.sl (names_.map V.str)] .str:=wX Tryz.func37 [] [(6,mc_2d),(10000005,mc_65)] (h:=fun _ _ h hQ M=>by unfold F_3u at h;exact tX)
noncomputable def F_1s (y2:GDirectory×GEstate×(List Str)×Int) (k144:Int) (a145:GCommand) (x143:List UInt8):Option (List UInt8) := bif decide (a145.Kind=10) then (F_3u a145 y2.1 y2.2.1 y2.2.2.1).bind fun y173=>chk (strl (y173.length+[10].length)) ((bws x143 (y173++[10])).bind fun y174=>some y174) else bif decide (a145.Kind=11) then jn (α:=Str) ((F_2b y2.2.2.1 a145.Name).bind fun y183=>(F_3l y2.1 y2.2.1 a145.A y183).bind fun y184=>bif y184.2 then (itoaI y184.1).bind fun y185=>some y185 else some [110,101,118,101,114]) fun j180=>chk (strl (j180.length+[10].length)) ((bws x143 (j180++[10])).bind fun y186=>some y186) else some x143
noncomputable def F_8 (l_:List GCommand):Option (Str×Int) := (F_k l_).bind fun y2=>bif (!decide (y2.2.2.2=0)) then some ([],y2.2.2.2) else (foldL (F_1s y2) l_ 0 ([]:Str)).bind fun x187=>(bstr x187).bind fun y189=>some (y189,0)
def a_8:List (Nat×RN):=[(3,⟨[.gc [7]],[],[]⟩),(4,⟨[],[.k 0 8],[.n 1 (.bld 8),.n 1 (.ownC 8 1 5008 1 (some 5))]⟩),(5,⟨[.gc [0,4,5,6,8]],[],[]⟩),(10,⟨[],[.c 6 0 [8,4129] [10561]],[]⟩),(13,⟨[.gc [4,5,6,8,10,11,24,25,26]],[],[]⟩),(15,⟨[.gc [4,5,6,8,12,24,25,26]],[],[]⟩),(16,⟨[],[.c 2 0 [8,4129] [11841]],[]⟩),(18,⟨[],[.c 0 0 [8,4129] []],[]⟩)]
@[irreducible] def mc_59:MC:=rdc (cK Tryz.prog Tryz.f13 a_8 [] 10000016)
@[irreducible] def mc_1s:MC:=rdc (cK Tryz.prog Tryz.f13 a_8 [(10000016,mc_59)] 6)
def mc_8:MC:=rdc (cT Tryz.prog Tryz.f13 a_8 [(10000016,mc_59),(6,mc_1s)])
instance Wq_8 {l_:List GCommand}:WI (F_8 l_) Tryz.prog 13 [.sl (l_.map GCommand.v)] [] (fun z=>.tup [.str z.1,.int .i64 z.2]) (fun z=>[]):=⟨fun Q Q' h hQ=>by
 refine acallM mc_8 [] [] [.t 2,.t 3] Tryz.func13 fun M=>?_
 unfold F_8 at h
 unfold mc_8
 replace h:=tY h
 refine tB ?_
 repeat' (first
 | (exact tZ)
 | ((first|refine oblg h ?_|refine roomG h ?_|refine inbG h ?_|refine incG h ?_|refine divG h ?_|refine appG h ?_|refine appC h ?_|refine fork h ?_ ?_|refine forkS h ?_ ?_)<;>clear h<;>intro hc h)
 | (obtain ⟨y,hy,h⟩:=h;have hw:=acall_swe 1002 10561 (acall_swe 1001 5008 (acall_swe 1000 8 (W_4n hy)));replace hw:=tY hw;(first|refine M.sC hw ?_|refine M.sD hw ?_);clear hw hy;refine tB ?_)
 | (obtain ⟨y,hy,h⟩:=h;have hw:=acall_swe 1002 11841 (acall_swe 1001 5008 (acall_swe 1000 8 (W_4n hy)));replace hw:=tY hw;(first|refine M.sC hw ?_|refine M.sD hw ?_);clear hw hy;refine tB ?_)
 | (obtain ⟨y,hy,h⟩:=h;have hw:=acall_swe 1002 10561 (acall_swe 1001 4129 (acall_swe 1000 8 (W_4n hy)));replace hw:=tY hw;(first|refine M.sC hw ?_|refine M.sD hw ?_);clear hw hy;refine tB ?_)
 | (obtain ⟨y,hy,h⟩:=h;have hw:=acall_swe 1002 11841 (acall_swe 1001 4129 (acall_swe 1000 8 (W_4n hy)));replace hw:=tY hw;(first|refine M.sC hw ?_|refine M.sD hw ?_);clear hw hy;refine tB ?_)
 | (obtain ⟨y,hy,h⟩:=h;(first|have hw:=acall_swe 1001 4129 (acall_swe 1000 8 (W_6a hy))|have hw:=WI.w hy|have hw:=W_5o hy);replace hw:=tY hw;(first|refine M.sC hw ?_|refine M.sD hw ?_);clear hw hy;refine tB ?_)
 | (refine M.jn1 (b:=mc_59) [4,5,6,8,24,25,26] [8,4129,5,4] (fun y=>[(11,.str y)]) (fun y=>[]) [] h ?_ ?_<;>first
 | (clear h;intro Qn K hK1 h;replace h:=tY h;refine tB ?_)
  |(clear h;intro y h;unfold mc_59;replace h:=tY h;refine tB ?_))
 | (refine M.fold1 (b:=mc_1s) 26 [4,5,6,8,24,25] [8,5,4] (fun x=>[]) (fun x=>[.p 8 1 [.osl 4129 1 0 x.length],.o 4129 (.arr 1 (x.map byteV) (some 5))]) [.gc [4,5,6,8,24,25,26],.ownC 8 1 4129 1 none] h ?_ ?_ ?_<;>first
 | (clear h;intro k a x Qn K hK2 hkN2 ha2 h hf;have hl:=fact_int (factsE_find (n:=25) hf.1 rfl);clear hf;have hkd:=kD hkN2;have hkB2:=kB hkN2;have hkI2:=kI (k:=k) (by omega);unfold F_1s at h;unfold mc_1s;replace h:=tY h;refine tK ha2 hkd hkN2 hkB2 hkI2 ?_)
  |(clear h;intro x K h;replace h:=And.left (And.intro h trivial);unfold mc_1s;replace h:=tY h;refine tB ?_)
  |(clear h;(try refine tB ?_);exact tU0;done))
 | (simp only [ha2])
 | ((first|refine hK1 _ ?_|refine hK2 _ ?_);(try refine tB ?_);refine ⟨_,h,?_⟩;exact tU0;done)
 | (refine tE ?_;(first|rw [M.lok_compU]|rw [M.lokD_compU]);refine tB ?_)
 | (refine tA ?_)
 | fail)⟩
end Go.Ab
set_option maxRecDepth 20000
set_option maxHeartbeats 2000000
namespace Go.Ab
open Go.Proofs
noncomputable def F_2e:Option Bool := (F_m [112,101,114,115,111,110,32,97,110,110,10,97,108,108,111,119,32,51,32,97,110,110,32,48,10,112,117,116,32,53,32,55,32,48,10,115,105,110,99,101,32,55,32,97,110,110,10]).bind fun y2=>(F_8 y2.1).bind fun y4=>grp ((decide (y2.2.2=0)&&decide (y4.2=0))) fun b7=>grp ((b7&&decide (y4.1=[53,10]))) fun b8=>some b8
instance Wq_2e:WJ F_2e 4 [] .bool:=wX Tryz.func4 [(3,⟨[.gc [3,4,5,19,20,23,24]],[],[.v 3 5,.v 7 9]⟩)] (h:=fun _ _ h hQ M=>by unfold F_2e at h;exact tX)
end Go.Ab
set_option maxRecDepth 20000
set_option maxHeartbeats 2000000
namespace Go.Ab
open Go.Proofs
noncomputable def F_l (y6:GCalendar×GTape) (y16:(List GNotice)×Int) (y22:List Int) (k53:Int) (a54:GNotice) (x52:Unit):Option (Fl Unit Bool) := bif decide ((y22.length:Int)=0) then some (.ex false) else chk (in64 ((y22.length:Int) - 1)) (chk (inb (min k53 ((y22.length:Int) - 1)) y22.length) (bif (!decide (a54.To=(y22.getD ((min k53 ((y22.length:Int) - 1))).toNat default))) then some (.ex false) else bif decide (0<k53) then chk (in64 (k53 - 1)) (chk (inb (k53 - 1) y16.1.length) ((F_3s y6.1 ((y16.1.getD ((k53 - 1)).toNat default).Time) a54.Time).bind fun y62=>bif (!y62) then some (.ex false) else some (.nx ()))) else some (.nx ())))
noncomputable def F_1t (l_:List Int):Option Bool := bif decide (500<(l_.length:Int)) then F_2e.bind fun y4=>some y4 else (F_3f (GTape.mk l_ 0)).bind fun y6=>(F_9 y6.2).bind fun y8=>(F_19 y8.2 y8.1).bind fun y10=>(F_0 y10.2 (y8.1.Kinds.length:Int)).bind fun y13=>(F_0 y13.2 5).bind fun y14=>chk (in64 (40+y14.1)) ((F_h y6.1 y8.1 y10.1 [(GCase.mk (40+y14.1) 1 0 3 y13.1)] 30000).bind fun y16=>grp (((!decide (y16.2=0))||(!decide ((y16.1.length:Int)=4)))) fun b20=>bif b20 then some false else (F_1 y8.1 y10.1 y13.1 (40+y14.1)).bind fun y22=>(forL (F_l y6 y16 y22) y16.1 0 ()).bind fun o=>o.elim (fun x63=>F_2e.bind fun y66=>some y66) (fun r64=>some r64))
def a_1t:List (Nat×RN):=[(4,⟨[.gc [3,50,51,52,70,71,72,73,74,75,76,77,78,79,80,83,84,85,86,87,88,89,90,91,92,93,94,95,96,97]],[.c 1 0 [20] []],[]⟩),(5,⟨[],[.c 1 0 [20] []],[]⟩),(6,⟨[],[.c 2 0 [20] []],[]⟩),(7,⟨[],[.c 4 0 [20] [],.c 6 0 [20] []],[]⟩),(8,⟨[.gc [4,5,6,7,8,50,51,52,70,71,72,73,74,75,76,77,78,79,80,83,84,85,86,87,88,89,90,91,92,93,94,95,96,97]],[.k 6 2],[]⟩),(9,⟨[.gc [4,5,6,7,8,9,10,50,51,52,70,71,72,73,74,75,76,77,78,79,80,83,84,85,86,87,88,89,90,91,92,93,94,95,96,97]],[],[.v 3 6]⟩),(12,⟨[.gc [4,9,11,70,71,72,73,74,75,76,77,78,79,80,83,84,85,86,87,88,89,90,91,92,93,94,95,96,97]],[],[]⟩)]
@[irreducible] def mc_l:MC:=rdc (cK Tryz.prog Tryz.f3 a_1t [] 13)
attribute [go_sem] F_l
instance:LI mc_l 61 60 [4,9,11,59,60] [4] (fun y:Unit=>[]) (fun y=>[]) []:=⟨⟩
instance Wq_1t {l_:List Int}:WJ (F_1t l_) 3 [.sl (l_.map (V.int .i64))] .bool:=wX Tryz.func3 a_1t [(13,mc_l)] (h:=fun _ _ h hQ M=>by have:SwA [(1000,20)]:=⟨⟩;unfold F_1t at h;exact tX)
end Go.Ab

set_option maxRecDepth 20000
set_option maxHeartbeats 2000000
namespace Go.Ab
open Go.Proofs
def C_slices_Clone_api_Command_api_Command (s_:List GCommand):Option (List GCommand) :=
 ambC s_.isEmpty (some []) (chk (room (([]:List GCommand).length+s_.length) 64) (some (([]:List GCommand)++s_)))
theorem C_slices_Clone_api_Command_api_Command_le {s_:List GCommand}:Le (C_slices_Clone_api_Command_api_Command s_) (F_34 s_):=by
 unfold C_slices_Clone_api_Command_api_Command F_34
 (repeat' (with_reducible first|exact Le.refl|assumption|(refine Le.bind ?_ fun _=>?_)|(refine Le.jn ?_ fun _=>?_)|(refine Le.grp fun _=>?_)|(refine Le.chk ?_)|(refine Le.cond ?_ ?_)|(refine Le.fl (fun _=>?_) fun _=>?_)|(refine Le.sum (fun _=>?_) fun _=>?_)|(refine Le.forL (fun _ _ _=>?_) _ _ _)|(refine Le.foldL (fun _ _ _=>?_) _ _ _)|(refine Le.loop fun _=>?_)|(refine Le.perm fun _=>?_)|(refine Le.amb ?_)|exact Le.sort))
def C_slices_insertionSortCmpFunc_api_Command_of_console_Make_4_L1 (a_:Int) (x126:Int×(List GCommand)):Option (Fl (Int×(List GCommand)) (List GCommand)) :=
 bif decide (a_<x126.1) then chk (inb x126.1 x126.2.length) (chk (in64 (x126.1 - 1)) (chk (inb (x126.1 - 1) x126.2.length) ((F_4m (x126.2.getD ((x126.1).toNat) default) (x126.2.getD (((x126.1 - 1)).toNat) default)).bind fun y134=>bif decide (y134<0) then chk (in64 (x126.1 - 1)) (chk (in64 (x126.1 - 1)) (chk (inb (x126.1 - 1) x126.2.length) (chk (inb x126.1 x126.2.length) (chk (inb x126.1 x126.2.length) (chk (inb (x126.1 - 1) (x126.2.set ((x126.1).toNat) (x126.2.getD (((x126.1 - 1)).toNat) default)).length) (chk (in64 (x126.1 - 1)) (some (.nx ((x126.1 - 1),(x126.2.set ((x126.1).toNat) (x126.2.getD (((x126.1 - 1)).toNat) default)).set (((x126.1 - 1)).toNat) (x126.2.getD ((x126.1).toNat) default)))))))))) else some (.ex x126.2)))) else some (.ex x126.2)
theorem C_slices_insertionSortCmpFunc_api_Command_of_console_Make_4_L1_le  (a_:Int) (x126:Int×(List GCommand)):Le (C_slices_insertionSortCmpFunc_api_Command_of_console_Make_4_L1 a_ x126) (F_12 a_ x126):=by
 unfold C_slices_insertionSortCmpFunc_api_Command_of_console_Make_4_L1 F_12
 (repeat' (with_reducible first|exact Le.refl|assumption|(refine Le.bind ?_ fun _=>?_)|(refine Le.jn ?_ fun _=>?_)|(refine Le.grp fun _=>?_)|(refine Le.chk ?_)|(refine Le.cond ?_ ?_)|(refine Le.fl (fun _=>?_) fun _=>?_)|(refine Le.sum (fun _=>?_) fun _=>?_)|(refine Le.forL (fun _ _ _=>?_) _ _ _)|(refine Le.foldL (fun _ _ _=>?_) _ _ _)|(refine Le.loop fun _=>?_)|(refine Le.perm fun _=>?_)|(refine Le.amb ?_)|exact Le.sort))
def C_slices_insertionSortCmpFunc_api_Command_of_console_Make_4_L2 (a_:Int) (b_:Int) (x67:Int×(List GCommand)):Option (Fl (Int×(List GCommand)) (List GCommand)) :=
 bif decide (x67.1<b_) then (iter (C_slices_insertionSortCmpFunc_api_Command_of_console_Make_4_L1 a_) 100000 (x67.1,x67.2)).bind fun r135=>chk (in64 (x67.1+1)) (some (.nx ((x67.1+1),r135))) else some (.ex x67.2)
theorem C_slices_insertionSortCmpFunc_api_Command_of_console_Make_4_L2_le  (a_:Int) (b_:Int) (x67:Int×(List GCommand)):Le (C_slices_insertionSortCmpFunc_api_Command_of_console_Make_4_L2 a_ b_ x67) (F_1q a_ b_ x67):=by
 unfold C_slices_insertionSortCmpFunc_api_Command_of_console_Make_4_L2 F_1q
 (repeat' (with_reducible first|exact Le.refl|assumption|(refine Le.bind ?_ fun _=>?_)|(refine Le.jn ?_ fun _=>?_)|(refine Le.grp fun _=>?_)|(refine Le.chk ?_)|(refine Le.cond ?_ ?_)|(refine Le.fl (fun _=>?_) fun _=>?_)|(refine Le.sum (fun _=>?_) fun _=>?_)|(refine Le.forL (fun _ _ _=>?_) _ _ _)|(refine Le.foldL (fun _ _ _=>?_) _ _ _)|(refine Le.loop fun _=>?_)|(refine Le.perm fun _=>?_)|(refine Le.amb ?_)|exact Le.sort|apply C_slices_insertionSortCmpFunc_api_Command_of_console_Make_4_L1_le))
def C_slices_insertionSortCmpFunc_api_Command_of_console_Make_4 (data_:List GCommand) (a_:Int) (b_:Int):Option (List GCommand) :=
 chk (in64 (a_+1)) ((iter (C_slices_insertionSortCmpFunc_api_Command_of_console_Make_4_L2 a_ b_) 100000 ((a_+1),data_)).bind fun r136=>some r136)
theorem C_slices_insertionSortCmpFunc_api_Command_of_console_Make_4_le {data_:List GCommand} {a_:Int} {b_:Int}:Le (C_slices_insertionSortCmpFunc_api_Command_of_console_Make_4 data_ a_ b_) (F_7 data_ a_ b_):=by
 unfold C_slices_insertionSortCmpFunc_api_Command_of_console_Make_4 F_7
 (repeat' (with_reducible first|exact Le.refl|assumption|(refine Le.bind ?_ fun _=>?_)|(refine Le.jn ?_ fun _=>?_)|(refine Le.grp fun _=>?_)|(refine Le.chk ?_)|(refine Le.cond ?_ ?_)|(refine Le.fl (fun _=>?_) fun _=>?_)|(refine Le.sum (fun _=>?_) fun _=>?_)|(refine Le.forL (fun _ _ _=>?_) _ _ _)|(refine Le.foldL (fun _ _ _=>?_) _ _ _)|(refine Le.loop fun _=>?_)|(refine Le.perm fun _=>?_)|(refine Le.amb ?_)|exact Le.sort|apply C_slices_insertionSortCmpFunc_api_Command_of_console_Make_4_L1_le|apply C_slices_insertionSortCmpFunc_api_Command_of_console_Make_4_L2_le))
def C_slices_stableCmpFunc_api_Command_of_console_Make_4_L1 (n_:Int) (x17:Int×Int×(List GCommand)):Option (Fl (Int×Int×(List GCommand)) (Int×(List GCommand))) :=
 bif decide (x17.2.1≤n_) then (C_slices_insertionSortCmpFunc_api_Command_of_console_Make_4 x17.2.2 x17.1 x17.2.1).bind fun y21=>chk (in64 (x17.2.1+20)) (some (.nx (x17.2.1,(x17.2.1+20),y21))) else some (.ex (x17.1,x17.2.2))
theorem C_slices_stableCmpFunc_api_Command_of_console_Make_4_L1_le  (n_:Int) (x17:Int×Int×(List GCommand)):Le (C_slices_stableCmpFunc_api_Command_of_console_Make_4_L1 n_ x17) (F_i n_ x17):=by
 unfold C_slices_stableCmpFunc_api_Command_of_console_Make_4_L1 F_i
 (repeat' (with_reducible first|exact Le.refl|assumption|(refine Le.bind ?_ fun _=>?_)|(refine Le.jn ?_ fun _=>?_)|(refine Le.grp fun _=>?_)|(refine Le.chk ?_)|(refine Le.cond ?_ ?_)|(refine Le.fl (fun _=>?_) fun _=>?_)|(refine Le.sum (fun _=>?_) fun _=>?_)|(refine Le.forL (fun _ _ _=>?_) _ _ _)|(refine Le.foldL (fun _ _ _=>?_) _ _ _)|(refine Le.loop fun _=>?_)|(refine Le.perm fun _=>?_)|(refine Le.amb ?_)|exact Le.sort|exact C_slices_insertionSortCmpFunc_api_Command_of_console_Make_4_le))
def C_slices_stableCmpFunc_api_Command_of_console_Make_4_L2 (n_:Int) (x26:Unit):Option (Fl Unit Unit) :=
 bif decide (20<n_) then none else some (.ex ())
theorem C_slices_stableCmpFunc_api_Command_of_console_Make_4_L2_le  (n_:Int) (x26:Unit):Le (C_slices_stableCmpFunc_api_Command_of_console_Make_4_L2 n_ x26) (F_2c n_ x26):=by
 unfold C_slices_stableCmpFunc_api_Command_of_console_Make_4_L2 F_2c
 (repeat' (with_reducible first|exact Le.refl|assumption|(refine Le.bind ?_ fun _=>?_)|(refine Le.jn ?_ fun _=>?_)|(refine Le.grp fun _=>?_)|(refine Le.chk ?_)|(refine Le.cond ?_ ?_)|(refine Le.fl (fun _=>?_) fun _=>?_)|(refine Le.sum (fun _=>?_) fun _=>?_)|(refine Le.forL (fun _ _ _=>?_) _ _ _)|(refine Le.foldL (fun _ _ _=>?_) _ _ _)|(refine Le.loop fun _=>?_)|(refine Le.perm fun _=>?_)|(refine Le.amb ?_)|exact Le.sort|exact C_slices_insertionSortCmpFunc_api_Command_of_console_Make_4_le|apply C_slices_stableCmpFunc_api_Command_of_console_Make_4_L1_le))
def C_slices_stableCmpFunc_api_Command_of_console_Make_4 (data_:List GCommand) (n_:Int):Option (List GCommand) :=
 (iter (C_slices_stableCmpFunc_api_Command_of_console_Make_4_L1 n_) 100000 (0,20,data_)).bind fun r22=>(C_slices_insertionSortCmpFunc_api_Command_of_console_Make_4 r22.2 r22.1 n_).bind fun y24=>(iter (C_slices_stableCmpFunc_api_Command_of_console_Make_4_L2 n_) 100000 ()).bind fun r27=>some y24
theorem C_slices_stableCmpFunc_api_Command_of_console_Make_4_le {data_:List GCommand} {n_:Int}:Le (C_slices_stableCmpFunc_api_Command_of_console_Make_4 data_ n_) (F_2 data_ n_):=by
 unfold C_slices_stableCmpFunc_api_Command_of_console_Make_4 F_2
 (repeat' (with_reducible first|exact Le.refl|assumption|(refine Le.bind ?_ fun _=>?_)|(refine Le.jn ?_ fun _=>?_)|(refine Le.grp fun _=>?_)|(refine Le.chk ?_)|(refine Le.cond ?_ ?_)|(refine Le.fl (fun _=>?_) fun _=>?_)|(refine Le.sum (fun _=>?_) fun _=>?_)|(refine Le.forL (fun _ _ _=>?_) _ _ _)|(refine Le.foldL (fun _ _ _=>?_) _ _ _)|(refine Le.loop fun _=>?_)|(refine Le.perm fun _=>?_)|(refine Le.amb ?_)|exact Le.sort|exact C_slices_insertionSortCmpFunc_api_Command_of_console_Make_4_le|apply C_slices_stableCmpFunc_api_Command_of_console_Make_4_L1_le|apply C_slices_stableCmpFunc_api_Command_of_console_Make_4_L2_le))
def C_slices_SortStableFunc_api_Command_api_Command_of_console_Make_4 (x_:List GCommand):Option (List GCommand) :=
 (C_slices_stableCmpFunc_api_Command_of_console_Make_4 x_ (x_.length:Int)).bind fun y1=>some y1
theorem C_slices_SortStableFunc_api_Command_api_Command_of_console_Make_4_le {x_:List GCommand}:Le (C_slices_SortStableFunc_api_Command_api_Command_of_console_Make_4 x_) (F_j x_):=by
 unfold C_slices_SortStableFunc_api_Command_api_Command_of_console_Make_4 F_j
 (repeat' (with_reducible first|exact Le.refl|assumption|(refine Le.bind ?_ fun _=>?_)|(refine Le.jn ?_ fun _=>?_)|(refine Le.grp fun _=>?_)|(refine Le.chk ?_)|(refine Le.cond ?_ ?_)|(refine Le.fl (fun _=>?_) fun _=>?_)|(refine Le.sum (fun _=>?_) fun _=>?_)|(refine Le.forL (fun _ _ _=>?_) _ _ _)|(refine Le.foldL (fun _ _ _=>?_) _ _ _)|(refine Le.loop fun _=>?_)|(refine Le.perm fun _=>?_)|(refine Le.amb ?_)|exact Le.sort|exact C_slices_stableCmpFunc_api_Command_of_console_Make_4_le))
def C_console_Make_L1 (y10:(List Int)×(List Str)) (k68:Int) (a69:GCommand) (x67:Int×(List GAccess)×(List Int)×(List GMember)):Option (Int×(List GAccess)×(List Int)×(List GMember)) :=
 (F_13 a69 y10.2 (GDirectory.mk x67.2.2.1 x67.2.2.2) (GEstate.mk x67.1 x67.2.1)).bind fun y73=>some (y73.2.Places,y73.2.Events,y73.1.Kinds,y73.1.Events)
theorem C_console_Make_L1_le  (y10:(List Int)×(List Str)) (k68:Int) (a69:GCommand) (x67:Int×(List GAccess)×(List Int)×(List GMember)):Le (C_console_Make_L1 y10 k68 a69 x67) (F_1r y10 k68 a69 x67):=by
 unfold C_console_Make_L1 F_1r
 (repeat' (with_reducible first|exact Le.refl|assumption|(refine Le.bind ?_ fun _=>?_)|(refine Le.jn ?_ fun _=>?_)|(refine Le.grp fun _=>?_)|(refine Le.chk ?_)|(refine Le.cond ?_ ?_)|(refine Le.fl (fun _=>?_) fun _=>?_)|(refine Le.sum (fun _=>?_) fun _=>?_)|(refine Le.forL (fun _ _ _=>?_) _ _ _)|(refine Le.foldL (fun _ _ _=>?_) _ _ _)|(refine Le.loop fun _=>?_)|(refine Le.perm fun _=>?_)|(refine Le.amb ?_)|exact Le.sort|exact C_slices_Clone_api_Command_api_Command_le|exact C_slices_SortStableFunc_api_Command_api_Command_of_console_Make_4_le))
def C_console_Make (l_:List GCommand):Option (GDirectory×GEstate×(List Str)×Int) :=
 (F_4g l_).bind fun y6=>bif (!decide (y6=0)) then (F_4 y6).bind fun y8=>some (y8.1,y8.2.1,y8.2.2.1,y8.2.2.2) else (F_2a l_).bind fun y10=>(valsF y10.2).bind fun y13=>(F_1p y10.2).bind fun y14=>(compactS y14).bind fun y26=>bif decide ((y26.1:Int)<(y10.2.length:Int)) then (F_4 7).bind fun y28=>some (y28.1,y28.2.1,y28.2.2.1,y28.2.2.2) else (F_3t l_ y10.2).bind fun y30=>bif y30 then (F_4 6).bind fun y32=>some (y32.1,y32.2.1,y32.2.2.1,y32.2.2.2) else bif decide (24<(y10.2.length:Int)) then (F_4 3).bind fun y34=>some (y34.1,y34.2.1,y34.2.2.1,y34.2.2.2) else (C_slices_Clone_api_Command_api_Command l_).bind fun y36=>(C_slices_SortStableFunc_api_Command_api_Command_of_console_Make_4 y36).bind fun y38=>(foldL (C_console_Make_L1 y10) y38 0 (16,[],y10.1,[])).bind fun x74=>(F_5 (GDirectory.mk x74.2.2.1 x74.2.2.2)).bind fun y80=>bif (!decide (y80=0)) then (F_4 y80).bind fun y82=>some (y82.1,y82.2.1,y82.2.2.1,y82.2.2.2) else (F_a (GEstate.mk x74.1 x74.2.1)).bind fun y88=>bif (!decide (y88=0)) then (F_4 y88).bind fun y90=>some (y90.1,y90.2.1,y90.2.2.1,y90.2.2.2) else some ((GDirectory.mk x74.2.2.1 x74.2.2.2),(GEstate.mk x74.1 x74.2.1),y10.2,0)
theorem C_console_Make_le {l_:List GCommand}:Le (C_console_Make l_) (F_k l_):=by
 unfold C_console_Make F_k
 (repeat' (with_reducible first|exact Le.refl|assumption|(refine Le.bind ?_ fun _=>?_)|(refine Le.jn ?_ fun _=>?_)|(refine Le.grp fun _=>?_)|(refine Le.chk ?_)|(refine Le.cond ?_ ?_)|(refine Le.fl (fun _=>?_) fun _=>?_)|(refine Le.sum (fun _=>?_) fun _=>?_)|(refine Le.forL (fun _ _ _=>?_) _ _ _)|(refine Le.foldL (fun _ _ _=>?_) _ _ _)|(refine Le.loop fun _=>?_)|(refine Le.perm fun _=>?_)|(refine Le.amb ?_)|exact Le.sort|exact C_slices_Clone_api_Command_api_Command_le|exact C_slices_SortStableFunc_api_Command_api_Command_of_console_Make_4_le|apply C_console_Make_L1_le))
def C_directory_table_upward_L1 (k351:Int) (a352:Bool) (x350:(List Int)×(List Bool)):Option ((List Int)×(List Bool)) :=
 jn (α:=Bool) (bif a352 then chk (inb k351 x350.2.length) (some (!(x350.2.getD ((k351).toNat) default))) else some false) fun j360=>bif j360 then chk (room (x350.1.length+[k351].length) 8) (chk (inb k351 x350.2.length) (some ((x350.1++[k351]),x350.2.set ((k351).toNat) true))) else some (x350.1,x350.2)
theorem C_directory_table_upward_L1_le  (k351:Int) (a352:Bool) (x350:(List Int)×(List Bool)):Le (C_directory_table_upward_L1 k351 a352 x350) (F_1z k351 a352 x350):=by
 unfold C_directory_table_upward_L1 F_1z
 (repeat' (with_reducible first|exact Le.refl|assumption|(refine Le.bind ?_ fun _=>?_)|(refine Le.jn ?_ fun _=>?_)|(refine Le.grp fun _=>?_)|(refine Le.chk ?_)|(refine Le.cond ?_ ?_)|(refine Le.fl (fun _=>?_) fun _=>?_)|(refine Le.sum (fun _=>?_) fun _=>?_)|(refine Le.forL (fun _ _ _=>?_) _ _ _)|(refine Le.foldL (fun _ _ _=>?_) _ _ _)|(refine Le.loop fun _=>?_)|(refine Le.perm fun _=>?_)|(refine Le.amb ?_)|exact Le.sort))
def C_directory_table_upward_L2 (x_:List (List Bool)) (x257:(List Int)×(List Bool)):Option (Fl ((List Int)×(List Bool)) (List Bool)) :=
 bif decide (0<(x257.1.length:Int)) then chk (inb 0 x257.1.length) (chk (inb (x257.1.getD 0 default) x_.length) ((foldL C_directory_table_upward_L1 (x_.getD (x257.1.getD 0 default).toNat default) 0 (x257.1,x257.2)).bind fun x361=>chk (inc 1 (x361.1.length:Int) x361.1.length) (some (.nx ((x361.1.drop 1).take (x361.1.length - 1),x361.2))))) else some (.ex x257.2)
theorem C_directory_table_upward_L2_le  (x_:List (List Bool)) (x257:(List Int)×(List Bool)):Le (C_directory_table_upward_L2 x_ x257) (F_2p x_ x257):=by
 unfold C_directory_table_upward_L2 F_2p
 (repeat' (with_reducible first|exact Le.refl|assumption|(refine Le.bind ?_ fun _=>?_)|(refine Le.jn ?_ fun _=>?_)|(refine Le.grp fun _=>?_)|(refine Le.chk ?_)|(refine Le.cond ?_ ?_)|(refine Le.fl (fun _=>?_) fun _=>?_)|(refine Le.sum (fun _=>?_) fun _=>?_)|(refine Le.forL (fun _ _ _=>?_) _ _ _)|(refine Le.foldL (fun _ _ _=>?_) _ _ _)|(refine Le.loop fun _=>?_)|(refine Le.perm fun _=>?_)|(refine Le.amb ?_)|exact Le.sort|apply C_directory_table_upward_L1_le))
def C_directory_table_upward (x_:List (List Bool)) (p_:Int):Option (List Bool) :=
 chk (roomI (x_.length:Int) (x_.length:Int) 1) (chk (inb p_ (List.replicate ((x_.length:Int)).toNat false).length) ((iter (C_directory_table_upward_L2 x_) 100000 ([p_],(List.replicate ((x_.length:Int)).toNat false).set ((p_).toNat) true)).bind fun r362=>some r362))
theorem C_directory_table_upward_le {x_:List (List Bool)} {p_:Int}:Le (C_directory_table_upward x_ p_) (F_t x_ p_):=by
 unfold C_directory_table_upward F_t
 (repeat' (with_reducible first|exact Le.refl|assumption|(refine Le.bind ?_ fun _=>?_)|(refine Le.jn ?_ fun _=>?_)|(refine Le.grp fun _=>?_)|(refine Le.chk ?_)|(refine Le.cond ?_ ?_)|(refine Le.fl (fun _=>?_) fun _=>?_)|(refine Le.sum (fun _=>?_) fun _=>?_)|(refine Le.forL (fun _ _ _=>?_) _ _ _)|(refine Le.foldL (fun _ _ _=>?_) _ _ _)|(refine Le.loop fun _=>?_)|(refine Le.perm fun _=>?_)|(refine Le.amb ?_)|exact Le.sort|apply C_directory_table_upward_L1_le|apply C_directory_table_upward_L2_le))
def C_directory_Upward (d_:GDirectory) (p_:Int) (t_:Int):Option (List Int) :=
 (F_44 d_ p_).bind fun y4=>bif (!y4) then some [] else (atF d_.Kinds.length (d_.Events.map fun e=>(e.Time,e.Kind,e.Principal,e.Group)) t_).bind fun y8=>(C_directory_table_upward y8 p_).bind fun y9=>(F_20 y9).bind fun y10=>some y10
theorem C_directory_Upward_le {d_:GDirectory} {p_:Int} {t_:Int}:Le (C_directory_Upward d_ p_ t_) (F_1c d_ p_ t_):=by
 unfold C_directory_Upward F_1c
 (repeat' (with_reducible first|exact Le.refl|assumption|(refine Le.bind ?_ fun _=>?_)|(refine Le.jn ?_ fun _=>?_)|(refine Le.grp fun _=>?_)|(refine Le.chk ?_)|(refine Le.cond ?_ ?_)|(refine Le.fl (fun _=>?_) fun _=>?_)|(refine Le.sum (fun _=>?_) fun _=>?_)|(refine Le.forL (fun _ _ _=>?_) _ _ _)|(refine Le.foldL (fun _ _ _=>?_) _ _ _)|(refine Le.loop fun _=>?_)|(refine Le.perm fun _=>?_)|(refine Le.amb ?_)|exact Le.sort|exact C_directory_table_upward_le))
def C_access_Granted_L1 (k21:Int) (a19:Int×Int) (x18:List Int):Option (List Int) :=
 chk (room (x18.length+[a19.1].length) 8) (some (x18++[a19.1]))
theorem C_access_Granted_L1_le  (k21:Int) (a19:Int×Int) (x18:List Int):Le (C_access_Granted_L1 k21 a19 x18) (F_22 k21 a19 x18):=by
 unfold C_access_Granted_L1 F_22
 (repeat' (with_reducible first|exact Le.refl|assumption|(refine Le.bind ?_ fun _=>?_)|(refine Le.jn ?_ fun _=>?_)|(refine Le.grp fun _=>?_)|(refine Le.chk ?_)|(refine Le.cond ?_ ?_)|(refine Le.fl (fun _=>?_) fun _=>?_)|(refine Le.sum (fun _=>?_) fun _=>?_)|(refine Le.forL (fun _ _ _=>?_) _ _ _)|(refine Le.foldL (fun _ _ _=>?_) _ _ _)|(refine Le.loop fun _=>?_)|(refine Le.perm fun _=>?_)|(refine Le.amb ?_)|exact Le.sort))
def C_access_Granted (a_:GEstate) (place_:Int) (t_:Int):Option (List Int) :=
 (F_3j a_ place_).bind fun y4=>bif (!y4) then some [] else (F_21 a_ place_ t_).bind fun y15=>permC (fun l20=>(foldL C_access_Granted_L1 l20 0 []).bind fun x22=>(sortIC x22).bind fun y24=>some y24) y15
theorem C_access_Granted_le {a_:GEstate} {place_:Int} {t_:Int}:Le (C_access_Granted a_ place_ t_) (F_b a_ place_ t_):=by
 unfold C_access_Granted F_b
 (repeat' (with_reducible first|exact Le.refl|assumption|(refine Le.bind ?_ fun _=>?_)|(refine Le.jn ?_ fun _=>?_)|(refine Le.grp fun _=>?_)|(refine Le.chk ?_)|(refine Le.cond ?_ ?_)|(refine Le.fl (fun _=>?_) fun _=>?_)|(refine Le.sum (fun _=>?_) fun _=>?_)|(refine Le.forL (fun _ _ _=>?_) _ _ _)|(refine Le.foldL (fun _ _ _=>?_) _ _ _)|(refine Le.loop fun _=>?_)|(refine Le.perm fun _=>?_)|(refine Le.amb ?_)|exact Le.sort|apply C_access_Granted_L1_le))
def C_readers_grant_L1 (y2:List Int) (k37:Int) (a38:Int) (x36:Unit):Option (Fl Unit (Int×Bool)) :=
 (F_16 y2 a38).bind fun y46=>bif y46 then some (.ex (a38,true)) else some (.nx ())
theorem C_readers_grant_L1_le  (y2:List Int) (k37:Int) (a38:Int) (x36:Unit):Le (C_readers_grant_L1 y2 k37 a38 x36) (F_2q y2 k37 a38 x36):=by
 unfold C_readers_grant_L1 F_2q
 (repeat' (with_reducible first|exact Le.refl|assumption|(refine Le.bind ?_ fun _=>?_)|(refine Le.jn ?_ fun _=>?_)|(refine Le.grp fun _=>?_)|(refine Le.chk ?_)|(refine Le.cond ?_ ?_)|(refine Le.fl (fun _=>?_) fun _=>?_)|(refine Le.sum (fun _=>?_) fun _=>?_)|(refine Le.forL (fun _ _ _=>?_) _ _ _)|(refine Le.foldL (fun _ _ _=>?_) _ _ _)|(refine Le.loop fun _=>?_)|(refine Le.perm fun _=>?_)|(refine Le.amb ?_)|exact Le.sort|exact C_directory_Upward_le|exact C_access_Granted_le))
def C_readers_grant (d_:GDirectory) (a_:GEstate) (p_:Int) (place_:Int) (t_:Int):Option (Int×Bool) :=
 (C_directory_Upward d_ p_ t_).bind fun y2=>(C_access_Granted a_ place_ t_).bind fun y25=>(forL (C_readers_grant_L1 y2) y25 0 ()).bind fun o=>o.elim (fun x47=>some (0,false)) (fun r48=>some r48)
theorem C_readers_grant_le {d_:GDirectory} {a_:GEstate} {p_:Int} {place_:Int} {t_:Int}:Le (C_readers_grant d_ a_ p_ place_ t_) (F_1d d_ a_ p_ place_ t_):=by
 unfold C_readers_grant F_1d
 (repeat' (with_reducible first|exact Le.refl|assumption|(refine Le.bind ?_ fun _=>?_)|(refine Le.jn ?_ fun _=>?_)|(refine Le.grp fun _=>?_)|(refine Le.chk ?_)|(refine Le.cond ?_ ?_)|(refine Le.fl (fun _=>?_) fun _=>?_)|(refine Le.sum (fun _=>?_) fun _=>?_)|(refine Le.forL (fun _ _ _=>?_) _ _ _)|(refine Le.foldL (fun _ _ _=>?_) _ _ _)|(refine Le.loop fun _=>?_)|(refine Le.perm fun _=>?_)|(refine Le.amb ?_)|exact Le.sort|exact C_directory_Upward_le|exact C_access_Granted_le|apply C_readers_grant_L1_le))
def C_readers_May (d_:GDirectory) (a_:GEstate) (p_:Int) (place_:Int) (t_:Int):Option Bool :=
 (F_43 d_ a_ p_ place_).bind fun y4=>bif (!y4) then some false else (F_3 a_ place_ t_).bind fun y6=>(C_readers_grant d_ a_ p_ place_ t_).bind fun y8=>grp ((y6.2||y8.2)) fun b10=>some b10
theorem C_readers_May_le {d_:GDirectory} {a_:GEstate} {p_:Int} {place_:Int} {t_:Int}:Le (C_readers_May d_ a_ p_ place_ t_) (F_2r d_ a_ p_ place_ t_):=by
 unfold C_readers_May F_2r
 (repeat' (with_reducible first|exact Le.refl|assumption|(refine Le.bind ?_ fun _=>?_)|(refine Le.jn ?_ fun _=>?_)|(refine Le.grp fun _=>?_)|(refine Le.chk ?_)|(refine Le.cond ?_ ?_)|(refine Le.fl (fun _=>?_) fun _=>?_)|(refine Le.sum (fun _=>?_) fun _=>?_)|(refine Le.forL (fun _ _ _=>?_) _ _ _)|(refine Le.foldL (fun _ _ _=>?_) _ _ _)|(refine Le.loop fun _=>?_)|(refine Le.perm fun _=>?_)|(refine Le.amb ?_)|exact Le.sort|exact C_readers_grant_le))
def C_readers_Who_L1 (d_:GDirectory) (a_:GEstate) (place_:Int) (t_:Int) (k54:Int) (a55:Int) (x53:Bool×(List Int)):Option (Bool×(List Int)) :=
 (C_readers_May d_ a_ k54 place_ t_).bind fun y63=>bif y63 then chk (room (x53.2.length+[k54].length) 8) (some (x53.1,(x53.2++[k54]))) else some (x53.1,x53.2)
theorem C_readers_Who_L1_le  (d_:GDirectory) (a_:GEstate) (place_:Int) (t_:Int) (k54:Int) (a55:Int) (x53:Bool×(List Int)):Le (C_readers_Who_L1 d_ a_ place_ t_ k54 a55 x53) (F_2s d_ a_ place_ t_ k54 a55 x53):=by
 unfold C_readers_Who_L1 F_2s
 (repeat' (with_reducible first|exact Le.refl|assumption|(refine Le.bind ?_ fun _=>?_)|(refine Le.jn ?_ fun _=>?_)|(refine Le.grp fun _=>?_)|(refine Le.chk ?_)|(refine Le.cond ?_ ?_)|(refine Le.fl (fun _=>?_) fun _=>?_)|(refine Le.sum (fun _=>?_) fun _=>?_)|(refine Le.forL (fun _ _ _=>?_) _ _ _)|(refine Le.foldL (fun _ _ _=>?_) _ _ _)|(refine Le.loop fun _=>?_)|(refine Le.perm fun _=>?_)|(refine Le.amb ?_)|exact Le.sort|exact C_readers_May_le))
def C_readers_Who (d_:GDirectory) (a_:GEstate) (place_:Int) (t_:Int):Option (GAudience×Int) :=
 (F_2o d_ a_).bind fun y4=>bif (!decide (y4=0)) then some ((GAudience.mk false []),y4) else (F_1a a_ place_).bind fun y8=>bif (!y8) then some ((GAudience.mk false []),6) else (F_3 a_ place_ t_).bind fun y10=>(foldL (C_readers_Who_L1 d_ a_ place_ t_) d_.Kinds 0 (y10.2,[])).bind fun x64=>some ((GAudience.mk x64.1 x64.2),0)
theorem C_readers_Who_le {d_:GDirectory} {a_:GEstate} {place_:Int} {t_:Int}:Le (C_readers_Who d_ a_ place_ t_) (F_1e d_ a_ place_ t_):=by
 unfold C_readers_Who F_1e
 (repeat' (with_reducible first|exact Le.refl|assumption|(refine Le.bind ?_ fun _=>?_)|(refine Le.jn ?_ fun _=>?_)|(refine Le.grp fun _=>?_)|(refine Le.chk ?_)|(refine Le.cond ?_ ?_)|(refine Le.fl (fun _=>?_) fun _=>?_)|(refine Le.sum (fun _=>?_) fun _=>?_)|(refine Le.forL (fun _ _ _=>?_) _ _ _)|(refine Le.foldL (fun _ _ _=>?_) _ _ _)|(refine Le.loop fun _=>?_)|(refine Le.perm fun _=>?_)|(refine Le.amb ?_)|exact Le.sort|exact C_readers_May_le|apply C_readers_Who_L1_le))
def C_console_who_L1 (names_:List Str) (k19:Int) (a20:Int) (x18:Str):Option Str :=
 chk (inb a20 names_.length) (chk (strl ([32].length+(names_.getD (a20).toNat default).length)) (chk (strl (x18.length+(([32]:Str)++(names_.getD (a20).toNat default)).length)) (some (x18++(([32]:Str)++(names_.getD (a20).toNat default))))))
theorem C_console_who_L1_le  (names_:List Str) (k19:Int) (a20:Int) (x18:Str):Le (C_console_who_L1 names_ k19 a20 x18) (F_2d names_ k19 a20 x18):=by
 unfold C_console_who_L1 F_2d
 (repeat' (with_reducible first|exact Le.refl|assumption|(refine Le.bind ?_ fun _=>?_)|(refine Le.jn ?_ fun _=>?_)|(refine Le.grp fun _=>?_)|(refine Le.chk ?_)|(refine Le.cond ?_ ?_)|(refine Le.fl (fun _=>?_) fun _=>?_)|(refine Le.sum (fun _=>?_) fun _=>?_)|(refine Le.forL (fun _ _ _=>?_) _ _ _)|(refine Le.foldL (fun _ _ _=>?_) _ _ _)|(refine Le.loop fun _=>?_)|(refine Le.perm fun _=>?_)|(refine Le.amb ?_)|exact Le.sort|exact C_readers_Who_le))
def C_console_who (c_:GCommand) (d_:GDirectory) (a_:GEstate) (names_:List Str):Option Str :=
 (C_readers_Who d_ a_ c_.A c_.Time).bind fun y2=>jn (α:=Str) (bif y2.1.Public then some [112,117,98,108,105,99] else some [105,110,115,105,100,101]) fun j3=>(foldL (C_console_who_L1 names_) y2.1.Principals 0 j3).bind fun x21=>some x21
theorem C_console_who_le {c_:GCommand} {d_:GDirectory} {a_:GEstate} {names_:List Str}:Le (C_console_who c_ d_ a_ names_) (F_3u c_ d_ a_ names_):=by
 unfold C_console_who F_3u
 (repeat' (with_reducible first|exact Le.refl|assumption|(refine Le.bind ?_ fun _=>?_)|(refine Le.jn ?_ fun _=>?_)|(refine Le.grp fun _=>?_)|(refine Le.chk ?_)|(refine Le.cond ?_ ?_)|(refine Le.fl (fun _=>?_) fun _=>?_)|(refine Le.sum (fun _=>?_) fun _=>?_)|(refine Le.forL (fun _ _ _=>?_) _ _ _)|(refine Le.foldL (fun _ _ _=>?_) _ _ _)|(refine Le.loop fun _=>?_)|(refine Le.perm fun _=>?_)|(refine Le.amb ?_)|exact Le.sort|exact C_readers_Who_le|apply C_console_who_L1_le))
def C_exposure_times_L1 (k18:Int) (a19:GMember) (x17:List Int):Option (List Int) :=
 chk (room (x17.length+[a19.Time].length) 8) (some (x17++[a19.Time]))
theorem C_exposure_times_L1_le  (k18:Int) (a19:GMember) (x17:List Int):Le (C_exposure_times_L1 k18 a19 x17) (F_1f k18 a19 x17):=by
 unfold C_exposure_times_L1 F_1f
 (repeat' (with_reducible first|exact Le.refl|assumption|(refine Le.bind ?_ fun _=>?_)|(refine Le.jn ?_ fun _=>?_)|(refine Le.grp fun _=>?_)|(refine Le.chk ?_)|(refine Le.cond ?_ ?_)|(refine Le.fl (fun _=>?_) fun _=>?_)|(refine Le.sum (fun _=>?_) fun _=>?_)|(refine Le.forL (fun _ _ _=>?_) _ _ _)|(refine Le.foldL (fun _ _ _=>?_) _ _ _)|(refine Le.loop fun _=>?_)|(refine Le.perm fun _=>?_)|(refine Le.amb ?_)|exact Le.sort))
def C_exposure_times (d_:GDirectory) (a_:GEstate):Option (List Int) :=
 (F_c a_).bind fun y2=>(foldL C_exposure_times_L1 d_.Events 0 y2).bind fun x20=>(sortIC x20).bind fun y22=>(compactI y22).bind fun y24=>some ((y24.2.drop 0).take y24.1)
theorem C_exposure_times_le {d_:GDirectory} {a_:GEstate}:Le (C_exposure_times d_ a_) (F_d d_ a_):=by
 unfold C_exposure_times F_d
 (repeat' (with_reducible first|exact Le.refl|assumption|(refine Le.bind ?_ fun _=>?_)|(refine Le.jn ?_ fun _=>?_)|(refine Le.grp fun _=>?_)|(refine Le.chk ?_)|(refine Le.cond ?_ ?_)|(refine Le.fl (fun _=>?_) fun _=>?_)|(refine Le.sum (fun _=>?_) fun _=>?_)|(refine Le.forL (fun _ _ _=>?_) _ _ _)|(refine Le.foldL (fun _ _ _=>?_) _ _ _)|(refine Le.loop fun _=>?_)|(refine Le.perm fun _=>?_)|(refine Le.amb ?_)|exact Le.sort|apply C_exposure_times_L1_le))
def C_exposure_place_L1 (d_:GDirectory) (a_:GEstate) (p_:Int) (t_:Int) (k75:Int) (a76:Int) (x74:Unit):Option (Fl Unit (Int×Bool)) :=
 (F_3 a_ a76 t_).bind fun y96=>grp ((decide (p_=(-1))&&y96.2)) fun b99=>bif b99 then some (.ex (a76,true)) else bif (!decide (p_=(-1))) then (C_readers_May d_ a_ p_ a76 t_).bind fun y100=>bif y100 then some (.ex (a76,true)) else some (.nx ()) else some (.nx ())
theorem C_exposure_place_L1_le  (d_:GDirectory) (a_:GEstate) (p_:Int) (t_:Int) (k75:Int) (a76:Int) (x74:Unit):Le (C_exposure_place_L1 d_ a_ p_ t_ k75 a76 x74) (F_2w d_ a_ p_ t_ k75 a76 x74):=by
 unfold C_exposure_place_L1 F_2w
 (repeat' (with_reducible first|exact Le.refl|assumption|(refine Le.bind ?_ fun _=>?_)|(refine Le.jn ?_ fun _=>?_)|(refine Le.grp fun _=>?_)|(refine Le.chk ?_)|(refine Le.cond ?_ ?_)|(refine Le.fl (fun _=>?_) fun _=>?_)|(refine Le.sum (fun _=>?_) fun _=>?_)|(refine Le.forL (fun _ _ _=>?_) _ _ _)|(refine Le.foldL (fun _ _ _=>?_) _ _ _)|(refine Le.loop fun _=>?_)|(refine Le.perm fun _=>?_)|(refine Le.amb ?_)|exact Le.sort|exact C_readers_May_le))
def C_exposure_place (d_:GDirectory) (a_:GEstate) (content_:Int) (p_:Int) (t_:Int):Option (Int×Bool) :=
 (F_23 a_ content_ t_).bind fun y47=>(forL (C_exposure_place_L1 d_ a_ p_ t_) y47 0 ()).bind fun o=>o.elim (fun x101=>some (0,false)) (fun r102=>some r102)
theorem C_exposure_place_le {d_:GDirectory} {a_:GEstate} {content_:Int} {p_:Int} {t_:Int}:Le (C_exposure_place d_ a_ content_ p_ t_) (F_1g d_ a_ content_ p_ t_):=by
 unfold C_exposure_place F_1g
 (repeat' (with_reducible first|exact Le.refl|assumption|(refine Le.bind ?_ fun _=>?_)|(refine Le.jn ?_ fun _=>?_)|(refine Le.grp fun _=>?_)|(refine Le.chk ?_)|(refine Le.cond ?_ ?_)|(refine Le.fl (fun _=>?_) fun _=>?_)|(refine Le.sum (fun _=>?_) fun _=>?_)|(refine Le.forL (fun _ _ _=>?_) _ _ _)|(refine Le.foldL (fun _ _ _=>?_) _ _ _)|(refine Le.loop fun _=>?_)|(refine Le.perm fun _=>?_)|(refine Le.amb ?_)|exact Le.sort|exact C_readers_May_le|apply C_exposure_place_L1_le))
def C_exposure_since_L1 (d_:GDirectory) (a_:GEstate) (content_:Int) (p_:Int) (k35:Int) (a36:Int) (x34:Unit):Option (Fl Unit (Int×Bool)) :=
 (C_exposure_place d_ a_ content_ p_ a36).bind fun y44=>bif y44.2 then some (.ex (a36,true)) else some (.nx ())
theorem C_exposure_since_L1_le  (d_:GDirectory) (a_:GEstate) (content_:Int) (p_:Int) (k35:Int) (a36:Int) (x34:Unit):Le (C_exposure_since_L1 d_ a_ content_ p_ k35 a36 x34) (F_2x d_ a_ content_ p_ k35 a36 x34):=by
 unfold C_exposure_since_L1 F_2x
 (repeat' (with_reducible first|exact Le.refl|assumption|(refine Le.bind ?_ fun _=>?_)|(refine Le.jn ?_ fun _=>?_)|(refine Le.grp fun _=>?_)|(refine Le.chk ?_)|(refine Le.cond ?_ ?_)|(refine Le.fl (fun _=>?_) fun _=>?_)|(refine Le.sum (fun _=>?_) fun _=>?_)|(refine Le.forL (fun _ _ _=>?_) _ _ _)|(refine Le.foldL (fun _ _ _=>?_) _ _ _)|(refine Le.loop fun _=>?_)|(refine Le.perm fun _=>?_)|(refine Le.amb ?_)|exact Le.sort|exact C_exposure_times_le|exact C_exposure_place_le))
def C_exposure_since (d_:GDirectory) (a_:GEstate) (content_:Int) (p_:Int):Option (Int×Bool) :=
 (C_exposure_times d_ a_).bind fun y23=>(forL (C_exposure_since_L1 d_ a_ content_ p_) y23 0 ()).bind fun o=>o.elim (fun x45=>some (0,false)) (fun r46=>some r46)
theorem C_exposure_since_le {d_:GDirectory} {a_:GEstate} {content_:Int} {p_:Int}:Le (C_exposure_since d_ a_ content_ p_) (F_1h d_ a_ content_ p_):=by
 unfold C_exposure_since F_1h
 (repeat' (with_reducible first|exact Le.refl|assumption|(refine Le.bind ?_ fun _=>?_)|(refine Le.jn ?_ fun _=>?_)|(refine Le.grp fun _=>?_)|(refine Le.chk ?_)|(refine Le.cond ?_ ?_)|(refine Le.fl (fun _=>?_) fun _=>?_)|(refine Le.sum (fun _=>?_) fun _=>?_)|(refine Le.forL (fun _ _ _=>?_) _ _ _)|(refine Le.foldL (fun _ _ _=>?_) _ _ _)|(refine Le.loop fun _=>?_)|(refine Le.perm fun _=>?_)|(refine Le.amb ?_)|exact Le.sort|exact C_exposure_times_le|exact C_exposure_place_le|apply C_exposure_since_L1_le))
def C_exposure_Since (d_:GDirectory) (a_:GEstate) (content_:Int) (p_:Int):Option (Int×Bool) :=
 (F_47 d_ a_ content_).bind fun y4=>bif (!decide (y4=0)) then some (0,false) else (C_exposure_since d_ a_ content_ p_).bind fun y6=>some (y6.1,y6.2)
theorem C_exposure_Since_le {d_:GDirectory} {a_:GEstate} {content_:Int} {p_:Int}:Le (C_exposure_Since d_ a_ content_ p_) (F_3l d_ a_ content_ p_):=by
 unfold C_exposure_Since F_3l
 (repeat' (with_reducible first|exact Le.refl|assumption|(refine Le.bind ?_ fun _=>?_)|(refine Le.jn ?_ fun _=>?_)|(refine Le.grp fun _=>?_)|(refine Le.chk ?_)|(refine Le.cond ?_ ?_)|(refine Le.fl (fun _=>?_) fun _=>?_)|(refine Le.sum (fun _=>?_) fun _=>?_)|(refine Le.forL (fun _ _ _=>?_) _ _ _)|(refine Le.foldL (fun _ _ _=>?_) _ _ _)|(refine Le.loop fun _=>?_)|(refine Le.perm fun _=>?_)|(refine Le.amb ?_)|exact Le.sort|exact C_exposure_since_le))
def C_console_Run_L1 (y2:GDirectory×GEstate×(List Str)×Int) (k144:Int) (a145:GCommand) (x143:List UInt8):Option (List UInt8) :=
 bif decide (a145.Kind=10) then (C_console_who a145 y2.1 y2.2.1 y2.2.2.1).bind fun y173=>chk (strl (y173.length+[10].length)) ((bws x143 (y173++[10])).bind fun y174=>some y174) else bif decide (a145.Kind=11) then jn (α:=Str) ((F_2b y2.2.2.1 a145.Name).bind fun y183=>(C_exposure_Since y2.1 y2.2.1 a145.A y183).bind fun y184=>bif y184.2 then (itoaI y184.1).bind fun y185=>some y185 else some [110,101,118,101,114]) fun j180=>chk (strl (j180.length+[10].length)) ((bws x143 (j180++[10])).bind fun y186=>some y186) else some x143
theorem C_console_Run_L1_le  (y2:GDirectory×GEstate×(List Str)×Int) (k144:Int) (a145:GCommand) (x143:List UInt8):Le (C_console_Run_L1 y2 k144 a145 x143) (F_1s y2 k144 a145 x143):=by
 unfold C_console_Run_L1 F_1s
 (repeat' (with_reducible first|exact Le.refl|assumption|(refine Le.bind ?_ fun _=>?_)|(refine Le.jn ?_ fun _=>?_)|(refine Le.grp fun _=>?_)|(refine Le.chk ?_)|(refine Le.cond ?_ ?_)|(refine Le.fl (fun _=>?_) fun _=>?_)|(refine Le.sum (fun _=>?_) fun _=>?_)|(refine Le.forL (fun _ _ _=>?_) _ _ _)|(refine Le.foldL (fun _ _ _=>?_) _ _ _)|(refine Le.loop fun _=>?_)|(refine Le.perm fun _=>?_)|(refine Le.amb ?_)|exact Le.sort|exact C_console_Make_le|exact C_console_who_le|exact C_exposure_Since_le))
def C_console_Run (l_:List GCommand):Option (Str×Int) :=
 (C_console_Make l_).bind fun y2=>bif (!decide (y2.2.2.2=0)) then some ([],y2.2.2.2) else (foldL (C_console_Run_L1 y2) l_ 0 ([]:Str)).bind fun x187=>(bstr x187).bind fun y189=>some (y189,0)
theorem C_console_Run_le {l_:List GCommand}:Le (C_console_Run l_) (F_8 l_):=by
 unfold C_console_Run F_8
 (repeat' (with_reducible first|exact Le.refl|assumption|(refine Le.bind ?_ fun _=>?_)|(refine Le.jn ?_ fun _=>?_)|(refine Le.grp fun _=>?_)|(refine Le.chk ?_)|(refine Le.cond ?_ ?_)|(refine Le.fl (fun _=>?_) fun _=>?_)|(refine Le.sum (fun _=>?_) fun _=>?_)|(refine Le.forL (fun _ _ _=>?_) _ _ _)|(refine Le.foldL (fun _ _ _=>?_) _ _ _)|(refine Le.loop fun _=>?_)|(refine Le.perm fun _=>?_)|(refine Le.amb ?_)|exact Le.sort|exact C_console_Make_le|exact C_console_who_le|exact C_exposure_Since_le|apply C_console_Run_L1_le))
def C_leakresponsetop_awake44:Option Bool :=
 (F_m [112,101,114,115,111,110,32,97,110,110,10,97,108,108,111,119,32,51,32,97,110,110,32,48,10,112,117,116,32,53,32,55,32,48,10,115,105,110,99,101,32,55,32,97,110,110,10]).bind fun y2=>(C_console_Run y2.1).bind fun y4=>grp ((decide (y2.2.2=0)&&decide (y4.2=0))) fun b7=>grp ((b7&&decide (y4.1=[53,10]))) fun b8=>some b8
theorem C_leakresponsetop_awake44_le:Le (C_leakresponsetop_awake44 ) (F_2e ):=by
 unfold C_leakresponsetop_awake44 F_2e
 (repeat' (with_reducible first|exact Le.refl|assumption|(refine Le.bind ?_ fun _=>?_)|(refine Le.jn ?_ fun _=>?_)|(refine Le.grp fun _=>?_)|(refine Le.chk ?_)|(refine Le.cond ?_ ?_)|(refine Le.fl (fun _=>?_) fun _=>?_)|(refine Le.sum (fun _=>?_) fun _=>?_)|(refine Le.forL (fun _ _ _=>?_) _ _ _)|(refine Le.foldL (fun _ _ _=>?_) _ _ _)|(refine Le.loop fun _=>?_)|(refine Le.perm fun _=>?_)|(refine Le.amb ?_)|exact Le.sort|exact C_console_Run_le))
theorem awaken:F_2e=some true:=C_leakresponsetop_awake44_le _ (by kernel_rfl)
end Go.Ab
