/- What the functions of this seat that lie on the laws' road compute (part LB), each for every input. By AI agents. -/
import Derived.Test.YtkochjkempnagaaGreatDoorLT
set_option linter.all false
set_option linter.all false
set_option maxRecDepth 20000
set_option maxHeartbeats 2000000
namespace Go.Ab
open Go.Proofs
def F_2n (n_:Int) (low_:Int) (high_:Int):Option Bool := grp ((decide (low_≤n_)&&decide (n_≤high_))) fun b2=>some b2
instance Wq_2n {n_ low_ high_:Int}:WJ (F_2n n_ low_ high_) 120 [.int .i64 n_,.int .i64 low_,.int .i64 high_] .bool:=wX Tryz.func120 [(1,⟨[],[],[.v 4 7]⟩)] (h:=fun _ _ h hQ M=>by unfold F_2n at h;exact tX)
def F_3i (content_:Int):Option Bool := (F_2n content_ 0 63).bind fun y2=>some y2
instance Wq_3i {content_:Int}:WJ (F_3i content_) 127 [.int .i64 content_] .bool:=wX Tryz.func127 (h:=fun _ _ h hQ M=>by unfold F_3i at h;exact tX)
def F_1a (a_:GEstate) (place_:Int):Option Bool := chk (in64 (a_.Places - 1)) ((F_2n place_ 0 (a_.Places - 1)).bind fun y2=>some y2)
instance Wq_1a {a_:GEstate} {place_:Int}:WJ (F_1a a_ place_) 124 [GEstate.v a_,.int .i64 place_] .bool:=wX Tryz.func124 (h:=fun _ _ h hQ M=>by unfold F_1a at h;exact tX)
def F_1b (a_:GEstate) (x_:GAccess):Option Bool := jn (α:=Bool×GAccess) (jn (α:=Bool) (bif decide (x_.Kind=1) then some true else some (decide (x_.Kind=2))) fun j7=>bif j7 then (F_2n x_.Principal 0 23).bind fun y8=>some (y8,(GAccess.mk x_.Time x_.Kind x_.Place x_.Principal 0 0 0)) else bif decide (x_.Kind=3) then bif decide (x_.Time<x_.Until) then some (decide (x_.Until≤1099511627776),(GAccess.mk x_.Time x_.Kind x_.Place 0 x_.Until 0 0)) else some (false,(GAccess.mk x_.Time x_.Kind x_.Place 0 x_.Until 0 0)) else bif decide (x_.Kind=4) then some (true,(GAccess.mk x_.Time x_.Kind x_.Place 0 0 0 0)) else jn (α:=Bool) (bif decide (x_.Kind=5) then some true else some (decide (x_.Kind=6))) fun j9=>bif j9 then (F_3i x_.Content).bind fun y10=>some (y10,(GAccess.mk x_.Time x_.Kind x_.Place 0 0 x_.Content 0)) else bif decide (x_.Kind=7) then (F_1a a_ x_.From).bind fun y11=>bif y11 then some ((!decide (x_.From=x_.Place)),(GAccess.mk x_.Time x_.Kind x_.Place 0 0 0 x_.From)) else some (false,(GAccess.mk x_.Time x_.Kind x_.Place 0 0 0 x_.From)) else some (false,(GAccess.mk x_.Time x_.Kind x_.Place 0 0 0 0))) fun j6=>jn (α:=Bool) (bif j6.1 then (F_1a a_ x_.Place).bind fun y16=>some y16 else some false) fun j17=>grp ((j17&&(decide (x_.Time=j6.2.Time)&&(decide (x_.Kind=j6.2.Kind)&&(decide (x_.Place=j6.2.Place)&&(decide (x_.Principal=j6.2.Principal)&&(decide (x_.Until=j6.2.Until)&&(decide (x_.Content=j6.2.Content)&&decide (x_.From=j6.2.From))))))))) fun b18=>some b18
def a_1b:List (Nat×RN):=[(16,⟨[],[],[.w 2 6 1211602,.v 8 11]⟩)]
@[irreducible] def mc_4w:MC:=rdc (cK Tryz.prog Tryz.f121 a_1b [] 10000013)
@[irreducible] def mc_5d:MC:=rdc (cK Tryz.prog Tryz.f121 a_1b [(10000013,mc_4w)] 10000006)
@[irreducible] def mc_5t:MC:=rdc (cK Tryz.prog Tryz.f121 a_1b [(10000013,mc_4w),(10000006,mc_5d)] 10000016)
instance:LI mc_4w 0 0 [2,3,5,6,15] [5,3,2] (fun y:Bool=>[(42,.bool y)]) (fun y=>[]) []:=⟨⟩
instance:LI mc_5d 0 0 [2,3,5,6,15] [5,3,2] (fun y:Bool=>[(16,.bool y)]) (fun y=>[]) []:=⟨⟩
instance {m:List MOp}:GI (gjt 1211602 m) [3,5] [5,3] (fun y:Bool=>[(73,.bool y)]) (fun y=>[]):=⟨⟩
instance:LI mc_5t 0 0 [2,3,5] [3,2] (fun y:Bool×GAccess=>[(6,.bool y.1)]) (fun y=>[.o 5 (.cells [.int .i64 y.2.Time,.int .i64 y.2.Kind,.int .i64 y.2.Place,.int .i64 y.2.Principal,.int .i64 y.2.Until,.int .i64 y.2.Content,.int .i64 y.2.From])]) []:=⟨⟩
instance Wq_1b {a_:GEstate} {x_:GAccess}:WJ (F_1b a_ x_) 121 [GEstate.v a_,GAccess.v x_] .bool:=wX Tryz.func121 a_1b [(10000013,mc_4w),(10000006,mc_5d),(10000016,mc_5t)] (h:=fun _ _ h hQ M=>by unfold F_1b at h;exact tX)
def F_42 (a_:GEstate) (k137:Int) (a138:GAccess) (x136:Int):Option (Fl Int Int) := grp ((decide (a138.Time<x136)||decide (1099511627776<a138.Time))) fun b169=>bif b169 then some (.ex 34) else (F_1b a_ a138).bind fun y170=>bif (!y170) then some (.ex 34) else some (.nx a138.Time)
def F_a (a_:GEstate):Option Int := (F_2n a_.Places 1 16).bind fun y7=>grp (((!y7)||decide (120<(a_.Events.length:Int)))) fun b8=>bif b8 then some 34 else (forL (F_42 a_) a_.Events 0 0).bind fun o=>o.elim (fun x171=>some 0) (fun r172=>some r172)
def a_a:List (Nat×RN):=[(1,⟨[],[],[.v 5 9]⟩),(4,⟨[.gc [1,3,28,29,30,33,34,35,36]],[],[]⟩),(7,⟨[],[],[.v 5 8]⟩),(9,⟨[.gc [1,5,17,18,19,28,29,30,33,34,35,36]],[],[]⟩)]
@[irreducible] def mc_42:MC:=rdc (cK Tryz.prog Tryz.f80 a_a [] 5)
attribute [go_sem] F_42
instance:LI mc_42 19 18 [1,17,18] [1] (fun y:Int=>[(3,.int .i64 y)]) (fun y=>[]) []:=⟨⟩
instance Wq_a {a_:GEstate}:WJ (F_a a_) 80 [GEstate.v a_] (.int .i64):=wX Tryz.func80 a_a [(5,mc_42)] (h:=fun _ _ h hQ M=>by unfold F_a at h;exact tX)
def F_2o (d_:GDirectory) (a_:GEstate):Option Int := (F_5 d_).bind fun y4=>bif (!decide (y4=0)) then some y4 else (F_a a_).bind fun y6=>some y6
instance Wq_2o {d_:GDirectory} {a_:GEstate}:WJ (F_2o d_ a_) 123 [GDirectory.v d_,GEstate.v a_] (.int .i64):=wX Tryz.func123 [(4,⟨[.gc [3]],[],[]⟩)] (h:=fun _ _ h hQ M=>by unfold F_2o at h;exact tX)
def F_3j (a_:GEstate) (place_:Int):Option Bool := (F_a a_).bind fun y4=>jn (α:=Bool) (bif decide (y4=0) then (F_1a a_ place_).bind fun y6=>some y6 else some false) fun j7=>some j7
instance {m:List MOp}:GI (gjt 1600104 m) [4] [] (fun y:Bool=>[(12,.bool y)]) (fun y=>[]):=⟨⟩
instance Wq_3j {a_:GEstate} {place_:Int}:WJ (F_3j a_ place_) 160 [GEstate.v a_,.int .i64 place_] .bool:=wX Tryz.func160 [(1,⟨[],[],[.w 4 7 1600104]⟩)] (h:=fun _ _ h hQ M=>by unfold F_3j at h;exact tX)
def F_5u (place_:Int) (t_:Int) (k24:Int) (a19:Int×GAccess) (x18:Unit):Option (Fl Unit (Int×Bool)) := grp ((decide (t_<a19.2.Time)||(!decide (a19.2.Place=place_)))) fun b26=>bif b26 then some (.nx ()) else bif decide (a19.2.Kind=4) then some (.ex (0,false)) else grp ((decide (a19.2.Kind=3)&&decide (t_<a19.2.Until))) fun b28=>bif b28 then some (.ex (a19.1,true)) else some (.nx ())
def F_3 (a_:GEstate) (place_:Int) (t_:Int):Option (Int×Bool) := (F_3j a_ place_).bind fun y4=>bif (!y4) then some (0,false) else (backF a_.Events).bind fun y17=>(forL (F_5u place_ t_) (revp a_.Events) 0 ()).bind fun o=>o.elim (fun x29=>some (0,false)) (fun r30=>some r30)
@[irreducible] def mg_5e:List MOp:=rdc (cG Tryz.prog Tryz.f125 [] 6 5 9)
@[irreducible] def mg_5f:List MOp:=rdc (cG Tryz.prog Tryz.f125 [] 9 4 8)
def a_3:List (Nat×RN):=[(6,⟨[.gc [4,5,6,7,8,9,25,26,27,28,39,40,41,42]],[],[.u 5 9 mg_5e]⟩),(7,⟨[.gc [5,6,7,8,9,39,40,41,42]],[],[]⟩),(9,⟨[],[],[.u 4 8 mg_5f]⟩),(10,⟨[.gc [6,7,8]],[],[]⟩)]
@[irreducible] def mc_5g:MC:=rdc (cK Tryz.prog Tryz.f125 a_3 [] 6)
def mc_3:MC:=rdc (cT Tryz.prog Tryz.f125 a_3 [(6,mc_5g)])
instance Wq_3 {a_:GEstate} {place_ t_:Int}:WI (F_3 a_ place_ t_) Tryz.prog 125 [GEstate.v a_,.int .i64 place_,.int .i64 t_] [] (fun z=>.tup [.int .i64 z.1,.bool z.2]) (fun z=>[]):=⟨fun Q Q' h hQ=>by
 refine acallM mc_3 [] [] [.c 6 none,.c 7 none] Tryz.func125 fun M=>?_
 unfold F_3 at h
 unfold mc_3
 replace h:=tY h
 refine tB ?_
 repeat' (first
 | (exact tZ)
 | ((first|refine oblg h ?_|refine roomG h ?_|refine inbG h ?_|refine incG h ?_|refine divG h ?_|refine appG h ?_|refine appC h ?_|refine fork h ?_ ?_|refine forkS h ?_ ?_)<;>clear h<;>intro hc h)
 | (obtain ⟨y,hy,h⟩:=h;(first|have hw:=W_6i (f:=GAccess.v) hy|have hw:=WI.w hy);replace hw:=tY hw;(first|refine M.sC hw ?_|refine M.sD hw ?_);clear hw hy;refine tB ?_)
 | (refine M.gv1 (ms:=mg_5f) 43 [39,40,41,42] h ?_ ?_<;>first
 | (clear h;intro K hK1;unfold mg_5f;refine tB ?_)
 | (clear h;intro b h;replace h:=tY h;refine tB ?_))
 | (refine M.gv1 (ms:=mg_5e) 29 [25,26,27,28] h ?_ ?_<;>first
 | (clear h;intro K hK2;unfold mg_5e;refine tB ?_)
 | (clear h;intro b h;replace h:=tY h;refine tB ?_))
 | (refine M.rfor (b:=mc_5g) (enc:=fun a=>[.int .i64 a.1,GAccess.v a.2]) [3,4,5,6,7] [3,7,6,5,4] (fun x=>[]) [] h rfl (W_6j fun a=>⟨_,rfl,rfl,rfl⟩) rfl (fun a=>⟨rfl,rfl⟩) ?_ ?_ rfl ?_<;>first
 | (clear h;intro k a x Qn K hK3 hkN3 h hf;clear hf;unfold F_5u at h;unfold mc_5g;replace h:=tY h;refine tB ?_)
  |(clear h;intro x h;replace h:=tY h;refine tB ?_)
  |(clear h;(try refine tB ?_);exact tU0;done))
 | ((first|refine hK1 _ ?_|refine hK2 _ ?_);exact tU;done)
 | (refine hK3 _ ?_;(try refine tB ?_);refine ⟨_,h,?_⟩;exact tU0;done)
 | (refine bfork (fun hc=>?_) (fun hc=>?_))
 | (refine tE ?_;(first|rw [M.lok_compU]|rw [M.lokD_compU]);refine tB ?_)
 | (refine tA ?_)
 | fail)⟩
def F_4x (d_:GDirectory) (p_:Int):Option Bool := grp ((decide (0≤p_)&&decide (p_<(d_.Kinds.length:Int)))) fun b3=>jn (α:=Bool) (bif b3 then chk (inb p_ d_.Kinds.length) (some (!decide ((d_.Kinds.getD (p_).toNat default)=2))) else some false) fun j4=>some j4
instance {m:List MOp}:GI (gjt 1920110 m) [4] [] (fun y:Bool=>[(21,.bool y)]) (fun y=>[]):=⟨⟩
instance Wq_4x {d_:GDirectory} {p_:Int}:WJ (F_4x d_ p_) 192 [GDirectory.v d_,.int .i64 p_] .bool:=wX Tryz.func192 [(1,⟨[],[],[.v 3 8,.w 10 16 1920110]⟩)] (h:=fun _ _ h hQ M=>by unfold F_4x at h;exact tX)
def F_43 (d_:GDirectory) (a_:GEstate) (p_:Int) (place_:Int):Option Bool := (F_2o d_ a_).bind fun y6=>jn (α:=Bool) (bif decide (y6=0) then (F_4x d_ p_).bind fun y8=>some y8 else some false) fun j9=>jn (α:=Bool) (bif j9 then (F_1a a_ place_).bind fun y11=>some y11 else some false) fun j12=>some j12
instance {m:List MOp}:GI (gjt 1620110 m) [8] [] (fun y:Bool=>[(22,.bool y)]) (fun y=>[]):=⟨⟩
instance {m:List MOp}:GI (gjt 1620105 m) [3,5,8] [5] (fun y:Bool=>[(17,.bool y)]) (fun y=>[]):=⟨⟩
instance Wq_43 {d_:GDirectory} {a_:GEstate} {p_ place_:Int}:WJ (F_43 d_ a_ p_ place_) 162 [GDirectory.v d_,GEstate.v a_,.int .i64 p_,.int .i64 place_] .bool:=wX Tryz.func162 [(1,⟨[],[],[.w 5 8 1620105,.w 10 13 1620110]⟩)] (h:=fun _ _ h hQ M=>by unfold F_43 at h;exact tX)
def F_44 (d_:GDirectory) (p_:Int):Option Bool := (F_5 d_).bind fun y4=>jn (α:=Bool) (bif decide (y4=0) then (F_1x d_ p_).bind fun y6=>some y6 else some false) fun j7=>some j7
instance {m:List MOp}:GI (gjt 2140104 m) [4] [] (fun y:Bool=>[(12,.bool y)]) (fun y=>[]):=⟨⟩
instance Wq_44 {d_:GDirectory} {p_:Int}:WJ (F_44 d_ p_) 214 [GDirectory.v d_,.int .i64 p_] .bool:=wX Tryz.func214 [(1,⟨[],[],[.w 4 7 2140104]⟩)] (h:=fun _ _ h hQ M=>by unfold F_44 at h;exact tX)
noncomputable def F_1z (k351:Int) (a352:Bool) (x350:(List Int)×(List Bool)):Option ((List Int)×(List Bool)) := jn (α:=Bool) (bif a352 then chk (inb k351 x350.2.length) (some (!(x350.2.getD ((k351).toNat) default))) else some false) fun j360=>bif j360 then chk (room (x350.1.length+[k351].length) 8) (chk (inb k351 x350.2.length) (some ((x350.1++[k351]),x350.2.set ((k351).toNat) true))) else some (x350.1,x350.2)
noncomputable def F_2p (x_:List (List Bool)) (x257:(List Int)×(List Bool)):Option (Fl ((List Int)×(List Bool)) (List Bool)) := bif decide (0<(x257.1.length:Int)) then chk (inb 0 x257.1.length) (chk (inb (x257.1.getD 0 default) x_.length) ((foldL F_1z (x_.getD (x257.1.getD 0 default).toNat default) 0 (x257.1,x257.2)).bind fun x361=>chk (inc 1 (x361.1.length:Int) x361.1.length) (some (.nx ((x361.1.drop 1).take (x361.1.length - 1),x361.2))))) else some (.ex x257.2)
noncomputable def F_t (x_:List (List Bool)) (p_:Int):Option (List Bool) := chk (roomI (x_.length:Int) (x_.length:Int) 1) (chk (inb p_ (List.replicate ((x_.length:Int)).toNat false).length) ((loop (F_2p x_) ([p_],(List.replicate ((x_.length:Int)).toNat false).set ((p_).toNat) true)).bind fun r362=>some r362))
def a_t:List (Nat×RN):=[(9,⟨[],[],[.w 2 7 2170902]⟩)]
@[irreducible] def mc_1z:MC:=rdc (cK Tryz.prog Tryz.f217 a_t [] 7)
@[irreducible] def mc_2p:MC:=rdc (cK Tryz.prog Tryz.f217 a_t [(7,mc_1z)] 4)
attribute [go_sem] F_1z F_2p
instance {m:List MOp}:GI (gjt 2170902 m) [0,5,6,7,27,28,29] [2006,11] (fun y:Bool=>[(41,.bool y)]) (fun y=>[]):=⟨⟩
instance:LI mc_1z 29 28 [0,27,28] [] (fun y:(List Int)×(List Bool)=>[(5,.osl 11 1 0 y.2.length),(6,.osl 2006 1 0 y.1.length)]) (fun y=>[.o 2006 (.arr 1 (y.1.map (V.int .i64))),.o 11 (.arr 1 (y.2.map V.bool))]) [.gc [0,5,6,27,28,29],.acc 6 2006 1]:=⟨⟩
instance:LI mc_2p 0 0 [0] [] (fun y:(List Int)×(List Bool)=>[(5,.osl 11 1 0 y.2.length),(6,.osl 2006 1 0 y.1.length)]) (fun y=>[.o 2006 (.arr 1 (y.1.map (V.int .i64))),.o 11 (.arr 1 (y.2.map V.bool))]) [.gc [0,5,6],.trim 6,.acc 6 2006 1]:=⟨⟩
instance Wq_t {x_:List (List Bool)} {p_:Int}:WJ (F_t x_ p_) 217 [.sl (x_.map (slV V.bool)),.int .i64 p_] fun z=>.sl (z.map V.bool):=wX Tryz.func217 a_t [(7,mc_1z),(4,mc_2p)] [.fz 4] (h:=fun _ _ h hQ M=>by unfold F_t at h;exact tX)
def F_45 (k16:Int) (a17:Bool) (x15:List Int):Option (List Int) := bif a17 then chk (room (x15.length+[k16].length) 8) (some (x15++[k16])) else some x15
def F_20 (l_:List Bool):Option (List Int) := (foldL F_45 l_ 0 []).bind fun x18=>some x18
def a_20:List (Nat×RN):=[(1,⟨[],[.k 0 1],[]⟩)]
@[irreducible] def mc_45:MC:=rdc (cK Tryz.prog Tryz.f215 a_20 [] 3)
attribute [go_sem] F_45
instance:LI mc_45 8 7 [6,7] [] (fun y:List Int=>[(3,.osl 2003 1 0 y.length)]) (fun y=>[.o 2003 (.arr 1 (y.map (V.int .i64)))]) [.gc [3,6,7,8],.acc 3 2003 1]:=⟨⟩
instance Wq_20 {l_:List Bool}:WJ (F_20 l_) 215 [.sl (l_.map V.bool)] fun z=>.sl (z.map (V.int .i64)):=wX Tryz.func215 a_20 [(3,mc_45)] [.fz 2] (h:=fun _ _ h hQ M=>by unfold F_20 at h;exact tX)
noncomputable def F_1c (d_:GDirectory) (p_:Int) (t_:Int):Option (List Int) := (F_44 d_ p_).bind fun y4=>bif (!y4) then some [] else (atF d_.Kinds.length (d_.Events.map fun e=>(e.Time,e.Kind,e.Principal,e.Group)) t_).bind fun y8=>(F_t y8 p_).bind fun y9=>(F_20 y9).bind fun y10=>some y10
def mc_1c:MC:=rdc (cT Tryz.prog Tryz.f193 [] [])
instance Wq_1c {d_:GDirectory} {p_ t_:Int}:WI (F_1c d_ p_ t_) Tryz.prog 193 [GDirectory.v d_,.int .i64 p_,.int .i64 t_] [] (fun z=>.sl (z.map (V.int .i64))) (fun z=>[]):=⟨fun Q Q' h hQ=>by
 refine acallM mc_1c [.fz 6] [] [.t 6] Tryz.func193 fun M=>?_
 unfold F_1c at h
 unfold mc_1c
 replace h:=tY h
 refine tB ?_
 repeat' (first
 | (exact tZ)
 | ((first|refine oblg h ?_|refine roomG h ?_|refine inbG h ?_|refine incG h ?_|refine divG h ?_|refine appG h ?_|refine appC h ?_|refine fork h ?_ ?_|refine forkS h ?_ ?_)<;>clear h<;>intro hc h)
 | (obtain ⟨y,hy,h⟩:=h;(first|have hw:=W_at (f:=GMember.v) (e4:=fun e=>(e.Time,e.Kind,e.Principal,e.Group)) (fun _=>rfl) hy|have hw:=WI.w hy);replace hw:=tY hw;(first|refine M.sC hw ?_|refine M.sD hw ?_);clear hw hy;refine tB ?_)
 | (refine tE ?_;(first|rw [M.lok_compU]|rw [M.lokD_compU]);refine tB ?_)
 | (refine tA ?_)
 | fail)⟩
def F_46 (place_:Int) (t_:Int) (k44:Int) (a45:GAccess) (x43:List (Int×Int)):Option (List (Int×Int)) := grp ((decide (t_<a45.Time)||(!decide (a45.Place=place_)))) fun b53=>bif b53 then some x43 else bif decide (a45.Kind=1) then some (aput a45.Principal k44 x43) else bif decide (a45.Kind=2) then some (adel a45.Principal x43) else some x43
def F_21 (a_:GEstate) (place_:Int) (t_:Int):Option (List (Int×Int)) := (foldL (F_46 place_ t_) a_.Events 0 []).bind fun x54=>some x54
def a_21:List (Nat×RN):=[(5,⟨[],[],[.v 5 9]⟩),(6,⟨[.gc [1,2,7,8,9,12,13,14,25,26,27,28]],[],[]⟩),(9,⟨[.gc [1,2,7,9,12,13,14,25,26,27,28]],[],[]⟩)]
@[irreducible] def mc_46:MC:=rdc (cK Tryz.prog Tryz.f218 a_21 [] 3)
attribute [go_sem] F_46
instance:LI mc_46 14 13 [1,2,7,12,13] [] (fun y:List (Int×Int)=>[]) (fun y=>[.o 10 (.map (.int .i64) (y.map (kvV (V.int .i64) (V.int .i64))))]) []:=⟨⟩
instance Wq_21 {a_:GEstate} {place_ t_:Int}:WJ (F_21 a_ place_ t_) 218 [GEstate.v a_,.int .i64 place_,.int .i64 t_] fun z=>(mpV (.int .i64) (V.int .i64) (V.int .i64)) z:=wX Tryz.func218 a_21 [(3,mc_46)] [.fz 6] (h:=fun _ _ h hQ M=>by unfold F_21 at h;exact tX)
noncomputable def F_22 (k21:Int) (a19:Int×Int) (x18:List Int):Option (List Int) := chk (room (x18.length+[a19.1].length) 8) (some (x18++[a19.1]))
noncomputable def F_b (a_:GEstate) (place_:Int) (t_:Int):Option (List Int) := (F_3j a_ place_).bind fun y4=>bif (!y4) then some [] else (F_21 a_ place_ t_).bind fun y15=>permL (fun l20=>(foldL F_22 l20 0 []).bind fun x22=>(sortI x22).bind fun y24=>some y24) y15
def a_b:List (Nat×RN):=[(3,⟨[],[.k 0 1],[]⟩),(8,⟨[],[.c 1 0 [2007] []],[]⟩)]
@[irreducible] def mc_22:MC:=rdc (cK Tryz.prog Tryz.f194 a_b [] 5)
def mc_b:MC:=rdc (cT Tryz.prog Tryz.f194 a_b [(5,mc_22)])
instance Wq_b {a_:GEstate} {place_ t_:Int}:WI (F_b a_ place_ t_) Tryz.prog 194 [GEstate.v a_,.int .i64 place_,.int .i64 t_] [] (fun z=>.sl (z.map (V.int .i64))) (fun z=>[]):=⟨fun Q Q' h hQ=>by
 refine acallM mc_b [.fz 6] [] [.t 6] Tryz.func194 fun M=>?_
 unfold F_b at h
 unfold mc_b
 replace h:=tY h
 refine tB ?_
 repeat' (first
 | (exact tZ)
 | (refine And.intro (by refine ⟨?_,?_,?_,?_⟩<;>omega) ?_;first|exact hQ _ h|(rw [zP (by omega)];exact hQ _ h))
 | (rw [←hlen];exact hQ _ h)
 | (have hq:=hQ _ h;simp only [xW,Nat.min_eq_left hlen.1] at hq;exact hq)
 | ((first|refine oblg h ?_|refine roomG h ?_|refine inbG h ?_|refine incG h ?_|refine divG h ?_|refine appG h ?_|refine appC h ?_|refine fork h ?_ ?_|refine forkS h ?_ ?_)<;>clear h<;>intro hc h)
 | (obtain ⟨y,hy,h⟩:=h;(first|(have hw:=acall_swe 1000 2007 (W_5p hy);replace hw:=tY hw;(try simp only [hlen] at hw);have hlen:=sortI_len hy)|have hw:=WI.w hy);replace hw:=tY hw;(first|refine M.sC hw ?_|refine M.sD hw ?_);clear hw hy;refine tB ?_)
 | (refine M.mfold1 (b:=mc_22) (kv:=(kvV (V.int .i64) (V.int .i64))) 17 [17] [] (fun x=>[(7,.osl 2007 1 0 x.length)]) (fun x=>[.o 2007 (.arr 1 (x.map (V.int .i64)))]) [.gc [7,17],.acc 7 2007 1] h ?_ ?_<;>first
 | (clear h;intro rem cur x k Qn K hK1 hs1 hn1;unfold F_22 at hn1;unfold mc_22;refine tB ?_)
 | (clear h;(try refine tB ?_);exact tU0;done))
 | (refine nxt_of hs1 hn1 ?_ ?_<;>first
  |(intro h;rw [M.lok_eq];replace h:=tY h;refine tB ?_)
  |(intro i a h;rw [M.lok_eq];replace h:=tY h;refine tB ?_))
 | (apply hK1;(try refine tB ?_);refine ⟨_,h,?_⟩;exact tU0;done)
 | (refine tE ?_;(first|rw [M.lok_compU]|rw [M.lokD_compU]);refine tB ?_)
 | (refine tA ?_)
 | fail)⟩
noncomputable def F_2q (y2:List Int) (k37:Int) (a38:Int) (x36:Unit):Option (Fl Unit (Int×Bool)) := (F_16 y2 a38).bind fun y46=>bif y46 then some (.ex (a38,true)) else some (.nx ())
noncomputable def F_1d (d_:GDirectory) (a_:GEstate) (p_:Int) (place_:Int) (t_:Int):Option (Int×Bool) := (F_1c d_ p_ t_).bind fun y2=>(F_b a_ place_ t_).bind fun y25=>(forL (F_2q y2) y25 0 ()).bind fun o=>o.elim (fun x47=>some (0,false)) (fun r48=>some r48)
def a_1d:List (Nat×RN):=[(2,⟨[.gc [3,4,6,12]],[],[]⟩),(6,⟨[.gc [14]],[],[]⟩)]
@[irreducible] def mc_2q:MC:=rdc (cK Tryz.prog Tryz.f163 a_1d [] 3)
attribute [go_sem] F_2q
instance:LI mc_2q 24 23 [12,22,23] [] (fun y:Unit=>[]) (fun y=>[]) []:=⟨⟩
instance Wq_1d {d_:GDirectory} {a_:GEstate} {p_ place_ t_:Int}:WJ (F_1d d_ a_ p_ place_ t_) 163 [GDirectory.v d_,GEstate.v a_,.int .i64 p_,.int .i64 place_,.int .i64 t_] fun z=>.tup [.int .i64 z.1,.bool z.2]:=wX Tryz.func163 a_1d [(3,mc_2q)] (h:=fun _ _ h hQ M=>by unfold F_1d at h;exact tX)
noncomputable def F_2r (d_:GDirectory) (a_:GEstate) (p_:Int) (place_:Int) (t_:Int):Option Bool := (F_43 d_ a_ p_ place_).bind fun y4=>bif (!y4) then some false else (F_3 a_ place_ t_).bind fun y6=>(F_1d d_ a_ p_ place_ t_).bind fun y8=>grp ((y6.2||y8.2)) fun b10=>some b10
instance Wq_2r {d_:GDirectory} {a_:GEstate} {p_ place_ t_:Int}:WJ (F_2r d_ a_ p_ place_ t_) 126 [GDirectory.v d_,GEstate.v a_,.int .i64 p_,.int .i64 place_,.int .i64 t_] .bool:=wX Tryz.func126 [(3,⟨[.gc [2,3,4,5,6,39]],[],[]⟩),(4,⟨[.gc [2,3,4,5,6,12,39]],[],[]⟩),(5,⟨[.gc [12,14,39]],[],[.v 2 3]⟩)] (h:=fun _ _ h hQ M=>by unfold F_2r at h;exact tX)
noncomputable def F_2s (d_:GDirectory) (a_:GEstate) (place_:Int) (t_:Int) (k54:Int) (a55:Int) (x53:Bool×(List Int)):Option (Bool×(List Int)) := (F_2r d_ a_ k54 place_ t_).bind fun y63=>bif y63 then chk (room (x53.2.length+[k54].length) 8) (some (x53.1,(x53.2++[k54]))) else some (x53.1,x53.2)
noncomputable def F_1e (d_:GDirectory) (a_:GEstate) (place_:Int) (t_:Int):Option (GAudience×Int) := (F_2o d_ a_).bind fun y4=>bif (!decide (y4=0)) then some ((GAudience.mk false []),y4) else (F_1a a_ place_).bind fun y8=>bif (!y8) then some ((GAudience.mk false []),6) else (F_3 a_ place_ t_).bind fun y10=>(foldL (F_2s d_ a_ place_ t_) d_.Kinds 0 (y10.2,[])).bind fun x64=>some ((GAudience.mk x64.1 x64.2),0)
def a_1e:List (Nat×RN):=[(3,⟨[.gc [8,10]],[],[]⟩),(4,⟨[.gc [2,3,4,5,8]],[],[]⟩),(5,⟨[.gc [8]],[],[]⟩),(7,⟨[.gc [2,3,4,5,8,12]],[.k 1 1],[]⟩),(12,⟨[.gc [2,3,4,5,8,13,14,38,39]],[],[]⟩)]
@[irreducible] def mc_2s:MC:=rdc (cK Tryz.prog Tryz.f82 a_1e [] 9)
attribute [go_sem] F_2s
instance:LI mc_2s 39 38 [2,3,4,5,8,13,38] [8,5,4] (fun y:Bool×(List Int)=>[]) (fun y=>[.o 13 (.cells [.bool y.1,.osl 4209 1 0 y.2.length]),.o 4209 (.arr 1 (y.2.map (V.int .i64)))]) [.gc [2,3,4,5,8,13,38,39],.ownC 13 1 4209 1 none]:=⟨⟩
instance Wq_1e {d_:GDirectory} {a_:GEstate} {place_ t_:Int}:WJ (F_1e d_ a_ place_ t_) 82 [GDirectory.v d_,GEstate.v a_,.int .i64 place_,.int .i64 t_] fun z=>.tup [GAudience.v z.1,.int .i64 z.2]:=wX Tryz.func82 a_1e [(9,mc_2s)] [.fzc 8] (h:=fun _ _ h hQ M=>by unfold F_1e at h;exact tX)
def F_47 (d_:GDirectory) (a_:GEstate) (content_:Int):Option Int := (F_2o d_ a_).bind fun y4=>bif (!decide (y4=0)) then some y4 else (F_3i content_).bind fun y8=>bif (!y8) then some 2 else some 0
instance Wq_47 {d_:GDirectory} {a_:GEstate} {content_:Int}:WJ (F_47 d_ a_ content_) 83 [GDirectory.v d_,GEstate.v a_,.int .i64 content_] (.int .i64):=wX Tryz.func83 [(4,⟨[.gc [2]],[],[]⟩)] (h:=fun _ _ h hQ M=>by unfold F_47 at h;exact tX)
def F_2t (k20:Int) (a21:GAccess) (x19:List Int):Option (List Int) := chk (room (x19.length+[a21.Time].length) 8) (some (x19++[a21.Time]))
def F_c (a_:GEstate):Option (List Int) := (F_a a_).bind fun y4=>bif (!decide (y4=0)) then some [] else (foldL F_2t a_.Events 0 []).bind fun x22=>(compactI x22).bind fun y24=>some ((y24.2.drop 0).take y24.1)
def a_c:List (Nat×RN):=[(0,⟨[],[.k 1 1],[]⟩),(2,⟨[],[.k 0 1],[]⟩),(3,⟨[],[.k 0 1],[]⟩),(9,⟨[],[.c 1 0 [2003] []],[]⟩)]
@[irreducible] def mc_2t:MC:=rdc (cK Tryz.prog Tryz.f164 a_c [] 5)
def mc_c:MC:=rdc (cT Tryz.prog Tryz.f164 a_c [(5,mc_2t)])
instance Wq_c {a_:GEstate}:WI (F_c a_) Tryz.prog 164 [GEstate.v a_] [] (fun z=>.osl 1900 1 0 z.length) (fun z=>[(1900,.arr 1 (z.map (V.int .i64)))]):=⟨fun Q Q' h hQ=>by
 refine acallM mc_c [.gc [2],.trim 2,.acc 2 1900 1] [1900] [.t 2] Tryz.func164 fun M=>?_
 unfold F_c at h
 unfold mc_c
 replace h:=tY h
 refine tB ?_
 repeat' (first
 | (exact tZ)
 | (refine And.intro (by refine ⟨?_,?_,?_,?_⟩<;>omega) ?_;first|exact hQ _ h|(rw [zP (by omega)];exact hQ _ h))
 | (rw [←hlen];exact hQ _ h)
 | (have hq:=hQ _ h;simp only [xW,Nat.min_eq_left hlen.1] at hq;exact hq)
 | ((first|refine oblg h ?_|refine roomG h ?_|refine inbG h ?_|refine incG h ?_|refine divG h ?_|refine appG h ?_|refine appC h ?_|refine fork h ?_ ?_|refine forkS h ?_ ?_)<;>clear h<;>intro hc h)
 | (obtain ⟨y,hy,h⟩:=h;(first|(have hw:=acall_swe 1000 2003 (W_5q hy);replace hw:=tY hw;(try simp only [hlen] at hw);have hlen:=compactI_len hy)|have hw:=WI.w hy);replace hw:=tY hw;(first|refine M.sC hw ?_|refine M.sD hw ?_);clear hw hy;refine tB ?_)
 | (refine M.fold1 (b:=mc_2t) 12 [10,11] [] (fun x=>[(3,.osl 2003 1 0 x.length)]) (fun x=>[.o 2003 (.arr 1 (x.map (V.int .i64)))]) [.gc [3,10,11,12],.acc 3 2003 1] h ?_ ?_ ?_<;>first
 | (clear h;intro k a x Qn K hK1 hkN1 ha1 h hf;have hl:=fact_int (factsE_find (n:=11) hf.1 rfl);clear hf;have hkd:=kD hkN1;have hkB1:=kB hkN1;have hkI1:=kI (k:=k) (by omega);(try simp only [hlen] at hkd hkB1 hkN1);unfold F_2t at h;unfold mc_2t;replace h:=tY h;refine tK ha1 hkd hkN1 hkB1 hkI1 ?_)
  |(clear h;intro x K h;replace h:=And.left (And.intro h trivial);(try simp only [hlen]);unfold mc_2t;replace h:=tY h;refine tB ?_)
  |(clear h;(try refine tB ?_);exact tU0;done))
 | (simp only [ha1])
 | (refine hK1 _ ?_;(try refine tB ?_);refine ⟨_,h,?_⟩;exact tU0;done)
 | (refine tE ?_;(first|rw [M.lok_compU]|rw [M.lokD_compU]);refine tB ?_)
 | (refine tA ?_)
 | fail)⟩
def F_1f (k18:Int) (a19:GMember) (x17:List Int):Option (List Int) := chk (room (x17.length+[a19.Time].length) 8) (some (x17++[a19.Time]))
def F_d (d_:GDirectory) (a_:GEstate):Option (List Int) := (F_c a_).bind fun y2=>(foldL F_1f d_.Events 0 y2).bind fun x20=>(sortI x20).bind fun y22=>(compactI y22).bind fun y24=>some ((y24.2.drop 0).take y24.1)
def a_d:List (Nat×RN):=[(1,⟨[],[.c 1 0 [] [9]],[]⟩),(7,⟨[],[.c 1 0 [2005] []],[]⟩),(8,⟨[],[.c 1 0 [2005] []],[]⟩)]
@[irreducible] def mc_1f:MC:=rdc (cK Tryz.prog Tryz.f128 a_d [] 3)
def mc_d:MC:=rdc (cT Tryz.prog Tryz.f128 a_d [(3,mc_1f)])
instance Wq_d {d_:GDirectory} {a_:GEstate}:WI (F_d d_ a_) Tryz.prog 128 [GDirectory.v d_,GEstate.v a_] [] (fun z=>.sl (z.map (V.int .i64))) (fun z=>[]):=⟨fun Q Q' h hQ=>by
 refine acallM mc_d [.fz 4] [] [.t 4] Tryz.func128 fun M=>?_
 unfold F_d at h
 unfold mc_d
 replace h:=tY h
 refine tB ?_
 repeat' (first
 | (exact tZ)
 | (refine And.intro (by refine ⟨?_,?_,?_,?_⟩<;>omega) ?_;first|exact hQ _ h|(rw [zP (by omega)];exact hQ _ h))
 | (rw [←hlen];exact hQ _ h)
 | (have hq:=hQ _ h;simp only [xW,Nat.min_eq_left hlen.1] at hq;exact hq)
 | ((first|refine oblg h ?_|refine roomG h ?_|refine inbG h ?_|refine incG h ?_|refine divG h ?_|refine appG h ?_|refine appC h ?_|refine fork h ?_ ?_|refine forkS h ?_ ?_)<;>clear h<;>intro hc h)
 | (obtain ⟨y,hy,h⟩:=h;(first|have hw:=acall_swe 1900 9 (Wq_c.c.w hy)|(have hw:=acall_swe 1000 2005 (W_5p hy);replace hw:=tY hw;(try simp only [hlen] at hw);have hlen:=sortI_len hy)|(have hw:=acall_swe 1000 2005 (W_5q hy);replace hw:=tY hw;(try simp only [hlen] at hw);have hlen:=compactI_len hy));replace hw:=tY hw;(first|refine M.sC hw ?_|refine M.sD hw ?_);clear hw hy;refine tB ?_)
 | (refine M.fold1 (b:=mc_1f) 13 [11,12] [] (fun x=>[(5,.osl 2005 1 0 x.length)]) (fun x=>[.o 2005 (.arr 1 (x.map (V.int .i64)))]) [.gc [5,11,12,13],.acc 5 2005 1] h ?_ ?_ ?_<;>first
 | (clear h;intro k a x Qn K hK1 hkN1 ha1 h hf;have hl:=fact_int (factsE_find (n:=12) hf.1 rfl);clear hf;have hkd:=kD hkN1;have hkB1:=kB hkN1;have hkI1:=kI (k:=k) (by omega);(try simp only [hlen] at hkd hkB1 hkN1);unfold F_1f at h;unfold mc_1f;replace h:=tY h;refine tK ha1 hkd hkN1 hkB1 hkI1 ?_)
  |(clear h;intro x K h;replace h:=And.left (And.intro h trivial);(try simp only [hlen]);unfold mc_1f;replace h:=tY h;refine tB ?_)
  |(clear h;(try refine tB ?_);exact tU0;done))
 | (simp only [ha1])
 | (refine hK1 _ ?_;(try refine tB ?_);refine ⟨_,h,?_⟩;exact tU0;done)
 | (refine tE ?_;(first|rw [M.lok_compU]|rw [M.lokD_compU]);refine tB ?_)
 | (refine tA ?_)
 | fail)⟩
def F_3k (content_:Int):Option Int := chk (shok content_ 64) (some (IntKind.wrap .u64 (1*2^(content_).toNat)))
instance Wq_3k {content_:Int}:WJ (F_3k content_) 197 [.int .i64 content_] fun z=>.int .u64 z:=wX Tryz.func197 (h:=fun _ _ h hQ M=>by unfold F_3k at h;exact tX)
def F_2u (s_:List Int) (x_:GAccess):Option (List Int) := bif decide (x_.Kind=5) then chk (inb x_.Place s_.length) ((F_3k x_.Content).bind fun y1=>chk (inb x_.Place s_.length) (some (s_.set ((x_.Place).toNat) (bits .or .u64 (s_.getD ((x_.Place).toNat) default) y1)))) else bif decide (x_.Kind=6) then chk (inb x_.Place s_.length) ((F_3k x_.Content).bind fun y2=>chk (inb x_.Place s_.length) (some (s_.set ((x_.Place).toNat) (bits .andNot .u64 (s_.getD ((x_.Place).toNat) default) y2)))) else bif decide (x_.Kind=7) then chk (inb x_.Place s_.length) (chk (inb x_.From s_.length) (chk (inb x_.Place s_.length) (some (s_.set ((x_.Place).toNat) (bits .or .u64 (s_.getD ((x_.Place).toNat) default) (s_.getD ((x_.From).toNat) default)))))) else some s_
instance Wq_2u {s_:List Int} {x_:GAccess}:WI (F_2u s_ x_) Tryz.prog 227 [.osl 1000 1 0 s_.length,GAccess.v x_] [(1000,.arr 1 (s_.map (V.int .u64)))] (fun z=>.tup []) (fun z=>[(1000,.arr 1 (z.map (V.int .u64)))]):=wX Tryz.func227 [(7,⟨[.gc [0,3]],[],[]⟩)] [] [] [1000] (h:=fun _ _ h hQ M=>by unfold F_2u at h;exact tX)
theorem F_6k {s_:List Int} {x_:GAccess} {y:List Int} (h:(F_2u s_ x_)=some y):y.length=s_.length:=by
 simp only [F_2u,chk,cond_eq_ite,zL] at h
 repeat' (first|(split at h)|(simp only [zL] at h)|(obtain ⟨_,_,h⟩:=h)|(cases h;done)|(obtain rfl:=x8 h;simp;done)|(simp;done)|(subst h;simp;done))
def F_2v (t_:Int) (k30:Int) (a31:GAccess) (x29:List Int):Option (List Int) := bif decide (a31.Time≤t_) then (F_2u x29 a31).bind fun y35=>some y35 else some x29
def F_u (a_:GEstate) (t_:Int):Option (List Int) := chk (roomI a_.Places a_.Places 8) ((foldL (F_2v t_) a_.Events 0 (List.replicate (a_.Places).toNat 0)).bind fun x36=>some x36)
def a_u:List (Nat×RN):=[(6,⟨[],[.c 2 0 [10] []],[]⟩)]
@[irreducible] def mc_2v:MC:=rdc (cK Tryz.prog Tryz.f196 a_u [] 3)
def mc_u:MC:=rdc (cT Tryz.prog Tryz.f196 a_u [(3,mc_2v)])
instance Wq_u {a_:GEstate} {t_:Int}:WI (F_u a_ t_) Tryz.prog 196 [GEstate.v a_,.int .i64 t_] [] (fun z=>.sl (z.map (V.int .u64))) (fun z=>[]):=⟨fun Q Q' h hQ=>by
 refine acallM mc_u [.fz 4] [] [.t 4] Tryz.func196 fun M=>?_
 unfold F_u at h
 unfold mc_u
 replace h:=tY h
 refine tB ?_
 repeat' (first
 | (exact tZ)
 | (rw [zP (by omega)];exact hQ _ h)
 | ((first|refine oblg h ?_|refine roomG h ?_|refine inbG h ?_|refine incG h ?_|refine divG h ?_|refine appG h ?_|refine appC h ?_|refine fork h ?_ ?_|refine forkS h ?_ ?_)<;>clear h<;>intro hc h)
 | (obtain ⟨y,hy,h⟩:=h;(have hw:=acall_swe 1000 10 (Wq_2u.c.w hy);replace hw:=tY hw;have hlen:=F_6k hy);replace hw:=tY hw;(first|refine M.sC hw ?_|refine M.sD hw ?_);clear hw hy;refine tB ?_)
 | (refine M.fold1 (b:=mc_2v) 14 [1,12,13] [] (fun x=>[(5,.osl 10 1 0 x.length)]) (fun x=>[.o 10 (.arr 1 (x.map (V.int .u64)))]) [] h ?_ ?_ ?_<;>first
 | (clear h;intro k a x Qn K hK1 hkN1 ha1 h hf;have hl:=fact_int (factsE_find (n:=13) hf.1 rfl);clear hf;have hkd:=kD hkN1;have hkB1:=kB hkN1;have hkI1:=kI (k:=k) (by omega);(try simp only [hlen] at hkd hkB1 hkN1);unfold F_2v at h;unfold mc_2v;replace h:=tY h;refine tK ha1 hkd hkN1 hkB1 hkI1 ?_)
  |(clear h;intro x K h;replace h:=And.left (And.intro h trivial);(try simp only [hlen]);unfold mc_2v;replace h:=tY h;refine tB ?_)
  |(clear h;(try refine tB ?_);exact tU;done))
 | (simp only [ha1])
 | (refine hK1 _ ?_;(try refine tB ?_);refine ⟨_,h,?_⟩;exact tU;done)
 | (refine tE ?_;(first|rw [M.lok_compU]|rw [M.lokD_compU]);refine tB ?_)
 | (refine tA ?_)
 | fail)⟩
def F_48 (content_:Int) (k56:Int) (a57:Int) (x55:List Int):Option (List Int) := (F_3k content_).bind fun y65=>bif (!decide ((bits .and .u64 a57 y65)=0)) then chk (room (x55.length+[k56].length) 8) (some (x55++[k56])) else some x55
def F_23 (a_:GEstate) (content_:Int) (t_:Int):Option (List Int) := (F_a a_).bind fun y7=>bif (!decide (y7=0)) then some [] else (F_3i content_).bind fun y8=>bif (!y8) then some [] else (F_u a_ t_).bind fun y37=>(foldL (F_48 content_) y37 0 []).bind fun x66=>some x66
def a_23:List (Nat×RN):=[(3,⟨[],[.k 0 1],[]⟩),(4,⟨[.gc [1,2,3,7]],[],[]⟩),(8,⟨[.gc [1,7,8,20,21,22]],[],[]⟩)]
@[irreducible] def mc_48:MC:=rdc (cK Tryz.prog Tryz.f167 a_23 [] 5)
attribute [go_sem] F_48
instance:LI mc_48 22 21 [1,20,21] [] (fun y:List Int=>[(7,.osl 2007 1 0 y.length)]) (fun y=>[.o 2007 (.arr 1 (y.map (V.int .i64)))]) [.gc [1,7,20,21,22],.acc 7 2007 1]:=⟨⟩
instance Wq_23 {a_:GEstate} {content_ t_:Int}:WJ (F_23 a_ content_ t_) 167 [GEstate.v a_,.int .i64 content_,.int .i64 t_] fun z=>.sl (z.map (V.int .i64)):=wX Tryz.func167 a_23 [(5,mc_48)] [.fz 6] (h:=fun _ _ h hQ M=>by unfold F_23 at h;exact tX)
noncomputable def F_2w (d_:GDirectory) (a_:GEstate) (p_:Int) (t_:Int) (k75:Int) (a76:Int) (x74:Unit):Option (Fl Unit (Int×Bool)) := (F_3 a_ a76 t_).bind fun y96=>grp ((decide (p_=(-1))&&y96.2)) fun b99=>bif b99 then some (.ex (a76,true)) else bif (!decide (p_=(-1))) then (F_2r d_ a_ p_ a76 t_).bind fun y100=>bif y100 then some (.ex (a76,true)) else some (.nx ()) else some (.nx ())
noncomputable def F_1g (d_:GDirectory) (a_:GEstate) (content_:Int) (p_:Int) (t_:Int):Option (Int×Bool) := (F_23 a_ content_ t_).bind fun y47=>(forL (F_2w d_ a_ p_ t_) y47 0 ()).bind fun o=>o.elim (fun x101=>some (0,false)) (fun r102=>some r102)
def a_1g:List (Nat×RN):=[(5,⟨[.gc [3,4,5,6,13,15,19,20,21,35,38,39,40,41,42,43,44,45,46,47]],[],[.v 3 4]⟩),(6,⟨[.gc [13]],[],[]⟩)]
@[irreducible] def mc_2w:MC:=rdc (cK Tryz.prog Tryz.f129 a_1g [] 2)
attribute [go_sem] F_2w
instance:LI mc_2w 21 20 [3,4,5,6,19,20] [6,5] (fun y:Unit=>[]) (fun y=>[]) []:=⟨⟩
instance Wq_1g {d_:GDirectory} {a_:GEstate} {content_ p_ t_:Int}:WJ (F_1g d_ a_ content_ p_ t_) 129 [GDirectory.v d_,GEstate.v a_,.int .i64 content_,.int .i64 p_,.int .i64 t_] fun z=>.tup [.int .i64 z.1,.bool z.2]:=wX Tryz.func129 a_1g [(2,mc_2w)] (h:=fun _ _ h hQ M=>by unfold F_1g at h;exact tX)
noncomputable def F_2x (d_:GDirectory) (a_:GEstate) (content_:Int) (p_:Int) (k35:Int) (a36:Int) (x34:Unit):Option (Fl Unit (Int×Bool)) := (F_1g d_ a_ content_ p_ a36).bind fun y44=>bif y44.2 then some (.ex (a36,true)) else some (.nx ())
noncomputable def F_1h (d_:GDirectory) (a_:GEstate) (content_:Int) (p_:Int):Option (Int×Bool) := (F_d d_ a_).bind fun y23=>(forL (F_2x d_ a_ content_ p_) y23 0 ()).bind fun o=>o.elim (fun x45=>some (0,false)) (fun r46=>some r46)
def a_1h:List (Nat×RN):=[(6,⟨[.gc [11]],[],[]⟩)]
@[irreducible] def mc_2x:MC:=rdc (cK Tryz.prog Tryz.f84 a_1h [] 2)
attribute [go_sem] F_2x
instance:LI mc_2x 18 17 [2,3,4,5,16,17] [5,4] (fun y:Unit=>[]) (fun y=>[]) []:=⟨⟩
instance Wq_1h {d_:GDirectory} {a_:GEstate} {content_ p_:Int}:WJ (F_1h d_ a_ content_ p_) 84 [GDirectory.v d_,GEstate.v a_,.int .i64 content_,.int .i64 p_] fun z=>.tup [.int .i64 z.1,.bool z.2]:=wX Tryz.func84 a_1h [(2,mc_2x)] (h:=fun _ _ h hQ M=>by unfold F_1h at h;exact tX)
noncomputable def F_3l (d_:GDirectory) (a_:GEstate) (content_:Int) (p_:Int):Option (Int×Bool) := (F_47 d_ a_ content_).bind fun y4=>bif (!decide (y4=0)) then some (0,false) else (F_1h d_ a_ content_ p_).bind fun y6=>some (y6.1,y6.2)
instance Wq_3l {d_:GDirectory} {a_:GEstate} {content_ p_:Int}:WJ (F_3l d_ a_ content_ p_) 38 [GDirectory.v d_,GEstate.v a_,.int .i64 content_,.int .i64 p_] fun z=>.tup [.int .i64 z.1,.bool z.2]:=wX Tryz.func38 [(3,⟨[.gc [2,3,4,5]],[],[]⟩)] (h:=fun _ _ h hQ M=>by unfold F_3l at h;exact tX)
end Go.Ab
set_option maxRecDepth 20000
set_option maxHeartbeats 2000000
namespace Go.Ab
open Go.Proofs
def F_1i (n_:Int) (low_:Int) (high_:Int):Option Bool := grp ((decide (low_≤n_)&&decide (n_≤high_))) fun b2=>some b2
instance Wq_1i {n_ low_ high_:Int}:WJ (F_1i n_ low_ high_) 42 [.int .i64 n_,.int .i64 low_,.int .i64 high_] .bool:=wX Tryz.func42 [(1,⟨[],[],[.v 4 7]⟩)] (h:=fun _ _ h hQ M=>by unfold F_1i at h;exact tX)
noncomputable def F_3m (l_:List Int) (x9:Int):Option (Fl Int (Sum Unit Bool)) := bif decide (x9<(l_.length:Int)) then chk (in64 (x9 - 1)) (chk (inb (x9 - 1) l_.length) (chk (inb x9 l_.length) (bif decide ((l_.getD (x9).toNat default)≤(l_.getD ((x9 - 1)).toNat default)) then some (.ex (.inr false)) else chk (in64 (x9+1)) (some (.nx (x9+1)))))) else some (.ex (.inl ()))
noncomputable def F_1j (l_:List Int):Option Bool := (loop (F_3m l_) 1).bind fun r10=>Sum.elim (fun u11=>some true) (fun u12=>some u12) r10
def a_1j:List (Nat×RN):=[(3,⟨[.gc [0,3]],[],[]⟩)]
@[irreducible] def mc_3m:MC:=rdc (cK Tryz.prog Tryz.f43 a_1j [] 2)
attribute [go_sem] F_3m
instance:LI mc_3m 0 0 [0] [] (fun y:Int=>[(3,.int .i64 y)]) (fun y=>[]) []:=⟨⟩
instance Wq_1j {l_:List Int}:WJ (F_1j l_) 43 [.sl (l_.map (V.int .i64))] .bool:=wX Tryz.func43 a_1j [(2,mc_3m)] (h:=fun _ _ h hQ M=>by unfold F_1j at h;exact tX)
noncomputable def F_24 (c_:GCalendar):Option Int := (F_1i c_.Day 1 48).bind fun y16=>grp (((!y16)||decide (c_.From<0))) fun b17=>grp ((b17||decide (c_.To≤c_.From))) fun b18=>grp ((b18||decide (c_.Day<c_.To))) fun b19=>bif b19 then some 42 else (F_1i c_.Week 0 127).bind fun y20=>bif (!y20) then some 42 else bif decide (40<(c_.Holidays.length:Int)) then some 42 else (F_1j c_.Holidays).bind fun y24=>bif (!y24) then some 42 else bif decide (0<(c_.Holidays.length:Int)) then chk (inb 0 c_.Holidays.length) (bif decide ((c_.Holidays.getD 0 default)<0) then some 42 else some 0) else some 0
instance Wq_24 {c_:GCalendar}:WJ (F_24 c_) 19 [GCalendar.v c_] (.int .i64):=wX Tryz.func19 [(1,⟨[],[],[.v 5 8,.v 10 15,.v 17 22]⟩),(3,⟨[.gc [1,37,38,39,40,43,44,45,46,47,48,49,50,51,52,53]],[],[]⟩)] (h:=fun _ _ h hQ M=>by unfold F_24 at h;exact tX)
def F_25 (d_:GDirectory) (p_:Int):Option Bool := grp ((decide (0≤p_)&&decide (p_<(d_.Kinds.length:Int)))) fun b2=>some b2
instance Wq_25 {d_:GDirectory} {p_:Int}:WJ (F_25 d_ p_) 45 [GDirectory.v d_,.int .i64 p_] .bool:=wX Tryz.func45 [(1,⟨[],[],[.v 3 8]⟩)] (h:=fun _ _ h hQ M=>by unfold F_25 at h;exact tX)
def F_2y (d_:GDirectory) (k133:Int) (a134:GSteward) (x132:Int):Option (Fl Int Int) := jn (α:=Fl (GDirectory×Int×Bool×Bool×Int×Bool×Bool×Bool) Int) (grp ((decide (a134.Time<x132)||decide (1099511627776<a134.Time))) fun b169=>bif b169 then some (.ex 33) else (F_25 d_ a134.Subject).bind fun y170=>bif (!y170) then some (.ex 33) else bif (!decide (a134.Steward=(-1))) then (F_25 d_ a134.Steward).bind fun y171=>bif (!y171) then some (.ex 33) else bif decide (a134.Steward=a134.Subject) then some (.ex 33) else some (.nx (d_,a134.Subject,y170,(!y170),a134.Steward,(!decide (a134.Steward=(-1))),true,decide (a134.Steward=a134.Subject))) else some (.nx (d_,a134.Subject,y170,(!y170),a134.Steward,(!decide (a134.Steward=(-1))),false,false))) fun o=>o.elim (fun j165=>some (.nx a134.Time)) (fun r172=>some (.ex r172))
def F_n (d_:GDirectory) (l_:List GSteward):Option Int := (F_5 d_).bind fun y4=>bif (!decide (y4=0)) then some y4 else bif decide (120<(l_.length:Int)) then some 33 else (forL (F_2y d_) l_ 0 0).bind fun o=>o.elim (fun x173=>some 0) (fun r174=>some r174)
def a_n:List (Nat×RN):=[(7,⟨[.gc [1,2,6,28,29,30,33,34,35,36,37,40,41,42,43,44,45,46,47,48,49,50,51,52,53,54,55,56]],[],[]⟩),(10,⟨[],[],[.v 5 8]⟩)]
@[irreducible] def mc_5h:MC:=rdc (cK Tryz.prog Tryz.f20 a_n [] 10000012)
@[irreducible] def mc_2y:MC:=rdc (cK Tryz.prog Tryz.f20 a_n [(10000012,mc_5h)] 8)
attribute [go_sem] F_2y
instance:LI mc_5h 0 0 [2,8,17,18,19] [8,2] (fun y:GDirectory×Int×Bool×Bool×Int×Bool×Bool×Bool=>[(33,GDirectory.v y.1),(34,.ptr 8 1),(35,.int .i64 y.2.1),(36,.bool y.2.2.1),(37,.bool y.2.2.2.1),(40,.ptr 8 2),(41,.int .i64 y.2.2.2.2.1),(42,.bool y.2.2.2.2.2.1),(43,.bool y.2.2.2.2.2.2.1),(56,.bool y.2.2.2.2.2.2.2)]) (fun y=>[]) []:=⟨⟩
instance:LI mc_2y 19 18 [2,17,18] [2] (fun y:Int=>[(6,.int .i64 y)]) (fun y=>[]) []:=⟨⟩
instance Wq_n {d_:GDirectory} {l_:List GSteward}:WJ (F_n d_ l_) 20 [GDirectory.v d_,.sl (l_.map GSteward.v)] (.int .i64):=wX Tryz.func20 a_n [(10000012,mc_5h),(8,mc_2y)] (h:=fun _ _ h hQ M=>by unfold F_n at h;exact tX)
def F_26 (d_:GDirectory) (x_:GCase) (opened_:List (Int×Bool)):Option Bool := grp ((decide (x_.Case<0)||decide (16≤x_.Case))) fun b4=>bif b4 then some false else bif decide (x_.Kind=1) then jn (α:=Bool) (bif (!((aget x_.Case opened_).getD false)) then (dlF x_.Level).bind fun y23=>some (decide (0<y23)) else some false) fun j24=>grp ((j24&&decide (0≤x_.Owner))) fun b25=>grp ((b25&&decide (x_.Owner<(d_.Kinds.length:Int)))) fun b26=>some b26 else jn (α:=Bool) (bif decide (x_.Kind=2) then some true else some (decide (x_.Kind=3))) fun j27=>bif j27 then grp ((((aget x_.Case opened_).getD false)&&decide (x_.Level=0))) fun b30=>grp ((b30&&decide (x_.Owner=0))) fun b31=>some b31 else some false
def a_26:List (Nat×RN):=[(1,⟨[],[],[.v 4 7]⟩),(5,⟨[.gc [2,3,4,25,26,27,28,31,32,33,36,37,38,39,40,41]],[],[.w 6 10 460506,.v 12 15,.v 17 23]⟩),(8,⟨[],[],[.v 5 8,.v 10 13]⟩)]
@[irreducible] def mc_5v:MC:=rdc (cK Tryz.prog Tryz.f46 a_26 [] 10000008)
instance {m:List MOp}:GI (gjt 460506 m) [3,4] [4,3,1000] (fun y:Bool=>[(29,.bool y)]) (fun y=>[]):=⟨⟩
instance:LI mc_5v 0 0 [2,4] [4,1000] (fun y:Bool=>[(43,.bool y)]) (fun y=>[]) []:=⟨⟩
instance Wq_26 {d_:GDirectory} {x_:GCase} {opened_:List (Int×Bool)}:WI (F_26 d_ x_ opened_) Tryz.prog 46 [GDirectory.v d_,GCase.v x_,.omap 1000] [(1000,.map (.int .i64) (opened_.map (kvV (V.int .i64) V.bool)))] (fun z=>.bool z) (fun z=>[(1000,.map (.int .i64) (opened_.map (kvV (V.int .i64) V.bool)))]):=wX Tryz.func46 a_26 [(10000008,mc_5v)] [] [1000] (h:=fun _ _ h hQ M=>by unfold F_26 at h;exact tX)
def F_3n (d_:GDirectory) (k133:Int) (a134:GCase) (x132:Int×(List (Int×Bool))):Option (Fl (Int×(List (Int×Bool))) Int) := grp ((decide (a134.Time<x132.1)||decide (1099511627776<a134.Time))) fun b165=>bif b165 then some (.ex 43) else (F_26 d_ a134 x132.2).bind fun y166=>bif (!y166) then some (.ex 43) else some (.nx (a134.Time,aput a134.Case true x132.2))
def F_1k (d_:GDirectory) (l_:List GCase):Option Int := (F_5 d_).bind fun y4=>bif (!decide (y4=0)) then some y4 else bif decide (100<(l_.length:Int)) then some 43 else (forL (F_3n d_) l_ 0 (0,[])).bind fun o=>o.elim (fun x167=>some 0) (fun r168=>some r168)
def a_1k:List (Nat×RN):=[(6,⟨[.gc [1,2,30,31,32,35,36,37,38,39]],[],[]⟩),(10,⟨[],[.c 13 0 [18] []],[.v 5 8]⟩),(12,⟨[.gc [2,7,9,19,20,21,30,31,32,35,36,37,38,39]],[],[]⟩)]
@[irreducible] def mc_3n:MC:=rdc (cK Tryz.prog Tryz.f21 a_1k [] 8)
attribute [go_sem] F_3n
instance:LI mc_3n 21 20 [2,7,19,20] [2] (fun y:Int×(List (Int×Bool))=>[(6,.int .i64 y.1)]) (fun y=>[.o 18 (.map (.int .i64) (y.2.map (kvV (V.int .i64) V.bool)))]) []:=⟨⟩
instance Wq_1k {d_:GDirectory} {l_:List GCase}:WJ (F_1k d_ l_) 21 [GDirectory.v d_,.sl (l_.map GCase.v)] (.int .i64):=wX Tryz.func21 a_1k [(8,mc_3n)] (h:=fun _ _ h hQ M=>by have:SwA [(1000,18)]:=⟨⟩;unfold F_1k at h;exact tX)
def F_49 (k11:Int) (a12:Int) (x10:Unit):Option (Fl Unit Int) := bif (!decide (a12=0)) then some (.ex a12) else some (.nx ())
def F_4a (l_:List Int):Option Int := (forL F_49 l_ 0 ()).bind fun o=>o.elim (fun x13=>some 0) (fun r14=>some r14)
@[irreducible] def mc_49:MC:=rdc (cK Tryz.prog Tryz.f18 [] [] 2)
attribute [go_sem] F_49
instance:LI mc_49 7 6 [5,6] [] (fun y:Unit=>[]) (fun y=>[]) []:=⟨⟩
instance Wq_4a {l_:List Int}:WJ (F_4a l_) 18 [.sl (l_.map (V.int .i64))] (.int .i64):=wX Tryz.func18 [] [(2,mc_49)] (h:=fun _ _ h hQ M=>by unfold F_4a at h;exact tX)
def F_27 (t_:Int):Option Bool := (F_1i t_ 0 1099511627776).bind fun y2=>some y2
instance Wq_27 {t_:Int}:WJ (F_27 t_) 53 [.int .i64 t_] .bool:=wX Tryz.func53 (h:=fun _ _ h hQ M=>by unfold F_27 at h;exact tX)
def F_v (x_:Int):Option Bool := some (!decide (x_=x_))
instance Wq_v {x_:Int}:WJ (F_v x_) 51 [.int .i64 x_] .bool:=wX Tryz.func51 (h:=fun _ _ h hQ M=>by unfold F_v at h;exact tX)
def F_4b (x_:Int) (y_:Int):Option Bool := (F_v x_).bind fun y5=>jn (α:=Bool) (bif y5 then (F_v y_).bind fun y7=>some (!y7) else some false) fun j8=>grp ((j8||decide (x_<y_))) fun b9=>some b9
instance {m:List MOp}:GI (gjt 1380103 m) [0,1,4] [] (fun y:Bool=>[(11,.bool y)]) (fun y=>[]):=⟨⟩
instance Wq_4b {x_ y_:Int}:WJ (F_4b x_ y_) 138 [.int .i64 x_,.int .i64 y_] .bool:=wX Tryz.func138 [(1,⟨[],[],[.w 3 6 1380103,.v 8 11]⟩)] (h:=fun _ _ h hQ M=>by unfold F_4b at h;exact tX)
def F_2z (x_:Int):Option Bool := some (!decide (x_=x_))
instance Wq_2z {x_:Int}:WJ (F_2z x_) 139 [.int .i64 x_] .bool:=wX Tryz.func139 (h:=fun _ _ h hQ M=>by unfold F_2z at h;exact tX)
noncomputable def F_3o (x_:List Int) (target_:Int) (x17:Int×Int):Option (Fl (Int×Int) Int) := bif decide (x17.1<x17.2) then chk (in64 (x17.1+x17.2)) (chk (inb (IntKind.wrap .i64 ((IntKind.wrap .u64 (x17.1+x17.2)) / 2^1)) x_.length) ((F_4b (x_.getD ((IntKind.wrap .i64 ((IntKind.wrap .u64 (x17.1+x17.2)) / 2^1))).toNat default) target_).bind fun y21=>bif y21 then chk (in64 ((IntKind.wrap .i64 ((IntKind.wrap .u64 (x17.1+x17.2)) / 2^1))+1)) (some (.nx (((IntKind.wrap .i64 ((IntKind.wrap .u64 (x17.1+x17.2)) / 2^1))+1),x17.2))) else some (.nx (x17.1,(IntKind.wrap .i64 ((IntKind.wrap .u64 (x17.1+x17.2)) / 2^1)))))) else some (.ex x17.1)
noncomputable def F_1l (x_:List Int) (target_:Int):Option (Int×Bool) := (loop (F_3o x_ target_) (0,(x_.length:Int))).bind fun r22=>jn (α:=Bool) (bif decide (r22<(x_.length:Int)) then chk (inb r22 x_.length) (bif decide ((x_.getD (r22).toNat default)=target_) then some true else chk (inb r22 x_.length) ((F_2z (x_.getD (r22).toNat default)).bind fun y28=>bif y28 then (F_2z target_).bind fun y29=>some y29 else some false)) else some false) fun j30=>some (r22,j30)
def a_1l:List (Nat×RN):=[(5,⟨[.gc [0,1,6,7,8,9,36,37,38,39,40,41,42,43,44,45,46,47,48,49,50,51,52]],[],[]⟩),(8,⟨[],[],[.w 5 22 1020805]⟩)]
@[irreducible] def mc_3o:MC:=rdc (cK Tryz.prog Tryz.f102 a_1l [] 3)
attribute [go_sem] F_3o
instance:LI mc_3o 0 0 [0,1,6] [] (fun y:Int×Int=>[(7,.int .i64 y.1),(8,.int .i64 y.2)]) (fun y=>[]) []:=⟨⟩
instance {m:List MOp}:GI (gjt 1020805 m) [31] [] (fun y:Bool=>[(53,.bool y)]) (fun y=>[]):=⟨⟩
instance Wq_1l {x_:List Int} {target_:Int}:WJ (F_1l x_ target_) 102 [.sl (x_.map (V.int .i64)),.int .i64 target_] fun z=>.tup [.int .i64 z.1,.bool z.2]:=wX Tryz.func102 a_1l [(3,mc_3o)] (h:=fun _ _ h hQ M=>by unfold F_1l at h;exact tX)
noncomputable def F_1m (c_:GCalendar) (t_:Int):Option Bool := chk (divs t_ c_.Day) (chk (divs t_ c_.Day) ((F_1l c_.Holidays (t_ / c_.Day)).bind fun y2=>grp ((decide (c_.From≤(t_ % c_.Day))&&decide ((t_ % c_.Day)<c_.To))) fun b6=>jn (α:=Bool) (bif b6 then chk (divs (t_ / c_.Day) 7) (chk (shok ((t_ / c_.Day) % 7) 64) (some (decide (((c_.Week / 2^(((t_ / c_.Day) % 7)).toNat) % 2^1)=1)))) else some false) fun j7=>grp ((j7&&(!y2.2))) fun b8=>some b8))
instance {m:List MOp}:GI (gjt 540311 m) [8] [] (fun y:Bool=>[(42,.bool y)]) (fun y=>[]):=⟨⟩
instance Wq_1m {c_:GCalendar} {t_:Int}:WJ (F_1m c_ t_) 54 [GCalendar.v c_,.int .i64 t_] .bool:=wX Tryz.func54 [(2,⟨[.gc [2,5,6,29,30,31,32,35,36,37,38,39,40,41,44,45]],[],[]⟩),(3,⟨[.gc [2,5,6,8,29,30,31,32,35,36,37,38,39,40,41,44,45]],[],[.v 5 9,.w 11 18 540311,.v 20 22]⟩)] (h:=fun _ _ h hQ M=>by unfold F_1m at h;exact tX)
noncomputable def F_3p (c_:GCalendar) (t_:Int) (x41:Int×Int):Option (Fl (Int×Int) (Sum Unit (Int×Int))) := chk (in64 (t_+100000)) (bif decide (x41.2≤(min (t_+100000) 1099511627776)) then jn (α:=Fl Int (Int×Int)) (bif decide (x41.1=0) then some (.ex (x41.2,0)) else (F_1m c_ x41.2).bind fun y50=>bif y50 then chk (in64 (x41.1 - 1)) (some (.nx (x41.1 - 1))) else some (.nx x41.1)) fun o=>o.elim (fun j48=>chk (in64 (x41.2+1)) (some (.nx (j48,(x41.2+1))))) (fun r51=>some (.ex (.inr r51))) else some (.ex (.inl ())))
noncomputable def F_w (c_:GCalendar) (t_:Int) (n_:Int):Option (Int×Int) := (F_24 c_).bind fun y8=>bif (!decide (y8=0)) then some (0,42) else (F_27 t_).bind fun y11=>bif (!y11) then some (0,2) else (F_1i n_ 0 1000).bind fun y12=>bif (!y12) then some (0,2) else (loop (F_3p c_ t_) (n_,t_)).bind fun r52=>Sum.elim (fun u53=>some (0,41)) (fun u54=>some u54) r52
def a_w:List (Nat×RN):=[(9,⟨[.gc [8]],[],[]⟩),(11,⟨[.gc [1,2,3,8]],[],[]⟩)]
@[irreducible] def mc_5i:MC:=rdc (cK Tryz.prog Tryz.f47 a_w [] 10000007)
@[irreducible] def mc_3p:MC:=rdc (cK Tryz.prog Tryz.f47 a_w [(10000007,mc_5i)] 6)
attribute [go_sem] F_3p
instance:LI mc_5i 0 0 [1,3,8] [3] (fun y:Int=>[(2,.int .i64 y)]) (fun y=>[]) []:=⟨⟩
instance:LI mc_3p 0 0 [1,3] [3] (fun y:Int×Int=>[(2,.int .i64 y.1),(8,.int .i64 y.2)]) (fun y=>[]) []:=⟨⟩
instance Wq_w {c_:GCalendar} {t_ n_:Int}:WJ (F_w c_ t_ n_) 47 [GCalendar.v c_,.int .i64 t_,.int .i64 n_] fun z=>.tup [.int .i64 z.1,.int .i64 z.2]:=wX Tryz.func47 a_w [(10000007,mc_5i),(6,mc_3p)] (h:=fun _ _ h hQ M=>by unfold F_w at h;exact tX)
def F_4y (x_:GCase) (p_:Int) (p__:Int):Option Bool := grp ((decide (x_.Case=p_)&&decide (x_.Time≤p__))) fun b2=>some b2
instance Wq_4y {x_:GCase} {p_ p__:Int}:WI (F_4y x_ p_ p__) Tryz.prog 91 [GCase.v x_,.ptr 1000 0,.ptr 1001 0] [(1000,.cells [.int .i64 p_]),(1001,.cells [.int .i64 p__])] (fun z=>.bool z) (fun z=>[(1000,.cells [.int .i64 p_]),(1001,.cells [.int .i64 p__])]):=wX Tryz.func91 [(1,⟨[],[],[.v 5 9]⟩)] [] [] [1000,1001] (h:=fun _ _ h hQ M=>by unfold F_4y at h;exact tX)
def F_4c (fc0_:Int) (fc1_:Int) (k31:Int) (a32:GCase) (x30:Unit):Option (Fl Unit Int) := (F_4y a32 fc0_ fc1_).bind fun y40=>bif y40 then some (.ex k31) else some (.nx ())
def F_30 (s_:List GCase) (fc0_:Int) (fc1_:Int):Option Int := (forL (F_4c fc0_ fc1_) s_ 0 ()).bind fun o=>o.elim (fun x41=>some (-1)) (fun r42=>some r42)
def a_30:List (Nat×RN):=[(4,⟨[],[.c 5 0 [1000,1001] []],[]⟩)]
@[irreducible] def mc_4c:MC:=rdc (cK Tryz.prog Tryz.f132 a_30 [] 2)
attribute [go_sem] F_4c
instance:LI mc_4c 8 7 [0,1,7] [1001,1000] (fun y:Unit=>[]) (fun y=>[]) []:=⟨⟩
instance Wq_30 {s_:List GCase} {fc0_ fc1_:Int}:WI (F_30 s_ fc0_ fc1_) Tryz.prog 132 [.sl (s_.map GCase.v),.fn (.func 91) [.ptr 1000 0,.ptr 1001 0]] [(1000,.cells [.int .i64 fc0_]),(1001,.cells [.int .i64 fc1_])] (fun z=>.int .i64 z) (fun z=>[(1000,.cells [.int .i64 fc0_]),(1001,.cells [.int .i64 fc1_])]):=wX Tryz.func132 a_30 [(2,mc_4c)] [] [1000,1001] (h:=fun _ _ h hQ M=>by unfold F_30 at h;exact tX)
def F_4z (s_:List GCase) (fc0_:Int) (fc1_:Int):Option Bool := (F_30 s_ fc0_ fc1_).bind fun y2=>some (decide (0≤y2))
instance Wq_4z {s_:List GCase} {fc0_ fc1_:Int}:WI (F_4z s_ fc0_ fc1_) Tryz.prog 90 [.sl (s_.map GCase.v),.fn (.func 91) [.ptr 1000 0,.ptr 1001 0]] [(1000,.cells [.int .i64 fc0_]),(1001,.cells [.int .i64 fc1_])] (fun z=>.bool z) (fun z=>[(1000,.cells [.int .i64 fc0_]),(1001,.cells [.int .i64 fc1_])]):=wX Tryz.func90 [(1,⟨[],[.c 2 0 [1000,1001] []],[]⟩)] [] [] [1000,1001] (h:=fun _ _ h hQ M=>by unfold F_4z at h;exact tX)
def F_4d (l_:List GCase) (number_:Int) (t_:Int):Option Bool := (F_4z l_ number_ t_).bind fun y2=>some y2
instance Wq_4d {l_:List GCase} {number_ t_:Int}:WJ (F_4d l_ number_ t_) 48 [.sl (l_.map GCase.v),.int .i64 number_,.int .i64 t_] .bool:=wX Tryz.func48 [(1,⟨[],[.c 2 0 [4,5] []],[]⟩)] (h:=fun _ _ h hQ M=>by have:SwA [(1000,4),(1001,5)]:=⟨⟩;unfold F_4d at h;exact tX)
def F_3q (d_:GDirectory) (l_:List GSteward) (p_:Int):Option Bool := (F_n d_ l_).bind fun y4=>jn (α:=Bool) (bif decide (y4=0) then (F_25 d_ p_).bind fun y6=>some y6 else some false) fun j7=>some j7
instance {m:List MOp}:GI (gjt 270105 m) [6] [] (fun y:Bool=>[(15,.bool y)]) (fun y=>[]):=⟨⟩
instance Wq_3q {d_:GDirectory} {l_:List GSteward} {p_:Int}:WJ (F_3q d_ l_ p_) 27 [GDirectory.v d_,.sl (l_.map GSteward.v),.int .i64 p_] .bool:=wX Tryz.func27 [(1,⟨[],[],[.w 5 8 270105]⟩)] (h:=fun _ _ h hQ M=>by unfold F_3q at h;exact tX)
def F_31 (p_:Int) (t_:Int) (k44:Int) (a45:GSteward) (x43:Int):Option Int := grp ((decide (a45.Subject=p_)&&decide (a45.Time≤t_))) fun b53=>bif b53 then some a45.Steward else some x43
def F_1n (l_:List GSteward) (p_:Int) (t_:Int):Option Int := (foldL (F_31 p_ t_) l_ 0 (-1)).bind fun x54=>some x54
def a_1n:List (Nat×RN):=[(5,⟨[],[],[.v 5 9]⟩),(6,⟨[.gc [1,2,9,10,11,12,21,22,23,24]],[],[]⟩)]
@[irreducible] def mc_31:MC:=rdc (cK Tryz.prog Tryz.f29 a_1n [] 3)
attribute [go_sem] F_31
instance:LI mc_31 12 11 [1,2,10,11] [] (fun y:Int=>[(7,.int .i64 y)]) (fun y=>[]) []:=⟨⟩
instance Wq_1n {l_:List GSteward} {p_ t_:Int}:WJ (F_1n l_ p_ t_) 29 [.sl (l_.map GSteward.v),.int .i64 p_,.int .i64 t_] (.int .i64):=wX Tryz.func29 a_1n [(3,mc_31)] (h:=fun _ _ h hQ M=>by unfold F_1n at h;exact tX)
noncomputable def F_o (l_:List GSteward) (t_:Int) (x36:Int×(List Int)):Option (Fl (Int×(List Int)) (List Int)) := bif (!decide (x36.1=(-1))) then (F_16 x36.2 x36.1).bind fun y45=>bif (!y45) then chk (room (x36.2.length+[x36.1].length) 8) ((F_1n l_ x36.1 t_).bind fun y46=>some (.nx (y46,(x36.2++[x36.1])))) else some (.ex x36.2) else some (.ex x36.2)
noncomputable def F_1 (d_:GDirectory) (l_:List GSteward) (p_:Int) (t_:Int):Option (List Int) := (F_3q d_ l_ p_).bind fun y4=>bif (!y4) then some [] else (loop (F_o l_ t_) (p_,[])).bind fun r47=>some r47
def a_1:List (Nat×RN):=[(3,⟨[],[.k 0 1],[]⟩),(4,⟨[],[.c 5 0 [2009] []],[]⟩),(5,⟨[.gc [1,2,3,9,18,19,20,21]],[],[]⟩)]
@[irreducible] def mc_o:MC:=rdc (cK Tryz.prog Tryz.f10 a_1 [] 4)
def mc_1:MC:=rdc (cT Tryz.prog Tryz.f10 a_1 [(4,mc_o)])
theorem Wl_slices_Contains_int_int_0 {s_:List Int} {v_:Int} {y:Bool} (hy:F_16 s_ v_=some y):ACall Tryz.prog 28 [.osl 1000 1 0 s_.length,.int .i64 v_] [(1000,.arr 1 (s_.map (V.int .i64)))] (fun r H=>r=.bool y∧H=(1000,.arr 1 (s_.map (V.int .i64)))::[]):=by
 refine acall_lend (n:=1000) (k:=1) (args:=[.osl 1000 1 0 s_.length,.int .i64 v_]) ?_ (by simp [V.sealOK,V.sealOKs]) (by simp [V.lf,V.lfL,inHeap]) rfl (fun id o ho=>?_)
 ·have h:=Wq_16.c.w hy
  simpa [V.shut,V.sealL,take_ml] using h
 ·cases ho
instance Wq_1 {d_:GDirectory} {l_:List GSteward} {p_ t_:Int}:WI (F_1 d_ l_ p_ t_) Tryz.prog 10 [GDirectory.v d_,.sl (l_.map GSteward.v),.int .i64 p_,.int .i64 t_] [] (fun z=>.sl (z.map (V.int .i64))) (fun z=>[]):=⟨fun Q Q' h hQ=>by
 refine acallM mc_1 [.fz 8] [] [.t 8] Tryz.func10 fun M=>?_
 unfold F_1 at h
 unfold mc_1
 replace h:=tY h
 refine tB ?_
 repeat' (first
 | (exact tZ)
 | ((first|refine oblg h ?_|refine roomG h ?_|refine inbG h ?_|refine incG h ?_|refine divG h ?_|refine appG h ?_|refine appC h ?_|refine fork h ?_ ?_|refine forkS h ?_ ?_)<;>clear h<;>intro hc h)
 | (obtain ⟨y,hy,h⟩:=h;(first|have hw:=acall_swe 1000 2009 (Wl_slices_Contains_int_int_0 hy)|have hw:=WI.w hy);replace hw:=tY hw;(first|refine M.sC hw ?_|refine M.sD hw ?_);clear hw hy;refine tB ?_)
 | (refine M.wh1 (b:=mc_o) [1,3] [] (fun x=>[(2,.int .i64 x.1),(9,.osl 2009 1 0 x.2.length)]) (fun x=>[.o 2009 (.arr 1 (x.2.map (V.int .i64)))]) [.gc [1,2,3,9],.acc 9 2009 1] h ?_ ?_<;>first
 | (clear h;intro x Qn K hK1 h;unfold F_o at h;unfold mc_o;replace h:=tY h;refine tB ?_)
  |(clear h;(try refine tB ?_);exact tU0;done))
 | (refine hK1 _ ?_;(try refine tB ?_);refine ⟨_,h,?_⟩;exact tU0;done)
 | (refine tE ?_;(first|rw [M.lok_compU]|rw [M.lokD_compU]);refine tB ?_)
 | (refine tA ?_)
 | fail)⟩
noncomputable def F_x (c_:GCalendar) (d_:GDirectory) (s_:List GSteward) (l_:List GCase) (opening_:Int) (until_:Int) (x109:Int×(List GNotice)):Option (Fl (Int×(List GNotice)) (Sum (List GNotice) ((List GNotice)×Int))) := bif decide (x109.1≤3) then chk (in64 (x109.1 - 1)) (chk (inb (x109.1 - 1) x109.2.length) ((dlF ((l_.getD (opening_).toNat default).Level)).bind fun y142=>(F_w c_ ((x109.2.getD (((x109.1 - 1)).toNat) default).Time) y142).bind fun y143=>bif (!decide (y143.2=0)) then some (.ex (.inr ([],y143.2))) else bif decide (until_<y143.1) then some (.ex (.inl x109.2)) else chk (in64 (opening_+1)) (chk (inc (opening_+1) (l_.length:Int) l_.length) ((F_4d (l_.drop (((opening_+1)).toNat)) ((l_.getD (opening_).toNat default).Case) y143.1).bind fun y147=>bif y147 then some (.ex (.inl x109.2)) else (F_1 d_ s_ ((l_.getD (opening_).toNat default).Owner) y143.1).bind fun y149=>chk (in64 ((y149.length:Int) - 1)) (chk (inb (min x109.1 ((y149.length:Int) - 1)) y149.length) (chk (room (x109.2.length+[(GNotice.mk y143.1 ((l_.getD (opening_).toNat default).Case) (y149.getD ((min x109.1 ((y149.length:Int) - 1))).toNat default) x109.1)].length) 32) (chk (in64 (x109.1+1)) (some (.nx ((x109.1+1),(x109.2++[(GNotice.mk y143.1 ((l_.getD (opening_).toNat default).Case) (y149.getD ((min x109.1 ((y149.length:Int) - 1))).toNat default) x109.1)]))))))))))) else some (.ex (.inl x109.2))
noncomputable def F_e (c_:GCalendar) (d_:GDirectory) (s_:List GSteward) (l_:List GCase) (opening_:Int) (until_:Int):Option ((List GNotice)×Int) := chk (inb opening_ l_.length) (bif decide (until_<(l_.getD (opening_).toNat default).Time) then some ([],0) else (loop (F_x c_ d_ s_ l_ opening_ until_) (1,[(GNotice.mk ((l_.getD (opening_).toNat default).Time) ((l_.getD (opening_).toNat default).Case) ((l_.getD (opening_).toNat default).Owner) 0)])).bind fun r150=>Sum.elim (fun u151=>some (u151,0)) (fun u152=>some u152) r150)
def a_e:List (Nat×RN):=[(2,⟨[.gc [2,3,4,5,6,7,14,61,62,63,64,65,66,67,68]],[],[]⟩),(7,⟨[.gc [2,3,4,5,6,7,14,15,16,61,62,63,64,65,66,67,68]],[],[]⟩),(10,⟨[.gc [18]],[],[]⟩),(11,⟨[.gc [2,3,4,5,6,7,14,15,16,17,61,62,63,64,65,66,67,68]],[],[]⟩),(13,⟨[.gc [2,3,4,5,6,7,14,15,16,17,19,61,62,63,64,65,66,67,68]],[],[]⟩)]
@[irreducible] def mc_x:MC:=rdc (cK Tryz.prog Tryz.f22 a_e [] 6)
def mc_e:MC:=rdc (cT Tryz.prog Tryz.f22 a_e [(6,mc_x)])
instance Wq_e {c_:GCalendar} {d_:GDirectory} {s_:List GSteward} {l_:List GCase} {opening_ until_:Int}:WI (F_e c_ d_ s_ l_ opening_ until_) Tryz.prog 22 [GCalendar.v c_,GDirectory.v d_,.sl (s_.map GSteward.v),.sl (l_.map GCase.v),.int .i64 opening_,.int .i64 until_] [] (fun z=>.tup [.sl (z.1.map GNotice.v),.int .i64 z.2]) (fun z=>[]):=⟨fun Q Q' h hQ=>by
 refine acallM mc_e [.fz 12] [] [.t 12,.t 13] Tryz.func22 fun M=>?_
 unfold F_e at h
 unfold mc_e
 replace h:=tY h
 refine tB ?_
 repeat' (first
 | (exact tZ)
 | ((first|refine oblg h ?_|refine roomG h ?_|refine inbG h ?_|refine incG h ?_|refine divG h ?_|refine appG h ?_|refine appC h ?_|refine fork h ?_ ?_|refine forkS h ?_ ?_)<;>clear h<;>intro hc h)
 | (obtain ⟨y,hy,h⟩:=h;(first|with_reducible first|have hw:=W_5r hy|have hw:=WI.w hy);replace hw:=tY hw;(first|refine M.sC hw ?_|refine M.sD hw ?_);clear hw hy;refine tB ?_)
 | (refine M.wh1 (b:=mc_x) [2,3,4,5,6,7,14] [14,7,6] (fun x=>[(15,.osl 2015 4 0 x.2.length),(16,.int .i64 x.1)]) (fun x=>[.o 2015 (.arr 4 (x.2.map GNotice.v))]) [.gc [2,3,4,5,6,7,14,15,16],.acc 15 2015 4] h ?_ ?_<;>first
 | (clear h;intro x Qn K hK1 h;unfold F_x at h;unfold mc_x;replace h:=tY h;refine tB ?_)
  |(clear h;(try refine tB ?_);exact tU0;done))
 | (refine hK1 _ ?_;(try refine tB ?_);refine ⟨_,h,?_⟩;exact tU0;done)
 | (refine tE6 GNotice.v ([(GNotice.mk ((l_.getD (opening_).toNat default).Time) ((l_.getD (opening_).toNat default).Case) ((l_.getD (opening_).toNat default).Owner) 0)]:List GNotice) ?_;(first|rw [M.lok_compU]|rw [M.lokD_compU]|(simp only [slV,V.cells];first|rw [M.lok_comp]|rw [M.lokD_comp]));refine tB ?_)
 | (refine tE4 GNotice.v ?_;(first|rw [M.lok_compU]|rw [M.lokD_compU]|(simp only [V.cells];first|rw [M.lok_comp]|rw [M.lokD_comp]));refine tB ?_)
 | (refine tE ?_;(first|rw [M.lok_compU]|rw [M.lokD_compU]);refine tB ?_)
 | (refine tA ?_)
 | fail)⟩
def F_50 (x_:Int):Option Int := jn (α:=Int×Int) (bif decide (4294967296≤x_) then some ((x_ / 2^32),32) else some (x_,0)) fun j1=>jn (α:=Int×Int) (bif decide (65536≤j1.1) then chk (in64 (j1.2+16)) (some ((j1.1 / 2^16),(j1.2+16))) else some (j1.1,j1.2)) fun j2=>jn (α:=Int×Int) (bif decide (256≤j2.1) then chk (in64 (j2.2+8)) (some ((j2.1 / 2^8),(j2.2+8))) else some (j2.1,j2.2)) fun j3=>chk (inb ((u8 j3.1).toNat:Int) [0,1,2,2,3,3,3,3,4,4,4,4,4,4,4,4,5,5,5,5,5,5,5,5,5,5,5,5,5,5,5,5,6,6,6,6,6,6,6,6,6,6,6,6,6,6,6,6,6,6,6,6,6,6,6,6,6,6,6,6,6,6,6,6,7,7,7,7,7,7,7,7,7,7,7,7,7,7,7,7,7,7,7,7,7,7,7,7,7,7,7,7,7,7,7,7,7,7,7,7,7,7,7,7,7,7,7,7,7,7,7,7,7,7,7,7,7,7,7,7,7,7,7,7,7,7,7,7,8,8,8,8,8,8,8,8,8,8,8,8,8,8,8,8,8,8,8,8,8,8,8,8,8,8,8,8,8,8,8,8,8,8,8,8,8,8,8,8,8,8,8,8,8,8,8,8,8,8,8,8,8,8,8,8,8,8,8,8,8,8,8,8,8,8,8,8,8,8,8,8,8,8,8,8,8,8,8,8,8,8,8,8,8,8,8,8,8,8,8,8,8,8,8,8,8,8,8,8,8,8,8,8,8,8,8,8,8,8,8,8,8,8,8,8,8,8,8,8,8,8,8,8,8,8,8,8].length) (chk (in64 (j3.2+((([0,1,2,2,3,3,3,3,4,4,4,4,4,4,4,4,5,5,5,5,5,5,5,5,5,5,5,5,5,5,5,5,6,6,6,6,6,6,6,6,6,6,6,6,6,6,6,6,6,6,6,6,6,6,6,6,6,6,6,6,6,6,6,6,7,7,7,7,7,7,7,7,7,7,7,7,7,7,7,7,7,7,7,7,7,7,7,7,7,7,7,7,7,7,7,7,7,7,7,7,7,7,7,7,7,7,7,7,7,7,7,7,7,7,7,7,7,7,7,7,7,7,7,7,7,7,7,7,8,8,8,8,8,8,8,8,8,8,8,8,8,8,8,8,8,8,8,8,8,8,8,8,8,8,8,8,8,8,8,8,8,8,8,8,8,8,8,8,8,8,8,8,8,8,8,8,8,8,8,8,8,8,8,8,8,8,8,8,8,8,8,8,8,8,8,8,8,8,8,8,8,8,8,8,8,8,8,8,8,8,8,8,8,8,8,8,8,8,8,8,8,8,8,8,8,8,8,8,8,8,8,8,8,8,8,8,8,8,8,8,8,8,8,8,8,8,8,8,8,8,8,8,8,8,8,8]:Str).getD (((u8 j3.1).toNat:Int)).toNat 0).toNat:Int))) (some (j3.2+((([0,1,2,2,3,3,3,3,4,4,4,4,4,4,4,4,5,5,5,5,5,5,5,5,5,5,5,5,5,5,5,5,6,6,6,6,6,6,6,6,6,6,6,6,6,6,6,6,6,6,6,6,6,6,6,6,6,6,6,6,6,6,6,6,7,7,7,7,7,7,7,7,7,7,7,7,7,7,7,7,7,7,7,7,7,7,7,7,7,7,7,7,7,7,7,7,7,7,7,7,7,7,7,7,7,7,7,7,7,7,7,7,7,7,7,7,7,7,7,7,7,7,7,7,7,7,7,7,8,8,8,8,8,8,8,8,8,8,8,8,8,8,8,8,8,8,8,8,8,8,8,8,8,8,8,8,8,8,8,8,8,8,8,8,8,8,8,8,8,8,8,8,8,8,8,8,8,8,8,8,8,8,8,8,8,8,8,8,8,8,8,8,8,8,8,8,8,8,8,8,8,8,8,8,8,8,8,8,8,8,8,8,8,8,8,8,8,8,8,8,8,8,8,8,8,8,8,8,8,8,8,8,8,8,8,8,8,8,8,8,8,8,8,8,8,8,8,8,8,8,8,8,8,8,8,8]:Str).getD (((u8 j3.1).toNat:Int)).toNat 0).toNat:Int))))
@[irreducible] def mc_51:MC:=rdc (cK Tryz.prog Tryz.f101 [] [] 10000010)
@[irreducible] def mc_5j:MC:=rdc (cK Tryz.prog Tryz.f101 [] [(10000010,mc_51)] 10000007)
@[irreducible] def mc_5w:MC:=rdc (cK Tryz.prog Tryz.f101 [] [(10000010,mc_51),(10000007,mc_5j)] 10000004)
instance:LI mc_51 0 0 [] [] (fun y:Int×Int=>[(0,.int .u64 y.1),(2,.int .i64 y.2)]) (fun y=>[]) []:=⟨⟩
instance:LI mc_5j 0 0 [] [] (fun y:Int×Int=>[(0,.int .u64 y.1),(2,.int .i64 y.2)]) (fun y=>[]) []:=⟨⟩
instance:LI mc_5w 0 0 [] [] (fun y:Int×Int=>[(0,.int .u64 y.1),(2,.int .i64 y.2)]) (fun y=>[]) []:=⟨⟩
instance Wq_50 {x_:Int}:WJ (F_50 x_) 101 [.int .u64 x_] (.int .i64):=wX Tryz.func101 [] [(10000010,mc_51),(10000007,mc_5j),(10000004,mc_5w)] (h:=fun _ _ h hQ M=>by unfold F_50 at h;exact tX)
def F_3r (x_:Int):Option Int := (F_50 x_).bind fun y2=>some y2
instance Wq_3r {x_:Int}:WJ (F_3r x_) 50 [.int .u64 x_] (.int .i64):=wX Tryz.func50 (h:=fun _ _ h hQ M=>by unfold F_3r at h;exact tX)
def F_y (x_:Int) (y_:Int):Option Int := (F_v x_).bind fun y2=>(F_v y_).bind fun y4=>bif y2 then bif y4 then some 0 else some (-1) else bif y4 then some 1 else bif decide (x_<y_) then some (-1) else bif decide (y_<x_) then some 1 else some 0
instance Wq_y {x_ y_:Int}:WJ (F_y x_ y_) 26 [.int .i64 x_,.int .i64 y_] (.int .i64):=wX Tryz.func26 [(9,⟨[.gc [0,1]],[],[]⟩)] (h:=fun _ _ h hQ M=>by unfold F_y at h;exact tX)
def F_4e (k11:Int) (a12:Int) (x10:Unit):Option (Fl Unit Int) := bif (!decide (a12=0)) then some (.ex a12) else some (.nx ())
def F_52 (vals_:List Int):Option Int := (forL F_4e vals_ 0 ()).bind fun o=>o.elim (fun x13=>some 0) (fun r14=>some r14)
@[irreducible] def mc_4e:MC:=rdc (cK Tryz.prog Tryz.f25 [] [] 3)
attribute [go_sem] F_4e
instance:LI mc_4e 8 7 [3,6,7] [] (fun y:Unit=>[]) (fun y=>[]) []:=⟨⟩
instance Wq_52 {vals_:List Int}:WJ (F_52 vals_) 25 [.sl (vals_.map (V.int .i64))] (.int .i64):=wX Tryz.func25 [] [(3,mc_4e)] (h:=fun _ _ h hQ M=>by unfold F_52 at h;exact tX)
def F_z (a_:GNotice) (b_:GNotice):Option Int := (F_y a_.Time b_.Time).bind fun y5=>(F_y a_.Case b_.Case).bind fun y6=>(F_y a_.Step b_.Step).bind fun y7=>(F_52 [y5,y6,y7]).bind fun y8=>some y8
instance Wq_z {a_ b_:GNotice}:WJ (F_z a_ b_) 24 [GNotice.v a_,GNotice.v b_] (.int .i64):=wX Tryz.func24 [(1,⟨[],[.k 15 2],[]⟩)] (h:=fun _ _ h hQ M=>by unfold F_z at h;exact tX)
noncomputable def F_10 (a_:Int) (x126:Int×(List GNotice)):Option (Fl (Int×(List GNotice)) (List GNotice)) := bif decide (a_<x126.1) then chk (inb x126.1 x126.2.length) (chk (in64 (x126.1 - 1)) (chk (inb (x126.1 - 1) x126.2.length) ((F_z (x126.2.getD ((x126.1).toNat) default) (x126.2.getD (((x126.1 - 1)).toNat) default)).bind fun y134=>bif decide (y134<0) then chk (in64 (x126.1 - 1)) (chk (in64 (x126.1 - 1)) (chk (inb (x126.1 - 1) x126.2.length) (chk (inb x126.1 x126.2.length) (chk (inb x126.1 x126.2.length) (chk (inb (x126.1 - 1) (x126.2.set ((x126.1).toNat) (x126.2.getD (((x126.1 - 1)).toNat) default)).length) (chk (in64 (x126.1 - 1)) (some (.nx ((x126.1 - 1),(x126.2.set ((x126.1).toNat) (x126.2.getD (((x126.1 - 1)).toNat) default)).set (((x126.1 - 1)).toNat) (x126.2.getD ((x126.1).toNat) default)))))))))) else some (.ex x126.2)))) else some (.ex x126.2)
noncomputable def F_28 (a_:Int) (b_:Int) (x67:Int×(List GNotice)):Option (Fl (Int×(List GNotice)) (List GNotice)) := bif decide (x67.1<b_) then (loop (F_10 a_) (x67.1,x67.2)).bind fun r135=>chk (in64 (x67.1+1)) (some (.nx ((x67.1+1),r135))) else some (.ex x67.2)
noncomputable def F_f (data_:List GNotice) (a_:Int) (b_:Int):Option (List GNotice) := chk (in64 (a_+1)) ((loop (F_28 a_ b_) ((a_+1),data_)).bind fun r136=>some r136)
def a_f:List (Nat×RN):=[(5,⟨[.gc [0,1,2,3,8,9,22,23,24,25,26,27,28,29,30,31,32,33]],[],[]⟩)]
@[irreducible] def mc_10:MC:=rdc (cK Tryz.prog Tryz.f92 a_f [] 4)
@[irreducible] def mc_28:MC:=rdc (cK Tryz.prog Tryz.f92 a_f [(4,mc_10)] 1)
attribute [go_sem] F_10 F_28
instance:LI mc_10 0 0 [1,2,3,8] [] (fun y:Int×(List GNotice)=>[(0,.osl 1000 4 0 y.2.length),(9,.int .i64 y.1)]) (fun y=>[.o 1000 (.arr 4 (y.2.map GNotice.v))]) []:=⟨⟩
instance:LI mc_28 0 0 [1,2,3] [] (fun y:Int×(List GNotice)=>[(0,.osl 1000 4 0 y.2.length),(8,.int .i64 y.1)]) (fun y=>[.o 1000 (.arr 4 (y.2.map GNotice.v))]) []:=⟨⟩
instance Wq_f {data_:List GNotice} {a_ b_:Int}:WI (F_f data_ a_ b_) Tryz.prog 92 [.osl 1000 4 0 data_.length,.int .i64 a_,.int .i64 b_,.fn (.func 24) []] [(1000,.arr 4 (data_.map GNotice.v))] (fun z=>.tup []) (fun z=>[(1000,.arr 4 (z.map GNotice.v))]):=wX Tryz.func92 a_f [(4,mc_10),(1,mc_28)] [] [1000] (h:=fun _ _ h hQ M=>by unfold F_f at h;exact tX)
theorem F_5x {a_:Int} {s:Int×(List GNotice)} {o:Fl (Int×(List GNotice)) (List GNotice)} (h:F_10 a_ s=some o):o.elim (fun s'=>s'.2.length=s.2.length) (fun q=>q.length=s.2.length):=by
 refine (?_:Al _ _) o h
 clear h
 unfold F_10
 repeat' (first|(with_reducible first|exact Al.none|apply Al.chk|apply Al.ite|apply Al.grp)|((with_reducible refine Al.some ?_);simp_all [Fl.elim];done)|((with_reducible first|refine Al.jn fun w h1=>?_|refine Al.bind fun w h1=>?_);(first|skip)))
theorem F_6l {a_:Int} {b_:Int} {s:Int×(List GNotice)} {o:Fl (Int×(List GNotice)) (List GNotice)} (h:F_28 a_ b_ s=some o):o.elim (fun s'=>s'.2.length=s.2.length) (fun q=>q.length=s.2.length):=by
 refine (?_:Al _ _) o h
 clear h
 unfold F_28
 repeat' (first|(with_reducible first|exact Al.none|apply Al.chk|apply Al.ite|apply Al.grp)|((with_reducible refine Al.some ?_);simp_all [Fl.elim];done)|((with_reducible first|refine Al.jn fun w h1=>?_|refine Al.bind fun w h1=>?_);(first|(have e1:=loop_len (m:=fun s:Int×(List GNotice)=>s.2.length) (r:=fun q:(List GNotice)=>q.length) (fun _ _=>F_5x) h1)|skip)))
theorem F_5k {data_:List GNotice} {a_:Int} {b_:Int} {y:List GNotice} (h:(F_f data_ a_ b_)=some y):y.length=data_.length:=by
 refine (?_:Al _ (fun y=>y.length=data_.length)) y h
 clear h
 unfold F_f
 repeat' (first|(with_reducible first|exact Al.none|apply Al.chk|apply Al.ite|apply Al.grp)|((with_reducible refine Al.some ?_);simp_all [Fl.elim];done)|((with_reducible first|refine Al.jn fun w h1=>?_|refine Al.bind fun w h1=>?_);(first|(have e1:=loop_len (m:=fun s:Int×(List GNotice)=>s.2.length) (r:=fun q:(List GNotice)=>q.length) (fun _ _=>F_5x) h1)|(have e1:=loop_len (m:=fun s:Int×(List GNotice)=>s.2.length) (r:=fun q:(List GNotice)=>q.length) (fun _ _=>F_6l) h1)|skip)))
noncomputable def F_1o (data_:List GNotice) (a_:Int) (b_:Int) (x6:Unit):Option (Fl Unit (List GNotice)) := chk (in64 (b_ - a_)) (bif decide ((b_ - a_)≤12) then (F_f data_ a_ b_).bind fun y14=>some (.ex y14) else none)
noncomputable def F_6 (data_:List GNotice) (a_:Int) (b_:Int) (limit_:Int):Option (List GNotice) := (loop (F_1o data_ a_ b_) ()).bind fun r15=>some r15
def a_6:List (Nat×RN):=[(4,⟨[.gc [0,1,2,4]],[.c 4 0 [1000] []],[]⟩)]
@[irreducible] def mc_1o:MC:=rdc (cK Tryz.prog Tryz.f49 a_6 [(20000005,.no)] 2)
def mc_6:MC:=rdc (cT Tryz.prog Tryz.f49 a_6 [(20000005,.no),(2,mc_1o)])
instance Wq_6 {data_:List GNotice} {a_ b_ limit_:Int}:WI (F_6 data_ a_ b_ limit_) Tryz.prog 49 [.osl 1000 4 0 data_.length,.int .i64 a_,.int .i64 b_,.int .i64 limit_,.fn (.func 24) []] [(1000,.arr 4 (data_.map GNotice.v))] (fun z=>.tup []) (fun z=>[(1000,.arr 4 (z.map GNotice.v))]):=⟨fun Q Q' h hQ=>by
 refine acallM mc_6 [] [1000] [] Tryz.func49 fun M=>?_
 unfold F_6 at h
 unfold mc_6
 replace h:=tY h
 refine tB ?_
 repeat' (first
 | (exact tZ)
 | (rw [zP (by omega)];exact hQ _ h)
 | ((first|refine oblg h ?_|refine roomG h ?_|refine inbG h ?_|refine incG h ?_|refine divG h ?_|refine appG h ?_|refine appC h ?_|refine fork h ?_ ?_|refine forkS h ?_ ?_)<;>clear h<;>intro hc h)
 | (obtain ⟨y,hy,h⟩:=h;(have hw:=WI.w hy;replace hw:=tY hw;have hlen:=F_5k hy);replace hw:=tY hw;(first|refine M.sC hw ?_|refine M.sD hw ?_);clear hw hy;refine tB ?_)
 | (refine M.wh1 (b:=mc_1o) [0,1,2,3,4,10,11] [1000] (fun x=>[]) (fun x=>[]) [] h ?_ ?_<;>first
 | (clear h;intro x Qn K hK1 h;unfold F_1o at h;unfold mc_1o;replace h:=tY h;refine tB ?_)
  |(clear h;(try refine tB ?_);exact tU;done))
 | (refine hK1 _ ?_;(try refine tB ?_);refine ⟨_,h,?_⟩;exact tU;done)
 | (refine tE ?_;(first|rw [M.lok_compU]|rw [M.lokD_compU]);refine tB ?_)
 | (refine tA ?_)
 | fail)⟩
theorem F_6m {data_:List GNotice} {a_:Int} {b_:Int} {s:Unit} {o:Fl Unit (List GNotice)} (h:F_1o data_ a_ b_ s=some o):o.elim (fun s'=>data_.length=data_.length) (fun q=>q.length=data_.length):=by
 refine (?_:Al _ _) o h
 clear h
 unfold F_1o
 repeat' (first|(with_reducible first|exact Al.none|apply Al.chk|apply Al.ite|apply Al.grp)|((with_reducible refine Al.some ?_);simp_all [Fl.elim];done)|((with_reducible first|refine Al.jn fun w h1=>?_|refine Al.bind fun w h1=>?_);(first|(have e1:=F_5k h1)|skip)))
theorem F_5y {data_:List GNotice} {a_:Int} {b_:Int} {limit_:Int} {y:List GNotice} (h:(F_6 data_ a_ b_ limit_)=some y):y.length=data_.length:=by
 refine (?_:Al _ (fun y=>y.length=data_.length)) y h
 clear h
 unfold F_6
 repeat' (first|(with_reducible first|exact Al.none|apply Al.chk|apply Al.ite|apply Al.grp)|((with_reducible refine Al.some ?_);simp_all [Fl.elim];done)|((with_reducible first|refine Al.jn fun w h1=>?_|refine Al.bind fun w h1=>?_);(first|(have e1:=loop_len (m:=fun s:Unit=>data_.length) (r:=fun q:(List GNotice)=>q.length) (fun _ _=>F_6m) h1)|(have e1:=F_5k h1)|skip)))
noncomputable def F_g (x_:List GNotice):Option (List GNotice) := (F_3r (IntKind.wrap .u64 (x_.length:Int))).bind fun y1=>(F_6 x_ 0 (x_.length:Int) y1).bind fun y2=>some y2
def mc_g:MC:=rdc (cT Tryz.prog Tryz.f23 [(1,⟨[],[.c 6 0 [1000] []],[]⟩)] [])
instance Wq_g {x_:List GNotice}:WI (F_g x_) Tryz.prog 23 [.osl 1000 4 0 x_.length,.fn (.func 24) []] [(1000,.arr 4 (x_.map GNotice.v))] (fun z=>.tup []) (fun z=>[(1000,.arr 4 (z.map GNotice.v))]):=⟨fun Q Q' h hQ=>by
 refine acallM mc_g [] [1000] [] Tryz.func23 fun M=>?_
 unfold F_g at h
 unfold mc_g
 replace h:=tY h
 refine tB ?_
 repeat' (first
 | (exact tZ)
 | (rw [zP (by omega)];exact hQ _ h)
 | ((first|refine oblg h ?_|refine roomG h ?_|refine inbG h ?_|refine incG h ?_|refine divG h ?_|refine appG h ?_|refine appC h ?_|refine fork h ?_ ?_|refine forkS h ?_ ?_)<;>clear h<;>intro hc h)
 | (obtain ⟨y,hy,h⟩:=h;(first|with_reducible first|have hw:=WI.w hy|(have hw:=WI.w hy;replace hw:=tY hw;have hlen:=F_5y hy));replace hw:=tY hw;(first|refine M.sC hw ?_|refine M.sD hw ?_);clear hw hy;refine tB ?_)
 | (refine tE ?_;(first|rw [M.lok_compU]|rw [M.lokD_compU]);refine tB ?_)
 | (refine tA ?_)
 | fail)⟩
theorem F_6n {x_:List GNotice} {y:List GNotice} (h:(F_g x_)=some y):y.length=x_.length:=by
 refine (?_:Al _ (fun y=>y.length=x_.length)) y h
 clear h
 unfold F_g
 repeat' (first|(with_reducible first|exact Al.none|apply Al.chk|apply Al.ite|apply Al.grp)|((with_reducible refine Al.some ?_);simp_all [Fl.elim];done)|((with_reducible first|refine Al.jn fun w h1=>?_|refine Al.bind fun w h1=>?_);(first|(have e1:=F_5y h1)|skip)))
noncomputable def F_29 (c_:GCalendar) (d_:GDirectory) (s_:List GSteward) (l_:List GCase) (until_:Int) (k65:Int) (a66:GCase) (x64:List GNotice):Option (Fl (List GNotice) ((List GNotice)×Int)) := bif (!decide (a66.Kind=1)) then some (.nx x64) else (F_e c_ d_ s_ l_ k65 until_).bind fun y74=>bif (!decide (y74.2=0)) then some (.ex ([],y74.2)) else chk (room (x64.length+y74.1.length) 32) (some (.nx (x64++y74.1)))
noncomputable def F_h (c_:GCalendar) (d_:GDirectory) (s_:List GSteward) (l_:List GCase) (until_:Int):Option ((List GNotice)×Int) := (F_24 c_).bind fun y13=>(F_n d_ s_).bind fun y14=>(F_1k d_ l_).bind fun y15=>(F_4a [y13,y14,y15]).bind fun y16=>bif (!decide (y16=0)) then some ([],y16) else grp ((decide (until_<0)||decide (1099511627776<until_))) fun b20=>bif b20 then some ([],2) else (forL (F_29 c_ d_ s_ l_ until_) l_ 0 []).bind fun o=>o.elim (fun x75=>(F_g x75).bind fun y78=>some (y78,0)) (fun r76=>some r76)
@[irreducible] def mg_z:List MOp:=rdc (cG Tryz.prog Tryz.f9 [(1,⟨[],[.k 8 2],[]⟩),(6,⟨[],[.k 0 1],[]⟩),(16,⟨[],[.c 1 0 [2013] []],[]⟩)] 4 3 5)
def a_h:List (Nat×RN):=[(1,⟨[],[.k 8 2],[]⟩),(3,⟨[.gc [12]],[],[]⟩),(4,⟨[.gc [2,3,4,5,6,34,35]],[],[.u 3 5 mg_z]⟩),(6,⟨[],[.k 0 1],[]⟩),(11,⟨[.gc [2,3,4,5,6,13,14,37,38,39]],[],[]⟩),(13,⟨[.gc [17]],[],[]⟩),(14,⟨[.gc [2,3,4,5,6,13,16,37,38,39]],[],[]⟩),(16,⟨[],[.c 1 0 [2013] []],[]⟩),(17,⟨[.gc [13]],[],[]⟩)]
@[irreducible] def mc_29:MC:=rdc (cK Tryz.prog Tryz.f9 a_h [] 8)
def mc_h:MC:=rdc (cT Tryz.prog Tryz.f9 a_h [(8,mc_29)])
instance Wq_h {c_:GCalendar} {d_:GDirectory} {s_:List GSteward} {l_:List GCase} {until_:Int}:WI (F_h c_ d_ s_ l_ until_) Tryz.prog 9 [GCalendar.v c_,GDirectory.v d_,.sl (s_.map GSteward.v),.sl (l_.map GCase.v),.int .i64 until_] [] (fun z=>.tup [.sl (z.1.map GNotice.v),.int .i64 z.2]) (fun z=>[]):=⟨fun Q Q' h hQ=>by
 refine acallM mc_h [.fz 10] [] [.t 10,.t 11] Tryz.func9 fun M=>?_
 unfold F_h at h
 unfold mc_h
 replace h:=tY h
 refine tB ?_
 repeat' (first
 | (exact tZ)
 | (rw [zP (by omega)];exact hQ _ h)
 | ((first|refine oblg h ?_|refine roomG h ?_|refine inbG h ?_|refine incG h ?_|refine divG h ?_|refine appG h ?_|refine appC h ?_|refine fork h ?_ ?_|refine forkS h ?_ ?_)<;>clear h<;>intro hc h)
 | (obtain ⟨y,hy,h⟩:=h;(first|(have hw:=acall_swe 1000 2013 (Wq_g.c.w hy);replace hw:=tY hw;have hlen:=F_6n hy)|have hw:=WI.w hy);replace hw:=tY hw;(first|refine M.sC hw ?_|refine M.sD hw ?_);clear hw hy;refine tB ?_)
 | (refine M.for1 (b:=mc_29) 39 [2,3,4,5,6,37,38] [6,5] (fun x=>[(13,.osl 2013 4 0 x.length)]) (fun x=>[.o 2013 (.arr 4 (x.map GNotice.v))]) [.gc [2,3,4,5,6,13,37,38,39],.acc 13 2013 4] h ?_ ?_ ?_<;>first
 | (clear h;intro k a x Qn K hK1 hkN1 ha1 h hf;have hl:=fact_int (factsE_find (n:=38) hf.1 rfl);clear hf;have hkd:=kD hkN1;have hkB1:=kB hkN1;have hkI1:=kI (k:=k) (by omega);(try simp only [hlen] at hkd hkB1 hkN1);unfold F_29 at h;unfold mc_29;replace h:=tY h;refine tK ha1 hkd hkN1 hkB1 hkI1 ?_)
  |(clear h;intro x K h;replace h:=And.left (And.intro h trivial);(try simp only [hlen]);unfold mc_29;replace h:=tY h;refine tB ?_)
  |(clear h;(try refine tB ?_);exact tU;done))
 | (refine M.gv1 (ms:=mg_z) 36 [34,35] h ?_ ?_<;>first
 | (clear h;intro K hK2;unfold mg_z;refine tB ?_)
 | (clear h;intro b h;replace h:=tY h;refine tB ?_))
 | (simp only [ha1])
 | (refine hK1 _ ?_;(try refine tB ?_);refine ⟨_,h,?_⟩;exact tU;done)
 | (refine hK2 _ ?_;exact tU;done)
 | (refine bfork (fun hc=>?_) (fun hc=>?_))
 | (refine tE ?_;(first|rw [M.lok_compU]|rw [M.lokD_compU]);refine tB ?_)
 | (refine tA ?_)
 | fail)⟩
noncomputable def F_32 (c_:GCalendar) (b_:Int) (x43:Int×Int):Option (Fl (Int×Int) Int) := bif decide (x43.2<b_) then jn (α:=Int) ((F_1m c_ x43.2).bind fun y51=>bif y51 then chk (in64 (x43.1+1)) (some (x43.1+1)) else some x43.1) fun j49=>chk (in64 (x43.2+1)) (some (.nx (j49,(x43.2+1)))) else some (.ex x43.1)
noncomputable def F_p (c_:GCalendar) (a_:Int) (b_:Int):Option (Int×Int) := jn (α:=Fl Unit (Int×Int)) ((F_24 c_).bind fun y13=>bif (!decide (y13=0)) then some (.ex (0,42)) else (F_27 a_).bind fun y18=>bif (!y18) then grp (true) fun b19=>bif b19 then some (.ex (0,2)) else chk (in64 (b_ - a_)) (bif decide (100000<(b_ - a_)) then some (.ex (0,3)) else some (.nx ())) else (F_27 b_).bind fun y20=>grp (((!y20)||decide (b_<a_))) fun b21=>bif b21 then some (.ex (0,2)) else chk (in64 (b_ - a_)) (bif decide (100000<(b_ - a_)) then some (.ex (0,3)) else some (.nx ()))) fun o=>o.elim (fun j11=>(loop (F_32 c_ b_) (0,a_)).bind fun r52=>some (r52,0)) (fun r53=>some r53)
def a_p:List (Nat×RN):=[(3,⟨[],[],[.v 9 12]⟩),(5,⟨[.gc [1,2,3]],[],[]⟩)]
@[irreducible] def mc_53:MC:=rdc (cK Tryz.prog Tryz.f30 a_p [] 10000010)
@[irreducible] def mc_32:MC:=rdc (cK Tryz.prog Tryz.f30 a_p [(10000010,mc_53)] 9)
@[irreducible] def mc_5z:MC:=rdc (cK Tryz.prog Tryz.f30 a_p [(10000010,mc_53),(9,mc_32)] 10000007)
attribute [go_sem] F_32
instance:LI mc_53 0 0 [2,3,9] [3] (fun y:Int=>[(8,.int .i64 y)]) (fun y=>[]) []:=⟨⟩
instance:LI mc_32 0 0 [2,3] [3] (fun y:Int×Int=>[(8,.int .i64 y.1),(9,.int .i64 y.2)]) (fun y=>[]) []:=⟨⟩
instance:LI mc_5z 0 0 [1,2,3] [3] (fun y:Unit=>[]) (fun y=>[]) []:=⟨⟩
instance Wq_p {c_:GCalendar} {a_ b_:Int}:WJ (F_p c_ a_ b_) 30 [GCalendar.v c_,.int .i64 a_,.int .i64 b_] fun z=>.tup [.int .i64 z.1,.int .i64 z.2]:=wX Tryz.func30 a_p [(10000010,mc_53),(9,mc_32),(10000007,mc_5z)] (h:=fun _ _ h hQ M=>by unfold F_p at h;exact tX)
noncomputable def F_3s (c_:GCalendar) (a_:Int) (b_:Int):Option Bool := (F_p c_ a_ b_).bind fun y2=>jn (α:=Bool) (bif decide (y2.2=0) then (dlF 3).bind fun y6=>some (decide (y2.1=y6)) else some false) fun j7=>some j7
instance {m:List MOp}:GI (gjt 110203 m) [] [] (fun y:Bool=>[(22,.bool y)]) (fun y=>[]):=⟨⟩
instance Wq_3s {c_:GCalendar} {a_ b_:Int}:WJ (F_3s c_ a_ b_) 11 [GCalendar.v c_,.int .i64 a_,.int .i64 b_] .bool:=wX Tryz.func11 [(2,⟨[.gc [7,8,19,20,21]],[],[.w 3 6 110203]⟩)] (h:=fun _ _ h hQ M=>by unfold F_3s at h;exact tX)
end Go.Ab
