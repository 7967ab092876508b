/- What the functions of this seat that lie on the laws' road compute (part LI), each for every input. By AI agents. -/
import Derived.Test.YtbmjlaknnpmgpaaGreatDoorLT
import Derived.Test.YtbmjlaknnpmgpaaGreatDoorProg
import Derived.KernelRfl
import Derived.Test.YtbmjlaknnpmgpaaGreatDoorAbMach
import Derived.WalkKit
import Derived.Deep.LoopGhost
import Derived.Deep.OwnRows
import Derived.Deep.RegionWith
set_option linter.all false
set_option linter.all false
set_option maxRecDepth 20000
set_option maxHeartbeats 2000000
namespace Go.Ab
open Go.Proofs
def f2j (k59:Int) (a60:a0r) (x58:Unit):Option (Fl Unit Bool) :=
 grp (((!a60.Up)||(!decide (a60.Stored=2)))) fun b75=>grp ((b75||(!decide (a60.Used=2)))) fun b76=>bif b76 then some (.ex false) else some (.nx ())
def e9k (f_:x8) (s_:l7):Option Bool :=
 (F_s f_ s_).bind fun y7=>grp (((!y7)||(!decide (s_.Valid=2)))) fun b8=>bif b8 then some false else (a0x f2j s_.Units 0 ()).bind fun o=>o.elim (fun x77=>some true) (fun r78=>some r78)
def g2o:List (Nat×RN):=[(1,⟨[],[],[.v 5 8]⟩),(3,⟨[.gc [3,27,28,29,32,33,34]],[],[]⟩),(6,⟨[],[],[.v 4 7,.v 9 12]⟩)]
@[irreducible] def e4z:MC:=rdc (cK Tryz.prog Tryz.f21 g2o [] 4)
attribute [go_sem] f2j
instance:LI e4z 19 18 [17,18] [] (fun y:Unit=>[]) (fun y=>[]) []:=⟨⟩
instance g8a {f_:x8} {s_:l7}:WJ (e9k f_ s_) 21 [x8.v f_,l7.v s_] .bool:=wX Tryz.func21 g2o [(4,e4z)] (h:=fun _ _ h hQ M=>by unfold e9k at h;exact tX)
def e9j (c_:l9) (replica_:Int) (bit_:Int):Option Bool :=
 jn (α:=Fl Unit Bool) ((F_b c_).bind fun y14=>bif (!y14) then grp (true) fun b15=>bif b15 then some (.ex false) else some (.nx ()) else chk (a0l ((c_.Replicas.length:Int) - 1)) ((F_4 replica_ 0 ((c_.Replicas.length:Int) - 1)).bind fun y16=>grp (((!y16)||((!decide (bit_=1))&&(!decide (bit_=2))))) fun b17=>bif b17 then some (.ex false) else some (.nx ()))) fun o=>o.elim (fun j9=>chk (inb replica_ c_.Replicas.length) (jn (α:=Bool) (bif (c_.Replicas.getD (replica_).toNat default).Serving then chk (inb ((c_.Replicas.getD (replica_).toNat default).Generation) c_.Sets.length) (some (!decide ((bits .and .i64 (c_.Sets.getD ((c_.Replicas.getD (replica_).toNat default).Generation).toNat default) bit_)=0))) else some false) fun j19=>some j19)) (fun r20=>some r20)
def g2n:List (Nat×RN):=[(1,⟨[],[],[.v 13 19]⟩),(4,⟨[],[],[.w 3 12 500403]⟩)]
@[irreducible] def e1v:MC:=rdc (cK Tryz.prog Tryz.f50 g2n [] 10000003)
instance Gq0 {m:List MOp}:GI (gjt 500403 m) [] [] (fun y:Bool=>[(45,.bool y)]) (fun y=>[]):=⟨⟩
instance:LI e1v 0 0 [1,2,3] [3] (fun y:Unit=>[]) (fun y=>[]) []:=⟨⟩
instance g89 {c_:l9} {replica_ bit_:Int}:WJ (e9j c_ replica_ bit_) 50 [l9.v c_,.int .i64 replica_,.int .i64 bit_] .bool:=wX Tryz.func50 g2n [(10000003,e1v)] (h:=fun _ _ h hQ M=>by unfold e9j at h;exact tX)
def f8c (c_:l9) (bit_:Int) (k39:Int) (a40:p8) (x38:Unit):Option (Fl Unit Bool) :=
 (e9j c_ k39 bit_).bind fun y48=>bif y48 then some (.ex false) else some (.nx ())
def e9i (c_:l9) (bit_:Int):Option Bool :=
 (F_b c_).bind fun y7=>grp (((!y7)||((!decide (bit_=1))&&(!decide (bit_=2))))) fun b8=>bif b8 then some false else chk (a0l ((c_.Sets.length:Int) - 1)) (chk (inb ((c_.Sets.length:Int) - 1) c_.Sets.length) (bif (!decide ((bits .and .i64 (c_.Sets.getD (((c_.Sets.length:Int) - 1)).toNat default) bit_)=0)) then some false else (a0x (f8c c_ bit_) c_.Replicas 0 ()).bind fun o=>o.elim (fun x49=>some true) (fun r50=>some r50)))
def g2m:List (Nat×RN):=[(1,⟨[],[],[.v 4 10]⟩),(3,⟨[.gc [1,2]],[],[]⟩)]
@[irreducible] def e2w:MC:=rdc (cK Tryz.prog Tryz.f22 g2m [] 4)
attribute [go_sem] f8c
instance:LI e2w 33 32 [1,2,32] [2] (fun y:Unit=>[]) (fun y=>[]) []:=⟨⟩
instance g88 {c_:l9} {bit_:Int}:WJ (e9i c_ bit_) 22 [l9.v c_,.int .i64 bit_] .bool:=wX Tryz.func22 g2m [(4,e2w)] (h:=fun _ _ h hQ M=>by unfold e9i at h;exact tX)
end Go.Ab
set_option maxRecDepth 20000
set_option maxHeartbeats 2000000
namespace Go.Ab
open Go.Proofs
def c8h (x_:Int) (low_:Int) (high_:Int):Option Bool :=
 grp ((decide (low_≤x_)&&decide (x_≤high_))) fun b2=>some b2
instance g9g {x_ low_ high_:Int}:WJ (c8h x_ low_ high_) 90 [.int .i64 x_,.int .i64 low_,.int .i64 high_] .bool:=wX Tryz.func90 [(1,⟨[],[],[.v 4 7]⟩)] (h:=fun _ _ h hQ M=>by unfold c8h at h;exact tX)
def F_k (d_:d9) (p_:Int):Option Bool := chk (a0l ((d_.Kinds.length:Int) - 1)) ((c8h p_ 0 ((d_.Kinds.length:Int) - 1)).bind fun y2=>some y2)
instance h0j {d_:d9} {p_:Int}:WJ (F_k d_ p_) 91 [d9.v d_,.int .i64 p_] .bool:=wX Tryz.func91 (h:=fun _ _ h hQ M=>by unfold F_k at h;exact tX)
def d8j (d_:d9) (p_:Int):Option Bool :=
 (F_k d_ p_).bind fun y3=>jn (α:=Bool) (bif y3 then chk (inb p_ d_.Kinds.length) (some (decide ((d_.Kinds.getD (p_).toNat default)=2))) else some false) fun j4=>some j4
instance Gq1 {m:List MOp}:GI (gjt 920104 m) [4] [] (fun y:Bool=>[(15,.bool y)]) (fun y=>[]):=⟨⟩
instance g7i {d_:d9} {p_:Int}:WJ (d8j d_ p_) 92 [d9.v d_,.int .i64 p_] .bool:=wX Tryz.func92 [(1,⟨[],[],[.w 4 10 920104]⟩)] (h:=fun _ _ h hQ M=>by unfold d8j at h;exact tX)
def g00 (k35:Int) (a36:Int) (x34:Unit):Option (Fl Unit Bool) :=
 (c8h a36 1 3).bind fun y44=>bif (!y44) then some (.ex false) else some (.nx ())
def f8b (d_:d9) (k177:Int) (a178:a0n) (x176:Unit):Option (Fl Unit Bool) :=
 (c8h a178.Kind 1 2).bind fun y221=>bif (!y221) then some (.ex false) else (c8h a178.Time 0 1099511627776).bind fun y222=>bif (!y222) then some (.ex false) else bif decide (0<k177) then chk (a0l (k177 - 1)) (chk (inb (k177 - 1) d_.Events.length) (bif decide (a178.Time<(d_.Events.getD ((k177 - 1)).toNat default).Time) then some (.ex false) else (F_k d_ a178.Principal).bind fun y223=>bif (!y223) then some (.ex false) else (d8j d_ a178.Group).bind fun y224=>bif (!y224) then some (.ex false) else bif decide (a178.Principal=a178.Group) then some (.ex false) else some (.nx ()))) else (F_k d_ a178.Principal).bind fun y225=>bif (!y225) then some (.ex false) else (d8j d_ a178.Group).bind fun y226=>bif (!y226) then some (.ex false) else bif decide (a178.Principal=a178.Group) then some (.ex false) else some (.nx ())
def F_l (d_:d9):Option Bool := grp ((decide (24<(d_.Kinds.length:Int))||decide (120<(d_.Events.length:Int)))) fun b4=>bif b4 then some false else (a0x g00 d_.Kinds 0 ()).bind fun o=>o.elim (fun x45=>(a0x (f8b d_) d_.Events 0 ()).bind fun o=>o.elim (fun x227=>some true) (fun r228=>some r228)) (fun r46=>some r46)
def a_l:List (Nat×RN):=[(1,⟨[],[],[.v 5 9]⟩),(3,⟨[.gc [1,41,42,43,44,47,48,49,50,51,52,53,54,55,56,57,58,59,60,63,64,65,66,67,70,71,72,73,74,77,78,79,80,81]],[],[]⟩)]
@[irreducible] def d66:MC:=rdc (cK Tryz.prog Tryz.f51 a_l [] 4)
@[irreducible] def e2v:MC:=rdc (cK Tryz.prog Tryz.f51 a_l [(4,d66)] 10)
attribute [go_sem] g00 f8b
instance:LI d66 20 19 [1,18,19] [1] (fun y:Unit=>[]) (fun y=>[]) []:=⟨⟩
instance:LI e2v 31 30 [1,29,30] [1] (fun y:Unit=>[]) (fun y=>[]) []:=⟨⟩
instance h0i {d_:d9}:WJ (F_l d_) 51 [d9.v d_] .bool:=wX Tryz.func51 a_l [(4,d66),(10,e2v)] (h:=fun _ _ h hQ M=>by unfold F_l at h;exact tX)
def F_m (x_:Int) (low_:Int) (high_:Int):Option Bool := grp ((decide (low_≤x_)&&decide (x_≤high_))) fun b2=>some b2
instance h0h {x_ low_ high_:Int}:WJ (F_m x_ low_ high_) 93 [.int .i64 x_,.int .i64 low_,.int .i64 high_] .bool:=wX Tryz.func93 [(1,⟨[],[],[.v 4 7]⟩)] (h:=fun _ _ h hQ M=>by unfold F_m at h;exact tX)
def f00 (a_:l5) (x_:o8):Option Bool :=
 (F_m x_.Time 0 1099511627776).bind fun y7=>bif (!y7) then some false else chk (a0l (a_.Places - 1)) ((F_m x_.Place 0 (a_.Places - 1)).bind fun y8=>bif (!y8) then some false else jn (α:=Bool) (bif decide (x_.Kind=1) then some true else some (decide (x_.Kind=2))) fun j29=>bif j29 then jn (α:=Bool) (bif (decide (x_.Time=x_.Time)&&(decide (x_.Kind=x_.Kind)&&(decide (x_.Place=x_.Place)&&(decide (x_.Principal=x_.Principal)&&(decide (x_.Until=0)&&(decide (x_.Content=0)&&decide (x_.From=0))))))) then (F_m x_.Principal 0 23).bind fun y33=>some y33 else some false) fun j34=>some j34 else bif decide (x_.Kind=3) then grp (((decide (x_.Time=x_.Time)&&(decide (x_.Kind=x_.Kind)&&(decide (x_.Place=x_.Place)&&(decide (x_.Principal=0)&&(decide (x_.Until=x_.Until)&&(decide (x_.Content=0)&&decide (x_.From=0)))))))&&decide (x_.Time<x_.Until))) fun b37=>grp ((b37&&decide (x_.Until≤1099511627776))) fun b38=>some b38 else bif decide (x_.Kind=4) then some (decide (x_.Time=x_.Time)&&(decide (x_.Kind=x_.Kind)&&(decide (x_.Place=x_.Place)&&(decide (x_.Principal=0)&&(decide (x_.Until=0)&&(decide (x_.Content=0)&&decide (x_.From=0))))))) else jn (α:=Bool) (bif decide (x_.Kind=5) then some true else some (decide (x_.Kind=6))) fun j39=>bif j39 then jn (α:=Bool) (bif (decide (x_.Time=x_.Time)&&(decide (x_.Kind=x_.Kind)&&(decide (x_.Place=x_.Place)&&(decide (x_.Principal=0)&&(decide (x_.Until=0)&&(decide (x_.Content=x_.Content)&&decide (x_.From=0))))))) then (F_m x_.Content 0 63).bind fun y43=>some y43 else some false) fun j44=>some j44 else bif decide (x_.Kind=7) then jn (α:=Bool) (bif (decide (x_.Time=x_.Time)&&(decide (x_.Kind=x_.Kind)&&(decide (x_.Place=x_.Place)&&(decide (x_.Principal=0)&&(decide (x_.Until=0)&&(decide (x_.Content=0)&&decide (x_.From=x_.From))))))) then chk (a0l (a_.Places - 1)) ((F_m x_.From 0 (a_.Places - 1)).bind fun y49=>some y49) else some false) fun j50=>grp ((j50&&(!decide (x_.From=x_.Place)))) fun b51=>some b51 else some false)
def f6k:List (Nat×RN):=[(3,⟨[.gc [2,3,38,39,40,51,52,53,54,55,58,59,60,77,78,79,90,91,92,93,94,95,98,99,100,101,102]],[],[]⟩),(8,⟨[],[],[.w 4 7 940804]⟩),(11,⟨[.gc [3,5,51,52,53,54,55,58,59,60]],[],[.v 4 9,.v 11 14]⟩),(17,⟨[],[],[.w 4 7 941704]⟩),(20,⟨[],[],[.w 4 10 942004,.v 12 17]⟩)]
@[irreducible] def d5p:MC:=rdc (cK Tryz.prog Tryz.f94 f6k [] 10000016)
@[irreducible] def e1u:MC:=rdc (cK Tryz.prog Tryz.f94 f6k [(10000016,d5p)] 10000007)
instance Gq2 {m:List MOp}:GI (gjt 940804 m) [] [] (fun y:Bool=>[(41,.bool y)]) (fun y=>[]):=⟨⟩
instance Gq3 {m:List MOp}:GI (gjt 941704 m) [] [] (fun y:Bool=>[(80,.bool y)]) (fun y=>[]):=⟨⟩
instance Gq4 {m:List MOp}:GI (gjt 942004 m) [3] [3] (fun y:Bool=>[(96,.bool y)]) (fun y=>[]):=⟨⟩
instance:LI d5p 0 0 [2,3,5,27] [5,3,2] (fun y:Bool=>[(67,.bool y)]) (fun y=>[]) []:=⟨⟩
instance:LI e1u 0 0 [2,3,5,27] [5,3,2] (fun y:Bool=>[(28,.bool y)]) (fun y=>[]) []:=⟨⟩
instance g8w {a_:l5} {x_:o8}:WJ (f00 a_ x_) 94 [l5.v a_,o8.v x_] .bool:=wX Tryz.func94 f6k [(10000016,d5p),(10000007,e1u)] (h:=fun _ _ h hQ M=>by unfold f00 at h;exact tX)
def f2i (a_:l5) (k39:Int) (a40:o8) (x38:Unit):Option (Fl Unit Bool) :=
 (f00 a_ a40).bind fun y48=>bif (!y48) then some (.ex false) else bif decide (0<k39) then chk (a0l (k39 - 1)) (chk (inb (k39 - 1) a_.Events.length) (bif decide (a40.Time<(a_.Events.getD ((k39 - 1)).toNat default).Time) then some (.ex false) else some (.nx ()))) else some (.nx ())
def F_n (a_:l5):Option Bool := (F_m a_.Places 1 16).bind fun y7=>grp (((!y7)||decide (120<(a_.Events.length:Int)))) fun b8=>bif b8 then some false else (a0x (f2i a_) a_.Events 0 ()).bind fun o=>o.elim (fun x49=>some true) (fun r50=>some r50)
def a_n:List (Nat×RN):=[(1,⟨[],[],[.v 5 9]⟩),(3,⟨[.gc [1,28,29,30,31,32,33,34,35,36,37,38,39,40,41]],[],[]⟩)]
@[irreducible] def e4y:MC:=rdc (cK Tryz.prog Tryz.f52 a_n [] 4)
attribute [go_sem] f2i
instance:LI e4y 18 17 [1,16,17] [1] (fun y:Unit=>[]) (fun y=>[]) []:=⟨⟩
instance h0g {a_:l5}:WJ (F_n a_) 52 [l5.v a_] .bool:=wX Tryz.func52 a_n [(4,e4y)] (h:=fun _ _ h hQ M=>by unfold F_n at h;exact tX)
def d9d (d_:d9) (p_:Int):Option Bool :=
 (F_k d_ p_).bind fun y3=>jn (α:=Bool) (bif y3 then chk (inb p_ d_.Kinds.length) (some (!decide ((d_.Kinds.getD (p_).toNat default)=2))) else some false) fun j4=>some j4
instance Gq5 {m:List MOp}:GI (gjt 1470104 m) [4] [] (fun y:Bool=>[(15,.bool y)]) (fun y=>[]):=⟨⟩
instance g6x {d_:d9} {p_:Int}:WJ (d9d d_ p_) 147 [d9.v d_,.int .i64 p_] .bool:=wX Tryz.func147 [(1,⟨[],[],[.w 4 10 1470104]⟩)] (h:=fun _ _ h hQ M=>by unfold d9d at h;exact tX)
def d8i (d_:d9) (a_:l5) (content_:Int) (p_:Int):Option Bool :=
 (F_l d_).bind fun y8=>jn (α:=Bool) (bif y8 then (F_n a_).bind fun y10=>some y10 else some false) fun j11=>grp ((j11&&decide (0≤content_))) fun b12=>grp ((b12&&decide (content_≤63))) fun b13=>jn (α:=Bool) (bif b13 then bif decide (p_=(-1)) then some true else (d9d d_ p_).bind fun y15=>some y15 else some false) fun j16=>some j16
instance Gq6 {m:List MOp}:GI (gjt 950115 m) [8] [] (fun y:Bool=>[(31,.bool y)]) (fun y=>[]):=⟨⟩
instance Gq7 {m:List MOp}:GI (gjt 950103 m) [2,3,4,8] [4] (fun y:Bool=>[(14,.bool y)]) (fun y=>[]):=⟨⟩
instance g7h {d_:d9} {a_:l5} {content_ p_:Int}:WJ (d8i d_ a_ content_ p_) 95 [d9.v d_,l5.v a_,.int .i64 content_,.int .i64 p_] .bool:=wX Tryz.func95 [(1,⟨[],[],[.w 3 5 950103,.v 7 9,.v 11 13,.w 15 22 950115]⟩)] (h:=fun _ _ h hQ M=>by unfold d8i at h;exact tX)
def f8a (k20:Int) (a21:o8) (x19:List Int):Option (List Int) :=
 bif decide ((x19.length:Int)=0) then chk (room (x19.length+[a21.Time].length) 8) (some (x19++[a21.Time])) else chk (a0l ((x19.length:Int) - 1)) (chk (inb ((x19.length:Int) - 1) x19.length) (bif (!decide (x19.getD ((((x19.length:Int) - 1)).toNat) default=a21.Time)) then chk (room (x19.length+[a21.Time].length) 8) (some (x19++[a21.Time])) else some x19))
def e9h (a_:l5):Option (List Int) :=
 (F_n a_).bind fun y4=>bif (!y4) then some [] else (a09 f8a a_.Events 0 []).bind fun x22=>some x22
def g2l:List (Nat×RN):=[(0,⟨[],[.k 1 1],[]⟩),(2,⟨[],[.k 0 1],[]⟩),(3,⟨[],[.k 0 1],[]⟩),(8,⟨[.gc [3,5,10,11,12,20,21,22,23,24,25,26,27,28]],[],[]⟩)]
@[irreducible] def e2u:MC:=rdc (cK Tryz.prog Tryz.f148 g2l [] 5)
attribute [go_sem] f8a
instance:LI e2u 12 11 [10,11] [] (fun y:List Int=>[(3,.osl 2003 1 0 y.length)]) (fun y=>[.o 2003 (.arr 1 (y.map (V.int .i64)))]) [.gc [3,10,11,12],.acc 3 2003 1]:=⟨⟩
instance g87 {a_:l5}:WI (e9h a_) Tryz.prog 148 [l5.v a_] [] (fun z=>.osl 1900 1 0 z.length) (fun z=>[(1900,.arr 1 (z.map (V.int .i64)))]):=wX Tryz.func148 g2l [(5,e2u)] [.acc 2 1900 1] [1900] (h:=fun _ _ h hQ M=>by unfold e9h at h;exact tX)
noncomputable def f9z (x129:List Int) (a131:a0n) (x162:Int):Option (Fl Int Int) :=
 bif decide (x162<(x129.length:Int)) then chk (inb x162 x129.length) (bif decide (x129.getD ((x162).toNat) default<a131.Time) then chk (a0l (x162+1)) (some (.nx (x162+1))) else some (.ex x162)) else some (.ex x162)
noncomputable def f7z (k130:Int) (a131:a0n) (x129:List Int):Option (List Int) :=
 (loop (f9z x129 a131) 0).bind fun r163=>bif decide (r163=(x129.length:Int)) then chk (inc 0 r163 x129.length) (chk (inc r163 (x129.length:Int) x129.length) (chk (room ([a131.Time].length+((x129.drop ((r163).toNat)).take (x129.length - (r163).toNat)).length) 8) (chk (b8d 0 ((r163).toNat) x129.length ([a131.Time]++(x129.drop ((r163).toNat)).take (x129.length - (r163).toNat)).length 8) (some (x129.take ((r163).toNat)++([a131.Time]++(x129.drop ((r163).toNat)).take (x129.length - (r163).toNat))))))) else chk (inb r163 x129.length) (bif (!decide (x129.getD ((r163).toNat) default=a131.Time)) then chk (inc 0 r163 x129.length) (chk (inc r163 (x129.length:Int) x129.length) (chk (room ([a131.Time].length+((x129.drop ((r163).toNat)).take (x129.length - (r163).toNat)).length) 8) (chk (b8d 0 ((r163).toNat) x129.length ([a131.Time]++(x129.drop ((r163).toNat)).take (x129.length - (r163).toNat)).length 8) (some (x129.take ((r163).toNat)++([a131.Time]++(x129.drop ((r163).toNat)).take (x129.length - (r163).toNat))))))) else some x129)
noncomputable def e9z (d_:d9) (a_:l5):Option (List Int) :=
 (e9h a_).bind fun y2=>(a09 f7z d_.Events 0 y2).bind fun x164=>some x164
def f6j:List (Nat×RN):=[(1,⟨[],[.c 1 0 [] [10]],[]⟩),(9,⟨[],[.k 10 5],[]⟩)]
@[irreducible] def d65:MC:=rdc (cK Tryz.prog Tryz.f96 f6j [] 6)
@[irreducible] def e2t:MC:=rdc (cK Tryz.prog Tryz.f96 f6j [(6,d65)] 3)
attribute [go_sem] f9z f7z
instance:LI d65 0 0 [5,7,12,13,14] [7,2005] (fun y:Int=>[(8,.int .i64 y)]) (fun y=>[]) []:=⟨⟩
instance:LI e2t 14 13 [12,13] [] (fun y:List Int=>[(5,.osl 2005 1 0 y.length)]) (fun y=>[.o 2005 (.arr 1 (y.map (V.int .i64)))]) [.gc [5,12,13,14],.acc 5 2005 1]:=⟨⟩
instance g8v {d_:d9} {a_:l5}:WJ (e9z d_ a_) 96 [d9.v d_,l5.v a_] fun z=>.sl (z.map (V.int .i64)):=wX Tryz.func96 f6j [(6,d65),(3,e2t)] [.fz 4] (h:=fun _ _ h hQ M=>by have:SwA [(1900,10)]:=⟨⟩;unfold e9z at h;exact tX)
def e8c (a_:l5) (content_:Int):Option Bool :=
 (F_n a_).bind fun y4=>grp ((y4&&decide (0≤content_))) fun b5=>grp ((b5&&decide (content_≤63))) fun b6=>some b6
instance g63 {a_:l5} {content_:Int}:WJ (e8c a_ content_) 197 [l5.v a_,.int .i64 content_] .bool:=wX Tryz.func197 [(1,⟨[],[],[.v 3 5,.v 7 9]⟩)] (h:=fun _ _ h hQ M=>by unfold e8c at h;exact tX)
noncomputable def f7y (a_:l5) (t_:Int) (x7:Int):Option (Fl Int Int) :=
 bif decide (x7<(a_.Events.length:Int)) then chk (inb x7 a_.Events.length) (bif decide ((a_.Events.getD (x7).toNat default).Time≤t_) then chk (a0l (x7+1)) (some (.nx (x7+1))) else some (.ex x7)) else some (.ex x7)
noncomputable def e8b (a_:l5) (t_:Int):Option Int :=
 (loop (f7y a_ t_) 0).bind fun r8=>some r8
@[irreducible] def e2s:MC:=rdc (cK Tryz.prog Tryz.f199 [] [] 2)
attribute [go_sem] f7y
instance:LI e2s 0 0 [1,2] [2] (fun y:Int=>[(5,.int .i64 y)]) (fun y=>[]) []:=⟨⟩
instance g62 {a_:l5} {t_:Int}:WJ (e8b a_ t_) 199 [l5.v a_,.int .i64 t_] (.int .i64):=wX Tryz.func199 [] [(2,e2s)] (h:=fun _ _ h hQ M=>by unfold e8b at h;exact tX)
def f2h (content_:Int) (k16:Int) (a17:o8) (x15:List Bool):Option (List Bool) :=
 bif decide (a17.Kind=5) then chk (inb a17.Place x15.length) (bif x15.getD ((a17.Place).toNat) default then chk (inb a17.Place x15.length) (some (x15.set ((a17.Place).toNat) true)) else chk (inb a17.Place x15.length) (some (x15.set ((a17.Place).toNat) (decide (a17.Content=content_))))) else bif decide (a17.Kind=6) then chk (inb a17.Place x15.length) (bif x15.getD ((a17.Place).toNat) default then chk (inb a17.Place x15.length) (some (x15.set ((a17.Place).toNat) (!decide (a17.Content=content_)))) else chk (inb a17.Place x15.length) (some (x15.set ((a17.Place).toNat) false))) else bif decide (a17.Kind=7) then chk (inb a17.Place x15.length) (bif x15.getD ((a17.Place).toNat) default then chk (inb a17.Place x15.length) (some (x15.set ((a17.Place).toNat) true)) else chk (inb a17.From x15.length) (chk (inb a17.Place x15.length) (some (x15.set ((a17.Place).toNat) (x15.getD ((a17.From).toNat) default))))) else some x15
def e9g (a_:l5) (content_:Int) (n_:Int):Option (List Bool) :=
 chk (b0b a_.Places a_.Places 1) (chk (inc 0 n_ a_.Events.length) ((a09 (f2h content_) (a_.Events.take ((n_).toNat)) 0 (List.replicate (a_.Places).toNat false)).bind fun x18=>some x18))
def g2k:List (Nat×RN):=[(9,⟨[.gc [1,7,9,16,17,18,35,36,37,38,52,53,54,55,69,70,71,72,73]],[],[]⟩),(11,⟨[.gc [1,7,9,16,17,18,35,36,37,38,52,53,54,55,69,70,71,72,73]],[],[]⟩)]
@[irreducible] def e4x:MC:=rdc (cK Tryz.prog Tryz.f198 g2k [] 3)
attribute [go_sem] f2h
instance:LI e4x 18 17 [1,16,17] [] (fun y:List Bool=>[(7,.osl 12 1 0 y.length)]) (fun y=>[.o 12 (.arr 1 (y.map V.bool))]) []:=⟨⟩
instance g86 {a_:l5} {content_ n_:Int}:WJ (e9g a_ content_ n_) 198 [l5.v a_,.int .i64 content_,.int .i64 n_] fun z=>.sl (z.map V.bool):=wX Tryz.func198 g2k [(3,e4x)] [.fz 6] (h:=fun _ _ h hQ M=>by unfold e9g at h;exact tX)
noncomputable def f2g (k28:Int) (a29:Bool) (x27:List Int):Option (List Int) :=
 bif a29 then chk (room (x27.length+[k28].length) 8) (some (x27++[k28])) else some x27
noncomputable def e9f (a_:l5) (content_:Int) (t_:Int):Option (List Int) :=
 (e8c a_ content_).bind fun y4=>bif (!y4) then some [] else (e8b a_ t_).bind fun y20=>(e9g a_ content_ y20).bind fun y21=>(a09 f2g y21 0 []).bind fun x30=>some x30
def g2j:List (Nat×RN):=[(3,⟨[],[.k 0 1],[]⟩)]
@[irreducible] def e4w:MC:=rdc (cK Tryz.prog Tryz.f149 g2j [] 5)
attribute [go_sem] f2g
instance:LI e4w 21 20 [19,20] [] (fun y:List Int=>[(7,.osl 2007 1 0 y.length)]) (fun y=>[.o 2007 (.arr 1 (y.map (V.int .i64)))]) [.gc [7,19,20,21],.acc 7 2007 1]:=⟨⟩
instance g85 {a_:l5} {content_ t_:Int}:WJ (e9f a_ content_ t_) 149 [l5.v a_,.int .i64 content_,.int .i64 t_] fun z=>.sl (z.map (V.int .i64)):=wX Tryz.func149 g2j [(5,e4w)] [.fz 6] (h:=fun _ _ h hQ M=>by unfold e9f at h;exact tX)
def d8h (a_:l5) (place_:Int):Option Bool :=
 (F_n a_).bind fun y4=>jn (α:=Bool) (bif y4 then chk (a0l (a_.Places - 1)) ((F_m place_ 0 (a_.Places - 1)).bind fun y6=>some y6) else some false) fun j7=>some j7
instance Gq8 {m:List MOp}:GI (gjt 2010103 m) [4] [] (fun y:Bool=>[(13,.bool y)]) (fun y=>[]):=⟨⟩
instance g7g {a_:l5} {place_:Int}:WJ (d8h a_ place_) 201 [l5.v a_,.int .i64 place_] .bool:=wX Tryz.func201 [(1,⟨[],[],[.w 3 8 2010103]⟩)] (h:=fun _ _ h hQ M=>by unfold d8h at h;exact tX)
def f7x (place_:Int) (t_:Int) (k71:Int) (a72:o8) (x70:Unit):Option (Fl Unit Bool) :=
 grp ((decide (a72.Kind=4)&&decide (a72.Place=place_))) fun b87=>grp ((b87&&decide (a72.Time≤t_))) fun b88=>bif b88 then some (.ex false) else some (.nx ())
def d8r (a_:l5) (place_:Int) (link_:Int) (t_:Int):Option Bool :=
 (d8h a_ place_).bind fun y7=>bif (!y7) then some false else chk (a0l ((a_.Events.length:Int) - 1)) ((F_m link_ 0 ((a_.Events.length:Int) - 1)).bind fun y8=>bif (!y8) then some false else chk (inb link_ a_.Events.length) (grp (((!decide ((a_.Events.getD (link_).toNat default).Kind=3))||(!decide ((a_.Events.getD (link_).toNat default).Place=place_)))) fun b18=>grp ((b18||decide (t_<(a_.Events.getD (link_).toNat default).Time))) fun b19=>grp ((b19||decide ((a_.Events.getD (link_).toNat default).Until≤t_))) fun b20=>bif b20 then some false else chk (a0l (link_+1)) (chk (inc (link_+1) (a_.Events.length:Int) a_.Events.length) ((a0x (f7x place_ t_) (a_.Events.drop (((link_+1)).toNat)) 0 ()).bind fun o=>o.elim (fun x89=>some true) (fun r90=>some r90)))))
def g39:List (Nat×RN):=[(3,⟨[.gc [1,2,3,4,34,35,36,37,40,41,42,43,46,47,48,49,65,66,67,68,71,72,73,74]],[],[]⟩),(4,⟨[],[],[.v 4 8,.v 10 14,.v 16 20]⟩),(6,⟨[.gc [1,2,3,4,65,66,67,68,71,72,73,74]],[],[]⟩),(9,⟨[],[],[.v 4 8,.v 10 14]⟩)]
@[irreducible] def e2r:MC:=rdc (cK Tryz.prog Tryz.f200 g39 [] 7)
attribute [go_sem] f7x
instance:LI e2r 57 56 [1,3,55,56] [] (fun y:Unit=>[]) (fun y=>[]) []:=⟨⟩
instance g9f {a_:l5} {place_ link_ t_:Int}:WJ (d8r a_ place_ link_ t_) 200 [l5.v a_,.int .i64 place_,.int .i64 link_,.int .i64 t_] .bool:=wX Tryz.func200 g39 [(7,e2r)] (h:=fun _ _ h hQ M=>by unfold d8r at h;exact tX)
noncomputable def d8q (a_:l5) (place_:Int) (t_:Int) (x29:Int):Option (Fl Int (Sum Unit (Int×Bool))) :=
 bif decide (0≤x29) then (d8r a_ place_ x29 t_).bind fun y37=>bif y37 then some (.ex (.inr (x29,true))) else chk (a0l (x29 - 1)) (some (.nx (x29 - 1))) else some (.ex (.inl ()))
noncomputable def d9t (a_:l5) (place_:Int) (t_:Int):Option (Int×Bool) :=
 chk (a0l ((a_.Events.length:Int) - 1)) ((loop (d8q a_ place_ t_) ((a_.Events.length:Int) - 1)).bind fun r38=>Sum.elim (fun u39=>some (0,false)) (fun u40=>some u40) r38)
def g33:List (Nat×RN):=[(5,⟨[.gc [8]],[],[]⟩)]
@[irreducible] def e5l:MC:=rdc (cK Tryz.prog Tryz.f150 g33 [] 2)
attribute [go_sem] d8q
instance:LI e5l 0 0 [1,2,3] [3] (fun y:Int=>[(8,.int .i64 y)]) (fun y=>[]) []:=⟨⟩
instance g8t {a_:l5} {place_ t_:Int}:WJ (d9t a_ place_ t_) 150 [l5.v a_,.int .i64 place_,.int .i64 t_] fun z=>.tup [.int .i64 z.1,.bool z.2]:=wX Tryz.func150 g33 [(2,e5l)] (h:=fun _ _ h hQ M=>by unfold d9t at h;exact tX)
def g0j (k28:Int) (a29:Bool) (x27:List Int):Option (List Int) :=
 bif a29 then chk (room (x27.length+[k28].length) 8) (some (x27++[k28])) else some x27
def F_o (d_:d9) (p_:Int) (t_:Int):Option (List Int) := (F_l d_).bind fun y7=>bif (!y7) then some [] else (F_k d_ p_).bind fun y8=>bif (!y8) then some [] else (upF d_.Kinds.length (d_.Events.map fun e=>(e.Time,e.Kind,e.Principal,e.Group)) p_ t_).bind fun y21=>(a09 g0j y21 0 []).bind fun x30=>some x30
def a_o:List (Nat×RN):=[(3,⟨[],[.k 0 1],[]⟩),(4,⟨[.gc [1,2,3,7]],[],[]⟩)]
@[irreducible] def d0b:MC:=rdc (cK Tryz.prog Tryz.f226 a_o [] 5)
def g1c:MC:=rdc (cT Tryz.prog Tryz.f226 a_o [(5,d0b)])
instance h0f {d_:d9} {p_ t_:Int}:WI (F_o d_ p_ t_) Tryz.prog 226 [d9.v d_,.int .i64 p_,.int .i64 t_] [] (fun z=>.sl (z.map (V.int .i64))) (fun z=>[]):=⟨fun Q Q' h hQ=>by
 refine a2s g1c [.fz 6] [] [.t 6] Tryz.func226 fun M=>?_
 unfold F_o at h
 unfold g1c
 replace h:=tY h
 refine tB ?_
 repeat' (first
 | (exact tZ)
 | ((first|refine b7w h ?_|refine a6f h ?_|refine b8y h ?_|refine b8x h ?_|refine b96 h ?_|refine appG h ?_|refine b9e h ?_|refine fork h ?_ ?_|refine a6g h ?_ ?_)<;>clear h<;>intro hc h)
 | (obtain ⟨y,hy,h⟩:=h;(first|have hw:=g9s (f:=a0n.v) (e4:=fun e=>(e.Time,e.Kind,e.Principal,e.Group)) (fun _=>rfl) hy|have hw:=WI.w hy);replace hw:=tY hw;(first|refine M.sC hw ?_|refine M.sD hw ?_);clear hw hy;refine tB ?_)
 | (refine M.fold1 (b:=d0b) 24 [22,23] [] (fun x=>[(7,.osl 2007 1 0 x.length)]) (fun x=>[.o 2007 (.arr 1 (x.map (V.int .i64)))]) [.gc [7,22,23,24],.acc 7 2007 1] h ?_ ?_ ?_<;>first
 | (clear h;intro k a x Qn K hK1 hkN1 ha1 h hf;have hl:=a3r (a14 (n:=23) hf.1 rfl);clear hf;have hkd:=kD hkN1;have hkB1:=kB hkN1;have hkI1:=kI (k:=k) (by omega);unfold g0j at h;unfold d0b;replace h:=tY h;refine tK ha1 hkd hkN1 hkB1 hkI1 ?_)
  |(clear h;intro x K h;replace h:=And.left (And.intro h trivial);unfold d0b;replace h:=tY h;refine tB ?_)
  |(clear h;(try refine tB ?_);exact tU0;done))
 | (simp only [ha1])
 | (refine hK1 _ ?_;(try refine tB ?_);refine ⟨_,h,?_⟩;exact tU0;done)
 | (refine tE ?_;(first|rw [M.lok_compU]|rw [M.lokD_compU]);refine tB ?_)
 | (refine tA ?_)
 | fail)⟩
def f2f (place_:Int) (principal_:Int) (t_:Int) (k128:Int) (a129:o8) (x127:Int):Option Int :=
 grp ((decide (t_<a129.Time)||(!decide (a129.Place=place_)))) fun b160=>grp ((b160||(!decide (a129.Principal=principal_)))) fun b161=>bif b161 then some x127 else bif decide (a129.Kind=1) then some k128 else bif decide (a129.Kind=2) then some (-1) else some x127
def e9e (a_:l5) (place_:Int) (principal_:Int) (t_:Int):Option Int :=
 (a09 (f2f place_ principal_ t_) a_.Events 0 (-1)).bind fun x162=>some x162
def g2i:List (Nat×RN):=[(5,⟨[],[],[.v 5 9,.v 11 15]⟩)]
@[irreducible] def e4v:MC:=rdc (cK Tryz.prog Tryz.f245 g2i [] 3)
attribute [go_sem] f2f
instance:LI e4v 15 14 [1,2,3,13,14] [] (fun y:Int=>[(9,.int .i64 y)]) (fun y=>[]) []:=⟨⟩
instance g84 {a_:l5} {place_ principal_ t_:Int}:WJ (e9e a_ place_ principal_ t_) 245 [l5.v a_,.int .i64 place_,.int .i64 principal_,.int .i64 t_] (.int .i64):=wX Tryz.func245 g2i [(3,e4v)] (h:=fun _ _ h hQ M=>by unfold e9e at h;exact tX)
noncomputable def f7w (a_:l5) (place_:Int) (t_:Int) (x26:Int×(List Int)):Option (Fl (Int×(List Int)) (List Int)) :=
 bif decide (x26.1<24) then jn (α:=List Int) ((e9e a_ place_ x26.1 t_).bind fun y34=>bif decide (0≤y34) then chk (room (x26.2.length+[x26.1].length) 8) (some (x26.2++[x26.1])) else some x26.2) fun j32=>chk (a0l (x26.1+1)) (some (.nx ((x26.1+1),j32))) else some (.ex x26.2)
noncomputable def e02 (a_:l5) (place_:Int) (t_:Int):Option (List Int) :=
 (d8h a_ place_).bind fun y4=>bif (!y4) then some [] else (loop (f7w a_ place_ t_) (0,[])).bind fun r35=>some r35
def f6v:List (Nat×RN):=[(3,⟨[],[.k 0 1],[]⟩),(8,⟨[.gc [1,2,3,7,8]],[],[]⟩)]
@[irreducible] def d5o:MC:=rdc (cK Tryz.prog Tryz.f227 f6v [] 10000006)
@[irreducible] def e2q:MC:=rdc (cK Tryz.prog Tryz.f227 f6v [(10000006,d5o)] 5)
attribute [go_sem] f7w
instance:LI d5o 0 0 [1,2,3,8] [3] (fun y:List Int=>[(7,.osl 2007 1 0 y.length)]) (fun y=>[.o 2007 (.arr 1 (y.map (V.int .i64)))]) [.gc [1,2,3,7,8],.acc 7 2007 1]:=⟨⟩
instance:LI e2q 0 0 [1,2,3] [3] (fun y:Int×(List Int)=>[(7,.osl 2007 1 0 y.2.length),(8,.int .i64 y.1)]) (fun y=>[.o 2007 (.arr 1 (y.2.map (V.int .i64)))]) [.gc [1,2,3,7,8],.acc 7 2007 1]:=⟨⟩
instance g9e {a_:l5} {place_ t_:Int}:WJ (e02 a_ place_ t_) 227 [l5.v a_,.int .i64 place_,.int .i64 t_] fun z=>.sl (z.map (V.int .i64)):=wX Tryz.func227 f6v [(10000006,d5o),(5,e2q)] [.fz 6] (h:=fun _ _ h hQ M=>by unfold e02 at h;exact tX)
def f2e (x_:Int) (k11:Int) (a12:Int) (x10:Unit):Option (Fl Unit Bool) :=
 bif decide (a12=x_) then some (.ex true) else some (.nx ())
def d3k (l_:List Int) (x_:Int):Option Bool :=
 (a0x (f2e x_) l_ 0 ()).bind fun o=>o.elim (fun x13=>some false) (fun r14=>some r14)
@[irreducible] def e4u:MC:=rdc (cK Tryz.prog Tryz.f203 [] [] 2)
attribute [go_sem] f2e
instance:LI e4u 9 8 [1,7,8] [] (fun y:Unit=>[]) (fun y=>[]) []:=⟨⟩
instance g83 {l_:List Int} {x_:Int}:WJ (d3k l_ x_) 203 [.sl (l_.map (V.int .i64)),.int .i64 x_] .bool:=wX Tryz.func203 [] [(2,e4u)] (h:=fun _ _ h hQ M=>by unfold d3k at h;exact tX)
noncomputable def f7v (y2:List Int) (k37:Int) (a38:Int) (x36:Unit):Option (Fl Unit Bool) :=
 (d3k y2 a38).bind fun y46=>bif y46 then some (.ex true) else some (.nx ())
noncomputable def e9d (d_:d9) (a_:l5) (p_:Int) (place_:Int) (t_:Int):Option Bool :=
 (F_o d_ p_ t_).bind fun y2=>(e02 a_ place_ t_).bind fun y25=>(a0x (f7v y2) y25 0 ()).bind fun o=>o.elim (fun x47=>some false) (fun r48=>some r48)
def g2h:List (Nat×RN):=[(2,⟨[.gc [3,4,6,11]],[],[]⟩)]
@[irreducible] def e2p:MC:=rdc (cK Tryz.prog Tryz.f202 g2h [] 3)
attribute [go_sem] f7v
instance:LI e2p 23 22 [11,21,22] [] (fun y:Unit=>[]) (fun y=>[]) []:=⟨⟩
instance g82 {d_:d9} {a_:l5} {p_ place_ t_:Int}:WJ (e9d d_ a_ p_ place_ t_) 202 [d9.v d_,l5.v a_,.int .i64 p_,.int .i64 place_,.int .i64 t_] .bool:=wX Tryz.func202 g2h [(3,e2p)] (h:=fun _ _ h hQ M=>by unfold e9d at h;exact tX)
noncomputable def e8a (d_:d9) (a_:l5) (p_:Int) (place_:Int) (t_:Int):Option Bool :=
 (F_l d_).bind fun y10=>bif (!y10) then some false else (d8h a_ place_).bind fun y11=>bif (!y11) then some false else (d9d d_ p_).bind fun y12=>bif (!y12) then some false else (d9t a_ place_ t_).bind fun y14=>jn (α:=Bool) (bif y14.2 then some true else (e9d d_ a_ p_ place_ t_).bind fun y18=>some y18) fun j19=>some j19
instance Gq9 {m:List MOp}:GI (gjt 1510402 m) [] [] (fun y:Bool=>[(43,.bool y)]) (fun y=>[]):=⟨⟩
instance g61 {d_:d9} {a_:l5} {p_ place_ t_:Int}:WJ (e8a d_ a_ p_ place_ t_) 151 [d9.v d_,l5.v a_,.int .i64 p_,.int .i64 place_,.int .i64 t_] .bool:=wX Tryz.func151 [(3,⟨[.gc [2,3,4,5,6,37,38,39,40,41,42]],[],[]⟩),(4,⟨[.gc [2,3,4,5,6,12,37,38,39,40,41,42]],[],[.w 2 8 1510402]⟩)] (h:=fun _ _ h hQ M=>by unfold e8a at h;exact tX)
noncomputable def f2d (d_:d9) (a_:l5) (p_:Int) (t_:Int) (k67:Int) (a68:Int) (x66:Unit):Option (Fl Unit Bool) :=
 bif decide (p_=(-1)) then (d9t a_ a68 t_).bind fun y82=>bif y82.2 then some (.ex true) else some (.nx ()) else (e8a d_ a_ p_ a68 t_).bind fun y84=>bif y84 then some (.ex true) else some (.nx ())
noncomputable def e9c (d_:d9) (a_:l5) (content_:Int) (p_:Int) (t_:Int):Option Bool :=
 (d8i d_ a_ content_ p_).bind fun y10=>grp (((!y10)||decide (t_<0))) fun b11=>grp ((b11||decide (1099511627776<t_))) fun b12=>bif b12 then some false else (e9f a_ content_ t_).bind fun y47=>(a0x (f2d d_ a_ p_ t_) y47 0 ()).bind fun o=>o.elim (fun x85=>some false) (fun r86=>some r86)
def g2g:List (Nat×RN):=[(1,⟨[],[],[.v 7 9,.v 11 13]⟩),(3,⟨[.gc [2,3,4,5,6]],[],[]⟩)]
@[irreducible] def e4t:MC:=rdc (cK Tryz.prog Tryz.f97 g2g [] 4)
attribute [go_sem] f2d
instance:LI e4t 34 33 [3,4,5,6,32,33] [6,5] (fun y:Unit=>[]) (fun y=>[]) []:=⟨⟩
instance g81 {d_:d9} {a_:l5} {content_ p_ t_:Int}:WJ (e9c d_ a_ content_ p_ t_) 97 [d9.v d_,l5.v a_,.int .i64 content_,.int .i64 p_,.int .i64 t_] .bool:=wX Tryz.func97 g2g [(4,e4t)] (h:=fun _ _ h hQ M=>by unfold e9c at h;exact tX)
noncomputable def f7u (d_:d9) (a_:l5) (content_:Int) (p_:Int) (k39:Int) (a40:Int) (x38:Unit):Option (Fl Unit (Int×Bool)) :=
 (e9c d_ a_ content_ p_ a40).bind fun y48=>bif y48 then some (.ex (a40,true)) else some (.nx ())
noncomputable def e9b (d_:d9) (a_:l5) (content_:Int) (p_:Int):Option (Int×Bool) :=
 (d8i d_ a_ content_ p_).bind fun y4=>bif (!y4) then some (0,false) else (e9z d_ a_).bind fun y27=>(a0x (f7u d_ a_ content_ p_) y27 0 ()).bind fun o=>o.elim (fun x49=>some (0,false)) (fun r50=>some r50)
def g2f:List (Nat×RN):=[(3,⟨[.gc [2,3,4,5]],[],[]⟩),(7,⟨[.gc [11]],[],[]⟩)]
@[irreducible] def e2o:MC:=rdc (cK Tryz.prog Tryz.f53 g2f [] 4)
attribute [go_sem] f7u
instance:LI e2o 22 21 [2,3,4,5,20,21] [5,4] (fun y:Unit=>[]) (fun y=>[]) []:=⟨⟩
instance g80 {d_:d9} {a_:l5} {content_ p_:Int}:WJ (e9b d_ a_ content_ p_) 53 [d9.v d_,l5.v a_,.int .i64 content_,.int .i64 p_] fun z=>.tup [.int .i64 z.1,.bool z.2]:=wX Tryz.func53 g2f [(4,e2o)] (h:=fun _ _ h hQ M=>by unfold e9b at h;exact tX)
noncomputable def f7t (d_:d9) (a_:l5) (content_:Int) (x34:Int×(List z8)):Option (Fl (Int×(List z8)) (List z8)) :=
 bif decide (x34.1<(d_.Kinds.length:Int)) then jn (α:=List z8) ((e9b d_ a_ content_ x34.1).bind fun y42=>bif y42.2 then chk (room (x34.2.length+[(z8.mk x34.1 y42.1)].length) 16) (some (x34.2++[(z8.mk x34.1 y42.1)])) else some x34.2) fun j40=>chk (a0l (x34.1+1)) (some (.nx ((x34.1+1),j40))) else some (.ex x34.2)
noncomputable def e00 (d_:d9) (a_:l5) (content_:Int):Option ((List z8)×Int) :=
 (F_l d_).bind fun y4=>bif (!y4) then some ([],30) else (F_n a_).bind fun y8=>bif (!y8) then some ([],34) else grp ((decide (content_<0)||decide (63<content_))) fun b12=>bif b12 then some ([],2) else (loop (f7t d_ a_ content_) ((-1),[])).bind fun r43=>some (r43,0)
def f6u:List (Nat×RN):=[(5,⟨[.gc [2,3,4,21,22]],[],[.v 3 5]⟩),(7,⟨[],[.k 0 1],[]⟩),(13,⟨[.gc [2,3,4,8,9,10]],[],[]⟩)]
@[irreducible] def d5n:MC:=rdc (cK Tryz.prog Tryz.f23 f6u [] 10000010)
@[irreducible] def e2n:MC:=rdc (cK Tryz.prog Tryz.f23 f6u [(10000010,d5n)] 9)
attribute [go_sem] f7t
instance:LI d5n 0 0 [2,3,4,9] [4,3] (fun y:List z8=>[(8,.osl 2008 2 0 y.length)]) (fun y=>[.o 2008 (.arr 2 (y.map z8.v))]) [.gc [2,3,4,8,9],.acc 8 2008 2]:=⟨⟩
instance:LI e2n 0 0 [2,3,4] [4,3] (fun y:Int×(List z8)=>[(8,.osl 2008 2 0 y.2.length),(9,.int .i64 y.1)]) (fun y=>[.o 2008 (.arr 2 (y.2.map z8.v))]) [.gc [2,3,4,8,9],.acc 8 2008 2]:=⟨⟩
instance g9d {d_:d9} {a_:l5} {content_:Int}:WJ (e00 d_ a_ content_) 23 [d9.v d_,l5.v a_,.int .i64 content_] fun z=>.tup [.sl (z.1.map z8.v),.int .i64 z.2]:=wX Tryz.func23 f6u [(10000010,d5n),(9,e2n)] [.fz 6] (h:=fun _ _ h hQ M=>by unfold e00 at h;exact tX)
noncomputable def f7s (k46:Int) (a47:z8) (x45:Int×Bool):Option (Int×Bool) :=
 grp (((!x45.2)||decide (a47.Time<x45.1))) fun b55=>bif b55 then some (a47.Time,true) else some (x45.1,x45.2)
noncomputable def e9a (d_:d9) (a_:l5) (content_:Int):Option (Int×Bool) :=
 (e00 d_ a_ content_).bind fun y2=>(a09 f7s y2.1 0 (0,false)).bind fun x56=>some (x56.1,x56.2)
def g2e:List (Nat×RN):=[(3,⟨[.gc [8,10,11,30,31,32,33]],[],[]⟩),(6,⟨[],[],[.v 3 7]⟩),(7,⟨[.gc [13,21,22,23,30,31,32,33]],[],[]⟩)]
@[irreducible] def e2m:MC:=rdc (cK Tryz.prog Tryz.f24 g2e [] 4)
attribute [go_sem] f7s
instance:LI e2m 23 22 [21,22] [] (fun y:Int×Bool=>[(10,.int .i64 y.1),(11,.bool y.2)]) (fun y=>[]) []:=⟨⟩
instance g7z {d_:d9} {a_:l5} {content_:Int}:WJ (e9a d_ a_ content_) 24 [d9.v d_,l5.v a_,.int .i64 content_] fun z=>.tup [.int .i64 z.1,.bool z.2]:=wX Tryz.func24 g2e [(4,e2m)] (h:=fun _ _ h hQ M=>by unfold e9a at h;exact tX)
end Go.Ab
set_option maxRecDepth 20000
set_option maxHeartbeats 2000000
namespace Go.Ab
open Go.Proofs
def g0i (a_:Int) (b_:Int) (k31:Int) (a32:a0p) (x30:Unit):Option (Fl Unit Bool) :=
 grp ((decide (a32.From=a_)&&decide (a32.To=b_))) fun b40=>bif b40 then some (.ex true) else some (.nx ())
def f9y (b_:Int) (a244:a02) (k313:Int) (a314:a08) (x312:Unit):Option (Fl Unit Bool) :=
 grp ((decide (a314.Resource=a244.Resource)&&decide (a314.Credential=b_))) fun b322=>bif b322 then some (.ex true) else some (.nx ())
def f7r (x_:l6) (a_:Int) (b_:Int) (k243:Int) (a244:a02) (x242:Unit):Option (Fl Unit Bool) :=
 bif (!decide (a244.Credential=a_)) then some (.nx ()) else (a0x (f9y b_ a244) x_.Stores 0 ()).bind fun o=>o.elim (fun x323=>some (.nx ())) (fun r324=>some (.ex r324))
def F_2 (x_:l6) (a_:Int) (b_:Int):Option Bool := (a0x (g0i a_ b_) x_.Mints 0 ()).bind fun o=>o.elim (fun x41=>(a0x (f7r x_ a_ b_) x_.Grants 0 ()).bind fun o=>o.elim (fun x325=>some false) (fun r326=>some r326)) (fun r42=>some r42)
def a_2:List (Nat×RN):=[(4,⟨[],[],[.v 5 9]⟩),(14,⟨[],[],[.v 6 10]⟩)]
@[irreducible] def d0a:MC:=rdc (cK Tryz.prog Tryz.f228 a_2 [] 2)
@[irreducible] def d64:MC:=rdc (cK Tryz.prog Tryz.f228 a_2 [(2,d0a)] 12)
@[irreducible] def e2l:MC:=rdc (cK Tryz.prog Tryz.f228 a_2 [(2,d0a),(12,d64)] 8)
attribute [go_sem] g0i f9y f7r
instance:LI d0a 16 15 [1,2,3,14,15] [3] (fun y:Unit=>[]) (fun y=>[]) []:=⟨⟩
instance:LI d64 45 44 [1,2,3,10,32,33,34,43,44] [10,3] (fun y:Unit=>[]) (fun y=>[]) []:=⟨⟩
instance:LI e2l 34 33 [1,2,3,32,33] [3] (fun y:Unit=>[]) (fun y=>[]) []:=⟨⟩
instance g8u {x_:l6} {a_ b_:Int}:WJ (F_2 x_ a_ b_) 228 [l6.v x_,.int .i64 a_,.int .i64 b_] .bool:=wX Tryz.func228 a_2 [(2,d0a),(12,d64),(8,e2l)] (h:=fun _ _ h hQ M=>by unfold F_2 at h;exact tX)
end Go.Ab
namespace Go.Proofs
open Go.Deep Go.Ab Go.RowKit
theorem Tryz.i4r:(Tryz.prog.info? 4).map (fun i=>(i.zero,i.size,i.bytes))=some (some (.bool false),1,1):=by kernel_rfl
theorem Tryz.i66r:(Tryz.prog.info? 270).map (fun i=>(i.zero,i.size,i.bytes))=some (some (.slice none 0 0),1,24):=by kernel_rfl
def c8n (bs:Nat→Nat) (n c:Nat):Nat→Value:=fun j=>if j<c then .slice (some ⟨bs j,0,none⟩) n n else .slice none 0 0
structure PA (w wr:World) (n c:Nat) (vx:Array Value) (L:Nat→Nat→Bool) (bs:Nat→Nat):Prop where
 since:w.Since w.heap.size wr
 size:w.heap.size+2≤wr.heap.size
 box:wr.heap[w.heap.size]?=some (.cells vx 46)
 top:wr.rowIs (w.heap.size+1) 270 n (c8n bs n c)
 done:∀j,j<c→wr.rowIs (bs j) 4 n (fun i=>.bool (L j i))
 lo:∀j,j<c→w.heap.size+1<bs j
 inj:∀i j,i<j→j<c→bs i<bs j
structure PB (w wr:World) (n c r:Nat) (vx:Array Value) (L:Nat→Nat→Bool) (bs:Nat→Nat):Prop where
 since:w.Since w.heap.size wr
 size:w.heap.size+2≤wr.heap.size
 box:wr.heap[w.heap.size]?=some (.cells vx 46)
 top:wr.rowIs (w.heap.size+1) 270 n (c8n bs n (c+1))
 done:∀j,j<c→wr.rowIs (bs j) 4 n (fun i=>.bool (L j i))
 cur:wr.rowIs (bs c) 4 n (fun i=>.bool (decide (i<r)&&L c i))
 lo:∀j,j≤c→w.heap.size+1<bs j
 inj:∀i j,i<j→j≤c→bs i<bs j
theorem c9w (w:World) (n:Nat) (vx:Array Value) (L:Nat→Nat→Bool):PA w ((w.alloc (.cells vx 46)).alloc (.cells (madeCells #[.slice none 0 0] n) 270)) n 0 vx L (fun _=>0):=by
 have hnew:=World.rowIs_made (w.alloc (.cells vx 46)) (.slice none 0 0) n 270
 rw [World.size_alloc] at hnew
 have hb:((w.alloc (.cells vx 46)).alloc (.cells (madeCells #[.slice none 0 0] n) 270)).heap[w.heap.size]?=some (.cells vx 46):=by
  rw [blk_alloc_lt _ _ _ (by simp)];exact World.alloc_heap_new w _
 exact ⟨((World.Since.refl _ _).alloc (Nat.le_refl _) _).alloc (by simp) _,by simp,hb,hnew.congr (fun j _=>by simp [c8n]),fun j hj=>absurd hj (Nat.not_lt_zero _),fun j hj=>absurd hj (Nat.not_lt_zero _),fun i j _ hj=>absurd hj (Nat.not_lt_zero _)⟩
theorem c9v {w wr:World} {n c:Nat} {vx:Array Value} {L:Nat→Nat→Bool} {bs:Nat→Nat} (h:PA w wr n c vx L bs) :
  PB w ((wr.alloc (.cells (madeCells #[.bool false] n) 4)).setCell ⟨w.heap.size+1,c,none⟩ (.slice (some ⟨wr.heap.size,0,none⟩) n n)) n c 0 vx L (fun j=>if j=c then wr.heap.size else bs j):=by
 have hnew:=World.rowIs_made wr (.bool false) n 4
 have hs:=h.size
 refine ⟨(h.since.alloc (by omega) _).setCell (by show w.heap.size≤w.heap.size+1;omega) _,by simp;omega,((blk_setCell_other _ _ _ _ (by show w.heap.size≠w.heap.size+1;omega)).trans (blk_alloc_lt _ _ _ (by omega))).trans h.box,((h.top.alloc _).set c _).congr (fun j _=>?_),fun j hj=>?_,?_,fun j hj=>?_,fun i j hij hj=>?_⟩
 ·simp only [c8n]
  by_cases e:j=c
  ·subst e;simp
  ·rw [if_neg e,if_neg e]
   by_cases hlt:j<c
   ·rw [if_pos hlt,if_pos (by omega)]
   ·rw [if_neg hlt,if_neg (by omega)]
 ·rw [if_neg (by omega)]
  have:=h.lo j hj
  exact ((h.done j hj).alloc _).setOther (by show bs j≠w.heap.size+1;omega) _
 ·simp only [if_true]
  exact (hnew.setOther (by show wr.heap.size≠w.heap.size+1;omega) _).congr fun i _=>by simp
 ·by_cases e:j=c
  ·rw [if_pos e];omega
  ·rw [if_neg e];exact h.lo j (by omega)
 ·by_cases e:j=c
  ·rw [if_pos e,if_neg (by omega)]
   exact (h.done i (by omega)).lt
  ·rw [if_neg e,if_neg (by omega)];exact h.inj i j hij (by omega)
theorem PB.grown {w wr wq:World} {n c r:Nat} {vx:Array Value} {L:Nat→Nat→Bool} {bs:Nat→Nat} (h:PB w wr n c r vx L bs) (hs:wr.Since wr.heap.size wq):PB w wq n c r vx L bs:=by
 have hz:=h.size
 have hz2:=hs.size
 have hk:∀b,b<wr.heap.size→wq.heap[b]?=wr.heap[b]?:=hs.block
 exact ⟨⟨hs.os.trans h.since.os,hs.tape.trans h.since.tape,hs.output.trans h.since.output,Nat.le_trans h.since.size hs.size,fun b hb=>(hk b (by omega)).trans (h.since.block b hb)⟩,by omega,(hk _ (by omega)).trans h.box,h.top.of_block (hk _ h.top.lt),fun j hj=>(h.done j hj).of_block (hk _ (h.done j hj).lt),h.cur.of_block (hk _ h.cur.lt),h.lo,h.inj⟩
theorem d58 {w wr:World} {n c r:Nat} {vx:Array Value} {L:Nat→Nat→Bool} {bs:Nat→Nat} (h:PB w wr n c r vx L bs):PB w (wr.setCell ⟨bs c,r,none⟩ (.bool (L c r))) n c (r+1) vx L bs:=by
 have hlo:=h.lo c (Nat.le_refl _)
 refine ⟨h.since.setCell (by show w.heap.size≤bs c;omega) _,by have:=h.size;simp;omega,(blk_setCell_other _ _ _ _ (by show w.heap.size≠bs c;omega)).trans h.box,h.top.setOther (by show w.heap.size+1≠bs c;omega) _,fun j hj=>(h.done j hj).setOther (by show bs j≠bs c;have:=h.inj j c hj (Nat.le_refl _);omega) _,(h.cur.set r _).congr (fun i _=>?_),h.lo,h.inj⟩
 by_cases e:i=r
 ·subst e;simp
 ·rw [if_neg e]
  have:decide (i<r+1)=decide (i<r):=decide_eq_decide.2 (by omega)
  rw [this]
theorem PB.drew {w wr:World} {n c r:Nat} {vx:Array Value} {L:Nat→Nat→Bool} {bs:Nat→Nat} (h:PB w wr n c r vx L bs):PB w wr.drew n c r vx L bs :=
 ⟨h.since.drew,h.size,h.box,h.top.drew,fun j hj=>(h.done j hj).drew,h.cur.drew,h.lo,h.inj⟩
theorem d59 {w wr:World} {n c:Nat} {vx:Array Value} {L:Nat→Nat→Bool} {bs:Nat→Nat} (h:PB w wr n c n vx L bs):PA w wr n (c+1) vx L bs :=
 ⟨h.since,h.size,h.box,h.top,fun j hj=>by
  by_cases e:j=c
  ·subst e;exact h.cur.congr fun i hi=>by simp [hi]
  ·exact h.done j (by omega),fun j hj=>h.lo j (by omega),fun i j hij hj=>h.inj i j hij (by omega)⟩
theorem PB.look {w wr:World} {n c r:Nat} {v0 v1 v2 v3 v4:Value} {L:Nat→Nat→Bool} {bs:Nat→Nat} (h:PB w wr n c r #[v0,v1,v2,v3,v4] L bs) (hc:c<n) (hr:r<n) :
  wr.cell? ⟨w.heap.size+1,c,none⟩=some (.slice (some ⟨bs c,0,none⟩) n n)∧wr.cell? ⟨w.heap.size,0,none⟩=some v0∧wr.cell? ⟨w.heap.size,1,none⟩=some v1∧wr.cell? ⟨w.heap.size,2,none⟩=some v2∧wr.cell? ⟨w.heap.size,3,none⟩=some v3∧wr.cell? ⟨w.heap.size,4,none⟩=some v4 ∧
  wr.cell? ⟨bs c,r,none⟩=some (.bool (decide (r<r)&&L c r))∧wr.frozen? ⟨bs c,r,none⟩=false:=by
 refine ⟨?_,by simp [World.cell?,h.box],by simp [World.cell?,h.box],by simp [World.cell?,h.box],by simp [World.cell?,h.box],by simp [World.cell?,h.box],h.cur.cell hr,h.cur.frozen r⟩
 have:=h.top.cell hc
 simpa [c8n] using this
def stp (L:Nat→Nat→Bool) (a b:Nat) (f:Nat→Bool):Nat→Bool:=fun i=>if i=b then f b||(f a&&L a b) else f i
def inn (L:Nat→Nat→Bool) (a:Nat) (f:Nat→Bool):Nat→Nat→Bool
 | 0=>f
 | b+1=>stp L a b (inn L a f b)
def midd (L:Nat→Nat→Bool) (n:Nat) (f:Nat→Bool):Nat→Nat→Bool
 | 0=>f
 | a+1=>inn L a (midd L n f a) n
def oul (L:Nat→Nat→Bool) (n:Nat) (f:Nat→Bool):Nat→Nat→Bool
 | 0=>f
 | k+1=>midd L n (oul L n f k) n
structure PC (w wr:World) (n:Nat) (L:Nat→Nat→Bool) (bs:Nat→Nat) (ob:Nat) (f:Nat→Bool):Prop where
 since:w.Since w.heap.size wr
 top:wr.rowIs (w.heap.size+1) 270 n (c8n bs n n)
 done:∀j,j<n→wr.rowIs (bs j) 4 n (fun i=>.bool (L j i))
 out:wr.rowIs ob 4 n (fun i=>.bool (f i))
 lo:w.heap.size+1<ob
 apart:∀j,j<n→bs j≠ob
theorem c9u {w wr:World} {n ci:Nat} {vx:Array Value} {L:Nat→Nat→Bool} {bs:Nat→Nat} (h:PA w wr n n vx L bs) :
  PC w ((wr.alloc (.cells (madeCells #[.bool false] n) 4)).setCell ⟨wr.heap.size,ci,none⟩ (.bool true)) n L bs wr.heap.size (fun i=>decide (i=ci)):=by
 have hnew:=World.rowIs_made wr (.bool false) n 4
 have hs:=h.size
 have hs0:=h.since.size
 have htl:=h.top.lt
 refine ⟨(h.since.alloc (by omega) _).setCell (by show w.heap.size≤wr.heap.size;omega) _,(h.top.alloc _).setOther (by show w.heap.size+1≠wr.heap.size;omega) _,fun j hj=>((h.done j hj).alloc _).setOther (by show bs j≠wr.heap.size;have:=(h.done j hj).lt;omega) _,(hnew.set ci _).congr (fun j _=>?_),by omega,fun j hj=>by have:=(h.done j hj).lt;omega⟩
 by_cases e:j=ci
 ·subst e;simp
 ·simp [e]
theorem d57 {w wr:World} {n:Nat} {L:Nat→Nat→Bool} {bs:Nat→Nat} {ob:Nat} {f:Nat→Bool} (h:PC w wr n L bs ob f) (a b:Nat) {x:Bool} (hx:x=(f b||(f a&&L a b))) :
  PC w (wr.setCell ⟨ob,b,none⟩ (.bool x)) n L bs ob (stp L a b f):=by
 have hlo:=h.lo
 refine ⟨h.since.setCell (by show w.heap.size≤ob;omega) _,h.top.setOther (by show w.heap.size+1≠ob;omega) _,fun j hj=>(h.done j hj).setOther (by show bs j≠ob;exact h.apart j hj) _,(h.out.set b _).congr (fun j _=>?_),hlo,h.apart⟩
 simp only [stp]
 by_cases e:j=b
 ·subst e;simp [hx]
 ·simp [e]
theorem PC.look {w wr:World} {n:Nat} {L:Nat→Nat→Bool} {bs:Nat→Nat} {ob:Nat} {f:Nat→Bool} (h:PC w wr n L bs ob f) {a b:Nat} (ha:a<n) (hb:b<n) :
  wr.cell? ⟨w.heap.size+1,a,none⟩=some (.slice (some ⟨bs a,0,none⟩) n n)∧wr.cell? ⟨bs a,b,none⟩=some (.bool (L a b))∧wr.cell? ⟨ob,a,none⟩=some (.bool (f a))∧wr.cell? ⟨ob,b,none⟩=some (.bool (f b))∧wr.frozen? ⟨ob,b,none⟩=false:=by
 refine ⟨?_,(h.done a ha).cell hb,h.out.cell ha,h.out.cell hb,h.out.frozen b⟩
 have:=h.top.cell ha
 simpa [c8n,ha] using this
set_option maxHeartbeats 3200000 in
set_option maxRecDepth 1000000 in
theorem c2f (n ci:Nat) (hci:ci<n) (hn:n≤24) (v1 v2 v3 v4:Value) (L:Nat→Nat→Bool) (w:World)
  (hcall:∀(W:World),w.Since w.heap.size W→∀a b:Nat,a<n→b<n→Calls Tryz.prog 228 #[.agg #[.int .i64 n,v1,v2,v3,v4],.int .i64 a,.int .i64 b] W fun e W'=>e=.returned (.bool (L a b))∧W.Since W.heap.size W') :
  Calls Tryz.prog 204 #[.agg #[.int .i64 n,v1,v2,v3,v4],.int .i64 ci] w fun e w'=>∃bs ob,e=.returned (.slice (some ⟨ob,0,none⟩) n n)∧PC w w' n L bs ob (oul L n (fun i=>decide (i=ci)) n):=by
 have hmk72:=run_make_row' (P:=Tryz.prog) 291 270 (.slice none 0 0) 24 Tryz.underlying291 Tryz.i66r rfl .i64 .i64 n (by omega) (by omega)
 go_enter Tryz.func204,Tryz.ntmps204
 go_wp2
 go_loopg [16] n (fun g i wr=>∃(c:Nat) (bs:Nat→Nat),c≤n∧g=n - c∧i=.int .i64 c∧PA w wr n c #[.int .i64 n,v1,v2,v3,v4] L bs)
 case atStart=>exact ⟨0,_,Nat.zero_le _,rfl,rfl,c9w w n _ L⟩
 case round =>
  obtain ⟨c,bs,hc,rfl,rfl,hO⟩:=hrel
  have hb0:wr.cell? ⟨w.heap.size,0,none⟩=some (.int .i64 n):=by simp [World.cell?,hO.box]
  have hmk66:=run_make_row' (P:=Tryz.prog) 270 4 (.bool false) 1 Tryz.underlying270 Tryz.i4r rfl .i64 .i64 n (by omega) (by omega)
  have hst1:c<n→∀o,(wr.alloc o).cell? ⟨w.heap.size+1,c,none⟩=some (c8n bs n c c):=fun h o=>(hO.top.alloc o).cell h
  have hst2:∀o,(wr.alloc o).frozen? ⟨w.heap.size+1,c,none⟩=false:=fun o=>(hO.top.alloc o).frozen c
  have hI0:=c9v hO
  have hst3:c<n→((wr.alloc (.cells (madeCells #[.bool false] n) 4)).setCell ⟨w.heap.size+1,c,none⟩ (.slice (some ⟨wr.heap.size,0,none⟩) n n)).cell? ⟨w.heap.size+1,c,none⟩=some (.slice (some ⟨wr.heap.size,0,none⟩) n n):=fun h=>by
   have:=hI0.top.cell h
   simpa [c8n] using this
  by_cases hcn:c<n
  ·have hst1:=hst1 hcn
   have hst3:=hst3 hcn
   go_wp2
   clear hst1 hst2 hst3 hmk66 hb0 hmk72
   generalize hbs:(fun j=>if j=c then wr.heap.size else bs j)=bs' at hI0
   have hbc:wr.heap.size=bs' c:=by rw [←hbs];simp
   rw [hbc]
   rw [hbc] at hI0
   clear hO
   go_loopg [30] n (fun g i wi=>∃r:Nat,r≤n∧g=n - r∧i=.int .i64 r∧PB w wi n c r #[.int .i64 n,v1,v2,v3,v4] L bs')
   case atStart=>exact ⟨0,Nat.zero_le _,rfl,rfl,hI0⟩
   case round =>
    clear hI0
    obtain ⟨r,hr,rfl,rfl,hI⟩:=hrel
    by_cases hrn:r<n
    ·obtain ⟨g1,b0,b1,b2,b3,b4,q1,q2⟩:=hI.look hcn hrn
     go_wp2
     go_region_with (go_at_call 228;refine (hcall _ ?_ c r hcn hrn).mono ?_;exact hI.drew.since;rintro e W' ⟨rfl,hW'⟩;obtain ⟨k1,k2,k3,k4,k5,k6,k7,k8⟩:=(hI.drew.grown hW').look hcn hrn)
     all_goals go_wp2
     all_goals
      go_roundg (n - (r+1))
      case measure=>omega
      case rel=>exact ⟨r+1,by omega,rfl,by simp,d58 (hI.drew.grown hW')⟩
    ·have hrr:r=n:=by omega
     subst hrr
     clear hcall
     go_wp2
     go_roundg (r - (c+1))
     case measure=>omega
     case rel=>exact ⟨c+1,bs',by omega,rfl,by simp,d59 hI⟩
  ·have hcc:c=n:=by omega
   subst hcc
   have hnew:=World.rowIs_made wr (.bool false) c 4
   have ho1:(wr.alloc (.cells (madeCells #[.bool false] c) 4)).cell? ⟨wr.heap.size,ci,none⟩=some (.bool false):=hnew.cell hci
   have ho2:(wr.alloc (.cells (madeCells #[.bool false] c) 4)).frozen? ⟨wr.heap.size,ci,none⟩=false:=hnew.frozen ci
   have hC:=c9u (ci:=ci) hO
   clear hst1 hst2 hst3 hI0 hcall hmk72 hnew
   go_wp2
   clear ho1 ho2 hb0 hmk66 hO
   try rw [show decide (c<c)=false by simp]
   have hC':PC w (wr.alloc (.cells ((madeCells #[.bool false] c).setIfInBounds ci (.bool true)) 4)) c L bs wr.heap.size (fun i=>decide (i=ci)):=by
    rw [World.setCell_alloc_at _ _ _ _ _ rfl] at hC;exact hC
   clear hC
   generalize hob:wr.heap.size=ob at hC' ⊢
   go_loopg [53] c (fun g i wq=>∃k:Nat,k≤c∧g=c - k∧i=.int .i64 k∧PC w wq c L bs ob (oul L c (fun i=>decide (i=ci)) k))
   case atStart=>exact ⟨0,Nat.zero_le _,rfl,rfl,hC'⟩
   case round =>
    clear hC'
    obtain ⟨k,hk,rfl,rfl,hK⟩:=hrel
    by_cases hkn:k<c
    ·go_wp2
     go_loopg [57] c (fun g i wq=>∃a:Nat,a≤c∧g=c - a∧i=.int .i64 a∧PC w wq c L bs ob (midd L c (oul L c (fun i=>decide (i=ci)) k) a))
     case atStart=>exact ⟨0,Nat.zero_le _,rfl,rfl,hK⟩
     case round =>
      clear hK
      obtain ⟨a,ha,rfl,rfl,hA⟩:=hrel
      by_cases han:a<c
      ·go_wp2
       go_loopg [62] c (fun g i wq=>∃b:Nat,b≤c∧g=c - b∧i=.int .i64 b∧PC w wq c L bs ob (inn L a (midd L c (oul L c (fun i=>decide (i=ci)) k) a) b))
       case atStart=>exact ⟨0,Nat.zero_le _,rfl,rfl,hA⟩
       case round =>
        clear hA
        obtain ⟨b,hb,rfl,rfl,hB⟩:=hrel
        by_cases hbn:b<c
        ·obtain ⟨g1,g2,g3,g4,g5⟩:=hB.look han hbn
         have hS:=@d57 w _ c L bs ob _ hB a b
         cases hfb:inn L a (midd L c (oul L c (fun i=>decide (i=ci)) k) a) b b
         all_goals cases hfa:inn L a (midd L c (oul L c (fun i=>decide (i=ci)) k) a) b a
         all_goals rw [hfb] at g4
         all_goals rw [hfa] at g3
         all_goals go_wp2
         all_goals
          go_roundg (c - (b+1))
          case measure=>omega
          case rel=>exact ⟨b+1,by omega,rfl,by simp,hS (by rw [hfa,hfb];simp)⟩
        ·have hbb:b=c:=by omega
         subst hbb
         go_wp2
         go_roundg (b - (a+1))
         case measure=>omega
         case rel=>exact ⟨a+1,by omega,rfl,by simp,hB⟩
      ·have haa:a=c:=by omega
       subst haa
       go_wp2
       go_roundg (a - (k+1))
       case measure=>omega
       case rel=>exact ⟨k+1,by omega,rfl,by simp,hA⟩
    ·have hkk:k=c:=by omega
     subst hkk
     go_wp2
     go_ret
     exact ⟨bs,ob,rfl,hK⟩
end Go.Proofs
set_option linter.unusedVariables false
namespace Go.Ab
open Go.RowKit Go.Proofs Go.Deep
theorem c3d {P:Program} {f:Nat} {args:List V} {b:Bool} (h:a0j P f args [] (fun r H'=>r=.bool b∧H'=[])) {g:Gh} {w W:World} (hH:a2f P g w []) (hk:a1j g.S w W) (hs:w.heap.size≤W.heap.size)
  {vals:Array Value} (hsz:vals.size=args.length) (hv:∀(i:Nat) (x:V),args[i]?=some x→VR g w (vals.getD i undef) x) :
  Calls P f vals W fun e W'=>e=.returned (.bool b)∧W.Since W.heap.size W':=by
 refine (h.2 g W vals ⟨fun _ _ h=>(by cases h),fun _ _ _ _ h=>(by cases h),fun _ _ h=>(by cases h),fun b hb=>Nat.lt_of_lt_of_le (hH.lt b hb) hs,fun w' hw=>hH.tabs w' fun b hb=>(hw b hb).trans (hk b hb)⟩ hsz fun i x hx=>(hv i x hx).mono hk (fun _ h=>h) fun id _=>.refl _ _).mono ?_
 rintro e w' ⟨v,r,H',g',rfl,⟨rfl,rfl⟩,hH',hr,hf,_⟩
 refine ⟨by rw [hr.bool_inv],⟨hf.os,hf.tape,hf.output,hf.size,fun b hb=>hf.old b hb ?_⟩⟩
 rintro ⟨id,o,ho,_⟩
 cases ho
def b68 (x:l6) (c:Int):Option (List Bool) :=
 chk (inb c 24&&decide (x.Credentials≤24)&&decide (c<x.Credentials)&&(List.range x.Credentials.toNat).all fun a=>(List.range x.Credentials.toNat).all fun b=>(F_2 x a b).isSome)
  (some ((List.range x.Credentials.toNat).map (Go.Proofs.oul (fun a b=>(F_2 x a b).getD false) x.Credentials.toNat (fun i=>decide (i=c.toNat)) x.Credentials.toNat)))
theorem g4v {vals:Array Value} (h2:vals.size=5):vals=#[vals.getD 0 undef,vals.getD 1 undef,vals.getD 2 undef,vals.getD 3 undef,vals.getD 4 undef]:=by
 apply Array.ext
 ·simp [h2]
 ·intro i h1 h3
  have:i=0∨i=1∨i=2∨i=3∨i=4:=by omega
  rcases this with rfl|rfl|rfl|rfl|rfl<;>simp [Array.getD_eq_getD_getElem?,h1]
theorem g9u {x:l6} {c:Int} {y:List Bool} (hy:b68 x c=some y) :
  a0j Tryz.prog 204 [l6.v x,.int .i64 c] [] (fun r H'=>r=.sl (y.map V.bool)∧H'=[]):=by
 unfold b68 at hy
 have hc0:(inb c 24&&decide (x.Credentials≤24)&&decide (c<x.Credentials)&&(List.range x.Credentials.toNat).all (fun a=>(List.range x.Credentials.toNat).all fun b=>(F_2 x a b).isSome))=true:=by
  generalize hcc:(inb c 24&&decide (x.Credentials≤24)&&decide (c<x.Credentials)&&(List.range x.Credentials.toNat).all (fun a=>(List.range x.Credentials.toNat).all fun b=>(F_2 x a b).isSome))=cc at hy ⊢
  cases cc with
  | true=>rfl
  | false=>simp [chk] at hy
 rw [o9 hc0] at hy
 obtain rfl:=(Option.some.inj hy).symm
 clear hy
 rw [Bool.and_eq_true,Bool.and_eq_true,Bool.and_eq_true] at hc0
 obtain ⟨⟨⟨h1,h2⟩,h3⟩,h4⟩:=hc0
 have h1:=u6.1 h1
 have h2:=of_decide_eq_true h2
 have h3:=of_decide_eq_true h3
 refine a4w (by kernel_rfl) fun g w vals hH hsz hv=>?_
 have hx:=hv 0 _ rfl
 have hc:=hv 1 _ rfl
 rw [g1r hsz]
 generalize vals.getD 0 undef=dv at hx
 generalize vals.getD 1 undef=cv at hc
 clear hv
 obtain ⟨vs,rfl,hvl,hvr⟩:=VR.agg_inv hx
 rw [g4v hvl] at hx ⊢
 have hn:=(VR.int_inv (hvr 0 _ rfl)).1
 generalize vs.getD 0 undef=nv at hn hx
 generalize vs.getD 1 undef=v1 at hx
 generalize vs.getD 2 undef=v2 at hx
 generalize vs.getD 3 undef=v3 at hx
 generalize vs.getD 4 undef=v4 at hx
 subst hn
 rw [hc.int_inv.1]
 clear hvr hvl
 have hN:x.Credentials=((x.Credentials.toNat:Nat):Int):=by omega
 have hC:c=((c.toNat:Nat):Int):=by omega
 generalize x.Credentials.toNat=n at *
 generalize c.toNat=ci at *
 rw [hN] at hx ⊢
 rw [hC]
 refine (c2f n ci (by omega) (by omega) v1 v2 v3 v4 (fun a b=>(F_2 x a b).getD false) w fun W hW a b ha hb=>?_).mono ?_
 ·have hs:=List.all_eq_true.1 (List.all_eq_true.1 h4 a (List.mem_range.2 ha)) b (List.mem_range.2 hb)
  obtain ⟨z,hz⟩:=Option.isSome_iff_exists.1 hs
  rw [hz]
  refine c3d (g8u.c.w hz) hH (fun q hq=>hW.block q (hH.lt q hq)) hW.size (by rfl) fun i v hi=>?_
  match i,hi with
  | 0,hi=>cases hi;exact hx
  | 1,hi=>cases hi;exact .rd (.int _ _ (by show -9223372036854775808≤_∧_≤(9223372036854775807:Int);omega))
  | 2,hi=>cases hi;exact .rd (.int _ _ (by show -9223372036854775808≤_∧_≤(9223372036854775807:Int);omega))
 ·rintro en w' ⟨bs,ob,rfl,hB⟩
  refine ⟨_,rfl,hB.since,?_⟩
  rw [List.map_map]
  have hlo:=hB.lo
  have:=b9z (S:=fun b=>g.S b∨(w.heap.size≤b∧b<w'.heap.size)) (F:=fun i=>.bool (Go.Proofs.oul (fun a b=>(F_2 x a b).getD false) n (fun i=>decide (i=ci)) n i)) hB.out (.inr ⟨by omega,hB.out.lt⟩) (by unfold maxLen;omega) (fun j hj=>.bool _) fun i _=>⟨rfl,rfl,rfl⟩
  exact this
end Go.Ab
set_option maxRecDepth 20000
set_option maxHeartbeats 2000000
namespace Go.Ab
open Go.Proofs
noncomputable def f7q (fingerprint_:Int) (k20:Int) (a21:o7) (x19:List Int):Option (List Int) :=
 bif decide (a21.Fingerprint=fingerprint_) then chk (room (x19.length+[k20].length) 8) (some (x19++[k20])) else some x19
noncomputable def e98 (r_:o5) (fingerprint_:Int):Option (List Int) :=
 (F_e r_).bind fun y4=>bif (!y4) then some [] else (a09 (f7q fingerprint_) r_.Credentials 0 []).bind fun x22=>some x22
def g2d:List (Nat×RN):=[(3,⟨[],[.k 0 1],[]⟩),(8,⟨[.gc [1,5,6,12,13,14]],[],[]⟩)]
@[irreducible] def e2k:MC:=rdc (cK Tryz.prog Tryz.f25 g2d [] 5)
attribute [go_sem] f7q
instance:LI e2k 14 13 [1,12,13] [] (fun y:List Int=>[(5,.osl 2005 1 0 y.length)]) (fun y=>[.o 2005 (.arr 1 (y.map (V.int .i64)))]) [.gc [1,5,12,13,14],.acc 5 2005 1]:=⟨⟩
instance g7y {r_:o5} {fingerprint_:Int}:WJ (e98 r_ fingerprint_) 25 [o5.v r_,.int .u64 fingerprint_] fun z=>.sl (z.map (V.int .i64)):=wX Tryz.func25 g2d [(5,e2k)] [.fz 4] (h:=fun _ _ h hQ M=>by unfold e98 at h;exact tX)
def F_7 (x_:Int) (low_:Int) (high_:Int):Option Bool := grp ((decide (low_≤x_)&&decide (x_≤high_))) fun b2=>some b2
instance h0w {x_ low_ high_:Int}:WJ (F_7 x_ low_ high_) 129 [.int .i64 x_,.int .i64 low_,.int .i64 high_] .bool:=wX Tryz.func129 [(1,⟨[],[],[.v 4 7]⟩)] (h:=fun _ _ h hQ M=>by unfold F_7 at h;exact tX)
def f3g (x_:l6) (k104:Int) (a105:a02) (x103:Unit):Option (Fl Unit Bool) :=
 chk (a0l (x_.Credentials - 1)) ((F_7 a105.Credential 0 (x_.Credentials - 1)).bind fun y127=>bif (!y127) then some (.ex false) else chk (a0l (x_.Resources - 1)) ((F_7 a105.Resource 0 (x_.Resources - 1)).bind fun y128=>bif (!y128) then some (.ex false) else (F_7 a105.Right 1 3).bind fun y129=>bif (!y129) then some (.ex false) else some (.nx ())))
def f3c (x_:l6) (k182:Int) (a183:a08) (x181:Unit):Option (Fl Unit Bool) :=
 chk (a0l (x_.Resources - 1)) ((F_7 a183.Resource 0 (x_.Resources - 1)).bind fun y198=>bif (!y198) then some (.ex false) else chk (a0l (x_.Credentials - 1)) ((F_7 a183.Credential 0 (x_.Credentials - 1)).bind fun y199=>bif (!y199) then some (.ex false) else some (.nx ())))
def f2t (x_:l6) (k252:Int) (a253:a0p) (x251:Unit):Option (Fl Unit Bool) :=
 chk (a0l (x_.Credentials - 1)) ((F_7 a253.From 0 (x_.Credentials - 1)).bind fun y268=>bif (!y268) then some (.ex false) else chk (a0l (x_.Credentials - 1)) ((F_7 a253.To 0 (x_.Credentials - 1)).bind fun y269=>bif (!y269) then some (.ex false) else some (.nx ())))
def F_d (x_:l6):Option Bool := jn (α:=Fl Unit Bool) ((F_7 x_.Credentials 0 24).bind fun y26=>bif (!y26) then grp (true) fun b27=>grp ((b27||decide (100<(x_.Stores.length:Int)))) fun b28=>grp ((b28||decide (100<(x_.Mints.length:Int)))) fun b29=>bif b29 then some (.ex false) else some (.nx ()) else (F_7 x_.Resources 0 24).bind fun y30=>grp (((!y30)||decide (100<(x_.Grants.length:Int)))) fun b31=>grp ((b31||decide (100<(x_.Stores.length:Int)))) fun b32=>grp ((b32||decide (100<(x_.Mints.length:Int)))) fun b33=>bif b33 then some (.ex false) else some (.nx ())) fun o=>o.elim (fun j17=>(a0x (f3g x_) x_.Grants 0 ()).bind fun o=>o.elim (fun x130=>(a0x (f3c x_) x_.Stores 0 ()).bind fun o=>o.elim (fun x200=>(a0x (f2t x_) x_.Mints 0 ()).bind fun o=>o.elim (fun x270=>some true) (fun r271=>some r271)) (fun r201=>some r201)) (fun r131=>some r131)) (fun r272=>some r272)
def a_d:List (Nat×RN):=[(1,⟨[],[],[.v 11 15,.v 17 21,.v 23 27]⟩)]
@[irreducible] def c5w:MC:=rdc (cK Tryz.prog Tryz.f74 a_d [] 4)
@[irreducible] def d0m:MC:=rdc (cK Tryz.prog Tryz.f74 a_d [(4,c5w)] 10)
@[irreducible] def d6j:MC:=rdc (cK Tryz.prog Tryz.f74 a_d [(4,c5w),(10,d0m)] 16)
@[irreducible] def e1t:MC:=rdc (cK Tryz.prog Tryz.f74 a_d [(4,c5w),(10,d0m),(16,d6j)] 10000003)
attribute [go_sem] f3g f3c f2t
instance:LI c5w 40 39 [1,38,39] [1] (fun y:Unit=>[]) (fun y=>[]) []:=⟨⟩
instance:LI d0m 70 69 [1,68,69] [1] (fun y:Unit=>[]) (fun y=>[]) []:=⟨⟩
instance:LI d6j 94 93 [1,92,93] [1] (fun y:Unit=>[]) (fun y=>[]) []:=⟨⟩
instance:LI e1t 0 0 [1] [1] (fun y:Unit=>[]) (fun y=>[]) []:=⟨⟩
instance h0p {x_:l6}:WJ (F_d x_) 74 [l6.v x_] .bool:=wX Tryz.func74 a_d [(4,c5w),(10,d0m),(16,d6j),(10000003,e1t)] (h:=fun _ _ h hQ M=>by unfold F_d at h;exact tX)
def f7p (k31:Int) (a32:Int) (x30:Unit):Option (Fl Unit Bool) :=
 grp ((decide (a32<0)||decide (100<a32))) fun b40=>bif b40 then some (.ex false) else some (.nx ())
def e97 (x_:l6) (worths_:List Int):Option Bool :=
 bif (!decide ((worths_.length:Int)=x_.Resources)) then some false else (a0x f7p worths_ 0 ()).bind fun o=>o.elim (fun x41=>some true) (fun r42=>some r42)
def g2c:List (Nat×RN):=[(3,⟨[.gc [1,21,22]],[],[]⟩),(6,⟨[],[],[.v 3 5]⟩)]
@[irreducible] def e2j:MC:=rdc (cK Tryz.prog Tryz.f75 g2c [] 4)
attribute [go_sem] f7p
instance:LI e2j 14 13 [12,13] [] (fun y:Unit=>[]) (fun y=>[]) []:=⟨⟩
instance g7x {x_:l6} {worths_:List Int}:WJ (e97 x_ worths_) 75 [l6.v x_,.sl (worths_.map (V.int .i64))] .bool:=wX Tryz.func75 g2c [(4,e2j)] (h:=fun _ _ h hQ M=>by unfold e97 at h;exact tX)
def g0h (k28:Int) (a29:Bool) (x27:List Int):Option (List Int) :=
 bif a29 then chk (room (x27.length+[k28].length) 8) (some (x27++[k28])) else some x27
def f0e (x_:l6) (c_:Int):Option (List Int) :=
 (F_d x_).bind fun y7=>bif (!y7) then some [] else chk (a0l (x_.Credentials - 1)) ((F_7 c_ 0 (x_.Credentials - 1)).bind fun y8=>bif (!y8) then some [] else (b68 x_ c_).bind fun y21=>(a09 g0h y21 0 []).bind fun x30=>some x30)
def g3d:List (Nat×RN):=[(3,⟨[],[.k 0 1],[]⟩),(4,⟨[.gc [1,2,5]],[],[]⟩)]
@[irreducible] def d09:MC:=rdc (cK Tryz.prog Tryz.f153 g3d [] 5)
def e5n:MC:=rdc (cT Tryz.prog Tryz.f153 g3d [(5,d09)])
instance g9p {x_:l6} {c_:Int}:WI (f0e x_ c_) Tryz.prog 153 [l6.v x_,.int .i64 c_] [] (fun z=>.sl (z.map (V.int .i64))) (fun z=>[]):=⟨fun Q Q' h hQ=>by
 refine a2s e5n [.fz 4] [] [.t 4] Tryz.func153 fun M=>?_
 unfold f0e at h
 unfold e5n
 replace h:=tY h
 refine tB ?_
 repeat' (first
 | (exact tZ)
 | ((first|refine b7w h ?_|refine a6f h ?_|refine b8y h ?_|refine b8x h ?_|refine b96 h ?_|refine appG h ?_|refine b9e h ?_|refine fork h ?_ ?_|refine a6g h ?_ ?_)<;>clear h<;>intro hc h)
 | (obtain ⟨y,hy,h⟩:=h;(first|with_reducible first|have hw:=WI.w hy|have hw:=g9u hy);replace hw:=tY hw;(first|refine M.sC hw ?_|refine M.sD hw ?_);clear hw hy;refine tB ?_)
 | (refine M.fold1 (b:=d09) 23 [21,22] [] (fun x=>[(5,.osl 2005 1 0 x.length)]) (fun x=>[.o 2005 (.arr 1 (x.map (V.int .i64)))]) [.gc [5,21,22,23],.acc 5 2005 1] h ?_ ?_ ?_<;>first
 | (clear h;intro k a x Qn K hK1 hkN1 ha1 h hf;have hl:=a3r (a14 (n:=22) hf.1 rfl);clear hf;have hkd:=kD hkN1;have hkB1:=kB hkN1;have hkI1:=kI (k:=k) (by omega);unfold g0h at h;unfold d09;replace h:=tY h;refine tK ha1 hkd hkN1 hkB1 hkI1 ?_)
  |(clear h;intro x K h;replace h:=And.left (And.intro h trivial);unfold d09;replace h:=tY h;refine tB ?_)
  |(clear h;(try refine tB ?_);exact tU0;done))
 | (simp only [ha1])
 | (refine hK1 _ ?_;(try refine tB ?_);refine ⟨_,h,?_⟩;exact tU0;done)
 | (refine tE ?_;(first|rw [M.lok_compU]|rw [M.lokD_compU]);refine tB ?_)
 | (refine tA ?_)
 | fail)⟩
def f7o (set_:List Int) (k44:Int) (a45:a02) (x43:List Int):Option (List Int) :=
 (d3k set_ a45.Credential).bind fun y53=>bif y53 then chk (inb a45.Resource x43.length) (chk (inb a45.Resource x43.length) (some (x43.set ((a45.Resource).toNat) (max (x43.getD ((a45.Resource).toNat) default) a45.Right)))) else some x43
def e89 (x_:l6) (set_:List Int):Option (List Int) :=
 chk (b0b x_.Resources x_.Resources 8) ((a09 (f7o set_) x_.Grants 0 (List.replicate (x_.Resources).toNat 0)).bind fun x54=>some x54)
@[irreducible] def e2i:MC:=rdc (cK Tryz.prog Tryz.f152 [] [] 3)
attribute [go_sem] f7o
instance:LI e2i 14 13 [1,12,13] [] (fun y:List Int=>[(5,.osl 10 1 0 y.length)]) (fun y=>[.o 10 (.arr 1 (y.map (V.int .i64)))]) []:=⟨⟩
instance g60 {x_:l6} {set_:List Int}:WJ (e89 x_ set_) 152 [l6.v x_,.sl (set_.map (V.int .i64))] fun z=>.sl (z.map (V.int .i64)):=wX Tryz.func152 [] [(3,e2i)] [.fz 4] (h:=fun _ _ h hQ M=>by unfold e89 at h;exact tX)
def d9c (x_:l6) (c_:Int):Option (List Int) :=
 (F_d x_).bind fun y7=>bif (!y7) then some [] else chk (a0l (x_.Credentials - 1)) ((F_7 c_ 0 (x_.Credentials - 1)).bind fun y8=>bif (!y8) then some [] else (f0e x_ c_).bind fun y11=>(e89 x_ y11).bind fun y12=>some y12)
instance g6w {x_:l6} {c_:Int}:WJ (d9c x_ c_) 102 [l6.v x_,.int .i64 c_] fun z=>.sl (z.map (V.int .i64)):=wX Tryz.func102 [(3,⟨[.gc [1,2]],[],[]⟩)] [] [.fz 4] (h:=fun _ _ h hQ M=>by unfold d9c at h;exact tX)
def g3p (worths_:List Int) (k32:Int) (a33:Int) (x31:Int):Option Int :=
 chk (inb k32 worths_.length) (chk (a0l ((worths_.getD (k32).toNat default)*a33)) (chk (a0l (x31+((worths_.getD (k32).toNat default)*a33))) (some (x31+((worths_.getD (k32).toNat default)*a33)))))
def e96 (x_:l6) (worths_:List Int) (c_:Int):Option (Int×Int) :=
 (F_d x_).bind fun y4=>bif (!y4) then some (0,32) else (e97 x_ worths_).bind fun y8=>bif (!y8) then some (0,2) else grp ((decide (c_<0)||decide (x_.Credentials≤c_))) fun b12=>bif b12 then some (0,6) else (d9c x_ c_).bind fun y25=>(a09 (g3p worths_) y25 0 0).bind fun x34=>some (x34,0)
def g2b:List (Nat×RN):=[(5,⟨[.gc [1,2,3,21,22,23,24]],[],[.v 3 7]⟩)]
@[irreducible] def e2f:MC:=rdc (cK Tryz.prog Tryz.f55 g2b [] 9)
attribute [go_sem] g3p
instance:LI e2f 30 29 [1,28,29] [] (fun y:Int=>[(8,.int .i64 y)]) (fun y=>[]) []:=⟨⟩
instance g7w {x_:l6} {worths_:List Int} {c_:Int}:WJ (e96 x_ worths_ c_) 55 [l6.v x_,.sl (worths_.map (V.int .i64)),.int .i64 c_] fun z=>.tup [.int .i64 z.1,.int .i64 z.2]:=wX Tryz.func55 g2b [(9,e2f)] (h:=fun _ _ h hQ M=>by unfold e96 at h;exact tX)
def g3t (score_:Int) (k16:Int) (a17:Int) (x15:Int):Option Int :=
 bif decide (a17≤score_) then chk (a0l (x15+1)) (some (x15+1)) else some x15
def f9x (score_:Int):Option Int :=
 (a09 (g3t score_) [1,100,1000,10000] 0 0).bind fun x18=>some x18
@[irreducible] def d08:MC:=rdc (cK Tryz.prog Tryz.f56 [] [] 3)
def e4s:MC:=rdc (cT Tryz.prog Tryz.f56 [] [(3,d08)])
instance g6v {score_:Int}:WI (f9x score_) Tryz.prog 56 [.int .i64 score_] [] (fun z=>.int .i64 z) (fun z=>[]):=⟨fun Q Q' h hQ=>by
 refine a2s e4s [] [] [.t 2] Tryz.func56 fun M=>?_
 unfold f9x at h
 unfold e4s
 replace h:=tY h
 refine tB ?_
 repeat' (first
 | (exact tZ)
 | ((first|refine b7w h ?_|refine a6f h ?_|refine b8y h ?_|refine b8x h ?_|refine b96 h ?_|refine appG h ?_|refine b9e h ?_|refine fork h ?_ ?_|refine a6g h ?_ ?_)<;>clear h<;>intro hc h)
 | (refine M.fold1 (b:=d08) 7 [0,6] [] (fun x=>[(3,.int .i64 x)]) (fun x=>[]) [] h ?_ ?_ ?_<;>first
 | (clear h;intro k a x Qn K hK1 hkN1 ha1 h hf;skip;clear hf;have hkd:=kD hkN1;have hkB1:=kB hkN1;have hkI1:=kI (k:=k) (by (try simp only [List.length_cons,List.length_nil] at hkN1);omega);have hkd1:decide ((k:Int)<4)=true:=decide_eq_true (by simp only [List.length_cons,List.length_nil] at hkN1;omega);have hkr1:(0≤(k:Int)∧(k:Int)<4)=True:=eq_true (by simp only [List.length_cons,List.length_nil] at hkN1;omega);have hle1:(k*1≤3)=True:=eq_true (by simp only [List.length_cons,List.length_nil] at hkN1;omega);have hpt1:=c6y (f:=fun e:Int=>.int .i64 e) ha1 hkN1;(try simp only [go_sem,Nat.reduceBEq,Nat.reduceAdd,Nat.reduceLeDiff,Nat.reduceSub,Nat.reduceMul,Int.reduceToNat,Int.reduceLT,Int.reduceLE,List.flatMap_cons,List.flatMap_nil,List.map_cons,List.map_nil] at hpt1);unfold g3t at h;unfold d08;replace h:=tY h;refine tKA ha1 hkd hkN1 hkB1 hkI1 hkd1 hkr1 hle1 hpt1 ?_)
  |(clear h;intro x K h;replace h:=And.left (And.intro h trivial);unfold d08;replace h:=tY h;refine tB ?_)
  |(clear h;(try refine tB ?_);exact tU0;done))
 | (simp only [ha1])
 | (refine hK1 _ ?_;(try refine tB ?_);refine ⟨_,h,?_⟩;exact tU0;done)
 | (refine tE ?_;(first|rw [M.lok_compU]|rw [M.lokD_compU]);refine tB ?_)
 | (refine tA ?_)
 | fail)⟩
def e95 (x_:l6) (worths_:List Int) (c_:Int) (readers_:Int) (public_:Bool):Option (q9×Int) :=
 (e96 x_ worths_ c_).bind fun y2=>bif (!decide (y2.2=0)) then some ((q9.mk 0 0 0 0),y2.2) else grp ((decide (readers_<0)||decide (24<readers_))) fun b6=>bif b6 then some ((q9.mk 0 0 0 0),2) else chk (a0l (1+readers_)) (jn (α:=q9) (bif public_ then some (q9.mk 0 y2.1 100 0) else some (q9.mk 0 y2.1 (1+readers_) 0)) fun j7=>chk (a0l (j7.Worth*j7.Audience)) ((f9x (j7.Worth*j7.Audience)).bind fun y9=>some ((q9.mk y9 j7.Worth j7.Audience (j7.Worth*j7.Audience)),0)))
def g2a:List (Nat×RN):=[(3,⟨[.gc [10,13]],[],[]⟩),(4,⟨[.gc [3,4,10,12,29,30]],[],[.v 3 5]⟩),(11,⟨[.gc [10,14]],[],[]⟩)]
@[irreducible] def e1s:MC:=rdc (cK Tryz.prog Tryz.f26 g2a [] 10000009)
instance:LI e1s 0 0 [10,14] [10] (fun y:q9=>[]) (fun y=>[.o 14 (.cells [.int .i64 y.Level,.int .i64 y.Worth,.int .i64 y.Audience,.int .i64 y.Score])]) []:=⟨⟩
instance g7v {x_:l6} {worths_:List Int} {c_ readers_:Int} {public_:Bool}:WJ (e95 x_ worths_ c_ readers_ public_) 26 [l6.v x_,.sl (worths_.map (V.int .i64)),.int .i64 c_,.int .i64 readers_,.bool public_] fun z=>.tup [q9.v z.1,.int .i64 z.2]:=wX Tryz.func26 g2a [(10000009,e1s)] (h:=fun _ _ h hQ M=>by unfold e95 at h;exact tX)
end Go.Ab
