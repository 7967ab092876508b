/- What the functions of this seat that lie on the laws' road compute (part LB), each for every input. By AI agents. -/
import Derived.Test.YtnaeedamiaoipaaGreatDoorProg
import Derived.KernelRfl
import Derived.Test.YtnaeedamiaoipaaGreatDoorAbFun
import Derived.Test.YtnaeedamiaoipaaGreatDoorLA
set_option linter.all false
set_option linter.all false
set_option maxRecDepth 20000
set_option maxHeartbeats 2000000
namespace Go.Ab
open Go.Proofs
structure GMember where
 Time:Int
 Kind:Int
 Principal:Int
 Group:Int
instance:Inhabited GMember:=⟨⟨default,default,default,default⟩⟩
def GMember.v (x:GMember):V:=.agg [.int .i64 x.Time,.int .i64 x.Kind,.int .i64 x.Principal,.int .i64 x.Group]
structure GDirectory where
 Kinds:List Int
 Events:List GMember
instance:Inhabited GDirectory:=⟨⟨default,default⟩⟩
def GDirectory.v (x:GDirectory):V:=.agg [.sl (x.Kinds.map (V.int .i64)),.sl (x.Events.map GMember.v)]
structure GAccess where
 Time:Int
 Kind:Int
 Place:Int
 Principal:Int
 Until:Int
 Content:Int
 From:Int
instance:Inhabited GAccess:=⟨⟨default,default,default,default,default,default,default⟩⟩
def GAccess.v (x:GAccess):V:=.agg [.int .i64 x.Time,.int .i64 x.Kind,.int .i64 x.Place,.int .i64 x.Principal,.int .i64 x.Until,.int .i64 x.Content,.int .i64 x.From]
structure GEstate where
 Places:Int
 Events:List GAccess
instance:Inhabited GEstate:=⟨⟨default,default⟩⟩
def GEstate.v (x:GEstate):V:=.agg [.int .i64 x.Places,.sl (x.Events.map GAccess.v)]
structure GAudience where
 Public:Bool
 Principals:List Int
instance:Inhabited GAudience:=⟨⟨default,default⟩⟩
def GAudience.v (x:GAudience):V:=.agg [.bool x.Public,.sl (x.Principals.map (V.int .i64))]
theorem incl_1 {b:Int} {n:Nat}:(inc 1 b n=true)=(((1:Nat):Int)≤b∧b≤(n:Int)):=propext (by rw [inc_iff];omega)
attribute [go_sem] incl_1
attribute [go_sem] GAccess.v GAudience.v GDirectory.v GEstate.v GMember.v
def F_l (kind_:Int):Option Bool :=
 grp ((decide (kind_<1)||decide (3<kind_))) fun b2=>some b2
@[irreducible] def mg_4k:List MOp:=[gF 5 6 (.mv (.t 0)),
 gF 5 7 (.bin false .gtr (.t 6) (cI 3)),
 mo (.pick (.t 5) (.c (.bool true)) (.t 7)) 8]
def mc_l:MC :=
 (sR [mo (.mv (.c (.bool false))) 2]
 (.seq (.regI [.op (oV 0 3),
 .op (mo (.bin false .lss (.t 3) (cI 1)) 4),
 .op (oV 4 5),
 .grp mg_4k,
 .op (oV 8 2)])
 .ret))
instance:GV mg_4k 8 [6,7]:=⟨⟩
instance Wq_directory_Check_1 {kind_:Int}:WI (F_l kind_) Tryz.prog 87 [.int .i64 kind_] [] (fun z=>.bool z) (fun z=>[]):=⟨fun Q Q' h hQ=>by
 refine acallM mc_l [] [] [.t 2] Tryz.func87 fun M=>?_
 unfold F_l at h
 unfold mc_l
 exact tX⟩
def F_25 (k31:Int) (a32:Int) (x30:Unit):Option (Fl Unit Int) :=
 (F_l a32).bind fun y40=>bif y40 then some (.ex k31) else some (.nx ())
def F_2u (s_:List Int):Option Int :=
 (forL F_25 s_ 0 ()).bind fun o=>o.elim (fun x41=>some (-1)) (fun r42=>some r42)
@[irreducible] def mc_25:MC :=
 (sR [mo (.bin false .lss (.t 8) (.t 7)) 9]
 (.seq (.cond (.t 9)
 .skip
 (.exit 0))
 (.seq (.block 1
 (sR [oV 8 10,
 oV 10 5]
 (sR [oV 1 11,
 oV 0 12,
 oV 5 13,
 mo (.iad 1 (.t 12) (.t 13)) 14,
 oL 14 15,
 mo (.call (.t 11) [(.t 15)] [] []) 16]
 (.cond (.t 16)
 (sR [oV 5 17,
 oV 17 4]
 .ret)
 .skip))))
 (.reg [mo (.bin true .add (.t 8) (cI 1)) 18,
 oV 18 8]))))
def mc_2u:MC :=
 (sR [oC 0 4]
 (.seq (sR [oV 0 6,
 mo (.len false (.t 6)) 7,
 oC 0 8]
 (.block 0
 (.loop mc_25)))
 (sR [oC (-1) 4]
 .ret)))
attribute [go_sem] F_25
instance:LI mc_25 8 7 [0,1,7] [] (fun y:Unit=>[]) (fun y=>[]) []:=⟨⟩
instance Wq_slices_IndexFunc_int_int_of_directory_Check_1 {s_:List Int}:WI (F_2u s_) Tryz.prog 133 [.sl (s_.map (V.int .i64)),.fn (.func 87) []] [] (fun z=>.int .i64 z) (fun z=>[]):=⟨fun Q Q' h hQ=>by
 refine acallM mc_2u [] [] [.t 4] Tryz.func133 fun M=>?_
 unfold F_2u at h
 unfold mc_2u
 exact tX⟩
def F_26 (s_:List Int):Option Bool :=
 (F_2u s_).bind fun y2=>some (decide (0≤y2))
def mc_26:MC :=
 (sR [mo (.mv (.c (.bool false))) 4]
 (sR [oV 0 5,
 oV 1 6,
 mo (.call (.f 133) [(.t 5),(.t 6)] [] []) 7,
 mo (.bin false .geq (.t 7) (cI 0)) 8,
 oV 8 4]
 .ret))
instance Wq_slices_ContainsFunc_int_int_of_directory_Check_1 {s_:List Int}:WI (F_26 s_) Tryz.prog 88 [.sl (s_.map (V.int .i64)),.fn (.func 87) []] [] (fun z=>.bool z) (fun z=>[]):=⟨fun Q Q' h hQ=>by
 refine acallM mc_26 [] [] [.t 4] Tryz.func88 fun M=>?_
 unfold F_26 at h
 unfold mc_26
 exact tX⟩
def F_8 (d_:GDirectory) (p_:Int):Option Bool :=
 grp ((decide (0≤p_)&&decide (p_<(d_.Kinds.length:Int)))) fun b2=>some b2
@[irreducible] def mg_4l:List MOp:=[gT 7 8 (.mv (.t 1)),
 gT 7 9 (.fad 0 (.t 2)),
 gT 7 10 (.ld none (.t 9)),
 gT 7 11 (.len false (.t 10)),
 gT 7 12 (.bin false .lss (.t 8) (.t 11)),
 mo (.pick (.t 7) (.t 12) (.c (.bool false))) 13]
def mc_8:MC :=
 (sR [mo (.box (.t 0)) 2,
 mo (.mv (.c (.bool false))) 4]
 (.seq (.regI [.op (oV 1 5),
 .op (mo (.bin false .geq (.t 5) (cI 0)) 6),
 .op (oV 6 7),
 .grp mg_4l,
 .op (oV 13 4)])
 .ret))
instance:GV mg_4l 13 [8,9,10,11,12]:=⟨⟩
instance Wq_directory_exists {d_:GDirectory} {p_:Int}:WI (F_8 d_ p_) Tryz.prog 89 [GDirectory.v d_,.int .i64 p_] [] (fun z=>.bool z) (fun z=>[]):=⟨fun Q Q' h hQ=>by
 refine acallM mc_8 [] [] [.t 4] Tryz.func89 fun M=>?_
 unfold F_8 at h
 unfold mc_8
 exact tX⟩
def F_w (d_:GDirectory) (p_:Int):Option Bool :=
 (F_8 d_ p_).bind fun y3=>jn (α:=Bool) (bif y3 then chk (inb p_ d_.Kinds.length) (some (decide ((d_.Kinds.getD (p_).toNat default)=2))) else some false) fun j4=>some j4
@[irreducible] def mg_4m:List MOp:=[gT 8 9 (.fad 0 (.t 2)),
 gT 8 10 (.ld none (.t 9)),
 gT 8 11 (.mv (.t 1)),
 gT 8 12 (.iad 1 (.t 10) (.t 11)),
 gT 8 13 (.ld none (.t 12)),
 gT 8 14 (.bin false .eql (.t 13) (cI 2)),
 mo (.pick (.t 8) (.t 14) (.c (.bool false))) 15]
def mc_w:MC :=
 (sR [mo (.box (.t 0)) 2,
 mo (.mv (.c (.bool false))) 4]
 (.seq (.regI [.op (mo (.ld (some 2) (.t 2)) 5),
 .op (oV 1 6),
 .op (mo (.call (.f 89) [(.t 5),(.t 6)] [] []) 7),
 .op (oV 7 8),
 .grp mg_4m,
 .op (oV 15 4)])
 .ret))
instance:GI mg_4m [4] [] (fun y:Bool=>[(15,.bool y)]) (fun y=>[]):=⟨⟩
instance Wq_directory_group {d_:GDirectory} {p_:Int}:WI (F_w d_ p_) Tryz.prog 90 [GDirectory.v d_,.int .i64 p_] [] (fun z=>.bool z) (fun z=>[]):=⟨fun Q Q' h hQ=>by
 refine acallM mc_w [] [] [.t 4] Tryz.func90 fun M=>?_
 unfold F_w at h
 unfold mc_w
 exact tX⟩
def F_x (d_:GDirectory) (k473:Int) (a474:GMember) (x472:Int):Option (Fl Int Int) :=
 grp (((!decide (a474.Kind=1))&&(!decide (a474.Kind=2)))) fun b595=>grp ((b595||decide (a474.Time<x472))) fun b596=>grp ((b596||decide (1099511627776<a474.Time))) fun b597=>bif b597 then grp (true) fun b598=>bif b598 then some (.ex 30) else some (.nx a474.Time) else (F_8 d_ a474.Principal).bind fun y599=>bif (!y599) then grp (true) fun b600=>bif b600 then some (.ex 30) else some (.nx a474.Time) else (F_w d_ a474.Group).bind fun y601=>grp (((!y601)||decide (a474.Principal=a474.Group))) fun b602=>bif b602 then some (.ex 30) else some (.nx a474.Time)
def F_5 (d_:GDirectory):Option Int :=
 grp ((decide (24<(d_.Kinds.length:Int))||decide (120<(d_.Events.length:Int)))) fun b7=>bif b7 then some 30 else (F_26 d_.Kinds).bind fun y8=>bif y8 then some 30 else (forL (F_x d_) d_.Events 0 0).bind fun o=>o.elim (fun x603=>some 0) (fun r604=>some r604)
@[irreducible] def mg_l:List MOp:=[gF 11 12 (.fad 1 (.t 1)),
 gF 11 13 (.ld none (.t 12)),
 gF 11 14 (.len false (.t 13)),
 gF 11 15 (.bin false .gtr (.t 14) (cI 120)),
 mo (.pick (.t 11) (.c (.bool true)) (.t 15)) 16]
@[irreducible] def mg_4n:List MOp:=[gT 33 34 (.fad 1 (.t 6)),
 gT 33 35 (.ld none (.t 34)),
 gT 33 36 (.bin false .neq (.t 35) (cI 2)),
 mo (.pick (.t 33) (.t 36) (.c (.bool false))) 37]
@[irreducible] def mg_4o:List MOp:=[gF 38 39 (.fad 0 (.t 6)),
 gF 38 40 (.ld none (.t 39)),
 gF 38 41 (.mv (.t 4)),
 gF 38 42 (.bin false .lss (.t 40) (.t 41)),
 mo (.pick (.t 38) (.c (.bool true)) (.t 42)) 43]
@[irreducible] def mg_4p:List MOp:=[gF 44 45 (.fad 0 (.t 6)),
 gF 44 46 (.ld none (.t 45)),
 gF 44 47 (.bin false .gtr (.t 46) (cI 1099511627776)),
 mo (.pick (.t 44) (.c (.bool true)) (.t 47)) 48]
@[irreducible] def mg_3m:List MOp:=[gF 63 64 (.fad 2 (.t 6)),
 gF 63 65 (.ld none (.t 64)),
 gF 63 66 (.fad 3 (.t 6)),
 gF 63 67 (.ld none (.t 66)),
 gF 63 68 (.bin false .eql (.t 65) (.t 67)),
 mo (.pick (.t 63) (.c (.bool true)) (.t 68)) 69]
@[irreducible] def mc_x:MC :=
 (sR [mo (.bin false .lss (.t 26) (.t 25)) 27]
 (.seq (.cond (.t 27)
 .skip
 (.exit 0))
 (.seq (.block 1
 (sR [mo (.iad 4 (.t 24) (.t 26)) 28,
 mo (.ld (some 4) (.t 28)) 29,
 mo (.alloc [(.int .i64 0),(.int .i64 0),(.int .i64 0),(.int .i64 0)]) 6,
 ⟨.st 4 (.t 6) (.t 29),none,none⟩]
 (.seq (.seq (.regI [.op (oF 1 6 30),
 .op (oL 30 31),
 .op (mo (.bin false .neq (.t 31) (cI 1)) 32),
 .op (oV 32 33),
 .grp mg_4n,
 .op (oV 37 38),
 .grp mg_4o,
 .op (oV 43 44),
 .grp mg_4p,
 .op (oV 48 49),
 .op (gF 49 50 (.ld (some 2) (.t 1))),
 .op (gF 49 51 (.fad 2 (.t 6))),
 .op (gF 49 52 (.ld none (.t 51))),
 .op (gF 49 53 (.call (.f 89) [(.t 50),(.t 52)] [] [])),
 .op (gF 49 54 (.not (.t 53))),
 .op (mo (.pick (.t 49) (.c (.bool true)) (.t 54)) 55),
 .op (oV 55 56),
 .op (gF 56 57 (.ld (some 2) (.t 1))),
 .op (gF 56 58 (.fad 3 (.t 6))),
 .op (gF 56 59 (.ld none (.t 58))),
 .op (gF 56 60 (.call (.f 90) [(.t 57),(.t 59)] [] [])),
 .op (gF 56 61 (.not (.t 60))),
 .op (mo (.pick (.t 56) (.c (.bool true)) (.t 61)) 62),
 .op (oV 62 63),
 .grp mg_3m])
 (.cond (.t 69)
 (sR [oC 30 2]
 .ret)
 .skip))
 (.note (.gc [1,6,24,25,26,34,35,36,39,40,41,42,45,46,47,50,51,52,53,54,57,58,59,60,61,64,65,66,67,68]) (.reg [oF 0 6 70,
 oL 70 71,
 oV 71 4])))))
 (.reg [mo (.bin true .add (.t 26) (cI 1)) 72,
 oV 72 26]))))
def mc_5:MC :=
 (sR [mo (.box (.t 0)) 1,
 oC 0 2]
 (sR [mo (.mv (.f 87)) 3]
 (.seq (.seq (.regI [.op (oF 0 1 7),
 .op (oL 7 8),
 .op (mo (.len false (.t 8)) 9),
 .op (mo (.bin false .gtr (.t 9) (cI 24)) 10),
 .op (oV 10 11),
 .grp mg_l,
 .op (oV 16 17),
 .op (gF 17 18 (.fad 0 (.t 1))),
 .op (gF 17 19 (.ld none (.t 18))),
 .op (gF 17 20 (.mv (.t 3))),
 .op (gF 17 21 (.call (.f 88) [(.t 19),(.t 20)] [] [])),
 .op (mo (.pick (.t 17) (.c (.bool true)) (.t 21)) 22)])
 (.cond (.t 22)
 (sR [oC 30 2]
 .ret)
 .skip))
 (sR [oC 0 4]
 (.seq (.seq (.note (.gc [1,4,34,35,36,39,40,41,42,45,46,47,50,51,52,53,54,57,58,59,60,61,64,65,66,67,68]) (.reg [oF 1 1 23,
 oL 23 24,
 mo (.len false (.t 24)) 25,
 oC 0 26]))
 (.block 0
 (.loop mc_x)))
 (sR [oC 0 2]
 .ret))))))
attribute [go_sem] F_x
instance:GV mg_3m 69 [64,65,66,67,68]:=⟨⟩
instance:GV mg_3m 69 [64,65,66,67,68]:=⟨⟩
instance:GV mg_3m 69 [64,65,66,67,68]:=⟨⟩
instance:GV mg_4p 48 [45,46,47]:=⟨⟩
instance:GV mg_4o 43 [39,40,41,42]:=⟨⟩
instance:GV mg_4n 37 [34,35,36]:=⟨⟩
instance:LI mc_x 26 25 [1,24,25] [1] (fun y:Int=>[(4,.int .i64 y)]) (fun y=>[]) []:=⟨⟩
instance:GV mg_l 16 [12,13,14,15]:=⟨⟩
instance Wq_directory_Check {d_:GDirectory}:WI (F_5 d_) Tryz.prog 49 [GDirectory.v d_] [] (fun z=>.int .i64 z) (fun z=>[]):=⟨fun Q Q' h hQ=>by
 refine acallM mc_5 [] [] [.t 2] Tryz.func49 fun M=>?_
 unfold F_5 at h
 unfold mc_5
 exact tX⟩
def F_9 (n_:Int) (low_:Int) (high_:Int):Option Bool :=
 grp ((decide (low_≤n_)&&decide (n_≤high_))) fun b2=>some b2
@[irreducible] def mg_4q:List MOp:=[gT 10 11 (.mv (.t 0)),
 gT 10 12 (.mv (.t 2)),
 gT 10 13 (.bin false .leq (.t 11) (.t 12)),
 mo (.pick (.t 10) (.t 13) (.c (.bool false))) 14]
def mc_9:MC :=
 (sR [mo (.mv (.c (.bool false))) 6]
 (.seq (.regI [.op (oV 0 7),
 .op (oV 1 8),
 .op (mo (.bin false .geq (.t 7) (.t 8)) 9),
 .op (oV 9 10),
 .grp mg_4q,
 .op (oV 14 6)])
 .ret))
instance:GV mg_4q 14 [11,12,13]:=⟨⟩
instance Wq_access_among {n_ low_ high_:Int}:WI (F_9 n_ low_ high_) Tryz.prog 91 [.int .i64 n_,.int .i64 low_,.int .i64 high_] [] (fun z=>.bool z) (fun z=>[]):=⟨fun Q Q' h hQ=>by
 refine acallM mc_9 [] [] [.t 6] Tryz.func91 fun M=>?_
 unfold F_9 at h
 unfold mc_9
 exact tX⟩
def F_a (content_:Int):Option Bool :=
 (F_9 content_ 0 63).bind fun y2=>some y2
def mc_a:MC :=
 (sR [mo (.mv (.c (.bool false))) 2]
 (sR [oV 0 3,
 mo (.call (.f 91) [(.t 3),(cI 0),(cI 63)] [] []) 4,
 oV 4 2]
 .ret))
instance Wq_access_Content {content_:Int}:WI (F_a content_) Tryz.prog 125 [.int .i64 content_] [] (fun z=>.bool z) (fun z=>[]):=⟨fun Q Q' h hQ=>by
 refine acallM mc_a [] [] [.t 2] Tryz.func125 fun M=>?_
 unfold F_a at h
 unfold mc_a
 exact tX⟩
def F_4 (a_:GEstate) (place_:Int):Option Bool :=
 chk (in64 (a_.Places - 1)) ((F_9 place_ 0 (a_.Places - 1)).bind fun y2=>some y2)
def mc_4:MC :=
 (sR [mo (.box (.t 0)) 2,
 mo (.mv (.c (.bool false))) 4]
 (sR [oV 1 5,
 oF 0 2 6,
 oL 6 7,
 mo (.bin true .sub (.t 7) (cI 1)) 8,
 mo (.call (.f 91) [(.t 5),(cI 0),(.t 8)] [] []) 9,
 oV 9 4]
 .ret))
instance Wq_access_Place {a_:GEstate} {place_:Int}:WI (F_4 a_ place_) Tryz.prog 122 [GEstate.v a_,.int .i64 place_] [] (fun z=>.bool z) (fun z=>[]):=⟨fun Q Q' h hQ=>by
 refine acallM mc_4 [] [] [.t 4] Tryz.func122 fun M=>?_
 unfold F_4 at h
 unfold mc_4
 exact tX⟩
def F_y (a_:GEstate) (x_:GAccess):Option Bool :=
 jn (α:=Bool×GAccess) (jn (α:=Bool) (bif decide (x_.Kind=1) then some true else some (decide (x_.Kind=2))) fun j7=>bif j7 then (F_9 x_.Principal 0 23).bind fun y8=>some (y8,(GAccess.mk x_.Time x_.Kind x_.Place x_.Principal 0 0 0)) else bif decide (x_.Kind=3) then bif decide (x_.Time<x_.Until) then some (decide (x_.Until≤1099511627776),(GAccess.mk x_.Time x_.Kind x_.Place 0 x_.Until 0 0)) else some (false,(GAccess.mk x_.Time x_.Kind x_.Place 0 x_.Until 0 0)) else bif decide (x_.Kind=4) then some (true,(GAccess.mk x_.Time x_.Kind x_.Place 0 0 0 0)) else jn (α:=Bool) (bif decide (x_.Kind=5) then some true else some (decide (x_.Kind=6))) fun j9=>bif j9 then (F_a x_.Content).bind fun y10=>some (y10,(GAccess.mk x_.Time x_.Kind x_.Place 0 0 x_.Content 0)) else bif decide (x_.Kind=7) then (F_4 a_ x_.From).bind fun y11=>bif y11 then some ((!decide (x_.From=x_.Place)),(GAccess.mk x_.Time x_.Kind x_.Place 0 0 0 x_.From)) else some (false,(GAccess.mk x_.Time x_.Kind x_.Place 0 0 0 x_.From)) else some (false,(GAccess.mk x_.Time x_.Kind x_.Place 0 0 0 0))) fun j6=>jn (α:=Bool) (bif j6.1 then (F_4 a_ x_.Place).bind fun y16=>some y16 else some false) fun j17=>grp ((j17&&(decide (x_.Time=j6.2.Time)&&(decide (x_.Kind=j6.2.Kind)&&(decide (x_.Place=j6.2.Place)&&(decide (x_.Principal=j6.2.Principal)&&(decide (x_.Until=j6.2.Until)&&(decide (x_.Content=j6.2.Content)&&decide (x_.From=j6.2.From))))))))) fun b18=>some b18
@[irreducible] def mc_4r:MC :=
 (.cond (.t 42)
 (.regD [oF 5 3 45,
 oL 45 46,
 oF 5 3 47,
 oL 47 48,
 mo (.call (.f 125) [(.t 48)] [] []) 49,
 oF 5 5 50,
 ⟨.st 1 (.t 50) (.t 46),none,none⟩,
 oV 49 6]
 [[],[0],[],[2],[3],[0,1],[5,1,4,0,1],[4,6,0,1,2,3,4,5,6]]
 [[],[0],[],[2],[2,3],[0,1],[0,1,2,3,4,5],[0,1,2,3,4,5,6]])
 (sR [mo (.bin false .eql (.t 15) (cI 7)) 52,
 oV 52 51]
 (.cond (.t 51)
 (.regD [oF 6 3 53,
 oL 53 54,
 mo (.ld (some 2) (.t 2)) 55,
 oF 6 3 56,
 oL 56 57,
 mo (.call (.f 122) [(.t 55),(.t 57)] [] []) 58,
 oV 58 59,
 gT 59 60 (.fad 6 (.t 3)),
 gT 59 61 (.ld none (.t 60)),
 gT 59 62 (.fad 2 (.t 3)),
 gT 59 63 (.ld none (.t 62)),
 gT 59 64 (.bin false .neq (.t 61) (.t 63)),
 mo (.pick (.t 59) (.t 64) (.c (.bool false))) 65,
 oF 6 5 66,
 ⟨.st 1 (.t 66) (.t 54),none,none⟩,
 oV 65 6]
 [[],[0],[],[],[3],[2,4],[5,5],[6],[7,6],[6],[9,6],[8,10,6],[6,11],[0,1],[13,1,6,0,1],[12,14,0,1,2,3,4,5,6,7,8,9,10,11,12,13,14]]
 [[],[0],[],[],[3],[2,3,4],[2,3,4,5],[2,3,4,5,6],[2,3,4,5,6,7],[2,3,4,5,6],[2,3,4,5,6,9],[2,3,4,5,6,7,8,9,10],[2,3,4,5,6,7,8,9,10,11],[0,1],[0,1,2,3,4,5,6,13],[0,1,2,3,4,5,6,7,8,9,10,11,12,13,14]])
 .skip)))
@[irreducible] def mc_4s:MC :=
 (.cond (.t 16)
 (.regD [oF 3 3 19,
 oL 19 20,
 oF 3 3 21,
 oL 21 22,
 mo (.call (.f 91) [(.t 22),(cI 0),(cI 23)] [] []) 23,
 oF 3 5 24,
 ⟨.st 1 (.t 24) (.t 20),none,none⟩,
 oV 23 6]
 [[],[0],[],[2],[3],[0,1],[5,1,4,0,1],[4,6,0,1,2,3,4,5,6]]
 [[],[0],[],[2],[2,3],[0,1],[0,1,2,3,4,5],[0,1,2,3,4,5,6]])
 (sR [mo (.bin false .eql (.t 15) (cI 3)) 26,
 oV 26 25]
 (.cond (.t 25)
 (.regD [oF 4 3 27,
 oL 27 28,
 oF 4 3 29,
 oL 29 30,
 oF 0 3 31,
 oL 31 32,
 mo (.bin false .gtr (.t 30) (.t 32)) 33,
 oV 33 34,
 gT 34 35 (.fad 4 (.t 3)),
 gT 34 36 (.ld none (.t 35)),
 gT 34 37 (.bin false .leq (.t 36) (cI 1099511627776)),
 mo (.pick (.t 34) (.t 37) (.c (.bool false))) 38,
 oF 4 5 39,
 ⟨.st 1 (.t 39) (.t 28),none,none⟩,
 oV 38 6]
 [[],[0],[],[2],[],[4],[3,5],[6],[7],[8,7],[9,7],[7,10],[0,1],[12,1,7,0,1],[11,13,0,1,2,3,4,5,6,7,8,9,10,11,12,13]]
 [[],[0],[],[2],[],[4],[2,3,4,5],[2,3,4,5,6],[2,3,4,5,6,7],[2,3,4,5,6,7,8],[2,3,4,5,6,7,8,9],[2,3,4,5,6,7,8,9,10],[0,1],[0,1,2,3,4,5,6,7,12],[0,1,2,3,4,5,6,7,8,9,10,11,12,13]])
 (sR [mo (.bin false .eql (.t 15) (cI 4)) 41,
 oV 41 40]
 (.cond (.t 40)
 (.reg [mo (.mv (.c (.bool true))) 6])
 (.cut (sR [mo (.bin false .eql (.t 15) (cI 5)) 43,
 oV 43 42]
 (.cond (.t 42)
 .skip
 (.reg [mo (.bin false .eql (.t 15) (cI 6)) 44,
 oV 44 42])))
 mc_4r))))))
@[irreducible] def mg_4t:List MOp:=[gT 68 69 (.ld (some 2) (.t 2)),
 gT 68 70 (.fad 2 (.t 3)),
 gT 68 71 (.ld none (.t 70)),
 gT 68 72 (.call (.f 122) [(.t 69),(.t 71)] [] []),
 mo (.pick (.t 68) (.t 72) (.c (.bool false))) 73]
@[irreducible] def mg_4u:List MOp:=[gT 74 75 (.ld (some 7) (.t 3)),
 gT 74 76 (.ld (some 7) (.t 5)),
 gT 74 77 (.eqs false [0,0,0,0,0,0,0] (.t 75) (.t 76)),
 mo (.pick (.t 74) (.t 77) (.c (.bool false))) 78]
@[irreducible] def mc_4v:MC :=
 (.seq (.regI [.op (oV 6 67),
 .op (oV 67 68),
 .grp mg_4t,
 .op (oV 73 74),
 .grp mg_4u,
 .op (oV 78 4)])
 .ret)
def mc_y:MC :=
 (sR [mo (.box (.t 0)) 2,
 mo (.box (.t 1)) 3,
 mo (.mv (.c (.bool false))) 4]
 (sR [oF 0 3 7,
 oL 7 8,
 oF 1 3 9,
 oL 9 10,
 oF 2 3 11,
 oL 11 12,
 mo (.build [(.int .i64 0),(.int .i64 0),(.int .i64 0),(.int .i64 0),(.int .i64 0),(.int .i64 0),(.int .i64 0)] [(0,1,(.t 8)),(1,1,(.t 10)),(2,1,(.t 12))]) 13,
 mo (.alloc [(.int .i64 0),(.int .i64 0),(.int .i64 0),(.int .i64 0),(.int .i64 0),(.int .i64 0),(.int .i64 0)]) 5,
 ⟨.st 7 (.t 5) (.t 13),none,none⟩]
 (sR [mo (.mv (.c (.bool false))) 6]
 (.cut (sR [oF 1 3 14,
 oL 14 15]
 (.block 0
 (.cut (sR [mo (.bin false .eql (.t 15) (cI 1)) 17,
 oV 17 16]
 (.cond (.t 16)
 .skip
 (.reg [mo (.bin false .eql (.t 15) (cI 2)) 18,
 oV 18 16])))
 mc_4s)))
 mc_4v))))
instance:LI mc_4r 0 0 [2,3,5,6,15] [5,3,2] (fun y:Bool=>[(42,.bool y)]) (fun y=>[]) []:=⟨⟩
instance:LI mc_4s 0 0 [2,3,5,6,15] [5,3,2] (fun y:Bool=>[(16,.bool y)]) (fun y=>[]) []:=⟨⟩
instance:GV mg_4u 78 [75,76,77]:=⟨⟩
instance:GI mg_4t [3,5] [5,3] (fun y:Bool=>[(73,.bool y)]) (fun y=>[]):=⟨⟩
instance:LI mc_4v 0 0 [2,3,5] [3,2] (fun y:Bool×GAccess=>[(6,.bool y.1)]) (fun y=>[.o 5 (.cells [.int .i64 y.2.Time,.int .i64 y.2.Kind,.int .i64 y.2.Place,.int .i64 y.2.Principal,.int .i64 y.2.Until,.int .i64 y.2.Content,.int .i64 y.2.From])]) []:=⟨⟩
instance Wq_access_right {a_:GEstate} {x_:GAccess}:WI (F_y a_ x_) Tryz.prog 92 [GEstate.v a_,GAccess.v x_] [] (fun z=>.bool z) (fun z=>[]):=⟨fun Q Q' h hQ=>by
 refine acallM mc_y [] [] [.t 4] Tryz.func92 fun M=>?_
 unfold F_y at h
 unfold mc_y
 exact tX⟩
def F_z (a_:GEstate) (k137:Int) (a138:GAccess) (x136:Int):Option (Fl Int Int) :=
 grp ((decide (a138.Time<x136)||decide (1099511627776<a138.Time))) fun b169=>bif b169 then some (.ex 34) else (F_y a_ a138).bind fun y170=>bif (!y170) then some (.ex 34) else some (.nx a138.Time)
def F_3 (a_:GEstate):Option Int :=
 (F_9 a_.Places 1 16).bind fun y7=>grp (((!y7)||decide (120<(a_.Events.length:Int)))) fun b8=>bif b8 then some 34 else (forL (F_z a_) a_.Events 0 0).bind fun o=>o.elim (fun x171=>some 0) (fun r172=>some r172)
@[irreducible] def mg_4w:List MOp:=[gF 10 11 (.fad 1 (.t 1)),
 gF 10 12 (.ld none (.t 11)),
 gF 10 13 (.len false (.t 12)),
 gF 10 14 (.bin false .gtr (.t 13) (cI 120)),
 mo (.pick (.t 10) (.c (.bool true)) (.t 14)) 15]
@[irreducible] def mg_4x:List MOp:=[gF 27 28 (.fad 0 (.t 5)),
 gF 27 29 (.ld none (.t 28)),
 gF 27 30 (.bin false .gtr (.t 29) (cI 1099511627776)),
 mo (.pick (.t 27) (.c (.bool true)) (.t 30)) 31]
@[irreducible] def mc_z:MC :=
 (sR [mo (.bin false .lss (.t 19) (.t 18)) 20]
 (.seq (.cond (.t 20)
 .skip
 (.exit 0))
 (.seq (.block 1
 (sR [mo (.iad 7 (.t 17) (.t 19)) 21,
 mo (.ld (some 7) (.t 21)) 22,
 mo (.alloc [(.int .i64 0),(.int .i64 0),(.int .i64 0),(.int .i64 0),(.int .i64 0),(.int .i64 0),(.int .i64 0)]) 5,
 ⟨.st 7 (.t 5) (.t 22),none,none⟩]
 (.seq (.seq (.regI [.op (oF 0 5 23),
 .op (oL 23 24),
 .op (oV 3 25),
 .op (mo (.bin false .lss (.t 24) (.t 25)) 26),
 .op (oV 26 27),
 .grp mg_4x,
 .op (oV 31 32),
 .op (gF 32 33 (.ld (some 2) (.t 1))),
 .op (gF 32 34 (.ld (some 7) (.t 5))),
 .op (gF 32 35 (.call (.f 92) [(.t 33),(.t 34)] [] [])),
 .op (gF 32 36 (.not (.t 35))),
 .op (mo (.pick (.t 32) (.c (.bool true)) (.t 36)) 37)])
 (.cond (.t 37)
 (sR [oC 34 2]
 .ret)
 .skip))
 (.note (.gc [1,5,17,18,19,28,29,30,33,34,35,36]) (.reg [oF 0 5 38,
 oL 38 39,
 oV 39 3])))))
 (.reg [mo (.bin true .add (.t 19) (cI 1)) 40,
 oV 40 19]))))
def mc_3:MC :=
 (sR [mo (.box (.t 0)) 1,
 oC 0 2]
 (.seq (.seq (.regI [.op (oF 0 1 6),
 .op (oL 6 7),
 .op (mo (.call (.f 91) [(.t 7),(cI 1),(cI 16)] [] []) 8),
 .op (mo (.not (.t 8)) 9),
 .op (oV 9 10),
 .grp mg_4w])
 (.cond (.t 15)
 (sR [oC 34 2]
 .ret)
 .skip))
 (sR [oC 0 3]
 (.seq (.seq (.note (.gc [1,3,28,29,30,33,34,35,36]) (.reg [oF 1 1 16,
 oL 16 17,
 mo (.len false (.t 17)) 18,
 oC 0 19]))
 (.block 0
 (.loop mc_z)))
 (sR [oC 0 2]
 .ret)))))
attribute [go_sem] F_z
instance:GV mg_4x 31 [28,29,30]:=⟨⟩
instance:LI mc_z 19 18 [1,17,18] [1] (fun y:Int=>[(3,.int .i64 y)]) (fun y=>[]) []:=⟨⟩
instance:GV mg_4w 15 [11,12,13,14]:=⟨⟩
instance Wq_access_Check {a_:GEstate}:WI (F_3 a_) Tryz.prog 50 [GEstate.v a_] [] (fun z=>.int .i64 z) (fun z=>[]):=⟨fun Q Q' h hQ=>by
 refine acallM mc_3 [] [] [.t 2] Tryz.func50 fun M=>?_
 unfold F_3 at h
 unfold mc_3
 exact tX⟩
def F_e (d_:GDirectory) (a_:GEstate):Option Int :=
 (F_5 d_).bind fun y4=>bif (!decide (y4=0)) then some y4 else (F_3 a_).bind fun y6=>some y6
def mc_e:MC :=
 (sR [mo (.box (.t 0)) 2,
 mo (.box (.t 1)) 3,
 oC 0 4]
 (.seq (sR [mo (.ld (some 2) (.t 2)) 6,
 mo (.call (.f 49) [(.t 6)] [] []) 7,
 oV 7 5]
 (sR [oV 5 8,
 mo (.bin false .neq (.t 8) (cI 0)) 9]
 (.cond (.t 9)
 (sR [oV 5 10,
 oV 10 4]
 .ret)
 .skip)))
 (.seq (.note (.gc [3]) (.reg [mo (.ld (some 2) (.t 3)) 11,
 mo (.call (.f 50) [(.t 11)] [] []) 12,
 oV 12 4]))
 .ret)))
instance Wq_readers_Check {d_:GDirectory} {a_:GEstate}:WI (F_e d_ a_) Tryz.prog 121 [GDirectory.v d_,GEstate.v a_] [] (fun z=>.int .i64 z) (fun z=>[]):=⟨fun Q Q' h hQ=>by
 refine acallM mc_e [] [] [.t 4] Tryz.func121 fun M=>?_
 unfold F_e at h
 unfold mc_e
 exact tX⟩
def F_b (a_:GEstate) (place_:Int):Option Bool :=
 (F_3 a_).bind fun y4=>jn (α:=Bool) (bif decide (y4=0) then (F_4 a_ place_).bind fun y6=>some y6 else some false) fun j7=>some j7
@[irreducible] def mg_4y:List MOp:=[gT 8 9 (.ld (some 2) (.t 2)),
 gT 8 10 (.mv (.t 1)),
 gT 8 11 (.call (.f 122) [(.t 9),(.t 10)] [] []),
 mo (.pick (.t 8) (.t 11) (.c (.bool false))) 12]
def mc_b:MC :=
 (sR [mo (.box (.t 0)) 2,
 mo (.mv (.c (.bool false))) 4]
 (.seq (.regI [.op (mo (.ld (some 2) (.t 2)) 5),
 .op (mo (.call (.f 50) [(.t 5)] [] []) 6),
 .op (mo (.bin false .eql (.t 6) (cI 0)) 7),
 .op (oV 7 8),
 .grp mg_4y,
 .op (oV 12 4)])
 .ret))
instance:GI mg_4y [4] [] (fun y:Bool=>[(12,.bool y)]) (fun y=>[]):=⟨⟩
instance Wq_access_known {a_:GEstate} {place_:Int}:WI (F_b a_ place_) Tryz.prog 151 [GEstate.v a_,.int .i64 place_] [] (fun z=>.bool z) (fun z=>[]):=⟨fun Q Q' h hQ=>by
 refine acallM mc_b [] [] [.t 4] Tryz.func151 fun M=>?_
 unfold F_b at h
 unfold mc_b
 exact tX⟩
def F_3n (place_:Int) (t_:Int) (k24:Int) (a19:Int×GAccess) (x18:Unit):Option (Fl Unit (Int×Bool)) :=
 grp ((decide (t_<a19.2.Time)||(!decide (a19.2.Place=place_)))) fun b26=>bif b26 then some (.nx ()) else bif decide (a19.2.Kind=4) then some (.ex (0,false)) else grp ((decide (a19.2.Kind=3)&&decide (t_<a19.2.Until))) fun b28=>bif b28 then some (.ex (a19.1,true)) else some (.nx ())
def F_c (a_:GEstate) (place_:Int) (t_:Int):Option (Int×Bool) :=
 (F_b a_ place_).bind fun y4=>bif (!y4) then some (0,false) else (backF a_.Events).bind fun y17=>(forL (F_3n place_ t_) (revp a_.Events) 0 ()).bind fun o=>o.elim (fun x29=>some (0,false)) (fun r30=>some r30)
@[irreducible] def mg_3u:List MOp:=[gF 24 25 (.fad 2 (.t 9)),
 gF 24 26 (.ld none (.t 25)),
 gF 24 27 (.ld none (.t 4)),
 gF 24 28 (.bin false .neq (.t 26) (.t 27)),
 mo (.pick (.t 24) (.c (.bool true)) (.t 28)) 29]
@[irreducible] def mg_3v:List MOp:=[gT 38 39 (.fad 4 (.t 9)),
 gT 38 40 (.ld none (.t 39)),
 gT 38 41 (.ld none (.t 5)),
 gT 38 42 (.bin false .gtr (.t 40) (.t 41)),
 mo (.pick (.t 38) (.t 42) (.c (.bool false))) 43]
@[irreducible] def mc_3w:MC :=
 (.block 1
 (.block 2
 (.seq (.note (.gc [4,5,6,7,8,9,25,26,27,28,39,40,41,42]) (.regI [.op (oF 0 9 20),
 .op (oL 20 21),
 .op (oL 5 22),
 .op (mo (.bin false .gtr (.t 21) (.t 22)) 23),
 .op (oV 23 24),
 .grp mg_3u,
 .op (oV 29 19)]))
 (.cond (.t 19)
 .skip
 (.seq (.note (.gc [5,6,7,8,9,39,40,41,42]) (.reg [oF 1 9 31,
 oL 31 32,
 mo (.bin false .eql (.t 32) (cI 4)) 33,
 oV 33 30]))
 (.cond (.t 30)
 (sR [⟨.st 1 (.t 6) (cI 0),none,none⟩,
 ⟨.st 1 (.t 7) (.c (.bool false)),none,none⟩]
 .ret)
 (.seq (.regI [.op (oF 1 9 35),
 .op (oL 35 36),
 .op (mo (.bin false .eql (.t 36) (cI 3)) 37),
 .op (oV 37 38),
 .grp mg_3v,
 .op (oV 43 34)])
 (.cond (.t 34)
 (.seq (.note (.gc [6,7,8]) (.reg [oV 8 44,
 ⟨.st 1 (.t 6) (.t 44),none,none⟩,
 ⟨.st 1 (.t 7) (.c (.bool true)),none,none⟩]))
 .ret)
 .skip))))))))
def mc_c:MC :=
 (sR [mo (.box (.t 0)) 3,
 mo (.box (.t 1)) 4,
 mo (.box (.t 2)) 5,
 mo (.alloc [(.int .i64 0)]) 6,
 mo (.alloc [(.bool false)]) 7]
 (.seq (sR [mo (.ld (some 2) (.t 3)) 10,
 oL 4 11,
 mo (.call (.f 151) [(.t 10),(.t 11)] [] []) 12,
 mo (.not (.t 12)) 13]
 (.cond (.t 13)
 (sR [⟨.st 1 (.t 6) (cI 0),none,none⟩,
 ⟨.st 1 (.t 7) (.c (.bool false)),none,none⟩]
 .ret)
 .skip))
 (.seq (sR [oF 1 3 14,
 oL 14 15,
 mo (.call (.f 152) [(.t 15)] [] []) 16]
 (.block 0
 (.rngF (.t 16) [17,18] (sR [oV 17 8]
 (.reg [mo (.alloc [(.int .i64 0),(.int .i64 0),(.int .i64 0),(.int .i64 0),(.int .i64 0),(.int .i64 0),(.int .i64 0)]) 9,
 ⟨.st 7 (.t 9) (.t 18),none,none⟩])) mc_3w)))
 (sR [⟨.st 1 (.t 6) (cI 0),none,none⟩,
 ⟨.st 1 (.t 7) (.c (.bool false)),none,none⟩]
 .ret))))
instance Wq_access_Linked {a_:GEstate} {place_ t_:Int}:WI (F_c a_ place_ t_) Tryz.prog 123 [GEstate.v a_,.int .i64 place_,.int .i64 t_] [] (fun z=>.tup [.int .i64 z.1,.bool z.2]) (fun z=>[]):=⟨fun Q Q' h hQ=>by
 refine acallM mc_c [] [] [.c 6 none,.c 7 none] Tryz.func123 fun M=>?_
 unfold F_c at h
 unfold mc_c
 replace h:=tY h
 refine tB ?_
 repeat' (first
 | (exact tZ)
 | ((first|refine oblg h ?_|refine roomG h ?_|refine inbG h ?_|refine incG h ?_|refine divG h ?_|refine appG h ?_|refine appC h ?_|refine fork h ?_ ?_|refine forkS h ?_ ?_)<;>clear h<;>intro hc h)
 | (obtain ⟨y,hy,h⟩:=h;(first|have hw:=W_5s (f:=GAccess.v) hy|have hw:=WI.w hy);replace hw:=tY hw;(first|refine M.sC hw ?_|refine M.sD hw ?_);clear hw hy;refine tB ?_)
 | (refine M.gv1 (ms:=mg_3v) 43 [39,40,41,42] h ?_ ?_<;>first
 | (clear h;intro K hK1;unfold mg_3v;refine tB ?_)
 | (clear h;intro b h;replace h:=tY h;refine tB ?_))
 | (refine M.gv1 (ms:=mg_3u) 29 [25,26,27,28] h ?_ ?_<;>first
 | (clear h;intro K hK2;unfold mg_3u;refine tB ?_)
 | (clear h;intro b h;replace h:=tY h;refine tB ?_))
 | (refine M.rfor (b:=mc_3w) (enc:=fun a=>[.int .i64 a.1,GAccess.v a.2]) [3,4,5,6,7] [3,7,6,5,4] (fun x=>[]) [] h rfl (W_5t fun a=>⟨_,rfl,rfl,rfl⟩) rfl (fun a=>⟨rfl,rfl⟩) ?_ ?_ rfl ?_<;>first
 | (clear h;intro k a x Qn K hK3 hkN3 h hf;clear hf;unfold F_3n at h;unfold mc_3w;replace h:=tY h;refine tB ?_)
  |(clear h;intro x h;replace h:=tY h;refine tB ?_)
  |(clear h;(try refine tB ?_);exact tU0;done))
 | ((first|refine hK1 _ ?_|refine hK2 _ ?_);exact tU;done)
 | (refine hK3 _ ?_;(try refine tB ?_);refine ⟨_,h,?_⟩;exact tU0;done)
 | (refine bfork (fun hc=>?_) (fun hc=>?_))
 | (refine tE ?_;(first|rw [M.lok_compU]|rw [M.lokD_compU]);refine tB ?_)
 | (refine tA ?_)
 | fail)⟩
def F_27 (d_:GDirectory) (p_:Int):Option Bool :=
 grp ((decide (0≤p_)&&decide (p_<(d_.Kinds.length:Int)))) fun b3=>jn (α:=Bool) (bif b3 then chk (inb p_ d_.Kinds.length) (some (!decide ((d_.Kinds.getD (p_).toNat default)=2))) else some false) fun j4=>some j4
@[irreducible] def mg_4z:List MOp:=[gT 7 8 (.mv (.t 1)),
 gT 7 9 (.fad 0 (.t 2)),
 gT 7 10 (.ld none (.t 9)),
 gT 7 11 (.len false (.t 10)),
 gT 7 12 (.bin false .lss (.t 8) (.t 11)),
 mo (.pick (.t 7) (.t 12) (.c (.bool false))) 13]
@[irreducible] def mg_50:List MOp:=[gT 14 15 (.fad 0 (.t 2)),
 gT 14 16 (.ld none (.t 15)),
 gT 14 17 (.mv (.t 1)),
 gT 14 18 (.iad 1 (.t 16) (.t 17)),
 gT 14 19 (.ld none (.t 18)),
 gT 14 20 (.bin false .neq (.t 19) (cI 2)),
 mo (.pick (.t 14) (.t 20) (.c (.bool false))) 21]
def mc_27:MC :=
 (sR [mo (.box (.t 0)) 2,
 mo (.mv (.c (.bool false))) 4]
 (.seq (.regI [.op (oV 1 5),
 .op (mo (.bin false .geq (.t 5) (cI 0)) 6),
 .op (oV 6 7),
 .grp mg_4z,
 .op (oV 13 14),
 .grp mg_50,
 .op (oV 21 4)])
 .ret))
instance:GI mg_50 [4] [] (fun y:Bool=>[(21,.bool y)]) (fun y=>[]):=⟨⟩
instance:GV mg_4z 13 [8,9,10,11,12]:=⟨⟩
instance Wq_readers_Reader {d_:GDirectory} {p_:Int}:WI (F_27 d_ p_) Tryz.prog 189 [GDirectory.v d_,.int .i64 p_] [] (fun z=>.bool z) (fun z=>[]):=⟨fun Q Q' h hQ=>by
 refine acallM mc_27 [] [] [.t 4] Tryz.func189 fun M=>?_
 unfold F_27 at h
 unfold mc_27
 exact tX⟩
def F_1l (d_:GDirectory) (a_:GEstate) (p_:Int) (place_:Int):Option Bool :=
 (F_e d_ a_).bind fun y6=>jn (α:=Bool) (bif decide (y6=0) then (F_27 d_ p_).bind fun y8=>some y8 else some false) fun j9=>jn (α:=Bool) (bif j9 then (F_4 a_ place_).bind fun y11=>some y11 else some false) fun j12=>some j12
@[irreducible] def mg_51:List MOp:=[gT 13 14 (.ld (some 2) (.t 4)),
 gT 13 15 (.mv (.t 2)),
 gT 13 16 (.call (.f 189) [(.t 14),(.t 15)] [] []),
 mo (.pick (.t 13) (.t 16) (.c (.bool false))) 17]
@[irreducible] def mg_52:List MOp:=[gT 18 19 (.ld (some 2) (.t 5)),
 gT 18 20 (.mv (.t 3)),
 gT 18 21 (.call (.f 122) [(.t 19),(.t 20)] [] []),
 mo (.pick (.t 18) (.t 21) (.c (.bool false))) 22]
def mc_1l:MC :=
 (sR [mo (.box (.t 0)) 4,
 mo (.box (.t 1)) 5,
 mo (.mv (.c (.bool false))) 8]
 (.seq (.regI [.op (mo (.ld (some 2) (.t 4)) 9),
 .op (mo (.ld (some 2) (.t 5)) 10),
 .op (mo (.call (.f 121) [(.t 9),(.t 10)] [] []) 11),
 .op (mo (.bin false .eql (.t 11) (cI 0)) 12),
 .op (oV 12 13),
 .grp mg_51,
 .op (oV 17 18),
 .grp mg_52,
 .op (oV 22 8)])
 .ret))
instance:GI mg_52 [8] [] (fun y:Bool=>[(22,.bool y)]) (fun y=>[]):=⟨⟩
instance:GI mg_51 [3,5,8] [5] (fun y:Bool=>[(17,.bool y)]) (fun y=>[]):=⟨⟩
instance Wq_readers_fine {d_:GDirectory} {a_:GEstate} {p_ place_:Int}:WI (F_1l d_ a_ p_ place_) Tryz.prog 153 [GDirectory.v d_,GEstate.v a_,.int .i64 p_,.int .i64 place_] [] (fun z=>.bool z) (fun z=>[]):=⟨fun Q Q' h hQ=>by
 refine acallM mc_1l [] [] [.t 8] Tryz.func153 fun M=>?_
 unfold F_1l at h
 unfold mc_1l
 exact tX⟩
def F_1m (d_:GDirectory) (p_:Int):Option Bool :=
 (F_5 d_).bind fun y4=>jn (α:=Bool) (bif decide (y4=0) then (F_8 d_ p_).bind fun y6=>some y6 else some false) fun j7=>some j7
@[irreducible] def mg_53:List MOp:=[gT 8 9 (.ld (some 2) (.t 2)),
 gT 8 10 (.mv (.t 1)),
 gT 8 11 (.call (.f 89) [(.t 9),(.t 10)] [] []),
 mo (.pick (.t 8) (.t 11) (.c (.bool false))) 12]
def mc_1m:MC :=
 (sR [mo (.box (.t 0)) 2,
 mo (.mv (.c (.bool false))) 4]
 (.seq (.regI [.op (mo (.ld (some 2) (.t 2)) 5),
 .op (mo (.call (.f 49) [(.t 5)] [] []) 6),
 .op (mo (.bin false .eql (.t 6) (cI 0)) 7),
 .op (oV 7 8),
 .grp mg_53,
 .op (oV 12 4)])
 .ret))
instance:GI mg_53 [4] [] (fun y:Bool=>[(12,.bool y)]) (fun y=>[]):=⟨⟩
instance Wq_directory_known {d_:GDirectory} {p_:Int}:WI (F_1m d_ p_) Tryz.prog 215 [GDirectory.v d_,.int .i64 p_] [] (fun z=>.bool z) (fun z=>[]):=⟨fun Q Q' h hQ=>by
 refine acallM mc_1m [] [] [.t 4] Tryz.func215 fun M=>?_
 unfold F_1m at h
 unfold mc_1m
 exact tX⟩
noncomputable def F_1n (k351:Int) (a352:Bool) (x350:(List Int)×(List Bool)):Option ((List Int)×(List Bool)) :=
 jn (α:=Bool) (bif a352 then chk (inb k351 x350.2.length) (some (!(x350.2.getD ((k351).toNat) default))) else some false) fun j360=>bif j360 then chk (room (x350.1.length+[k351].length) 8) (chk (inb k351 x350.2.length) (some ((x350.1++[k351]),x350.2.set ((k351).toNat) true))) else some (x350.1,x350.2)
noncomputable def F_28 (x_:List (List Bool)) (x257:(List Int)×(List Bool)):Option (Fl ((List Int)×(List Bool)) (List Bool)) :=
 bif decide (0<(x257.1.length:Int)) then chk (inb 0 x257.1.length) (chk (inb (x257.1.getD 0 default) x_.length) ((foldL F_1n (x_.getD (x257.1.getD 0 default).toNat default) 0 (x257.1,x257.2)).bind fun x361=>chk (inc 1 (x361.1.length:Int) x361.1.length) (some (.nx ((x361.1.drop 1).take (x361.1.length - 1),x361.2))))) else some (.ex x257.2)
noncomputable def F_10 (x_:List (List Bool)) (p_:Int):Option (List Bool) :=
 chk (roomI (x_.length:Int) (x_.length:Int) 1) (chk (inb p_ (List.replicate ((x_.length:Int)).toNat false).length) ((loop (F_28 x_) ([p_],(List.replicate ((x_.length:Int)).toNat false).set ((p_).toNat) true)).bind fun r362=>some r362))
@[irreducible] def mg_54:List MOp:=[gT 35 36 (.mv (.t 5)),
 gT 35 37 (.mv (.t 7)),
 gT 35 38 (.iad 1 (.t 36) (.t 37)),
 gT 35 39 (.ld none (.t 38)),
 gT 35 40 (.not (.t 39)),
 mo (.pick (.t 35) (.t 40) (.c (.bool false))) 41]
@[irreducible] def mc_1n:MC :=
 (sR [mo (.bin false .lss (.t 29) (.t 28)) 30]
 (.seq (.cond (.t 30)
 .skip
 (.exit 2))
 (.seq (.block 3
 (sR [oV 29 31,
 mo (.iad 1 (.t 27) (.t 29)) 32,
 oL 32 33,
 oV 31 7,
 oV 33 8]
 (.seq (.regI [.op (oV 8 34),
 .op (oV 34 35),
 .grp mg_54])
 (.cond (.t 41)
 (.reg [oV 5 42,
 oV 7 43,
 oV 6 44,
 oV 7 45,
 mo (.bslice 1 [(.t 45)]) 46,
 mo (.app 1 8 (.t 44) (.t 46)) 47,
 mo (.iad 1 (.t 42) (.t 43)) 48,
 ⟨.st 1 (.t 48) (.c (.bool true)),none,none⟩,
 oV 47 6])
 .skip))))
 (.reg [mo (.bin true .add (.t 29) (cI 1)) 49,
 oV 49 29]))))
@[irreducible] def mc_28:MC :=
 (.seq (sR [oV 6 17,
 mo (.len false (.t 17)) 18,
 mo (.bin false .gtr (.t 18) (cI 0)) 19]
 (.cond (.t 19)
 .skip
 (.exit 0)))
 (.seq (.block 1
 (sR [oV 0 22,
 oV 6 23,
 mo (.iad 1 (.t 23) (cI 0)) 24,
 oL 24 25,
 mo (.iad 1 (.t 22) (.t 25)) 26,
 oL 26 27,
 mo (.len false (.t 27)) 28,
 oC 0 29]
 (.block 2
 (.loop mc_1n))))
 (.reg [oV 6 20,
 mo (.slc 1 (.t 20) (some (cI 1)) none) 21,
 oV 21 6])))
def mc_10:MC :=
 (sR [mo (.mv (.c (.sl []))) 4]
 (sR [oV 0 9,
 mo (.len false (.t 9)) 10,
 mo (.mksl 1 1 (.bool false) (.t 10) (.t 10)) 11,
 oV 11 5]
 (sR [oV 5 12,
 oV 1 13,
 mo (.iad 1 (.t 12) (.t 13)) 14,
 ⟨.st 1 (.t 14) (.c (.bool true)),none,none⟩]
 (.seq (sR [oV 1 15,
 mo (.bslice 1 [(.t 15)]) 16,
 oV 16 6]
 (.block 0
 (.loop mc_28)))
 (sR [oV 5 50,
 oV 50 4]
 .ret)))))
attribute [go_sem] F_1n F_28
instance:GI mg_54 [0,5,6,7,27,28,29] [2006,11] (fun y:Bool=>[(41,.bool y)]) (fun y=>[]):=⟨⟩
instance:LI mc_1n 29 28 [0,27,28] [] (fun y:(List Int)×(List Bool)=>[(5,.osl 11 1 0 y.2.length),(6,.osl 2006 1 0 y.1.length)]) (fun y=>[.o 2006 (.arr 1 (y.1.map (V.int .i64))),.o 11 (.arr 1 (y.2.map V.bool))]) [.gc [0,5,6,27,28,29],.acc 6 2006 1]:=⟨⟩
instance:LI mc_28 0 0 [0] [] (fun y:(List Int)×(List Bool)=>[(5,.osl 11 1 0 y.2.length),(6,.osl 2006 1 0 y.1.length)]) (fun y=>[.o 2006 (.arr 1 (y.1.map (V.int .i64))),.o 11 (.arr 1 (y.2.map V.bool))]) [.gc [0,5,6],.trim 6,.acc 6 2006 1]:=⟨⟩
instance Wq_directory_table_upward {x_:List (List Bool)} {p_:Int}:WI (F_10 x_ p_) Tryz.prog 218 [.sl (x_.map (slV V.bool)),.int .i64 p_] [] (fun z=>.sl (z.map V.bool)) (fun z=>[]):=⟨fun Q Q' h hQ=>by
 refine acallM mc_10 [.fz 4] [] [.t 4] Tryz.func218 fun M=>?_
 unfold F_10 at h
 unfold mc_10
 exact tX⟩
def F_3e (k16:Int) (a17:Bool) (x15:List Int):Option (List Int) :=
 bif a17 then chk (room (x15.length+[k16].length) 8) (some (x15++[k16])) else some x15
def F_1o (l_:List Bool):Option (List Int) :=
 (foldL F_3e l_ 0 []).bind fun x18=>some x18
@[irreducible] def mc_3e:MC :=
 (sR [mo (.bin false .lss (.t 8) (.t 7)) 9]
 (.seq (.cond (.t 9)
 .skip
 (.exit 0))
 (.seq (.block 1
 (sR [oV 8 10,
 mo (.iad 1 (.t 6) (.t 8)) 11,
 oL 11 12,
 oV 10 4,
 oV 12 5]
 (sR [oV 5 13]
 (.cond (.t 13)
 (.reg [oV 3 14,
 oV 4 15,
 mo (.bslice 1 [(.t 15)]) 16,
 mo (.app 1 8 (.t 14) (.t 16)) 17,
 oV 17 3])
 .skip))))
 (.reg [mo (.bin true .add (.t 8) (cI 1)) 18,
 oV 18 8]))))
def mc_1o:MC :=
 (sR [mo (.mv (.c (.sl []))) 2]
 (sR [mo (.mv (.c .nils)) 3]
 (.seq (sR [oV 0 6,
 mo (.len false (.t 6)) 7,
 oC 0 8]
 (.block 0
 (.loop mc_3e)))
 (sR [oV 3 19,
 oV 19 2]
 .ret))))
attribute [go_sem] F_3e
instance:LI mc_3e 8 7 [6,7] [] (fun y:List Int=>[(3,.osl 2003 1 0 y.length)]) (fun y=>[.o 2003 (.arr 1 (y.map (V.int .i64)))]) [.gc [3,6,7,8],.acc 3 2003 1]:=⟨⟩
instance Wq_directory_those {l_:List Bool}:WI (F_1o l_) Tryz.prog 216 [.sl (l_.map V.bool)] [] (fun z=>.sl (z.map (V.int .i64))) (fun z=>[]):=⟨fun Q Q' h hQ=>by
 refine acallM mc_1o [.fz 2] [] [.t 2] Tryz.func216 fun M=>?_
 unfold F_1o at h
 unfold mc_1o
 exact tX⟩
noncomputable def F_m (d_:GDirectory) (p_:Int) (t_:Int):Option (List Int) :=
 (F_1m d_ p_).bind fun y4=>bif (!y4) then some [] else (atF d_.Kinds.length (d_.Events.map fun e=>(e.Time,e.Kind,e.Principal,e.Group)) t_).bind fun y8=>(F_10 y8 p_).bind fun y9=>(F_1o y9).bind fun y10=>some y10
def mc_m:MC :=
 (sR [mo (.box (.t 0)) 3,
 mo (.mv (.c (.sl []))) 6]
 (.seq (sR [mo (.ld (some 2) (.t 3)) 7,
 oV 1 8,
 mo (.call (.f 215) [(.t 7),(.t 8)] [] []) 9,
 mo (.not (.t 9)) 10]
 (.cond (.t 10)
 (sR [mo (.mv (.c (.sl []))) 6]
 .ret)
 .skip))
 (sR [mo (.ld (some 2) (.t 3)) 11,
 oV 2 12,
 mo (.call (.f 217) [(.t 11),(.t 12)] [] []) 13,
 oV 1 14,
 mo (.call (.f 218) [(.t 13),(.t 14)] [] []) 15,
 mo (.call (.f 216) [(.t 15)] [] []) 16,
 oV 16 6]
 .ret)))
instance Wq_directory_Upward {d_:GDirectory} {p_ t_:Int}:WI (F_m d_ p_ t_) Tryz.prog 190 [GDirectory.v d_,.int .i64 p_,.int .i64 t_] [] (fun z=>.sl (z.map (V.int .i64))) (fun z=>[]):=⟨fun Q Q' h hQ=>by
 refine acallM mc_m [.fz 6] [] [.t 6] Tryz.func190 fun M=>?_
 unfold F_m at h
 unfold mc_m
 replace h:=tY h
 refine tB ?_
 repeat' (first
 | (exact tZ)
 | ((first|refine oblg h ?_|refine roomG h ?_|refine inbG h ?_|refine incG h ?_|refine divG h ?_|refine appG h ?_|refine appC h ?_|refine fork h ?_ ?_|refine forkS h ?_ ?_)<;>clear h<;>intro hc h)
 | (obtain ⟨y,hy,h⟩:=h;(first|have hw:=W_at (f:=GMember.v) (e4:=fun e=>(e.Time,e.Kind,e.Principal,e.Group)) (fun _=>rfl) hy|have hw:=WI.w hy);replace hw:=tY hw;(first|refine M.sC hw ?_|refine M.sD hw ?_);clear hw hy;refine tB ?_)
 | (refine tE ?_;(first|rw [M.lok_compU]|rw [M.lokD_compU]);refine tB ?_)
 | (refine tA ?_)
 | fail)⟩
def F_2v (place_:Int) (t_:Int) (k44:Int) (a45:GAccess) (x43:List (Int×Int)):Option (List (Int×Int)) :=
 grp ((decide (t_<a45.Time)||(!decide (a45.Place=place_)))) fun b53=>bif b53 then some x43 else bif decide (a45.Kind=1) then some (aput a45.Principal k44 x43) else bif decide (a45.Kind=2) then some (adel a45.Principal x43) else some x43
def F_1p (a_:GEstate) (place_:Int) (t_:Int):Option (List (Int×Int)) :=
 (foldL (F_2v place_ t_) a_.Events 0 []).bind fun x54=>some x54
@[irreducible] def mg_55:List MOp:=[gF 24 25 (.fad 2 (.t 9)),
 gF 24 26 (.ld none (.t 25)),
 gF 24 27 (.mv (.t 1)),
 gF 24 28 (.bin false .neq (.t 26) (.t 27)),
 mo (.pick (.t 24) (.c (.bool true)) (.t 28)) 29]
@[irreducible] def mc_2v:MC :=
 (sR [mo (.bin false .lss (.t 14) (.t 13)) 15]
 (.seq (.cond (.t 15)
 .skip
 (.exit 0))
 (.seq (.block 1
 (sR [oV 14 16,
 mo (.iad 7 (.t 12) (.t 14)) 17,
 mo (.ld (some 7) (.t 17)) 18,
 mo (.alloc [(.int .i64 0),(.int .i64 0),(.int .i64 0),(.int .i64 0),(.int .i64 0),(.int .i64 0),(.int .i64 0)]) 9,
 oV 16 8,
 ⟨.st 7 (.t 9) (.t 18),none,none⟩]
 (.block 2
 (.seq (.regI [.op (oF 0 9 20),
 .op (oL 20 21),
 .op (oV 2 22),
 .op (mo (.bin false .gtr (.t 21) (.t 22)) 23),
 .op (oV 23 24),
 .grp mg_55,
 .op (oV 29 19)])
 (.cond (.t 19)
 .skip
 (.seq (.note (.gc [1,2,7,8,9,12,13,14,25,26,27,28]) (.reg [oF 1 9 31,
 oL 31 32,
 mo (.bin false .eql (.t 32) (cI 1)) 33,
 oV 33 30]))
 (.cond (.t 30)
 (.reg [oV 7 34,
 oF 3 9 35,
 oL 35 36,
 oV 8 37,
 ⟨.mp (.up (.int .i64)) [(.t 34),(.t 36),(.t 37)],none,none⟩])
 (sR [oF 1 9 39,
 oL 39 40,
 mo (.bin false .eql (.t 40) (cI 2)) 41,
 oV 41 38]
 (.cond (.t 38)
 (.note (.gc [1,2,7,9,12,13,14,25,26,27,28]) (.reg [oV 7 42,
 oF 3 9 43,
 oL 43 44,
 ⟨.mp (.del (.int .i64)) [(.t 42),(.t 44)],none,none⟩]))
 .skip)))))))))
 (.reg [mo (.bin true .add (.t 14) (cI 1)) 45,
 oV 45 14]))))
def mc_1p:MC :=
 (sR [mo (.box (.t 0)) 3,
 mo (.mv (.c .nilm)) 6]
 (sR [mo (.mp (.mk (.int .i64)) []) 10,
 oV 10 7]
 (.seq (sR [oF 1 3 11,
 oL 11 12,
 mo (.len false (.t 12)) 13,
 oC 0 14]
 (.block 0
 (.loop mc_2v)))
 (sR [oV 7 46,
 oV 46 6]
 .ret))))
attribute [go_sem] F_2v
instance:GV mg_55 29 [25,26,27,28]:=⟨⟩
instance:LI mc_2v 14 13 [1,2,7,12,13] [] (fun y:List (Int×Int)=>[]) (fun y=>[.o 10 (.map (.int .i64) (y.map (kvV (V.int .i64) (V.int .i64))))]) []:=⟨⟩
instance Wq_access_grants {a_:GEstate} {place_ t_:Int}:WI (F_1p a_ place_ t_) Tryz.prog 219 [GEstate.v a_,.int .i64 place_,.int .i64 t_] [] (fun z=>(mpV (.int .i64) (V.int .i64) (V.int .i64)) z) (fun z=>[]):=⟨fun Q Q' h hQ=>by
 refine acallM mc_1p [.fz 6] [] [.t 6] Tryz.func219 fun M=>?_
 unfold F_1p at h
 unfold mc_1p
 exact tX⟩
noncomputable def F_1q (k21:Int) (a19:Int×Int) (x18:List Int):Option (List Int) :=
 chk (room (x18.length+[a19.1].length) 8) (some (x18++[a19.1]))
noncomputable def F_n (a_:GEstate) (place_:Int) (t_:Int):Option (List Int) :=
 (F_b a_ place_).bind fun y4=>bif (!y4) then some [] else (F_1p a_ place_ t_).bind fun y15=>permL (fun l20=>(foldL F_1q l20 0 []).bind fun x22=>(sortI x22).bind fun y24=>some y24) y15
@[irreducible] def mc_1q:MC :=
 (sR [mo (.mp .nxt [(.t 17)]) 18,
 mo (.ext 0 (.t 18)) 19]
 (.seq (.cond (.t 19)
 .skip
 (.exit 0))
 (.block 1
 (sR [mo (.mp .ent [(.t 17)]) 20,
 mo (.ext 0 (.t 20)) 21,
 oV 21 8]
 (.reg [oV 7 22,
 oV 8 23,
 mo (.bslice 1 [(.t 23)]) 24,
 mo (.app 1 8 (.t 22) (.t 24)) 25,
 oV 25 7])))))
def mc_n:MC :=
 (sR [mo (.box (.t 0)) 3,
 mo (.mv (.c (.sl []))) 6]
 (.seq (sR [mo (.ld (some 2) (.t 3)) 9,
 oV 1 10,
 mo (.call (.f 151) [(.t 9),(.t 10)] [] []) 11,
 mo (.not (.t 11)) 12]
 (.cond (.t 12)
 (sR [mo (.mv (.c (.sl []))) 6]
 .ret)
 .skip))
 (sR [mo (.mv (.c .nils)) 7]
 (.seq (sR [mo (.ld (some 2) (.t 3)) 13,
 oV 1 14,
 oV 2 15,
 mo (.call (.f 219) [(.t 13),(.t 14),(.t 15)] [] []) 16,
 mo (.mp .rng [(.t 16)]) 17]
 (.block 0
 (.loop mc_1q)))
 (sR [oV 7 26,
 mo (.call (.f 156) [(.t 26)] [2007] []) 27]
 (sR [oV 7 28,
 oV 28 6]
 .ret))))))
instance Wq_access_Granted {a_:GEstate} {place_ t_:Int}:WI (F_n a_ place_ t_) Tryz.prog 191 [GEstate.v a_,.int .i64 place_,.int .i64 t_] [] (fun z=>.sl (z.map (V.int .i64))) (fun z=>[]):=⟨fun Q Q' h hQ=>by
 refine acallM mc_n [.fz 6] [] [.t 6] Tryz.func191 fun M=>?_
 unfold F_n at h
 unfold mc_n
 replace h:=tY h
 refine tB ?_
 repeat' (first
 | (exact tZ)
 | (refine And.intro (by refine ⟨?_,?_,?_,?_⟩<;>omega) ?_;first|exact hQ _ h|(rw [List.take_of_length_le (by omega)];exact hQ _ h))
 | (rw [←hlen];exact hQ _ h)
 | (have hq:=hQ _ h;simp only [List.length_take,Nat.min_eq_left hlen.1] at hq;exact hq)
 | ((first|refine oblg h ?_|refine roomG h ?_|refine inbG h ?_|refine incG h ?_|refine divG h ?_|refine appG h ?_|refine appC h ?_|refine fork h ?_ ?_|refine forkS h ?_ ?_)<;>clear h<;>intro hc h)
 | (obtain ⟨y,hy,h⟩:=h;(first|(have hw:=acall_swe 1000 2007 (W_4g hy);replace hw:=tY hw;(try simp only [hlen] at hw);have hlen:=sortI_len hy)|have hw:=WI.w hy);replace hw:=tY hw;(first|refine M.sC hw ?_|refine M.sD hw ?_);clear hw hy;refine tB ?_)
 | (refine M.mfold1 (b:=mc_1q) (kv:=(kvV (V.int .i64) (V.int .i64))) 17 [17] [] (fun x=>[(7,.osl 2007 1 0 x.length)]) (fun x=>[.o 2007 (.arr 1 (x.map (V.int .i64)))]) [.gc [7,17],.acc 7 2007 1] h ?_ ?_<;>first
 | (clear h;intro rem cur x k Qn K hK1 hs1 hn1;unfold F_1q at hn1;unfold mc_1q;refine tB ?_)
 | (clear h;(try refine tB ?_);exact tU0;done))
 | (refine nxt_of hs1 hn1 ?_ ?_<;>first
  |(intro h;rw [M.lok_eq];replace h:=tY h;refine tB ?_)
  |(intro i a h;rw [M.lok_eq];replace h:=tY h;refine tB ?_))
 | (apply hK1;(try refine tB ?_);refine ⟨_,h,?_⟩;exact tU0;done)
 | (refine tE ?_;(first|rw [M.lok_compU]|rw [M.lokD_compU]);refine tB ?_)
 | (refine tA ?_)
 | fail)⟩
def F_2w (v_:Int) (k11:Int) (a12:Int) (x10:Unit):Option (Fl Unit Int) :=
 bif decide (v_=a12) then some (.ex k11) else some (.nx ())
def F_3f (s_:List Int) (v_:Int):Option Int :=
 (forL (F_2w v_) s_ 0 ()).bind fun o=>o.elim (fun x13=>some (-1)) (fun r14=>some r14)
@[irreducible] def mc_2w:MC :=
 (sR [mo (.bin false .lss (.t 8) (.t 7)) 9]
 (.seq (.cond (.t 9)
 .skip
 (.exit 0))
 (.seq (.block 1
 (sR [oV 8 10,
 oV 10 5]
 (sR [oV 1 11,
 oV 0 12,
 oV 5 13,
 mo (.iad 1 (.t 12) (.t 13)) 14,
 oL 14 15,
 mo (.bin false .eql (.t 11) (.t 15)) 16]
 (.cond (.t 16)
 (sR [oV 5 17,
 oV 17 4]
 .ret)
 .skip))))
 (.reg [mo (.bin true .add (.t 8) (cI 1)) 18,
 oV 18 8]))))
def mc_3f:MC :=
 (sR [oC 0 4]
 (.seq (sR [oV 0 6,
 mo (.len false (.t 6)) 7,
 oC 0 8]
 (.block 0
 (.loop mc_2w)))
 (sR [oC (-1) 4]
 .ret)))
attribute [go_sem] F_2w
instance:LI mc_2w 8 7 [0,1,7] [] (fun y:Unit=>[]) (fun y=>[]) []:=⟨⟩
instance Wq_slices_Index_int_int {s_:List Int} {v_:Int}:WI (F_3f s_ v_) Tryz.prog 220 [.sl (s_.map (V.int .i64)),.int .i64 v_] [] (fun z=>.int .i64 z) (fun z=>[]):=⟨fun Q Q' h hQ=>by
 refine acallM mc_3f [] [] [.t 4] Tryz.func220 fun M=>?_
 unfold F_3f at h
 unfold mc_3f
 exact tX⟩
def F_29 (s_:List Int) (v_:Int):Option Bool :=
 (F_3f s_ v_).bind fun y2=>some (decide (0≤y2))
def mc_29:MC :=
 (sR [mo (.mv (.c (.bool false))) 4]
 (sR [oV 0 5,
 oV 1 6,
 mo (.call (.f 220) [(.t 5),(.t 6)] [] []) 7,
 mo (.bin false .geq (.t 7) (cI 0)) 8,
 oV 8 4]
 .ret))
instance Wq_slices_Contains_int_int {s_:List Int} {v_:Int}:WI (F_29 s_ v_) Tryz.prog 192 [.sl (s_.map (V.int .i64)),.int .i64 v_] [] (fun z=>.bool z) (fun z=>[]):=⟨fun Q Q' h hQ=>by
 refine acallM mc_29 [] [] [.t 4] Tryz.func192 fun M=>?_
 unfold F_29 at h
 unfold mc_29
 exact tX⟩
noncomputable def F_1r (y2:List Int) (k37:Int) (a38:Int) (x36:Unit):Option (Fl Unit (Int×Bool)) :=
 (F_29 y2 a38).bind fun y46=>bif y46 then some (.ex (a38,true)) else some (.nx ())
noncomputable def F_11 (d_:GDirectory) (a_:GEstate) (p_:Int) (place_:Int) (t_:Int):Option (Int×Bool) :=
 (F_m d_ p_ t_).bind fun y2=>(F_n a_ place_ t_).bind fun y25=>(forL (F_1r y2) y25 0 ()).bind fun o=>o.elim (fun x47=>some (0,false)) (fun r48=>some r48)
@[irreducible] def mc_1r:MC :=
 (sR [mo (.bin false .lss (.t 24) (.t 23)) 25]
 (.seq (.cond (.t 25)
 .skip
 (.exit 0))
 (.seq (.block 1
 (sR [mo (.iad 1 (.t 22) (.t 24)) 26,
 oL 26 27,
 oV 27 14]
 (sR [oV 12 28,
 oV 14 29,
 mo (.call (.f 192) [(.t 28),(.t 29)] [] []) 30]
 (.cond (.t 30)
 (.seq (.note (.gc [14]) (.reg [oV 14 31,
 oV 31 10,
 mo (.mv (.c (.bool true))) 11]))
 .ret)
 .skip))))
 (.reg [mo (.bin true .add (.t 24) (cI 1)) 32,
 oV 32 24]))))
def mc_11:MC :=
 (sR [mo (.box (.t 0)) 5,
 mo (.box (.t 1)) 6,
 oC 0 10,
 mo (.mv (.c (.bool false))) 11]
 (sR [mo (.ld (some 2) (.t 5)) 15,
 oV 2 16,
 oV 4 17,
 mo (.call (.f 190) [(.t 15),(.t 16),(.t 17)] [] []) 18,
 oV 18 12]
 (.seq (.seq (.note (.gc [3,4,6,12]) (.reg [mo (.ld (some 2) (.t 6)) 19,
 oV 3 20,
 oV 4 21,
 mo (.call (.f 191) [(.t 19),(.t 20),(.t 21)] [] []) 22,
 mo (.len false (.t 22)) 23,
 oC 0 24]))
 (.block 0
 (.loop mc_1r)))
 (sR [oC 0 10,
 mo (.mv (.c (.bool false))) 11]
 .ret))))
attribute [go_sem] F_1r
instance:LI mc_1r 24 23 [12,22,23] [] (fun y:Unit=>[]) (fun y=>[]) []:=⟨⟩
instance Wq_readers_grant {d_:GDirectory} {a_:GEstate} {p_ place_ t_:Int}:WI (F_11 d_ a_ p_ place_ t_) Tryz.prog 154 [GDirectory.v d_,GEstate.v a_,.int .i64 p_,.int .i64 place_,.int .i64 t_] [] (fun z=>.tup [.int .i64 z.1,.bool z.2]) (fun z=>[]):=⟨fun Q Q' h hQ=>by
 refine acallM mc_11 [] [] [.t 10,.t 11] Tryz.func154 fun M=>?_
 unfold F_11 at h
 unfold mc_11
 exact tX⟩
noncomputable def F_o (d_:GDirectory) (a_:GEstate) (p_:Int) (place_:Int) (t_:Int):Option Bool :=
 (F_1l d_ a_ p_ place_).bind fun y4=>bif (!y4) then some false else (F_c a_ place_ t_).bind fun y6=>(F_11 d_ a_ p_ place_ t_).bind fun y8=>grp ((y6.2||y8.2)) fun b10=>some b10
@[irreducible] def mg_56:List MOp:=[gF 38 39 (.mv (.t 14)),
 mo (.pick (.t 38) (.c (.bool true)) (.t 39)) 40]
def mc_o:MC :=
 (sR [mo (.box (.t 0)) 5,
 mo (.box (.t 1)) 6,
 mo (.mv (.c (.bool false))) 10]
 (.seq (sR [mo (.ld (some 2) (.t 5)) 15,
 mo (.ld (some 2) (.t 6)) 16,
 oV 2 17,
 oV 3 18,
 mo (.call (.f 153) [(.t 15),(.t 16),(.t 17),(.t 18)] [] []) 19,
 mo (.not (.t 19)) 20]
 (.cond (.t 20)
 (sR [mo (.mv (.c (.bool false))) 10]
 .ret)
 .skip))
 (.seq (.note (.gc [2,3,4,5,6,39]) (.reg [mo (.ld (some 2) (.t 6)) 22,
 oV 3 23,
 oV 4 24,
 mo (.call (.f 123) [(.t 22),(.t 23),(.t 24)] [] []) 25,
 oV 25 21,
 mo (.ext 0 (.t 21)) 26,
 mo (.ext 1 (.t 21)) 27,
 oV 26 11,
 oV 27 12]))
 (.seq (.note (.gc [2,3,4,5,6,12,39]) (.reg [mo (.ld (some 2) (.t 5)) 29,
 mo (.ld (some 2) (.t 6)) 30,
 oV 2 31,
 oV 3 32,
 oV 4 33,
 mo (.call (.f 154) [(.t 29),(.t 30),(.t 31),(.t 32),(.t 33)] [] []) 34,
 oV 34 28,
 mo (.ext 0 (.t 28)) 35,
 mo (.ext 1 (.t 28)) 36,
 oV 35 13,
 oV 36 14]))
 (.seq (.note (.gc [12,14,39]) (.regI [.op (oV 12 37),
 .op (oV 37 38),
 .grp mg_56,
 .op (oV 40 10)]))
 .ret)))))
instance:GV mg_56 40 [39]:=⟨⟩
instance Wq_readers_May {d_:GDirectory} {a_:GEstate} {p_ place_ t_:Int}:WI (F_o d_ a_ p_ place_ t_) Tryz.prog 124 [GDirectory.v d_,GEstate.v a_,.int .i64 p_,.int .i64 place_,.int .i64 t_] [] (fun z=>.bool z) (fun z=>[]):=⟨fun Q Q' h hQ=>by
 refine acallM mc_o [] [] [.t 10] Tryz.func124 fun M=>?_
 unfold F_o at h
 unfold mc_o
 exact tX⟩
noncomputable def F_1s (d_:GDirectory) (a_:GEstate) (place_:Int) (t_:Int) (k54:Int) (a55:Int) (x53:Bool×(List Int)):Option (Bool×(List Int)) :=
 (F_o d_ a_ k54 place_ t_).bind fun y63=>bif y63 then chk (room (x53.2.length+[k54].length) 8) (some (x53.1,(x53.2++[k54]))) else some (x53.1,x53.2)
noncomputable def F_12 (d_:GDirectory) (a_:GEstate) (place_:Int) (t_:Int):Option (GAudience×Int) :=
 (F_e d_ a_).bind fun y4=>bif (!decide (y4=0)) then some ((GAudience.mk false []),y4) else (F_4 a_ place_).bind fun y8=>bif (!y8) then some ((GAudience.mk false []),6) else (F_c a_ place_ t_).bind fun y10=>(foldL (F_1s d_ a_ place_ t_) d_.Kinds 0 (y10.2,[])).bind fun x64=>some ((GAudience.mk x64.1 x64.2),0)
@[irreducible] def mc_1s:MC :=
 (sR [mo (.bin false .lss (.t 39) (.t 38)) 40]
 (.seq (.cond (.t 40)
 .skip
 (.exit 0))
 (.seq (.block 1
 (sR [oV 39 41,
 oV 41 14]
 (sR [mo (.ld (some 2) (.t 4)) 42,
 mo (.ld (some 2) (.t 5)) 43,
 oV 14 44,
 oV 2 45,
 oV 3 46,
 mo (.call (.f 124) [(.t 42),(.t 43),(.t 44),(.t 45),(.t 46)] [] []) 47]
 (.cond (.t 47)
 (.note (.gc [2,3,4,5,8,13,14,38,39]) (.reg [oF 1 13 48,
 oL 48 49,
 oV 14 50,
 mo (.bslice 1 [(.t 50)]) 51,
 mo (.app 1 8 (.t 49) (.t 51)) 52,
 oF 1 13 53,
 ⟨.st 1 (.t 53) (.t 52),none,none⟩]))
 .skip))))
 (.reg [mo (.bin true .add (.t 39) (cI 1)) 54,
 oV 54 39]))))
def mc_12:MC :=
 (sR [mo (.box (.t 0)) 4,
 mo (.box (.t 1)) 5,
 mo (.alloc [(.bool false),(.sl [])]) 8,
 oC 0 9]
 (.seq (sR [mo (.ld (some 2) (.t 4)) 15,
 mo (.ld (some 2) (.t 5)) 16,
 mo (.call (.f 121) [(.t 15),(.t 16)] [] []) 17,
 oV 17 10]
 (sR [oV 10 18,
 mo (.bin false .neq (.t 18) (cI 0)) 19]
 (.cond (.t 19)
 (.seq (.note (.gc [8,10]) (.reg [mo (.build [(.bool false),(.sl [])] []) 20,
 oV 10 21,
 ⟨.st 2 (.t 8) (.t 20),none,none⟩,
 oV 21 9]))
 .ret)
 .skip)))
 (.seq (.seq (.note (.gc [2,3,4,5,8]) (.reg [mo (.ld (some 2) (.t 5)) 22,
 oV 2 23,
 mo (.call (.f 122) [(.t 22),(.t 23)] [] []) 24,
 mo (.not (.t 24)) 25]))
 (.cond (.t 25)
 (.seq (.note (.gc [8]) (.reg [mo (.build [(.bool false),(.sl [])] []) 26,
 ⟨.st 2 (.t 8) (.t 26),none,none⟩,
 oC 6 9]))
 .ret)
 .skip))
 (sR [mo (.ld (some 2) (.t 5)) 28,
 oV 2 29,
 oV 3 30,
 mo (.call (.f 123) [(.t 28),(.t 29),(.t 30)] [] []) 31,
 oV 31 27,
 mo (.ext 0 (.t 27)) 32,
 mo (.ext 1 (.t 27)) 33,
 oV 32 11,
 oV 33 12]
 (.seq (.note (.gc [2,3,4,5,8,12]) (.reg [oV 12 34,
 mo (.build [(.bool false),.nils] [(0,1,(.t 34))]) 35,
 mo (.alloc [(.bool false),(.sl [])]) 13,
 ⟨.st 2 (.t 13) (.t 35),none,none⟩]))
 (.seq (sR [oF 0 4 36,
 oL 36 37,
 mo (.len false (.t 37)) 38,
 oC 0 39]
 (.block 0
 (.loop mc_1s)))
 (sR [mo (.ld (some 2) (.t 13)) 55,
 ⟨.st 2 (.t 8) (.t 55),none,none⟩,
 oC 0 9]
 .ret)))))))
attribute [go_sem] F_1s
instance:LI mc_1s 39 38 [2,3,4,5,8,13,38] [8,5,4] (fun y:Bool×(List Int)=>[]) (fun y=>[.o 13 (.cells [.bool y.1,.osl 4209 1 0 y.2.length]),.o 4209 (.arr 1 (y.2.map (V.int .i64)))]) [.gc [2,3,4,5,8,13,38,39],.ownC 13 1 4209 1 none]:=⟨⟩
instance Wq_readers_Who {d_:GDirectory} {a_:GEstate} {place_ t_:Int}:WI (F_12 d_ a_ place_ t_) Tryz.prog 78 [GDirectory.v d_,GEstate.v a_,.int .i64 place_,.int .i64 t_] [] (fun z=>.tup [GAudience.v z.1,.int .i64 z.2]) (fun z=>[]):=⟨fun Q Q' h hQ=>by
 refine acallM mc_12 [.fzc 8] [] [.c 8 (some 2),.t 9] Tryz.func78 fun M=>?_
 unfold F_12 at h
 unfold mc_12
 exact tX⟩
def F_1t (d_:GDirectory) (a_:GEstate) (content_:Int):Option Int :=
 (F_e d_ a_).bind fun y4=>bif (!decide (y4=0)) then some y4 else (F_a content_).bind fun y8=>bif (!y8) then some 2 else some 0
def mc_1t:MC :=
 (sR [mo (.box (.t 0)) 3,
 mo (.box (.t 1)) 4,
 oC 0 6]
 (.seq (sR [mo (.ld (some 2) (.t 3)) 8,
 mo (.ld (some 2) (.t 4)) 9,
 mo (.call (.f 121) [(.t 8),(.t 9)] [] []) 10,
 oV 10 7]
 (sR [oV 7 11,
 mo (.bin false .neq (.t 11) (cI 0)) 12]
 (.cond (.t 12)
 (sR [oV 7 13,
 oV 13 6]
 .ret)
 .skip)))
 (.seq (.seq (.note (.gc [2]) (.reg [oV 2 14,
 mo (.call (.f 125) [(.t 14)] [] []) 15,
 mo (.not (.t 15)) 16]))
 (.cond (.t 16)
 (sR [oC 2 6]
 .ret)
 .skip))
 (sR [oC 0 6]
 .ret))))
instance Wq_exposure_check {d_:GDirectory} {a_:GEstate} {content_:Int}:WI (F_1t d_ a_ content_) Tryz.prog 79 [GDirectory.v d_,GEstate.v a_,.int .i64 content_] [] (fun z=>.int .i64 z) (fun z=>[]):=⟨fun Q Q' h hQ=>by
 refine acallM mc_1t [] [] [.t 6] Tryz.func79 fun M=>?_
 unfold F_1t at h
 unfold mc_1t
 exact tX⟩
def F_2a (k20:Int) (a21:GAccess) (x19:List Int):Option (List Int) :=
 chk (room (x19.length+[a21.Time].length) 8) (some (x19++[a21.Time]))
def F_1u (a_:GEstate):Option (List Int) :=
 (F_3 a_).bind fun y4=>bif (!decide (y4=0)) then some [] else (foldL F_2a a_.Events 0 []).bind fun x22=>(compactI x22).bind fun y24=>some ((y24.2.drop 0).take y24.1)
@[irreducible] def mc_2a:MC :=
 (sR [mo (.bin false .lss (.t 12) (.t 11)) 13]
 (.seq (.cond (.t 13)
 .skip
 (.exit 0))
 (.seq (.block 1
 (sR [mo (.iad 7 (.t 10) (.t 12)) 14,
 mo (.ld (some 7) (.t 14)) 15,
 mo (.alloc [(.int .i64 0),(.int .i64 0),(.int .i64 0),(.int .i64 0),(.int .i64 0),(.int .i64 0),(.int .i64 0)]) 5,
 ⟨.st 7 (.t 5) (.t 15),none,none⟩]
 (.reg [oV 3 16,
 oF 0 5 17,
 oL 17 18,
 mo (.bslice 1 [(.t 18)]) 19,
 mo (.app 1 8 (.t 16) (.t 19)) 20,
 oV 20 3])))
 (.reg [mo (.bin true .add (.t 12) (cI 1)) 21,
 oV 21 12]))))
def mc_1u:MC :=
 (sR [mo (.box (.t 0)) 1,
 mo (.mv (.c .nils)) 2]
 (.seq (sR [mo (.ld (some 2) (.t 1)) 6,
 mo (.call (.f 50) [(.t 6)] [] []) 7,
 mo (.bin false .neq (.t 7) (cI 0)) 8]
 (.cond (.t 8)
 (sR [mo (.mv (.c .nils)) 2]
 .ret)
 .skip))
 (sR [mo (.mv (.c .nils)) 3]
 (.seq (sR [oF 1 1 9,
 oL 9 10,
 mo (.len false (.t 10)) 11,
 oC 0 12]
 (.block 0
 (.loop mc_2a)))
 (sR [oV 3 22,
 mo (.call (.f 157) [(.t 22)] [2003] []) 23,
 oV 23 2]
 .ret)))))
instance Wq_access_Times {a_:GEstate}:WI (F_1u a_) Tryz.prog 155 [GEstate.v a_] [] (fun z=>.osl 1900 1 0 z.length) (fun z=>[(1900,.arr 1 (z.map (V.int .i64)))]):=⟨fun Q Q' h hQ=>by
 refine acallM mc_1u [.gc [2],.trim 2,.acc 2 1900 1] [1900] [.t 2] Tryz.func155 fun M=>?_
 unfold F_1u at h
 unfold mc_1u
 replace h:=tY h
 refine tB ?_
 repeat' (first
 | (exact tZ)
 | (refine And.intro (by refine ⟨?_,?_,?_,?_⟩<;>omega) ?_;first|exact hQ _ h|(rw [List.take_of_length_le (by omega)];exact hQ _ h))
 | (rw [←hlen];exact hQ _ h)
 | (have hq:=hQ _ h;simp only [List.length_take,Nat.min_eq_left hlen.1] at hq;exact hq)
 | ((first|refine oblg h ?_|refine roomG h ?_|refine inbG h ?_|refine incG h ?_|refine divG h ?_|refine appG h ?_|refine appC h ?_|refine fork h ?_ ?_|refine forkS h ?_ ?_)<;>clear h<;>intro hc h)
 | (obtain ⟨y,hy,h⟩:=h;(first|(have hw:=acall_swe 1000 2003 (W_4h hy);replace hw:=tY hw;(try simp only [hlen] at hw);have hlen:=compactI_len hy)|have hw:=WI.w hy);replace hw:=tY hw;(first|refine M.sC hw ?_|refine M.sD hw ?_);clear hw hy;refine tB ?_)
 | (refine M.fold1 (b:=mc_2a) 12 [10,11] [] (fun x=>[(3,.osl 2003 1 0 x.length)]) (fun x=>[.o 2003 (.arr 1 (x.map (V.int .i64)))]) [.gc [3,10,11,12],.acc 3 2003 1] h ?_ ?_ ?_<;>first
 | (clear h;intro k a x Qn K hK1 hkN1 ha1 h hf;have hl:=fact_int (factsE_find (n:=11) hf.1 rfl);clear hf;have hkd:=kD hkN1;have hkB1:=kB hkN1;have hkI1:=kI (k:=k) (by omega);(try simp only [hlen] at hkd hkB1 hkN1);unfold F_2a at h;unfold mc_2a;replace h:=tY h;refine tK ha1 hkd hkN1 hkB1 hkI1 ?_)
  |(clear h;intro x K h;replace h:=And.left (And.intro h trivial);(try simp only [hlen]);unfold mc_2a;replace h:=tY h;refine tB ?_)
  |(clear h;(try refine tB ?_);exact tU0;done))
 | (simp only [ha1])
 | (refine hK1 _ ?_;(try refine tB ?_);refine ⟨_,h,?_⟩;exact tU0;done)
 | (refine tE ?_;(first|rw [M.lok_compU]|rw [M.lokD_compU]);refine tB ?_)
 | (refine tA ?_)
 | fail)⟩
def F_13 (k18:Int) (a19:GMember) (x17:List Int):Option (List Int) :=
 chk (room (x17.length+[a19.Time].length) 8) (some (x17++[a19.Time]))
def F_14 (d_:GDirectory) (a_:GEstate):Option (List Int) :=
 (F_1u a_).bind fun y2=>(foldL F_13 d_.Events 0 y2).bind fun x20=>(sortI x20).bind fun y22=>(compactI y22).bind fun y24=>some ((y24.2.drop 0).take y24.1)
@[irreducible] def mc_13:MC :=
 (sR [mo (.bin false .lss (.t 13) (.t 12)) 14]
 (.seq (.cond (.t 14)
 .skip
 (.exit 0))
 (.seq (.block 1
 (sR [mo (.iad 4 (.t 11) (.t 13)) 15,
 mo (.ld (some 4) (.t 15)) 16,
 mo (.alloc [(.int .i64 0),(.int .i64 0),(.int .i64 0),(.int .i64 0)]) 7,
 ⟨.st 4 (.t 7) (.t 16),none,none⟩]
 (.reg [oV 5 17,
 oF 0 7 18,
 oL 18 19,
 mo (.bslice 1 [(.t 19)]) 20,
 mo (.app 1 8 (.t 17) (.t 20)) 21,
 oV 21 5])))
 (.reg [mo (.bin true .add (.t 13) (cI 1)) 22,
 oV 22 13]))))
def mc_14:MC :=
 (sR [mo (.box (.t 0)) 2,
 mo (.box (.t 1)) 3,
 mo (.mv (.c (.sl []))) 4]
 (sR [mo (.ld (some 2) (.t 3)) 8,
 mo (.call (.f 155) [(.t 8)] [] [9]) 9,
 oV 9 5]
 (.seq (sR [oF 1 2 10,
 oL 10 11,
 mo (.len false (.t 11)) 12,
 oC 0 13]
 (.block 0
 (.loop mc_13)))
 (sR [oV 5 23,
 mo (.call (.f 156) [(.t 23)] [2005] []) 24]
 (sR [oV 5 25,
 mo (.call (.f 157) [(.t 25)] [2005] []) 26,
 oV 26 4]
 .ret)))))
instance Wq_exposure_times {d_:GDirectory} {a_:GEstate}:WI (F_14 d_ a_) Tryz.prog 126 [GDirectory.v d_,GEstate.v a_] [] (fun z=>.sl (z.map (V.int .i64))) (fun z=>[]):=⟨fun Q Q' h hQ=>by
 refine acallM mc_14 [.fz 4] [] [.t 4] Tryz.func126 fun M=>?_
 unfold F_14 at h
 unfold mc_14
 replace h:=tY h
 refine tB ?_
 repeat' (first
 | (exact tZ)
 | (refine And.intro (by refine ⟨?_,?_,?_,?_⟩<;>omega) ?_;first|exact hQ _ h|(rw [List.take_of_length_le (by omega)];exact hQ _ h))
 | (rw [←hlen];exact hQ _ h)
 | (have hq:=hQ _ h;simp only [List.length_take,Nat.min_eq_left hlen.1] at hq;exact hq)
 | ((first|refine oblg h ?_|refine roomG h ?_|refine inbG h ?_|refine incG h ?_|refine divG h ?_|refine appG h ?_|refine appC h ?_|refine fork h ?_ ?_|refine forkS h ?_ ?_)<;>clear h<;>intro hc h)
 | (obtain ⟨y,hy,h⟩:=h;(first|have hw:=acall_swe 1900 9 (Wq_access_Times.c.w hy)|(have hw:=acall_swe 1000 2005 (W_4g hy);replace hw:=tY hw;(try simp only [hlen] at hw);have hlen:=sortI_len hy)|(have hw:=acall_swe 1000 2005 (W_4h hy);replace hw:=tY hw;(try simp only [hlen] at hw);have hlen:=compactI_len hy));replace hw:=tY hw;(first|refine M.sC hw ?_|refine M.sD hw ?_);clear hw hy;refine tB ?_)
 | (refine M.fold1 (b:=mc_13) 13 [11,12] [] (fun x=>[(5,.osl 2005 1 0 x.length)]) (fun x=>[.o 2005 (.arr 1 (x.map (V.int .i64)))]) [.gc [5,11,12,13],.acc 5 2005 1] h ?_ ?_ ?_<;>first
 | (clear h;intro k a x Qn K hK1 hkN1 ha1 h hf;have hl:=fact_int (factsE_find (n:=12) hf.1 rfl);clear hf;have hkd:=kD hkN1;have hkB1:=kB hkN1;have hkI1:=kI (k:=k) (by omega);(try simp only [hlen] at hkd hkB1 hkN1);unfold F_13 at h;unfold mc_13;replace h:=tY h;refine tK ha1 hkd hkN1 hkB1 hkI1 ?_)
  |(clear h;intro x K h;replace h:=And.left (And.intro h trivial);(try simp only [hlen]);unfold mc_13;replace h:=tY h;refine tB ?_)
  |(clear h;(try refine tB ?_);exact tU0;done))
 | (simp only [ha1])
 | (refine hK1 _ ?_;(try refine tB ?_);refine ⟨_,h,?_⟩;exact tU0;done)
 | (refine tE ?_;(first|rw [M.lok_compU]|rw [M.lokD_compU]);refine tB ?_)
 | (refine tA ?_)
 | fail)⟩
def F_15 (content_:Int):Option Int :=
 chk (shok content_ 64) (some (IntKind.wrap .u64 (1*2^(content_).toNat)))
def mc_15:MC :=
 (sR [mo (.mv (.c (.int .u64 0))) 2]
 (sR [oV 0 3,
 mo (.bin false .shl (.c (.int .u64 1)) (.t 3)) 4,
 oV 4 2]
 .ret))
instance Wq_copies_bit {content_:Int}:WI (F_15 content_) Tryz.prog 195 [.int .i64 content_] [] (fun z=>.int .u64 z) (fun z=>[]):=⟨fun Q Q' h hQ=>by
 refine acallM mc_15 [] [] [.t 2] Tryz.func195 fun M=>?_
 unfold F_15 at h
 unfold mc_15
 exact tX⟩
def F_16 (s_:List Int) (x_:GAccess):Option (List Int) :=
 bif decide (x_.Kind=5) then chk (inb x_.Place s_.length) ((F_15 x_.Content).bind fun y1=>chk (inb x_.Place s_.length) (some (s_.set ((x_.Place).toNat) (bits .or .u64 (s_.getD ((x_.Place).toNat) default) y1)))) else bif decide (x_.Kind=6) then chk (inb x_.Place s_.length) ((F_15 x_.Content).bind fun y2=>chk (inb x_.Place s_.length) (some (s_.set ((x_.Place).toNat) (bits .andNot .u64 (s_.getD ((x_.Place).toNat) default) y2)))) else bif decide (x_.Kind=7) then chk (inb x_.Place s_.length) (chk (inb x_.From s_.length) (chk (inb x_.Place s_.length) (some (s_.set ((x_.Place).toNat) (bits .or .u64 (s_.getD ((x_.Place).toNat) default) (s_.getD ((x_.From).toNat) default)))))) else some s_
def mc_16:MC :=
 (sR [mo (.box (.t 1)) 3]
 (sR [oF 1 3 4,
 oL 4 5]
 (.block 0
 (sR [mo (.bin false .eql (.t 5) (cI 5)) 7,
 oV 7 6]
 (.cond (.t 6)
 (.regD [oV 0 8,
 oF 2 3 9,
 oL 9 10,
 mo (.iad 1 (.t 8) (.t 10)) 11,
 oL 11 12,
 oF 5 3 13,
 oL 13 14,
 mo (.call (.f 195) [(.t 14)] [] []) 15,
 mo (.bin false .or (.t 12) (.t 15)) 16,
 mo (.iad 1 (.t 8) (.t 10)) 17,
 ⟨.st 1 (.t 17) (.t 16),none,none⟩]
 [[],[],[1],[0,2],[3],[],[5],[6],[4,7],[0,2,0,1,2,3,4,5,6,7,8],[9,8,7,0,1,2,3,4,5,6,7,8]]
 [[],[],[1],[0,1,2],[0,1,2,3],[],[5],[5,6],[0,1,2,3,4,5,6,7],[0,1,2,3,4,5,6,7,8],[0,1,2,3,4,5,6,7,8,9]])
 (sR [mo (.bin false .eql (.t 5) (cI 6)) 19,
 oV 19 18]
 (.cond (.t 18)
 (.regD [oV 0 20,
 oF 2 3 21,
 oL 21 22,
 mo (.iad 1 (.t 20) (.t 22)) 23,
 oL 23 24,
 oF 5 3 25,
 oL 25 26,
 mo (.call (.f 195) [(.t 26)] [] []) 27,
 mo (.bin false .andNot (.t 24) (.t 27)) 28,
 mo (.iad 1 (.t 20) (.t 22)) 29,
 ⟨.st 1 (.t 29) (.t 28),none,none⟩]
 [[],[],[1],[0,2],[3],[],[5],[6],[4,7],[0,2,0,1,2,3,4,5,6,7,8],[9,8,7,0,1,2,3,4,5,6,7,8]]
 [[],[],[1],[0,1,2],[0,1,2,3],[],[5],[5,6],[0,1,2,3,4,5,6,7],[0,1,2,3,4,5,6,7,8],[0,1,2,3,4,5,6,7,8,9]])
 (sR [mo (.bin false .eql (.t 5) (cI 7)) 31,
 oV 31 30]
 (.cond (.t 30)
 (.note (.gc [0,3]) (.regD [oV 0 32,
 oF 2 3 33,
 oL 33 34,
 mo (.iad 1 (.t 32) (.t 34)) 35,
 oL 35 36,
 oV 0 37,
 oF 6 3 38,
 oL 38 39,
 mo (.iad 1 (.t 37) (.t 39)) 40,
 oL 40 41,
 mo (.bin false .or (.t 36) (.t 41)) 42,
 mo (.iad 1 (.t 32) (.t 34)) 43,
 ⟨.st 1 (.t 43) (.t 42),none,none⟩]
 [[],[],[1],[0,2],[3],[],[],[6],[5,7],[8],[4,9],[0,2,0,1,2,3,4,5,6,7,8,9,10],[11,10,0,1,2,3,4,5,6,7,8,9,10]]
 [[],[],[1],[0,1,2],[0,1,2,3],[],[],[6],[5,6,7],[5,6,7,8],[0,1,2,3,4,5,6,7,8,9],[0,1,2,3,4,5,6,7,8,9,10],[0,1,2,3,4,5,6,7,8,9,10,11]]))
 .skip)))))))))
instance Wq_copies_state_happen {s_:List Int} {x_:GAccess}:WI (F_16 s_ x_) Tryz.prog 230 [.osl 1000 1 0 s_.length,GAccess.v x_] [(1000,.arr 1 (s_.map (V.int .u64)))] (fun z=>.tup []) (fun z=>[(1000,.arr 1 (z.map (V.int .u64)))]):=⟨fun Q Q' h hQ=>by
 refine acallM mc_16 [] [1000] [] Tryz.func230 fun M=>?_
 unfold F_16 at h
 unfold mc_16
 exact tX⟩
theorem F_5u {s_:List Int} {x_:GAccess} {y:List Int} (h:(F_16 s_ x_)=some y):y.length=s_.length:=by
 simp only [F_16,chk,cond_eq_ite,Option.bind_eq_some_iff] at h
 repeat' (first|(split at h)|(simp only [Option.bind_eq_some_iff] at h)|(obtain ⟨_,_,h⟩:=h)|(cases h;done)|(obtain rfl:=Option.some.inj h;simp;done)|(simp;done)|(subst h;simp;done))
def F_2b (t_:Int) (k30:Int) (a31:GAccess) (x29:List Int):Option (List Int) :=
 bif decide (a31.Time≤t_) then (F_16 x29 a31).bind fun y35=>some y35 else some x29
def F_2c (a_:GEstate) (t_:Int):Option (List Int) :=
 chk (roomI a_.Places a_.Places 8) ((foldL (F_2b t_) a_.Events 0 (List.replicate (a_.Places).toNat 0)).bind fun x36=>some x36)
@[irreducible] def mc_2b:MC :=
 (sR [mo (.bin false .lss (.t 14) (.t 13)) 15]
 (.seq (.cond (.t 15)
 .skip
 (.exit 0))
 (.seq (.block 1
 (sR [mo (.iad 7 (.t 12) (.t 14)) 16,
 mo (.ld (some 7) (.t 16)) 17,
 mo (.alloc [(.int .i64 0),(.int .i64 0),(.int .i64 0),(.int .i64 0),(.int .i64 0),(.int .i64 0),(.int .i64 0)]) 7,
 ⟨.st 7 (.t 7) (.t 17),none,none⟩]
 (sR [oF 0 7 18,
 oL 18 19,
 oV 1 20,
 mo (.bin false .leq (.t 19) (.t 20)) 21]
 (.cond (.t 21)
 (.reg [oV 5 22,
 mo (.ld (some 7) (.t 7)) 23,
 mo (.call (.f 230) [(.t 22),(.t 23)] [10] []) 24])
 .skip))))
 (.reg [mo (.bin true .add (.t 14) (cI 1)) 25,
 oV 25 14]))))
def mc_2c:MC :=
 (sR [mo (.box (.t 0)) 2,
 mo (.mv (.c (.sl []))) 4]
 (sR [oF 0 2 8,
 oL 8 9,
 mo (.mksl 1 8 (.int .u64 0) (.t 9) (.t 9)) 10,
 oV 10 5]
 (.seq (sR [oF 1 2 11,
 oL 11 12,
 mo (.len false (.t 12)) 13,
 oC 0 14]
 (.block 0
 (.loop mc_2b)))
 (sR [oV 5 26,
 oV 26 4]
 .ret))))
instance Wq_copies_at {a_:GEstate} {t_:Int}:WI (F_2c a_ t_) Tryz.prog 194 [GEstate.v a_,.int .i64 t_] [] (fun z=>.sl (z.map (V.int .u64))) (fun z=>[]):=⟨fun Q Q' h hQ=>by
 refine acallM mc_2c [.fz 4] [] [.t 4] Tryz.func194 fun M=>?_
 unfold F_2c at h
 unfold mc_2c
 replace h:=tY h
 refine tB ?_
 repeat' (first
 | (exact tZ)
 | ((first|refine oblg h ?_|refine roomG h ?_|refine inbG h ?_|refine incG h ?_|refine divG h ?_|refine appG h ?_|refine appC h ?_|refine fork h ?_ ?_|refine forkS h ?_ ?_)<;>clear h<;>intro hc h)
 | (obtain ⟨y,hy,h⟩:=h;(have hw:=acall_swe 1000 10 (Wq_copies_state_happen.c.w hy);replace hw:=tY hw;have hlen:=F_5u hy);replace hw:=tY hw;(first|refine M.sC hw ?_|refine M.sD hw ?_);clear hw hy;refine tB ?_)
 | (refine M.fold1 (b:=mc_2b) 14 [1,12,13] [] (fun x=>[(5,.osl 10 1 0 x.length)]) (fun x=>[.o 10 (.arr 1 (x.map (V.int .u64)))]) [] h ?_ ?_ ?_<;>first
 | (clear h;intro k a x Qn K hK1 hkN1 ha1 h hf;have hl:=fact_int (factsE_find (n:=13) hf.1 rfl);clear hf;have hkd:=kD hkN1;have hkB1:=kB hkN1;have hkI1:=kI (k:=k) (by omega);(try simp only [hlen] at hkd hkB1 hkN1);unfold F_2b at h;unfold mc_2b;replace h:=tY h;refine tK ha1 hkd hkN1 hkB1 hkI1 ?_)
  |(clear h;intro x K h;replace h:=And.left (And.intro h trivial);(try simp only [hlen]);unfold mc_2b;replace h:=tY h;refine tB ?_)
  |(clear h;(try refine tB ?_);exact tU;done))
 | (simp only [ha1])
 | (refine hK1 _ ?_;(try refine tB ?_);refine ⟨_,h,?_⟩;exact tU;done)
 | (refine tE ?_;(first|rw [M.lok_compU]|rw [M.lokD_compU]);refine tB ?_)
 | (refine tA ?_)
 | fail)⟩
def F_3g (content_:Int) (k56:Int) (a57:Int) (x55:List Int):Option (List Int) :=
 (F_15 content_).bind fun y65=>bif (!decide ((bits .and .u64 a57 y65)=0)) then chk (room (x55.length+[k56].length) 8) (some (x55++[k56])) else some x55
def F_p (a_:GEstate) (content_:Int) (t_:Int):Option (List Int) :=
 (F_3 a_).bind fun y7=>bif (!decide (y7=0)) then some [] else (F_a content_).bind fun y8=>bif (!y8) then some [] else (F_2c a_ t_).bind fun y37=>(foldL (F_3g content_) y37 0 []).bind fun x66=>some x66
@[irreducible] def mc_3g:MC :=
 (sR [mo (.bin false .lss (.t 22) (.t 21)) 23]
 (.seq (.cond (.t 23)
 .skip
 (.exit 0))
 (.seq (.block 1
 (sR [oV 22 24,
 mo (.iad 1 (.t 20) (.t 22)) 25,
 oL 25 26,
 oV 24 8,
 oV 26 9]
 (sR [oV 9 27,
 oV 1 28,
 mo (.call (.f 195) [(.t 28)] [] []) 29,
 mo (.bin false .and (.t 27) (.t 29)) 30,
 mo (.bin false .neq (.t 30) (.c (.int .u64 0))) 31]
 (.cond (.t 31)
 (.note (.gc [1,7,8,20,21,22]) (.reg [oV 7 32,
 oV 8 33,
 mo (.bslice 1 [(.t 33)]) 34,
 mo (.app 1 8 (.t 32) (.t 34)) 35,
 oV 35 7]))
 .skip))))
 (.reg [mo (.bin true .add (.t 22) (cI 1)) 36,
 oV 36 22]))))
def mc_p:MC :=
 (sR [mo (.box (.t 0)) 3,
 mo (.mv (.c (.sl []))) 6]
 (.seq (sR [mo (.ld (some 2) (.t 3)) 10,
 mo (.call (.f 50) [(.t 10)] [] []) 11,
 mo (.bin false .neq (.t 11) (cI 0)) 12,
 oV 12 13,
 gF 13 14 (.mv (.t 1)),
 gF 13 15 (.call (.f 125) [(.t 14)] [] []),
 gF 13 16 (.not (.t 15)),
 mo (.pick (.t 13) (.c (.bool true)) (.t 16)) 17]
 (.cond (.t 17)
 (sR [mo (.mv (.c (.sl []))) 6]
 .ret)
 .skip))
 (sR [mo (.mv (.c .nils)) 7]
 (.seq (.seq (.note (.gc [1,2,3,7]) (.reg [mo (.ld (some 2) (.t 3)) 18,
 oV 2 19,
 mo (.call (.f 194) [(.t 18),(.t 19)] [] []) 20,
 mo (.len false (.t 20)) 21,
 oC 0 22]))
 (.block 0
 (.loop mc_3g)))
 (sR [oV 7 37,
 oV 37 6]
 .ret)))))
attribute [go_sem] F_3g
instance:LI mc_3g 22 21 [1,20,21] [] (fun y:List Int=>[(7,.osl 2007 1 0 y.length)]) (fun y=>[.o 2007 (.arr 1 (y.map (V.int .i64)))]) [.gc [1,7,20,21,22],.acc 7 2007 1]:=⟨⟩
instance Wq_copies_Where {a_:GEstate} {content_ t_:Int}:WI (F_p a_ content_ t_) Tryz.prog 158 [GEstate.v a_,.int .i64 content_,.int .i64 t_] [] (fun z=>.sl (z.map (V.int .i64))) (fun z=>[]):=⟨fun Q Q' h hQ=>by
 refine acallM mc_p [.fz 6] [] [.t 6] Tryz.func158 fun M=>?_
 unfold F_p at h
 unfold mc_p
 exact tX⟩
noncomputable def F_1v (d_:GDirectory) (a_:GEstate) (p_:Int) (t_:Int) (k75:Int) (a76:Int) (x74:Unit):Option (Fl Unit (Int×Bool)) :=
 (F_c a_ a76 t_).bind fun y96=>grp ((decide (p_=(-1))&&y96.2)) fun b99=>bif b99 then some (.ex (a76,true)) else bif (!decide (p_=(-1))) then (F_o d_ a_ p_ a76 t_).bind fun y100=>bif y100 then some (.ex (a76,true)) else some (.nx ()) else some (.nx ())
noncomputable def F_17 (d_:GDirectory) (a_:GEstate) (content_:Int) (p_:Int) (t_:Int):Option (Int×Bool) :=
 (F_p a_ content_ t_).bind fun y47=>(forL (F_1v d_ a_ p_ t_) y47 0 ()).bind fun o=>o.elim (fun x101=>some (0,false)) (fun r102=>some r102)
@[irreducible] def mg_57:List MOp:=[gT 34 35 (.mv (.t 15)),
 mo (.pick (.t 34) (.t 35) (.c (.bool false))) 36]
@[irreducible] def mc_1v:MC :=
 (sR [mo (.bin false .lss (.t 21) (.t 20)) 22]
 (.seq (.cond (.t 22)
 .skip
 (.exit 0))
 (.seq (.block 1
 (sR [mo (.iad 1 (.t 19) (.t 21)) 23,
 oL 23 24,
 oV 24 13]
 (sR [mo (.ld (some 2) (.t 6)) 26,
 oV 13 27,
 oV 4 28,
 mo (.call (.f 123) [(.t 26),(.t 27),(.t 28)] [] []) 29,
 oV 29 25,
 mo (.ext 0 (.t 25)) 30,
 mo (.ext 1 (.t 25)) 31,
 oV 30 14,
 oV 31 15]
 (.seq (.note (.gc [3,4,5,6,13,15,19,20,21,35,38,39,40,41,42,43,44,45,46,47]) (.regI [.op (oV 3 32),
 .op (mo (.bin false .eql (.t 32) (cI (-1))) 33),
 .op (oV 33 34),
 .grp mg_57,
 .op (oV 36 37),
 .op (gF 37 38 (.mv (.t 3))),
 .op (gF 37 39 (.bin false .neq (.t 38) (cI (-1)))),
 .op (gF 37 40 (.mv (.t 39))),
 .op (gT 40 41 (.ld (some 2) (.t 5))),
 .op (gT 40 42 (.ld (some 2) (.t 6))),
 .op (gT 40 43 (.mv (.t 3))),
 .op (gT 40 44 (.mv (.t 13))),
 .op (gT 40 45 (.mv (.t 4))),
 .op (gT 40 46 (.call (.f 124) [(.t 41),(.t 42),(.t 43),(.t 44),(.t 45)] [] [])),
 .op (gF 37 47 (.pick (.t 40) (.t 46) (.c (.bool false)))),
 .op (mo (.pick (.t 37) (.c (.bool true)) (.t 47)) 48)]))
 (.cond (.t 48)
 (.seq (.note (.gc [13]) (.reg [oV 13 49,
 oV 49 10,
 mo (.mv (.c (.bool true))) 11]))
 .ret)
 .skip)))))
 (.reg [mo (.bin true .add (.t 21) (cI 1)) 50,
 oV 50 21]))))
def mc_17:MC :=
 (sR [mo (.box (.t 0)) 5,
 mo (.box (.t 1)) 6,
 oC 0 10,
 mo (.mv (.c (.bool false))) 11]
 (.seq (sR [mo (.ld (some 2) (.t 6)) 16,
 oV 2 17,
 oV 4 18,
 mo (.call (.f 158) [(.t 16),(.t 17),(.t 18)] [] []) 19,
 mo (.len false (.t 19)) 20,
 oC 0 21]
 (.block 0
 (.loop mc_1v)))
 (sR [oC 0 10,
 mo (.mv (.c (.bool false))) 11]
 .ret)))
attribute [go_sem] F_1v
instance:GV mg_57 36 [35]:=⟨⟩
instance:LI mc_1v 21 20 [3,4,5,6,19,20] [6,5] (fun y:Unit=>[]) (fun y=>[]) []:=⟨⟩
instance Wq_exposure_place {d_:GDirectory} {a_:GEstate} {content_ p_ t_:Int}:WI (F_17 d_ a_ content_ p_ t_) Tryz.prog 127 [GDirectory.v d_,GEstate.v a_,.int .i64 content_,.int .i64 p_,.int .i64 t_] [] (fun z=>.tup [.int .i64 z.1,.bool z.2]) (fun z=>[]):=⟨fun Q Q' h hQ=>by
 refine acallM mc_17 [] [] [.t 10,.t 11] Tryz.func127 fun M=>?_
 unfold F_17 at h
 unfold mc_17
 exact tX⟩
noncomputable def F_2d (d_:GDirectory) (a_:GEstate) (content_:Int) (p_:Int) (k35:Int) (a36:Int) (x34:Unit):Option (Fl Unit (Int×Bool)) :=
 (F_17 d_ a_ content_ p_ a36).bind fun y44=>bif y44.2 then some (.ex (a36,true)) else some (.nx ())
noncomputable def F_18 (d_:GDirectory) (a_:GEstate) (content_:Int) (p_:Int):Option (Int×Bool) :=
 (F_14 d_ a_).bind fun y23=>(forL (F_2d d_ a_ content_ p_) y23 0 ()).bind fun o=>o.elim (fun x45=>some (0,false)) (fun r46=>some r46)
@[irreducible] def mc_2d:MC :=
 (sR [mo (.bin false .lss (.t 18) (.t 17)) 19]
 (.seq (.cond (.t 19)
 .skip
 (.exit 0))
 (.seq (.block 1
 (sR [mo (.iad 1 (.t 16) (.t 18)) 20,
 oL 20 21,
 oV 21 11]
 (sR [mo (.ld (some 2) (.t 4)) 23,
 mo (.ld (some 2) (.t 5)) 24,
 oV 2 25,
 oV 3 26,
 oV 11 27,
 mo (.call (.f 127) [(.t 23),(.t 24),(.t 25),(.t 26),(.t 27)] [] []) 28,
 oV 28 22,
 mo (.ext 0 (.t 22)) 29,
 mo (.ext 1 (.t 22)) 30,
 oV 29 12,
 oV 30 13]
 (sR [oV 13 31]
 (.cond (.t 31)
 (.seq (.note (.gc [11]) (.reg [oV 11 32,
 oV 32 8,
 mo (.mv (.c (.bool true))) 9]))
 .ret)
 .skip)))))
 (.reg [mo (.bin true .add (.t 18) (cI 1)) 33,
 oV 33 18]))))
def mc_18:MC :=
 (sR [mo (.box (.t 0)) 4,
 mo (.box (.t 1)) 5,
 oC 0 8,
 mo (.mv (.c (.bool false))) 9]
 (.seq (sR [mo (.ld (some 2) (.t 4)) 14,
 mo (.ld (some 2) (.t 5)) 15,
 mo (.call (.f 126) [(.t 14),(.t 15)] [] []) 16,
 mo (.len false (.t 16)) 17,
 oC 0 18]
 (.block 0
 (.loop mc_2d)))
 (sR [oC 0 8,
 mo (.mv (.c (.bool false))) 9]
 .ret)))
attribute [go_sem] F_2d
instance:LI mc_2d 18 17 [2,3,4,5,16,17] [5,4] (fun y:Unit=>[]) (fun y=>[]) []:=⟨⟩
instance Wq_exposure_since {d_:GDirectory} {a_:GEstate} {content_ p_:Int}:WI (F_18 d_ a_ content_ p_) Tryz.prog 80 [GDirectory.v d_,GEstate.v a_,.int .i64 content_,.int .i64 p_] [] (fun z=>.tup [.int .i64 z.1,.bool z.2]) (fun z=>[]):=⟨fun Q Q' h hQ=>by
 refine acallM mc_18 [] [] [.t 8,.t 9] Tryz.func80 fun M=>?_
 unfold F_18 at h
 unfold mc_18
 exact tX⟩
noncomputable def F_q (d_:GDirectory) (a_:GEstate) (content_:Int) (p_:Int):Option (Int×Bool) :=
 (F_1t d_ a_ content_).bind fun y4=>bif (!decide (y4=0)) then some (0,false) else (F_18 d_ a_ content_ p_).bind fun y6=>some (y6.1,y6.2)
def mc_q:MC :=
 (sR [mo (.box (.t 0)) 4,
 mo (.box (.t 1)) 5,
 oC 0 8,
 mo (.mv (.c (.bool false))) 9]
 (.seq (sR [mo (.ld (some 2) (.t 4)) 10,
 mo (.ld (some 2) (.t 5)) 11,
 oV 2 12,
 mo (.call (.f 79) [(.t 10),(.t 11),(.t 12)] [] []) 13,
 mo (.bin false .neq (.t 13) (cI 0)) 14]
 (.cond (.t 14)
 (sR [oC 0 8,
 mo (.mv (.c (.bool false))) 9]
 .ret)
 .skip))
 (.seq (.note (.gc [2,3,4,5]) (.reg [mo (.ld (some 2) (.t 4)) 15,
 mo (.ld (some 2) (.t 5)) 16,
 oV 2 17,
 oV 3 18,
 mo (.call (.f 80) [(.t 15),(.t 16),(.t 17),(.t 18)] [] []) 19,
 mo (.ext 0 (.t 19)) 20,
 mo (.ext 1 (.t 19)) 21,
 oV 20 8,
 oV 21 9]))
 .ret)))
instance Wq_exposure_Since {d_:GDirectory} {a_:GEstate} {content_ p_:Int}:WI (F_q d_ a_ content_ p_) Tryz.prog 31 [GDirectory.v d_,GEstate.v a_,.int .i64 content_,.int .i64 p_] [] (fun z=>.tup [.int .i64 z.1,.bool z.2]) (fun z=>[]):=⟨fun Q Q' h hQ=>by
 refine acallM mc_q [] [] [.t 8,.t 9] Tryz.func31 fun M=>?_
 unfold F_q at h
 unfold mc_q
 exact tX⟩
end Go.Ab
