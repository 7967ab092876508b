/- What the functions of this seat that lie on the laws' road compute (part LT), each for every input. By AI agents. -/
import Derived.Test.YtkochjkempnagaaGreatDoorProg
import Derived.KernelRfl
import Derived.Test.YtkochjkempnagaaGreatDoorAbRun
import Derived.Test.YtkochjkempnagaaGreatDoorSL
import Derived.Test.YtkochjkempnagaaGreatDoorXM
set_option linter.all false
set_option linter.all false
set_option maxRecDepth 20000
set_option maxHeartbeats 2000000
namespace Go.Ab
open Go.Proofs
structure GCommand where
 Kind:Int
 Name:Str
 Other:Str
 Time:Int
 A:Int
 B:Int
instance:Inhabited GCommand:=⟨⟨default,default,default,default,default,default⟩⟩
def GCommand.v (x:GCommand):V:=.agg [.int .i64 x.Kind,.str x.Name,.str x.Other,.int .i64 x.Time,.int .i64 x.A,.int .i64 x.B]
structure Gfield where
 name_:Option Nat
 n_:Option Nat
 many_:Int
instance:Inhabited Gfield:=⟨⟨default,default,default⟩⟩
def Gfield.v (x:Gfield):V:=.agg [fnV x.name_,fnV x.n_,.int .i64 x.many_]
structure Gform where
 word_:Str
 fields_:List Gfield
instance:Inhabited Gform:=⟨⟨default,default⟩⟩
def Gform.v (x:Gform):V:=.agg [.str x.word_,.sl (x.fields_.map Gfield.v)]
structure GMember where
 Time:Int
 Kind:Int
 Principal:Int
 Group:Int
instance:Inhabited GMember:=⟨⟨default,default,default,default⟩⟩
def GMember.v (x:GMember):V:=.agg [.int .i64 x.Time,.int .i64 x.Kind,.int .i64 x.Principal,.int .i64 x.Group]
structure GDirectory where
 Kinds:List Int
 Events:List GMember
instance:Inhabited GDirectory:=⟨⟨default,default⟩⟩
def GDirectory.v (x:GDirectory):V:=.agg [.sl (x.Kinds.map (V.int .i64)),.sl (x.Events.map GMember.v)]
structure GAccess where
 Time:Int
 Kind:Int
 Place:Int
 Principal:Int
 Until:Int
 Content:Int
 From:Int
instance:Inhabited GAccess:=⟨⟨default,default,default,default,default,default,default⟩⟩
def GAccess.v (x:GAccess):V:=.agg [.int .i64 x.Time,.int .i64 x.Kind,.int .i64 x.Place,.int .i64 x.Principal,.int .i64 x.Until,.int .i64 x.Content,.int .i64 x.From]
structure GEstate where
 Places:Int
 Events:List GAccess
instance:Inhabited GEstate:=⟨⟨default,default⟩⟩
def GEstate.v (x:GEstate):V:=.agg [.int .i64 x.Places,.sl (x.Events.map GAccess.v)]
structure GAudience where
 Public:Bool
 Principals:List Int
instance:Inhabited GAudience:=⟨⟨default,default⟩⟩
def GAudience.v (x:GAudience):V:=.agg [.bool x.Public,.sl (x.Principals.map (V.int .i64))]
structure GTape where
 L:List Int
 at_:Int
instance:Inhabited GTape:=⟨⟨default,default⟩⟩
def GTape.v (x:GTape):V:=.agg [.sl (x.L.map (V.int .i64)),.int .i64 x.at_]
structure GCalendar where
 Day:Int
 From:Int
 To:Int
 Week:Int
 Holidays:List Int
instance:Inhabited GCalendar:=⟨⟨default,default,default,default,default⟩⟩
def GCalendar.v (x:GCalendar):V:=.agg [.int .i64 x.Day,.int .i64 x.From,.int .i64 x.To,.int .i64 x.Week,.sl (x.Holidays.map (V.int .i64))]
structure GSteward where
 Time:Int
 Subject:Int
 Steward:Int
instance:Inhabited GSteward:=⟨⟨default,default,default⟩⟩
def GSteward.v (x:GSteward):V:=.agg [.int .i64 x.Time,.int .i64 x.Subject,.int .i64 x.Steward]
structure GCase where
 Time:Int
 Kind:Int
 Case:Int
 Level:Int
 Owner:Int
instance:Inhabited GCase:=⟨⟨default,default,default,default,default⟩⟩
def GCase.v (x:GCase):V:=.agg [.int .i64 x.Time,.int .i64 x.Kind,.int .i64 x.Case,.int .i64 x.Level,.int .i64 x.Owner]
structure GNotice where
 Time:Int
 Case:Int
 To:Int
 Step:Int
instance:Inhabited GNotice:=⟨⟨default,default,default,default⟩⟩
def GNotice.v (x:GNotice):V:=.agg [.int .i64 x.Time,.int .i64 x.Case,.int .i64 x.To,.int .i64 x.Step]
theorem dlt {a:Int}:decide (a<a)=false:=by simp
abbrev WJ {α:Type} (F:Option α) (n:Nat) (args:List V) (RV:α→V):Prop:=WI F Tryz.prog n args [] RV fun _=>[]
attribute [go_sem] Mach.b2s_set Mach.b2s_setD byte_x4 rngb_i32 rngb_u32 rngb_u64 rngb_i16 rngb_u16 byteV beq_self_eq_true Int.cast_ofNat_Int List.take_succ_cons List.take_zero xA xZ wB putPs pinH wrap_u8 rng64 inb_and inc_and room_and roomI_and divs_and shok_and64 rep_u rep_ll mget_i mget_s mput_i mput_s mdel_i mdel_s lk_b lk_i lk_s lk_l lkt_b' lkt_i' lkt_s' lkt_l' rep_b rep_i ovS ovE ovU patO filt filtH dropE stepNs atEndN shqs shq1 V.oids V.oidsL V.tr V.trL trE trH Obj'.tr true_implies false_implies xI Bool.true_eq_false dlt mpV slV Int.natCast_zero List.map_set kvV nxt_map erase_map V.sw V.swL swN swH sw_sl sw_int sw_bool sw_str sw_smap sw_byte Obj'.sw sw_arr sw_map byte_1 byte_2 List.set_set Mach.b2s_e Mach.b2s_eD toNat_ltb List.length_set List.length_replicate zP w7 bounds eqCells wA Option.map_none Fl_nx Fl_ex Sum_inl Sum_inr Ok_ite Ok_chk Ok_some Ok_bind Ok_none
theorem inbk_0 {n:Nat}:(inb 0 n=true)=(((0:Nat):Int)<(n:Int)):=propext (by rw [inb_iff];omega)
attribute [go_sem] inbk_0
theorem inbk_1 {n:Nat}:(inb 1 n=true)=(((1:Nat):Int)<(n:Int)):=propext (by rw [inb_iff];omega)
attribute [go_sem] inbk_1
theorem incl_0 {b:Int} {n:Nat}:(inc 0 b n=true)=(((0:Nat):Int)≤b∧b≤(n:Int)):=propext (by rw [inc_iff];omega)
attribute [go_sem] incl_0
theorem incl_1 {b:Int} {n:Nat}:(inc 1 b n=true)=(((1:Nat):Int)≤b∧b≤(n:Int)):=propext (by rw [inc_iff];omega)
attribute [go_sem] incl_1
attribute [go_sem] GAccess.v GAudience.v GCalendar.v GCase.v GCommand.v GDirectory.v GEstate.v GMember.v GNotice.v GSteward.v GTape.v Gfield.v Gform.v
end Go.Ab
set_option maxRecDepth 20000
set_option maxHeartbeats 2000000
namespace Go.Ab
open Go.Proofs
def F_14:Option Gfield := some (Gfield.mk none (some 145) 1000000)
instance Wq_14:WJ F_14 106 [] fun z=>Gfield.v z:=wX Tryz.func106 (h:=fun _ _ h hQ M=>by unfold F_14 at h;exact tX)
def F_1u:Option Gfield := some (Gfield.mk (some 146) none 0)
instance Wq_1u:WJ F_1u 107 [] fun z=>Gfield.v z:=wX Tryz.func107 (h:=fun _ _ h hQ M=>by unfold F_1u at h;exact tX)
def F_4o:Option Gfield := some (Gfield.mk (some 147) none 0)
instance Wq_4o:WJ F_4o 108 [] fun z=>Gfield.v z:=wX Tryz.func108 (h:=fun _ _ h hQ M=>by unfold F_4o at h;exact tX)
def F_15 (many_:Int):Option Gfield := some (Gfield.mk none (some 148) many_)
instance Wq_15 {many_:Int}:WJ (F_15 many_) 109 [.int .i64 many_] fun z=>Gfield.v z:=wX Tryz.func109 (h:=fun _ _ h hQ M=>by unfold F_15 at h;exact tX)
def F_35 (many_:Int):Option Gfield := some (Gfield.mk none (some 149) many_)
instance Wq_35 {many_:Int}:WJ (F_35 many_) 110 [.int .i64 many_] fun z=>Gfield.v z:=wX Tryz.func110 (h:=fun _ _ h hQ M=>by unfold F_35 at h;exact tX)
def F_1v:Option (List Gform) := F_14.bind fun y4=>F_1u.bind fun y5=>F_4o.bind fun y6=>F_14.bind fun y10=>F_1u.bind fun y11=>(F_15 16).bind fun y12=>F_1u.bind fun y28=>F_1u.bind fun y29=>F_14.bind fun y30=>(F_15 16).bind fun y31=>(F_35 1000000).bind fun y32=>F_14.bind fun y33=>(F_15 64).bind fun y34=>(F_35 16).bind fun y35=>F_14.bind fun y36=>(F_15 16).bind fun y37=>(F_35 16).bind fun y38=>F_14.bind fun y39=>(F_15 16).bind fun y40=>(F_15 64).bind fun y41=>F_1u.bind fun y42=>some [(Gform.mk [112,101,114,115,111,110] [y28]),(Gform.mk [103,114,111,117,112] [y29]),(Gform.mk [106,111,105,110] [y4,y5,y6]),(Gform.mk [108,101,97,118,101] [y4,y5,y6]),(Gform.mk [97,108,108,111,119] [y10,y11,y12]),(Gform.mk [102,111,114,98,105,100] [y10,y11,y12]),(Gform.mk [111,112,101,110] [y30,y31,y32]),(Gform.mk [112,117,116] [y33,y34,y35]),(Gform.mk [99,111,112,121] [y36,y37,y38]),(Gform.mk [119,104,111] [y39,y40]),(Gform.mk [115,105,110,99,101] [y41,y42])]
instance Wq_1v:WJ F_1v 61 [] fun z=>.sl (z.map Gform.v):=wX Tryz.func61 [(3,⟨[.gc [1,2]],[.k 1 2,.k 4 2,.k 17 2,.k 22 2,.k 27 2,.k 31 2,.k 35 2],[.n 37 (.fz 18),.n 37 (.fz 22)]⟩)] [] [.fz 0] (h:=fun _ _ h hQ M=>by unfold F_1v at h;exact tX)
def F_36 (c_:GCommand):Option Unit := some ()
instance Wq_36 {c_:GCommand}:WI (F_36 c_) Tryz.prog 147 [.ptr 1000 0] [(1000,.cells [.int .i64 c_.Kind,.str c_.Name,.str c_.Other,.int .i64 c_.Time,.int .i64 c_.A,.int .i64 c_.B])] (fun z=>.ptr 1000 2) (fun z=>[(1000,.cells [.int .i64 c_.Kind,.str c_.Name,.str c_.Other,.int .i64 c_.Time,.int .i64 c_.A,.int .i64 c_.B])]):=wX Tryz.func147 [] [] [] [1000] (h:=fun _ _ h hQ M=>by unfold F_36 at h;exact tX)
def F_37 (c_:GCommand):Option Unit := some ()
instance Wq_37 {c_:GCommand}:WI (F_37 c_) Tryz.prog 146 [.ptr 1000 0] [(1000,.cells [.int .i64 c_.Kind,.str c_.Name,.str c_.Other,.int .i64 c_.Time,.int .i64 c_.A,.int .i64 c_.B])] (fun z=>.ptr 1000 1) (fun z=>[(1000,.cells [.int .i64 c_.Kind,.str c_.Name,.str c_.Other,.int .i64 c_.Time,.int .i64 c_.A,.int .i64 c_.B])]):=wX Tryz.func146 [] [] [] [1000] (h:=fun _ _ h hQ M=>by unfold F_37 at h;exact tX)
def F_38 (c_:GCommand):Option Unit := some ()
instance Wq_38 {c_:GCommand}:WI (F_38 c_) Tryz.prog 149 [.ptr 1000 0] [(1000,.cells [.int .i64 c_.Kind,.str c_.Name,.str c_.Other,.int .i64 c_.Time,.int .i64 c_.A,.int .i64 c_.B])] (fun z=>.ptr 1000 5) (fun z=>[(1000,.cells [.int .i64 c_.Kind,.str c_.Name,.str c_.Other,.int .i64 c_.Time,.int .i64 c_.A,.int .i64 c_.B])]):=wX Tryz.func149 [] [] [] [1000] (h:=fun _ _ h hQ M=>by unfold F_38 at h;exact tX)
def F_39 (c_:GCommand):Option Unit := some ()
instance Wq_39 {c_:GCommand}:WI (F_39 c_) Tryz.prog 148 [.ptr 1000 0] [(1000,.cells [.int .i64 c_.Kind,.str c_.Name,.str c_.Other,.int .i64 c_.Time,.int .i64 c_.A,.int .i64 c_.B])] (fun z=>.ptr 1000 4) (fun z=>[(1000,.cells [.int .i64 c_.Kind,.str c_.Name,.str c_.Other,.int .i64 c_.Time,.int .i64 c_.A,.int .i64 c_.B])]):=wX Tryz.func148 [] [] [] [1000] (h:=fun _ _ h hQ M=>by unfold F_39 at h;exact tX)
def F_3a (c_:GCommand):Option Unit := some ()
instance Wq_3a {c_:GCommand}:WI (F_3a c_) Tryz.prog 145 [.ptr 1000 0] [(1000,.cells [.int .i64 c_.Kind,.str c_.Name,.str c_.Other,.int .i64 c_.Time,.int .i64 c_.A,.int .i64 c_.B])] (fun z=>.ptr 1000 3) (fun z=>[(1000,.cells [.int .i64 c_.Kind,.str c_.Name,.str c_.Other,.int .i64 c_.Time,.int .i64 c_.A,.int .i64 c_.B])]):=wX Tryz.func145 [] [] [] [1000] (h:=fun _ _ h hQ M=>by unfold F_3a at h;exact tX)
def F_2f (f_:Gfield) (c_:GCommand):Option (Bool×GCommand) := bif f_.name_.isSome then bif decide (f_.name_=some 146) then (F_37 c_).bind fun y14=>(namedF c_.Name 12).bind fun y16=>some (y16,(GCommand.mk c_.Kind [] c_.Other c_.Time c_.A c_.B)) else bif decide (f_.name_=some 147) then (F_36 c_).bind fun y11=>(namedF c_.Other 12).bind fun y13=>some (y13,(GCommand.mk c_.Kind c_.Name [] c_.Time c_.A c_.B)) else none else bif decide (f_.n_=some 145) then (F_3a c_).bind fun y24=>jn (α:=Bool) (bif decide (0≤c_.Time) then some (decide (c_.Time<f_.many_)) else some false) fun j25=>some (j25,(GCommand.mk c_.Kind c_.Name c_.Other 0 c_.A c_.B)) else bif decide (f_.n_=some 148) then (F_39 c_).bind fun y22=>jn (α:=Bool) (bif decide (0≤c_.A) then some (decide (c_.A<f_.many_)) else some false) fun j23=>some (j23,(GCommand.mk c_.Kind c_.Name c_.Other c_.Time 0 c_.B)) else bif decide (f_.n_=some 149) then (F_38 c_).bind fun y20=>jn (α:=Bool) (bif decide (0≤c_.B) then some (decide (c_.B<f_.many_)) else some false) fun j21=>some (j21,(GCommand.mk c_.Kind c_.Name c_.Other c_.Time c_.A 0)) else none
def a_2f:List (Nat×RN):=[(2,⟨[],[.c 3 0 [1000] []],[]⟩),(3,⟨[.gc [5]],[],[]⟩),(6,⟨[],[.c 3 0 [1000] []],[]⟩),(7,⟨[.gc [2,7,32,33,34,35,36,37]],[],[]⟩)]
@[irreducible] def mc_4p:MC:=rdc (cK Tryz.prog Tryz.f113 a_2f [] 10000008)
instance:LI mc_4p 0 0 [7] [1000] (fun y:Bool=>[(8,.bool y)]) (fun y=>[]) []:=⟨⟩
instance:LI mc_4p 0 0 [7] [1000] (fun y:Bool=>[(8,.bool y)]) (fun y=>[]) []:=⟨⟩
instance:LI mc_4p 0 0 [7] [1000] (fun y:Bool=>[(8,.bool y)]) (fun y=>[]) []:=⟨⟩
instance Wq_2f {f_:Gfield} {c_:GCommand}:WI (F_2f f_ c_) Tryz.prog 113 [Gfield.v f_,.ptr 1000 0] [(1000,.cells [.int .i64 c_.Kind,.str c_.Name,.str c_.Other,.int .i64 c_.Time,.int .i64 c_.A,.int .i64 c_.B])] (fun z=>.bool z.1) (fun z=>[(1000,.cells [.int .i64 z.2.Kind,.str z.2.Name,.str z.2.Other,.int .i64 z.2.Time,.int .i64 z.2.A,.int .i64 z.2.B])]):=wX Tryz.func113 a_2f [(10000008,mc_4p)] [] [1000] (h:=fun _ _ h hQ M=>by unfold F_2f at h;exact tX)
def F_3v (k52:Int) (a53:Gfield) (x51:Bool×GCommand):Option (Bool×GCommand) := (F_2f a53 x51.2).bind fun y60=>grp ((y60.1&&x51.1)) fun b61=>some (b61,y60.2)
def F_1w (c_:GCommand):Option Bool := grp ((decide (c_.Kind<1)||decide (11<c_.Kind))) fun b4=>bif b4 then some false else F_1v.bind fun y33=>chk (in64 (c_.Kind - 1)) (chk (inb (c_.Kind - 1) y33.length) ((foldL F_3v ((y33.getD ((c_.Kind - 1)).toNat default).fields_) 0 (true,c_)).bind fun x62=>jn (α:=Bool) (bif x62.1 then some (decide (x62.2.Kind=x62.2.Kind)&&(decide (x62.2.Name=[])&&(decide (x62.2.Other=[])&&(decide (x62.2.Time=0)&&(decide (x62.2.A=0)&&decide (x62.2.B=0)))))) else some false) fun j64=>some j64))
def a_1w:List (Nat×RN):=[(1,⟨[],[],[.v 4 7]⟩),(7,⟨[],[.c 1 0 [1] []],[.v 3 4]⟩),(9,⟨[],[],[.w 2 7 640902]⟩)]
@[irreducible] def mc_3v:MC:=rdc (cK Tryz.prog Tryz.f64 a_1w [] 5)
attribute [go_sem] F_3v
instance:LI mc_3v 22 21 [1,20,21] [] (fun y:Bool×GCommand=>[(3,.bool y.1)]) (fun y=>[.o 1 (.cells [.int .i64 y.2.Kind,.str y.2.Name,.str y.2.Other,.int .i64 y.2.Time,.int .i64 y.2.A,.int .i64 y.2.B])]) []:=⟨⟩
instance {m:List MOp}:GI (gjt 640902 m) [] [] (fun y:Bool=>[(39,.bool y)]) (fun y=>[]):=⟨⟩
instance Wq_1w {c_:GCommand}:WJ (F_1w c_) 64 [GCommand.v c_] .bool:=wX Tryz.func64 a_1w [(5,mc_3v)] (h:=fun _ _ h hQ M=>by have:SwA [(1000,1)]:=⟨⟩;unfold F_1w at h;exact tX)
def F_3w (kind_:Int):Option Bool := grp ((decide (kind_<1)||decide (3<kind_))) fun b2=>some b2
instance Wq_3w {kind_:Int}:WJ (F_3w kind_) 86 [.int .i64 kind_] .bool:=wX Tryz.func86 [(1,⟨[],[],[.v 3 5]⟩)] (h:=fun _ _ h hQ M=>by unfold F_3w at h;exact tX)
def F_3b (k31:Int) (a32:Int) (x30:Unit):Option (Fl Unit Int) := (F_3w a32).bind fun y40=>bif y40 then some (.ex k31) else some (.nx ())
def F_4q (s_:List Int):Option Int := (forL F_3b s_ 0 ()).bind fun o=>o.elim (fun x41=>some (-1)) (fun r42=>some r42)
@[irreducible] def mc_3b:MC:=rdc (cK Tryz.prog Tryz.f131 [] [] 2)
attribute [go_sem] F_3b
instance:LI mc_3b 8 7 [0,1,7] [] (fun y:Unit=>[]) (fun y=>[]) []:=⟨⟩
instance Wq_4q {s_:List Int}:WJ (F_4q s_) 131 [.sl (s_.map (V.int .i64)),.fn (.func 86) []] (.int .i64):=wX Tryz.func131 [] [(2,mc_3b)] (h:=fun _ _ h hQ M=>by unfold F_4q at h;exact tX)
def F_3x (s_:List Int):Option Bool := (F_4q s_).bind fun y2=>some (decide (0≤y2))
instance Wq_3x {s_:List Int}:WJ (F_3x s_) 87 [.sl (s_.map (V.int .i64)),.fn (.func 86) []] .bool:=wX Tryz.func87 (h:=fun _ _ h hQ M=>by unfold F_3x at h;exact tX)
def F_1x (d_:GDirectory) (p_:Int):Option Bool := grp ((decide (0≤p_)&&decide (p_<(d_.Kinds.length:Int)))) fun b2=>some b2
instance Wq_1x {d_:GDirectory} {p_:Int}:WJ (F_1x d_ p_) 88 [GDirectory.v d_,.int .i64 p_] .bool:=wX Tryz.func88 [(1,⟨[],[],[.v 3 8]⟩)] (h:=fun _ _ h hQ M=>by unfold F_1x at h;exact tX)
def F_3c (d_:GDirectory) (p_:Int):Option Bool := (F_1x d_ p_).bind fun y3=>jn (α:=Bool) (bif y3 then chk (inb p_ d_.Kinds.length) (some (decide ((d_.Kinds.getD (p_).toNat default)=2))) else some false) fun j4=>some j4
instance {m:List MOp}:GI (gjt 890104 m) [4] [] (fun y:Bool=>[(15,.bool y)]) (fun y=>[]):=⟨⟩
instance Wq_3c {d_:GDirectory} {p_:Int}:WJ (F_3c d_ p_) 89 [GDirectory.v d_,.int .i64 p_] .bool:=wX Tryz.func89 [(1,⟨[],[],[.w 4 10 890104]⟩)] (h:=fun _ _ h hQ M=>by unfold F_3c at h;exact tX)
def F_2g (d_:GDirectory) (k473:Int) (a474:GMember) (x472:Int):Option (Fl Int Int) := grp (((!decide (a474.Kind=1))&&(!decide (a474.Kind=2)))) fun b595=>grp ((b595||decide (a474.Time<x472))) fun b596=>grp ((b596||decide (1099511627776<a474.Time))) fun b597=>bif b597 then grp (true) fun b598=>bif b598 then some (.ex 30) else some (.nx a474.Time) else (F_1x d_ a474.Principal).bind fun y599=>bif (!y599) then grp (true) fun b600=>bif b600 then some (.ex 30) else some (.nx a474.Time) else (F_3c d_ a474.Group).bind fun y601=>grp (((!y601)||decide (a474.Principal=a474.Group))) fun b602=>bif b602 then some (.ex 30) else some (.nx a474.Time)
def F_5 (d_:GDirectory):Option Int := grp ((decide (24<(d_.Kinds.length:Int))||decide (120<(d_.Events.length:Int)))) fun b7=>bif b7 then some 30 else (F_3x d_.Kinds).bind fun y8=>bif y8 then some 30 else (forL (F_2g d_) d_.Events 0 0).bind fun o=>o.elim (fun x603=>some 0) (fun r604=>some r604)
def a_5:List (Nat×RN):=[(2,⟨[],[],[.v 5 9]⟩),(5,⟨[.gc [1,4,34,35,36,39,40,41,42,45,46,47,50,51,52,53,54,57,58,59,60,61,64,65,66,67,68]],[],[]⟩),(8,⟨[],[],[.v 4 7,.v 9 13,.v 15 18,.v 34 39]⟩),(10,⟨[.gc [1,6,24,25,26,34,35,36,39,40,41,42,45,46,47,50,51,52,53,54,57,58,59,60,61,64,65,66,67,68]],[],[]⟩)]
@[irreducible] def mc_2g:MC:=rdc (cK Tryz.prog Tryz.f44 a_5 [] 6)
attribute [go_sem] F_2g
instance:LI mc_2g 26 25 [1,24,25] [1] (fun y:Int=>[(4,.int .i64 y)]) (fun y=>[]) []:=⟨⟩
instance Wq_5 {d_:GDirectory}:WJ (F_5 d_) 44 [GDirectory.v d_] (.int .i64):=wX Tryz.func44 a_5 [(6,mc_2g)] (h:=fun _ _ h hQ M=>by unfold F_5 at h;exact tX)
def F_2h (v_:Int) (k11:Int) (a12:Int) (x10:Unit):Option (Fl Unit Int) := bif decide (v_=a12) then some (.ex k11) else some (.nx ())
def F_4r (s_:List Int) (v_:Int):Option Int := (forL (F_2h v_) s_ 0 ()).bind fun o=>o.elim (fun x13=>some (-1)) (fun r14=>some r14)
@[irreducible] def mc_2h:MC:=rdc (cK Tryz.prog Tryz.f52 [] [] 2)
attribute [go_sem] F_2h
instance:LI mc_2h 8 7 [0,1,7] [] (fun y:Unit=>[]) (fun y=>[]) []:=⟨⟩
instance Wq_4r {s_:List Int} {v_:Int}:WJ (F_4r s_ v_) 52 [.sl (s_.map (V.int .i64)),.int .i64 v_] (.int .i64):=wX Tryz.func52 [] [(2,mc_2h)] (h:=fun _ _ h hQ M=>by unfold F_4r at h;exact tX)
def F_16 (s_:List Int) (v_:Int):Option Bool := (F_4r s_ v_).bind fun y2=>some (decide (0≤y2))
instance Wq_16 {s_:List Int} {v_:Int}:WJ (F_16 s_ v_) 28 [.sl (s_.map (V.int .i64)),.int .i64 v_] .bool:=wX Tryz.func28 (h:=fun _ _ h hQ M=>by unfold F_16 at h;exact tX)
def F_0 (t_:GTape) (n_:Int):Option (Int×GTape) := bif decide ((t_.L.length:Int)≤t_.at_) then some (0,t_) else chk (inb t_.at_ t_.L.length) (chk (in64 (t_.at_+1)) (chk (divs ((t_.L.getD (t_.at_).toNat default) % 2^16) n_) (some ((((t_.L.getD (t_.at_).toNat default) % 2^16) % n_),(GTape.mk t_.L (t_.at_+1))))))
instance Wq_0 {t_:GTape} {n_:Int}:WI (F_0 t_ n_) Tryz.prog 8 [.ptr 1000 0,.int .i64 n_] [(1000,.cells [.sl (t_.L.map (V.int .i64)),.int .i64 t_.at_])] (fun z=>.int .i64 z.1) (fun z=>[(1000,.cells [.sl (z.2.L.map (V.int .i64)),.int .i64 z.2.at_])]):=wX Tryz.func8 [(3,⟨[.gc [0,1]],[],[]⟩),(4,⟨[.gc [0,1,5]],[],[]⟩),(5,⟨[.gc [1,5]],[],[]⟩)] [] [] [1000] (h:=fun _ _ h hQ M=>by unfold F_0 at h;exact tX)
def F_17 (t_:GTape) (a_:Int) (b_:Int):Option (Int×GTape) := chk (in64 (b_ - a_)) (chk (in64 ((b_ - a_)+1)) ((F_0 t_ ((b_ - a_)+1)).bind fun y2=>chk (in64 (a_+y2.1)) (some ((a_+y2.1),y2.2))))
instance Wq_17 {t_:GTape} {a_ b_:Int}:WI (F_17 t_ a_ b_) Tryz.prog 14 [.ptr 1000 0,.int .i64 a_,.int .i64 b_] [(1000,.cells [.sl (t_.L.map (V.int .i64)),.int .i64 t_.at_])] (fun z=>.int .i64 z.1) (fun z=>[(1000,.cells [.sl (z.2.L.map (V.int .i64)),.int .i64 z.2.at_])]):=wX Tryz.func14 [(1,⟨[],[.c 6 0 [1000] []],[]⟩)] [] [] [1000] (h:=fun _ _ h hQ M=>by unfold F_17 at h;exact tX)
def F_2i (t_:GTape) (l_:List Int):Option (Int×GTape) := (F_0 t_ (l_.length:Int)).bind fun y2=>chk (inb y2.1 l_.length) (some ((l_.getD (y2.1).toNat default),y2.2))
instance Wq_2i {t_:GTape} {l_:List Int}:WI (F_2i t_ l_) Tryz.prog 15 [.ptr 1000 0,.sl (l_.map (V.int .i64))] [(1000,.cells [.sl (t_.L.map (V.int .i64)),.int .i64 t_.at_])] (fun z=>.int .i64 z.1) (fun z=>[(1000,.cells [.sl (z.2.L.map (V.int .i64)),.int .i64 z.2.at_])]):=wX Tryz.func15 [(1,⟨[],[.c 4 0 [1000] []],[]⟩)] [] [] [1000] (h:=fun _ _ h hQ M=>by unfold F_2i at h;exact tX)
noncomputable def F_3d (n_:Int) (x29:Int×Int×(List Int)×GTape):Option (Fl (Int×Int×(List Int)×GTape) ((List Int)×GTape)) := bif decide (x29.2.1<n_) then (F_0 x29.2.2.2 3).bind fun y37=>chk (in64 (x29.1+y37.1)) (chk (room (x29.2.2.1.length+[(x29.1+y37.1)].length) 8) (chk (in64 (x29.2.1+1)) (some (.nx ((x29.1+y37.1),(x29.2.1+1),(x29.2.2.1++[(x29.1+y37.1)]),y37.2))))) else some (.ex (x29.2.2.1,x29.2.2.2))
noncomputable def F_q (t_:GTape) (n_:Int):Option ((List Int)×GTape) := (F_0 t_ 4).bind fun y2=>(loop (F_3d n_) (y2.1,0,[],y2.2)).bind fun r38=>some (r38.1,r38.2)
def a_q:List (Nat×RN):=[(1,⟨[],[.k 0 1],[]⟩),(2,⟨[],[.c 1 0 [1000] []],[]⟩),(5,⟨[.gc [0,1,5,6,7]],[],[]⟩),(6,⟨[],[.c 2 0 [1000] []],[]⟩)]
@[irreducible] def mc_3d:MC:=rdc (cK Tryz.prog Tryz.f17 a_q [] 4)
attribute [go_sem] F_3d
instance:LI mc_3d 0 0 [0,1] [] (fun y:Int×Int×(List Int)×GTape=>[(5,.osl 2005 1 0 y.2.2.1.length),(6,.int .i64 y.1),(7,.int .i64 y.2.1)]) (fun y=>[.o 2005 (.arr 1 (y.2.2.1.map (V.int .i64))),.o 1000 (.cells [.sl (y.2.2.2.L.map (V.int .i64)),.int .i64 y.2.2.2.at_])]) [.gc [0,1,5,6,7],.acc 5 2005 1]:=⟨⟩
instance Wq_q {t_:GTape} {n_:Int}:WI (F_q t_ n_) Tryz.prog 17 [.ptr 1000 0,.int .i64 n_] [(1000,.cells [.sl (t_.L.map (V.int .i64)),.int .i64 t_.at_])] (fun z=>.sl (z.1.map (V.int .i64))) (fun z=>[(1000,.cells [.sl (z.2.L.map (V.int .i64)),.int .i64 z.2.at_])]):=wX Tryz.func17 a_q [(4,mc_3d)] [.fz 4] [1000] (h:=fun _ _ h hQ M=>by unfold F_q at h;exact tX)
end Go.Ab
set_option maxRecDepth 20000
set_option maxHeartbeats 2000000
namespace Go.Ab
open Go.Proofs
noncomputable def F_3e (n_:Int) (k_:Int) (x22:Int×(List Int)×GTape):Option (Fl (Int×(List Int)×GTape) ((List Int)×GTape)) := bif decide (x22.1<n_) then jn (α:=(List Int)×GTape) ((F_0 x22.2.2 k_).bind fun y30=>chk (in64 (k_ - 1)) (bif decide (y30.1=(k_ - 1)) then chk (room (x22.2.1.length+[x22.1].length) 8) (some ((x22.2.1++[x22.1]),y30.2)) else some (x22.2.1,y30.2))) fun j28=>chk (in64 (x22.1+1)) (some (.nx ((x22.1+1),j28.1,j28.2))) else some (.ex (x22.2.1,x22.2.2))
noncomputable def F_r (t_:GTape) (n_:Int) (k_:Int):Option ((List Int)×GTape) := (loop (F_3e n_ k_) (0,[],t_)).bind fun r31=>some (r31.1,r31.2)
def a_r:List (Nat×RN):=[(1,⟨[],[.k 0 1],[]⟩),(5,⟨[],[.c 2 0 [1000] []],[]⟩),(6,⟨[.gc [0,1,2,7,8]],[],[]⟩)]
@[irreducible] def mc_5a:MC:=rdc (cK Tryz.prog Tryz.f16 a_r [] 10000004)
@[irreducible] def mc_3e:MC:=rdc (cK Tryz.prog Tryz.f16 a_r [(10000004,mc_5a)] 3)
attribute [go_sem] F_3e
instance:LI mc_5a 0 0 [0,1,2,8] [] (fun y:(List Int)×GTape=>[(7,.osl 2007 1 0 y.1.length)]) (fun y=>[.o 2007 (.arr 1 (y.1.map (V.int .i64))),.o 1000 (.cells [.sl (y.2.L.map (V.int .i64)),.int .i64 y.2.at_])]) [.gc [0,1,2,7,8],.acc 7 2007 1]:=⟨⟩
instance:LI mc_3e 0 0 [0,1,2] [] (fun y:Int×(List Int)×GTape=>[(7,.osl 2007 1 0 y.2.1.length),(8,.int .i64 y.1)]) (fun y=>[.o 2007 (.arr 1 (y.2.1.map (V.int .i64))),.o 1000 (.cells [.sl (y.2.2.L.map (V.int .i64)),.int .i64 y.2.2.at_])]) [.gc [0,1,2,7,8],.acc 7 2007 1]:=⟨⟩
instance Wq_r {t_:GTape} {n_ k_:Int}:WI (F_r t_ n_ k_) Tryz.prog 16 [.ptr 1000 0,.int .i64 n_,.int .i64 k_] [(1000,.cells [.sl (t_.L.map (V.int .i64)),.int .i64 t_.at_])] (fun z=>.sl (z.1.map (V.int .i64))) (fun z=>[(1000,.cells [.sl (z.2.L.map (V.int .i64)),.int .i64 z.2.at_])]):=wX Tryz.func16 a_r [(10000004,mc_5a),(3,mc_3e)] [.fz 6] [1000] (h:=fun _ _ h hQ M=>by unfold F_r at h;exact tX)
noncomputable def F_3f (t_:GTape):Option (GCalendar×GTape) := (F_17 t_ 1 12).bind fun y3=>(F_2i y3.2 [31,127,62,1]).bind fun y4=>(F_0 y4.2 y3.1).bind fun y6=>chk (in64 (y6.1+1)) ((F_17 y6.2 (y6.1+1) y3.1).bind fun y8=>(F_r y8.2 12 4).bind fun y10=>some ((GCalendar.mk y3.1 y6.1 y8.1 y4.1 y10.1),y10.2))
instance Wq_3f {t_:GTape}:WI (F_3f t_) Tryz.prog 5 [.ptr 1000 0] [(1000,.cells [.sl (t_.L.map (V.int .i64)),.int .i64 t_.at_])] (fun z=>GCalendar.v z.1) (fun z=>[(1000,.cells [.sl (z.2.L.map (V.int .i64)),.int .i64 z.2.at_])]):=wX Tryz.func5 [(1,⟨[],[.c 1 0 [1000] [],.k 3 2,.c 4 0 [1000] []],[]⟩),(2,⟨[],[.c 3 0 [1000] []],[]⟩),(3,⟨[.gc [0,2,3]],[.c 6 0 [1000] []],[]⟩),(4,⟨[.gc [0,2,3]],[.c 1 0 [1000] []],[]⟩)] [] [.fzc 2] [1000] (h:=fun _ _ h hQ M=>by unfold F_3f at h;exact tX)
noncomputable def F_18 (x21:Int×(List Int)×GTape):Option (Fl (Int×(List Int)×GTape) ((List Int)×GTape)) := bif decide (0<x21.1) then (F_2i x21.2.2 [2,2,1,3]).bind fun y25=>chk (room (x21.2.1.length+[y25.1].length) 8) (chk (in64 (x21.1 - 1)) (some (.nx ((x21.1 - 1),(x21.2.1++[y25.1]),y25.2)))) else some (.ex (x21.2.1,x21.2.2))
noncomputable def F_1y (k42:Int) (a43:Int) (x41:List Int):Option (List Int) := bif decide (a43=2) then chk (room (x41.length+[k42].length) 8) (some (x41++[k42])) else some x41
noncomputable def F_3g (r26:(List Int)×GTape) (x44:List Int) (k166:Int) (a167:Int) (x165:(List GMember)×GTape):Option ((List GMember)×GTape) := (F_0 x165.2 (r26.1.length:Int)).bind fun y191=>(F_0 y191.2 (x44.length:Int)).bind fun y192=>chk (inb y192.1 x44.length) (jn (α:=GMember×GTape) ((F_0 y192.2 4).bind fun y197=>bif decide (y197.1=3) then some ((GMember.mk a167 2 y191.1 (x44.getD ((y192.1).toNat) default)),y197.2) else some ((GMember.mk a167 1 y191.1 (x44.getD ((y192.1).toNat) default)),y197.2)) fun j195=>bif (!decide (j195.1.Principal=j195.1.Group)) then chk (room (x165.1.length+[j195.1].length) 32) (some ((x165.1++[j195.1]),j195.2)) else some (x165.1,j195.2))
noncomputable def F_9 (t_:GTape):Option (GDirectory×GTape) := (F_17 t_ 2 6).bind fun y14=>(loop F_18 (y14.1,[1],y14.2)).bind fun r26=>(foldL F_1y r26.1 0 []).bind fun x44=>bif decide ((x44.length:Int)=0) then some ((GDirectory.mk r26.1 []),r26.2) else (F_0 r26.2 12).bind fun y116=>(F_q y116.2 y116.1).bind fun y117=>(foldL (F_3g r26 x44) y117.1 0 ([],y117.2)).bind fun x198=>some ((GDirectory.mk r26.1 x198.1),x198.2)
def a_9:List (Nat×RN):=[(1,⟨[],[.k 1 1],[]⟩),(2,⟨[],[.c 1 0 [1000] []],[]⟩),(4,⟨[.gc [0,2,3,4]],[],[]⟩),(5,⟨[],[.k 3 2,.c 4 0 [1000] []],[]⟩),(6,⟨[],[.k 0 1],[]⟩),(15,⟨[],[.c 2 0 [1000] [],.c 3 0 [1000] []],[]⟩),(18,⟨[],[.c 5 0 [1000] [],.c 10 0 [1000] []],[]⟩),(19,⟨[.gc [0,2,3,5,10,49,50,51]],[.c 1 0 [1000] []],[]⟩)]
@[irreducible] def mc_18:MC:=rdc (cK Tryz.prog Tryz.f6 a_9 [] 3)
@[irreducible] def mc_1y:MC:=rdc (cK Tryz.prog Tryz.f6 a_9 [(3,mc_18)] 8)
@[irreducible] def mc_5b:MC:=rdc (cK Tryz.prog Tryz.f6 a_9 [(3,mc_18),(8,mc_1y)] 10000021)
@[irreducible] def mc_3g:MC:=rdc (cK Tryz.prog Tryz.f6 a_9 [(3,mc_18),(8,mc_1y),(10000021,mc_5b)] 16)
attribute [go_sem] F_18 F_1y F_3g
instance:LI mc_18 0 0 [0,2,3] [3,2] (fun y:Int×(List Int)×GTape=>[(4,.int .i64 y.1)]) (fun y=>[.p 3 0 [.osl 4048 1 0 y.2.1.length],.o 4048 (.arr 1 (y.2.1.map (V.int .i64))),.o 1000 (.cells [.sl (y.2.2.L.map (V.int .i64)),.int .i64 y.2.2.at_])]) [.gc [0,2,3,4],.ownC 3 0 4048 1 none]:=⟨⟩
instance:LI mc_1y 30 29 [0,2,3,28,29] [4048,3,2,1000] (fun y:List Int=>[(5,.osl 2005 1 0 y.length)]) (fun y=>[.o 2005 (.arr 1 (y.map (V.int .i64)))]) [.gc [0,2,3,5,28,29,30],.acc 5 2005 1]:=⟨⟩
instance:LI mc_5b 0 0 [0,2,3,5,10,49,50,51] [2005,3,4048,4049,2] (fun y:GMember×GTape=>[]) (fun y=>[.o 10 (.cells [.int .i64 y.1.Time,.int .i64 y.1.Kind,.int .i64 y.1.Principal,.int .i64 y.1.Group]),.o 1000 (.cells [.sl (y.2.L.map (V.int .i64)),.int .i64 y.2.at_])]) []:=⟨⟩
instance:LI mc_3g 51 50 [0,2,3,5,49,50] [2005,3,4048,2] (fun y:(List GMember)×GTape=>[]) (fun y=>[.p 3 1 [.osl 4049 4 0 y.1.length],.o 4049 (.arr 4 (y.1.map GMember.v)),.o 1000 (.cells [.sl (y.2.L.map (V.int .i64)),.int .i64 y.2.at_])]) [.gc [0,2,3,5,49,50,51],.ownC 3 1 4049 4 none]:=⟨⟩
instance Wq_9 {t_:GTape}:WI (F_9 t_) Tryz.prog 6 [.ptr 1000 0] [(1000,.cells [.sl (t_.L.map (V.int .i64)),.int .i64 t_.at_])] (fun z=>GDirectory.v z.1) (fun z=>[(1000,.cells [.sl (z.2.L.map (V.int .i64)),.int .i64 z.2.at_])]):=wX Tryz.func6 a_9 [(3,mc_18),(8,mc_1y),(10000021,mc_5b),(16,mc_3g)] [.fzc 2] [1000] (h:=fun _ _ h hQ M=>by unfold F_9 at h;exact tX)
noncomputable def F_3h (d_:GDirectory) (k80:Int) (a81:Int) (x79:(List GSteward)×GTape):Option ((List GSteward)×GTape) := (F_0 x79.2 (d_.Kinds.length:Int)).bind fun y96=>chk (in64 ((d_.Kinds.length:Int) - 1)) ((F_17 y96.2 (-1) ((d_.Kinds.length:Int) - 1)).bind fun y97=>bif (!decide (y96.1=y97.1)) then chk (room (x79.1.length+[(GSteward.mk a81 y96.1 y97.1)].length) 24) (some ((x79.1++[(GSteward.mk a81 y96.1 y97.1)]),y97.2)) else some (x79.1,y97.2))
noncomputable def F_19 (t_:GTape) (d_:GDirectory):Option ((List GSteward)×GTape) := (F_0 t_ 10).bind fun y48=>(F_q y48.2 y48.1).bind fun y49=>(foldL (F_3h d_) y49.1 0 ([],y49.2)).bind fun x98=>some (x98.1,x98.2)
def a_19:List (Nat×RN):=[(1,⟨[],[.k 0 1],[]⟩),(2,⟨[],[.c 2 0 [1000] [],.c 3 0 [1000] []],[]⟩),(5,⟨[],[.c 5 0 [1000] [],.c 11 0 [1000] []],[]⟩),(6,⟨[.gc [0,3,5,8,12,13,14]],[],[]⟩)]
@[irreducible] def mc_3h:MC:=rdc (cK Tryz.prog Tryz.f7 a_19 [] 3)
attribute [go_sem] F_3h
instance:LI mc_3h 14 13 [0,3,12,13] [3] (fun y:(List GSteward)×GTape=>[(5,.osl 2005 3 0 y.1.length)]) (fun y=>[.o 2005 (.arr 3 (y.1.map GSteward.v)),.o 1000 (.cells [.sl (y.2.L.map (V.int .i64)),.int .i64 y.2.at_])]) [.gc [0,3,5,12,13,14],.acc 5 2005 3]:=⟨⟩
instance Wq_19 {t_:GTape} {d_:GDirectory}:WI (F_19 t_ d_) Tryz.prog 7 [.ptr 1000 0,GDirectory.v d_] [(1000,.cells [.sl (t_.L.map (V.int .i64)),.int .i64 t_.at_])] (fun z=>.sl (z.1.map GSteward.v)) (fun z=>[(1000,.cells [.sl (z.2.L.map (V.int .i64)),.int .i64 z.2.at_])]):=wX Tryz.func7 a_19 [(3,mc_3h)] [.fz 4] [1000] (h:=fun _ _ h hQ M=>by unfold F_19 at h;exact tX)
end Go.Ab
set_option maxRecDepth 20000
set_option maxHeartbeats 2000000
namespace Go.Ab
open Go.Proofs
def F_5s (k12:Int) (a11:Str) (x10:List Str):Option (Fl (List Str) Empty) := chk (room (x10.length+[a11].length) 16) (some (.nx (x10++[a11])))
def F_s (seqc0_:Str):Option (List Str) := (forL F_5s (linesL seqc0_) 0 []).bind fun o=>o.elim (fun x13=>some x13) (fun r14=>none)
def a_s:List (Nat×RN):=[(30000003,⟨[.ownC 2 0 4032 1 none],[],[]⟩)]
@[irreducible] def mc_5c:MC:=rdc (cK Tryz.prog Tryz.f55 a_s [] 3)
def mc_s:MC:=rdc (cT Tryz.prog Tryz.f55 a_s [(3,mc_5c)])
instance Wq_s {seqc0_:Str}:WI (F_s seqc0_) Tryz.prog 55 [.nils,.fn (.func 56) [.ptr 1000 0]] [(1000,.cells [.str seqc0_])] (fun z=>.sl (z.map V.str)) (fun z=>[]):=⟨fun Q Q' h hQ=>by
 refine acallM mc_s [.fz 4] [] [.t 4] Tryz.func55 fun M=>?_
 unfold F_s at h
 unfold mc_s
 replace h:=tY h
 refine tB ?_
 repeat' (first
 | (exact tZ)
 | ((first|refine oblg h ?_|refine roomG h ?_|refine inbG h ?_|refine incG h ?_|refine divG h ?_|refine appG h ?_|refine appC h ?_|refine fork h ?_ ?_|refine forkS h ?_ ?_)<;>clear h<;>intro hc h)
 | (refine M.rforC (b:=mc_5c) (enc:=fun a=>[.str a]) _ [1000,2] [] (fun x=>[.o 2 (.cells [.osl 4032 1 0 x.length]),.o 4032 (.arr 1 (x.map V.str))]) [.gc [0,1,2,4,6],.ownC 2 0 4032 1 none] h rfl (W_6d _ _) ⟨rfl,trivial,rfl,trivial⟩ rfl (fun a=>⟨rfl,rfl⟩) ?_ (hdis1 rfl) ?_ rfl ?_<;>first
 | (clear h;intro k a x Qn K hK1 hkN1 h hf;clear hf;unfold F_5s at h;unfold mc_5c;replace h:=tY h;refine tB ?_)
  |(clear h;intro x h;replace h:=tY h;refine tB ?_)
  |(clear h;(try refine tB ?_);exact tU0;done))
 | (refine hK1 _ ?_;(try refine tB ?_);refine ⟨_,h,?_⟩;exact tU0;done)
 | (refine tE ?_;(first|rw [M.lok_compU]|rw [M.lokD_compU]);refine tB ?_)
 | (refine tA ?_)
 | fail)⟩
def F_3y (seqc0_:Str):Option (List Str) := (F_s seqc0_).bind fun y2=>some y2
instance Wq_3y {seqc0_:Str}:WI (F_3y seqc0_) Tryz.prog 32 [.fn (.func 56) [.ptr 1000 0]] [(1000,.cells [.str seqc0_])] (fun z=>.sl (z.map V.str)) (fun z=>[]):=wX Tryz.func32 [(1,⟨[],[.c 1 1 [1000] []],[]⟩)] [] [.fz 2] (h:=fun _ _ h hQ M=>by unfold F_3y at h;exact tX)
def F_4s (s_:Str) (suffix_:Str):Option Bool := jn (α:=Bool) (bif decide ((suffix_.length:Int)≤(s_.length:Int)) then chk (in64 ((s_.length:Int) - (suffix_.length:Int))) (chk (inc ((s_.length:Int) - (suffix_.length:Int)) (s_.length:Int) s_.length) (some (decide ((s_.drop ((((s_.length:Int) - (suffix_.length:Int))).toNat))=suffix_)))) else some false) fun j2=>some j2
instance {m:List MOp}:GI (gjt 1440106 m) [4] [] (fun y:Bool=>[(20,.bool y)]) (fun y=>[]):=⟨⟩
instance Wq_4s {s_ suffix_:Str}:WJ (F_4s s_ suffix_) 144 [.str s_,.str suffix_] .bool:=wX Tryz.func144 [(1,⟨[],[],[.w 6 15 1440106]⟩)] (h:=fun _ _ h hQ M=>by unfold F_4s at h;exact tX)
def F_4t (s_:Str) (suffix_:Str):Option Str := (F_4s s_ suffix_).bind fun y4=>bif y4 then chk (in64 ((s_.length:Int) - (suffix_.length:Int))) (chk (inc 0 ((s_.length:Int) - (suffix_.length:Int)) s_.length) (some (s_.take ((((s_.length:Int) - (suffix_.length:Int))).toNat)))) else some s_
instance Wq_4t {s_ suffix_:Str}:WJ (F_4t s_ suffix_) 105 [.str s_,.str suffix_] .str:=wX Tryz.func105 (h:=fun _ _ h hQ M=>by unfold F_4t at h;exact tX)
def F_4u (s_:Str) (suffix_:Str):Option Str := (F_4t s_ suffix_).bind fun y2=>some y2
instance Wq_4u {s_ suffix_:Str}:WJ (F_4u s_ suffix_) 59 [.str s_,.str suffix_] .str:=wX Tryz.func59 (h:=fun _ _ h hQ M=>by unfold F_4u at h;exact tX)
def F_4v (f_:Gform) (p_:List Str):Option Bool := chk (inb 0 p_.length) (some (decide (f_.word_=(p_.getD 0 default))))
instance Wq_4v {f_:Gform} {p_:List Str}:WI (F_4v f_ p_) Tryz.prog 62 [Gform.v f_,.ptr 1000 0] [(1000,.cells [.sl (p_.map V.str)])] (fun z=>.bool z) (fun z=>[(1000,.cells [.sl (p_.map V.str)])]):=wX Tryz.func62 [] [] [] [1000] (h:=fun _ _ h hQ M=>by unfold F_4v at h;exact tX)
def F_3z (fc0_:List Str) (k31:Int) (a32:Gform) (x30:Unit):Option (Fl Unit Int) := (F_4v a32 fc0_).bind fun y40=>bif y40 then some (.ex k31) else some (.nx ())
def F_2j (s_:List Gform) (fc0_:List Str):Option Int := (forL (F_3z fc0_) s_ 0 ()).bind fun o=>o.elim (fun x41=>some (-1)) (fun r42=>some r42)
def a_2j:List (Nat×RN):=[(4,⟨[],[.c 5 0 [1000] []],[]⟩)]
@[irreducible] def mc_3z:MC:=rdc (cK Tryz.prog Tryz.f60 a_2j [] 2)
attribute [go_sem] F_3z
instance:LI mc_3z 8 7 [0,1,7] [1000] (fun y:Unit=>[]) (fun y=>[]) []:=⟨⟩
instance Wq_2j {s_:List Gform} {fc0_:List Str}:WI (F_2j s_ fc0_) Tryz.prog 60 [.sl (s_.map Gform.v),.fn (.func 62) [.ptr 1000 0]] [(1000,.cells [.sl (fc0_.map V.str)])] (fun z=>.int .i64 z) (fun z=>[(1000,.cells [.sl (fc0_.map V.str)])]):=wX Tryz.func60 a_2j [(2,mc_3z)] [] [1000] (h:=fun _ _ h hQ M=>by unfold F_2j at h;exact tX)
def F_40 (c_:GCommand) (k130:Int) (a131:Gfield) (x129:List Str):Option (List Str) := bif a131.name_.isSome then bif decide (a131.name_=some 146) then (F_37 c_).bind fun y157=>chk (room (x129.length+[c_.Name].length) 16) (some (x129++[c_.Name])) else bif decide (a131.name_=some 147) then (F_36 c_).bind fun y156=>chk (room (x129.length+[c_.Other].length) 16) (some (x129++[c_.Other])) else none else bif decide (a131.n_=some 145) then (F_3a c_).bind fun y162=>(itoaI c_.Time).bind fun y163=>chk (room (x129.length+[y163].length) 16) (some (x129++[y163])) else bif decide (a131.n_=some 148) then (F_39 c_).bind fun y160=>(itoaI c_.A).bind fun y161=>chk (room (x129.length+[y161].length) 16) (some (x129++[y161])) else bif decide (a131.n_=some 149) then (F_38 c_).bind fun y158=>(itoaI c_.B).bind fun y159=>chk (room (x129.length+[y159].length) 16) (some (x129++[y159])) else none
def F_2k (c_:GCommand):Option Str := F_1v.bind fun y2=>chk (in64 (c_.Kind - 1)) (chk (inb (c_.Kind - 1) y2.length) ((foldL (F_40 c_) ((y2.getD ((c_.Kind - 1)).toNat default).fields_) 0 [(y2.getD ((c_.Kind - 1)).toNat default).word_]).bind fun x164=>(joinI x164 [32]).bind fun y166=>chk (strl (y166.length+[10].length)) (some (y166++[10]))))
def a_2k:List (Nat×RN):=[(2,⟨[.gc [1,3]],[],[]⟩),(7,⟨[],[.c 3 0 [1] []],[]⟩),(8,⟨[],[.c 3 0 [1] []],[]⟩),(10,⟨[],[],[.n 1 (.fz 44)]⟩)]
@[irreducible] def mc_40:MC:=rdc (cK Tryz.prog Tryz.f65 a_2k [] 4)
attribute [go_sem] F_40
instance:LI mc_40 19 18 [1,17,18] [1] (fun y:List Str=>[(4,.osl 2004 1 0 y.length)]) (fun y=>[.o 2004 (.arr 1 (y.map V.str))]) [.gc [1,4,17,18,19],.acc 4 2004 1]:=⟨⟩
instance Wq_2k {c_:GCommand}:WJ (F_2k c_) 65 [GCommand.v c_] .str:=wX Tryz.func65 a_2k [(4,mc_40)] (h:=fun _ _ h hQ M=>by have:SwA [(1000,1)]:=⟨⟩;unfold F_2k at h;exact tX)
def F_41 (y4:List Str) (k215:Int) (a216:Gfield) (x214:GCommand):Option (Fl GCommand (GCommand×Bool)) := bif a216.name_.isSome then bif decide (a216.name_=some 146) then (F_37 x214).bind fun y263=>chk (inb (k215+1) y4.length) (some (.nx (GCommand.mk x214.Kind (y4.getD ((k215+1)).toNat default) x214.Other x214.Time x214.A x214.B))) else bif decide (a216.name_=some 147) then (F_36 x214).bind fun y262=>chk (inb (k215+1) y4.length) (some (.nx (GCommand.mk x214.Kind x214.Name (y4.getD ((k215+1)).toNat default) x214.Time x214.A x214.B))) else none else chk (inb (k215+1) y4.length) ((atoiE (y4.getD ((k215+1)).toNat default)).bind fun y265=>bif (!y265.2) then some (.ex ((GCommand.mk 0 [] [] 0 0 0),false)) else bif decide (a216.n_=some 145) then (F_3a x214).bind fun y268=>some (.nx (GCommand.mk x214.Kind x214.Name x214.Other y265.1 x214.A x214.B)) else bif decide (a216.n_=some 148) then (F_39 x214).bind fun y267=>some (.nx (GCommand.mk x214.Kind x214.Name x214.Other x214.Time y265.1 x214.B)) else bif decide (a216.n_=some 149) then (F_38 x214).bind fun y266=>some (.nx (GCommand.mk x214.Kind x214.Name x214.Other x214.Time x214.A y265.1)) else none)
def F_2l (text_:Str):Option (GCommand×Bool) := (F_4u text_ [10]).bind fun y3=>(splI y3 [32]).bind fun y4=>F_1v.bind fun y7=>(F_2j y7 y4).bind fun y8=>bif decide (y8<0) then some ((GCommand.mk 0 [] [] 0 0 0),false) else F_1v.bind fun y12=>chk (inb y8 y12.length) (chk (in64 (1+(((y12.getD (y8).toNat default).fields_).length:Int))) (bif (!decide ((y4.length:Int)=(1+(((y12.getD (y8).toNat default).fields_).length:Int)))) then some ((GCommand.mk 0 [] [] 0 0 0),false) else chk (in64 (y8+1)) (F_1v.bind fun y130=>chk (inb y8 y130.length) ((forL (F_41 y4) ((y130.getD (y8).toNat default).fields_) 0 (GCommand.mk (y8+1) [] [] 0 0 0)).bind fun o=>o.elim (fun x269=>(F_1w x269).bind fun y273=>bif y273 then (F_2k x269).bind fun y274=>some (x269,decide (y274=text_)) else some (x269,false)) (fun r270=>some r270)))))
def a_2l:List (Nat×RN):=[(2,⟨[],[.c 2 0 [4] []],[]⟩),(4,⟨[.gc [2]],[],[]⟩),(5,⟨[.gc [0,2,4,5,80,81,82,83]],[],[]⟩),(10,⟨[],[.c 2 0 [6] []],[]⟩),(13,⟨[.gc [2]],[],[]⟩),(14,⟨[.gc [0,2,4,6,8,9,39,40,41,80,81,82,83]],[.c 2 0 [6] []],[]⟩)]
@[irreducible] def mc_41:MC:=rdc (cK Tryz.prog Tryz.f34 a_2l [] 7)
attribute [go_sem] F_41
instance:LI mc_41 41 40 [0,2,4,6,39,40] [4,2] (fun y:GCommand=>[]) (fun y=>[.o 6 (.cells [.int .i64 y.Kind,.str y.Name,.str y.Other,.int .i64 y.Time,.int .i64 y.A,.int .i64 y.B])]) []:=⟨⟩
instance Wq_2l {text_:Str}:WJ (F_2l text_) 34 [.str text_] fun z=>.tup [GCommand.v z.1,.bool z.2]:=wX Tryz.func34 a_2l [(7,mc_41)] (h:=fun _ _ h hQ M=>by have:SwA [(1000,4)]:=⟨⟩;have:SwB [(1000,6)]:=⟨⟩;unfold F_2l at h;exact tX)
def F_2m (k49:Int) (a50:Str) (x48:List GCommand):Option (Fl (List GCommand) ((List GCommand)×Int×Int)) := (F_2l a50).bind fun y58=>bif (!y58.2) then some (.ex ([],k49,45)) else chk (room (x48.length+[y58.1].length) 64) (some (.nx (x48++[y58.1])))
def F_m (text_:Str):Option ((List GCommand)×Int×Int) := (linF text_).bind fun y3=>(F_3y text_).bind fun y4=>bif decide (60<(y4.length:Int)) then some ([],60,3) else (forL F_2m y4 0 []).bind fun o=>o.elim (fun x59=>some (x59,0,0)) (fun r60=>some r60)
def a_m:List (Nat×RN):=[(1,⟨[],[.c 1 0 [] [12],.c 2 0 [12] []],[]⟩),(3,⟨[.gc []],[],[]⟩),(4,⟨[],[.k 0 1],[]⟩),(5,⟨[.gc [5,6]],[],[]⟩),(10,⟨[.gc [7]],[],[]⟩),(11,⟨[.gc [6,9,17,18,19]],[],[]⟩)]
@[irreducible] def mc_2m:MC:=rdc (cK Tryz.prog Tryz.f12 a_m [] 6)
def mc_m:MC:=rdc (cT Tryz.prog Tryz.f12 a_m [(6,mc_2m)])
instance Wq_m {text_:Str}:WI (F_m text_) Tryz.prog 12 [.str text_] [] (fun z=>.tup [.sl (z.1.map GCommand.v),.int .i64 z.2.1,.int .i64 z.2.2]) (fun z=>[]):=⟨fun Q Q' h hQ=>by
 refine acallM mc_m [.fz 2] [] [.t 2,.t 3,.t 4] Tryz.func12 fun M=>?_
 unfold F_m at h
 unfold mc_m
 replace h:=tY h
 refine tB ?_
 repeat' (first
 | (exact tZ)
 | ((first|refine oblg h ?_|refine roomG h ?_|refine inbG h ?_|refine incG h ?_|refine divG h ?_|refine appG h ?_|refine appC h ?_|refine fork h ?_ ?_|refine forkS h ?_ ?_)<;>clear h<;>intro hc h)
 | (obtain ⟨y,hy,h⟩:=h;(first|have hw:=acall_swe 1900 12 (W_6e hy)|have hw:=acall_swe 1000 12 (Wq_3y.c.w hy)|have hw:=WI.w hy);replace hw:=tY hw;(first|refine M.sC hw ?_|refine M.sD hw ?_);clear hw hy;refine tB ?_)
 | (refine M.for1 (b:=mc_2m) 19 [17,18] [] (fun x=>[(6,.osl 2006 6 0 x.length)]) (fun x=>[.o 2006 (.arr 6 (x.map GCommand.v))]) [.gc [6,17,18,19],.acc 6 2006 6] h ?_ ?_ ?_<;>first
 | (clear h;intro k a x Qn K hK1 hkN1 ha1 h hf;have hl:=fact_int (factsE_find (n:=18) hf.1 rfl);clear hf;have hkd:=kD hkN1;have hkB1:=kB hkN1;have hkI1:=kI (k:=k) (by omega);unfold F_2m at h;unfold mc_2m;replace h:=tY h;refine tK ha1 hkd hkN1 hkB1 hkI1 ?_)
  |(clear h;intro x K h;replace h:=And.left (And.intro h trivial);unfold mc_2m;replace h:=tY h;refine tB ?_)
  |(clear h;(try refine tB ?_);exact tU0;done))
 | (simp only [ha1])
 | (refine hK1 _ ?_;(try refine tB ?_);refine ⟨_,h,?_⟩;exact tU0;done)
 | (refine tE ?_;(first|rw [M.lok_compU]|rw [M.lokD_compU]);refine tB ?_)
 | (refine tA ?_)
 | fail)⟩
end Go.Ab
