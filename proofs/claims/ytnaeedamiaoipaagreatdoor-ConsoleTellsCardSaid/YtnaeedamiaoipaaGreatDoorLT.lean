/- What the functions of this seat that lie on the laws' road compute (part LT), each for every input. By AI agents. -/
import Derived.Test.YtnaeedamiaoipaaGreatDoorProg
import Derived.KernelRfl
import Derived.Test.YtnaeedamiaoipaaGreatDoorAbMC
import Derived.Test.YtnaeedamiaoipaaGreatDoorSL
import Derived.Test.YtnaeedamiaoipaaGreatDoorXM
set_option linter.all false
set_option linter.all false
set_option maxRecDepth 20000
set_option maxHeartbeats 2000000
namespace Go.Ab
open Go.Proofs
structure GCommand where
 Kind:Int
 Name:Str
 Other:Str
 Time:Int
 A:Int
 B:Int
instance:Inhabited GCommand:=⟨⟨default,default,default,default,default,default⟩⟩
def GCommand.v (x:GCommand):V:=.agg [.int .i64 x.Kind,.str x.Name,.str x.Other,.int .i64 x.Time,.int .i64 x.A,.int .i64 x.B]
structure Gfield where
 name_:Option Nat
 n_:Option Nat
 many_:Int
instance:Inhabited Gfield:=⟨⟨default,default,default⟩⟩
def Gfield.v (x:Gfield):V:=.agg [fnV x.name_,fnV x.n_,.int .i64 x.many_]
structure Gform where
 word_:Str
 fields_:List Gfield
instance:Inhabited Gform:=⟨⟨default,default⟩⟩
def Gform.v (x:Gform):V:=.agg [.str x.word_,.sl (x.fields_.map Gfield.v)]
structure GMember where
 Time:Int
 Kind:Int
 Principal:Int
 Group:Int
instance:Inhabited GMember:=⟨⟨default,default,default,default⟩⟩
def GMember.v (x:GMember):V:=.agg [.int .i64 x.Time,.int .i64 x.Kind,.int .i64 x.Principal,.int .i64 x.Group]
structure GDirectory where
 Kinds:List Int
 Events:List GMember
instance:Inhabited GDirectory:=⟨⟨default,default⟩⟩
def GDirectory.v (x:GDirectory):V:=.agg [.sl (x.Kinds.map (V.int .i64)),.sl (x.Events.map GMember.v)]
structure GAccess where
 Time:Int
 Kind:Int
 Place:Int
 Principal:Int
 Until:Int
 Content:Int
 From:Int
instance:Inhabited GAccess:=⟨⟨default,default,default,default,default,default,default⟩⟩
def GAccess.v (x:GAccess):V:=.agg [.int .i64 x.Time,.int .i64 x.Kind,.int .i64 x.Place,.int .i64 x.Principal,.int .i64 x.Until,.int .i64 x.Content,.int .i64 x.From]
structure GEstate where
 Places:Int
 Events:List GAccess
instance:Inhabited GEstate:=⟨⟨default,default⟩⟩
def GEstate.v (x:GEstate):V:=.agg [.int .i64 x.Places,.sl (x.Events.map GAccess.v)]
structure GAudience where
 Public:Bool
 Principals:List Int
instance:Inhabited GAudience:=⟨⟨default,default⟩⟩
def GAudience.v (x:GAudience):V:=.agg [.bool x.Public,.sl (x.Principals.map (V.int .i64))]
structure GTape where
 L:List Int
 at_:Int
instance:Inhabited GTape:=⟨⟨default,default⟩⟩
def GTape.v (x:GTape):V:=.agg [.sl (x.L.map (V.int .i64)),.int .i64 x.at_]
theorem dlt {a:Int}:decide (a<a)=false:=by simp
attribute [go_sem] Mach.b2s_set Mach.b2s_setD byte_x4 rngb_i32 rngb_u32 rngb_u64 rngb_i16 rngb_u16 byteV beq_self_eq_true Int.cast_ofNat_Int List.take_succ_cons List.take_zero xB x3 wB putPs pinH wrap_u8 rng64 inb_and inc_and room_and roomI_and divs_and shok_and64 rep_u rep_ll mget_i mget_s mput_i mput_s mdel_i mdel_s lk_b lk_i lk_s lk_l lkt_b' lkt_i' lkt_s' lkt_l' rep_b rep_i ovS ovE ovU patO filt filtH dropE stepNs atEndN shqs shq1 V.oids V.oidsL V.tr V.trL trE trH Obj'.tr true_implies false_implies xJ Bool.true_eq_false dlt mpV slV Int.natCast_zero List.map_set kvV nxt_map erase_map V.sw V.swL swN swH sw_sl sw_int sw_bool sw_str sw_smap sw_byte Obj'.sw sw_arr sw_map byte_1 byte_2 List.set_set Mach.b2s_e Mach.b2s_eD toNat_ltb List.length_set List.length_replicate zP w7 bounds eqCells wA Option.map_none Fl_nx Fl_ex Sum_inl Sum_inr Ok_ite Ok_chk Ok_some Ok_bind Ok_none
theorem inbk_0 {n:Nat}:(inb 0 n=true)=(((0:Nat):Int)<(n:Int)):=propext (by rw [inb_iff];omega)
attribute [go_sem] inbk_0
theorem incl_0 {b:Int} {n:Nat}:(inc 0 b n=true)=(((0:Nat):Int)≤b∧b≤(n:Int)):=propext (by rw [inc_iff];omega)
attribute [go_sem] incl_0
theorem incl_1 {b:Int} {n:Nat}:(inc 1 b n=true)=(((1:Nat):Int)≤b∧b≤(n:Int)):=propext (by rw [inc_iff];omega)
attribute [go_sem] incl_1
attribute [go_sem] GAccess.v GAudience.v GCommand.v GDirectory.v GEstate.v GMember.v GTape.v Gfield.v Gform.v
end Go.Ab
set_option maxRecDepth 20000
set_option maxHeartbeats 2000000
namespace Go.Ab
open Go.Proofs
def F_p:Option Gfield := some (Gfield.mk none (some 141) 1000000)
def mc_p:MC := (sR [mo (.alloc [.nilf,.nilf,(.int .i64 0)]) 0] (sR [mo (.build [.nilf,.nilf,(.int .i64 0)] [(1,1,(.f 141)),(2,1,(cI 1000000))]) 1,⟨.st 3 (.t 0) (.t 1),none,none⟩] .ret))
instance Wq_console_timeField:WI F_p Tryz.prog 105 [] [] (fun z=>Gfield.v z) (fun z=>[]):=⟨fun Q Q' h hQ=>by
 refine acallM mc_p [] [] [.c 0 (some 3)] Tryz.func105 fun M=>?_
 unfold F_p at h
 unfold mc_p
 exact tX⟩
def F_11:Option Gfield := some (Gfield.mk (some 142) none 0)
def mc_11:MC := (sR [mo (.alloc [.nilf,.nilf,(.int .i64 0)]) 0] (sR [mo (.build [.nilf,.nilf,(.int .i64 0)] [(0,1,(.f 142))]) 1,⟨.st 3 (.t 0) (.t 1),none,none⟩] .ret))
instance Wq_console_nameField:WI F_11 Tryz.prog 106 [] [] (fun z=>Gfield.v z) (fun z=>[]):=⟨fun Q Q' h hQ=>by
 refine acallM mc_11 [] [] [.c 0 (some 3)] Tryz.func106 fun M=>?_
 unfold F_11 at h
 unfold mc_11
 exact tX⟩
def F_46:Option Gfield := some (Gfield.mk (some 143) none 0)
def mc_46:MC := (sR [mo (.alloc [.nilf,.nilf,(.int .i64 0)]) 0] (sR [mo (.build [.nilf,.nilf,(.int .i64 0)] [(0,1,(.f 143))]) 1,⟨.st 3 (.t 0) (.t 1),none,none⟩] .ret))
instance Wq_console_otherField:WI F_46 Tryz.prog 107 [] [] (fun z=>Gfield.v z) (fun z=>[]):=⟨fun Q Q' h hQ=>by
 refine acallM mc_46 [] [] [.c 0 (some 3)] Tryz.func107 fun M=>?_
 unfold F_46 at h
 unfold mc_46
 exact tX⟩
def F_q (many_:Int):Option Gfield := some (Gfield.mk none (some 144) many_)
def mc_q:MC := (sR [mo (.alloc [.nilf,.nilf,(.int .i64 0)]) 2] (sR [oV 0 3,mo (.build [.nilf,.nilf,(.int .i64 0)] [(1,1,(.f 144)),(2,1,(.t 3))]) 4,⟨.st 3 (.t 2) (.t 4),none,none⟩] .ret))
instance Wq_console_firstField {many_:Int}:WI (F_q many_) Tryz.prog 108 [.int .i64 many_] [] (fun z=>Gfield.v z) (fun z=>[]):=⟨fun Q Q' h hQ=>by
 refine acallM mc_q [] [] [.c 2 (some 3)] Tryz.func108 fun M=>?_
 unfold F_q at h
 unfold mc_q
 exact tX⟩
def F_2l (many_:Int):Option Gfield := some (Gfield.mk none (some 145) many_)
def mc_2l:MC := (sR [mo (.alloc [.nilf,.nilf,(.int .i64 0)]) 2] (sR [oV 0 3,mo (.build [.nilf,.nilf,(.int .i64 0)] [(1,1,(.f 145)),(2,1,(.t 3))]) 4,⟨.st 3 (.t 2) (.t 4),none,none⟩] .ret))
instance Wq_console_secondField {many_:Int}:WI (F_2l many_) Tryz.prog 109 [.int .i64 many_] [] (fun z=>Gfield.v z) (fun z=>[]):=⟨fun Q Q' h hQ=>by
 refine acallM mc_2l [] [] [.c 2 (some 3)] Tryz.func109 fun M=>?_
 unfold F_2l at h
 unfold mc_2l
 exact tX⟩
def F_r:Option (List Gform) := F_p.bind fun y4=>F_11.bind fun y5=>F_46.bind fun y6=>F_p.bind fun y10=>F_11.bind fun y11=>(F_q 16).bind fun y12=>F_11.bind fun y28=>F_11.bind fun y29=>F_p.bind fun y30=>(F_q 16).bind fun y31=>(F_2l 1000000).bind fun y32=>F_p.bind fun y33=>(F_q 64).bind fun y34=>(F_2l 16).bind fun y35=>F_p.bind fun y36=>(F_q 16).bind fun y37=>(F_2l 16).bind fun y38=>F_p.bind fun y39=>(F_q 16).bind fun y40=>(F_q 64).bind fun y41=>F_11.bind fun y42=>some [(Gform.mk [112,101,114,115,111,110] [y28]),(Gform.mk [103,114,111,117,112] [y29]),(Gform.mk [106,111,105,110] [y4,y5,y6]),(Gform.mk [108,101,97,118,101] [y4,y5,y6]),(Gform.mk [97,108,108,111,119] [y10,y11,y12]),(Gform.mk [102,111,114,98,105,100] [y10,y11,y12]),(Gform.mk [111,112,101,110] [y30,y31,y32]),(Gform.mk [112,117,116] [y33,y34,y35]),(Gform.mk [99,111,112,121] [y36,y37,y38]),(Gform.mk [119,104,111] [y39,y40]),(Gform.mk [115,105,110,99,101] [y41,y42])]
def mc_r:MC := (sR [mo (.mv (.c (.sl []))) 0] (sR [mo (.call (.f 105) [] [] []) 3,mo (.call (.f 106) [] [] []) 4,mo (.call (.f 107) [] [] []) 5,mo (.bslice 3 [(.t 3),(.t 4),(.t 5)]) 6,oV 6 1] (sR [mo (.call (.f 105) [] [] []) 7,mo (.call (.f 106) [] [] []) 8,mo (.call (.f 108) [(cI 16)] [] []) 9,mo (.bslice 3 [(.t 7),(.t 8),(.t 9)]) 10,oV 10 2] (.seq (.note (.gc [1,2]) (.regI [.op (mo (.call (.f 106) [] [] []) 11),.op (mo (.lsl 3 [(.t 11)]) 12),.op (mo (.build [(.str []),(.sl [])] [(0,1,(.c (.str [112,101,114,115,111,110]))),(1,1,(.t 12))]) 13),.op (mo (.call (.f 106) [] [] []) 14),.op (mo (.lsl 3 [(.t 14)]) 15),.op (mo (.build [(.str []),(.sl [])] [(0,1,(.c (.str [103,114,111,117,112]))),(1,1,(.t 15))]) 16),.op (oV 1 17),.op (mo (.build [(.str []),(.sl [])] [(0,1,(.c (.str [106,111,105,110]))),(1,1,(.t 17))]) 18),.op (oV 1 19),.op (mo (.build [(.str []),(.sl [])] [(0,1,(.c (.str [108,101,97,118,101]))),(1,1,(.t 19))]) 20),.op (oV 2 21),.op (mo (.build [(.str []),(.sl [])] [(0,1,(.c (.str [97,108,108,111,119]))),(1,1,(.t 21))]) 22),.op (oV 2 23),.op (mo (.build [(.str []),(.sl [])] [(0,1,(.c (.str [102,111,114,98,105,100]))),(1,1,(.t 23))]) 24),.op (mo (.call (.f 105) [] [] []) 25),.op (mo (.call (.f 108) [(cI 16)] [] []) 26),.op (mo (.call (.f 109) [(cI 1000000)] [] []) 27),.op (mo (.lsl 3 [(.t 25),(.t 26),(.t 27)]) 28),.op (mo (.build [(.str []),(.sl [])] [(0,1,(.c (.str [111,112,101,110]))),(1,1,(.t 28))]) 29),.op (mo (.call (.f 105) [] [] []) 30),.op (mo (.call (.f 108) [(cI 64)] [] []) 31),.op (mo (.call (.f 109) [(cI 16)] [] []) 32),.op (mo (.lsl 3 [(.t 30),(.t 31),(.t 32)]) 33),.op (mo (.build [(.str []),(.sl [])] [(0,1,(.c (.str [112,117,116]))),(1,1,(.t 33))]) 34),.op (mo (.call (.f 105) [] [] []) 35),.op (mo (.call (.f 108) [(cI 16)] [] []) 36),.op (mo (.call (.f 109) [(cI 16)] [] []) 37),.op (mo (.lsl 3 [(.t 35),(.t 36),(.t 37)]) 38),.op (mo (.build [(.str []),(.sl [])] [(0,1,(.c (.str [99,111,112,121]))),(1,1,(.t 38))]) 39),.op (mo (.call (.f 105) [] [] []) 40),.op (mo (.call (.f 108) [(cI 16)] [] []) 41),.op (mo (.lsl 3 [(.t 40),(.t 41)]) 42),.op (mo (.build [(.str []),(.sl [])] [(0,1,(.c (.str [119,104,111]))),(1,1,(.t 42))]) 43),.op (mo (.call (.f 108) [(cI 64)] [] []) 44),.op (mo (.call (.f 106) [] [] []) 45),.op (mo (.lsl 3 [(.t 44),(.t 45)]) 46),.op (mo (.build [(.str []),(.sl [])] [(0,1,(.c (.str [115,105,110,99,101]))),(1,1,(.t 46))]) 47),.nt (.fz 18),.nt (.fz 22),.op (mo (.bslice 2 [(.t 13),(.t 16),(.t 18),(.t 20),(.t 22),(.t 24),(.t 29),(.t 34),(.t 39),(.t 43),(.t 47)]) 48),.op (oV 48 0)])) .ret))))
instance Wq_console_forms:WI F_r Tryz.prog 63 [] [] (fun z=>.sl (z.map Gform.v)) (fun z=>[]):=⟨fun Q Q' h hQ=>by
 refine acallM mc_r [.fz 0] [] [.t 0] Tryz.func63 fun M=>?_
 unfold F_r at h
 unfold mc_r
 exact tX⟩
def F_1p (c_:GCommand):Option Unit := some ()
def mc_1p:MC := (sR [mo (.mv (.c .nilp)) 2] (sR [oV 0 3,mo (.nck (.t 3)) 4,oF 2 4 5,oV 5 2] .ret))
instance Wq_console_otherField_1 {c_:GCommand}:WI (F_1p c_) Tryz.prog 143 [.ptr 1000 0] [(1000,.cells [.int .i64 c_.Kind,.str c_.Name,.str c_.Other,.int .i64 c_.Time,.int .i64 c_.A,.int .i64 c_.B])] (fun z=>.ptr 1000 2) (fun z=>[(1000,.cells [.int .i64 c_.Kind,.str c_.Name,.str c_.Other,.int .i64 c_.Time,.int .i64 c_.A,.int .i64 c_.B])]):=⟨fun Q Q' h hQ=>by
 refine acallM mc_1p [] [1000] [.t 2] Tryz.func143 fun M=>?_
 unfold F_1p at h
 unfold mc_1p
 exact tX⟩
def F_1q (c_:GCommand):Option Unit := some ()
def mc_1q:MC := (sR [mo (.mv (.c .nilp)) 2] (sR [oV 0 3,mo (.nck (.t 3)) 4,oF 1 4 5,oV 5 2] .ret))
instance Wq_console_nameField_1 {c_:GCommand}:WI (F_1q c_) Tryz.prog 142 [.ptr 1000 0] [(1000,.cells [.int .i64 c_.Kind,.str c_.Name,.str c_.Other,.int .i64 c_.Time,.int .i64 c_.A,.int .i64 c_.B])] (fun z=>.ptr 1000 1) (fun z=>[(1000,.cells [.int .i64 c_.Kind,.str c_.Name,.str c_.Other,.int .i64 c_.Time,.int .i64 c_.A,.int .i64 c_.B])]):=⟨fun Q Q' h hQ=>by
 refine acallM mc_1q [] [1000] [.t 2] Tryz.func142 fun M=>?_
 unfold F_1q at h
 unfold mc_1q
 exact tX⟩
def F_1r (c_:GCommand):Option Unit := some ()
def mc_1r:MC := (sR [mo (.mv (.c .nilp)) 2] (sR [oV 0 3,mo (.nck (.t 3)) 4,oF 5 4 5,oV 5 2] .ret))
instance Wq_console_secondField_1 {c_:GCommand}:WI (F_1r c_) Tryz.prog 145 [.ptr 1000 0] [(1000,.cells [.int .i64 c_.Kind,.str c_.Name,.str c_.Other,.int .i64 c_.Time,.int .i64 c_.A,.int .i64 c_.B])] (fun z=>.ptr 1000 5) (fun z=>[(1000,.cells [.int .i64 c_.Kind,.str c_.Name,.str c_.Other,.int .i64 c_.Time,.int .i64 c_.A,.int .i64 c_.B])]):=⟨fun Q Q' h hQ=>by
 refine acallM mc_1r [] [1000] [.t 2] Tryz.func145 fun M=>?_
 unfold F_1r at h
 unfold mc_1r
 exact tX⟩
def F_1s (c_:GCommand):Option Unit := some ()
def mc_1s:MC := (sR [mo (.mv (.c .nilp)) 2] (sR [oV 0 3,mo (.nck (.t 3)) 4,oF 4 4 5,oV 5 2] .ret))
instance Wq_console_firstField_1 {c_:GCommand}:WI (F_1s c_) Tryz.prog 144 [.ptr 1000 0] [(1000,.cells [.int .i64 c_.Kind,.str c_.Name,.str c_.Other,.int .i64 c_.Time,.int .i64 c_.A,.int .i64 c_.B])] (fun z=>.ptr 1000 4) (fun z=>[(1000,.cells [.int .i64 c_.Kind,.str c_.Name,.str c_.Other,.int .i64 c_.Time,.int .i64 c_.A,.int .i64 c_.B])]):=⟨fun Q Q' h hQ=>by
 refine acallM mc_1s [] [1000] [.t 2] Tryz.func144 fun M=>?_
 unfold F_1s at h
 unfold mc_1s
 exact tX⟩
def F_1t (c_:GCommand):Option Unit := some ()
def mc_1t:MC := (sR [mo (.mv (.c .nilp)) 2] (sR [oV 0 3,mo (.nck (.t 3)) 4,oF 3 4 5,oV 5 2] .ret))
instance Wq_console_timeField_1 {c_:GCommand}:WI (F_1t c_) Tryz.prog 141 [.ptr 1000 0] [(1000,.cells [.int .i64 c_.Kind,.str c_.Name,.str c_.Other,.int .i64 c_.Time,.int .i64 c_.A,.int .i64 c_.B])] (fun z=>.ptr 1000 3) (fun z=>[(1000,.cells [.int .i64 c_.Kind,.str c_.Name,.str c_.Other,.int .i64 c_.Time,.int .i64 c_.A,.int .i64 c_.B])]):=⟨fun Q Q' h hQ=>by
 refine acallM mc_1t [] [1000] [.t 2] Tryz.func141 fun M=>?_
 unfold F_1t at h
 unfold mc_1t
 exact tX⟩
def F_2m (f_:Gfield) (c_:GCommand):Option (Bool×GCommand) := bif f_.name_.isSome then bif decide (f_.name_=some 142) then (F_1q c_).bind fun y14=>(namedF c_.Name 12).bind fun y16=>some (y16,(GCommand.mk c_.Kind [] c_.Other c_.Time c_.A c_.B)) else bif decide (f_.name_=some 143) then (F_1p c_).bind fun y11=>(namedF c_.Other 12).bind fun y13=>some (y13,(GCommand.mk c_.Kind c_.Name [] c_.Time c_.A c_.B)) else none else bif decide (f_.n_=some 141) then (F_1t c_).bind fun y24=>jn (α:=Bool) (bif decide (0≤c_.Time) then some (decide (c_.Time<f_.many_)) else some false) fun j25=>some (j25,(GCommand.mk c_.Kind c_.Name c_.Other 0 c_.A c_.B)) else bif decide (f_.n_=some 144) then (F_1s c_).bind fun y22=>jn (α:=Bool) (bif decide (0≤c_.A) then some (decide (c_.A<f_.many_)) else some false) fun j23=>some (j23,(GCommand.mk c_.Kind c_.Name c_.Other c_.Time 0 c_.B)) else bif decide (f_.n_=some 145) then (F_1r c_).bind fun y20=>jn (α:=Bool) (bif decide (0≤c_.B) then some (decide (c_.B<f_.many_)) else some false) fun j21=>some (j21,(GCommand.mk c_.Kind c_.Name c_.Other c_.Time c_.A 0)) else none
@[irreducible] def mc_4u:MC := (sR [oV 7 39,mo (.nck (.t 39)) 40,⟨.st 1 (.t 40) (cI 0),none,none⟩] (sR [oV 8 41,oV 41 4] .ret))
def mc_2m:MC := (sR [bx 0 2,mF 4] (.seq (sR [oF 0 2 9,oL 9 10,mo (.mp (.fnz true) [(.t 10)]) 11] (.cond (.t 11) (sR [oF 0 2 12,oL 12 13,oV 1 14,mo (.call (.t 13) [(.t 14)] [1000] []) 15,oV 15 5] (.seq (.note (.gc [5]) (.reg [oV 5 16,mo (.nck (.t 16)) 17,oL 17 18,mo (.call (.f 110) [(.t 18),(cI 12)] [] []) 19,oV 19 6])) (sR [oV 5 20,mo (.nck (.t 20)) 21,⟨.st 1 (.t 21) (.c (.str [])),none,none⟩] (sR [oV 6 22,oV 22 4] .ret)))) .skip)) (sR [oF 1 2 23,oL 23 24,oV 1 25,mo (.call (.t 24) [(.t 25)] [1000] []) 26,oV 26 7] (.cut (.note (.gc [2,7,32,33,34,35,36,37]) (.regD [oV 7 27,mo (.nck (.t 27)) 28,oL 28 29,bC .geq 29 0 30,oV 30 31,tV 31 32 7,gT 31 33 (.nck (.t 32)),tL 31 34 33,ta_ 31 35 2 2,tL 31 36 35,gT 31 37 (.bin false .lss (.t 34) (.t 36)),pA 31 37 38,oV 38 8] [[],[0],[1],[2],[3],[4],[5,4],[6,4],[4],[8,4],[7,9,4],[4,10],[11,4,0,1,2,3,4,5,6,7,8,9,10,11]] [[],[0],[0,1],[0,1,2],[0,1,2,3],[0,1,2,3,4],[0,1,2,3,4,5],[0,1,2,3,4,5,6],[0,1,2,3,4],[0,1,2,3,4,8],[0,1,2,3,4,5,6,7,8,9],[0,1,2,3,4,5,6,7,8,9,10],[0,1,2,3,4,5,6,7,8,9,10,11]])) mc_4u))))
instance:LI mc_4u 0 0 [7] [1000] (fun y:Bool=>[(8,.bool y)]) (fun y=>[]) []:=⟨⟩
instance:LI mc_4u 0 0 [7] [1000] (fun y:Bool=>[(8,.bool y)]) (fun y=>[]) []:=⟨⟩
instance:LI mc_4u 0 0 [7] [1000] (fun y:Bool=>[(8,.bool y)]) (fun y=>[]) []:=⟨⟩
instance Wq_console_field_right {f_:Gfield} {c_:GCommand}:WI (F_2m f_ c_) Tryz.prog 64 [Gfield.v f_,.ptr 1000 0] [(1000,.cells [.int .i64 c_.Kind,.str c_.Name,.str c_.Other,.int .i64 c_.Time,.int .i64 c_.A,.int .i64 c_.B])] (fun z=>.bool z.1) (fun z=>[(1000,.cells [.int .i64 z.2.Kind,.str z.2.Name,.str z.2.Other,.int .i64 z.2.Time,.int .i64 z.2.A,.int .i64 z.2.B])]):=⟨fun Q Q' h hQ=>by
 refine acallM mc_2m [] [1000] [.t 4] Tryz.func64 fun M=>?_
 unfold F_2m at h
 unfold mc_2m
 exact tX⟩
def F_1u (k52:Int) (a53:Gfield) (x51:Bool×GCommand):Option (Bool×GCommand) := (F_2m a53 x51.2).bind fun y60=>grp ((y60.1&&x51.1)) fun b61=>some (b61,y60.2)
def F_1v (c_:GCommand):Option Bool := grp ((decide (c_.Kind<1)||decide (11<c_.Kind))) fun b4=>bif b4 then some false else F_r.bind fun y33=>chk (in64 (c_.Kind - 1)) (chk (inb (c_.Kind - 1) y33.length) ((foldL F_1u ((y33.getD ((c_.Kind - 1)).toNat default).fields_) 0 (true,c_)).bind fun x62=>jn (α:=Bool) (bif x62.1 then some (decide (x62.2.Kind=x62.2.Kind)&&(decide (x62.2.Name=[])&&(decide (x62.2.Other=[])&&(decide (x62.2.Time=0)&&(decide (x62.2.A=0)&&decide (x62.2.B=0)))))) else some false) fun j64=>some j64))
@[irreducible] def mg_4z:List MOp:=[fa_ 9 10 0 1,fL 9 11 10,gF 9 12 (.bin false .gtr (.t 11) (cI 11)),pO 9 12 13]
@[irreducible] def mg_50:List MOp:=[tV 28 29 3,pA 28 29 30]
@[irreducible] def mc_1u:MC := (sR [bT .lss 22 21 23] (.seq (.cond (.t 23) .skip (.exit 0)) (.seq (.block 1 (sR [iA 3 20 22 24,lN 3 24 25,mo (.alloc [.nilf,.nilf,(.int .i64 0)]) 5,⟨.st 3 (.t 5) (.t 25),none,none⟩] (.regI [.op (lN 3 5 26),.op (mo (.call (.f 64) [(.t 26),(.t 1)] [1] []) 27),.op (oV 27 28),.grp mg_50,.op (oV 30 3)]))) (.reg [aI 22 1 31,oV 31 22]))))
@[irreducible] def mg_51:List MOp:=[gT 33 34 (.ld (some 6) (.t 1)),ta_ 33 35 0 1,tL 33 36 35,gT 33 37 (.build [(.int .i64 0),(.str []),(.str []),(.int .i64 0),(.int .i64 0),(.int .i64 0)] [(0,1,(.t 36))]),gT 33 38 (.eqs false [0,1,1,0,0,0] (.t 34) (.t 37)),pA 33 38 39]
def mc_1v:MC := (sR [bx 0 1,mF 2] (.seq (.seq (.regI [.op (oF 0 1 6),.op (oL 6 7),.op (bC .lss 7 1 8),.op (oV 8 9),.grp mg_4z]) (.cond (.t 13) (sR [mF 2] .ret) .skip)) (sR [mT 3] (.seq (.seq (.regD [mo (.call (.f 63) [] [] []) 14,oF 0 1 15,oL 15 16,sI 16 1 17,iA 2 14 17 18,oF 1 18 19,oL 19 20,lE 20 21,oC 0 22] [[],[],[1],[2],[0,3],[4],[5],[6],[]] [[],[],[1],[1,2],[0,1,2,3],[0,1,2,3,4],[0,1,2,3,4,5],[0,1,2,3,4,5,6],[]]) (.block 0 (.loop mc_1u))) (.seq (.regI [.op (oV 3 32),.op (oV 32 33),.grp mg_51,.op (oV 39 2)]) .ret)))))
instance Wq_console_Valid {c_:GCommand}:WI (F_1v c_) Tryz.prog 20 [GCommand.v c_] [] (fun z=>.bool z) (fun z=>[]):=⟨fun Q Q' h hQ=>by
 refine acallM mc_1v [] [] [.t 2] Tryz.func20 fun M=>?_
 unfold F_1v at h
 unfold mc_1v
 replace h:=tY h
 refine tB ?_
 repeat' (first
 | (exact tZ)
 | ((first|refine oblg h ?_|refine roomG h ?_|refine inbG h ?_|refine incG h ?_|refine divG h ?_|refine appG h ?_|refine appC h ?_|refine fork h ?_ ?_|refine forkS h ?_ ?_)<;>clear h<;>intro hc h)
 | (obtain ⟨y,hy,h⟩:=h;(first|have hw:=acall_swe 1000 1 (Wq_console_field_right.c.w hy)|have hw:=WI.w hy);replace hw:=tY hw;(first|refine M.sC hw ?_|refine M.sD hw ?_);clear hw hy;refine tB ?_)
 | (refine M.gv1 (ms:=mg_50) 30 [29] h ?_ ?_<;>first
 | (clear h;intro K hK1;unfold mg_50;refine tB ?_)
 | (clear h;intro b h;replace h:=tY h;refine tB ?_))
 | (refine M.fold1 (b:=mc_1u) 22 [1,20,21] [] (fun x=>[(3,.bool x.1)]) (fun x=>[.o 1 (.cells [.int .i64 x.2.Kind,.str x.2.Name,.str x.2.Other,.int .i64 x.2.Time,.int .i64 x.2.A,.int .i64 x.2.B])]) [] h ?_ ?_ ?_<;>first
 | (clear h;intro k a x Qn K hK2 hkN2 ha2 h hf;have hl:=fact_int (factsE_find (n:=21) hf.1 rfl);clear hf;have hkd:=kD hkN2;have hkB2:=kB hkN2;have hkI2:=kI (k:=k) (by omega);unfold F_1u at h;unfold mc_1u;replace h:=tY h;refine tK ha2 hkd hkN2 hkB2 hkI2 ?_)
  |(clear h;intro x K h;replace h:=And.left (And.intro h trivial);unfold mc_1u;replace h:=tY h;refine tB ?_)
  |(clear h;(try refine tB ?_);exact tU0;done))
 | (refine M.gj1 (ms:=mg_51) [] [] (fun y=>[(39,.bool y)]) (fun y=>[]) h ?_ ?_<;>first
 | (clear h;intro Qn K hK3 h;unfold mg_51;replace h:=tY h;refine tB ?_)
  |(clear h;intro y h;replace h:=tY h;refine tB ?_))
 | (refine M.gv1 (ms:=mg_4z) 13 [10,11,12] h ?_ ?_<;>first
 | (clear h;intro K hK4;unfold mg_4z;refine tB ?_)
 | (clear h;intro b h;replace h:=tY h;refine tB ?_))
 | (simp only [ha2])
 | ((first|refine hK1 _ ?_|refine hK4 _ ?_);exact tU;done)
 | ((first|refine hK2 _ ?_|refine hK3 _ ?_);(try refine tB ?_);refine ⟨_,h,?_⟩;exact tU0;done)
 | (refine bfork (fun hc=>?_) (fun hc=>?_))
 | (refine tE ?_;(first|rw [M.lok_compU]|rw [M.lokD_compU]);refine tB ?_)
 | (refine tA ?_)
 | fail)⟩
def F_3g (v_:Int) (k11:Int) (a12:Int) (x10:Unit):Option (Fl Unit Int) := bif decide (v_=a12) then some (.ex k11) else some (.nx ())
def F_47 (s_:List Int) (v_:Int):Option Int := (forL (F_3g v_) s_ 0 ()).bind fun o=>o.elim (fun x13=>some (-1)) (fun r14=>some r14)
@[irreducible] def mc_3g:MC := (sR [bT .lss 8 7 9] (.seq (.cond (.t 9) .skip (.exit 0)) (.seq (.block 1 (sR [oV 8 10,oV 10 5] (sR [oV 1 11,oV 0 12,oV 5 13,iA 1 12 13 14,oL 14 15,bT .eql 11 15 16] (.cond (.t 16) (sR [oV 5 17,oV 17 4] .ret) .skip)))) (.reg [aI 8 1 18,oV 18 8]))))
def mc_47:MC := (sR [oC 0 4] (.seq (sR [oV 0 6,lE 6 7,oC 0 8] (.block 0 (.loop mc_3g))) (sR [oC (-1) 4] .ret)))
attribute [go_sem] F_3g
instance:LI mc_3g 8 7 [0,1,7] [] (fun y:Unit=>[]) (fun y=>[]) []:=⟨⟩
instance Wq_slices_Index_int_int {s_:List Int} {v_:Int}:WI (F_47 s_ v_) Tryz.prog 220 [.sl (s_.map (V.int .i64)),.int .i64 v_] [] (fun z=>.int .i64 z) (fun z=>[]):=⟨fun Q Q' h hQ=>by
 refine acallM mc_47 [] [] [.t 4] Tryz.func220 fun M=>?_
 unfold F_47 at h
 unfold mc_47
 exact tX⟩
def F_2n (s_:List Int) (v_:Int):Option Bool := (F_47 s_ v_).bind fun y2=>some (decide (0≤y2))
def mc_2n:MC := (sR [mF 4] (sR [oV 0 5,oV 1 6,k2 220 5 6 7,bC .geq 7 0 8,oV 8 4] .ret))
instance Wq_slices_Contains_int_int {s_:List Int} {v_:Int}:WI (F_2n s_ v_) Tryz.prog 192 [.sl (s_.map (V.int .i64)),.int .i64 v_] [] (fun z=>.bool z) (fun z=>[]):=⟨fun Q Q' h hQ=>by
 refine acallM mc_2n [] [] [.t 4] Tryz.func192 fun M=>?_
 unfold F_2n at h
 unfold mc_2n
 exact tX⟩
end Go.Ab
set_option maxRecDepth 20000
set_option maxHeartbeats 2000000
namespace Go.Ab
open Go.Proofs
def F_5m (k12:Int) (a11:Str) (x10:List Str):Option (Fl (List Str) Empty) := chk (room (x10.length+[a11].length) 16) (some (.nx (x10++[a11])))
def F_48 (seqc0_:Str):Option (List Str) := (forL F_5m (linesL seqc0_) 0 []).bind fun o=>o.elim (fun x13=>some x13) (fun r14=>none)
@[irreducible] def mc_52:MC := (.block 1 (.reg [oL 2 8,oV 5 9,mo (.bslice 1 [(.t 9)]) 10,ap 1 16 8 10 11,⟨.st 1 (.t 2) (.t 11),none,none⟩]))
def mc_48:MC := (sR [bx 0 2,mo (.mv (.c (.sl []))) 4] (.seq (sR [oV 1 6] (.block 0 (.note (.ownC 2 0 4032 1 none) (.rngF (.t 6) [7] (.reg [oV 7 5]) mc_52)))) (sR [oL 2 12,oV 12 4] .ret)))
instance Wq_slices_AppendSeq_string_string_of_strings_Lines_1 {seqc0_:Str}:WI (F_48 seqc0_) Tryz.prog 111 [.nils,.fn (.func 112) [.ptr 1000 0]] [(1000,.cells [.str seqc0_])] (fun z=>.sl (z.map V.str)) (fun z=>[]):=⟨fun Q Q' h hQ=>by
 refine acallM mc_48 [.fz 4] [] [.t 4] Tryz.func111 fun M=>?_
 unfold F_48 at h
 unfold mc_48
 replace h:=tY h
 refine tB ?_
 repeat' (first
 | (exact tZ)
 | ((first|refine oblg h ?_|refine roomG h ?_|refine inbG h ?_|refine incG h ?_|refine divG h ?_|refine appG h ?_|refine appC h ?_|refine fork h ?_ ?_|refine forkS h ?_ ?_)<;>clear h<;>intro hc h)
 | (refine M.rforC (b:=mc_52) (enc:=fun a=>[.str a]) _ [1000,2] [] (fun x=>[.o 2 (.cells [.osl 4032 1 0 x.length]),.o 4032 (.arr 1 (x.map V.str))]) [.gc [0,1,2,4,6],.ownC 2 0 4032 1 none] h rfl (W_7p _ _) ⟨rfl,trivial,rfl,trivial⟩ rfl (fun a=>⟨rfl,rfl⟩) ?_ (hdis1 rfl) ?_ rfl ?_<;>first
 | (clear h;intro k a x Qn K hK1 hkN1 h hf;clear hf;unfold F_5m at h;unfold mc_52;replace h:=tY h;refine tB ?_)
  |(clear h;intro x h;replace h:=tY h;refine tB ?_)
  |(clear h;(try refine tB ?_);exact tU0;done))
 | (refine hK1 _ ?_;(try refine tB ?_);refine ⟨_,h,?_⟩;exact tU0;done)
 | (refine tE ?_;(first|rw [M.lok_compU]|rw [M.lokD_compU]);refine tB ?_)
 | (refine tA ?_)
 | fail)⟩
def F_49 (seqc0_:Str):Option (List Str) := (F_48 seqc0_).bind fun y2=>some y2
def mc_49:MC := (sR [mo (.mv (.c (.sl []))) 2] (sR [oV 0 3,mo (.call (.f 111) [(.c .nils),(.t 3)] [1000] []) 4,oV 4 2] .ret))
instance Wq_slices_Collect_string_of_strings_Lines_1 {seqc0_:Str}:WI (F_49 seqc0_) Tryz.prog 73 [.fn (.func 112) [.ptr 1000 0]] [(1000,.cells [.str seqc0_])] (fun z=>.sl (z.map V.str)) (fun z=>[]):=⟨fun Q Q' h hQ=>by
 refine acallM mc_49 [.fz 2] [] [.t 2] Tryz.func73 fun M=>?_
 unfold F_49 at h
 unfold mc_49
 exact tX⟩
def F_4a (s_:Str) (suffix_:Str):Option Bool := jn (α:=Bool) (bif decide ((suffix_.length:Int)≤(s_.length:Int)) then chk (in64 ((s_.length:Int) - (suffix_.length:Int))) (chk (inc ((s_.length:Int) - (suffix_.length:Int)) (s_.length:Int) s_.length) (some (decide ((s_.drop ((((s_.length:Int) - (suffix_.length:Int))).toNat))=suffix_)))) else some false) fun j2=>some j2
@[irreducible] def mg_5n:List MOp:=[tV 10 11 0,tV 10 12 0,gT 10 13 (.len true (.t 12)),tV 10 14 1,gT 10 15 (.len true (.t 14)),gT 10 16 (.bin true .sub (.t 13) (.t 15)),gT 10 17 (.sls (.t 11) (some (.t 16)) none),tV 10 18 1,gT 10 19 (.bin false .eql (.t 17) (.t 18)),pA 10 19 20]
def mc_4a:MC := (sR [mF 4] (.seq (.regI [.op (oV 0 5),.op (mo (.len true (.t 5)) 6),.op (oV 1 7),.op (mo (.len true (.t 7)) 8),.op (bT .geq 6 8 9),.op (oV 9 10),.grp mg_5n,.op (oV 20 4)]) .ret))
instance:GI mg_5n [4] [] (fun y:Bool=>[(20,.bool y)]) (fun y=>[]):=⟨⟩
instance Wq_internal_stringslite_HasSuffix {s_ suffix_:Str}:WI (F_4a s_ suffix_) Tryz.prog 182 [.str s_,.str suffix_] [] (fun z=>.bool z) (fun z=>[]):=⟨fun Q Q' h hQ=>by
 refine acallM mc_4a [] [] [.t 4] Tryz.func182 fun M=>?_
 unfold F_4a at h
 unfold mc_4a
 exact tX⟩
def F_4b (s_:Str) (suffix_:Str):Option Str := (F_4a s_ suffix_).bind fun y4=>bif y4 then chk (in64 ((s_.length:Int) - (suffix_.length:Int))) (chk (inc 0 ((s_.length:Int) - (suffix_.length:Int)) s_.length) (some (s_.take ((((s_.length:Int) - (suffix_.length:Int))).toNat)))) else some s_
def mc_4b:MC := (sR [mo (.mv (.c (.str []))) 4] (.seq (sR [oV 0 5,oV 1 6,k2 182 5 6 7] (.cond (.t 7) (sR [oV 0 8,oV 0 9,mo (.len true (.t 9)) 10,oV 1 11,mo (.len true (.t 11)) 12,mo (.bin true .sub (.t 10) (.t 12)) 13,mo (.sls (.t 8) none (some (.t 13))) 14,oV 14 4] .ret) .skip)) (sR [oV 0 15,oV 15 4] .ret)))
instance Wq_internal_stringslite_TrimSuffix {s_ suffix_:Str}:WI (F_4b s_ suffix_) Tryz.prog 148 [.str s_,.str suffix_] [] (fun z=>.str z) (fun z=>[]):=⟨fun Q Q' h hQ=>by
 refine acallM mc_4b [] [] [.t 4] Tryz.func148 fun M=>?_
 unfold F_4b at h
 unfold mc_4b
 exact tX⟩
def F_4c (s_:Str) (suffix_:Str):Option Str := (F_4b s_ suffix_).bind fun y2=>some y2
def mc_4c:MC := (sR [mo (.mv (.c (.str []))) 4] (sR [oV 0 5,oV 1 6,k2 148 5 6 7,oV 7 4] .ret))
instance Wq_strings_TrimSuffix {s_ suffix_:Str}:WI (F_4c s_ suffix_) Tryz.prog 115 [.str s_,.str suffix_] [] (fun z=>.str z) (fun z=>[]):=⟨fun Q Q' h hQ=>by
 refine acallM mc_4c [] [] [.t 4] Tryz.func115 fun M=>?_
 unfold F_4c at h
 unfold mc_4c
 exact tX⟩
def F_4d (f_:Gform) (p_:List Str):Option Bool := chk (inb 0 p_.length) (some (decide (f_.word_=(p_.getD 0 default))))
def mc_4d:MC := (sR [bx 0 2,mF 3] (.seq (.regD [oF 0 2 4,oL 4 5,oL 1 6,mo (.iad 1 (.t 6) (cI 0)) 7,oL 7 8,bT .eql 5 8 9,oV 9 3] [[],[0],[],[2],[3],[1,4],[5,0,1,2,3,4,5]] [[],[0],[],[2],[2,3],[0,1,2,3,4],[0,1,2,3,4,5]]) .ret))
instance Wq_console_parse_1 {f_:Gform} {p_:List Str}:WI (F_4d f_ p_) Tryz.prog 117 [Gform.v f_,.ptr 1000 0] [(1000,.cells [.sl (p_.map V.str)])] (fun z=>.bool z) (fun z=>[(1000,.cells [.sl (p_.map V.str)])]):=⟨fun Q Q' h hQ=>by
 refine acallM mc_4d [] [1000] [.t 3] Tryz.func117 fun M=>?_
 unfold F_4d at h
 unfold mc_4d
 exact tX⟩
def F_4s (fc0_:List Str) (k31:Int) (a32:Gform) (x30:Unit):Option (Fl Unit Int) := (F_4d a32 fc0_).bind fun y40=>bif y40 then some (.ex k31) else some (.nx ())
def F_4e (s_:List Gform) (fc0_:List Str):Option Int := (forL (F_4s fc0_) s_ 0 ()).bind fun o=>o.elim (fun x41=>some (-1)) (fun r42=>some r42)
@[irreducible] def mc_4s:MC := (sR [bT .lss 8 7 9] (.seq (.cond (.t 9) .skip (.exit 0)) (.seq (.block 1 (sR [oV 8 10,oV 10 5] (sR [oV 1 11,oV 0 12,oV 5 13,iA 2 12 13 14,lN 2 14 15,mo (.call (.t 11) [(.t 15)] [1000] []) 16] (.cond (.t 16) (sR [oV 5 17,oV 17 4] .ret) .skip)))) (.reg [aI 8 1 18,oV 18 8]))))
def mc_4e:MC := (sR [oC 0 4] (.seq (sR [oV 0 6,lE 6 7,oC 0 8] (.block 0 (.loop mc_4s))) (sR [oC (-1) 4] .ret)))
attribute [go_sem] F_4s
instance:LI mc_4s 8 7 [0,1,7] [1000] (fun y:Unit=>[]) (fun y=>[]) []:=⟨⟩
instance Wq_slices_IndexFunc_console_form_console_form_of_console_parse_1 {s_:List Gform} {fc0_:List Str}:WI (F_4e s_ fc0_) Tryz.prog 116 [.sl (s_.map Gform.v),.fn (.func 117) [.ptr 1000 0]] [(1000,.cells [.sl (fc0_.map V.str)])] (fun z=>.int .i64 z) (fun z=>[(1000,.cells [.sl (fc0_.map V.str)])]):=⟨fun Q Q' h hQ=>by
 refine acallM mc_4e [] [1000] [.t 4] Tryz.func116 fun M=>?_
 unfold F_4e at h
 unfold mc_4e
 exact tX⟩
def F_3h (c_:GCommand) (k130:Int) (a131:Gfield) (x129:List Str):Option (List Str) := bif a131.name_.isSome then bif decide (a131.name_=some 142) then (F_1q c_).bind fun y157=>chk (room (x129.length+[c_.Name].length) 16) (some (x129++[c_.Name])) else bif decide (a131.name_=some 143) then (F_1p c_).bind fun y156=>chk (room (x129.length+[c_.Other].length) 16) (some (x129++[c_.Other])) else none else bif decide (a131.n_=some 141) then (F_1t c_).bind fun y162=>(itoaI c_.Time).bind fun y163=>chk (room (x129.length+[y163].length) 16) (some (x129++[y163])) else bif decide (a131.n_=some 144) then (F_1s c_).bind fun y160=>(itoaI c_.A).bind fun y161=>chk (room (x129.length+[y161].length) 16) (some (x129++[y161])) else bif decide (a131.n_=some 145) then (F_1r c_).bind fun y158=>(itoaI c_.B).bind fun y159=>chk (room (x129.length+[y159].length) 16) (some (x129++[y159])) else none
def F_4f (c_:GCommand):Option Str := F_r.bind fun y2=>chk (in64 (c_.Kind - 1)) (chk (inb (c_.Kind - 1) y2.length) ((foldL (F_3h c_) ((y2.getD ((c_.Kind - 1)).toNat default).fields_) 0 [(y2.getD ((c_.Kind - 1)).toNat default).word_]).bind fun x164=>(joinI x164 [32]).bind fun y166=>chk (strl (y166.length+[10].length)) (some (y166++[10]))))
@[irreducible] def mc_3h:MC := (sR [bT .lss 19 18 20] (.seq (.cond (.t 20) .skip (.exit 0)) (.seq (.block 1 (sR [iA 3 17 19 21,lN 3 21 22,mo (.alloc [.nilf,.nilf,(.int .i64 0)]) 6,⟨.st 3 (.t 6) (.t 22),none,none⟩] (sR [oF 0 6 23,oL 23 24,mo (.mp (.fnz true) [(.t 24)]) 25] (.cond (.t 25) (.reg [oV 4 26,oF 0 6 27,oL 27 28,mo (.call (.t 28) [(.t 1)] [1] []) 29,mo (.nck (.t 29)) 30,oL 30 31,mo (.bslice 1 [(.t 31)]) 32,ap 1 16 26 32 33,oV 33 4]) (.reg [oV 4 34,oF 1 6 35,oL 35 36,mo (.call (.t 36) [(.t 1)] [1] []) 37,mo (.nck (.t 37)) 38,oL 38 39,k1 33 39 40,mo (.bslice 1 [(.t 40)]) 41,ap 1 16 34 41 42,oV 42 4]))))) (.reg [aI 19 1 43,oV 43 19]))))
def mc_4f:MC := (sR [bx 0 1,mo (.mv (.c (.str []))) 2] (.seq (.regD [mo (.call (.f 63) [] [] []) 7,oF 0 1 8,oL 8 9,sI 9 1 10,iA 2 7 10 11,lN 2 11 12,mo (.alloc [(.str []),(.sl [])]) 3,⟨.st 2 (.t 3) (.t 12),none,none⟩] [[],[],[1],[2],[0,3],[4],[],[6,5,0,0,1,2,3,4,5,6]] [[],[],[1],[1,2],[0,1,2,3],[0,1,2,3,4],[],[0,1,2,3,4,5,6]]) (.seq (.note (.gc [1,3]) (.reg [oF 0 3 13,oL 13 14,mo (.bslice 1 [(.t 14)]) 15,oV 15 4])) (.seq (sR [oF 1 3 16,oL 16 17,lE 17 18,oC 0 19] (.block 0 (.loop mc_3h))) (.seq (.regI [.op (oV 4 44),.nt (.fz 44),.op (mo (.call (.f 103) [(.t 44),(.c (.str [32]))] [] []) 45),.op (mo (.bin false .add (.t 45) (.c (.str [10]))) 46),.op (oV 46 2)]) .ret)))))
instance Wq_console_line {c_:GCommand}:WI (F_4f c_) Tryz.prog 60 [GCommand.v c_] [] (fun z=>.str z) (fun z=>[]):=⟨fun Q Q' h hQ=>by
 refine acallM mc_4f [] [] [.t 2] Tryz.func60 fun M=>?_
 unfold F_4f at h
 unfold mc_4f
 replace h:=tY h
 refine tB ?_
 repeat' (first
 | (exact tZ)
 | ((first|refine oblg h ?_|refine roomG h ?_|refine inbG h ?_|refine incG h ?_|refine divG h ?_|refine appG h ?_|refine appC h ?_|refine fork h ?_ ?_|refine forkS h ?_ ?_)<;>clear h<;>intro hc h)
 | (obtain ⟨y,hy,h⟩:=h;(first|have hw:=acall_swe 1000 1 (Wq_console_otherField_1.c.w hy)|have hw:=acall_swe 1000 1 (Wq_console_nameField_1.c.w hy)|have hw:=acall_swe 1000 1 (Wq_console_secondField_1.c.w hy)|have hw:=acall_swe 1000 1 (Wq_console_firstField_1.c.w hy)|have hw:=acall_swe 1000 1 (Wq_console_timeField_1.c.w hy)|have hw:=WI.w hy|have hw:=W_4y hy|have hw:=W_5i hy);replace hw:=tY hw;(first|refine M.sC hw ?_|refine M.sD hw ?_);clear hw hy;refine tB ?_)
 | (refine M.fold1 (b:=mc_3h) 19 [1,17,18] [1] (fun x=>[(4,.osl 2004 1 0 x.length)]) (fun x=>[.o 2004 (.arr 1 (x.map V.str))]) [.gc [1,4,17,18,19],.acc 4 2004 1] h ?_ ?_ ?_<;>first
 | (clear h;intro k a x Qn K hK1 hkN1 ha1 h hf;have hl:=fact_int (factsE_find (n:=18) hf.1 rfl);clear hf;have hkd:=kD hkN1;have hkB1:=kB hkN1;have hkI1:=kI (k:=k) (by omega);unfold F_3h at h;unfold mc_3h;replace h:=tY h;refine tK ha1 hkd hkN1 hkB1 hkI1 ?_)
  |(clear h;intro x K h;replace h:=And.left (And.intro h trivial);unfold mc_3h;replace h:=tY h;refine tB ?_)
  |(clear h;(try refine tB ?_);exact tU0;done))
 | (simp only [ha1])
 | (refine hK1 _ ?_;(try refine tB ?_);refine ⟨_,h,?_⟩;exact tU0;done)
 | ((first|show sCall _ (fnV _) _ _ _ _ _|show sCallD _ (fnV _) _ _ _ _ _);rcases decS h with ⟨hc,h⟩|⟨hc,h⟩<;>first|exact False.elim h|(simp only [hc];replace h:=tY h;refine tB ?_)|skip)
 | (refine tE ?_;(first|rw [M.lok_compU]|rw [M.lokD_compU]);refine tB ?_)
 | (refine tA ?_)
 | fail)⟩
def F_3i (y4:List Str) (k215:Int) (a216:Gfield) (x214:GCommand):Option (Fl GCommand (GCommand×Bool)) := bif a216.name_.isSome then bif decide (a216.name_=some 142) then (F_1q x214).bind fun y263=>chk (inb (k215+1) y4.length) (some (.nx (GCommand.mk x214.Kind (y4.getD ((k215+1)).toNat default) x214.Other x214.Time x214.A x214.B))) else bif decide (a216.name_=some 143) then (F_1p x214).bind fun y262=>chk (inb (k215+1) y4.length) (some (.nx (GCommand.mk x214.Kind x214.Name (y4.getD ((k215+1)).toNat default) x214.Time x214.A x214.B))) else none else chk (inb (k215+1) y4.length) ((atoiE (y4.getD ((k215+1)).toNat default)).bind fun y265=>bif (!y265.2) then some (.ex ((GCommand.mk 0 [] [] 0 0 0),false)) else bif decide (a216.n_=some 141) then (F_1t x214).bind fun y268=>some (.nx (GCommand.mk x214.Kind x214.Name x214.Other y265.1 x214.A x214.B)) else bif decide (a216.n_=some 144) then (F_1s x214).bind fun y267=>some (.nx (GCommand.mk x214.Kind x214.Name x214.Other x214.Time y265.1 x214.B)) else bif decide (a216.n_=some 145) then (F_1r x214).bind fun y266=>some (.nx (GCommand.mk x214.Kind x214.Name x214.Other x214.Time x214.A y265.1)) else none)
def F_4g (text_:Str):Option (GCommand×Bool) := (F_4c text_ [10]).bind fun y3=>(splI y3 [32]).bind fun y4=>F_r.bind fun y7=>(F_4e y7 y4).bind fun y8=>bif decide (y8<0) then some ((GCommand.mk 0 [] [] 0 0 0),false) else F_r.bind fun y12=>chk (inb y8 y12.length) (chk (in64 (1+(((y12.getD (y8).toNat default).fields_).length:Int))) (bif (!decide ((y4.length:Int)=(1+(((y12.getD (y8).toNat default).fields_).length:Int)))) then some ((GCommand.mk 0 [] [] 0 0 0),false) else chk (in64 (y8+1)) (F_r.bind fun y130=>chk (inb y8 y130.length) ((forL (F_3i y4) ((y130.getD (y8).toNat default).fields_) 0 (GCommand.mk (y8+1) [] [] 0 0 0)).bind fun o=>o.elim (fun x269=>(F_1v x269).bind fun y273=>bif y273 then (F_4f x269).bind fun y274=>some (x269,decide (y274=text_)) else some (x269,false)) (fun r270=>some r270)))))
@[irreducible] def mc_3i:MC := (sR [bT .lss 41 40 42] (.seq (.cond (.t 42) .skip (.exit 0)) (.seq (.block 1 (sR [oV 41 43,iA 3 39 41 44,lN 3 44 45,mo (.alloc [.nilf,.nilf,(.int .i64 0)]) 8,oV 43 7,⟨.st 3 (.t 8) (.t 45),none,none⟩] (.seq (sR [oF 0 8 46,oL 46 47,mo (.mp (.fnz true) [(.t 47)]) 48] (.cond (.t 48) (.seq (.regD [oF 0 8 49,oL 49 50,mo (.call (.t 50) [(.t 6)] [6] []) 51,oL 4 52,oV 7 53,aI 53 1 54,iA 1 52 54 55,oL 55 56,mo (.nck (.t 51)) 57,⟨.st 1 (.t 57) (.t 56),none,none⟩] [[],[0],[1],[],[],[4],[3,5],[6],[2,0,1,2,3,4,5,6,7],[8,7,2,0,1,2,3,4,5,6,7]] [[],[0],[0,1],[],[],[4],[3,4,5],[3,4,5,6],[0,1,2,3,4,5,6,7],[0,1,2,3,4,5,6,7,8]]) (.exit 1)) .skip)) (sR [oL 4 59,oV 7 60,aI 60 1 61,iA 1 59 61 62,oL 62 63,k1 118 63 64,oV 64 58,xT 0 58 65,xT 1 58 66,oV 65 9,oV 66 10] (.seq (sR [oV 10 67,mo (.mp (.ifz true) [(.t 67)]) 68] (.cond (.t 68) (.seq (.note (.gc [2]) (.reg [mo (.build [(.int .i64 0),(.str []),(.str []),(.int .i64 0),(.int .i64 0),(.int .i64 0)] []) 69,⟨.st 6 (.t 2) (.t 69),none,none⟩,mF 3])) .ret) .skip)) (.note (.gc [0,2,4,6,8,9,39,40,41,80,81,82,83]) (.reg [oF 1 8 70,oL 70 71,mo (.call (.t 71) [(.t 6)] [6] []) 72,oV 9 73,mo (.nck (.t 72)) 74,⟨.st 1 (.t 74) (.t 73),none,none⟩]))))))) (.reg [aI 41 1 75,oV 75 41]))))
def mc_4g:MC := (sR [mo (.alloc [(.int .i64 0),(.str []),(.str []),(.int .i64 0),(.int .i64 0),(.int .i64 0)]) 2,mF 3] (sR [oV 0 11,mo (.call (.f 115) [(.t 11),(.c (.str [10]))] [] []) 12,mo (.call (.f 114) [(.t 12),(.c (.str [32]))] [] []) 13,mo (.alloc [(.sl [])]) 4,⟨.st 1 (.t 4) (.t 13),none,none⟩] (sR [mo (.call (.f 63) [] [] []) 14,mo (.mkfn 117 [(.t 4)]) 15,mo (.call (.f 116) [(.t 14),(.t 15)] [4] []) 16,oV 16 5] (.seq (.seq (.regD [oV 5 17,bC .lss 17 0 18,oV 18 19,fL 19 20 4,gF 19 21 (.len false (.t 20)),gF 19 22 (.call (.f 63) [] [] []),fV 19 23 5,gF 19 24 (.iad 2 (.t 22) (.t 23)),fa_ 19 25 1 24,fL 19 26 25,gF 19 27 (.len false (.t 26)),gF 19 28 (.bin true .add (cI 1) (.t 27)),gF 19 29 (.bin false .neq (.t 21) (.t 28)),pO 19 29 30] [[],[0],[1],[2],[3,2],[2,2],[2],[5,6,2],[7,2],[8,2],[9,2],[10,2],[4,11,2],[2,12]] [[],[0],[0,1],[0,1,2],[0,1,2,3],[0,1,2],[0,1,2],[0,1,2,5,6],[0,1,2,5,6,7],[0,1,2,5,6,7,8],[0,1,2,5,6,7,8,9],[0,1,2,5,6,7,8,9,10],[0,1,2,3,4,5,6,7,8,9,10,11],[0,1,2,3,4,5,6,7,8,9,10,11,12]]) (.cond (.t 30) (.seq (.note (.gc [2]) (.reg [mo (.build [(.int .i64 0),(.str []),(.str []),(.int .i64 0),(.int .i64 0),(.int .i64 0)] []) 31,⟨.st 6 (.t 2) (.t 31),none,none⟩,mF 3])) .ret) .skip)) (.seq (.note (.gc [0,2,4,5,80,81,82,83]) (.reg [oV 5 32,aI 32 1 33,mo (.build [(.int .i64 0),(.str []),(.str []),(.int .i64 0),(.int .i64 0),(.int .i64 0)] [(0,1,(.t 33))]) 34,mo (.alloc [(.int .i64 0),(.str []),(.str []),(.int .i64 0),(.int .i64 0),(.int .i64 0)]) 6,⟨.st 6 (.t 6) (.t 34),none,none⟩])) (.seq (sR [mo (.call (.f 63) [] [] []) 35,oV 5 36,iA 2 35 36 37,oF 1 37 38,oL 38 39,lE 39 40,oC 0 41] (.block 0 (.loop mc_3i))) (.seq (.regD [lN 6 6 76,lN 6 6 77,k1 20 77 78,oV 78 79,gT 79 80 (.ld (some 6) (.t 6)),gT 79 81 (.call (.f 60) [(.t 80)] [] []),tV 79 82 0,gT 79 83 (.bin false .eql (.t 81) (.t 82)),pA 79 83 84,⟨.st 6 (.t 2) (.t 76),none,none⟩,oV 84 3] [[],[],[1],[2,2],[3],[4,3,3],[3],[5,6,3],[3,7],[0,5,0],[8,9,0,1,2,3,4,5,6,7,8,9]] [[],[],[1],[1,2],[1,2,3],[1,2,3,4],[1,2,3],[1,2,3,4,5,6],[1,2,3,4,5,6,7],[0,1,2,3,4,5],[0,1,2,3,4,5,6,7,8,9]]) .ret)))))))
instance Wq_console_parse {text_:Str}:WI (F_4g text_) Tryz.prog 75 [.str text_] [] (fun z=>.tup [GCommand.v z.1,.bool z.2]) (fun z=>[]):=⟨fun Q Q' h hQ=>by
 refine acallM mc_4g [] [] [.c 2 (some 6),.t 3] Tryz.func75 fun M=>?_
 unfold F_4g at h
 unfold mc_4g
 replace h:=tY h
 refine tB ?_
 repeat' (first
 | (exact tZ)
 | ((first|refine oblg h ?_|refine roomG h ?_|refine inbG h ?_|refine incG h ?_|refine divG h ?_|refine appG h ?_|refine appC h ?_|refine fork h ?_ ?_|refine forkS h ?_ ?_)<;>clear h<;>intro hc h)
 | (obtain ⟨y,hy,h⟩:=h;(first|have hw:=acall_swe 1000 4 (Wq_slices_IndexFunc_console_form_console_form_of_console_parse_1.c.w hy)|have hw:=acall_swe 1000 6 (Wq_console_otherField_1.c.w hy)|have hw:=acall_swe 1000 6 (Wq_console_nameField_1.c.w hy)|have hw:=acall_swe 1000 6 (Wq_console_secondField_1.c.w hy)|have hw:=acall_swe 1000 6 (Wq_console_firstField_1.c.w hy)|have hw:=acall_swe 1000 6 (Wq_console_timeField_1.c.w hy)|have hw:=WI.w hy|have hw:=W_5h hy|have hw:=W_5j hy);replace hw:=tY hw;(first|refine M.sC hw ?_|refine M.sD hw ?_);clear hw hy;refine tB ?_)
 | (refine M.for1 (b:=mc_3i) 41 [0,2,4,6,39,40] [4,2] (fun x=>[]) (fun x=>[.o 6 (.cells [.int .i64 x.Kind,.str x.Name,.str x.Other,.int .i64 x.Time,.int .i64 x.A,.int .i64 x.B])]) [] h ?_ ?_ ?_<;>first
 | (clear h;intro k a x Qn K hK1 hkN1 ha1 h hf;have hl:=fact_int (factsE_find (n:=40) hf.1 rfl);clear hf;have hkd:=kD hkN1;have hkB1:=kB hkN1;have hkI1:=kI (k:=k) (by omega);unfold F_3i at h;unfold mc_3i;replace h:=tY h;refine tK ha1 hkd hkN1 hkB1 hkI1 ?_)
  |(clear h;intro x K h;replace h:=And.left (And.intro h trivial);unfold mc_3i;replace h:=tY h;refine tB ?_)
  |(clear h;(try refine tB ?_);exact tU0;done))
 | (simp only [ha1])
 | (refine hK1 _ ?_;(try refine tB ?_);refine ⟨_,h,?_⟩;exact tU0;done)
 | ((first|show sCall _ (fnV _) _ _ _ _ _|show sCallD _ (fnV _) _ _ _ _ _);rcases decS h with ⟨hc,h⟩|⟨hc,h⟩<;>first|exact False.elim h|(simp only [hc];replace h:=tY h;refine tB ?_)|skip)
 | (refine tE ?_;(first|rw [M.lok_compU]|rw [M.lokD_compU]);refine tB ?_)
 | (refine tA ?_)
 | fail)⟩
def F_3j (k49:Int) (a50:Str) (x48:List GCommand):Option (Fl (List GCommand) ((List GCommand)×Int×Int)) := (F_4g a50).bind fun y58=>bif (!y58.2) then some (.ex ([],k49,45)) else chk (room (x48.length+[y58.1].length) 64) (some (.nx (x48++[y58.1])))
def F_3k (text_:Str):Option ((List GCommand)×Int×Int) := (linF text_).bind fun y3=>(F_49 text_).bind fun y4=>bif decide (60<(y4.length:Int)) then some ([],60,3) else (forL F_3j y4 0 []).bind fun o=>o.elim (fun x59=>some (x59,0,0)) (fun r60=>some r60)
@[irreducible] def mc_3j:MC := (sR [bT .lss 19 18 20] (.seq (.cond (.t 20) .skip (.exit 0)) (.seq (.block 1 (sR [oV 19 21,iA 1 17 19 22,oL 22 23,oV 21 7,oV 23 8] (sR [oV 8 25,k1 75 25 26,oV 26 24,xT 0 24 27,xT 1 24 28,mo (.alloc [(.int .i64 0),(.str []),(.str []),(.int .i64 0),(.int .i64 0),(.int .i64 0)]) 9,⟨.st 6 (.t 9) (.t 27),none,none⟩,oV 28 10] (.seq (sR [oV 10 29,nT 29 30] (.cond (.t 30) (.seq (.note (.gc [7]) (.reg [oV 7 31,mo (.mv (.c (.sl []))) 2,oV 31 3,oC 45 4])) .ret) .skip)) (.note (.gc [6,9,17,18,19]) (.reg [oV 6 32,lN 6 9 33,mo (.bslice 6 [(.t 33)]) 34,ap 6 64 32 34 35,oV 35 6])))))) (.reg [aI 19 1 36,oV 36 19]))))
def mc_3k:MC := (sR [mo (.mv (.c (.sl []))) 2,oC 0 3,oC 0 4] (sR [oV 0 11,mo (.call (.f 74) [(.t 11)] [] [12]) 12,mo (.call (.f 73) [(.t 12)] [12] []) 13,oV 13 5] (.seq (sR [oV 5 14,lE 14 15,bC .gtr 15 60 16] (.cond (.t 16) (.seq (.note (.gc []) (.reg [mo (.mv (.c (.sl []))) 2,oC 60 3,oC 3 4])) .ret) .skip)) (sR [mo (.mv (.c .nils)) 6] (.seq (.seq (.note (.gc [5,6]) (.reg [oV 5 17,lE 17 18,oC 0 19])) (.block 0 (.loop mc_3j))) (sR [oV 6 37,oV 37 2,oC 0 3,oC 0 4] .ret))))))
instance Wq_console_Parse {text_:Str}:WI (F_3k text_) Tryz.prog 26 [.str text_] [] (fun z=>.tup [.sl (z.1.map GCommand.v),.int .i64 z.2.1,.int .i64 z.2.2]) (fun z=>[]):=⟨fun Q Q' h hQ=>by
 refine acallM mc_3k [.fz 2] [] [.t 2,.t 3,.t 4] Tryz.func26 fun M=>?_
 unfold F_3k at h
 unfold mc_3k
 replace h:=tY h
 refine tB ?_
 repeat' (first
 | (exact tZ)
 | ((first|refine oblg h ?_|refine roomG h ?_|refine inbG h ?_|refine incG h ?_|refine divG h ?_|refine appG h ?_|refine appC h ?_|refine fork h ?_ ?_|refine forkS h ?_ ?_)<;>clear h<;>intro hc h)
 | (obtain ⟨y,hy,h⟩:=h;(first|have hw:=acall_swe 1900 12 (W_7q hy)|have hw:=acall_swe 1000 12 (Wq_slices_Collect_string_of_strings_Lines_1.c.w hy)|have hw:=WI.w hy);replace hw:=tY hw;(first|refine M.sC hw ?_|refine M.sD hw ?_);clear hw hy;refine tB ?_)
 | (refine M.for1 (b:=mc_3j) 19 [17,18] [] (fun x=>[(6,.osl 2006 6 0 x.length)]) (fun x=>[.o 2006 (.arr 6 (x.map GCommand.v))]) [.gc [6,17,18,19],.acc 6 2006 6] h ?_ ?_ ?_<;>first
 | (clear h;intro k a x Qn K hK1 hkN1 ha1 h hf;have hl:=fact_int (factsE_find (n:=18) hf.1 rfl);clear hf;have hkd:=kD hkN1;have hkB1:=kB hkN1;have hkI1:=kI (k:=k) (by omega);unfold F_3j at h;unfold mc_3j;replace h:=tY h;refine tK ha1 hkd hkN1 hkB1 hkI1 ?_)
  |(clear h;intro x K h;replace h:=And.left (And.intro h trivial);unfold mc_3j;replace h:=tY h;refine tB ?_)
  |(clear h;(try refine tB ?_);exact tU0;done))
 | (simp only [ha1])
 | (refine hK1 _ ?_;(try refine tB ?_);refine ⟨_,h,?_⟩;exact tU0;done)
 | (refine tE ?_;(first|rw [M.lok_compU]|rw [M.lokD_compU]);refine tB ?_)
 | (refine tA ?_)
 | fail)⟩
end Go.Ab
set_option maxRecDepth 20000
set_option maxHeartbeats 2000000
namespace Go.Ab
open Go.Proofs
def F_s (kind_:Int):Option Bool := grp ((decide (kind_<1)||decide (3<kind_))) fun b2=>some b2
@[irreducible] def mg_5o:List MOp:=[fV 5 6 0,gF 5 7 (.bin false .gtr (.t 6) (cI 3)),pO 5 7 8]
def mc_s:MC := (sR [mF 2] (.seq (.regI [.op (oV 0 3),.op (bC .lss 3 1 4),.op (oV 4 5),.grp mg_5o,.op (oV 8 2)]) .ret))
instance:GV mg_5o 8 [6,7]:=⟨⟩
instance Wq_directory_Check_1 {kind_:Int}:WI (F_s kind_) Tryz.prog 87 [.int .i64 kind_] [] (fun z=>.bool z) (fun z=>[]):=⟨fun Q Q' h hQ=>by
 refine acallM mc_s [] [] [.t 2] Tryz.func87 fun M=>?_
 unfold F_s at h
 unfold mc_s
 exact tX⟩
def F_2o (k31:Int) (a32:Int) (x30:Unit):Option (Fl Unit Int) := (F_s a32).bind fun y40=>bif y40 then some (.ex k31) else some (.nx ())
def F_3l (s_:List Int):Option Int := (forL F_2o s_ 0 ()).bind fun o=>o.elim (fun x41=>some (-1)) (fun r42=>some r42)
@[irreducible] def mc_2o:MC := (sR [bT .lss 8 7 9] (.seq (.cond (.t 9) .skip (.exit 0)) (.seq (.block 1 (sR [oV 8 10,oV 10 5] (sR [oV 1 11,oV 0 12,oV 5 13,iA 1 12 13 14,oL 14 15,mo (.call (.t 11) [(.t 15)] [] []) 16] (.cond (.t 16) (sR [oV 5 17,oV 17 4] .ret) .skip)))) (.reg [aI 8 1 18,oV 18 8]))))
def mc_3l:MC := (sR [oC 0 4] (.seq (sR [oV 0 6,lE 6 7,oC 0 8] (.block 0 (.loop mc_2o))) (sR [oC (-1) 4] .ret)))
attribute [go_sem] F_2o
instance:LI mc_2o 8 7 [0,1,7] [] (fun y:Unit=>[]) (fun y=>[]) []:=⟨⟩
instance Wq_slices_IndexFunc_int_int_of_directory_Check_1 {s_:List Int}:WI (F_3l s_) Tryz.prog 133 [.sl (s_.map (V.int .i64)),.fn (.func 87) []] [] (fun z=>.int .i64 z) (fun z=>[]):=⟨fun Q Q' h hQ=>by
 refine acallM mc_3l [] [] [.t 4] Tryz.func133 fun M=>?_
 unfold F_3l at h
 unfold mc_3l
 exact tX⟩
def F_2p (s_:List Int):Option Bool := (F_3l s_).bind fun y2=>some (decide (0≤y2))
def mc_2p:MC := (sR [mF 4] (sR [oV 0 5,oV 1 6,k2 133 5 6 7,bC .geq 7 0 8,oV 8 4] .ret))
instance Wq_slices_ContainsFunc_int_int_of_directory_Check_1 {s_:List Int}:WI (F_2p s_) Tryz.prog 88 [.sl (s_.map (V.int .i64)),.fn (.func 87) []] [] (fun z=>.bool z) (fun z=>[]):=⟨fun Q Q' h hQ=>by
 refine acallM mc_2p [] [] [.t 4] Tryz.func88 fun M=>?_
 unfold F_2p at h
 unfold mc_2p
 exact tX⟩
def F_c (d_:GDirectory) (p_:Int):Option Bool := grp ((decide (0≤p_)&&decide (p_<(d_.Kinds.length:Int)))) fun b2=>some b2
@[irreducible] def mg_5p:List MOp:=[tV 7 8 1,ta_ 7 9 0 2,tL 7 10 9,gT 7 11 (.len false (.t 10)),gT 7 12 (.bin false .lss (.t 8) (.t 11)),pA 7 12 13]
def mc_c:MC := (sR [bx 0 2,mF 4] (.seq (.regI [.op (oV 1 5),.op (bC .geq 5 0 6),.op (oV 6 7),.grp mg_5p,.op (oV 13 4)]) .ret))
instance:GV mg_5p 13 [8,9,10,11,12]:=⟨⟩
instance Wq_directory_exists {d_:GDirectory} {p_:Int}:WI (F_c d_ p_) Tryz.prog 89 [GDirectory.v d_,.int .i64 p_] [] (fun z=>.bool z) (fun z=>[]):=⟨fun Q Q' h hQ=>by
 refine acallM mc_c [] [] [.t 4] Tryz.func89 fun M=>?_
 unfold F_c at h
 unfold mc_c
 exact tX⟩
def F_12 (d_:GDirectory) (p_:Int):Option Bool := (F_c d_ p_).bind fun y3=>jn (α:=Bool) (bif y3 then chk (inb p_ d_.Kinds.length) (some (decide ((d_.Kinds.getD (p_).toNat default)=2))) else some false) fun j4=>some j4
@[irreducible] def mg_5q:List MOp:=[ta_ 8 9 0 2,tL 8 10 9,tV 8 11 1,gT 8 12 (.iad 1 (.t 10) (.t 11)),tL 8 13 12,gT 8 14 (.bin false .eql (.t 13) (cI 2)),pA 8 14 15]
def mc_12:MC := (sR [bx 0 2,mF 4] (.seq (.regI [.op (lN 2 2 5),.op (oV 1 6),.op (k2 89 5 6 7),.op (oV 7 8),.grp mg_5q,.op (oV 15 4)]) .ret))
instance:GI mg_5q [4] [] (fun y:Bool=>[(15,.bool y)]) (fun y=>[]):=⟨⟩
instance Wq_directory_group {d_:GDirectory} {p_:Int}:WI (F_12 d_ p_) Tryz.prog 90 [GDirectory.v d_,.int .i64 p_] [] (fun z=>.bool z) (fun z=>[]):=⟨fun Q Q' h hQ=>by
 refine acallM mc_12 [] [] [.t 4] Tryz.func90 fun M=>?_
 unfold F_12 at h
 unfold mc_12
 exact tX⟩
def F_13 (d_:GDirectory) (k473:Int) (a474:GMember) (x472:Int):Option (Fl Int Int) := grp (((!decide (a474.Kind=1))&&(!decide (a474.Kind=2)))) fun b595=>grp ((b595||decide (a474.Time<x472))) fun b596=>grp ((b596||decide (1099511627776<a474.Time))) fun b597=>bif b597 then grp (true) fun b598=>bif b598 then some (.ex 30) else some (.nx a474.Time) else (F_c d_ a474.Principal).bind fun y599=>bif (!y599) then grp (true) fun b600=>bif b600 then some (.ex 30) else some (.nx a474.Time) else (F_12 d_ a474.Group).bind fun y601=>grp (((!y601)||decide (a474.Principal=a474.Group))) fun b602=>bif b602 then some (.ex 30) else some (.nx a474.Time)
def F_9 (d_:GDirectory):Option Int := grp ((decide (24<(d_.Kinds.length:Int))||decide (120<(d_.Events.length:Int)))) fun b7=>bif b7 then some 30 else (F_2p d_.Kinds).bind fun y8=>bif y8 then some 30 else (forL (F_13 d_) d_.Events 0 0).bind fun o=>o.elim (fun x603=>some 0) (fun r604=>some r604)
@[irreducible] def mg_s:List MOp:=[fa_ 11 12 1 1,fL 11 13 12,gF 11 14 (.len false (.t 13)),gF 11 15 (.bin false .gtr (.t 14) (cI 120)),pO 11 15 16]
@[irreducible] def mg_5r:List MOp:=[ta_ 33 34 1 6,tL 33 35 34,gT 33 36 (.bin false .neq (.t 35) (cI 2)),pA 33 36 37]
@[irreducible] def mg_5s:List MOp:=[fa_ 38 39 0 6,fL 38 40 39,fV 38 41 4,gF 38 42 (.bin false .lss (.t 40) (.t 41)),pO 38 42 43]
@[irreducible] def mg_5t:List MOp:=[fa_ 44 45 0 6,fL 44 46 45,gF 44 47 (.bin false .gtr (.t 46) (cI 1099511627776)),pO 44 47 48]
@[irreducible] def mg_4v:List MOp:=[fa_ 63 64 2 6,fL 63 65 64,fa_ 63 66 3 6,fL 63 67 66,gF 63 68 (.bin false .eql (.t 65) (.t 67)),pO 63 68 69]
@[irreducible] def mc_13:MC := (sR [bT .lss 26 25 27] (.seq (.cond (.t 27) .skip (.exit 0)) (.seq (.block 1 (sR [iA 4 24 26 28,lN 4 28 29,mo (.alloc [(.int .i64 0),(.int .i64 0),(.int .i64 0),(.int .i64 0)]) 6,⟨.st 4 (.t 6) (.t 29),none,none⟩] (.seq (.seq (.regI [.op (oF 1 6 30),.op (oL 30 31),.op (bC .neq 31 1 32),.op (oV 32 33),.grp mg_5r,.op (oV 37 38),.grp mg_5s,.op (oV 43 44),.grp mg_5t,.op (oV 48 49),.op (gF 49 50 (.ld (some 2) (.t 1))),.op (fa_ 49 51 2 6),.op (fL 49 52 51),.op (gF 49 53 (.call (.f 89) [(.t 50),(.t 52)] [] [])),.op (gF 49 54 (.not (.t 53))),.op (pO 49 54 55),.op (oV 55 56),.op (gF 56 57 (.ld (some 2) (.t 1))),.op (fa_ 56 58 3 6),.op (fL 56 59 58),.op (gF 56 60 (.call (.f 90) [(.t 57),(.t 59)] [] [])),.op (gF 56 61 (.not (.t 60))),.op (pO 56 61 62),.op (oV 62 63),.grp mg_4v]) (.cond (.t 69) (sR [oC 30 2] .ret) .skip)) (.note (.gc [1,6,24,25,26,34,35,36,39,40,41,42,45,46,47,50,51,52,53,54,57,58,59,60,61,64,65,66,67,68]) (.reg [oF 0 6 70,oL 70 71,oV 71 4]))))) (.reg [aI 26 1 72,oV 72 26]))))
def mc_9:MC := (sR [bx 0 1,oC 0 2] (sR [mo (.mv (.f 87)) 3] (.seq (.seq (.regI [.op (oF 0 1 7),.op (oL 7 8),.op (lE 8 9),.op (bC .gtr 9 24 10),.op (oV 10 11),.grp mg_s,.op (oV 16 17),.op (fa_ 17 18 0 1),.op (fL 17 19 18),.op (fV 17 20 3),.op (gF 17 21 (.call (.f 88) [(.t 19),(.t 20)] [] [])),.op (pO 17 21 22)]) (.cond (.t 22) (sR [oC 30 2] .ret) .skip)) (sR [oC 0 4] (.seq (.seq (.note (.gc [1,4,34,35,36,39,40,41,42,45,46,47,50,51,52,53,54,57,58,59,60,61,64,65,66,67,68]) (.reg [oF 1 1 23,oL 23 24,lE 24 25,oC 0 26])) (.block 0 (.loop mc_13))) (sR [oC 0 2] .ret))))))
attribute [go_sem] F_13
instance:GV mg_4v 69 [64,65,66,67,68]:=⟨⟩
instance:GV mg_4v 69 [64,65,66,67,68]:=⟨⟩
instance:GV mg_4v 69 [64,65,66,67,68]:=⟨⟩
instance:GV mg_5t 48 [45,46,47]:=⟨⟩
instance:GV mg_5s 43 [39,40,41,42]:=⟨⟩
instance:GV mg_5r 37 [34,35,36]:=⟨⟩
instance:LI mc_13 26 25 [1,24,25] [1] (fun y:Int=>[(4,.int .i64 y)]) (fun y=>[]) []:=⟨⟩
instance:GV mg_s 16 [12,13,14,15]:=⟨⟩
instance Wq_directory_Check {d_:GDirectory}:WI (F_9 d_) Tryz.prog 49 [GDirectory.v d_] [] (fun z=>.int .i64 z) (fun z=>[]):=⟨fun Q Q' h hQ=>by
 refine acallM mc_9 [] [] [.t 2] Tryz.func49 fun M=>?_
 unfold F_9 at h
 unfold mc_9
 exact tX⟩
def F_d (n_:Int) (low_:Int) (high_:Int):Option Bool := grp ((decide (low_≤n_)&&decide (n_≤high_))) fun b2=>some b2
@[irreducible] def mg_5u:List MOp:=[tV 10 11 0,tV 10 12 2,gT 10 13 (.bin false .leq (.t 11) (.t 12)),pA 10 13 14]
def mc_d:MC := (sR [mF 6] (.seq (.regI [.op (oV 0 7),.op (oV 1 8),.op (bT .geq 7 8 9),.op (oV 9 10),.grp mg_5u,.op (oV 14 6)]) .ret))
instance:GV mg_5u 14 [11,12,13]:=⟨⟩
instance Wq_access_among {n_ low_ high_:Int}:WI (F_d n_ low_ high_) Tryz.prog 91 [.int .i64 n_,.int .i64 low_,.int .i64 high_] [] (fun z=>.bool z) (fun z=>[]):=⟨fun Q Q' h hQ=>by
 refine acallM mc_d [] [] [.t 6] Tryz.func91 fun M=>?_
 unfold F_d at h
 unfold mc_d
 exact tX⟩
def F_5 (content_:Int):Option Bool := (F_d content_ 0 63).bind fun y2=>some y2
def mc_5:MC := (sR [mF 2] (sR [oV 0 3,mo (.call (.f 91) [(.t 3),(cI 0),(cI 63)] [] []) 4,oV 4 2] .ret))
instance Wq_access_Content {content_:Int}:WI (F_5 content_) Tryz.prog 125 [.int .i64 content_] [] (fun z=>.bool z) (fun z=>[]):=⟨fun Q Q' h hQ=>by
 refine acallM mc_5 [] [] [.t 2] Tryz.func125 fun M=>?_
 unfold F_5 at h
 unfold mc_5
 exact tX⟩
def F_6 (a_:GEstate) (place_:Int):Option Bool := chk (in64 (a_.Places - 1)) ((F_d place_ 0 (a_.Places - 1)).bind fun y2=>some y2)
def mc_6:MC := (sR [bx 0 2,mF 4] (sR [oV 1 5,oF 0 2 6,oL 6 7,sI 7 1 8,mo (.call (.f 91) [(.t 5),(cI 0),(.t 8)] [] []) 9,oV 9 4] .ret))
instance Wq_access_Place {a_:GEstate} {place_:Int}:WI (F_6 a_ place_) Tryz.prog 122 [GEstate.v a_,.int .i64 place_] [] (fun z=>.bool z) (fun z=>[]):=⟨fun Q Q' h hQ=>by
 refine acallM mc_6 [] [] [.t 4] Tryz.func122 fun M=>?_
 unfold F_6 at h
 unfold mc_6
 exact tX⟩
def F_14 (a_:GEstate) (x_:GAccess):Option Bool := jn (α:=Bool×GAccess) (jn (α:=Bool) (bif decide (x_.Kind=1) then some true else some (decide (x_.Kind=2))) fun j7=>bif j7 then (F_d x_.Principal 0 23).bind fun y8=>some (y8,(GAccess.mk x_.Time x_.Kind x_.Place x_.Principal 0 0 0)) else bif decide (x_.Kind=3) then bif decide (x_.Time<x_.Until) then some (decide (x_.Until≤1099511627776),(GAccess.mk x_.Time x_.Kind x_.Place 0 x_.Until 0 0)) else some (false,(GAccess.mk x_.Time x_.Kind x_.Place 0 x_.Until 0 0)) else bif decide (x_.Kind=4) then some (true,(GAccess.mk x_.Time x_.Kind x_.Place 0 0 0 0)) else jn (α:=Bool) (bif decide (x_.Kind=5) then some true else some (decide (x_.Kind=6))) fun j9=>bif j9 then (F_5 x_.Content).bind fun y10=>some (y10,(GAccess.mk x_.Time x_.Kind x_.Place 0 0 x_.Content 0)) else bif decide (x_.Kind=7) then (F_6 a_ x_.From).bind fun y11=>bif y11 then some ((!decide (x_.From=x_.Place)),(GAccess.mk x_.Time x_.Kind x_.Place 0 0 0 x_.From)) else some (false,(GAccess.mk x_.Time x_.Kind x_.Place 0 0 0 x_.From)) else some (false,(GAccess.mk x_.Time x_.Kind x_.Place 0 0 0 0))) fun j6=>jn (α:=Bool) (bif j6.1 then (F_6 a_ x_.Place).bind fun y16=>some y16 else some false) fun j17=>grp ((j17&&(decide (x_.Time=j6.2.Time)&&(decide (x_.Kind=j6.2.Kind)&&(decide (x_.Place=j6.2.Place)&&(decide (x_.Principal=j6.2.Principal)&&(decide (x_.Until=j6.2.Until)&&(decide (x_.Content=j6.2.Content)&&decide (x_.From=j6.2.From))))))))) fun b18=>some b18
@[irreducible] def mc_5v:MC := (.cond (.t 42) (.regD [oF 5 3 45,oL 45 46,oF 5 3 47,oL 47 48,k1 125 48 49,oF 5 5 50,⟨.st 1 (.t 50) (.t 46),none,none⟩,oV 49 6] [[],[0],[],[2],[3],[0,1],[5,1,4,0,1],[4,6,0,1,2,3,4,5,6]] [[],[0],[],[2],[2,3],[0,1],[0,1,2,3,4,5],[0,1,2,3,4,5,6]]) (sR [bC .eql 15 7 52,oV 52 51] (.cond (.t 51) (.regD [oF 6 3 53,oL 53 54,lN 2 2 55,oF 6 3 56,oL 56 57,k2 122 55 57 58,oV 58 59,ta_ 59 60 6 3,tL 59 61 60,ta_ 59 62 2 3,tL 59 63 62,gT 59 64 (.bin false .neq (.t 61) (.t 63)),pA 59 64 65,oF 6 5 66,⟨.st 1 (.t 66) (.t 54),none,none⟩,oV 65 6] [[],[0],[],[],[3],[2,4],[5,5],[6],[7,6],[6],[9,6],[8,10,6],[6,11],[0,1],[13,1,6,0,1],[12,14,0,1,2,3,4,5,6,7,8,9,10,11,12,13,14]] [[],[0],[],[],[3],[2,3,4],[2,3,4,5],[2,3,4,5,6],[2,3,4,5,6,7],[2,3,4,5,6],[2,3,4,5,6,9],[2,3,4,5,6,7,8,9,10],[2,3,4,5,6,7,8,9,10,11],[0,1],[0,1,2,3,4,5,6,13],[0,1,2,3,4,5,6,7,8,9,10,11,12,13,14]]) .skip)))
@[irreducible] def mc_5w:MC := (.cond (.t 16) (.regD [oF 3 3 19,oL 19 20,oF 3 3 21,oL 21 22,mo (.call (.f 91) [(.t 22),(cI 0),(cI 23)] [] []) 23,oF 3 5 24,⟨.st 1 (.t 24) (.t 20),none,none⟩,oV 23 6] [[],[0],[],[2],[3],[0,1],[5,1,4,0,1],[4,6,0,1,2,3,4,5,6]] [[],[0],[],[2],[2,3],[0,1],[0,1,2,3,4,5],[0,1,2,3,4,5,6]]) (sR [bC .eql 15 3 26,oV 26 25] (.cond (.t 25) (.regD [oF 4 3 27,oL 27 28,oF 4 3 29,oL 29 30,oF 0 3 31,oL 31 32,bT .gtr 30 32 33,oV 33 34,ta_ 34 35 4 3,tL 34 36 35,gT 34 37 (.bin false .leq (.t 36) (cI 1099511627776)),pA 34 37 38,oF 4 5 39,⟨.st 1 (.t 39) (.t 28),none,none⟩,oV 38 6] [[],[0],[],[2],[],[4],[3,5],[6],[7],[8,7],[9,7],[7,10],[0,1],[12,1,7,0,1],[11,13,0,1,2,3,4,5,6,7,8,9,10,11,12,13]] [[],[0],[],[2],[],[4],[2,3,4,5],[2,3,4,5,6],[2,3,4,5,6,7],[2,3,4,5,6,7,8],[2,3,4,5,6,7,8,9],[2,3,4,5,6,7,8,9,10],[0,1],[0,1,2,3,4,5,6,7,12],[0,1,2,3,4,5,6,7,8,9,10,11,12,13]]) (sR [bC .eql 15 4 41,oV 41 40] (.cond (.t 40) (.reg [mT 6]) (.cut (sR [bC .eql 15 5 43,oV 43 42] (.cond (.t 42) .skip (.reg [bC .eql 15 6 44,oV 44 42]))) mc_5v))))))
@[irreducible] def mg_5x:List MOp:=[gT 68 69 (.ld (some 2) (.t 2)),ta_ 68 70 2 3,tL 68 71 70,gT 68 72 (.call (.f 122) [(.t 69),(.t 71)] [] []),pA 68 72 73]
@[irreducible] def mg_5y:List MOp:=[gT 74 75 (.ld (some 7) (.t 3)),gT 74 76 (.ld (some 7) (.t 5)),gT 74 77 (.eqs false [0,0,0,0,0,0,0] (.t 75) (.t 76)),pA 74 77 78]
@[irreducible] def mc_5z:MC := (.seq (.regI [.op (oV 6 67),.op (oV 67 68),.grp mg_5x,.op (oV 73 74),.grp mg_5y,.op (oV 78 4)]) .ret)
def mc_14:MC := (sR [bx 0 2,bx 1 3,mF 4] (sR [oF 0 3 7,oL 7 8,oF 1 3 9,oL 9 10,oF 2 3 11,oL 11 12,mo (.build [(.int .i64 0),(.int .i64 0),(.int .i64 0),(.int .i64 0),(.int .i64 0),(.int .i64 0),(.int .i64 0)] [(0,1,(.t 8)),(1,1,(.t 10)),(2,1,(.t 12))]) 13,mo (.alloc [(.int .i64 0),(.int .i64 0),(.int .i64 0),(.int .i64 0),(.int .i64 0),(.int .i64 0),(.int .i64 0)]) 5,⟨.st 7 (.t 5) (.t 13),none,none⟩] (sR [mF 6] (.cut (sR [oF 1 3 14,oL 14 15] (.block 0 (.cut (sR [bC .eql 15 1 17,oV 17 16] (.cond (.t 16) .skip (.reg [bC .eql 15 2 18,oV 18 16]))) mc_5w))) mc_5z))))
instance:LI mc_5v 0 0 [2,3,5,6,15] [5,3,2] (fun y:Bool=>[(42,.bool y)]) (fun y=>[]) []:=⟨⟩
instance:LI mc_5w 0 0 [2,3,5,6,15] [5,3,2] (fun y:Bool=>[(16,.bool y)]) (fun y=>[]) []:=⟨⟩
instance:GV mg_5y 78 [75,76,77]:=⟨⟩
instance:GI mg_5x [3,5] [5,3] (fun y:Bool=>[(73,.bool y)]) (fun y=>[]):=⟨⟩
instance:LI mc_5z 0 0 [2,3,5] [3,2] (fun y:Bool×GAccess=>[(6,.bool y.1)]) (fun y=>[.o 5 (.cells [.int .i64 y.2.Time,.int .i64 y.2.Kind,.int .i64 y.2.Place,.int .i64 y.2.Principal,.int .i64 y.2.Until,.int .i64 y.2.Content,.int .i64 y.2.From])]) []:=⟨⟩
instance Wq_access_right {a_:GEstate} {x_:GAccess}:WI (F_14 a_ x_) Tryz.prog 92 [GEstate.v a_,GAccess.v x_] [] (fun z=>.bool z) (fun z=>[]):=⟨fun Q Q' h hQ=>by
 refine acallM mc_14 [] [] [.t 4] Tryz.func92 fun M=>?_
 unfold F_14 at h
 unfold mc_14
 exact tX⟩
def F_15 (a_:GEstate) (k137:Int) (a138:GAccess) (x136:Int):Option (Fl Int Int) := grp ((decide (a138.Time<x136)||decide (1099511627776<a138.Time))) fun b169=>bif b169 then some (.ex 34) else (F_14 a_ a138).bind fun y170=>bif (!y170) then some (.ex 34) else some (.nx a138.Time)
def F_3 (a_:GEstate):Option Int := (F_d a_.Places 1 16).bind fun y7=>grp (((!y7)||decide (120<(a_.Events.length:Int)))) fun b8=>bif b8 then some 34 else (forL (F_15 a_) a_.Events 0 0).bind fun o=>o.elim (fun x171=>some 0) (fun r172=>some r172)
@[irreducible] def mg_60:List MOp:=[fa_ 10 11 1 1,fL 10 12 11,gF 10 13 (.len false (.t 12)),gF 10 14 (.bin false .gtr (.t 13) (cI 120)),pO 10 14 15]
@[irreducible] def mg_61:List MOp:=[fa_ 27 28 0 5,fL 27 29 28,gF 27 30 (.bin false .gtr (.t 29) (cI 1099511627776)),pO 27 30 31]
@[irreducible] def mc_15:MC := (sR [bT .lss 19 18 20] (.seq (.cond (.t 20) .skip (.exit 0)) (.seq (.block 1 (sR [iA 7 17 19 21,lN 7 21 22,mo (.alloc [(.int .i64 0),(.int .i64 0),(.int .i64 0),(.int .i64 0),(.int .i64 0),(.int .i64 0),(.int .i64 0)]) 5,⟨.st 7 (.t 5) (.t 22),none,none⟩] (.seq (.seq (.regI [.op (oF 0 5 23),.op (oL 23 24),.op (oV 3 25),.op (bT .lss 24 25 26),.op (oV 26 27),.grp mg_61,.op (oV 31 32),.op (gF 32 33 (.ld (some 2) (.t 1))),.op (gF 32 34 (.ld (some 7) (.t 5))),.op (gF 32 35 (.call (.f 92) [(.t 33),(.t 34)] [] [])),.op (gF 32 36 (.not (.t 35))),.op (pO 32 36 37)]) (.cond (.t 37) (sR [oC 34 2] .ret) .skip)) (.note (.gc [1,5,17,18,19,28,29,30,33,34,35,36]) (.reg [oF 0 5 38,oL 38 39,oV 39 3]))))) (.reg [aI 19 1 40,oV 40 19]))))
def mc_3:MC := (sR [bx 0 1,oC 0 2] (.seq (.seq (.regI [.op (oF 0 1 6),.op (oL 6 7),.op (mo (.call (.f 91) [(.t 7),(cI 1),(cI 16)] [] []) 8),.op (nT 8 9),.op (oV 9 10),.grp mg_60]) (.cond (.t 15) (sR [oC 34 2] .ret) .skip)) (sR [oC 0 3] (.seq (.seq (.note (.gc [1,3,28,29,30,33,34,35,36]) (.reg [oF 1 1 16,oL 16 17,lE 17 18,oC 0 19])) (.block 0 (.loop mc_15))) (sR [oC 0 2] .ret)))))
attribute [go_sem] F_15
instance:GV mg_61 31 [28,29,30]:=⟨⟩
instance:LI mc_15 19 18 [1,17,18] [1] (fun y:Int=>[(3,.int .i64 y)]) (fun y=>[]) []:=⟨⟩
instance:GV mg_60 15 [11,12,13,14]:=⟨⟩
instance Wq_access_Check {a_:GEstate}:WI (F_3 a_) Tryz.prog 50 [GEstate.v a_] [] (fun z=>.int .i64 z) (fun z=>[]):=⟨fun Q Q' h hQ=>by
 refine acallM mc_3 [] [] [.t 2] Tryz.func50 fun M=>?_
 unfold F_3 at h
 unfold mc_3
 exact tX⟩
def F_i (d_:GDirectory) (a_:GEstate):Option Int := (F_9 d_).bind fun y4=>bif (!decide (y4=0)) then some y4 else (F_3 a_).bind fun y6=>some y6
def mc_i:MC := (sR [bx 0 2,bx 1 3,oC 0 4] (.seq (sR [lN 2 2 6,k1 49 6 7,oV 7 5] (sR [oV 5 8,bC .neq 8 0 9] (.cond (.t 9) (sR [oV 5 10,oV 10 4] .ret) .skip))) (.seq (.note (.gc [3]) (.reg [lN 2 3 11,k1 50 11 12,oV 12 4])) .ret)))
instance Wq_readers_Check {d_:GDirectory} {a_:GEstate}:WI (F_i d_ a_) Tryz.prog 121 [GDirectory.v d_,GEstate.v a_] [] (fun z=>.int .i64 z) (fun z=>[]):=⟨fun Q Q' h hQ=>by
 refine acallM mc_i [] [] [.t 4] Tryz.func121 fun M=>?_
 unfold F_i at h
 unfold mc_i
 exact tX⟩
def F_1 (a_:GEstate) (place_:Int):Option Bool := (F_3 a_).bind fun y4=>jn (α:=Bool) (bif decide (y4=0) then (F_6 a_ place_).bind fun y6=>some y6 else some false) fun j7=>some j7
@[irreducible] def mg_62:List MOp:=[gT 8 9 (.ld (some 2) (.t 2)),tV 8 10 1,gT 8 11 (.call (.f 122) [(.t 9),(.t 10)] [] []),pA 8 11 12]
def mc_1:MC := (sR [bx 0 2,mF 4] (.seq (.regI [.op (lN 2 2 5),.op (k1 50 5 6),.op (bC .eql 6 0 7),.op (oV 7 8),.grp mg_62,.op (oV 12 4)]) .ret))
instance:GI mg_62 [4] [] (fun y:Bool=>[(12,.bool y)]) (fun y=>[]):=⟨⟩
instance Wq_access_known {a_:GEstate} {place_:Int}:WI (F_1 a_ place_) Tryz.prog 151 [GEstate.v a_,.int .i64 place_] [] (fun z=>.bool z) (fun z=>[]):=⟨fun Q Q' h hQ=>by
 refine acallM mc_1 [] [] [.t 4] Tryz.func151 fun M=>?_
 unfold F_1 at h
 unfold mc_1
 exact tX⟩
def F_4w (place_:Int) (t_:Int) (k24:Int) (a19:Int×GAccess) (x18:Unit):Option (Fl Unit (Int×Bool)) := grp ((decide (t_<a19.2.Time)||(!decide (a19.2.Place=place_)))) fun b26=>bif b26 then some (.nx ()) else bif decide (a19.2.Kind=4) then some (.ex (0,false)) else grp ((decide (a19.2.Kind=3)&&decide (t_<a19.2.Until))) fun b28=>bif b28 then some (.ex (a19.1,true)) else some (.nx ())
def F_4 (a_:GEstate) (place_:Int) (t_:Int):Option (Int×Bool) := (F_1 a_ place_).bind fun y4=>bif (!y4) then some (0,false) else (backF a_.Events).bind fun y17=>(forL (F_4w place_ t_) (revp a_.Events) 0 ()).bind fun o=>o.elim (fun x29=>some (0,false)) (fun r30=>some r30)
@[irreducible] def mg_53:List MOp:=[fa_ 24 25 2 9,fL 24 26 25,fL 24 27 4,gF 24 28 (.bin false .neq (.t 26) (.t 27)),pO 24 28 29]
@[irreducible] def mg_54:List MOp:=[ta_ 38 39 4 9,tL 38 40 39,tL 38 41 5,gT 38 42 (.bin false .gtr (.t 40) (.t 41)),pA 38 42 43]
@[irreducible] def mc_55:MC := (.block 1 (.block 2 (.seq (.note (.gc [4,5,6,7,8,9,25,26,27,28,39,40,41,42]) (.regI [.op (oF 0 9 20),.op (oL 20 21),.op (oL 5 22),.op (bT .gtr 21 22 23),.op (oV 23 24),.grp mg_53,.op (oV 29 19)])) (.cond (.t 19) .skip (.seq (.note (.gc [5,6,7,8,9,39,40,41,42]) (.reg [oF 1 9 31,oL 31 32,bC .eql 32 4 33,oV 33 30])) (.cond (.t 30) (sR [⟨.st 1 (.t 6) (cI 0),none,none⟩,⟨.st 1 (.t 7) (.c (.bool false)),none,none⟩] .ret) (.seq (.regI [.op (oF 1 9 35),.op (oL 35 36),.op (bC .eql 36 3 37),.op (oV 37 38),.grp mg_54,.op (oV 43 34)]) (.cond (.t 34) (.seq (.note (.gc [6,7,8]) (.reg [oV 8 44,⟨.st 1 (.t 6) (.t 44),none,none⟩,⟨.st 1 (.t 7) (.c (.bool true)),none,none⟩])) .ret) .skip))))))))
def mc_4:MC := (sR [bx 0 3,bx 1 4,bx 2 5,mo (.alloc [(.int .i64 0)]) 6,mo (.alloc [(.bool false)]) 7] (.seq (sR [lN 2 3 10,oL 4 11,k2 151 10 11 12,nT 12 13] (.cond (.t 13) (sR [⟨.st 1 (.t 6) (cI 0),none,none⟩,⟨.st 1 (.t 7) (.c (.bool false)),none,none⟩] .ret) .skip)) (.seq (sR [oF 1 3 14,oL 14 15,k1 152 15 16] (.block 0 (.rngF (.t 16) [17,18] (sR [oV 17 8] (.reg [mo (.alloc [(.int .i64 0),(.int .i64 0),(.int .i64 0),(.int .i64 0),(.int .i64 0),(.int .i64 0),(.int .i64 0)]) 9,⟨.st 7 (.t 9) (.t 18),none,none⟩])) mc_55))) (sR [⟨.st 1 (.t 6) (cI 0),none,none⟩,⟨.st 1 (.t 7) (.c (.bool false)),none,none⟩] .ret))))
instance Wq_access_Linked {a_:GEstate} {place_ t_:Int}:WI (F_4 a_ place_ t_) Tryz.prog 123 [GEstate.v a_,.int .i64 place_,.int .i64 t_] [] (fun z=>.tup [.int .i64 z.1,.bool z.2]) (fun z=>[]):=⟨fun Q Q' h hQ=>by
 refine acallM mc_4 [] [] [.c 6 none,.c 7 none] Tryz.func123 fun M=>?_
 unfold F_4 at h
 unfold mc_4
 replace h:=tY h
 refine tB ?_
 repeat' (first
 | (exact tZ)
 | ((first|refine oblg h ?_|refine roomG h ?_|refine inbG h ?_|refine incG h ?_|refine divG h ?_|refine appG h ?_|refine appC h ?_|refine fork h ?_ ?_|refine forkS h ?_ ?_)<;>clear h<;>intro hc h)
 | (obtain ⟨y,hy,h⟩:=h;(first|have hw:=W_7v (f:=GAccess.v) hy|have hw:=WI.w hy);replace hw:=tY hw;(first|refine M.sC hw ?_|refine M.sD hw ?_);clear hw hy;refine tB ?_)
 | (refine M.gv1 (ms:=mg_54) 43 [39,40,41,42] h ?_ ?_<;>first
 | (clear h;intro K hK1;unfold mg_54;refine tB ?_)
 | (clear h;intro b h;replace h:=tY h;refine tB ?_))
 | (refine M.gv1 (ms:=mg_53) 29 [25,26,27,28] h ?_ ?_<;>first
 | (clear h;intro K hK2;unfold mg_53;refine tB ?_)
 | (clear h;intro b h;replace h:=tY h;refine tB ?_))
 | (refine M.rfor (b:=mc_55) (enc:=fun a=>[.int .i64 a.1,GAccess.v a.2]) [3,4,5,6,7] [3,7,6,5,4] (fun x=>[]) [] h rfl (W_7w fun a=>⟨_,rfl,rfl,rfl⟩) rfl (fun a=>⟨rfl,rfl⟩) ?_ ?_ rfl ?_<;>first
 | (clear h;intro k a x Qn K hK3 hkN3 h hf;clear hf;unfold F_4w at h;unfold mc_55;replace h:=tY h;refine tB ?_)
  |(clear h;intro x h;replace h:=tY h;refine tB ?_)
  |(clear h;(try refine tB ?_);exact tU0;done))
 | ((first|refine hK1 _ ?_|refine hK2 _ ?_);exact tU;done)
 | (refine hK3 _ ?_;(try refine tB ?_);refine ⟨_,h,?_⟩;exact tU0;done)
 | (refine bfork (fun hc=>?_) (fun hc=>?_))
 | (refine tE ?_;(first|rw [M.lok_compU]|rw [M.lokD_compU]);refine tB ?_)
 | (refine tA ?_)
 | fail)⟩
def F_2q (d_:GDirectory) (p_:Int):Option Bool := grp ((decide (0≤p_)&&decide (p_<(d_.Kinds.length:Int)))) fun b3=>jn (α:=Bool) (bif b3 then chk (inb p_ d_.Kinds.length) (some (!decide ((d_.Kinds.getD (p_).toNat default)=2))) else some false) fun j4=>some j4
@[irreducible] def mg_63:List MOp:=[tV 7 8 1,ta_ 7 9 0 2,tL 7 10 9,gT 7 11 (.len false (.t 10)),gT 7 12 (.bin false .lss (.t 8) (.t 11)),pA 7 12 13]
@[irreducible] def mg_64:List MOp:=[ta_ 14 15 0 2,tL 14 16 15,tV 14 17 1,gT 14 18 (.iad 1 (.t 16) (.t 17)),tL 14 19 18,gT 14 20 (.bin false .neq (.t 19) (cI 2)),pA 14 20 21]
def mc_2q:MC := (sR [bx 0 2,mF 4] (.seq (.regI [.op (oV 1 5),.op (bC .geq 5 0 6),.op (oV 6 7),.grp mg_63,.op (oV 13 14),.grp mg_64,.op (oV 21 4)]) .ret))
instance:GI mg_64 [4] [] (fun y:Bool=>[(21,.bool y)]) (fun y=>[]):=⟨⟩
instance:GV mg_63 13 [8,9,10,11,12]:=⟨⟩
instance Wq_readers_Reader {d_:GDirectory} {p_:Int}:WI (F_2q d_ p_) Tryz.prog 189 [GDirectory.v d_,.int .i64 p_] [] (fun z=>.bool z) (fun z=>[]):=⟨fun Q Q' h hQ=>by
 refine acallM mc_2q [] [] [.t 4] Tryz.func189 fun M=>?_
 unfold F_2q at h
 unfold mc_2q
 exact tX⟩
def F_1w (d_:GDirectory) (a_:GEstate) (p_:Int) (place_:Int):Option Bool := (F_i d_ a_).bind fun y6=>jn (α:=Bool) (bif decide (y6=0) then (F_2q d_ p_).bind fun y8=>some y8 else some false) fun j9=>jn (α:=Bool) (bif j9 then (F_6 a_ place_).bind fun y11=>some y11 else some false) fun j12=>some j12
@[irreducible] def mg_65:List MOp:=[gT 13 14 (.ld (some 2) (.t 4)),tV 13 15 2,gT 13 16 (.call (.f 189) [(.t 14),(.t 15)] [] []),pA 13 16 17]
@[irreducible] def mg_66:List MOp:=[gT 18 19 (.ld (some 2) (.t 5)),tV 18 20 3,gT 18 21 (.call (.f 122) [(.t 19),(.t 20)] [] []),pA 18 21 22]
def mc_1w:MC := (sR [bx 0 4,bx 1 5,mF 8] (.seq (.regI [.op (lN 2 4 9),.op (lN 2 5 10),.op (k2 121 9 10 11),.op (bC .eql 11 0 12),.op (oV 12 13),.grp mg_65,.op (oV 17 18),.grp mg_66,.op (oV 22 8)]) .ret))
instance:GI mg_66 [8] [] (fun y:Bool=>[(22,.bool y)]) (fun y=>[]):=⟨⟩
instance:GI mg_65 [3,5,8] [5] (fun y:Bool=>[(17,.bool y)]) (fun y=>[]):=⟨⟩
instance Wq_readers_fine {d_:GDirectory} {a_:GEstate} {p_ place_:Int}:WI (F_1w d_ a_ p_ place_) Tryz.prog 153 [GDirectory.v d_,GEstate.v a_,.int .i64 p_,.int .i64 place_] [] (fun z=>.bool z) (fun z=>[]):=⟨fun Q Q' h hQ=>by
 refine acallM mc_1w [] [] [.t 8] Tryz.func153 fun M=>?_
 unfold F_1w at h
 unfold mc_1w
 exact tX⟩
def F_1x (d_:GDirectory) (p_:Int):Option Bool := (F_9 d_).bind fun y4=>jn (α:=Bool) (bif decide (y4=0) then (F_c d_ p_).bind fun y6=>some y6 else some false) fun j7=>some j7
@[irreducible] def mg_67:List MOp:=[gT 8 9 (.ld (some 2) (.t 2)),tV 8 10 1,gT 8 11 (.call (.f 89) [(.t 9),(.t 10)] [] []),pA 8 11 12]
def mc_1x:MC := (sR [bx 0 2,mF 4] (.seq (.regI [.op (lN 2 2 5),.op (k1 49 5 6),.op (bC .eql 6 0 7),.op (oV 7 8),.grp mg_67,.op (oV 12 4)]) .ret))
instance:GI mg_67 [4] [] (fun y:Bool=>[(12,.bool y)]) (fun y=>[]):=⟨⟩
instance Wq_directory_known {d_:GDirectory} {p_:Int}:WI (F_1x d_ p_) Tryz.prog 215 [GDirectory.v d_,.int .i64 p_] [] (fun z=>.bool z) (fun z=>[]):=⟨fun Q Q' h hQ=>by
 refine acallM mc_1x [] [] [.t 4] Tryz.func215 fun M=>?_
 unfold F_1x at h
 unfold mc_1x
 exact tX⟩
noncomputable def F_1y (k351:Int) (a352:Bool) (x350:(List Int)×(List Bool)):Option ((List Int)×(List Bool)) := jn (α:=Bool) (bif a352 then chk (inb k351 x350.2.length) (some (!(x350.2.getD ((k351).toNat) default))) else some false) fun j360=>bif j360 then chk (room (x350.1.length+[k351].length) 8) (chk (inb k351 x350.2.length) (some ((x350.1++[k351]),x350.2.set ((k351).toNat) true))) else some (x350.1,x350.2)
noncomputable def F_2r (x_:List (List Bool)) (x257:(List Int)×(List Bool)):Option (Fl ((List Int)×(List Bool)) (List Bool)) := bif decide (0<(x257.1.length:Int)) then chk (inb 0 x257.1.length) (chk (inb (x257.1.getD 0 default) x_.length) ((foldL F_1y (x_.getD (x257.1.getD 0 default).toNat default) 0 (x257.1,x257.2)).bind fun x361=>chk (inc 1 (x361.1.length:Int) x361.1.length) (some (.nx ((x361.1.drop 1).take (x361.1.length - 1),x361.2))))) else some (.ex x257.2)
noncomputable def F_16 (x_:List (List Bool)) (p_:Int):Option (List Bool) := chk (roomI (x_.length:Int) (x_.length:Int) 1) (chk (inb p_ (List.replicate ((x_.length:Int)).toNat false).length) ((loop (F_2r x_) ([p_],(List.replicate ((x_.length:Int)).toNat false).set ((p_).toNat) true)).bind fun r362=>some r362))
@[irreducible] def mg_68:List MOp:=[tV 35 36 5,tV 35 37 7,gT 35 38 (.iad 1 (.t 36) (.t 37)),tL 35 39 38,gT 35 40 (.not (.t 39)),pA 35 40 41]
@[irreducible] def mc_1y:MC := (sR [bT .lss 29 28 30] (.seq (.cond (.t 30) .skip (.exit 2)) (.seq (.block 3 (sR [oV 29 31,iA 1 27 29 32,oL 32 33,oV 31 7,oV 33 8] (.seq (.regI [.op (oV 8 34),.op (oV 34 35),.grp mg_68]) (.cond (.t 41) (.reg [oV 5 42,oV 7 43,oV 6 44,oV 7 45,mo (.bslice 1 [(.t 45)]) 46,ap 1 8 44 46 47,iA 1 42 43 48,⟨.st 1 (.t 48) (.c (.bool true)),none,none⟩,oV 47 6]) .skip)))) (.reg [aI 29 1 49,oV 49 29]))))
@[irreducible] def mc_2r:MC := (.seq (sR [oV 6 17,lE 17 18,bC .gtr 18 0 19] (.cond (.t 19) .skip (.exit 0))) (.seq (.block 1 (sR [oV 0 22,oV 6 23,mo (.iad 1 (.t 23) (cI 0)) 24,oL 24 25,iA 1 22 25 26,oL 26 27,lE 27 28,oC 0 29] (.block 2 (.loop mc_1y)))) (.reg [oV 6 20,mo (.slc 1 (.t 20) (some (cI 1)) none) 21,oV 21 6])))
def mc_16:MC := (sR [mo (.mv (.c (.sl []))) 4] (sR [oV 0 9,lE 9 10,mo (.mksl 1 1 (.bool false) (.t 10) (.t 10)) 11,oV 11 5] (sR [oV 5 12,oV 1 13,iA 1 12 13 14,⟨.st 1 (.t 14) (.c (.bool true)),none,none⟩] (.seq (sR [oV 1 15,mo (.bslice 1 [(.t 15)]) 16,oV 16 6] (.block 0 (.loop mc_2r))) (sR [oV 5 50,oV 50 4] .ret)))))
attribute [go_sem] F_1y F_2r
instance:GI mg_68 [0,5,6,7,27,28,29] [2006,11] (fun y:Bool=>[(41,.bool y)]) (fun y=>[]):=⟨⟩
instance:LI mc_1y 29 28 [0,27,28] [] (fun y:(List Int)×(List Bool)=>[(5,.osl 11 1 0 y.2.length),(6,.osl 2006 1 0 y.1.length)]) (fun y=>[.o 2006 (.arr 1 (y.1.map (V.int .i64))),.o 11 (.arr 1 (y.2.map V.bool))]) [.gc [0,5,6,27,28,29],.acc 6 2006 1]:=⟨⟩
instance:LI mc_2r 0 0 [0] [] (fun y:(List Int)×(List Bool)=>[(5,.osl 11 1 0 y.2.length),(6,.osl 2006 1 0 y.1.length)]) (fun y=>[.o 2006 (.arr 1 (y.1.map (V.int .i64))),.o 11 (.arr 1 (y.2.map V.bool))]) [.gc [0,5,6],.trim 6,.acc 6 2006 1]:=⟨⟩
instance Wq_directory_table_upward {x_:List (List Bool)} {p_:Int}:WI (F_16 x_ p_) Tryz.prog 218 [.sl (x_.map (slV V.bool)),.int .i64 p_] [] (fun z=>.sl (z.map V.bool)) (fun z=>[]):=⟨fun Q Q' h hQ=>by
 refine acallM mc_16 [.fz 4] [] [.t 4] Tryz.func218 fun M=>?_
 unfold F_16 at h
 unfold mc_16
 exact tX⟩
def F_3m (k16:Int) (a17:Bool) (x15:List Int):Option (List Int) := bif a17 then chk (room (x15.length+[k16].length) 8) (some (x15++[k16])) else some x15
def F_17 (l_:List Bool):Option (List Int) := (foldL F_3m l_ 0 []).bind fun x18=>some x18
@[irreducible] def mc_3m:MC := (sR [bT .lss 8 7 9] (.seq (.cond (.t 9) .skip (.exit 0)) (.seq (.block 1 (sR [oV 8 10,iA 1 6 8 11,oL 11 12,oV 10 4,oV 12 5] (sR [oV 5 13] (.cond (.t 13) (.reg [oV 3 14,oV 4 15,mo (.bslice 1 [(.t 15)]) 16,ap 1 8 14 16 17,oV 17 3]) .skip)))) (.reg [aI 8 1 18,oV 18 8]))))
def mc_17:MC := (sR [mo (.mv (.c (.sl []))) 2] (sR [mo (.mv (.c .nils)) 3] (.seq (sR [oV 0 6,lE 6 7,oC 0 8] (.block 0 (.loop mc_3m))) (sR [oV 3 19,oV 19 2] .ret))))
attribute [go_sem] F_3m
instance:LI mc_3m 8 7 [6,7] [] (fun y:List Int=>[(3,.osl 2003 1 0 y.length)]) (fun y=>[.o 2003 (.arr 1 (y.map (V.int .i64)))]) [.gc [3,6,7,8],.acc 3 2003 1]:=⟨⟩
instance Wq_directory_those {l_:List Bool}:WI (F_17 l_) Tryz.prog 216 [.sl (l_.map V.bool)] [] (fun z=>.sl (z.map (V.int .i64))) (fun z=>[]):=⟨fun Q Q' h hQ=>by
 refine acallM mc_17 [.fz 2] [] [.t 2] Tryz.func216 fun M=>?_
 unfold F_17 at h
 unfold mc_17
 exact tX⟩
noncomputable def F_t (d_:GDirectory) (p_:Int) (t_:Int):Option (List Int) := (F_1x d_ p_).bind fun y4=>bif (!y4) then some [] else (atF d_.Kinds.length (d_.Events.map fun e=>(e.Time,e.Kind,e.Principal,e.Group)) t_).bind fun y8=>(F_16 y8 p_).bind fun y9=>(F_17 y9).bind fun y10=>some y10
def mc_t:MC := (sR [bx 0 3,mo (.mv (.c (.sl []))) 6] (.seq (sR [lN 2 3 7,oV 1 8,k2 215 7 8 9,nT 9 10] (.cond (.t 10) (sR [mo (.mv (.c (.sl []))) 6] .ret) .skip)) (sR [lN 2 3 11,oV 2 12,k2 217 11 12 13,oV 1 14,k2 218 13 14 15,k1 216 15 16,oV 16 6] .ret)))
instance Wq_directory_Upward {d_:GDirectory} {p_ t_:Int}:WI (F_t d_ p_ t_) Tryz.prog 190 [GDirectory.v d_,.int .i64 p_,.int .i64 t_] [] (fun z=>.sl (z.map (V.int .i64))) (fun z=>[]):=⟨fun Q Q' h hQ=>by
 refine acallM mc_t [.fz 6] [] [.t 6] Tryz.func190 fun M=>?_
 unfold F_t at h
 unfold mc_t
 replace h:=tY h
 refine tB ?_
 repeat' (first
 | (exact tZ)
 | ((first|refine oblg h ?_|refine roomG h ?_|refine inbG h ?_|refine incG h ?_|refine divG h ?_|refine appG h ?_|refine appC h ?_|refine fork h ?_ ?_|refine forkS h ?_ ?_)<;>clear h<;>intro hc h)
 | (obtain ⟨y,hy,h⟩:=h;(first|have hw:=W_at (f:=GMember.v) (e4:=fun e=>(e.Time,e.Kind,e.Principal,e.Group)) (fun _=>rfl) hy|have hw:=WI.w hy);replace hw:=tY hw;(first|refine M.sC hw ?_|refine M.sD hw ?_);clear hw hy;refine tB ?_)
 | (refine tE ?_;(first|rw [M.lok_compU]|rw [M.lokD_compU]);refine tB ?_)
 | (refine tA ?_)
 | fail)⟩
def F_3n (place_:Int) (t_:Int) (k44:Int) (a45:GAccess) (x43:List (Int×Int)):Option (List (Int×Int)) := grp ((decide (t_<a45.Time)||(!decide (a45.Place=place_)))) fun b53=>bif b53 then some x43 else bif decide (a45.Kind=1) then some (aput a45.Principal k44 x43) else bif decide (a45.Kind=2) then some (adel a45.Principal x43) else some x43
def F_1z (a_:GEstate) (place_:Int) (t_:Int):Option (List (Int×Int)) := (foldL (F_3n place_ t_) a_.Events 0 []).bind fun x54=>some x54
@[irreducible] def mg_69:List MOp:=[fa_ 24 25 2 9,fL 24 26 25,fV 24 27 1,gF 24 28 (.bin false .neq (.t 26) (.t 27)),pO 24 28 29]
@[irreducible] def mc_3n:MC := (sR [bT .lss 14 13 15] (.seq (.cond (.t 15) .skip (.exit 0)) (.seq (.block 1 (sR [oV 14 16,iA 7 12 14 17,lN 7 17 18,mo (.alloc [(.int .i64 0),(.int .i64 0),(.int .i64 0),(.int .i64 0),(.int .i64 0),(.int .i64 0),(.int .i64 0)]) 9,oV 16 8,⟨.st 7 (.t 9) (.t 18),none,none⟩] (.block 2 (.seq (.regI [.op (oF 0 9 20),.op (oL 20 21),.op (oV 2 22),.op (bT .gtr 21 22 23),.op (oV 23 24),.grp mg_69,.op (oV 29 19)]) (.cond (.t 19) .skip (.seq (.note (.gc [1,2,7,8,9,12,13,14,25,26,27,28]) (.reg [oF 1 9 31,oL 31 32,bC .eql 32 1 33,oV 33 30])) (.cond (.t 30) (.reg [oV 7 34,oF 3 9 35,oL 35 36,oV 8 37,⟨.mp (.up (.int .i64)) [(.t 34),(.t 36),(.t 37)],none,none⟩]) (sR [oF 1 9 39,oL 39 40,bC .eql 40 2 41,oV 41 38] (.cond (.t 38) (.note (.gc [1,2,7,9,12,13,14,25,26,27,28]) (.reg [oV 7 42,oF 3 9 43,oL 43 44,⟨.mp (.del (.int .i64)) [(.t 42),(.t 44)],none,none⟩])) .skip))))))))) (.reg [aI 14 1 45,oV 45 14]))))
def mc_1z:MC := (sR [bx 0 3,mo (.mv (.c .nilm)) 6] (sR [mo (.mp (.mk (.int .i64)) []) 10,oV 10 7] (.seq (sR [oF 1 3 11,oL 11 12,lE 12 13,oC 0 14] (.block 0 (.loop mc_3n))) (sR [oV 7 46,oV 46 6] .ret))))
attribute [go_sem] F_3n
instance:GV mg_69 29 [25,26,27,28]:=⟨⟩
instance:LI mc_3n 14 13 [1,2,7,12,13] [] (fun y:List (Int×Int)=>[]) (fun y=>[.o 10 (.map (.int .i64) (y.map (kvV (V.int .i64) (V.int .i64))))]) []:=⟨⟩
instance Wq_access_grants {a_:GEstate} {place_ t_:Int}:WI (F_1z a_ place_ t_) Tryz.prog 219 [GEstate.v a_,.int .i64 place_,.int .i64 t_] [] (fun z=>(mpV (.int .i64) (V.int .i64) (V.int .i64)) z) (fun z=>[]):=⟨fun Q Q' h hQ=>by
 refine acallM mc_1z [.fz 6] [] [.t 6] Tryz.func219 fun M=>?_
 unfold F_1z at h
 unfold mc_1z
 exact tX⟩
noncomputable def F_20 (k21:Int) (a19:Int×Int) (x18:List Int):Option (List Int) := chk (room (x18.length+[a19.1].length) 8) (some (x18++[a19.1]))
noncomputable def F_e (a_:GEstate) (place_:Int) (t_:Int):Option (List Int) := (F_1 a_ place_).bind fun y4=>bif (!y4) then some [] else (F_1z a_ place_ t_).bind fun y15=>permL (fun l20=>(foldL F_20 l20 0 []).bind fun x22=>(sortI x22).bind fun y24=>some y24) y15
@[irreducible] def mc_20:MC := (sR [mo (.mp .nxt [(.t 17)]) 18,xT 0 18 19] (.seq (.cond (.t 19) .skip (.exit 0)) (.block 1 (sR [mo (.mp .ent [(.t 17)]) 20,xT 0 20 21,oV 21 8] (.reg [oV 7 22,oV 8 23,mo (.bslice 1 [(.t 23)]) 24,ap 1 8 22 24 25,oV 25 7])))))
def mc_e:MC := (sR [bx 0 3,mo (.mv (.c (.sl []))) 6] (.seq (sR [lN 2 3 9,oV 1 10,k2 151 9 10 11,nT 11 12] (.cond (.t 12) (sR [mo (.mv (.c (.sl []))) 6] .ret) .skip)) (sR [mo (.mv (.c .nils)) 7] (.seq (sR [lN 2 3 13,oV 1 14,oV 2 15,k3 219 13 14 15 16,mo (.mp .rng [(.t 16)]) 17] (.block 0 (.loop mc_20))) (sR [oV 7 26,mo (.call (.f 156) [(.t 26)] [2007] []) 27] (sR [oV 7 28,oV 28 6] .ret))))))
instance Wq_access_Granted {a_:GEstate} {place_ t_:Int}:WI (F_e a_ place_ t_) Tryz.prog 191 [GEstate.v a_,.int .i64 place_,.int .i64 t_] [] (fun z=>.sl (z.map (V.int .i64))) (fun z=>[]):=⟨fun Q Q' h hQ=>by
 refine acallM mc_e [.fz 6] [] [.t 6] Tryz.func191 fun M=>?_
 unfold F_e at h
 unfold mc_e
 replace h:=tY h
 refine tB ?_
 repeat' (first
 | (exact tZ)
 | (refine And.intro (by refine ⟨?_,?_,?_,?_⟩<;>omega) ?_;first|exact hQ _ h|(rw [zP (by omega)];exact hQ _ h))
 | (rw [←hlen];exact hQ _ h)
 | (have hq:=hQ _ h;simp only [xX,Nat.min_eq_left hlen.1] at hq;exact hq)
 | ((first|refine oblg h ?_|refine roomG h ?_|refine inbG h ?_|refine incG h ?_|refine divG h ?_|refine appG h ?_|refine appC h ?_|refine fork h ?_ ?_|refine forkS h ?_ ?_)<;>clear h<;>intro hc h)
 | (obtain ⟨y,hy,h⟩:=h;(first|(have hw:=acall_swe 1000 2007 (W_5k hy);replace hw:=tY hw;(try simp only [hlen] at hw);have hlen:=sortI_len hy)|have hw:=WI.w hy);replace hw:=tY hw;(first|refine M.sC hw ?_|refine M.sD hw ?_);clear hw hy;refine tB ?_)
 | (refine M.mfold1 (b:=mc_20) (kv:=(kvV (V.int .i64) (V.int .i64))) 17 [17] [] (fun x=>[(7,.osl 2007 1 0 x.length)]) (fun x=>[.o 2007 (.arr 1 (x.map (V.int .i64)))]) [.gc [7,17],.acc 7 2007 1] h ?_ ?_<;>first
 | (clear h;intro rem cur x k Qn K hK1 hs1 hn1;unfold F_20 at hn1;unfold mc_20;refine tB ?_)
 | (clear h;(try refine tB ?_);exact tU0;done))
 | (refine nxt_of hs1 hn1 ?_ ?_<;>first
  |(intro h;rw [M.lok_eq];replace h:=tY h;refine tB ?_)
  |(intro i a h;rw [M.lok_eq];replace h:=tY h;refine tB ?_))
 | (apply hK1;(try refine tB ?_);refine ⟨_,h,?_⟩;exact tU0;done)
 | (refine tE ?_;(first|rw [M.lok_compU]|rw [M.lokD_compU]);refine tB ?_)
 | (refine tA ?_)
 | fail)⟩
noncomputable def F_21 (y2:List Int) (k37:Int) (a38:Int) (x36:Unit):Option (Fl Unit (Int×Bool)) := (F_2n y2 a38).bind fun y46=>bif y46 then some (.ex (a38,true)) else some (.nx ())
noncomputable def F_18 (d_:GDirectory) (a_:GEstate) (p_:Int) (place_:Int) (t_:Int):Option (Int×Bool) := (F_t d_ p_ t_).bind fun y2=>(F_e a_ place_ t_).bind fun y25=>(forL (F_21 y2) y25 0 ()).bind fun o=>o.elim (fun x47=>some (0,false)) (fun r48=>some r48)
@[irreducible] def mc_21:MC := (sR [bT .lss 24 23 25] (.seq (.cond (.t 25) .skip (.exit 0)) (.seq (.block 1 (sR [iA 1 22 24 26,oL 26 27,oV 27 14] (sR [oV 12 28,oV 14 29,k2 192 28 29 30] (.cond (.t 30) (.seq (.note (.gc [14]) (.reg [oV 14 31,oV 31 10,mT 11])) .ret) .skip)))) (.reg [aI 24 1 32,oV 32 24]))))
def mc_18:MC := (sR [bx 0 5,bx 1 6,oC 0 10,mF 11] (sR [lN 2 5 15,oV 2 16,oV 4 17,k3 190 15 16 17 18,oV 18 12] (.seq (.seq (.note (.gc [3,4,6,12]) (.reg [lN 2 6 19,oV 3 20,oV 4 21,k3 191 19 20 21 22,lE 22 23,oC 0 24])) (.block 0 (.loop mc_21))) (sR [oC 0 10,mF 11] .ret))))
attribute [go_sem] F_21
instance:LI mc_21 24 23 [12,22,23] [] (fun y:Unit=>[]) (fun y=>[]) []:=⟨⟩
instance Wq_readers_grant {d_:GDirectory} {a_:GEstate} {p_ place_ t_:Int}:WI (F_18 d_ a_ p_ place_ t_) Tryz.prog 154 [GDirectory.v d_,GEstate.v a_,.int .i64 p_,.int .i64 place_,.int .i64 t_] [] (fun z=>.tup [.int .i64 z.1,.bool z.2]) (fun z=>[]):=⟨fun Q Q' h hQ=>by
 refine acallM mc_18 [] [] [.t 10,.t 11] Tryz.func154 fun M=>?_
 unfold F_18 at h
 unfold mc_18
 exact tX⟩
noncomputable def F_u (d_:GDirectory) (a_:GEstate) (p_:Int) (place_:Int) (t_:Int):Option Bool := (F_1w d_ a_ p_ place_).bind fun y4=>bif (!y4) then some false else (F_4 a_ place_ t_).bind fun y6=>(F_18 d_ a_ p_ place_ t_).bind fun y8=>grp ((y6.2||y8.2)) fun b10=>some b10
@[irreducible] def mg_6a:List MOp:=[fV 38 39 14,pO 38 39 40]
def mc_u:MC := (sR [bx 0 5,bx 1 6,mF 10] (.seq (sR [lN 2 5 15,lN 2 6 16,oV 2 17,oV 3 18,mo (.call (.f 153) [(.t 15),(.t 16),(.t 17),(.t 18)] [] []) 19,nT 19 20] (.cond (.t 20) (sR [mF 10] .ret) .skip)) (.seq (.note (.gc [2,3,4,5,6,39]) (.reg [lN 2 6 22,oV 3 23,oV 4 24,k3 123 22 23 24 25,oV 25 21,xT 0 21 26,xT 1 21 27,oV 26 11,oV 27 12])) (.seq (.note (.gc [2,3,4,5,6,12,39]) (.reg [lN 2 5 29,lN 2 6 30,oV 2 31,oV 3 32,oV 4 33,mo (.call (.f 154) [(.t 29),(.t 30),(.t 31),(.t 32),(.t 33)] [] []) 34,oV 34 28,xT 0 28 35,xT 1 28 36,oV 35 13,oV 36 14])) (.seq (.note (.gc [12,14,39]) (.regI [.op (oV 12 37),.op (oV 37 38),.grp mg_6a,.op (oV 40 10)])) .ret)))))
instance:GV mg_6a 40 [39]:=⟨⟩
instance Wq_readers_May {d_:GDirectory} {a_:GEstate} {p_ place_ t_:Int}:WI (F_u d_ a_ p_ place_ t_) Tryz.prog 124 [GDirectory.v d_,GEstate.v a_,.int .i64 p_,.int .i64 place_,.int .i64 t_] [] (fun z=>.bool z) (fun z=>[]):=⟨fun Q Q' h hQ=>by
 refine acallM mc_u [] [] [.t 10] Tryz.func124 fun M=>?_
 unfold F_u at h
 unfold mc_u
 exact tX⟩
noncomputable def F_22 (d_:GDirectory) (a_:GEstate) (place_:Int) (t_:Int) (k54:Int) (a55:Int) (x53:Bool×(List Int)):Option (Bool×(List Int)) := (F_u d_ a_ k54 place_ t_).bind fun y63=>bif y63 then chk (room (x53.2.length+[k54].length) 8) (some (x53.1,(x53.2++[k54]))) else some (x53.1,x53.2)
noncomputable def F_19 (d_:GDirectory) (a_:GEstate) (place_:Int) (t_:Int):Option (GAudience×Int) := (F_i d_ a_).bind fun y4=>bif (!decide (y4=0)) then some ((GAudience.mk false []),y4) else (F_6 a_ place_).bind fun y8=>bif (!y8) then some ((GAudience.mk false []),6) else (F_4 a_ place_ t_).bind fun y10=>(foldL (F_22 d_ a_ place_ t_) d_.Kinds 0 (y10.2,[])).bind fun x64=>some ((GAudience.mk x64.1 x64.2),0)
@[irreducible] def mc_22:MC := (sR [bT .lss 39 38 40] (.seq (.cond (.t 40) .skip (.exit 0)) (.seq (.block 1 (sR [oV 39 41,oV 41 14] (sR [lN 2 4 42,lN 2 5 43,oV 14 44,oV 2 45,oV 3 46,mo (.call (.f 124) [(.t 42),(.t 43),(.t 44),(.t 45),(.t 46)] [] []) 47] (.cond (.t 47) (.note (.gc [2,3,4,5,8,13,14,38,39]) (.reg [oF 1 13 48,oL 48 49,oV 14 50,mo (.bslice 1 [(.t 50)]) 51,ap 1 8 49 51 52,oF 1 13 53,⟨.st 1 (.t 53) (.t 52),none,none⟩])) .skip)))) (.reg [aI 39 1 54,oV 54 39]))))
def mc_19:MC := (sR [bx 0 4,bx 1 5,mo (.alloc [(.bool false),(.sl [])]) 8,oC 0 9] (.seq (sR [lN 2 4 15,lN 2 5 16,k2 121 15 16 17,oV 17 10] (sR [oV 10 18,bC .neq 18 0 19] (.cond (.t 19) (.seq (.note (.gc [8,10]) (.reg [mo (.build [(.bool false),(.sl [])] []) 20,oV 10 21,⟨.st 2 (.t 8) (.t 20),none,none⟩,oV 21 9])) .ret) .skip))) (.seq (.seq (.note (.gc [2,3,4,5,8]) (.reg [lN 2 5 22,oV 2 23,k2 122 22 23 24,nT 24 25])) (.cond (.t 25) (.seq (.note (.gc [8]) (.reg [mo (.build [(.bool false),(.sl [])] []) 26,⟨.st 2 (.t 8) (.t 26),none,none⟩,oC 6 9])) .ret) .skip)) (sR [lN 2 5 28,oV 2 29,oV 3 30,k3 123 28 29 30 31,oV 31 27,xT 0 27 32,xT 1 27 33,oV 32 11,oV 33 12] (.seq (.note (.gc [2,3,4,5,8,12]) (.reg [oV 12 34,mo (.build [(.bool false),.nils] [(0,1,(.t 34))]) 35,mo (.alloc [(.bool false),(.sl [])]) 13,⟨.st 2 (.t 13) (.t 35),none,none⟩])) (.seq (sR [oF 0 4 36,oL 36 37,lE 37 38,oC 0 39] (.block 0 (.loop mc_22))) (sR [lN 2 13 55,⟨.st 2 (.t 8) (.t 55),none,none⟩,oC 0 9] .ret)))))))
attribute [go_sem] F_22
instance:LI mc_22 39 38 [2,3,4,5,8,13,38] [8,5,4] (fun y:Bool×(List Int)=>[]) (fun y=>[.o 13 (.cells [.bool y.1,.osl 4209 1 0 y.2.length]),.o 4209 (.arr 1 (y.2.map (V.int .i64)))]) [.gc [2,3,4,5,8,13,38,39],.ownC 13 1 4209 1 none]:=⟨⟩
instance Wq_readers_Who {d_:GDirectory} {a_:GEstate} {place_ t_:Int}:WI (F_19 d_ a_ place_ t_) Tryz.prog 78 [GDirectory.v d_,GEstate.v a_,.int .i64 place_,.int .i64 t_] [] (fun z=>.tup [GAudience.v z.1,.int .i64 z.2]) (fun z=>[]):=⟨fun Q Q' h hQ=>by
 refine acallM mc_19 [.fzc 8] [] [.c 8 (some 2),.t 9] Tryz.func78 fun M=>?_
 unfold F_19 at h
 unfold mc_19
 exact tX⟩
def F_23 (d_:GDirectory) (a_:GEstate) (content_:Int):Option Int := (F_i d_ a_).bind fun y4=>bif (!decide (y4=0)) then some y4 else (F_5 content_).bind fun y8=>bif (!y8) then some 2 else some 0
def mc_23:MC := (sR [bx 0 3,bx 1 4,oC 0 6] (.seq (sR [lN 2 3 8,lN 2 4 9,k2 121 8 9 10,oV 10 7] (sR [oV 7 11,bC .neq 11 0 12] (.cond (.t 12) (sR [oV 7 13,oV 13 6] .ret) .skip))) (.seq (.seq (.note (.gc [2]) (.reg [oV 2 14,k1 125 14 15,nT 15 16])) (.cond (.t 16) (sR [oC 2 6] .ret) .skip)) (sR [oC 0 6] .ret))))
instance Wq_exposure_check {d_:GDirectory} {a_:GEstate} {content_:Int}:WI (F_23 d_ a_ content_) Tryz.prog 79 [GDirectory.v d_,GEstate.v a_,.int .i64 content_] [] (fun z=>.int .i64 z) (fun z=>[]):=⟨fun Q Q' h hQ=>by
 refine acallM mc_23 [] [] [.t 6] Tryz.func79 fun M=>?_
 unfold F_23 at h
 unfold mc_23
 exact tX⟩
def F_2s (k20:Int) (a21:GAccess) (x19:List Int):Option (List Int) := chk (room (x19.length+[a21.Time].length) 8) (some (x19++[a21.Time]))
def F_24 (a_:GEstate):Option (List Int) := (F_3 a_).bind fun y4=>bif (!decide (y4=0)) then some [] else (foldL F_2s a_.Events 0 []).bind fun x22=>(compactI x22).bind fun y24=>some ((y24.2.drop 0).take y24.1)
@[irreducible] def mc_2s:MC := (sR [bT .lss 12 11 13] (.seq (.cond (.t 13) .skip (.exit 0)) (.seq (.block 1 (sR [iA 7 10 12 14,lN 7 14 15,mo (.alloc [(.int .i64 0),(.int .i64 0),(.int .i64 0),(.int .i64 0),(.int .i64 0),(.int .i64 0),(.int .i64 0)]) 5,⟨.st 7 (.t 5) (.t 15),none,none⟩] (.reg [oV 3 16,oF 0 5 17,oL 17 18,mo (.bslice 1 [(.t 18)]) 19,ap 1 8 16 19 20,oV 20 3]))) (.reg [aI 12 1 21,oV 21 12]))))
def mc_24:MC := (sR [bx 0 1,mo (.mv (.c .nils)) 2] (.seq (sR [lN 2 1 6,k1 50 6 7,bC .neq 7 0 8] (.cond (.t 8) (sR [mo (.mv (.c .nils)) 2] .ret) .skip)) (sR [mo (.mv (.c .nils)) 3] (.seq (sR [oF 1 1 9,oL 9 10,lE 10 11,oC 0 12] (.block 0 (.loop mc_2s))) (sR [oV 3 22,mo (.call (.f 157) [(.t 22)] [2003] []) 23,oV 23 2] .ret)))))
instance Wq_access_Times {a_:GEstate}:WI (F_24 a_) Tryz.prog 155 [GEstate.v a_] [] (fun z=>.osl 1900 1 0 z.length) (fun z=>[(1900,.arr 1 (z.map (V.int .i64)))]):=⟨fun Q Q' h hQ=>by
 refine acallM mc_24 [.gc [2],.trim 2,.acc 2 1900 1] [1900] [.t 2] Tryz.func155 fun M=>?_
 unfold F_24 at h
 unfold mc_24
 replace h:=tY h
 refine tB ?_
 repeat' (first
 | (exact tZ)
 | (refine And.intro (by refine ⟨?_,?_,?_,?_⟩<;>omega) ?_;first|exact hQ _ h|(rw [zP (by omega)];exact hQ _ h))
 | (rw [←hlen];exact hQ _ h)
 | (have hq:=hQ _ h;simp only [xX,Nat.min_eq_left hlen.1] at hq;exact hq)
 | ((first|refine oblg h ?_|refine roomG h ?_|refine inbG h ?_|refine incG h ?_|refine divG h ?_|refine appG h ?_|refine appC h ?_|refine fork h ?_ ?_|refine forkS h ?_ ?_)<;>clear h<;>intro hc h)
 | (obtain ⟨y,hy,h⟩:=h;(first|(have hw:=acall_swe 1000 2003 (W_5l hy);replace hw:=tY hw;(try simp only [hlen] at hw);have hlen:=compactI_len hy)|have hw:=WI.w hy);replace hw:=tY hw;(first|refine M.sC hw ?_|refine M.sD hw ?_);clear hw hy;refine tB ?_)
 | (refine M.fold1 (b:=mc_2s) 12 [10,11] [] (fun x=>[(3,.osl 2003 1 0 x.length)]) (fun x=>[.o 2003 (.arr 1 (x.map (V.int .i64)))]) [.gc [3,10,11,12],.acc 3 2003 1] h ?_ ?_ ?_<;>first
 | (clear h;intro k a x Qn K hK1 hkN1 ha1 h hf;have hl:=fact_int (factsE_find (n:=11) hf.1 rfl);clear hf;have hkd:=kD hkN1;have hkB1:=kB hkN1;have hkI1:=kI (k:=k) (by omega);(try simp only [hlen] at hkd hkB1 hkN1);unfold F_2s at h;unfold mc_2s;replace h:=tY h;refine tK ha1 hkd hkN1 hkB1 hkI1 ?_)
  |(clear h;intro x K h;replace h:=And.left (And.intro h trivial);(try simp only [hlen]);unfold mc_2s;replace h:=tY h;refine tB ?_)
  |(clear h;(try refine tB ?_);exact tU0;done))
 | (simp only [ha1])
 | (refine hK1 _ ?_;(try refine tB ?_);refine ⟨_,h,?_⟩;exact tU0;done)
 | (refine tE ?_;(first|rw [M.lok_compU]|rw [M.lokD_compU]);refine tB ?_)
 | (refine tA ?_)
 | fail)⟩
def F_1a (k18:Int) (a19:GMember) (x17:List Int):Option (List Int) := chk (room (x17.length+[a19.Time].length) 8) (some (x17++[a19.Time]))
def F_1b (d_:GDirectory) (a_:GEstate):Option (List Int) := (F_24 a_).bind fun y2=>(foldL F_1a d_.Events 0 y2).bind fun x20=>(sortI x20).bind fun y22=>(compactI y22).bind fun y24=>some ((y24.2.drop 0).take y24.1)
@[irreducible] def mc_1a:MC := (sR [bT .lss 13 12 14] (.seq (.cond (.t 14) .skip (.exit 0)) (.seq (.block 1 (sR [iA 4 11 13 15,lN 4 15 16,mo (.alloc [(.int .i64 0),(.int .i64 0),(.int .i64 0),(.int .i64 0)]) 7,⟨.st 4 (.t 7) (.t 16),none,none⟩] (.reg [oV 5 17,oF 0 7 18,oL 18 19,mo (.bslice 1 [(.t 19)]) 20,ap 1 8 17 20 21,oV 21 5]))) (.reg [aI 13 1 22,oV 22 13]))))
def mc_1b:MC := (sR [bx 0 2,bx 1 3,mo (.mv (.c (.sl []))) 4] (sR [lN 2 3 8,mo (.call (.f 155) [(.t 8)] [] [9]) 9,oV 9 5] (.seq (sR [oF 1 2 10,oL 10 11,lE 11 12,oC 0 13] (.block 0 (.loop mc_1a))) (sR [oV 5 23,mo (.call (.f 156) [(.t 23)] [2005] []) 24] (sR [oV 5 25,mo (.call (.f 157) [(.t 25)] [2005] []) 26,oV 26 4] .ret)))))
instance Wq_exposure_times {d_:GDirectory} {a_:GEstate}:WI (F_1b d_ a_) Tryz.prog 126 [GDirectory.v d_,GEstate.v a_] [] (fun z=>.sl (z.map (V.int .i64))) (fun z=>[]):=⟨fun Q Q' h hQ=>by
 refine acallM mc_1b [.fz 4] [] [.t 4] Tryz.func126 fun M=>?_
 unfold F_1b at h
 unfold mc_1b
 replace h:=tY h
 refine tB ?_
 repeat' (first
 | (exact tZ)
 | (refine And.intro (by refine ⟨?_,?_,?_,?_⟩<;>omega) ?_;first|exact hQ _ h|(rw [zP (by omega)];exact hQ _ h))
 | (rw [←hlen];exact hQ _ h)
 | (have hq:=hQ _ h;simp only [xX,Nat.min_eq_left hlen.1] at hq;exact hq)
 | ((first|refine oblg h ?_|refine roomG h ?_|refine inbG h ?_|refine incG h ?_|refine divG h ?_|refine appG h ?_|refine appC h ?_|refine fork h ?_ ?_|refine forkS h ?_ ?_)<;>clear h<;>intro hc h)
 | (obtain ⟨y,hy,h⟩:=h;(first|have hw:=acall_swe 1900 9 (Wq_access_Times.c.w hy)|(have hw:=acall_swe 1000 2005 (W_5k hy);replace hw:=tY hw;(try simp only [hlen] at hw);have hlen:=sortI_len hy)|(have hw:=acall_swe 1000 2005 (W_5l hy);replace hw:=tY hw;(try simp only [hlen] at hw);have hlen:=compactI_len hy));replace hw:=tY hw;(first|refine M.sC hw ?_|refine M.sD hw ?_);clear hw hy;refine tB ?_)
 | (refine M.fold1 (b:=mc_1a) 13 [11,12] [] (fun x=>[(5,.osl 2005 1 0 x.length)]) (fun x=>[.o 2005 (.arr 1 (x.map (V.int .i64)))]) [.gc [5,11,12,13],.acc 5 2005 1] h ?_ ?_ ?_<;>first
 | (clear h;intro k a x Qn K hK1 hkN1 ha1 h hf;have hl:=fact_int (factsE_find (n:=12) hf.1 rfl);clear hf;have hkd:=kD hkN1;have hkB1:=kB hkN1;have hkI1:=kI (k:=k) (by omega);(try simp only [hlen] at hkd hkB1 hkN1);unfold F_1a at h;unfold mc_1a;replace h:=tY h;refine tK ha1 hkd hkN1 hkB1 hkI1 ?_)
  |(clear h;intro x K h;replace h:=And.left (And.intro h trivial);(try simp only [hlen]);unfold mc_1a;replace h:=tY h;refine tB ?_)
  |(clear h;(try refine tB ?_);exact tU0;done))
 | (simp only [ha1])
 | (refine hK1 _ ?_;(try refine tB ?_);refine ⟨_,h,?_⟩;exact tU0;done)
 | (refine tE ?_;(first|rw [M.lok_compU]|rw [M.lokD_compU]);refine tB ?_)
 | (refine tA ?_)
 | fail)⟩
def F_1c (content_:Int):Option Int := chk (shok content_ 64) (some (IntKind.wrap .u64 (1*2^(content_).toNat)))
def mc_1c:MC := (sR [mo (.mv (.c (.int .u64 0))) 2] (sR [oV 0 3,mo (.bin false .shl (.c (.int .u64 1)) (.t 3)) 4,oV 4 2] .ret))
instance Wq_copies_bit {content_:Int}:WI (F_1c content_) Tryz.prog 195 [.int .i64 content_] [] (fun z=>.int .u64 z) (fun z=>[]):=⟨fun Q Q' h hQ=>by
 refine acallM mc_1c [] [] [.t 2] Tryz.func195 fun M=>?_
 unfold F_1c at h
 unfold mc_1c
 exact tX⟩
def F_j (s_:List Int) (x_:GAccess):Option (List Int) := bif decide (x_.Kind=5) then chk (inb x_.Place s_.length) ((F_1c x_.Content).bind fun y1=>chk (inb x_.Place s_.length) (some (s_.set ((x_.Place).toNat) (bits .or .u64 (s_.getD ((x_.Place).toNat) default) y1)))) else bif decide (x_.Kind=6) then chk (inb x_.Place s_.length) ((F_1c x_.Content).bind fun y2=>chk (inb x_.Place s_.length) (some (s_.set ((x_.Place).toNat) (bits .andNot .u64 (s_.getD ((x_.Place).toNat) default) y2)))) else bif decide (x_.Kind=7) then chk (inb x_.Place s_.length) (chk (inb x_.From s_.length) (chk (inb x_.Place s_.length) (some (s_.set ((x_.Place).toNat) (bits .or .u64 (s_.getD ((x_.Place).toNat) default) (s_.getD ((x_.From).toNat) default)))))) else some s_
def mc_j:MC := (sR [bx 1 3] (sR [oF 1 3 4,oL 4 5] (.block 0 (sR [bC .eql 5 5 7,oV 7 6] (.cond (.t 6) (.regD [oV 0 8,oF 2 3 9,oL 9 10,iA 1 8 10 11,oL 11 12,oF 5 3 13,oL 13 14,k1 195 14 15,bT .or 12 15 16,iA 1 8 10 17,⟨.st 1 (.t 17) (.t 16),none,none⟩] [[],[],[1],[0,2],[3],[],[5],[6],[4,7],[0,2,0,1,2,3,4,5,6,7,8],[9,8,7,0,1,2,3,4,5,6,7,8]] [[],[],[1],[0,1,2],[0,1,2,3],[],[5],[5,6],[0,1,2,3,4,5,6,7],[0,1,2,3,4,5,6,7,8],[0,1,2,3,4,5,6,7,8,9]]) (sR [bC .eql 5 6 19,oV 19 18] (.cond (.t 18) (.regD [oV 0 20,oF 2 3 21,oL 21 22,iA 1 20 22 23,oL 23 24,oF 5 3 25,oL 25 26,k1 195 26 27,bT .andNot 24 27 28,iA 1 20 22 29,⟨.st 1 (.t 29) (.t 28),none,none⟩] [[],[],[1],[0,2],[3],[],[5],[6],[4,7],[0,2,0,1,2,3,4,5,6,7,8],[9,8,7,0,1,2,3,4,5,6,7,8]] [[],[],[1],[0,1,2],[0,1,2,3],[],[5],[5,6],[0,1,2,3,4,5,6,7],[0,1,2,3,4,5,6,7,8],[0,1,2,3,4,5,6,7,8,9]]) (sR [bC .eql 5 7 31,oV 31 30] (.cond (.t 30) (.note (.gc [0,3]) (.regD [oV 0 32,oF 2 3 33,oL 33 34,iA 1 32 34 35,oL 35 36,oV 0 37,oF 6 3 38,oL 38 39,iA 1 37 39 40,oL 40 41,bT .or 36 41 42,iA 1 32 34 43,⟨.st 1 (.t 43) (.t 42),none,none⟩] [[],[],[1],[0,2],[3],[],[],[6],[5,7],[8],[4,9],[0,2,0,1,2,3,4,5,6,7,8,9,10],[11,10,0,1,2,3,4,5,6,7,8,9,10]] [[],[],[1],[0,1,2],[0,1,2,3],[],[],[6],[5,6,7],[5,6,7,8],[0,1,2,3,4,5,6,7,8,9],[0,1,2,3,4,5,6,7,8,9,10],[0,1,2,3,4,5,6,7,8,9,10,11]])) .skip)))))))))
instance Wq_copies_state_happen {s_:List Int} {x_:GAccess}:WI (F_j s_ x_) Tryz.prog 230 [.osl 1000 1 0 s_.length,GAccess.v x_] [(1000,.arr 1 (s_.map (V.int .u64)))] (fun z=>.tup []) (fun z=>[(1000,.arr 1 (z.map (V.int .u64)))]):=⟨fun Q Q' h hQ=>by
 refine acallM mc_j [] [1000] [] Tryz.func230 fun M=>?_
 unfold F_j at h
 unfold mc_j
 exact tX⟩
theorem F_7x {s_:List Int} {x_:GAccess} {y:List Int} (h:(F_j s_ x_)=some y):y.length=s_.length:=by
 simp only [F_j,chk,cond_eq_ite,zL] at h
 repeat' (first|(split at h)|(simp only [zL] at h)|(obtain ⟨_,_,h⟩:=h)|(cases h;done)|(obtain rfl:=x9 h;simp;done)|(simp;done)|(subst h;simp;done))
def F_25 (t_:Int) (k30:Int) (a31:GAccess) (x29:List Int):Option (List Int) := bif decide (a31.Time≤t_) then (F_j x29 a31).bind fun y35=>some y35 else some x29
def F_1d (a_:GEstate) (t_:Int):Option (List Int) := chk (roomI a_.Places a_.Places 8) ((foldL (F_25 t_) a_.Events 0 (List.replicate (a_.Places).toNat 0)).bind fun x36=>some x36)
@[irreducible] def mc_25:MC := (sR [bT .lss 14 13 15] (.seq (.cond (.t 15) .skip (.exit 0)) (.seq (.block 1 (sR [iA 7 12 14 16,lN 7 16 17,mo (.alloc [(.int .i64 0),(.int .i64 0),(.int .i64 0),(.int .i64 0),(.int .i64 0),(.int .i64 0),(.int .i64 0)]) 7,⟨.st 7 (.t 7) (.t 17),none,none⟩] (sR [oF 0 7 18,oL 18 19,oV 1 20,bT .leq 19 20 21] (.cond (.t 21) (.reg [oV 5 22,lN 7 7 23,mo (.call (.f 230) [(.t 22),(.t 23)] [10] []) 24]) .skip)))) (.reg [aI 14 1 25,oV 25 14]))))
def mc_1d:MC := (sR [bx 0 2,mo (.mv (.c (.sl []))) 4] (sR [oF 0 2 8,oL 8 9,mo (.mksl 1 8 (.int .u64 0) (.t 9) (.t 9)) 10,oV 10 5] (.seq (sR [oF 1 2 11,oL 11 12,lE 12 13,oC 0 14] (.block 0 (.loop mc_25))) (sR [oV 5 26,oV 26 4] .ret))))
instance Wq_copies_at {a_:GEstate} {t_:Int}:WI (F_1d a_ t_) Tryz.prog 194 [GEstate.v a_,.int .i64 t_] [] (fun z=>.sl (z.map (V.int .u64))) (fun z=>[]):=⟨fun Q Q' h hQ=>by
 refine acallM mc_1d [.fz 4] [] [.t 4] Tryz.func194 fun M=>?_
 unfold F_1d at h
 unfold mc_1d
 replace h:=tY h
 refine tB ?_
 repeat' (first
 | (exact tZ)
 | ((first|refine oblg h ?_|refine roomG h ?_|refine inbG h ?_|refine incG h ?_|refine divG h ?_|refine appG h ?_|refine appC h ?_|refine fork h ?_ ?_|refine forkS h ?_ ?_)<;>clear h<;>intro hc h)
 | (obtain ⟨y,hy,h⟩:=h;(have hw:=acall_swe 1000 10 (Wq_copies_state_happen.c.w hy);replace hw:=tY hw;have hlen:=F_7x hy);replace hw:=tY hw;(first|refine M.sC hw ?_|refine M.sD hw ?_);clear hw hy;refine tB ?_)
 | (refine M.fold1 (b:=mc_25) 14 [1,12,13] [] (fun x=>[(5,.osl 10 1 0 x.length)]) (fun x=>[.o 10 (.arr 1 (x.map (V.int .u64)))]) [] h ?_ ?_ ?_<;>first
 | (clear h;intro k a x Qn K hK1 hkN1 ha1 h hf;have hl:=fact_int (factsE_find (n:=13) hf.1 rfl);clear hf;have hkd:=kD hkN1;have hkB1:=kB hkN1;have hkI1:=kI (k:=k) (by omega);(try simp only [hlen] at hkd hkB1 hkN1);unfold F_25 at h;unfold mc_25;replace h:=tY h;refine tK ha1 hkd hkN1 hkB1 hkI1 ?_)
  |(clear h;intro x K h;replace h:=And.left (And.intro h trivial);(try simp only [hlen]);unfold mc_25;replace h:=tY h;refine tB ?_)
  |(clear h;(try refine tB ?_);exact tU;done))
 | (simp only [ha1])
 | (refine hK1 _ ?_;(try refine tB ?_);refine ⟨_,h,?_⟩;exact tU;done)
 | (refine tE ?_;(first|rw [M.lok_compU]|rw [M.lokD_compU]);refine tB ?_)
 | (refine tA ?_)
 | fail)⟩
def F_3o (content_:Int) (k56:Int) (a57:Int) (x55:List Int):Option (List Int) := (F_1c content_).bind fun y65=>bif (!decide ((bits .and .u64 a57 y65)=0)) then chk (room (x55.length+[k56].length) 8) (some (x55++[k56])) else some x55
def F_k (a_:GEstate) (content_:Int) (t_:Int):Option (List Int) := (F_3 a_).bind fun y7=>bif (!decide (y7=0)) then some [] else (F_5 content_).bind fun y8=>bif (!y8) then some [] else (F_1d a_ t_).bind fun y37=>(foldL (F_3o content_) y37 0 []).bind fun x66=>some x66
@[irreducible] def mc_3o:MC := (sR [bT .lss 22 21 23] (.seq (.cond (.t 23) .skip (.exit 0)) (.seq (.block 1 (sR [oV 22 24,iA 1 20 22 25,oL 25 26,oV 24 8,oV 26 9] (sR [oV 9 27,oV 1 28,k1 195 28 29,bT .and 27 29 30,mo (.bin false .neq (.t 30) (.c (.int .u64 0))) 31] (.cond (.t 31) (.note (.gc [1,7,8,20,21,22]) (.reg [oV 7 32,oV 8 33,mo (.bslice 1 [(.t 33)]) 34,ap 1 8 32 34 35,oV 35 7])) .skip)))) (.reg [aI 22 1 36,oV 36 22]))))
def mc_k:MC := (sR [bx 0 3,mo (.mv (.c (.sl []))) 6] (.seq (sR [lN 2 3 10,k1 50 10 11,bC .neq 11 0 12,oV 12 13,fV 13 14 1,gF 13 15 (.call (.f 125) [(.t 14)] [] []),gF 13 16 (.not (.t 15)),pO 13 16 17] (.cond (.t 17) (sR [mo (.mv (.c (.sl []))) 6] .ret) .skip)) (sR [mo (.mv (.c .nils)) 7] (.seq (.seq (.note (.gc [1,2,3,7]) (.reg [lN 2 3 18,oV 2 19,k2 194 18 19 20,lE 20 21,oC 0 22])) (.block 0 (.loop mc_3o))) (sR [oV 7 37,oV 37 6] .ret)))))
attribute [go_sem] F_3o
instance:LI mc_3o 22 21 [1,20,21] [] (fun y:List Int=>[(7,.osl 2007 1 0 y.length)]) (fun y=>[.o 2007 (.arr 1 (y.map (V.int .i64)))]) [.gc [1,7,20,21,22],.acc 7 2007 1]:=⟨⟩
instance Wq_copies_Where {a_:GEstate} {content_ t_:Int}:WI (F_k a_ content_ t_) Tryz.prog 158 [GEstate.v a_,.int .i64 content_,.int .i64 t_] [] (fun z=>.sl (z.map (V.int .i64))) (fun z=>[]):=⟨fun Q Q' h hQ=>by
 refine acallM mc_k [.fz 6] [] [.t 6] Tryz.func158 fun M=>?_
 unfold F_k at h
 unfold mc_k
 exact tX⟩
noncomputable def F_26 (d_:GDirectory) (a_:GEstate) (p_:Int) (t_:Int) (k75:Int) (a76:Int) (x74:Unit):Option (Fl Unit (Int×Bool)) := (F_4 a_ a76 t_).bind fun y96=>grp ((decide (p_=(-1))&&y96.2)) fun b99=>bif b99 then some (.ex (a76,true)) else bif (!decide (p_=(-1))) then (F_u d_ a_ p_ a76 t_).bind fun y100=>bif y100 then some (.ex (a76,true)) else some (.nx ()) else some (.nx ())
noncomputable def F_1e (d_:GDirectory) (a_:GEstate) (content_:Int) (p_:Int) (t_:Int):Option (Int×Bool) := (F_k a_ content_ t_).bind fun y47=>(forL (F_26 d_ a_ p_ t_) y47 0 ()).bind fun o=>o.elim (fun x101=>some (0,false)) (fun r102=>some r102)
@[irreducible] def mg_6b:List MOp:=[tV 34 35 15,pA 34 35 36]
@[irreducible] def mc_26:MC := (sR [bT .lss 21 20 22] (.seq (.cond (.t 22) .skip (.exit 0)) (.seq (.block 1 (sR [iA 1 19 21 23,oL 23 24,oV 24 13] (sR [lN 2 6 26,oV 13 27,oV 4 28,k3 123 26 27 28 29,oV 29 25,xT 0 25 30,xT 1 25 31,oV 30 14,oV 31 15] (.seq (.note (.gc [3,4,5,6,13,15,19,20,21,35,38,39,40,41,42,43,44,45,46,47]) (.regI [.op (oV 3 32),.op (bC .eql 32 (-1) 33),.op (oV 33 34),.grp mg_6b,.op (oV 36 37),.op (fV 37 38 3),.op (gF 37 39 (.bin false .neq (.t 38) (cI (-1)))),.op (fV 37 40 39),.op (gT 40 41 (.ld (some 2) (.t 5))),.op (gT 40 42 (.ld (some 2) (.t 6))),.op (tV 40 43 3),.op (tV 40 44 13),.op (tV 40 45 4),.op (gT 40 46 (.call (.f 124) [(.t 41),(.t 42),(.t 43),(.t 44),(.t 45)] [] [])),.op (gF 37 47 (.pick (.t 40) (.t 46) (.c (.bool false)))),.op (pO 37 47 48)])) (.cond (.t 48) (.seq (.note (.gc [13]) (.reg [oV 13 49,oV 49 10,mT 11])) .ret) .skip))))) (.reg [aI 21 1 50,oV 50 21]))))
def mc_1e:MC := (sR [bx 0 5,bx 1 6,oC 0 10,mF 11] (.seq (sR [lN 2 6 16,oV 2 17,oV 4 18,k3 158 16 17 18 19,lE 19 20,oC 0 21] (.block 0 (.loop mc_26))) (sR [oC 0 10,mF 11] .ret)))
attribute [go_sem] F_26
instance:GV mg_6b 36 [35]:=⟨⟩
instance:LI mc_26 21 20 [3,4,5,6,19,20] [6,5] (fun y:Unit=>[]) (fun y=>[]) []:=⟨⟩
instance Wq_exposure_place {d_:GDirectory} {a_:GEstate} {content_ p_ t_:Int}:WI (F_1e d_ a_ content_ p_ t_) Tryz.prog 127 [GDirectory.v d_,GEstate.v a_,.int .i64 content_,.int .i64 p_,.int .i64 t_] [] (fun z=>.tup [.int .i64 z.1,.bool z.2]) (fun z=>[]):=⟨fun Q Q' h hQ=>by
 refine acallM mc_1e [] [] [.t 10,.t 11] Tryz.func127 fun M=>?_
 unfold F_1e at h
 unfold mc_1e
 exact tX⟩
noncomputable def F_2t (d_:GDirectory) (a_:GEstate) (content_:Int) (p_:Int) (k35:Int) (a36:Int) (x34:Unit):Option (Fl Unit (Int×Bool)) := (F_1e d_ a_ content_ p_ a36).bind fun y44=>bif y44.2 then some (.ex (a36,true)) else some (.nx ())
noncomputable def F_1f (d_:GDirectory) (a_:GEstate) (content_:Int) (p_:Int):Option (Int×Bool) := (F_1b d_ a_).bind fun y23=>(forL (F_2t d_ a_ content_ p_) y23 0 ()).bind fun o=>o.elim (fun x45=>some (0,false)) (fun r46=>some r46)
@[irreducible] def mc_2t:MC := (sR [bT .lss 18 17 19] (.seq (.cond (.t 19) .skip (.exit 0)) (.seq (.block 1 (sR [iA 1 16 18 20,oL 20 21,oV 21 11] (sR [lN 2 4 23,lN 2 5 24,oV 2 25,oV 3 26,oV 11 27,mo (.call (.f 127) [(.t 23),(.t 24),(.t 25),(.t 26),(.t 27)] [] []) 28,oV 28 22,xT 0 22 29,xT 1 22 30,oV 29 12,oV 30 13] (sR [oV 13 31] (.cond (.t 31) (.seq (.note (.gc [11]) (.reg [oV 11 32,oV 32 8,mT 9])) .ret) .skip))))) (.reg [aI 18 1 33,oV 33 18]))))
def mc_1f:MC := (sR [bx 0 4,bx 1 5,oC 0 8,mF 9] (.seq (sR [lN 2 4 14,lN 2 5 15,k2 126 14 15 16,lE 16 17,oC 0 18] (.block 0 (.loop mc_2t))) (sR [oC 0 8,mF 9] .ret)))
attribute [go_sem] F_2t
instance:LI mc_2t 18 17 [2,3,4,5,16,17] [5,4] (fun y:Unit=>[]) (fun y=>[]) []:=⟨⟩
instance Wq_exposure_since {d_:GDirectory} {a_:GEstate} {content_ p_:Int}:WI (F_1f d_ a_ content_ p_) Tryz.prog 80 [GDirectory.v d_,GEstate.v a_,.int .i64 content_,.int .i64 p_] [] (fun z=>.tup [.int .i64 z.1,.bool z.2]) (fun z=>[]):=⟨fun Q Q' h hQ=>by
 refine acallM mc_1f [] [] [.t 8,.t 9] Tryz.func80 fun M=>?_
 unfold F_1f at h
 unfold mc_1f
 exact tX⟩
noncomputable def F_v (d_:GDirectory) (a_:GEstate) (content_:Int) (p_:Int):Option (Int×Bool) := (F_23 d_ a_ content_).bind fun y4=>bif (!decide (y4=0)) then some (0,false) else (F_1f d_ a_ content_ p_).bind fun y6=>some (y6.1,y6.2)
def mc_v:MC := (sR [bx 0 4,bx 1 5,oC 0 8,mF 9] (.seq (sR [lN 2 4 10,lN 2 5 11,oV 2 12,k3 79 10 11 12 13,bC .neq 13 0 14] (.cond (.t 14) (sR [oC 0 8,mF 9] .ret) .skip)) (.seq (.note (.gc [2,3,4,5]) (.reg [lN 2 4 15,lN 2 5 16,oV 2 17,oV 3 18,mo (.call (.f 80) [(.t 15),(.t 16),(.t 17),(.t 18)] [] []) 19,xT 0 19 20,xT 1 19 21,oV 20 8,oV 21 9])) .ret)))
instance Wq_exposure_Since {d_:GDirectory} {a_:GEstate} {content_ p_:Int}:WI (F_v d_ a_ content_ p_) Tryz.prog 31 [GDirectory.v d_,GEstate.v a_,.int .i64 content_,.int .i64 p_] [] (fun z=>.tup [.int .i64 z.1,.bool z.2]) (fun z=>[]):=⟨fun Q Q' h hQ=>by
 refine acallM mc_v [] [] [.t 8,.t 9] Tryz.func31 fun M=>?_
 unfold F_v at h
 unfold mc_v
 exact tX⟩
end Go.Ab
