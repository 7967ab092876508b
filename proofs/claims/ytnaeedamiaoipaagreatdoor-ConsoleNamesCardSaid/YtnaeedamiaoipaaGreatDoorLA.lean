/- What the functions of this seat that lie on the laws' road compute (part LA), each for every input. By AI agents. -/
import Derived.Test.YtnaeedamiaoipaaGreatDoorProg
import Derived.KernelRfl
import Derived.Test.YtnaeedamiaoipaaGreatDoorAbFun
import Derived.Test.YtnaeedamiaoipaaGreatDoorSL
import Derived.Test.YtnaeedamiaoipaaGreatDoorAbGen
import Derived.Test.YtnaeedamiaoipaaGreatDoorXM
set_option linter.all false
set_option linter.all false
set_option maxRecDepth 20000
set_option maxHeartbeats 2000000
namespace Go.Ab
open Go.Proofs
structure GCommand where
 Kind:Int
 Name:Str
 Other:Str
 Time:Int
 A:Int
 B:Int
instance:Inhabited GCommand:=⟨⟨default,default,default,default,default,default⟩⟩
def GCommand.v (x:GCommand):V:=.agg [.int .i64 x.Kind,.str x.Name,.str x.Other,.int .i64 x.Time,.int .i64 x.A,.int .i64 x.B]
structure Gfield where
 name_:Option Nat
 n_:Option Nat
 many_:Int
instance:Inhabited Gfield:=⟨⟨default,default,default⟩⟩
def Gfield.v (x:Gfield):V:=.agg [fnV x.name_,fnV x.n_,.int .i64 x.many_]
structure Gform where
 word_:Str
 fields_:List Gfield
instance:Inhabited Gform:=⟨⟨default,default⟩⟩
def Gform.v (x:Gform):V:=.agg [.str x.word_,.sl (x.fields_.map Gfield.v)]
theorem dlt {a:Int}:decide (a<a)=false:=by simp
attribute [go_sem] Mach.b2s_set Mach.b2s_setD byte_x4 rngb_i32 rngb_u32 rngb_u64 rngb_i16 rngb_u16 byteV beq_self_eq_true Int.cast_ofNat_Int List.take_succ_cons List.take_zero List.drop_succ_cons List.cons_append List.nil_append putPs pinH wrap_u8 rng64 inb_and inc_and room_and roomI_and divs_and shok_and64 rep_u rep_ll mget_i mget_s mput_i mput_s mdel_i mdel_s lk_b lk_i lk_s lk_l lkt_b' lkt_i' lkt_s' lkt_l' rep_b rep_i ovS ovE ovU patO filt filtH dropE stepNs atEndN shqs shq1 V.oids V.oidsL V.tr V.trL trE trH Obj'.tr true_implies false_implies Bool.false_eq_true Bool.true_eq_false dlt mpV slV Int.natCast_zero List.map_set kvV nxt_map erase_map V.sw V.swL swN swH sw_sl sw_int sw_bool sw_str sw_smap sw_byte Obj'.sw sw_arr sw_map byte_1 byte_2 Mach.b2s_e Mach.b2s_eD toNat_ltb List.length_set List.length_replicate List.take_of_length_le Nat.zero_le bounds eqCells Option.map_some Option.map_none Fl_nx Fl_ex Sum_inl Sum_inr Ok_ite Ok_chk Ok_some Ok_bind Ok_none
theorem inbk_0 {n:Nat}:(inb 0 n=true)=(((0:Nat):Int)<(n:Int)):=propext (by rw [inb_iff];omega)
attribute [go_sem] inbk_0
theorem incl_0 {b:Int} {n:Nat}:(inc 0 b n=true)=(((0:Nat):Int)≤b∧b≤(n:Int)):=propext (by rw [inc_iff];omega)
attribute [go_sem] incl_0
attribute [go_sem] GCommand.v Gfield.v Gform.v
def F_4i (k12:Int) (a11:Str) (x10:List Str):Option (Fl (List Str) Empty) :=
 chk (room (x10.length+[a11].length) 16) (some (.nx (x10++[a11])))
def F_35 (seqc0_:Str):Option (List Str) :=
 (forL F_4i (linesL seqc0_) 0 []).bind fun o=>o.elim (fun x13=>some x13) (fun r14=>none)
@[irreducible] def mc_3q:MC :=
 (.block 1
 (.reg [oL 2 8,
 oV 5 9,
 mo (.bslice 1 [(.t 9)]) 10,
 mo (.app 1 16 (.t 8) (.t 10)) 11,
 ⟨.st 1 (.t 2) (.t 11),none,none⟩]))
def mc_35:MC :=
 (sR [mo (.box (.t 0)) 2,
 mo (.mv (.c (.sl []))) 4]
 (.seq (sR [oV 1 6]
 (.block 0
 (.note (.ownC 2 0 4032 1 none) (.rngF (.t 6) [7] (.reg [oV 7 5]) mc_3q))))
 (sR [oL 2 12,
 oV 12 4]
 .ret)))
instance Wq_slices_AppendSeq_string_string_of_strings_Lines_1 {seqc0_:Str}:WI (F_35 seqc0_) Tryz.prog 111 [.nils,.fn (.func 112) [.ptr 1000 0]] [(1000,.cells [.str seqc0_])] (fun z=>.sl (z.map V.str)) (fun z=>[]):=⟨fun Q Q' h hQ=>by
 refine acallM mc_35 [.fz 4] [] [.t 4] Tryz.func111 fun M=>?_
 unfold F_35 at h
 unfold mc_35
 replace h:=tY h
 refine tB ?_
 repeat' (first
 | (exact tZ)
 | ((first|refine oblg h ?_|refine roomG h ?_|refine inbG h ?_|refine incG h ?_|refine divG h ?_|refine appG h ?_|refine appC h ?_|refine fork h ?_ ?_|refine forkS h ?_ ?_)<;>clear h<;>intro hc h)
 | (refine M.rforC (b:=mc_3q) (enc:=fun a=>[.str a]) _ [1000,2] [] (fun x=>[.o 2 (.cells [.osl 4032 1 0 x.length]),.o 4032 (.arr 1 (x.map V.str))]) [.gc [0,1,2,4,6],.ownC 2 0 4032 1 none] h rfl (W_5n _ _) ⟨rfl,trivial,rfl,trivial⟩ rfl (fun a=>⟨rfl,rfl⟩) ?_ (hdis1 rfl) ?_ rfl ?_<;>first
 | (clear h;intro k a x Qn K hK1 hkN1 h hf;clear hf;unfold F_4i at h;unfold mc_3q;replace h:=tY h;refine tB ?_)
  |(clear h;intro x h;replace h:=tY h;refine tB ?_)
  |(clear h;(try refine tB ?_);exact tU0;done))
 | (refine hK1 _ ?_;(try refine tB ?_);refine ⟨_,h,?_⟩;exact tU0;done)
 | (refine tE ?_;(first|rw [M.lok_compU]|rw [M.lokD_compU]);refine tB ?_)
 | (refine tA ?_)
 | fail)⟩
def F_36 (seqc0_:Str):Option (List Str) :=
 (F_35 seqc0_).bind fun y2=>some y2
def mc_36:MC :=
 (sR [mo (.mv (.c (.sl []))) 2]
 (sR [oV 0 3,
 mo (.call (.f 111) [(.c .nils),(.t 3)] [1000] []) 4,
 oV 4 2]
 .ret))
instance Wq_slices_Collect_string_of_strings_Lines_1 {seqc0_:Str}:WI (F_36 seqc0_) Tryz.prog 73 [.fn (.func 112) [.ptr 1000 0]] [(1000,.cells [.str seqc0_])] (fun z=>.sl (z.map V.str)) (fun z=>[]):=⟨fun Q Q' h hQ=>by
 refine acallM mc_36 [.fz 2] [] [.t 2] Tryz.func73 fun M=>?_
 unfold F_36 at h
 unfold mc_36
 exact tX⟩
def F_37 (s_:Str) (suffix_:Str):Option Bool :=
 jn (α:=Bool) (bif decide ((suffix_.length:Int)≤(s_.length:Int)) then chk (in64 ((s_.length:Int) - (suffix_.length:Int))) (chk (inc ((s_.length:Int) - (suffix_.length:Int)) (s_.length:Int) s_.length) (some (decide ((s_.drop ((((s_.length:Int) - (suffix_.length:Int))).toNat))=suffix_)))) else some false) fun j2=>some j2
@[irreducible] def mg_4j:List MOp:=[gT 10 11 (.mv (.t 0)),
 gT 10 12 (.mv (.t 0)),
 gT 10 13 (.len true (.t 12)),
 gT 10 14 (.mv (.t 1)),
 gT 10 15 (.len true (.t 14)),
 gT 10 16 (.bin true .sub (.t 13) (.t 15)),
 gT 10 17 (.sls (.t 11) (some (.t 16)) none),
 gT 10 18 (.mv (.t 1)),
 gT 10 19 (.bin false .eql (.t 17) (.t 18)),
 mo (.pick (.t 10) (.t 19) (.c (.bool false))) 20]
def mc_37:MC :=
 (sR [mo (.mv (.c (.bool false))) 4]
 (.seq (.regI [.op (oV 0 5),
 .op (mo (.len true (.t 5)) 6),
 .op (oV 1 7),
 .op (mo (.len true (.t 7)) 8),
 .op (mo (.bin false .geq (.t 6) (.t 8)) 9),
 .op (oV 9 10),
 .grp mg_4j,
 .op (oV 20 4)])
 .ret))
instance:GI mg_4j [4] [] (fun y:Bool=>[(20,.bool y)]) (fun y=>[]):=⟨⟩
instance Wq_internal_stringslite_HasSuffix {s_ suffix_:Str}:WI (F_37 s_ suffix_) Tryz.prog 182 [.str s_,.str suffix_] [] (fun z=>.bool z) (fun z=>[]):=⟨fun Q Q' h hQ=>by
 refine acallM mc_37 [] [] [.t 4] Tryz.func182 fun M=>?_
 unfold F_37 at h
 unfold mc_37
 exact tX⟩
def F_38 (s_:Str) (suffix_:Str):Option Str :=
 (F_37 s_ suffix_).bind fun y4=>bif y4 then chk (in64 ((s_.length:Int) - (suffix_.length:Int))) (chk (inc 0 ((s_.length:Int) - (suffix_.length:Int)) s_.length) (some (s_.take ((((s_.length:Int) - (suffix_.length:Int))).toNat)))) else some s_
def mc_38:MC :=
 (sR [mo (.mv (.c (.str []))) 4]
 (.seq (sR [oV 0 5,
 oV 1 6,
 mo (.call (.f 182) [(.t 5),(.t 6)] [] []) 7]
 (.cond (.t 7)
 (sR [oV 0 8,
 oV 0 9,
 mo (.len true (.t 9)) 10,
 oV 1 11,
 mo (.len true (.t 11)) 12,
 mo (.bin true .sub (.t 10) (.t 12)) 13,
 mo (.sls (.t 8) none (some (.t 13))) 14,
 oV 14 4]
 .ret)
 .skip))
 (sR [oV 0 15,
 oV 15 4]
 .ret)))
instance Wq_internal_stringslite_TrimSuffix {s_ suffix_:Str}:WI (F_38 s_ suffix_) Tryz.prog 148 [.str s_,.str suffix_] [] (fun z=>.str z) (fun z=>[]):=⟨fun Q Q' h hQ=>by
 refine acallM mc_38 [] [] [.t 4] Tryz.func148 fun M=>?_
 unfold F_38 at h
 unfold mc_38
 exact tX⟩
def F_39 (s_:Str) (suffix_:Str):Option Str :=
 (F_38 s_ suffix_).bind fun y2=>some y2
def mc_39:MC :=
 (sR [mo (.mv (.c (.str []))) 4]
 (sR [oV 0 5,
 oV 1 6,
 mo (.call (.f 148) [(.t 5),(.t 6)] [] []) 7,
 oV 7 4]
 .ret))
instance Wq_strings_TrimSuffix {s_ suffix_:Str}:WI (F_39 s_ suffix_) Tryz.prog 115 [.str s_,.str suffix_] [] (fun z=>.str z) (fun z=>[]):=⟨fun Q Q' h hQ=>by
 refine acallM mc_39 [] [] [.t 4] Tryz.func115 fun M=>?_
 unfold F_39 at h
 unfold mc_39
 exact tX⟩
def F_i:Option Gfield :=
 some (Gfield.mk none (some 141) 1000000)
def mc_i:MC :=
 (sR [mo (.alloc [.nilf,.nilf,(.int .i64 0)]) 0]
 (sR [mo (.build [.nilf,.nilf,(.int .i64 0)] [(1,1,(.f 141)),(2,1,(cI 1000000))]) 1,
 ⟨.st 3 (.t 0) (.t 1),none,none⟩]
 .ret))
instance Wq_console_timeField:WI F_i Tryz.prog 105 [] [] (fun z=>Gfield.v z) (fun z=>[]):=⟨fun Q Q' h hQ=>by
 refine acallM mc_i [] [] [.c 0 (some 3)] Tryz.func105 fun M=>?_
 unfold F_i at h
 unfold mc_i
 exact tX⟩
def F_u:Option Gfield :=
 some (Gfield.mk (some 142) none 0)
def mc_u:MC :=
 (sR [mo (.alloc [.nilf,.nilf,(.int .i64 0)]) 0]
 (sR [mo (.build [.nilf,.nilf,(.int .i64 0)] [(0,1,(.f 142))]) 1,
 ⟨.st 3 (.t 0) (.t 1),none,none⟩]
 .ret))
instance Wq_console_nameField:WI F_u Tryz.prog 106 [] [] (fun z=>Gfield.v z) (fun z=>[]):=⟨fun Q Q' h hQ=>by
 refine acallM mc_u [] [] [.c 0 (some 3)] Tryz.func106 fun M=>?_
 unfold F_u at h
 unfold mc_u
 exact tX⟩
def F_3a:Option Gfield :=
 some (Gfield.mk (some 143) none 0)
def mc_3a:MC :=
 (sR [mo (.alloc [.nilf,.nilf,(.int .i64 0)]) 0]
 (sR [mo (.build [.nilf,.nilf,(.int .i64 0)] [(0,1,(.f 143))]) 1,
 ⟨.st 3 (.t 0) (.t 1),none,none⟩]
 .ret))
instance Wq_console_otherField:WI F_3a Tryz.prog 107 [] [] (fun z=>Gfield.v z) (fun z=>[]):=⟨fun Q Q' h hQ=>by
 refine acallM mc_3a [] [] [.c 0 (some 3)] Tryz.func107 fun M=>?_
 unfold F_3a at h
 unfold mc_3a
 exact tX⟩
def F_j (many_:Int):Option Gfield :=
 some (Gfield.mk none (some 144) many_)
def mc_j:MC :=
 (sR [mo (.alloc [.nilf,.nilf,(.int .i64 0)]) 2]
 (sR [oV 0 3,
 mo (.build [.nilf,.nilf,(.int .i64 0)] [(1,1,(.f 144)),(2,1,(.t 3))]) 4,
 ⟨.st 3 (.t 2) (.t 4),none,none⟩]
 .ret))
instance Wq_console_firstField {many_:Int}:WI (F_j many_) Tryz.prog 108 [.int .i64 many_] [] (fun z=>Gfield.v z) (fun z=>[]):=⟨fun Q Q' h hQ=>by
 refine acallM mc_j [] [] [.c 2 (some 3)] Tryz.func108 fun M=>?_
 unfold F_j at h
 unfold mc_j
 exact tX⟩
def F_23 (many_:Int):Option Gfield :=
 some (Gfield.mk none (some 145) many_)
def mc_23:MC :=
 (sR [mo (.alloc [.nilf,.nilf,(.int .i64 0)]) 2]
 (sR [oV 0 3,
 mo (.build [.nilf,.nilf,(.int .i64 0)] [(1,1,(.f 145)),(2,1,(.t 3))]) 4,
 ⟨.st 3 (.t 2) (.t 4),none,none⟩]
 .ret))
instance Wq_console_secondField {many_:Int}:WI (F_23 many_) Tryz.prog 109 [.int .i64 many_] [] (fun z=>Gfield.v z) (fun z=>[]):=⟨fun Q Q' h hQ=>by
 refine acallM mc_23 [] [] [.c 2 (some 3)] Tryz.func109 fun M=>?_
 unfold F_23 at h
 unfold mc_23
 exact tX⟩
def F_k:Option (List Gform) :=
 F_i.bind fun y4=>F_u.bind fun y5=>F_3a.bind fun y6=>F_i.bind fun y10=>F_u.bind fun y11=>(F_j 16).bind fun y12=>F_u.bind fun y28=>F_u.bind fun y29=>F_i.bind fun y30=>(F_j 16).bind fun y31=>(F_23 1000000).bind fun y32=>F_i.bind fun y33=>(F_j 64).bind fun y34=>(F_23 16).bind fun y35=>F_i.bind fun y36=>(F_j 16).bind fun y37=>(F_23 16).bind fun y38=>F_i.bind fun y39=>(F_j 16).bind fun y40=>(F_j 64).bind fun y41=>F_u.bind fun y42=>some [(Gform.mk [112,101,114,115,111,110] [y28]),(Gform.mk [103,114,111,117,112] [y29]),(Gform.mk [106,111,105,110] [y4,y5,y6]),(Gform.mk [108,101,97,118,101] [y4,y5,y6]),(Gform.mk [97,108,108,111,119] [y10,y11,y12]),(Gform.mk [102,111,114,98,105,100] [y10,y11,y12]),(Gform.mk [111,112,101,110] [y30,y31,y32]),(Gform.mk [112,117,116] [y33,y34,y35]),(Gform.mk [99,111,112,121] [y36,y37,y38]),(Gform.mk [119,104,111] [y39,y40]),(Gform.mk [115,105,110,99,101] [y41,y42])]
def mc_k:MC :=
 (sR [mo (.mv (.c (.sl []))) 0]
 (sR [mo (.call (.f 105) [] [] []) 3,
 mo (.call (.f 106) [] [] []) 4,
 mo (.call (.f 107) [] [] []) 5,
 mo (.bslice 3 [(.t 3),(.t 4),(.t 5)]) 6,
 oV 6 1]
 (sR [mo (.call (.f 105) [] [] []) 7,
 mo (.call (.f 106) [] [] []) 8,
 mo (.call (.f 108) [(cI 16)] [] []) 9,
 mo (.bslice 3 [(.t 7),(.t 8),(.t 9)]) 10,
 oV 10 2]
 (.seq (.note (.gc [1,2]) (.regI [.op (mo (.call (.f 106) [] [] []) 11),
 .op (mo (.lsl 3 [(.t 11)]) 12),
 .op (mo (.build [(.str []),(.sl [])] [(0,1,(.c (.str [112,101,114,115,111,110]))),(1,1,(.t 12))]) 13),
 .op (mo (.call (.f 106) [] [] []) 14),
 .op (mo (.lsl 3 [(.t 14)]) 15),
 .op (mo (.build [(.str []),(.sl [])] [(0,1,(.c (.str [103,114,111,117,112]))),(1,1,(.t 15))]) 16),
 .op (oV 1 17),
 .op (mo (.build [(.str []),(.sl [])] [(0,1,(.c (.str [106,111,105,110]))),(1,1,(.t 17))]) 18),
 .op (oV 1 19),
 .op (mo (.build [(.str []),(.sl [])] [(0,1,(.c (.str [108,101,97,118,101]))),(1,1,(.t 19))]) 20),
 .op (oV 2 21),
 .op (mo (.build [(.str []),(.sl [])] [(0,1,(.c (.str [97,108,108,111,119]))),(1,1,(.t 21))]) 22),
 .op (oV 2 23),
 .op (mo (.build [(.str []),(.sl [])] [(0,1,(.c (.str [102,111,114,98,105,100]))),(1,1,(.t 23))]) 24),
 .op (mo (.call (.f 105) [] [] []) 25),
 .op (mo (.call (.f 108) [(cI 16)] [] []) 26),
 .op (mo (.call (.f 109) [(cI 1000000)] [] []) 27),
 .op (mo (.lsl 3 [(.t 25),(.t 26),(.t 27)]) 28),
 .op (mo (.build [(.str []),(.sl [])] [(0,1,(.c (.str [111,112,101,110]))),(1,1,(.t 28))]) 29),
 .op (mo (.call (.f 105) [] [] []) 30),
 .op (mo (.call (.f 108) [(cI 64)] [] []) 31),
 .op (mo (.call (.f 109) [(cI 16)] [] []) 32),
 .op (mo (.lsl 3 [(.t 30),(.t 31),(.t 32)]) 33),
 .op (mo (.build [(.str []),(.sl [])] [(0,1,(.c (.str [112,117,116]))),(1,1,(.t 33))]) 34),
 .op (mo (.call (.f 105) [] [] []) 35),
 .op (mo (.call (.f 108) [(cI 16)] [] []) 36),
 .op (mo (.call (.f 109) [(cI 16)] [] []) 37),
 .op (mo (.lsl 3 [(.t 35),(.t 36),(.t 37)]) 38),
 .op (mo (.build [(.str []),(.sl [])] [(0,1,(.c (.str [99,111,112,121]))),(1,1,(.t 38))]) 39),
 .op (mo (.call (.f 105) [] [] []) 40),
 .op (mo (.call (.f 108) [(cI 16)] [] []) 41),
 .op (mo (.lsl 3 [(.t 40),(.t 41)]) 42),
 .op (mo (.build [(.str []),(.sl [])] [(0,1,(.c (.str [119,104,111]))),(1,1,(.t 42))]) 43),
 .op (mo (.call (.f 108) [(cI 64)] [] []) 44),
 .op (mo (.call (.f 106) [] [] []) 45),
 .op (mo (.lsl 3 [(.t 44),(.t 45)]) 46),
 .op (mo (.build [(.str []),(.sl [])] [(0,1,(.c (.str [115,105,110,99,101]))),(1,1,(.t 46))]) 47),
 .nt (.fz 18),
 .nt (.fz 22),
 .op (mo (.bslice 2 [(.t 13),(.t 16),(.t 18),(.t 20),(.t 22),(.t 24),(.t 29),(.t 34),(.t 39),(.t 43),(.t 47)]) 48),
 .op (oV 48 0)]))
 .ret))))
instance Wq_console_forms:WI F_k Tryz.prog 63 [] [] (fun z=>.sl (z.map Gform.v)) (fun z=>[]):=⟨fun Q Q' h hQ=>by
 refine acallM mc_k [.fz 0] [] [.t 0] Tryz.func63 fun M=>?_
 unfold F_k at h
 unfold mc_k
 exact tX⟩
def F_3b (f_:Gform) (p_:List Str):Option Bool :=
 chk (inb 0 p_.length) (some (decide (f_.word_=(p_.getD 0 default))))
def mc_3b:MC :=
 (sR [mo (.box (.t 0)) 2,
 mo (.mv (.c (.bool false))) 3]
 (.seq (.regD [oF 0 2 4,
 oL 4 5,
 oL 1 6,
 mo (.iad 1 (.t 6) (cI 0)) 7,
 oL 7 8,
 mo (.bin false .eql (.t 5) (.t 8)) 9,
 oV 9 3]
 [[],[0],[],[2],[3],[1,4],[5,0,1,2,3,4,5]]
 [[],[0],[],[2],[2,3],[0,1,2,3,4],[0,1,2,3,4,5]])
 .ret))
instance Wq_console_parse_1 {f_:Gform} {p_:List Str}:WI (F_3b f_ p_) Tryz.prog 117 [Gform.v f_,.ptr 1000 0] [(1000,.cells [.sl (p_.map V.str)])] (fun z=>.bool z) (fun z=>[(1000,.cells [.sl (p_.map V.str)])]):=⟨fun Q Q' h hQ=>by
 refine acallM mc_3b [] [1000] [.t 3] Tryz.func117 fun M=>?_
 unfold F_3b at h
 unfold mc_3b
 exact tX⟩
def F_3h (fc0_:List Str) (k31:Int) (a32:Gform) (x30:Unit):Option (Fl Unit Int) :=
 (F_3b a32 fc0_).bind fun y40=>bif y40 then some (.ex k31) else some (.nx ())
def F_3c (s_:List Gform) (fc0_:List Str):Option Int :=
 (forL (F_3h fc0_) s_ 0 ()).bind fun o=>o.elim (fun x41=>some (-1)) (fun r42=>some r42)
@[irreducible] def mc_3h:MC :=
 (sR [mo (.bin false .lss (.t 8) (.t 7)) 9]
 (.seq (.cond (.t 9)
 .skip
 (.exit 0))
 (.seq (.block 1
 (sR [oV 8 10,
 oV 10 5]
 (sR [oV 1 11,
 oV 0 12,
 oV 5 13,
 mo (.iad 2 (.t 12) (.t 13)) 14,
 mo (.ld (some 2) (.t 14)) 15,
 mo (.call (.t 11) [(.t 15)] [1000] []) 16]
 (.cond (.t 16)
 (sR [oV 5 17,
 oV 17 4]
 .ret)
 .skip))))
 (.reg [mo (.bin true .add (.t 8) (cI 1)) 18,
 oV 18 8]))))
def mc_3c:MC :=
 (sR [oC 0 4]
 (.seq (sR [oV 0 6,
 mo (.len false (.t 6)) 7,
 oC 0 8]
 (.block 0
 (.loop mc_3h)))
 (sR [oC (-1) 4]
 .ret)))
attribute [go_sem] F_3h
instance:LI mc_3h 8 7 [0,1,7] [1000] (fun y:Unit=>[]) (fun y=>[]) []:=⟨⟩
instance Wq_slices_IndexFunc_console_form_console_form_of_console_parse_1 {s_:List Gform} {fc0_:List Str}:WI (F_3c s_ fc0_) Tryz.prog 116 [.sl (s_.map Gform.v),.fn (.func 117) [.ptr 1000 0]] [(1000,.cells [.sl (fc0_.map V.str)])] (fun z=>.int .i64 z) (fun z=>[(1000,.cells [.sl (fc0_.map V.str)])]):=⟨fun Q Q' h hQ=>by
 refine acallM mc_3c [] [1000] [.t 4] Tryz.func116 fun M=>?_
 unfold F_3c at h
 unfold mc_3c
 exact tX⟩
def F_1e (c_:GCommand):Option Unit :=
 some ()
def mc_1e:MC :=
 (sR [mo (.mv (.c .nilp)) 2]
 (sR [oV 0 3,
 mo (.nck (.t 3)) 4,
 oF 2 4 5,
 oV 5 2]
 .ret))
instance Wq_console_otherField_1 {c_:GCommand}:WI (F_1e c_) Tryz.prog 143 [.ptr 1000 0] [(1000,.cells [.int .i64 c_.Kind,.str c_.Name,.str c_.Other,.int .i64 c_.Time,.int .i64 c_.A,.int .i64 c_.B])] (fun z=>.ptr 1000 2) (fun z=>[(1000,.cells [.int .i64 c_.Kind,.str c_.Name,.str c_.Other,.int .i64 c_.Time,.int .i64 c_.A,.int .i64 c_.B])]):=⟨fun Q Q' h hQ=>by
 refine acallM mc_1e [] [1000] [.t 2] Tryz.func143 fun M=>?_
 unfold F_1e at h
 unfold mc_1e
 exact tX⟩
def F_1f (c_:GCommand):Option Unit :=
 some ()
def mc_1f:MC :=
 (sR [mo (.mv (.c .nilp)) 2]
 (sR [oV 0 3,
 mo (.nck (.t 3)) 4,
 oF 1 4 5,
 oV 5 2]
 .ret))
instance Wq_console_nameField_1 {c_:GCommand}:WI (F_1f c_) Tryz.prog 142 [.ptr 1000 0] [(1000,.cells [.int .i64 c_.Kind,.str c_.Name,.str c_.Other,.int .i64 c_.Time,.int .i64 c_.A,.int .i64 c_.B])] (fun z=>.ptr 1000 1) (fun z=>[(1000,.cells [.int .i64 c_.Kind,.str c_.Name,.str c_.Other,.int .i64 c_.Time,.int .i64 c_.A,.int .i64 c_.B])]):=⟨fun Q Q' h hQ=>by
 refine acallM mc_1f [] [1000] [.t 2] Tryz.func142 fun M=>?_
 unfold F_1f at h
 unfold mc_1f
 exact tX⟩
def F_1g (c_:GCommand):Option Unit :=
 some ()
def mc_1g:MC :=
 (sR [mo (.mv (.c .nilp)) 2]
 (sR [oV 0 3,
 mo (.nck (.t 3)) 4,
 oF 5 4 5,
 oV 5 2]
 .ret))
instance Wq_console_secondField_1 {c_:GCommand}:WI (F_1g c_) Tryz.prog 145 [.ptr 1000 0] [(1000,.cells [.int .i64 c_.Kind,.str c_.Name,.str c_.Other,.int .i64 c_.Time,.int .i64 c_.A,.int .i64 c_.B])] (fun z=>.ptr 1000 5) (fun z=>[(1000,.cells [.int .i64 c_.Kind,.str c_.Name,.str c_.Other,.int .i64 c_.Time,.int .i64 c_.A,.int .i64 c_.B])]):=⟨fun Q Q' h hQ=>by
 refine acallM mc_1g [] [1000] [.t 2] Tryz.func145 fun M=>?_
 unfold F_1g at h
 unfold mc_1g
 exact tX⟩
def F_1h (c_:GCommand):Option Unit :=
 some ()
def mc_1h:MC :=
 (sR [mo (.mv (.c .nilp)) 2]
 (sR [oV 0 3,
 mo (.nck (.t 3)) 4,
 oF 4 4 5,
 oV 5 2]
 .ret))
instance Wq_console_firstField_1 {c_:GCommand}:WI (F_1h c_) Tryz.prog 144 [.ptr 1000 0] [(1000,.cells [.int .i64 c_.Kind,.str c_.Name,.str c_.Other,.int .i64 c_.Time,.int .i64 c_.A,.int .i64 c_.B])] (fun z=>.ptr 1000 4) (fun z=>[(1000,.cells [.int .i64 c_.Kind,.str c_.Name,.str c_.Other,.int .i64 c_.Time,.int .i64 c_.A,.int .i64 c_.B])]):=⟨fun Q Q' h hQ=>by
 refine acallM mc_1h [] [1000] [.t 2] Tryz.func144 fun M=>?_
 unfold F_1h at h
 unfold mc_1h
 exact tX⟩
def F_1i (c_:GCommand):Option Unit :=
 some ()
def mc_1i:MC :=
 (sR [mo (.mv (.c .nilp)) 2]
 (sR [oV 0 3,
 mo (.nck (.t 3)) 4,
 oF 3 4 5,
 oV 5 2]
 .ret))
instance Wq_console_timeField_1 {c_:GCommand}:WI (F_1i c_) Tryz.prog 141 [.ptr 1000 0] [(1000,.cells [.int .i64 c_.Kind,.str c_.Name,.str c_.Other,.int .i64 c_.Time,.int .i64 c_.A,.int .i64 c_.B])] (fun z=>.ptr 1000 3) (fun z=>[(1000,.cells [.int .i64 c_.Kind,.str c_.Name,.str c_.Other,.int .i64 c_.Time,.int .i64 c_.A,.int .i64 c_.B])]):=⟨fun Q Q' h hQ=>by
 refine acallM mc_1i [] [1000] [.t 2] Tryz.func141 fun M=>?_
 unfold F_1i at h
 unfold mc_1i
 exact tX⟩
def F_24 (f_:Gfield) (c_:GCommand):Option (Bool×GCommand) :=
 bif f_.name_.isSome then bif decide (f_.name_=some 142) then (F_1f c_).bind fun y14=>(namedF c_.Name 12).bind fun y16=>some (y16,(GCommand.mk c_.Kind [] c_.Other c_.Time c_.A c_.B)) else bif decide (f_.name_=some 143) then (F_1e c_).bind fun y11=>(namedF c_.Other 12).bind fun y13=>some (y13,(GCommand.mk c_.Kind c_.Name [] c_.Time c_.A c_.B)) else none else bif decide (f_.n_=some 141) then (F_1i c_).bind fun y24=>jn (α:=Bool) (bif decide (0≤c_.Time) then some (decide (c_.Time<f_.many_)) else some false) fun j25=>some (j25,(GCommand.mk c_.Kind c_.Name c_.Other 0 c_.A c_.B)) else bif decide (f_.n_=some 144) then (F_1h c_).bind fun y22=>jn (α:=Bool) (bif decide (0≤c_.A) then some (decide (c_.A<f_.many_)) else some false) fun j23=>some (j23,(GCommand.mk c_.Kind c_.Name c_.Other c_.Time 0 c_.B)) else bif decide (f_.n_=some 145) then (F_1g c_).bind fun y20=>jn (α:=Bool) (bif decide (0≤c_.B) then some (decide (c_.B<f_.many_)) else some false) fun j21=>some (j21,(GCommand.mk c_.Kind c_.Name c_.Other c_.Time c_.A 0)) else none
@[irreducible] def mc_3l:MC :=
 (sR [oV 7 39,
 mo (.nck (.t 39)) 40,
 ⟨.st 1 (.t 40) (cI 0),none,none⟩]
 (sR [oV 8 41,
 oV 41 4]
 .ret))
def mc_24:MC :=
 (sR [mo (.box (.t 0)) 2,
 mo (.mv (.c (.bool false))) 4]
 (.seq (sR [oF 0 2 9,
 oL 9 10,
 mo (.mp (.fnz true) [(.t 10)]) 11]
 (.cond (.t 11)
 (sR [oF 0 2 12,
 oL 12 13,
 oV 1 14,
 mo (.call (.t 13) [(.t 14)] [1000] []) 15,
 oV 15 5]
 (.seq (.note (.gc [5]) (.reg [oV 5 16,
 mo (.nck (.t 16)) 17,
 oL 17 18,
 mo (.call (.f 110) [(.t 18),(cI 12)] [] []) 19,
 oV 19 6]))
 (sR [oV 5 20,
 mo (.nck (.t 20)) 21,
 ⟨.st 1 (.t 21) (.c (.str [])),none,none⟩]
 (sR [oV 6 22,
 oV 22 4]
 .ret))))
 .skip))
 (sR [oF 1 2 23,
 oL 23 24,
 oV 1 25,
 mo (.call (.t 24) [(.t 25)] [1000] []) 26,
 oV 26 7]
 (.cut (.note (.gc [2,7,32,33,34,35,36,37]) (.regD [oV 7 27,
 mo (.nck (.t 27)) 28,
 oL 28 29,
 mo (.bin false .geq (.t 29) (cI 0)) 30,
 oV 30 31,
 gT 31 32 (.mv (.t 7)),
 gT 31 33 (.nck (.t 32)),
 gT 31 34 (.ld none (.t 33)),
 gT 31 35 (.fad 2 (.t 2)),
 gT 31 36 (.ld none (.t 35)),
 gT 31 37 (.bin false .lss (.t 34) (.t 36)),
 mo (.pick (.t 31) (.t 37) (.c (.bool false))) 38,
 oV 38 8]
 [[],[0],[1],[2],[3],[4],[5,4],[6,4],[4],[8,4],[7,9,4],[4,10],[11,4,0,1,2,3,4,5,6,7,8,9,10,11]]
 [[],[0],[0,1],[0,1,2],[0,1,2,3],[0,1,2,3,4],[0,1,2,3,4,5],[0,1,2,3,4,5,6],[0,1,2,3,4],[0,1,2,3,4,8],[0,1,2,3,4,5,6,7,8,9],[0,1,2,3,4,5,6,7,8,9,10],[0,1,2,3,4,5,6,7,8,9,10,11]]))
 mc_3l))))
instance:LI mc_3l 0 0 [7] [1000] (fun y:Bool=>[(8,.bool y)]) (fun y=>[]) []:=⟨⟩
instance:LI mc_3l 0 0 [7] [1000] (fun y:Bool=>[(8,.bool y)]) (fun y=>[]) []:=⟨⟩
instance:LI mc_3l 0 0 [7] [1000] (fun y:Bool=>[(8,.bool y)]) (fun y=>[]) []:=⟨⟩
instance Wq_console_field_right {f_:Gfield} {c_:GCommand}:WI (F_24 f_ c_) Tryz.prog 64 [Gfield.v f_,.ptr 1000 0] [(1000,.cells [.int .i64 c_.Kind,.str c_.Name,.str c_.Other,.int .i64 c_.Time,.int .i64 c_.A,.int .i64 c_.B])] (fun z=>.bool z.1) (fun z=>[(1000,.cells [.int .i64 z.2.Kind,.str z.2.Name,.str z.2.Other,.int .i64 z.2.Time,.int .i64 z.2.A,.int .i64 z.2.B])]):=⟨fun Q Q' h hQ=>by
 refine acallM mc_24 [] [1000] [.t 4] Tryz.func64 fun M=>?_
 unfold F_24 at h
 unfold mc_24
 exact tX⟩
def F_1j (k52:Int) (a53:Gfield) (x51:Bool×GCommand):Option (Bool×GCommand) :=
 (F_24 a53 x51.2).bind fun y60=>grp ((y60.1&&x51.1)) fun b61=>some (b61,y60.2)
def F_1k (c_:GCommand):Option Bool :=
 grp ((decide (c_.Kind<1)||decide (11<c_.Kind))) fun b4=>bif b4 then some false else F_k.bind fun y33=>chk (in64 (c_.Kind - 1)) (chk (inb (c_.Kind - 1) y33.length) ((foldL F_1j ((y33.getD ((c_.Kind - 1)).toNat default).fields_) 0 (true,c_)).bind fun x62=>jn (α:=Bool) (bif x62.1 then some (decide (x62.2.Kind=x62.2.Kind)&&(decide (x62.2.Name=[])&&(decide (x62.2.Other=[])&&(decide (x62.2.Time=0)&&(decide (x62.2.A=0)&&decide (x62.2.B=0)))))) else some false) fun j64=>some j64))
@[irreducible] def mg_3r:List MOp:=[gF 9 10 (.fad 0 (.t 1)),
 gF 9 11 (.ld none (.t 10)),
 gF 9 12 (.bin false .gtr (.t 11) (cI 11)),
 mo (.pick (.t 9) (.c (.bool true)) (.t 12)) 13]
@[irreducible] def mg_3s:List MOp:=[gT 28 29 (.mv (.t 3)),
 mo (.pick (.t 28) (.t 29) (.c (.bool false))) 30]
@[irreducible] def mc_1j:MC :=
 (sR [mo (.bin false .lss (.t 22) (.t 21)) 23]
 (.seq (.cond (.t 23)
 .skip
 (.exit 0))
 (.seq (.block 1
 (sR [mo (.iad 3 (.t 20) (.t 22)) 24,
 mo (.ld (some 3) (.t 24)) 25,
 mo (.alloc [.nilf,.nilf,(.int .i64 0)]) 5,
 ⟨.st 3 (.t 5) (.t 25),none,none⟩]
 (.regI [.op (mo (.ld (some 3) (.t 5)) 26),
 .op (mo (.call (.f 64) [(.t 26),(.t 1)] [1] []) 27),
 .op (oV 27 28),
 .grp mg_3s,
 .op (oV 30 3)])))
 (.reg [mo (.bin true .add (.t 22) (cI 1)) 31,
 oV 31 22]))))
@[irreducible] def mg_3t:List MOp:=[gT 33 34 (.ld (some 6) (.t 1)),
 gT 33 35 (.fad 0 (.t 1)),
 gT 33 36 (.ld none (.t 35)),
 gT 33 37 (.build [(.int .i64 0),(.str []),(.str []),(.int .i64 0),(.int .i64 0),(.int .i64 0)] [(0,1,(.t 36))]),
 gT 33 38 (.eqs false [0,1,1,0,0,0] (.t 34) (.t 37)),
 mo (.pick (.t 33) (.t 38) (.c (.bool false))) 39]
def mc_1k:MC :=
 (sR [mo (.box (.t 0)) 1,
 mo (.mv (.c (.bool false))) 2]
 (.seq (.seq (.regI [.op (oF 0 1 6),
 .op (oL 6 7),
 .op (mo (.bin false .lss (.t 7) (cI 1)) 8),
 .op (oV 8 9),
 .grp mg_3r])
 (.cond (.t 13)
 (sR [mo (.mv (.c (.bool false))) 2]
 .ret)
 .skip))
 (sR [mo (.mv (.c (.bool true))) 3]
 (.seq (.seq (.regD [mo (.call (.f 63) [] [] []) 14,
 oF 0 1 15,
 oL 15 16,
 mo (.bin true .sub (.t 16) (cI 1)) 17,
 mo (.iad 2 (.t 14) (.t 17)) 18,
 oF 1 18 19,
 oL 19 20,
 mo (.len false (.t 20)) 21,
 oC 0 22]
 [[],[],[1],[2],[0,3],[4],[5],[6],[]]
 [[],[],[1],[1,2],[0,1,2,3],[0,1,2,3,4],[0,1,2,3,4,5],[0,1,2,3,4,5,6],[]])
 (.block 0
 (.loop mc_1j)))
 (.seq (.regI [.op (oV 3 32),
 .op (oV 32 33),
 .grp mg_3t,
 .op (oV 39 2)])
 .ret)))))
instance Wq_console_Valid {c_:GCommand}:WI (F_1k c_) Tryz.prog 20 [GCommand.v c_] [] (fun z=>.bool z) (fun z=>[]):=⟨fun Q Q' h hQ=>by
 refine acallM mc_1k [] [] [.t 2] Tryz.func20 fun M=>?_
 unfold F_1k at h
 unfold mc_1k
 replace h:=tY h
 refine tB ?_
 repeat' (first
 | (exact tZ)
 | ((first|refine oblg h ?_|refine roomG h ?_|refine inbG h ?_|refine incG h ?_|refine divG h ?_|refine appG h ?_|refine appC h ?_|refine fork h ?_ ?_|refine forkS h ?_ ?_)<;>clear h<;>intro hc h)
 | (obtain ⟨y,hy,h⟩:=h;(first|have hw:=acall_swe 1000 1 (Wq_console_field_right.c.w hy)|have hw:=WI.w hy);replace hw:=tY hw;(first|refine M.sC hw ?_|refine M.sD hw ?_);clear hw hy;refine tB ?_)
 | (refine M.gv1 (ms:=mg_3s) 30 [29] h ?_ ?_<;>first
 | (clear h;intro K hK1;unfold mg_3s;refine tB ?_)
 | (clear h;intro b h;replace h:=tY h;refine tB ?_))
 | (refine M.fold1 (b:=mc_1j) 22 [1,20,21] [] (fun x=>[(3,.bool x.1)]) (fun x=>[.o 1 (.cells [.int .i64 x.2.Kind,.str x.2.Name,.str x.2.Other,.int .i64 x.2.Time,.int .i64 x.2.A,.int .i64 x.2.B])]) [] h ?_ ?_ ?_<;>first
 | (clear h;intro k a x Qn K hK2 hkN2 ha2 h hf;have hl:=fact_int (factsE_find (n:=21) hf.1 rfl);clear hf;have hkd:=kD hkN2;have hkB2:=kB hkN2;have hkI2:=kI (k:=k) (by omega);unfold F_1j at h;unfold mc_1j;replace h:=tY h;refine tK ha2 hkd hkN2 hkB2 hkI2 ?_)
  |(clear h;intro x K h;replace h:=And.left (And.intro h trivial);unfold mc_1j;replace h:=tY h;refine tB ?_)
  |(clear h;(try refine tB ?_);exact tU0;done))
 | (refine M.gj1 (ms:=mg_3t) [] [] (fun y=>[(39,.bool y)]) (fun y=>[]) h ?_ ?_<;>first
 | (clear h;intro Qn K hK3 h;unfold mg_3t;replace h:=tY h;refine tB ?_)
  |(clear h;intro y h;replace h:=tY h;refine tB ?_))
 | (refine M.gv1 (ms:=mg_3r) 13 [10,11,12] h ?_ ?_<;>first
 | (clear h;intro K hK4;unfold mg_3r;refine tB ?_)
 | (clear h;intro b h;replace h:=tY h;refine tB ?_))
 | (simp only [ha2])
 | ((first|refine hK1 _ ?_|refine hK4 _ ?_);exact tU;done)
 | ((first|refine hK2 _ ?_|refine hK3 _ ?_);(try refine tB ?_);refine ⟨_,h,?_⟩;exact tU0;done)
 | (refine bfork (fun hc=>?_) (fun hc=>?_))
 | (refine tE ?_;(first|rw [M.lok_compU]|rw [M.lokD_compU]);refine tB ?_)
 | (refine tA ?_)
 | fail)⟩
def F_2k (c_:GCommand) (k130:Int) (a131:Gfield) (x129:List Str):Option (List Str) :=
 bif a131.name_.isSome then bif decide (a131.name_=some 142) then (F_1f c_).bind fun y157=>chk (room (x129.length+[c_.Name].length) 16) (some (x129++[c_.Name])) else bif decide (a131.name_=some 143) then (F_1e c_).bind fun y156=>chk (room (x129.length+[c_.Other].length) 16) (some (x129++[c_.Other])) else none else bif decide (a131.n_=some 141) then (F_1i c_).bind fun y162=>(itoaI c_.Time).bind fun y163=>chk (room (x129.length+[y163].length) 16) (some (x129++[y163])) else bif decide (a131.n_=some 144) then (F_1h c_).bind fun y160=>(itoaI c_.A).bind fun y161=>chk (room (x129.length+[y161].length) 16) (some (x129++[y161])) else bif decide (a131.n_=some 145) then (F_1g c_).bind fun y158=>(itoaI c_.B).bind fun y159=>chk (room (x129.length+[y159].length) 16) (some (x129++[y159])) else none
def F_2l (c_:GCommand):Option Str :=
 F_k.bind fun y2=>chk (in64 (c_.Kind - 1)) (chk (inb (c_.Kind - 1) y2.length) ((foldL (F_2k c_) ((y2.getD ((c_.Kind - 1)).toNat default).fields_) 0 [(y2.getD ((c_.Kind - 1)).toNat default).word_]).bind fun x164=>(joinI x164 [32]).bind fun y166=>chk (strl (y166.length+[10].length)) (some (y166++[10]))))
@[irreducible] def mc_2k:MC :=
 (sR [mo (.bin false .lss (.t 19) (.t 18)) 20]
 (.seq (.cond (.t 20)
 .skip
 (.exit 0))
 (.seq (.block 1
 (sR [mo (.iad 3 (.t 17) (.t 19)) 21,
 mo (.ld (some 3) (.t 21)) 22,
 mo (.alloc [.nilf,.nilf,(.int .i64 0)]) 6,
 ⟨.st 3 (.t 6) (.t 22),none,none⟩]
 (sR [oF 0 6 23,
 oL 23 24,
 mo (.mp (.fnz true) [(.t 24)]) 25]
 (.cond (.t 25)
 (.reg [oV 4 26,
 oF 0 6 27,
 oL 27 28,
 mo (.call (.t 28) [(.t 1)] [1] []) 29,
 mo (.nck (.t 29)) 30,
 oL 30 31,
 mo (.bslice 1 [(.t 31)]) 32,
 mo (.app 1 16 (.t 26) (.t 32)) 33,
 oV 33 4])
 (.reg [oV 4 34,
 oF 1 6 35,
 oL 35 36,
 mo (.call (.t 36) [(.t 1)] [1] []) 37,
 mo (.nck (.t 37)) 38,
 oL 38 39,
 mo (.call (.f 33) [(.t 39)] [] []) 40,
 mo (.bslice 1 [(.t 40)]) 41,
 mo (.app 1 16 (.t 34) (.t 41)) 42,
 oV 42 4])))))
 (.reg [mo (.bin true .add (.t 19) (cI 1)) 43,
 oV 43 19]))))
def mc_2l:MC :=
 (sR [mo (.box (.t 0)) 1,
 mo (.mv (.c (.str []))) 2]
 (.seq (.regD [mo (.call (.f 63) [] [] []) 7,
 oF 0 1 8,
 oL 8 9,
 mo (.bin true .sub (.t 9) (cI 1)) 10,
 mo (.iad 2 (.t 7) (.t 10)) 11,
 mo (.ld (some 2) (.t 11)) 12,
 mo (.alloc [(.str []),(.sl [])]) 3,
 ⟨.st 2 (.t 3) (.t 12),none,none⟩]
 [[],[],[1],[2],[0,3],[4],[],[6,5,0,0,1,2,3,4,5,6]]
 [[],[],[1],[1,2],[0,1,2,3],[0,1,2,3,4],[],[0,1,2,3,4,5,6]])
 (.seq (.note (.gc [1,3]) (.reg [oF 0 3 13,
 oL 13 14,
 mo (.bslice 1 [(.t 14)]) 15,
 oV 15 4]))
 (.seq (sR [oF 1 3 16,
 oL 16 17,
 mo (.len false (.t 17)) 18,
 oC 0 19]
 (.block 0
 (.loop mc_2k)))
 (.seq (.regI [.op (oV 4 44),
 .nt (.fz 44),
 .op (mo (.call (.f 103) [(.t 44),(.c (.str [32]))] [] []) 45),
 .op (mo (.bin false .add (.t 45) (.c (.str [10]))) 46),
 .op (oV 46 2)])
 .ret)))))
instance Wq_console_line {c_:GCommand}:WI (F_2l c_) Tryz.prog 60 [GCommand.v c_] [] (fun z=>.str z) (fun z=>[]):=⟨fun Q Q' h hQ=>by
 refine acallM mc_2l [] [] [.t 2] Tryz.func60 fun M=>?_
 unfold F_2l at h
 unfold mc_2l
 replace h:=tY h
 refine tB ?_
 repeat' (first
 | (exact tZ)
 | ((first|refine oblg h ?_|refine roomG h ?_|refine inbG h ?_|refine incG h ?_|refine divG h ?_|refine appG h ?_|refine appC h ?_|refine fork h ?_ ?_|refine forkS h ?_ ?_)<;>clear h<;>intro hc h)
 | (obtain ⟨y,hy,h⟩:=h;(first|have hw:=acall_swe 1000 1 (Wq_console_otherField_1.c.w hy)|have hw:=acall_swe 1000 1 (Wq_console_nameField_1.c.w hy)|have hw:=acall_swe 1000 1 (Wq_console_secondField_1.c.w hy)|have hw:=acall_swe 1000 1 (Wq_console_firstField_1.c.w hy)|have hw:=acall_swe 1000 1 (Wq_console_timeField_1.c.w hy)|have hw:=WI.w hy|have hw:=W_3p hy|have hw:=W_4d hy);replace hw:=tY hw;(first|refine M.sC hw ?_|refine M.sD hw ?_);clear hw hy;refine tB ?_)
 | (refine M.fold1 (b:=mc_2k) 19 [1,17,18] [1] (fun x=>[(4,.osl 2004 1 0 x.length)]) (fun x=>[.o 2004 (.arr 1 (x.map V.str))]) [.gc [1,4,17,18,19],.acc 4 2004 1] h ?_ ?_ ?_<;>first
 | (clear h;intro k a x Qn K hK1 hkN1 ha1 h hf;have hl:=fact_int (factsE_find (n:=18) hf.1 rfl);clear hf;have hkd:=kD hkN1;have hkB1:=kB hkN1;have hkI1:=kI (k:=k) (by omega);unfold F_2k at h;unfold mc_2k;replace h:=tY h;refine tK ha1 hkd hkN1 hkB1 hkI1 ?_)
  |(clear h;intro x K h;replace h:=And.left (And.intro h trivial);unfold mc_2k;replace h:=tY h;refine tB ?_)
  |(clear h;(try refine tB ?_);exact tU0;done))
 | (simp only [ha1])
 | (refine hK1 _ ?_;(try refine tB ?_);refine ⟨_,h,?_⟩;exact tU0;done)
 | ((first|show sCall _ (fnV _) _ _ _ _ _|show sCallD _ (fnV _) _ _ _ _ _);rcases decS h with ⟨hc,h⟩|⟨hc,h⟩<;>first|exact False.elim h|(simp only [hc];replace h:=tY h;refine tB ?_)|skip)
 | (refine tE ?_;(first|rw [M.lok_compU]|rw [M.lokD_compU]);refine tB ?_)
 | (refine tA ?_)
 | fail)⟩
def F_2m (y4:List Str) (k215:Int) (a216:Gfield) (x214:GCommand):Option (Fl GCommand (GCommand×Bool)) :=
 bif a216.name_.isSome then bif decide (a216.name_=some 142) then (F_1f x214).bind fun y263=>chk (inb (k215+1) y4.length) (some (.nx (GCommand.mk x214.Kind (y4.getD ((k215+1)).toNat default) x214.Other x214.Time x214.A x214.B))) else bif decide (a216.name_=some 143) then (F_1e x214).bind fun y262=>chk (inb (k215+1) y4.length) (some (.nx (GCommand.mk x214.Kind x214.Name (y4.getD ((k215+1)).toNat default) x214.Time x214.A x214.B))) else none else chk (inb (k215+1) y4.length) ((atoiE (y4.getD ((k215+1)).toNat default)).bind fun y265=>bif (!y265.2) then some (.ex ((GCommand.mk 0 [] [] 0 0 0),false)) else bif decide (a216.n_=some 141) then (F_1i x214).bind fun y268=>some (.nx (GCommand.mk x214.Kind x214.Name x214.Other y265.1 x214.A x214.B)) else bif decide (a216.n_=some 144) then (F_1h x214).bind fun y267=>some (.nx (GCommand.mk x214.Kind x214.Name x214.Other x214.Time y265.1 x214.B)) else bif decide (a216.n_=some 145) then (F_1g x214).bind fun y266=>some (.nx (GCommand.mk x214.Kind x214.Name x214.Other x214.Time x214.A y265.1)) else none)
def F_3d (text_:Str):Option (GCommand×Bool) :=
 (F_39 text_ [10]).bind fun y3=>(splI y3 [32]).bind fun y4=>F_k.bind fun y7=>(F_3c y7 y4).bind fun y8=>bif decide (y8<0) then some ((GCommand.mk 0 [] [] 0 0 0),false) else F_k.bind fun y12=>chk (inb y8 y12.length) (chk (in64 (1+(((y12.getD (y8).toNat default).fields_).length:Int))) (bif (!decide ((y4.length:Int)=(1+(((y12.getD (y8).toNat default).fields_).length:Int)))) then some ((GCommand.mk 0 [] [] 0 0 0),false) else chk (in64 (y8+1)) (F_k.bind fun y130=>chk (inb y8 y130.length) ((forL (F_2m y4) ((y130.getD (y8).toNat default).fields_) 0 (GCommand.mk (y8+1) [] [] 0 0 0)).bind fun o=>o.elim (fun x269=>(F_1k x269).bind fun y273=>bif y273 then (F_2l x269).bind fun y274=>some (x269,decide (y274=text_)) else some (x269,false)) (fun r270=>some r270)))))
@[irreducible] def mc_2m:MC :=
 (sR [mo (.bin false .lss (.t 41) (.t 40)) 42]
 (.seq (.cond (.t 42)
 .skip
 (.exit 0))
 (.seq (.block 1
 (sR [oV 41 43,
 mo (.iad 3 (.t 39) (.t 41)) 44,
 mo (.ld (some 3) (.t 44)) 45,
 mo (.alloc [.nilf,.nilf,(.int .i64 0)]) 8,
 oV 43 7,
 ⟨.st 3 (.t 8) (.t 45),none,none⟩]
 (.seq (sR [oF 0 8 46,
 oL 46 47,
 mo (.mp (.fnz true) [(.t 47)]) 48]
 (.cond (.t 48)
 (.seq (.regD [oF 0 8 49,
 oL 49 50,
 mo (.call (.t 50) [(.t 6)] [6] []) 51,
 oL 4 52,
 oV 7 53,
 mo (.bin true .add (.t 53) (cI 1)) 54,
 mo (.iad 1 (.t 52) (.t 54)) 55,
 oL 55 56,
 mo (.nck (.t 51)) 57,
 ⟨.st 1 (.t 57) (.t 56),none,none⟩]
 [[],[0],[1],[],[],[4],[3,5],[6],[2,0,1,2,3,4,5,6,7],[8,7,2,0,1,2,3,4,5,6,7]]
 [[],[0],[0,1],[],[],[4],[3,4,5],[3,4,5,6],[0,1,2,3,4,5,6,7],[0,1,2,3,4,5,6,7,8]])
 (.exit 1))
 .skip))
 (sR [oL 4 59,
 oV 7 60,
 mo (.bin true .add (.t 60) (cI 1)) 61,
 mo (.iad 1 (.t 59) (.t 61)) 62,
 oL 62 63,
 mo (.call (.f 118) [(.t 63)] [] []) 64,
 oV 64 58,
 mo (.ext 0 (.t 58)) 65,
 mo (.ext 1 (.t 58)) 66,
 oV 65 9,
 oV 66 10]
 (.seq (sR [oV 10 67,
 mo (.mp (.ifz true) [(.t 67)]) 68]
 (.cond (.t 68)
 (.seq (.note (.gc [2]) (.reg [mo (.build [(.int .i64 0),(.str []),(.str []),(.int .i64 0),(.int .i64 0),(.int .i64 0)] []) 69,
 ⟨.st 6 (.t 2) (.t 69),none,none⟩,
 mo (.mv (.c (.bool false))) 3]))
 .ret)
 .skip))
 (.note (.gc [0,2,4,6,8,9,39,40,41,80,81,82,83]) (.reg [oF 1 8 70,
 oL 70 71,
 mo (.call (.t 71) [(.t 6)] [6] []) 72,
 oV 9 73,
 mo (.nck (.t 72)) 74,
 ⟨.st 1 (.t 74) (.t 73),none,none⟩])))))))
 (.reg [mo (.bin true .add (.t 41) (cI 1)) 75,
 oV 75 41]))))
def mc_3d:MC :=
 (sR [mo (.alloc [(.int .i64 0),(.str []),(.str []),(.int .i64 0),(.int .i64 0),(.int .i64 0)]) 2,
 mo (.mv (.c (.bool false))) 3]
 (sR [oV 0 11,
 mo (.call (.f 115) [(.t 11),(.c (.str [10]))] [] []) 12,
 mo (.call (.f 114) [(.t 12),(.c (.str [32]))] [] []) 13,
 mo (.alloc [(.sl [])]) 4,
 ⟨.st 1 (.t 4) (.t 13),none,none⟩]
 (sR [mo (.call (.f 63) [] [] []) 14,
 mo (.mkfn 117 [(.t 4)]) 15,
 mo (.call (.f 116) [(.t 14),(.t 15)] [4] []) 16,
 oV 16 5]
 (.seq (.seq (.regD [oV 5 17,
 mo (.bin false .lss (.t 17) (cI 0)) 18,
 oV 18 19,
 gF 19 20 (.ld none (.t 4)),
 gF 19 21 (.len false (.t 20)),
 gF 19 22 (.call (.f 63) [] [] []),
 gF 19 23 (.mv (.t 5)),
 gF 19 24 (.iad 2 (.t 22) (.t 23)),
 gF 19 25 (.fad 1 (.t 24)),
 gF 19 26 (.ld none (.t 25)),
 gF 19 27 (.len false (.t 26)),
 gF 19 28 (.bin true .add (cI 1) (.t 27)),
 gF 19 29 (.bin false .neq (.t 21) (.t 28)),
 mo (.pick (.t 19) (.c (.bool true)) (.t 29)) 30]
 [[],[0],[1],[2],[3,2],[2,2],[2],[5,6,2],[7,2],[8,2],[9,2],[10,2],[4,11,2],[2,12]]
 [[],[0],[0,1],[0,1,2],[0,1,2,3],[0,1,2],[0,1,2],[0,1,2,5,6],[0,1,2,5,6,7],[0,1,2,5,6,7,8],[0,1,2,5,6,7,8,9],[0,1,2,5,6,7,8,9,10],[0,1,2,3,4,5,6,7,8,9,10,11],[0,1,2,3,4,5,6,7,8,9,10,11,12]])
 (.cond (.t 30)
 (.seq (.note (.gc [2]) (.reg [mo (.build [(.int .i64 0),(.str []),(.str []),(.int .i64 0),(.int .i64 0),(.int .i64 0)] []) 31,
 ⟨.st 6 (.t 2) (.t 31),none,none⟩,
 mo (.mv (.c (.bool false))) 3]))
 .ret)
 .skip))
 (.seq (.note (.gc [0,2,4,5,80,81,82,83]) (.reg [oV 5 32,
 mo (.bin true .add (.t 32) (cI 1)) 33,
 mo (.build [(.int .i64 0),(.str []),(.str []),(.int .i64 0),(.int .i64 0),(.int .i64 0)] [(0,1,(.t 33))]) 34,
 mo (.alloc [(.int .i64 0),(.str []),(.str []),(.int .i64 0),(.int .i64 0),(.int .i64 0)]) 6,
 ⟨.st 6 (.t 6) (.t 34),none,none⟩]))
 (.seq (sR [mo (.call (.f 63) [] [] []) 35,
 oV 5 36,
 mo (.iad 2 (.t 35) (.t 36)) 37,
 oF 1 37 38,
 oL 38 39,
 mo (.len false (.t 39)) 40,
 oC 0 41]
 (.block 0
 (.loop mc_2m)))
 (.seq (.regD [mo (.ld (some 6) (.t 6)) 76,
 mo (.ld (some 6) (.t 6)) 77,
 mo (.call (.f 20) [(.t 77)] [] []) 78,
 oV 78 79,
 gT 79 80 (.ld (some 6) (.t 6)),
 gT 79 81 (.call (.f 60) [(.t 80)] [] []),
 gT 79 82 (.mv (.t 0)),
 gT 79 83 (.bin false .eql (.t 81) (.t 82)),
 mo (.pick (.t 79) (.t 83) (.c (.bool false))) 84,
 ⟨.st 6 (.t 2) (.t 76),none,none⟩,
 oV 84 3]
 [[],[],[1],[2,2],[3],[4,3,3],[3],[5,6,3],[3,7],[0,5,0],[8,9,0,1,2,3,4,5,6,7,8,9]]
 [[],[],[1],[1,2],[1,2,3],[1,2,3,4],[1,2,3],[1,2,3,4,5,6],[1,2,3,4,5,6,7],[0,1,2,3,4,5],[0,1,2,3,4,5,6,7,8,9]])
 .ret)))))))
instance Wq_console_parse {text_:Str}:WI (F_3d text_) Tryz.prog 75 [.str text_] [] (fun z=>.tup [GCommand.v z.1,.bool z.2]) (fun z=>[]):=⟨fun Q Q' h hQ=>by
 refine acallM mc_3d [] [] [.c 2 (some 6),.t 3] Tryz.func75 fun M=>?_
 unfold F_3d at h
 unfold mc_3d
 replace h:=tY h
 refine tB ?_
 repeat' (first
 | (exact tZ)
 | ((first|refine oblg h ?_|refine roomG h ?_|refine inbG h ?_|refine incG h ?_|refine divG h ?_|refine appG h ?_|refine appC h ?_|refine fork h ?_ ?_|refine forkS h ?_ ?_)<;>clear h<;>intro hc h)
 | (obtain ⟨y,hy,h⟩:=h;(first|have hw:=acall_swe 1000 4 (Wq_slices_IndexFunc_console_form_console_form_of_console_parse_1.c.w hy)|have hw:=acall_swe 1000 6 (Wq_console_otherField_1.c.w hy)|have hw:=acall_swe 1000 6 (Wq_console_nameField_1.c.w hy)|have hw:=acall_swe 1000 6 (Wq_console_secondField_1.c.w hy)|have hw:=acall_swe 1000 6 (Wq_console_firstField_1.c.w hy)|have hw:=acall_swe 1000 6 (Wq_console_timeField_1.c.w hy)|have hw:=WI.w hy|have hw:=W_4c hy|have hw:=W_4e hy);replace hw:=tY hw;(first|refine M.sC hw ?_|refine M.sD hw ?_);clear hw hy;refine tB ?_)
 | (refine M.for1 (b:=mc_2m) 41 [0,2,4,6,39,40] [4,2] (fun x=>[]) (fun x=>[.o 6 (.cells [.int .i64 x.Kind,.str x.Name,.str x.Other,.int .i64 x.Time,.int .i64 x.A,.int .i64 x.B])]) [] h ?_ ?_ ?_<;>first
 | (clear h;intro k a x Qn K hK1 hkN1 ha1 h hf;have hl:=fact_int (factsE_find (n:=40) hf.1 rfl);clear hf;have hkd:=kD hkN1;have hkB1:=kB hkN1;have hkI1:=kI (k:=k) (by omega);unfold F_2m at h;unfold mc_2m;replace h:=tY h;refine tK ha1 hkd hkN1 hkB1 hkI1 ?_)
  |(clear h;intro x K h;replace h:=And.left (And.intro h trivial);unfold mc_2m;replace h:=tY h;refine tB ?_)
  |(clear h;(try refine tB ?_);exact tU0;done))
 | (simp only [ha1])
 | (refine hK1 _ ?_;(try refine tB ?_);refine ⟨_,h,?_⟩;exact tU0;done)
 | ((first|show sCall _ (fnV _) _ _ _ _ _|show sCallD _ (fnV _) _ _ _ _ _);rcases decS h with ⟨hc,h⟩|⟨hc,h⟩<;>first|exact False.elim h|(simp only [hc];replace h:=tY h;refine tB ?_)|skip)
 | (refine tE ?_;(first|rw [M.lok_compU]|rw [M.lokD_compU]);refine tB ?_)
 | (refine tA ?_)
 | fail)⟩
def F_2n (k49:Int) (a50:Str) (x48:List GCommand):Option (Fl (List GCommand) ((List GCommand)×Int×Int)) :=
 (F_3d a50).bind fun y58=>bif (!y58.2) then some (.ex ([],k49,45)) else chk (room (x48.length+[y58.1].length) 64) (some (.nx (x48++[y58.1])))
def F_2o (text_:Str):Option ((List GCommand)×Int×Int) :=
 (linF text_).bind fun y3=>(F_36 text_).bind fun y4=>bif decide (60<(y4.length:Int)) then some ([],60,3) else (forL F_2n y4 0 []).bind fun o=>o.elim (fun x59=>some (x59,0,0)) (fun r60=>some r60)
@[irreducible] def mc_2n:MC :=
 (sR [mo (.bin false .lss (.t 19) (.t 18)) 20]
 (.seq (.cond (.t 20)
 .skip
 (.exit 0))
 (.seq (.block 1
 (sR [oV 19 21,
 mo (.iad 1 (.t 17) (.t 19)) 22,
 oL 22 23,
 oV 21 7,
 oV 23 8]
 (sR [oV 8 25,
 mo (.call (.f 75) [(.t 25)] [] []) 26,
 oV 26 24,
 mo (.ext 0 (.t 24)) 27,
 mo (.ext 1 (.t 24)) 28,
 mo (.alloc [(.int .i64 0),(.str []),(.str []),(.int .i64 0),(.int .i64 0),(.int .i64 0)]) 9,
 ⟨.st 6 (.t 9) (.t 27),none,none⟩,
 oV 28 10]
 (.seq (sR [oV 10 29,
 mo (.not (.t 29)) 30]
 (.cond (.t 30)
 (.seq (.note (.gc [7]) (.reg [oV 7 31,
 mo (.mv (.c (.sl []))) 2,
 oV 31 3,
 oC 45 4]))
 .ret)
 .skip))
 (.note (.gc [6,9,17,18,19]) (.reg [oV 6 32,
 mo (.ld (some 6) (.t 9)) 33,
 mo (.bslice 6 [(.t 33)]) 34,
 mo (.app 6 64 (.t 32) (.t 34)) 35,
 oV 35 6]))))))
 (.reg [mo (.bin true .add (.t 19) (cI 1)) 36,
 oV 36 19]))))
def mc_2o:MC :=
 (sR [mo (.mv (.c (.sl []))) 2,
 oC 0 3,
 oC 0 4]
 (sR [oV 0 11,
 mo (.call (.f 74) [(.t 11)] [] [12]) 12,
 mo (.call (.f 73) [(.t 12)] [12] []) 13,
 oV 13 5]
 (.seq (sR [oV 5 14,
 mo (.len false (.t 14)) 15,
 mo (.bin false .gtr (.t 15) (cI 60)) 16]
 (.cond (.t 16)
 (.seq (.note (.gc []) (.reg [mo (.mv (.c (.sl []))) 2,
 oC 60 3,
 oC 3 4]))
 .ret)
 .skip))
 (sR [mo (.mv (.c .nils)) 6]
 (.seq (.seq (.note (.gc [5,6]) (.reg [oV 5 17,
 mo (.len false (.t 17)) 18,
 oC 0 19]))
 (.block 0
 (.loop mc_2n)))
 (sR [oV 6 37,
 oV 37 2,
 oC 0 3,
 oC 0 4]
 .ret))))))
instance Wq_console_Parse {text_:Str}:WI (F_2o text_) Tryz.prog 26 [.str text_] [] (fun z=>.tup [.sl (z.1.map GCommand.v),.int .i64 z.2.1,.int .i64 z.2.2]) (fun z=>[]):=⟨fun Q Q' h hQ=>by
 refine acallM mc_2o [.fz 2] [] [.t 2,.t 3,.t 4] Tryz.func26 fun M=>?_
 unfold F_2o at h
 unfold mc_2o
 replace h:=tY h
 refine tB ?_
 repeat' (first
 | (exact tZ)
 | ((first|refine oblg h ?_|refine roomG h ?_|refine inbG h ?_|refine incG h ?_|refine divG h ?_|refine appG h ?_|refine appC h ?_|refine fork h ?_ ?_|refine forkS h ?_ ?_)<;>clear h<;>intro hc h)
 | (obtain ⟨y,hy,h⟩:=h;(first|have hw:=acall_swe 1900 12 (W_5o hy)|have hw:=acall_swe 1000 12 (Wq_slices_Collect_string_of_strings_Lines_1.c.w hy)|have hw:=WI.w hy);replace hw:=tY hw;(first|refine M.sC hw ?_|refine M.sD hw ?_);clear hw hy;refine tB ?_)
 | (refine M.for1 (b:=mc_2n) 19 [17,18] [] (fun x=>[(6,.osl 2006 6 0 x.length)]) (fun x=>[.o 2006 (.arr 6 (x.map GCommand.v))]) [.gc [6,17,18,19],.acc 6 2006 6] h ?_ ?_ ?_<;>first
 | (clear h;intro k a x Qn K hK1 hkN1 ha1 h hf;have hl:=fact_int (factsE_find (n:=18) hf.1 rfl);clear hf;have hkd:=kD hkN1;have hkB1:=kB hkN1;have hkI1:=kI (k:=k) (by omega);unfold F_2n at h;unfold mc_2n;replace h:=tY h;refine tK ha1 hkd hkN1 hkB1 hkI1 ?_)
  |(clear h;intro x K h;replace h:=And.left (And.intro h trivial);unfold mc_2n;replace h:=tY h;refine tB ?_)
  |(clear h;(try refine tB ?_);exact tU0;done))
 | (simp only [ha1])
 | (refine hK1 _ ?_;(try refine tB ?_);refine ⟨_,h,?_⟩;exact tU0;done)
 | (refine tE ?_;(first|rw [M.lok_compU]|rw [M.lokD_compU]);refine tB ?_)
 | (refine tA ?_)
 | fail)⟩
def F_2p (c_:GCommand):Option Bool :=
 (F_1k c_).bind fun y2=>some (!y2)
def mc_2p:MC :=
 (sR [mo (.box (.t 0)) 1,
 mo (.mv (.c (.bool false))) 2]
 (sR [mo (.ld (some 6) (.t 1)) 3,
 mo (.call (.f 20) [(.t 3)] [] []) 4,
 mo (.not (.t 4)) 5,
 oV 5 2]
 .ret))
instance Wq_console_check_1 {c_:GCommand}:WI (F_2p c_) Tryz.prog 82 [GCommand.v c_] [] (fun z=>.bool z) (fun z=>[]):=⟨fun Q Q' h hQ=>by
 refine acallM mc_2p [] [] [.t 2] Tryz.func82 fun M=>?_
 unfold F_2p at h
 unfold mc_2p
 exact tX⟩
def F_2q (k31:Int) (a32:GCommand) (x30:Unit):Option (Fl Unit Int) :=
 (F_2p a32).bind fun y40=>bif y40 then some (.ex k31) else some (.nx ())
def F_2r (s_:List GCommand):Option Int :=
 (forL F_2q s_ 0 ()).bind fun o=>o.elim (fun x41=>some (-1)) (fun r42=>some r42)
@[irreducible] def mc_2q:MC :=
 (sR [mo (.bin false .lss (.t 8) (.t 7)) 9]
 (.seq (.cond (.t 9)
 .skip
 (.exit 0))
 (.seq (.block 1
 (sR [oV 8 10,
 oV 10 5]
 (sR [oV 1 11,
 oV 0 12,
 oV 5 13,
 mo (.iad 6 (.t 12) (.t 13)) 14,
 mo (.ld (some 6) (.t 14)) 15,
 mo (.call (.t 11) [(.t 15)] [] []) 16]
 (.cond (.t 16)
 (sR [oV 5 17,
 oV 17 4]
 .ret)
 .skip))))
 (.reg [mo (.bin true .add (.t 8) (cI 1)) 18,
 oV 18 8]))))
def mc_2r:MC :=
 (sR [oC 0 4]
 (.seq (sR [oV 0 6,
 mo (.len false (.t 6)) 7,
 oC 0 8]
 (.block 0
 (.loop mc_2q)))
 (sR [oC (-1) 4]
 .ret)))
attribute [go_sem] F_2q
instance:LI mc_2q 8 7 [0,1,7] [] (fun y:Unit=>[]) (fun y=>[]) []:=⟨⟩
instance Wq_slices_IndexFunc_api_Command_api_Command_of_console_check_1 {s_:List GCommand}:WI (F_2r s_) Tryz.prog 85 [.sl (s_.map GCommand.v),.fn (.func 82) []] [] (fun z=>.int .i64 z) (fun z=>[]):=⟨fun Q Q' h hQ=>by
 refine acallM mc_2r [] [] [.t 4] Tryz.func85 fun M=>?_
 unfold F_2r at h
 unfold mc_2r
 exact tX⟩
def F_2s (s_:List GCommand):Option Bool :=
 (F_2r s_).bind fun y2=>some (decide (0≤y2))
def mc_2s:MC :=
 (sR [mo (.mv (.c (.bool false))) 4]
 (sR [oV 0 5,
 oV 1 6,
 mo (.call (.f 85) [(.t 5),(.t 6)] [] []) 7,
 mo (.bin false .geq (.t 7) (cI 0)) 8,
 oV 8 4]
 .ret))
instance Wq_slices_ContainsFunc_api_Command_api_Command_of_console_check_1 {s_:List GCommand}:WI (F_2s s_) Tryz.prog 43 [.sl (s_.map GCommand.v),.fn (.func 82) []] [] (fun z=>.bool z) (fun z=>[]):=⟨fun Q Q' h hQ=>by
 refine acallM mc_2s [] [] [.t 4] Tryz.func43 fun M=>?_
 unfold F_2s at h
 unfold mc_2s
 exact tX⟩
def F_v (l_:List GCommand):Option Int :=
 bif decide (60<(l_.length:Int)) then some 3 else (F_2s l_).bind fun y4=>bif y4 then some 45 else some 0
def mc_v:MC :=
 (sR [oC 0 2]
 (.seq (.block 0
 (sR [oV 0 4,
 mo (.len false (.t 4)) 5,
 mo (.bin false .gtr (.t 5) (cI 60)) 6,
 oV 6 3]
 (.cond (.t 3)
 (sR [oC 3 2]
 .ret)
 (sR [oV 0 8,
 mo (.call (.f 43) [(.t 8),(.f 82)] [] []) 9,
 oV 9 7]
 (.cond (.t 7)
 (sR [oC 45 2]
 .ret)
 .skip)))))
 (sR [oC 0 2]
 .ret)))
instance Wq_console_check {l_:List GCommand}:WI (F_v l_) Tryz.prog 36 [.sl (l_.map GCommand.v)] [] (fun z=>.int .i64 z) (fun z=>[]):=⟨fun Q Q' h hQ=>by
 refine acallM mc_v [] [] [.t 2] Tryz.func36 fun M=>?_
 unfold F_v at h
 unfold mc_v
 exact tX⟩
def F_2t (k48:Int) (a49:GCommand) (x47:List UInt8):Option (List UInt8) :=
 (F_2l a49).bind fun y56=>(bws x47 y56).bind fun y57=>some y57
def F_3i (l_:List GCommand):Option (Str×Int) :=
 (F_v l_).bind fun y4=>bif (!decide (y4=0)) then some ([],y4) else (foldL F_2t l_ 0 ([]:Str)).bind fun x58=>(bstr x58).bind fun y60=>some (y60,0)
@[irreducible] def mc_2t:MC :=
 (sR [mo (.bin false .lss (.t 15) (.t 14)) 16]
 (.seq (.cond (.t 16)
 .skip
 (.exit 0))
 (.seq (.block 1
 (sR [mo (.iad 6 (.t 13) (.t 15)) 17,
 mo (.ld (some 6) (.t 17)) 18,
 mo (.alloc [(.int .i64 0),(.str []),(.str []),(.int .i64 0),(.int .i64 0),(.int .i64 0)]) 7,
 ⟨.st 6 (.t 7) (.t 18),none,none⟩]
 (.reg [mo (.ld (some 6) (.t 7)) 19,
 mo (.call (.f 60) [(.t 19)] [] []) 20,
 mo (.call (.f 29) [(.t 5),(.t 20)] [5,4081] [9345]) 21])))
 (.reg [mo (.bin true .add (.t 15) (cI 1)) 22,
 oV 22 15]))))
def mc_3i:MC :=
 (sR [mo (.mv (.c (.str []))) 2,
 oC 0 3]
 (.seq (sR [oV 0 8,
 mo (.call (.f 36) [(.t 8)] [] []) 9,
 oV 9 4]
 (sR [oV 4 10,
 mo (.bin false .neq (.t 10) (cI 0)) 11]
 (.cond (.t 11)
 (sR [oV 4 12,
 mo (.mv (.c (.str []))) 2,
 oV 12 3]
 .ret)
 .skip)))
 (.seq (.regI [.op (mo (.alloc [.nilp,.nils] (some 65)) 5),
 .nt (.bld 5),
 .nt (.ownC 5 1 5005 1 (some 5))])
 (.seq (sR [oV 0 13,
 mo (.len false (.t 13)) 14,
 oC 0 15]
 (.block 0
 (.loop mc_2t)))
 (sR [mo (.call (.f 34) [(.t 5)] [5,4081] []) 23,
 oV 23 2,
 oC 0 3]
 .ret)))))
instance Wq_console_Format {l_:List GCommand}:WI (F_3i l_) Tryz.prog 18 [.sl (l_.map GCommand.v)] [] (fun z=>.tup [.str z.1,.int .i64 z.2]) (fun z=>[]):=⟨fun Q Q' h hQ=>by
 refine acallM mc_3i [] [] [.t 2,.t 3] Tryz.func18 fun M=>?_
 unfold F_3i at h
 unfold mc_3i
 replace h:=tY h
 refine tB ?_
 repeat' (first
 | (exact tZ)
 | ((first|refine oblg h ?_|refine roomG h ?_|refine inbG h ?_|refine incG h ?_|refine divG h ?_|refine appG h ?_|refine appC h ?_|refine fork h ?_ ?_|refine forkS h ?_ ?_)<;>clear h<;>intro hc h)
 | (obtain ⟨y,hy,h⟩:=h;have hw:=acall_swe 1002 9345 (acall_swe 1001 5005 (acall_swe 1000 5 (W_34 hy)));replace hw:=tY hw;(first|refine M.sC hw ?_|refine M.sD hw ?_);clear hw hy;refine tB ?_)
 | (obtain ⟨y,hy,h⟩:=h;have hw:=acall_swe 1002 9345 (acall_swe 1001 4081 (acall_swe 1000 5 (W_34 hy)));replace hw:=tY hw;(first|refine M.sC hw ?_|refine M.sD hw ?_);clear hw hy;refine tB ?_)
 | (obtain ⟨y,hy,h⟩:=h;(first|have hw:=acall_swe 1001 4081 (acall_swe 1000 5 (W_4f hy))|have hw:=WI.w hy);replace hw:=tY hw;(first|refine M.sC hw ?_|refine M.sD hw ?_);clear hw hy;refine tB ?_)
 | (refine M.fold1 (b:=mc_2t) 15 [5,13,14] [5] (fun x=>[]) (fun x=>[.p 5 1 [.osl 4081 1 0 x.length],.o 4081 (.arr 1 (x.map byteV) (some 5))]) [.gc [5,13,14,15],.ownC 5 1 4081 1 none] h ?_ ?_ ?_<;>first
 | (clear h;intro k a x Qn K hK1 hkN1 ha1 h hf;have hl:=fact_int (factsE_find (n:=14) hf.1 rfl);clear hf;have hkd:=kD hkN1;have hkB1:=kB hkN1;have hkI1:=kI (k:=k) (by omega);unfold F_2t at h;unfold mc_2t;replace h:=tY h;refine tK ha1 hkd hkN1 hkB1 hkI1 ?_)
  |(clear h;intro x K h;replace h:=And.left (And.intro h trivial);unfold mc_2t;replace h:=tY h;refine tB ?_)
  |(clear h;(try refine tB ?_);exact tU0;done))
 | (simp only [ha1])
 | (refine hK1 _ ?_;(try refine tB ?_);refine ⟨_,h,?_⟩;exact tU0;done)
 | (refine tE ?_;(first|rw [M.lok_compU]|rw [M.lokD_compU]);refine tB ?_)
 | (refine tA ?_)
 | fail)⟩
end Go.Ab
