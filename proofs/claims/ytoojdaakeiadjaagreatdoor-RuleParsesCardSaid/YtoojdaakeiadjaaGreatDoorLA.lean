/- What the functions of this seat that lie on the laws' road compute (part LA), each for every input. By AI agents. -/
import Derived.Test.YtoojdaakeiadjaaGreatDoorProg
import Derived.KernelRfl
import Derived.Test.YtoojdaakeiadjaaGreatDoorAbFun
import Derived.Test.YtoojdaakeiadjaaGreatDoorLN
set_option linter.all false
set_option linter.all false
set_option maxRecDepth 20000
set_option maxHeartbeats 2000000
namespace Go.Ab
open Go.Proofs
structure GTerm where
 Op:Int
 Text:Str
 Number:Int
 Print:Int
 Kids:List GTerm
instance:Inhabited GTerm:=⟨⟨default,default,default,default,[]⟩⟩
mutual
def GTerm.w:GTerm→V
 | ⟨x_Op,x_Text,x_Number,x_Print,x_Kids⟩=>.agg [.int .i64 x_Op,.str x_Text,.int .i64 x_Number,.int .u64 x_Print,.sl (GTerm.vs x_Kids)]
def GTerm.vs:List GTerm→List V
 | []=>[]
 | a::r=>GTerm.w a::GTerm.vs r
end
def GTerm.v (x:GTerm):V:=.agg [.int .i64 x.Op,.str x.Text,.int .i64 x.Number,.int .u64 x.Print,.sl (GTerm.vs x.Kids)]
theorem GTerm.w_eq (x:GTerm):x.w=x.v:=by cases x;simp only [GTerm.w,GTerm.v]
theorem GTerm.vs_eq:∀l:List GTerm,GTerm.vs l=l.map GTerm.v
 | []=>by simp only [GTerm.vs,List.map_nil]
 | a::r=>by simp only [GTerm.vs,List.map_cons,GTerm.w_eq,GTerm.vs_eq r]
theorem GTerm.v_eq (x:GTerm):x.v=.agg [.int .i64 x.Op,.str x.Text,.int .i64 x.Number,.int .u64 x.Print,.sl (x.Kids.map GTerm.v)]:=by
 simp only [GTerm.v,GTerm.vs_eq]
structure GRange where
 Low:UInt8
 High:UInt8
instance:Inhabited GRange:=⟨⟨default,default⟩⟩
def GRange.v (x:GRange):V:=.agg [byteV x.Low,byteV x.High]
structure GNode where
 Op:Int
 Ranges:List GRange
 Kids:List GNode
 Min:Int
 Max:Int
instance:Inhabited GNode:=⟨⟨default,[],[],default,default⟩⟩
mutual
def GNode.w:GNode→V
 | ⟨x_Op,x_Ranges,x_Kids,x_Min,x_Max⟩=>.agg [.int .i64 x_Op,.sl (x_Ranges.map GRange.v),.sl (GNode.vs x_Kids),.int .i64 x_Min,.int .i64 x_Max]
def GNode.vs:List GNode→List V
 | []=>[]
 | a::r=>GNode.w a::GNode.vs r
end
def GNode.v (x:GNode):V:=.agg [.int .i64 x.Op,.sl (x.Ranges.map GRange.v),.sl (GNode.vs x.Kids),.int .i64 x.Min,.int .i64 x.Max]
theorem GNode.w_eq (x:GNode):x.w=x.v:=by cases x;simp only [GNode.w,GNode.v]
theorem GNode.vs_eq:∀l:List GNode,GNode.vs l=l.map GNode.v
 | []=>by simp only [GNode.vs,List.map_nil]
 | a::r=>by simp only [GNode.vs,List.map_cons,GNode.w_eq,GNode.vs_eq r]
theorem GNode.v_eq (x:GNode):x.v=.agg [.int .i64 x.Op,.sl (x.Ranges.map GRange.v),.sl (x.Kids.map GNode.v),.int .i64 x.Min,.int .i64 x.Max]:=by
 simp only [GNode.v,GNode.vs_eq]
structure GKind where
 Name:Str
 Pattern:GNode
 Whole:Bool
 Check:Int
 Entropy:Int
 Words:List Str
 Near:Int
instance:Inhabited GKind:=⟨⟨default,default,default,default,default,default,default⟩⟩
def GKind.v (x:GKind):V:=.agg [.str x.Name,.int .i64 x.Pattern.Op,.sl (x.Pattern.Ranges.map GRange.v),.sl (x.Pattern.Kids.map GNode.v),.int .i64 x.Pattern.Min,.int .i64 x.Pattern.Max,.bool x.Whole,.int .i64 x.Check,.int .i64 x.Entropy,.sl (x.Words.map V.str),.int .i64 x.Near]
structure GPlace where
 Source:Int
 Path:Str
 Time:Int
instance:Inhabited GPlace:=⟨⟨default,default,default⟩⟩
def GPlace.v (x:GPlace):V:=.agg [.int .i64 x.Source,.str x.Path,.int .i64 x.Time]
structure GLayer where
 Coding:Int
 From:Int
 To:Int
instance:Inhabited GLayer:=⟨⟨default,default,default⟩⟩
def GLayer.v (x:GLayer):V:=.agg [.int .i64 x.Coding,.int .i64 x.From,.int .i64 x.To]
structure GSpot where
 Place:GPlace
 Layers:List GLayer
 From:Int
 To:Int
instance:Inhabited GSpot:=⟨⟨default,default,default,default⟩⟩
def GSpot.v (x:GSpot):V:=.agg [.int .i64 x.Place.Source,.str x.Place.Path,.int .i64 x.Place.Time,.sl (x.Layers.map GLayer.v),.int .i64 x.From,.int .i64 x.To]
structure GFinding where
 Kind:Int
 Fingerprint:Int
 Where:List GSpot
instance:Inhabited GFinding:=⟨⟨default,default,default⟩⟩
def GFinding.v (x:GFinding):V:=.agg [.int .i64 x.Kind,.int .u64 x.Fingerprint,.sl (x.Where.map GSpot.v)]
structure GRule where
 Name:Str
 When:GTerm
 Verdict:Int
instance:Inhabited GRule:=⟨⟨default,default,default⟩⟩
def GRule.v (x:GRule):V:=.agg [.str x.Name,.int .i64 x.When.Op,.str x.When.Text,.int .i64 x.When.Number,.int .u64 x.When.Print,.sl (x.When.Kids.map GTerm.v),.int .i64 x.Verdict]
theorem dlt {a:Int}:decide (a<a)=false:=by simp
attribute [go_sem] Mach.b2s_set Mach.b2s_setD byte_x4 rngb_i32 rngb_u32 rngb_u64 rngb_i16 rngb_u16 byteV beq_self_eq_true Int.cast_ofNat_Int List.take_succ_cons List.take_zero List.drop_succ_cons List.cons_append List.nil_append putPs pinH wrap_u8 rng64 inb_and inc_and room_and roomI_and divs_and shok_and64 rep_u rep_ll mget_i mget_s mput_i mput_s mdel_i mdel_s lk_b lk_i lk_s lk_l lkt_b' lkt_i' lkt_s' lkt_l' rep_b rep_i ovS ovE ovU patO filt filtH dropE stepNs atEndN shqs shq1 V.oids V.oidsL V.tr V.trL trE trH Obj'.tr true_implies false_implies Bool.false_eq_true Bool.true_eq_false dlt mpV slV Int.natCast_zero List.map_set kvV nxt_map erase_map V.sw V.swL swN swH sw_sl sw_int sw_bool sw_str sw_smap sw_byte Obj'.sw sw_arr sw_map byte_1 byte_2 Mach.b2s_e Mach.b2s_eD toNat_ltb List.length_set List.length_replicate List.take_of_length_le Nat.zero_le bounds eqCells Option.map_some Option.map_none Fl_nx Fl_ex Sum_inl Sum_inr Ok_ite Ok_chk Ok_some Ok_bind Ok_none
theorem inbk_0 {n:Nat}:(inb 0 n=true)=(((0:Nat):Int)<(n:Int)):=propext (by rw [inb_iff];omega)
attribute [go_sem] inbk_0
theorem incl_0 {b:Int} {n:Nat}:(inc 0 b n=true)=(((0:Nat):Int)≤b∧b≤(n:Int)):=propext (by rw [inc_iff];omega)
attribute [go_sem] incl_0
attribute [go_sem] GFinding.v GKind.v GLayer.v GNode.v_eq GPlace.v GRange.v GRule.v GSpot.v GTerm.v_eq
def FR_7:Nat→GTerm→Option Int
 | 0,_=>none
 | n+1,c_ =>
 (forL (fun (k45:Int) (a46:GTerm) (x44:Int)=>((FR_7 n a46).bind fun y54=>chk (in64 (x44+y54)) (bif decide (60<(x44+y54)) then some (.ex 61) else some (.nx (x44+y54))):Option (Fl Int Int))) c_.Kids 0 1).bind fun o=>o.elim (fun x55=>some x55) (fun r56=>some r56)
noncomputable def F_7 (c_:GTerm):Option Int:=lim fun n=>FR_7 n c_
@[irreducible] def mc_2r:MC :=
 (sR [mo (.bin false .lss (.t 9) (.t 8)) 10]
 (.seq (.cond (.t 10)
 .skip
 (.exit 0))
 (.seq (.block 1
 (sR [mo (.iad 5 (.t 7) (.t 9)) 11,
 mo (.ld (some 5) (.t 11)) 12,
 mo (.alloc [(.int .i64 0),(.str []),(.int .i64 0),(.int .u64 0),(.sl [])]) 5,
 ⟨.st 5 (.t 5) (.t 12),none,none⟩]
 (sR [oV 3 13,
 mo (.ld (some 5) (.t 5)) 14,
 mo (.call (.f 74) [(.t 14)] [] []) 15,
 mo (.bin true .add (.t 13) (.t 15)) 16,
 oV 16 3]
 (sR [oV 3 17,
 mo (.bin false .gtr (.t 17) (cI 60)) 18]
 (.cond (.t 18)
 (sR [oC 61 2]
 .ret)
 .skip)))))
 (.reg [mo (.bin true .add (.t 9) (cI 1)) 19,
 oV 19 9]))))
def mc_7:MC :=
 (sR [mo (.box (.t 0)) 1,
 oC 0 2]
 (sR [oC 1 3]
 (.seq (sR [oF 4 1 6,
 oL 6 7,
 mo (.len false (.t 7)) 8,
 oC 0 9]
 (.block 0
 (.loop mc_2r)))
 (sR [oV 3 20,
 oV 20 2]
 .ret))))
theorem Wq_7 {n:Nat} (ih_rule_terms:∀{c_:GTerm} {y:Int},FR_7 n c_=some y→ACall Tryz.prog 74 [GTerm.v c_] [] (fun r H=>r=.int .i64 y∧H=[])) (c_:GTerm) {Q:Int→Prop} {Q':V→Heap→Prop} (h:Ok (FR_7 (n+1) c_) Q) (hQ:∀z,Q z→Q' (.int .i64 z) []):ACall Tryz.prog 74 [GTerm.v c_] [] Q':=by
 refine acallM mc_7 [] [] [.t 2] Tryz.func74 fun M=>?_
 simp only [FR_7] at h
 unfold mc_7
 replace h:=tY h
 refine tB ?_
 repeat' (first
 | (exact tZ)
 | ((first|refine oblg h ?_|refine roomG h ?_|refine fork h ?_ ?_|refine forkS h ?_ ?_)<;>clear h<;>intro hc h)
 | (obtain ⟨y,hy,h⟩:=h;have hw:=ih_rule_terms hy;replace hw:=tY hw;(first|refine M.sC hw ?_|refine M.sD hw ?_);clear hw hy;refine tB ?_)
 | (refine M.for1 (b:=mc_2r) 9 [7,8] [] (fun x=>[(3,.int .i64 x)]) (fun x=>[]) [] h ?_ ?_ ?_<;>first
 | (clear h;intro k a x Qn K hK1 hkN1 ha1 h hf;have hl:=fact_int (factsE_find (n:=8) hf.1 rfl);clear hf;have hkd:=kD hkN1;have hkB1:=kB hkN1;have hkI1:=kI (k:=k) (by omega);unfold mc_2r;replace h:=tY h;refine tK ha1 hkd hkN1 hkB1 hkI1 ?_)
  |(clear h;intro x K h;replace h:=And.left (And.intro h trivial);unfold mc_2r;replace h:=tY h;refine tB ?_)
  |(clear h;(try refine tB ?_);exact tU0;done))
 | (simp only [ha1])
 | (refine hK1 _ ?_;(try refine tB ?_);refine ⟨_,h,?_⟩;exact tU0;done)
 | (refine tE ?_;(first|rw [M.lok_compU]|rw [M.lokD_compU]);refine tB ?_)
 | (refine tA ?_)
 | fail)
theorem WG_7:∀n,(∀{c_:GTerm} {y:Int},FR_7 n c_=some y→ACall Tryz.prog 74 [GTerm.v c_] [] (fun r H=>r=.int .i64 y∧H=[]))
 | 0=>fun hy=>(by simp only [FR_7] at hy;cases hy)
 | n+1=>by
  have ih_rule_terms:=@WG_7 n
  exact fun hy=>Wq_7 ih_rule_terms _ (Q:=(·=_)) ⟨_,hy,rfl⟩ fun|_,rfl=>⟨rfl,rfl⟩
theorem W_7:∀{c_:GTerm} {y:Int},F_7 c_=some y→ACall Tryz.prog 74 [GTerm.v c_] [] (fun r H=>r=.int .i64 y∧H=[]):=fun hy=>by
 obtain ⟨n,hn⟩:=lim_inv hy
 exact (WG_7 n) hn
def FR_8:Nat→GTerm→Int→Option Int
 | 0,_,_=>none
 | n+1,c_,left_ =>
 bif decide (left_=0) then some 1 else (foldL (fun (k30:Int) (a31:GTerm) (x29:Int)=>(chk (in64 (left_ - 1)) ((FR_8 n a31 (left_ - 1)).bind fun y35=>some (max x29 y35)):Option Int)) c_.Kids 0 0).bind fun x36=>chk (in64 (x36+1)) (some (x36+1))
noncomputable def F_8 (c_:GTerm) (left_:Int):Option Int:=lim fun n=>FR_8 n c_ left_
@[irreducible] def mc_2s:MC :=
 (sR [mo (.bin false .lss (.t 13) (.t 12)) 14]
 (.seq (.cond (.t 14)
 .skip
 (.exit 0))
 (.seq (.block 1
 (sR [mo (.iad 5 (.t 11) (.t 13)) 15,
 mo (.ld (some 5) (.t 15)) 16,
 mo (.alloc [(.int .i64 0),(.str []),(.int .i64 0),(.int .u64 0),(.sl [])]) 7,
 ⟨.st 5 (.t 7) (.t 16),none,none⟩]
 (.reg [oV 5 17,
 mo (.ld (some 5) (.t 7)) 18,
 oV 1 19,
 mo (.bin true .sub (.t 19) (cI 1)) 20,
 mo (.call (.f 75) [(.t 18),(.t 20)] [] []) 21,
 mo (.mm true (.t 17) (.t 21)) 22,
 oV 22 5])))
 (.reg [mo (.bin true .add (.t 13) (cI 1)) 23,
 oV 23 13]))))
def mc_8:MC :=
 (sR [mo (.box (.t 0)) 2,
 oC 0 4]
 (.seq (sR [oV 1 8,
 mo (.bin false .eql (.t 8) (cI 0)) 9]
 (.cond (.t 9)
 (sR [oC 1 4]
 .ret)
 .skip))
 (sR [oC 0 5]
 (.seq (sR [oF 4 2 10,
 oL 10 11,
 mo (.len false (.t 11)) 12,
 oC 0 13]
 (.block 0
 (.loop mc_2s)))
 (sR [oV 5 24,
 mo (.bin true .add (.t 24) (cI 1)) 25,
 oV 25 4]
 .ret)))))
theorem Wq_8 {n:Nat} (ih_rule_depth:∀{c_:GTerm} {left_:Int} {y:Int},FR_8 n c_ left_=some y→ACall Tryz.prog 75 [GTerm.v c_,.int .i64 left_] [] (fun r H=>r=.int .i64 y∧H=[])) (c_:GTerm) (left_:Int) {Q:Int→Prop} {Q':V→Heap→Prop} (h:Ok (FR_8 (n+1) c_ left_) Q) (hQ:∀z,Q z→Q' (.int .i64 z) []):ACall Tryz.prog 75 [GTerm.v c_,.int .i64 left_] [] Q':=by
 refine acallM mc_8 [] [] [.t 4] Tryz.func75 fun M=>?_
 simp only [FR_8] at h
 unfold mc_8
 replace h:=tY h
 refine tB ?_
 repeat' (first
 | (exact tZ)
 | ((first|refine oblg h ?_|refine roomG h ?_|refine fork h ?_ ?_|refine forkS h ?_ ?_)<;>clear h<;>intro hc h)
 | (obtain ⟨y,hy,h⟩:=h;have hw:=ih_rule_depth hy;replace hw:=tY hw;(first|refine M.sC hw ?_|refine M.sD hw ?_);clear hw hy;refine tB ?_)
 | (refine M.fold1 (b:=mc_2s) 13 [1,11,12] [] (fun x=>[(5,.int .i64 x)]) (fun x=>[]) [] h ?_ ?_ ?_<;>first
 | (clear h;intro k a x Qn K hK1 hkN1 ha1 h hf;have hl:=fact_int (factsE_find (n:=12) hf.1 rfl);clear hf;have hkd:=kD hkN1;have hkB1:=kB hkN1;have hkI1:=kI (k:=k) (by omega);unfold mc_2s;replace h:=tY h;refine tK ha1 hkd hkN1 hkB1 hkI1 ?_)
  |(clear h;intro x K h;replace h:=And.left (And.intro h trivial);unfold mc_2s;replace h:=tY h;refine tB ?_)
  |(clear h;(try refine tB ?_);exact tU0;done))
 | (simp only [ha1])
 | (refine hK1 _ ?_;(try refine tB ?_);refine ⟨_,h,?_⟩;exact tU0;done)
 | (refine tE ?_;(first|rw [M.lok_compU]|rw [M.lokD_compU]);refine tB ?_)
 | (refine tA ?_)
 | fail)
theorem WG_8:∀n,(∀{c_:GTerm} {left_:Int} {y:Int},FR_8 n c_ left_=some y→ACall Tryz.prog 75 [GTerm.v c_,.int .i64 left_] [] (fun r H=>r=.int .i64 y∧H=[]))
 | 0=>fun hy=>(by simp only [FR_8] at hy;cases hy)
 | n+1=>by
  have ih_rule_depth:=@WG_8 n
  exact fun hy=>Wq_8 ih_rule_depth _ _ (Q:=(·=_)) ⟨_,hy,rfl⟩ fun|_,rfl=>⟨rfl,rfl⟩
theorem W_8:∀{c_:GTerm} {left_:Int} {y:Int},F_8 c_ left_=some y→ACall Tryz.prog 75 [GTerm.v c_,.int .i64 left_] [] (fun r H=>r=.int .i64 y∧H=[]):=fun hy=>by
 obtain ⟨n,hn⟩:=lim_inv hy
 exact (WG_8 n) hn
def F_2b (k51:Int) (a52:UInt8) (x50:Unit):Option (Fl Unit Bool) :=
 grp ((decide ((a52.toNat:Int)<33)||decide (126<(a52.toNat:Int)))) fun b67=>grp ((b67||decide ((a52.toNat:Int)=34))) fun b68=>bif b68 then some (.ex false) else some (.nx ())
def F_1i (s_:Str):Option Bool :=
 (forL F_2b s_ 0 ()).bind fun o=>o.elim (fun x69=>grp ((decide (1≤(s_.length:Int))&&decide ((s_.length:Int)≤40))) fun b72=>some b72) (fun r70=>some r70)
@[irreducible] def mg_2x:List MOp:=[gF 14 15 (.mv (.t 4)),
 gF 14 16 (.bin false .gtr (.t 15) (.c (.int .u8 126))),
 mo (.pick (.t 14) (.c (.bool true)) (.t 16)) 17]
@[irreducible] def mg_2y:List MOp:=[gF 18 19 (.mv (.t 4)),
 gF 18 20 (.bin false .eql (.t 19) (.c (.int .u8 34))),
 mo (.pick (.t 18) (.c (.bool true)) (.t 20)) 21]
@[irreducible] def mc_2b:MC :=
 (sR [mo (.bin false .lss (.t 8) (.t 7)) 9]
 (.seq (.cond (.t 9)
 .skip
 (.exit 0))
 (.seq (.block 1
 (sR [mo (.iad 1 (.t 6) (.t 8)) 10,
 oL 10 11,
 oV 11 4]
 (.seq (.regI [.op (oV 4 12),
 .op (mo (.bin false .lss (.t 12) (.c (.int .u8 33))) 13),
 .op (oV 13 14),
 .grp mg_2x,
 .op (oV 17 18),
 .grp mg_2y])
 (.cond (.t 21)
 (sR [mo (.mv (.c (.bool false))) 2]
 .ret)
 .skip))))
 (.reg [mo (.bin true .add (.t 8) (cI 1)) 22,
 oV 22 8]))))
@[irreducible] def mg_2z:List MOp:=[gT 26 27 (.mv (.t 0)),
 gT 26 28 (.len true (.t 27)),
 gT 26 29 (.bin false .leq (.t 28) (cI 40)),
 mo (.pick (.t 26) (.t 29) (.c (.bool false))) 30]
def mc_1i:MC :=
 (sR [mo (.mv (.c (.bool false))) 2]
 (.seq (sR [oV 0 5,
 mo (.s2b (.t 5)) 6,
 mo (.len false (.t 6)) 7,
 oC 0 8]
 (.block 0
 (.loop mc_2b)))
 (.seq (.regI [.op (oV 0 23),
 .op (mo (.len true (.t 23)) 24),
 .op (mo (.bin false .geq (.t 24) (cI 1)) 25),
 .op (oV 25 26),
 .grp mg_2z,
 .op (oV 30 2)])
 .ret)))
theorem Wq_1i {s_:Str}:Cn Tryz.prog 111 [.str s_] [] (F_1i s_) (fun z=>.bool z) (fun z=>[]):=fun Q Q' h hQ=>by
 refine acallM mc_1i [] [] [.t 2] Tryz.func111 fun M=>?_
 unfold F_1i at h
 unfold mc_1i
 replace h:=tY h
 refine tB ?_
 repeat' (first
 | (exact tZ)
 | ((first|refine oblg h ?_|refine roomG h ?_|refine fork h ?_ ?_|refine forkS h ?_ ?_)<;>clear h<;>intro hc h)
 | (refine M.gv1 (ms:=mg_2y) 21 [19,20] h ?_ ?_<;>first
 | (clear h;intro K hK1;unfold mg_2y;refine tB ?_)
 | (clear h;intro b h;replace h:=tY h;refine tB ?_))
 | (refine M.gv1 (ms:=mg_2x) 17 [15,16] h ?_ ?_<;>first
 | (clear h;intro K hK2;unfold mg_2x;refine tB ?_)
 | (clear h;intro b h;replace h:=tY h;refine tB ?_))
 | (refine M.for1 (b:=mc_2b) 8 [0,6,7] [6] (fun x=>[]) (fun x=>[]) [] h ?_ ?_ ?_<;>first
 | (clear h;intro k a x Qn K hK3 hkN3 ha3 h hf;have hl:=fact_int (factsE_find (n:=7) hf.1 rfl);clear hf;have hkd:=kD hkN3;have hkB3:=kB hkN3;have hkI3:=kI (k:=k) (by omega);unfold F_2b at h;unfold mc_2b;replace h:=tY h;refine tK ha3 hkd hkN3 hkB3 hkI3 ?_)
  |(clear h;intro x K h;replace h:=And.left (And.intro h trivial);unfold mc_2b;replace h:=tY h;refine tB ?_)
  |(clear h;(try refine tB ?_);exact tU0;done))
 | (refine M.gv1 (ms:=mg_2z) 30 [27,28,29] h ?_ ?_<;>first
 | (clear h;intro K hK4;unfold mg_2z;refine tB ?_)
 | (clear h;intro b h;replace h:=tY h;refine tB ?_))
 | (simp only [ha3])
 | ((first|refine hK1 _ ?_|refine hK2 _ ?_|refine hK4 _ ?_);exact tU;done)
 | (refine hK3 _ ?_;(try refine tB ?_);refine ⟨_,h,?_⟩;exact tU0;done)
 | (refine bfork (fun hc=>?_) (fun hc=>?_))
 | (refine tE ?_;(first|rw [M.lok_compU]|rw [M.lokD_compU]);refine tB ?_)
 | (refine tA ?_)
 | fail)
mutual
def FR_j:Nat→GTerm→Option Bool
 | 0,_=>none
 | n+1,k_ =>
 (FR_9 n k_).bind fun y2=>some (!y2)
def FR_u:Nat→(List GTerm)→Option Int
 | 0,_=>none
 | n+1,s_ =>
 (forL (fun (k31:Int) (a32:GTerm) (x30:Unit)=>((FR_j n a32).bind fun y40=>bif y40 then some (.ex k31) else some (.nx ()):Option (Fl Unit Int))) s_ 0 ()).bind fun o=>o.elim (fun x41=>some (-1)) (fun r42=>some r42)
def FR_t:Nat→(List GTerm)→Option Bool
 | 0,_=>none
 | n+1,s_ =>
 (FR_u n s_).bind fun y2=>some (decide (0≤y2))
def FR_9:Nat→GTerm→Option Bool
 | 0,_=>none
 | n+1,c_ =>
 jn (α:=Bool) (jn (α:=Bool) (bif decide (c_.Op=1) then some true else bif decide (c_.Op=2) then some true else some (decide (c_.Op=3))) fun j18=>bif j18 then (F_1i c_.Text).bind fun y19=>grp ((y19&&decide (c_.Number=0))) fun b20=>grp ((b20&&decide (c_.Print=0))) fun b21=>grp ((b21&&decide ((c_.Kids.length:Int)=0))) fun b22=>some b22 else jn (α:=Bool) (bif decide (c_.Op=4) then some true else bif decide (c_.Op=5) then some true else bif decide (c_.Op=6) then some true else some (decide (c_.Op=8))) fun j23=>bif j23 then grp ((decide (c_.Text=[])&&decide (0≤c_.Number))) fun b24=>grp ((b24&&decide (c_.Number≤1099511627776))) fun b25=>grp ((b25&&decide (c_.Print=0))) fun b26=>grp ((b26&&decide ((c_.Kids.length:Int)=0))) fun b27=>some b27 else bif decide (c_.Op=7) then grp ((decide (c_.Text=[])&&decide (c_.Number=0))) fun b28=>grp ((b28&&decide ((c_.Kids.length:Int)=0))) fun b29=>some b29 else jn (α:=Bool) (bif decide (c_.Op=9) then some true else bif decide (c_.Op=10) then some true else some (decide (c_.Op=11))) fun j30=>bif j30 then grp ((decide (c_.Text=[])&&decide (c_.Number=0))) fun b31=>grp ((b31&&decide (c_.Print=0))) fun b32=>grp ((b32&&((decide (c_.Op=9)&&decide ((c_.Kids.length:Int)=1))||((!decide (c_.Op=9))&&decide (2≤(c_.Kids.length:Int)))))) fun b33=>some b33 else some false) fun j17=>jn (α:=Bool) (bif j17 then (FR_t n c_.Kids).bind fun y37=>some (!y37) else some false) fun j38=>some j38
end
noncomputable def F_9 (c_:GTerm):Option Bool:=lim fun n=>FR_9 n c_
def mc_j:MC :=
 (sR [mo (.box (.t 0)) 1,
 mo (.mv (.c (.bool false))) 2]
 (sR [mo (.ld (some 5) (.t 1)) 3,
 mo (.call (.f 76) [(.t 3)] [] []) 4,
 mo (.not (.t 4)) 5,
 oV 5 2]
 .ret))
theorem Wq_j {n:Nat} (ih_rule_right_1:∀{k_:GTerm} {y:Bool},FR_j n k_=some y→ACall Tryz.prog 112 [GTerm.v k_] [] (fun r H=>r=.bool y∧H=[])) (ih_slices_IndexFunc_api_Term_api_Term_of_rule_right_1:∀{s_:List GTerm} {y:Int},FR_u n s_=some y→ACall Tryz.prog 115 [.sl (s_.map GTerm.v),.fn (.func 112) []] [] (fun r H=>r=.int .i64 y∧H=[])) (ih_slices_ContainsFunc_api_Term_api_Term_of_rule_right_1:∀{s_:List GTerm} {y:Bool},FR_t n s_=some y→ACall Tryz.prog 80 [.sl (s_.map GTerm.v),.fn (.func 112) []] [] (fun r H=>r=.bool y∧H=[])) (ih_rule_right:∀{c_:GTerm} {y:Bool},FR_9 n c_=some y→ACall Tryz.prog 76 [GTerm.v c_] [] (fun r H=>r=.bool y∧H=[])) (k_:GTerm) {Q:Bool→Prop} {Q':V→Heap→Prop} (h:Ok (FR_j (n+1) k_) Q) (hQ:∀z,Q z→Q' (.bool z) []):ACall Tryz.prog 112 [GTerm.v k_] [] Q':=by
 refine acallM mc_j [] [] [.t 2] Tryz.func112 fun M=>?_
 simp only [FR_j] at h
 unfold mc_j
 replace h:=tY h
 refine tB ?_
 repeat' (first
 | (exact tZ)
 | ((first|refine oblg h ?_|refine roomG h ?_|refine fork h ?_ ?_|refine forkS h ?_ ?_)<;>clear h<;>intro hc h)
 | (obtain ⟨y,hy,h⟩:=h;have hw:=ih_rule_right hy;replace hw:=tY hw;(first|refine M.sC hw ?_|refine M.sD hw ?_);clear hw hy;refine tB ?_)
 | (refine tE ?_;(first|rw [M.lok_compU]|rw [M.lokD_compU]);refine tB ?_)
 | (refine tA ?_)
 | fail)
@[irreducible] def mc_2t:MC :=
 (sR [mo (.bin false .lss (.t 8) (.t 7)) 9]
 (.seq (.cond (.t 9)
 .skip
 (.exit 0))
 (.seq (.block 1
 (sR [oV 8 10,
 oV 10 5]
 (sR [oV 1 11,
 oV 0 12,
 oV 5 13,
 mo (.iad 5 (.t 12) (.t 13)) 14,
 mo (.ld (some 5) (.t 14)) 15,
 mo (.call (.t 11) [(.t 15)] [] []) 16]
 (.cond (.t 16)
 (sR [oV 5 17,
 oV 17 4]
 .ret)
 .skip))))
 (.reg [mo (.bin true .add (.t 8) (cI 1)) 18,
 oV 18 8]))))
def mc_u:MC :=
 (sR [oC 0 4]
 (.seq (sR [oV 0 6,
 mo (.len false (.t 6)) 7,
 oC 0 8]
 (.block 0
 (.loop mc_2t)))
 (sR [oC (-1) 4]
 .ret)))
theorem Wq_u {n:Nat} (ih_rule_right_1:∀{k_:GTerm} {y:Bool},FR_j n k_=some y→ACall Tryz.prog 112 [GTerm.v k_] [] (fun r H=>r=.bool y∧H=[])) (ih_slices_IndexFunc_api_Term_api_Term_of_rule_right_1:∀{s_:List GTerm} {y:Int},FR_u n s_=some y→ACall Tryz.prog 115 [.sl (s_.map GTerm.v),.fn (.func 112) []] [] (fun r H=>r=.int .i64 y∧H=[])) (ih_slices_ContainsFunc_api_Term_api_Term_of_rule_right_1:∀{s_:List GTerm} {y:Bool},FR_t n s_=some y→ACall Tryz.prog 80 [.sl (s_.map GTerm.v),.fn (.func 112) []] [] (fun r H=>r=.bool y∧H=[])) (ih_rule_right:∀{c_:GTerm} {y:Bool},FR_9 n c_=some y→ACall Tryz.prog 76 [GTerm.v c_] [] (fun r H=>r=.bool y∧H=[])) (s_:List GTerm) {Q:Int→Prop} {Q':V→Heap→Prop} (h:Ok (FR_u (n+1) s_) Q) (hQ:∀z,Q z→Q' (.int .i64 z) []):ACall Tryz.prog 115 [.sl (s_.map GTerm.v),.fn (.func 112) []] [] Q':=by
 refine acallM mc_u [] [] [.t 4] Tryz.func115 fun M=>?_
 simp only [FR_u] at h
 unfold mc_u
 replace h:=tY h
 refine tB ?_
 repeat' (first
 | (exact tZ)
 | ((first|refine oblg h ?_|refine roomG h ?_|refine fork h ?_ ?_|refine forkS h ?_ ?_)<;>clear h<;>intro hc h)
 | (obtain ⟨y,hy,h⟩:=h;have hw:=ih_rule_right_1 hy;replace hw:=tY hw;(first|refine M.sC hw ?_|refine M.sD hw ?_);clear hw hy;refine tB ?_)
 | (refine M.for1 (b:=mc_2t) 8 [0,1,7] [] (fun x=>[]) (fun x=>[]) [] h ?_ ?_ ?_<;>first
 | (clear h;intro k a x Qn K hK1 hkN1 ha1 h hf;have hl:=fact_int (factsE_find (n:=7) hf.1 rfl);clear hf;have hkd:=kD hkN1;have hkB1:=kB hkN1;have hkI1:=kI (k:=k) (by omega);unfold mc_2t;replace h:=tY h;refine tK ha1 hkd hkN1 hkB1 hkI1 ?_)
  |(clear h;intro x K h;replace h:=And.left (And.intro h trivial);unfold mc_2t;replace h:=tY h;refine tB ?_)
  |(clear h;(try refine tB ?_);exact tU0;done))
 | (simp only [ha1])
 | (refine hK1 _ ?_;(try refine tB ?_);refine ⟨_,h,?_⟩;exact tU0;done)
 | (refine tE ?_;(first|rw [M.lok_compU]|rw [M.lokD_compU]);refine tB ?_)
 | (refine tA ?_)
 | fail)
def mc_t:MC :=
 (sR [mo (.mv (.c (.bool false))) 4]
 (sR [oV 0 5,
 oV 1 6,
 mo (.call (.f 115) [(.t 5),(.t 6)] [] []) 7,
 mo (.bin false .geq (.t 7) (cI 0)) 8,
 oV 8 4]
 .ret))
theorem Wq_t {n:Nat} (ih_rule_right_1:∀{k_:GTerm} {y:Bool},FR_j n k_=some y→ACall Tryz.prog 112 [GTerm.v k_] [] (fun r H=>r=.bool y∧H=[])) (ih_slices_IndexFunc_api_Term_api_Term_of_rule_right_1:∀{s_:List GTerm} {y:Int},FR_u n s_=some y→ACall Tryz.prog 115 [.sl (s_.map GTerm.v),.fn (.func 112) []] [] (fun r H=>r=.int .i64 y∧H=[])) (ih_slices_ContainsFunc_api_Term_api_Term_of_rule_right_1:∀{s_:List GTerm} {y:Bool},FR_t n s_=some y→ACall Tryz.prog 80 [.sl (s_.map GTerm.v),.fn (.func 112) []] [] (fun r H=>r=.bool y∧H=[])) (ih_rule_right:∀{c_:GTerm} {y:Bool},FR_9 n c_=some y→ACall Tryz.prog 76 [GTerm.v c_] [] (fun r H=>r=.bool y∧H=[])) (s_:List GTerm) {Q:Bool→Prop} {Q':V→Heap→Prop} (h:Ok (FR_t (n+1) s_) Q) (hQ:∀z,Q z→Q' (.bool z) []):ACall Tryz.prog 80 [.sl (s_.map GTerm.v),.fn (.func 112) []] [] Q':=by
 refine acallM mc_t [] [] [.t 4] Tryz.func80 fun M=>?_
 simp only [FR_t] at h
 unfold mc_t
 replace h:=tY h
 refine tB ?_
 repeat' (first
 | (exact tZ)
 | ((first|refine oblg h ?_|refine roomG h ?_|refine fork h ?_ ?_|refine forkS h ?_ ?_)<;>clear h<;>intro hc h)
 | (obtain ⟨y,hy,h⟩:=h;have hw:=ih_slices_IndexFunc_api_Term_api_Term_of_rule_right_1 hy;replace hw:=tY hw;(first|refine M.sC hw ?_|refine M.sD hw ?_);clear hw hy;refine tB ?_)
 | (refine tE ?_;(first|rw [M.lok_compU]|rw [M.lokD_compU]);refine tB ?_)
 | (refine tA ?_)
 | fail)
@[irreducible] def mg_j:List MOp:=[gT 13 14 (.fad 2 (.t 1)),
 gT 13 15 (.ld none (.t 14)),
 gT 13 16 (.bin false .eql (.t 15) (cI 0)),
 mo (.pick (.t 13) (.t 16) (.c (.bool false))) 17]
@[irreducible] def mg_30:List MOp:=[gT 18 19 (.fad 3 (.t 1)),
 gT 18 20 (.ld none (.t 19)),
 gT 18 21 (.bin false .eql (.t 20) (.c (.int .u64 0))),
 mo (.pick (.t 18) (.t 21) (.c (.bool false))) 22]
@[irreducible] def mg_31:List MOp:=[gT 23 24 (.fad 4 (.t 1)),
 gT 23 25 (.ld none (.t 24)),
 gT 23 26 (.len false (.t 25)),
 gT 23 27 (.bin false .eql (.t 26) (cI 0)),
 mo (.pick (.t 23) (.t 27) (.c (.bool false))) 28]
@[irreducible] def mg_32:List MOp:=[gT 37 38 (.fad 2 (.t 1)),
 gT 37 39 (.ld none (.t 38)),
 gT 37 40 (.bin false .geq (.t 39) (cI 0)),
 mo (.pick (.t 37) (.t 40) (.c (.bool false))) 41]
@[irreducible] def mg_33:List MOp:=[gT 42 43 (.fad 2 (.t 1)),
 gT 42 44 (.ld none (.t 43)),
 gT 42 45 (.bin false .leq (.t 44) (cI 1099511627776)),
 mo (.pick (.t 42) (.t 45) (.c (.bool false))) 46]
@[irreducible] def mg_34:List MOp:=[gT 47 48 (.fad 3 (.t 1)),
 gT 47 49 (.ld none (.t 48)),
 gT 47 50 (.bin false .eql (.t 49) (.c (.int .u64 0))),
 mo (.pick (.t 47) (.t 50) (.c (.bool false))) 51]
@[irreducible] def mg_35:List MOp:=[gT 52 53 (.fad 4 (.t 1)),
 gT 52 54 (.ld none (.t 53)),
 gT 52 55 (.len false (.t 54)),
 gT 52 56 (.bin false .eql (.t 55) (cI 0)),
 mo (.pick (.t 52) (.t 56) (.c (.bool false))) 57]
@[irreducible] def mg_36:List MOp:=[gT 63 64 (.fad 2 (.t 1)),
 gT 63 65 (.ld none (.t 64)),
 gT 63 66 (.bin false .eql (.t 65) (cI 0)),
 mo (.pick (.t 63) (.t 66) (.c (.bool false))) 67]
@[irreducible] def mg_37:List MOp:=[gT 68 69 (.fad 4 (.t 1)),
 gT 68 70 (.ld none (.t 69)),
 gT 68 71 (.len false (.t 70)),
 gT 68 72 (.bin false .eql (.t 71) (cI 0)),
 mo (.pick (.t 68) (.t 72) (.c (.bool false))) 73]
@[irreducible] def mg_38:List MOp:=[gT 81 82 (.fad 2 (.t 1)),
 gT 81 83 (.ld none (.t 82)),
 gT 81 84 (.bin false .eql (.t 83) (cI 0)),
 mo (.pick (.t 81) (.t 84) (.c (.bool false))) 85]
@[irreducible] def mg_39:List MOp:=[gT 86 87 (.fad 3 (.t 1)),
 gT 86 88 (.ld none (.t 87)),
 gT 86 89 (.bin false .eql (.t 88) (.c (.int .u64 0))),
 mo (.pick (.t 86) (.t 89) (.c (.bool false))) 90]
@[irreducible] def mg_3a:List MOp:=[gT 91 92 (.fad 0 (.t 1)),
 gT 91 93 (.ld none (.t 92)),
 gT 91 94 (.bin false .eql (.t 93) (cI 9)),
 gT 91 95 (.mv (.t 94)),
 gT 95 96 (.fad 4 (.t 1)),
 gT 95 97 (.ld none (.t 96)),
 gT 95 98 (.len false (.t 97)),
 gT 95 99 (.bin false .eql (.t 98) (cI 1)),
 gT 91 100 (.pick (.t 95) (.t 99) (.c (.bool false))),
 gT 91 101 (.mv (.t 100)),
 gF 101 102 (.fad 0 (.t 1)),
 gF 101 103 (.ld none (.t 102)),
 gF 101 104 (.bin false .neq (.t 103) (cI 9)),
 gF 101 105 (.mv (.t 104)),
 gT 105 106 (.fad 4 (.t 1)),
 gT 105 107 (.ld none (.t 106)),
 gT 105 108 (.len false (.t 107)),
 gT 105 109 (.bin false .geq (.t 108) (cI 2)),
 gF 101 110 (.pick (.t 105) (.t 109) (.c (.bool false))),
 gT 91 111 (.pick (.t 101) (.c (.bool true)) (.t 110)),
 mo (.pick (.t 91) (.t 111) (.c (.bool false))) 112]
@[irreducible] def mc_3b:MC :=
 (.cond (.t 74)
 (.regI [.op (oF 1 1 78),
 .op (oL 78 79),
 .op (mo (.bin false .eql (.t 79) (.c (.str []))) 80),
 .op (oV 80 81),
 .grp mg_38,
 .op (oV 85 86),
 .grp mg_39,
 .op (oV 90 91),
 .grp mg_3a,
 .op (oV 112 3)])
 .skip)
@[irreducible] def mc_3c:MC :=
 (.cond (.t 29)
 (.regI [.op (oF 1 1 34),
 .op (oL 34 35),
 .op (mo (.bin false .eql (.t 35) (.c (.str []))) 36),
 .op (oV 36 37),
 .grp mg_32,
 .op (oV 41 42),
 .grp mg_33,
 .op (oV 46 47),
 .grp mg_34,
 .op (oV 51 52),
 .grp mg_35,
 .op (oV 57 3)])
 (sR [mo (.bin false .eql (.t 5) (cI 7)) 59,
 oV 59 58]
 (.cond (.t 58)
 (.regI [.op (oF 1 1 60),
 .op (oL 60 61),
 .op (mo (.bin false .eql (.t 61) (.c (.str []))) 62),
 .op (oV 62 63),
 .grp mg_36,
 .op (oV 67 68),
 .grp mg_37,
 .op (oV 73 3)])
 (.cut (sR [mo (.bin false .eql (.t 5) (cI 9)) 75,
 oV 75 74]
 (.cond (.t 74)
 .skip
 (sR [mo (.bin false .eql (.t 5) (cI 10)) 76,
 oV 76 74]
 (.cond (.t 74)
 .skip
 (.reg [mo (.bin false .eql (.t 5) (cI 11)) 77,
 oV 77 74])))))
 mc_3b))))
@[irreducible] def mc_3d:MC :=
 (.cond (.t 6)
 (.regI [.op (oF 1 1 10),
 .op (oL 10 11),
 .op (mo (.call (.f 111) [(.t 11)] [] []) 12),
 .op (oV 12 13),
 .grp mg_j,
 .op (oV 17 18),
 .grp mg_30,
 .op (oV 22 23),
 .grp mg_31,
 .op (oV 28 3)])
 (.cut (sR [mo (.bin false .eql (.t 5) (cI 4)) 30,
 oV 30 29]
 (.cond (.t 29)
 .skip
 (sR [mo (.bin false .eql (.t 5) (cI 5)) 31,
 oV 31 29]
 (.cond (.t 29)
 .skip
 (sR [mo (.bin false .eql (.t 5) (cI 6)) 32,
 oV 32 29]
 (.cond (.t 29)
 .skip
 (.reg [mo (.bin false .eql (.t 5) (cI 8)) 33,
 oV 33 29])))))))
 mc_3c))
@[irreducible] def mg_3e:List MOp:=[gT 114 115 (.fad 4 (.t 1)),
 gT 114 116 (.ld none (.t 115)),
 gT 114 117 (.call (.f 80) [(.t 116),(.f 112)] [] []),
 gT 114 118 (.not (.t 117)),
 mo (.pick (.t 114) (.t 118) (.c (.bool false))) 119]
@[irreducible] def mc_3f:MC :=
 (.seq (.regI [.op (oV 3 113),
 .op (oV 113 114),
 .grp mg_3e,
 .op (oV 119 2)])
 .ret)
def mc_9:MC :=
 (sR [mo (.box (.t 0)) 1,
 mo (.mv (.c (.bool false))) 2]
 (sR [mo (.mv (.c (.bool false))) 3]
 (.cut (sR [oF 0 1 4,
 oL 4 5]
 (.block 0
 (.cut (sR [mo (.bin false .eql (.t 5) (cI 1)) 7,
 oV 7 6]
 (.cond (.t 6)
 .skip
 (sR [mo (.bin false .eql (.t 5) (cI 2)) 8,
 oV 8 6]
 (.cond (.t 6)
 .skip
 (.reg [mo (.bin false .eql (.t 5) (cI 3)) 9,
 oV 9 6])))))
 mc_3d)))
 mc_3f)))
theorem Wq_9 {n:Nat} (ih_rule_right_1:∀{k_:GTerm} {y:Bool},FR_j n k_=some y→ACall Tryz.prog 112 [GTerm.v k_] [] (fun r H=>r=.bool y∧H=[])) (ih_slices_IndexFunc_api_Term_api_Term_of_rule_right_1:∀{s_:List GTerm} {y:Int},FR_u n s_=some y→ACall Tryz.prog 115 [.sl (s_.map GTerm.v),.fn (.func 112) []] [] (fun r H=>r=.int .i64 y∧H=[])) (ih_slices_ContainsFunc_api_Term_api_Term_of_rule_right_1:∀{s_:List GTerm} {y:Bool},FR_t n s_=some y→ACall Tryz.prog 80 [.sl (s_.map GTerm.v),.fn (.func 112) []] [] (fun r H=>r=.bool y∧H=[])) (ih_rule_right:∀{c_:GTerm} {y:Bool},FR_9 n c_=some y→ACall Tryz.prog 76 [GTerm.v c_] [] (fun r H=>r=.bool y∧H=[])) (c_:GTerm) {Q:Bool→Prop} {Q':V→Heap→Prop} (h:Ok (FR_9 (n+1) c_) Q) (hQ:∀z,Q z→Q' (.bool z) []):ACall Tryz.prog 76 [GTerm.v c_] [] Q':=by
 refine acallM mc_9 [] [] [.t 2] Tryz.func76 fun M=>?_
 simp only [FR_9] at h
 unfold mc_9
 replace h:=tY h
 refine tB ?_
 repeat' (first
 | (exact tZ)
 | ((first|refine oblg h ?_|refine roomG h ?_|refine fork h ?_ ?_|refine forkS h ?_ ?_)<;>clear h<;>intro hc h)
 | (obtain ⟨y,hy,h⟩:=h;(first|with_reducible first|have hw:=Wq_1i.w hy|have hw:=ih_slices_ContainsFunc_api_Term_api_Term_of_rule_right_1 hy);replace hw:=tY hw;(first|refine M.sC hw ?_|refine M.sD hw ?_);clear hw hy;refine tB ?_)
 | (refine M.gv1 (ms:=mg_31) 28 [24,25,26,27] h ?_ ?_<;>first
 | (clear h;intro K hK1;unfold mg_31;refine tB ?_)
 | (clear h;intro b h;replace h:=tY h;refine tB ?_))
 | (refine M.gv1 (ms:=mg_30) 22 [19,20,21] h ?_ ?_<;>first
 | (clear h;intro K hK2;unfold mg_30;refine tB ?_)
 | (clear h;intro b h;replace h:=tY h;refine tB ?_))
 | (refine M.gv1 (ms:=mg_j) 17 [14,15,16] h ?_ ?_<;>first
 | (clear h;intro K hK3;unfold mg_j;refine tB ?_)
 | (clear h;intro b h;replace h:=tY h;refine tB ?_))
 | (refine M.gv1 (ms:=mg_35) 57 [53,54,55,56] h ?_ ?_<;>first
 | (clear h;intro K hK4;unfold mg_35;refine tB ?_)
 | (clear h;intro b h;replace h:=tY h;refine tB ?_))
 | (refine M.gv1 (ms:=mg_34) 51 [48,49,50] h ?_ ?_<;>first
 | (clear h;intro K hK5;unfold mg_34;refine tB ?_)
 | (clear h;intro b h;replace h:=tY h;refine tB ?_))
 | (refine M.gv1 (ms:=mg_33) 46 [43,44,45] h ?_ ?_<;>first
 | (clear h;intro K hK6;unfold mg_33;refine tB ?_)
 | (clear h;intro b h;replace h:=tY h;refine tB ?_))
 | (refine M.gv1 (ms:=mg_32) 41 [38,39,40] h ?_ ?_<;>first
 | (clear h;intro K hK7;unfold mg_32;refine tB ?_)
 | (clear h;intro b h;replace h:=tY h;refine tB ?_))
 | (refine M.gv1 (ms:=mg_37) 73 [69,70,71,72] h ?_ ?_<;>first
 | (clear h;intro K hK8;unfold mg_37;refine tB ?_)
 | (clear h;intro b h;replace h:=tY h;refine tB ?_))
 | (refine M.gv1 (ms:=mg_36) 67 [64,65,66] h ?_ ?_<;>first
 | (clear h;intro K hK9;unfold mg_36;refine tB ?_)
 | (clear h;intro b h;replace h:=tY h;refine tB ?_))
 | (refine M.gv1 (ms:=mg_3a) 112 [92,93,94,95,96,97,98,99,100,101,102,103,104,105,106,107,108,109,110,111] h ?_ ?_<;>first
 | (clear h;intro K hK10;unfold mg_3a;refine tB ?_)
 | (clear h;intro b h;replace h:=tY h;refine tB ?_))
 | (refine M.gv1 (ms:=mg_39) 90 [87,88,89] h ?_ ?_<;>first
 | (clear h;intro K hK11;unfold mg_39;refine tB ?_)
 | (clear h;intro b h;replace h:=tY h;refine tB ?_))
 | (refine M.gv1 (ms:=mg_38) 85 [82,83,84] h ?_ ?_<;>first
 | (clear h;intro K hK12;unfold mg_38;refine tB ?_)
 | (clear h;intro b h;replace h:=tY h;refine tB ?_))
 | (refine M.jn1 (b:=mc_3b) [1,3] [1] (fun y=>[(74,.bool y)]) (fun y=>[]) [] h ?_ ?_<;>first
 | (clear h;intro Qn K hK13 h;replace h:=tY h;refine tB ?_)
  |(clear h;intro y h;unfold mc_3b;replace h:=tY h;refine tB ?_))
 | (refine M.jn1 (b:=mc_3c) [1,3,5] [1] (fun y=>[(29,.bool y)]) (fun y=>[]) [] h ?_ ?_<;>first
 | (clear h;intro Qn K hK14 h;replace h:=tY h;refine tB ?_)
  |(clear h;intro y h;unfold mc_3c;replace h:=tY h;refine tB ?_))
 | (refine M.jn1 (b:=mc_3d) [1,3,5] [1] (fun y=>[(6,.bool y)]) (fun y=>[]) [] h ?_ ?_<;>first
 | (clear h;intro Qn K hK15 h;replace h:=tY h;refine tB ?_)
  |(clear h;intro y h;unfold mc_3d;replace h:=tY h;refine tB ?_))
 | (refine M.gj1 (ms:=mg_3e) [] [] (fun y=>[(119,.bool y)]) (fun y=>[]) h ?_ ?_<;>first
 | (clear h;intro Qn K hK16 h;unfold mg_3e;replace h:=tY h;refine tB ?_)
  |(clear h;intro y h;replace h:=tY h;refine tB ?_))
 | (refine M.jn1 (b:=mc_3f) [1] [1] (fun y=>[(3,.bool y)]) (fun y=>[]) [] h ?_ ?_<;>first
 | (clear h;intro Qn K hK17 h;replace h:=tY h;refine tB ?_)
  |(clear h;intro y h;unfold mc_3f;replace h:=tY h;refine tB ?_))
 | ((first|refine hK1 _ ?_|refine hK2 _ ?_|refine hK3 _ ?_|refine hK4 _ ?_|refine hK5 _ ?_|refine hK6 _ ?_|refine hK7 _ ?_|refine hK8 _ ?_|refine hK9 _ ?_|refine hK10 _ ?_|refine hK11 _ ?_|refine hK12 _ ?_);exact tU;done)
 | ((first|refine hK13 _ ?_|refine hK14 _ ?_|refine hK15 _ ?_|refine hK16 _ ?_|refine hK17 _ ?_);(try refine tB ?_);refine ⟨_,h,?_⟩;exact tU0;done)
 | (refine bfork (fun hc=>?_) (fun hc=>?_))
 | (refine tE ?_;(first|rw [M.lok_compU]|rw [M.lokD_compU]);refine tB ?_)
 | (refine tA ?_)
 | fail)
theorem WG_5x:∀n,(∀{k_:GTerm} {y:Bool},FR_j n k_=some y→ACall Tryz.prog 112 [GTerm.v k_] [] (fun r H=>r=.bool y∧H=[]))∧(∀{s_:List GTerm} {y:Int},FR_u n s_=some y→ACall Tryz.prog 115 [.sl (s_.map GTerm.v),.fn (.func 112) []] [] (fun r H=>r=.int .i64 y∧H=[]))∧(∀{s_:List GTerm} {y:Bool},FR_t n s_=some y→ACall Tryz.prog 80 [.sl (s_.map GTerm.v),.fn (.func 112) []] [] (fun r H=>r=.bool y∧H=[]))∧(∀{c_:GTerm} {y:Bool},FR_9 n c_=some y→ACall Tryz.prog 76 [GTerm.v c_] [] (fun r H=>r=.bool y∧H=[]))
 | 0=>⟨fun hy=>(by simp only [FR_j] at hy;cases hy),fun hy=>(by simp only [FR_u] at hy;cases hy),fun hy=>(by simp only [FR_t] at hy;cases hy),fun hy=>(by simp only [FR_9] at hy;cases hy)⟩
 | n+1=>by
  obtain ⟨ih_rule_right_1,ih_slices_IndexFunc_api_Term_api_Term_of_rule_right_1,ih_slices_ContainsFunc_api_Term_api_Term_of_rule_right_1,ih_rule_right⟩:=WG_5x n
  refine ⟨?_,?_,?_,?_⟩
  ·exact fun hy=>Wq_j ih_rule_right_1 ih_slices_IndexFunc_api_Term_api_Term_of_rule_right_1 ih_slices_ContainsFunc_api_Term_api_Term_of_rule_right_1 ih_rule_right _ (Q:=(·=_)) ⟨_,hy,rfl⟩ fun|_,rfl=>⟨rfl,rfl⟩
  ·exact fun hy=>Wq_u ih_rule_right_1 ih_slices_IndexFunc_api_Term_api_Term_of_rule_right_1 ih_slices_ContainsFunc_api_Term_api_Term_of_rule_right_1 ih_rule_right _ (Q:=(·=_)) ⟨_,hy,rfl⟩ fun|_,rfl=>⟨rfl,rfl⟩
  ·exact fun hy=>Wq_t ih_rule_right_1 ih_slices_IndexFunc_api_Term_api_Term_of_rule_right_1 ih_slices_ContainsFunc_api_Term_api_Term_of_rule_right_1 ih_rule_right _ (Q:=(·=_)) ⟨_,hy,rfl⟩ fun|_,rfl=>⟨rfl,rfl⟩
  ·exact fun hy=>Wq_9 ih_rule_right_1 ih_slices_IndexFunc_api_Term_api_Term_of_rule_right_1 ih_slices_ContainsFunc_api_Term_api_Term_of_rule_right_1 ih_rule_right _ (Q:=(·=_)) ⟨_,hy,rfl⟩ fun|_,rfl=>⟨rfl,rfl⟩
theorem W_9:∀{c_:GTerm} {y:Bool},F_9 c_=some y→ACall Tryz.prog 76 [GTerm.v c_] [] (fun r H=>r=.bool y∧H=[]):=fun hy=>by
 obtain ⟨n,hn⟩:=lim_inv hy
 exact (WG_5x n).2.2.2 hn
noncomputable def F_1a (c_:GTerm):Option Int :=
 (F_7 c_).bind fun y8=>bif decide (60<y8) then some 3 else (F_8 c_ 20).bind fun y10=>bif decide (20<y10) then some 9 else (F_9 c_).bind fun y12=>bif (!y12) then some 1 else some 0
def mc_1a:MC :=
 (sR [mo (.box (.t 0)) 1,
 oC 0 2]
 (.seq (.block 0
 (sR [mo (.ld (some 5) (.t 1)) 4,
 mo (.call (.f 74) [(.t 4)] [] []) 5,
 mo (.bin false .gtr (.t 5) (cI 60)) 6,
 oV 6 3]
 (.cond (.t 3)
 (sR [oC 3 2]
 .ret)
 (sR [mo (.ld (some 5) (.t 1)) 8,
 mo (.call (.f 75) [(.t 8),(cI 20)] [] []) 9,
 mo (.bin false .gtr (.t 9) (cI 20)) 10,
 oV 10 7]
 (.cond (.t 7)
 (sR [oC 9 2]
 .ret)
 (.seq (.note (.gc [1]) (.reg [mo (.ld (some 5) (.t 1)) 12,
 mo (.call (.f 76) [(.t 12)] [] []) 13,
 mo (.not (.t 13)) 14,
 oV 14 11]))
 (.cond (.t 11)
 (sR [oC 1 2]
 .ret)
 .skip)))))))
 (sR [oC 0 2]
 .ret)))
theorem Wq_1a {c_:GTerm}:Cn Tryz.prog 41 [GTerm.v c_] [] (F_1a c_) (fun z=>.int .i64 z) (fun z=>[]):=fun Q Q' h hQ=>by
 refine acallM mc_1a [] [] [.t 2] Tryz.func41 fun M=>?_
 unfold F_1a at h
 unfold mc_1a
 replace h:=tY h
 refine tB ?_
 repeat' (first
 | (exact tZ)
 | ((first|refine oblg h ?_|refine roomG h ?_|refine fork h ?_ ?_|refine forkS h ?_ ?_)<;>clear h<;>intro hc h)
 | (obtain ⟨y,hy,h⟩:=h;(first|with_reducible first|have hw:=W_7 hy|have hw:=W_8 hy|have hw:=W_9 hy);replace hw:=tY hw;(first|refine M.sC hw ?_|refine M.sD hw ?_);clear hw hy;refine tB ?_)
 | (refine tE ?_;(first|rw [M.lok_compU]|rw [M.lokD_compU]);refine tB ?_)
 | (refine tA ?_)
 | fail)
def F_11 (s_:Str) (prefix_:Str):Option Bool :=
 jn (α:=Bool) (bif decide ((prefix_.length:Int)≤(s_.length:Int)) then chk (inc 0 (prefix_.length:Int) s_.length) (some (decide ((s_.take (((prefix_.length:Int)).toNat))=prefix_))) else some false) fun j2=>some j2
@[irreducible] def mg_3g:List MOp:=[gT 10 11 (.mv (.t 0)),
 gT 10 12 (.mv (.t 1)),
 gT 10 13 (.len true (.t 12)),
 gT 10 14 (.sls (.t 11) none (some (.t 13))),
 gT 10 15 (.mv (.t 1)),
 gT 10 16 (.bin false .eql (.t 14) (.t 15)),
 mo (.pick (.t 10) (.t 16) (.c (.bool false))) 17]
def mc_11:MC :=
 (sR [mo (.mv (.c (.bool false))) 4]
 (.seq (.regI [.op (oV 0 5),
 .op (mo (.len true (.t 5)) 6),
 .op (oV 1 7),
 .op (mo (.len true (.t 7)) 8),
 .op (mo (.bin false .geq (.t 6) (.t 8)) 9),
 .op (oV 9 10),
 .grp mg_3g,
 .op (oV 17 4)])
 .ret))
theorem Wq_11 {s_ prefix_:Str}:Cn Tryz.prog 113 [.str s_,.str prefix_] [] (F_11 s_ prefix_) (fun z=>.bool z) (fun z=>[]):=fun Q Q' h hQ=>by
 refine acallM mc_11 [] [] [.t 4] Tryz.func113 fun M=>?_
 unfold F_11 at h
 unfold mc_11
 replace h:=tY h
 refine tB ?_
 repeat' (first
 | (exact tZ)
 | ((first|refine oblg h ?_|refine roomG h ?_|refine fork h ?_ ?_|refine forkS h ?_ ?_)<;>clear h<;>intro hc h)
 | (refine M.gj1 (ms:=mg_3g) [4] [] (fun y=>[(17,.bool y)]) (fun y=>[]) h ?_ ?_<;>first
 | (clear h;intro Qn K hK1 h;unfold mg_3g;replace h:=tY h;refine tB ?_)
  |(clear h;intro y h;replace h:=tY h;refine tB ?_))
 | (refine hK1 _ ?_;(try refine tB ?_);refine ⟨_,h,?_⟩;exact tU0;done)
 | (refine tE ?_;(first|rw [M.lok_compU]|rw [M.lokD_compU]);refine tB ?_)
 | (refine tA ?_)
 | fail)
def F_12 (s_:Str) (prefix_:Str):Option Bool :=
 (F_11 s_ prefix_).bind fun y2=>some y2
def mc_12:MC :=
 (sR [mo (.mv (.c (.bool false))) 4]
 (sR [oV 0 5,
 oV 1 6,
 mo (.call (.f 113) [(.t 5),(.t 6)] [] []) 7,
 oV 7 4]
 .ret))
theorem Wq_12 {s_ prefix_:Str}:Cn Tryz.prog 78 [.str s_,.str prefix_] [] (F_12 s_ prefix_) (fun z=>.bool z) (fun z=>[]):=fun Q Q' h hQ=>by
 refine acallM mc_12 [] [] [.t 4] Tryz.func78 fun M=>?_
 unfold F_12 at h
 unfold mc_12
 replace h:=tY h
 refine tB ?_
 repeat' (first
 | (exact tZ)
 | ((first|refine oblg h ?_|refine roomG h ?_|refine fork h ?_ ?_|refine forkS h ?_ ?_)<;>clear h<;>intro hc h)
 | (obtain ⟨y,hy,h⟩:=h;have hw:=Wq_11.w hy;replace hw:=tY hw;(first|refine M.sC hw ?_|refine M.sD hw ?_);clear hw hy;refine tB ?_)
 | (refine tE ?_;(first|rw [M.lok_compU]|rw [M.lokD_compU]);refine tB ?_)
 | (refine tA ?_)
 | fail)
def F_1b (s_:Str) (suffix_:Str):Option Bool :=
 jn (α:=Bool) (bif decide ((suffix_.length:Int)≤(s_.length:Int)) then chk (in64 ((s_.length:Int) - (suffix_.length:Int))) (chk (inc ((s_.length:Int) - (suffix_.length:Int)) (s_.length:Int) s_.length) (some (decide ((s_.drop ((((s_.length:Int) - (suffix_.length:Int))).toNat))=suffix_)))) else some false) fun j2=>some j2
@[irreducible] def mg_3h:List MOp:=[gT 10 11 (.mv (.t 0)),
 gT 10 12 (.mv (.t 0)),
 gT 10 13 (.len true (.t 12)),
 gT 10 14 (.mv (.t 1)),
 gT 10 15 (.len true (.t 14)),
 gT 10 16 (.bin true .sub (.t 13) (.t 15)),
 gT 10 17 (.sls (.t 11) (some (.t 16)) none),
 gT 10 18 (.mv (.t 1)),
 gT 10 19 (.bin false .eql (.t 17) (.t 18)),
 mo (.pick (.t 10) (.t 19) (.c (.bool false))) 20]
def mc_1b:MC :=
 (sR [mo (.mv (.c (.bool false))) 4]
 (.seq (.regI [.op (oV 0 5),
 .op (mo (.len true (.t 5)) 6),
 .op (oV 1 7),
 .op (mo (.len true (.t 7)) 8),
 .op (mo (.bin false .geq (.t 6) (.t 8)) 9),
 .op (oV 9 10),
 .grp mg_3h,
 .op (oV 20 4)])
 .ret))
theorem Wq_1b {s_ suffix_:Str}:Cn Tryz.prog 114 [.str s_,.str suffix_] [] (F_1b s_ suffix_) (fun z=>.bool z) (fun z=>[]):=fun Q Q' h hQ=>by
 refine acallM mc_1b [] [] [.t 4] Tryz.func114 fun M=>?_
 unfold F_1b at h
 unfold mc_1b
 replace h:=tY h
 refine tB ?_
 repeat' (first
 | (exact tZ)
 | ((first|refine oblg h ?_|refine roomG h ?_|refine fork h ?_ ?_|refine forkS h ?_ ?_)<;>clear h<;>intro hc h)
 | (refine M.gj1 (ms:=mg_3h) [4] [] (fun y=>[(20,.bool y)]) (fun y=>[]) h ?_ ?_<;>first
 | (clear h;intro Qn K hK1 h;unfold mg_3h;replace h:=tY h;refine tB ?_)
  |(clear h;intro y h;replace h:=tY h;refine tB ?_))
 | (refine hK1 _ ?_;(try refine tB ?_);refine ⟨_,h,?_⟩;exact tU0;done)
 | (refine tE ?_;(first|rw [M.lok_compU]|rw [M.lokD_compU]);refine tB ?_)
 | (refine tA ?_)
 | fail)
def F_21 (s_:Str) (suffix_:Str):Option Bool :=
 (F_1b s_ suffix_).bind fun y2=>some y2
def mc_21:MC :=
 (sR [mo (.mv (.c (.bool false))) 4]
 (sR [oV 0 5,
 oV 1 6,
 mo (.call (.f 114) [(.t 5),(.t 6)] [] []) 7,
 oV 7 4]
 .ret))
theorem Wq_21 {s_ suffix_:Str}:Cn Tryz.prog 79 [.str s_,.str suffix_] [] (F_21 s_ suffix_) (fun z=>.bool z) (fun z=>[]):=fun Q Q' h hQ=>by
 refine acallM mc_21 [] [] [.t 4] Tryz.func79 fun M=>?_
 unfold F_21 at h
 unfold mc_21
 replace h:=tY h
 refine tB ?_
 repeat' (first
 | (exact tZ)
 | ((first|refine oblg h ?_|refine roomG h ?_|refine fork h ?_ ?_|refine forkS h ?_ ?_)<;>clear h<;>intro hc h)
 | (obtain ⟨y,hy,h⟩:=h;have hw:=Wq_1b.w hy;replace hw:=tY hw;(first|refine M.sC hw ?_|refine M.sD hw ?_);clear hw hy;refine tB ?_)
 | (refine tE ?_;(first|rw [M.lok_compU]|rw [M.lokD_compU]);refine tB ?_)
 | (refine tA ?_)
 | fail)
mutual
def FR_b:Nat→GTerm→(List GKind)→GFinding→GSpot→Option Bool
 | 0,_,_,_,_=>none
 | n+1,k_,p_,p__,p___ =>
 (FR_a n k_ p_ p__ p___).bind fun y2=>some y2
def FR_l:Nat→GTerm→(List GKind)→GFinding→GSpot→Option Bool
 | 0,_,_,_,_=>none
 | n+1,k_,pc0_,pc1_,pc2_ =>
 (FR_b n k_ pc0_ pc1_ pc2_).bind fun y2=>some (!y2)
def FR_m:Nat→(List GTerm)→(List GKind)→GFinding→GSpot→Option Int
 | 0,_,_,_,_=>none
 | n+1,s_,fc0c0_,fc0c1_,fc0c2_ =>
 (forL (fun (k31:Int) (a32:GTerm) (x30:Unit)=>((FR_l n a32 fc0c0_ fc0c1_ fc0c2_).bind fun y40=>bif y40 then some (.ex k31) else some (.nx ()):Option (Fl Unit Int))) s_ 0 ()).bind fun o=>o.elim (fun x41=>some (-1)) (fun r42=>some r42)
def FR_n:Nat→(List GTerm)→(List GKind)→GFinding→GSpot→Option Bool
 | 0,_,_,_,_=>none
 | n+1,s_,fc0c0_,fc0c1_,fc0c2_ =>
 (FR_m n s_ fc0c0_ fc0c1_ fc0c2_).bind fun y2=>some (decide (0≤y2))
def FR_o:Nat→(List GTerm)→(List GKind)→GFinding→GSpot→Option Int
 | 0,_,_,_,_=>none
 | n+1,s_,fc0_,fc1_,fc2_ =>
 (forL (fun (k31:Int) (a32:GTerm) (x30:Unit)=>((FR_b n a32 fc0_ fc1_ fc2_).bind fun y40=>bif y40 then some (.ex k31) else some (.nx ()):Option (Fl Unit Int))) s_ 0 ()).bind fun o=>o.elim (fun x41=>some (-1)) (fun r42=>some r42)
def FR_p:Nat→(List GTerm)→(List GKind)→GFinding→GSpot→Option Bool
 | 0,_,_,_,_=>none
 | n+1,s_,fc0_,fc1_,fc2_ =>
 (FR_o n s_ fc0_ fc1_ fc2_).bind fun y2=>some (decide (0≤y2))
def FR_a:Nat→GTerm→(List GKind)→GFinding→GSpot→Option Bool
 | 0,_,_,_,_=>none
 | n+1,c_,kinds_,f_,s_ =>
 bif decide (c_.Op=1) then bif decide (0≤f_.Kind) then bif decide (f_.Kind<(kinds_.length:Int)) then chk (inb f_.Kind kinds_.length) (some (decide ((kinds_.getD (f_.Kind).toNat default).Name=c_.Text))) else some false else some false else bif decide (c_.Op=2) then (F_12 s_.Place.Path c_.Text).bind fun y12=>some y12 else bif decide (c_.Op=3) then (F_21 s_.Place.Path c_.Text).bind fun y14=>some y14 else bif decide (c_.Op=4) then some (decide (s_.Place.Source=c_.Number)) else bif decide (c_.Op=5) then some (decide (c_.Number≤(s_.Layers.length:Int))) else bif decide (c_.Op=6) then jn (α:=Bool) (bif decide (s_.From≤s_.To) then some (decide ((IntKind.wrap .u64 c_.Number)≤(IntKind.wrap .u64 ((IntKind.wrap .u64 s_.To) - (IntKind.wrap .u64 s_.From))))) else some false) fun j16=>some j16 else bif decide (c_.Op=7) then some (decide (f_.Fingerprint=c_.Print)) else bif decide (c_.Op=8) then some (decide (s_.Place.Time<c_.Number)) else bif decide (c_.Op=9) then chk (inb 0 c_.Kids.length) ((FR_b n (c_.Kids.getD 0 default) kinds_ f_ s_).bind fun y18=>some (!y18)) else bif decide (c_.Op=10) then (FR_n n c_.Kids kinds_ f_ s_).bind fun y20=>some (!y20) else (FR_p n c_.Kids kinds_ f_ s_).bind fun y22=>some y22
end
noncomputable def F_a (c_:GTerm) (kinds_:List GKind) (f_:GFinding) (s_:GSpot):Option Bool:=lim fun n=>FR_a n c_ kinds_ f_ s_
def mc_b:MC :=
 (sR [mo (.box (.t 0)) 4,
 mo (.mv (.c (.bool false))) 5]
 (sR [mo (.ld (some 5) (.t 4)) 6,
 oL 1 7,
 mo (.ld (some 3) (.t 2)) 8,
 mo (.ld (some 6) (.t 3)) 9,
 mo (.call (.f 42) [(.t 6),(.t 7),(.t 8),(.t 9)] [] []) 10,
 oV 10 5]
 .ret))
theorem Wq_b {n:Nat} (ih_rule_holds_1:∀{k_:GTerm} {p_:List GKind} {p__:GFinding} {p___:GSpot} {y:Bool},FR_b n k_ p_ p__ p___=some y→ACall Tryz.prog 77 [GTerm.v k_,.ptr 1000 0,.ptr 1001 0,.ptr 1002 0] [(1000,.cells [.sl (p_.map GKind.v)]),(1001,.cells [.int .i64 p__.Kind,.int .u64 p__.Fingerprint,.sl (p__.Where.map GSpot.v)]),(1002,.cells [.int .i64 p___.Place.Source,.str p___.Place.Path,.int .i64 p___.Place.Time,.sl (p___.Layers.map GLayer.v),.int .i64 p___.From,.int .i64 p___.To])] (fun r H=>r=.bool y∧H=[(1000,.cells [.sl (p_.map GKind.v)]),(1001,.cells [.int .i64 p__.Kind,.int .u64 p__.Fingerprint,.sl (p__.Where.map GSpot.v)]),(1002,.cells [.int .i64 p___.Place.Source,.str p___.Place.Path,.int .i64 p___.Place.Time,.sl (p___.Layers.map GLayer.v),.int .i64 p___.From,.int .i64 p___.To])])) (ih_rule_holds_2:∀{k_:GTerm} {pc0_:List GKind} {pc1_:GFinding} {pc2_:GSpot} {y:Bool},FR_l n k_ pc0_ pc1_ pc2_=some y→ACall Tryz.prog 81 [GTerm.v k_,.ptr 1000 0] [(1000,.cells [.fn (.func 77) [.ptr 1001 0,.ptr 1002 0,.ptr 1003 0]]),(1001,.cells [.sl (pc0_.map GKind.v)]),(1002,.cells [.int .i64 pc1_.Kind,.int .u64 pc1_.Fingerprint,.sl (pc1_.Where.map GSpot.v)]),(1003,.cells [.int .i64 pc2_.Place.Source,.str pc2_.Place.Path,.int .i64 pc2_.Place.Time,.sl (pc2_.Layers.map GLayer.v),.int .i64 pc2_.From,.int .i64 pc2_.To])] (fun r H=>r=.bool y∧H=[(1000,.cells [.fn (.func 77) [.ptr 1001 0,.ptr 1002 0,.ptr 1003 0]]),(1001,.cells [.sl (pc0_.map GKind.v)]),(1002,.cells [.int .i64 pc1_.Kind,.int .u64 pc1_.Fingerprint,.sl (pc1_.Where.map GSpot.v)]),(1003,.cells [.int .i64 pc2_.Place.Source,.str pc2_.Place.Path,.int .i64 pc2_.Place.Time,.sl (pc2_.Layers.map GLayer.v),.int .i64 pc2_.From,.int .i64 pc2_.To])])) (ih_slices_IndexFunc_api_Term_api_Term_of_rule_holds_2:∀{s_:List GTerm} {fc0c0_:List GKind} {fc0c1_:GFinding} {fc0c2_:GSpot} {y:Int},FR_m n s_ fc0c0_ fc0c1_ fc0c2_=some y→ACall Tryz.prog 115 [.sl (s_.map GTerm.v),.fn (.func 81) [.ptr 1000 0]] [(1000,.cells [.fn (.func 77) [.ptr 1001 0,.ptr 1002 0,.ptr 1003 0]]),(1001,.cells [.sl (fc0c0_.map GKind.v)]),(1002,.cells [.int .i64 fc0c1_.Kind,.int .u64 fc0c1_.Fingerprint,.sl (fc0c1_.Where.map GSpot.v)]),(1003,.cells [.int .i64 fc0c2_.Place.Source,.str fc0c2_.Place.Path,.int .i64 fc0c2_.Place.Time,.sl (fc0c2_.Layers.map GLayer.v),.int .i64 fc0c2_.From,.int .i64 fc0c2_.To])] (fun r H=>r=.int .i64 y∧H=[(1000,.cells [.fn (.func 77) [.ptr 1001 0,.ptr 1002 0,.ptr 1003 0]]),(1001,.cells [.sl (fc0c0_.map GKind.v)]),(1002,.cells [.int .i64 fc0c1_.Kind,.int .u64 fc0c1_.Fingerprint,.sl (fc0c1_.Where.map GSpot.v)]),(1003,.cells [.int .i64 fc0c2_.Place.Source,.str fc0c2_.Place.Path,.int .i64 fc0c2_.Place.Time,.sl (fc0c2_.Layers.map GLayer.v),.int .i64 fc0c2_.From,.int .i64 fc0c2_.To])])) (ih_slices_ContainsFunc_api_Term_api_Term_of_rule_holds_2:∀{s_:List GTerm} {fc0c0_:List GKind} {fc0c1_:GFinding} {fc0c2_:GSpot} {y:Bool},FR_n n s_ fc0c0_ fc0c1_ fc0c2_=some y→ACall Tryz.prog 80 [.sl (s_.map GTerm.v),.fn (.func 81) [.ptr 1000 0]] [(1000,.cells [.fn (.func 77) [.ptr 1001 0,.ptr 1002 0,.ptr 1003 0]]),(1001,.cells [.sl (fc0c0_.map GKind.v)]),(1002,.cells [.int .i64 fc0c1_.Kind,.int .u64 fc0c1_.Fingerprint,.sl (fc0c1_.Where.map GSpot.v)]),(1003,.cells [.int .i64 fc0c2_.Place.Source,.str fc0c2_.Place.Path,.int .i64 fc0c2_.Place.Time,.sl (fc0c2_.Layers.map GLayer.v),.int .i64 fc0c2_.From,.int .i64 fc0c2_.To])] (fun r H=>r=.bool y∧H=[(1000,.cells [.fn (.func 77) [.ptr 1001 0,.ptr 1002 0,.ptr 1003 0]]),(1001,.cells [.sl (fc0c0_.map GKind.v)]),(1002,.cells [.int .i64 fc0c1_.Kind,.int .u64 fc0c1_.Fingerprint,.sl (fc0c1_.Where.map GSpot.v)]),(1003,.cells [.int .i64 fc0c2_.Place.Source,.str fc0c2_.Place.Path,.int .i64 fc0c2_.Place.Time,.sl (fc0c2_.Layers.map GLayer.v),.int .i64 fc0c2_.From,.int .i64 fc0c2_.To])])) (ih_slices_IndexFunc_api_Term_api_Term_of_rule_holds_1:∀{s_:List GTerm} {fc0_:List GKind} {fc1_:GFinding} {fc2_:GSpot} {y:Int},FR_o n s_ fc0_ fc1_ fc2_=some y→ACall Tryz.prog 115 [.sl (s_.map GTerm.v),.fn (.func 77) [.ptr 1000 0,.ptr 1001 0,.ptr 1002 0]] [(1000,.cells [.sl (fc0_.map GKind.v)]),(1001,.cells [.int .i64 fc1_.Kind,.int .u64 fc1_.Fingerprint,.sl (fc1_.Where.map GSpot.v)]),(1002,.cells [.int .i64 fc2_.Place.Source,.str fc2_.Place.Path,.int .i64 fc2_.Place.Time,.sl (fc2_.Layers.map GLayer.v),.int .i64 fc2_.From,.int .i64 fc2_.To])] (fun r H=>r=.int .i64 y∧H=[(1000,.cells [.sl (fc0_.map GKind.v)]),(1001,.cells [.int .i64 fc1_.Kind,.int .u64 fc1_.Fingerprint,.sl (fc1_.Where.map GSpot.v)]),(1002,.cells [.int .i64 fc2_.Place.Source,.str fc2_.Place.Path,.int .i64 fc2_.Place.Time,.sl (fc2_.Layers.map GLayer.v),.int .i64 fc2_.From,.int .i64 fc2_.To])])) (ih_slices_ContainsFunc_api_Term_api_Term_of_rule_holds_1:∀{s_:List GTerm} {fc0_:List GKind} {fc1_:GFinding} {fc2_:GSpot} {y:Bool},FR_p n s_ fc0_ fc1_ fc2_=some y→ACall Tryz.prog 80 [.sl (s_.map GTerm.v),.fn (.func 77) [.ptr 1000 0,.ptr 1001 0,.ptr 1002 0]] [(1000,.cells [.sl (fc0_.map GKind.v)]),(1001,.cells [.int .i64 fc1_.Kind,.int .u64 fc1_.Fingerprint,.sl (fc1_.Where.map GSpot.v)]),(1002,.cells [.int .i64 fc2_.Place.Source,.str fc2_.Place.Path,.int .i64 fc2_.Place.Time,.sl (fc2_.Layers.map GLayer.v),.int .i64 fc2_.From,.int .i64 fc2_.To])] (fun r H=>r=.bool y∧H=[(1000,.cells [.sl (fc0_.map GKind.v)]),(1001,.cells [.int .i64 fc1_.Kind,.int .u64 fc1_.Fingerprint,.sl (fc1_.Where.map GSpot.v)]),(1002,.cells [.int .i64 fc2_.Place.Source,.str fc2_.Place.Path,.int .i64 fc2_.Place.Time,.sl (fc2_.Layers.map GLayer.v),.int .i64 fc2_.From,.int .i64 fc2_.To])])) (ih_rule_holds:∀{c_:GTerm} {kinds_:List GKind} {f_:GFinding} {s_:GSpot} {y:Bool},FR_a n c_ kinds_ f_ s_=some y→ACall Tryz.prog 42 [GTerm.v c_,.sl (kinds_.map GKind.v),GFinding.v f_,GSpot.v s_] [] (fun r H=>r=.bool y∧H=[])) (k_:GTerm) (p_:List GKind) (p__:GFinding) (p___:GSpot) {Q:Bool→Prop} {Q':V→Heap→Prop} (h:Ok (FR_b (n+1) k_ p_ p__ p___) Q) (hQ:∀z,Q z→Q' (.bool z) [(1000,.cells [.sl (p_.map GKind.v)]),(1001,.cells [.int .i64 p__.Kind,.int .u64 p__.Fingerprint,.sl (p__.Where.map GSpot.v)]),(1002,.cells [.int .i64 p___.Place.Source,.str p___.Place.Path,.int .i64 p___.Place.Time,.sl (p___.Layers.map GLayer.v),.int .i64 p___.From,.int .i64 p___.To])]):ACall Tryz.prog 77 [GTerm.v k_,.ptr 1000 0,.ptr 1001 0,.ptr 1002 0] [(1000,.cells [.sl (p_.map GKind.v)]),(1001,.cells [.int .i64 p__.Kind,.int .u64 p__.Fingerprint,.sl (p__.Where.map GSpot.v)]),(1002,.cells [.int .i64 p___.Place.Source,.str p___.Place.Path,.int .i64 p___.Place.Time,.sl (p___.Layers.map GLayer.v),.int .i64 p___.From,.int .i64 p___.To])] Q':=by
 refine acallM mc_b [] [1000,1001,1002] [.t 5] Tryz.func77 fun M=>?_
 simp only [FR_b] at h
 unfold mc_b
 replace h:=tY h
 refine tB ?_
 repeat' (first
 | (exact tZ)
 | ((first|refine oblg h ?_|refine roomG h ?_|refine fork h ?_ ?_|refine forkS h ?_ ?_)<;>clear h<;>intro hc h)
 | (obtain ⟨y,hy,h⟩:=h;have hw:=ih_rule_holds hy;replace hw:=tY hw;(first|refine M.sC hw ?_|refine M.sD hw ?_);clear hw hy;refine tB ?_)
 | (refine tE ?_;(first|rw [M.lok_compU]|rw [M.lokD_compU]);refine tB ?_)
 | (refine tA ?_)
 | fail)
def mc_l:MC :=
 (sR [mo (.box (.t 0)) 2,
 mo (.mv (.c (.bool false))) 3]
 (sR [oL 1 4,
 mo (.ld (some 5) (.t 2)) 5,
 mo (.call (.t 4) [(.t 5)] [1001,1002,1003] []) 6,
 mo (.not (.t 6)) 7,
 oV 7 3]
 .ret))
theorem Wq_l {n:Nat} (ih_rule_holds_1:∀{k_:GTerm} {p_:List GKind} {p__:GFinding} {p___:GSpot} {y:Bool},FR_b n k_ p_ p__ p___=some y→ACall Tryz.prog 77 [GTerm.v k_,.ptr 1000 0,.ptr 1001 0,.ptr 1002 0] [(1000,.cells [.sl (p_.map GKind.v)]),(1001,.cells [.int .i64 p__.Kind,.int .u64 p__.Fingerprint,.sl (p__.Where.map GSpot.v)]),(1002,.cells [.int .i64 p___.Place.Source,.str p___.Place.Path,.int .i64 p___.Place.Time,.sl (p___.Layers.map GLayer.v),.int .i64 p___.From,.int .i64 p___.To])] (fun r H=>r=.bool y∧H=[(1000,.cells [.sl (p_.map GKind.v)]),(1001,.cells [.int .i64 p__.Kind,.int .u64 p__.Fingerprint,.sl (p__.Where.map GSpot.v)]),(1002,.cells [.int .i64 p___.Place.Source,.str p___.Place.Path,.int .i64 p___.Place.Time,.sl (p___.Layers.map GLayer.v),.int .i64 p___.From,.int .i64 p___.To])])) (ih_rule_holds_2:∀{k_:GTerm} {pc0_:List GKind} {pc1_:GFinding} {pc2_:GSpot} {y:Bool},FR_l n k_ pc0_ pc1_ pc2_=some y→ACall Tryz.prog 81 [GTerm.v k_,.ptr 1000 0] [(1000,.cells [.fn (.func 77) [.ptr 1001 0,.ptr 1002 0,.ptr 1003 0]]),(1001,.cells [.sl (pc0_.map GKind.v)]),(1002,.cells [.int .i64 pc1_.Kind,.int .u64 pc1_.Fingerprint,.sl (pc1_.Where.map GSpot.v)]),(1003,.cells [.int .i64 pc2_.Place.Source,.str pc2_.Place.Path,.int .i64 pc2_.Place.Time,.sl (pc2_.Layers.map GLayer.v),.int .i64 pc2_.From,.int .i64 pc2_.To])] (fun r H=>r=.bool y∧H=[(1000,.cells [.fn (.func 77) [.ptr 1001 0,.ptr 1002 0,.ptr 1003 0]]),(1001,.cells [.sl (pc0_.map GKind.v)]),(1002,.cells [.int .i64 pc1_.Kind,.int .u64 pc1_.Fingerprint,.sl (pc1_.Where.map GSpot.v)]),(1003,.cells [.int .i64 pc2_.Place.Source,.str pc2_.Place.Path,.int .i64 pc2_.Place.Time,.sl (pc2_.Layers.map GLayer.v),.int .i64 pc2_.From,.int .i64 pc2_.To])])) (ih_slices_IndexFunc_api_Term_api_Term_of_rule_holds_2:∀{s_:List GTerm} {fc0c0_:List GKind} {fc0c1_:GFinding} {fc0c2_:GSpot} {y:Int},FR_m n s_ fc0c0_ fc0c1_ fc0c2_=some y→ACall Tryz.prog 115 [.sl (s_.map GTerm.v),.fn (.func 81) [.ptr 1000 0]] [(1000,.cells [.fn (.func 77) [.ptr 1001 0,.ptr 1002 0,.ptr 1003 0]]),(1001,.cells [.sl (fc0c0_.map GKind.v)]),(1002,.cells [.int .i64 fc0c1_.Kind,.int .u64 fc0c1_.Fingerprint,.sl (fc0c1_.Where.map GSpot.v)]),(1003,.cells [.int .i64 fc0c2_.Place.Source,.str fc0c2_.Place.Path,.int .i64 fc0c2_.Place.Time,.sl (fc0c2_.Layers.map GLayer.v),.int .i64 fc0c2_.From,.int .i64 fc0c2_.To])] (fun r H=>r=.int .i64 y∧H=[(1000,.cells [.fn (.func 77) [.ptr 1001 0,.ptr 1002 0,.ptr 1003 0]]),(1001,.cells [.sl (fc0c0_.map GKind.v)]),(1002,.cells [.int .i64 fc0c1_.Kind,.int .u64 fc0c1_.Fingerprint,.sl (fc0c1_.Where.map GSpot.v)]),(1003,.cells [.int .i64 fc0c2_.Place.Source,.str fc0c2_.Place.Path,.int .i64 fc0c2_.Place.Time,.sl (fc0c2_.Layers.map GLayer.v),.int .i64 fc0c2_.From,.int .i64 fc0c2_.To])])) (ih_slices_ContainsFunc_api_Term_api_Term_of_rule_holds_2:∀{s_:List GTerm} {fc0c0_:List GKind} {fc0c1_:GFinding} {fc0c2_:GSpot} {y:Bool},FR_n n s_ fc0c0_ fc0c1_ fc0c2_=some y→ACall Tryz.prog 80 [.sl (s_.map GTerm.v),.fn (.func 81) [.ptr 1000 0]] [(1000,.cells [.fn (.func 77) [.ptr 1001 0,.ptr 1002 0,.ptr 1003 0]]),(1001,.cells [.sl (fc0c0_.map GKind.v)]),(1002,.cells [.int .i64 fc0c1_.Kind,.int .u64 fc0c1_.Fingerprint,.sl (fc0c1_.Where.map GSpot.v)]),(1003,.cells [.int .i64 fc0c2_.Place.Source,.str fc0c2_.Place.Path,.int .i64 fc0c2_.Place.Time,.sl (fc0c2_.Layers.map GLayer.v),.int .i64 fc0c2_.From,.int .i64 fc0c2_.To])] (fun r H=>r=.bool y∧H=[(1000,.cells [.fn (.func 77) [.ptr 1001 0,.ptr 1002 0,.ptr 1003 0]]),(1001,.cells [.sl (fc0c0_.map GKind.v)]),(1002,.cells [.int .i64 fc0c1_.Kind,.int .u64 fc0c1_.Fingerprint,.sl (fc0c1_.Where.map GSpot.v)]),(1003,.cells [.int .i64 fc0c2_.Place.Source,.str fc0c2_.Place.Path,.int .i64 fc0c2_.Place.Time,.sl (fc0c2_.Layers.map GLayer.v),.int .i64 fc0c2_.From,.int .i64 fc0c2_.To])])) (ih_slices_IndexFunc_api_Term_api_Term_of_rule_holds_1:∀{s_:List GTerm} {fc0_:List GKind} {fc1_:GFinding} {fc2_:GSpot} {y:Int},FR_o n s_ fc0_ fc1_ fc2_=some y→ACall Tryz.prog 115 [.sl (s_.map GTerm.v),.fn (.func 77) [.ptr 1000 0,.ptr 1001 0,.ptr 1002 0]] [(1000,.cells [.sl (fc0_.map GKind.v)]),(1001,.cells [.int .i64 fc1_.Kind,.int .u64 fc1_.Fingerprint,.sl (fc1_.Where.map GSpot.v)]),(1002,.cells [.int .i64 fc2_.Place.Source,.str fc2_.Place.Path,.int .i64 fc2_.Place.Time,.sl (fc2_.Layers.map GLayer.v),.int .i64 fc2_.From,.int .i64 fc2_.To])] (fun r H=>r=.int .i64 y∧H=[(1000,.cells [.sl (fc0_.map GKind.v)]),(1001,.cells [.int .i64 fc1_.Kind,.int .u64 fc1_.Fingerprint,.sl (fc1_.Where.map GSpot.v)]),(1002,.cells [.int .i64 fc2_.Place.Source,.str fc2_.Place.Path,.int .i64 fc2_.Place.Time,.sl (fc2_.Layers.map GLayer.v),.int .i64 fc2_.From,.int .i64 fc2_.To])])) (ih_slices_ContainsFunc_api_Term_api_Term_of_rule_holds_1:∀{s_:List GTerm} {fc0_:List GKind} {fc1_:GFinding} {fc2_:GSpot} {y:Bool},FR_p n s_ fc0_ fc1_ fc2_=some y→ACall Tryz.prog 80 [.sl (s_.map GTerm.v),.fn (.func 77) [.ptr 1000 0,.ptr 1001 0,.ptr 1002 0]] [(1000,.cells [.sl (fc0_.map GKind.v)]),(1001,.cells [.int .i64 fc1_.Kind,.int .u64 fc1_.Fingerprint,.sl (fc1_.Where.map GSpot.v)]),(1002,.cells [.int .i64 fc2_.Place.Source,.str fc2_.Place.Path,.int .i64 fc2_.Place.Time,.sl (fc2_.Layers.map GLayer.v),.int .i64 fc2_.From,.int .i64 fc2_.To])] (fun r H=>r=.bool y∧H=[(1000,.cells [.sl (fc0_.map GKind.v)]),(1001,.cells [.int .i64 fc1_.Kind,.int .u64 fc1_.Fingerprint,.sl (fc1_.Where.map GSpot.v)]),(1002,.cells [.int .i64 fc2_.Place.Source,.str fc2_.Place.Path,.int .i64 fc2_.Place.Time,.sl (fc2_.Layers.map GLayer.v),.int .i64 fc2_.From,.int .i64 fc2_.To])])) (ih_rule_holds:∀{c_:GTerm} {kinds_:List GKind} {f_:GFinding} {s_:GSpot} {y:Bool},FR_a n c_ kinds_ f_ s_=some y→ACall Tryz.prog 42 [GTerm.v c_,.sl (kinds_.map GKind.v),GFinding.v f_,GSpot.v s_] [] (fun r H=>r=.bool y∧H=[])) (k_:GTerm) (pc0_:List GKind) (pc1_:GFinding) (pc2_:GSpot) {Q:Bool→Prop} {Q':V→Heap→Prop} (h:Ok (FR_l (n+1) k_ pc0_ pc1_ pc2_) Q) (hQ:∀z,Q z→Q' (.bool z) [(1000,.cells [.fn (.func 77) [.ptr 1001 0,.ptr 1002 0,.ptr 1003 0]]),(1001,.cells [.sl (pc0_.map GKind.v)]),(1002,.cells [.int .i64 pc1_.Kind,.int .u64 pc1_.Fingerprint,.sl (pc1_.Where.map GSpot.v)]),(1003,.cells [.int .i64 pc2_.Place.Source,.str pc2_.Place.Path,.int .i64 pc2_.Place.Time,.sl (pc2_.Layers.map GLayer.v),.int .i64 pc2_.From,.int .i64 pc2_.To])]):ACall Tryz.prog 81 [GTerm.v k_,.ptr 1000 0] [(1000,.cells [.fn (.func 77) [.ptr 1001 0,.ptr 1002 0,.ptr 1003 0]]),(1001,.cells [.sl (pc0_.map GKind.v)]),(1002,.cells [.int .i64 pc1_.Kind,.int .u64 pc1_.Fingerprint,.sl (pc1_.Where.map GSpot.v)]),(1003,.cells [.int .i64 pc2_.Place.Source,.str pc2_.Place.Path,.int .i64 pc2_.Place.Time,.sl (pc2_.Layers.map GLayer.v),.int .i64 pc2_.From,.int .i64 pc2_.To])] Q':=by
 refine acallM mc_l [] [1000,1001,1002,1003] [.t 3] Tryz.func81 fun M=>?_
 simp only [FR_l] at h
 unfold mc_l
 replace h:=tY h
 refine tB ?_
 repeat' (first
 | (exact tZ)
 | ((first|refine oblg h ?_|refine roomG h ?_|refine fork h ?_ ?_|refine forkS h ?_ ?_)<;>clear h<;>intro hc h)
 | (obtain ⟨y,hy,h⟩:=h;have hw:=acall_swe 1000 1003 (acall_swe 1000 1002 (acall_swe 1000 1001 (ih_rule_holds_1 hy)));replace hw:=tY hw;(first|refine M.sC hw ?_|refine M.sD hw ?_);clear hw hy;refine tB ?_)
 | (refine tE ?_;(first|rw [M.lok_compU]|rw [M.lokD_compU]);refine tB ?_)
 | (refine tA ?_)
 | fail)
@[irreducible] def mc_2u:MC :=
 (sR [mo (.bin false .lss (.t 8) (.t 7)) 9]
 (.seq (.cond (.t 9)
 .skip
 (.exit 0))
 (.seq (.block 1
 (sR [oV 8 10,
 oV 10 5]
 (sR [oV 1 11,
 oV 0 12,
 oV 5 13,
 mo (.iad 5 (.t 12) (.t 13)) 14,
 mo (.ld (some 5) (.t 14)) 15,
 mo (.call (.t 11) [(.t 15)] [1000,1001,1002,1003] []) 16]
 (.cond (.t 16)
 (sR [oV 5 17,
 oV 17 4]
 .ret)
 .skip))))
 (.reg [mo (.bin true .add (.t 8) (cI 1)) 18,
 oV 18 8]))))
def mc_m:MC :=
 (sR [oC 0 4]
 (.seq (sR [oV 0 6,
 mo (.len false (.t 6)) 7,
 oC 0 8]
 (.block 0
 (.loop mc_2u)))
 (sR [oC (-1) 4]
 .ret)))
theorem Wq_m {n:Nat} (ih_rule_holds_1:∀{k_:GTerm} {p_:List GKind} {p__:GFinding} {p___:GSpot} {y:Bool},FR_b n k_ p_ p__ p___=some y→ACall Tryz.prog 77 [GTerm.v k_,.ptr 1000 0,.ptr 1001 0,.ptr 1002 0] [(1000,.cells [.sl (p_.map GKind.v)]),(1001,.cells [.int .i64 p__.Kind,.int .u64 p__.Fingerprint,.sl (p__.Where.map GSpot.v)]),(1002,.cells [.int .i64 p___.Place.Source,.str p___.Place.Path,.int .i64 p___.Place.Time,.sl (p___.Layers.map GLayer.v),.int .i64 p___.From,.int .i64 p___.To])] (fun r H=>r=.bool y∧H=[(1000,.cells [.sl (p_.map GKind.v)]),(1001,.cells [.int .i64 p__.Kind,.int .u64 p__.Fingerprint,.sl (p__.Where.map GSpot.v)]),(1002,.cells [.int .i64 p___.Place.Source,.str p___.Place.Path,.int .i64 p___.Place.Time,.sl (p___.Layers.map GLayer.v),.int .i64 p___.From,.int .i64 p___.To])])) (ih_rule_holds_2:∀{k_:GTerm} {pc0_:List GKind} {pc1_:GFinding} {pc2_:GSpot} {y:Bool},FR_l n k_ pc0_ pc1_ pc2_=some y→ACall Tryz.prog 81 [GTerm.v k_,.ptr 1000 0] [(1000,.cells [.fn (.func 77) [.ptr 1001 0,.ptr 1002 0,.ptr 1003 0]]),(1001,.cells [.sl (pc0_.map GKind.v)]),(1002,.cells [.int .i64 pc1_.Kind,.int .u64 pc1_.Fingerprint,.sl (pc1_.Where.map GSpot.v)]),(1003,.cells [.int .i64 pc2_.Place.Source,.str pc2_.Place.Path,.int .i64 pc2_.Place.Time,.sl (pc2_.Layers.map GLayer.v),.int .i64 pc2_.From,.int .i64 pc2_.To])] (fun r H=>r=.bool y∧H=[(1000,.cells [.fn (.func 77) [.ptr 1001 0,.ptr 1002 0,.ptr 1003 0]]),(1001,.cells [.sl (pc0_.map GKind.v)]),(1002,.cells [.int .i64 pc1_.Kind,.int .u64 pc1_.Fingerprint,.sl (pc1_.Where.map GSpot.v)]),(1003,.cells [.int .i64 pc2_.Place.Source,.str pc2_.Place.Path,.int .i64 pc2_.Place.Time,.sl (pc2_.Layers.map GLayer.v),.int .i64 pc2_.From,.int .i64 pc2_.To])])) (ih_slices_IndexFunc_api_Term_api_Term_of_rule_holds_2:∀{s_:List GTerm} {fc0c0_:List GKind} {fc0c1_:GFinding} {fc0c2_:GSpot} {y:Int},FR_m n s_ fc0c0_ fc0c1_ fc0c2_=some y→ACall Tryz.prog 115 [.sl (s_.map GTerm.v),.fn (.func 81) [.ptr 1000 0]] [(1000,.cells [.fn (.func 77) [.ptr 1001 0,.ptr 1002 0,.ptr 1003 0]]),(1001,.cells [.sl (fc0c0_.map GKind.v)]),(1002,.cells [.int .i64 fc0c1_.Kind,.int .u64 fc0c1_.Fingerprint,.sl (fc0c1_.Where.map GSpot.v)]),(1003,.cells [.int .i64 fc0c2_.Place.Source,.str fc0c2_.Place.Path,.int .i64 fc0c2_.Place.Time,.sl (fc0c2_.Layers.map GLayer.v),.int .i64 fc0c2_.From,.int .i64 fc0c2_.To])] (fun r H=>r=.int .i64 y∧H=[(1000,.cells [.fn (.func 77) [.ptr 1001 0,.ptr 1002 0,.ptr 1003 0]]),(1001,.cells [.sl (fc0c0_.map GKind.v)]),(1002,.cells [.int .i64 fc0c1_.Kind,.int .u64 fc0c1_.Fingerprint,.sl (fc0c1_.Where.map GSpot.v)]),(1003,.cells [.int .i64 fc0c2_.Place.Source,.str fc0c2_.Place.Path,.int .i64 fc0c2_.Place.Time,.sl (fc0c2_.Layers.map GLayer.v),.int .i64 fc0c2_.From,.int .i64 fc0c2_.To])])) (ih_slices_ContainsFunc_api_Term_api_Term_of_rule_holds_2:∀{s_:List GTerm} {fc0c0_:List GKind} {fc0c1_:GFinding} {fc0c2_:GSpot} {y:Bool},FR_n n s_ fc0c0_ fc0c1_ fc0c2_=some y→ACall Tryz.prog 80 [.sl (s_.map GTerm.v),.fn (.func 81) [.ptr 1000 0]] [(1000,.cells [.fn (.func 77) [.ptr 1001 0,.ptr 1002 0,.ptr 1003 0]]),(1001,.cells [.sl (fc0c0_.map GKind.v)]),(1002,.cells [.int .i64 fc0c1_.Kind,.int .u64 fc0c1_.Fingerprint,.sl (fc0c1_.Where.map GSpot.v)]),(1003,.cells [.int .i64 fc0c2_.Place.Source,.str fc0c2_.Place.Path,.int .i64 fc0c2_.Place.Time,.sl (fc0c2_.Layers.map GLayer.v),.int .i64 fc0c2_.From,.int .i64 fc0c2_.To])] (fun r H=>r=.bool y∧H=[(1000,.cells [.fn (.func 77) [.ptr 1001 0,.ptr 1002 0,.ptr 1003 0]]),(1001,.cells [.sl (fc0c0_.map GKind.v)]),(1002,.cells [.int .i64 fc0c1_.Kind,.int .u64 fc0c1_.Fingerprint,.sl (fc0c1_.Where.map GSpot.v)]),(1003,.cells [.int .i64 fc0c2_.Place.Source,.str fc0c2_.Place.Path,.int .i64 fc0c2_.Place.Time,.sl (fc0c2_.Layers.map GLayer.v),.int .i64 fc0c2_.From,.int .i64 fc0c2_.To])])) (ih_slices_IndexFunc_api_Term_api_Term_of_rule_holds_1:∀{s_:List GTerm} {fc0_:List GKind} {fc1_:GFinding} {fc2_:GSpot} {y:Int},FR_o n s_ fc0_ fc1_ fc2_=some y→ACall Tryz.prog 115 [.sl (s_.map GTerm.v),.fn (.func 77) [.ptr 1000 0,.ptr 1001 0,.ptr 1002 0]] [(1000,.cells [.sl (fc0_.map GKind.v)]),(1001,.cells [.int .i64 fc1_.Kind,.int .u64 fc1_.Fingerprint,.sl (fc1_.Where.map GSpot.v)]),(1002,.cells [.int .i64 fc2_.Place.Source,.str fc2_.Place.Path,.int .i64 fc2_.Place.Time,.sl (fc2_.Layers.map GLayer.v),.int .i64 fc2_.From,.int .i64 fc2_.To])] (fun r H=>r=.int .i64 y∧H=[(1000,.cells [.sl (fc0_.map GKind.v)]),(1001,.cells [.int .i64 fc1_.Kind,.int .u64 fc1_.Fingerprint,.sl (fc1_.Where.map GSpot.v)]),(1002,.cells [.int .i64 fc2_.Place.Source,.str fc2_.Place.Path,.int .i64 fc2_.Place.Time,.sl (fc2_.Layers.map GLayer.v),.int .i64 fc2_.From,.int .i64 fc2_.To])])) (ih_slices_ContainsFunc_api_Term_api_Term_of_rule_holds_1:∀{s_:List GTerm} {fc0_:List GKind} {fc1_:GFinding} {fc2_:GSpot} {y:Bool},FR_p n s_ fc0_ fc1_ fc2_=some y→ACall Tryz.prog 80 [.sl (s_.map GTerm.v),.fn (.func 77) [.ptr 1000 0,.ptr 1001 0,.ptr 1002 0]] [(1000,.cells [.sl (fc0_.map GKind.v)]),(1001,.cells [.int .i64 fc1_.Kind,.int .u64 fc1_.Fingerprint,.sl (fc1_.Where.map GSpot.v)]),(1002,.cells [.int .i64 fc2_.Place.Source,.str fc2_.Place.Path,.int .i64 fc2_.Place.Time,.sl (fc2_.Layers.map GLayer.v),.int .i64 fc2_.From,.int .i64 fc2_.To])] (fun r H=>r=.bool y∧H=[(1000,.cells [.sl (fc0_.map GKind.v)]),(1001,.cells [.int .i64 fc1_.Kind,.int .u64 fc1_.Fingerprint,.sl (fc1_.Where.map GSpot.v)]),(1002,.cells [.int .i64 fc2_.Place.Source,.str fc2_.Place.Path,.int .i64 fc2_.Place.Time,.sl (fc2_.Layers.map GLayer.v),.int .i64 fc2_.From,.int .i64 fc2_.To])])) (ih_rule_holds:∀{c_:GTerm} {kinds_:List GKind} {f_:GFinding} {s_:GSpot} {y:Bool},FR_a n c_ kinds_ f_ s_=some y→ACall Tryz.prog 42 [GTerm.v c_,.sl (kinds_.map GKind.v),GFinding.v f_,GSpot.v s_] [] (fun r H=>r=.bool y∧H=[])) (s_:List GTerm) (fc0c0_:List GKind) (fc0c1_:GFinding) (fc0c2_:GSpot) {Q:Int→Prop} {Q':V→Heap→Prop} (h:Ok (FR_m (n+1) s_ fc0c0_ fc0c1_ fc0c2_) Q) (hQ:∀z,Q z→Q' (.int .i64 z) [(1000,.cells [.fn (.func 77) [.ptr 1001 0,.ptr 1002 0,.ptr 1003 0]]),(1001,.cells [.sl (fc0c0_.map GKind.v)]),(1002,.cells [.int .i64 fc0c1_.Kind,.int .u64 fc0c1_.Fingerprint,.sl (fc0c1_.Where.map GSpot.v)]),(1003,.cells [.int .i64 fc0c2_.Place.Source,.str fc0c2_.Place.Path,.int .i64 fc0c2_.Place.Time,.sl (fc0c2_.Layers.map GLayer.v),.int .i64 fc0c2_.From,.int .i64 fc0c2_.To])]):ACall Tryz.prog 115 [.sl (s_.map GTerm.v),.fn (.func 81) [.ptr 1000 0]] [(1000,.cells [.fn (.func 77) [.ptr 1001 0,.ptr 1002 0,.ptr 1003 0]]),(1001,.cells [.sl (fc0c0_.map GKind.v)]),(1002,.cells [.int .i64 fc0c1_.Kind,.int .u64 fc0c1_.Fingerprint,.sl (fc0c1_.Where.map GSpot.v)]),(1003,.cells [.int .i64 fc0c2_.Place.Source,.str fc0c2_.Place.Path,.int .i64 fc0c2_.Place.Time,.sl (fc0c2_.Layers.map GLayer.v),.int .i64 fc0c2_.From,.int .i64 fc0c2_.To])] Q':=by
 refine acallM mc_m [] [1000,1001,1002,1003] [.t 4] Tryz.func115 fun M=>?_
 simp only [FR_m] at h
 unfold mc_m
 replace h:=tY h
 refine tB ?_
 repeat' (first
 | (exact tZ)
 | ((first|refine oblg h ?_|refine roomG h ?_|refine fork h ?_ ?_|refine forkS h ?_ ?_)<;>clear h<;>intro hc h)
 | (obtain ⟨y,hy,h⟩:=h;have hw:=ih_rule_holds_2 hy;replace hw:=tY hw;(first|refine M.sC hw ?_|refine M.sD hw ?_);clear hw hy;refine tB ?_)
 | (refine M.for1 (b:=mc_2u) 8 [0,1,7] [1000,1003,1002,1001] (fun x=>[]) (fun x=>[]) [] h ?_ ?_ ?_<;>first
 | (clear h;intro k a x Qn K hK1 hkN1 ha1 h hf;have hl:=fact_int (factsE_find (n:=7) hf.1 rfl);clear hf;have hkd:=kD hkN1;have hkB1:=kB hkN1;have hkI1:=kI (k:=k) (by omega);unfold mc_2u;replace h:=tY h;refine tK ha1 hkd hkN1 hkB1 hkI1 ?_)
  |(clear h;intro x K h;replace h:=And.left (And.intro h trivial);unfold mc_2u;replace h:=tY h;refine tB ?_)
  |(clear h;(try refine tB ?_);exact tU0;done))
 | (simp only [ha1])
 | (refine hK1 _ ?_;(try refine tB ?_);refine ⟨_,h,?_⟩;exact tU0;done)
 | (refine tE ?_;(first|rw [M.lok_compU]|rw [M.lokD_compU]);refine tB ?_)
 | (refine tA ?_)
 | fail)
def mc_n:MC :=
 (sR [mo (.mv (.c (.bool false))) 4]
 (sR [oV 0 5,
 oV 1 6,
 mo (.call (.f 115) [(.t 5),(.t 6)] [1000,1001,1002,1003] []) 7,
 mo (.bin false .geq (.t 7) (cI 0)) 8,
 oV 8 4]
 .ret))
theorem Wq_n {n:Nat} (ih_rule_holds_1:∀{k_:GTerm} {p_:List GKind} {p__:GFinding} {p___:GSpot} {y:Bool},FR_b n k_ p_ p__ p___=some y→ACall Tryz.prog 77 [GTerm.v k_,.ptr 1000 0,.ptr 1001 0,.ptr 1002 0] [(1000,.cells [.sl (p_.map GKind.v)]),(1001,.cells [.int .i64 p__.Kind,.int .u64 p__.Fingerprint,.sl (p__.Where.map GSpot.v)]),(1002,.cells [.int .i64 p___.Place.Source,.str p___.Place.Path,.int .i64 p___.Place.Time,.sl (p___.Layers.map GLayer.v),.int .i64 p___.From,.int .i64 p___.To])] (fun r H=>r=.bool y∧H=[(1000,.cells [.sl (p_.map GKind.v)]),(1001,.cells [.int .i64 p__.Kind,.int .u64 p__.Fingerprint,.sl (p__.Where.map GSpot.v)]),(1002,.cells [.int .i64 p___.Place.Source,.str p___.Place.Path,.int .i64 p___.Place.Time,.sl (p___.Layers.map GLayer.v),.int .i64 p___.From,.int .i64 p___.To])])) (ih_rule_holds_2:∀{k_:GTerm} {pc0_:List GKind} {pc1_:GFinding} {pc2_:GSpot} {y:Bool},FR_l n k_ pc0_ pc1_ pc2_=some y→ACall Tryz.prog 81 [GTerm.v k_,.ptr 1000 0] [(1000,.cells [.fn (.func 77) [.ptr 1001 0,.ptr 1002 0,.ptr 1003 0]]),(1001,.cells [.sl (pc0_.map GKind.v)]),(1002,.cells [.int .i64 pc1_.Kind,.int .u64 pc1_.Fingerprint,.sl (pc1_.Where.map GSpot.v)]),(1003,.cells [.int .i64 pc2_.Place.Source,.str pc2_.Place.Path,.int .i64 pc2_.Place.Time,.sl (pc2_.Layers.map GLayer.v),.int .i64 pc2_.From,.int .i64 pc2_.To])] (fun r H=>r=.bool y∧H=[(1000,.cells [.fn (.func 77) [.ptr 1001 0,.ptr 1002 0,.ptr 1003 0]]),(1001,.cells [.sl (pc0_.map GKind.v)]),(1002,.cells [.int .i64 pc1_.Kind,.int .u64 pc1_.Fingerprint,.sl (pc1_.Where.map GSpot.v)]),(1003,.cells [.int .i64 pc2_.Place.Source,.str pc2_.Place.Path,.int .i64 pc2_.Place.Time,.sl (pc2_.Layers.map GLayer.v),.int .i64 pc2_.From,.int .i64 pc2_.To])])) (ih_slices_IndexFunc_api_Term_api_Term_of_rule_holds_2:∀{s_:List GTerm} {fc0c0_:List GKind} {fc0c1_:GFinding} {fc0c2_:GSpot} {y:Int},FR_m n s_ fc0c0_ fc0c1_ fc0c2_=some y→ACall Tryz.prog 115 [.sl (s_.map GTerm.v),.fn (.func 81) [.ptr 1000 0]] [(1000,.cells [.fn (.func 77) [.ptr 1001 0,.ptr 1002 0,.ptr 1003 0]]),(1001,.cells [.sl (fc0c0_.map GKind.v)]),(1002,.cells [.int .i64 fc0c1_.Kind,.int .u64 fc0c1_.Fingerprint,.sl (fc0c1_.Where.map GSpot.v)]),(1003,.cells [.int .i64 fc0c2_.Place.Source,.str fc0c2_.Place.Path,.int .i64 fc0c2_.Place.Time,.sl (fc0c2_.Layers.map GLayer.v),.int .i64 fc0c2_.From,.int .i64 fc0c2_.To])] (fun r H=>r=.int .i64 y∧H=[(1000,.cells [.fn (.func 77) [.ptr 1001 0,.ptr 1002 0,.ptr 1003 0]]),(1001,.cells [.sl (fc0c0_.map GKind.v)]),(1002,.cells [.int .i64 fc0c1_.Kind,.int .u64 fc0c1_.Fingerprint,.sl (fc0c1_.Where.map GSpot.v)]),(1003,.cells [.int .i64 fc0c2_.Place.Source,.str fc0c2_.Place.Path,.int .i64 fc0c2_.Place.Time,.sl (fc0c2_.Layers.map GLayer.v),.int .i64 fc0c2_.From,.int .i64 fc0c2_.To])])) (ih_slices_ContainsFunc_api_Term_api_Term_of_rule_holds_2:∀{s_:List GTerm} {fc0c0_:List GKind} {fc0c1_:GFinding} {fc0c2_:GSpot} {y:Bool},FR_n n s_ fc0c0_ fc0c1_ fc0c2_=some y→ACall Tryz.prog 80 [.sl (s_.map GTerm.v),.fn (.func 81) [.ptr 1000 0]] [(1000,.cells [.fn (.func 77) [.ptr 1001 0,.ptr 1002 0,.ptr 1003 0]]),(1001,.cells [.sl (fc0c0_.map GKind.v)]),(1002,.cells [.int .i64 fc0c1_.Kind,.int .u64 fc0c1_.Fingerprint,.sl (fc0c1_.Where.map GSpot.v)]),(1003,.cells [.int .i64 fc0c2_.Place.Source,.str fc0c2_.Place.Path,.int .i64 fc0c2_.Place.Time,.sl (fc0c2_.Layers.map GLayer.v),.int .i64 fc0c2_.From,.int .i64 fc0c2_.To])] (fun r H=>r=.bool y∧H=[(1000,.cells [.fn (.func 77) [.ptr 1001 0,.ptr 1002 0,.ptr 1003 0]]),(1001,.cells [.sl (fc0c0_.map GKind.v)]),(1002,.cells [.int .i64 fc0c1_.Kind,.int .u64 fc0c1_.Fingerprint,.sl (fc0c1_.Where.map GSpot.v)]),(1003,.cells [.int .i64 fc0c2_.Place.Source,.str fc0c2_.Place.Path,.int .i64 fc0c2_.Place.Time,.sl (fc0c2_.Layers.map GLayer.v),.int .i64 fc0c2_.From,.int .i64 fc0c2_.To])])) (ih_slices_IndexFunc_api_Term_api_Term_of_rule_holds_1:∀{s_:List GTerm} {fc0_:List GKind} {fc1_:GFinding} {fc2_:GSpot} {y:Int},FR_o n s_ fc0_ fc1_ fc2_=some y→ACall Tryz.prog 115 [.sl (s_.map GTerm.v),.fn (.func 77) [.ptr 1000 0,.ptr 1001 0,.ptr 1002 0]] [(1000,.cells [.sl (fc0_.map GKind.v)]),(1001,.cells [.int .i64 fc1_.Kind,.int .u64 fc1_.Fingerprint,.sl (fc1_.Where.map GSpot.v)]),(1002,.cells [.int .i64 fc2_.Place.Source,.str fc2_.Place.Path,.int .i64 fc2_.Place.Time,.sl (fc2_.Layers.map GLayer.v),.int .i64 fc2_.From,.int .i64 fc2_.To])] (fun r H=>r=.int .i64 y∧H=[(1000,.cells [.sl (fc0_.map GKind.v)]),(1001,.cells [.int .i64 fc1_.Kind,.int .u64 fc1_.Fingerprint,.sl (fc1_.Where.map GSpot.v)]),(1002,.cells [.int .i64 fc2_.Place.Source,.str fc2_.Place.Path,.int .i64 fc2_.Place.Time,.sl (fc2_.Layers.map GLayer.v),.int .i64 fc2_.From,.int .i64 fc2_.To])])) (ih_slices_ContainsFunc_api_Term_api_Term_of_rule_holds_1:∀{s_:List GTerm} {fc0_:List GKind} {fc1_:GFinding} {fc2_:GSpot} {y:Bool},FR_p n s_ fc0_ fc1_ fc2_=some y→ACall Tryz.prog 80 [.sl (s_.map GTerm.v),.fn (.func 77) [.ptr 1000 0,.ptr 1001 0,.ptr 1002 0]] [(1000,.cells [.sl (fc0_.map GKind.v)]),(1001,.cells [.int .i64 fc1_.Kind,.int .u64 fc1_.Fingerprint,.sl (fc1_.Where.map GSpot.v)]),(1002,.cells [.int .i64 fc2_.Place.Source,.str fc2_.Place.Path,.int .i64 fc2_.Place.Time,.sl (fc2_.Layers.map GLayer.v),.int .i64 fc2_.From,.int .i64 fc2_.To])] (fun r H=>r=.bool y∧H=[(1000,.cells [.sl (fc0_.map GKind.v)]),(1001,.cells [.int .i64 fc1_.Kind,.int .u64 fc1_.Fingerprint,.sl (fc1_.Where.map GSpot.v)]),(1002,.cells [.int .i64 fc2_.Place.Source,.str fc2_.Place.Path,.int .i64 fc2_.Place.Time,.sl (fc2_.Layers.map GLayer.v),.int .i64 fc2_.From,.int .i64 fc2_.To])])) (ih_rule_holds:∀{c_:GTerm} {kinds_:List GKind} {f_:GFinding} {s_:GSpot} {y:Bool},FR_a n c_ kinds_ f_ s_=some y→ACall Tryz.prog 42 [GTerm.v c_,.sl (kinds_.map GKind.v),GFinding.v f_,GSpot.v s_] [] (fun r H=>r=.bool y∧H=[])) (s_:List GTerm) (fc0c0_:List GKind) (fc0c1_:GFinding) (fc0c2_:GSpot) {Q:Bool→Prop} {Q':V→Heap→Prop} (h:Ok (FR_n (n+1) s_ fc0c0_ fc0c1_ fc0c2_) Q) (hQ:∀z,Q z→Q' (.bool z) [(1000,.cells [.fn (.func 77) [.ptr 1001 0,.ptr 1002 0,.ptr 1003 0]]),(1001,.cells [.sl (fc0c0_.map GKind.v)]),(1002,.cells [.int .i64 fc0c1_.Kind,.int .u64 fc0c1_.Fingerprint,.sl (fc0c1_.Where.map GSpot.v)]),(1003,.cells [.int .i64 fc0c2_.Place.Source,.str fc0c2_.Place.Path,.int .i64 fc0c2_.Place.Time,.sl (fc0c2_.Layers.map GLayer.v),.int .i64 fc0c2_.From,.int .i64 fc0c2_.To])]):ACall Tryz.prog 80 [.sl (s_.map GTerm.v),.fn (.func 81) [.ptr 1000 0]] [(1000,.cells [.fn (.func 77) [.ptr 1001 0,.ptr 1002 0,.ptr 1003 0]]),(1001,.cells [.sl (fc0c0_.map GKind.v)]),(1002,.cells [.int .i64 fc0c1_.Kind,.int .u64 fc0c1_.Fingerprint,.sl (fc0c1_.Where.map GSpot.v)]),(1003,.cells [.int .i64 fc0c2_.Place.Source,.str fc0c2_.Place.Path,.int .i64 fc0c2_.Place.Time,.sl (fc0c2_.Layers.map GLayer.v),.int .i64 fc0c2_.From,.int .i64 fc0c2_.To])] Q':=by
 refine acallM mc_n [] [1000,1001,1002,1003] [.t 4] Tryz.func80 fun M=>?_
 simp only [FR_n] at h
 unfold mc_n
 replace h:=tY h
 refine tB ?_
 repeat' (first
 | (exact tZ)
 | ((first|refine oblg h ?_|refine roomG h ?_|refine fork h ?_ ?_|refine forkS h ?_ ?_)<;>clear h<;>intro hc h)
 | (obtain ⟨y,hy,h⟩:=h;have hw:=ih_slices_IndexFunc_api_Term_api_Term_of_rule_holds_2 hy;replace hw:=tY hw;(first|refine M.sC hw ?_|refine M.sD hw ?_);clear hw hy;refine tB ?_)
 | (refine tE ?_;(first|rw [M.lok_compU]|rw [M.lokD_compU]);refine tB ?_)
 | (refine tA ?_)
 | fail)
@[irreducible] def mc_2v:MC :=
 (sR [mo (.bin false .lss (.t 8) (.t 7)) 9]
 (.seq (.cond (.t 9)
 .skip
 (.exit 0))
 (.seq (.block 1
 (sR [oV 8 10,
 oV 10 5]
 (sR [oV 1 11,
 oV 0 12,
 oV 5 13,
 mo (.iad 5 (.t 12) (.t 13)) 14,
 mo (.ld (some 5) (.t 14)) 15,
 mo (.call (.t 11) [(.t 15)] [1000,1001,1002] []) 16]
 (.cond (.t 16)
 (sR [oV 5 17,
 oV 17 4]
 .ret)
 .skip))))
 (.reg [mo (.bin true .add (.t 8) (cI 1)) 18,
 oV 18 8]))))
def mc_o:MC :=
 (sR [oC 0 4]
 (.seq (sR [oV 0 6,
 mo (.len false (.t 6)) 7,
 oC 0 8]
 (.block 0
 (.loop mc_2v)))
 (sR [oC (-1) 4]
 .ret)))
theorem Wq_o {n:Nat} (ih_rule_holds_1:∀{k_:GTerm} {p_:List GKind} {p__:GFinding} {p___:GSpot} {y:Bool},FR_b n k_ p_ p__ p___=some y→ACall Tryz.prog 77 [GTerm.v k_,.ptr 1000 0,.ptr 1001 0,.ptr 1002 0] [(1000,.cells [.sl (p_.map GKind.v)]),(1001,.cells [.int .i64 p__.Kind,.int .u64 p__.Fingerprint,.sl (p__.Where.map GSpot.v)]),(1002,.cells [.int .i64 p___.Place.Source,.str p___.Place.Path,.int .i64 p___.Place.Time,.sl (p___.Layers.map GLayer.v),.int .i64 p___.From,.int .i64 p___.To])] (fun r H=>r=.bool y∧H=[(1000,.cells [.sl (p_.map GKind.v)]),(1001,.cells [.int .i64 p__.Kind,.int .u64 p__.Fingerprint,.sl (p__.Where.map GSpot.v)]),(1002,.cells [.int .i64 p___.Place.Source,.str p___.Place.Path,.int .i64 p___.Place.Time,.sl (p___.Layers.map GLayer.v),.int .i64 p___.From,.int .i64 p___.To])])) (ih_rule_holds_2:∀{k_:GTerm} {pc0_:List GKind} {pc1_:GFinding} {pc2_:GSpot} {y:Bool},FR_l n k_ pc0_ pc1_ pc2_=some y→ACall Tryz.prog 81 [GTerm.v k_,.ptr 1000 0] [(1000,.cells [.fn (.func 77) [.ptr 1001 0,.ptr 1002 0,.ptr 1003 0]]),(1001,.cells [.sl (pc0_.map GKind.v)]),(1002,.cells [.int .i64 pc1_.Kind,.int .u64 pc1_.Fingerprint,.sl (pc1_.Where.map GSpot.v)]),(1003,.cells [.int .i64 pc2_.Place.Source,.str pc2_.Place.Path,.int .i64 pc2_.Place.Time,.sl (pc2_.Layers.map GLayer.v),.int .i64 pc2_.From,.int .i64 pc2_.To])] (fun r H=>r=.bool y∧H=[(1000,.cells [.fn (.func 77) [.ptr 1001 0,.ptr 1002 0,.ptr 1003 0]]),(1001,.cells [.sl (pc0_.map GKind.v)]),(1002,.cells [.int .i64 pc1_.Kind,.int .u64 pc1_.Fingerprint,.sl (pc1_.Where.map GSpot.v)]),(1003,.cells [.int .i64 pc2_.Place.Source,.str pc2_.Place.Path,.int .i64 pc2_.Place.Time,.sl (pc2_.Layers.map GLayer.v),.int .i64 pc2_.From,.int .i64 pc2_.To])])) (ih_slices_IndexFunc_api_Term_api_Term_of_rule_holds_2:∀{s_:List GTerm} {fc0c0_:List GKind} {fc0c1_:GFinding} {fc0c2_:GSpot} {y:Int},FR_m n s_ fc0c0_ fc0c1_ fc0c2_=some y→ACall Tryz.prog 115 [.sl (s_.map GTerm.v),.fn (.func 81) [.ptr 1000 0]] [(1000,.cells [.fn (.func 77) [.ptr 1001 0,.ptr 1002 0,.ptr 1003 0]]),(1001,.cells [.sl (fc0c0_.map GKind.v)]),(1002,.cells [.int .i64 fc0c1_.Kind,.int .u64 fc0c1_.Fingerprint,.sl (fc0c1_.Where.map GSpot.v)]),(1003,.cells [.int .i64 fc0c2_.Place.Source,.str fc0c2_.Place.Path,.int .i64 fc0c2_.Place.Time,.sl (fc0c2_.Layers.map GLayer.v),.int .i64 fc0c2_.From,.int .i64 fc0c2_.To])] (fun r H=>r=.int .i64 y∧H=[(1000,.cells [.fn (.func 77) [.ptr 1001 0,.ptr 1002 0,.ptr 1003 0]]),(1001,.cells [.sl (fc0c0_.map GKind.v)]),(1002,.cells [.int .i64 fc0c1_.Kind,.int .u64 fc0c1_.Fingerprint,.sl (fc0c1_.Where.map GSpot.v)]),(1003,.cells [.int .i64 fc0c2_.Place.Source,.str fc0c2_.Place.Path,.int .i64 fc0c2_.Place.Time,.sl (fc0c2_.Layers.map GLayer.v),.int .i64 fc0c2_.From,.int .i64 fc0c2_.To])])) (ih_slices_ContainsFunc_api_Term_api_Term_of_rule_holds_2:∀{s_:List GTerm} {fc0c0_:List GKind} {fc0c1_:GFinding} {fc0c2_:GSpot} {y:Bool},FR_n n s_ fc0c0_ fc0c1_ fc0c2_=some y→ACall Tryz.prog 80 [.sl (s_.map GTerm.v),.fn (.func 81) [.ptr 1000 0]] [(1000,.cells [.fn (.func 77) [.ptr 1001 0,.ptr 1002 0,.ptr 1003 0]]),(1001,.cells [.sl (fc0c0_.map GKind.v)]),(1002,.cells [.int .i64 fc0c1_.Kind,.int .u64 fc0c1_.Fingerprint,.sl (fc0c1_.Where.map GSpot.v)]),(1003,.cells [.int .i64 fc0c2_.Place.Source,.str fc0c2_.Place.Path,.int .i64 fc0c2_.Place.Time,.sl (fc0c2_.Layers.map GLayer.v),.int .i64 fc0c2_.From,.int .i64 fc0c2_.To])] (fun r H=>r=.bool y∧H=[(1000,.cells [.fn (.func 77) [.ptr 1001 0,.ptr 1002 0,.ptr 1003 0]]),(1001,.cells [.sl (fc0c0_.map GKind.v)]),(1002,.cells [.int .i64 fc0c1_.Kind,.int .u64 fc0c1_.Fingerprint,.sl (fc0c1_.Where.map GSpot.v)]),(1003,.cells [.int .i64 fc0c2_.Place.Source,.str fc0c2_.Place.Path,.int .i64 fc0c2_.Place.Time,.sl (fc0c2_.Layers.map GLayer.v),.int .i64 fc0c2_.From,.int .i64 fc0c2_.To])])) (ih_slices_IndexFunc_api_Term_api_Term_of_rule_holds_1:∀{s_:List GTerm} {fc0_:List GKind} {fc1_:GFinding} {fc2_:GSpot} {y:Int},FR_o n s_ fc0_ fc1_ fc2_=some y→ACall Tryz.prog 115 [.sl (s_.map GTerm.v),.fn (.func 77) [.ptr 1000 0,.ptr 1001 0,.ptr 1002 0]] [(1000,.cells [.sl (fc0_.map GKind.v)]),(1001,.cells [.int .i64 fc1_.Kind,.int .u64 fc1_.Fingerprint,.sl (fc1_.Where.map GSpot.v)]),(1002,.cells [.int .i64 fc2_.Place.Source,.str fc2_.Place.Path,.int .i64 fc2_.Place.Time,.sl (fc2_.Layers.map GLayer.v),.int .i64 fc2_.From,.int .i64 fc2_.To])] (fun r H=>r=.int .i64 y∧H=[(1000,.cells [.sl (fc0_.map GKind.v)]),(1001,.cells [.int .i64 fc1_.Kind,.int .u64 fc1_.Fingerprint,.sl (fc1_.Where.map GSpot.v)]),(1002,.cells [.int .i64 fc2_.Place.Source,.str fc2_.Place.Path,.int .i64 fc2_.Place.Time,.sl (fc2_.Layers.map GLayer.v),.int .i64 fc2_.From,.int .i64 fc2_.To])])) (ih_slices_ContainsFunc_api_Term_api_Term_of_rule_holds_1:∀{s_:List GTerm} {fc0_:List GKind} {fc1_:GFinding} {fc2_:GSpot} {y:Bool},FR_p n s_ fc0_ fc1_ fc2_=some y→ACall Tryz.prog 80 [.sl (s_.map GTerm.v),.fn (.func 77) [.ptr 1000 0,.ptr 1001 0,.ptr 1002 0]] [(1000,.cells [.sl (fc0_.map GKind.v)]),(1001,.cells [.int .i64 fc1_.Kind,.int .u64 fc1_.Fingerprint,.sl (fc1_.Where.map GSpot.v)]),(1002,.cells [.int .i64 fc2_.Place.Source,.str fc2_.Place.Path,.int .i64 fc2_.Place.Time,.sl (fc2_.Layers.map GLayer.v),.int .i64 fc2_.From,.int .i64 fc2_.To])] (fun r H=>r=.bool y∧H=[(1000,.cells [.sl (fc0_.map GKind.v)]),(1001,.cells [.int .i64 fc1_.Kind,.int .u64 fc1_.Fingerprint,.sl (fc1_.Where.map GSpot.v)]),(1002,.cells [.int .i64 fc2_.Place.Source,.str fc2_.Place.Path,.int .i64 fc2_.Place.Time,.sl (fc2_.Layers.map GLayer.v),.int .i64 fc2_.From,.int .i64 fc2_.To])])) (ih_rule_holds:∀{c_:GTerm} {kinds_:List GKind} {f_:GFinding} {s_:GSpot} {y:Bool},FR_a n c_ kinds_ f_ s_=some y→ACall Tryz.prog 42 [GTerm.v c_,.sl (kinds_.map GKind.v),GFinding.v f_,GSpot.v s_] [] (fun r H=>r=.bool y∧H=[])) (s_:List GTerm) (fc0_:List GKind) (fc1_:GFinding) (fc2_:GSpot) {Q:Int→Prop} {Q':V→Heap→Prop} (h:Ok (FR_o (n+1) s_ fc0_ fc1_ fc2_) Q) (hQ:∀z,Q z→Q' (.int .i64 z) [(1000,.cells [.sl (fc0_.map GKind.v)]),(1001,.cells [.int .i64 fc1_.Kind,.int .u64 fc1_.Fingerprint,.sl (fc1_.Where.map GSpot.v)]),(1002,.cells [.int .i64 fc2_.Place.Source,.str fc2_.Place.Path,.int .i64 fc2_.Place.Time,.sl (fc2_.Layers.map GLayer.v),.int .i64 fc2_.From,.int .i64 fc2_.To])]):ACall Tryz.prog 115 [.sl (s_.map GTerm.v),.fn (.func 77) [.ptr 1000 0,.ptr 1001 0,.ptr 1002 0]] [(1000,.cells [.sl (fc0_.map GKind.v)]),(1001,.cells [.int .i64 fc1_.Kind,.int .u64 fc1_.Fingerprint,.sl (fc1_.Where.map GSpot.v)]),(1002,.cells [.int .i64 fc2_.Place.Source,.str fc2_.Place.Path,.int .i64 fc2_.Place.Time,.sl (fc2_.Layers.map GLayer.v),.int .i64 fc2_.From,.int .i64 fc2_.To])] Q':=by
 refine acallM mc_o [] [1000,1001,1002] [.t 4] Tryz.func115 fun M=>?_
 simp only [FR_o] at h
 unfold mc_o
 replace h:=tY h
 refine tB ?_
 repeat' (first
 | (exact tZ)
 | ((first|refine oblg h ?_|refine roomG h ?_|refine fork h ?_ ?_|refine forkS h ?_ ?_)<;>clear h<;>intro hc h)
 | (obtain ⟨y,hy,h⟩:=h;have hw:=ih_rule_holds_1 hy;replace hw:=tY hw;(first|refine M.sC hw ?_|refine M.sD hw ?_);clear hw hy;refine tB ?_)
 | (refine M.for1 (b:=mc_2v) 8 [0,1,7] [1002,1001,1000] (fun x=>[]) (fun x=>[]) [] h ?_ ?_ ?_<;>first
 | (clear h;intro k a x Qn K hK1 hkN1 ha1 h hf;have hl:=fact_int (factsE_find (n:=7) hf.1 rfl);clear hf;have hkd:=kD hkN1;have hkB1:=kB hkN1;have hkI1:=kI (k:=k) (by omega);unfold mc_2v;replace h:=tY h;refine tK ha1 hkd hkN1 hkB1 hkI1 ?_)
  |(clear h;intro x K h;replace h:=And.left (And.intro h trivial);unfold mc_2v;replace h:=tY h;refine tB ?_)
  |(clear h;(try refine tB ?_);exact tU0;done))
 | (simp only [ha1])
 | (refine hK1 _ ?_;(try refine tB ?_);refine ⟨_,h,?_⟩;exact tU0;done)
 | (refine tE ?_;(first|rw [M.lok_compU]|rw [M.lokD_compU]);refine tB ?_)
 | (refine tA ?_)
 | fail)
def mc_p:MC :=
 (sR [mo (.mv (.c (.bool false))) 4]
 (sR [oV 0 5,
 oV 1 6,
 mo (.call (.f 115) [(.t 5),(.t 6)] [1000,1001,1002] []) 7,
 mo (.bin false .geq (.t 7) (cI 0)) 8,
 oV 8 4]
 .ret))
theorem Wq_p {n:Nat} (ih_rule_holds_1:∀{k_:GTerm} {p_:List GKind} {p__:GFinding} {p___:GSpot} {y:Bool},FR_b n k_ p_ p__ p___=some y→ACall Tryz.prog 77 [GTerm.v k_,.ptr 1000 0,.ptr 1001 0,.ptr 1002 0] [(1000,.cells [.sl (p_.map GKind.v)]),(1001,.cells [.int .i64 p__.Kind,.int .u64 p__.Fingerprint,.sl (p__.Where.map GSpot.v)]),(1002,.cells [.int .i64 p___.Place.Source,.str p___.Place.Path,.int .i64 p___.Place.Time,.sl (p___.Layers.map GLayer.v),.int .i64 p___.From,.int .i64 p___.To])] (fun r H=>r=.bool y∧H=[(1000,.cells [.sl (p_.map GKind.v)]),(1001,.cells [.int .i64 p__.Kind,.int .u64 p__.Fingerprint,.sl (p__.Where.map GSpot.v)]),(1002,.cells [.int .i64 p___.Place.Source,.str p___.Place.Path,.int .i64 p___.Place.Time,.sl (p___.Layers.map GLayer.v),.int .i64 p___.From,.int .i64 p___.To])])) (ih_rule_holds_2:∀{k_:GTerm} {pc0_:List GKind} {pc1_:GFinding} {pc2_:GSpot} {y:Bool},FR_l n k_ pc0_ pc1_ pc2_=some y→ACall Tryz.prog 81 [GTerm.v k_,.ptr 1000 0] [(1000,.cells [.fn (.func 77) [.ptr 1001 0,.ptr 1002 0,.ptr 1003 0]]),(1001,.cells [.sl (pc0_.map GKind.v)]),(1002,.cells [.int .i64 pc1_.Kind,.int .u64 pc1_.Fingerprint,.sl (pc1_.Where.map GSpot.v)]),(1003,.cells [.int .i64 pc2_.Place.Source,.str pc2_.Place.Path,.int .i64 pc2_.Place.Time,.sl (pc2_.Layers.map GLayer.v),.int .i64 pc2_.From,.int .i64 pc2_.To])] (fun r H=>r=.bool y∧H=[(1000,.cells [.fn (.func 77) [.ptr 1001 0,.ptr 1002 0,.ptr 1003 0]]),(1001,.cells [.sl (pc0_.map GKind.v)]),(1002,.cells [.int .i64 pc1_.Kind,.int .u64 pc1_.Fingerprint,.sl (pc1_.Where.map GSpot.v)]),(1003,.cells [.int .i64 pc2_.Place.Source,.str pc2_.Place.Path,.int .i64 pc2_.Place.Time,.sl (pc2_.Layers.map GLayer.v),.int .i64 pc2_.From,.int .i64 pc2_.To])])) (ih_slices_IndexFunc_api_Term_api_Term_of_rule_holds_2:∀{s_:List GTerm} {fc0c0_:List GKind} {fc0c1_:GFinding} {fc0c2_:GSpot} {y:Int},FR_m n s_ fc0c0_ fc0c1_ fc0c2_=some y→ACall Tryz.prog 115 [.sl (s_.map GTerm.v),.fn (.func 81) [.ptr 1000 0]] [(1000,.cells [.fn (.func 77) [.ptr 1001 0,.ptr 1002 0,.ptr 1003 0]]),(1001,.cells [.sl (fc0c0_.map GKind.v)]),(1002,.cells [.int .i64 fc0c1_.Kind,.int .u64 fc0c1_.Fingerprint,.sl (fc0c1_.Where.map GSpot.v)]),(1003,.cells [.int .i64 fc0c2_.Place.Source,.str fc0c2_.Place.Path,.int .i64 fc0c2_.Place.Time,.sl (fc0c2_.Layers.map GLayer.v),.int .i64 fc0c2_.From,.int .i64 fc0c2_.To])] (fun r H=>r=.int .i64 y∧H=[(1000,.cells [.fn (.func 77) [.ptr 1001 0,.ptr 1002 0,.ptr 1003 0]]),(1001,.cells [.sl (fc0c0_.map GKind.v)]),(1002,.cells [.int .i64 fc0c1_.Kind,.int .u64 fc0c1_.Fingerprint,.sl (fc0c1_.Where.map GSpot.v)]),(1003,.cells [.int .i64 fc0c2_.Place.Source,.str fc0c2_.Place.Path,.int .i64 fc0c2_.Place.Time,.sl (fc0c2_.Layers.map GLayer.v),.int .i64 fc0c2_.From,.int .i64 fc0c2_.To])])) (ih_slices_ContainsFunc_api_Term_api_Term_of_rule_holds_2:∀{s_:List GTerm} {fc0c0_:List GKind} {fc0c1_:GFinding} {fc0c2_:GSpot} {y:Bool},FR_n n s_ fc0c0_ fc0c1_ fc0c2_=some y→ACall Tryz.prog 80 [.sl (s_.map GTerm.v),.fn (.func 81) [.ptr 1000 0]] [(1000,.cells [.fn (.func 77) [.ptr 1001 0,.ptr 1002 0,.ptr 1003 0]]),(1001,.cells [.sl (fc0c0_.map GKind.v)]),(1002,.cells [.int .i64 fc0c1_.Kind,.int .u64 fc0c1_.Fingerprint,.sl (fc0c1_.Where.map GSpot.v)]),(1003,.cells [.int .i64 fc0c2_.Place.Source,.str fc0c2_.Place.Path,.int .i64 fc0c2_.Place.Time,.sl (fc0c2_.Layers.map GLayer.v),.int .i64 fc0c2_.From,.int .i64 fc0c2_.To])] (fun r H=>r=.bool y∧H=[(1000,.cells [.fn (.func 77) [.ptr 1001 0,.ptr 1002 0,.ptr 1003 0]]),(1001,.cells [.sl (fc0c0_.map GKind.v)]),(1002,.cells [.int .i64 fc0c1_.Kind,.int .u64 fc0c1_.Fingerprint,.sl (fc0c1_.Where.map GSpot.v)]),(1003,.cells [.int .i64 fc0c2_.Place.Source,.str fc0c2_.Place.Path,.int .i64 fc0c2_.Place.Time,.sl (fc0c2_.Layers.map GLayer.v),.int .i64 fc0c2_.From,.int .i64 fc0c2_.To])])) (ih_slices_IndexFunc_api_Term_api_Term_of_rule_holds_1:∀{s_:List GTerm} {fc0_:List GKind} {fc1_:GFinding} {fc2_:GSpot} {y:Int},FR_o n s_ fc0_ fc1_ fc2_=some y→ACall Tryz.prog 115 [.sl (s_.map GTerm.v),.fn (.func 77) [.ptr 1000 0,.ptr 1001 0,.ptr 1002 0]] [(1000,.cells [.sl (fc0_.map GKind.v)]),(1001,.cells [.int .i64 fc1_.Kind,.int .u64 fc1_.Fingerprint,.sl (fc1_.Where.map GSpot.v)]),(1002,.cells [.int .i64 fc2_.Place.Source,.str fc2_.Place.Path,.int .i64 fc2_.Place.Time,.sl (fc2_.Layers.map GLayer.v),.int .i64 fc2_.From,.int .i64 fc2_.To])] (fun r H=>r=.int .i64 y∧H=[(1000,.cells [.sl (fc0_.map GKind.v)]),(1001,.cells [.int .i64 fc1_.Kind,.int .u64 fc1_.Fingerprint,.sl (fc1_.Where.map GSpot.v)]),(1002,.cells [.int .i64 fc2_.Place.Source,.str fc2_.Place.Path,.int .i64 fc2_.Place.Time,.sl (fc2_.Layers.map GLayer.v),.int .i64 fc2_.From,.int .i64 fc2_.To])])) (ih_slices_ContainsFunc_api_Term_api_Term_of_rule_holds_1:∀{s_:List GTerm} {fc0_:List GKind} {fc1_:GFinding} {fc2_:GSpot} {y:Bool},FR_p n s_ fc0_ fc1_ fc2_=some y→ACall Tryz.prog 80 [.sl (s_.map GTerm.v),.fn (.func 77) [.ptr 1000 0,.ptr 1001 0,.ptr 1002 0]] [(1000,.cells [.sl (fc0_.map GKind.v)]),(1001,.cells [.int .i64 fc1_.Kind,.int .u64 fc1_.Fingerprint,.sl (fc1_.Where.map GSpot.v)]),(1002,.cells [.int .i64 fc2_.Place.Source,.str fc2_.Place.Path,.int .i64 fc2_.Place.Time,.sl (fc2_.Layers.map GLayer.v),.int .i64 fc2_.From,.int .i64 fc2_.To])] (fun r H=>r=.bool y∧H=[(1000,.cells [.sl (fc0_.map GKind.v)]),(1001,.cells [.int .i64 fc1_.Kind,.int .u64 fc1_.Fingerprint,.sl (fc1_.Where.map GSpot.v)]),(1002,.cells [.int .i64 fc2_.Place.Source,.str fc2_.Place.Path,.int .i64 fc2_.Place.Time,.sl (fc2_.Layers.map GLayer.v),.int .i64 fc2_.From,.int .i64 fc2_.To])])) (ih_rule_holds:∀{c_:GTerm} {kinds_:List GKind} {f_:GFinding} {s_:GSpot} {y:Bool},FR_a n c_ kinds_ f_ s_=some y→ACall Tryz.prog 42 [GTerm.v c_,.sl (kinds_.map GKind.v),GFinding.v f_,GSpot.v s_] [] (fun r H=>r=.bool y∧H=[])) (s_:List GTerm) (fc0_:List GKind) (fc1_:GFinding) (fc2_:GSpot) {Q:Bool→Prop} {Q':V→Heap→Prop} (h:Ok (FR_p (n+1) s_ fc0_ fc1_ fc2_) Q) (hQ:∀z,Q z→Q' (.bool z) [(1000,.cells [.sl (fc0_.map GKind.v)]),(1001,.cells [.int .i64 fc1_.Kind,.int .u64 fc1_.Fingerprint,.sl (fc1_.Where.map GSpot.v)]),(1002,.cells [.int .i64 fc2_.Place.Source,.str fc2_.Place.Path,.int .i64 fc2_.Place.Time,.sl (fc2_.Layers.map GLayer.v),.int .i64 fc2_.From,.int .i64 fc2_.To])]):ACall Tryz.prog 80 [.sl (s_.map GTerm.v),.fn (.func 77) [.ptr 1000 0,.ptr 1001 0,.ptr 1002 0]] [(1000,.cells [.sl (fc0_.map GKind.v)]),(1001,.cells [.int .i64 fc1_.Kind,.int .u64 fc1_.Fingerprint,.sl (fc1_.Where.map GSpot.v)]),(1002,.cells [.int .i64 fc2_.Place.Source,.str fc2_.Place.Path,.int .i64 fc2_.Place.Time,.sl (fc2_.Layers.map GLayer.v),.int .i64 fc2_.From,.int .i64 fc2_.To])] Q':=by
 refine acallM mc_p [] [1000,1001,1002] [.t 4] Tryz.func80 fun M=>?_
 simp only [FR_p] at h
 unfold mc_p
 replace h:=tY h
 refine tB ?_
 repeat' (first
 | (exact tZ)
 | ((first|refine oblg h ?_|refine roomG h ?_|refine fork h ?_ ?_|refine forkS h ?_ ?_)<;>clear h<;>intro hc h)
 | (obtain ⟨y,hy,h⟩:=h;have hw:=ih_slices_IndexFunc_api_Term_api_Term_of_rule_holds_1 hy;replace hw:=tY hw;(first|refine M.sC hw ?_|refine M.sD hw ?_);clear hw hy;refine tB ?_)
 | (refine tE ?_;(first|rw [M.lok_compU]|rw [M.lokD_compU]);refine tB ?_)
 | (refine tA ?_)
 | fail)
@[irreducible] def mg_b:List MOp:=[gT 75 76 (.fad 5 (.t 7)),
 gT 75 77 (.ld none (.t 76)),
 gT 75 78 (.i2i false .u64 (.t 77)),
 gT 75 79 (.fad 4 (.t 7)),
 gT 75 80 (.ld none (.t 79)),
 gT 75 81 (.i2i false .u64 (.t 80)),
 gT 75 82 (.bin false .sub (.t 78) (.t 81)),
 gT 75 83 (.fad 2 (.t 4)),
 gT 75 84 (.ld none (.t 83)),
 gT 75 85 (.i2i false .u64 (.t 84)),
 gT 75 86 (.bin false .geq (.t 82) (.t 85)),
 mo (.pick (.t 75) (.t 86) (.c (.bool false))) 87]
def mc_a:MC :=
 (sR [mo (.box (.t 0)) 4,
 mo (.box (.t 1)) 5,
 mo (.box (.t 2)) 6,
 mo (.box (.t 3)) 7,
 mo (.mv (.c (.bool false))) 8]
 (sR [mo (.mkfn 77 [(.t 5),(.t 6),(.t 7)]) 10,
 mo (.alloc [.nilf]) 9,
 ⟨.st 1 (.t 9) (.t 10),none,none⟩]
 (.seq (sR [oF 0 4 11,
 oL 11 12]
 (.block 0
 (sR [mo (.bin false .eql (.t 12) (cI 1)) 14,
 oV 14 13]
 (.cond (.t 13)
 (.seq (.note (.gc [4,5,6,19,20,21,22,23,26,27,28,29,30,31,32,33,34]) (.regD [oF 0 6 15,
 oL 15 16,
 mo (.bin false .geq (.t 16) (cI 0)) 17,
 oV 17 18,
 gT 18 19 (.fad 0 (.t 6)),
 gT 18 20 (.ld none (.t 19)),
 gT 18 21 (.ld none (.t 5)),
 gT 18 22 (.len false (.t 21)),
 gT 18 23 (.bin false .lss (.t 20) (.t 22)),
 mo (.pick (.t 18) (.t 23) (.c (.bool false))) 24,
 oV 24 25,
 gT 25 26 (.ld none (.t 5)),
 gT 25 27 (.fad 0 (.t 6)),
 gT 25 28 (.ld none (.t 27)),
 gT 25 29 (.iad 11 (.t 26) (.t 28)),
 gT 25 30 (.fad 0 (.t 29)),
 gT 25 31 (.ld none (.t 30)),
 gT 25 32 (.fad 1 (.t 4)),
 gT 25 33 (.ld none (.t 32)),
 gT 25 34 (.bin false .eql (.t 31) (.t 33)),
 mo (.pick (.t 25) (.t 34) (.c (.bool false))) 35,
 oV 35 8]
 [[],[0],[1],[2],[3],[4,3],[3],[6,3],[5,7,3],[3,8],[9,3],[10],[10],[12,10],[11,13,10],[14,10],[15,10],[10],[17,10],[16,18,10],[10,19],[20,10,0,1,2,3,4,5,6,7,8,9,10,11,12,13,14,15,16,17,18,19,20]]
 [[],[0],[0,1],[0,1,2],[0,1,2,3],[0,1,2,3,4],[0,1,2,3],[0,1,2,3,6],[0,1,2,3,4,5,6,7],[0,1,2,3,4,5,6,7,8],[0,1,2,3,4,5,6,7,8,9],[0,1,2,3,4,5,6,7,8,9,10],[0,1,2,3,4,5,6,7,8,9,10],[0,1,2,3,4,5,6,7,8,9,10,12],[0,1,2,3,4,5,6,7,8,9,10,11,12,13],[0,1,2,3,4,5,6,7,8,9,10,11,12,13,14],[0,1,2,3,4,5,6,7,8,9,10,11,12,13,14,15],[0,1,2,3,4,5,6,7,8,9,10],[0,1,2,3,4,5,6,7,8,9,10,17],[0,1,2,3,4,5,6,7,8,9,10,11,12,13,14,15,16,17,18],[0,1,2,3,4,5,6,7,8,9,10,11,12,13,14,15,16,17,18,19],[0,1,2,3,4,5,6,7,8,9,10,11,12,13,14,15,16,17,18,19,20]]))
 .ret)
 (sR [mo (.bin false .eql (.t 12) (cI 2)) 37,
 oV 37 36]
 (.cond (.t 36)
 (.seq (.note (.gc [4,7]) (.reg [oF 0 7 38,
 oF 1 38 39,
 oL 39 40,
 oF 1 4 41,
 oL 41 42,
 mo (.call (.f 78) [(.t 40),(.t 42)] [] []) 43,
 oV 43 8]))
 .ret)
 (sR [mo (.bin false .eql (.t 12) (cI 3)) 45,
 oV 45 44]
 (.cond (.t 44)
 (.seq (.note (.gc [4,7]) (.reg [oF 0 7 46,
 oF 1 46 47,
 oL 47 48,
 oF 1 4 49,
 oL 49 50,
 mo (.call (.f 79) [(.t 48),(.t 50)] [] []) 51,
 oV 51 8]))
 .ret)
 (sR [mo (.bin false .eql (.t 12) (cI 4)) 53,
 oV 53 52]
 (.cond (.t 52)
 (.seq (.note (.gc [4,7]) (.reg [oF 0 7 54,
 oF 0 54 55,
 oL 55 56,
 oF 2 4 57,
 oL 57 58,
 mo (.bin false .eql (.t 56) (.t 58)) 59,
 oV 59 8]))
 .ret)
 (sR [mo (.bin false .eql (.t 12) (cI 5)) 61,
 oV 61 60]
 (.cond (.t 60)
 (.seq (.note (.gc [4,7]) (.reg [oF 3 7 62,
 oL 62 63,
 mo (.len false (.t 63)) 64,
 oF 2 4 65,
 oL 65 66,
 mo (.bin false .geq (.t 64) (.t 66)) 67,
 oV 67 8]))
 .ret)
 (sR [mo (.bin false .eql (.t 12) (cI 6)) 69,
 oV 69 68]
 (.cond (.t 68)
 (.seq (.note (.gc [4,7,76,77,78,79,80,81,82,83,84,85,86]) (.regI [.op (oF 5 7 70),
 .op (oL 70 71),
 .op (oF 4 7 72),
 .op (oL 72 73),
 .op (mo (.bin false .geq (.t 71) (.t 73)) 74),
 .op (oV 74 75),
 .grp mg_b,
 .op (oV 87 8)]))
 .ret)
 (sR [mo (.bin false .eql (.t 12) (cI 7)) 89,
 oV 89 88]
 (.cond (.t 88)
 (.seq (.note (.gc [4,6]) (.reg [oF 1 6 90,
 oL 90 91,
 oF 3 4 92,
 oL 92 93,
 mo (.bin false .eql (.t 91) (.t 93)) 94,
 oV 94 8]))
 .ret)
 (sR [mo (.bin false .eql (.t 12) (cI 8)) 96,
 oV 96 95]
 (.cond (.t 95)
 (.seq (.note (.gc [4,7]) (.reg [oF 0 7 97,
 oF 2 97 98,
 oL 98 99,
 oF 2 4 100,
 oL 100 101,
 mo (.bin false .lss (.t 99) (.t 101)) 102,
 oV 102 8]))
 .ret)
 (sR [mo (.bin false .eql (.t 12) (cI 9)) 104,
 oV 104 103]
 (.cond (.t 103)
 (.seq (.note (.gc [4,9]) (.regD [oL 9 105,
 oF 4 4 106,
 oL 106 107,
 mo (.iad 5 (.t 107) (cI 0)) 108,
 mo (.ld (some 5) (.t 108)) 109,
 mo (.call (.t 105) [(.t 109)] [5,6,7] []) 110,
 mo (.not (.t 110)) 111,
 oV 111 8]
 [[],[],[1],[2],[3],[0,4],[5],[6,5,0,1,2,3,4,5,6]]
 [[],[],[1],[1,2],[1,2,3],[0,1,2,3,4],[0,1,2,3,4,5],[0,1,2,3,4,5,6]]))
 .ret)
 (sR [mo (.bin false .eql (.t 12) (cI 10)) 113,
 oV 113 112]
 (.cond (.t 112)
 (.seq (.note (.gc [4,9]) (.reg [oF 4 4 114,
 oL 114 115,
 mo (.mkfn 81 [(.t 9)]) 116,
 mo (.call (.f 80) [(.t 115),(.t 116)] [9,5,6,7] []) 117,
 mo (.not (.t 117)) 118,
 oV 118 8]))
 .ret)
 .skip))))))))))))))))))))))
 (.seq (.note (.gc [4,9]) (.reg [oF 4 4 119,
 oL 119 120,
 oL 9 121,
 mo (.call (.f 80) [(.t 120),(.t 121)] [5,6,7] []) 122,
 oV 122 8]))
 .ret))))
theorem Wq_a {n:Nat} (ih_rule_holds_1:∀{k_:GTerm} {p_:List GKind} {p__:GFinding} {p___:GSpot} {y:Bool},FR_b n k_ p_ p__ p___=some y→ACall Tryz.prog 77 [GTerm.v k_,.ptr 1000 0,.ptr 1001 0,.ptr 1002 0] [(1000,.cells [.sl (p_.map GKind.v)]),(1001,.cells [.int .i64 p__.Kind,.int .u64 p__.Fingerprint,.sl (p__.Where.map GSpot.v)]),(1002,.cells [.int .i64 p___.Place.Source,.str p___.Place.Path,.int .i64 p___.Place.Time,.sl (p___.Layers.map GLayer.v),.int .i64 p___.From,.int .i64 p___.To])] (fun r H=>r=.bool y∧H=[(1000,.cells [.sl (p_.map GKind.v)]),(1001,.cells [.int .i64 p__.Kind,.int .u64 p__.Fingerprint,.sl (p__.Where.map GSpot.v)]),(1002,.cells [.int .i64 p___.Place.Source,.str p___.Place.Path,.int .i64 p___.Place.Time,.sl (p___.Layers.map GLayer.v),.int .i64 p___.From,.int .i64 p___.To])])) (ih_rule_holds_2:∀{k_:GTerm} {pc0_:List GKind} {pc1_:GFinding} {pc2_:GSpot} {y:Bool},FR_l n k_ pc0_ pc1_ pc2_=some y→ACall Tryz.prog 81 [GTerm.v k_,.ptr 1000 0] [(1000,.cells [.fn (.func 77) [.ptr 1001 0,.ptr 1002 0,.ptr 1003 0]]),(1001,.cells [.sl (pc0_.map GKind.v)]),(1002,.cells [.int .i64 pc1_.Kind,.int .u64 pc1_.Fingerprint,.sl (pc1_.Where.map GSpot.v)]),(1003,.cells [.int .i64 pc2_.Place.Source,.str pc2_.Place.Path,.int .i64 pc2_.Place.Time,.sl (pc2_.Layers.map GLayer.v),.int .i64 pc2_.From,.int .i64 pc2_.To])] (fun r H=>r=.bool y∧H=[(1000,.cells [.fn (.func 77) [.ptr 1001 0,.ptr 1002 0,.ptr 1003 0]]),(1001,.cells [.sl (pc0_.map GKind.v)]),(1002,.cells [.int .i64 pc1_.Kind,.int .u64 pc1_.Fingerprint,.sl (pc1_.Where.map GSpot.v)]),(1003,.cells [.int .i64 pc2_.Place.Source,.str pc2_.Place.Path,.int .i64 pc2_.Place.Time,.sl (pc2_.Layers.map GLayer.v),.int .i64 pc2_.From,.int .i64 pc2_.To])])) (ih_slices_IndexFunc_api_Term_api_Term_of_rule_holds_2:∀{s_:List GTerm} {fc0c0_:List GKind} {fc0c1_:GFinding} {fc0c2_:GSpot} {y:Int},FR_m n s_ fc0c0_ fc0c1_ fc0c2_=some y→ACall Tryz.prog 115 [.sl (s_.map GTerm.v),.fn (.func 81) [.ptr 1000 0]] [(1000,.cells [.fn (.func 77) [.ptr 1001 0,.ptr 1002 0,.ptr 1003 0]]),(1001,.cells [.sl (fc0c0_.map GKind.v)]),(1002,.cells [.int .i64 fc0c1_.Kind,.int .u64 fc0c1_.Fingerprint,.sl (fc0c1_.Where.map GSpot.v)]),(1003,.cells [.int .i64 fc0c2_.Place.Source,.str fc0c2_.Place.Path,.int .i64 fc0c2_.Place.Time,.sl (fc0c2_.Layers.map GLayer.v),.int .i64 fc0c2_.From,.int .i64 fc0c2_.To])] (fun r H=>r=.int .i64 y∧H=[(1000,.cells [.fn (.func 77) [.ptr 1001 0,.ptr 1002 0,.ptr 1003 0]]),(1001,.cells [.sl (fc0c0_.map GKind.v)]),(1002,.cells [.int .i64 fc0c1_.Kind,.int .u64 fc0c1_.Fingerprint,.sl (fc0c1_.Where.map GSpot.v)]),(1003,.cells [.int .i64 fc0c2_.Place.Source,.str fc0c2_.Place.Path,.int .i64 fc0c2_.Place.Time,.sl (fc0c2_.Layers.map GLayer.v),.int .i64 fc0c2_.From,.int .i64 fc0c2_.To])])) (ih_slices_ContainsFunc_api_Term_api_Term_of_rule_holds_2:∀{s_:List GTerm} {fc0c0_:List GKind} {fc0c1_:GFinding} {fc0c2_:GSpot} {y:Bool},FR_n n s_ fc0c0_ fc0c1_ fc0c2_=some y→ACall Tryz.prog 80 [.sl (s_.map GTerm.v),.fn (.func 81) [.ptr 1000 0]] [(1000,.cells [.fn (.func 77) [.ptr 1001 0,.ptr 1002 0,.ptr 1003 0]]),(1001,.cells [.sl (fc0c0_.map GKind.v)]),(1002,.cells [.int .i64 fc0c1_.Kind,.int .u64 fc0c1_.Fingerprint,.sl (fc0c1_.Where.map GSpot.v)]),(1003,.cells [.int .i64 fc0c2_.Place.Source,.str fc0c2_.Place.Path,.int .i64 fc0c2_.Place.Time,.sl (fc0c2_.Layers.map GLayer.v),.int .i64 fc0c2_.From,.int .i64 fc0c2_.To])] (fun r H=>r=.bool y∧H=[(1000,.cells [.fn (.func 77) [.ptr 1001 0,.ptr 1002 0,.ptr 1003 0]]),(1001,.cells [.sl (fc0c0_.map GKind.v)]),(1002,.cells [.int .i64 fc0c1_.Kind,.int .u64 fc0c1_.Fingerprint,.sl (fc0c1_.Where.map GSpot.v)]),(1003,.cells [.int .i64 fc0c2_.Place.Source,.str fc0c2_.Place.Path,.int .i64 fc0c2_.Place.Time,.sl (fc0c2_.Layers.map GLayer.v),.int .i64 fc0c2_.From,.int .i64 fc0c2_.To])])) (ih_slices_IndexFunc_api_Term_api_Term_of_rule_holds_1:∀{s_:List GTerm} {fc0_:List GKind} {fc1_:GFinding} {fc2_:GSpot} {y:Int},FR_o n s_ fc0_ fc1_ fc2_=some y→ACall Tryz.prog 115 [.sl (s_.map GTerm.v),.fn (.func 77) [.ptr 1000 0,.ptr 1001 0,.ptr 1002 0]] [(1000,.cells [.sl (fc0_.map GKind.v)]),(1001,.cells [.int .i64 fc1_.Kind,.int .u64 fc1_.Fingerprint,.sl (fc1_.Where.map GSpot.v)]),(1002,.cells [.int .i64 fc2_.Place.Source,.str fc2_.Place.Path,.int .i64 fc2_.Place.Time,.sl (fc2_.Layers.map GLayer.v),.int .i64 fc2_.From,.int .i64 fc2_.To])] (fun r H=>r=.int .i64 y∧H=[(1000,.cells [.sl (fc0_.map GKind.v)]),(1001,.cells [.int .i64 fc1_.Kind,.int .u64 fc1_.Fingerprint,.sl (fc1_.Where.map GSpot.v)]),(1002,.cells [.int .i64 fc2_.Place.Source,.str fc2_.Place.Path,.int .i64 fc2_.Place.Time,.sl (fc2_.Layers.map GLayer.v),.int .i64 fc2_.From,.int .i64 fc2_.To])])) (ih_slices_ContainsFunc_api_Term_api_Term_of_rule_holds_1:∀{s_:List GTerm} {fc0_:List GKind} {fc1_:GFinding} {fc2_:GSpot} {y:Bool},FR_p n s_ fc0_ fc1_ fc2_=some y→ACall Tryz.prog 80 [.sl (s_.map GTerm.v),.fn (.func 77) [.ptr 1000 0,.ptr 1001 0,.ptr 1002 0]] [(1000,.cells [.sl (fc0_.map GKind.v)]),(1001,.cells [.int .i64 fc1_.Kind,.int .u64 fc1_.Fingerprint,.sl (fc1_.Where.map GSpot.v)]),(1002,.cells [.int .i64 fc2_.Place.Source,.str fc2_.Place.Path,.int .i64 fc2_.Place.Time,.sl (fc2_.Layers.map GLayer.v),.int .i64 fc2_.From,.int .i64 fc2_.To])] (fun r H=>r=.bool y∧H=[(1000,.cells [.sl (fc0_.map GKind.v)]),(1001,.cells [.int .i64 fc1_.Kind,.int .u64 fc1_.Fingerprint,.sl (fc1_.Where.map GSpot.v)]),(1002,.cells [.int .i64 fc2_.Place.Source,.str fc2_.Place.Path,.int .i64 fc2_.Place.Time,.sl (fc2_.Layers.map GLayer.v),.int .i64 fc2_.From,.int .i64 fc2_.To])])) (ih_rule_holds:∀{c_:GTerm} {kinds_:List GKind} {f_:GFinding} {s_:GSpot} {y:Bool},FR_a n c_ kinds_ f_ s_=some y→ACall Tryz.prog 42 [GTerm.v c_,.sl (kinds_.map GKind.v),GFinding.v f_,GSpot.v s_] [] (fun r H=>r=.bool y∧H=[])) (c_:GTerm) (kinds_:List GKind) (f_:GFinding) (s_:GSpot) {Q:Bool→Prop} {Q':V→Heap→Prop} (h:Ok (FR_a (n+1) c_ kinds_ f_ s_) Q) (hQ:∀z,Q z→Q' (.bool z) []):ACall Tryz.prog 42 [GTerm.v c_,.sl (kinds_.map GKind.v),GFinding.v f_,GSpot.v s_] [] Q':=by
 refine acallM mc_a [] [] [.t 8] Tryz.func42 fun M=>?_
 simp only [FR_a] at h
 unfold mc_a
 replace h:=tY h
 refine tB ?_
 repeat' (first
 | (exact tZ)
 | ((first|refine oblg h ?_|refine roomG h ?_|refine fork h ?_ ?_|refine forkS h ?_ ?_)<;>clear h<;>intro hc h)
 | (obtain ⟨y,hy,h⟩:=h;(first|(with_reducible first|have hw:=Wq_12.w hy|have hw:=Wq_21.w hy)|have hw:=acall_swe 1002 7 (acall_swe 1001 6 (acall_swe 1000 5 (ih_rule_holds_1 hy)))|have hw:=acall_swe 1003 7 (acall_swe 1002 6 (acall_swe 1001 5 (acall_swe 1000 9 (ih_slices_ContainsFunc_api_Term_api_Term_of_rule_holds_2 hy))))|have hw:=acall_swe 1002 7 (acall_swe 1001 6 (acall_swe 1000 5 (ih_slices_ContainsFunc_api_Term_api_Term_of_rule_holds_1 hy))));replace hw:=tY hw;(first|refine M.sC hw ?_|refine M.sD hw ?_);clear hw hy;refine tB ?_)
 | (refine M.gj1 (ms:=mg_b) [] [] (fun y=>[(87,.bool y)]) (fun y=>[]) h ?_ ?_<;>first
 | (clear h;intro Qn K hK1 h;unfold mg_b;replace h:=tY h;refine tB ?_)
  |(clear h;intro y h;replace h:=tY h;refine tB ?_))
 | (refine hK1 _ ?_;(try refine tB ?_);refine ⟨_,h,?_⟩;exact tU0;done)
 | (refine tE ?_;(first|rw [M.lok_compU]|rw [M.lokD_compU]);refine tB ?_)
 | (refine tA ?_)
 | fail)
theorem WG_5y:∀n,(∀{k_:GTerm} {p_:List GKind} {p__:GFinding} {p___:GSpot} {y:Bool},FR_b n k_ p_ p__ p___=some y→ACall Tryz.prog 77 [GTerm.v k_,.ptr 1000 0,.ptr 1001 0,.ptr 1002 0] [(1000,.cells [.sl (p_.map GKind.v)]),(1001,.cells [.int .i64 p__.Kind,.int .u64 p__.Fingerprint,.sl (p__.Where.map GSpot.v)]),(1002,.cells [.int .i64 p___.Place.Source,.str p___.Place.Path,.int .i64 p___.Place.Time,.sl (p___.Layers.map GLayer.v),.int .i64 p___.From,.int .i64 p___.To])] (fun r H=>r=.bool y∧H=[(1000,.cells [.sl (p_.map GKind.v)]),(1001,.cells [.int .i64 p__.Kind,.int .u64 p__.Fingerprint,.sl (p__.Where.map GSpot.v)]),(1002,.cells [.int .i64 p___.Place.Source,.str p___.Place.Path,.int .i64 p___.Place.Time,.sl (p___.Layers.map GLayer.v),.int .i64 p___.From,.int .i64 p___.To])]))∧(∀{k_:GTerm} {pc0_:List GKind} {pc1_:GFinding} {pc2_:GSpot} {y:Bool},FR_l n k_ pc0_ pc1_ pc2_=some y→ACall Tryz.prog 81 [GTerm.v k_,.ptr 1000 0] [(1000,.cells [.fn (.func 77) [.ptr 1001 0,.ptr 1002 0,.ptr 1003 0]]),(1001,.cells [.sl (pc0_.map GKind.v)]),(1002,.cells [.int .i64 pc1_.Kind,.int .u64 pc1_.Fingerprint,.sl (pc1_.Where.map GSpot.v)]),(1003,.cells [.int .i64 pc2_.Place.Source,.str pc2_.Place.Path,.int .i64 pc2_.Place.Time,.sl (pc2_.Layers.map GLayer.v),.int .i64 pc2_.From,.int .i64 pc2_.To])] (fun r H=>r=.bool y∧H=[(1000,.cells [.fn (.func 77) [.ptr 1001 0,.ptr 1002 0,.ptr 1003 0]]),(1001,.cells [.sl (pc0_.map GKind.v)]),(1002,.cells [.int .i64 pc1_.Kind,.int .u64 pc1_.Fingerprint,.sl (pc1_.Where.map GSpot.v)]),(1003,.cells [.int .i64 pc2_.Place.Source,.str pc2_.Place.Path,.int .i64 pc2_.Place.Time,.sl (pc2_.Layers.map GLayer.v),.int .i64 pc2_.From,.int .i64 pc2_.To])]))∧(∀{s_:List GTerm} {fc0c0_:List GKind} {fc0c1_:GFinding} {fc0c2_:GSpot} {y:Int},FR_m n s_ fc0c0_ fc0c1_ fc0c2_=some y→ACall Tryz.prog 115 [.sl (s_.map GTerm.v),.fn (.func 81) [.ptr 1000 0]] [(1000,.cells [.fn (.func 77) [.ptr 1001 0,.ptr 1002 0,.ptr 1003 0]]),(1001,.cells [.sl (fc0c0_.map GKind.v)]),(1002,.cells [.int .i64 fc0c1_.Kind,.int .u64 fc0c1_.Fingerprint,.sl (fc0c1_.Where.map GSpot.v)]),(1003,.cells [.int .i64 fc0c2_.Place.Source,.str fc0c2_.Place.Path,.int .i64 fc0c2_.Place.Time,.sl (fc0c2_.Layers.map GLayer.v),.int .i64 fc0c2_.From,.int .i64 fc0c2_.To])] (fun r H=>r=.int .i64 y∧H=[(1000,.cells [.fn (.func 77) [.ptr 1001 0,.ptr 1002 0,.ptr 1003 0]]),(1001,.cells [.sl (fc0c0_.map GKind.v)]),(1002,.cells [.int .i64 fc0c1_.Kind,.int .u64 fc0c1_.Fingerprint,.sl (fc0c1_.Where.map GSpot.v)]),(1003,.cells [.int .i64 fc0c2_.Place.Source,.str fc0c2_.Place.Path,.int .i64 fc0c2_.Place.Time,.sl (fc0c2_.Layers.map GLayer.v),.int .i64 fc0c2_.From,.int .i64 fc0c2_.To])]))∧(∀{s_:List GTerm} {fc0c0_:List GKind} {fc0c1_:GFinding} {fc0c2_:GSpot} {y:Bool},FR_n n s_ fc0c0_ fc0c1_ fc0c2_=some y→ACall Tryz.prog 80 [.sl (s_.map GTerm.v),.fn (.func 81) [.ptr 1000 0]] [(1000,.cells [.fn (.func 77) [.ptr 1001 0,.ptr 1002 0,.ptr 1003 0]]),(1001,.cells [.sl (fc0c0_.map GKind.v)]),(1002,.cells [.int .i64 fc0c1_.Kind,.int .u64 fc0c1_.Fingerprint,.sl (fc0c1_.Where.map GSpot.v)]),(1003,.cells [.int .i64 fc0c2_.Place.Source,.str fc0c2_.Place.Path,.int .i64 fc0c2_.Place.Time,.sl (fc0c2_.Layers.map GLayer.v),.int .i64 fc0c2_.From,.int .i64 fc0c2_.To])] (fun r H=>r=.bool y∧H=[(1000,.cells [.fn (.func 77) [.ptr 1001 0,.ptr 1002 0,.ptr 1003 0]]),(1001,.cells [.sl (fc0c0_.map GKind.v)]),(1002,.cells [.int .i64 fc0c1_.Kind,.int .u64 fc0c1_.Fingerprint,.sl (fc0c1_.Where.map GSpot.v)]),(1003,.cells [.int .i64 fc0c2_.Place.Source,.str fc0c2_.Place.Path,.int .i64 fc0c2_.Place.Time,.sl (fc0c2_.Layers.map GLayer.v),.int .i64 fc0c2_.From,.int .i64 fc0c2_.To])]))∧(∀{s_:List GTerm} {fc0_:List GKind} {fc1_:GFinding} {fc2_:GSpot} {y:Int},FR_o n s_ fc0_ fc1_ fc2_=some y→ACall Tryz.prog 115 [.sl (s_.map GTerm.v),.fn (.func 77) [.ptr 1000 0,.ptr 1001 0,.ptr 1002 0]] [(1000,.cells [.sl (fc0_.map GKind.v)]),(1001,.cells [.int .i64 fc1_.Kind,.int .u64 fc1_.Fingerprint,.sl (fc1_.Where.map GSpot.v)]),(1002,.cells [.int .i64 fc2_.Place.Source,.str fc2_.Place.Path,.int .i64 fc2_.Place.Time,.sl (fc2_.Layers.map GLayer.v),.int .i64 fc2_.From,.int .i64 fc2_.To])] (fun r H=>r=.int .i64 y∧H=[(1000,.cells [.sl (fc0_.map GKind.v)]),(1001,.cells [.int .i64 fc1_.Kind,.int .u64 fc1_.Fingerprint,.sl (fc1_.Where.map GSpot.v)]),(1002,.cells [.int .i64 fc2_.Place.Source,.str fc2_.Place.Path,.int .i64 fc2_.Place.Time,.sl (fc2_.Layers.map GLayer.v),.int .i64 fc2_.From,.int .i64 fc2_.To])]))∧(∀{s_:List GTerm} {fc0_:List GKind} {fc1_:GFinding} {fc2_:GSpot} {y:Bool},FR_p n s_ fc0_ fc1_ fc2_=some y→ACall Tryz.prog 80 [.sl (s_.map GTerm.v),.fn (.func 77) [.ptr 1000 0,.ptr 1001 0,.ptr 1002 0]] [(1000,.cells [.sl (fc0_.map GKind.v)]),(1001,.cells [.int .i64 fc1_.Kind,.int .u64 fc1_.Fingerprint,.sl (fc1_.Where.map GSpot.v)]),(1002,.cells [.int .i64 fc2_.Place.Source,.str fc2_.Place.Path,.int .i64 fc2_.Place.Time,.sl (fc2_.Layers.map GLayer.v),.int .i64 fc2_.From,.int .i64 fc2_.To])] (fun r H=>r=.bool y∧H=[(1000,.cells [.sl (fc0_.map GKind.v)]),(1001,.cells [.int .i64 fc1_.Kind,.int .u64 fc1_.Fingerprint,.sl (fc1_.Where.map GSpot.v)]),(1002,.cells [.int .i64 fc2_.Place.Source,.str fc2_.Place.Path,.int .i64 fc2_.Place.Time,.sl (fc2_.Layers.map GLayer.v),.int .i64 fc2_.From,.int .i64 fc2_.To])]))∧(∀{c_:GTerm} {kinds_:List GKind} {f_:GFinding} {s_:GSpot} {y:Bool},FR_a n c_ kinds_ f_ s_=some y→ACall Tryz.prog 42 [GTerm.v c_,.sl (kinds_.map GKind.v),GFinding.v f_,GSpot.v s_] [] (fun r H=>r=.bool y∧H=[]))
 | 0=>⟨fun hy=>(by simp only [FR_b] at hy;cases hy),fun hy=>(by simp only [FR_l] at hy;cases hy),fun hy=>(by simp only [FR_m] at hy;cases hy),fun hy=>(by simp only [FR_n] at hy;cases hy),fun hy=>(by simp only [FR_o] at hy;cases hy),fun hy=>(by simp only [FR_p] at hy;cases hy),fun hy=>(by simp only [FR_a] at hy;cases hy)⟩
 | n+1=>by
  obtain ⟨ih_rule_holds_1,ih_rule_holds_2,ih_slices_IndexFunc_api_Term_api_Term_of_rule_holds_2,ih_slices_ContainsFunc_api_Term_api_Term_of_rule_holds_2,ih_slices_IndexFunc_api_Term_api_Term_of_rule_holds_1,ih_slices_ContainsFunc_api_Term_api_Term_of_rule_holds_1,ih_rule_holds⟩:=WG_5y n
  refine ⟨?_,?_,?_,?_,?_,?_,?_⟩
  ·exact fun hy=>Wq_b ih_rule_holds_1 ih_rule_holds_2 ih_slices_IndexFunc_api_Term_api_Term_of_rule_holds_2 ih_slices_ContainsFunc_api_Term_api_Term_of_rule_holds_2 ih_slices_IndexFunc_api_Term_api_Term_of_rule_holds_1 ih_slices_ContainsFunc_api_Term_api_Term_of_rule_holds_1 ih_rule_holds _ _ _ _ (Q:=(·=_)) ⟨_,hy,rfl⟩ fun|_,rfl=>⟨rfl,rfl⟩
  ·exact fun hy=>Wq_l ih_rule_holds_1 ih_rule_holds_2 ih_slices_IndexFunc_api_Term_api_Term_of_rule_holds_2 ih_slices_ContainsFunc_api_Term_api_Term_of_rule_holds_2 ih_slices_IndexFunc_api_Term_api_Term_of_rule_holds_1 ih_slices_ContainsFunc_api_Term_api_Term_of_rule_holds_1 ih_rule_holds _ _ _ _ (Q:=(·=_)) ⟨_,hy,rfl⟩ fun|_,rfl=>⟨rfl,rfl⟩
  ·exact fun hy=>Wq_m ih_rule_holds_1 ih_rule_holds_2 ih_slices_IndexFunc_api_Term_api_Term_of_rule_holds_2 ih_slices_ContainsFunc_api_Term_api_Term_of_rule_holds_2 ih_slices_IndexFunc_api_Term_api_Term_of_rule_holds_1 ih_slices_ContainsFunc_api_Term_api_Term_of_rule_holds_1 ih_rule_holds _ _ _ _ (Q:=(·=_)) ⟨_,hy,rfl⟩ fun|_,rfl=>⟨rfl,rfl⟩
  ·exact fun hy=>Wq_n ih_rule_holds_1 ih_rule_holds_2 ih_slices_IndexFunc_api_Term_api_Term_of_rule_holds_2 ih_slices_ContainsFunc_api_Term_api_Term_of_rule_holds_2 ih_slices_IndexFunc_api_Term_api_Term_of_rule_holds_1 ih_slices_ContainsFunc_api_Term_api_Term_of_rule_holds_1 ih_rule_holds _ _ _ _ (Q:=(·=_)) ⟨_,hy,rfl⟩ fun|_,rfl=>⟨rfl,rfl⟩
  ·exact fun hy=>Wq_o ih_rule_holds_1 ih_rule_holds_2 ih_slices_IndexFunc_api_Term_api_Term_of_rule_holds_2 ih_slices_ContainsFunc_api_Term_api_Term_of_rule_holds_2 ih_slices_IndexFunc_api_Term_api_Term_of_rule_holds_1 ih_slices_ContainsFunc_api_Term_api_Term_of_rule_holds_1 ih_rule_holds _ _ _ _ (Q:=(·=_)) ⟨_,hy,rfl⟩ fun|_,rfl=>⟨rfl,rfl⟩
  ·exact fun hy=>Wq_p ih_rule_holds_1 ih_rule_holds_2 ih_slices_IndexFunc_api_Term_api_Term_of_rule_holds_2 ih_slices_ContainsFunc_api_Term_api_Term_of_rule_holds_2 ih_slices_IndexFunc_api_Term_api_Term_of_rule_holds_1 ih_slices_ContainsFunc_api_Term_api_Term_of_rule_holds_1 ih_rule_holds _ _ _ _ (Q:=(·=_)) ⟨_,hy,rfl⟩ fun|_,rfl=>⟨rfl,rfl⟩
  ·exact fun hy=>Wq_a ih_rule_holds_1 ih_rule_holds_2 ih_slices_IndexFunc_api_Term_api_Term_of_rule_holds_2 ih_slices_ContainsFunc_api_Term_api_Term_of_rule_holds_2 ih_slices_IndexFunc_api_Term_api_Term_of_rule_holds_1 ih_slices_ContainsFunc_api_Term_api_Term_of_rule_holds_1 ih_rule_holds _ _ _ _ (Q:=(·=_)) ⟨_,hy,rfl⟩ fun|_,rfl=>⟨rfl,rfl⟩
theorem W_a:∀{c_:GTerm} {kinds_:List GKind} {f_:GFinding} {s_:GSpot} {y:Bool},F_a c_ kinds_ f_ s_=some y→ACall Tryz.prog 42 [GTerm.v c_,.sl (kinds_.map GKind.v),GFinding.v f_,GSpot.v s_] [] (fun r H=>r=.bool y∧H=[]):=fun hy=>by
 obtain ⟨n,hn⟩:=lim_inv hy
 exact (WG_5y n).2.2.2.2.2.2 hn
def F_2c (k71:Int) (a72:UInt8) (x70:Unit):Option (Fl Unit Bool) :=
 grp ((decide ((a72.toNat:Int)<97)||decide (122<(a72.toNat:Int)))) fun b94=>grp ((b94&&(decide ((a72.toNat:Int)<48)||decide (57<(a72.toNat:Int))))) fun b95=>grp ((b95&&(!decide ((a72.toNat:Int)=45)))) fun b96=>bif b96 then some (.ex false) else some (.nx ())
def F_1j (s_:Str):Option Bool :=
 (forL F_2c s_ 0 ()).bind fun o=>o.elim (fun x97=>grp ((decide (1≤(s_.length:Int))&&decide ((s_.length:Int)≤40))) fun b100=>some b100) (fun r98=>some r98)
@[irreducible] def mg_3i:List MOp:=[gF 14 15 (.mv (.t 4)),
 gF 14 16 (.bin false .gtr (.t 15) (.c (.int .u8 122))),
 mo (.pick (.t 14) (.c (.bool true)) (.t 16)) 17]
@[irreducible] def mg_3j:List MOp:=[gT 18 19 (.mv (.t 4)),
 gT 18 20 (.bin false .lss (.t 19) (.c (.int .u8 48))),
 gT 18 21 (.mv (.t 20)),
 gF 21 22 (.mv (.t 4)),
 gF 21 23 (.bin false .gtr (.t 22) (.c (.int .u8 57))),
 gT 18 24 (.pick (.t 21) (.c (.bool true)) (.t 23)),
 mo (.pick (.t 18) (.t 24) (.c (.bool false))) 25]
@[irreducible] def mg_3k:List MOp:=[gT 26 27 (.mv (.t 4)),
 gT 26 28 (.bin false .neq (.t 27) (.c (.int .u8 45))),
 mo (.pick (.t 26) (.t 28) (.c (.bool false))) 29]
@[irreducible] def mc_2c:MC :=
 (sR [mo (.bin false .lss (.t 8) (.t 7)) 9]
 (.seq (.cond (.t 9)
 .skip
 (.exit 0))
 (.seq (.block 1
 (sR [mo (.iad 1 (.t 6) (.t 8)) 10,
 oL 10 11,
 oV 11 4]
 (.seq (.regI [.op (oV 4 12),
 .op (mo (.bin false .lss (.t 12) (.c (.int .u8 97))) 13),
 .op (oV 13 14),
 .grp mg_3i,
 .op (oV 17 18),
 .grp mg_3j,
 .op (oV 25 26),
 .grp mg_3k])
 (.cond (.t 29)
 (sR [mo (.mv (.c (.bool false))) 2]
 .ret)
 .skip))))
 (.reg [mo (.bin true .add (.t 8) (cI 1)) 30,
 oV 30 8]))))
@[irreducible] def mg_3l:List MOp:=[gT 34 35 (.mv (.t 0)),
 gT 34 36 (.len true (.t 35)),
 gT 34 37 (.bin false .leq (.t 36) (cI 40)),
 mo (.pick (.t 34) (.t 37) (.c (.bool false))) 38]
def mc_1j:MC :=
 (sR [mo (.mv (.c (.bool false))) 2]
 (.seq (sR [oV 0 5,
 mo (.s2b (.t 5)) 6,
 mo (.len false (.t 6)) 7,
 oC 0 8]
 (.block 0
 (.loop mc_2c)))
 (.seq (.regI [.op (oV 0 31),
 .op (mo (.len true (.t 31)) 32),
 .op (mo (.bin false .geq (.t 32) (cI 1)) 33),
 .op (oV 33 34),
 .grp mg_3l,
 .op (oV 38 2)])
 .ret)))
theorem Wq_1j {s_:Str}:Cn Tryz.prog 95 [.str s_] [] (F_1j s_) (fun z=>.bool z) (fun z=>[]):=fun Q Q' h hQ=>by
 refine acallM mc_1j [] [] [.t 2] Tryz.func95 fun M=>?_
 unfold F_1j at h
 unfold mc_1j
 replace h:=tY h
 refine tB ?_
 repeat' (first
 | (exact tZ)
 | ((first|refine oblg h ?_|refine roomG h ?_|refine fork h ?_ ?_|refine forkS h ?_ ?_)<;>clear h<;>intro hc h)
 | (refine M.gv1 (ms:=mg_3k) 29 [27,28] h ?_ ?_<;>first
 | (clear h;intro K hK1;unfold mg_3k;refine tB ?_)
 | (clear h;intro b h;replace h:=tY h;refine tB ?_))
 | (refine M.gv1 (ms:=mg_3j) 25 [19,20,21,22,23,24] h ?_ ?_<;>first
 | (clear h;intro K hK2;unfold mg_3j;refine tB ?_)
 | (clear h;intro b h;replace h:=tY h;refine tB ?_))
 | (refine M.gv1 (ms:=mg_3i) 17 [15,16] h ?_ ?_<;>first
 | (clear h;intro K hK3;unfold mg_3i;refine tB ?_)
 | (clear h;intro b h;replace h:=tY h;refine tB ?_))
 | (refine M.for1 (b:=mc_2c) 8 [0,6,7] [6] (fun x=>[]) (fun x=>[]) [] h ?_ ?_ ?_<;>first
 | (clear h;intro k a x Qn K hK4 hkN4 ha4 h hf;have hl:=fact_int (factsE_find (n:=7) hf.1 rfl);clear hf;have hkd:=kD hkN4;have hkB4:=kB hkN4;have hkI4:=kI (k:=k) (by omega);unfold F_2c at h;unfold mc_2c;replace h:=tY h;refine tK ha4 hkd hkN4 hkB4 hkI4 ?_)
  |(clear h;intro x K h;replace h:=And.left (And.intro h trivial);unfold mc_2c;replace h:=tY h;refine tB ?_)
  |(clear h;(try refine tB ?_);exact tU0;done))
 | (refine M.gv1 (ms:=mg_3l) 38 [35,36,37] h ?_ ?_<;>first
 | (clear h;intro K hK5;unfold mg_3l;refine tB ?_)
 | (clear h;intro b h;replace h:=tY h;refine tB ?_))
 | (simp only [ha4])
 | ((first|refine hK1 _ ?_|refine hK2 _ ?_|refine hK3 _ ?_|refine hK5 _ ?_);exact tU;done)
 | (refine hK4 _ ?_;(try refine tB ?_);refine ⟨_,h,?_⟩;exact tU0;done)
 | (refine bfork (fun hc=>?_) (fun hc=>?_))
 | (refine tE ?_;(first|rw [M.lok_compU]|rw [M.lokD_compU]);refine tB ?_)
 | (refine tA ?_)
 | fail)
noncomputable def F_1c (r_:GRule):Option Int :=
 (F_1j r_.Name).bind fun y4=>bif (!y4) then some 4 else (F_1a r_.When).bind fun y8=>bif (!decide (y8=0)) then some y8 else grp (((!decide (r_.Verdict=1))&&(!decide (r_.Verdict=2)))) fun b12=>bif b12 then some 1 else some 0
@[irreducible] def mg_3m:List MOp:=[gT 17 18 (.fad 6 (.t 1)),
 gT 17 19 (.ld none (.t 18)),
 gT 17 20 (.bin false .neq (.t 19) (cI 2)),
 mo (.pick (.t 17) (.t 20) (.c (.bool false))) 21]
def mc_1c:MC :=
 (sR [mo (.box (.t 0)) 1,
 oC 0 2]
 (.seq (sR [oF 0 1 4,
 oL 4 5,
 mo (.call (.f 95) [(.t 5)] [] []) 6,
 mo (.not (.t 6)) 7]
 (.cond (.t 7)
 (sR [oC 4 2]
 .ret)
 .skip))
 (.seq (sR [oF 1 1 8,
 mo (.ld (some 5) (.t 8)) 9,
 mo (.call (.f 41) [(.t 9)] [] []) 10,
 oV 10 3]
 (sR [oV 3 11,
 mo (.bin false .neq (.t 11) (cI 0)) 12]
 (.cond (.t 12)
 (sR [oV 3 13,
 oV 13 2]
 .ret)
 .skip)))
 (.seq (.seq (.note (.gc [1,18,19,20]) (.regI [.op (oF 6 1 14),
 .op (oL 14 15),
 .op (mo (.bin false .neq (.t 15) (cI 1)) 16),
 .op (oV 16 17),
 .grp mg_3m]))
 (.cond (.t 21)
 (sR [oC 1 2]
 .ret)
 .skip))
 (sR [oC 0 2]
 .ret)))))
theorem Wq_1c {r_:GRule}:Cn Tryz.prog 59 [GRule.v r_] [] (F_1c r_) (fun z=>.int .i64 z) (fun z=>[]):=fun Q Q' h hQ=>by
 refine acallM mc_1c [] [] [.t 2] Tryz.func59 fun M=>?_
 unfold F_1c at h
 unfold mc_1c
 replace h:=tY h
 refine tB ?_
 repeat' (first
 | (exact tZ)
 | ((first|refine oblg h ?_|refine roomG h ?_|refine fork h ?_ ?_|refine forkS h ?_ ?_)<;>clear h<;>intro hc h)
 | (obtain ⟨y,hy,h⟩:=h;(first|with_reducible first|have hw:=Wq_1j.w hy|have hw:=Wq_1a.w hy);replace hw:=tY hw;(first|refine M.sC hw ?_|refine M.sD hw ?_);clear hw hy;refine tB ?_)
 | (refine M.gv1 (ms:=mg_3m) 21 [18,19,20] h ?_ ?_<;>first
 | (clear h;intro K hK1;unfold mg_3m;refine tB ?_)
 | (clear h;intro b h;replace h:=tY h;refine tB ?_))
 | (refine hK1 _ ?_;exact tU;done)
 | (refine bfork (fun hc=>?_) (fun hc=>?_))
 | (refine tE ?_;(first|rw [M.lok_compU]|rw [M.lokD_compU]);refine tB ?_)
 | (refine tA ?_)
 | fail)
def F_22 (o_:GRule) (p_:GRule):Option Bool :=
 some (decide (o_.Name=p_.Name))
def mc_22:MC :=
 (sR [mo (.box (.t 0)) 2,
 mo (.mv (.c (.bool false))) 3]
 (sR [oF 0 2 4,
 oL 4 5,
 oF 0 1 6,
 oL 6 7,
 mo (.bin false .eql (.t 5) (.t 7)) 8,
 oV 8 3]
 .ret))
theorem Wq_22 {o_ p_:GRule}:Cn Tryz.prog 61 [GRule.v o_,.ptr 1000 0] [(1000,.cells [.str p_.Name,.int .i64 p_.When.Op,.str p_.When.Text,.int .i64 p_.When.Number,.int .u64 p_.When.Print,.sl (p_.When.Kids.map GTerm.v),.int .i64 p_.Verdict])] (F_22 o_ p_) (fun z=>.bool z) (fun z=>[(1000,.cells [.str p_.Name,.int .i64 p_.When.Op,.str p_.When.Text,.int .i64 p_.When.Number,.int .u64 p_.When.Print,.sl (p_.When.Kids.map GTerm.v),.int .i64 p_.Verdict])]):=fun Q Q' h hQ=>by
 refine acallM mc_22 [] [1000] [.t 3] Tryz.func61 fun M=>?_
 unfold F_22 at h
 unfold mc_22
 replace h:=tY h
 refine tB ?_
 repeat' (first
 | (exact tZ)
 | ((first|refine oblg h ?_|refine roomG h ?_|refine fork h ?_ ?_|refine forkS h ?_ ?_)<;>clear h<;>intro hc h)
 | (refine tE ?_;(first|rw [M.lok_compU]|rw [M.lokD_compU]);refine tB ?_)
 | (refine tA ?_)
 | fail)
def F_23 (fc0_:GRule) (k31:Int) (a32:GRule) (x30:Unit):Option (Fl Unit Int) :=
 (F_22 a32 fc0_).bind fun y40=>bif y40 then some (.ex k31) else some (.nx ())
def F_2d (s_:List GRule) (fc0_:GRule):Option Int :=
 (forL (F_23 fc0_) s_ 0 ()).bind fun o=>o.elim (fun x41=>some (-1)) (fun r42=>some r42)
@[irreducible] def mc_23:MC :=
 (sR [mo (.bin false .lss (.t 8) (.t 7)) 9]
 (.seq (.cond (.t 9)
 .skip
 (.exit 0))
 (.seq (.block 1
 (sR [oV 8 10,
 oV 10 5]
 (sR [oV 1 11,
 oV 0 12,
 oV 5 13,
 mo (.iad 7 (.t 12) (.t 13)) 14,
 mo (.ld (some 7) (.t 14)) 15,
 mo (.call (.t 11) [(.t 15)] [1000] []) 16]
 (.cond (.t 16)
 (sR [oV 5 17,
 oV 17 4]
 .ret)
 .skip))))
 (.reg [mo (.bin true .add (.t 8) (cI 1)) 18,
 oV 18 8]))))
def mc_2d:MC :=
 (sR [oC 0 4]
 (.seq (sR [oV 0 6,
 mo (.len false (.t 6)) 7,
 oC 0 8]
 (.block 0
 (.loop mc_23)))
 (sR [oC (-1) 4]
 .ret)))
theorem Wq_2d {s_:List GRule} {fc0_:GRule}:Cn Tryz.prog 70 [.sl (s_.map GRule.v),.fn (.func 61) [.ptr 1000 0]] [(1000,.cells [.str fc0_.Name,.int .i64 fc0_.When.Op,.str fc0_.When.Text,.int .i64 fc0_.When.Number,.int .u64 fc0_.When.Print,.sl (fc0_.When.Kids.map GTerm.v),.int .i64 fc0_.Verdict])] (F_2d s_ fc0_) (fun z=>.int .i64 z) (fun z=>[(1000,.cells [.str fc0_.Name,.int .i64 fc0_.When.Op,.str fc0_.When.Text,.int .i64 fc0_.When.Number,.int .u64 fc0_.When.Print,.sl (fc0_.When.Kids.map GTerm.v),.int .i64 fc0_.Verdict])]):=fun Q Q' h hQ=>by
 refine acallM mc_2d [] [1000] [.t 4] Tryz.func70 fun M=>?_
 unfold F_2d at h
 unfold mc_2d
 replace h:=tY h
 refine tB ?_
 repeat' (first
 | (exact tZ)
 | ((first|refine oblg h ?_|refine roomG h ?_|refine fork h ?_ ?_|refine forkS h ?_ ?_)<;>clear h<;>intro hc h)
 | (obtain ⟨y,hy,h⟩:=h;have hw:=Wq_22.w hy;replace hw:=tY hw;(first|refine M.sC hw ?_|refine M.sD hw ?_);clear hw hy;refine tB ?_)
 | (refine M.for1 (b:=mc_23) 8 [0,1,7] [1000] (fun x=>[]) (fun x=>[]) [] h ?_ ?_ ?_<;>first
 | (clear h;intro k a x Qn K hK1 hkN1 ha1 h hf;have hl:=fact_int (factsE_find (n:=7) hf.1 rfl);clear hf;have hkd:=kD hkN1;have hkB1:=kB hkN1;have hkI1:=kI (k:=k) (by omega);unfold F_23 at h;unfold mc_23;replace h:=tY h;refine tK ha1 hkd hkN1 hkB1 hkI1 ?_)
  |(clear h;intro x K h;replace h:=And.left (And.intro h trivial);unfold mc_23;replace h:=tY h;refine tB ?_)
  |(clear h;(try refine tB ?_);exact tU0;done))
 | (simp only [ha1])
 | (refine hK1 _ ?_;(try refine tB ?_);refine ⟨_,h,?_⟩;exact tU0;done)
 | (refine tE ?_;(first|rw [M.lok_compU]|rw [M.lokD_compU]);refine tB ?_)
 | (refine tA ?_)
 | fail)
def F_1o (s_:List GRule) (fc0_:GRule):Option Bool :=
 (F_2d s_ fc0_).bind fun y2=>some (decide (0≤y2))
def mc_1o:MC :=
 (sR [mo (.mv (.c (.bool false))) 4]
 (sR [oV 0 5,
 oV 1 6,
 mo (.call (.f 70) [(.t 5),(.t 6)] [1000] []) 7,
 mo (.bin false .geq (.t 7) (cI 0)) 8,
 oV 8 4]
 .ret))
theorem Wq_1o {s_:List GRule} {fc0_:GRule}:Cn Tryz.prog 60 [.sl (s_.map GRule.v),.fn (.func 61) [.ptr 1000 0]] [(1000,.cells [.str fc0_.Name,.int .i64 fc0_.When.Op,.str fc0_.When.Text,.int .i64 fc0_.When.Number,.int .u64 fc0_.When.Print,.sl (fc0_.When.Kids.map GTerm.v),.int .i64 fc0_.Verdict])] (F_1o s_ fc0_) (fun z=>.bool z) (fun z=>[(1000,.cells [.str fc0_.Name,.int .i64 fc0_.When.Op,.str fc0_.When.Text,.int .i64 fc0_.When.Number,.int .u64 fc0_.When.Print,.sl (fc0_.When.Kids.map GTerm.v),.int .i64 fc0_.Verdict])]):=fun Q Q' h hQ=>by
 refine acallM mc_1o [] [1000] [.t 4] Tryz.func60 fun M=>?_
 unfold F_1o at h
 unfold mc_1o
 replace h:=tY h
 refine tB ?_
 repeat' (first
 | (exact tZ)
 | ((first|refine oblg h ?_|refine roomG h ?_|refine fork h ?_ ?_|refine forkS h ?_ ?_)<;>clear h<;>intro hc h)
 | (obtain ⟨y,hy,h⟩:=h;have hw:=Wq_2d.w hy;replace hw:=tY hw;(first|refine M.sC hw ?_|refine M.sD hw ?_);clear hw hy;refine tB ?_)
 | (refine tE ?_;(first|rw [M.lok_compU]|rw [M.lokD_compU]);refine tB ?_)
 | (refine tA ?_)
 | fail)
noncomputable def F_1k (k31:Int) (a32:GRule) (x30:Unit):Option (Fl Unit Int) :=
 (F_1c a32).bind fun y40=>bif (!decide (y40=0)) then some (.ex y40) else some (.nx ())
noncomputable def F_1l (l_:List GRule) (k73:Int) (a74:GRule) (x72:Unit):Option (Fl Unit Int) :=
 chk (inc 0 k73 l_.length) ((F_1o (l_.take ((k73).toNat)) a74).bind fun y82=>bif y82 then some (.ex 7) else some (.nx ()))
noncomputable def F_x (l_:List GRule):Option Int :=
 bif decide (40<(l_.length:Int)) then some 3 else (forL F_1k l_ 0 ()).bind fun o=>o.elim (fun x41=>(forL (F_1l l_) l_ 0 ()).bind fun o=>o.elim (fun x83=>some 0) (fun r84=>some r84)) (fun r42=>some r42)
@[irreducible] def mc_1k:MC :=
 (sR [mo (.bin false .lss (.t 13) (.t 12)) 14]
 (.seq (.cond (.t 14)
 .skip
 (.exit 0))
 (.seq (.block 1
 (sR [mo (.iad 7 (.t 11) (.t 13)) 15,
 mo (.ld (some 7) (.t 15)) 16,
 mo (.alloc [(.str []),(.int .i64 0),(.str []),(.int .i64 0),(.int .u64 0),(.sl []),(.int .i64 0)]) 4,
 ⟨.st 7 (.t 4) (.t 16),none,none⟩]
 (sR [mo (.ld (some 7) (.t 4)) 17,
 mo (.call (.f 59) [(.t 17)] [] []) 18,
 oV 18 5]
 (sR [oV 5 19,
 mo (.bin false .neq (.t 19) (cI 0)) 20]
 (.cond (.t 20)
 (sR [oV 5 21,
 oV 21 2]
 .ret)
 .skip)))))
 (.reg [mo (.bin true .add (.t 13) (cI 1)) 22,
 oV 22 13]))))
@[irreducible] def mc_1l:MC :=
 (sR [mo (.bin false .lss (.t 25) (.t 24)) 26]
 (.seq (.cond (.t 26)
 .skip
 (.exit 2))
 (.seq (.block 3
 (sR [oV 25 27,
 mo (.iad 7 (.t 23) (.t 25)) 28,
 mo (.ld (some 7) (.t 28)) 29,
 mo (.alloc [(.str []),(.int .i64 0),(.str []),(.int .i64 0),(.int .u64 0),(.sl []),(.int .i64 0)]) 7,
 oV 27 6,
 ⟨.st 7 (.t 7) (.t 29),none,none⟩]
 (sR [oV 0 30,
 oV 6 31,
 mo (.slc 7 (.t 30) none (some (.t 31))) 32,
 mo (.mkfn 61 [(.t 7)]) 33,
 mo (.call (.f 60) [(.t 32),(.t 33)] [7] []) 34]
 (.cond (.t 34)
 (sR [oC 7 2]
 .ret)
 .skip))))
 (.reg [mo (.bin true .add (.t 25) (cI 1)) 35,
 oV 35 25]))))
def mc_x:MC :=
 (sR [oC 0 2]
 (.seq (sR [oV 0 8,
 mo (.len false (.t 8)) 9,
 mo (.bin false .gtr (.t 9) (cI 40)) 10]
 (.cond (.t 10)
 (sR [oC 3 2]
 .ret)
 .skip))
 (.seq (sR [oV 0 11,
 mo (.len false (.t 11)) 12,
 oC 0 13]
 (.block 0
 (.loop mc_1k)))
 (.seq (sR [oV 0 23,
 mo (.len false (.t 23)) 24,
 oC 0 25]
 (.block 2
 (.loop mc_1l)))
 (sR [oC 0 2]
 .ret)))))
theorem Wq_x {l_:List GRule}:Cn Tryz.prog 33 [.sl (l_.map GRule.v)] [] (F_x l_) (fun z=>.int .i64 z) (fun z=>[]):=fun Q Q' h hQ=>by
 refine acallM mc_x [] [] [.t 2] Tryz.func33 fun M=>?_
 unfold F_x at h
 unfold mc_x
 replace h:=tY h
 refine tB ?_
 repeat' (first
 | (exact tZ)
 | ((first|refine oblg h ?_|refine roomG h ?_|refine fork h ?_ ?_|refine forkS h ?_ ?_)<;>clear h<;>intro hc h)
 | (obtain ⟨y,hy,h⟩:=h;(first|(with_reducible first|have hw:=Wq_1c.w hy)|have hw:=acall_swe 1000 7 (Wq_1o.w hy));replace hw:=tY hw;(first|refine M.sC hw ?_|refine M.sD hw ?_);clear hw hy;refine tB ?_)
 | (refine M.for1 (b:=mc_1k) 13 [0,11,12] [] (fun x=>[]) (fun x=>[]) [] h ?_ ?_ ?_<;>first
 | (clear h;intro k a x Qn K hK1 hkN1 ha1 h hf;have hl:=fact_int (factsE_find (n:=12) hf.1 rfl);clear hf;have hkd:=kD hkN1;have hkB1:=kB hkN1;have hkI1:=kI (k:=k) (by omega);unfold F_1k at h;unfold mc_1k;replace h:=tY h;refine tK ha1 hkd hkN1 hkB1 hkI1 ?_)
  |(clear h;intro x K h;replace h:=And.left (And.intro h trivial);unfold mc_1k;replace h:=tY h;refine tB ?_)
  |(clear h;(try refine tB ?_);exact tU0;done))
 | (refine M.for1 (b:=mc_1l) 25 [0,23,24] [] (fun x=>[]) (fun x=>[]) [] h ?_ ?_ ?_<;>first
 | (clear h;intro k a x Qn K hK2 hkN2 ha2 h hf;have hl:=fact_int (factsE_find (n:=24) hf.1 rfl);clear hf;have hkd:=kD hkN2;have hkB2:=kB hkN2;have hkI2:=kI (k:=k) (by omega);unfold F_1l at h;unfold mc_1l;replace h:=tY h;refine tK ha2 hkd hkN2 hkB2 hkI2 ?_)
  |(clear h;intro x K h;replace h:=And.left (And.intro h trivial);unfold mc_1l;replace h:=tY h;refine tB ?_)
  |(clear h;(try refine tB ?_);exact tU0;done))
 | (first|simp only [ha1]|simp only [ha2])
 | ((first|refine hK1 _ ?_|refine hK2 _ ?_);(try refine tB ?_);refine ⟨_,h,?_⟩;exact tU0;done)
 | (refine tE ?_;(first|rw [M.lok_compU]|rw [M.lokD_compU]);refine tB ?_)
 | (refine tA ?_)
 | fail)
end Go.Ab
