/- What the functions of this seat that lie on the laws' road compute (part LA), each for every input. By AI agents. -/
import Derived.Test.YtgbaffbfggjmgaaGreatDoorProg
import Derived.KernelRfl
import Derived.Test.YtgbaffbfggjmgaaGreatDoorAbFun
import Derived.Test.YtgbaffbfggjmgaaGreatDoorLN
set_option linter.all false
set_option linter.all false
set_option maxRecDepth 20000
set_option maxHeartbeats 2000000
namespace Go.Ab
open Go.Proofs
structure GRange where
 Low:UInt8
 High:UInt8
instance:Inhabited GRange:=⟨⟨default,default⟩⟩
def GRange.v (x:GRange):V:=.agg [byteV x.Low,byteV x.High]
structure GNode where
 Op:Int
 Ranges:List GRange
 Kids:List GNode
 Min:Int
 Max:Int
instance:Inhabited GNode:=⟨⟨default,[],[],default,default⟩⟩
mutual
def GNode.w:GNode→V
 | ⟨x_Op,x_Ranges,x_Kids,x_Min,x_Max⟩=>.agg [.int .i64 x_Op,.sl (x_Ranges.map GRange.v),.sl (GNode.vs x_Kids),.int .i64 x_Min,.int .i64 x_Max]
def GNode.vs:List GNode→List V
 | []=>[]
 | a::r=>GNode.w a::GNode.vs r
end
def GNode.v (x:GNode):V:=.agg [.int .i64 x.Op,.sl (x.Ranges.map GRange.v),.sl (GNode.vs x.Kids),.int .i64 x.Min,.int .i64 x.Max]
theorem GNode.w_eq (x:GNode):x.w=x.v:=by cases x;simp only [GNode.w,GNode.v]
theorem GNode.vs_eq:∀l:List GNode,GNode.vs l=l.map GNode.v
 | []=>by simp only [GNode.vs,List.map_nil]
 | a::r=>by simp only [GNode.vs,List.map_cons,GNode.w_eq,GNode.vs_eq r]
theorem GNode.v_eq (x:GNode):x.v=.agg [.int .i64 x.Op,.sl (x.Ranges.map GRange.v),.sl (x.Kids.map GNode.v),.int .i64 x.Min,.int .i64 x.Max]:=by
 simp only [GNode.v,GNode.vs_eq]
theorem dlt {a:Int}:decide (a<a)=false:=by simp
attribute [go_sem] Mach.b2s_set Mach.b2s_setD byte_x4 rngb_i32 rngb_u32 rngb_u64 rngb_i16 rngb_u16 byteV beq_self_eq_true Int.cast_ofNat_Int List.take_succ_cons List.take_zero List.drop_succ_cons List.cons_append List.nil_append putPs pinH wrap_u8 rng64 inb_and inc_and room_and roomI_and divs_and shok_and64 rep_u rep_ll mget_i mget_s mput_i mput_s mdel_i mdel_s lk_b lk_i lk_s lk_l lkt_b' lkt_i' lkt_s' lkt_l' rep_b rep_i ovS ovE ovU patO filt filtH dropE stepNs atEndN shqs shq1 V.oids V.oidsL V.tr V.trL trE trH Obj'.tr true_implies false_implies Bool.false_eq_true Bool.true_eq_false dlt mpV slV Int.natCast_zero List.map_set kvV nxt_map erase_map V.sw V.swL swN swH sw_sl sw_int sw_bool sw_str sw_smap sw_byte Obj'.sw sw_arr sw_map byte_1 byte_2 Mach.b2s_e Mach.b2s_eD toNat_ltb List.length_set List.length_replicate List.take_of_length_le Nat.zero_le bounds eqCells Option.map_some Option.map_none Fl_nx Fl_ex Sum_inl Sum_inr Ok_ite Ok_chk Ok_some Ok_bind Ok_none
theorem inbk_0 {n:Nat}:(inb 0 n=true)=(((0:Nat):Int)<(n:Int)):=propext (by rw [inb_iff];omega)
attribute [go_sem] inbk_0
attribute [go_sem] GNode.v_eq GRange.v
def FR_g:Nat→GNode→Option Int
 | 0,_=>none
 | n+1,n_ =>
 (forL (fun (k45:Int) (a46:GNode) (x44:Int)=>((FR_g n a46).bind fun y54=>chk (in64 (x44+y54)) (bif decide (200<(x44+y54)) then some (.ex 201) else some (.nx (x44+y54))):Option (Fl Int Int))) n_.Kids 0 1).bind fun o=>o.elim (fun x55=>some x55) (fun r56=>some r56)
noncomputable def F_g (n_:GNode):Option Int:=lim fun n=>FR_g n n_
@[irreducible] def mc_2j:MC :=
 (sR [mo (.bin false .lss (.t 9) (.t 8)) 10]
 (.seq (.cond (.t 10)
 .skip
 (.exit 0))
 (.seq (.block 1
 (sR [mo (.iad 5 (.t 7) (.t 9)) 11,
 mo (.ld (some 5) (.t 11)) 12,
 mo (.alloc [(.int .i64 0),(.sl []),(.sl []),(.int .i64 0),(.int .i64 0)]) 5,
 ⟨.st 5 (.t 5) (.t 12),none,none⟩]
 (sR [oV 3 13,
 mo (.ld (some 5) (.t 5)) 14,
 mo (.call (.f 14) [(.t 14)] [] []) 15,
 mo (.bin true .add (.t 13) (.t 15)) 16,
 oV 16 3]
 (sR [oV 3 17,
 mo (.bin false .gtr (.t 17) (cI 200)) 18]
 (.cond (.t 18)
 (sR [oC 201 2]
 .ret)
 .skip)))))
 (.reg [mo (.bin true .add (.t 9) (cI 1)) 19,
 oV 19 9]))))
def mc_g:MC :=
 (sR [mo (.box (.t 0)) 1,
 oC 0 2]
 (sR [oC 1 3]
 (.seq (sR [oF 2 1 6,
 oL 6 7,
 mo (.len false (.t 7)) 8,
 oC 0 9]
 (.block 0
 (.loop mc_2j)))
 (sR [oV 3 20,
 oV 20 2]
 .ret))))
theorem Wq_g {n:Nat} (ih_pattern_Nodes:∀{n_:GNode} {y:Int},FR_g n n_=some y→ACall Tryz.prog 14 [GNode.v n_] [] (fun r H=>r=.int .i64 y∧H=[])) (n_:GNode) {Q:Int→Prop} {Q':V→Heap→Prop} (h:Ok (FR_g (n+1) n_) Q) (hQ:∀z,Q z→Q' (.int .i64 z) []):ACall Tryz.prog 14 [GNode.v n_] [] Q':=by
 refine acallM mc_g [] [] [.t 2] Tryz.func14 fun M=>?_
 simp only [FR_g] at h
 unfold mc_g
 replace h:=tY h
 refine tB ?_
 repeat' (first
 | (exact tZ)
 | ((first|refine oblg h ?_|refine roomG h ?_|refine fork h ?_ ?_|refine forkS h ?_ ?_)<;>clear h<;>intro hc h)
 | (obtain ⟨y,hy,h⟩:=h;have hw:=ih_pattern_Nodes hy;replace hw:=tY hw;(first|refine M.sC hw ?_|refine M.sD hw ?_);clear hw hy;refine tB ?_)
 | (refine M.for1 (b:=mc_2j) 9 [7,8] [] (fun x=>[(3,.int .i64 x)]) (fun x=>[]) [] h ?_ ?_ ?_<;>first
 | (clear h;intro k a x Qn K hK1 hkN1 ha1 h hf;have hl:=fact_int (factsE_find (n:=8) hf.1 rfl);clear hf;have hkd:=kD hkN1;have hkB1:=kB hkN1;have hkI1:=kI (k:=k) (by omega);unfold mc_2j;replace h:=tY h;refine tK ha1 hkd hkN1 hkB1 hkI1 ?_)
  |(clear h;intro x K h;replace h:=And.left (And.intro h trivial);unfold mc_2j;replace h:=tY h;refine tB ?_)
  |(clear h;(try refine tB ?_);exact tU0;done))
 | (simp only [ha1])
 | (refine hK1 _ ?_;(try refine tB ?_);refine ⟨_,h,?_⟩;exact tU0;done)
 | (refine tE ?_;(first|rw [M.lok_compU]|rw [M.lokD_compU]);refine tB ?_)
 | (refine tA ?_)
 | fail)
theorem WG_g:∀n,(∀{n_:GNode} {y:Int},FR_g n n_=some y→ACall Tryz.prog 14 [GNode.v n_] [] (fun r H=>r=.int .i64 y∧H=[]))
 | 0=>fun hy=>(by simp only [FR_g] at hy;cases hy)
 | n+1=>by
  have ih_pattern_Nodes:=@WG_g n
  exact fun hy=>Wq_g ih_pattern_Nodes _ (Q:=(·=_)) ⟨_,hy,rfl⟩ fun|_,rfl=>⟨rfl,rfl⟩
theorem W_g:∀{n_:GNode} {y:Int},F_g n_=some y→ACall Tryz.prog 14 [GNode.v n_] [] (fun r H=>r=.int .i64 y∧H=[]):=fun hy=>by
 obtain ⟨n,hn⟩:=lim_inv hy
 exact (WG_g n) hn
def FR_h:Nat→GNode→Int→Option Int
 | 0,_,_=>none
 | n+1,n_,left_ =>
 bif decide (left_=0) then some 1 else (foldL (fun (k30:Int) (a31:GNode) (x29:Int)=>(chk (in64 (left_ - 1)) ((FR_h n a31 (left_ - 1)).bind fun y35=>some (max x29 y35)):Option Int)) n_.Kids 0 0).bind fun x36=>chk (in64 (x36+1)) (some (x36+1))
noncomputable def F_h (n_:GNode) (left_:Int):Option Int:=lim fun n=>FR_h n n_ left_
@[irreducible] def mc_2k:MC :=
 (sR [mo (.bin false .lss (.t 13) (.t 12)) 14]
 (.seq (.cond (.t 14)
 .skip
 (.exit 0))
 (.seq (.block 1
 (sR [mo (.iad 5 (.t 11) (.t 13)) 15,
 mo (.ld (some 5) (.t 15)) 16,
 mo (.alloc [(.int .i64 0),(.sl []),(.sl []),(.int .i64 0),(.int .i64 0)]) 7,
 ⟨.st 5 (.t 7) (.t 16),none,none⟩]
 (.reg [oV 5 17,
 mo (.ld (some 5) (.t 7)) 18,
 oV 1 19,
 mo (.bin true .sub (.t 19) (cI 1)) 20,
 mo (.call (.f 37) [(.t 18),(.t 20)] [] []) 21,
 mo (.mm true (.t 17) (.t 21)) 22,
 oV 22 5])))
 (.reg [mo (.bin true .add (.t 13) (cI 1)) 23,
 oV 23 13]))))
def mc_h:MC :=
 (sR [mo (.box (.t 0)) 2,
 oC 0 4]
 (.seq (sR [oV 1 8,
 mo (.bin false .eql (.t 8) (cI 0)) 9]
 (.cond (.t 9)
 (sR [oC 1 4]
 .ret)
 .skip))
 (sR [oC 0 5]
 (.seq (sR [oF 2 2 10,
 oL 10 11,
 mo (.len false (.t 11)) 12,
 oC 0 13]
 (.block 0
 (.loop mc_2k)))
 (sR [oV 5 24,
 mo (.bin true .add (.t 24) (cI 1)) 25,
 oV 25 4]
 .ret)))))
theorem Wq_h {n:Nat} (ih_pattern_depth:∀{n_:GNode} {left_:Int} {y:Int},FR_h n n_ left_=some y→ACall Tryz.prog 37 [GNode.v n_,.int .i64 left_] [] (fun r H=>r=.int .i64 y∧H=[])) (n_:GNode) (left_:Int) {Q:Int→Prop} {Q':V→Heap→Prop} (h:Ok (FR_h (n+1) n_ left_) Q) (hQ:∀z,Q z→Q' (.int .i64 z) []):ACall Tryz.prog 37 [GNode.v n_,.int .i64 left_] [] Q':=by
 refine acallM mc_h [] [] [.t 4] Tryz.func37 fun M=>?_
 simp only [FR_h] at h
 unfold mc_h
 replace h:=tY h
 refine tB ?_
 repeat' (first
 | (exact tZ)
 | ((first|refine oblg h ?_|refine roomG h ?_|refine fork h ?_ ?_|refine forkS h ?_ ?_)<;>clear h<;>intro hc h)
 | (obtain ⟨y,hy,h⟩:=h;have hw:=ih_pattern_depth hy;replace hw:=tY hw;(first|refine M.sC hw ?_|refine M.sD hw ?_);clear hw hy;refine tB ?_)
 | (refine M.fold1 (b:=mc_2k) 13 [1,11,12] [] (fun x=>[(5,.int .i64 x)]) (fun x=>[]) [] h ?_ ?_ ?_<;>first
 | (clear h;intro k a x Qn K hK1 hkN1 ha1 h hf;have hl:=fact_int (factsE_find (n:=12) hf.1 rfl);clear hf;have hkd:=kD hkN1;have hkB1:=kB hkN1;have hkI1:=kI (k:=k) (by omega);unfold mc_2k;replace h:=tY h;refine tK ha1 hkd hkN1 hkB1 hkI1 ?_)
  |(clear h;intro x K h;replace h:=And.left (And.intro h trivial);unfold mc_2k;replace h:=tY h;refine tB ?_)
  |(clear h;(try refine tB ?_);exact tU0;done))
 | (simp only [ha1])
 | (refine hK1 _ ?_;(try refine tB ?_);refine ⟨_,h,?_⟩;exact tU0;done)
 | (refine tE ?_;(first|rw [M.lok_compU]|rw [M.lokD_compU]);refine tB ?_)
 | (refine tA ?_)
 | fail)
theorem WG_h:∀n,(∀{n_:GNode} {left_:Int} {y:Int},FR_h n n_ left_=some y→ACall Tryz.prog 37 [GNode.v n_,.int .i64 left_] [] (fun r H=>r=.int .i64 y∧H=[]))
 | 0=>fun hy=>(by simp only [FR_h] at hy;cases hy)
 | n+1=>by
  have ih_pattern_depth:=@WG_h n
  exact fun hy=>Wq_h ih_pattern_depth _ _ (Q:=(·=_)) ⟨_,hy,rfl⟩ fun|_,rfl=>⟨rfl,rfl⟩
theorem W_h:∀{n_:GNode} {left_:Int} {y:Int},F_h n_ left_=some y→ACall Tryz.prog 37 [GNode.v n_,.int .i64 left_] [] (fun r H=>r=.int .i64 y∧H=[]):=fun hy=>by
 obtain ⟨n,hn⟩:=lim_inv hy
 exact (WG_h n) hn
def F_26 (n_:GNode) (k11:Int) (a12:GRange) (x10:Unit):Option (Fl Unit Bool) :=
 bif decide ((a12.High.toNat:Int)<(a12.Low.toNat:Int)) then some (.ex false) else bif decide (0<k11) then chk (in64 (k11 - 1)) (chk (inb (k11 - 1) n_.Ranges.length) (chk (in64 ((((n_.Ranges.getD ((k11 - 1)).toNat default).High).toNat:Int)+1)) (bif decide ((a12.Low.toNat:Int)≤((((n_.Ranges.getD ((k11 - 1)).toNat default).High).toNat:Int)+1)) then some (.ex false) else some (.nx ())))) else some (.nx ())
def F_1l (n_:GNode):Option Bool :=
 (forL (F_26 n_) n_.Ranges 0 ()).bind fun o=>o.elim (fun x13=>grp ((decide (0<(n_.Ranges.length:Int))&&decide ((n_.Kids.length:Int)=0))) fun b18=>grp ((b18&&decide (n_.Min=0))) fun b19=>grp ((b19&&decide (n_.Max=0))) fun b20=>some b20) (fun r14=>some r14)
@[irreducible] def mc_26:MC :=
 (sR [mo (.bin false .lss (.t 8) (.t 7)) 9]
 (.seq (.cond (.t 9)
 .skip
 (.exit 0))
 (.seq (.block 1
 (sR [oV 8 10,
 mo (.iad 2 (.t 6) (.t 8)) 11,
 mo (.ld (some 2) (.t 11)) 12,
 mo (.alloc [(.int .u8 0),(.int .u8 0)]) 4,
 oV 10 3,
 ⟨.st 2 (.t 4) (.t 12),none,none⟩]
 (.seq (.regD [oF 0 4 13,
 oL 13 14,
 oF 1 4 15,
 oL 15 16,
 mo (.bin false .gtr (.t 14) (.t 16)) 17,
 oV 17 18,
 gF 18 19 (.mv (.t 3)),
 gF 18 20 (.bin false .gtr (.t 19) (cI 0)),
 gF 18 21 (.mv (.t 20)),
 gT 21 22 (.fad 0 (.t 4)),
 gT 21 23 (.ld none (.t 22)),
 gT 21 24 (.i2i true .i64 (.t 23)),
 gT 21 25 (.fad 1 (.t 1)),
 gT 21 26 (.ld none (.t 25)),
 gT 21 27 (.mv (.t 3)),
 gT 21 28 (.bin true .sub (.t 27) (cI 1)),
 gT 21 29 (.iad 2 (.t 26) (.t 28)),
 gT 21 30 (.fad 1 (.t 29)),
 gT 21 31 (.ld none (.t 30)),
 gT 21 32 (.i2i true .i64 (.t 31)),
 gT 21 33 (.bin true .add (.t 32) (cI 1)),
 gT 21 34 (.bin false .leq (.t 24) (.t 33)),
 gF 18 35 (.pick (.t 21) (.t 34) (.c (.bool false))),
 mo (.pick (.t 18) (.c (.bool true)) (.t 35)) 36]
 [[],[0],[],[2],[1,3],[4],[5],[6,5],[7,5,5],[8],[9,8],[10,8],[8],[12,8],[8],[14,8],[13,15,8],[16,8],[17,8],[18,8],[19,8],[11,20,8],[8,21,5],[5,22]]
 [[],[0],[],[2],[0,1,2,3],[0,1,2,3,4],[0,1,2,3,4,5],[0,1,2,3,4,5,6],[0,1,2,3,4,5,6,7],[0,1,2,3,4,5,6,7,8],[0,1,2,3,4,5,6,7,8,9],[0,1,2,3,4,5,6,7,8,9,10],[0,1,2,3,4,5,6,7,8],[0,1,2,3,4,5,6,7,8,12],[0,1,2,3,4,5,6,7,8],[0,1,2,3,4,5,6,7,8,14],[0,1,2,3,4,5,6,7,8,12,13,14,15],[0,1,2,3,4,5,6,7,8,12,13,14,15,16],[0,1,2,3,4,5,6,7,8,12,13,14,15,16,17],[0,1,2,3,4,5,6,7,8,12,13,14,15,16,17,18],[0,1,2,3,4,5,6,7,8,12,13,14,15,16,17,18,19],[0,1,2,3,4,5,6,7,8,9,10,11,12,13,14,15,16,17,18,19,20],[0,1,2,3,4,5,6,7,8,9,10,11,12,13,14,15,16,17,18,19,20,21],[0,1,2,3,4,5,6,7,8,9,10,11,12,13,14,15,16,17,18,19,20,21,22]])
 (.cond (.t 36)
 (sR [mo (.mv (.c (.bool false))) 2]
 .ret)
 .skip))))
 (.reg [mo (.bin true .add (.t 8) (cI 1)) 37,
 oV 37 8]))))
@[irreducible] def mg_2t:List MOp:=[gT 42 43 (.fad 2 (.t 1)),
 gT 42 44 (.ld none (.t 43)),
 gT 42 45 (.len false (.t 44)),
 gT 42 46 (.bin false .eql (.t 45) (cI 0)),
 mo (.pick (.t 42) (.t 46) (.c (.bool false))) 47]
@[irreducible] def mg_2u:List MOp:=[gT 48 49 (.fad 3 (.t 1)),
 gT 48 50 (.ld none (.t 49)),
 gT 48 51 (.bin false .eql (.t 50) (cI 0)),
 mo (.pick (.t 48) (.t 51) (.c (.bool false))) 52]
@[irreducible] def mg_2v:List MOp:=[gT 53 54 (.fad 4 (.t 1)),
 gT 53 55 (.ld none (.t 54)),
 gT 53 56 (.bin false .eql (.t 55) (cI 0)),
 mo (.pick (.t 53) (.t 56) (.c (.bool false))) 57]
def mc_1l:MC :=
 (sR [mo (.box (.t 0)) 1,
 mo (.mv (.c (.bool false))) 2]
 (.seq (sR [oF 1 1 5,
 oL 5 6,
 mo (.len false (.t 6)) 7,
 oC 0 8]
 (.block 0
 (.loop mc_26)))
 (.seq (.regI [.op (oF 1 1 38),
 .op (oL 38 39),
 .op (mo (.len false (.t 39)) 40),
 .op (mo (.bin false .gtr (.t 40) (cI 0)) 41),
 .op (oV 41 42),
 .grp mg_2t,
 .op (oV 47 48),
 .grp mg_2u,
 .op (oV 52 53),
 .grp mg_2v,
 .op (oV 57 2)])
 .ret)))
theorem Wq_1l {n_:GNode}:Cn Tryz.prog 55 [GNode.v n_] [] (F_1l n_) (fun z=>.bool z) (fun z=>[]):=fun Q Q' h hQ=>by
 refine acallM mc_1l [] [] [.t 2] Tryz.func55 fun M=>?_
 unfold F_1l at h
 unfold mc_1l
 replace h:=tY h
 refine tB ?_
 repeat' (first
 | (exact tZ)
 | ((first|refine oblg h ?_|refine roomG h ?_|refine fork h ?_ ?_|refine forkS h ?_ ?_)<;>clear h<;>intro hc h)
 | (refine M.for1 (b:=mc_26) 8 [1,6,7] [1] (fun x=>[]) (fun x=>[]) [] h ?_ ?_ ?_<;>first
 | (clear h;intro k a x Qn K hK1 hkN1 ha1 h hf;have hl:=fact_int (factsE_find (n:=7) hf.1 rfl);clear hf;have hkd:=kD hkN1;have hkB1:=kB hkN1;have hkI1:=kI (k:=k) (by omega);unfold F_26 at h;unfold mc_26;replace h:=tY h;refine tK ha1 hkd hkN1 hkB1 hkI1 ?_)
  |(clear h;intro x K h;replace h:=And.left (And.intro h trivial);unfold mc_26;replace h:=tY h;refine tB ?_)
  |(clear h;(try refine tB ?_);exact tU0;done))
 | (refine M.gv1 (ms:=mg_2v) 57 [54,55,56] h ?_ ?_<;>first
 | (clear h;intro K hK2;unfold mg_2v;refine tB ?_)
 | (clear h;intro b h;replace h:=tY h;refine tB ?_))
 | (refine M.gv1 (ms:=mg_2u) 52 [49,50,51] h ?_ ?_<;>first
 | (clear h;intro K hK3;unfold mg_2u;refine tB ?_)
 | (clear h;intro b h;replace h:=tY h;refine tB ?_))
 | (refine M.gv1 (ms:=mg_2t) 47 [43,44,45,46] h ?_ ?_<;>first
 | (clear h;intro K hK4;unfold mg_2t;refine tB ?_)
 | (clear h;intro b h;replace h:=tY h;refine tB ?_))
 | (simp only [ha1])
 | (refine hK1 _ ?_;(try refine tB ?_);refine ⟨_,h,?_⟩;exact tU0;done)
 | ((first|refine hK2 _ ?_|refine hK3 _ ?_|refine hK4 _ ?_);exact tU;done)
 | (refine bfork (fun hc=>?_) (fun hc=>?_))
 | (refine tE ?_;(first|rw [M.lok_compU]|rw [M.lokD_compU]);refine tB ?_)
 | (refine tA ?_)
 | fail)
def F_1c (k_:GNode) (p_:GNode):Option Bool :=
 some (decide (k_.Op=p_.Op))
def mc_1c:MC :=
 (sR [mo (.box (.t 0)) 2,
 mo (.mv (.c (.bool false))) 3]
 (sR [oF 0 2 4,
 oL 4 5,
 oF 0 1 6,
 oL 6 7,
 mo (.bin false .eql (.t 5) (.t 7)) 8,
 oV 8 3]
 .ret))
theorem Wq_1c {k_ p_:GNode}:Cn Tryz.prog 76 [GNode.v k_,.ptr 1000 0] [(1000,.cells [.int .i64 p_.Op,.sl (p_.Ranges.map GRange.v),.sl (p_.Kids.map GNode.v),.int .i64 p_.Min,.int .i64 p_.Max])] (F_1c k_ p_) (fun z=>.bool z) (fun z=>[(1000,.cells [.int .i64 p_.Op,.sl (p_.Ranges.map GRange.v),.sl (p_.Kids.map GNode.v),.int .i64 p_.Min,.int .i64 p_.Max])]):=fun Q Q' h hQ=>by
 refine acallM mc_1c [] [1000] [.t 3] Tryz.func76 fun M=>?_
 unfold F_1c at h
 unfold mc_1c
 replace h:=tY h
 refine tB ?_
 repeat' (first
 | (exact tZ)
 | ((first|refine oblg h ?_|refine roomG h ?_|refine fork h ?_ ?_|refine forkS h ?_ ?_)<;>clear h<;>intro hc h)
 | (refine tE ?_;(first|rw [M.lok_compU]|rw [M.lokD_compU]);refine tB ?_)
 | (refine tA ?_)
 | fail)
def F_20 (fc0_:GNode) (k31:Int) (a32:GNode) (x30:Unit):Option (Fl Unit Int) :=
 (F_1c a32 fc0_).bind fun y40=>bif y40 then some (.ex k31) else some (.nx ())
def F_27 (s_:List GNode) (fc0_:GNode):Option Int :=
 (forL (F_20 fc0_) s_ 0 ()).bind fun o=>o.elim (fun x41=>some (-1)) (fun r42=>some r42)
@[irreducible] def mc_20:MC :=
 (sR [mo (.bin false .lss (.t 8) (.t 7)) 9]
 (.seq (.cond (.t 9)
 .skip
 (.exit 0))
 (.seq (.block 1
 (sR [oV 8 10,
 oV 10 5]
 (sR [oV 1 11,
 oV 0 12,
 oV 5 13,
 mo (.iad 5 (.t 12) (.t 13)) 14,
 mo (.ld (some 5) (.t 14)) 15,
 mo (.call (.t 11) [(.t 15)] [1000] []) 16]
 (.cond (.t 16)
 (sR [oV 5 17,
 oV 17 4]
 .ret)
 .skip))))
 (.reg [mo (.bin true .add (.t 8) (cI 1)) 18,
 oV 18 8]))))
def mc_27:MC :=
 (sR [oC 0 4]
 (.seq (sR [oV 0 6,
 mo (.len false (.t 6)) 7,
 oC 0 8]
 (.block 0
 (.loop mc_20)))
 (sR [oC (-1) 4]
 .ret)))
theorem Wq_27 {s_:List GNode} {fc0_:GNode}:Cn Tryz.prog 77 [.sl (s_.map GNode.v),.fn (.func 76) [.ptr 1000 0]] [(1000,.cells [.int .i64 fc0_.Op,.sl (fc0_.Ranges.map GRange.v),.sl (fc0_.Kids.map GNode.v),.int .i64 fc0_.Min,.int .i64 fc0_.Max])] (F_27 s_ fc0_) (fun z=>.int .i64 z) (fun z=>[(1000,.cells [.int .i64 fc0_.Op,.sl (fc0_.Ranges.map GRange.v),.sl (fc0_.Kids.map GNode.v),.int .i64 fc0_.Min,.int .i64 fc0_.Max])]):=fun Q Q' h hQ=>by
 refine acallM mc_27 [] [1000] [.t 4] Tryz.func77 fun M=>?_
 unfold F_27 at h
 unfold mc_27
 replace h:=tY h
 refine tB ?_
 repeat' (first
 | (exact tZ)
 | ((first|refine oblg h ?_|refine roomG h ?_|refine fork h ?_ ?_|refine forkS h ?_ ?_)<;>clear h<;>intro hc h)
 | (obtain ⟨y,hy,h⟩:=h;have hw:=Wq_1c.w hy;replace hw:=tY hw;(first|refine M.sC hw ?_|refine M.sD hw ?_);clear hw hy;refine tB ?_)
 | (refine M.for1 (b:=mc_20) 8 [0,1,7] [1000] (fun x=>[]) (fun x=>[]) [] h ?_ ?_ ?_<;>first
 | (clear h;intro k a x Qn K hK1 hkN1 ha1 h hf;have hl:=fact_int (factsE_find (n:=7) hf.1 rfl);clear hf;have hkd:=kD hkN1;have hkB1:=kB hkN1;have hkI1:=kI (k:=k) (by omega);unfold F_20 at h;unfold mc_20;replace h:=tY h;refine tK ha1 hkd hkN1 hkB1 hkI1 ?_)
  |(clear h;intro x K h;replace h:=And.left (And.intro h trivial);unfold mc_20;replace h:=tY h;refine tB ?_)
  |(clear h;(try refine tB ?_);exact tU0;done))
 | (simp only [ha1])
 | (refine hK1 _ ?_;(try refine tB ?_);refine ⟨_,h,?_⟩;exact tU0;done)
 | (refine tE ?_;(first|rw [M.lok_compU]|rw [M.lokD_compU]);refine tB ?_)
 | (refine tA ?_)
 | fail)
def F_21 (s_:List GNode) (fc0_:GNode):Option Bool :=
 (F_27 s_ fc0_).bind fun y2=>some (decide (0≤y2))
def mc_21:MC :=
 (sR [mo (.mv (.c (.bool false))) 4]
 (sR [oV 0 5,
 oV 1 6,
 mo (.call (.f 77) [(.t 5),(.t 6)] [1000] []) 7,
 mo (.bin false .geq (.t 7) (cI 0)) 8,
 oV 8 4]
 .ret))
theorem Wq_21 {s_:List GNode} {fc0_:GNode}:Cn Tryz.prog 58 [.sl (s_.map GNode.v),.fn (.func 76) [.ptr 1000 0]] [(1000,.cells [.int .i64 fc0_.Op,.sl (fc0_.Ranges.map GRange.v),.sl (fc0_.Kids.map GNode.v),.int .i64 fc0_.Min,.int .i64 fc0_.Max])] (F_21 s_ fc0_) (fun z=>.bool z) (fun z=>[(1000,.cells [.int .i64 fc0_.Op,.sl (fc0_.Ranges.map GRange.v),.sl (fc0_.Kids.map GNode.v),.int .i64 fc0_.Min,.int .i64 fc0_.Max])]):=fun Q Q' h hQ=>by
 refine acallM mc_21 [] [1000] [.t 4] Tryz.func58 fun M=>?_
 unfold F_21 at h
 unfold mc_21
 replace h:=tY h
 refine tB ?_
 repeat' (first
 | (exact tZ)
 | ((first|refine oblg h ?_|refine roomG h ?_|refine fork h ?_ ?_|refine forkS h ?_ ?_)<;>clear h<;>intro hc h)
 | (obtain ⟨y,hy,h⟩:=h;have hw:=Wq_27.w hy;replace hw:=tY hw;(first|refine M.sC hw ?_|refine M.sD hw ?_);clear hw hy;refine tB ?_)
 | (refine tE ?_;(first|rw [M.lok_compU]|rw [M.lokD_compU]);refine tB ?_)
 | (refine tA ?_)
 | fail)
def F_1m (n_:GNode):Option Bool :=
 grp ((decide (2≤(n_.Kids.length:Int))&&decide ((n_.Ranges.length:Int)=0))) fun b6=>grp ((b6&&decide (n_.Min=0))) fun b7=>grp ((b7&&decide (n_.Max=0))) fun b8=>jn (α:=Bool) (bif b8 then (F_21 n_.Kids n_).bind fun y10=>some (!y10) else some false) fun j11=>some j11
@[irreducible] def mg_1c:List MOp:=[gT 7 8 (.fad 1 (.t 1)),
 gT 7 9 (.ld none (.t 8)),
 gT 7 10 (.len false (.t 9)),
 gT 7 11 (.bin false .eql (.t 10) (cI 0)),
 mo (.pick (.t 7) (.t 11) (.c (.bool false))) 12]
@[irreducible] def mg_2w:List MOp:=[gT 13 14 (.fad 3 (.t 1)),
 gT 13 15 (.ld none (.t 14)),
 gT 13 16 (.bin false .eql (.t 15) (cI 0)),
 mo (.pick (.t 13) (.t 16) (.c (.bool false))) 17]
@[irreducible] def mg_2x:List MOp:=[gT 18 19 (.fad 4 (.t 1)),
 gT 18 20 (.ld none (.t 19)),
 gT 18 21 (.bin false .eql (.t 20) (cI 0)),
 mo (.pick (.t 18) (.t 21) (.c (.bool false))) 22]
@[irreducible] def mg_2y:List MOp:=[gT 23 24 (.fad 2 (.t 1)),
 gT 23 25 (.ld none (.t 24)),
 gT 23 26 (.mkfn 76 [(.t 1)]),
 gT 23 27 (.call (.f 58) [(.t 25),(.t 26)] [1] []),
 gT 23 28 (.not (.t 27)),
 mo (.pick (.t 23) (.t 28) (.c (.bool false))) 29]
def mc_1m:MC :=
 (sR [mo (.box (.t 0)) 1,
 mo (.mv (.c (.bool false))) 2]
 (.seq (.regI [.op (oF 2 1 3),
 .op (oL 3 4),
 .op (mo (.len false (.t 4)) 5),
 .op (mo (.bin false .geq (.t 5) (cI 2)) 6),
 .op (oV 6 7),
 .grp mg_1c,
 .op (oV 12 13),
 .grp mg_2w,
 .op (oV 17 18),
 .grp mg_2x,
 .op (oV 22 23),
 .grp mg_2y,
 .op (oV 29 2)])
 .ret))
theorem Wq_1m {n_:GNode}:Cn Tryz.prog 56 [GNode.v n_] [] (F_1m n_) (fun z=>.bool z) (fun z=>[]):=fun Q Q' h hQ=>by
 refine acallM mc_1m [] [] [.t 2] Tryz.func56 fun M=>?_
 unfold F_1m at h
 unfold mc_1m
 replace h:=tY h
 refine tB ?_
 repeat' (first
 | (exact tZ)
 | ((first|refine oblg h ?_|refine roomG h ?_|refine fork h ?_ ?_|refine forkS h ?_ ?_)<;>clear h<;>intro hc h)
 | (obtain ⟨y,hy,h⟩:=h;have hw:=acall_swe 1000 1 (Wq_21.w hy);replace hw:=tY hw;(first|refine M.sC hw ?_|refine M.sD hw ?_);clear hw hy;refine tB ?_)
 | (refine M.gj1 (ms:=mg_2y) [2] [] (fun y=>[(29,.bool y)]) (fun y=>[]) h ?_ ?_<;>first
 | (clear h;intro Qn K hK1 h;unfold mg_2y;replace h:=tY h;refine tB ?_)
  |(clear h;intro y h;replace h:=tY h;refine tB ?_))
 | (refine M.gv1 (ms:=mg_2x) 22 [19,20,21] h ?_ ?_<;>first
 | (clear h;intro K hK2;unfold mg_2x;refine tB ?_)
 | (clear h;intro b h;replace h:=tY h;refine tB ?_))
 | (refine M.gv1 (ms:=mg_2w) 17 [14,15,16] h ?_ ?_<;>first
 | (clear h;intro K hK3;unfold mg_2w;refine tB ?_)
 | (clear h;intro b h;replace h:=tY h;refine tB ?_))
 | (refine M.gv1 (ms:=mg_1c) 12 [8,9,10,11] h ?_ ?_<;>first
 | (clear h;intro K hK4;unfold mg_1c;refine tB ?_)
 | (clear h;intro b h;replace h:=tY h;refine tB ?_))
 | (refine hK1 _ ?_;(try refine tB ?_);refine ⟨_,h,?_⟩;exact tU0;done)
 | ((first|refine hK2 _ ?_|refine hK3 _ ?_|refine hK4 _ ?_);exact tU;done)
 | (refine bfork (fun hc=>?_) (fun hc=>?_))
 | (refine tE ?_;(first|rw [M.lok_compU]|rw [M.lokD_compU]);refine tB ?_)
 | (refine tA ?_)
 | fail)
def F_1n (n_:GNode):Option Bool :=
 grp ((decide ((n_.Kids.length:Int)=1)&&decide ((n_.Ranges.length:Int)=0))) fun b6=>grp ((b6&&decide (0≤n_.Min))) fun b7=>jn (α:=Bool) (bif b7 then some (decide ((max n_.Min 1)≤n_.Max)) else some false) fun j8=>grp ((j8&&decide (n_.Max≤64))) fun b9=>grp ((b9&&((!decide (n_.Min=1))||(!decide (n_.Max=1))))) fun b10=>some b10
@[irreducible] def mg_2z:List MOp:=[gT 7 8 (.fad 1 (.t 1)),
 gT 7 9 (.ld none (.t 8)),
 gT 7 10 (.len false (.t 9)),
 gT 7 11 (.bin false .eql (.t 10) (cI 0)),
 mo (.pick (.t 7) (.t 11) (.c (.bool false))) 12]
@[irreducible] def mg_30:List MOp:=[gT 13 14 (.fad 3 (.t 1)),
 gT 13 15 (.ld none (.t 14)),
 gT 13 16 (.bin false .geq (.t 15) (cI 0)),
 mo (.pick (.t 13) (.t 16) (.c (.bool false))) 17]
@[irreducible] def mg_31:List MOp:=[gT 18 19 (.fad 4 (.t 1)),
 gT 18 20 (.ld none (.t 19)),
 gT 18 21 (.fad 3 (.t 1)),
 gT 18 22 (.ld none (.t 21)),
 gT 18 23 (.mm true (.t 22) (cI 1)),
 gT 18 24 (.bin false .geq (.t 20) (.t 23)),
 mo (.pick (.t 18) (.t 24) (.c (.bool false))) 25]
@[irreducible] def mg_32:List MOp:=[gT 26 27 (.fad 4 (.t 1)),
 gT 26 28 (.ld none (.t 27)),
 gT 26 29 (.bin false .leq (.t 28) (cI 64)),
 mo (.pick (.t 26) (.t 29) (.c (.bool false))) 30]
@[irreducible] def mg_33:List MOp:=[gT 31 32 (.fad 3 (.t 1)),
 gT 31 33 (.ld none (.t 32)),
 gT 31 34 (.bin false .neq (.t 33) (cI 1)),
 gT 31 35 (.mv (.t 34)),
 gF 35 36 (.fad 4 (.t 1)),
 gF 35 37 (.ld none (.t 36)),
 gF 35 38 (.bin false .neq (.t 37) (cI 1)),
 gT 31 39 (.pick (.t 35) (.c (.bool true)) (.t 38)),
 mo (.pick (.t 31) (.t 39) (.c (.bool false))) 40]
def mc_1n:MC :=
 (sR [mo (.box (.t 0)) 1,
 mo (.mv (.c (.bool false))) 2]
 (.seq (.regI [.op (oF 2 1 3),
 .op (oL 3 4),
 .op (mo (.len false (.t 4)) 5),
 .op (mo (.bin false .eql (.t 5) (cI 1)) 6),
 .op (oV 6 7),
 .grp mg_2z,
 .op (oV 12 13),
 .grp mg_30,
 .op (oV 17 18),
 .grp mg_31,
 .op (oV 25 26),
 .grp mg_32,
 .op (oV 30 31),
 .grp mg_33,
 .op (oV 40 2)])
 .ret))
theorem Wq_1n {n_:GNode}:Cn Tryz.prog 57 [GNode.v n_] [] (F_1n n_) (fun z=>.bool z) (fun z=>[]):=fun Q Q' h hQ=>by
 refine acallM mc_1n [] [] [.t 2] Tryz.func57 fun M=>?_
 unfold F_1n at h
 unfold mc_1n
 replace h:=tY h
 refine tB ?_
 repeat' (first
 | (exact tZ)
 | ((first|refine oblg h ?_|refine roomG h ?_|refine fork h ?_ ?_|refine forkS h ?_ ?_)<;>clear h<;>intro hc h)
 | (refine M.gv1 (ms:=mg_33) 40 [32,33,34,35,36,37,38,39] h ?_ ?_<;>first
 | (clear h;intro K hK1;unfold mg_33;refine tB ?_)
 | (clear h;intro b h;replace h:=tY h;refine tB ?_))
 | (refine M.gv1 (ms:=mg_32) 30 [27,28,29] h ?_ ?_<;>first
 | (clear h;intro K hK2;unfold mg_32;refine tB ?_)
 | (clear h;intro b h;replace h:=tY h;refine tB ?_))
 | (refine M.gj1 (ms:=mg_31) [1,2] [1] (fun y=>[(25,.bool y)]) (fun y=>[]) h ?_ ?_<;>first
 | (clear h;intro Qn K hK3 h;unfold mg_31;replace h:=tY h;refine tB ?_)
  |(clear h;intro y h;replace h:=tY h;refine tB ?_))
 | (refine M.gv1 (ms:=mg_30) 17 [14,15,16] h ?_ ?_<;>first
 | (clear h;intro K hK4;unfold mg_30;refine tB ?_)
 | (clear h;intro b h;replace h:=tY h;refine tB ?_))
 | (refine M.gv1 (ms:=mg_2z) 12 [8,9,10,11] h ?_ ?_<;>first
 | (clear h;intro K hK5;unfold mg_2z;refine tB ?_)
 | (clear h;intro b h;replace h:=tY h;refine tB ?_))
 | ((first|refine hK1 _ ?_|refine hK2 _ ?_|refine hK4 _ ?_|refine hK5 _ ?_);exact tU;done)
 | (refine hK3 _ ?_;(try refine tB ?_);refine ⟨_,h,?_⟩;exact tU0;done)
 | (refine bfork (fun hc=>?_) (fun hc=>?_))
 | (refine tE ?_;(first|rw [M.lok_compU]|rw [M.lokD_compU]);refine tB ?_)
 | (refine tA ?_)
 | fail)
mutual
def FR_r:Nat→GNode→Option Bool
 | 0,_=>none
 | n+1,k_ =>
 (FR_i n k_).bind fun y2=>some (!y2)
def FR_z:Nat→(List GNode)→Option Int
 | 0,_=>none
 | n+1,s_ =>
 (forL (fun (k31:Int) (a32:GNode) (x30:Unit)=>((FR_r n a32).bind fun y40=>bif y40 then some (.ex k31) else some (.nx ()):Option (Fl Unit Int))) s_ 0 ()).bind fun o=>o.elim (fun x41=>some (-1)) (fun r42=>some r42)
def FR_w:Nat→(List GNode)→Option Bool
 | 0,_=>none
 | n+1,s_ =>
 (FR_z n s_).bind fun y2=>some (decide (0≤y2))
def FR_i:Nat→GNode→Option Bool
 | 0,_=>none
 | n+1,n_ =>
 jn (α:=Bool) (bif decide (n_.Op=1) then (F_1l n_).bind fun y6=>some y6 else jn (α:=Bool) (bif decide (n_.Op=2) then some true else some (decide (n_.Op=3))) fun j7=>bif j7 then (F_1m n_).bind fun y8=>some y8 else bif decide (n_.Op=4) then (F_1n n_).bind fun y9=>some y9 else some false) fun j5=>jn (α:=Bool) (bif j5 then (FR_w n n_.Kids).bind fun y13=>some (!y13) else some false) fun j14=>some j14
end
noncomputable def F_i (n_:GNode):Option Bool:=lim fun n=>FR_i n n_
def mc_r:MC :=
 (sR [mo (.box (.t 0)) 1,
 mo (.mv (.c (.bool false))) 2]
 (sR [mo (.ld (some 5) (.t 1)) 3,
 mo (.call (.f 38) [(.t 3)] [] []) 4,
 mo (.not (.t 4)) 5,
 oV 5 2]
 .ret))
theorem Wq_r {n:Nat} (ih_pattern_right_1:∀{k_:GNode} {y:Bool},FR_r n k_=some y→ACall Tryz.prog 59 [GNode.v k_] [] (fun r H=>r=.bool y∧H=[])) (ih_slices_IndexFunc_api_Node_api_Node_of_pattern_right_1:∀{s_:List GNode} {y:Int},FR_z n s_=some y→ACall Tryz.prog 77 [.sl (s_.map GNode.v),.fn (.func 59) []] [] (fun r H=>r=.int .i64 y∧H=[])) (ih_slices_ContainsFunc_api_Node_api_Node_of_pattern_right_1:∀{s_:List GNode} {y:Bool},FR_w n s_=some y→ACall Tryz.prog 58 [.sl (s_.map GNode.v),.fn (.func 59) []] [] (fun r H=>r=.bool y∧H=[])) (ih_pattern_right:∀{n_:GNode} {y:Bool},FR_i n n_=some y→ACall Tryz.prog 38 [GNode.v n_] [] (fun r H=>r=.bool y∧H=[])) (k_:GNode) {Q:Bool→Prop} {Q':V→Heap→Prop} (h:Ok (FR_r (n+1) k_) Q) (hQ:∀z,Q z→Q' (.bool z) []):ACall Tryz.prog 59 [GNode.v k_] [] Q':=by
 refine acallM mc_r [] [] [.t 2] Tryz.func59 fun M=>?_
 simp only [FR_r] at h
 unfold mc_r
 replace h:=tY h
 refine tB ?_
 repeat' (first
 | (exact tZ)
 | ((first|refine oblg h ?_|refine roomG h ?_|refine fork h ?_ ?_|refine forkS h ?_ ?_)<;>clear h<;>intro hc h)
 | (obtain ⟨y,hy,h⟩:=h;have hw:=ih_pattern_right hy;replace hw:=tY hw;(first|refine M.sC hw ?_|refine M.sD hw ?_);clear hw hy;refine tB ?_)
 | (refine tE ?_;(first|rw [M.lok_compU]|rw [M.lokD_compU]);refine tB ?_)
 | (refine tA ?_)
 | fail)
@[irreducible] def mc_2l:MC :=
 (sR [mo (.bin false .lss (.t 8) (.t 7)) 9]
 (.seq (.cond (.t 9)
 .skip
 (.exit 0))
 (.seq (.block 1
 (sR [oV 8 10,
 oV 10 5]
 (sR [oV 1 11,
 oV 0 12,
 oV 5 13,
 mo (.iad 5 (.t 12) (.t 13)) 14,
 mo (.ld (some 5) (.t 14)) 15,
 mo (.call (.t 11) [(.t 15)] [] []) 16]
 (.cond (.t 16)
 (sR [oV 5 17,
 oV 17 4]
 .ret)
 .skip))))
 (.reg [mo (.bin true .add (.t 8) (cI 1)) 18,
 oV 18 8]))))
def mc_z:MC :=
 (sR [oC 0 4]
 (.seq (sR [oV 0 6,
 mo (.len false (.t 6)) 7,
 oC 0 8]
 (.block 0
 (.loop mc_2l)))
 (sR [oC (-1) 4]
 .ret)))
theorem Wq_z {n:Nat} (ih_pattern_right_1:∀{k_:GNode} {y:Bool},FR_r n k_=some y→ACall Tryz.prog 59 [GNode.v k_] [] (fun r H=>r=.bool y∧H=[])) (ih_slices_IndexFunc_api_Node_api_Node_of_pattern_right_1:∀{s_:List GNode} {y:Int},FR_z n s_=some y→ACall Tryz.prog 77 [.sl (s_.map GNode.v),.fn (.func 59) []] [] (fun r H=>r=.int .i64 y∧H=[])) (ih_slices_ContainsFunc_api_Node_api_Node_of_pattern_right_1:∀{s_:List GNode} {y:Bool},FR_w n s_=some y→ACall Tryz.prog 58 [.sl (s_.map GNode.v),.fn (.func 59) []] [] (fun r H=>r=.bool y∧H=[])) (ih_pattern_right:∀{n_:GNode} {y:Bool},FR_i n n_=some y→ACall Tryz.prog 38 [GNode.v n_] [] (fun r H=>r=.bool y∧H=[])) (s_:List GNode) {Q:Int→Prop} {Q':V→Heap→Prop} (h:Ok (FR_z (n+1) s_) Q) (hQ:∀z,Q z→Q' (.int .i64 z) []):ACall Tryz.prog 77 [.sl (s_.map GNode.v),.fn (.func 59) []] [] Q':=by
 refine acallM mc_z [] [] [.t 4] Tryz.func77 fun M=>?_
 simp only [FR_z] at h
 unfold mc_z
 replace h:=tY h
 refine tB ?_
 repeat' (first
 | (exact tZ)
 | ((first|refine oblg h ?_|refine roomG h ?_|refine fork h ?_ ?_|refine forkS h ?_ ?_)<;>clear h<;>intro hc h)
 | (obtain ⟨y,hy,h⟩:=h;have hw:=ih_pattern_right_1 hy;replace hw:=tY hw;(first|refine M.sC hw ?_|refine M.sD hw ?_);clear hw hy;refine tB ?_)
 | (refine M.for1 (b:=mc_2l) 8 [0,1,7] [] (fun x=>[]) (fun x=>[]) [] h ?_ ?_ ?_<;>first
 | (clear h;intro k a x Qn K hK1 hkN1 ha1 h hf;have hl:=fact_int (factsE_find (n:=7) hf.1 rfl);clear hf;have hkd:=kD hkN1;have hkB1:=kB hkN1;have hkI1:=kI (k:=k) (by omega);unfold mc_2l;replace h:=tY h;refine tK ha1 hkd hkN1 hkB1 hkI1 ?_)
  |(clear h;intro x K h;replace h:=And.left (And.intro h trivial);unfold mc_2l;replace h:=tY h;refine tB ?_)
  |(clear h;(try refine tB ?_);exact tU0;done))
 | (simp only [ha1])
 | (refine hK1 _ ?_;(try refine tB ?_);refine ⟨_,h,?_⟩;exact tU0;done)
 | (refine tE ?_;(first|rw [M.lok_compU]|rw [M.lokD_compU]);refine tB ?_)
 | (refine tA ?_)
 | fail)
def mc_w:MC :=
 (sR [mo (.mv (.c (.bool false))) 4]
 (sR [oV 0 5,
 oV 1 6,
 mo (.call (.f 77) [(.t 5),(.t 6)] [] []) 7,
 mo (.bin false .geq (.t 7) (cI 0)) 8,
 oV 8 4]
 .ret))
theorem Wq_w {n:Nat} (ih_pattern_right_1:∀{k_:GNode} {y:Bool},FR_r n k_=some y→ACall Tryz.prog 59 [GNode.v k_] [] (fun r H=>r=.bool y∧H=[])) (ih_slices_IndexFunc_api_Node_api_Node_of_pattern_right_1:∀{s_:List GNode} {y:Int},FR_z n s_=some y→ACall Tryz.prog 77 [.sl (s_.map GNode.v),.fn (.func 59) []] [] (fun r H=>r=.int .i64 y∧H=[])) (ih_slices_ContainsFunc_api_Node_api_Node_of_pattern_right_1:∀{s_:List GNode} {y:Bool},FR_w n s_=some y→ACall Tryz.prog 58 [.sl (s_.map GNode.v),.fn (.func 59) []] [] (fun r H=>r=.bool y∧H=[])) (ih_pattern_right:∀{n_:GNode} {y:Bool},FR_i n n_=some y→ACall Tryz.prog 38 [GNode.v n_] [] (fun r H=>r=.bool y∧H=[])) (s_:List GNode) {Q:Bool→Prop} {Q':V→Heap→Prop} (h:Ok (FR_w (n+1) s_) Q) (hQ:∀z,Q z→Q' (.bool z) []):ACall Tryz.prog 58 [.sl (s_.map GNode.v),.fn (.func 59) []] [] Q':=by
 refine acallM mc_w [] [] [.t 4] Tryz.func58 fun M=>?_
 simp only [FR_w] at h
 unfold mc_w
 replace h:=tY h
 refine tB ?_
 repeat' (first
 | (exact tZ)
 | ((first|refine oblg h ?_|refine roomG h ?_|refine fork h ?_ ?_|refine forkS h ?_ ?_)<;>clear h<;>intro hc h)
 | (obtain ⟨y,hy,h⟩:=h;have hw:=ih_slices_IndexFunc_api_Node_api_Node_of_pattern_right_1 hy;replace hw:=tY hw;(first|refine M.sC hw ?_|refine M.sD hw ?_);clear hw hy;refine tB ?_)
 | (refine tE ?_;(first|rw [M.lok_compU]|rw [M.lokD_compU]);refine tB ?_)
 | (refine tA ?_)
 | fail)
@[irreducible] def mc_34:MC :=
 (.cond (.t 10)
 (.reg [mo (.ld (some 5) (.t 1)) 13,
 mo (.call (.f 56) [(.t 13)] [] []) 14,
 oV 14 3])
 (sR [mo (.bin false .eql (.t 5) (cI 4)) 16,
 oV 16 15]
 (.cond (.t 15)
 (.reg [mo (.ld (some 5) (.t 1)) 17,
 mo (.call (.f 57) [(.t 17)] [] []) 18,
 oV 18 3])
 .skip)))
@[irreducible] def mg_r:List MOp:=[gT 20 21 (.fad 2 (.t 1)),
 gT 20 22 (.ld none (.t 21)),
 gT 20 23 (.call (.f 58) [(.t 22),(.f 59)] [] []),
 gT 20 24 (.not (.t 23)),
 mo (.pick (.t 20) (.t 24) (.c (.bool false))) 25]
@[irreducible] def mc_35:MC :=
 (.seq (.regI [.op (oV 3 19),
 .op (oV 19 20),
 .grp mg_r,
 .op (oV 25 2)])
 .ret)
def mc_i:MC :=
 (sR [mo (.box (.t 0)) 1,
 mo (.mv (.c (.bool false))) 2]
 (sR [mo (.mv (.c (.bool false))) 3]
 (.cut (sR [oF 0 1 4,
 oL 4 5]
 (.block 0
 (sR [mo (.bin false .eql (.t 5) (cI 1)) 7,
 oV 7 6]
 (.cond (.t 6)
 (.reg [mo (.ld (some 5) (.t 1)) 8,
 mo (.call (.f 55) [(.t 8)] [] []) 9,
 oV 9 3])
 (.cut (sR [mo (.bin false .eql (.t 5) (cI 2)) 11,
 oV 11 10]
 (.cond (.t 10)
 .skip
 (.reg [mo (.bin false .eql (.t 5) (cI 3)) 12,
 oV 12 10])))
 mc_34)))))
 mc_35)))
theorem Wq_i {n:Nat} (ih_pattern_right_1:∀{k_:GNode} {y:Bool},FR_r n k_=some y→ACall Tryz.prog 59 [GNode.v k_] [] (fun r H=>r=.bool y∧H=[])) (ih_slices_IndexFunc_api_Node_api_Node_of_pattern_right_1:∀{s_:List GNode} {y:Int},FR_z n s_=some y→ACall Tryz.prog 77 [.sl (s_.map GNode.v),.fn (.func 59) []] [] (fun r H=>r=.int .i64 y∧H=[])) (ih_slices_ContainsFunc_api_Node_api_Node_of_pattern_right_1:∀{s_:List GNode} {y:Bool},FR_w n s_=some y→ACall Tryz.prog 58 [.sl (s_.map GNode.v),.fn (.func 59) []] [] (fun r H=>r=.bool y∧H=[])) (ih_pattern_right:∀{n_:GNode} {y:Bool},FR_i n n_=some y→ACall Tryz.prog 38 [GNode.v n_] [] (fun r H=>r=.bool y∧H=[])) (n_:GNode) {Q:Bool→Prop} {Q':V→Heap→Prop} (h:Ok (FR_i (n+1) n_) Q) (hQ:∀z,Q z→Q' (.bool z) []):ACall Tryz.prog 38 [GNode.v n_] [] Q':=by
 refine acallM mc_i [] [] [.t 2] Tryz.func38 fun M=>?_
 simp only [FR_i] at h
 unfold mc_i
 replace h:=tY h
 refine tB ?_
 repeat' (first
 | (exact tZ)
 | ((first|refine oblg h ?_|refine roomG h ?_|refine fork h ?_ ?_|refine forkS h ?_ ?_)<;>clear h<;>intro hc h)
 | (obtain ⟨y,hy,h⟩:=h;(first|with_reducible first|have hw:=Wq_1l.w hy|have hw:=Wq_1m.w hy|have hw:=Wq_1n.w hy|have hw:=ih_slices_ContainsFunc_api_Node_api_Node_of_pattern_right_1 hy);replace hw:=tY hw;(first|refine M.sC hw ?_|refine M.sD hw ?_);clear hw hy;refine tB ?_)
 | (refine M.jn1 (b:=mc_34) [1,3,5] [1] (fun y=>[(10,.bool y)]) (fun y=>[]) [] h ?_ ?_<;>first
 | (clear h;intro Qn K hK1 h;replace h:=tY h;refine tB ?_)
  |(clear h;intro y h;unfold mc_34;replace h:=tY h;refine tB ?_))
 | (refine M.gj1 (ms:=mg_r) [] [] (fun y=>[(25,.bool y)]) (fun y=>[]) h ?_ ?_<;>first
 | (clear h;intro Qn K hK2 h;unfold mg_r;replace h:=tY h;refine tB ?_)
  |(clear h;intro y h;replace h:=tY h;refine tB ?_))
 | (refine M.jn1 (b:=mc_35) [1] [1] (fun y=>[(3,.bool y)]) (fun y=>[]) [] h ?_ ?_<;>first
 | (clear h;intro Qn K hK3 h;replace h:=tY h;refine tB ?_)
  |(clear h;intro y h;unfold mc_35;replace h:=tY h;refine tB ?_))
 | ((first|refine hK1 _ ?_|refine hK2 _ ?_|refine hK3 _ ?_);(try refine tB ?_);refine ⟨_,h,?_⟩;exact tU0;done)
 | (refine tE ?_;(first|rw [M.lok_compU]|rw [M.lokD_compU]);refine tB ?_)
 | (refine tA ?_)
 | fail)
theorem WG_5q:∀n,(∀{k_:GNode} {y:Bool},FR_r n k_=some y→ACall Tryz.prog 59 [GNode.v k_] [] (fun r H=>r=.bool y∧H=[]))∧(∀{s_:List GNode} {y:Int},FR_z n s_=some y→ACall Tryz.prog 77 [.sl (s_.map GNode.v),.fn (.func 59) []] [] (fun r H=>r=.int .i64 y∧H=[]))∧(∀{s_:List GNode} {y:Bool},FR_w n s_=some y→ACall Tryz.prog 58 [.sl (s_.map GNode.v),.fn (.func 59) []] [] (fun r H=>r=.bool y∧H=[]))∧(∀{n_:GNode} {y:Bool},FR_i n n_=some y→ACall Tryz.prog 38 [GNode.v n_] [] (fun r H=>r=.bool y∧H=[]))
 | 0=>⟨fun hy=>(by simp only [FR_r] at hy;cases hy),fun hy=>(by simp only [FR_z] at hy;cases hy),fun hy=>(by simp only [FR_w] at hy;cases hy),fun hy=>(by simp only [FR_i] at hy;cases hy)⟩
 | n+1=>by
  obtain ⟨ih_pattern_right_1,ih_slices_IndexFunc_api_Node_api_Node_of_pattern_right_1,ih_slices_ContainsFunc_api_Node_api_Node_of_pattern_right_1,ih_pattern_right⟩:=WG_5q n
  refine ⟨?_,?_,?_,?_⟩
  ·exact fun hy=>Wq_r ih_pattern_right_1 ih_slices_IndexFunc_api_Node_api_Node_of_pattern_right_1 ih_slices_ContainsFunc_api_Node_api_Node_of_pattern_right_1 ih_pattern_right _ (Q:=(·=_)) ⟨_,hy,rfl⟩ fun|_,rfl=>⟨rfl,rfl⟩
  ·exact fun hy=>Wq_z ih_pattern_right_1 ih_slices_IndexFunc_api_Node_api_Node_of_pattern_right_1 ih_slices_ContainsFunc_api_Node_api_Node_of_pattern_right_1 ih_pattern_right _ (Q:=(·=_)) ⟨_,hy,rfl⟩ fun|_,rfl=>⟨rfl,rfl⟩
  ·exact fun hy=>Wq_w ih_pattern_right_1 ih_slices_IndexFunc_api_Node_api_Node_of_pattern_right_1 ih_slices_ContainsFunc_api_Node_api_Node_of_pattern_right_1 ih_pattern_right _ (Q:=(·=_)) ⟨_,hy,rfl⟩ fun|_,rfl=>⟨rfl,rfl⟩
  ·exact fun hy=>Wq_i ih_pattern_right_1 ih_slices_IndexFunc_api_Node_api_Node_of_pattern_right_1 ih_slices_ContainsFunc_api_Node_api_Node_of_pattern_right_1 ih_pattern_right _ (Q:=(·=_)) ⟨_,hy,rfl⟩ fun|_,rfl=>⟨rfl,rfl⟩
theorem W_i:∀{n_:GNode} {y:Bool},F_i n_=some y→ACall Tryz.prog 38 [GNode.v n_] [] (fun r H=>r=.bool y∧H=[]):=fun hy=>by
 obtain ⟨n,hn⟩:=lim_inv hy
 exact (WG_5q n).2.2.2 hn
def FR_8:Nat→GNode→Option Int
 | 0,_=>none
 | n+1,n_ =>
 jn (α:=Int) (bif decide (n_.Op=1) then some 1 else bif decide (n_.Op=2) then (foldL (fun (k49:Int) (a50:GNode) (x48:Int)=>((FR_8 n a50).bind fun y54=>chk (in64 (x48+y54)) (some (x48+y54)):Option Int)) n_.Kids 0 0).bind fun x55=>some x55 else bif decide (n_.Op=3) then (foldL (fun (k68:Int) (a69:GNode) (x67:Int)=>((FR_8 n a69).bind fun y73=>some (max x67 y73):Option Int)) n_.Kids 0 0).bind fun x74=>some x74 else chk (inb 0 n_.Kids.length) ((FR_8 n (n_.Kids.getD 0 default)).bind fun y75=>chk (in64 (n_.Max*y75)) (some (n_.Max*y75)))) fun j36=>some (min j36 1025)
noncomputable def F_8 (n_:GNode):Option Int:=lim fun n=>FR_8 n n_
@[irreducible] def mc_2m:MC :=
 (sR [mo (.bin false .lss (.t 25) (.t 24)) 26]
 (.seq (.cond (.t 26)
 .skip
 (.exit 1))
 (.seq (.block 2
 (sR [mo (.iad 5 (.t 23) (.t 25)) 27,
 mo (.ld (some 5) (.t 27)) 28,
 mo (.alloc [(.int .i64 0),(.sl []),(.sl []),(.int .i64 0),(.int .i64 0)]) 5,
 ⟨.st 5 (.t 5) (.t 28),none,none⟩]
 (.reg [oV 3 29,
 mo (.ld (some 5) (.t 5)) 30,
 mo (.call (.f 39) [(.t 30)] [] []) 31,
 mo (.bin true .add (.t 29) (.t 31)) 32,
 oV 32 3])))
 (.reg [mo (.bin true .add (.t 25) (cI 1)) 33,
 oV 33 25]))))
@[irreducible] def mc_2n:MC :=
 (sR [mo (.bin false .lss (.t 39) (.t 38)) 40]
 (.seq (.cond (.t 40)
 .skip
 (.exit 3))
 (.seq (.block 4
 (sR [mo (.iad 5 (.t 37) (.t 39)) 41,
 mo (.ld (some 5) (.t 41)) 42,
 mo (.alloc [(.int .i64 0),(.sl []),(.sl []),(.int .i64 0),(.int .i64 0)]) 7,
 ⟨.st 5 (.t 7) (.t 42),none,none⟩]
 (.reg [oV 3 43,
 mo (.ld (some 5) (.t 7)) 44,
 mo (.call (.f 39) [(.t 44)] [] []) 45,
 mo (.mm true (.t 43) (.t 45)) 46,
 oV 46 3])))
 (.reg [mo (.bin true .add (.t 39) (cI 1)) 47,
 oV 47 39]))))
@[irreducible] def mc_36:MC :=
 (sR [oV 3 48,
 mo (.mm false (.t 48) (cI 1025)) 49,
 oV 49 2]
 .ret)
def mc_8:MC :=
 (sR [mo (.box (.t 0)) 1,
 oC 0 2]
 (sR [oC 0 3]
 (.cut (sR [oF 0 1 8,
 oL 8 9]
 (.block 0
 (sR [mo (.bin false .eql (.t 9) (cI 1)) 19,
 oV 19 18]
 (.cond (.t 18)
 (.reg [oC 1 3])
 (sR [mo (.bin false .eql (.t 9) (cI 2)) 21,
 oV 21 20]
 (.cond (.t 20)
 (.seq (.note (.gc [1,3]) (.reg [oF 2 1 22,
 oL 22 23,
 mo (.len false (.t 23)) 24,
 oC 0 25]))
 (.block 1
 (.loop mc_2m)))
 (sR [mo (.bin false .eql (.t 9) (cI 3)) 35,
 oV 35 34]
 (.cond (.t 34)
 (.seq (.note (.gc [1,3]) (.reg [oF 2 1 36,
 oL 36 37,
 mo (.len false (.t 37)) 38,
 oC 0 39]))
 (.block 3
 (.loop mc_2n)))
 (.note (.gc [1]) (.regD [oF 4 1 10,
 oL 10 11,
 oF 2 1 12,
 oL 12 13,
 mo (.iad 5 (.t 13) (cI 0)) 14,
 mo (.ld (some 5) (.t 14)) 15,
 mo (.call (.f 39) [(.t 15)] [] []) 16,
 mo (.bin true .mul (.t 11) (.t 16)) 17,
 oV 17 3]
 [[],[0],[],[2],[3],[4],[5],[1,6],[7,6,0,1,2,3,4,5,6,7]]
 [[],[0],[],[2],[2,3],[2,3,4],[2,3,4,5],[0,1,2,3,4,5,6],[0,1,2,3,4,5,6,7]]))))))))))
 mc_36)))
theorem Wq_8 {n:Nat} (ih_pattern_longest:∀{n_:GNode} {y:Int},FR_8 n n_=some y→ACall Tryz.prog 39 [GNode.v n_] [] (fun r H=>r=.int .i64 y∧H=[])) (n_:GNode) {Q:Int→Prop} {Q':V→Heap→Prop} (h:Ok (FR_8 (n+1) n_) Q) (hQ:∀z,Q z→Q' (.int .i64 z) []):ACall Tryz.prog 39 [GNode.v n_] [] Q':=by
 refine acallM mc_8 [] [] [.t 2] Tryz.func39 fun M=>?_
 simp only [FR_8] at h
 unfold mc_8
 replace h:=tY h
 refine tB ?_
 repeat' (first
 | (exact tZ)
 | ((first|refine oblg h ?_|refine roomG h ?_|refine fork h ?_ ?_|refine forkS h ?_ ?_)<;>clear h<;>intro hc h)
 | (obtain ⟨y,hy,h⟩:=h;have hw:=ih_pattern_longest hy;replace hw:=tY hw;(first|refine M.sC hw ?_|refine M.sD hw ?_);clear hw hy;refine tB ?_)
 | (refine M.fold1 (b:=mc_2m) 25 [23,24] [] (fun x=>[(3,.int .i64 x)]) (fun x=>[]) [] h ?_ ?_ ?_<;>first
 | (clear h;intro k a x Qn K hK1 hkN1 ha1 h hf;have hl:=fact_int (factsE_find (n:=24) hf.1 rfl);clear hf;have hkd:=kD hkN1;have hkB1:=kB hkN1;have hkI1:=kI (k:=k) (by omega);unfold mc_2m;replace h:=tY h;refine tK ha1 hkd hkN1 hkB1 hkI1 ?_)
  |(clear h;intro x K h;replace h:=And.left (And.intro h trivial);unfold mc_2m;replace h:=tY h;refine tB ?_)
  |(clear h;(try refine tB ?_);exact tU0;done))
 | (refine M.fold1 (b:=mc_2n) 39 [37,38] [] (fun x=>[(3,.int .i64 x)]) (fun x=>[]) [] h ?_ ?_ ?_<;>first
 | (clear h;intro k a x Qn K hK2 hkN2 ha2 h hf;have hl:=fact_int (factsE_find (n:=38) hf.1 rfl);clear hf;have hkd:=kD hkN2;have hkB2:=kB hkN2;have hkI2:=kI (k:=k) (by omega);unfold mc_2n;replace h:=tY h;refine tK ha2 hkd hkN2 hkB2 hkI2 ?_)
  |(clear h;intro x K h;replace h:=And.left (And.intro h trivial);unfold mc_2n;replace h:=tY h;refine tB ?_)
  |(clear h;(try refine tB ?_);exact tU0;done))
 | (refine M.jn1 (b:=mc_36) [] [] (fun y=>[(3,.int .i64 y)]) (fun y=>[]) [] h ?_ ?_<;>first
 | (clear h;intro Qn K hK3 h;replace h:=tY h;refine tB ?_)
  |(clear h;intro y h;unfold mc_36;replace h:=tY h;refine tB ?_))
 | (first|simp only [ha1]|simp only [ha2])
 | ((first|refine hK1 _ ?_|refine hK2 _ ?_|refine hK3 _ ?_);(try refine tB ?_);refine ⟨_,h,?_⟩;exact tU0;done)
 | (refine tE ?_;(first|rw [M.lok_compU]|rw [M.lokD_compU]);refine tB ?_)
 | (refine tA ?_)
 | fail)
theorem WG_8:∀n,(∀{n_:GNode} {y:Int},FR_8 n n_=some y→ACall Tryz.prog 39 [GNode.v n_] [] (fun r H=>r=.int .i64 y∧H=[]))
 | 0=>fun hy=>(by simp only [FR_8] at hy;cases hy)
 | n+1=>by
  have ih_pattern_longest:=@WG_8 n
  exact fun hy=>Wq_8 ih_pattern_longest _ (Q:=(·=_)) ⟨_,hy,rfl⟩ fun|_,rfl=>⟨rfl,rfl⟩
theorem W_8:∀{n_:GNode} {y:Int},F_8 n_=some y→ACall Tryz.prog 39 [GNode.v n_] [] (fun r H=>r=.int .i64 y∧H=[]):=fun hy=>by
 obtain ⟨n,hn⟩:=lim_inv hy
 exact (WG_8 n) hn
noncomputable def F_11 (n_:GNode):Option Int :=
 (F_g n_).bind fun y10=>bif decide (200<y10) then some 3 else (F_h n_ 20).bind fun y12=>bif decide (20<y12) then some 9 else (F_i n_).bind fun y14=>bif (!y14) then some 1 else (F_8 n_).bind fun y16=>bif decide (1024<y16) then some 3 else some 0
def mc_11:MC :=
 (sR [mo (.box (.t 0)) 1,
 oC 0 2]
 (.seq (.block 0
 (sR [mo (.ld (some 5) (.t 1)) 4,
 mo (.call (.f 14) [(.t 4)] [] []) 5,
 mo (.bin false .gtr (.t 5) (cI 200)) 6,
 oV 6 3]
 (.cond (.t 3)
 (sR [oC 3 2]
 .ret)
 (sR [mo (.ld (some 5) (.t 1)) 8,
 mo (.call (.f 37) [(.t 8),(cI 20)] [] []) 9,
 mo (.bin false .gtr (.t 9) (cI 20)) 10,
 oV 10 7]
 (.cond (.t 7)
 (sR [oC 9 2]
 .ret)
 (.seq (.note (.gc [1]) (.reg [mo (.ld (some 5) (.t 1)) 12,
 mo (.call (.f 38) [(.t 12)] [] []) 13,
 mo (.not (.t 13)) 14,
 oV 14 11]))
 (.cond (.t 11)
 (sR [oC 1 2]
 .ret)
 (sR [mo (.ld (some 5) (.t 1)) 16,
 mo (.call (.f 39) [(.t 16)] [] []) 17,
 mo (.bin false .gtr (.t 17) (cI 1024)) 18,
 oV 18 15]
 (.cond (.t 15)
 (sR [oC 3 2]
 .ret)
 .skip)))))))))
 (sR [oC 0 2]
 .ret)))
theorem Wq_11 {n_:GNode}:Cn Tryz.prog 12 [GNode.v n_] [] (F_11 n_) (fun z=>.int .i64 z) (fun z=>[]):=fun Q Q' h hQ=>by
 refine acallM mc_11 [] [] [.t 2] Tryz.func12 fun M=>?_
 unfold F_11 at h
 unfold mc_11
 replace h:=tY h
 refine tB ?_
 repeat' (first
 | (exact tZ)
 | ((first|refine oblg h ?_|refine roomG h ?_|refine fork h ?_ ?_|refine forkS h ?_ ?_)<;>clear h<;>intro hc h)
 | (obtain ⟨y,hy,h⟩:=h;(first|with_reducible first|have hw:=W_g hy|have hw:=W_h hy|have hw:=W_i hy|have hw:=W_8 hy);replace hw:=tY hw;(first|refine M.sC hw ?_|refine M.sD hw ?_);clear hw hy;refine tB ?_)
 | (refine tE ?_;(first|rw [M.lok_compU]|rw [M.lokD_compU]);refine tB ?_)
 | (refine tA ?_)
 | fail)
def F_1d (s_:Str) (c_:UInt8):Option Int :=
 (ixb s_ c_).bind fun y2=>some y2
def mc_1d:MC :=
 (sR [oC 0 4]
 (sR [oV 0 5,
 oV 1 6,
 mo (.call (.f 98) [(.t 5),(.t 6)] [] []) 7,
 oV 7 4]
 .ret))
theorem Wq_1d {s_:Str} {c_:UInt8}:Cn Tryz.prog 90 [.str s_,byteV c_] [] (F_1d s_ c_) (fun z=>.int .i64 z) (fun z=>[]):=fun Q Q' h hQ=>by
 refine acallM mc_1d [] [] [.t 4] Tryz.func90 fun M=>?_
 unfold F_1d at h
 unfold mc_1d
 replace h:=tY h
 refine tB ?_
 repeat' (first
 | (exact tZ)
 | ((first|refine oblg h ?_|refine roomG h ?_|refine fork h ?_ ?_|refine forkS h ?_ ?_)<;>clear h<;>intro hc h)
 | (obtain ⟨y,hy,h⟩:=h;have hw:=W_60 hy;replace hw:=tY hw;(first|refine M.sC hw ?_|refine M.sD hw ?_);clear hw hy;refine tB ?_)
 | (refine tE ?_;(first|rw [M.lok_compU]|rw [M.lokD_compU]);refine tB ?_)
 | (refine tA ?_)
 | fail)
def F_c (c_:UInt8):Option Str :=
 grp ((decide ((c_.toNat:Int)<33)||decide (126<(c_.toNat:Int)))) fun b7=>bif b7 then chk (inc ((c_.toNat:Int) / 2^4) ((u8 (((c_.toNat:Int) / 2^4)+1)).toNat:Int) ([48,49,50,51,52,53,54,55,56,57,97,98,99,100,101,102]:Str).length) (chk (strl ([92,120].length+((([48,49,50,51,52,53,54,55,56,57,97,98,99,100,101,102]:Str).take ((((u8 (((c_.toNat:Int) / 2^4)+1)).toNat:Int)).toNat)).drop ((((c_.toNat:Int) / 2^4)).toNat)).length)) (chk (inc ((c_.toNat:Int) % 2^4) ((u8 (((c_.toNat:Int) % 2^4)+1)).toNat:Int) ([48,49,50,51,52,53,54,55,56,57,97,98,99,100,101,102]:Str).length) (chk (strl ((([92,120]:Str)++((([48,49,50,51,52,53,54,55,56,57,97,98,99,100,101,102]:Str).take ((((u8 (((c_.toNat:Int) / 2^4)+1)).toNat:Int)).toNat)).drop ((((c_.toNat:Int) / 2^4)).toNat))).length+((([48,49,50,51,52,53,54,55,56,57,97,98,99,100,101,102]:Str).take ((((u8 (((c_.toNat:Int) % 2^4)+1)).toNat:Int)).toNat)).drop ((((c_.toNat:Int) % 2^4)).toNat)).length)) (some ((([92,120]:Str)++((([48,49,50,51,52,53,54,55,56,57,97,98,99,100,101,102]:Str).take ((((u8 (((c_.toNat:Int) / 2^4)+1)).toNat:Int)).toNat)).drop ((((c_.toNat:Int) / 2^4)).toNat)))++((([48,49,50,51,52,53,54,55,56,57,97,98,99,100,101,102]:Str).take ((((u8 (((c_.toNat:Int) % 2^4)+1)).toNat:Int)).toNat)).drop ((((c_.toNat:Int) % 2^4)).toNat))))))) else (F_1d [92,91,93,40,41,123,125,124,45] c_).bind fun y8=>bif decide (0≤y8) then chk (inc ((c_.toNat:Int) / 2^4) ((u8 (((c_.toNat:Int) / 2^4)+1)).toNat:Int) ([48,49,50,51,52,53,54,55,56,57,97,98,99,100,101,102]:Str).length) (chk (strl ([92,120].length+((([48,49,50,51,52,53,54,55,56,57,97,98,99,100,101,102]:Str).take ((((u8 (((c_.toNat:Int) / 2^4)+1)).toNat:Int)).toNat)).drop ((((c_.toNat:Int) / 2^4)).toNat)).length)) (chk (inc ((c_.toNat:Int) % 2^4) ((u8 (((c_.toNat:Int) % 2^4)+1)).toNat:Int) ([48,49,50,51,52,53,54,55,56,57,97,98,99,100,101,102]:Str).length) (chk (strl ((([92,120]:Str)++((([48,49,50,51,52,53,54,55,56,57,97,98,99,100,101,102]:Str).take ((((u8 (((c_.toNat:Int) / 2^4)+1)).toNat:Int)).toNat)).drop ((((c_.toNat:Int) / 2^4)).toNat))).length+((([48,49,50,51,52,53,54,55,56,57,97,98,99,100,101,102]:Str).take ((((u8 (((c_.toNat:Int) % 2^4)+1)).toNat:Int)).toNat)).drop ((((c_.toNat:Int) % 2^4)).toNat)).length)) (some ((([92,120]:Str)++((([48,49,50,51,52,53,54,55,56,57,97,98,99,100,101,102]:Str).take ((((u8 (((c_.toNat:Int) / 2^4)+1)).toNat:Int)).toNat)).drop ((((c_.toNat:Int) / 2^4)).toNat)))++((([48,49,50,51,52,53,54,55,56,57,97,98,99,100,101,102]:Str).take ((((u8 (((c_.toNat:Int) % 2^4)+1)).toNat:Int)).toNat)).drop ((((c_.toNat:Int) % 2^4)).toNat))))))) else chk (rngb .i32 (c_.toNat:Int)) (chk (asc (c_.toNat:Int)) (some [u8 (c_.toNat:Int)]))
@[irreducible] def mg_37:List MOp:=[gF 5 6 (.mv (.t 0)),
 gF 5 7 (.bin false .gtr (.t 6) (.c (.int .u8 126))),
 mo (.pick (.t 5) (.c (.bool true)) (.t 7)) 8]
def mc_c:MC :=
 (sR [mo (.mv (.c (.str []))) 2]
 (.seq (.seq (.regI [.op (oV 0 3),
 .op (mo (.bin false .lss (.t 3) (.c (.int .u8 33))) 4),
 .op (oV 4 5),
 .grp mg_37,
 .op (oV 8 9),
 .op (gF 9 10 (.mv (.t 0))),
 .op (gF 9 11 (.call (.f 90) [(.c (.str [92,91,93,40,41,123,125,124,45])),(.t 10)] [] [])),
 .op (gF 9 12 (.bin false .geq (.t 11) (cI 0))),
 .op (mo (.pick (.t 9) (.c (.bool true)) (.t 12)) 13)])
 (.cond (.t 13)
 (.seq (.note (.gc [0]) (.regD [oV 0 14,
 mo (.bin false .shr (.t 14) (.c (.int .u64 4))) 15,
 oV 0 16,
 mo (.bin false .shr (.t 16) (.c (.int .u64 4))) 17,
 mo (.bin false .add (.t 17) (.c (.int .u8 1))) 18,
 mo (.sls (.c (.str [48,49,50,51,52,53,54,55,56,57,97,98,99,100,101,102])) (some (.t 15)) (some (.t 18))) 19,
 mo (.bin false .add (.c (.str [92,120])) (.t 19)) 20,
 oV 0 21,
 mo (.mask 4 (.t 21) .u8) 22,
 oV 0 23,
 mo (.mask 4 (.t 23) .u8) 24,
 mo (.bin false .add (.t 24) (.c (.int .u8 1))) 25,
 mo (.sls (.c (.str [48,49,50,51,52,53,54,55,56,57,97,98,99,100,101,102])) (some (.t 22)) (some (.t 25))) 26,
 mo (.bin false .add (.t 20) (.t 26)) 27,
 oV 27 2]
 [[],[0],[],[2],[3],[1,4],[5],[],[7],[],[9],[10],[8,11],[6,12],[13,0,1,2,3,4,5,6,7,8,9,10,11,12,13]]
 [[],[0],[],[2],[2,3],[0,1,2,3,4],[0,1,2,3,4,5],[],[7],[],[9],[9,10],[7,8,9,10,11],[0,1,2,3,4,5,6,7,8,9,10,11,12],[0,1,2,3,4,5,6,7,8,9,10,11,12,13]]))
 .ret)
 .skip))
 (.seq (.note (.gc [0]) (.reg [oV 0 28,
 mo (.i2i true .i32 (.t 28)) 29,
 mo (.mp .r2s [(.t 29)]) 30,
 oV 30 2]))
 .ret)))
theorem Wq_c {c_:UInt8}:Cn Tryz.prog 78 [byteV c_] [] (F_c c_) (fun z=>.str z) (fun z=>[]):=fun Q Q' h hQ=>by
 refine acallM mc_c [] [] [.t 2] Tryz.func78 fun M=>?_
 unfold F_c at h
 unfold mc_c
 replace h:=tY h
 refine tB ?_
 repeat' (first
 | (exact tZ)
 | ((first|refine oblg h ?_|refine roomG h ?_|refine incG h ?_|refine fork h ?_ ?_|refine forkS h ?_ ?_)<;>clear h<;>intro hc h)
 | (obtain ⟨y,hy,h⟩:=h;have hw:=Wq_1d.w hy;replace hw:=tY hw;(first|refine M.sC hw ?_|refine M.sD hw ?_);clear hw hy;refine tB ?_)
 | (refine M.gv1 (ms:=mg_37) 8 [6,7] h ?_ ?_<;>first
 | (clear h;intro K hK1;unfold mg_37;refine tB ?_)
 | (clear h;intro b h;replace h:=tY h;refine tB ?_))
 | (refine hK1 _ ?_;exact tU;done)
 | (refine bfork (fun hc=>?_) (fun hc=>?_))
 | (refine tE ?_;(first|rw [M.lok_compU]|rw [M.lokD_compU]);refine tB ?_)
 | (refine tA ?_)
 | fail)
def F_28 (k111:Int) (a112:GRange) (x110:List UInt8):Option (List UInt8) :=
 (F_c a112.Low).bind fun y133=>(bws x110 y133).bind fun y134=>bif (!decide ((a112.High.toNat:Int)=(a112.Low.toNat:Int))) then (F_c a112.High).bind fun y135=>chk (strl ([45].length+y135.length)) ((bws y134 (([45]:Str)++y135)).bind fun y136=>some y136) else some y134
def F_1o (out_:Str) (l_:List GRange):Option Str :=
 jn (α:=Fl Unit Str) (bif decide ((l_.length:Int)=1) then chk (inb 0 l_.length) (chk (inb 0 l_.length) (bif decide ((((l_.getD 0 default).Low).toNat:Int)=(((l_.getD 0 default).High).toNat:Int)) then chk (inb 0 l_.length) ((F_c ((l_.getD 0 default).Low)).bind fun y8=>(bws out_ y8).bind fun y9=>some (.ex y9)) else some (.nx ()))) else some (.nx ())) fun o=>o.elim (fun j5=>(bwb out_ 91).bind fun y11=>(foldL F_28 l_ 0 y11).bind fun x137=>(bwb x137 93).bind fun y138=>some y138) (fun r139=>some r139)
@[irreducible] def mc_28:MC :=
 (sR [mo (.bin false .lss (.t 31) (.t 30)) 32]
 (.seq (.cond (.t 32)
 .skip
 (.exit 0))
 (.seq (.block 1
 (sR [mo (.iad 2 (.t 29) (.t 31)) 33,
 mo (.ld (some 2) (.t 33)) 34,
 mo (.alloc [(.int .u8 0),(.int .u8 0)]) 5,
 ⟨.st 2 (.t 5) (.t 34),none,none⟩]
 (sR [oV 0 35,
 oF 0 5 36,
 oL 36 37,
 mo (.call (.f 78) [(.t 37)] [] []) 38,
 mo (.call (.f 65) [(.t 35),(.t 38)] [1000,20001] [10497]) 39]
 (.seq (.note (.gc [0,5,29,30,31]) (.reg [oF 1 5 40,
 oL 40 41,
 oF 0 5 42,
 oL 42 43,
 mo (.bin false .neq (.t 41) (.t 43)) 44]))
 (.cond (.t 44)
 (.reg [oV 0 45,
 oF 1 5 46,
 oL 46 47,
 mo (.call (.f 78) [(.t 47)] [] []) 48,
 mo (.bin false .add (.c (.str [45])) (.t 48)) 49,
 mo (.call (.f 65) [(.t 45),(.t 49)] [1000,10497] [11201]) 50])
 .skip)))))
 (.reg [mo (.bin true .add (.t 31) (cI 1)) 51,
 oV 51 31]))))
@[irreducible] def mc_38:MC :=
 (sR [oV 0 27,
 mo (.call (.f 64) [(.t 27),(.c (.int .u8 91))] [1000,1001] [9793]) 28]
 (.seq (sR [oV 1 29,
 mo (.len false (.t 29)) 30,
 oC 0 31]
 (.block 0
 (.loop mc_28)))
 (.reg [oV 0 52,
 mo (.call (.f 64) [(.t 52),(.c (.int .u8 93))] [1000,20001] [11393]) 53])))
def mc_1o:MC :=
 (.cut (.seq (.regD [oV 1 6,
 mo (.len false (.t 6)) 7,
 mo (.bin false .eql (.t 7) (cI 1)) 8,
 oV 8 9,
 gT 9 10 (.mv (.t 1)),
 gT 9 11 (.iad 2 (.t 10) (cI 0)),
 gT 9 12 (.fad 0 (.t 11)),
 gT 9 13 (.ld none (.t 12)),
 gT 9 14 (.mv (.t 1)),
 gT 9 15 (.iad 2 (.t 14) (cI 0)),
 gT 9 16 (.fad 1 (.t 15)),
 gT 9 17 (.ld none (.t 16)),
 gT 9 18 (.bin false .eql (.t 13) (.t 17)),
 mo (.pick (.t 9) (.t 18) (.c (.bool false))) 19]
 [[],[0],[1],[2],[3],[4,3],[5,3],[6,3],[3],[8,3],[9,3],[10,3],[7,11,3],[3,12]]
 [[],[0],[0,1],[0,1,2],[0,1,2,3],[0,1,2,3,4],[0,1,2,3,4,5],[0,1,2,3,4,5,6],[0,1,2,3],[0,1,2,3,8],[0,1,2,3,8,9],[0,1,2,3,8,9,10],[0,1,2,3,4,5,6,7,8,9,10,11],[0,1,2,3,4,5,6,7,8,9,10,11,12]])
 (.cond (.t 19)
 (.seq (.note (.gc [0,1]) (.reg [oV 0 20,
 oV 1 21,
 mo (.iad 2 (.t 21) (cI 0)) 22,
 oF 0 22 23,
 oL 23 24,
 mo (.call (.f 78) [(.t 24)] [] []) 25,
 mo (.call (.f 65) [(.t 20),(.t 25)] [1000,1001] [9665]) 26]))
 .ret)
 .skip))
 mc_38)
theorem Wq_1o {out_:Str} {l_:List GRange}:Cn Tryz.prog 62 [.ptr 1000 0,.sl (l_.map GRange.v)] [(1000,.cells [.bptr 1000,.osl 1001 1 0 out_.length] (some 65)),(1001,.arr 1 (out_.map byteV) (some 5))] (F_1o out_ l_) (fun z=>.tup []) (fun z=>[(1000,.cells [.bptr 1000,.osl 1701 1 0 z.length] (some 65)),(1701,.arr 1 (z.map byteV) (some 5))]):=fun Q Q' h hQ=>by
 refine acallM mc_1o [.ownC 1000 1 1701 1 none] [1000,1701] [] Tryz.func62 fun M=>?_
 unfold F_1o at h
 unfold mc_1o
 replace h:=tY h
 refine tB ?_
 repeat' (first
 | (exact tZ)
 | ((first|refine oblg h ?_|refine roomG h ?_|refine fork h ?_ ?_|refine forkS h ?_ ?_)<;>clear h<;>intro hc h)
 | (obtain ⟨y,hy,h⟩:=h;have hw:=acall_swe 1002 9665 (W_2i hy);replace hw:=tY hw;(first|refine M.sC hw ?_|refine M.sD hw ?_);clear hw hy;refine tB ?_)
 | (obtain ⟨y,hy,h⟩:=h;have hw:=acall_swe 1002 9793 (W_2b hy);replace hw:=tY hw;(first|refine M.sC hw ?_|refine M.sD hw ?_);clear hw hy;refine tB ?_)
 | (obtain ⟨y,hy,h⟩:=h;have hw:=acall_swe 1002 10497 (acall_swe 1001 9793 (W_2i hy));replace hw:=tY hw;(first|refine M.sC hw ?_|refine M.sD hw ?_);clear hw hy;refine tB ?_)
 | (obtain ⟨y,hy,h⟩:=h;have hw:=acall_swe 1002 11201 (acall_swe 1001 10497 (W_2i hy));replace hw:=tY hw;(first|refine M.sC hw ?_|refine M.sD hw ?_);clear hw hy;refine tB ?_)
 | (obtain ⟨y,hy,h⟩:=h;have hw:=acall_swe 1002 10497 (acall_swe 1001 20001 (W_2i hy));replace hw:=tY hw;(first|refine M.sC hw ?_|refine M.sD hw ?_);clear hw hy;refine tB ?_)
 | (obtain ⟨y,hy,h⟩:=h;have hw:=acall_swe 1002 11393 (acall_swe 1001 20001 (W_2b hy));replace hw:=tY hw;(first|refine M.sC hw ?_|refine M.sD hw ?_);clear hw hy;refine tB ?_)
 | (obtain ⟨y,hy,h⟩:=h;have hw:=Wq_c.w hy;replace hw:=tY hw;(first|refine M.sC hw ?_|refine M.sD hw ?_);clear hw hy;refine tB ?_)
 | (refine M.fold1 (b:=mc_28) 31 [0,29,30] [1000] (fun x=>[]) (fun x=>[.p 1000 1 [.osl 20001 1 0 x.length],.o 20001 (.arr 1 (x.map byteV) (some 5))]) [.gc [0,29,30,31],.ownC 1000 1 20001 1 none] h ?_ ?_ ?_<;>first
 | (clear h;intro k a x Qn K hK1 hkN1 ha1 h hf;have hl:=fact_int (factsE_find (n:=30) hf.1 rfl);clear hf;have hkd:=kD hkN1;have hkB1:=kB hkN1;have hkI1:=kI (k:=k) (by omega);unfold F_28 at h;unfold mc_28;replace h:=tY h;refine tK ha1 hkd hkN1 hkB1 hkI1 ?_)
  |(clear h;intro x K h;replace h:=And.left (And.intro h trivial);unfold mc_28;replace h:=tY h;refine tB ?_)
  |(clear h;(try refine tB ?_);exact tU0;done))
 | (refine M.jnE (b:=mc_38) [0,1] [1000,1001] (fun y=>[]) (fun y=>[]) [] h ?_ ?_<;>first
 | (clear h;intro Qn K hK2 h;replace h:=tY h;refine tB ?_)
  |(clear h;intro y h;unfold mc_38;replace h:=tY h;refine tB ?_))
 | (simp only [ha1])
 | ((first|refine hK1 _ ?_|refine hK2 _ ?_);(try refine tB ?_);refine ⟨_,h,?_⟩;exact tU0;done)
 | (refine tE ?_;(first|rw [M.lok_compU]|rw [M.lokD_compU]);refine tB ?_)
 | (refine tA ?_)
 | fail)
mutual
def FR_10:Nat→Str→GNode→Bool→Option Str
 | 0,_,_,_=>none
 | n+1,out_,n_,parentheses_ =>
 jn (α:=List UInt8) (bif parentheses_ then (bwb out_ 40).bind fun y3=>some y3 else some out_) fun j2=>(FR_l n j2 n_).bind fun y5=>bif parentheses_ then (bwb y5 41).bind fun y6=>some y6 else some y5
def FR_l:Nat→Str→GNode→Option Str
 | 0,_,_=>none
 | n+1,out_,n_ =>
 bif decide (n_.Op=1) then (F_1o out_ n_.Ranges).bind fun y1=>some y1 else bif decide (n_.Op=2) then (foldL (fun (k14:Int) (a15:GNode) (x13:List UInt8)=>((FR_10 n x13 a15 (decide (a15.Op=3))).bind fun y19=>some y19:Option (List UInt8))) n_.Kids 0 out_).bind fun x20=>some x20 else bif decide (n_.Op=3) then (foldL (fun (k45:Int) (a46:GNode) (x44:List UInt8)=>(jn (α:=List UInt8) (bif decide (0<k45) then (bwb x44 124).bind fun y58=>some y58 else some x44) fun j57=>(FR_l n j57 a46).bind fun y59=>some y59:Option (List UInt8))) n_.Kids 0 out_).bind fun x60=>some x60 else chk (inb 0 n_.Kids.length) (chk (inb 0 n_.Kids.length) ((FR_10 n out_ (n_.Kids.getD 0 default) (!decide ((n_.Kids.getD 0 default).Op=1))).bind fun y62=>(itoaI n_.Min).bind fun y65=>chk (strl ([123].length+y65.length)) ((bws y62 (([123]:Str)++y65)).bind fun y66=>jn (α:=List UInt8) (bif (!decide (n_.Max=n_.Min)) then (itoaI n_.Max).bind fun y70=>chk (strl ([44].length+y70.length)) ((bws y66 (([44]:Str)++y70)).bind fun y71=>some y71) else some y66) fun j69=>(bwb j69 125).bind fun y72=>some y72)))
end
noncomputable def F_l (out_:Str) (n_:GNode):Option Str:=lim fun n=>FR_l n out_ n_
@[irreducible] def mc_39:MC :=
 (sR [oV 0 9,
 mo (.ld (some 5) (.t 4)) 10,
 mo (.call (.f 48) [(.t 9),(.t 10)] [1000,20001] [8705]) 11]
 (sR [oV 2 12]
 (.cond (.t 12)
 (.reg [oV 0 13,
 mo (.call (.f 64) [(.t 13),(.c (.int .u8 41))] [1000,8705] [8897]) 14])
 .skip)))
def mc_10:MC :=
 (sR [mo (.box (.t 1)) 4]
 (.cut (sR [oV 2 6]
 (.cond (.t 6)
 (.reg [oV 0 7,
 mo (.call (.f 64) [(.t 7),(.c (.int .u8 40))] [1000,1001] [8513]) 8])
 .skip))
 mc_39))
theorem Wq_10 {n:Nat} (ih_pattern_kid:∀{out_:Str} {n_:GNode} {parentheses_:Bool} {y:Str},FR_10 n out_ n_ parentheses_=some y→ACall Tryz.prog 63 [.ptr 1000 0,GNode.v n_,.bool parentheses_] [(1000,.cells [.bptr 1000,.osl 1001 1 0 out_.length] (some 65)),(1001,.arr 1 (out_.map byteV) (some 5))] (fun r H=>r=.tup []∧H=[(1000,.cells [.bptr 1000,.osl 1701 1 0 y.length] (some 65)),(1701,.arr 1 (y.map byteV) (some 5))])) (ih_pattern_write:∀{out_:Str} {n_:GNode} {y:Str},FR_l n out_ n_=some y→ACall Tryz.prog 48 [.ptr 1000 0,GNode.v n_] [(1000,.cells [.bptr 1000,.osl 1001 1 0 out_.length] (some 65)),(1001,.arr 1 (out_.map byteV) (some 5))] (fun r H=>r=.tup []∧H=[(1000,.cells [.bptr 1000,.osl 1701 1 0 y.length] (some 65)),(1701,.arr 1 (y.map byteV) (some 5))])) (out_:Str) (n_:GNode) (parentheses_:Bool) {Q:Str→Prop} {Q':V→Heap→Prop} (h:Ok (FR_10 (n+1) out_ n_ parentheses_) Q) (hQ:∀z,Q z→Q' (.tup []) [(1000,.cells [.bptr 1000,.osl 1701 1 0 z.length] (some 65)),(1701,.arr 1 (z.map byteV) (some 5))]):ACall Tryz.prog 63 [.ptr 1000 0,GNode.v n_,.bool parentheses_] [(1000,.cells [.bptr 1000,.osl 1001 1 0 out_.length] (some 65)),(1001,.arr 1 (out_.map byteV) (some 5))] Q':=by
 refine acallM mc_10 [.ownC 1000 1 1701 1 none] [1000,1701] [] Tryz.func63 fun M=>?_
 simp only [FR_10] at h
 unfold mc_10
 replace h:=tY h
 refine tB ?_
 repeat' (first
 | (exact tZ)
 | ((first|refine oblg h ?_|refine roomG h ?_|refine fork h ?_ ?_|refine forkS h ?_ ?_)<;>clear h<;>intro hc h)
 | (obtain ⟨y,hy,h⟩:=h;have hw:=acall_swe 1002 8513 (W_2b hy);replace hw:=tY hw;(first|refine M.sC hw ?_|refine M.sD hw ?_);clear hw hy;refine tB ?_)
 | (obtain ⟨y,hy,h⟩:=h;have hw:=acall_swe 1002 8897 (acall_swe 1001 8705 (W_2b hy));replace hw:=tY hw;(first|refine M.sC hw ?_|refine M.sD hw ?_);clear hw hy;refine tB ?_)
 | (obtain ⟨y,hy,h⟩:=h;have hw:=acall_swe 1701 8705 (acall_swe 1001 20001 (ih_pattern_write hy));replace hw:=tY hw;(first|refine M.sC hw ?_|refine M.sD hw ?_);clear hw hy;refine tB ?_)
 | (refine M.jn1 (b:=mc_39) [0,2,4] [4,1000] (fun y=>[]) (fun y=>[.p 1000 1 [.osl 20001 1 0 y.length],.o 20001 (.arr 1 (y.map byteV) (some 5))]) [.gc [0,2,4],.ownC 1000 1 20001 1 none] h ?_ ?_<;>first
 | (clear h;intro Qn K hK1 h;replace h:=tY h;refine tB ?_)
  |(clear h;intro y h;unfold mc_39;replace h:=tY h;refine tB ?_))
 | (refine hK1 _ ?_;(try refine tB ?_);refine ⟨_,h,?_⟩;exact tU0;done)
 | (refine tE ?_;(first|rw [M.lok_compU]|rw [M.lokD_compU]);refine tB ?_)
 | (refine tA ?_)
 | fail)
@[irreducible] def mc_2o:MC :=
 (sR [mo (.bin false .lss (.t 52) (.t 51)) 53]
 (.seq (.cond (.t 53)
 .skip
 (.exit 1))
 (.seq (.block 2
 (sR [mo (.iad 5 (.t 50) (.t 52)) 54,
 mo (.ld (some 5) (.t 54)) 55,
 mo (.alloc [(.int .i64 0),(.sl []),(.sl []),(.int .i64 0),(.int .i64 0)]) 5,
 ⟨.st 5 (.t 5) (.t 55),none,none⟩]
 (.reg [oV 0 56,
 mo (.ld (some 5) (.t 5)) 57,
 oF 0 5 58,
 oL 58 59,
 mo (.bin false .eql (.t 59) (cI 3)) 60,
 mo (.call (.f 63) [(.t 56),(.t 57),(.t 60)] [1000,20001] [11905]) 61])))
 (.reg [mo (.bin true .add (.t 52) (cI 1)) 62,
 oV 62 52]))))
@[irreducible] def mc_3a:MC :=
 (.reg [oV 0 77,
 mo (.ld (some 5) (.t 7)) 78,
 mo (.call (.f 48) [(.t 77),(.t 78)] [1000,20001] [13057]) 79])
@[irreducible] def mc_2p:MC :=
 (sR [mo (.bin false .lss (.t 68) (.t 67)) 69]
 (.seq (.cond (.t 69)
 .skip
 (.exit 3))
 (.seq (.block 4
 (sR [oV 68 70,
 mo (.iad 5 (.t 66) (.t 68)) 71,
 mo (.ld (some 5) (.t 71)) 72,
 mo (.alloc [(.int .i64 0),(.sl []),(.sl []),(.int .i64 0),(.int .i64 0)]) 7,
 oV 70 6,
 ⟨.st 5 (.t 7) (.t 72),none,none⟩]
 (.cut (sR [oV 6 73,
 mo (.bin false .gtr (.t 73) (cI 0)) 74]
 (.cond (.t 74)
 (.reg [oV 0 75,
 mo (.call (.f 64) [(.t 75),(.c (.int .u8 124))] [1000,20001] [12865]) 76])
 .skip))
 mc_3a)))
 (.reg [mo (.bin true .add (.t 68) (cI 1)) 80,
 oV 80 68]))))
@[irreducible] def mc_3b:MC :=
 (.reg [oV 0 39,
 mo (.call (.f 64) [(.t 39),(.c (.int .u8 125))] [1000,20001] [10561]) 40])
def mc_l:MC :=
 (sR [mo (.box (.t 1)) 3]
 (sR [oF 0 3 8,
 oL 8 9]
 (.block 0
 (sR [mo (.bin false .eql (.t 9) (cI 1)) 42,
 oV 42 41]
 (.cond (.t 41)
 (.reg [oV 0 43,
 oF 1 3 44,
 oL 44 45,
 mo (.call (.f 62) [(.t 43),(.t 45)] [1000,1001] [10945]) 46])
 (sR [mo (.bin false .eql (.t 9) (cI 2)) 48,
 oV 48 47]
 (.cond (.t 47)
 (sR [oF 2 3 49,
 oL 49 50,
 mo (.len false (.t 50)) 51,
 oC 0 52]
 (.block 1
 (.loop mc_2o)))
 (sR [mo (.bin false .eql (.t 9) (cI 3)) 64,
 oV 64 63]
 (.cond (.t 63)
 (.seq (.note (.gc [0,3]) (.reg [oF 2 3 65,
 oL 65 66,
 mo (.len false (.t 66)) 67,
 oC 0 68]))
 (.block 3
 (.loop mc_2p)))
 (.seq (.note (.gc [0,3]) (.regD [oV 0 10,
 oF 2 3 11,
 oL 11 12,
 mo (.iad 5 (.t 12) (cI 0)) 13,
 mo (.ld (some 5) (.t 13)) 14,
 oF 2 3 15,
 oL 15 16,
 mo (.iad 5 (.t 16) (cI 0)) 17,
 oF 0 17 18,
 oL 18 19,
 mo (.bin false .neq (.t 19) (cI 1)) 20,
 mo (.call (.f 63) [(.t 10),(.t 14),(.t 20)] [1000,1001] [9345]) 21]
 [[],[],[1],[2],[3],[],[5],[6],[7],[8],[9],[0,4,10]]
 [[],[],[1],[1,2],[1,2,3],[],[5],[5,6],[5,6,7],[5,6,7,8],[5,6,7,8,9],[0,1,2,3,4,5,6,7,8,9,10]]))
 (.seq (.note (.gc [0,3]) (.reg [oV 0 22,
 oF 3 3 23,
 oL 23 24,
 mo (.call (.f 66) [(.t 24)] [] []) 25,
 mo (.bin false .add (.c (.str [123])) (.t 25)) 26,
 mo (.call (.f 65) [(.t 22),(.t 26)] [1000,9345] [9729]) 27]))
 (.cut (sR [oF 4 3 28,
 oL 28 29,
 oF 3 3 30,
 oL 30 31,
 mo (.bin false .neq (.t 29) (.t 31)) 32]
 (.cond (.t 32)
 (.note (.gc [0,3]) (.reg [oV 0 33,
 oF 4 3 34,
 oL 34 35,
 mo (.call (.f 66) [(.t 35)] [] []) 36,
 mo (.bin false .add (.c (.str [44])) (.t 36)) 37,
 mo (.call (.f 65) [(.t 33),(.t 37)] [1000,9729] [10433]) 38]))
 .skip))
 mc_3b))))))))))))
theorem Wq_l {n:Nat} (ih_pattern_kid:∀{out_:Str} {n_:GNode} {parentheses_:Bool} {y:Str},FR_10 n out_ n_ parentheses_=some y→ACall Tryz.prog 63 [.ptr 1000 0,GNode.v n_,.bool parentheses_] [(1000,.cells [.bptr 1000,.osl 1001 1 0 out_.length] (some 65)),(1001,.arr 1 (out_.map byteV) (some 5))] (fun r H=>r=.tup []∧H=[(1000,.cells [.bptr 1000,.osl 1701 1 0 y.length] (some 65)),(1701,.arr 1 (y.map byteV) (some 5))])) (ih_pattern_write:∀{out_:Str} {n_:GNode} {y:Str},FR_l n out_ n_=some y→ACall Tryz.prog 48 [.ptr 1000 0,GNode.v n_] [(1000,.cells [.bptr 1000,.osl 1001 1 0 out_.length] (some 65)),(1001,.arr 1 (out_.map byteV) (some 5))] (fun r H=>r=.tup []∧H=[(1000,.cells [.bptr 1000,.osl 1701 1 0 y.length] (some 65)),(1701,.arr 1 (y.map byteV) (some 5))])) (out_:Str) (n_:GNode) {Q:Str→Prop} {Q':V→Heap→Prop} (h:Ok (FR_l (n+1) out_ n_) Q) (hQ:∀z,Q z→Q' (.tup []) [(1000,.cells [.bptr 1000,.osl 1701 1 0 z.length] (some 65)),(1701,.arr 1 (z.map byteV) (some 5))]):ACall Tryz.prog 48 [.ptr 1000 0,GNode.v n_] [(1000,.cells [.bptr 1000,.osl 1001 1 0 out_.length] (some 65)),(1001,.arr 1 (out_.map byteV) (some 5))] Q':=by
 refine acallM mc_l [.ownC 1000 1 1701 1 none] [1000,1701] [] Tryz.func48 fun M=>?_
 simp only [FR_l] at h
 unfold mc_l
 replace h:=tY h
 refine tB ?_
 repeat' (first
 | (exact tZ)
 | ((first|refine oblg h ?_|refine roomG h ?_|refine fork h ?_ ?_|refine forkS h ?_ ?_)<;>clear h<;>intro hc h)
 | (obtain ⟨y,hy,h⟩:=h;have hw:=acall_swe 1701 11905 (ih_pattern_kid hy);replace hw:=tY hw;(first|refine M.sC hw ?_|refine M.sD hw ?_);clear hw hy;refine tB ?_)
 | (obtain ⟨y,hy,h⟩:=h;have hw:=acall_swe 1701 11905 (acall_swe 1001 20001 (ih_pattern_kid hy));replace hw:=tY hw;(first|refine M.sC hw ?_|refine M.sD hw ?_);clear hw hy;refine tB ?_)
 | (obtain ⟨y,hy,h⟩:=h;have hw:=acall_swe 1002 12865 (W_2b hy);replace hw:=tY hw;(first|refine M.sC hw ?_|refine M.sD hw ?_);clear hw hy;refine tB ?_)
 | (obtain ⟨y,hy,h⟩:=h;have hw:=acall_swe 1002 12865 (acall_swe 1001 20001 (W_2b hy));replace hw:=tY hw;(first|refine M.sC hw ?_|refine M.sD hw ?_);clear hw hy;refine tB ?_)
 | (obtain ⟨y,hy,h⟩:=h;have hw:=acall_swe 1701 9345 (ih_pattern_kid hy);replace hw:=tY hw;(first|refine M.sC hw ?_|refine M.sD hw ?_);clear hw hy;refine tB ?_)
 | (obtain ⟨y,hy,h⟩:=h;have hw:=acall_swe 1002 9729 (acall_swe 1001 9345 (W_2i hy));replace hw:=tY hw;(first|refine M.sC hw ?_|refine M.sD hw ?_);clear hw hy;refine tB ?_)
 | (obtain ⟨y,hy,h⟩:=h;have hw:=acall_swe 1002 10433 (acall_swe 1001 9729 (W_2i hy));replace hw:=tY hw;(first|refine M.sC hw ?_|refine M.sD hw ?_);clear hw hy;refine tB ?_)
 | (obtain ⟨y,hy,h⟩:=h;have hw:=acall_swe 1002 10561 (acall_swe 1001 20001 (W_2b hy));replace hw:=tY hw;(first|refine M.sC hw ?_|refine M.sD hw ?_);clear hw hy;refine tB ?_)
 | (obtain ⟨y,hy,h⟩:=h;(first|(with_reducible first|have hw:=W_5v hy)|have hw:=acall_swe 1701 10945 (Wq_1o.w hy)|have hw:=acall_swe 1701 13057 (acall_swe 1001 20001 (ih_pattern_write hy)));replace hw:=tY hw;(first|refine M.sC hw ?_|refine M.sD hw ?_);clear hw hy;refine tB ?_)
 | (refine M.fold1 (b:=mc_2o) 52 [0,50,51] [1000] (fun x=>[]) (fun x=>[.p 1000 1 [.osl 20001 1 0 x.length],.o 20001 (.arr 1 (x.map byteV) (some 5))]) [.gc [0,50,51,52],.ownC 1000 1 20001 1 none] h ?_ ?_ ?_<;>first
 | (clear h;intro k a x Qn K hK1 hkN1 ha1 h hf;have hl:=fact_int (factsE_find (n:=51) hf.1 rfl);clear hf;have hkd:=kD hkN1;have hkB1:=kB hkN1;have hkI1:=kI (k:=k) (by omega);unfold mc_2o;replace h:=tY h;refine tK ha1 hkd hkN1 hkB1 hkI1 ?_)
  |(clear h;intro x K h;replace h:=And.left (And.intro h trivial);unfold mc_2o;replace h:=tY h;refine tB ?_)
  |(clear h;(try refine tB ?_);exact tU0;done))
 | (refine M.jn1 (b:=mc_3a) [0,7,66,67,68] [7,1000] (fun y=>[]) (fun y=>[.p 1000 1 [.osl 20001 1 0 y.length],.o 20001 (.arr 1 (y.map byteV) (some 5))]) [.gc [0,7,66,67,68],.ownC 1000 1 20001 1 none] h ?_ ?_<;>first
 | (clear h;intro Qn K hK2 h;replace h:=tY h;refine tB ?_)
  |(clear h;intro y h;unfold mc_3a;replace h:=tY h;refine tB ?_))
 | (refine M.fold1 (b:=mc_2p) 68 [0,66,67] [1000] (fun x=>[]) (fun x=>[.p 1000 1 [.osl 20001 1 0 x.length],.o 20001 (.arr 1 (x.map byteV) (some 5))]) [.gc [0,66,67,68],.ownC 1000 1 20001 1 none] h ?_ ?_ ?_<;>first
 | (clear h;intro k a x Qn K hK3 hkN3 ha3 h hf;have hl:=fact_int (factsE_find (n:=67) hf.1 rfl);clear hf;have hkd:=kD hkN3;have hkB3:=kB hkN3;have hkI3:=kI (k:=k) (by omega);unfold mc_2p;replace h:=tY h;refine tK ha3 hkd hkN3 hkB3 hkI3 ?_)
  |(clear h;intro x K h;replace h:=And.left (And.intro h trivial);unfold mc_2p;replace h:=tY h;refine tB ?_)
  |(clear h;(try refine tB ?_);exact tU0;done))
 | (refine M.jn1 (b:=mc_3b) [0] [1000] (fun y=>[]) (fun y=>[.p 1000 1 [.osl 20001 1 0 y.length],.o 20001 (.arr 1 (y.map byteV) (some 5))]) [.gc [0],.ownC 1000 1 20001 1 none] h ?_ ?_<;>first
 | (clear h;intro Qn K hK4 h;replace h:=tY h;refine tB ?_)
  |(clear h;intro y h;unfold mc_3b;replace h:=tY h;refine tB ?_))
 | (first|simp only [ha1]|simp only [ha3])
 | ((first|refine hK1 _ ?_|refine hK2 _ ?_|refine hK3 _ ?_|refine hK4 _ ?_);(try refine tB ?_);refine ⟨_,h,?_⟩;exact tU0;done)
 | (refine tE ?_;(first|rw [M.lok_compU]|rw [M.lokD_compU]);refine tB ?_)
 | (refine tA ?_)
 | fail)
theorem WG_5r:∀n,(∀{out_:Str} {n_:GNode} {parentheses_:Bool} {y:Str},FR_10 n out_ n_ parentheses_=some y→ACall Tryz.prog 63 [.ptr 1000 0,GNode.v n_,.bool parentheses_] [(1000,.cells [.bptr 1000,.osl 1001 1 0 out_.length] (some 65)),(1001,.arr 1 (out_.map byteV) (some 5))] (fun r H=>r=.tup []∧H=[(1000,.cells [.bptr 1000,.osl 1701 1 0 y.length] (some 65)),(1701,.arr 1 (y.map byteV) (some 5))]))∧(∀{out_:Str} {n_:GNode} {y:Str},FR_l n out_ n_=some y→ACall Tryz.prog 48 [.ptr 1000 0,GNode.v n_] [(1000,.cells [.bptr 1000,.osl 1001 1 0 out_.length] (some 65)),(1001,.arr 1 (out_.map byteV) (some 5))] (fun r H=>r=.tup []∧H=[(1000,.cells [.bptr 1000,.osl 1701 1 0 y.length] (some 65)),(1701,.arr 1 (y.map byteV) (some 5))]))
 | 0=>⟨fun hy=>(by simp only [FR_10] at hy;cases hy),fun hy=>(by simp only [FR_l] at hy;cases hy)⟩
 | n+1=>by
  obtain ⟨ih_pattern_kid,ih_pattern_write⟩:=WG_5r n
  refine ⟨?_,?_⟩
  ·exact fun hy=>Wq_10 ih_pattern_kid ih_pattern_write _ _ _ (Q:=(·=_)) ⟨_,hy,rfl⟩ fun|_,rfl=>⟨rfl,rfl⟩
  ·exact fun hy=>Wq_l ih_pattern_kid ih_pattern_write _ _ (Q:=(·=_)) ⟨_,hy,rfl⟩ fun|_,rfl=>⟨rfl,rfl⟩
theorem W_l:∀{out_:Str} {n_:GNode} {y:Str},F_l out_ n_=some y→ACall Tryz.prog 48 [.ptr 1000 0,GNode.v n_] [(1000,.cells [.bptr 1000,.osl 1001 1 0 out_.length] (some 65)),(1001,.arr 1 (out_.map byteV) (some 5))] (fun r H=>r=.tup []∧H=[(1000,.cells [.bptr 1000,.osl 1701 1 0 y.length] (some 65)),(1701,.arr 1 (y.map byteV) (some 5))]):=fun hy=>by
 obtain ⟨n,hn⟩:=lim_inv hy
 exact (WG_5r n).2 hn
noncomputable def F_18 (n_:GNode):Option (Str×Int) :=
 (F_11 n_).bind fun y4=>bif (!decide (y4=0)) then some ([],y4) else (F_l ([]:Str) n_).bind fun y6=>(bstr y6).bind fun y8=>some (y8,0)
def mc_18:MC :=
 (sR [mo (.box (.t 0)) 1,
 mo (.mv (.c (.str []))) 2,
 oC 0 3]
 (.seq (sR [mo (.ld (some 5) (.t 1)) 6,
 mo (.call (.f 12) [(.t 6)] [] []) 7,
 oV 7 4]
 (sR [oV 4 8,
 mo (.bin false .neq (.t 8) (cI 0)) 9]
 (.cond (.t 9)
 (.seq (.note (.gc [4]) (.reg [oV 4 10,
 mo (.mv (.c (.str []))) 2,
 oV 10 3]))
 .ret)
 .skip)))
 (.seq (.regI [.op (mo (.alloc [.nilp,.nils] (some 65)) 5),
 .nt (.bld 5),
 .nt (.ownC 5 1 5005 1 (some 5))])
 (sR [mo (.ld (some 5) (.t 1)) 11,
 mo (.call (.f 48) [(.t 5),(.t 11)] [5,5005] [8769]) 12]
 (.seq (.note (.gc [5]) (.reg [mo (.call (.f 49) [(.t 5)] [5,8769] []) 13,
 oV 13 2,
 oC 0 3]))
 .ret)))))
theorem Wq_18 {n_:GNode}:Cn Tryz.prog 23 [GNode.v n_] [] (F_18 n_) (fun z=>.tup [.str z.1,.int .i64 z.2]) (fun z=>[]):=fun Q Q' h hQ=>by
 refine acallM mc_18 [] [] [.t 2,.t 3] Tryz.func23 fun M=>?_
 unfold F_18 at h
 unfold mc_18
 replace h:=tY h
 refine tB ?_
 repeat' (first
 | (exact tZ)
 | ((first|refine oblg h ?_|refine roomG h ?_|refine fork h ?_ ?_|refine forkS h ?_ ?_)<;>clear h<;>intro hc h)
 | (obtain ⟨y,hy,h⟩:=h;(first|(with_reducible first|have hw:=Wq_11.w hy)|have hw:=acall_swe 1701 8769 (acall_swe 1001 5005 (acall_swe 1000 5 (W_l hy)))|have hw:=acall_swe 1001 8769 (acall_swe 1000 5 (W_5x hy)));replace hw:=tY hw;(first|refine M.sC hw ?_|refine M.sD hw ?_);clear hw hy;refine tB ?_)
 | (refine tE ?_;(first|rw [M.lok_compU]|rw [M.lokD_compU]);refine tB ?_)
 | (refine tA ?_)
 | fail)
noncomputable def F_1r (n_:GNode):Option Int :=
 (F_11 n_).bind fun y4=>bif (!decide (y4=0)) then some 0 else (F_8 n_).bind fun y6=>some y6
def mc_1r:MC :=
 (sR [mo (.box (.t 0)) 1,
 oC 0 2]
 (.seq (sR [mo (.ld (some 5) (.t 1)) 3,
 mo (.call (.f 12) [(.t 3)] [] []) 4,
 mo (.bin false .neq (.t 4) (cI 0)) 5]
 (.cond (.t 5)
 (sR [oC 0 2]
 .ret)
 .skip))
 (sR [mo (.ld (some 5) (.t 1)) 6,
 mo (.call (.f 39) [(.t 6)] [] []) 7,
 oV 7 2]
 .ret)))
theorem Wq_1r {n_:GNode}:Cn Tryz.prog 16 [GNode.v n_] [] (F_1r n_) (fun z=>.int .i64 z) (fun z=>[]):=fun Q Q' h hQ=>by
 refine acallM mc_1r [] [] [.t 2] Tryz.func16 fun M=>?_
 unfold F_1r at h
 unfold mc_1r
 replace h:=tY h
 refine tB ?_
 repeat' (first
 | (exact tZ)
 | ((first|refine oblg h ?_|refine roomG h ?_|refine fork h ?_ ?_|refine forkS h ?_ ?_)<;>clear h<;>intro hc h)
 | (obtain ⟨y,hy,h⟩:=h;(first|with_reducible first|have hw:=Wq_11.w hy|have hw:=W_8 hy);replace hw:=tY hw;(first|refine M.sC hw ?_|refine M.sD hw ?_);clear hw hy;refine tB ?_)
 | (refine tE ?_;(first|rw [M.lok_compU]|rw [M.lokD_compU]);refine tB ?_)
 | (refine tA ?_)
 | fail)
def FR_j:Nat→GNode→Option Int
 | 0,_=>none
 | n+1,n_ =>
 bif decide (n_.Op=1) then some 1 else bif decide (n_.Op=2) then (foldL (fun (k50:Int) (a51:GNode) (x49:Int)=>((FR_j n a51).bind fun y55=>chk (in64 (x49+y55)) (some (x49+y55)):Option Int)) n_.Kids 0 0).bind fun x56=>some x56 else bif decide (n_.Op=3) then chk (inb 0 n_.Kids.length) ((FR_j n (n_.Kids.getD 0 default)).bind fun y58=>(foldL (fun (k71:Int) (a72:GNode) (x70:Int)=>((FR_j n a72).bind fun y76=>some (min x70 y76):Option Int)) n_.Kids 0 y58).bind fun x77=>some x77) else chk (inb 0 n_.Kids.length) ((FR_j n (n_.Kids.getD 0 default)).bind fun y78=>chk (in64 (n_.Min*y78)) (some (n_.Min*y78)))
noncomputable def F_j (n_:GNode):Option Int:=lim fun n=>FR_j n n_
@[irreducible] def mc_2q:MC :=
 (sR [mo (.bin false .lss (.t 25) (.t 24)) 26]
 (.seq (.cond (.t 26)
 .skip
 (.exit 1))
 (.seq (.block 2
 (sR [mo (.iad 5 (.t 23) (.t 25)) 27,
 mo (.ld (some 5) (.t 27)) 28,
 mo (.alloc [(.int .i64 0),(.sl []),(.sl []),(.int .i64 0),(.int .i64 0)]) 5,
 ⟨.st 5 (.t 5) (.t 28),none,none⟩]
 (.reg [oV 3 29,
 mo (.ld (some 5) (.t 5)) 30,
 mo (.call (.f 44) [(.t 30)] [] []) 31,
 mo (.bin true .add (.t 29) (.t 31)) 32,
 oV 32 3])))
 (.reg [mo (.bin true .add (.t 25) (cI 1)) 33,
 oV 33 25]))))
@[irreducible] def mc_2r:MC :=
 (sR [mo (.bin false .lss (.t 44) (.t 43)) 45]
 (.seq (.cond (.t 45)
 .skip
 (.exit 3))
 (.seq (.block 4
 (sR [mo (.iad 5 (.t 42) (.t 44)) 46,
 mo (.ld (some 5) (.t 46)) 47,
 mo (.alloc [(.int .i64 0),(.sl []),(.sl []),(.int .i64 0),(.int .i64 0)]) 7,
 ⟨.st 5 (.t 7) (.t 47),none,none⟩]
 (.reg [oV 3 48,
 mo (.ld (some 5) (.t 7)) 49,
 mo (.call (.f 44) [(.t 49)] [] []) 50,
 mo (.mm false (.t 48) (.t 50)) 51,
 oV 51 3])))
 (.reg [mo (.bin true .add (.t 44) (cI 1)) 52,
 oV 52 44]))))
def mc_j:MC :=
 (sR [mo (.box (.t 0)) 1,
 oC 0 2]
 (sR [oC 0 3]
 (.seq (sR [oF 0 1 8,
 oL 8 9]
 (.block 0
 (sR [mo (.bin false .eql (.t 9) (cI 1)) 19,
 oV 19 18]
 (.cond (.t 18)
 (sR [oC 1 2]
 .ret)
 (sR [mo (.bin false .eql (.t 9) (cI 2)) 21,
 oV 21 20]
 (.cond (.t 20)
 (.seq (.note (.gc [1,3]) (.reg [oF 2 1 22,
 oL 22 23,
 mo (.len false (.t 23)) 24,
 oC 0 25]))
 (.block 1
 (.loop mc_2q)))
 (sR [mo (.bin false .eql (.t 9) (cI 3)) 35,
 oV 35 34]
 (.cond (.t 34)
 (.seq (.note (.gc [1]) (.reg [oF 2 1 36,
 oL 36 37,
 mo (.iad 5 (.t 37) (cI 0)) 38,
 mo (.ld (some 5) (.t 38)) 39,
 mo (.call (.f 44) [(.t 39)] [] []) 40,
 oV 40 3]))
 (sR [oF 2 1 41,
 oL 41 42,
 mo (.len false (.t 42)) 43,
 oC 0 44]
 (.block 3
 (.loop mc_2r))))
 (.note (.gc [1]) (.regD [oF 3 1 10,
 oL 10 11,
 oF 2 1 12,
 oL 12 13,
 mo (.iad 5 (.t 13) (cI 0)) 14,
 mo (.ld (some 5) (.t 14)) 15,
 mo (.call (.f 44) [(.t 15)] [] []) 16,
 mo (.bin true .mul (.t 11) (.t 16)) 17,
 oV 17 3]
 [[],[0],[],[2],[3],[4],[5],[1,6],[7,6,0,1,2,3,4,5,6,7]]
 [[],[0],[],[2],[2,3],[2,3,4],[2,3,4,5],[0,1,2,3,4,5,6],[0,1,2,3,4,5,6,7]]))))))))))
 (sR [oV 3 53,
 oV 53 2]
 .ret))))
theorem Wq_j {n:Nat} (ih_pattern_shortest:∀{n_:GNode} {y:Int},FR_j n n_=some y→ACall Tryz.prog 44 [GNode.v n_] [] (fun r H=>r=.int .i64 y∧H=[])) (n_:GNode) {Q:Int→Prop} {Q':V→Heap→Prop} (h:Ok (FR_j (n+1) n_) Q) (hQ:∀z,Q z→Q' (.int .i64 z) []):ACall Tryz.prog 44 [GNode.v n_] [] Q':=by
 refine acallM mc_j [] [] [.t 2] Tryz.func44 fun M=>?_
 simp only [FR_j] at h
 unfold mc_j
 replace h:=tY h
 refine tB ?_
 repeat' (first
 | (exact tZ)
 | ((first|refine oblg h ?_|refine roomG h ?_|refine fork h ?_ ?_|refine forkS h ?_ ?_)<;>clear h<;>intro hc h)
 | (obtain ⟨y,hy,h⟩:=h;have hw:=ih_pattern_shortest hy;replace hw:=tY hw;(first|refine M.sC hw ?_|refine M.sD hw ?_);clear hw hy;refine tB ?_)
 | (refine M.fold1 (b:=mc_2q) 25 [23,24] [] (fun x=>[(3,.int .i64 x)]) (fun x=>[]) [] h ?_ ?_ ?_<;>first
 | (clear h;intro k a x Qn K hK1 hkN1 ha1 h hf;have hl:=fact_int (factsE_find (n:=24) hf.1 rfl);clear hf;have hkd:=kD hkN1;have hkB1:=kB hkN1;have hkI1:=kI (k:=k) (by omega);unfold mc_2q;replace h:=tY h;refine tK ha1 hkd hkN1 hkB1 hkI1 ?_)
  |(clear h;intro x K h;replace h:=And.left (And.intro h trivial);unfold mc_2q;replace h:=tY h;refine tB ?_)
  |(clear h;(try refine tB ?_);exact tU0;done))
 | (refine M.fold1 (b:=mc_2r) 44 [42,43] [] (fun x=>[(3,.int .i64 x)]) (fun x=>[]) [] h ?_ ?_ ?_<;>first
 | (clear h;intro k a x Qn K hK2 hkN2 ha2 h hf;have hl:=fact_int (factsE_find (n:=43) hf.1 rfl);clear hf;have hkd:=kD hkN2;have hkB2:=kB hkN2;have hkI2:=kI (k:=k) (by omega);unfold mc_2r;replace h:=tY h;refine tK ha2 hkd hkN2 hkB2 hkI2 ?_)
  |(clear h;intro x K h;replace h:=And.left (And.intro h trivial);unfold mc_2r;replace h:=tY h;refine tB ?_)
  |(clear h;(try refine tB ?_);exact tU0;done))
 | (first|simp only [ha1]|simp only [ha2])
 | ((first|refine hK1 _ ?_|refine hK2 _ ?_);(try refine tB ?_);refine ⟨_,h,?_⟩;exact tU0;done)
 | (refine tE ?_;(first|rw [M.lok_compU]|rw [M.lokD_compU]);refine tB ?_)
 | (refine tA ?_)
 | fail)
theorem WG_j:∀n,(∀{n_:GNode} {y:Int},FR_j n n_=some y→ACall Tryz.prog 44 [GNode.v n_] [] (fun r H=>r=.int .i64 y∧H=[]))
 | 0=>fun hy=>(by simp only [FR_j] at hy;cases hy)
 | n+1=>by
  have ih_pattern_shortest:=@WG_j n
  exact fun hy=>Wq_j ih_pattern_shortest _ (Q:=(·=_)) ⟨_,hy,rfl⟩ fun|_,rfl=>⟨rfl,rfl⟩
theorem W_j:∀{n_:GNode} {y:Int},F_j n_=some y→ACall Tryz.prog 44 [GNode.v n_] [] (fun r H=>r=.int .i64 y∧H=[]):=fun hy=>by
 obtain ⟨n,hn⟩:=lim_inv hy
 exact (WG_j n) hn
noncomputable def F_1s (n_:GNode):Option Int :=
 (F_11 n_).bind fun y4=>bif (!decide (y4=0)) then some 0 else (F_j n_).bind fun y6=>some y6
def mc_1s:MC :=
 (sR [mo (.box (.t 0)) 1,
 oC 0 2]
 (.seq (sR [mo (.ld (some 5) (.t 1)) 3,
 mo (.call (.f 12) [(.t 3)] [] []) 4,
 mo (.bin false .neq (.t 4) (cI 0)) 5]
 (.cond (.t 5)
 (sR [oC 0 2]
 .ret)
 .skip))
 (sR [mo (.ld (some 5) (.t 1)) 6,
 mo (.call (.f 44) [(.t 6)] [] []) 7,
 oV 7 2]
 .ret)))
theorem Wq_1s {n_:GNode}:Cn Tryz.prog 18 [GNode.v n_] [] (F_1s n_) (fun z=>.int .i64 z) (fun z=>[]):=fun Q Q' h hQ=>by
 refine acallM mc_1s [] [] [.t 2] Tryz.func18 fun M=>?_
 unfold F_1s at h
 unfold mc_1s
 replace h:=tY h
 refine tB ?_
 repeat' (first
 | (exact tZ)
 | ((first|refine oblg h ?_|refine roomG h ?_|refine fork h ?_ ?_|refine forkS h ?_ ?_)<;>clear h<;>intro hc h)
 | (obtain ⟨y,hy,h⟩:=h;(first|with_reducible first|have hw:=Wq_11.w hy|have hw:=W_j hy);replace hw:=tY hw;(first|refine M.sC hw ?_|refine M.sD hw ?_);clear hw hy;refine tB ?_)
 | (refine tE ?_;(first|rw [M.lok_compU]|rw [M.lokD_compU]);refine tB ?_)
 | (refine tA ?_)
 | fail)
def F_2c (s2_:List GRange) (k11:Int) (a12:GRange) (x10:Unit):Option (Fl Unit Bool) :=
 chk (inb k11 s2_.length) (bif (!(decide ((a12.Low.toNat:Int)=(((s2_.getD (k11).toNat default).Low).toNat:Int))&&decide ((a12.High.toNat:Int)=(((s2_.getD (k11).toNat default).High).toNat:Int)))) then some (.ex false) else some (.nx ()))
def F_22 (s1_:List GRange) (s2_:List GRange):Option Bool :=
 bif (!decide ((s1_.length:Int)=(s2_.length:Int))) then some false else (forL (F_2c s2_) s1_ 0 ()).bind fun o=>o.elim (fun x13=>some true) (fun r14=>some r14)
@[irreducible] def mc_2c:MC :=
 (sR [mo (.bin false .lss (.t 13) (.t 12)) 14]
 (.seq (.cond (.t 14)
 .skip
 (.exit 0))
 (.seq (.block 1
 (sR [oV 13 15,
 oV 15 5]
 (.seq (.regD [oV 0 16,
 oV 5 17,
 mo (.iad 2 (.t 16) (.t 17)) 18,
 mo (.ld (some 2) (.t 18)) 19,
 oV 1 20,
 oV 5 21,
 mo (.iad 2 (.t 20) (.t 21)) 22,
 mo (.ld (some 2) (.t 22)) 23,
 mo (.eqs true [0,0] (.t 19) (.t 23)) 24]
 [[],[],[0,1],[2],[],[],[4,5],[6],[3,7]]
 [[],[],[0,1],[0,1,2],[],[],[4,5],[4,5,6],[0,1,2,3,4,5,6,7]])
 (.cond (.t 24)
 (sR [mo (.mv (.c (.bool false))) 4]
 .ret)
 .skip))))
 (.reg [mo (.bin true .add (.t 13) (cI 1)) 25,
 oV 25 13]))))
def mc_22:MC :=
 (sR [mo (.mv (.c (.bool false))) 4]
 (.seq (sR [oV 0 6,
 mo (.len false (.t 6)) 7,
 oV 1 8,
 mo (.len false (.t 8)) 9,
 mo (.bin false .neq (.t 7) (.t 9)) 10]
 (.cond (.t 10)
 (sR [mo (.mv (.c (.bool false))) 4]
 .ret)
 .skip))
 (.seq (sR [oV 0 11,
 mo (.len false (.t 11)) 12,
 oC 0 13]
 (.block 0
 (.loop mc_2c)))
 (sR [mo (.mv (.c (.bool true))) 4]
 .ret))))
theorem Wq_22 {s1_ s2_:List GRange}:Cn Tryz.prog 45 [.sl (s1_.map GRange.v),.sl (s2_.map GRange.v)] [] (F_22 s1_ s2_) (fun z=>.bool z) (fun z=>[]):=fun Q Q' h hQ=>by
 refine acallM mc_22 [] [] [.t 4] Tryz.func45 fun M=>?_
 unfold F_22 at h
 unfold mc_22
 replace h:=tY h
 refine tB ?_
 repeat' (first
 | (exact tZ)
 | ((first|refine oblg h ?_|refine roomG h ?_|refine fork h ?_ ?_|refine forkS h ?_ ?_)<;>clear h<;>intro hc h)
 | (refine M.for1 (b:=mc_2c) 13 [0,1,12] [] (fun x=>[]) (fun x=>[]) [] h ?_ ?_ ?_<;>first
 | (clear h;intro k a x Qn K hK1 hkN1 ha1 h hf;have hl:=fact_int (factsE_find (n:=12) hf.1 rfl);clear hf;have hkd:=kD hkN1;have hkB1:=kB hkN1;have hkI1:=kI (k:=k) (by omega);unfold F_2c at h;unfold mc_2c;replace h:=tY h;refine tK ha1 hkd hkN1 hkB1 hkI1 ?_)
  |(clear h;intro x K h;replace h:=And.left (And.intro h trivial);unfold mc_2c;replace h:=tY h;refine tB ?_)
  |(clear h;(try refine tB ?_);exact tU0;done))
 | (simp only [ha1])
 | (refine hK1 _ ?_;(try refine tB ?_);refine ⟨_,h,?_⟩;exact tU0;done)
 | (refine tE ?_;(first|rw [M.lok_compU]|rw [M.lokD_compU]);refine tB ?_)
 | (refine tA ?_)
 | fail)
mutual
def FR_19:Nat→(List GNode)→(List GNode)→Option Bool
 | 0,_,_=>none
 | n+1,s1_,s2_ =>
 bif (!decide ((s1_.length:Int)=(s2_.length:Int))) then some false else (forL (fun (k31:Int) (a32:GNode) (x30:Unit)=>(chk (inb k31 s2_.length) ((FR_s n a32 (s2_.getD (k31).toNat default)).bind fun y40=>bif (!y40) then some (.ex false) else some (.nx ())):Option (Fl Unit Bool))) s1_ 0 ()).bind fun o=>o.elim (fun x41=>some true) (fun r42=>some r42)
def FR_s:Nat→GNode→GNode→Option Bool
 | 0,_,_=>none
 | n+1,a_,b_ =>
 grp ((decide (a_.Op=b_.Op)&&decide (a_.Min=b_.Min))) fun b7=>grp ((b7&&decide (a_.Max=b_.Max))) fun b8=>jn (α:=Bool) (bif b8 then (F_22 a_.Ranges b_.Ranges).bind fun y10=>some y10 else some false) fun j11=>jn (α:=Bool) (bif j11 then (FR_19 n a_.Kids b_.Kids).bind fun y13=>some y13 else some false) fun j14=>some j14
end
noncomputable def F_s (a_:GNode) (b_:GNode):Option Bool:=lim fun n=>FR_s n a_ b_
@[irreducible] def mc_2s:MC :=
 (sR [mo (.bin false .lss (.t 17) (.t 16)) 18]
 (.seq (.cond (.t 18)
 .skip
 (.exit 0))
 (.seq (.block 1
 (sR [oV 17 19,
 mo (.iad 5 (.t 15) (.t 17)) 20,
 mo (.ld (some 5) (.t 20)) 21,
 mo (.alloc [(.int .i64 0),(.sl []),(.sl []),(.int .i64 0),(.int .i64 0)]) 8,
 oV 19 7,
 ⟨.st 5 (.t 8) (.t 21),none,none⟩]
 (sR [oV 1 22,
 oV 7 23,
 mo (.iad 5 (.t 22) (.t 23)) 24,
 mo (.ld (some 5) (.t 24)) 25,
 mo (.alloc [(.int .i64 0),(.sl []),(.sl []),(.int .i64 0),(.int .i64 0)]) 9,
 ⟨.st 5 (.t 9) (.t 25),none,none⟩]
 (.seq (.note (.gc [1,2,8,9,15,16,17]) (.reg [oV 2 26,
 mo (.ld (some 5) (.t 8)) 27,
 mo (.ld (some 5) (.t 9)) 28,
 mo (.call (.t 26) [(.t 27),(.t 28)] [] []) 29,
 mo (.not (.t 29)) 30]))
 (.cond (.t 30)
 (sR [mo (.mv (.c (.bool false))) 6]
 .ret)
 .skip)))))
 (.reg [mo (.bin true .add (.t 17) (cI 1)) 31,
 oV 31 17]))))
def mc_19:MC :=
 (sR [mo (.mv (.c (.bool false))) 6]
 (.seq (sR [oV 0 10,
 mo (.len false (.t 10)) 11,
 oV 1 12,
 mo (.len false (.t 12)) 13,
 mo (.bin false .neq (.t 11) (.t 13)) 14]
 (.cond (.t 14)
 (sR [mo (.mv (.c (.bool false))) 6]
 .ret)
 .skip))
 (.seq (sR [oV 0 15,
 mo (.len false (.t 15)) 16,
 oC 0 17]
 (.block 0
 (.loop mc_2s)))
 (sR [mo (.mv (.c (.bool true))) 6]
 .ret))))
theorem Wq_19 {n:Nat} (ih_slices_EqualFunc_api_Node_api_Node_api_Node_api_Node_of_pattern_Same:∀{s1_:List GNode} {s2_:List GNode} {y:Bool},FR_19 n s1_ s2_=some y→ACall Tryz.prog 46 [.sl (s1_.map GNode.v),.sl (s2_.map GNode.v),.fn (.func 20) []] [] (fun r H=>r=.bool y∧H=[])) (ih_pattern_Same:∀{a_:GNode} {b_:GNode} {y:Bool},FR_s n a_ b_=some y→ACall Tryz.prog 20 [GNode.v a_,GNode.v b_] [] (fun r H=>r=.bool y∧H=[])) (s1_:List GNode) (s2_:List GNode) {Q:Bool→Prop} {Q':V→Heap→Prop} (h:Ok (FR_19 (n+1) s1_ s2_) Q) (hQ:∀z,Q z→Q' (.bool z) []):ACall Tryz.prog 46 [.sl (s1_.map GNode.v),.sl (s2_.map GNode.v),.fn (.func 20) []] [] Q':=by
 refine acallM mc_19 [] [] [.t 6] Tryz.func46 fun M=>?_
 simp only [FR_19] at h
 unfold mc_19
 replace h:=tY h
 refine tB ?_
 repeat' (first
 | (exact tZ)
 | ((first|refine oblg h ?_|refine roomG h ?_|refine fork h ?_ ?_|refine forkS h ?_ ?_)<;>clear h<;>intro hc h)
 | (obtain ⟨y,hy,h⟩:=h;have hw:=ih_pattern_Same hy;replace hw:=tY hw;(first|refine M.sC hw ?_|refine M.sD hw ?_);clear hw hy;refine tB ?_)
 | (refine M.for1 (b:=mc_2s) 17 [1,2,15,16] [] (fun x=>[]) (fun x=>[]) [] h ?_ ?_ ?_<;>first
 | (clear h;intro k a x Qn K hK1 hkN1 ha1 h hf;have hl:=fact_int (factsE_find (n:=16) hf.1 rfl);clear hf;have hkd:=kD hkN1;have hkB1:=kB hkN1;have hkI1:=kI (k:=k) (by omega);unfold mc_2s;replace h:=tY h;refine tK ha1 hkd hkN1 hkB1 hkI1 ?_)
  |(clear h;intro x K h;replace h:=And.left (And.intro h trivial);unfold mc_2s;replace h:=tY h;refine tB ?_)
  |(clear h;(try refine tB ?_);exact tU0;done))
 | (simp only [ha1])
 | (refine hK1 _ ?_;(try refine tB ?_);refine ⟨_,h,?_⟩;exact tU0;done)
 | (refine tE ?_;(first|rw [M.lok_compU]|rw [M.lokD_compU]);refine tB ?_)
 | (refine tA ?_)
 | fail)
@[irreducible] def mg_3c:List MOp:=[gT 10 11 (.fad 3 (.t 2)),
 gT 10 12 (.ld none (.t 11)),
 gT 10 13 (.fad 3 (.t 3)),
 gT 10 14 (.ld none (.t 13)),
 gT 10 15 (.bin false .eql (.t 12) (.t 14)),
 mo (.pick (.t 10) (.t 15) (.c (.bool false))) 16]
@[irreducible] def mg_3d:List MOp:=[gT 17 18 (.fad 4 (.t 2)),
 gT 17 19 (.ld none (.t 18)),
 gT 17 20 (.fad 4 (.t 3)),
 gT 17 21 (.ld none (.t 20)),
 gT 17 22 (.bin false .eql (.t 19) (.t 21)),
 mo (.pick (.t 17) (.t 22) (.c (.bool false))) 23]
@[irreducible] def mg_3e:List MOp:=[gT 24 25 (.fad 1 (.t 2)),
 gT 24 26 (.ld none (.t 25)),
 gT 24 27 (.fad 1 (.t 3)),
 gT 24 28 (.ld none (.t 27)),
 gT 24 29 (.call (.f 45) [(.t 26),(.t 28)] [] []),
 mo (.pick (.t 24) (.t 29) (.c (.bool false))) 30]
@[irreducible] def mg_3f:List MOp:=[gT 31 32 (.fad 2 (.t 2)),
 gT 31 33 (.ld none (.t 32)),
 gT 31 34 (.fad 2 (.t 3)),
 gT 31 35 (.ld none (.t 34)),
 gT 31 36 (.call (.f 46) [(.t 33),(.t 35),(.f 20)] [] []),
 mo (.pick (.t 31) (.t 36) (.c (.bool false))) 37]
def mc_s:MC :=
 (sR [mo (.box (.t 0)) 2,
 mo (.box (.t 1)) 3,
 mo (.mv (.c (.bool false))) 4]
 (.seq (.regI [.op (oF 0 2 5),
 .op (oL 5 6),
 .op (oF 0 3 7),
 .op (oL 7 8),
 .op (mo (.bin false .eql (.t 6) (.t 8)) 9),
 .op (oV 9 10),
 .grp mg_3c,
 .op (oV 16 17),
 .grp mg_3d,
 .op (oV 23 24),
 .grp mg_3e,
 .op (oV 30 31),
 .grp mg_3f,
 .op (oV 37 4)])
 .ret))
theorem Wq_s {n:Nat} (ih_slices_EqualFunc_api_Node_api_Node_api_Node_api_Node_of_pattern_Same:∀{s1_:List GNode} {s2_:List GNode} {y:Bool},FR_19 n s1_ s2_=some y→ACall Tryz.prog 46 [.sl (s1_.map GNode.v),.sl (s2_.map GNode.v),.fn (.func 20) []] [] (fun r H=>r=.bool y∧H=[])) (ih_pattern_Same:∀{a_:GNode} {b_:GNode} {y:Bool},FR_s n a_ b_=some y→ACall Tryz.prog 20 [GNode.v a_,GNode.v b_] [] (fun r H=>r=.bool y∧H=[])) (a_:GNode) (b_:GNode) {Q:Bool→Prop} {Q':V→Heap→Prop} (h:Ok (FR_s (n+1) a_ b_) Q) (hQ:∀z,Q z→Q' (.bool z) []):ACall Tryz.prog 20 [GNode.v a_,GNode.v b_] [] Q':=by
 refine acallM mc_s [] [] [.t 4] Tryz.func20 fun M=>?_
 simp only [FR_s] at h
 unfold mc_s
 replace h:=tY h
 refine tB ?_
 repeat' (first
 | (exact tZ)
 | ((first|refine oblg h ?_|refine roomG h ?_|refine fork h ?_ ?_|refine forkS h ?_ ?_)<;>clear h<;>intro hc h)
 | (obtain ⟨y,hy,h⟩:=h;(first|with_reducible first|have hw:=Wq_22.w hy|have hw:=ih_slices_EqualFunc_api_Node_api_Node_api_Node_api_Node_of_pattern_Same hy);replace hw:=tY hw;(first|refine M.sC hw ?_|refine M.sD hw ?_);clear hw hy;refine tB ?_)
 | (refine M.gj1 (ms:=mg_3f) [4] [] (fun y=>[(37,.bool y)]) (fun y=>[]) h ?_ ?_<;>first
 | (clear h;intro Qn K hK1 h;unfold mg_3f;replace h:=tY h;refine tB ?_)
  |(clear h;intro y h;replace h:=tY h;refine tB ?_))
 | (refine M.gj1 (ms:=mg_3e) [2,3,4] [3,2] (fun y=>[(30,.bool y)]) (fun y=>[]) h ?_ ?_<;>first
 | (clear h;intro Qn K hK2 h;unfold mg_3e;replace h:=tY h;refine tB ?_)
  |(clear h;intro y h;replace h:=tY h;refine tB ?_))
 | (refine M.gv1 (ms:=mg_3d) 23 [18,19,20,21,22] h ?_ ?_<;>first
 | (clear h;intro K hK3;unfold mg_3d;refine tB ?_)
 | (clear h;intro b h;replace h:=tY h;refine tB ?_))
 | (refine M.gv1 (ms:=mg_3c) 16 [11,12,13,14,15] h ?_ ?_<;>first
 | (clear h;intro K hK4;unfold mg_3c;refine tB ?_)
 | (clear h;intro b h;replace h:=tY h;refine tB ?_))
 | ((first|refine hK1 _ ?_|refine hK2 _ ?_);(try refine tB ?_);refine ⟨_,h,?_⟩;exact tU0;done)
 | ((first|refine hK3 _ ?_|refine hK4 _ ?_);exact tU;done)
 | (refine bfork (fun hc=>?_) (fun hc=>?_))
 | (refine tE ?_;(first|rw [M.lok_compU]|rw [M.lokD_compU]);refine tB ?_)
 | (refine tA ?_)
 | fail)
theorem WG_5s:∀n,(∀{s1_:List GNode} {s2_:List GNode} {y:Bool},FR_19 n s1_ s2_=some y→ACall Tryz.prog 46 [.sl (s1_.map GNode.v),.sl (s2_.map GNode.v),.fn (.func 20) []] [] (fun r H=>r=.bool y∧H=[]))∧(∀{a_:GNode} {b_:GNode} {y:Bool},FR_s n a_ b_=some y→ACall Tryz.prog 20 [GNode.v a_,GNode.v b_] [] (fun r H=>r=.bool y∧H=[]))
 | 0=>⟨fun hy=>(by simp only [FR_19] at hy;cases hy),fun hy=>(by simp only [FR_s] at hy;cases hy)⟩
 | n+1=>by
  obtain ⟨ih_slices_EqualFunc_api_Node_api_Node_api_Node_api_Node_of_pattern_Same,ih_pattern_Same⟩:=WG_5s n
  refine ⟨?_,?_⟩
  ·exact fun hy=>Wq_19 ih_slices_EqualFunc_api_Node_api_Node_api_Node_api_Node_of_pattern_Same ih_pattern_Same _ _ (Q:=(·=_)) ⟨_,hy,rfl⟩ fun|_,rfl=>⟨rfl,rfl⟩
  ·exact fun hy=>Wq_s ih_slices_EqualFunc_api_Node_api_Node_api_Node_api_Node_of_pattern_Same ih_pattern_Same _ _ (Q:=(·=_)) ⟨_,hy,rfl⟩ fun|_,rfl=>⟨rfl,rfl⟩
theorem W_s:∀{a_:GNode} {b_:GNode} {y:Bool},F_s a_ b_=some y→ACall Tryz.prog 20 [GNode.v a_,GNode.v b_] [] (fun r H=>r=.bool y∧H=[]):=fun hy=>by
 obtain ⟨n,hn⟩:=lim_inv hy
 exact (WG_5s n).2 hn
def F_2d (k20:Int) (a21:UInt8) (x19:List GNode):Option (List GNode) :=
 chk (room (x19.length+[(GNode.mk 1 [(GRange.mk a21 a21)] [] 0 0)].length) 72) (some (x19++[(GNode.mk 1 [(GRange.mk a21 a21)] [] 0 0)]))
def F_29 (s_:Str):Option GNode :=
 grp ((decide ((s_.length:Int)=0)||decide (100<(s_.length:Int)))) fun b4=>bif b4 then some (GNode.mk 0 [] [] 0 0) else (foldL F_2d s_ 0 []).bind fun x22=>bif decide ((s_.length:Int)=1) then chk (inb 0 x22.length) (some (x22.getD 0 default)) else some (GNode.mk 2 [] x22 0 0)
@[irreducible] def mg_3g:List MOp:=[gF 9 10 (.mv (.t 0)),
 gF 9 11 (.len true (.t 10)),
 gF 9 12 (.bin false .gtr (.t 11) (cI 100)),
 mo (.pick (.t 9) (.c (.bool true)) (.t 12)) 13]
@[irreducible] def mc_2d:MC :=
 (sR [mo (.bin false .lss (.t 19) (.t 18)) 20]
 (.seq (.cond (.t 20)
 .skip
 (.exit 0))
 (.seq (.block 1
 (sR [mo (.iad 1 (.t 17) (.t 19)) 21,
 oL 21 22,
 oV 22 5]
 (.reg [oF 2 3 23,
 oL 23 24,
 oV 5 25,
 oV 5 26,
 mo (.build [(.int .u8 0),(.int .u8 0)] [(0,1,(.t 25)),(1,1,(.t 26))]) 27,
 mo (.lsl 2 [(.t 27)]) 28,
 mo (.build [(.int .i64 0),(.sl []),(.sl []),(.int .i64 0),(.int .i64 0)] [(0,1,(cI 1)),(1,1,(.t 28))]) 29,
 mo (.bslice 5 [(.t 29)]) 30,
 mo (.app 5 72 (.t 24) (.t 30)) 31,
 oF 2 3 32,
 ⟨.st 1 (.t 32) (.t 31),none,none⟩])))
 (.reg [mo (.bin true .add (.t 19) (cI 1)) 33,
 oV 33 19]))))
def mc_29:MC :=
 (sR [mo (.alloc [(.int .i64 0),(.sl []),(.sl []),(.int .i64 0),(.int .i64 0)]) 2]
 (.seq (.seq (.regI [.op (oV 0 6),
 .op (mo (.len true (.t 6)) 7),
 .op (mo (.bin false .eql (.t 7) (cI 0)) 8),
 .op (oV 8 9),
 .grp mg_3g])
 (.cond (.t 13)
 (sR [mo (.build [(.int .i64 0),(.sl []),(.sl []),(.int .i64 0),(.int .i64 0)] []) 14,
 ⟨.st 5 (.t 2) (.t 14),none,none⟩]
 .ret)
 .skip))
 (sR [mo (.build [(.int .i64 0),.nils,.nils,(.int .i64 0),(.int .i64 0)] [(0,1,(cI 2))]) 15,
 mo (.alloc [(.int .i64 0),(.sl []),(.sl []),(.int .i64 0),(.int .i64 0)]) 3,
 ⟨.st 5 (.t 3) (.t 15),none,none⟩]
 (.seq (sR [oV 0 16,
 mo (.s2b (.t 16)) 17,
 mo (.len false (.t 17)) 18,
 oC 0 19]
 (.block 0
 (.loop mc_2d)))
 (.seq (sR [oV 0 34,
 mo (.len true (.t 34)) 35,
 mo (.bin false .eql (.t 35) (cI 1)) 36]
 (.cond (.t 36)
 (.seq (.note (.gc [2,3]) (.reg [oF 2 3 37,
 oL 37 38,
 mo (.iad 5 (.t 38) (cI 0)) 39,
 mo (.ld (some 5) (.t 39)) 40,
 ⟨.st 5 (.t 2) (.t 40),none,none⟩]))
 .ret)
 .skip))
 (sR [mo (.ld (some 5) (.t 3)) 41,
 ⟨.st 5 (.t 2) (.t 41),none,none⟩]
 .ret))))))
theorem Wq_29 {s_:Str}:Cn Tryz.prog 25 [.str s_] [] (F_29 s_) (fun z=>GNode.v z) (fun z=>[]):=fun Q Q' h hQ=>by
 refine acallM mc_29 [.fzc 2] [] [.c 2 (some 5)] Tryz.func25 fun M=>?_
 unfold F_29 at h
 unfold mc_29
 replace h:=tY h
 refine tB ?_
 repeat' (first
 | (exact tZ)
 | ((first|refine oblg h ?_|refine roomG h ?_|refine fork h ?_ ?_|refine forkS h ?_ ?_)<;>clear h<;>intro hc h)
 | (refine M.fold1 (b:=mc_2d) 19 [0,2,3,17,18] [17,3,2] (fun x=>[]) (fun x=>[.p 3 2 [.osl 4050 5 0 x.length],.o 4050 (.arr 5 (x.map GNode.v))]) [.gc [0,2,3,17,18,19],.ownC 3 2 4050 5 none] h ?_ ?_ ?_<;>first
 | (clear h;intro k a x Qn K hK1 hkN1 ha1 h hf;have hl:=fact_int (factsE_find (n:=18) hf.1 rfl);clear hf;have hkd:=kD hkN1;have hkB1:=kB hkN1;have hkI1:=kI (k:=k) (by omega);unfold F_2d at h;unfold mc_2d;replace h:=tY h;refine tK ha1 hkd hkN1 hkB1 hkI1 ?_)
  |(clear h;intro x K h;replace h:=And.left (And.intro h trivial);unfold mc_2d;replace h:=tY h;refine tB ?_)
  |(clear h;(try refine tB ?_);exact tU0;done))
 | (refine M.gv1 (ms:=mg_3g) 13 [10,11,12] h ?_ ?_<;>first
 | (clear h;intro K hK2;unfold mg_3g;refine tB ?_)
 | (clear h;intro b h;replace h:=tY h;refine tB ?_))
 | (simp only [ha1])
 | (refine hK1 _ ?_;(try refine tB ?_);refine ⟨_,h,?_⟩;exact tU0;done)
 | (refine hK2 _ ?_;exact tU;done)
 | (refine bfork (fun hc=>?_) (fun hc=>?_))
 | (refine tE ?_;(first|rw [M.lok_compU]|rw [M.lokD_compU]);refine tB ?_)
 | (refine tA ?_)
 | fail)
end Go.Ab
