/- What the functions of this seat that lie on the laws' road compute (part LA), each for every input. By AI agents. -/
import Derived.Test.YtbmjlaknnpmgpaaDoorProg
import Derived.KernelRfl
import Derived.Test.YtbmjlaknnpmgpaaDoorAbFun
import Derived.Test.YtbmjlaknnpmgpaaDoorSL
import Derived.Test.YtbmjlaknnpmgpaaDoorAbGen
set_option linter.all false
set_option linter.all false
set_option maxRecDepth 20000
set_option maxHeartbeats 2000000
namespace Go.Ab
open Go.Proofs
structure GSeverity where
 Level:Int
 Worth:Int
 Audience:Int
 Score:Int
instance:Inhabited GSeverity:=⟨⟨default,default,default,default⟩⟩
def GSeverity.v (x:GSeverity):V:=.agg [.int .i64 x.Level,.int .i64 x.Worth,.int .i64 x.Audience,.int .i64 x.Score]
structure GSummary where
 Fingerprint:Int
 Spots:Int
 Public:Bool
 Readers:Int
 Since:Int
 Severity:GSeverity
 Rotated:Bool
 Dead:Bool
instance:Inhabited GSummary:=⟨⟨default,default,default,default,default,default,default,default⟩⟩
def GSummary.v (x:GSummary):V:=.agg [.int .u64 x.Fingerprint,.int .i64 x.Spots,.bool x.Public,.int .i64 x.Readers,.int .i64 x.Since,.int .i64 x.Severity.Level,.int .i64 x.Severity.Worth,.int .i64 x.Severity.Audience,.int .i64 x.Severity.Score,.bool x.Rotated,.bool x.Dead]
structure GS53 where
 name_:Str
 n_:Int
instance:Inhabited GS53:=⟨⟨default,default⟩⟩
def GS53.v (x:GS53):V:=.agg [.str x.name_,.int .i64 x.n_]
structure GA30 where
 e0:Str
 e1:Str
 e2:Str
 e3:Str
 e4:Str
 e5:Str
instance:Inhabited GA30:=⟨⟨default,default,default,default,default,default⟩⟩
def GA30.v (x:GA30):V:=.agg [.str x.e0,.str x.e1,.str x.e2,.str x.e3,.str x.e4,.str x.e5]
theorem dlt {a:Int}:decide (a<a)=false:=by simp
attribute [go_sem] Mach.b2s_set Mach.b2s_setD byte_x4 rngb_i32 rngb_u32 rngb_u64 rngb_i16 rngb_u16 byteV beq_self_eq_true Int.cast_ofNat_Int List.take_succ_cons List.take_zero List.drop_succ_cons List.cons_append List.nil_append putPs pinH wrap_u8 rng64 inb_and inc_and room_and roomI_and divs_and shok_and64 rep_u rep_ll mget_i mget_s mput_i mput_s mdel_i mdel_s lk_b lk_i lk_s lk_l lkt_b' lkt_i' lkt_s' lkt_l' rep_b rep_i ovS ovE ovU patO filt filtH dropE stepNs atEndN shqs shq1 V.oids V.oidsL V.tr V.trL trE trH Obj'.tr true_implies false_implies Bool.false_eq_true Bool.true_eq_false dlt mpV slV Int.natCast_zero List.map_set kvV nxt_map erase_map V.sw V.swL swN swH sw_sl sw_int sw_bool sw_str sw_smap sw_byte Obj'.sw sw_arr sw_map byte_1 byte_2 Mach.b2s_e Mach.b2s_eD toNat_ltb List.length_set List.length_replicate List.take_of_length_le Nat.zero_le bounds eqCells Option.map_some Option.map_none Fl_nx Fl_ex Sum_inl Sum_inr Ok_ite Ok_chk Ok_some Ok_bind Ok_none
theorem inb_0_6:inb 0 6=true:=inb_iff.2 (by decide)
attribute [go_sem] inb_0_6
theorem inbk_0 {n:Nat}:(inb 0 n=true)=(((0:Nat):Int)<(n:Int)):=propext (by rw [inb_iff];omega)
attribute [go_sem] inbk_0
theorem inbk_1 {n:Nat}:(inb 1 n=true)=(((1:Nat):Int)<(n:Int)):=propext (by rw [inb_iff];omega)
attribute [go_sem] inbk_1
theorem inbk_3 {n:Nat}:(inb 3 n=true)=(((3:Nat):Int)<(n:Int)):=propext (by rw [inb_iff];omega)
attribute [go_sem] inbk_3
theorem inbk_4 {n:Nat}:(inb 4 n=true)=(((4:Nat):Int)<(n:Int)):=propext (by rw [inb_iff];omega)
attribute [go_sem] inbk_4
theorem inbk_6 {n:Nat}:(inb 6 n=true)=(((6:Nat):Int)<(n:Int)):=propext (by rw [inb_iff];omega)
attribute [go_sem] inbk_6
theorem inbk_8 {n:Nat}:(inb 8 n=true)=(((8:Nat):Int)<(n:Int)):=propext (by rw [inb_iff];omega)
attribute [go_sem] inbk_8
theorem inbk_10 {n:Nat}:(inb 10 n=true)=(((10:Nat):Int)<(n:Int)):=propext (by rw [inb_iff];omega)
attribute [go_sem] inbk_10
theorem inbk_12 {n:Nat}:(inb 12 n=true)=(((12:Nat):Int)<(n:Int)):=propext (by rw [inb_iff];omega)
attribute [go_sem] inbk_12
theorem inbk_14 {n:Nat}:(inb 14 n=true)=(((14:Nat):Int)<(n:Int)):=propext (by rw [inb_iff];omega)
attribute [go_sem] inbk_14
theorem inbk_16 {n:Nat}:(inb 16 n=true)=(((16:Nat):Int)<(n:Int)):=propext (by rw [inb_iff];omega)
attribute [go_sem] inbk_16
theorem inbk_17 {n:Nat}:(inb 17 n=true)=(((17:Nat):Int)<(n:Int)):=propext (by rw [inb_iff];omega)
attribute [go_sem] inbk_17
theorem inbk_18 {n:Nat}:(inb 18 n=true)=(((18:Nat):Int)<(n:Int)):=propext (by rw [inb_iff];omega)
attribute [go_sem] inbk_18
theorem incl_0 {b:Int} {n:Nat}:(inc 0 b n=true)=(((0:Nat):Int)≤b∧b≤(n:Int)):=propext (by rw [inc_iff];omega)
attribute [go_sem] incl_0
theorem incl_1 {b:Int} {n:Nat}:(inc 1 b n=true)=(((1:Nat):Int)≤b∧b≤(n:Int)):=propext (by rw [inc_iff];omega)
attribute [go_sem] incl_1
attribute [go_sem] GA30.v GS53.v GSeverity.v GSummary.v
def F_6 (is_:Bool) (yes_:Str) (no_:Str):Option Str :=
 bif is_ then some yes_ else some no_
def mc_6:MC :=
 (sR [mo (.mv (.c (.str []))) 6]
 (.seq (sR [oV 0 7]
 (.cond (.t 7)
 (sR [oV 1 8,
 oV 8 6]
 .ret)
 .skip))
 (sR [oV 2 9,
 oV 9 6]
 .ret)))
instance Wq_incident_choice {is_:Bool} {yes_ no_:Str}:WI (F_6 is_ yes_ no_) Tryd.prog 19 [.bool is_,.str yes_,.str no_] [] (fun z=>.str z) (fun z=>[]):=⟨fun Q Q' h hQ=>by
 refine acallM mc_6 [] [] [.t 6] Tryd.func19 fun M=>?_
 unfold F_6 at h
 unfold mc_6
 exact tX⟩
def F_7 (k36:Int) (a37:GS53) (x35:List Str):Option (List Str) :=
 (itoaI a37.n_).bind fun y41=>chk (room (x35.length+[a37.name_,y41].length) 16) (some (x35++[a37.name_,y41]))
def F_3 (m_:GSummary):Option Str :=
 (futI m_.Fingerprint 10).bind fun y4=>(itoaI m_.Spots).bind fun y5=>(F_6 m_.Public [112,117,98,108,105,99] [105,110,115,105,100,101]).bind fun y6=>(foldL F_7 [(GS53.mk [114,101,97,100,101,114,115] m_.Readers),(GS53.mk [115,105,110,99,101] m_.Since),(GS53.mk [108,101,118,101,108] m_.Severity.Level),(GS53.mk [119,111,114,116,104] m_.Severity.Worth),(GS53.mk [97,117,100,105,101,110,99,101] m_.Severity.Audience),(GS53.mk [115,99,111,114,101] m_.Severity.Score)] 0 [[108,101,97,107],y4,[115,112,111,116,115],y5,y6]).bind fun x42=>(F_6 m_.Rotated [114,111,116,97,116,101,100] [118,97,108,105,100]).bind fun y46=>(F_6 m_.Dead [100,101,97,100] [97,108,105,118,101]).bind fun y47=>chk (room (x42.length+[y46,y47].length) 16) ((joinO (x42++[y46,y47]) [32]).bind fun y48=>some y48)
@[irreducible] def mc_7:MC :=
 (sR [mo (.bin false .lss (.t 40) (.t 39)) 41]
 (.seq (.cond (.t 41)
 .skip
 (.exit 0))
 (.seq (.block 1
 (sR [mo (.iad 2 (.t 38) (.t 40)) 42,
 mo (.ld (some 2) (.t 42)) 43,
 mo (.alloc [(.str []),(.int .i64 0)]) 5,
 ⟨.st 2 (.t 5) (.t 43),none,none⟩]
 (.regD [oV 3 44,
 oF 0 5 45,
 oL 45 46,
 oF 1 5 47,
 oL 47 48,
 mo (.call (.f 11) [(.t 48)] [] []) 49,
 mo (.bslice 1 [(.t 46),(.t 49)]) 50,
 mo (.app 1 16 (.t 44) (.t 50)) 51,
 oV 51 3]
 [[],[],[1],[],[3],[4],[2,5],[0,6,5],[7,7,0,1,2,3,4,5,6,7]]
 [[],[],[1],[],[3],[3,4],[1,2,3,4,5],[0,1,2,3,4,5,6],[0,1,2,3,4,5,6,7]])))
 (.reg [mo (.bin true .add (.t 40) (cI 1)) 52,
 oV 52 40]))))
def mc_3:MC :=
 (sR [mo (.box (.t 0)) 1,
 mo (.mv (.c (.str []))) 2]
 (.seq (.regD [oF 0 1 6,
 oL 6 7,
 mo (.call (.f 10) [(.t 7),(cI 10)] [] []) 8,
 oF 1 1 9,
 oL 9 10,
 mo (.call (.f 11) [(.t 10)] [] []) 11,
 oF 2 1 12,
 oL 12 13,
 mo (.call (.f 19) [(.t 13),(.c (.str [112,117,98,108,105,99])),(.c (.str [105,110,115,105,100,101]))] [] []) 14,
 mo (.bslice 1 [(.c (.str [108,101,97,107])),(.t 8),(.c (.str [115,112,111,116,115])),(.t 11),(.t 14)]) 15,
 oV 15 3]
 [[],[0],[1],[],[3],[4,2],[],[6],[7,5],[2,5,8],[9,8,0,1,2,3,4,5,6,7,8,9]]
 [[],[0],[0,1],[],[3],[0,1,2,3,4],[],[6],[0,1,2,3,4,5,6,7],[0,1,2,3,4,5,6,7,8],[0,1,2,3,4,5,6,7,8,9]])
 (.seq (.seq (.note (.gc [1,3]) (.reg [oF 3 1 16,
 oL 16 17,
 mo (.build [(.str []),(.int .i64 0)] [(0,1,(.c (.str [114,101,97,100,101,114,115]))),(1,1,(.t 17))]) 18,
 oF 4 1 19,
 oL 19 20,
 mo (.build [(.str []),(.int .i64 0)] [(0,1,(.c (.str [115,105,110,99,101]))),(1,1,(.t 20))]) 21,
 oF 5 1 22,
 oF 0 22 23,
 oL 23 24,
 mo (.build [(.str []),(.int .i64 0)] [(0,1,(.c (.str [108,101,118,101,108]))),(1,1,(.t 24))]) 25,
 oF 5 1 26,
 oF 1 26 27,
 oL 27 28,
 mo (.build [(.str []),(.int .i64 0)] [(0,1,(.c (.str [119,111,114,116,104]))),(1,1,(.t 28))]) 29,
 oF 5 1 30,
 oF 2 30 31,
 oL 31 32,
 mo (.build [(.str []),(.int .i64 0)] [(0,1,(.c (.str [97,117,100,105,101,110,99,101]))),(1,1,(.t 32))]) 33,
 oF 5 1 34,
 oF 3 34 35,
 oL 35 36,
 mo (.build [(.str []),(.int .i64 0)] [(0,1,(.c (.str [115,99,111,114,101]))),(1,1,(.t 36))]) 37,
 mo (.bslice 2 [(.t 18),(.t 21),(.t 25),(.t 29),(.t 33),(.t 37)]) 38,
 mo (.len false (.t 38)) 39,
 oC 0 40]))
 (.block 0
 (.loop mc_7)))
 (.seq (.regD [oV 3 53,
 oF 9 1 54,
 oL 54 55,
 mo (.call (.f 19) [(.t 55),(.c (.str [114,111,116,97,116,101,100])),(.c (.str [118,97,108,105,100]))] [] []) 56,
 oF 10 1 57,
 oL 57 58,
 mo (.call (.f 19) [(.t 58),(.c (.str [100,101,97,100])),(.c (.str [97,108,105,118,101]))] [] []) 59,
 mo (.bslice 1 [(.t 56),(.t 59)]) 60,
 mo (.app 1 16 (.t 53) (.t 60)) 61,
 mo (.call (.f 20) [(.t 61),(.c (.str [32]))] [61] []) 62,
 oV 62 2]
 [[],[],[1],[2],[],[4],[5,3],[3,6],[0,7,6],[8,8],[9,9,0,1,2,3,4,5,6,7,8,9]]
 [[],[],[1],[1,2],[],[4],[1,2,3,4,5],[1,2,3,4,5,6],[0,1,2,3,4,5,6,7],[0,1,2,3,4,5,6,7,8],[0,1,2,3,4,5,6,7,8,9]])
 .ret))))
instance Wq_incident_Text {m_:GSummary}:WI (F_3 m_) Tryd.prog 8 [GSummary.v m_] [] (fun z=>.str z) (fun z=>[]):=⟨fun Q Q' h hQ=>by
 refine acallM mc_3 [] [] [.t 2] Tryd.func8 fun M=>?_
 unfold F_3 at h
 unfold mc_3
 replace h:=tY h
 refine tB ?_
 repeat' (first
 | (exact tZ)
 | ((first|refine oblg h ?_|refine roomG h ?_|refine inbG h ?_|refine incG h ?_|refine divG h ?_|refine appG h ?_|refine appC h ?_|refine fork h ?_ ?_|refine forkS h ?_ ?_)<;>clear h<;>intro hc h)
 | (obtain ⟨y,hy,h⟩:=h;(first|(with_reducible first|have hw:=W_k hy|have hw:=W_o hy|have hw:=WI.w hy)|have hw:=acall_swe 1000 61 (W_y hy));replace hw:=tY hw;(first|refine M.sC hw ?_|refine M.sD hw ?_);clear hw hy;refine tB ?_)
 | (refine M.fold1 (b:=mc_7) 40 [1,38,39] [38,1] (fun x=>[(3,.osl 2003 1 0 x.length)]) (fun x=>[.o 2003 (.arr 1 (x.map V.str))]) [.gc [1,3,38,39,40],.acc 3 2003 1] h ?_ ?_ ?_<;>first
 | (clear h;intro k a x Qn K hK1 hkN1 ha1 h hf;skip;clear hf;have hkd:=kD hkN1;have hkB1:=kB hkN1;have hkI1:=kI (k:=k) (by (try simp only [List.length_cons,List.length_nil] at hkN1);omega);have hkd1:decide ((k:Int)<6)=true:=decide_eq_true (by simp only [List.length_cons,List.length_nil] at hkN1;omega);have hkr1:(0≤(k:Int)∧(k:Int)<6)=True:=eq_true (by simp only [List.length_cons,List.length_nil] at hkN1;omega);have hle1:=trivial;have hpt1:=trivial;unfold F_7 at h;unfold mc_7;replace h:=tY h;refine tKA ha1 hkd hkN1 hkB1 hkI1 hkd1 hkr1 hle1 hpt1 ?_)
  |(clear h;intro x K h;replace h:=And.left (And.intro h trivial);unfold mc_7;replace h:=tY h;refine tB ?_)
  |(clear h;(try refine tB ?_);exact tU0;done))
 | (simp only [ha1])
 | (refine hK1 _ ?_;(try refine tB ?_);refine ⟨_,h,?_⟩;exact tU0;done)
 | (refine tE6 GS53.v ([(GS53.mk [114,101,97,100,101,114,115] m_.Readers),(GS53.mk [115,105,110,99,101] m_.Since),(GS53.mk [108,101,118,101,108] m_.Severity.Level),(GS53.mk [119,111,114,116,104] m_.Severity.Worth),(GS53.mk [97,117,100,105,101,110,99,101] m_.Severity.Audience),(GS53.mk [115,99,111,114,101] m_.Severity.Score)]:List GS53) ?_;(first|rw [M.lok_compU]|rw [M.lokD_compU]|(simp only [slV,V.cells];first|rw [M.lok_comp]|rw [M.lokD_comp]));refine tB ?_)
 | (refine tE4 GS53.v ?_;(first|rw [M.lok_compU]|rw [M.lokD_compU]|(simp only [V.cells];first|rw [M.lok_comp]|rw [M.lokD_comp]));refine tB ?_)
 | (refine tE ?_;(first|rw [M.lok_compU]|rw [M.lokD_compU]);refine tB ?_)
 | (refine tA ?_)
 | fail)⟩
noncomputable def F_4 (y2:List Str) (k101:Int) (a78:Int×Nat) (x77:Bool×GSummary):Option (Bool×GSummary) :=
 bif Nat.beq a78.2 1 then chk (inb a78.1 y2.length) ((atoiE (y2.getD (a78.1).toNat default)).bind fun y121=>grp ((x77.1||(!y121.2))) fun b122=>some (b122,(GSummary.mk x77.2.Fingerprint y121.1 x77.2.Public x77.2.Readers x77.2.Since x77.2.Severity x77.2.Rotated x77.2.Dead))) else bif Nat.beq a78.2 3 then chk (inb a78.1 y2.length) ((atoiE (y2.getD (a78.1).toNat default)).bind fun y118=>grp ((x77.1||(!y118.2))) fun b119=>some (b119,(GSummary.mk x77.2.Fingerprint x77.2.Spots x77.2.Public y118.1 x77.2.Since x77.2.Severity x77.2.Rotated x77.2.Dead))) else bif Nat.beq a78.2 4 then chk (inb a78.1 y2.length) ((atoiE (y2.getD (a78.1).toNat default)).bind fun y115=>grp ((x77.1||(!y115.2))) fun b116=>some (b116,(GSummary.mk x77.2.Fingerprint x77.2.Spots x77.2.Public x77.2.Readers y115.1 x77.2.Severity x77.2.Rotated x77.2.Dead))) else bif Nat.beq a78.2 5 then chk (inb a78.1 y2.length) ((atoiE (y2.getD (a78.1).toNat default)).bind fun y112=>grp ((x77.1||(!y112.2))) fun b113=>some (b113,(GSummary.mk x77.2.Fingerprint x77.2.Spots x77.2.Public x77.2.Readers x77.2.Since (GSeverity.mk y112.1 x77.2.Severity.Worth x77.2.Severity.Audience x77.2.Severity.Score) x77.2.Rotated x77.2.Dead))) else bif Nat.beq a78.2 6 then chk (inb a78.1 y2.length) ((atoiE (y2.getD (a78.1).toNat default)).bind fun y109=>grp ((x77.1||(!y109.2))) fun b110=>some (b110,(GSummary.mk x77.2.Fingerprint x77.2.Spots x77.2.Public x77.2.Readers x77.2.Since (GSeverity.mk x77.2.Severity.Level y109.1 x77.2.Severity.Audience x77.2.Severity.Score) x77.2.Rotated x77.2.Dead))) else bif Nat.beq a78.2 7 then chk (inb a78.1 y2.length) ((atoiE (y2.getD (a78.1).toNat default)).bind fun y106=>grp ((x77.1||(!y106.2))) fun b107=>some (b107,(GSummary.mk x77.2.Fingerprint x77.2.Spots x77.2.Public x77.2.Readers x77.2.Since (GSeverity.mk x77.2.Severity.Level x77.2.Severity.Worth y106.1 x77.2.Severity.Score) x77.2.Rotated x77.2.Dead))) else bif Nat.beq a78.2 8 then chk (inb a78.1 y2.length) ((atoiE (y2.getD (a78.1).toNat default)).bind fun y103=>grp ((x77.1||(!y103.2))) fun b104=>some (b104,(GSummary.mk x77.2.Fingerprint x77.2.Spots x77.2.Public x77.2.Readers x77.2.Since (GSeverity.mk x77.2.Severity.Level x77.2.Severity.Worth x77.2.Severity.Audience y103.1) x77.2.Rotated x77.2.Dead))) else none
noncomputable def F_2 (text_:Str):Option (GSummary×Int) :=
 (splI text_ [32]).bind fun y2=>bif (!decide ((y2.length:Int)=19)) then some ((GSummary.mk 0 0 false 0 0 (GSeverity.mk 0 0 0 0) false false),4) else chk (inb 1 y2.length) ((puE (y2.getD 1 default) 10 64).bind fun y4=>permL (fun l100=>(foldL (F_4 y2) l100 0 ((!y4.2),(GSummary.mk 0 0 false 0 0 (GSeverity.mk 0 0 0 0) false false))).bind fun x123=>chk (inb 4 y2.length) (chk (inb 17 y2.length) (chk (inb 18 y2.length) (bif x123.1 then some ((GSummary.mk 0 0 false 0 0 (GSeverity.mk 0 0 0 0) false false),4) else (F_3 (GSummary.mk y4.1 x123.2.Spots (decide ((y2.getD 4 default)=[112,117,98,108,105,99])) x123.2.Readers x123.2.Since x123.2.Severity (decide ((y2.getD 17 default)=[114,111,116,97,116,101,100])) (decide ((y2.getD 18 default)=[100,101,97,100])))).bind fun y127=>bif (!decide (y127=text_)) then some ((GSummary.mk 0 0 false 0 0 (GSeverity.mk 0 0 0 0) false false),4) else some ((GSummary.mk y4.1 x123.2.Spots (decide ((y2.getD 4 default)=[112,117,98,108,105,99])) x123.2.Readers x123.2.Since x123.2.Severity (decide ((y2.getD 17 default)=[114,111,116,97,116,101,100])) (decide ((y2.getD 18 default)=[100,101,97,100]))),0))))) [(3,1),(6,3),(8,4),(10,5),(12,6),(14,7),(16,8)])
@[irreducible] def mg_h:List MOp:=[gF 56 57 (.mv (.t 7)),
 gF 56 58 (.mp (.ifz true) [(.t 57)]),
 mo (.pick (.t 56) (.c (.bool true)) (.t 58)) 59]
@[irreducible] def mc_4:MC :=
 (sR [mo (.mp .nxt [(.t 39)]) 40,
 mo (.ext 0 (.t 40)) 41]
 (.seq (.cond (.t 41)
 .skip
 (.exit 0))
 (.block 1
 (sR [mo (.mp .ent [(.t 39)]) 42,
 mo (.ext 0 (.t 42)) 43,
 mo (.ext 1 (.t 42)) 44,
 oV 43 9,
 oV 44 10]
 (.seq (.regI [.nt (.ofA 10 11),
 .op (oV 10 46),
 .op (oV 4 47),
 .op (oV 9 48),
 .op (mo (.iad 1 (.t 47) (.t 48)) 49),
 .op (oL 49 50),
 .op (mo (.call (.f 15) [(.t 50)] [] []) 51),
 .op (oV 51 45),
 .op (mo (.ext 0 (.t 45)) 52),
 .op (mo (.ext 1 (.t 45)) 53),
 .op (mo (.nck (.t 46)) 54),
 .op ⟨.st 1 (.t 54) (.t 52),none,none⟩,
 .op (oV 53 7)])
 (.note (.gc [0,2,4,5,6,7,8,11,39,57,58,79,80,81,82]) (.regI [.op (oV 8 55),
 .op (oV 55 56),
 .grp mg_h,
 .op (oV 59 8)])))))))
def mc_2:MC :=
 (sR [mo (.alloc [(.int .u64 0),(.int .i64 0),(.bool false),(.int .i64 0),(.int .i64 0),(.int .i64 0),(.int .i64 0),(.int .i64 0),(.int .i64 0),(.bool false),(.bool false)]) 2,
 oC 0 3]
 (sR [oV 0 11,
 mo (.call (.f 13) [(.t 11),(.c (.str [32]))] [] []) 12,
 oV 12 4]
 (.seq (sR [oV 4 13,
 mo (.len false (.t 13)) 14,
 mo (.bin false .neq (.t 14) (cI 19)) 15]
 (.cond (.t 15)
 (.seq (.note (.gc [2]) (.reg [mo (.build [(.int .u64 0),(.int .i64 0),(.bool false),(.int .i64 0),(.int .i64 0),(.int .i64 0),(.int .i64 0),(.int .i64 0),(.int .i64 0),(.bool false),(.bool false)] []) 16,
 ⟨.st 11 (.t 2) (.t 16),none,none⟩,
 oC 4 3]))
 .ret)
 .skip))
 (sR [mo (.alloc [(.int .u64 0),(.int .i64 0),(.bool false),(.int .i64 0),(.int .i64 0),(.int .i64 0),(.int .i64 0),(.int .i64 0),(.int .i64 0),(.bool false),(.bool false)]) 5]
 (sR [oV 4 18,
 mo (.iad 1 (.t 18) (cI 1)) 19,
 oL 19 20,
 mo (.call (.f 14) [(.t 20),(cI 10),(cI 64)] [] []) 21,
 oV 21 17,
 mo (.ext 0 (.t 17)) 22,
 mo (.ext 1 (.t 17)) 23,
 oV 22 6,
 oV 23 7]
 (.seq (.note (.gc [0,2,4,5,6,7,11,57,58,79,80,81,82]) (.reg [oV 7 24,
 mo (.mp (.ifz true) [(.t 24)]) 25,
 oV 25 8]))
 (.seq (.seq (.regI [.op (mo (.mp (.mk (.int .i64)) []) 26),
 .op (oF 1 5 27),
 .nt (.adq 5 11),
 .nt (.toA 27 11),
 .op ⟨.mp (.up (.int .i64)) [(.t 26),(cI 3),(.t 27)],none,none⟩,
 .op (oF 3 5 28),
 .nt (.toA 28 11),
 .op ⟨.mp (.up (.int .i64)) [(.t 26),(cI 6),(.t 28)],none,none⟩,
 .op (oF 4 5 29),
 .nt (.toA 29 11),
 .op ⟨.mp (.up (.int .i64)) [(.t 26),(cI 8),(.t 29)],none,none⟩,
 .op (oF 5 5 30),
 .op (oF 0 30 31),
 .nt (.toA 31 11),
 .op ⟨.mp (.up (.int .i64)) [(.t 26),(cI 10),(.t 31)],none,none⟩,
 .op (oF 5 5 32),
 .op (oF 1 32 33),
 .nt (.toA 33 11),
 .op ⟨.mp (.up (.int .i64)) [(.t 26),(cI 12),(.t 33)],none,none⟩,
 .op (oF 5 5 34),
 .op (oF 2 34 35),
 .nt (.toA 35 11),
 .op ⟨.mp (.up (.int .i64)) [(.t 26),(cI 14),(.t 35)],none,none⟩,
 .op (oF 5 5 36),
 .op (oF 3 36 37),
 .nt (.toA 37 11),
 .op ⟨.mp (.up (.int .i64)) [(.t 26),(cI 16),(.t 37)],none,none⟩,
 .op (oV 26 38),
 .nt (.shut 26),
 .op (mo (.mp .rng [(.t 38)]) 39)])
 (.block 0
 (.loop mc_4)))
 (.seq (.regD [oV 6 60,
 oV 4 61,
 mo (.iad 1 (.t 61) (cI 4)) 62,
 oL 62 63,
 mo (.bin false .eql (.t 63) (.c (.str [112,117,98,108,105,99]))) 64,
 oV 4 65,
 mo (.iad 1 (.t 65) (cI 17)) 66,
 oL 66 67,
 mo (.bin false .eql (.t 67) (.c (.str [114,111,116,97,116,101,100]))) 68,
 oV 4 69,
 mo (.iad 1 (.t 69) (cI 18)) 70,
 oL 70 71,
 mo (.bin false .eql (.t 71) (.c (.str [100,101,97,100]))) 72,
 oF 0 5 73,
 ⟨.st 1 (.t 73) (.t 60),none,none⟩,
 oF 2 5 74,
 ⟨.st 1 (.t 74) (.t 64),none,none⟩,
 oF 9 5 75,
 ⟨.st 1 (.t 75) (.t 68),none,none⟩,
 oF 10 5 76,
 ⟨.st 1 (.t 76) (.t 72),none,none⟩]
 [[],[],[1],[2],[3],[],[5],[6],[7],[],[9],[10],[11],[0,3,7,11],[13,0,0,3,7,11],[0,1,2,3,4,7,11,13,14],[15,4,14,0,1,2,3,4,7,11,13,14],[0,1,2,3,4,5,6,7,8,11,13,14,15,16],[17,8,16,0,1,2,3,4,5,6,7,8,11,13,14,15,16],[0,1,2,3,4,5,6,7,8,9,10,11,12,13,14,15,16,17,18],[19,12,18,0,1,2,3,4,5,6,7,8,9,10,11,12,13,14,15,16,17,18]]
 [[],[],[1],[1,2],[1,2,3],[],[5],[5,6],[5,6,7],[],[9],[9,10],[9,10,11],[0,1,2,3,5,6,7,9,10,11],[0,1,2,3,5,6,7,9,10,11,13],[0,1,2,3,4,5,6,7,9,10,11,13,14],[0,1,2,3,4,5,6,7,9,10,11,13,14,15],[0,1,2,3,4,5,6,7,8,9,10,11,13,14,15,16],[0,1,2,3,4,5,6,7,8,9,10,11,13,14,15,16,17],[0,1,2,3,4,5,6,7,8,9,10,11,12,13,14,15,16,17,18],[0,1,2,3,4,5,6,7,8,9,10,11,12,13,14,15,16,17,18,19]])
 (.seq (.seq (.note (.gc [0,2,5,8,11,79,80,81,82]) (.reg [oV 8 77,
 oV 77 78,
 gF 78 79 (.ld (some 11) (.t 5)),
 gF 78 80 (.call (.f 8) [(.t 79)] [] []),
 gF 78 81 (.mv (.t 0)),
 gF 78 82 (.bin false .neq (.t 80) (.t 81)),
 mo (.pick (.t 78) (.c (.bool true)) (.t 82)) 83]))
 (.cond (.t 83)
 (.seq (.note (.gc [2,11]) (.reg [mo (.build [(.int .u64 0),(.int .i64 0),(.bool false),(.int .i64 0),(.int .i64 0),(.int .i64 0),(.int .i64 0),(.int .i64 0),(.int .i64 0),(.bool false),(.bool false)] []) 84,
 ⟨.st 11 (.t 2) (.t 84),none,none⟩,
 oC 4 3]))
 .ret)
 .skip))
 (.seq (.note (.gc [2,5,11]) (.reg [mo (.ld (some 11) (.t 5)) 85,
 ⟨.st 11 (.t 2) (.t 85),none,none⟩,
 oC 0 3]))
 .ret))))))))))
instance Wq_incident_Parse {text_:Str}:WI (F_2 text_) Tryd.prog 6 [.str text_] [] (fun z=>.tup [GSummary.v z.1,.int .i64 z.2]) (fun z=>[]):=⟨fun Q Q' h hQ=>by
 refine acallM mc_2 [] [] [.c 2 (some 11),.t 3] Tryd.func6 fun M=>?_
 unfold F_2 at h
 unfold mc_2
 replace h:=tY h
 refine tB ?_
 repeat' (first
 | (exact tZ)
 | ((first|refine oblg h ?_|refine roomG h ?_|refine inbG h ?_|refine incG h ?_|refine divG h ?_|refine appG h ?_|refine appC h ?_|refine fork h ?_ ?_|refine forkS h ?_ ?_)<;>clear h<;>intro hc h)
 | (intro b;(try refine tB ?_))
 | (obtain ⟨y,hy,h⟩:=h;(first|with_reducible first|have hw:=W_l hy|have hw:=W_n hy|have hw:=W_p hy|have hw:=WI.w hy);replace hw:=tY hw;(first|refine M.sC hw ?_|refine M.sD hw ?_);clear hw hy;refine tB ?_)
 | (refine M.gv1 (ms:=mg_h) 59 [57,58] h ?_ ?_<;>first
 | (clear h;intro K hK1;unfold mg_h;refine tB ?_)
 | (clear h;intro b h;replace h:=tY h;refine tB ?_))
 | (refine M.mfold1 (b:=mc_4) (kv:=(kvV (V.int .i64) (V.adr b))) 39 [0,2,4,5,6,11,39] [2] (fun x=>[(8,.bool x.1)]) (fun x=>[.o 5 (.cells [.int .u64 x.2.Fingerprint,.int .i64 x.2.Spots,.bool x.2.Public,.int .i64 x.2.Readers,.int .i64 x.2.Since,.int .i64 x.2.Severity.Level,.int .i64 x.2.Severity.Worth,.int .i64 x.2.Severity.Audience,.int .i64 x.2.Severity.Score,.bool x.2.Rotated,.bool x.2.Dead])]) [] h ?_ ?_<;>first
 | (clear h;intro rem cur x k Qn K hK2 hs2 hn2;unfold F_4 at hn2;unfold mc_4;refine tB ?_)
 | (clear h;(try refine tB ?_);exact tU0;done))
 | (refine nxt_of hs2 hn2 ?_ ?_<;>first
  |(intro h;rw [M.lok_eq];replace h:=tY h;refine tB ?_)
  |(intro i a h;rw [M.lok_eq];obtain ⟨ak,ao⟩:=a;rcases ao with _|_|_|_|_|_|_|_|_|_|_|_|ao<;>replace h:=tY h<;>first|exact False.elim h|(exfalso;simp [Nat.beq,Ok_none] at h;done)|refine tB ?_))
 | (refine hK1 _ ?_;exact tU;done)
 | (apply hK2;(try refine tB ?_);refine ⟨_,h,?_⟩;exact tU0;done)
 | (refine bfork (fun hc=>?_) (fun hc=>?_))
 | (refine tE ?_;(first|rw [M.lok_compU]|rw [M.lokD_compU]);refine tB ?_)
 | (refine tA ?_)
 | fail)⟩
def F_d (m_:GSummary):Option Bool :=
 grp ((m_.Rotated&&m_.Dead)) fun b2=>some b2
@[irreducible] def mg_q:List MOp:=[gT 5 6 (.fad 10 (.t 1)),
 gT 5 7 (.ld none (.t 6)),
 mo (.pick (.t 5) (.t 7) (.c (.bool false))) 8]
def mc_d:MC :=
 (sR [mo (.box (.t 0)) 1,
 mo (.mv (.c (.bool false))) 2]
 (.seq (.regI [.op (oF 9 1 3),
 .op (oL 3 4),
 .op (oV 4 5),
 .grp mg_q,
 .op (oV 8 2)])
 .ret))
instance:GV mg_q 8 [6,7]:=⟨⟩
instance Wq_incident_Closed {m_:GSummary}:WI (F_d m_) Tryd.prog 9 [GSummary.v m_] [] (fun z=>.bool z) (fun z=>[]):=⟨fun Q Q' h hQ=>by
 refine acallM mc_d [] [] [.t 2] Tryd.func9 fun M=>?_
 unfold F_d at h
 unfold mc_d
 exact tX⟩
noncomputable def F_8:Option Bool :=
 (F_2 [108,101,97,107,32,55,32,115,112,111,116,115,32,49,32,105,110,115,105,100,101,32,114,101,97,100,101,114,115,32,50,32,115,105,110,99,101,32,53,32,108,101,118,101,108,32,50,32,119,111,114,116,104,32,49,48,48,32,97,117,100,105,101,110,99,101,32,51,32,115,99,111,114,101,32,51,48,48,32,114,111,116,97,116,101,100,32,100,101,97,100]).bind fun y2=>jn (α:=Bool) (bif decide (y2.2=0) then (F_3 y2.1).bind fun y10=>some (decide (y10=[108,101,97,107,32,55,32,115,112,111,116,115,32,49,32,105,110,115,105,100,101,32,114,101,97,100,101,114,115,32,50,32,115,105,110,99,101,32,53,32,108,101,118,101,108,32,50,32,119,111,114,116,104,32,49,48,48,32,97,117,100,105,101,110,99,101,32,51,32,115,99,111,114,101,32,51,48,48,32,114,111,116,97,116,101,100,32,100,101,97,100])) else some false) fun j11=>grp ((j11&&decide (y2.1.Fingerprint=7))) fun b12=>grp ((b12&&decide (y2.1.Since=5))) fun b13=>jn (α:=Bool) (bif b13 then (F_d y2.1).bind fun y15=>some y15 else some false) fun j16=>some j16
@[irreducible] def mg_r:List MOp:=[gT 11 12 (.ld (some 11) (.t 2)),
 gT 11 13 (.call (.f 8) [(.t 12)] [] []),
 gT 11 14 (.mv (.t 1)),
 gT 11 15 (.bin false .eql (.t 13) (.t 14)),
 mo (.pick (.t 11) (.t 15) (.c (.bool false))) 16]
@[irreducible] def mg_s:List MOp:=[gT 17 18 (.fad 0 (.t 2)),
 gT 17 19 (.ld none (.t 18)),
 gT 17 20 (.bin false .eql (.t 19) (.c (.int .u64 7))),
 mo (.pick (.t 17) (.t 20) (.c (.bool false))) 21]
@[irreducible] def mg_t:List MOp:=[gT 22 23 (.fad 4 (.t 2)),
 gT 22 24 (.ld none (.t 23)),
 gT 22 25 (.bin false .eql (.t 24) (cI 5)),
 mo (.pick (.t 22) (.t 25) (.c (.bool false))) 26]
@[irreducible] def mg_u:List MOp:=[gT 27 28 (.ld (some 11) (.t 2)),
 gT 27 29 (.call (.f 9) [(.t 28)] [] []),
 mo (.pick (.t 27) (.t 29) (.c (.bool false))) 30]
def mc_8:MC :=
 (sR [mo (.mv (.c (.bool false))) 0]
 (sR [mo (.mv (.c (.str [108,101,97,107,32,55,32,115,112,111,116,115,32,49,32,105,110,115,105,100,101,32,114,101,97,100,101,114,115,32,50,32,115,105,110,99,101,32,53,32,108,101,118,101,108,32,50,32,119,111,114,116,104,32,49,48,48,32,97,117,100,105,101,110,99,101,32,51,32,115,99,111,114,101,32,51,48,48,32,114,111,116,97,116,101,100,32,100,101,97,100]))) 1]
 (sR [oV 1 5,
 mo (.call (.f 6) [(.t 5)] [] []) 6,
 oV 6 4,
 mo (.ext 0 (.t 4)) 7,
 mo (.ext 1 (.t 4)) 8,
 mo (.alloc [(.int .u64 0),(.int .i64 0),(.bool false),(.int .i64 0),(.int .i64 0),(.int .i64 0),(.int .i64 0),(.int .i64 0),(.int .i64 0),(.bool false),(.bool false)]) 2,
 ⟨.st 11 (.t 2) (.t 7),none,none⟩,
 oV 8 3]
 (.seq (.regI [.op (oV 3 9),
 .op (mo (.bin false .eql (.t 9) (cI 0)) 10),
 .op (oV 10 11),
 .grp mg_r,
 .op (oV 16 17),
 .grp mg_s,
 .op (oV 21 22),
 .grp mg_t,
 .op (oV 26 27),
 .grp mg_u,
 .op (oV 30 0)])
 .ret))))
instance:GI mg_u [0] [] (fun y:Bool=>[(30,.bool y)]) (fun y=>[]):=⟨⟩
instance:GV mg_t 26 [23,24,25]:=⟨⟩
instance:GV mg_s 21 [18,19,20]:=⟨⟩
instance:GI mg_r [0,2] [2] (fun y:Bool=>[(16,.bool y)]) (fun y=>[]):=⟨⟩
instance Wq_law43_awake:WI F_8 Tryd.prog 4 [] [] (fun z=>.bool z) (fun z=>[]):=⟨fun Q Q' h hQ=>by
 refine acallM mc_8 [] [] [.t 0] Tryd.func4 fun M=>?_
 unfold F_8 at h
 unfold mc_8
 exact tX⟩
def F_9 (is_:Bool) (yes_:Str) (no_:Str):Option Str :=
 bif is_ then some yes_ else some no_
def mc_9:MC :=
 (sR [mo (.mv (.c (.str []))) 6]
 (.seq (sR [oV 0 7]
 (.cond (.t 7)
 (sR [oV 1 8,
 oV 8 6]
 .ret)
 .skip))
 (sR [oV 2 9,
 oV 9 6]
 .ret)))
instance Wq_ref43_pick {is_:Bool} {yes_ no_:Str}:WI (F_9 is_ yes_ no_) Tryd.prog 12 [.bool is_,.str yes_,.str no_] [] (fun z=>.str z) (fun z=>[]):=⟨fun Q Q' h hQ=>by
 refine acallM mc_9 [] [] [.t 6] Tryd.func12 fun M=>?_
 unfold F_9 at h
 unfold mc_9
 exact tX⟩
def F_5 (m_:GSummary):Option Str :=
 (futI m_.Fingerprint 10).bind fun y6=>chk (strl ([108,101,97,107,32].length+y6.length)) (chk (strl ((([108,101,97,107,32]:Str)++y6).length+[32,115,112,111,116,115,32].length)) ((itoaI m_.Spots).bind fun y7=>chk (strl (((([108,101,97,107,32]:Str)++y6)++[32,115,112,111,116,115,32]).length+y7.length)) (chk (strl ((((([108,101,97,107,32]:Str)++y6)++[32,115,112,111,116,115,32])++y7).length+[32].length)) ((F_9 m_.Public [112,117,98,108,105,99] [105,110,115,105,100,101]).bind fun y8=>chk (strl (((((([108,101,97,107,32]:Str)++y6)++[32,115,112,111,116,115,32])++y7)++[32]).length+y8.length)) (chk (strl ((((((([108,101,97,107,32]:Str)++y6)++[32,115,112,111,116,115,32])++y7)++[32])++y8).length+[32,114,101,97,100,101,114,115,32].length)) ((itoaI m_.Readers).bind fun y9=>chk (strl (((((((([108,101,97,107,32]:Str)++y6)++[32,115,112,111,116,115,32])++y7)++[32])++y8)++[32,114,101,97,100,101,114,115,32]).length+y9.length)) (chk (strl ((((((((([108,101,97,107,32]:Str)++y6)++[32,115,112,111,116,115,32])++y7)++[32])++y8)++[32,114,101,97,100,101,114,115,32])++y9).length+[32,115,105,110,99,101,32].length)) ((itoaI m_.Since).bind fun y10=>chk (strl (((((((((([108,101,97,107,32]:Str)++y6)++[32,115,112,111,116,115,32])++y7)++[32])++y8)++[32,114,101,97,100,101,114,115,32])++y9)++[32,115,105,110,99,101,32]).length+y10.length)) ((itoaI m_.Severity.Level).bind fun y15=>chk (strl ([32,108,101,118,101,108,32].length+y15.length)) (chk (strl ((([32,108,101,118,101,108,32]:Str)++y15).length+[32,119,111,114,116,104,32].length)) ((itoaI m_.Severity.Worth).bind fun y16=>chk (strl (((([32,108,101,118,101,108,32]:Str)++y15)++[32,119,111,114,116,104,32]).length+y16.length)) (chk (strl ((((([32,108,101,118,101,108,32]:Str)++y15)++[32,119,111,114,116,104,32])++y16).length+[32,97,117,100,105,101,110,99,101,32].length)) ((itoaI m_.Severity.Audience).bind fun y17=>chk (strl (((((([32,108,101,118,101,108,32]:Str)++y15)++[32,119,111,114,116,104,32])++y16)++[32,97,117,100,105,101,110,99,101,32]).length+y17.length)) (chk (strl ((((((([32,108,101,118,101,108,32]:Str)++y15)++[32,119,111,114,116,104,32])++y16)++[32,97,117,100,105,101,110,99,101,32])++y17).length+[32,115,99,111,114,101,32].length)) ((itoaI m_.Severity.Score).bind fun y18=>chk (strl (((((((([32,108,101,118,101,108,32]:Str)++y15)++[32,119,111,114,116,104,32])++y16)++[32,97,117,100,105,101,110,99,101,32])++y17)++[32,115,99,111,114,101,32]).length+y18.length)) (chk (strl ((((((((((([108,101,97,107,32]:Str)++y6)++[32,115,112,111,116,115,32])++y7)++[32])++y8)++[32,114,101,97,100,101,114,115,32])++y9)++[32,115,105,110,99,101,32])++y10).length+(((((((([32,108,101,118,101,108,32]:Str)++y15)++[32,119,111,114,116,104,32])++y16)++[32,97,117,100,105,101,110,99,101,32])++y17)++[32,115,99,111,114,101,32])++y18).length)) (chk (strl (((((((((((([108,101,97,107,32]:Str)++y6)++[32,115,112,111,116,115,32])++y7)++[32])++y8)++[32,114,101,97,100,101,114,115,32])++y9)++[32,115,105,110,99,101,32])++y10)++(((((((([32,108,101,118,101,108,32]:Str)++y15)++[32,119,111,114,116,104,32])++y16)++[32,97,117,100,105,101,110,99,101,32])++y17)++[32,115,99,111,114,101,32])++y18)).length+[32].length)) ((F_9 m_.Rotated [114,111,116,97,116,101,100] [118,97,108,105,100]).bind fun y21=>chk (strl ((((((((((((([108,101,97,107,32]:Str)++y6)++[32,115,112,111,116,115,32])++y7)++[32])++y8)++[32,114,101,97,100,101,114,115,32])++y9)++[32,115,105,110,99,101,32])++y10)++(((((((([32,108,101,118,101,108,32]:Str)++y15)++[32,119,111,114,116,104,32])++y16)++[32,97,117,100,105,101,110,99,101,32])++y17)++[32,115,99,111,114,101,32])++y18))++[32]).length+y21.length)) (chk (strl (((((((((((((([108,101,97,107,32]:Str)++y6)++[32,115,112,111,116,115,32])++y7)++[32])++y8)++[32,114,101,97,100,101,114,115,32])++y9)++[32,115,105,110,99,101,32])++y10)++(((((((([32,108,101,118,101,108,32]:Str)++y15)++[32,119,111,114,116,104,32])++y16)++[32,97,117,100,105,101,110,99,101,32])++y17)++[32,115,99,111,114,101,32])++y18))++[32])++y21).length+[32].length)) ((F_9 m_.Dead [100,101,97,100] [97,108,105,118,101]).bind fun y22=>chk (strl ((((((((((((((([108,101,97,107,32]:Str)++y6)++[32,115,112,111,116,115,32])++y7)++[32])++y8)++[32,114,101,97,100,101,114,115,32])++y9)++[32,115,105,110,99,101,32])++y10)++(((((((([32,108,101,118,101,108,32]:Str)++y15)++[32,119,111,114,116,104,32])++y16)++[32,97,117,100,105,101,110,99,101,32])++y17)++[32,115,99,111,114,101,32])++y18))++[32])++y21)++[32]).length+y22.length)) (some ((((((((((((((([108,101,97,107,32]:Str)++y6)++[32,115,112,111,116,115,32])++y7)++[32])++y8)++[32,114,101,97,100,101,114,115,32])++y9)++[32,115,105,110,99,101,32])++y10)++(((((((([32,108,101,118,101,108,32]:Str)++y15)++[32,119,111,114,116,104,32])++y16)++[32,97,117,100,105,101,110,99,101,32])++y17)++[32,115,99,111,114,101,32])++y18))++[32])++y21)++[32])++y22))))))))))))))))))))))
def mc_5:MC :=
 (sR [mo (.box (.t 0)) 1,
 mo (.mv (.c (.str []))) 2]
 (.seq (.regD [oF 0 1 4,
 oL 4 5,
 mo (.call (.f 10) [(.t 5),(cI 10)] [] []) 6,
 mo (.bin false .add (.c (.str [108,101,97,107,32])) (.t 6)) 7,
 mo (.bin false .add (.t 7) (.c (.str [32,115,112,111,116,115,32]))) 8,
 oF 1 1 9,
 oL 9 10,
 mo (.call (.f 11) [(.t 10)] [] []) 11,
 mo (.bin false .add (.t 8) (.t 11)) 12,
 mo (.bin false .add (.t 12) (.c (.str [32]))) 13,
 oF 2 1 14,
 oL 14 15,
 mo (.call (.f 12) [(.t 15),(.c (.str [112,117,98,108,105,99])),(.c (.str [105,110,115,105,100,101]))] [] []) 16,
 mo (.bin false .add (.t 13) (.t 16)) 17,
 mo (.bin false .add (.t 17) (.c (.str [32,114,101,97,100,101,114,115,32]))) 18,
 oF 3 1 19,
 oL 19 20,
 mo (.call (.f 11) [(.t 20)] [] []) 21,
 mo (.bin false .add (.t 18) (.t 21)) 22,
 mo (.bin false .add (.t 22) (.c (.str [32,115,105,110,99,101,32]))) 23,
 oF 4 1 24,
 oL 24 25,
 mo (.call (.f 11) [(.t 25)] [] []) 26,
 mo (.bin false .add (.t 23) (.t 26)) 27,
 oV 27 3]
 [[],[0],[1],[2],[3],[],[5],[6,2],[4,7],[8],[],[10],[11,7],[9,12],[13],[],[15],[16,12],[14,17],[18],[],[20],[21,17],[19,22],[23,22,0,1,2,3,4,5,6,7,8,9,10,11,12,13,14,15,16,17,18,19,20,21,22,23]]
 [[],[0],[0,1],[0,1,2],[0,1,2,3],[],[5],[0,1,2,5,6],[0,1,2,3,4,5,6,7],[0,1,2,3,4,5,6,7,8],[],[10],[0,1,2,5,6,7,10,11],[0,1,2,3,4,5,6,7,8,9,10,11,12],[0,1,2,3,4,5,6,7,8,9,10,11,12,13],[],[15],[0,1,2,5,6,7,10,11,12,15,16],[0,1,2,3,4,5,6,7,8,9,10,11,12,13,14,15,16,17],[0,1,2,3,4,5,6,7,8,9,10,11,12,13,14,15,16,17,18],[],[20],[0,1,2,5,6,7,10,11,12,15,16,17,20,21],[0,1,2,3,4,5,6,7,8,9,10,11,12,13,14,15,16,17,18,19,20,21,22],[0,1,2,3,4,5,6,7,8,9,10,11,12,13,14,15,16,17,18,19,20,21,22,23]])
 (.seq (.note (.gc [1,3]) (.regD [oV 3 28,
 oF 5 1 29,
 oF 0 29 30,
 oL 30 31,
 mo (.call (.f 11) [(.t 31)] [] []) 32,
 mo (.bin false .add (.c (.str [32,108,101,118,101,108,32])) (.t 32)) 33,
 mo (.bin false .add (.t 33) (.c (.str [32,119,111,114,116,104,32]))) 34,
 oF 5 1 35,
 oF 1 35 36,
 oL 36 37,
 mo (.call (.f 11) [(.t 37)] [] []) 38,
 mo (.bin false .add (.t 34) (.t 38)) 39,
 mo (.bin false .add (.t 39) (.c (.str [32,97,117,100,105,101,110,99,101,32]))) 40,
 oF 5 1 41,
 oF 2 41 42,
 oL 42 43,
 mo (.call (.f 11) [(.t 43)] [] []) 44,
 mo (.bin false .add (.t 40) (.t 44)) 45,
 mo (.bin false .add (.t 45) (.c (.str [32,115,99,111,114,101,32]))) 46,
 oF 5 1 47,
 oF 3 47 48,
 oL 48 49,
 mo (.call (.f 11) [(.t 49)] [] []) 50,
 mo (.bin false .add (.t 46) (.t 50)) 51,
 mo (.bin false .add (.t 28) (.t 51)) 52,
 oV 52 3]
 [[],[],[1],[2],[3],[4],[5],[],[7],[8],[9,4],[6,10],[11],[],[13],[14],[15,10],[12,16],[17],[],[19],[20],[21,16],[18,22],[0,23],[24,22,0,1,2,3,4,5,6,7,8,9,10,11,12,13,14,15,16,17,18,19,20,21,22,23,24]]
 [[],[],[1],[1,2],[1,2,3],[1,2,3,4],[1,2,3,4,5],[],[7],[7,8],[1,2,3,4,7,8,9],[1,2,3,4,5,6,7,8,9,10],[1,2,3,4,5,6,7,8,9,10,11],[],[13],[13,14],[1,2,3,4,7,8,9,10,13,14,15],[1,2,3,4,5,6,7,8,9,10,11,12,13,14,15,16],[1,2,3,4,5,6,7,8,9,10,11,12,13,14,15,16,17],[],[19],[19,20],[1,2,3,4,7,8,9,10,13,14,15,16,19,20,21],[1,2,3,4,5,6,7,8,9,10,11,12,13,14,15,16,17,18,19,20,21,22],[0,1,2,3,4,5,6,7,8,9,10,11,12,13,14,15,16,17,18,19,20,21,22,23],[0,1,2,3,4,5,6,7,8,9,10,11,12,13,14,15,16,17,18,19,20,21,22,23,24]]))
 (.seq (.note (.gc [1,3]) (.regD [oV 3 53,
 mo (.bin false .add (.t 53) (.c (.str [32]))) 54,
 oF 9 1 55,
 oL 55 56,
 mo (.call (.f 12) [(.t 56),(.c (.str [114,111,116,97,116,101,100])),(.c (.str [118,97,108,105,100]))] [] []) 57,
 mo (.bin false .add (.t 54) (.t 57)) 58,
 mo (.bin false .add (.t 58) (.c (.str [32]))) 59,
 oF 10 1 60,
 oL 60 61,
 mo (.call (.f 12) [(.t 61),(.c (.str [100,101,97,100])),(.c (.str [97,108,105,118,101]))] [] []) 62,
 mo (.bin false .add (.t 59) (.t 62)) 63,
 oV 63 2]
 [[],[0],[],[2],[3],[1,4],[5],[],[7],[8,4],[6,9],[10,9,0,1,2,3,4,5,6,7,8,9,10]]
 [[],[0],[],[2],[2,3],[0,1,2,3,4],[0,1,2,3,4,5],[],[7],[2,3,4,7,8],[0,1,2,3,4,5,6,7,8,9],[0,1,2,3,4,5,6,7,8,9,10]]))
 .ret))))
instance Wq_ref43_Text {m_:GSummary}:WI (F_5 m_) Tryd.prog 5 [GSummary.v m_] [] (fun z=>.str z) (fun z=>[]):=⟨fun Q Q' h hQ=>by
 refine acallM mc_5 [] [] [.t 2] Tryd.func5 fun M=>?_
 unfold F_5 at h
 unfold mc_5
 exact tX⟩
noncomputable def F_g (s_:Str) (by_:UInt8) (x12:Int×Int×(List Str)):Option (Fl (Int×Int×(List Str)) (Int×(List Str))) :=
 bif decide (x12.2.1<(s_.length:Int)) then jn (α:=Int×(List Str)) (chk (inb x12.2.1 s_.length) (bif decide (((s_.getD (x12.2.1).toNat 0).toNat:Int)=(by_.toNat:Int)) then chk (inc x12.1 x12.2.1 s_.length) (chk (room (x12.2.2.length+[((s_.take ((x12.2.1).toNat)).drop ((x12.1).toNat))].length) 16) (chk (in64 (x12.2.1+1)) (some ((x12.2.1+1),(x12.2.2++[((s_.take ((x12.2.1).toNat)).drop ((x12.1).toNat))]))))) else some (x12.1,x12.2.2))) fun j14=>chk (in64 (x12.2.1+1)) (some (.nx (j14.1,(x12.2.1+1),j14.2))) else some (.ex (x12.1,x12.2.2))
noncomputable def F_b (s_:Str) (by_:UInt8):Option (List Str) :=
 (loop (F_g s_ by_) (0,0,[])).bind fun r15=>chk (inc r15.1 (s_.length:Int) s_.length) (chk (room (r15.2.length+[(s_.drop ((r15.1).toNat))].length) 16) (some (r15.2++[(s_.drop ((r15.1).toNat))])))
@[irreducible] def mc_v:MC :=
 (.reg [oV 7 12,
 mo (.bin true .add (.t 12) (cI 1)) 13,
 oV 13 7])
@[irreducible] def mc_g:MC :=
 (.seq (sR [oV 7 8,
 oV 0 9,
 mo (.len true (.t 9)) 10,
 mo (.bin false .lss (.t 8) (.t 10)) 11]
 (.cond (.t 11)
 .skip
 (.exit 0)))
 (.cut (.block 1
 (sR [oV 0 14,
 oV 7 15,
 mo (.idx (.t 14) (.t 15)) 16,
 oV 1 17,
 mo (.bin false .eql (.t 16) (.t 17)) 18]
 (.cond (.t 18)
 (.seq (.note (.gc [0,1,5,6,7]) (.reg [oV 5 19,
 oV 0 20,
 oV 6 21,
 oV 7 22,
 mo (.sls (.t 20) (some (.t 21)) (some (.t 22))) 23,
 mo (.bslice 1 [(.t 23)]) 24,
 mo (.app 1 16 (.t 19) (.t 24)) 25,
 oV 25 5]))
 (.note (.gc [0,1,5,7]) (.reg [oV 7 26,
 mo (.bin true .add (.t 26) (cI 1)) 27,
 oV 27 6])))
 .skip)))
 mc_v))
def mc_b:MC :=
 (sR [mo (.mv (.c (.sl []))) 4]
 (sR [mo (.mv (.c .nils)) 5]
 (sR [oC 0 6]
 (.seq (sR [oC 0 7]
 (.block 0
 (.loop mc_g)))
 (sR [oV 5 28,
 oV 0 29,
 oV 6 30,
 mo (.sls (.t 29) (some (.t 30)) none) 31,
 mo (.bslice 1 [(.t 31)]) 32,
 mo (.app 1 16 (.t 28) (.t 32)) 33,
 oV 33 4]
 .ret)))))
attribute [go_sem] F_g
instance:LI mc_v 0 0 [0,1,7] [] (fun y:Int×(List Str)=>[(5,.osl 2005 1 0 y.2.length),(6,.int .i64 y.1)]) (fun y=>[.o 2005 (.arr 1 (y.2.map V.str))]) [.gc [0,1,5,6,7],.acc 5 2005 1]:=⟨⟩
instance:LI mc_g 0 0 [0,1] [] (fun y:Int×Int×(List Str)=>[(5,.osl 2005 1 0 y.2.2.length),(6,.int .i64 y.1),(7,.int .i64 y.2.1)]) (fun y=>[.o 2005 (.arr 1 (y.2.2.map V.str))]) [.gc [0,1,5,6,7],.acc 5 2005 1]:=⟨⟩
instance Wq_ref43_Split {s_:Str} {by_:UInt8}:WI (F_b s_ by_) Tryd.prog 16 [.str s_,byteV by_] [] (fun z=>.sl (z.map V.str)) (fun z=>[]):=⟨fun Q Q' h hQ=>by
 refine acallM mc_b [.fz 4] [] [.t 4] Tryd.func16 fun M=>?_
 unfold F_b at h
 unfold mc_b
 exact tX⟩
noncomputable def F_e (s_:Str) (x13:Int×Int):Option (Fl (Int×Int) (Sum Int (Int×Bool))) :=
 bif decide (x13.2<(s_.length:Int)) then chk (inb x13.2 s_.length) (chk (rngb .u64 ((u8 (((s_.getD (x13.2).toNat 0).toNat:Int) - 48)).toNat:Int)) (chk (inb x13.2 s_.length) (bif decide (((s_.getD (x13.2).toNat 0).toNat:Int)<48) then some (.ex (.inr (0,false))) else chk (inb x13.2 s_.length) (bif decide (57<((s_.getD (x13.2).toNat 0).toNat:Int)) then some (.ex (.inr (0,false))) else chk (divs (IntKind.wrap .u64 (18446744073709551615 - ((u8 (((s_.getD (x13.2).toNat 0).toNat:Int) - 48)).toNat:Int))) 10) (bif decide (((IntKind.wrap .u64 (18446744073709551615 - ((u8 (((s_.getD (x13.2).toNat 0).toNat:Int) - 48)).toNat:Int))) / 10)<x13.1) then some (.ex (.inr (0,false))) else chk (in64 (x13.2+1)) (some (.nx ((IntKind.wrap .u64 ((IntKind.wrap .u64 (10*x13.1))+((u8 (((s_.getD (x13.2).toNat 0).toNat:Int) - 48)).toNat:Int))),(x13.2+1))))))))) else some (.ex (.inl x13.1))
noncomputable def F_1 (s_:Str):Option (Int×Bool) :=
 grp ((decide ((s_.length:Int)=0)||decide (20<(s_.length:Int)))) fun b4=>bif b4 then some (0,false) else (loop (F_e s_) (0,0)).bind fun r14=>Sum.elim (fun u15=>some (u15,true)) (fun u16=>some u16) r14
@[irreducible] def mg_w:List MOp:=[gF 10 11 (.mv (.t 0)),
 gF 10 12 (.len true (.t 11)),
 gF 10 13 (.bin false .gtr (.t 12) (cI 20)),
 mo (.pick (.t 10) (.c (.bool true)) (.t 13)) 14]
@[irreducible] def mc_e:MC :=
 (.seq (sR [oV 5 15,
 oV 0 16,
 mo (.len true (.t 16)) 17,
 mo (.bin false .lss (.t 15) (.t 17)) 18]
 (.cond (.t 18)
 .skip
 (.exit 0)))
 (.seq (.block 1
 (sR [oV 0 21,
 oV 5 22,
 mo (.idx (.t 21) (.t 22)) 23,
 mo (.bin false .sub (.t 23) (.c (.int .u8 48))) 24,
 mo (.i2i true .u64 (.t 24)) 25,
 oV 25 6]
 (.seq (.seq (.note (.gc [0,4,5,6,31,32,33,34,37,38,39,40,41]) (.reg [oV 0 26,
 oV 5 27,
 mo (.idx (.t 26) (.t 27)) 28,
 mo (.bin false .lss (.t 28) (.c (.int .u8 48))) 29,
 oV 29 30,
 gF 30 31 (.mv (.t 0)),
 gF 30 32 (.mv (.t 5)),
 gF 30 33 (.idx (.t 31) (.t 32)),
 gF 30 34 (.bin false .gtr (.t 33) (.c (.int .u8 57))),
 mo (.pick (.t 30) (.c (.bool true)) (.t 34)) 35,
 oV 35 36,
 gF 36 37 (.mv (.t 4)),
 gF 36 38 (.mv (.t 6)),
 gF 36 39 (.bin false .sub (.c (.int .u64 18446744073709551615)) (.t 38)),
 gF 36 40 (.bin true .quo (.t 39) (.c (.int .u64 10))),
 gF 36 41 (.bin false .gtr (.t 37) (.t 40)),
 mo (.pick (.t 36) (.c (.bool true)) (.t 41)) 42]))
 (.cond (.t 42)
 (sR [mo (.mv (.c (.int .u64 0))) 2,
 mo (.mv (.c (.bool false))) 3]
 .ret)
 .skip))
 (.note (.gc [0,4,5,6,31,32,33,34,37,38,39,40,41]) (.reg [oV 4 43,
 mo (.bin false .mul (.c (.int .u64 10)) (.t 43)) 44,
 oV 6 45,
 mo (.bin false .add (.t 44) (.t 45)) 46,
 oV 46 4])))))
 (.reg [oV 5 19,
 mo (.bin true .add (.t 19) (cI 1)) 20,
 oV 20 5])))
def mc_1:MC :=
 (sR [mo (.mv (.c (.int .u64 0))) 2,
 mo (.mv (.c (.bool false))) 3]
 (.seq (.seq (.regI [.op (oV 0 7),
 .op (mo (.len true (.t 7)) 8),
 .op (mo (.bin false .eql (.t 8) (cI 0)) 9),
 .op (oV 9 10),
 .grp mg_w])
 (.cond (.t 14)
 (sR [mo (.mv (.c (.int .u64 0))) 2,
 mo (.mv (.c (.bool false))) 3]
 .ret)
 .skip))
 (sR [mo (.mv (.c (.int .u64 0))) 4]
 (.seq (sR [oC 0 5]
 (.block 0
 (.loop mc_e)))
 (sR [oV 4 47,
 oV 47 2,
 mo (.mv (.c (.bool true))) 3]
 .ret)))))
attribute [go_sem] F_e
instance:LI mc_e 0 0 [0] [] (fun y:Int×Int=>[(4,.int .u64 y.1),(5,.int .i64 y.2)]) (fun y=>[]) []:=⟨⟩
instance:GV mg_w 14 [11,12,13]:=⟨⟩
instance Wq_ref43_digits {s_:Str}:WI (F_1 s_) Tryd.prog 17 [.str s_] [] (fun z=>.tup [.int .u64 z.1,.bool z.2]) (fun z=>[]):=⟨fun Q Q' h hQ=>by
 refine acallM mc_1 [] [] [.t 2,.t 3] Tryd.func17 fun M=>?_
 unfold F_1 at h
 unfold mc_1
 exact tX⟩
noncomputable def F_0 (s_:Str):Option Int :=
 jn (α:=Bool) (bif decide (0<(s_.length:Int)) then chk (inb 0 s_.length) (some (decide (((s_.getD 0 0).toNat:Int)=45))) else some false) fun j6=>bif j6 then chk (inc 1 (s_.length:Int) s_.length) ((F_1 (s_.drop 1)).bind fun y8=>some (IntKind.wrap .i64 (IntKind.wrap .u64 (0 - y8.1)))) else (F_1 s_).bind fun y10=>some (IntKind.wrap .i64 y10.1)
@[irreducible] def mg_x:List MOp:=[gT 10 11 (.mv (.t 0)),
 gT 10 12 (.idx (.t 11) (cI 0)),
 gT 10 13 (.bin false .eql (.t 12) (.c (.int .u8 45))),
 mo (.pick (.t 10) (.t 13) (.c (.bool false))) 14]
def mc_0:MC :=
 (sR [oC 0 2]
 (.seq (.seq (.regI [.op (oV 0 7),
 .op (mo (.len true (.t 7)) 8),
 .op (mo (.bin false .gtr (.t 8) (cI 0)) 9),
 .op (oV 9 10),
 .grp mg_x])
 (.cond (.t 14)
 (sR [oV 0 16,
 mo (.sls (.t 16) (some (cI 1)) none) 17,
 mo (.call (.f 17) [(.t 17)] [] []) 18,
 oV 18 15,
 mo (.ext 0 (.t 15)) 19,
 mo (.ext 1 (.t 15)) 20,
 oV 19 3,
 oV 20 4]
 (.seq (.note (.gc [3]) (.reg [oV 3 21,
 mo (.neg false (.t 21)) 22,
 mo (.i2i false .i64 (.t 22)) 23,
 oV 23 2]))
 .ret))
 .skip))
 (sR [oV 0 25,
 mo (.call (.f 17) [(.t 25)] [] []) 26,
 oV 26 24,
 mo (.ext 0 (.t 24)) 27,
 mo (.ext 1 (.t 24)) 28,
 oV 27 5,
 oV 28 6]
 (.seq (.note (.gc [5]) (.reg [oV 5 29,
 mo (.i2i false .i64 (.t 29)) 30,
 oV 30 2]))
 .ret))))
instance:GI mg_x [0] [] (fun y:Bool=>[(14,.bool y)]) (fun y=>[]):=⟨⟩
instance Wq_ref43_number {s_:Str}:WI (F_0 s_) Tryd.prog 18 [.str s_] [] (fun z=>.int .i64 z) (fun z=>[]):=⟨fun Q Q' h hQ=>by
 refine acallM mc_0 [] [] [.t 2] Tryd.func18 fun M=>?_
 unfold F_0 at h
 unfold mc_0
 exact tX⟩
noncomputable def F_c (text_:Str):Option (GSummary×Int) :=
 (F_b text_ 32).bind fun y2=>bif (!decide ((y2.length:Int)=19)) then some ((GSummary.mk 0 0 false 0 0 (GSeverity.mk 0 0 0 0) false false),4) else chk (inb 1 y2.length) ((F_1 (y2.getD 1 default)).bind fun y4=>chk (inb 3 y2.length) ((F_0 (y2.getD 3 default)).bind fun y8=>chk (inb 4 y2.length) (chk (inb 6 y2.length) ((F_0 (y2.getD 6 default)).bind fun y9=>chk (inb 8 y2.length) ((F_0 (y2.getD 8 default)).bind fun y10=>chk (inb 10 y2.length) ((F_0 (y2.getD 10 default)).bind fun y15=>chk (inb 12 y2.length) ((F_0 (y2.getD 12 default)).bind fun y16=>chk (inb 14 y2.length) ((F_0 (y2.getD 14 default)).bind fun y17=>chk (inb 16 y2.length) ((F_0 (y2.getD 16 default)).bind fun y18=>chk (inb 17 y2.length) (chk (inb 18 y2.length) ((F_5 (GSummary.mk y4.1 y8 (decide ((y2.getD 4 default)=[112,117,98,108,105,99])) y9 y10 (GSeverity.mk y15 y16 y17 y18) (decide ((y2.getD 17 default)=[114,111,116,97,116,101,100])) (decide ((y2.getD 18 default)=[100,101,97,100])))).bind fun y22=>bif (!decide (y22=text_)) then some ((GSummary.mk 0 0 false 0 0 (GSeverity.mk 0 0 0 0) false false),4) else some ((GSummary.mk y4.1 y8 (decide ((y2.getD 4 default)=[112,117,98,108,105,99])) y9 y10 (GSeverity.mk y15 y16 y17 y18) (decide ((y2.getD 17 default)=[114,111,116,97,116,101,100])) (decide ((y2.getD 18 default)=[100,101,97,100]))),0))))))))))))
def mc_c:MC :=
 (sR [mo (.alloc [(.int .u64 0),(.int .i64 0),(.bool false),(.int .i64 0),(.int .i64 0),(.int .i64 0),(.int .i64 0),(.int .i64 0),(.int .i64 0),(.bool false),(.bool false)]) 2,
 oC 0 3]
 (sR [oV 0 6,
 mo (.call (.f 16) [(.t 6),(.c (.int .u8 32))] [] []) 7,
 oV 7 4]
 (.seq (sR [oV 4 8,
 mo (.len false (.t 8)) 9,
 mo (.bin false .neq (.t 9) (cI 19)) 10]
 (.cond (.t 10)
 (.seq (.note (.gc [2]) (.reg [mo (.build [(.int .u64 0),(.int .i64 0),(.bool false),(.int .i64 0),(.int .i64 0),(.int .i64 0),(.int .i64 0),(.int .i64 0),(.int .i64 0),(.bool false),(.bool false)] []) 11,
 ⟨.st 11 (.t 2) (.t 11),none,none⟩,
 oC 4 3]))
 .ret)
 .skip))
 (sR [mo (.alloc [(.int .u64 0),(.int .i64 0),(.bool false),(.int .i64 0),(.int .i64 0),(.int .i64 0),(.int .i64 0),(.int .i64 0),(.int .i64 0),(.bool false),(.bool false)]) 5]
 (sR [oV 4 13,
 mo (.iad 1 (.t 13) (cI 1)) 14,
 oL 14 15,
 mo (.call (.f 17) [(.t 15)] [] []) 16,
 oV 16 12,
 mo (.ext 0 (.t 12)) 17,
 mo (.ext 1 (.t 12)) 18,
 oF 0 5 19,
 ⟨.st 1 (.t 19) (.t 17),none,none⟩]
 (.seq (.note (.gc [0,2,4,5]) (.regD [oV 4 20,
 mo (.iad 1 (.t 20) (cI 3)) 21,
 oL 21 22,
 mo (.call (.f 18) [(.t 22)] [] []) 23,
 oV 4 24,
 mo (.iad 1 (.t 24) (cI 4)) 25,
 oL 25 26,
 mo (.bin false .eql (.t 26) (.c (.str [112,117,98,108,105,99]))) 27,
 oV 4 28,
 mo (.iad 1 (.t 28) (cI 6)) 29,
 oL 29 30,
 mo (.call (.f 18) [(.t 30)] [] []) 31,
 oV 4 32,
 mo (.iad 1 (.t 32) (cI 8)) 33,
 oL 33 34,
 mo (.call (.f 18) [(.t 34)] [] []) 35,
 oF 1 5 36,
 ⟨.st 1 (.t 36) (.t 23),none,none⟩,
 oF 2 5 37,
 ⟨.st 1 (.t 37) (.t 27),none,none⟩,
 oF 3 5 38,
 ⟨.st 1 (.t 38) (.t 31),none,none⟩,
 oF 4 5 39,
 ⟨.st 1 (.t 39) (.t 35),none,none⟩]
 [[],[0],[1],[2],[],[4],[5],[6],[],[8],[9],[10,3],[],[12],[13],[14,11],[0,1,2,3],[16,3,15,0,1,2,3],[0,1,2,3,4,5,6,7,16,17],[18,7,17,0,1,2,3,4,5,6,7,16,17],[0,1,2,3,4,5,6,7,8,9,10,11,16,17,18,19],[20,11,19,0,1,2,3,4,5,6,7,8,9,10,11,16,17,18,19],[0,1,2,3,4,5,6,7,8,9,10,11,12,13,14,15,16,17,18,19,20,21],[22,15,21,0,1,2,3,4,5,6,7,8,9,10,11,12,13,14,15,16,17,18,19,20,21]]
 [[],[0],[0,1],[0,1,2],[],[4],[4,5],[4,5,6],[],[8],[8,9],[0,1,2,3,8,9,10],[],[12],[12,13],[0,1,2,3,8,9,10,11,12,13,14],[0,1,2,3],[0,1,2,3,8,9,10,11,12,13,14,15,16],[0,1,2,3,4,5,6,7,8,9,10,11,12,13,14,15,16,17],[0,1,2,3,4,5,6,7,8,9,10,11,12,13,14,15,16,17,18],[0,1,2,3,4,5,6,7,8,9,10,11,12,13,14,15,16,17,18,19],[0,1,2,3,4,5,6,7,8,9,10,11,12,13,14,15,16,17,18,19,20],[0,1,2,3,4,5,6,7,8,9,10,11,12,13,14,15,16,17,18,19,20,21],[0,1,2,3,4,5,6,7,8,9,10,11,12,13,14,15,16,17,18,19,20,21,22]]))
 (.seq (.note (.gc [0,2,4,5]) (.regD [oV 4 40,
 mo (.iad 1 (.t 40) (cI 10)) 41,
 oL 41 42,
 mo (.call (.f 18) [(.t 42)] [] []) 43,
 oV 4 44,
 mo (.iad 1 (.t 44) (cI 12)) 45,
 oL 45 46,
 mo (.call (.f 18) [(.t 46)] [] []) 47,
 oV 4 48,
 mo (.iad 1 (.t 48) (cI 14)) 49,
 oL 49 50,
 mo (.call (.f 18) [(.t 50)] [] []) 51,
 oV 4 52,
 mo (.iad 1 (.t 52) (cI 16)) 53,
 oL 53 54,
 mo (.call (.f 18) [(.t 54)] [] []) 55,
 mo (.build [(.int .i64 0),(.int .i64 0),(.int .i64 0),(.int .i64 0)] [(0,1,(.t 43)),(1,1,(.t 47)),(2,1,(.t 51)),(3,1,(.t 55))]) 56,
 oF 5 5 57,
 ⟨.st 4 (.t 57) (.t 56),none,none⟩]
 [[],[0],[1],[2],[],[4],[5],[6,3],[],[8],[9],[10,7],[],[12],[13],[14,11],[3,7,11,15],[0,1,2,3,4,5,6,7,8,9,10,11,12,13,14,15,16],[17,16,15,0,1,2,3,4,5,6,7,8,9,10,11,12,13,14,15,16]]
 [[],[0],[0,1],[0,1,2],[],[4],[4,5],[0,1,2,3,4,5,6],[],[8],[8,9],[0,1,2,3,4,5,6,7,8,9,10],[],[12],[12,13],[0,1,2,3,4,5,6,7,8,9,10,11,12,13,14],[0,1,2,3,4,5,6,7,8,9,10,11,12,13,14,15],[0,1,2,3,4,5,6,7,8,9,10,11,12,13,14,15,16],[0,1,2,3,4,5,6,7,8,9,10,11,12,13,14,15,16,17]]))
 (.seq (.note (.gc [0,2,4,5]) (.regD [oV 4 58,
 mo (.iad 1 (.t 58) (cI 17)) 59,
 oL 59 60,
 mo (.bin false .eql (.t 60) (.c (.str [114,111,116,97,116,101,100]))) 61,
 oV 4 62,
 mo (.iad 1 (.t 62) (cI 18)) 63,
 oL 63 64,
 mo (.bin false .eql (.t 64) (.c (.str [100,101,97,100]))) 65,
 oF 9 5 66,
 ⟨.st 1 (.t 66) (.t 61),none,none⟩,
 oF 10 5 67,
 ⟨.st 1 (.t 67) (.t 65),none,none⟩]
 [[],[0],[1],[2],[],[4],[5],[6],[0,1,2,3],[8,3,0,1,2,3],[0,1,2,3,4,5,6,7,8,9],[10,7,9,0,1,2,3,4,5,6,7,8,9]]
 [[],[0],[0,1],[0,1,2],[],[4],[4,5],[4,5,6],[0,1,2,3],[0,1,2,3,8],[0,1,2,3,4,5,6,7,8,9],[0,1,2,3,4,5,6,7,8,9,10]]))
 (.seq (.seq (.note (.gc [0,2,5]) (.reg [mo (.ld (some 11) (.t 5)) 68,
 mo (.call (.f 5) [(.t 68)] [] []) 69,
 oV 0 70,
 mo (.bin false .neq (.t 69) (.t 70)) 71]))
 (.cond (.t 71)
 (sR [mo (.build [(.int .u64 0),(.int .i64 0),(.bool false),(.int .i64 0),(.int .i64 0),(.int .i64 0),(.int .i64 0),(.int .i64 0),(.int .i64 0),(.bool false),(.bool false)] []) 72,
 ⟨.st 11 (.t 2) (.t 72),none,none⟩,
 oC 4 3]
 .ret)
 .skip))
 (sR [mo (.ld (some 11) (.t 5)) 73,
 ⟨.st 11 (.t 2) (.t 73),none,none⟩,
 oC 0 3]
 .ret))))))))))
instance Wq_ref43_Parse {text_:Str}:WI (F_c text_) Tryd.prog 7 [.str text_] [] (fun z=>.tup [GSummary.v z.1,.int .i64 z.2]) (fun z=>[]):=⟨fun Q Q' h hQ=>by
 refine acallM mc_c [] [] [.c 2 (some 11),.t 3] Tryd.func7 fun M=>?_
 unfold F_c at h
 unfold mc_c
 exact tX⟩
noncomputable def F_a (k78:Int) (a79:Str) (x77:Unit):Option (Fl Unit Bool) :=
 (F_2 a79).bind fun y99=>(F_c a79).bind fun y101=>grp (((!(decide (y99.1.Fingerprint=y101.1.Fingerprint)&&(decide (y99.1.Spots=y101.1.Spots)&&((y99.1.Public==y101.1.Public)&&(decide (y99.1.Readers=y101.1.Readers)&&(decide (y99.1.Since=y101.1.Since)&&(decide (y99.1.Severity.Level=y101.1.Severity.Level)&&(decide (y99.1.Severity.Worth=y101.1.Severity.Worth)&&(decide (y99.1.Severity.Audience=y101.1.Severity.Audience)&&(decide (y99.1.Severity.Score=y101.1.Severity.Score)&&((y99.1.Rotated==y101.1.Rotated)&&(y99.1.Dead==y101.1.Dead))))))))))))||(!decide (y99.2=y101.2)))) fun b103=>bif b103 then some (.ex false) else some (.nx ())
noncomputable def F_f (raw_:GSummary) (text_:Str) (at_:Int) (by_:UInt8):Option Bool :=
 bif decide (300<(text_.length:Int)) then F_8.bind fun y4=>some y4 else (F_5 raw_).bind fun y6=>chk (nzb (y6.length:Int)) (jn (α:=Int) (bif decide ((Int.tmod at_ (y6.length:Int))<0) then chk (in64 ((Int.tmod at_ (y6.length:Int))+(y6.length:Int))) (some ((Int.tmod at_ (y6.length:Int))+(y6.length:Int))) else some (Int.tmod at_ (y6.length:Int))) fun j7=>chk (inb j7 y6.length) (chk (in64 (j7+(y6.length:Int))) (chk (divs (j7+(y6.length:Int)) 7) (chk (inb ((j7+(y6.length:Int)) % 7) [48,32,45,49,57,97,120].length) (chk (inb j7 y6.length) (chk (strl (y6.length+[32].length)) (chk (inc 0 j7 y6.length) ((forL F_a [text_,y6,(y6++[32]),(y6.take ((j7).toNat)),y6.set ((j7).toNat) by_,y6.set ((j7).toNat) (([48,32,45,49,57,97,120]:Str).getD (((j7+(y6.length:Int)) % 7)).toNat 0)] 0 ()).bind fun o=>o.elim (fun x104=>F_8.bind fun y107=>some y107) (fun r105=>some r105)))))))))
@[irreducible] def mg_i:List MOp:=[gF 80 81 (.mv (.t 16)),
 gF 80 82 (.mv (.t 18)),
 gF 80 83 (.bin false .neq (.t 81) (.t 82)),
 mo (.pick (.t 80) (.c (.bool true)) (.t 83)) 84]
@[irreducible] def mc_a:MC :=
 (sR [mo (.bin false .lss (.t 64) (cI 6)) 65]
 (.seq (.cond (.t 65)
 .skip
 (.exit 0))
 (.seq (.block 1
 (sR [mo (.aix none 1 6 (.t 63) (.t 64)) 66,
 oV 66 14]
 (sR [oV 14 68,
 mo (.call (.f 6) [(.t 68)] [] []) 69,
 oV 69 67,
 mo (.ext 0 (.t 67)) 70,
 mo (.ext 1 (.t 67)) 71,
 mo (.alloc [(.int .u64 0),(.int .i64 0),(.bool false),(.int .i64 0),(.int .i64 0),(.int .i64 0),(.int .i64 0),(.int .i64 0),(.int .i64 0),(.bool false),(.bool false)]) 15,
 ⟨.st 11 (.t 15) (.t 70),none,none⟩,
 oV 71 16]
 (sR [oV 14 73,
 mo (.call (.f 7) [(.t 73)] [] []) 74,
 oV 74 72,
 mo (.ext 0 (.t 72)) 75,
 mo (.ext 1 (.t 72)) 76,
 mo (.alloc [(.int .u64 0),(.int .i64 0),(.bool false),(.int .i64 0),(.int .i64 0),(.int .i64 0),(.int .i64 0),(.int .i64 0),(.int .i64 0),(.bool false),(.bool false)]) 17,
 ⟨.st 11 (.t 17) (.t 75),none,none⟩,
 oV 76 18]
 (.seq (.note (.gc [15,16,17,18,63,64,81,82,83]) (.regI [.op (mo (.ld (some 11) (.t 15)) 77),
 .op (mo (.ld (some 11) (.t 17)) 78),
 .op (mo (.eqs true [0,0,2,0,0,0,0,0,0,2,2] (.t 77) (.t 78)) 79),
 .op (oV 79 80),
 .grp mg_i]))
 (.cond (.t 84)
 (sR [mo (.mv (.c (.bool false))) 8]
 .ret)
 .skip))))))
 (.reg [mo (.bin true .add (.t 64) (cI 1)) 85,
 oV 85 64]))))
@[irreducible] def mc_j:MC :=
 (sR [oV 9 35,
 mo (.s2b (.t 35)) 36,
 oV 36 11]
 (sR [oV 11 37,
 oV 10 38,
 oV 3 39,
 mo (.iad 1 (.t 37) (.t 38)) 40,
 ⟨.st 1 (.t 40) (.t 39),none,none⟩]
 (sR [oV 9 41,
 mo (.s2b (.t 41)) 42,
 oV 42 12]
 (.seq (.note (.gc [1,9,10,11,12,81,82,83]) (.reg [oV 12 43,
 oV 10 44,
 oV 10 45,
 oV 9 46,
 mo (.len true (.t 46)) 47,
 mo (.bin true .add (.t 45) (.t 47)) 48,
 mo (.bin true .rem (.t 48) (cI 7)) 49,
 mo (.idx (.c (.str [48,32,45,49,57,97,120])) (.t 49)) 50,
 mo (.iad 1 (.t 43) (.t 44)) 51,
 ⟨.st 1 (.t 51) (.t 50),none,none⟩]))
 (.seq (.seq (.note (.gc [1,9,10,11,12,81,82,83]) (.regD [oV 1 52,
 oV 9 53,
 oV 9 54,
 mo (.bin false .add (.t 54) (.c (.str [32]))) 55,
 oV 9 56,
 oV 10 57,
 mo (.sls (.t 56) none (some (.t 57))) 58,
 oV 11 59,
 mo (.b2s (.t 59)) 60,
 oV 12 61,
 mo (.b2s (.t 61)) 62,
 mo (.barr 1 [(.str []),(.str []),(.str []),(.str []),(.str []),(.str [])] [(.t 52),(.t 53),(.t 55),(.t 58),(.t 60),(.t 62)]) 63,
 oC 0 64]
 [[],[],[],[2],[],[],[4,5],[],[7],[],[9],[0,1,3,6,8,10],[]]
 [[],[],[],[2],[],[],[4,5],[],[7],[],[9],[0,1,2,3,4,5,6,7,8,9,10],[]]))
 (.block 0
 (.loop mc_a)))
 (sR [mo (.call (.f 4) [] [] []) 86,
 oV 86 8]
 .ret))))))
def mc_f:MC :=
 (sR [mo (.box (.t 0)) 4,
 mo (.mv (.c (.bool false))) 8]
 (.seq (sR [oV 1 19,
 mo (.len true (.t 19)) 20,
 mo (.bin false .gtr (.t 20) (cI 300)) 21]
 (.cond (.t 21)
 (sR [mo (.call (.f 4) [] [] []) 22,
 oV 22 8]
 .ret)
 .skip))
 (sR [mo (.ld (some 11) (.t 4)) 23,
 mo (.call (.f 5) [(.t 23)] [] []) 24,
 oV 24 9]
 (.seq (.note (.gc [1,2,3,9,81,82,83]) (.reg [oV 2 25,
 oV 9 26,
 mo (.len true (.t 26)) 27,
 mo (.bin false .rem (.t 25) (.t 27)) 28,
 oV 28 10]))
 (.cut (sR [oV 10 29,
 mo (.bin false .lss (.t 29) (cI 0)) 30]
 (.cond (.t 30)
 (.reg [oV 10 31,
 oV 9 32,
 mo (.len true (.t 32)) 33,
 mo (.bin true .add (.t 31) (.t 33)) 34,
 oV 34 10])
 .skip))
 mc_j)))))
instance Wq_law43_IncidentParses {raw_:GSummary} {text_:Str} {at_:Int} {by_:UInt8}:WI (F_f raw_ text_ at_ by_) Tryd.prog 3 [GSummary.v raw_,.str text_,.int .i64 at_,byteV by_] [] (fun z=>.bool z) (fun z=>[]):=⟨fun Q Q' h hQ=>by
 refine acallM mc_f [] [] [.t 8] Tryd.func3 fun M=>?_
 unfold F_f at h
 unfold mc_f
 replace h:=tY h
 refine tB ?_
 repeat' (first
 | (exact tZ)
 | ((first|refine oblg h ?_|refine roomG h ?_|refine inbG h ?_|refine incG h ?_|refine divG h ?_|refine appG h ?_|refine appC h ?_|refine fork h ?_ ?_|refine forkS h ?_ ?_)<;>clear h<;>intro hc h)
 | (obtain ⟨y,hy,h⟩:=h;have hw:=WI.w hy;replace hw:=tY hw;(first|refine M.sC hw ?_|refine M.sD hw ?_);clear hw hy;refine tB ?_)
 | (refine M.gv1 (ms:=mg_i) 84 [81,82,83] h ?_ ?_<;>first
 | (clear h;intro K hK1;unfold mg_i;refine tB ?_)
 | (clear h;intro b h;replace h:=tY h;refine tB ?_))
 | (refine M.for1 (b:=mc_a) 64 [63] [] (fun x=>[]) (fun x=>[]) [] h ?_ ?_ ?_<;>first
 | (clear h;intro k a x Qn K hK2 hkN2 ha2 h hf;skip;clear hf;have hkd:=kD hkN2;have hkB2:=kB hkN2;have hkI2:=kI (k:=k) (by (try simp only [List.length_cons,List.length_nil] at hkN2);omega);have hkd2:decide ((k:Int)<6)=true:=decide_eq_true (by simp only [List.length_cons,List.length_nil] at hkN2;omega);have hkr2:(0≤(k:Int)∧(k:Int)<6)=True:=eq_true (by simp only [List.length_cons,List.length_nil] at hkN2;omega);have hle2:(k*1≤5)=True:=eq_true (by simp only [List.length_cons,List.length_nil] at hkN2;omega);have hpt2:=drop_of (f:=fun e:Str=>.str e) ha2 hkN2;(try simp only [go_sem,Nat.reduceBEq,Nat.reduceAdd,Nat.reduceLeDiff,Nat.reduceSub,Nat.reduceMul,Int.reduceToNat,Int.reduceLT,Int.reduceLE,List.flatMap_cons,List.flatMap_nil,List.map_cons,List.map_nil] at hpt2);unfold F_a at h;unfold mc_a;replace h:=tY h;refine tKA ha2 hkd hkN2 hkB2 hkI2 hkd2 hkr2 hle2 hpt2 ?_)
  |(clear h;intro x K h;replace h:=And.left (And.intro h trivial);unfold mc_a;replace h:=tY h;refine tB ?_)
  |(clear h;(try refine tB ?_);exact tU0;done))
 | (refine M.jn1 (b:=mc_j) [1,3,9] [] (fun y=>[(10,.int .i64 y)]) (fun y=>[]) [] h ?_ ?_<;>first
 | (clear h;intro Qn K hK3 h;replace h:=tY h;refine tB ?_)
  |(clear h;intro y h;unfold mc_j;replace h:=tY h;refine tB ?_))
 | (simp only [ha2])
 | (refine hK1 _ ?_;exact tU;done)
 | ((first|refine hK2 _ ?_|refine hK3 _ ?_);(try refine tB ?_);refine ⟨_,h,?_⟩;exact tU0;done)
 | (refine bfork (fun hc=>?_) (fun hc=>?_))
 | (refine tE ?_;(first|rw [M.lok_compU]|rw [M.lokD_compU]);refine tB ?_)
 | (refine ⟨_,getE_mapset (by first|exact inb_toNat (by assumption)|exact inb_nat (by assumption)),?_⟩;(first|rw [M.lok_compU]|rw [M.lokD_compU]|(simp only [V.cells];first|rw [M.lok_comp]|rw [M.lokD_comp]));refine tB ?_)
 | (refine tA ?_)
 | fail)⟩
end Go.Ab
