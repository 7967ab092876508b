/- What the functions of this seat that lie on the laws' road compute (part LT), each for every input. By AI agents. -/
import Derived.Test.YtbmjlaknnpmgpaaGreatDoorProg
import Derived.KernelRfl
import Derived.Test.YtbmjlaknnpmgpaaGreatDoorAbRun
import Derived.Test.YtbmjlaknnpmgpaaGreatDoorSL
import Derived.Test.YtbmjlaknnpmgpaaGreatDoorXM
set_option linter.all false
set_option linter.all false
set_option maxRecDepth 20000
set_option maxHeartbeats 2000000
namespace Go.Ab
open Go.Proofs
structure GSeverity where
 Level:Int
 Worth:Int
 Audience:Int
 Score:Int
instance:Inhabited GSeverity:=⟨⟨default,default,default,default⟩⟩
def GSeverity.v (x:GSeverity):V:=.agg [.int .i64 x.Level,.int .i64 x.Worth,.int .i64 x.Audience,.int .i64 x.Score]
structure GSummary where
 Fingerprint:Int
 Spots:Int
 Public:Bool
 Readers:Int
 Since:Int
 Severity:GSeverity
 Rotated:Bool
 Dead:Bool
instance:Inhabited GSummary:=⟨⟨default,default,default,default,default,default,default,default⟩⟩
def GSummary.v (x:GSummary):V:=.agg [.int .u64 x.Fingerprint,.int .i64 x.Spots,.bool x.Public,.int .i64 x.Readers,.int .i64 x.Since,.int .i64 x.Severity.Level,.int .i64 x.Severity.Worth,.int .i64 x.Severity.Audience,.int .i64 x.Severity.Score,.bool x.Rotated,.bool x.Dead]
structure GS118 where
 name_:Str
 n_:Int
instance:Inhabited GS118:=⟨⟨default,default⟩⟩
def GS118.v (x:GS118):V:=.agg [.str x.name_,.int .i64 x.n_]
structure GTape where
 L:List Int
 at_:Int
instance:Inhabited GTape:=⟨⟨default,default⟩⟩
def GTape.v (x:GTape):V:=.agg [.sl (x.L.map (V.int .i64)),.int .i64 x.at_]
structure GMember where
 Time:Int
 Kind:Int
 Principal:Int
 Group:Int
instance:Inhabited GMember:=⟨⟨default,default,default,default⟩⟩
def GMember.v (x:GMember):V:=.agg [.int .i64 x.Time,.int .i64 x.Kind,.int .i64 x.Principal,.int .i64 x.Group]
structure GDirectory where
 Kinds:List Int
 Events:List GMember
instance:Inhabited GDirectory:=⟨⟨default,default⟩⟩
def GDirectory.v (x:GDirectory):V:=.agg [.sl (x.Kinds.map (V.int .i64)),.sl (x.Events.map GMember.v)]
structure GAccess where
 Time:Int
 Kind:Int
 Place:Int
 Principal:Int
 Until:Int
 Content:Int
 From:Int
instance:Inhabited GAccess:=⟨⟨default,default,default,default,default,default,default⟩⟩
def GAccess.v (x:GAccess):V:=.agg [.int .i64 x.Time,.int .i64 x.Kind,.int .i64 x.Place,.int .i64 x.Principal,.int .i64 x.Until,.int .i64 x.Content,.int .i64 x.From]
structure GEstate where
 Places:Int
 Events:List GAccess
instance:Inhabited GEstate:=⟨⟨default,default⟩⟩
def GEstate.v (x:GEstate):V:=.agg [.int .i64 x.Places,.sl (x.Events.map GAccess.v)]
structure GIssuer where
 Name:Str
 Slots:Int
instance:Inhabited GIssuer:=⟨⟨default,default⟩⟩
def GIssuer.v (x:GIssuer):V:=.agg [.str x.Name,.int .i64 x.Slots]
structure GCredential where
 Issuer:Int
 Fingerprint:Int
 Holder:Int
 From:Int
 Until:Int
instance:Inhabited GCredential:=⟨⟨default,default,default,default,default⟩⟩
def GCredential.v (x:GCredential):V:=.agg [.int .i64 x.Issuer,.int .u64 x.Fingerprint,.int .i64 x.Holder,.int .i64 x.From,.int .i64 x.Until]
structure GRegistry where
 Issuers:List GIssuer
 Credentials:List GCredential
instance:Inhabited GRegistry:=⟨⟨default,default⟩⟩
def GRegistry.v (x:GRegistry):V:=.agg [.sl (x.Issuers.map GIssuer.v),.sl (x.Credentials.map GCredential.v)]
structure GGrant where
 Credential:Int
 Resource:Int
 Right:Int
instance:Inhabited GGrant:=⟨⟨default,default,default⟩⟩
def GGrant.v (x:GGrant):V:=.agg [.int .i64 x.Credential,.int .i64 x.Resource,.int .i64 x.Right]
structure GStore where
 Resource:Int
 Credential:Int
instance:Inhabited GStore:=⟨⟨default,default⟩⟩
def GStore.v (x:GStore):V:=.agg [.int .i64 x.Resource,.int .i64 x.Credential]
structure GMint where
 From:Int
 To:Int
instance:Inhabited GMint:=⟨⟨default,default⟩⟩
def GMint.v (x:GMint):V:=.agg [.int .i64 x.From,.int .i64 x.To]
structure GRights where
 Credentials:Int
 Resources:Int
 Grants:List GGrant
 Stores:List GStore
 Mints:List GMint
instance:Inhabited GRights:=⟨⟨default,default,default,default,default⟩⟩
def GRights.v (x:GRights):V:=.agg [.int .i64 x.Credentials,.int .i64 x.Resources,.sl (x.Grants.map GGrant.v),.sl (x.Stores.map GStore.v),.sl (x.Mints.map GMint.v)]
structure GPlace where
 Source:Int
 Path:Str
 Time:Int
instance:Inhabited GPlace:=⟨⟨default,default,default⟩⟩
def GPlace.v (x:GPlace):V:=.agg [.int .i64 x.Source,.str x.Path,.int .i64 x.Time]
structure GLayer where
 Coding:Int
 From:Int
 To:Int
instance:Inhabited GLayer:=⟨⟨default,default,default⟩⟩
def GLayer.v (x:GLayer):V:=.agg [.int .i64 x.Coding,.int .i64 x.From,.int .i64 x.To]
structure GSpot where
 Place:GPlace
 Layers:List GLayer
 From:Int
 To:Int
instance:Inhabited GSpot:=⟨⟨default,default,default,default⟩⟩
def GSpot.v (x:GSpot):V:=.agg [.int .i64 x.Place.Source,.str x.Place.Path,.int .i64 x.Place.Time,.sl (x.Layers.map GLayer.v),.int .i64 x.From,.int .i64 x.To]
structure GFinding where
 Kind:Int
 Fingerprint:Int
 Where:List GSpot
instance:Inhabited GFinding:=⟨⟨default,default,default⟩⟩
def GFinding.v (x:GFinding):V:=.agg [.int .i64 x.Kind,.int .u64 x.Fingerprint,.sl (x.Where.map GSpot.v)]
structure GConsumer where
 Pool:Int
 Dual:Bool
 Live:Bool
instance:Inhabited GConsumer:=⟨⟨default,default,default⟩⟩
def GConsumer.v (x:GConsumer):V:=.agg [.int .i64 x.Pool,.bool x.Dual,.bool x.Live]
structure GFleet where
 Slots:Int
 Consumers:List GConsumer
instance:Inhabited GFleet:=⟨⟨default,default⟩⟩
def GFleet.v (x:GFleet):V:=.agg [.int .i64 x.Slots,.sl (x.Consumers.map GConsumer.v)]
structure GUnit where
 Up:Bool
 Stored:Int
 Used:Int
instance:Inhabited GUnit:=⟨⟨default,default,default⟩⟩
def GUnit.v (x:GUnit):V:=.agg [.bool x.Up,.int .i64 x.Stored,.int .i64 x.Used]
structure GRotation where
 Known:Int
 Valid:Int
 Units:List GUnit
instance:Inhabited GRotation:=⟨⟨default,default,default⟩⟩
def GRotation.v (x:GRotation):V:=.agg [.int .i64 x.Known,.int .i64 x.Valid,.sl (x.Units.map GUnit.v)]
structure GReplica where
 Generation:Int
 Serving:Bool
instance:Inhabited GReplica:=⟨⟨default,default⟩⟩
def GReplica.v (x:GReplica):V:=.agg [.int .i64 x.Generation,.bool x.Serving]
structure GCluster where
 Fence:Bool
 Sets:List Int
 Replicas:List GReplica
 Snapshots:List Int
instance:Inhabited GCluster:=⟨⟨default,default,default,default⟩⟩
def GCluster.v (x:GCluster):V:=.agg [.bool x.Fence,.sl (x.Sets.map (V.int .i64)),.sl (x.Replicas.map GReplica.v),.sl (x.Snapshots.map (V.int .i64))]
structure Gscene where
 d_:GDirectory
 a_:GEstate
 r_:GRegistry
 x_:GRights
 w_:List Int
 f_:GFinding
 c_:Int
 fleet_:GFleet
 s_:GRotation
 group_:GCluster
instance:Inhabited Gscene:=⟨⟨default,default,default,default,default,default,default,default,default,default⟩⟩
def Gscene.v (x:Gscene):V:=.agg [.sl (x.d_.Kinds.map (V.int .i64)),.sl (x.d_.Events.map GMember.v),.int .i64 x.a_.Places,.sl (x.a_.Events.map GAccess.v),.sl (x.r_.Issuers.map GIssuer.v),.sl (x.r_.Credentials.map GCredential.v),.int .i64 x.x_.Credentials,.int .i64 x.x_.Resources,.sl (x.x_.Grants.map GGrant.v),.sl (x.x_.Stores.map GStore.v),.sl (x.x_.Mints.map GMint.v),.sl (x.w_.map (V.int .i64)),.int .i64 x.f_.Kind,.int .u64 x.f_.Fingerprint,.sl (x.f_.Where.map GSpot.v),.int .i64 x.c_,.int .i64 x.fleet_.Slots,.sl (x.fleet_.Consumers.map GConsumer.v),.int .i64 x.s_.Known,.int .i64 x.s_.Valid,.sl (x.s_.Units.map GUnit.v),.bool x.group_.Fence,.sl (x.group_.Sets.map (V.int .i64)),.sl (x.group_.Replicas.map GReplica.v),.sl (x.group_.Snapshots.map (V.int .i64))]
structure GStep where
 Kind:Int
 Unit:Int
instance:Inhabited GStep:=⟨⟨default,default⟩⟩
def GStep.v (x:GStep):V:=.agg [.int .i64 x.Kind,.int .i64 x.Unit]
structure GReplicaEvent where
 Kind:Int
 Replica:Int
 Snapshot:Int
 Bits:Int
instance:Inhabited GReplicaEvent:=⟨⟨default,default,default,default⟩⟩
def GReplicaEvent.v (x:GReplicaEvent):V:=.agg [.int .i64 x.Kind,.int .i64 x.Replica,.int .i64 x.Snapshot,.int .i64 x.Bits]
structure GExposure where
 Principal:Int
 Time:Int
instance:Inhabited GExposure:=⟨⟨default,default⟩⟩
def GExposure.v (x:GExposure):V:=.agg [.int .i64 x.Principal,.int .i64 x.Time]
structure GLink where
 Kind:Int
 Grant:Int
 Store:Int
 Mint:Int
instance:Inhabited GLink:=⟨⟨default,default,default,default⟩⟩
def GLink.v (x:GLink):V:=.agg [.int .i64 x.Kind,.int .i64 x.Grant,.int .i64 x.Store,.int .i64 x.Mint]
structure GA193 where
 e0:Int
 e1:Int
 e2:Int
 e3:Int
instance:Inhabited GA193:=⟨⟨default,default,default,default⟩⟩
def GA193.v (x:GA193):V:=.agg [.int .i64 x.e0,.int .i64 x.e1,.int .i64 x.e2,.int .i64 x.e3]
structure GA75 where
 e0:GSummary
 e1:GSummary
instance:Inhabited GA75:=⟨⟨default,default⟩⟩
def GA75.v (x:GA75):V:=.agg [.int .u64 x.e0.Fingerprint,.int .i64 x.e0.Spots,.bool x.e0.Public,.int .i64 x.e0.Readers,.int .i64 x.e0.Since,.int .i64 x.e0.Severity.Level,.int .i64 x.e0.Severity.Worth,.int .i64 x.e0.Severity.Audience,.int .i64 x.e0.Severity.Score,.bool x.e0.Rotated,.bool x.e0.Dead,.int .u64 x.e1.Fingerprint,.int .i64 x.e1.Spots,.bool x.e1.Public,.int .i64 x.e1.Readers,.int .i64 x.e1.Since,.int .i64 x.e1.Severity.Level,.int .i64 x.e1.Severity.Worth,.int .i64 x.e1.Severity.Audience,.int .i64 x.e1.Severity.Score,.bool x.e1.Rotated,.bool x.e1.Dead]
theorem dlt {a:Int}:decide (a<a)=false:=by simp
attribute [go_sem] Mach.b2s_set Mach.b2s_setD byte_x4 rngb_i32 rngb_u32 rngb_u64 rngb_i16 rngb_u16 byteV beq_self_eq_true Int.cast_ofNat_Int List.take_succ_cons List.take_zero xC wB wI putPs pinH wrap_u8 rng64 inb_and inc_and room_and roomI_and divs_and shok_and64 rep_u rep_ll mget_i mget_s mput_i mput_s mdel_i mdel_s lk_b lk_i lk_s lk_l lkt_b' lkt_i' lkt_s' lkt_l' rep_b rep_i ovS ovE ovU patO filt filtH dropE stepNs atEndN shqs shq1 V.oids V.oidsL V.tr V.trL trE trH Obj'.tr true_implies false_implies xL Bool.true_eq_false dlt mpV slV Int.natCast_zero List.map_set kvV nxt_map erase_map V.sw V.swL swN swH sw_sl sw_int sw_bool sw_str sw_smap sw_byte Obj'.sw sw_arr sw_map byte_1 byte_2 List.set_set Mach.b2s_e Mach.b2s_eD toNat_ltb List.length_set List.length_replicate zP vE bounds eqCells wH Option.map_none Fl_nx Fl_ex Sum_inl Sum_inr Ok_ite Ok_chk Ok_some Ok_bind Ok_none
theorem inb_0_2:inb 0 2=true:=inb_iff.2 (by decide)
attribute [go_sem] inb_0_2
theorem inb_0_4:inb 0 4=true:=inb_iff.2 (by decide)
attribute [go_sem] inb_0_4
theorem inbk_0 {n:Nat}:(inb 0 n=true)=(((0:Nat):Int)<(n:Int)):=propext (by rw [inb_iff];omega)
attribute [go_sem] inbk_0
theorem inbk_1 {n:Nat}:(inb 1 n=true)=(((1:Nat):Int)<(n:Int)):=propext (by rw [inb_iff];omega)
attribute [go_sem] inbk_1
theorem inbk_4 {n:Nat}:(inb 4 n=true)=(((4:Nat):Int)<(n:Int)):=propext (by rw [inb_iff];omega)
attribute [go_sem] inbk_4
theorem inbk_17 {n:Nat}:(inb 17 n=true)=(((17:Nat):Int)<(n:Int)):=propext (by rw [inb_iff];omega)
attribute [go_sem] inbk_17
theorem inbk_18 {n:Nat}:(inb 18 n=true)=(((18:Nat):Int)<(n:Int)):=propext (by rw [inb_iff];omega)
attribute [go_sem] inbk_18
theorem incl_0 {b:Int} {n:Nat}:(inc 0 b n=true)=(((0:Nat):Int)≤b∧b≤(n:Int)):=propext (by rw [inc_iff];omega)
attribute [go_sem] incl_0
theorem incl_1 {b:Int} {n:Nat}:(inc 1 b n=true)=(((1:Nat):Int)≤b∧b≤(n:Int)):=propext (by rw [inc_iff];omega)
attribute [go_sem] incl_1
theorem rep_GSpot {n:Nat}:List.replicate n (V.agg [.int .i64 0,.str [],.int .i64 0,.sl [],.int .i64 0,.int .i64 0])=(List.replicate n (GSpot.mk (GPlace.mk 0 [] 0) [] 0 0)).map GSpot.v:=by rw [List.map_replicate];rfl
attribute [go_sem] rep_GSpot
attribute [go_sem] GA193.v GA75.v GAccess.v GCluster.v GConsumer.v GCredential.v GDirectory.v GEstate.v GExposure.v GFinding.v GFleet.v GGrant.v GIssuer.v GLayer.v GLink.v GMember.v GMint.v GPlace.v GRegistry.v GReplica.v GReplicaEvent.v GRights.v GRotation.v GS118.v GSeverity.v GSpot.v GStep.v GStore.v GSummary.v GTape.v GUnit.v Gscene.v
end Go.Ab
set_option maxRecDepth 20000
set_option maxHeartbeats 2000000
namespace Go.Ab
open Go.Proofs
def F_22 (v_:Int) (k11:Int) (a12:Int) (x10:Unit):Option (Fl Unit Int) := bif decide (v_=a12) then some (.ex k11) else some (.nx ())
def F_4y (s_:List Int) (v_:Int):Option Int := (forL (F_22 v_) s_ 0 ()).bind fun o=>o.elim (fun x13=>some (-1)) (fun r14=>some r14)
@[irreducible] def mc_22:MC := (sR [bT .lss 8 7 9] (.seq (.cond (.t 9) .skip (.exit 0)) (.seq (.block 1 (sR [oV 8 10,oV 10 5] (sR [oV 1 11,oV 0 12,oV 5 13,iA 1 12 13 14,oL 14 15,bT .eql 11 15 16] (.cond (.t 16) (sR [oV 5 17,oV 17 4] .ret) .skip)))) (.reg [aI 8 1 18,oV 18 8]))))
def mc_4y:MC := (sR [oC 0 4] (.seq (sR [oV 0 6,lE 6 7,oC 0 8] (.block 0 (.loop mc_22))) (sR [oC (-1) 4] .ret)))
attribute [go_sem] F_22
instance:LI mc_22 8 7 [0,1,7] [] (fun y:Unit=>[]) (fun y=>[]) []:=⟨⟩
instance Wq_4y {s_:List Int} {v_:Int}:WI (F_4y s_ v_) Tryz.prog 281 [.sl (s_.map (V.int .i64)),.int .i64 v_] [] (fun z=>.int .i64 z) (fun z=>[]):=⟨fun Q Q' h hQ=>by
 refine acallM mc_4y [] [] [.t 4] Tryz.func281 fun M=>?_
 unfold F_4y at h
 unfold mc_4y
 exact tX⟩
def F_q (s_:List Int) (v_:Int):Option Bool := (F_4y s_ v_).bind fun y2=>some (decide (0≤y2))
def mc_q:MC := (sR [mF 4] (sR [oV 0 5,oV 1 6,k2 281 5 6 7,bC .geq 7 0 8,oV 8 4] .ret))
instance Wq_q {s_:List Int} {v_:Int}:WI (F_q s_ v_) Tryz.prog 259 [.sl (s_.map (V.int .i64)),.int .i64 v_] [] (fun z=>.bool z) (fun z=>[]):=⟨fun Q Q' h hQ=>by
 refine acallM mc_q [] [] [.t 4] Tryz.func259 fun M=>?_
 unfold F_q at h
 unfold mc_q
 exact tX⟩
end Go.Ab
set_option maxRecDepth 20000
set_option maxHeartbeats 2000000
namespace Go.Ab
open Go.Proofs
def F_17 (is_:Bool) (yes_:Str) (no_:Str):Option Str := bif is_ then some yes_ else some no_
def mc_17:MC := (sR [mo (.mv (.c (.str []))) 6] (.seq (sR [oV 0 7] (.cond (.t 7) (sR [oV 1 8,oV 8 6] .ret) .skip)) (sR [oV 2 9,oV 9 6] .ret)))
instance Wq_17 {is_:Bool} {yes_ no_:Str}:WI (F_17 is_ yes_ no_) Tryz.prog 42 [.bool is_,.str yes_,.str no_] [] (fun z=>.str z) (fun z=>[]):=⟨fun Q Q' h hQ=>by
 refine acallM mc_17 [] [] [.t 6] Tryz.func42 fun M=>?_
 unfold F_17 at h
 unfold mc_17
 exact tX⟩
def F_23 (k36:Int) (a37:GS118) (x35:List Str):Option (List Str) := (itoaI a37.n_).bind fun y41=>chk (room (x35.length+[a37.name_,y41].length) 16) (some (x35++[a37.name_,y41]))
def F_r (m_:GSummary):Option Str := (futI m_.Fingerprint 10).bind fun y4=>(itoaI m_.Spots).bind fun y5=>(F_17 m_.Public [112,117,98,108,105,99] [105,110,115,105,100,101]).bind fun y6=>(foldL F_23 [(GS118.mk [114,101,97,100,101,114,115] m_.Readers),(GS118.mk [115,105,110,99,101] m_.Since),(GS118.mk [108,101,118,101,108] m_.Severity.Level),(GS118.mk [119,111,114,116,104] m_.Severity.Worth),(GS118.mk [97,117,100,105,101,110,99,101] m_.Severity.Audience),(GS118.mk [115,99,111,114,101] m_.Severity.Score)] 0 [[108,101,97,107],y4,[115,112,111,116,115],y5,y6]).bind fun x42=>(F_17 m_.Rotated [114,111,116,97,116,101,100] [118,97,108,105,100]).bind fun y46=>(F_17 m_.Dead [100,101,97,100] [97,108,105,118,101]).bind fun y47=>chk (room (x42.length+[y46,y47].length) 16) ((joinO (x42++[y46,y47]) [32]).bind fun y48=>some y48)
@[irreducible] def mc_23:MC := (sR [bT .lss 40 39 41] (.seq (.cond (.t 41) .skip (.exit 0)) (.seq (.block 1 (sR [iA 2 38 40 42,lN 2 42 43,mo (.alloc [(.str []),(.int .i64 0)]) 5,⟨.st 2 (.t 5) (.t 43),none,none⟩] (.regD [oV 3 44,oF 0 5 45,oL 45 46,oF 1 5 47,oL 47 48,k1 41 48 49,mo (.bslice 1 [(.t 46),(.t 49)]) 50,ap 1 16 44 50 51,oV 51 3] [[],[],[1],[],[3],[4],[2,5],[0,6,5],[7,7,0,1,2,3,4,5,6,7]] [[],[],[1],[],[3],[3,4],[1,2,3,4,5],[0,1,2,3,4,5,6],[0,1,2,3,4,5,6,7]]))) (.reg [aI 40 1 52,oV 52 40]))))
def mc_r:MC := (sR [bx 0 1,mo (.mv (.c (.str []))) 2] (.seq (.regD [oF 0 1 6,oL 6 7,mo (.call (.f 40) [(.t 7),(cI 10)] [] []) 8,oF 1 1 9,oL 9 10,k1 41 10 11,oF 2 1 12,oL 12 13,mo (.call (.f 42) [(.t 13),(.c (.str [112,117,98,108,105,99])),(.c (.str [105,110,115,105,100,101]))] [] []) 14,mo (.bslice 1 [(.c (.str [108,101,97,107])),(.t 8),(.c (.str [115,112,111,116,115])),(.t 11),(.t 14)]) 15,oV 15 3] [[],[0],[1],[],[3],[4,2],[],[6],[7,5],[2,5,8],[9,8,0,1,2,3,4,5,6,7,8,9]] [[],[0],[0,1],[],[3],[0,1,2,3,4],[],[6],[0,1,2,3,4,5,6,7],[0,1,2,3,4,5,6,7,8],[0,1,2,3,4,5,6,7,8,9]]) (.seq (.seq (.note (.gc [1,3]) (.reg [oF 3 1 16,oL 16 17,mo (.build [(.str []),(.int .i64 0)] [(0,1,(.c (.str [114,101,97,100,101,114,115]))),(1,1,(.t 17))]) 18,oF 4 1 19,oL 19 20,mo (.build [(.str []),(.int .i64 0)] [(0,1,(.c (.str [115,105,110,99,101]))),(1,1,(.t 20))]) 21,oF 5 1 22,oF 0 22 23,oL 23 24,mo (.build [(.str []),(.int .i64 0)] [(0,1,(.c (.str [108,101,118,101,108]))),(1,1,(.t 24))]) 25,oF 5 1 26,oF 1 26 27,oL 27 28,mo (.build [(.str []),(.int .i64 0)] [(0,1,(.c (.str [119,111,114,116,104]))),(1,1,(.t 28))]) 29,oF 5 1 30,oF 2 30 31,oL 31 32,mo (.build [(.str []),(.int .i64 0)] [(0,1,(.c (.str [97,117,100,105,101,110,99,101]))),(1,1,(.t 32))]) 33,oF 5 1 34,oF 3 34 35,oL 35 36,mo (.build [(.str []),(.int .i64 0)] [(0,1,(.c (.str [115,99,111,114,101]))),(1,1,(.t 36))]) 37,mo (.bslice 2 [(.t 18),(.t 21),(.t 25),(.t 29),(.t 33),(.t 37)]) 38,lE 38 39,oC 0 40])) (.block 0 (.loop mc_23))) (.seq (.regD [oV 3 53,oF 9 1 54,oL 54 55,mo (.call (.f 42) [(.t 55),(.c (.str [114,111,116,97,116,101,100])),(.c (.str [118,97,108,105,100]))] [] []) 56,oF 10 1 57,oL 57 58,mo (.call (.f 42) [(.t 58),(.c (.str [100,101,97,100])),(.c (.str [97,108,105,118,101]))] [] []) 59,mo (.bslice 1 [(.t 56),(.t 59)]) 60,ap 1 16 53 60 61,mo (.call (.f 43) [(.t 61),(.c (.str [32]))] [61] []) 62,oV 62 2] [[],[],[1],[2],[],[4],[5,3],[3,6],[0,7,6],[8,8],[9,9,0,1,2,3,4,5,6,7,8,9]] [[],[],[1],[1,2],[],[4],[1,2,3,4,5],[1,2,3,4,5,6],[0,1,2,3,4,5,6,7],[0,1,2,3,4,5,6,7,8],[0,1,2,3,4,5,6,7,8,9]]) .ret))))
instance Wq_r {m_:GSummary}:WI (F_r m_) Tryz.prog 16 [GSummary.v m_] [] (fun z=>.str z) (fun z=>[]):=⟨fun Q Q' h hQ=>by
 refine acallM mc_r [] [] [.t 2] Tryz.func16 fun M=>?_
 unfold F_r at h
 unfold mc_r
 replace h:=tY h
 refine tB ?_
 repeat' (first
 | (exact tZ)
 | ((first|refine oblg h ?_|refine roomG h ?_|refine inbG h ?_|refine incG h ?_|refine divG h ?_|refine appG h ?_|refine appC h ?_|refine fork h ?_ ?_|refine forkS h ?_ ?_)<;>clear h<;>intro hc h)
 | (obtain ⟨y,hy,h⟩:=h;(first|have hw:=acall_swe 1000 61 (W_b0 hy)|have hw:=W_83 hy|have hw:=W_87 hy|have hw:=WI.w hy);replace hw:=tY hw;(first|refine M.sC hw ?_|refine M.sD hw ?_);clear hw hy;refine tB ?_)
 | (refine M.fold1 (b:=mc_23) 40 [1,38,39] [38,1] (fun x=>[(3,.osl 2003 1 0 x.length)]) (fun x=>[.o 2003 (.arr 1 (x.map V.str))]) [.gc [1,3,38,39,40],.acc 3 2003 1] h ?_ ?_ ?_<;>first
 | (clear h;intro k a x Qn K hK1 hkN1 ha1 h hf;skip;clear hf;have hkd:=kD hkN1;have hkB1:=kB hkN1;have hkI1:=kI (k:=k) (by (try simp only [x8,wL] at hkN1);omega);have hkd1:decide ((k:Int)<6)=true:=wS (by simp only [x8,wL] at hkN1;omega);have hkr1:(0≤(k:Int)∧(k:Int)<6)=True:=eq_true (by simp only [x8,wL] at hkN1;omega);have hle1:=trivial;have hpt1:=trivial;unfold F_23 at h;unfold mc_23;replace h:=tY h;refine tKA ha1 hkd hkN1 hkB1 hkI1 hkd1 hkr1 hle1 hpt1 ?_)
  |(clear h;intro x K h;replace h:=And.left (And.intro h trivial);unfold mc_23;replace h:=tY h;refine tB ?_)
  |(clear h;(try refine tB ?_);exact tU0;done))
 | (simp only [ha1])
 | (refine hK1 _ ?_;(try refine tB ?_);refine ⟨_,h,?_⟩;exact tU0;done)
 | (refine tE6 GS118.v ([(GS118.mk [114,101,97,100,101,114,115] m_.Readers),(GS118.mk [115,105,110,99,101] m_.Since),(GS118.mk [108,101,118,101,108] m_.Severity.Level),(GS118.mk [119,111,114,116,104] m_.Severity.Worth),(GS118.mk [97,117,100,105,101,110,99,101] m_.Severity.Audience),(GS118.mk [115,99,111,114,101] m_.Severity.Score)]:List GS118) ?_;(first|rw [M.lok_compU]|rw [M.lokD_compU]|(simp only [slV,V.cells];first|rw [M.lok_comp]|rw [M.lokD_comp]));refine tB ?_)
 | (refine tE4 GS118.v ?_;(first|rw [M.lok_compU]|rw [M.lokD_compU]|(simp only [V.cells];first|rw [M.lok_comp]|rw [M.lokD_comp]));refine tB ?_)
 | (refine tE ?_;(first|rw [M.lok_compU]|rw [M.lokD_compU]);refine tB ?_)
 | (refine tA ?_)
 | fail)⟩
noncomputable def F_18 (y2:List Str) (k101:Int) (a78:Int×Nat) (x77:Bool×GSummary):Option (Bool×GSummary) := bif Nat.beq a78.2 1 then chk (inb a78.1 y2.length) ((atoiE (y2.getD (a78.1).toNat default)).bind fun y121=>grp ((x77.1||(!y121.2))) fun b122=>some (b122,(GSummary.mk x77.2.Fingerprint y121.1 x77.2.Public x77.2.Readers x77.2.Since x77.2.Severity x77.2.Rotated x77.2.Dead))) else bif Nat.beq a78.2 3 then chk (inb a78.1 y2.length) ((atoiE (y2.getD (a78.1).toNat default)).bind fun y118=>grp ((x77.1||(!y118.2))) fun b119=>some (b119,(GSummary.mk x77.2.Fingerprint x77.2.Spots x77.2.Public y118.1 x77.2.Since x77.2.Severity x77.2.Rotated x77.2.Dead))) else bif Nat.beq a78.2 4 then chk (inb a78.1 y2.length) ((atoiE (y2.getD (a78.1).toNat default)).bind fun y115=>grp ((x77.1||(!y115.2))) fun b116=>some (b116,(GSummary.mk x77.2.Fingerprint x77.2.Spots x77.2.Public x77.2.Readers y115.1 x77.2.Severity x77.2.Rotated x77.2.Dead))) else bif Nat.beq a78.2 5 then chk (inb a78.1 y2.length) ((atoiE (y2.getD (a78.1).toNat default)).bind fun y112=>grp ((x77.1||(!y112.2))) fun b113=>some (b113,(GSummary.mk x77.2.Fingerprint x77.2.Spots x77.2.Public x77.2.Readers x77.2.Since (GSeverity.mk y112.1 x77.2.Severity.Worth x77.2.Severity.Audience x77.2.Severity.Score) x77.2.Rotated x77.2.Dead))) else bif Nat.beq a78.2 6 then chk (inb a78.1 y2.length) ((atoiE (y2.getD (a78.1).toNat default)).bind fun y109=>grp ((x77.1||(!y109.2))) fun b110=>some (b110,(GSummary.mk x77.2.Fingerprint x77.2.Spots x77.2.Public x77.2.Readers x77.2.Since (GSeverity.mk x77.2.Severity.Level y109.1 x77.2.Severity.Audience x77.2.Severity.Score) x77.2.Rotated x77.2.Dead))) else bif Nat.beq a78.2 7 then chk (inb a78.1 y2.length) ((atoiE (y2.getD (a78.1).toNat default)).bind fun y106=>grp ((x77.1||(!y106.2))) fun b107=>some (b107,(GSummary.mk x77.2.Fingerprint x77.2.Spots x77.2.Public x77.2.Readers x77.2.Since (GSeverity.mk x77.2.Severity.Level x77.2.Severity.Worth y106.1 x77.2.Severity.Score) x77.2.Rotated x77.2.Dead))) else bif Nat.beq a78.2 8 then chk (inb a78.1 y2.length) ((atoiE (y2.getD (a78.1).toNat default)).bind fun y103=>grp ((x77.1||(!y103.2))) fun b104=>some (b104,(GSummary.mk x77.2.Fingerprint x77.2.Spots x77.2.Public x77.2.Readers x77.2.Since (GSeverity.mk x77.2.Severity.Level x77.2.Severity.Worth x77.2.Severity.Audience y103.1) x77.2.Rotated x77.2.Dead))) else none
noncomputable def F_s (text_:Str):Option (GSummary×Int) := (splI text_ [32]).bind fun y2=>bif (!decide ((y2.length:Int)=19)) then some ((GSummary.mk 0 0 false 0 0 (GSeverity.mk 0 0 0 0) false false),4) else chk (inb 1 y2.length) ((puE (y2.getD 1 default) 10 64).bind fun y4=>permL (fun l100=>(foldL (F_18 y2) l100 0 ((!y4.2),(GSummary.mk 0 0 false 0 0 (GSeverity.mk 0 0 0 0) false false))).bind fun x123=>chk (inb 4 y2.length) (chk (inb 17 y2.length) (chk (inb 18 y2.length) (bif x123.1 then some ((GSummary.mk 0 0 false 0 0 (GSeverity.mk 0 0 0 0) false false),4) else (F_r (GSummary.mk y4.1 x123.2.Spots (decide ((y2.getD 4 default)=[112,117,98,108,105,99])) x123.2.Readers x123.2.Since x123.2.Severity (decide ((y2.getD 17 default)=[114,111,116,97,116,101,100])) (decide ((y2.getD 18 default)=[100,101,97,100])))).bind fun y127=>bif (!decide (y127=text_)) then some ((GSummary.mk 0 0 false 0 0 (GSeverity.mk 0 0 0 0) false false),4) else some ((GSummary.mk y4.1 x123.2.Spots (decide ((y2.getD 4 default)=[112,117,98,108,105,99])) x123.2.Readers x123.2.Since x123.2.Severity (decide ((y2.getD 17 default)=[114,111,116,97,116,101,100])) (decide ((y2.getD 18 default)=[100,101,97,100]))),0))))) [(3,1),(6,3),(8,4),(10,5),(12,6),(14,7),(16,8)])
@[irreducible] def mg_7c:List MOp:=[fV 56 57 7,gF 56 58 (.mp (.ifz true) [(.t 57)]),pO 56 58 59]
@[irreducible] def mc_18:MC := (sR [mo (.mp .nxt [(.t 39)]) 40,xT 0 40 41] (.seq (.cond (.t 41) .skip (.exit 0)) (.block 1 (sR [mo (.mp .ent [(.t 39)]) 42,xT 0 42 43,xT 1 42 44,oV 43 9,oV 44 10] (.seq (.regI [.nt (.ofA 10 11),.op (oV 10 46),.op (oV 4 47),.op (oV 9 48),.op (iA 1 47 48 49),.op (oL 49 50),.op (k1 47 50 51),.op (oV 51 45),.op (xT 0 45 52),.op (xT 1 45 53),.op (mo (.nck (.t 46)) 54),.op ⟨.st 1 (.t 54) (.t 52),none,none⟩,.op (oV 53 7)]) (.note (.gc [0,2,4,5,6,7,8,11,39,57,58,79,80,81,82]) (.regI [.op (oV 8 55),.op (oV 55 56),.grp mg_7c,.op (oV 59 8)])))))))
def mc_s:MC := (sR [mo (.alloc [(.int .u64 0),(.int .i64 0),(.bool false),(.int .i64 0),(.int .i64 0),(.int .i64 0),(.int .i64 0),(.int .i64 0),(.int .i64 0),(.bool false),(.bool false)]) 2,oC 0 3] (sR [oV 0 11,mo (.call (.f 45) [(.t 11),(.c (.str [32]))] [] []) 12,oV 12 4] (.seq (sR [oV 4 13,lE 13 14,bC .neq 14 19 15] (.cond (.t 15) (.seq (.note (.gc [2]) (.reg [mo (.build [(.int .u64 0),(.int .i64 0),(.bool false),(.int .i64 0),(.int .i64 0),(.int .i64 0),(.int .i64 0),(.int .i64 0),(.int .i64 0),(.bool false),(.bool false)] []) 16,⟨.st 11 (.t 2) (.t 16),none,none⟩,oC 4 3])) .ret) .skip)) (sR [mo (.alloc [(.int .u64 0),(.int .i64 0),(.bool false),(.int .i64 0),(.int .i64 0),(.int .i64 0),(.int .i64 0),(.int .i64 0),(.int .i64 0),(.bool false),(.bool false)]) 5] (sR [oV 4 18,mo (.iad 1 (.t 18) (cI 1)) 19,oL 19 20,mo (.call (.f 46) [(.t 20),(cI 10),(cI 64)] [] []) 21,oV 21 17,xT 0 17 22,xT 1 17 23,oV 22 6,oV 23 7] (.seq (.note (.gc [0,2,4,5,6,7,11,57,58,79,80,81,82]) (.reg [oV 7 24,mo (.mp (.ifz true) [(.t 24)]) 25,oV 25 8])) (.seq (.seq (.regI [.op (mo (.mp (.mk (.int .i64)) []) 26),.op (oF 1 5 27),.nt (.adq 5 11),.nt (.toA 27 11),.op ⟨.mp (.up (.int .i64)) [(.t 26),(cI 3),(.t 27)],none,none⟩,.op (oF 3 5 28),.nt (.toA 28 11),.op ⟨.mp (.up (.int .i64)) [(.t 26),(cI 6),(.t 28)],none,none⟩,.op (oF 4 5 29),.nt (.toA 29 11),.op ⟨.mp (.up (.int .i64)) [(.t 26),(cI 8),(.t 29)],none,none⟩,.op (oF 5 5 30),.op (oF 0 30 31),.nt (.toA 31 11),.op ⟨.mp (.up (.int .i64)) [(.t 26),(cI 10),(.t 31)],none,none⟩,.op (oF 5 5 32),.op (oF 1 32 33),.nt (.toA 33 11),.op ⟨.mp (.up (.int .i64)) [(.t 26),(cI 12),(.t 33)],none,none⟩,.op (oF 5 5 34),.op (oF 2 34 35),.nt (.toA 35 11),.op ⟨.mp (.up (.int .i64)) [(.t 26),(cI 14),(.t 35)],none,none⟩,.op (oF 5 5 36),.op (oF 3 36 37),.nt (.toA 37 11),.op ⟨.mp (.up (.int .i64)) [(.t 26),(cI 16),(.t 37)],none,none⟩,.op (oV 26 38),.nt (.shut 26),.op (mo (.mp .rng [(.t 38)]) 39)]) (.block 0 (.loop mc_18))) (.seq (.regD [oV 6 60,oV 4 61,mo (.iad 1 (.t 61) (cI 4)) 62,oL 62 63,mo (.bin false .eql (.t 63) (.c (.str [112,117,98,108,105,99]))) 64,oV 4 65,mo (.iad 1 (.t 65) (cI 17)) 66,oL 66 67,mo (.bin false .eql (.t 67) (.c (.str [114,111,116,97,116,101,100]))) 68,oV 4 69,mo (.iad 1 (.t 69) (cI 18)) 70,oL 70 71,mo (.bin false .eql (.t 71) (.c (.str [100,101,97,100]))) 72,oF 0 5 73,⟨.st 1 (.t 73) (.t 60),none,none⟩,oF 2 5 74,⟨.st 1 (.t 74) (.t 64),none,none⟩,oF 9 5 75,⟨.st 1 (.t 75) (.t 68),none,none⟩,oF 10 5 76,⟨.st 1 (.t 76) (.t 72),none,none⟩] [[],[],[1],[2],[3],[],[5],[6],[7],[],[9],[10],[11],[0,3,7,11],[13,0,0,3,7,11],[0,1,2,3,4,7,11,13,14],[15,4,14,0,1,2,3,4,7,11,13,14],[0,1,2,3,4,5,6,7,8,11,13,14,15,16],[17,8,16,0,1,2,3,4,5,6,7,8,11,13,14,15,16],[0,1,2,3,4,5,6,7,8,9,10,11,12,13,14,15,16,17,18],[19,12,18,0,1,2,3,4,5,6,7,8,9,10,11,12,13,14,15,16,17,18]] [[],[],[1],[1,2],[1,2,3],[],[5],[5,6],[5,6,7],[],[9],[9,10],[9,10,11],[0,1,2,3,5,6,7,9,10,11],[0,1,2,3,5,6,7,9,10,11,13],[0,1,2,3,4,5,6,7,9,10,11,13,14],[0,1,2,3,4,5,6,7,9,10,11,13,14,15],[0,1,2,3,4,5,6,7,8,9,10,11,13,14,15,16],[0,1,2,3,4,5,6,7,8,9,10,11,13,14,15,16,17],[0,1,2,3,4,5,6,7,8,9,10,11,12,13,14,15,16,17,18],[0,1,2,3,4,5,6,7,8,9,10,11,12,13,14,15,16,17,18,19]]) (.seq (.seq (.note (.gc [0,2,5,8,11,79,80,81,82]) (.reg [oV 8 77,oV 77 78,gF 78 79 (.ld (some 11) (.t 5)),gF 78 80 (.call (.f 16) [(.t 79)] [] []),fV 78 81 0,gF 78 82 (.bin false .neq (.t 80) (.t 81)),pO 78 82 83])) (.cond (.t 83) (.seq (.note (.gc [2,11]) (.reg [mo (.build [(.int .u64 0),(.int .i64 0),(.bool false),(.int .i64 0),(.int .i64 0),(.int .i64 0),(.int .i64 0),(.int .i64 0),(.int .i64 0),(.bool false),(.bool false)] []) 84,⟨.st 11 (.t 2) (.t 84),none,none⟩,oC 4 3])) .ret) .skip)) (.seq (.note (.gc [2,5,11]) (.reg [lN 11 5 85,⟨.st 11 (.t 2) (.t 85),none,none⟩,oC 0 3])) .ret))))))))))
instance Wq_s {text_:Str}:WI (F_s text_) Tryz.prog 20 [.str text_] [] (fun z=>.tup [GSummary.v z.1,.int .i64 z.2]) (fun z=>[]):=⟨fun Q Q' h hQ=>by
 refine acallM mc_s [] [] [.c 2 (some 11),.t 3] Tryz.func20 fun M=>?_
 unfold F_s at h
 unfold mc_s
 replace h:=tY h
 refine tB ?_
 repeat' (first
 | (exact tZ)
 | ((first|refine oblg h ?_|refine roomG h ?_|refine inbG h ?_|refine incG h ?_|refine divG h ?_|refine appG h ?_|refine appC h ?_|refine fork h ?_ ?_|refine forkS h ?_ ?_)<;>clear h<;>intro hc h)
 | (intro b;(try refine tB ?_))
 | (obtain ⟨y,hy,h⟩:=h;(first|with_reducible first|have hw:=W_84 hy|have hw:=W_86 hy|have hw:=W_88 hy|have hw:=WI.w hy);replace hw:=tY hw;(first|refine M.sC hw ?_|refine M.sD hw ?_);clear hw hy;refine tB ?_)
 | (refine M.gv1 (ms:=mg_7c) 59 [57,58] h ?_ ?_<;>first
 | (clear h;intro K hK1;unfold mg_7c;refine tB ?_)
 | (clear h;intro b h;replace h:=tY h;refine tB ?_))
 | (refine M.mfold1 (b:=mc_18) (kv:=(kvV (V.int .i64) (V.adr b))) 39 [0,2,4,5,6,11,39] [2] (fun x=>[(8,.bool x.1)]) (fun x=>[.o 5 (.cells [.int .u64 x.2.Fingerprint,.int .i64 x.2.Spots,.bool x.2.Public,.int .i64 x.2.Readers,.int .i64 x.2.Since,.int .i64 x.2.Severity.Level,.int .i64 x.2.Severity.Worth,.int .i64 x.2.Severity.Audience,.int .i64 x.2.Severity.Score,.bool x.2.Rotated,.bool x.2.Dead])]) [] h ?_ ?_<;>first
 | (clear h;intro rem cur x k Qn K hK2 hs2 hn2;unfold F_18 at hn2;unfold mc_18;refine tB ?_)
 | (clear h;(try refine tB ?_);exact tU0;done))
 | (refine nxt_of hs2 hn2 ?_ ?_<;>first
  |(intro h;rw [M.lok_eq];replace h:=tY h;refine tB ?_)
  |(intro i a h;rw [M.lok_eq];obtain ⟨ak,ao⟩:=a;rcases ao with _|_|_|_|_|_|_|_|_|_|_|_|ao<;>replace h:=tY h<;>first|exact False.elim h|(exfalso;simp [Nat.beq,Ok_none] at h;done)|refine tB ?_))
 | (refine hK1 _ ?_;exact tU;done)
 | (apply hK2;(try refine tB ?_);refine ⟨_,h,?_⟩;exact tU0;done)
 | (refine bfork (fun hc=>?_) (fun hc=>?_))
 | (refine tE ?_;(first|rw [M.lok_compU]|rw [M.lokD_compU]);refine tB ?_)
 | (refine tA ?_)
 | fail)⟩
def F_3w (m_:GSummary):Option Bool := grp ((m_.Rotated&&m_.Dead)) fun b2=>some b2
@[irreducible] def mg_8a:List MOp:=[ta_ 5 6 10 1,tL 5 7 6,pA 5 7 8]
def mc_3w:MC := (sR [bx 0 1,mF 2] (.seq (.regI [.op (oF 9 1 3),.op (oL 3 4),.op (oV 4 5),.grp mg_8a,.op (oV 8 2)]) .ret))
instance:GV mg_8a 8 [6,7]:=⟨⟩
instance Wq_3w {m_:GSummary}:WI (F_3w m_) Tryz.prog 18 [GSummary.v m_] [] (fun z=>.bool z) (fun z=>[]):=⟨fun Q Q' h hQ=>by
 refine acallM mc_3w [] [] [.t 2] Tryz.func18 fun M=>?_
 unfold F_3w at h
 unfold mc_3w
 exact tX⟩
noncomputable def F_19:Option Bool := (F_s [108,101,97,107,32,55,32,115,112,111,116,115,32,49,32,105,110,115,105,100,101,32,114,101,97,100,101,114,115,32,50,32,115,105,110,99,101,32,53,32,108,101,118,101,108,32,50,32,119,111,114,116,104,32,49,48,48,32,97,117,100,105,101,110,99,101,32,51,32,115,99,111,114,101,32,51,48,48,32,114,111,116,97,116,101,100,32,100,101,97,100]).bind fun y2=>jn (α:=Bool) (bif decide (y2.2=0) then (F_r y2.1).bind fun y10=>some (decide (y10=[108,101,97,107,32,55,32,115,112,111,116,115,32,49,32,105,110,115,105,100,101,32,114,101,97,100,101,114,115,32,50,32,115,105,110,99,101,32,53,32,108,101,118,101,108,32,50,32,119,111,114,116,104,32,49,48,48,32,97,117,100,105,101,110,99,101,32,51,32,115,99,111,114,101,32,51,48,48,32,114,111,116,97,116,101,100,32,100,101,97,100])) else some false) fun j11=>grp ((j11&&decide (y2.1.Fingerprint=7))) fun b12=>grp ((b12&&decide (y2.1.Since=5))) fun b13=>jn (α:=Bool) (bif b13 then (F_3w y2.1).bind fun y15=>some y15 else some false) fun j16=>some j16
@[irreducible] def mg_8b:List MOp:=[gT 11 12 (.ld (some 11) (.t 2)),gT 11 13 (.call (.f 16) [(.t 12)] [] []),tV 11 14 1,gT 11 15 (.bin false .eql (.t 13) (.t 14)),pA 11 15 16]
@[irreducible] def mg_8c:List MOp:=[ta_ 17 18 0 2,tL 17 19 18,gT 17 20 (.bin false .eql (.t 19) (.c (.int .u64 7))),pA 17 20 21]
@[irreducible] def mg_8d:List MOp:=[ta_ 22 23 4 2,tL 22 24 23,gT 22 25 (.bin false .eql (.t 24) (cI 5)),pA 22 25 26]
@[irreducible] def mg_8e:List MOp:=[gT 27 28 (.ld (some 11) (.t 2)),gT 27 29 (.call (.f 18) [(.t 28)] [] []),pA 27 29 30]
def mc_19:MC := (sR [mF 0] (sR [mo (.mv (.c (.str [108,101,97,107,32,55,32,115,112,111,116,115,32,49,32,105,110,115,105,100,101,32,114,101,97,100,101,114,115,32,50,32,115,105,110,99,101,32,53,32,108,101,118,101,108,32,50,32,119,111,114,116,104,32,49,48,48,32,97,117,100,105,101,110,99,101,32,51,32,115,99,111,114,101,32,51,48,48,32,114,111,116,97,116,101,100,32,100,101,97,100]))) 1] (sR [oV 1 5,k1 20 5 6,oV 6 4,xT 0 4 7,xT 1 4 8,mo (.alloc [(.int .u64 0),(.int .i64 0),(.bool false),(.int .i64 0),(.int .i64 0),(.int .i64 0),(.int .i64 0),(.int .i64 0),(.int .i64 0),(.bool false),(.bool false)]) 2,⟨.st 11 (.t 2) (.t 7),none,none⟩,oV 8 3] (.seq (.regI [.op (oV 3 9),.op (bC .eql 9 0 10),.op (oV 10 11),.grp mg_8b,.op (oV 16 17),.grp mg_8c,.op (oV 21 22),.grp mg_8d,.op (oV 26 27),.grp mg_8e,.op (oV 30 0)]) .ret))))
instance:GI mg_8e [0] [] (fun y:Bool=>[(30,.bool y)]) (fun y=>[]):=⟨⟩
instance:GV mg_8d 26 [23,24,25]:=⟨⟩
instance:GV mg_8c 21 [18,19,20]:=⟨⟩
instance:GI mg_8b [0,2] [2] (fun y:Bool=>[(16,.bool y)]) (fun y=>[]):=⟨⟩
instance Wq_19:WI F_19 Tryz.prog 7 [] [] (fun z=>.bool z) (fun z=>[]):=⟨fun Q Q' h hQ=>by
 refine acallM mc_19 [] [] [.t 0] Tryz.func7 fun M=>?_
 unfold F_19 at h
 unfold mc_19
 exact tX⟩
end Go.Ab
set_option maxRecDepth 20000
set_option maxHeartbeats 2000000
namespace Go.Ab
open Go.Proofs
def F_0 (t_:GTape) (n_:Int):Option (Int×GTape) := bif decide ((t_.L.length:Int)≤t_.at_) then some (0,t_) else chk (inb t_.at_ t_.L.length) (chk (in64 (t_.at_+1)) (chk (divs ((t_.L.getD (t_.at_).toNat default) % 2^16) n_) (some ((((t_.L.getD (t_.at_).toNat default) % 2^16) % n_),(GTape.mk t_.L (t_.at_+1))))))
def mc_0:MC := (sR [oC 0 4] (.seq (.seq (.regD [oV 0 6,mo (.nck (.t 6)) 7,oF 1 7 8,oL 8 9,oV 0 10,mo (.nck (.t 10)) 11,oF 0 11 12,oL 12 13,lE 13 14,bT .geq 9 14 15] [[],[0],[1],[2],[],[4],[5],[6],[7],[3,8]] [[],[0],[0,1],[0,1,2],[],[4],[4,5],[4,5,6],[4,5,6,7],[0,1,2,3,4,5,6,7,8]]) (.cond (.t 15) (sR [oC 0 4] .ret) .skip)) (.seq (.note (.gc [0,1]) (.regD [oV 0 16,mo (.nck (.t 16)) 17,oF 0 17 18,oL 18 19,oV 0 20,mo (.nck (.t 20)) 21,oF 1 21 22,oL 22 23,iA 1 19 23 24,oL 24 25,mo (.mask 16 (.t 25) .i64) 26,oV 26 5] [[],[0],[1],[2],[],[4],[5],[6],[3,7],[8],[9],[10,0,1,2,3,4,5,6,7,8,9,10]] [[],[0],[0,1],[0,1,2],[],[4],[4,5],[4,5,6],[0,1,2,3,4,5,6,7],[0,1,2,3,4,5,6,7,8],[0,1,2,3,4,5,6,7,8,9],[0,1,2,3,4,5,6,7,8,9,10]])) (.seq (.note (.gc [0,1,5]) (.reg [oV 0 27,mo (.nck (.t 27)) 28,oF 1 28 29,oL 29 30,aI 30 1 31,mo (.nck (.t 27)) 32,oF 1 32 33,⟨.st 1 (.t 33) (.t 31),none,none⟩])) (.seq (.note (.gc [1,5]) (.reg [oV 5 34,oV 1 35,mo (.bin true .rem (.t 34) (.t 35)) 36,oV 36 4])) .ret)))))
instance Wq_0 {t_:GTape} {n_:Int}:WI (F_0 t_ n_) Tryz.prog 12 [.ptr 1000 0,.int .i64 n_] [(1000,.cells [.sl (t_.L.map (V.int .i64)),.int .i64 t_.at_])] (fun z=>.int .i64 z.1) (fun z=>[(1000,.cells [.sl (z.2.L.map (V.int .i64)),.int .i64 z.2.at_])]):=⟨fun Q Q' h hQ=>by
 refine acallM mc_0 [] [1000] [.t 4] Tryz.func12 fun M=>?_
 unfold F_0 at h
 unfold mc_0
 exact tX⟩
def F_1 (t_:GTape) (a_:Int) (b_:Int):Option (Int×GTape) := chk (in64 (b_ - a_)) (chk (in64 ((b_ - a_)+1)) ((F_0 t_ ((b_ - a_)+1)).bind fun y2=>chk (in64 (a_+y2.1)) (some ((a_+y2.1),y2.2))))
def mc_1:MC := (sR [oC 0 6] (sR [oV 1 7,oV 0 8,oV 2 9,oV 1 10,mo (.bin true .sub (.t 9) (.t 10)) 11,aI 11 1 12,mo (.call (.f 12) [(.t 8),(.t 12)] [1000] []) 13,mo (.bin true .add (.t 7) (.t 13)) 14,oV 14 6] .ret))
instance Wq_1 {t_:GTape} {a_ b_:Int}:WI (F_1 t_ a_ b_) Tryz.prog 35 [.ptr 1000 0,.int .i64 a_,.int .i64 b_] [(1000,.cells [.sl (t_.L.map (V.int .i64)),.int .i64 t_.at_])] (fun z=>.int .i64 z.1) (fun z=>[(1000,.cells [.sl (z.2.L.map (V.int .i64)),.int .i64 z.2.at_])]):=⟨fun Q Q' h hQ=>by
 refine acallM mc_1 [] [1000] [.t 6] Tryz.func35 fun M=>?_
 unfold F_1 at h
 unfold mc_1
 exact tX⟩
def F_b (t_:GTape) (l_:List Int):Option (Int×GTape) := (F_0 t_ (l_.length:Int)).bind fun y2=>chk (inb y2.1 l_.length) (some ((l_.getD (y2.1).toNat default),y2.2))
def mc_b:MC := (sR [oC 0 4] (sR [oV 1 5,oV 0 6,oV 1 7,lE 7 8,mo (.call (.f 12) [(.t 6),(.t 8)] [1000] []) 9,iA 1 5 9 10,oL 10 11,oV 11 4] .ret))
instance Wq_b {t_:GTape} {l_:List Int}:WI (F_b t_ l_) Tryz.prog 36 [.ptr 1000 0,.sl (l_.map (V.int .i64))] [(1000,.cells [.sl (t_.L.map (V.int .i64)),.int .i64 t_.at_])] (fun z=>.int .i64 z.1) (fun z=>[(1000,.cells [.sl (z.2.L.map (V.int .i64)),.int .i64 z.2.at_])]):=⟨fun Q Q' h hQ=>by
 refine acallM mc_b [] [1000] [.t 4] Tryz.func36 fun M=>?_
 unfold F_b at h
 unfold mc_b
 exact tX⟩
noncomputable def F_5i (n_:Int) (x29:Int×Int×(List Int)×GTape):Option (Fl (Int×Int×(List Int)×GTape) ((List Int)×GTape)) := bif decide (x29.2.1<n_) then (F_0 x29.2.2.2 3).bind fun y37=>chk (in64 (x29.1+y37.1)) (chk (room (x29.2.2.1.length+[(x29.1+y37.1)].length) 8) (chk (in64 (x29.2.1+1)) (some (.nx ((x29.1+y37.1),(x29.2.1+1),(x29.2.2.1++[(x29.1+y37.1)]),y37.2))))) else some (.ex (x29.2.2.1,x29.2.2.2))
noncomputable def F_1a (t_:GTape) (n_:Int):Option ((List Int)×GTape) := (F_0 t_ 4).bind fun y2=>(loop (F_5i n_) (y2.1,0,[],y2.2)).bind fun r38=>some (r38.1,r38.2)
@[irreducible] def mc_5i:MC := (.seq (sR [oV 7 10,oV 1 11,bT .lss 10 11 12] (.cond (.t 12) .skip (.exit 0))) (.seq (.block 1 (sR [oV 6 15,oV 0 16,mo (.call (.f 12) [(.t 16),(cI 3)] [1000] []) 17,mo (.bin true .add (.t 15) (.t 17)) 18,oV 18 6] (.reg [oV 5 19,oV 6 20,mo (.bslice 1 [(.t 20)]) 21,ap 1 8 19 21 22,oV 22 5]))) (.note (.gc [0,1,5,6,7]) (.reg [oV 7 13,aI 13 1 14,oV 14 7]))))
def mc_1a:MC := (sR [mo (.mv (.c (.sl []))) 4] (sR [mo (.mv (.c .nils)) 5] (sR [oV 0 8,mo (.call (.f 12) [(.t 8),(cI 4)] [1000] []) 9,oV 9 6] (.seq (sR [oC 0 7] (.block 0 (.loop mc_5i))) (sR [oV 5 23,oV 23 4] .ret)))))
attribute [go_sem] F_5i
instance:LI mc_5i 0 0 [0,1] [] (fun y:Int×Int×(List Int)×GTape=>[(5,.osl 2005 1 0 y.2.2.1.length),(6,.int .i64 y.1),(7,.int .i64 y.2.1)]) (fun y=>[.o 2005 (.arr 1 (y.2.2.1.map (V.int .i64))),.o 1000 (.cells [.sl (y.2.2.2.L.map (V.int .i64)),.int .i64 y.2.2.2.at_])]) [.gc [0,1,5,6,7],.acc 5 2005 1]:=⟨⟩
instance Wq_1a {t_:GTape} {n_:Int}:WI (F_1a t_ n_) Tryz.prog 57 [.ptr 1000 0,.int .i64 n_] [(1000,.cells [.sl (t_.L.map (V.int .i64)),.int .i64 t_.at_])] (fun z=>.sl (z.1.map (V.int .i64))) (fun z=>[(1000,.cells [.sl (z.2.L.map (V.int .i64)),.int .i64 z.2.at_])]):=⟨fun Q Q' h hQ=>by
 refine acallM mc_1a [.fz 4] [1000] [.t 4] Tryz.func57 fun M=>?_
 unfold F_1a at h
 unfold mc_1a
 exact tX⟩
noncomputable def F_5j (x21:Int×(List Int)×GTape):Option (Fl (Int×(List Int)×GTape) ((List Int)×GTape)) := bif decide (0<x21.1) then (F_b x21.2.2 [2,2,1,3]).bind fun y25=>chk (room (x21.2.1.length+[y25.1].length) 8) (chk (in64 (x21.1 - 1)) (some (.nx ((x21.1 - 1),(x21.2.1++[y25.1]),y25.2)))) else some (.ex (x21.2.1,x21.2.2))
noncomputable def F_5k (k42:Int) (a43:Int) (x41:List Int):Option (List Int) := bif decide (a43=2) then chk (room (x41.length+[k42].length) 8) (some (x41++[k42])) else some x41
noncomputable def F_5l (r26:(List Int)×GTape) (x44:List Int) (k166:Int) (a167:Int) (x165:(List GMember)×GTape):Option ((List GMember)×GTape) := (F_0 x165.2 (r26.1.length:Int)).bind fun y191=>(F_0 y191.2 (x44.length:Int)).bind fun y192=>chk (inb y192.1 x44.length) (jn (α:=GMember×GTape) ((F_0 y192.2 4).bind fun y197=>bif decide (y197.1=3) then some ((GMember.mk a167 2 y191.1 (x44.getD ((y192.1).toNat) default)),y197.2) else some ((GMember.mk a167 1 y191.1 (x44.getD ((y192.1).toNat) default)),y197.2)) fun j195=>bif (!decide (j195.1.Principal=j195.1.Group)) then chk (room (x165.1.length+[j195.1].length) 32) (some ((x165.1++[j195.1]),j195.2)) else some (x165.1,j195.2))
noncomputable def F_24 (t_:GTape):Option (GDirectory×GTape) := (F_1 t_ 2 6).bind fun y14=>(loop F_5j (y14.1,[1],y14.2)).bind fun r26=>(foldL F_5k r26.1 0 []).bind fun x44=>bif decide ((x44.length:Int)=0) then some ((GDirectory.mk r26.1 []),r26.2) else (F_0 r26.2 12).bind fun y116=>(F_1a y116.2 y116.1).bind fun y117=>(foldL (F_5l r26 x44) y117.1 0 ([],y117.2)).bind fun x198=>some ((GDirectory.mk r26.1 x198.1),x198.2)
@[irreducible] def mc_5j:MC := (.seq (sR [oV 4 15,bC .gtr 15 0 16] (.cond (.t 16) .skip (.exit 0))) (.seq (.block 1 (.regD [oF 0 3 19,oL 19 20,oV 0 21,mo (.lsl 1 [(cI 2),(cI 2),(cI 1),(cI 3)]) 22,mo (.call (.f 36) [(.t 21),(.t 22)] [1000] []) 23,mo (.bslice 1 [(.t 23)]) 24,ap 1 8 20 24 25,oF 0 3 26,⟨.st 1 (.t 26) (.t 25),none,none⟩] [[],[0],[],[],[2,3],[4],[1,5,4],[0,1,2,3,4,5,6],[7,6,6,0,1,2,3,4,5,6]] [[],[0],[],[],[2,3],[2,3,4],[0,1,2,3,4,5],[0,1,2,3,4,5,6],[0,1,2,3,4,5,6,7]])) (.note (.gc [0,2,3,4]) (.reg [oV 4 17,sI 17 1 18,oV 18 4]))))
@[irreducible] def mc_5k:MC := (sR [bT .lss 30 29 31] (.seq (.cond (.t 31) .skip (.exit 2)) (.seq (.block 3 (sR [oV 30 32,iA 1 28 30 33,oL 33 34,oV 32 6,oV 34 7] (sR [oV 7 35,bC .eql 35 2 36] (.cond (.t 36) (.reg [oV 5 37,oV 6 38,mo (.bslice 1 [(.t 38)]) 39,ap 1 8 37 39 40,oV 40 5]) .skip)))) (.reg [aI 30 1 41,oV 41 30]))))
@[irreducible] def mc_8f:MC := (sR [oF 2 10 73,oL 73 74,oF 3 10 75,oL 75 76,bT .neq 74 76 77] (.cond (.t 77) (.reg [oF 1 3 78,oL 78 79,lN 4 10 80,mo (.bslice 4 [(.t 80)]) 81,ap 4 32 79 81 82,oF 1 3 83,⟨.st 1 (.t 83) (.t 82),none,none⟩]) .skip))
@[irreducible] def mc_5l:MC := (sR [bT .lss 51 50 52] (.seq (.cond (.t 52) .skip (.exit 4)) (.seq (.block 5 (sR [iA 1 49 51 53,oL 53 54,oV 54 9] (sR [oV 9 55,oV 0 56,oF 0 3 57,oL 57 58,lE 58 59,mo (.call (.f 12) [(.t 56),(.t 59)] [1000] []) 60,oV 5 61,oV 0 62,oV 5 63,lE 63 64,mo (.call (.f 12) [(.t 62),(.t 64)] [1000] []) 65,iA 1 61 65 66,oL 66 67,mo (.build [(.int .i64 0),(.int .i64 0),(.int .i64 0),(.int .i64 0)] [(0,1,(.t 55)),(1,1,(cI 1)),(2,1,(.t 60)),(3,1,(.t 67))]) 68,mo (.alloc [(.int .i64 0),(.int .i64 0),(.int .i64 0),(.int .i64 0)]) 10,⟨.st 4 (.t 10) (.t 68),none,none⟩] (.cut (.seq (.note (.gc [0,2,3,5,10,49,50,51]) (.reg [oV 0 69,mo (.call (.f 12) [(.t 69),(cI 4)] [1000] []) 70,bC .eql 70 3 71])) (.cond (.t 71) (.reg [oF 1 10 72,⟨.st 1 (.t 72) (cI 2),none,none⟩]) .skip)) mc_8f)))) (.reg [aI 51 1 84,oV 84 51]))))
def mc_24:MC := (sR [mo (.alloc [(.sl []),(.sl [])]) 2] (sR [mo (.bslice 1 [(cI 1)]) 11,mo (.build [.nils,.nils] [(0,1,(.t 11))]) 12,mo (.alloc [(.sl []),(.sl [])]) 3,⟨.st 2 (.t 3) (.t 12),none,none⟩] (.seq (sR [oV 0 13,mo (.call (.f 35) [(.t 13),(cI 2),(cI 6)] [1000] []) 14,oV 14 4] (.block 0 (.loop mc_5j))) (sR [mo (.mv (.c .nils)) 5] (.seq (sR [oF 0 3 27,oL 27 28,lE 28 29,oC 0 30] (.block 2 (.loop mc_5k))) (.seq (sR [oV 5 42,lE 42 43,bC .eql 43 0 44] (.cond (.t 44) (sR [lN 2 3 45,⟨.st 2 (.t 2) (.t 45),none,none⟩] .ret) .skip)) (.seq (sR [oV 0 46,oV 0 47,mo (.call (.f 12) [(.t 47),(cI 12)] [1000] []) 48,mo (.call (.f 57) [(.t 46),(.t 48)] [1000] []) 49,lE 49 50,oC 0 51] (.block 4 (.loop mc_5l))) (sR [lN 2 3 85,⟨.st 2 (.t 2) (.t 85),none,none⟩] .ret))))))))
attribute [go_sem] F_5j F_5k F_5l
instance:LI mc_5j 0 0 [0,2,3] [3,2] (fun y:Int×(List Int)×GTape=>[(4,.int .i64 y.1)]) (fun y=>[.p 3 0 [.osl 4048 1 0 y.2.1.length],.o 4048 (.arr 1 (y.2.1.map (V.int .i64))),.o 1000 (.cells [.sl (y.2.2.L.map (V.int .i64)),.int .i64 y.2.2.at_])]) [.gc [0,2,3,4],.ownC 3 0 4048 1 none]:=⟨⟩
instance:LI mc_5k 30 29 [0,2,3,28,29] [4048,3,2,1000] (fun y:List Int=>[(5,.osl 2005 1 0 y.length)]) (fun y=>[.o 2005 (.arr 1 (y.map (V.int .i64)))]) [.gc [0,2,3,5,28,29,30],.acc 5 2005 1]:=⟨⟩
instance:LI mc_8f 0 0 [0,2,3,5,10,49,50,51] [2005,3,4048,4049,2] (fun y:GMember×GTape=>[]) (fun y=>[.o 10 (.cells [.int .i64 y.1.Time,.int .i64 y.1.Kind,.int .i64 y.1.Principal,.int .i64 y.1.Group]),.o 1000 (.cells [.sl (y.2.L.map (V.int .i64)),.int .i64 y.2.at_])]) []:=⟨⟩
instance:LI mc_5l 51 50 [0,2,3,5,49,50] [2005,3,4048,2] (fun y:(List GMember)×GTape=>[]) (fun y=>[.p 3 1 [.osl 4049 4 0 y.1.length],.o 4049 (.arr 4 (y.1.map GMember.v)),.o 1000 (.cells [.sl (y.2.L.map (V.int .i64)),.int .i64 y.2.at_])]) [.gc [0,2,3,5,49,50,51],.ownC 3 1 4049 4 none]:=⟨⟩
instance Wq_24 {t_:GTape}:WI (F_24 t_) Tryz.prog 27 [.ptr 1000 0] [(1000,.cells [.sl (t_.L.map (V.int .i64)),.int .i64 t_.at_])] (fun z=>GDirectory.v z.1) (fun z=>[(1000,.cells [.sl (z.2.L.map (V.int .i64)),.int .i64 z.2.at_])]):=⟨fun Q Q' h hQ=>by
 refine acallM mc_24 [.fzc 2] [1000] [.c 2 (some 2)] Tryz.func27 fun M=>?_
 unfold F_24 at h
 unfold mc_24
 exact tX⟩
noncomputable def F_5m (d_:GDirectory) (k208:Int) (a209:Int) (x207:Int×(List GAccess)×GTape):Option (Int×(List GAccess)×GTape) := (F_b x207.2.2 [1,1,2,3,4,5,5,6,7,7]).bind fun y251=>(F_0 y251.2 x207.1).bind fun y252=>jn (α:=Fl (GAccess×GTape) GTape) (jn (α:=Bool) (bif decide (y251.1=1) then some true else some (decide (y251.1=2))) fun j261=>bif j261 then chk (in64 ((d_.Kinds.length:Int)+1)) ((F_0 y252.2 ((d_.Kinds.length:Int)+1)).bind fun y262=>some (.nx ((GAccess.mk a209 y251.1 y252.1 y262.1 0 0 0),y262.2))) else bif decide (y251.1=3) then chk (in64 (a209+1)) ((F_0 y252.2 5).bind fun y263=>chk (in64 ((a209+1)+y263.1)) (some (.nx ((GAccess.mk a209 y251.1 y252.1 0 ((a209+1)+y263.1) 0 0),y263.2)))) else jn (α:=Bool) (bif decide (y251.1=5) then some true else some (decide (y251.1=6))) fun j264=>bif j264 then (F_0 y252.2 3).bind fun y265=>some (.nx ((GAccess.mk a209 y251.1 y252.1 0 0 y265.1 0),y265.2)) else bif decide (y251.1=7) then (F_0 y252.2 x207.1).bind fun y267=>bif decide (y267.1=y252.1) then some (.ex y267.2) else some (.nx ((GAccess.mk a209 y251.1 y252.1 0 0 0 y267.1),y267.2)) else some (.nx ((GAccess.mk a209 y251.1 y252.1 0 0 0 0),y252.2))) fun o=>o.elim (fun j260=>chk (room (x207.2.1.length+[j260.1].length) 56) (some (x207.1,(x207.2.1++[j260.1]),j260.2))) (fun r268=>some (x207.1,x207.2.1,r268))
noncomputable def F_25 (t_:GTape) (d_:GDirectory):Option (GEstate×GTape) := (F_1 t_ 1 4).bind fun y2=>(F_0 y2.2 16).bind fun y122=>(F_1a y122.2 y122.1).bind fun y123=>(foldL (F_5m d_) y123.1 0 (y2.1,[],y123.2)).bind fun x269=>some ((GEstate.mk x269.1 x269.2.1),x269.2.2)
@[irreducible] def mc_8g:MC := (.cond (.t 50) (.reg [oV 0 53,mo (.call (.f 12) [(.t 53),(cI 3)] [1000] []) 54,oF 5 8 55,⟨.st 1 (.t 55) (.t 54),none,none⟩]) (sR [bC .eql 31 7 57,oV 57 56] (.cond (.t 56) (sR [oV 0 58,oF 0 5 59,oL 59 60,mo (.call (.f 12) [(.t 58),(.t 60)] [1000] []) 61,oF 6 8 62,⟨.st 1 (.t 62) (.t 61),none,none⟩] (.seq (.note (.gc [0,3,4,5,8,15,16,17]) (.reg [oF 6 8 63,oL 63 64,oF 2 8 65,oL 65 66,bT .eql 64 66 67])) (.cond (.t 67) (.exit 1) .skip))) .skip)))
@[irreducible] def mc_8h:MC := (.cond (.t 32) (.reg [oV 0 35,oF 0 3 36,oL 36 37,lE 37 38,aI 38 1 39,mo (.call (.f 12) [(.t 35),(.t 39)] [1000] []) 40,oF 3 8 41,⟨.st 1 (.t 41) (.t 40),none,none⟩]) (sR [bC .eql 31 3 43,oV 43 42] (.cond (.t 42) (.reg [oV 7 44,aI 44 1 45,oV 0 46,mo (.call (.f 12) [(.t 46),(cI 5)] [1000] []) 47,mo (.bin true .add (.t 45) (.t 47)) 48,oF 4 8 49,⟨.st 1 (.t 49) (.t 48),none,none⟩]) (.cut (sR [bC .eql 31 5 51,oV 51 50] (.cond (.t 50) .skip (.reg [bC .eql 31 6 52,oV 52 50]))) mc_8g))))
@[irreducible] def mc_8i:MC := (.reg [oF 1 5 68,oL 68 69,lN 7 8 70,mo (.bslice 7 [(.t 70)]) 71,ap 7 56 69 71 72,oF 1 5 73,⟨.st 1 (.t 73) (.t 72),none,none⟩])
@[irreducible] def mc_5m:MC := (sR [bT .lss 17 16 18] (.seq (.cond (.t 18) .skip (.exit 0)) (.seq (.block 1 (sR [iA 1 15 17 19,oL 19 20,oV 20 7] (.seq (.regD [oV 7 21,oV 0 22,mo (.lsl 1 [(cI 1),(cI 1),(cI 2),(cI 3),(cI 4),(cI 5),(cI 5),(cI 6),(cI 7),(cI 7)]) 23,mo (.call (.f 36) [(.t 22),(.t 23)] [1000] []) 24,oV 0 25,oF 0 5 26,oL 26 27,mo (.call (.f 12) [(.t 25),(.t 27)] [1000] []) 28,mo (.build [(.int .i64 0),(.int .i64 0),(.int .i64 0),(.int .i64 0),(.int .i64 0),(.int .i64 0),(.int .i64 0)] [(0,1,(.t 21)),(1,1,(.t 24)),(2,1,(.t 28))]) 29,mo (.alloc [(.int .i64 0),(.int .i64 0),(.int .i64 0),(.int .i64 0),(.int .i64 0),(.int .i64 0),(.int .i64 0)]) 8,⟨.st 7 (.t 8) (.t 29),none,none⟩] [[],[],[],[1,2],[],[],[5],[4,6,3],[0,3,7],[],[9,8,7,0,1,2,3,4,5,6,7,8,9]] [[],[],[],[1,2],[],[],[5],[1,2,3,4,5,6],[0,1,2,3,4,5,6,7],[],[0,1,2,3,4,5,6,7,8,9]]) (.cut (sR [oF 1 8 30,oL 30 31] (.block 2 (.cut (sR [bC .eql 31 1 33,oV 33 32] (.cond (.t 32) .skip (.reg [bC .eql 31 2 34,oV 34 32]))) mc_8h))) mc_8i)))) (.reg [aI 17 1 74,oV 74 17]))))
def mc_25:MC := (sR [bx 1 3,mo (.alloc [(.int .i64 0),(.sl [])]) 4] (sR [oV 0 9,mo (.call (.f 35) [(.t 9),(cI 1),(cI 4)] [1000] []) 10,mo (.build [(.int .i64 0),.nils] [(0,1,(.t 10))]) 11,mo (.alloc [(.int .i64 0),(.sl [])]) 5,⟨.st 2 (.t 5) (.t 11),none,none⟩] (.seq (sR [oV 0 12,oV 0 13,mo (.call (.f 12) [(.t 13),(cI 16)] [1000] []) 14,mo (.call (.f 57) [(.t 12),(.t 14)] [1000] []) 15,lE 15 16,oC 0 17] (.block 0 (.loop mc_5m))) (sR [lN 2 5 75,⟨.st 2 (.t 4) (.t 75),none,none⟩] .ret))))
attribute [go_sem] F_5m
instance:LI mc_8g 0 0 [0,3,4,5,8,15,16,17,31] [8,5,4081,4,3,1000] (fun y:Bool=>[(50,.bool y)]) (fun y=>[]) []:=⟨⟩
instance:LI mc_8h 0 0 [0,3,4,5,7,8,15,16,17,31] [8,5,4081,4,3,1000] (fun y:Bool=>[(32,.bool y)]) (fun y=>[]) []:=⟨⟩
instance:LI mc_8i 0 0 [0,3,4,5,8,15,16,17] [5,4081,4,3] (fun y:GAccess×GTape=>[]) (fun y=>[.o 8 (.cells [.int .i64 y.1.Time,.int .i64 y.1.Kind,.int .i64 y.1.Place,.int .i64 y.1.Principal,.int .i64 y.1.Until,.int .i64 y.1.Content,.int .i64 y.1.From]),.o 1000 (.cells [.sl (y.2.L.map (V.int .i64)),.int .i64 y.2.at_])]) []:=⟨⟩
instance:LI mc_5m 17 16 [0,3,4,5,15,16] [4,3] (fun y:Int×(List GAccess)×GTape=>[]) (fun y=>[.o 5 (.cells [.int .i64 y.1,.osl 4081 7 0 y.2.1.length]),.o 4081 (.arr 7 (y.2.1.map GAccess.v)),.o 1000 (.cells [.sl (y.2.2.L.map (V.int .i64)),.int .i64 y.2.2.at_])]) [.gc [0,3,4,5,15,16,17],.ownC 5 1 4081 7 none]:=⟨⟩
instance Wq_25 {t_:GTape} {d_:GDirectory}:WI (F_25 t_ d_) Tryz.prog 28 [.ptr 1000 0,GDirectory.v d_] [(1000,.cells [.sl (t_.L.map (V.int .i64)),.int .i64 t_.at_])] (fun z=>GEstate.v z.1) (fun z=>[(1000,.cells [.sl (z.2.L.map (V.int .i64)),.int .i64 z.2.at_])]):=⟨fun Q Q' h hQ=>by
 refine acallM mc_25 [.fzc 4] [1000] [.c 4 (some 2)] Tryz.func28 fun M=>?_
 unfold F_25 at h
 unfold mc_25
 exact tX⟩
def F_3x (t_:GTape) (r_:GRegistry):Option (GCredential×GTape) := (F_0 t_ 20).bind fun y2=>(F_0 y2.2 (r_.Issuers.length:Int)).bind fun y7=>(F_0 y7.2 5).bind fun y8=>(F_0 y8.2 3).bind fun y9=>chk (in64 (y2.1+1)) ((F_0 y9.2 12).bind fun y10=>chk (in64 ((y2.1+1)+y10.1)) (some ((GCredential.mk y7.1 (IntKind.wrap .u64 y8.1) y9.1 y2.1 ((y2.1+1)+y10.1)),y10.2)))
def mc_3x:MC := (sR [bx 1 3,mo (.alloc [(.int .i64 0),(.int .u64 0),(.int .i64 0),(.int .i64 0),(.int .i64 0)]) 4] (sR [oV 0 6,mo (.call (.f 12) [(.t 6),(cI 20)] [1000] []) 7,oV 7 5] (sR [oV 0 8,oF 0 3 9,oL 9 10,lE 10 11,mo (.call (.f 12) [(.t 8),(.t 11)] [1000] []) 12,oV 0 13,mo (.call (.f 12) [(.t 13),(cI 5)] [1000] []) 14,mo (.i2i false .u64 (.t 14)) 15,oV 0 16,mo (.call (.f 12) [(.t 16),(cI 3)] [1000] []) 17,oV 5 18,oV 5 19,aI 19 1 20,oV 0 21,mo (.call (.f 12) [(.t 21),(cI 12)] [1000] []) 22,mo (.bin true .add (.t 20) (.t 22)) 23,mo (.build [(.int .i64 0),(.int .u64 0),(.int .i64 0),(.int .i64 0),(.int .i64 0)] [(0,1,(.t 12)),(1,1,(.t 15)),(2,1,(.t 17)),(3,1,(.t 18)),(4,1,(.t 23))]) 24,⟨.st 5 (.t 4) (.t 24),none,none⟩] .ret)))
instance Wq_3x {t_:GTape} {r_:GRegistry}:WI (F_3x t_ r_) Tryz.prog 59 [.ptr 1000 0,GRegistry.v r_] [(1000,.cells [.sl (t_.L.map (V.int .i64)),.int .i64 t_.at_])] (fun z=>GCredential.v z.1) (fun z=>[(1000,.cells [.sl (z.2.L.map (V.int .i64)),.int .i64 z.2.at_])]):=⟨fun Q Q' h hQ=>by
 refine acallM mc_3x [] [1000] [.c 4 (some 5)] Tryz.func59 fun M=>?_
 unfold F_3x at h
 unfold mc_3x
 exact tX⟩
def F_t (x_:Int) (low_:Int) (high_:Int):Option Bool := grp ((decide (low_≤x_)&&decide (x_≤high_))) fun b2=>some b2
@[irreducible] def mg_8j:List MOp:=[tV 10 11 0,tV 10 12 2,gT 10 13 (.bin false .leq (.t 11) (.t 12)),pA 10 13 14]
def mc_t:MC := (sR [mF 6] (.seq (.regI [.op (oV 0 7),.op (oV 1 8),.op (bT .geq 7 8 9),.op (oV 9 10),.grp mg_8j,.op (oV 14 6)]) .ret))
instance:GV mg_8j 14 [11,12,13]:=⟨⟩
instance Wq_t {x_ low_ high_:Int}:WI (F_t x_ low_ high_) Tryz.prog 99 [.int .i64 x_,.int .i64 low_,.int .i64 high_] [] (fun z=>.bool z) (fun z=>[]):=⟨fun Q Q' h hQ=>by
 refine acallM mc_t [] [] [.t 6] Tryz.func99 fun M=>?_
 unfold F_t at h
 unfold mc_t
 exact tX⟩
noncomputable def F_4z (s_:Str) (x13:Int):Option (Fl Int (Sum Unit Bool)) := bif decide (x13<(s_.length:Int)) then chk (inb x13 s_.length) (bif decide (((s_.getD (x13).toNat 0).toNat:Int)<97) then some (.ex (.inr false)) else chk (inb x13 s_.length) (bif decide (122<((s_.getD (x13).toNat 0).toNat:Int)) then some (.ex (.inr false)) else chk (in64 (x13+1)) (some (.nx (x13+1))))) else some (.ex (.inl ()))
noncomputable def F_26 (s_:Str):Option Bool := (F_t (s_.length:Int) 1 40).bind fun y4=>bif (!y4) then some false else (loop (F_4z s_) 0).bind fun r14=>Sum.elim (fun u15=>some true) (fun u16=>some u16) r14
@[irreducible] def mc_4z:MC := (.seq (sR [oV 3 8,oV 0 9,mo (.len true (.t 9)) 10,bT .lss 8 10 11] (.cond (.t 11) .skip (.exit 0))) (.seq (.block 1 (sR [oV 0 14,oV 3 15,mo (.idx (.t 14) (.t 15)) 16,mo (.bin false .lss (.t 16) (.c (.int .u8 97))) 17,oV 17 18,fV 18 19 0,fV 18 20 3,gF 18 21 (.idx (.t 19) (.t 20)),gF 18 22 (.bin false .gtr (.t 21) (.c (.int .u8 122))),pO 18 22 23] (.cond (.t 23) (sR [mF 2] .ret) .skip))) (.note (.gc [0,3,19,20,21,22]) (.reg [oV 3 12,aI 12 1 13,oV 13 3]))))
def mc_26:MC := (sR [mF 2] (.seq (sR [oV 0 4,mo (.len true (.t 4)) 5,mo (.call (.f 99) [(.t 5),(cI 1),(cI 40)] [] []) 6,nT 6 7] (.cond (.t 7) (sR [mF 2] .ret) .skip)) (.seq (sR [oC 0 3] (.block 0 (.loop mc_4z))) (sR [mT 2] .ret))))
attribute [go_sem] F_4z
instance:LI mc_4z 0 0 [0] [] (fun y:Int=>[(3,.int .i64 y)]) (fun y=>[]) []:=⟨⟩
instance Wq_26 {s_:Str}:WI (F_26 s_) Tryz.prog 98 [.str s_] [] (fun z=>.bool z) (fun z=>[]):=⟨fun Q Q' h hQ=>by
 refine acallM mc_26 [] [] [.t 2] Tryz.func98 fun M=>?_
 unfold F_26 at h
 unfold mc_26
 exact tX⟩
def F_27 (r_:GRegistry) (c_:GCredential):Option Bool := chk (in64 ((r_.Issuers.length:Int) - 1)) ((F_t c_.Issuer 0 ((r_.Issuers.length:Int) - 1)).bind fun y7=>jn (α:=Bool) (bif y7 then (F_t c_.Holder 0 23).bind fun y9=>some y9 else some false) fun j10=>grp ((j10&&decide (0≤c_.From))) fun b11=>grp ((b11&&decide (c_.From<c_.Until))) fun b12=>grp ((b12&&decide (c_.Until≤1099511627777))) fun b13=>some b13)
@[irreducible] def mg_8k:List MOp:=[ta_ 12 13 2 3,tL 12 14 13,gT 12 15 (.call (.f 99) [(.t 14),(cI 0),(cI 23)] [] []),pA 12 15 16]
@[irreducible] def mg_8l:List MOp:=[ta_ 17 18 3 3,tL 17 19 18,gT 17 20 (.bin false .geq (.t 19) (cI 0)),pA 17 20 21]
@[irreducible] def mg_8m:List MOp:=[ta_ 22 23 3 3,tL 22 24 23,ta_ 22 25 4 3,tL 22 26 25,gT 22 27 (.bin false .lss (.t 24) (.t 26)),pA 22 27 28]
@[irreducible] def mg_8n:List MOp:=[ta_ 29 30 4 3,tL 29 31 30,gT 29 32 (.bin false .leq (.t 31) (cI 1099511627777)),pA 29 32 33]
def mc_27:MC := (sR [bx 0 2,bx 1 3,mF 4] (.seq (.regI [.op (oF 0 3 5),.op (oL 5 6),.op (oF 0 2 7),.op (oL 7 8),.op (lE 8 9),.op (sI 9 1 10),.op (mo (.call (.f 99) [(.t 6),(cI 0),(.t 10)] [] []) 11),.op (oV 11 12),.grp mg_8k,.op (oV 16 17),.grp mg_8l,.op (oV 21 22),.grp mg_8m,.op (oV 28 29),.grp mg_8n,.op (oV 33 4)]) .ret))
instance:GV mg_8n 33 [30,31,32]:=⟨⟩
instance:GV mg_8m 28 [23,24,25,26,27]:=⟨⟩
instance:GV mg_8l 21 [18,19,20]:=⟨⟩
instance:GI mg_8k [3,4] [3] (fun y:Bool=>[(16,.bool y)]) (fun y=>[]):=⟨⟩
instance Wq_27 {r_:GRegistry} {c_:GCredential}:WI (F_27 r_ c_) Tryz.prog 100 [GRegistry.v r_,GCredential.v c_] [] (fun z=>.bool z) (fun z=>[]):=⟨fun Q Q' h hQ=>by
 refine acallM mc_27 [] [] [.t 4] Tryz.func100 fun M=>?_
 unfold F_27 at h
 unfold mc_27
 exact tX⟩
def F_5n (issuer_:Int) (holder_:Int) (t_:Int) (k100:Int) (a101:GCredential) (x99:List Int):Option (List Int) := grp ((decide (a101.Issuer=issuer_)&&decide (a101.Holder=holder_))) fun b123=>grp ((b123&&decide (a101.From≤t_))) fun b124=>grp ((b124&&decide (t_<a101.Until))) fun b125=>bif b125 then chk (room (x99.length+[k100].length) 8) (some (x99++[k100])) else some x99
def F_28 (r_:GRegistry) (issuer_:Int) (holder_:Int) (t_:Int):Option (List Int) := (foldL (F_5n issuer_ holder_ t_) r_.Credentials 0 []).bind fun x126=>some x126
@[irreducible] def mg_8o:List MOp:=[ta_ 24 25 2 11,tL 24 26 25,tV 24 27 2,gT 24 28 (.bin false .eql (.t 26) (.t 27)),pA 24 28 29]
@[irreducible] def mg_8p:List MOp:=[ta_ 30 31 3 11,tL 30 32 31,tV 30 33 3,gT 30 34 (.bin false .leq (.t 32) (.t 33)),pA 30 34 35]
@[irreducible] def mg_8q:List MOp:=[tV 36 37 3,ta_ 36 38 4 11,tL 36 39 38,gT 36 40 (.bin false .lss (.t 37) (.t 39)),pA 36 40 41]
@[irreducible] def mc_5n:MC := (sR [bT .lss 15 14 16] (.seq (.cond (.t 16) .skip (.exit 0)) (.seq (.block 1 (sR [oV 15 17,iA 5 13 15 18,lN 5 18 19,mo (.alloc [(.int .i64 0),(.int .u64 0),(.int .i64 0),(.int .i64 0),(.int .i64 0)]) 11,oV 17 10,⟨.st 5 (.t 11) (.t 19),none,none⟩] (.seq (.regI [.op (oF 0 11 20),.op (oL 20 21),.op (oV 1 22),.op (bT .eql 21 22 23),.op (oV 23 24),.grp mg_8o,.op (oV 29 30),.grp mg_8p,.op (oV 35 36),.grp mg_8q]) (.cond (.t 41) (.note (.gc [1,2,3,9,10,13,14,15,25,26,27,28,31,32,33,34,37,38,39,40]) (.reg [oV 9 42,oV 10 43,mo (.bslice 1 [(.t 43)]) 44,ap 1 8 42 44 45,oV 45 9])) .skip)))) (.reg [aI 15 1 46,oV 46 15]))))
def mc_28:MC := (sR [bx 0 4,mo (.mv (.c (.sl []))) 8] (sR [mo (.mv (.c .nils)) 9] (.seq (sR [oF 1 4 12,oL 12 13,lE 13 14,oC 0 15] (.block 0 (.loop mc_5n))) (sR [oV 9 47,oV 47 8] .ret))))
attribute [go_sem] F_5n
instance:GV mg_8q 41 [37,38,39,40]:=⟨⟩
instance:GV mg_8p 35 [31,32,33,34]:=⟨⟩
instance:GV mg_8o 29 [25,26,27,28]:=⟨⟩
instance:LI mc_5n 15 14 [1,2,3,13,14] [] (fun y:List Int=>[(9,.osl 2009 1 0 y.length)]) (fun y=>[.o 2009 (.arr 1 (y.map (V.int .i64)))]) [.gc [1,2,3,9,13,14,15],.acc 9 2009 1]:=⟨⟩
instance Wq_28 {r_:GRegistry} {issuer_ holder_ t_:Int}:WI (F_28 r_ issuer_ holder_ t_) Tryz.prog 101 [GRegistry.v r_,.int .i64 issuer_,.int .i64 holder_,.int .i64 t_] [] (fun z=>.sl (z.map (V.int .i64))) (fun z=>[]):=⟨fun Q Q' h hQ=>by
 refine acallM mc_28 [.fz 8] [] [.t 8] Tryz.func101 fun M=>?_
 unfold F_28 at h
 unfold mc_28
 exact tX⟩
noncomputable def F_5o (k55:Int) (a56:GIssuer) (x54:Unit):Option (Fl Unit Bool) := (F_26 a56.Name).bind fun y71=>bif (!y71) then some (.ex false) else (F_t a56.Slots 1 2).bind fun y72=>bif (!y72) then some (.ex false) else some (.nx ())
noncomputable def F_5p (r_:GRegistry) (k105:Int) (a106:GCredential) (x104:Unit):Option (Fl Unit Bool) := (F_27 r_ a106).bind fun y114=>bif (!y114) then some (.ex false) else some (.nx ())
noncomputable def F_5q (r_:GRegistry) (k147:Int) (a148:GCredential) (x146:Unit):Option (Fl Unit Bool) := (F_28 r_ a148.Issuer a148.Holder a148.From).bind fun y156=>chk (inb a148.Issuer r_.Issuers.length) (bif decide ((r_.Issuers.getD (a148.Issuer).toNat default).Slots<(y156.length:Int)) then some (.ex false) else some (.nx ()))
noncomputable def F_1b (r_:GRegistry):Option Bool := grp ((decide (8<(r_.Issuers.length:Int))||decide (24<(r_.Credentials.length:Int)))) fun b4=>bif b4 then some false else (forL F_5o r_.Issuers 0 ()).bind fun o=>o.elim (fun x73=>(forL (F_5p r_) r_.Credentials 0 ()).bind fun o=>o.elim (fun x115=>(forL (F_5q r_) r_.Credentials 0 ()).bind fun o=>o.elim (fun x157=>some true) (fun r158=>some r158)) (fun r116=>some r116)) (fun r74=>some r74)
@[irreducible] def mg_8r:List MOp:=[fa_ 13 14 1 1,fL 13 15 14,gF 13 16 (.len false (.t 15)),gF 13 17 (.bin false .gtr (.t 16) (cI 24)),pO 13 17 18]
@[irreducible] def mc_5o:MC := (sR [bT .lss 22 21 23] (.seq (.cond (.t 23) .skip (.exit 0)) (.seq (.block 1 (sR [iA 2 20 22 24,lN 2 24 25,mo (.alloc [(.str []),(.int .i64 0)]) 4,⟨.st 2 (.t 4) (.t 25),none,none⟩] (sR [oF 0 4 26,oL 26 27,k1 98 27 28,nT 28 29,oV 29 30,fa_ 30 31 1 4,fL 30 32 31,gF 30 33 (.call (.f 99) [(.t 32),(cI 1),(cI 2)] [] []),gF 30 34 (.not (.t 33)),pO 30 34 35] (.cond (.t 35) (sR [mF 2] .ret) .skip)))) (.reg [aI 22 1 36,oV 36 22]))))
@[irreducible] def mc_5p:MC := (sR [bT .lss 40 39 41] (.seq (.cond (.t 41) .skip (.exit 2)) (.seq (.block 3 (sR [iA 5 38 40 42,lN 5 42 43,mo (.alloc [(.int .i64 0),(.int .u64 0),(.int .i64 0),(.int .i64 0),(.int .i64 0)]) 6,⟨.st 5 (.t 6) (.t 43),none,none⟩] (sR [lN 2 1 44,lN 5 6 45,k2 100 44 45 46,nT 46 47] (.cond (.t 47) (sR [mF 2] .ret) .skip)))) (.reg [aI 40 1 48,oV 48 40]))))
@[irreducible] def mc_5q:MC := (sR [bT .lss 52 51 53] (.seq (.cond (.t 53) .skip (.exit 4)) (.seq (.block 5 (sR [iA 5 50 52 54,lN 5 54 55,mo (.alloc [(.int .i64 0),(.int .u64 0),(.int .i64 0),(.int .i64 0),(.int .i64 0)]) 8,⟨.st 5 (.t 8) (.t 55),none,none⟩] (.seq (.regD [lN 2 1 56,oF 0 8 57,oL 57 58,oF 2 8 59,oL 59 60,oF 3 8 61,oL 61 62,mo (.call (.f 101) [(.t 56),(.t 58),(.t 60),(.t 62)] [] []) 63,lE 63 64,oF 0 1 65,oL 65 66,oF 0 8 67,oL 67 68,iA 2 66 68 69,oF 1 69 70,oL 70 71,bT .gtr 64 71 72] [[],[],[1],[],[3],[],[5],[0,2,4,6],[7],[],[9],[],[11],[10,12],[13],[14],[8,15]] [[],[],[1],[],[3],[],[5],[0,1,2,3,4,5,6],[0,1,2,3,4,5,6,7],[],[9],[],[11],[9,10,11,12],[9,10,11,12,13],[9,10,11,12,13,14],[0,1,2,3,4,5,6,7,8,9,10,11,12,13,14,15]]) (.cond (.t 72) (sR [mF 2] .ret) .skip)))) (.reg [aI 52 1 73,oV 73 52]))))
def mc_1b:MC := (sR [bx 0 1,mF 2] (.seq (.seq (.regI [.op (oF 0 1 9),.op (oL 9 10),.op (lE 10 11),.op (bC .gtr 11 8 12),.op (oV 12 13),.grp mg_8r]) (.cond (.t 18) (sR [mF 2] .ret) .skip)) (.seq (.seq (.note (.gc [1,31,32,33,34]) (.reg [oF 0 1 19,oL 19 20,lE 20 21,oC 0 22])) (.block 0 (.loop mc_5o))) (.seq (sR [oF 1 1 37,oL 37 38,lE 38 39,oC 0 40] (.block 2 (.loop mc_5p))) (.seq (sR [oF 1 1 49,oL 49 50,lE 50 51,oC 0 52] (.block 4 (.loop mc_5q))) (sR [mT 2] .ret))))))
attribute [go_sem] F_5o F_5p F_5q
instance:LI mc_5o 22 21 [1,20,21] [1] (fun y:Unit=>[]) (fun y=>[]) []:=⟨⟩
instance:LI mc_5p 40 39 [1,38,39] [1] (fun y:Unit=>[]) (fun y=>[]) []:=⟨⟩
instance:LI mc_5q 52 51 [1,50,51] [1] (fun y:Unit=>[]) (fun y=>[]) []:=⟨⟩
instance:GV mg_8r 18 [14,15,16,17]:=⟨⟩
instance Wq_1b {r_:GRegistry}:WI (F_1b r_) Tryz.prog 54 [GRegistry.v r_] [] (fun z=>.bool z) (fun z=>[]):=⟨fun Q Q' h hQ=>by
 refine acallM mc_1b [] [] [.t 2] Tryz.func54 fun M=>?_
 unfold F_1b at h
 unfold mc_1b
 exact tX⟩
def F_29 (r_:GRegistry):Option GRegistry := chk (room r_.Issuers.length 24) (chk (room r_.Credentials.length 40) (some (GRegistry.mk r_.Issuers r_.Credentials)))
def mc_29:MC := (sR [bx 0 1,mo (.alloc [(.sl []),(.sl [])]) 2] (.seq (.regD [oF 0 1 3,oL 3 4,mo (.app 2 24 (.c .nils) (.t 4)) 5,oF 1 1 6,oL 6 7,mo (.app 5 40 (.c .nils) (.t 7)) 8,mo (.build [(.sl []),(.sl [])] [(0,1,(.t 5)),(1,1,(.t 8))]) 9,⟨.st 2 (.t 2) (.t 9),none,none⟩] [[],[0],[1],[],[3],[4,2],[2,5],[6,5,0,1,2,3,4,5,6]] [[],[0],[0,1],[],[3],[0,1,2,3,4],[0,1,2,3,4,5],[0,1,2,3,4,5,6]]) .ret))
instance Wq_29 {r_:GRegistry}:WI (F_29 r_) Tryz.prog 103 [GRegistry.v r_] [] (fun z=>.agg [.osl 1500 2 0 z.Issuers.length,.osl 1501 5 0 z.Credentials.length]) (fun z=>[(1500,.arr 2 (z.Issuers.map GIssuer.v)),(1501,.arr 5 (z.Credentials.map GCredential.v))]):=⟨fun Q Q' h hQ=>by
 refine acallM mc_29 [.ownC 2 0 1500 2 none,.ownC 2 1 1501 5 none] [1500,1501] [.c 2 (some 2)] Tryz.func103 fun M=>?_
 unfold F_29 at h
 unfold mc_29
 exact tX⟩
noncomputable def F_2a (r_:GRegistry) (c_:GCredential):Option (GRegistry×Int×Int) := (F_1b r_).bind fun y4=>bif (!y4) then some ((GRegistry.mk [] []),0,31) else bif decide (24≤(r_.Credentials.length:Int)) then some ((GRegistry.mk [] []),0,3) else (F_29 r_).bind fun y6=>chk (room (y6.Credentials.length+[c_].length) 40) ((F_1b (GRegistry.mk y6.Issuers (y6.Credentials++[c_]))).bind fun y10=>bif (!y10) then some ((GRegistry.mk [] []),0,31) else some ((GRegistry.mk y6.Issuers (y6.Credentials++[c_])),(r_.Credentials.length:Int),0))
def mc_2a:MC := (sR [bx 0 2,bx 1 3,mo (.alloc [(.sl []),(.sl [])]) 4,oC 0 5,oC 0 6] (.seq (sR [lN 2 2 8,k1 54 8 9,nT 9 10] (.cond (.t 10) (.seq (.note (.gc [4]) (.reg [mo (.build [(.sl []),(.sl [])] []) 11,⟨.st 2 (.t 4) (.t 11),none,none⟩,oC 0 5,oC 31 6])) .ret) .skip)) (.seq (sR [oF 1 2 12,oL 12 13,lE 13 14,bC .geq 14 24 15] (.cond (.t 15) (.seq (.note (.gc [4]) (.reg [mo (.build [(.sl []),(.sl [])] []) 16,⟨.st 2 (.t 4) (.t 16),none,none⟩,oC 0 5,oC 3 6])) .ret) .skip)) (.seq (.note (.gc [2,3,4]) (.reg [lN 2 2 17,mo (.call (.f 103) [(.t 17)] [] [34608,34609]) 18,mo (.alloc [(.sl []),(.sl [])]) 7,⟨.st 2 (.t 7) (.t 18),none,none⟩])) (sR [oF 1 7 19,oL 19 20,lN 5 3 21,mo (.bslice 5 [(.t 21)]) 22,ap 5 40 20 22 23,oF 1 7 24,⟨.st 1 (.t 24) (.t 23),none,none⟩] (.seq (.seq (.note (.gc [2,4,7]) (.regI [.op (lN 2 7 25),.nt (.fz 25),.op (k1 54 25 26),.op (nT 26 27)])) (.cond (.t 27) (sR [mo (.build [(.sl []),(.sl [])] []) 28,⟨.st 2 (.t 4) (.t 28),none,none⟩,oC 0 5,oC 31 6] .ret) .skip)) (.seq (.regD [lN 2 7 29,oF 1 2 30,oL 30 31,lE 31 32,⟨.st 2 (.t 4) (.t 29),none,none⟩,oV 32 5,oC 0 6] [[],[],[1],[2],[0,0],[3,4,0,1,2,3,4],[5,0,1,2,3,4,5]] [[],[],[1],[1,2],[0],[0,1,2,3,4],[0,1,2,3,4,5]]) .ret)))))))
instance Wq_2a {r_:GRegistry} {c_:GCredential}:WI (F_2a r_ c_) Tryz.prog 58 [GRegistry.v r_,GCredential.v c_] [] (fun z=>.tup [GRegistry.v z.1,.int .i64 z.2.1,.int .i64 z.2.2]) (fun z=>[]):=⟨fun Q Q' h hQ=>by
 refine acallM mc_2a [.fzc 4] [] [.c 4 (some 2),.t 5,.t 6] Tryz.func58 fun M=>?_
 unfold F_2a at h
 unfold mc_2a
 replace h:=tY h
 refine tB ?_
 repeat' (first
 | (exact tZ)
 | ((first|refine oblg h ?_|refine roomG h ?_|refine inbG h ?_|refine incG h ?_|refine divG h ?_|refine appG h ?_|refine appC h ?_|refine fork h ?_ ?_|refine forkS h ?_ ?_)<;>clear h<;>intro hc h)
 | (obtain ⟨y,hy,h⟩:=h;(first|have hw:=acall_swe 1501 34609 (acall_swe 1500 34608 (Wq_29.c.w hy))|have hw:=WI.w hy);replace hw:=tY hw;(first|refine M.sC hw ?_|refine M.sD hw ?_);clear hw hy;refine tB ?_)
 | (refine tE ?_;(first|rw [M.lok_compU]|rw [M.lokD_compU]);refine tB ?_)
 | (refine tA ?_)
 | fail)⟩
noncomputable def F_5r (x21:Int×(List GIssuer)×GTape):Option (Fl (Int×(List GIssuer)×GTape) ((List GIssuer)×GTape)) := bif decide (0<x21.1) then (F_1 x21.2.2 1 2).bind fun y25=>chk (room (x21.2.1.length+[(GIssuer.mk [105,115,115,117,101,114] y25.1)].length) 24) (chk (in64 (x21.1 - 1)) (some (.nx ((x21.1 - 1),(x21.2.1++[(GIssuer.mk [105,115,115,117,101,114] y25.1)]),y25.2)))) else some (.ex (x21.2.1,x21.2.2))
noncomputable def F_5s (x62:Int×GRegistry×GTape):Option (Fl (Int×GRegistry×GTape) (GRegistry×GTape)) := bif decide (0<x62.1) then jn (α:=GRegistry×GTape) ((F_3x x62.2.2 x62.2.1).bind fun y75=>(F_2a x62.2.1 y75.1).bind fun y76=>bif decide (y76.2.2=0) then some (y76.1,y75.2) else some (x62.2.1,y75.2)) fun j72=>chk (in64 (x62.1 - 1)) (some (.nx ((x62.1 - 1),j72.1,j72.2))) else some (.ex (x62.2.1,x62.2.2))
noncomputable def F_2b (t_:GTape):Option (GRegistry×GTape) := (F_1 t_ 1 2).bind fun y14=>(loop F_5r (y14.1,[],y14.2)).bind fun r26=>(F_0 r26.2 8).bind fun y49=>(loop F_5s (y49.1,(GRegistry.mk r26.1 []),y49.2)).bind fun r77=>some (r77.1,r77.2)
@[irreducible] def mc_5r:MC := (.seq (sR [oV 4 12,bC .gtr 12 0 13] (.cond (.t 13) .skip (.exit 0))) (.seq (.block 1 (.regD [oF 0 3 16,oL 16 17,oV 0 18,mo (.call (.f 35) [(.t 18),(cI 1),(cI 2)] [1000] []) 19,mo (.build [(.str []),(.int .i64 0)] [(0,1,(.c (.str [105,115,115,117,101,114]))),(1,1,(.t 19))]) 20,mo (.bslice 2 [(.t 20)]) 21,ap 2 24 17 21 22,oF 0 3 23,⟨.st 1 (.t 23) (.t 22),none,none⟩] [[],[0],[],[2],[3],[4],[1,5,3],[0,1,2,3,4,5,6],[7,6,6,0,1,2,3,4,5,6]] [[],[0],[],[2],[2,3],[2,3,4],[0,1,2,3,4,5],[0,1,2,3,4,5,6],[0,1,2,3,4,5,6,7]])) (.note (.gc [0,2,3,4]) (.reg [oV 4 14,sI 14 1 15,oV 15 4]))))
@[irreducible] def mc_8s:MC := (.reg [oV 5 28,sI 28 1 29,oV 29 5])
@[irreducible] def mc_5s:MC := (.seq (sR [oV 5 26,bC .gtr 26 0 27] (.cond (.t 27) .skip (.exit 2))) (.cut (.block 3 (.seq (.note (.fzc 3) (.regD [lN 2 3 31,oV 0 32,lN 2 3 33,mo (.call (.f 59) [(.t 32),(.t 33)] [1000] []) 34,k2 58 31 34 35,oV 35 30,xT 0 30 36,xT 1 30 37,xT 2 30 38,mo (.alloc [(.sl []),(.sl [])]) 6,⟨.st 2 (.t 6) (.t 36),none,none⟩,oV 37 7,oV 38 8] [[],[],[],[1,2],[0,3,3],[4],[5],[5],[5],[],[9,6,4,0,1,2,3,4,5,6,9],[7,10,0,1,2,3,4,5,6,7,9,10],[8,11,0,1,2,3,4,5,6,7,8,9,10,11]] [[],[],[],[1,2],[0,1,2,3],[0,1,2,3,4],[0,1,2,3,4,5],[0,1,2,3,4,5],[0,1,2,3,4,5],[],[0,1,2,3,4,5,6,9],[0,1,2,3,4,5,6,7,9,10],[0,1,2,3,4,5,6,7,8,9,10,11]])) (sR [oV 8 39,bC .eql 39 0 40] (.cond (.t 40) (.reg [lN 2 6 41,⟨.st 2 (.t 3) (.t 41),none,none⟩]) .skip)))) mc_8s))
def mc_2b:MC := (sR [mo (.alloc [(.sl []),(.sl [])]) 2] (sR [mo (.build [.nils,.nils] []) 9,mo (.alloc [(.sl []),(.sl [])]) 3,⟨.st 2 (.t 3) (.t 9),none,none⟩] (.seq (sR [oV 0 10,mo (.call (.f 35) [(.t 10),(cI 1),(cI 2)] [1000] []) 11,oV 11 4] (.block 0 (.loop mc_5r))) (.seq (sR [oV 0 24,mo (.call (.f 12) [(.t 24),(cI 8)] [1000] []) 25,oV 25 5] (.block 2 (.loop mc_5s))) (sR [lN 2 3 42,⟨.st 2 (.t 2) (.t 42),none,none⟩] .ret)))))
attribute [go_sem] F_5r F_5s
instance:LI mc_5r 0 0 [0,2,3] [3,2] (fun y:Int×(List GIssuer)×GTape=>[(4,.int .i64 y.1)]) (fun y=>[.p 3 0 [.osl 4048 2 0 y.2.1.length],.o 4048 (.arr 2 (y.2.1.map GIssuer.v)),.o 1000 (.cells [.sl (y.2.2.L.map (V.int .i64)),.int .i64 y.2.2.at_])]) [.gc [0,2,3,4],.ownC 3 0 4048 2 none]:=⟨⟩
instance:LI mc_8s 0 0 [0,2,3,5] [2] (fun y:GRegistry×GTape=>[]) (fun y=>[.o 3 (.cells [.sl (y.1.Issuers.map GIssuer.v),.sl (y.1.Credentials.map GCredential.v)]),.o 1000 (.cells [.sl (y.2.L.map (V.int .i64)),.int .i64 y.2.at_])]) []:=⟨⟩
instance:LI mc_5s 0 0 [0,2,3] [2] (fun y:Int×GRegistry×GTape=>[(5,.int .i64 y.1)]) (fun y=>[.o 3 (.cells [.sl (y.2.1.Issuers.map GIssuer.v),.sl (y.2.1.Credentials.map GCredential.v)]),.o 1000 (.cells [.sl (y.2.2.L.map (V.int .i64)),.int .i64 y.2.2.at_])]) [.fzc 3]:=⟨⟩
instance Wq_2b {t_:GTape}:WI (F_2b t_) Tryz.prog 29 [.ptr 1000 0] [(1000,.cells [.sl (t_.L.map (V.int .i64)),.int .i64 t_.at_])] (fun z=>GRegistry.v z.1) (fun z=>[(1000,.cells [.sl (z.2.L.map (V.int .i64)),.int .i64 z.2.at_])]):=⟨fun Q Q' h hQ=>by
 refine acallM mc_2b [.fzc 2] [1000] [.c 2 (some 2)] Tryz.func29 fun M=>?_
 unfold F_2b at h
 unfold mc_2b
 exact tX⟩
noncomputable def F_5t (x45:Int×Int×Int×(List GGrant)×GTape):Option (Fl (Int×Int×Int×(List GGrant)×GTape) (Int×Int×(List GGrant)×GTape)) := bif decide (0<x45.1) then (F_0 x45.2.2.2.2 x45.2.1).bind fun y55=>(F_0 y55.2 x45.2.2.1).bind fun y56=>(F_1 y56.2 1 3).bind fun y57=>chk (room (x45.2.2.2.1.length+[(GGrant.mk y55.1 y56.1 y57.1)].length) 24) (chk (in64 (x45.1 - 1)) (some (.nx ((x45.1 - 1),x45.2.1,x45.2.2.1,(x45.2.2.2.1++[(GGrant.mk y55.1 y56.1 y57.1)]),y57.2)))) else some (.ex (x45.2.1,x45.2.2.1,x45.2.2.2.1,x45.2.2.2.2))
noncomputable def F_5u (x89:Int×Int×Int×(List GStore)×GTape):Option (Fl (Int×Int×Int×(List GStore)×GTape) (Int×Int×(List GStore)×GTape)) := bif decide (0<x89.1) then (F_0 x89.2.2.2.2 x89.2.2.1).bind fun y96=>(F_0 y96.2 x89.2.1).bind fun y97=>chk (room (x89.2.2.2.1.length+[(GStore.mk y96.1 y97.1)].length) 16) (chk (in64 (x89.1 - 1)) (some (.nx ((x89.1 - 1),x89.2.1,x89.2.2.1,(x89.2.2.2.1++[(GStore.mk y96.1 y97.1)]),y97.2)))) else some (.ex (x89.2.1,x89.2.2.1,x89.2.2.2.1,x89.2.2.2.2))
noncomputable def F_5v (x129:Int×Int×Int×(List GMint)×GTape):Option (Fl (Int×Int×Int×(List GMint)×GTape) (Int×Int×(List GMint)×GTape)) := bif decide (0<x129.1) then (F_0 x129.2.2.2.2 x129.2.1).bind fun y136=>(F_0 y136.2 x129.2.1).bind fun y137=>chk (room (x129.2.2.2.1.length+[(GMint.mk y136.1 y137.1)].length) 16) (chk (in64 (x129.1 - 1)) (some (.nx ((x129.1 - 1),x129.2.1,x129.2.2.1,(x129.2.2.2.1++[(GMint.mk y136.1 y137.1)]),y137.2)))) else some (.ex (x129.2.1,x129.2.2.1,x129.2.2.2.1,x129.2.2.2.2))
noncomputable def F_1c (t_:GTape):Option (GRights×GTape) := (F_1 t_ 1 6).bind fun y3=>(F_1 y3.2 1 5).bind fun y4=>(F_0 y4.2 8).bind fun y30=>(loop F_5t (y30.1,y3.1,y4.1,[],y30.2)).bind fun r58=>(F_0 r58.2.2.2 5).bind fun y78=>(loop F_5u (y78.1,r58.1,r58.2.1,[],y78.2)).bind fun r98=>(F_0 r98.2.2.2 4).bind fun y118=>(loop F_5v (y118.1,r98.1,r98.2.1,[],y118.2)).bind fun r138=>some ((GRights.mk r138.1 r138.2.1 r58.2.2.1 r98.2.2.1 r138.2.2.1),r138.2.2.2)
@[irreducible] def mc_5t:MC := (.seq (sR [oV 4 14,bC .gtr 14 0 15] (.cond (.t 15) .skip (.exit 0))) (.seq (.block 1 (.regD [oF 2 3 18,oL 18 19,oV 0 20,oF 0 3 21,oL 21 22,mo (.call (.f 12) [(.t 20),(.t 22)] [1000] []) 23,oV 0 24,oF 1 3 25,oL 25 26,mo (.call (.f 12) [(.t 24),(.t 26)] [1000] []) 27,oV 0 28,mo (.call (.f 35) [(.t 28),(cI 1),(cI 3)] [1000] []) 29,mo (.build [(.int .i64 0),(.int .i64 0),(.int .i64 0)] [(0,1,(.t 23)),(1,1,(.t 27)),(2,1,(.t 29))]) 30,mo (.bslice 3 [(.t 30)]) 31,ap 3 24 19 31 32,oF 2 3 33,⟨.st 1 (.t 33) (.t 32),none,none⟩] [[],[0],[],[],[3],[2,4],[],[],[7],[6,8,5],[],[10,9],[5,9,11],[12],[1,13,11],[0,1,2,3,4,5,6,7,8,9,10,11,12,13,14],[15,14,14,0,1,2,3,4,5,6,7,8,9,10,11,12,13,14]] [[],[0],[],[],[3],[2,3,4],[],[],[7],[2,3,4,5,6,7,8],[],[2,3,4,5,6,7,8,9,10],[2,3,4,5,6,7,8,9,10,11],[2,3,4,5,6,7,8,9,10,11,12],[0,1,2,3,4,5,6,7,8,9,10,11,12,13],[0,1,2,3,4,5,6,7,8,9,10,11,12,13,14],[0,1,2,3,4,5,6,7,8,9,10,11,12,13,14,15]])) (.note (.gc [0,2,3,4]) (.reg [oV 4 16,sI 16 1 17,oV 17 4]))))
@[irreducible] def mc_5u:MC := (.seq (sR [oV 5 36,bC .gtr 36 0 37] (.cond (.t 37) .skip (.exit 2))) (.seq (.block 3 (.regD [oF 3 3 40,oL 40 41,oV 0 42,oF 1 3 43,oL 43 44,mo (.call (.f 12) [(.t 42),(.t 44)] [1000] []) 45,oV 0 46,oF 0 3 47,oL 47 48,mo (.call (.f 12) [(.t 46),(.t 48)] [1000] []) 49,mo (.build [(.int .i64 0),(.int .i64 0)] [(0,1,(.t 45)),(1,1,(.t 49))]) 50,mo (.bslice 2 [(.t 50)]) 51,ap 2 16 41 51 52,oF 3 3 53,⟨.st 1 (.t 53) (.t 52),none,none⟩] [[],[0],[],[],[3],[2,4],[],[],[7],[6,8,5],[5,9],[10],[1,11,9],[0,1,2,3,4,5,6,7,8,9,10,11,12],[13,12,12,0,1,2,3,4,5,6,7,8,9,10,11,12]] [[],[0],[],[],[3],[2,3,4],[],[],[7],[2,3,4,5,6,7,8],[2,3,4,5,6,7,8,9],[2,3,4,5,6,7,8,9,10],[0,1,2,3,4,5,6,7,8,9,10,11],[0,1,2,3,4,5,6,7,8,9,10,11,12],[0,1,2,3,4,5,6,7,8,9,10,11,12,13]])) (.note (.gc [0,2,3,5]) (.reg [oV 5 38,sI 38 1 39,oV 39 5]))))
@[irreducible] def mc_5v:MC := (.seq (sR [oV 6 56,bC .gtr 56 0 57] (.cond (.t 57) .skip (.exit 4))) (.seq (.block 5 (.regD [oF 4 3 60,oL 60 61,oV 0 62,oF 0 3 63,oL 63 64,mo (.call (.f 12) [(.t 62),(.t 64)] [1000] []) 65,oV 0 66,oF 0 3 67,oL 67 68,mo (.call (.f 12) [(.t 66),(.t 68)] [1000] []) 69,mo (.build [(.int .i64 0),(.int .i64 0)] [(0,1,(.t 65)),(1,1,(.t 69))]) 70,mo (.bslice 2 [(.t 70)]) 71,ap 2 16 61 71 72,oF 4 3 73,⟨.st 1 (.t 73) (.t 72),none,none⟩] [[],[0],[],[],[3],[2,4],[],[],[7],[6,8,5],[5,9],[10],[1,11,9],[0,1,2,3,4,5,6,7,8,9,10,11,12],[13,12,12,0,1,2,3,4,5,6,7,8,9,10,11,12]] [[],[0],[],[],[3],[2,3,4],[],[],[7],[2,3,4,5,6,7,8],[2,3,4,5,6,7,8,9],[2,3,4,5,6,7,8,9,10],[0,1,2,3,4,5,6,7,8,9,10,11],[0,1,2,3,4,5,6,7,8,9,10,11,12],[0,1,2,3,4,5,6,7,8,9,10,11,12,13]])) (.note (.gc [0,2,3,6]) (.reg [oV 6 58,sI 58 1 59,oV 59 6]))))
def mc_1c:MC := (sR [mo (.alloc [(.int .i64 0),(.int .i64 0),(.sl []),(.sl []),(.sl [])]) 2] (sR [oV 0 7,mo (.call (.f 35) [(.t 7),(cI 1),(cI 6)] [1000] []) 8,oV 0 9,mo (.call (.f 35) [(.t 9),(cI 1),(cI 5)] [1000] []) 10,mo (.build [(.int .i64 0),(.int .i64 0),.nils,.nils,.nils] [(0,1,(.t 8)),(1,1,(.t 10))]) 11,mo (.alloc [(.int .i64 0),(.int .i64 0),(.sl []),(.sl []),(.sl [])]) 3,⟨.st 5 (.t 3) (.t 11),none,none⟩] (.seq (sR [oV 0 12,mo (.call (.f 12) [(.t 12),(cI 8)] [1000] []) 13,oV 13 4] (.block 0 (.loop mc_5t))) (.seq (sR [oV 0 34,mo (.call (.f 12) [(.t 34),(cI 5)] [1000] []) 35,oV 35 5] (.block 2 (.loop mc_5u))) (.seq (sR [oV 0 54,mo (.call (.f 12) [(.t 54),(cI 4)] [1000] []) 55,oV 55 6] (.block 4 (.loop mc_5v))) (sR [lN 5 3 74,⟨.st 5 (.t 2) (.t 74),none,none⟩] .ret))))))
attribute [go_sem] F_5t F_5u F_5v
instance:LI mc_5t 0 0 [0,2,3] [3,2] (fun y:Int×Int×Int×(List GGrant)×GTape=>[(4,.int .i64 y.1)]) (fun y=>[.p 3 0 [.int .i64 y.2.1],.p 3 1 [.int .i64 y.2.2.1],.p 3 2 [.osl 4050 3 0 y.2.2.2.1.length],.o 4050 (.arr 3 (y.2.2.2.1.map GGrant.v)),.o 1000 (.cells [.sl (y.2.2.2.2.L.map (V.int .i64)),.int .i64 y.2.2.2.2.at_])]) [.gc [0,2,3,4],.ownC 3 2 4050 3 none]:=⟨⟩
instance:LI mc_5u 0 0 [0,2,3] [3,4050,2] (fun y:Int×Int×Int×(List GStore)×GTape=>[(5,.int .i64 y.1)]) (fun y=>[.p 3 0 [.int .i64 y.2.1],.p 3 1 [.int .i64 y.2.2.1],.p 3 3 [.osl 4051 2 0 y.2.2.2.1.length],.o 4051 (.arr 2 (y.2.2.2.1.map GStore.v)),.o 1000 (.cells [.sl (y.2.2.2.2.L.map (V.int .i64)),.int .i64 y.2.2.2.2.at_])]) [.gc [0,2,3,5],.ownC 3 3 4051 2 none]:=⟨⟩
instance:LI mc_5v 0 0 [0,2,3] [3,4050,4051,2] (fun y:Int×Int×Int×(List GMint)×GTape=>[(6,.int .i64 y.1)]) (fun y=>[.p 3 0 [.int .i64 y.2.1],.p 3 1 [.int .i64 y.2.2.1],.p 3 4 [.osl 4052 2 0 y.2.2.2.1.length],.o 4052 (.arr 2 (y.2.2.2.1.map GMint.v)),.o 1000 (.cells [.sl (y.2.2.2.2.L.map (V.int .i64)),.int .i64 y.2.2.2.2.at_])]) [.gc [0,2,3,6],.ownC 3 4 4052 2 none]:=⟨⟩
instance Wq_1c {t_:GTape}:WI (F_1c t_) Tryz.prog 30 [.ptr 1000 0] [(1000,.cells [.sl (t_.L.map (V.int .i64)),.int .i64 t_.at_])] (fun z=>GRights.v z.1) (fun z=>[(1000,.cells [.sl (z.2.L.map (V.int .i64)),.int .i64 z.2.at_])]):=⟨fun Q Q' h hQ=>by
 refine acallM mc_1c [.fzc 2] [1000] [.c 2 (some 5)] Tryz.func30 fun M=>?_
 unfold F_1c at h
 unfold mc_1c
 exact tX⟩
noncomputable def F_5w (n_:Int) (x17:Int×(List Int)×GTape):Option (Fl (Int×(List Int)×GTape) ((List Int)×GTape)) := bif decide (x17.1<n_) then (F_b x17.2.2 [0,1,10,50,100]).bind fun y21=>chk (room (x17.2.1.length+[y21.1].length) 8) (chk (in64 (x17.1+1)) (some (.nx ((x17.1+1),(x17.2.1++[y21.1]),y21.2)))) else some (.ex (x17.2.1,x17.2.2))
noncomputable def F_2c (t_:GTape) (n_:Int):Option ((List Int)×GTape) := (loop (F_5w n_) (0,[],t_)).bind fun r22=>some (r22.1,r22.2)
@[irreducible] def mc_5w:MC := (.seq (sR [oV 6 7,oV 1 8,bT .lss 7 8 9] (.cond (.t 9) .skip (.exit 0))) (.seq (.block 1 (.reg [oV 5 12,oV 0 13,mo (.lsl 1 [(cI 0),(cI 1),(cI 10),(cI 50),(cI 100)]) 14,mo (.call (.f 36) [(.t 13),(.t 14)] [1000] []) 15,mo (.bslice 1 [(.t 15)]) 16,ap 1 8 12 16 17,oV 17 5])) (.note (.gc [0,1,5,6]) (.reg [oV 6 10,aI 10 1 11,oV 11 6]))))
def mc_2c:MC := (sR [mo (.mv (.c (.sl []))) 4] (sR [mo (.mv (.c .nils)) 5] (.seq (sR [oC 0 6] (.block 0 (.loop mc_5w))) (sR [oV 5 18,oV 18 4] .ret))))
attribute [go_sem] F_5w
instance:LI mc_5w 0 0 [0,1] [] (fun y:Int×(List Int)×GTape=>[(5,.osl 2005 1 0 y.2.1.length),(6,.int .i64 y.1)]) (fun y=>[.o 2005 (.arr 1 (y.2.1.map (V.int .i64))),.o 1000 (.cells [.sl (y.2.2.L.map (V.int .i64)),.int .i64 y.2.2.at_])]) [.gc [0,1,5,6],.acc 5 2005 1]:=⟨⟩
instance Wq_2c {t_:GTape} {n_:Int}:WI (F_2c t_ n_) Tryz.prog 31 [.ptr 1000 0,.int .i64 n_] [(1000,.cells [.sl (t_.L.map (V.int .i64)),.int .i64 t_.at_])] (fun z=>.sl (z.1.map (V.int .i64))) (fun z=>[(1000,.cells [.sl (z.2.L.map (V.int .i64)),.int .i64 z.2.at_])]):=⟨fun Q Q' h hQ=>by
 refine acallM mc_2c [.fz 4] [1000] [.t 4] Tryz.func31 fun M=>?_
 unfold F_2c at h
 unfold mc_2c
 exact tX⟩
end Go.Ab
set_option maxRecDepth 20000
set_option maxHeartbeats 2000000
namespace Go.Ab
open Go.Proofs
def F_c (x_:Int) (low_:Int) (high_:Int):Option Bool := grp ((decide (low_≤x_)&&decide (x_≤high_))) fun b2=>some b2
@[irreducible] def mg_8t:List MOp:=[tV 10 11 0,tV 10 12 2,gT 10 13 (.bin false .leq (.t 11) (.t 12)),pA 10 13 14]
def mc_c:MC := (sR [mF 6] (.seq (.regI [.op (oV 0 7),.op (oV 1 8),.op (bT .geq 7 8 9),.op (oV 9 10),.grp mg_8t,.op (oV 14 6)]) .ret))
instance:GV mg_8t 14 [11,12,13]:=⟨⟩
instance Wq_c {x_ low_ high_:Int}:WI (F_c x_ low_ high_) Tryz.prog 87 [.int .i64 x_,.int .i64 low_,.int .i64 high_] [] (fun z=>.bool z) (fun z=>[]):=⟨fun Q Q' h hQ=>by
 refine acallM mc_c [] [] [.t 6] Tryz.func87 fun M=>?_
 unfold F_c at h
 unfold mc_c
 exact tX⟩
def F_5x (k39:Int) (a40:GConsumer) (x38:Unit):Option (Fl Unit Bool) := (F_c a40.Pool 0 7).bind fun y48=>bif (!y48) then some (.ex false) else some (.nx ())
def F_u (f_:GFleet):Option Bool := (F_c f_.Slots 1 2).bind fun y7=>bif (!y7) then some false else (F_c (f_.Consumers.length:Int) 1 8).bind fun y8=>bif (!y8) then some false else (forL F_5x f_.Consumers 0 ()).bind fun o=>o.elim (fun x49=>some true) (fun r50=>some r50)
@[irreducible] def mc_5x:MC := (sR [bT .lss 19 18 20] (.seq (.cond (.t 20) .skip (.exit 0)) (.seq (.block 1 (sR [iA 3 17 19 21,lN 3 21 22,mo (.alloc [(.int .i64 0),(.bool false),(.bool false)]) 4,⟨.st 3 (.t 4) (.t 22),none,none⟩] (sR [oF 0 4 23,oL 23 24,mo (.call (.f 87) [(.t 24),(cI 0),(cI 7)] [] []) 25,nT 25 26] (.cond (.t 26) (sR [mF 2] .ret) .skip)))) (.reg [aI 19 1 27,oV 27 19]))))
def mc_u:MC := (sR [bx 0 1,mF 2] (.seq (sR [oF 0 1 5,oL 5 6,mo (.call (.f 87) [(.t 6),(cI 1),(cI 2)] [] []) 7,nT 7 8,oV 8 9,fa_ 9 10 1 1,fL 9 11 10,gF 9 12 (.len false (.t 11)),gF 9 13 (.call (.f 87) [(.t 12),(cI 1),(cI 8)] [] []),gF 9 14 (.not (.t 13)),pO 9 14 15] (.cond (.t 15) (sR [mF 2] .ret) .skip)) (.seq (.seq (.note (.gc [1]) (.reg [oF 1 1 16,oL 16 17,lE 17 18,oC 0 19])) (.block 0 (.loop mc_5x))) (sR [mT 2] .ret))))
attribute [go_sem] F_5x
instance:LI mc_5x 19 18 [17,18] [] (fun y:Unit=>[]) (fun y=>[]) []:=⟨⟩
instance Wq_u {f_:GFleet}:WI (F_u f_) Tryz.prog 86 [GFleet.v f_] [] (fun z=>.bool z) (fun z=>[]):=⟨fun Q Q' h hQ=>by
 refine acallM mc_u [] [] [.t 2] Tryz.func86 fun M=>?_
 unfold F_u at h
 unfold mc_u
 exact tX⟩
def F_5y (pool_:Int) (k20:Int) (a21:GConsumer) (x19:List Int):Option (List Int) := bif decide (a21.Pool=pool_) then chk (room (x19.length+[k20].length) 8) (some (x19++[k20])) else some x19
def F_7 (f_:GFleet) (pool_:Int):Option (List Int) := (F_u f_).bind fun y4=>bif (!y4) then some [] else (foldL (F_5y pool_) f_.Consumers 0 []).bind fun x22=>some x22
@[irreducible] def mc_5y:MC := (sR [bT .lss 14 13 15] (.seq (.cond (.t 15) .skip (.exit 0)) (.seq (.block 1 (sR [oV 14 16,iA 3 12 14 17,lN 3 17 18,mo (.alloc [(.int .i64 0),(.bool false),(.bool false)]) 7,oV 16 6,⟨.st 3 (.t 7) (.t 18),none,none⟩] (sR [oF 0 7 19,oL 19 20,oV 1 21,bT .eql 20 21 22] (.cond (.t 22) (.note (.gc [1,5,6,12,13,14]) (.reg [oV 5 23,oV 6 24,mo (.bslice 1 [(.t 24)]) 25,ap 1 8 23 25 26,oV 26 5])) .skip)))) (.reg [aI 14 1 27,oV 27 14]))))
def mc_7:MC := (sR [bx 0 2,mo (.mv (.c .nils)) 4] (.seq (sR [lN 2 2 8,k1 86 8 9,nT 9 10] (.cond (.t 10) (sR [mo (.mv (.c .nils)) 4] .ret) .skip)) (sR [mo (.mv (.c .nils)) 5] (.seq (sR [oF 1 2 11,oL 11 12,lE 12 13,oC 0 14] (.block 0 (.loop mc_5y))) (sR [oV 5 28,oV 28 4] .ret)))))
attribute [go_sem] F_5y
instance:LI mc_5y 14 13 [1,12,13] [] (fun y:List Int=>[(5,.osl 2005 1 0 y.length)]) (fun y=>[.o 2005 (.arr 1 (y.map (V.int .i64)))]) [.gc [1,5,12,13,14],.acc 5 2005 1]:=⟨⟩
instance Wq_7 {f_:GFleet} {pool_:Int}:WI (F_7 f_ pool_) Tryz.prog 61 [GFleet.v f_,.int .i64 pool_] [] (fun z=>.osl 1900 1 0 z.length) (fun z=>[(1900,.arr 1 (z.map (V.int .i64)))]):=⟨fun Q Q' h hQ=>by
 refine acallM mc_7 [.acc 4 1900 1] [1900] [.t 4] Tryz.func61 fun M=>?_
 unfold F_7 at h
 unfold mc_7
 exact tX⟩
def F_5z (k20:Int) (a21:GConsumer) (x19:List GUnit):Option (List GUnit) := chk (room (x19.length+[(GUnit.mk true 1 1)].length) 24) (some (x19++[(GUnit.mk true 1 1)]))
def F_2d (f_:GFleet):Option (GRotation×Int) := (F_u f_).bind fun y4=>bif (!y4) then some ((GRotation.mk 0 0 []),36) else (foldL F_5z f_.Consumers 0 []).bind fun x22=>some ((GRotation.mk 1 1 x22),0)
@[irreducible] def mc_5z:MC := (sR [bT .lss 13 12 14] (.seq (.cond (.t 14) .skip (.exit 0)) (.seq (.block 1 (.reg [oF 2 4 15,oL 15 16,mo (.build [(.bool false),(.int .i64 0),(.int .i64 0)] [(0,1,(.c (.bool true))),(1,1,(cI 1)),(2,1,(cI 1))]) 17,mo (.bslice 3 [(.t 17)]) 18,ap 3 24 16 18 19,oF 2 4 20,⟨.st 1 (.t 20) (.t 19),none,none⟩])) (.reg [aI 13 1 21,oV 21 13]))))
def mc_2d:MC := (sR [bx 0 1,mo (.alloc [(.int .i64 0),(.int .i64 0),(.sl [])]) 2,oC 0 3] (.seq (sR [lN 2 1 5,k1 86 5 6,nT 6 7] (.cond (.t 7) (sR [mo (.build [(.int .i64 0),(.int .i64 0),(.sl [])] []) 8,⟨.st 3 (.t 2) (.t 8),none,none⟩,oC 36 3] .ret) .skip)) (sR [mo (.build [(.int .i64 0),(.int .i64 0),.nils] [(0,1,(cI 1)),(1,1,(cI 1))]) 9,mo (.alloc [(.int .i64 0),(.int .i64 0),(.sl [])]) 4,⟨.st 3 (.t 4) (.t 9),none,none⟩] (.seq (sR [oF 1 1 10,oL 10 11,lE 11 12,oC 0 13] (.block 0 (.loop mc_5z))) (sR [lN 3 4 22,⟨.st 3 (.t 2) (.t 22),none,none⟩,oC 0 3] .ret)))))
attribute [go_sem] F_5z
instance:LI mc_5z 13 12 [2,4,12] [4,2] (fun y:List GUnit=>[]) (fun y=>[.p 4 2 [.osl 4066 3 0 y.length],.o 4066 (.arr 3 (y.map GUnit.v))]) [.gc [2,4,12,13],.ownC 4 2 4066 3 none]:=⟨⟩
instance Wq_2d {f_:GFleet}:WI (F_2d f_) Tryz.prog 62 [GFleet.v f_] [] (fun z=>.tup [GRotation.v z.1,.int .i64 z.2]) (fun z=>[]):=⟨fun Q Q' h hQ=>by
 refine acallM mc_2d [.fzc 2] [] [.c 2 (some 3),.t 3] Tryz.func62 fun M=>?_
 unfold F_2d at h
 unfold mc_2d
 exact tX⟩
def F_1d (c_:GConsumer) (s_:GRotation) (x_:Int):Option Bool := (F_c x_ 1 3).bind fun y4=>jn (α:=Bool) (bif y4 then some (decide ((bits .andNot .i64 x_ s_.Known)=0)) else some false) fun j5=>grp ((j5&&((!decide (x_=3))||c_.Dual))) fun b6=>some b6
@[irreducible] def mg_8u:List MOp:=[tV 9 10 2,ta_ 9 11 0 4,tL 9 12 11,gT 9 13 (.bin false .andNot (.t 10) (.t 12)),gT 9 14 (.bin false .eql (.t 13) (cI 0)),pA 9 14 15]
@[irreducible] def mg_8v:List MOp:=[tV 16 17 2,gT 16 18 (.bin false .neq (.t 17) (cI 3)),tV 16 19 18,fa_ 19 20 1 3,fL 19 21 20,gT 16 22 (.pick (.t 19) (.c (.bool true)) (.t 21)),pA 16 22 23]
def mc_1d:MC := (sR [bx 0 3,bx 1 4,mF 6] (.seq (.regI [.op (oV 2 7),.op (mo (.call (.f 87) [(.t 7),(cI 1),(cI 3)] [] []) 8),.op (oV 8 9),.grp mg_8u,.op (oV 15 16),.grp mg_8v,.op (oV 23 6)]) .ret))
instance:GV mg_8v 23 [17,18,19,20,21,22]:=⟨⟩
instance:GI mg_8u [2,3,6] [3] (fun y:Bool=>[(15,.bool y)]) (fun y=>[]):=⟨⟩
instance Wq_1d {c_:GConsumer} {s_:GRotation} {x_:Int}:WI (F_1d c_ s_ x_) Tryz.prog 88 [GConsumer.v c_,GRotation.v s_,.int .i64 x_] [] (fun z=>.bool z) (fun z=>[]):=⟨fun Q Q' h hQ=>by
 refine acallM mc_1d [] [] [.t 6] Tryz.func88 fun M=>?_
 unfold F_1d at h
 unfold mc_1d
 exact tX⟩
def F_60 (f_:GFleet) (s_:GRotation) (k168:Int) (a169:GUnit) (x167:Unit):Option (Fl Unit Bool) := chk (inb k168 f_.Consumers.length) ((F_1d (f_.Consumers.getD (k168).toNat default) s_ a169.Stored).bind fun y212=>grp (((!y212)||((!a169.Up)&&(!decide (a169.Used=0))))) fun b213=>bif b213 then grp (true) fun b214=>bif b214 then some (.ex false) else some (.nx ()) else bif a169.Up then (F_1d (f_.Consumers.getD (k168).toNat default) s_ a169.Used).bind fun y215=>grp (((!y215)||((a169.Up&&(f_.Consumers.getD (k168).toNat default).Live)&&(!decide (a169.Used=a169.Stored))))) fun b216=>bif b216 then some (.ex false) else some (.nx ()) else grp (((a169.Up&&(f_.Consumers.getD (k168).toNat default).Live)&&(!decide (a169.Used=a169.Stored)))) fun b217=>bif b217 then some (.ex false) else some (.nx ()))
def F_1e (f_:GFleet) (s_:GRotation):Option Bool := jn (α:=Fl Unit Bool) ((F_u f_).bind fun y29=>grp (((!y29)||((!decide (s_.Known=1))&&(!decide (s_.Known=3))))) fun b30=>bif b30 then grp (true) fun b31=>grp ((b31||(!decide ((s_.Units.length:Int)=(f_.Consumers.length:Int))))) fun b32=>bif b32 then some (.ex false) else some (.nx ()) else (F_c s_.Valid 1 3).bind fun y33=>bif (!y33) then grp (true) fun b34=>grp ((b34||(!decide ((s_.Units.length:Int)=(f_.Consumers.length:Int))))) fun b35=>bif b35 then some (.ex false) else some (.nx ()) else grp (((!decide ((bits .andNot .i64 s_.Valid s_.Known)=0))||(decide (s_.Valid=3)&&decide (f_.Slots=1)))) fun b36=>grp ((b36||(!decide ((s_.Units.length:Int)=(f_.Consumers.length:Int))))) fun b37=>bif b37 then some (.ex false) else some (.nx ())) fun o=>o.elim (fun j19=>(forL (F_60 f_ s_) s_.Units 0 ()).bind fun o=>o.elim (fun x218=>some true) (fun r219=>some r219)) (fun r220=>some r220)
@[irreducible] def mg_8w:List MOp:=[fa_ 11 12 0 3,fL 11 13 12,gF 11 14 (.bin false .neq (.t 13) (cI 1)),fV 11 15 14,ta_ 15 16 0 3,tL 15 17 16,gT 15 18 (.bin false .neq (.t 17) (cI 3)),gF 11 19 (.pick (.t 15) (.t 18) (.c (.bool false))),pO 11 19 20]
@[irreducible] def mg_76:List MOp:=[fa_ 35 36 1 3,fL 35 37 36,gF 35 38 (.bin false .eql (.t 37) (cI 3)),fV 35 39 38,ta_ 39 40 0 2,tL 39 41 40,gT 39 42 (.bin false .eql (.t 41) (cI 1)),gF 35 43 (.pick (.t 39) (.t 42) (.c (.bool false))),pO 35 43 44]
@[irreducible] def mg_77:List MOp:=[fa_ 45 46 2 3,fL 45 47 46,gF 45 48 (.len false (.t 47)),fa_ 45 49 1 2,fL 45 50 49,gF 45 51 (.len false (.t 50)),gF 45 52 (.bin false .neq (.t 48) (.t 51)),pO 45 52 53]
@[irreducible] def mg_8x:List MOp:=[fa_ 73 74 0 6,fL 73 75 74,gF 73 76 (.not (.t 75)),fV 73 77 76,ta_ 77 78 2 6,tL 77 79 78,gT 77 80 (.bin false .neq (.t 79) (cI 0)),gF 73 81 (.pick (.t 77) (.t 80) (.c (.bool false))),pO 73 81 82]
@[irreducible] def mg_78:List MOp:=[fa_ 95 96 0 6,fL 95 97 96,fV 95 98 97,ta_ 98 99 2 7,tL 98 100 99,gF 95 101 (.pick (.t 98) (.t 100) (.c (.bool false))),fV 95 102 101,ta_ 102 103 2 6,tL 102 104 103,ta_ 102 105 1 6,tL 102 106 105,gT 102 107 (.bin false .neq (.t 104) (.t 106)),gF 95 108 (.pick (.t 102) (.t 107) (.c (.bool false))),pO 95 108 109]
@[irreducible] def mc_60:MC := (sR [bT .lss 57 56 58] (.seq (.cond (.t 58) .skip (.exit 0)) (.seq (.block 1 (sR [oV 57 59,iA 3 55 57 60,lN 3 60 61,mo (.alloc [(.bool false),(.int .i64 0),(.int .i64 0)]) 6,oV 59 5,⟨.st 3 (.t 6) (.t 61),none,none⟩] (sR [oF 1 2 62,oL 62 63,oV 5 64,iA 3 63 64 65,lN 3 65 66,mo (.alloc [(.int .i64 0),(.bool false),(.bool false)]) 7,⟨.st 3 (.t 7) (.t 66),none,none⟩] (.seq (.note (.gc [2,3,6,7,55,56,57,74,75,76,77,78,79,80,81,84,85,86,87,88,89,90,91,92,93,96,97,98,99,100,101,102,103,104,105,106,107,108]) (.regI [.op (lN 3 7 67),.op (lN 3 3 68),.op (oF 1 6 69),.op (oL 69 70),.op (k3 88 67 68 70 71),.op (nT 71 72),.op (oV 72 73),.grp mg_8x,.op (oV 82 83),.op (fa_ 83 84 0 6),.op (fL 83 85 84),.op (fV 83 86 85),.op (gT 86 87 (.ld (some 3) (.t 7))),.op (gT 86 88 (.ld (some 3) (.t 3))),.op (ta_ 86 89 2 6),.op (tL 86 90 89),.op (gT 86 91 (.call (.f 88) [(.t 87),(.t 88),(.t 90)] [] [])),.op (gT 86 92 (.not (.t 91))),.op (gF 83 93 (.pick (.t 86) (.t 92) (.c (.bool false)))),.op (pO 83 93 94),.op (oV 94 95),.grp mg_78])) (.cond (.t 109) (sR [mF 4] .ret) .skip))))) (.reg [aI 57 1 110,oV 110 57]))))
@[irreducible] def mc_8y:MC := (.seq (sR [oF 2 3 54,oL 54 55,lE 55 56,oC 0 57] (.block 0 (.loop mc_60))) (sR [mT 4] .ret))
def mc_1e:MC := (sR [bx 0 2,bx 1 3,mF 4] (.cut (.seq (.regI [.op (lN 2 2 8),.op (k1 86 8 9),.op (nT 9 10),.op (oV 10 11),.grp mg_8w,.op (oV 20 21),.op (fa_ 21 22 1 3),.op (fL 21 23 22),.op (gF 21 24 (.call (.f 87) [(.t 23),(cI 1),(cI 3)] [] [])),.op (gF 21 25 (.not (.t 24))),.op (pO 21 25 26),.op (oV 26 27),.op (fa_ 27 28 1 3),.op (fL 27 29 28),.op (fa_ 27 30 0 3),.op (fL 27 31 30),.op (gF 27 32 (.bin false .andNot (.t 29) (.t 31))),.op (gF 27 33 (.bin false .neq (.t 32) (cI 0))),.op (pO 27 33 34),.op (oV 34 35),.grp mg_76,.op (oV 44 45),.grp mg_77]) (.cond (.t 53) (sR [mF 4] .ret) .skip)) mc_8y))
attribute [go_sem] F_60
instance:GV mg_77 53 [46,47,48,49,50,51,52]:=⟨⟩
instance:GV mg_76 44 [36,37,38,39,40,41,42,43]:=⟨⟩
instance:GV mg_77 53 [46,47,48,49,50,51,52]:=⟨⟩
instance:GV mg_76 44 [36,37,38,39,40,41,42,43]:=⟨⟩
instance:GV mg_77 53 [46,47,48,49,50,51,52]:=⟨⟩
instance:GV mg_76 44 [36,37,38,39,40,41,42,43]:=⟨⟩
instance:GV mg_8w 20 [12,13,14,15,16,17,18,19]:=⟨⟩
instance:GV mg_78 109 [96,97,98,99,100,101,102,103,104,105,106,107,108]:=⟨⟩
instance:GV mg_78 109 [96,97,98,99,100,101,102,103,104,105,106,107,108]:=⟨⟩
instance:GV mg_78 109 [96,97,98,99,100,101,102,103,104,105,106,107,108]:=⟨⟩
instance:GV mg_8x 82 [74,75,76,77,78,79,80,81]:=⟨⟩
instance:LI mc_60 57 56 [2,3,55,56] [3,2] (fun y:Unit=>[]) (fun y=>[]) []:=⟨⟩
instance:LI mc_8y 0 0 [2,3] [3,2] (fun y:Unit=>[]) (fun y=>[]) []:=⟨⟩
instance Wq_1e {f_:GFleet} {s_:GRotation}:WI (F_1e f_ s_) Tryz.prog 48 [GFleet.v f_,GRotation.v s_] [] (fun z=>.bool z) (fun z=>[]):=⟨fun Q Q' h hQ=>by
 refine acallM mc_1e [] [] [.t 4] Tryz.func48 fun M=>?_
 unfold F_1e at h
 unfold mc_1e
 exact tX⟩
def F_2e (f_:GFleet) (x_:GStep):Option Bool := jn (α:=Bool) (bif decide (x_.Kind=1) then some true else bif decide (x_.Kind=2) then some true else bif decide (x_.Kind=3) then some true else some (decide (x_.Kind=8))) fun j5=>bif j5 then some (decide (x_.Unit=0)) else jn (α:=Bool) (bif decide (x_.Kind=4) then some true else bif decide (x_.Kind=5) then some true else bif decide (x_.Kind=6) then some true else some (decide (x_.Kind=7))) fun j6=>bif j6 then grp ((decide (0≤x_.Unit)&&decide (x_.Unit<(f_.Consumers.length:Int)))) fun b8=>some b8 else some false
@[irreducible] def mg_8z:List MOp:=[ta_ 23 24 1 3,tL 23 25 24,ta_ 23 26 1 2,tL 23 27 26,gT 23 28 (.len false (.t 27)),gT 23 29 (.bin false .lss (.t 25) (.t 28)),pA 23 29 30]
@[irreducible] def mc_90:MC := (.cond (.t 15) (.seq (.regI [.op (oF 1 3 20),.op (oL 20 21),.op (bC .geq 21 0 22),.op (oV 22 23),.grp mg_8z,.op (oV 30 4)]) .ret) .skip)
@[irreducible] def mc_91:MC := (.cond (.t 7) (sR [oF 1 3 12,oL 12 13,bC .eql 13 0 14,oV 14 4] .ret) (.cut (sR [bC .eql 6 4 16,oV 16 15] (.cond (.t 15) .skip (sR [bC .eql 6 5 17,oV 17 15] (.cond (.t 15) .skip (sR [bC .eql 6 6 18,oV 18 15] (.cond (.t 15) .skip (.reg [bC .eql 6 7 19,oV 19 15]))))))) mc_90))
def mc_2e:MC := (sR [bx 0 2,bx 1 3,mF 4] (.seq (sR [oF 0 3 5,oL 5 6] (.block 0 (.cut (sR [bC .eql 6 1 8,oV 8 7] (.cond (.t 7) .skip (sR [bC .eql 6 2 9,oV 9 7] (.cond (.t 7) .skip (sR [bC .eql 6 3 10,oV 10 7] (.cond (.t 7) .skip (.reg [bC .eql 6 8 11,oV 11 7]))))))) mc_91))) (sR [mF 4] .ret)))
instance:GV mg_8z 30 [24,25,26,27,28,29]:=⟨⟩
instance:LI mc_90 0 0 [2,3] [3,2] (fun y:Bool=>[(15,.bool y)]) (fun y=>[]) []:=⟨⟩
instance:LI mc_91 0 0 [2,3,6] [3,2] (fun y:Bool=>[(7,.bool y)]) (fun y=>[]) []:=⟨⟩
instance Wq_2e {f_:GFleet} {x_:GStep}:WI (F_2e f_ x_) Tryz.prog 105 [GFleet.v f_,GStep.v x_] [] (fun z=>.bool z) (fun z=>[]):=⟨fun Q Q' h hQ=>by
 refine acallM mc_2e [] [] [.t 4] Tryz.func105 fun M=>?_
 unfold F_2e at h
 unfold mc_2e
 exact tX⟩
def F_2f (s_:GRotation):Option GRotation := chk (room s_.Units.length 24) (some (GRotation.mk s_.Known s_.Valid s_.Units))
def mc_2f:MC := (sR [bx 0 1,mo (.alloc [(.int .i64 0),(.int .i64 0),(.sl [])]) 2] (sR [oF 2 1 3,oL 3 4,mo (.app 3 24 (.c .nils) (.t 4)) 5,oF 2 1 6,⟨.st 1 (.t 6) (.t 5),none,none⟩] (sR [lN 3 1 7,⟨.st 3 (.t 2) (.t 7),none,none⟩] .ret)))
instance Wq_2f {s_:GRotation}:WI (F_2f s_) Tryz.prog 155 [GRotation.v s_] [] (fun z=>.agg [.int .i64 z.Known,.int .i64 z.Valid,.osl 1502 3 0 z.Units.length]) (fun z=>[(1502,.arr 3 (z.Units.map GUnit.v))]):=⟨fun Q Q' h hQ=>by
 refine acallM mc_2f [.ownC 2 2 1502 3 none] [1502] [.c 2 (some 3)] Tryz.func155 fun M=>?_
 unfold F_2f at h
 unfold mc_2f
 exact tX⟩
def F_2g (f_:GFleet) (s_:GRotation) (x_:GStep):Option (GRotation×Bool) := (F_2f s_).bind fun y2=>chk (inb x_.Unit y2.Units.length) (chk (inb x_.Unit f_.Consumers.length) (jn (α:=Fl (Bool×GUnit) (GRotation×Bool)) (bif decide (x_.Kind=1) then some (.ex ((GRotation.mk (bits .or .i64 y2.Known 2) y2.Valid y2.Units),(!(!decide ((bits .and .i64 y2.Known 2)=0))))) else bif decide (x_.Kind=2) then grp (((!decide ((bits .and .i64 y2.Known 2)=0))&&decide (y2.Valid=1))) fun b14=>grp ((b14&&decide (f_.Slots=2))) fun b15=>some (.ex ((GRotation.mk y2.Known (bits .or .i64 y2.Valid 2) y2.Units),b15)) else bif decide (x_.Kind=3) then grp (((!decide ((bits .and .i64 y2.Known 2)=0))&&decide (y2.Valid=1))) fun b17=>some (.ex ((GRotation.mk y2.Known 2 y2.Units),b17)) else bif decide (x_.Kind=8) then some (.ex ((GRotation.mk y2.Known 2 y2.Units),decide (y2.Valid=3))) else bif decide (x_.Kind=4) then jn (α:=Bool) (bif (!decide ((bits .and .i64 y2.Known 2)=0)) then some (decide ((bits .and .i64 ((y2.Units.getD ((x_.Unit).toNat) default).Stored) 2)=0)) else some false) fun j19=>bif (f_.Consumers.getD (x_.Unit).toNat default).Dual then some (.nx (j19,(GUnit.mk ((y2.Units.getD ((x_.Unit).toNat) default).Up) 3 ((y2.Units.getD ((x_.Unit).toNat) default).Used)))) else some (.nx (j19,(GUnit.mk ((y2.Units.getD ((x_.Unit).toNat) default).Up) 2 ((y2.Units.getD ((x_.Unit).toNat) default).Used)))) else bif decide (x_.Kind=7) then some (.nx (decide ((y2.Units.getD ((x_.Unit).toNat) default).Stored=3),(GUnit.mk ((y2.Units.getD ((x_.Unit).toNat) default).Up) 2 ((y2.Units.getD ((x_.Unit).toNat) default).Used)))) else bif decide (x_.Kind=5) then some (.nx ((y2.Units.getD ((x_.Unit).toNat) default).Up,(GUnit.mk false ((y2.Units.getD ((x_.Unit).toNat) default).Stored) 0))) else bif decide (x_.Kind=6) then some (.nx ((!((y2.Units.getD ((x_.Unit).toNat) default).Up)),(GUnit.mk true ((y2.Units.getD ((x_.Unit).toNat) default).Stored) ((y2.Units.getD ((x_.Unit).toNat) default).Stored)))) else some (.nx (false,y2.Units.getD ((x_.Unit).toNat) default))) fun o=>o.elim (fun j11=>jn (α:=GUnit) (grp (((f_.Consumers.getD (x_.Unit).toNat default).Live&&j11.2.Up)) fun b24=>bif b24 then some (GUnit.mk j11.2.Up j11.2.Stored j11.2.Stored) else some j11.2) fun j22=>chk (inb x_.Unit y2.Units.length) (some ((GRotation.mk y2.Known y2.Valid (y2.Units.set ((x_.Unit).toNat) j22)),j11.1))) (fun r25=>some r25)))
@[irreducible] def mg_7d:List MOp:=[ta_ 45 46 1 4,tL 45 47 46,gT 45 48 (.bin false .eql (.t 47) (cI 1)),pA 45 48 49]
@[irreducible] def mg_7e:List MOp:=[ta_ 50 51 0 3,tL 50 52 51,gT 50 53 (.bin false .eql (.t 52) (cI 2)),pA 50 53 54]
@[irreducible] def mg_7f:List MOp:=[ta_ 64 65 1 4,tL 64 66 65,gT 64 67 (.bin false .eql (.t 66) (cI 1)),pA 64 67 68]
@[irreducible] def mg_7g:List MOp:=[ta_ 83 84 1 8,tL 83 85 84,gT 83 86 (.bin false .and (.t 85) (cI 2)),gT 83 87 (.bin false .eql (.t 86) (cI 0)),pA 83 87 88]
@[irreducible] def mg_7h:List MOp:=[ta_ 116 117 0 8,tL 116 118 117,pA 116 118 119]
@[irreducible] def mc_7i:MC := (sR [oF 2 4 123,oL 123 124,oF 1 5 125,oL 125 126,lN 3 8 127,iA 3 124 126 128,⟨.st 3 (.t 128) (.t 127),none,none⟩] (.seq (.note (.gc [4,6,11]) (.reg [lN 3 4 129,oV 11 130,⟨.st 3 (.t 6) (.t 129),none,none⟩,oV 130 7])) .ret))
@[irreducible] def mc_7j:MC := (.cut (.seq (.regI [.op (oF 2 9 114),.op (oL 114 115),.op (oV 115 116),.grp mg_7h]) (.cond (.t 119) (.reg [oF 1 8 120,oL 120 121,oF 2 8 122,⟨.st 1 (.t 122) (.t 121),none,none⟩]) .skip)) mc_7i)
def mc_2g:MC := (sR [bx 0 3,bx 1 4,bx 2 5,mo (.alloc [(.int .i64 0),(.int .i64 0),(.sl [])]) 6,mF 7] (sR [lN 3 4 12,mo (.call (.f 155) [(.t 12)] [] [33330]) 13,⟨.st 3 (.t 4) (.t 13),none,none⟩] (sR [oF 2 4 14,oL 14 15,oF 1 5 16,oL 16 17,iA 3 15 17 18,lN 3 18 19,mo (.alloc [(.bool false),(.int .i64 0),(.int .i64 0)]) 8,⟨.st 3 (.t 8) (.t 19),none,none⟩] (.seq (.note (.gc [3,4,5,6,8,46,47,48,51,52,53,65,66,67,84,85,86,87,117,118]) (.reg [oF 1 3 20,oL 20 21,oF 1 5 22,oL 22 23,iA 3 21 23 24,lN 3 24 25,mo (.alloc [(.int .i64 0),(.bool false),(.bool false)]) 9,⟨.st 3 (.t 9) (.t 25),none,none⟩])) (sR [oF 0 4 26,oL 26 27,bC .and 27 2 28,bC .neq 28 0 29,oV 29 10] (sR [mF 11] (.cut (sR [oF 0 5 30,oL 30 31] (.block 0 (sR [bC .eql 31 1 33,oV 33 32] (.cond (.t 32) (.seq (.note (.gc [4,6,10]) (.reg [oV 10 34,nT 34 35,oV 35 11])) (sR [oF 0 4 36,oL 36 37,bC .or 37 2 38,oF 0 4 39,⟨.st 1 (.t 39) (.t 38),none,none⟩] (sR [lN 3 4 40,oV 11 41,⟨.st 3 (.t 6) (.t 40),none,none⟩,oV 41 7] .ret))) (sR [bC .eql 31 2 43,oV 43 42] (.cond (.t 42) (.seq (.note (.gc [3,4,6,10,46,47,48,51,52,53]) (.regI [.op (oV 10 44),.op (oV 44 45),.grp mg_7d,.op (oV 49 50),.grp mg_7e,.op (oV 54 11)])) (sR [oF 1 4 55,oL 55 56,bC .or 56 2 57,oF 1 4 58,⟨.st 1 (.t 58) (.t 57),none,none⟩] (.seq (.note (.gc [4,6,11]) (.reg [lN 3 4 59,oV 11 60,⟨.st 3 (.t 6) (.t 59),none,none⟩,oV 60 7])) .ret))) (sR [bC .eql 31 3 62,oV 62 61] (.cond (.t 61) (.seq (.note (.gc [4,6,10,65,66,67]) (.regI [.op (oV 10 63),.op (oV 63 64),.grp mg_7f,.op (oV 68 11)])) (sR [oF 1 4 69,⟨.st 1 (.t 69) (cI 2),none,none⟩] (sR [lN 3 4 70,oV 11 71,⟨.st 3 (.t 6) (.t 70),none,none⟩,oV 71 7] .ret))) (sR [bC .eql 31 8 73,oV 73 72] (.cond (.t 72) (.seq (.note (.gc [4,6]) (.reg [oF 1 4 74,oL 74 75,bC .eql 75 3 76,oV 76 11])) (sR [oF 1 4 77,⟨.st 1 (.t 77) (cI 2),none,none⟩] (sR [lN 3 4 78,oV 11 79,⟨.st 3 (.t 6) (.t 78),none,none⟩,oV 79 7] .ret))) (sR [bC .eql 31 4 81,oV 81 80] (.cond (.t 80) (.seq (.note (.gc [4,5,6,8,9,10,84,85,86,87,117,118]) (.regI [.op (oV 10 82),.op (oV 82 83),.grp mg_7g,.op (oV 88 11)])) (sR [oF 1 8 89,⟨.st 1 (.t 89) (cI 2),none,none⟩] (sR [oF 1 9 90,oL 90 91] (.cond (.t 91) (.reg [oF 1 8 92,⟨.st 1 (.t 92) (cI 3),none,none⟩]) .skip)))) (sR [bC .eql 31 7 94,oV 94 93] (.cond (.t 93) (.seq (.note (.gc [4,5,6,8,9,117,118]) (.reg [oF 1 8 95,oL 95 96,bC .eql 96 3 97,oV 97 11])) (.reg [oF 1 8 98,⟨.st 1 (.t 98) (cI 2),none,none⟩])) (sR [bC .eql 31 5 100,oV 100 99] (.cond (.t 99) (.seq (.note (.gc [4,5,6,8,9,117,118]) (.reg [oF 0 8 101,oL 101 102,oV 102 11])) (.reg [oF 0 8 103,⟨.st 1 (.t 103) (.c (.bool false)),none,none⟩,oF 2 8 104,⟨.st 1 (.t 104) (cI 0),none,none⟩])) (sR [bC .eql 31 6 106,oV 106 105] (.cond (.t 105) (.seq (.note (.gc [4,5,6,8,9,117,118]) (.reg [oF 0 8 107,oL 107 108,nT 108 109,oV 109 11])) (.reg [oF 1 8 110,oL 110 111,oF 0 8 112,⟨.st 1 (.t 112) (.c (.bool true)),none,none⟩,oF 2 8 113,⟨.st 1 (.t 113) (.t 111),none,none⟩])) .skip)))))))))))))))))) mc_7j)))))))
instance Wq_2g {f_:GFleet} {s_:GRotation} {x_:GStep}:WI (F_2g f_ s_ x_) Tryz.prog 106 [GFleet.v f_,GRotation.v s_,GStep.v x_] [] (fun z=>.tup [GRotation.v z.1,.bool z.2]) (fun z=>[]):=⟨fun Q Q' h hQ=>by
 refine acallM mc_2g [.fzc 6] [] [.c 6 (some 3),.t 7] Tryz.func106 fun M=>?_
 unfold F_2g at h
 unfold mc_2g
 replace h:=tY h
 refine tB ?_
 repeat' (first
 | (exact tZ)
 | ((first|refine oblg h ?_|refine roomG h ?_|refine inbG h ?_|refine incG h ?_|refine divG h ?_|refine appG h ?_|refine appC h ?_|refine fork h ?_ ?_|refine forkS h ?_ ?_)<;>clear h<;>intro hc h)
 | (obtain ⟨y,hy,h⟩:=h;have hw:=acall_swe 1502 33330 (Wq_2f.c.w hy);replace hw:=tY hw;(first|refine M.sC hw ?_|refine M.sD hw ?_);clear hw hy;refine tB ?_)
 | (refine M.gv1 (ms:=mg_7e) 54 [51,52,53] h ?_ ?_<;>first
 | (clear h;intro K hK1;unfold mg_7e;refine tB ?_)
 | (clear h;intro b h;replace h:=tY h;refine tB ?_))
 | (refine M.gv1 (ms:=mg_7d) 49 [46,47,48] h ?_ ?_<;>first
 | (clear h;intro K hK2;unfold mg_7d;refine tB ?_)
 | (clear h;intro b h;replace h:=tY h;refine tB ?_))
 | (refine M.gv1 (ms:=mg_7f) 68 [65,66,67] h ?_ ?_<;>first
 | (clear h;intro K hK3;unfold mg_7f;refine tB ?_)
 | (clear h;intro b h;replace h:=tY h;refine tB ?_))
 | (refine M.gj1 (ms:=mg_7g) [4,5,6,8,9] [9,8,6,5,4,33330] (fun y=>[(88,.bool y)]) (fun y=>[]) h ?_ ?_<;>first
 | (clear h;intro Qn K hK4 h;unfold mg_7g;replace h:=tY h;refine tB ?_)
  |(clear h;intro y h;replace h:=tY h;refine tB ?_))
 | (refine M.gv1 (ms:=mg_7h) 119 [117,118] h ?_ ?_<;>first
 | (clear h;intro K hK5;unfold mg_7h;refine tB ?_)
 | (clear h;intro b h;replace h:=tY h;refine tB ?_))
 | (refine M.jn1 (b:=mc_7i) [4,5,6,8,11] [6,5,4,33330] (fun y=>[]) (fun y=>[.o 8 (.cells [.bool y.Up,.int .i64 y.Stored,.int .i64 y.Used])]) [] h ?_ ?_<;>first
 | (clear h;intro Qn K hK6 h;replace h:=tY h;refine tB ?_)
  |(clear h;intro y h;unfold mc_7i;replace h:=tY h;refine tB ?_))
 | (refine M.jnE (b:=mc_7j) [4,5,6,8,9] [9,6,5,4,33330] (fun y=>[(11,.bool y.1)]) (fun y=>[.o 8 (.cells [.bool y.2.Up,.int .i64 y.2.Stored,.int .i64 y.2.Used])]) [] h ?_ ?_<;>first
 | (clear h;intro Qn K hK7 h;replace h:=tY h;refine tB ?_)
  |(clear h;intro y h;unfold mc_7j;replace h:=tY h;refine tB ?_))
 | (exact absurd (hc.symm.trans (by assumption:_=true)) xK)
 | (exact absurd (hc.symm.trans (by assumption:_=false)) xK.symm)
 | ((first|refine hK1 _ ?_|refine hK2 _ ?_|refine hK3 _ ?_|refine hK5 _ ?_);exact tU;done)
 | ((first|refine hK4 _ ?_|refine hK6 _ ?_|refine hK7 _ ?_);(try refine tB ?_);refine ⟨_,h,?_⟩;exact tU0;done)
 | (refine bfork (fun hc=>?_) (fun hc=>?_))
 | (refine tE ?_;(first|rw [M.lok_compU]|rw [M.lokD_compU]);refine tB ?_)
 | (refine ⟨_,aggE (by first|exact inb_toNat (by assumption)|exact inb_nat (by assumption)|assumption) rfl,?_⟩;(first|rw [M.lok_compU]|rw [M.lokD_compU]);refine tB ?_)
 | (refine ⟨_,aggS (by first|exact inb_toNat (by assumption)|exact inb_nat (by assumption)|assumption),?_⟩;(first|rw [M.lok_compU]|rw [M.lokD_compU]|(simp only [V.cells,xC,wT];first|rw [M.lok_comp]|rw [M.lokD_comp]));refine tB ?_)
 | (refine ⟨_,getE_mapset (by first|exact inb_toNat (by assumption)|exact inb_nat (by assumption)),?_⟩;(first|rw [M.lok_compU]|rw [M.lokD_compU]|(simp only [V.cells];first|rw [M.lok_comp]|rw [M.lokD_comp]));refine tB ?_)
 | (refine tA ?_)
 | fail)⟩
def F_4 (f_:GFleet) (s_:GRotation) (x_:GStep):Option (GRotation×Int) := (F_1e f_ s_).bind fun y4=>bif (!y4) then some ((GRotation.mk 0 0 []),36) else (F_2e f_ x_).bind fun y8=>bif (!y8) then some ((GRotation.mk 0 0 []),2) else (F_2g f_ s_ x_).bind fun y10=>bif (!y10.2) then some ((GRotation.mk 0 0 []),37) else some (y10.1,0)
def mc_4:MC := (sR [bx 0 3,bx 1 4,bx 2 5,mo (.alloc [(.int .i64 0),(.int .i64 0),(.sl [])]) 6,oC 0 7] (.seq (sR [lN 2 3 10,lN 3 4 11,k2 48 10 11 12,nT 12 13] (.cond (.t 13) (.seq (.note (.gc [6]) (.reg [mo (.build [(.int .i64 0),(.int .i64 0),(.sl [])] []) 14,⟨.st 3 (.t 6) (.t 14),none,none⟩,oC 36 7])) .ret) .skip)) (.seq (.seq (.note (.gc [3,4,5,6]) (.reg [lN 2 3 15,lN 2 5 16,k2 105 15 16 17,nT 17 18])) (.cond (.t 18) (sR [mo (.build [(.int .i64 0),(.int .i64 0),(.sl [])] []) 19,⟨.st 3 (.t 6) (.t 19),none,none⟩,oC 2 7] .ret) .skip)) (sR [lN 2 3 21,lN 3 4 22,lN 2 5 23,k3 106 21 22 23 24,oV 24 20,xT 0 20 25,xT 1 20 26,mo (.alloc [(.int .i64 0),(.int .i64 0),(.sl [])]) 8,⟨.st 3 (.t 8) (.t 25),none,none⟩,oV 26 9] (.seq (sR [oV 9 27,nT 27 28] (.cond (.t 28) (.seq (.note (.gc [6]) (.reg [mo (.build [(.int .i64 0),(.int .i64 0),(.sl [])] []) 29,⟨.st 3 (.t 6) (.t 29),none,none⟩,oC 37 7])) .ret) .skip)) (.seq (.note (.gc [6,8]) (.reg [lN 3 8 30,⟨.st 3 (.t 6) (.t 30),none,none⟩,oC 0 7])) .ret))))))
instance Wq_4 {f_:GFleet} {s_:GRotation} {x_:GStep}:WI (F_4 f_ s_ x_) Tryz.prog 64 [GFleet.v f_,GRotation.v s_,GStep.v x_] [] (fun z=>.tup [GRotation.v z.1,.int .i64 z.2]) (fun z=>[]):=⟨fun Q Q' h hQ=>by
 refine acallM mc_4 [.fzc 6] [] [.c 6 (some 3),.t 7] Tryz.func64 fun M=>?_
 unfold F_4 at h
 unfold mc_4
 exact tX⟩
noncomputable def F_50 (f_:GFleet) (x22:Int×(List Int)):Option (Fl (Int×(List Int)) (List Int)) := bif decide (x22.1≤7) then jn (α:=List Int) ((F_7 f_ x22.1).bind fun y30=>bif decide (0<(y30.length:Int)) then chk (room (x22.2.length+[x22.1].length) 8) (some (x22.2++[x22.1])) else some x22.2) fun j28=>chk (in64 (x22.1+1)) (some (.nx ((x22.1+1),j28))) else some (.ex x22.2)
noncomputable def F_2h (f_:GFleet):Option (List Int) := (loop (F_50 f_) (0,[])).bind fun r31=>some r31
@[irreducible] def mc_7k:MC := (.reg [oV 4 7,aI 7 1 8,oV 8 4])
@[irreducible] def mc_50:MC := (.seq (sR [oV 4 5,bC .leq 5 7 6] (.cond (.t 6) .skip (.exit 0))) (.cut (.block 1 (sR [lN 2 1 9,oV 4 10,mo (.call (.f 61) [(.t 9),(.t 10)] [] [11]) 11,lE 11 12,bC .gtr 12 0 13] (.cond (.t 13) (.reg [oV 3 14,oV 4 15,mo (.bslice 1 [(.t 15)]) 16,ap 1 8 14 16 17,oV 17 3]) .skip))) mc_7k))
def mc_2h:MC := (sR [bx 0 1,mo (.mv (.c (.sl []))) 2] (sR [mo (.mv (.c .nils)) 3] (.seq (sR [oC 0 4] (.block 0 (.loop mc_50))) (sR [oV 3 18,oV 18 2] .ret))))
instance Wq_2h {f_:GFleet}:WI (F_2h f_) Tryz.prog 229 [GFleet.v f_] [] (fun z=>.sl (z.map (V.int .i64))) (fun z=>[]):=⟨fun Q Q' h hQ=>by
 refine acallM mc_2h [.fz 2] [] [.t 2] Tryz.func229 fun M=>?_
 unfold F_2h at h
 unfold mc_2h
 replace h:=tY h
 refine tB ?_
 repeat' (first
 | (exact tZ)
 | ((first|refine oblg h ?_|refine roomG h ?_|refine inbG h ?_|refine incG h ?_|refine divG h ?_|refine appG h ?_|refine appC h ?_|refine fork h ?_ ?_|refine forkS h ?_ ?_)<;>clear h<;>intro hc h)
 | (obtain ⟨y,hy,h⟩:=h;have hw:=acall_swe 1900 11 (Wq_7.c.w hy);replace hw:=tY hw;(first|refine M.sC hw ?_|refine M.sD hw ?_);clear hw hy;refine tB ?_)
 | (refine M.jn1 (b:=mc_7k) [1,4] [1] (fun y=>[(3,.osl 2003 1 0 y.length)]) (fun y=>[.o 2003 (.arr 1 (y.map (V.int .i64)))]) [.gc [1,3,4],.acc 3 2003 1] h ?_ ?_<;>first
 | (clear h;intro Qn K hK1 h;replace h:=tY h;refine tB ?_)
  |(clear h;intro y h;unfold mc_7k;replace h:=tY h;refine tB ?_))
 | (refine M.wh1 (b:=mc_50) [1] [1] (fun x=>[(3,.osl 2003 1 0 x.2.length),(4,.int .i64 x.1)]) (fun x=>[.o 2003 (.arr 1 (x.2.map (V.int .i64)))]) [.gc [1,3,4],.acc 3 2003 1] h ?_ ?_<;>first
 | (clear h;intro x Qn K hK2 h;unfold F_50 at h;unfold mc_50;replace h:=tY h;refine tB ?_)
  |(clear h;(try refine tB ?_);exact tU0;done))
 | ((first|refine hK1 _ ?_|refine hK2 _ ?_);(try refine tB ?_);refine ⟨_,h,?_⟩;exact tU0;done)
 | (refine tE ?_;(first|rw [M.lok_compU]|rw [M.lokD_compU]);refine tB ?_)
 | (refine tA ?_)
 | fail)⟩
def F_2i (f_:GFleet) (s_:GRotation) (unit_:Int):Option Bool := (F_1e f_ s_).bind fun y3=>bif y3 then chk (in64 ((s_.Units.length:Int) - 1)) ((F_c unit_ 0 ((s_.Units.length:Int) - 1)).bind fun y4=>bif y4 then chk (inb unit_ s_.Units.length) (bif (s_.Units.getD (unit_).toNat default).Up then chk (inb unit_ s_.Units.length) (some (!decide ((bits .and .i64 ((s_.Units.getD (unit_).toNat default).Used) s_.Valid)=0))) else some false) else some false) else some false
def mc_2i:MC := (sR [bx 0 3,bx 1 4,mF 6] (.seq (.regD [lN 2 3 7,lN 3 4 8,k2 48 7 8 9,oV 9 10,tV 10 11 2,ta_ 10 12 2 4,tL 10 13 12,gT 10 14 (.len false (.t 13)),gT 10 15 (.bin true .sub (.t 14) (cI 1)),gT 10 16 (.call (.f 87) [(.t 11),(cI 0),(.t 15)] [] []),pA 10 16 17,oV 17 18,ta_ 18 19 2 4,tL 18 20 19,tV 18 21 2,gT 18 22 (.iad 3 (.t 20) (.t 21)),ta_ 18 23 0 22,tL 18 24 23,pA 18 24 25,oV 25 26,ta_ 26 27 2 4,tL 26 28 27,tV 26 29 2,gT 26 30 (.iad 3 (.t 28) (.t 29)),ta_ 26 31 2 30,tL 26 32 31,ta_ 26 33 1 4,tL 26 34 33,gT 26 35 (.bin false .and (.t 32) (.t 34)),gT 26 36 (.bin false .neq (.t 35) (cI 0)),pA 26 36 37,oV 37 6] [[],[],[0,1],[2,2],[3],[3],[5,3],[6,3],[7,3],[4,8,3,3],[3,9],[10,9],[11],[12,11],[11],[13,14,11],[15,11],[16,11],[11,17],[18,11],[19],[20,19],[19],[21,22,19],[23,19],[24,19],[19],[26,19],[25,27,19],[28,19],[19,29],[30,19,0,1,2,3,4,5,6,7,8,9,10,11,12,13,14,15,16,17,18,19,20,21,22,23,24,25,26,27,28,29,30]] [[],[],[0,1],[0,1,2],[0,1,2,3],[0,1,2,3],[0,1,2,3,5],[0,1,2,3,5,6],[0,1,2,3,5,6,7],[0,1,2,3,4,5,6,7,8],[0,1,2,3,4,5,6,7,8,9],[0,1,2,3,4,5,6,7,8,9,10],[0,1,2,3,4,5,6,7,8,9,10,11],[0,1,2,3,4,5,6,7,8,9,10,11,12],[0,1,2,3,4,5,6,7,8,9,10,11],[0,1,2,3,4,5,6,7,8,9,10,11,12,13,14],[0,1,2,3,4,5,6,7,8,9,10,11,12,13,14,15],[0,1,2,3,4,5,6,7,8,9,10,11,12,13,14,15,16],[0,1,2,3,4,5,6,7,8,9,10,11,12,13,14,15,16,17],[0,1,2,3,4,5,6,7,8,9,10,11,12,13,14,15,16,17,18],[0,1,2,3,4,5,6,7,8,9,10,11,12,13,14,15,16,17,18,19],[0,1,2,3,4,5,6,7,8,9,10,11,12,13,14,15,16,17,18,19,20],[0,1,2,3,4,5,6,7,8,9,10,11,12,13,14,15,16,17,18,19],[0,1,2,3,4,5,6,7,8,9,10,11,12,13,14,15,16,17,18,19,20,21,22],[0,1,2,3,4,5,6,7,8,9,10,11,12,13,14,15,16,17,18,19,20,21,22,23],[0,1,2,3,4,5,6,7,8,9,10,11,12,13,14,15,16,17,18,19,20,21,22,23,24],[0,1,2,3,4,5,6,7,8,9,10,11,12,13,14,15,16,17,18,19],[0,1,2,3,4,5,6,7,8,9,10,11,12,13,14,15,16,17,18,19,26],[0,1,2,3,4,5,6,7,8,9,10,11,12,13,14,15,16,17,18,19,20,21,22,23,24,25,26,27],[0,1,2,3,4,5,6,7,8,9,10,11,12,13,14,15,16,17,18,19,20,21,22,23,24,25,26,27,28],[0,1,2,3,4,5,6,7,8,9,10,11,12,13,14,15,16,17,18,19,20,21,22,23,24,25,26,27,28,29],[0,1,2,3,4,5,6,7,8,9,10,11,12,13,14,15,16,17,18,19,20,21,22,23,24,25,26,27,28,29,30]]) .ret))
instance Wq_2i {f_:GFleet} {s_:GRotation} {unit_:Int}:WI (F_2i f_ s_ unit_) Tryz.prog 230 [GFleet.v f_,GRotation.v s_,.int .i64 unit_] [] (fun z=>.bool z) (fun z=>[]):=⟨fun Q Q' h hQ=>by
 refine acallM mc_2i [] [] [.t 6] Tryz.func230 fun M=>?_
 unfold F_2i at h
 unfold mc_2i
 exact tX⟩
noncomputable def F_3y (f_:GFleet) (s_:GRotation) (x313:List Int) (a315:Int) (k392:Int) (a393:Int) (x391:Unit):Option (Fl Unit (List Int)) := (F_2i f_ s_ a393).bind fun y401=>bif y401 then chk (room (x313.length+[a315].length) 8) (some (.ex (x313++[a315]))) else some (.nx ())
noncomputable def F_3z (f_:GFleet) (s_:GRotation) (k314:Int) (a315:Int) (x313:List Int):Option (List Int) := (F_7 f_ a315).bind fun y380=>(forL (F_3y f_ s_ x313 a315) y380 0 ()).bind fun o=>o.elim (fun x402=>some x313) (fun r403=>some r403)
noncomputable def F_1f (f_:GFleet) (s_:GRotation):Option (List Int) := (F_2h f_).bind fun y181=>(foldL (F_3z f_ s_) y181 0 []).bind fun x404=>some x404
@[irreducible] def mc_3y:MC := (sR [bT .lss 21 20 22] (.seq (.cond (.t 22) .skip (.exit 2)) (.seq (.block 3 (sR [iA 1 19 21 23,oL 23 24,oV 24 9] (sR [lN 2 2 25,lN 3 3 26,oV 9 27,k3 230 25 26 27 28] (.cond (.t 28) (.seq (.note (.gc [2,3,5,7,11,12,13]) (.reg [oV 5 29,oV 7 30,mo (.bslice 1 [(.t 30)]) 31,ap 1 8 29 31 32,oV 32 5])) (.exit 2)) .skip)))) (.reg [aI 21 1 33,oV 33 21]))))
@[irreducible] def mc_3z:MC := (sR [bT .lss 13 12 14] (.seq (.cond (.t 14) .skip (.exit 0)) (.seq (.block 1 (sR [iA 1 11 13 15,oL 15 16,oV 16 7] (sR [lN 2 2 17,oV 7 18,mo (.call (.f 61) [(.t 17),(.t 18)] [] [19]) 19,lE 19 20,oC 0 21] (.block 2 (.loop mc_3y))))) (.reg [aI 13 1 34,oV 34 13]))))
def mc_1f:MC := (sR [bx 0 2,bx 1 3,mo (.mv (.c (.sl []))) 4] (sR [mo (.mv (.c .nils)) 5] (.seq (sR [lN 2 2 10,k1 229 10 11,lE 11 12,oC 0 13] (.block 0 (.loop mc_3z))) (sR [oV 5 35,oV 35 4] .ret))))
instance Wq_1f {f_:GFleet} {s_:GRotation}:WI (F_1f f_ s_) Tryz.prog 205 [GFleet.v f_,GRotation.v s_] [] (fun z=>.sl (z.map (V.int .i64))) (fun z=>[]):=⟨fun Q Q' h hQ=>by
 refine acallM mc_1f [.fz 4] [] [.t 4] Tryz.func205 fun M=>?_
 unfold F_1f at h
 unfold mc_1f
 replace h:=tY h
 refine tB ?_
 repeat' (first
 | (exact tZ)
 | ((first|refine oblg h ?_|refine roomG h ?_|refine inbG h ?_|refine incG h ?_|refine divG h ?_|refine appG h ?_|refine appC h ?_|refine fork h ?_ ?_|refine forkS h ?_ ?_)<;>clear h<;>intro hc h)
 | (obtain ⟨y,hy,h⟩:=h;(first|have hw:=acall_swe 1900 19 (Wq_7.c.w hy)|have hw:=WI.w hy);replace hw:=tY hw;(first|refine M.sC hw ?_|refine M.sD hw ?_);clear hw hy;refine tB ?_)
 | (refine M.for1 (b:=mc_3y) 21 [2,3,5,7,11,12,13,19,20] [19,2005,3,2] (fun x=>[]) (fun x=>[]) [] h ?_ ?_ ?_<;>first
 | (clear h;intro k a x Qn K hK1 hkN1 ha1 h hf;have hl:=fact_int (factsE_find (n:=20) hf.1 rfl);clear hf;have hkd:=kD hkN1;have hkB1:=kB hkN1;have hkI1:=kI (k:=k) (by omega);unfold F_3y at h;unfold mc_3y;replace h:=tY h;refine tK ha1 hkd hkN1 hkB1 hkI1 ?_)
  |(clear h;intro x K h;replace h:=And.left (And.intro h trivial);unfold mc_3y;replace h:=tY h;refine tB ?_)
  |(clear h;(try refine tB ?_);exact tU0;done))
 | (refine M.fold1 (b:=mc_3z) 13 [2,3,11,12] [3,2] (fun x=>[(5,.osl 2005 1 0 x.length)]) (fun x=>[.o 2005 (.arr 1 (x.map (V.int .i64)))]) [.gc [2,3,5,11,12,13],.acc 5 2005 1] h ?_ ?_ ?_<;>first
 | (clear h;intro k a x Qn K hK2 hkN2 ha2 h hf;have hl:=fact_int (factsE_find (n:=12) hf.1 rfl);clear hf;have hkd:=kD hkN2;have hkB2:=kB hkN2;have hkI2:=kI (k:=k) (by omega);unfold F_3z at h;unfold mc_3z;replace h:=tY h;refine tK ha2 hkd hkN2 hkB2 hkI2 ?_)
  |(clear h;intro x K h;replace h:=And.left (And.intro h trivial);unfold mc_3z;replace h:=tY h;refine tB ?_)
  |(clear h;(try refine tB ?_);exact tU0;done))
 | (first|simp only [ha1]|simp only [ha2])
 | ((first|refine hK1 _ ?_|refine hK2 _ ?_);(try refine tB ?_);refine ⟨_,h,?_⟩;exact tU0;done)
 | (refine tE ?_;(first|rw [M.lok_compU]|rw [M.lokD_compU]);refine tB ?_)
 | (refine tA ?_)
 | fail)⟩
noncomputable def F_73 (a358:Int) (k490:Int) (a491:Int) (x489:Bool):Option Bool := grp ((x489||decide (a358=a491))) fun b495=>some b495
noncomputable def F_61 (y2:List Int) (k357:Int) (a358:Int) (x356:Unit):Option (Fl Unit Bool) := (foldL (F_73 a358) y2 0 false).bind fun x496=>bif (!x496) then some (.ex false) else some (.nx ())
noncomputable def F_2j (f_:GFleet) (s_:GRotation) (t_:GRotation):Option Bool := (F_1f f_ t_).bind fun y2=>(F_1f f_ s_).bind fun y217=>(forL (F_61 y2) y217 0 ()).bind fun o=>o.elim (fun x497=>some true) (fun r498=>some r498)
@[irreducible] def mg_92:List MOp:=[fV 31 32 9,fV 31 33 12,gF 31 34 (.bin false .eql (.t 32) (.t 33)),pO 31 34 35]
@[irreducible] def mc_73:MC := (sR [bT .lss 26 25 27] (.seq (.cond (.t 27) .skip (.exit 2)) (.seq (.block 3 (sR [iA 1 24 26 28,oL 28 29,oV 29 12] (.regI [.op (oV 10 30),.op (oV 30 31),.grp mg_92,.op (oV 35 10)]))) (.reg [aI 26 1 36,oV 36 26]))))
@[irreducible] def mc_61:MC := (sR [bT .lss 20 19 21] (.seq (.cond (.t 21) .skip (.exit 0)) (.seq (.block 1 (sR [iA 1 18 20 22,oL 22 23,oV 23 9] (sR [mF 10] (.seq (sR [oV 7 24,lE 24 25,oC 0 26] (.block 2 (.loop mc_73))) (sR [oV 10 37,nT 37 38] (.cond (.t 38) (sR [mF 6] .ret) .skip)))))) (.reg [aI 20 1 39,oV 39 20]))))
def mc_2j:MC := (sR [bx 0 3,bx 1 4,bx 2 5,mF 6] (sR [lN 2 3 13,lN 3 5 14,k2 205 13 14 15,oV 15 7] (.seq (.seq (.note (.gc [3,4,7,32,33,34]) (.reg [lN 2 3 16,lN 3 4 17,k2 205 16 17 18,lE 18 19,oC 0 20])) (.block 0 (.loop mc_61))) (sR [mT 6] .ret))))
attribute [go_sem] F_73 F_61
instance:GV mg_92 35 [32,33,34]:=⟨⟩
instance:LI mc_73 26 25 [7,9,18,19,20,24,25] [] (fun y:Bool=>[(10,.bool y)]) (fun y=>[]) []:=⟨⟩
instance:LI mc_61 20 19 [7,18,19] [] (fun y:Unit=>[]) (fun y=>[]) []:=⟨⟩
instance Wq_2j {f_:GFleet} {s_ t_:GRotation}:WI (F_2j f_ s_ t_) Tryz.prog 154 [GFleet.v f_,GRotation.v s_,GRotation.v t_] [] (fun z=>.bool z) (fun z=>[]):=⟨fun Q Q' h hQ=>by
 refine acallM mc_2j [] [] [.t 6] Tryz.func154 fun M=>?_
 unfold F_2j at h
 unfold mc_2j
 exact tX⟩
noncomputable def F_2k (f_:GFleet) (s_:GRotation) (x_:GStep):Option Bool := (F_4 f_ s_ x_).bind fun y2=>jn (α:=Bool) (bif decide (y2.2=0) then (F_2j f_ s_ y2.1).bind fun y6=>some y6 else some false) fun j7=>some j7
@[irreducible] def mg_93:List MOp:=[gT 18 19 (.ld (some 2) (.t 3)),gT 18 20 (.ld (some 3) (.t 4)),gT 18 21 (.ld (some 3) (.t 7)),gT 18 22 (.call (.f 154) [(.t 19),(.t 20),(.t 21)] [] []),pA 18 22 23]
def mc_2k:MC := (sR [bx 0 3,bx 1 4,bx 2 5,mF 6] (sR [lN 2 3 10,lN 3 4 11,lN 2 5 12,k3 64 10 11 12 13,oV 13 9,xT 0 9 14,xT 1 9 15,mo (.alloc [(.int .i64 0),(.int .i64 0),(.sl [])]) 7,⟨.st 3 (.t 7) (.t 14),none,none⟩,oV 15 8] (.seq (.note (.gc [3,4,7,8,19,20,21,22]) (.regI [.op (oV 8 16),.op (bC .eql 16 0 17),.op (oV 17 18),.grp mg_93,.op (oV 23 6)])) .ret)))
instance:GI mg_93 [] [] (fun y:Bool=>[(23,.bool y)]) (fun y=>[]):=⟨⟩
instance Wq_2k {f_:GFleet} {s_:GRotation} {x_:GStep}:WI (F_2k f_ s_ x_) Tryz.prog 104 [GFleet.v f_,GRotation.v s_,GStep.v x_] [] (fun z=>.bool z) (fun z=>[]):=⟨fun Q Q' h hQ=>by
 refine acallM mc_2k [] [] [.t 6] Tryz.func104 fun M=>?_
 unfold F_2k at h
 unfold mc_2k
 exact tX⟩
noncomputable def F_62 (f_:GFleet) (s_:GRotation) (x257:Int×(List GStep)) (k351:Int) (a352:GConsumer) (x350:List GStep):Option (List GStep) := (F_2k f_ s_ (GStep.mk x257.1 k351)).bind fun y360=>bif y360 then chk (room (x350.length+[(GStep.mk x257.1 k351)].length) 16) (some (x350++[(GStep.mk x257.1 k351)])) else some x350
noncomputable def F_63 (f_:GFleet) (s_:GRotation) (x257:Int×(List GStep)):Option (Fl (Int×(List GStep)) (List GStep)) := bif decide (x257.1≤8) then (foldL (F_62 f_ s_ x257) f_.Consumers 0 x257.2).bind fun x361=>chk (in64 (x257.1+1)) (some (.nx ((x257.1+1),x361))) else some (.ex x257.2)
noncomputable def F_2l (f_:GFleet) (s_:GRotation):Option (List GStep) := (loop (F_63 f_ s_) (1,[])).bind fun r362=>some r362
@[irreducible] def mc_62:MC := (sR [bT .lss 16 15 17] (.seq (.cond (.t 17) .skip (.exit 2)) (.seq (.block 3 (sR [oV 16 18,oV 18 7] (sR [oV 6 19,oV 7 20,mo (.build [(.int .i64 0),(.int .i64 0)] [(0,1,(.t 19)),(1,1,(.t 20))]) 21,mo (.alloc [(.int .i64 0),(.int .i64 0)]) 8,⟨.st 2 (.t 8) (.t 21),none,none⟩] (sR [lN 2 2 22,lN 3 3 23,lN 2 8 24,k3 104 22 23 24 25] (.cond (.t 25) (.note (.gc [2,3,5,6,8,15,16]) (.reg [oV 5 26,lN 2 8 27,mo (.bslice 2 [(.t 27)]) 28,ap 2 16 26 28 29,oV 29 5])) .skip))))) (.reg [aI 16 1 30,oV 30 16]))))
@[irreducible] def mc_63:MC := (.seq (sR [oV 6 9,bC .leq 9 8 10] (.cond (.t 10) .skip (.exit 0))) (.seq (.block 1 (sR [oF 1 2 13,oL 13 14,lE 14 15,oC 0 16] (.block 2 (.loop mc_62)))) (.reg [oV 6 11,aI 11 1 12,oV 12 6])))
def mc_2l:MC := (sR [bx 0 2,bx 1 3,mo (.mv (.c (.sl []))) 4] (sR [mo (.mv (.c .nils)) 5] (.seq (sR [oC 1 6] (.block 0 (.loop mc_63))) (sR [oV 5 31,oV 31 4] .ret))))
attribute [go_sem] F_62 F_63
instance:LI mc_62 16 15 [2,3,6,15] [3,2] (fun y:List GStep=>[(5,.osl 2005 2 0 y.length)]) (fun y=>[.o 2005 (.arr 2 (y.map GStep.v))]) [.gc [2,3,5,6,15,16],.acc 5 2005 2]:=⟨⟩
instance:LI mc_63 0 0 [2,3] [3,2] (fun y:Int×(List GStep)=>[(5,.osl 2005 2 0 y.2.length),(6,.int .i64 y.1)]) (fun y=>[.o 2005 (.arr 2 (y.2.map GStep.v))]) [.gc [2,3,5,6],.acc 5 2005 2]:=⟨⟩
instance Wq_2l {f_:GFleet} {s_:GRotation}:WI (F_2l f_ s_) Tryz.prog 63 [GFleet.v f_,GRotation.v s_] [] (fun z=>.sl (z.map GStep.v)) (fun z=>[]):=⟨fun Q Q' h hQ=>by
 refine acallM mc_2l [.fz 4] [] [.t 4] Tryz.func63 fun M=>?_
 unfold F_2l at h
 unfold mc_2l
 exact tX⟩
def F_2 (x_:Int) (low_:Int) (high_:Int):Option Bool := grp ((decide (low_≤x_)&&decide (x_≤high_))) fun b2=>some b2
@[irreducible] def mg_94:List MOp:=[tV 10 11 0,tV 10 12 2,gT 10 13 (.bin false .leq (.t 11) (.t 12)),pA 10 13 14]
def mc_2:MC := (sR [mF 6] (.seq (.regI [.op (oV 0 7),.op (oV 1 8),.op (bT .geq 7 8 9),.op (oV 9 10),.grp mg_94,.op (oV 14 6)]) .ret))
instance:GV mg_94 14 [11,12,13]:=⟨⟩
instance Wq_2 {x_ low_ high_:Int}:WI (F_2 x_ low_ high_) Tryz.prog 89 [.int .i64 x_,.int .i64 low_,.int .i64 high_] [] (fun z=>.bool z) (fun z=>[]):=⟨fun Q Q' h hQ=>by
 refine acallM mc_2 [] [] [.t 6] Tryz.func89 fun M=>?_
 unfold F_2 at h
 unfold mc_2
 exact tX⟩
noncomputable def F_64 (replicas_:Int) (x15:Int×Bool×(List GReplica)):Option (Fl (Int×Bool×(List GReplica)) (Bool×(List GReplica))) := bif decide (x15.1<replicas_) then chk (room (x15.2.2.length+[(GReplica.mk 0 true)].length) 16) (chk (in64 (x15.1+1)) (some (.nx ((x15.1+1),x15.2.1,(x15.2.2++[(GReplica.mk 0 true)]))))) else some (.ex (x15.2.1,x15.2.2))
noncomputable def F_40 (replicas_:Int) (bits_:Int) (fence_:Bool):Option (GCluster×Int) := (F_2 replicas_ 1 5).bind fun y7=>bif (!y7) then some ((GCluster.mk false [] [] []),39) else (F_2 bits_ 0 3).bind fun y8=>bif (!y8) then some ((GCluster.mk false [] [] []),39) else (loop (F_64 replicas_) (0,fence_,[])).bind fun r16=>some ((GCluster.mk r16.1 [bits_] r16.2 []),0)
@[irreducible] def mc_64:MC := (sR [bT .lss 23 22 24] (.seq (.cond (.t 24) .skip (.exit 0)) (.seq (.block 1 (.reg [oF 2 8 25,oL 25 26,mo (.build [(.int .i64 0),(.bool false)] [(1,1,(.c (.bool true)))]) 27,mo (.bslice 2 [(.t 27)]) 28,ap 2 16 26 28 29,oF 2 8 30,⟨.st 1 (.t 30) (.t 29),none,none⟩])) (.reg [aI 23 1 31,oV 31 23]))))
def mc_40:MC := (sR [mo (.alloc [(.bool false),(.sl []),(.sl []),(.sl [])]) 6,oC 0 7] (.seq (sR [oV 0 9,mo (.call (.f 89) [(.t 9),(cI 1),(cI 5)] [] []) 10,nT 10 11,oV 11 12,fV 12 13 1,gF 12 14 (.call (.f 89) [(.t 13),(cI 0),(cI 3)] [] []),gF 12 15 (.not (.t 14)),pO 12 15 16] (.cond (.t 16) (.seq (.note (.gc [6]) (.reg [mo (.build [(.bool false),(.sl []),(.sl []),(.sl [])] []) 17,⟨.st 4 (.t 6) (.t 17),none,none⟩,oC 39 7])) .ret) .skip)) (.seq (.note (.gc [0,1,2,6]) (.reg [oV 2 18,oV 1 19,mo (.bslice 1 [(.t 19)]) 20,mo (.build [(.bool false),.nils,.nils,.nils] [(0,1,(.t 18)),(1,1,(.t 20))]) 21,mo (.alloc [(.bool false),(.sl []),(.sl []),(.sl [])]) 8,⟨.st 4 (.t 8) (.t 21),none,none⟩])) (.seq (sR [oV 0 22,oC 0 23] (.block 0 (.loop mc_64))) (sR [lN 4 8 32,⟨.st 4 (.t 6) (.t 32),none,none⟩,oC 0 7] .ret)))))
attribute [go_sem] F_64
instance:LI mc_64 0 0 [6,8,22] [8,20,6] (fun y:Int×Bool×(List GReplica)=>[(23,.int .i64 y.1)]) (fun y=>[.p 8 0 [.bool y.2.1],.p 8 2 [.osl 4130 2 0 y.2.2.length],.o 4130 (.arr 2 (y.2.2.map GReplica.v))]) [.gc [6,8,22,23],.ownC 8 2 4130 2 none]:=⟨⟩
instance Wq_40 {replicas_ bits_:Int} {fence_:Bool}:WI (F_40 replicas_ bits_ fence_) Tryz.prog 65 [.int .i64 replicas_,.int .i64 bits_,.bool fence_] [] (fun z=>.tup [GCluster.v z.1,.int .i64 z.2]) (fun z=>[]):=⟨fun Q Q' h hQ=>by
 refine acallM mc_40 [.fzc 6] [] [.c 6 (some 4),.t 7] Tryz.func65 fun M=>?_
 unfold F_40 at h
 unfold mc_40
 exact tX⟩
def F_65 (k48:Int) (a49:Int) (x47:Unit):Option (Fl Unit Bool) := (F_2 a49 0 3).bind fun y57=>bif (!y57) then some (.ex false) else some (.nx ())
def F_66 (c_:GCluster) (k90:Int) (a91:GReplica) (x89:Unit):Option (Fl Unit Bool) := chk (in64 ((c_.Sets.length:Int) - 1)) ((F_2 a91.Generation 0 ((c_.Sets.length:Int) - 1)).bind fun y99=>bif (!y99) then some (.ex false) else some (.nx ()))
def F_67 (c_:GCluster) (k132:Int) (a133:Int) (x131:Unit):Option (Fl Unit Bool) := chk (in64 ((c_.Sets.length:Int) - 1)) ((F_2 a133 0 ((c_.Sets.length:Int) - 1)).bind fun y141=>bif (!y141) then some (.ex false) else some (.nx ()))
def F_2m (c_:GCluster):Option Bool := jn (α:=Fl Unit Bool) ((F_2 (c_.Replicas.length:Int) 1 5).bind fun y14=>bif (!y14) then grp (true) fun b15=>bif b15 then some (.ex false) else some (.nx ()) else (F_2 (c_.Sets.length:Int) 1 121).bind fun y16=>grp (((!y16)||decide (120<(c_.Snapshots.length:Int)))) fun b17=>bif b17 then some (.ex false) else some (.nx ())) fun o=>o.elim (fun j9=>(forL F_65 c_.Sets 0 ()).bind fun o=>o.elim (fun x58=>(forL (F_66 c_) c_.Replicas 0 ()).bind fun o=>o.elim (fun x100=>(forL (F_67 c_) c_.Snapshots 0 ()).bind fun o=>o.elim (fun x142=>some true) (fun r143=>some r143)) (fun r101=>some r101)) (fun r59=>some r59)) (fun r144=>some r144)
@[irreducible] def mg_7l:List MOp:=[fa_ 21 22 3 1,fL 21 23 22,gF 21 24 (.len false (.t 23)),gF 21 25 (.bin false .gtr (.t 24) (cI 120)),pO 21 25 26]
@[irreducible] def mc_65:MC := (sR [bT .lss 30 29 31] (.seq (.cond (.t 31) .skip (.exit 0)) (.seq (.block 1 (sR [iA 1 28 30 32,oL 32 33,oV 33 4] (sR [oV 4 34,mo (.call (.f 89) [(.t 34),(cI 0),(cI 3)] [] []) 35,nT 35 36] (.cond (.t 36) (sR [mF 2] .ret) .skip)))) (.reg [aI 30 1 37,oV 37 30]))))
@[irreducible] def mc_66:MC := (sR [bT .lss 41 40 42] (.seq (.cond (.t 42) .skip (.exit 2)) (.seq (.block 3 (sR [iA 2 39 41 43,lN 2 43 44,mo (.alloc [(.int .i64 0),(.bool false)]) 6,⟨.st 2 (.t 6) (.t 44),none,none⟩] (sR [oF 0 6 45,oL 45 46,oF 1 1 47,oL 47 48,lE 48 49,sI 49 1 50,mo (.call (.f 89) [(.t 46),(cI 0),(.t 50)] [] []) 51,nT 51 52] (.cond (.t 52) (sR [mF 2] .ret) .skip)))) (.reg [aI 41 1 53,oV 53 41]))))
@[irreducible] def mc_67:MC := (sR [bT .lss 57 56 58] (.seq (.cond (.t 58) .skip (.exit 4)) (.seq (.block 5 (sR [iA 1 55 57 59,oL 59 60,oV 60 8] (sR [oV 8 61,oF 1 1 62,oL 62 63,lE 63 64,sI 64 1 65,mo (.call (.f 89) [(.t 61),(cI 0),(.t 65)] [] []) 66,nT 66 67] (.cond (.t 67) (sR [mF 2] .ret) .skip)))) (.reg [aI 57 1 68,oV 68 57]))))
@[irreducible] def mc_95:MC := (.seq (sR [oF 1 1 27,oL 27 28,lE 28 29,oC 0 30] (.block 0 (.loop mc_65))) (.seq (sR [oF 2 1 38,oL 38 39,lE 39 40,oC 0 41] (.block 2 (.loop mc_66))) (.seq (sR [oF 3 1 54,oL 54 55,lE 55 56,oC 0 57] (.block 4 (.loop mc_67))) (sR [mT 2] .ret))))
def mc_2m:MC := (sR [bx 0 1,mF 2] (.cut (.seq (.regI [.op (oF 2 1 9),.op (oL 9 10),.op (lE 10 11),.op (mo (.call (.f 89) [(.t 11),(cI 1),(cI 5)] [] []) 12),.op (nT 12 13),.op (oV 13 14),.op (fa_ 14 15 1 1),.op (fL 14 16 15),.op (gF 14 17 (.len false (.t 16))),.op (gF 14 18 (.call (.f 89) [(.t 17),(cI 1),(cI 121)] [] [])),.op (gF 14 19 (.not (.t 18))),.op (pO 14 19 20),.op (oV 20 21),.grp mg_7l]) (.cond (.t 26) (sR [mF 2] .ret) .skip)) mc_95))
attribute [go_sem] F_65 F_66 F_67
instance:GV mg_7l 26 [22,23,24,25]:=⟨⟩
instance:GV mg_7l 26 [22,23,24,25]:=⟨⟩
instance:LI mc_65 30 29 [1,28,29] [1] (fun y:Unit=>[]) (fun y=>[]) []:=⟨⟩
instance:LI mc_66 41 40 [1,39,40] [1] (fun y:Unit=>[]) (fun y=>[]) []:=⟨⟩
instance:LI mc_67 57 56 [1,55,56] [1] (fun y:Unit=>[]) (fun y=>[]) []:=⟨⟩
instance:LI mc_95 0 0 [1] [1] (fun y:Unit=>[]) (fun y=>[]) []:=⟨⟩
instance Wq_2m {c_:GCluster}:WI (F_2m c_) Tryz.prog 49 [GCluster.v c_] [] (fun z=>.bool z) (fun z=>[]):=⟨fun Q Q' h hQ=>by
 refine acallM mc_2m [] [] [.t 2] Tryz.func49 fun M=>?_
 unfold F_2m at h
 unfold mc_2m
 exact tX⟩
def F_2n (c_:GCluster):Option GCluster := chk (room c_.Sets.length 8) (chk (room c_.Replicas.length 16) (chk (room c_.Snapshots.length 8) (some (GCluster.mk c_.Fence c_.Sets c_.Replicas c_.Snapshots))))
def mc_2n:MC := (sR [bx 0 1,mo (.alloc [(.bool false),(.sl []),(.sl []),(.sl [])]) 2] (.seq (.regD [oF 0 1 3,oL 3 4,oF 1 1 5,oL 5 6,mo (.app 1 8 (.c .nils) (.t 6)) 7,oF 2 1 8,oL 8 9,mo (.app 2 16 (.c .nils) (.t 9)) 10,oF 3 1 11,oL 11 12,mo (.app 1 8 (.c .nils) (.t 12)) 13,mo (.build [(.bool false),(.sl []),(.sl []),(.sl [])] [(0,1,(.t 4)),(1,1,(.t 7)),(2,1,(.t 10)),(3,1,(.t 13))]) 14,⟨.st 4 (.t 2) (.t 14),none,none⟩] [[],[0],[],[2],[3],[],[5],[6,4],[],[8],[9,7],[1,4,7,10],[11,10,0,1,2,3,4,5,6,7,8,9,10,11]] [[],[0],[],[2],[2,3,1000001],[],[5],[2,3,4,5,6,1000001],[],[8],[2,3,4,5,6,7,8,9,1000001],[0,1,2,3,4,5,6,7,8,9,10],[0,1,2,3,4,5,6,7,8,9,10,11]]) .ret))
instance Wq_2n {c_:GCluster}:WI (F_2n c_) Tryz.prog 37 [GCluster.v c_] [] (fun z=>.agg [.bool z.Fence,.osl 1501 1 0 z.Sets.length,.osl 1502 2 0 z.Replicas.length,.osl 1503 1 0 z.Snapshots.length]) (fun z=>[(1501,.arr 1 (z.Sets.map (V.int .i64))),(1502,.arr 2 (z.Replicas.map GReplica.v)),(1503,.arr 1 (z.Snapshots.map (V.int .i64)))]):=⟨fun Q Q' h hQ=>by
 refine acallM mc_2n [.ownC 2 1 1501 1 none,.ownC 2 2 1502 2 none,.ownC 2 3 1503 1 none] [1501,1502,1503] [.c 2 (some 4)] Tryz.func37 fun M=>?_
 unfold F_2n at h
 unfold mc_2n
 exact tX⟩
def F_2o (c_:GCluster) (x_:GReplicaEvent):Option (GCluster×Int) := (F_2m c_).bind fun y4=>bif (!y4) then some ((GCluster.mk false [] [] []),39) else (F_2n c_).bind fun y6=>jn (α:=Fl GReplicaEvent (GCluster×Int)) (bif decide (x_.Kind=1) then bif (!(decide (x_.Kind=x_.Kind)&&(decide (x_.Replica=0)&&(decide (x_.Snapshot=0)&&decide (x_.Bits=x_.Bits))))) then some (.ex ((GCluster.mk false [] [] []),39)) else (F_2 x_.Bits 0 3).bind fun y16=>bif (!y16) then some (.ex ((GCluster.mk false [] [] []),39)) else bif decide (120<(y6.Sets.length:Int)) then some (.ex ((GCluster.mk false [] [] []),3)) else chk (room (y6.Sets.length+[x_.Bits].length) 8) (some (.ex ((GCluster.mk y6.Fence (y6.Sets++[x_.Bits]) y6.Replicas y6.Snapshots),0))) else jn (α:=Bool) (bif decide (x_.Kind=2) then some true else some (decide (x_.Kind=3))) fun j17=>bif j17 then some (.nx (GReplicaEvent.mk x_.Kind x_.Replica 0 0)) else bif decide (x_.Kind=4) then some (.nx (GReplicaEvent.mk x_.Kind x_.Replica x_.Snapshot 0)) else some (.nx (GReplicaEvent.mk x_.Kind 0 0 0))) fun o=>o.elim (fun j12=>jn (α:=Fl Unit (GCluster×Int)) (bif (!(decide (x_.Kind=j12.Kind)&&(decide (x_.Replica=j12.Replica)&&(decide (x_.Snapshot=j12.Snapshot)&&decide (x_.Bits=j12.Bits))))) then some (.ex ((GCluster.mk false [] [] []),39)) else (F_2 x_.Kind 2 4).bind fun y28=>bif (!y28) then some (.ex ((GCluster.mk false [] [] []),39)) else chk (in64 ((y6.Replicas.length:Int) - 1)) ((F_2 x_.Replica 0 ((y6.Replicas.length:Int) - 1)).bind fun y29=>bif (!y29) then some (.ex ((GCluster.mk false [] [] []),39)) else bif decide (x_.Kind=4) then chk (in64 ((y6.Snapshots.length:Int) - 1)) ((F_2 x_.Snapshot 0 ((y6.Snapshots.length:Int) - 1)).bind fun y30=>bif (!y30) then some (.ex ((GCluster.mk false [] [] []),39)) else some (.nx ())) else some (.nx ()))) fun o=>o.elim (fun j24=>chk (inb x_.Replica y6.Replicas.length) (jn (α:=Fl (Bool×(List GReplica)×(List Int)) (GCluster×Int)) (bif decide (x_.Kind=2) then chk (in64 ((y6.Sets.length:Int) - 1)) (some (.nx (y6.Fence,y6.Replicas.set ((x_.Replica).toNat) (GReplica.mk ((y6.Sets.length:Int) - 1) true),y6.Snapshots))) else bif decide (x_.Kind=3) then bif decide (120≤(y6.Snapshots.length:Int)) then some (.ex ((GCluster.mk false [] [] []),3)) else chk (room (y6.Snapshots.length+[(y6.Replicas.getD ((x_.Replica).toNat) default).Generation].length) 8) (some (.nx (y6.Fence,y6.Replicas,(y6.Snapshots++[(y6.Replicas.getD ((x_.Replica).toNat) default).Generation])))) else chk (inb x_.Snapshot y6.Snapshots.length) (some (.nx (y6.Fence,y6.Replicas.set ((x_.Replica).toNat) (GReplica.mk (y6.Snapshots.getD ((x_.Snapshot).toNat) default) (!y6.Fence)),y6.Snapshots)))) fun o=>o.elim (fun j31=>some ((GCluster.mk j31.1 y6.Sets j31.2.1 j31.2.2),0)) (fun r32=>some r32))) (fun r33=>some r33)) (fun r34=>some r34)
@[irreducible] def mc_7m:MC := (.cond (.t 47) (.reg [oF 1 3 50,oL 50 51,oF 1 6 52,⟨.st 1 (.t 52) (.t 51),none,none⟩]) (sR [bC .eql 18 4 54,oV 54 53] (.cond (.t 53) (.regD [oF 1 3 55,oL 55 56,oF 2 3 57,oL 57 58,oF 1 6 59,⟨.st 1 (.t 59) (.t 56),none,none⟩,oF 2 6 60,⟨.st 1 (.t 60) (.t 58),none,none⟩] [[],[0],[],[2],[0,1],[4,1,0,1],[0,1,2,3,4,5],[6,3,5,0,1,2,3,4,5]] [[],[0],[],[2],[0,1],[0,1,4],[0,1,2,3,4,5],[0,1,2,3,4,5,6]]) .skip)))
@[irreducible] def mc_7n:MC := (sR [lN 4 2 146,⟨.st 4 (.t 4) (.t 146),none,none⟩,oC 0 5] .ret)
@[irreducible] def mc_7o:MC := (sR [oF 2 2 96,oL 96 97,oF 1 3 98,oL 98 99,iA 2 97 99 100,oV 100 7] (.cut (sR [oF 0 3 101,oL 101 102] (.block 1 (sR [bC .eql 102 2 119,oV 119 118] (.cond (.t 118) (.note (.gc [2,4,7]) (.reg [oV 7 120,oV 7 121,oF 1 2 122,oL 122 123,lE 123 124,sI 124 1 125,mo (.nck (.t 120)) 126,oF 0 126 127,⟨.st 1 (.t 127) (.t 125),none,none⟩,mo (.nck (.t 121)) 128,oF 1 128 129,⟨.st 1 (.t 129) (.c (.bool true)),none,none⟩])) (sR [bC .eql 102 3 131,oV 131 130] (.cond (.t 130) (.seq (.seq (.note (.gc [2,4,7]) (.reg [oF 3 2 132,oL 132 133,lE 133 134,bC .geq 134 120 135])) (.cond (.t 135) (sR [mo (.build [(.bool false),(.sl []),(.sl []),(.sl [])] []) 136,⟨.st 4 (.t 4) (.t 136),none,none⟩,oC 3 5] .ret) .skip)) (.regD [oF 3 2 137,oL 137 138,oV 7 139,mo (.nck (.t 139)) 140,oF 0 140 141,oL 141 142,mo (.bslice 1 [(.t 142)]) 143,ap 1 8 138 143 144,oF 3 2 145,⟨.st 1 (.t 145) (.t 144),none,none⟩] [[],[0],[],[2],[3],[4],[5],[1,6],[0,1,2,3,4,5,6,7],[8,7,7,0,1,2,3,4,5,6,7]] [[],[0],[],[2],[2,3],[2,3,4],[2,3,4,5],[0,1,2,3,4,5,6],[0,1,2,3,4,5,6,7],[0,1,2,3,4,5,6,7,8]])) (.note (.gc [2,3,4,7]) (.regD [oV 7 103,oV 7 104,oF 3 2 105,oL 105 106,oF 2 3 107,oL 107 108,iA 1 106 108 109,oL 109 110,oF 0 2 111,oL 111 112,nT 112 113,mo (.nck (.t 103)) 114,oF 0 114 115,⟨.st 1 (.t 115) (.t 110),none,none⟩,mo (.nck (.t 104)) 116,oF 1 116 117,⟨.st 1 (.t 117) (.t 113),none,none⟩] [[],[],[],[2],[],[4],[3,5],[6],[],[8],[9],[0,0,2,3,4,5,6,7],[11,0,2,3,4,5,6,7],[12,7,0,2,3,4,5,6,7],[1,0,1,2,3,4,5,6,7,8,9,10,11,12,13],[14,0,1,2,3,4,5,6,7,8,9,10,11,12,13],[15,10,13,0,1,2,3,4,5,6,7,8,9,10,11,12,13]] [[],[],[],[2],[],[4],[2,3,4,5],[2,3,4,5,6],[],[8],[8,9],[0,2,3,4,5,6,7],[0,2,3,4,5,6,7,11],[0,2,3,4,5,6,7,11,12],[0,1,2,3,4,5,6,7,8,9,10,11,12,13],[0,1,2,3,4,5,6,7,8,9,10,11,12,13,14],[0,1,2,3,4,5,6,7,8,9,10,11,12,13,14,15]])))))))) mc_7n))
@[irreducible] def mc_7p:MC := (.cut (sR [lN 4 3 61,lN 4 6 62,mo (.eqs true [0,0,0,0] (.t 61) (.t 62)) 63,oV 63 64,fa_ 64 65 0 3,fL 64 66 65,gF 64 67 (.call (.f 89) [(.t 66),(cI 2),(cI 4)] [] []),gF 64 68 (.not (.t 67)),pO 64 68 69,oV 69 70,fa_ 70 71 1 3,fL 70 72 71,fa_ 70 73 2 2,fL 70 74 73,gF 70 75 (.len false (.t 74)),gF 70 76 (.bin true .sub (.t 75) (cI 1)),gF 70 77 (.call (.f 89) [(.t 72),(cI 0),(.t 76)] [] []),gF 70 78 (.not (.t 77)),pO 70 78 79,oV 79 80,fa_ 80 81 0 3,fL 80 82 81,gF 80 83 (.bin false .eql (.t 82) (cI 4)),fV 80 84 83,ta_ 84 85 2 3,tL 84 86 85,ta_ 84 87 3 2,tL 84 88 87,gT 84 89 (.len false (.t 88)),gT 84 90 (.bin true .sub (.t 89) (cI 1)),gT 84 91 (.call (.f 89) [(.t 86),(cI 0),(.t 90)] [] []),gT 84 92 (.not (.t 91)),gF 80 93 (.pick (.t 84) (.t 92) (.c (.bool false))),pO 80 93 94] (.cond (.t 94) (.seq (.note (.gc [4]) (.reg [mo (.build [(.bool false),(.sl []),(.sl []),(.sl [])] []) 95,⟨.st 4 (.t 4) (.t 95),none,none⟩,oC 39 5])) .ret) .skip)) mc_7o)
def mc_2o:MC := (sR [bx 0 2,bx 1 3,mo (.alloc [(.bool false),(.sl []),(.sl []),(.sl [])]) 4,oC 0 5] (.seq (sR [lN 4 2 8,k1 49 8 9,nT 9 10] (.cond (.t 10) (.seq (.note (.gc [4]) (.reg [mo (.build [(.bool false),(.sl []),(.sl []),(.sl [])] []) 11,⟨.st 4 (.t 4) (.t 11),none,none⟩,oC 39 5])) .ret) .skip)) (sR [oF 0 3 12,oL 12 13,mo (.build [(.int .i64 0),(.int .i64 0),(.int .i64 0),(.int .i64 0)] [(0,1,(.t 13))]) 14,mo (.alloc [(.int .i64 0),(.int .i64 0),(.int .i64 0),(.int .i64 0)]) 6,⟨.st 4 (.t 6) (.t 14),none,none⟩] (.seq (.note (.gc [2,3,4,6,28,29,30,31,65,66,67,68,71,72,73,74,75,76,77,78,81,82,83,84,85,86,87,88,89,90,91,92,93]) (.reg [lN 4 2 15,mo (.call (.f 37) [(.t 15)] [] [34097,34098,34099]) 16,⟨.st 4 (.t 2) (.t 16),none,none⟩])) (.cut (sR [oF 0 3 17,oL 17 18] (.block 0 (sR [bC .eql 18 1 20,oV 20 19] (.cond (.t 19) (sR [oF 3 3 21,oL 21 22,oF 3 6 23,⟨.st 1 (.t 23) (.t 22),none,none⟩] (.seq (.seq (.note (.gc [2,3,4,6,28,29,30,31]) (.reg [lN 4 3 24,lN 4 6 25,mo (.eqs true [0,0,0,0] (.t 24) (.t 25)) 26,oV 26 27,fa_ 27 28 3 3,fL 27 29 28,gF 27 30 (.call (.f 89) [(.t 29),(cI 0),(cI 3)] [] []),gF 27 31 (.not (.t 30)),pO 27 31 32])) (.cond (.t 32) (.seq (.note (.gc [4]) (.reg [mo (.build [(.bool false),(.sl []),(.sl []),(.sl [])] []) 33,⟨.st 4 (.t 4) (.t 33),none,none⟩,oC 39 5])) .ret) .skip)) (.seq (.seq (.note (.gc [2,3,4]) (.reg [oF 1 2 34,oL 34 35,lE 35 36,bC .gtr 36 120 37])) (.cond (.t 37) (sR [mo (.build [(.bool false),(.sl []),(.sl []),(.sl [])] []) 38,⟨.st 4 (.t 4) (.t 38),none,none⟩,oC 3 5] .ret) .skip)) (sR [oF 1 2 39,oL 39 40,oF 3 3 41,oL 41 42,mo (.bslice 1 [(.t 42)]) 43,ap 1 8 40 43 44,oF 1 2 45,⟨.st 1 (.t 45) (.t 44),none,none⟩] (.seq (.note (.gc [2,4]) (.reg [lN 4 2 46,⟨.st 4 (.t 4) (.t 46),none,none⟩,oC 0 5])) .ret))))) (.cut (sR [bC .eql 18 2 48,oV 48 47] (.cond (.t 47) .skip (.reg [bC .eql 18 3 49,oV 49 47]))) mc_7m))))) mc_7p)))))
instance Wq_2o {c_:GCluster} {x_:GReplicaEvent}:WI (F_2o c_ x_) Tryz.prog 66 [GCluster.v c_,GReplicaEvent.v x_] [] (fun z=>.tup [GCluster.v z.1,.int .i64 z.2]) (fun z=>[]):=⟨fun Q Q' h hQ=>by
 refine acallM mc_2o [.fzc 4] [] [.c 4 (some 4),.t 5] Tryz.func66 fun M=>?_
 unfold F_2o at h
 unfold mc_2o
 replace h:=tY h
 refine tB ?_
 repeat' (first
 | (exact tZ)
 | ((first|refine oblg h ?_|refine roomG h ?_|refine inbG h ?_|refine incG h ?_|refine divG h ?_|refine appG h ?_|refine appC h ?_|refine fork h ?_ ?_|refine forkS h ?_ ?_)<;>clear h<;>intro hc h)
 | (obtain ⟨y,hy,h⟩:=h;(first|have hw:=acall_swe 1503 34099 (acall_swe 1502 34098 (acall_swe 1501 34097 (Wq_2n.c.w hy)))|have hw:=WI.w hy);replace hw:=tY hw;(first|refine M.sC hw ?_|refine M.sD hw ?_);clear hw hy;refine tB ?_)
 | (refine M.jn1 (b:=mc_7m) [2,3,4,6,18] [6,4,3,2,34097,34098,34099] (fun y=>[(47,.bool y)]) (fun y=>[]) [] h ?_ ?_<;>first
 | (clear h;intro Qn K hK1 h;replace h:=tY h;refine tB ?_)
  |(clear h;intro y h;unfold mc_7m;replace h:=tY h;refine tB ?_))
 | (refine M.jnE (b:=mc_7n) [2,4] [4,2,34097] (fun y=>[]) (fun y=>[.p 2 0 [.bool y.1],.p 2 2 [.osl 34098 2 0 y.2.1.length],.p 2 3 [.osl 4035 1 0 y.2.2.length],.o 34098 (.arr 2 (y.2.1.map GReplica.v)),.o 4035 (.arr 1 (y.2.2.map (V.int .i64)))]) [.gc [2,4],.ownC 2 3 4035 1 none] h ?_ ?_<;>first
 | (clear h;intro Qn K hK2 h;replace h:=tY h;refine tB ?_)
  |(clear h;intro y h;unfold mc_7n;replace h:=tY h;refine tB ?_))
 | (refine M.jnE (b:=mc_7o) [2,3,4] [4,3,2,34097,34098,34099] (fun y=>[]) (fun y=>[]) [] h ?_ ?_<;>first
 | (clear h;intro Qn K hK3 h;replace h:=tY h;refine tB ?_)
  |(clear h;intro y h;unfold mc_7o;replace h:=tY h;refine tB ?_))
 | (refine M.jnE (b:=mc_7p) [2,3,4,6] [4,3,2,34097,34098,34099] (fun y=>[]) (fun y=>[.o 6 (.cells [.int .i64 y.Kind,.int .i64 y.Replica,.int .i64 y.Snapshot,.int .i64 y.Bits])]) [] h ?_ ?_<;>first
 | (clear h;intro Qn K hK4 h;replace h:=tY h;refine tB ?_)
  |(clear h;intro y h;unfold mc_7p;replace h:=tY h;refine tB ?_))
 | (exact absurd (hc.symm.trans (by assumption:_=true)) xK)
 | (exact absurd (hc.symm.trans (by assumption:_=false)) xK.symm)
 | ((first|refine hK1 _ ?_|refine hK2 _ ?_|refine hK3 _ ?_|refine hK4 _ ?_);(try refine tB ?_);refine ⟨_,h,?_⟩;exact tU0;done)
 | (refine tE ?_;(first|rw [M.lok_compU]|rw [M.lokD_compU]);refine tB ?_)
 | (refine ⟨_,aggE (by first|exact inb_toNat (by assumption)|exact inb_nat (by assumption)|assumption) rfl,?_⟩;(first|rw [M.lok_compU]|rw [M.lokD_compU]);refine tB ?_)
 | (refine ⟨_,aggS (by first|exact inb_toNat (by assumption)|exact inb_nat (by assumption)|assumption),?_⟩;(first|rw [M.lok_compU]|rw [M.lokD_compU]|(simp only [V.cells,xC,wT];first|rw [M.lok_comp]|rw [M.lokD_comp]));refine tB ?_)
 | (refine ⟨_,getE_mapset (by first|exact inb_toNat (by assumption)|exact inb_nat (by assumption)),?_⟩;(first|rw [M.lok_compU]|rw [M.lokD_compU]|(simp only [V.cells];first|rw [M.lok_comp]|rw [M.lokD_comp]));refine tB ?_)
 | (refine tA ?_)
 | fail)⟩
end Go.Ab
set_option maxRecDepth 20000
set_option maxHeartbeats 2000000
namespace Go.Ab
open Go.Proofs
noncomputable def F_68 (x43:Int×Int×(List GConsumer)×GTape):Option (Fl (Int×Int×(List GConsumer)×GTape) (Int×(List GConsumer)×GTape)) := bif decide (0<x43.1) then (F_0 x43.2.2.2 2).bind fun y53=>(F_0 y53.2 2).bind fun y54=>(F_0 y54.2 2).bind fun y55=>chk (room (x43.2.2.1.length+[(GConsumer.mk y53.1 (decide (y54.1=1)) (decide (y55.1=1)))].length) 16) (chk (in64 (x43.1 - 1)) (some (.nx ((x43.1 - 1),x43.2.1,(x43.2.2.1++[(GConsumer.mk y53.1 (decide (y54.1=1)) (decide (y55.1=1)))]),y55.2)))) else some (.ex (x43.2.1,x43.2.2.1,x43.2.2.2))
noncomputable def F_1g (t_:GTape) (most_:Int):Option (GFleet×GTape) := (F_1 t_ 1 2).bind fun y2=>(F_1 y2.2 1 most_).bind fun y28=>(loop F_68 (y28.1,y2.1,[],y28.2)).bind fun r56=>some ((GFleet.mk r56.1 r56.2.1),r56.2.2)
@[irreducible] def mc_68:MC := (.seq (sR [oV 6 13,bC .gtr 13 0 14] (.cond (.t 14) .skip (.exit 0))) (.seq (.block 1 (.regD [oF 1 5 17,oL 17 18,oV 0 19,mo (.call (.f 12) [(.t 19),(cI 2)] [1000] []) 20,oV 0 21,mo (.call (.f 12) [(.t 21),(cI 2)] [1000] []) 22,bC .eql 22 1 23,oV 0 24,mo (.call (.f 12) [(.t 24),(cI 2)] [1000] []) 25,bC .eql 25 1 26,mo (.build [(.int .i64 0),(.bool false),(.bool false)] [(0,1,(.t 20)),(1,1,(.t 23)),(2,1,(.t 26))]) 27,mo (.bslice 3 [(.t 27)]) 28,ap 3 16 18 28 29,oF 1 5 30,⟨.st 1 (.t 30) (.t 29),none,none⟩] [[],[0],[],[2],[],[4,3],[5],[],[7,5],[8],[3,6,9],[10],[1,11,8],[0,1,2,3,4,5,6,7,8,9,10,11,12],[13,12,12,0,1,2,3,4,5,6,7,8,9,10,11,12]] [[],[0],[],[2],[],[2,3,4],[2,3,4,5],[],[2,3,4,5,7],[2,3,4,5,7,8],[2,3,4,5,6,7,8,9],[2,3,4,5,6,7,8,9,10],[0,1,2,3,4,5,6,7,8,9,10,11],[0,1,2,3,4,5,6,7,8,9,10,11,12],[0,1,2,3,4,5,6,7,8,9,10,11,12,13]])) (.note (.gc [0,4,5,6]) (.reg [oV 6 15,sI 15 1 16,oV 16 6]))))
def mc_1g:MC := (sR [mo (.alloc [(.int .i64 0),(.sl [])]) 4] (sR [oV 0 7,mo (.call (.f 35) [(.t 7),(cI 1),(cI 2)] [1000] []) 8,mo (.build [(.int .i64 0),.nils] [(0,1,(.t 8))]) 9,mo (.alloc [(.int .i64 0),(.sl [])]) 5,⟨.st 2 (.t 5) (.t 9),none,none⟩] (.seq (sR [oV 0 10,oV 1 11,mo (.call (.f 35) [(.t 10),(cI 1),(.t 11)] [1000] []) 12,oV 12 6] (.block 0 (.loop mc_68))) (sR [lN 2 5 31,⟨.st 2 (.t 4) (.t 31),none,none⟩] .ret))))
attribute [go_sem] F_68
instance:LI mc_68 0 0 [0,4,5] [4] (fun y:Int×Int×(List GConsumer)×GTape=>[(6,.int .i64 y.1)]) (fun y=>[.o 5 (.cells [.int .i64 y.2.1,.osl 4081 3 0 y.2.2.1.length]),.o 4081 (.arr 3 (y.2.2.1.map GConsumer.v)),.o 1000 (.cells [.sl (y.2.2.2.L.map (V.int .i64)),.int .i64 y.2.2.2.at_])]) [.gc [0,4,5,6],.ownC 5 1 4081 3 none]:=⟨⟩
instance Wq_1g {t_:GTape} {most_:Int}:WI (F_1g t_ most_) Tryz.prog 60 [.ptr 1000 0,.int .i64 most_] [(1000,.cells [.sl (t_.L.map (V.int .i64)),.int .i64 t_.at_])] (fun z=>.agg [.int .i64 z.1.Slots,.osl 1501 3 0 z.1.Consumers.length]) (fun z=>[(1000,.cells [.sl (z.2.L.map (V.int .i64)),.int .i64 z.2.at_]),(1501,.arr 3 (z.1.Consumers.map GConsumer.v))]):=⟨fun Q Q' h hQ=>by
 refine acallM mc_1g [.ownC 4 1 1501 3 none] [1000,1501] [.c 4 (some 2)] Tryz.func60 fun M=>?_
 unfold F_1g at h
 unfold mc_1g
 exact tX⟩
noncomputable def F_41 (y2:GFleet×GTape) (k46:Int) (a47:GConsumer) (x45:List GConsumer):Option (List GConsumer) := chk (inb k46 x45.length) ((F_7 (GFleet.mk y2.1.Slots x45) ((x45.getD ((k46).toNat) default).Pool)).bind fun y55=>bif decide ((y55.length:Int)=1) then chk (inb k46 x45.length) (chk (inb k46 (x45.set ((k46).toNat) (GConsumer.mk ((x45.getD ((k46).toNat) default).Pool) ((x45.getD ((k46).toNat) default).Dual) true)).length) (bif (x45.getD ((k46).toNat) default).Dual then chk (inb k46 (x45.set ((k46).toNat) (GConsumer.mk ((x45.getD ((k46).toNat) default).Pool) ((x45.getD ((k46).toNat) default).Dual) true)).length) (some (x45.set ((k46).toNat) (GConsumer.mk ((x45.getD ((k46).toNat) default).Pool) true true))) else chk (inb k46 (x45.set ((k46).toNat) (GConsumer.mk ((x45.getD ((k46).toNat) default).Pool) ((x45.getD ((k46).toNat) default).Dual) true)).length) (some (x45.set ((k46).toNat) (GConsumer.mk ((x45.getD ((k46).toNat) default).Pool) (decide (y2.1.Slots=1)) true))))) else some x45)
noncomputable def F_2p (t_:GTape) (most_:Int):Option (GFleet×GTape) := (F_1g t_ most_).bind fun y2=>(foldL (F_41 y2) y2.1.Consumers 0 y2.1.Consumers).bind fun x56=>some ((GFleet.mk y2.1.Slots x56),y2.2)
@[irreducible] def mc_41:MC := (sR [bT .lss 14 13 15] (.seq (.cond (.t 15) .skip (.exit 0)) (.seq (.block 1 (sR [oV 14 16,iA 3 12 14 17,lN 3 17 18,mo (.alloc [(.int .i64 0),(.bool false),(.bool false)]) 7,oV 16 6,⟨.st 3 (.t 7) (.t 18),none,none⟩] (sR [lN 2 5 19,oF 0 7 20,oL 20 21,mo (.call (.f 61) [(.t 19),(.t 21)] [32561] [22]) 22,lE 22 23,bC .eql 23 1 24] (.cond (.t 24) (.seq (.note (.gc [4,5,6,12,13,14,40,41,42]) (.reg [oF 1 5 25,oL 25 26,oV 6 27,iA 3 26 27 28,oF 2 28 29,⟨.st 1 (.t 29) (.c (.bool true)),none,none⟩])) (.regD [oF 1 5 30,oL 30 31,oV 6 32,oF 1 5 33,oL 33 34,oV 6 35,iA 3 34 35 36,oF 1 36 37,oL 37 38,oV 38 39,fa_ 39 40 0 5,fL 39 41 40,gF 39 42 (.bin false .eql (.t 41) (cI 1)),pO 39 42 43,iA 3 31 32 44,oF 1 44 45,⟨.st 1 (.t 45) (.t 43),none,none⟩] [[],[0],[],[],[3],[],[4,5],[6],[7],[8],[9],[10,9],[11,9],[9,12],[1,2,0,1,2,3,4,5,6,7,8,9,10,11,12,13],[14,0,1,2,3,4,5,6,7,8,9,10,11,12,13],[15,13,9,0,1,2,3,4,5,6,7,8,9,10,11,12,13]] [[],[0],[],[],[3],[],[3,4,5],[3,4,5,6],[3,4,5,6,7],[3,4,5,6,7,8],[3,4,5,6,7,8,9],[3,4,5,6,7,8,9,10],[3,4,5,6,7,8,9,10,11],[3,4,5,6,7,8,9,10,11,12],[0,1,2,3,4,5,6,7,8,9,10,11,12,13],[0,1,2,3,4,5,6,7,8,9,10,11,12,13,14],[0,1,2,3,4,5,6,7,8,9,10,11,12,13,14,15]])) .skip)))) (.reg [aI 14 1 46,oV 46 14]))))
def mc_2p:MC := (sR [mo (.alloc [(.int .i64 0),(.sl [])]) 4] (sR [oV 0 8,oV 1 9,mo (.call (.f 60) [(.t 8),(.t 9)] [1000] [32561]) 10,mo (.alloc [(.int .i64 0),(.sl [])]) 5,⟨.st 2 (.t 5) (.t 10),none,none⟩] (.seq (sR [oF 1 5 11,oL 11 12,lE 12 13,oC 0 14] (.block 0 (.loop mc_41))) (sR [lN 2 5 47,⟨.st 2 (.t 4) (.t 47),none,none⟩] .ret))))
theorem Wl_ref32_Units_0_1 {f_:GFleet} {pool_:Int} {y:List Int} (hy:F_7 f_ pool_=some y):ACall Tryz.prog 61 [.agg [.int .i64 f_.Slots,.osl 1000 3 0 f_.Consumers.length],.int .i64 pool_] [(1000,.arr 3 (f_.Consumers.map GConsumer.v))] (fun r H=>r=.osl 1900 1 0 y.length∧H=(1000,.arr 3 (f_.Consumers.map GConsumer.v))::[(1900,.arr 1 (y.map (V.int .i64)))]):=by
 refine acall_lend (n:=1000) (k:=3) (args:=[.agg [.int .i64 f_.Slots,.osl 1000 3 0 f_.Consumers.length],.int .i64 pool_]) ?_ (by simp [V.sealOK,V.sealOKs]) (by simp [V.lf,V.lfL,inHeap]) rfl (fun id o ho=>?_)
 ·have h:=Wq_7.c.w hy
  simpa [V.shut,V.sealL,take_ml,GFleet.v] using h
 ·obtain rfl:=find_only ho
  exact ⟨_,_,_,rfl,by simp [V.cells,V.lf,V.lfL]⟩
instance Wq_2p {t_:GTape} {most_:Int}:WI (F_2p t_ most_) Tryz.prog 32 [.ptr 1000 0,.int .i64 most_] [(1000,.cells [.sl (t_.L.map (V.int .i64)),.int .i64 t_.at_])] (fun z=>GFleet.v z.1) (fun z=>[(1000,.cells [.sl (z.2.L.map (V.int .i64)),.int .i64 z.2.at_])]):=⟨fun Q Q' h hQ=>by
 refine acallM mc_2p [.fzc 4] [1000] [.c 4 (some 2)] Tryz.func32 fun M=>?_
 unfold F_2p at h
 unfold mc_2p
 replace h:=tY h
 refine tB ?_
 repeat' (first
 | (exact tZ)
 | ((first|refine oblg h ?_|refine roomG h ?_|refine inbG h ?_|refine incG h ?_|refine divG h ?_|refine appG h ?_|refine appC h ?_|refine fork h ?_ ?_|refine forkS h ?_ ?_)<;>clear h<;>intro hc h)
 | (obtain ⟨y,hy,h⟩:=h;(first|have hw:=acall_swe 1501 32561 (Wq_1g.c.w hy)|have hw:=acall_swe 1900 22 (acall_swe 1000 32561 (Wl_ref32_Units_0_1 hy)));replace hw:=tY hw;(first|refine M.sC hw ?_|refine M.sD hw ?_);clear hw hy;refine tB ?_)
 | (refine M.fold1 (b:=mc_41) 14 [4,5,13] [5,4,1000] (fun x=>[(12,.osl 32561 3 0 x.length)]) (fun x=>[.o 32561 (.arr 3 (x.map GConsumer.v)),.p 5 1 [.osl 32561 3 0 x.length]]) [] h ?_ ?_ ?_<;>first
 | (clear h;intro k a x Qn K hK1 hkN1 ha1 h hf;have hl:=fact_int (factsE_find (n:=13) hf.1 rfl);clear hf;have hkd:=kD hkN1;have hkB1:=kB hkN1;have hkI1:=kI (k:=k) (by omega);unfold F_41 at h;unfold mc_41;replace h:=tY h;refine tK ha1 hkd hkN1 hkB1 hkI1 ?_)
  |(clear h;intro x K h;replace h:=And.left (And.intro h trivial);unfold mc_41;replace h:=tY h;refine tB ?_)
  |(clear h;(try refine tB ?_);exact tU0;done))
 | (simp only [ha1])
 | (exact absurd (hc.symm.trans (by assumption:_=true)) xK)
 | (exact absurd (hc.symm.trans (by assumption:_=false)) xK.symm)
 | (refine hK1 _ ?_;(try refine tB ?_);refine ⟨_,h,?_⟩;exact tU0;done)
 | (refine tE ?_;(first|rw [M.lok_compU]|rw [M.lokD_compU]);refine tB ?_)
 | (refine ⟨_,aggE (by first|exact inb_toNat (by assumption)|exact inb_nat (by assumption)|assumption) rfl,?_⟩;(first|rw [M.lok_compU]|rw [M.lokD_compU]);refine tB ?_)
 | (refine ⟨_,aggS (by first|exact inb_toNat (by assumption)|exact inb_nat (by assumption)|assumption),?_⟩;(first|rw [M.lok_compU]|rw [M.lokD_compU]|(simp only [V.cells,xC,wT];first|rw [M.lok_comp]|rw [M.lokD_comp]));refine tB ?_)
 | (refine ⟨_,getE_mapset (by first|exact inb_toNat (by assumption)|exact inb_nat (by assumption)),?_⟩;(first|rw [M.lok_compU]|rw [M.lokD_compU]|(simp only [V.cells];first|rw [M.lok_comp]|rw [M.lokD_comp]));refine tB ?_)
 | (refine tA ?_)
 | fail)⟩
noncomputable def F_69 (f_:GFleet) (x55:Int×GRotation×GTape):Option (Fl (Int×GRotation×GTape) (Sum (GRotation×GTape) (GRotation×GTape))) := bif decide (0<x55.1) then (F_2l f_ x55.2.1).bind fun y69=>bif decide ((y69.length:Int)=0) then some (.ex (.inr (x55.2.1,x55.2.2))) else (F_0 x55.2.2 (y69.length:Int)).bind fun y70=>chk (inb y70.1 y69.length) ((F_4 f_ x55.2.1 (y69.getD (y70.1).toNat default)).bind fun y71=>chk (in64 (x55.1 - 1)) (some (.nx ((x55.1 - 1),y71.1,y70.2)))) else some (.ex (.inl (x55.2.1,x55.2.2)))
noncomputable def F_2q (t_:GTape) (f_:GFleet):Option (GRotation×GTape) := (F_2d f_).bind fun y2=>(F_0 t_ 16).bind fun y36=>(loop (F_69 f_) (y36.1,y2.1,y36.2)).bind fun r72=>Sum.elim (fun u73=>some (u73.1,u73.2)) (fun u74=>some u74) r72
@[irreducible] def mc_69:MC := (.seq (sR [oV 7 16,bC .gtr 16 0 17] (.cond (.t 17) .skip (.exit 0))) (.seq (.block 1 (sR [lN 2 3 20,lN 3 5 21,k2 63 20 21 22,oV 22 8] (.seq (sR [oV 8 23,lE 23 24,bC .eql 24 0 25] (.cond (.t 25) (sR [lN 3 5 26,⟨.st 3 (.t 4) (.t 26),none,none⟩] .ret) .skip)) (.note (.gc [0,3,4,5,7,8]) (.regD [lN 2 3 28,lN 3 5 29,oV 8 30,oV 0 31,oV 8 32,lE 32 33,mo (.call (.f 12) [(.t 31),(.t 33)] [1000] []) 34,iA 2 30 34 35,lN 2 35 36,k3 64 28 29 36 37,oV 37 27,xT 0 27 38,xT 1 27 39,⟨.st 3 (.t 5) (.t 38),none,none⟩] [[],[],[],[],[],[4],[3,5],[2,6],[7],[0,1,8,6],[9],[10],[10],[11,9,0,1,2,3,4,5,6,7,8,9,10,11]] [[],[],[],[],[],[4],[3,4,5],[2,3,4,5,6],[2,3,4,5,6,7],[0,1,2,3,4,5,6,7,8],[0,1,2,3,4,5,6,7,8,9],[0,1,2,3,4,5,6,7,8,9,10],[0,1,2,3,4,5,6,7,8,9,10],[0,1,2,3,4,5,6,7,8,9,10,11]]))))) (.note (.gc [0,3,4,5,7]) (.reg [oV 7 18,sI 18 1 19,oV 19 7]))))
def mc_2q:MC := (sR [bx 1 3,mo (.alloc [(.int .i64 0),(.int .i64 0),(.sl [])]) 4] (sR [lN 2 3 10,k1 62 10 11,oV 11 9,xT 0 9 12,xT 1 9 13,mo (.alloc [(.int .i64 0),(.int .i64 0),(.sl [])]) 5,⟨.st 3 (.t 5) (.t 12),none,none⟩,oV 13 6] (.seq (sR [oV 0 14,mo (.call (.f 12) [(.t 14),(cI 16)] [1000] []) 15,oV 15 7] (.block 0 (.loop mc_69))) (sR [lN 3 5 40,⟨.st 3 (.t 4) (.t 40),none,none⟩] .ret))))
attribute [go_sem] F_69
instance:LI mc_69 0 0 [0,3,4,5] [4,3] (fun y:Int×GRotation×GTape=>[(7,.int .i64 y.1)]) (fun y=>[.o 5 (.cells [.int .i64 y.2.1.Known,.int .i64 y.2.1.Valid,.sl (y.2.1.Units.map GUnit.v)]),.o 1000 (.cells [.sl (y.2.2.L.map (V.int .i64)),.int .i64 y.2.2.at_])]) []:=⟨⟩
instance Wq_2q {t_:GTape} {f_:GFleet}:WI (F_2q t_ f_) Tryz.prog 33 [.ptr 1000 0,GFleet.v f_] [(1000,.cells [.sl (t_.L.map (V.int .i64)),.int .i64 t_.at_])] (fun z=>GRotation.v z.1) (fun z=>[(1000,.cells [.sl (z.2.L.map (V.int .i64)),.int .i64 z.2.at_])]):=⟨fun Q Q' h hQ=>by
 refine acallM mc_2q [.fzc 4] [1000] [.c 4 (some 3)] Tryz.func33 fun M=>?_
 unfold F_2q at h
 unfold mc_2q
 exact tX⟩
def F_2r (t_:GTape) (c_:GCluster):Option (GReplicaEvent×GTape) := (F_1 t_ 1 4).bind fun y2=>bif decide (y2.1=1) then (F_b y2.2 [1,2,2,3,0]).bind fun y7=>some ((GReplicaEvent.mk y2.1 0 0 y7.1),y7.2) else bif decide (y2.1=4) then (F_0 y2.2 (c_.Replicas.length:Int)).bind fun y8=>chk (in64 ((c_.Snapshots.length:Int)+1)) ((F_0 y8.2 ((c_.Snapshots.length:Int)+1)).bind fun y9=>some ((GReplicaEvent.mk y2.1 y8.1 y9.1 0),y9.2)) else (F_0 y2.2 (c_.Replicas.length:Int)).bind fun y10=>some ((GReplicaEvent.mk y2.1 y10.1 0 0),y10.2)
def mc_2r:MC := (sR [bx 1 3,mo (.alloc [(.int .i64 0),(.int .i64 0),(.int .i64 0),(.int .i64 0)]) 4] (sR [oV 0 6,mo (.call (.f 35) [(.t 6),(cI 1),(cI 4)] [1000] []) 7,mo (.build [(.int .i64 0),(.int .i64 0),(.int .i64 0),(.int .i64 0)] [(0,1,(.t 7))]) 8,mo (.alloc [(.int .i64 0),(.int .i64 0),(.int .i64 0),(.int .i64 0)]) 5,⟨.st 4 (.t 5) (.t 8),none,none⟩] (.seq (sR [oF 0 5 9,oL 9 10] (.block 0 (sR [bC .eql 10 1 18,oV 18 17] (.cond (.t 17) (.note (.gc [0,4,5]) (.reg [oV 0 19,mo (.lsl 1 [(cI 1),(cI 2),(cI 2),(cI 3),(cI 0)]) 20,mo (.call (.f 36) [(.t 19),(.t 20)] [1000] []) 21,oF 3 5 22,⟨.st 1 (.t 22) (.t 21),none,none⟩])) (sR [bC .eql 10 4 24,oV 24 23] (.cond (.t 23) (.note (.gc [0,3,4,5]) (.regD [oV 0 25,oF 2 3 26,oL 26 27,lE 27 28,mo (.call (.f 12) [(.t 25),(.t 28)] [1000] []) 29,oV 0 30,oF 3 3 31,oL 31 32,lE 32 33,aI 33 1 34,mo (.call (.f 12) [(.t 30),(.t 34)] [1000] []) 35,oF 1 5 36,⟨.st 1 (.t 36) (.t 29),none,none⟩,oF 2 5 37,⟨.st 1 (.t 37) (.t 35),none,none⟩] [[],[],[1],[2],[0,3],[],[],[6],[7],[8],[5,9,4],[0,1,2,3,4],[11,4,10,0,1,2,3,4],[0,1,2,3,4,5,6,7,8,9,10,11,12],[13,10,12,0,1,2,3,4,5,6,7,8,9,10,11,12]] [[],[],[1],[1,2],[0,1,2,3],[],[],[6],[6,7],[6,7,8],[0,1,2,3,4,5,6,7,8,9],[0,1,2,3,4],[0,1,2,3,4,5,6,7,8,9,10,11],[0,1,2,3,4,5,6,7,8,9,10,11,12],[0,1,2,3,4,5,6,7,8,9,10,11,12,13]])) (.note (.gc [0,3,4,5]) (.reg [oV 0 11,oF 2 3 12,oL 12 13,lE 13 14,mo (.call (.f 12) [(.t 11),(.t 14)] [1000] []) 15,oF 1 5 16,⟨.st 1 (.t 16) (.t 15),none,none⟩])))))))) (sR [lN 4 5 38,⟨.st 4 (.t 4) (.t 38),none,none⟩] .ret))))
instance Wq_2r {t_:GTape} {c_:GCluster}:WI (F_2r t_ c_) Tryz.prog 67 [.ptr 1000 0,GCluster.v c_] [(1000,.cells [.sl (t_.L.map (V.int .i64)),.int .i64 t_.at_])] (fun z=>GReplicaEvent.v z.1) (fun z=>[(1000,.cells [.sl (z.2.L.map (V.int .i64)),.int .i64 z.2.at_])]):=⟨fun Q Q' h hQ=>by
 refine acallM mc_2r [] [1000] [.c 4 (some 4)] Tryz.func67 fun M=>?_
 unfold F_2r at h
 unfold mc_2r
 exact tX⟩
noncomputable def F_6a (x44:Int×GCluster×GTape):Option (Fl (Int×GCluster×GTape) (GCluster×GTape)) := bif decide (0<x44.1) then jn (α:=GCluster×GTape) ((F_2r x44.2.2 x44.2.1).bind fun y57=>(F_2o x44.2.1 y57.1).bind fun y58=>bif decide (y58.2=0) then some (y58.1,y57.2) else some (x44.2.1,y57.2)) fun j54=>chk (in64 (x44.1 - 1)) (some (.nx ((x44.1 - 1),j54.1,j54.2))) else some (.ex (x44.2.1,x44.2.2))
noncomputable def F_2s (t_:GTape):Option (GCluster×GTape) := (F_1 t_ 1 3).bind fun y5=>(F_b y5.2 [1,1,3,2]).bind fun y6=>(F_0 y6.2 2).bind fun y7=>(F_40 y5.1 y6.1 (decide (y7.1=1))).bind fun y8=>(F_0 y7.2 12).bind fun y31=>(loop F_6a (y31.1,y8.1,y31.2)).bind fun r59=>some (r59.1,r59.2)
@[irreducible] def mc_96:MC := (.reg [oV 5 24,sI 24 1 25,oV 25 5])
@[irreducible] def mc_6a:MC := (.seq (sR [oV 5 22,bC .gtr 22 0 23] (.cond (.t 23) .skip (.exit 0))) (.cut (.block 1 (.seq (.regD [lN 4 3 27,oV 0 28,lN 4 3 29,mo (.call (.f 67) [(.t 28),(.t 29)] [1000] []) 30,k2 66 27 30 31,oV 31 26,xT 0 26 32,xT 1 26 33,mo (.alloc [(.bool false),(.sl []),(.sl []),(.sl [])]) 6,⟨.st 4 (.t 6) (.t 32),none,none⟩,oV 33 7] [[],[],[],[1,2],[0,3,3],[4],[5],[5],[],[8,6,4,0,1,2,3,4,5,6,8],[7,9,0,1,2,3,4,5,6,7,8,9]] [[],[],[],[1,2],[0,1,2,3],[0,1,2,3,4],[0,1,2,3,4,5],[0,1,2,3,4,5],[],[0,1,2,3,4,5,6,8],[0,1,2,3,4,5,6,7,8,9]]) (sR [oV 7 34,bC .eql 34 0 35] (.cond (.t 35) (.reg [lN 4 6 36,⟨.st 4 (.t 3) (.t 36),none,none⟩]) .skip)))) mc_96))
def mc_2s:MC := (sR [mo (.alloc [(.bool false),(.sl []),(.sl []),(.sl [])]) 2] (sR [oV 0 9,mo (.call (.f 35) [(.t 9),(cI 1),(cI 3)] [1000] []) 10,oV 0 11,mo (.lsl 1 [(cI 1),(cI 1),(cI 3),(cI 2)]) 12,mo (.call (.f 36) [(.t 11),(.t 12)] [1000] []) 13,oV 0 14,mo (.call (.f 12) [(.t 14),(cI 2)] [1000] []) 15,bC .eql 15 1 16,k3 65 10 13 16 17,oV 17 8,xT 0 8 18,xT 1 8 19,mo (.alloc [(.bool false),(.sl []),(.sl []),(.sl [])]) 3,⟨.st 4 (.t 3) (.t 18),none,none⟩,oV 19 4] (.seq (.seq (.note (.gc [0,2,3]) (.reg [oV 0 20,mo (.call (.f 12) [(.t 20),(cI 12)] [1000] []) 21,oV 21 5])) (.block 0 (.loop mc_6a))) (sR [lN 4 3 37,⟨.st 4 (.t 2) (.t 37),none,none⟩] .ret))))
attribute [go_sem] F_6a
instance:LI mc_96 0 0 [0,2,3,5] [2] (fun y:GCluster×GTape=>[]) (fun y=>[.o 3 (.cells [.bool y.1.Fence,.sl (y.1.Sets.map (V.int .i64)),.sl (y.1.Replicas.map GReplica.v),.sl (y.1.Snapshots.map (V.int .i64))]),.o 1000 (.cells [.sl (y.2.L.map (V.int .i64)),.int .i64 y.2.at_])]) []:=⟨⟩
instance:LI mc_6a 0 0 [0,2,3] [2] (fun y:Int×GCluster×GTape=>[(5,.int .i64 y.1)]) (fun y=>[.o 3 (.cells [.bool y.2.1.Fence,.sl (y.2.1.Sets.map (V.int .i64)),.sl (y.2.1.Replicas.map GReplica.v),.sl (y.2.1.Snapshots.map (V.int .i64))]),.o 1000 (.cells [.sl (y.2.2.L.map (V.int .i64)),.int .i64 y.2.2.at_])]) []:=⟨⟩
instance Wq_2s {t_:GTape}:WI (F_2s t_) Tryz.prog 34 [.ptr 1000 0] [(1000,.cells [.sl (t_.L.map (V.int .i64)),.int .i64 t_.at_])] (fun z=>GCluster.v z.1) (fun z=>[(1000,.cells [.sl (z.2.L.map (V.int .i64)),.int .i64 z.2.at_])]):=⟨fun Q Q' h hQ=>by
 refine acallM mc_2s [.fzc 2] [1000] [.c 2 (some 4)] Tryz.func34 fun M=>?_
 unfold F_2s at h
 unfold mc_2s
 exact tX⟩
noncomputable def F_1h (m_:GTape):Option (Gscene×GTape) := (F_24 m_).bind fun y2=>(F_25 y2.2 y2.1).bind fun y4=>(F_2b y4.2).bind fun y6=>(F_1c y6.2).bind fun y8=>(F_2c y8.2 y8.1.Resources).bind fun y10=>(F_0 y10.2 5).bind fun y13=>(F_0 y13.2 4).bind fun y14=>chk (roomI y14.1 y14.1 72) ((F_0 y14.2 3).bind fun y16=>(F_2p y16.2 3).bind fun y18=>(F_2q y18.2 y18.1).bind fun y20=>(F_2s y20.2).bind fun y22=>some ((Gscene.mk y2.1 y4.1 y6.1 y8.1 y10.1 (GFinding.mk 0 (IntKind.wrap .u64 y13.1) (List.replicate (y14.1).toNat (GSpot.mk (GPlace.mk 0 [] 0) [] 0 0))) y16.1 y18.1 y20.1 y22.1),y22.2))
def mc_1h:MC := (sR [mo (.alloc [(.sl []),(.sl []),(.int .i64 0),(.sl []),(.sl []),(.sl []),(.int .i64 0),(.int .i64 0),(.sl []),(.sl []),(.sl []),(.sl []),(.int .i64 0),(.int .u64 0),(.sl []),(.int .i64 0),(.int .i64 0),(.sl []),(.int .i64 0),(.int .i64 0),(.sl []),(.bool false),(.sl []),(.sl []),(.sl [])]) 2] (sR [mo (.alloc [(.sl []),(.sl []),(.int .i64 0),(.sl []),(.sl []),(.sl []),(.int .i64 0),(.int .i64 0),(.sl []),(.sl []),(.sl []),(.sl []),(.int .i64 0),(.int .u64 0),(.sl []),(.int .i64 0),(.int .i64 0),(.sl []),(.int .i64 0),(.int .i64 0),(.sl []),(.bool false),(.sl []),(.sl []),(.sl [])]) 3] (sR [oV 0 4,mo (.call (.f 27) [(.t 4)] [1000] []) 5,oF 0 3 6,⟨.st 2 (.t 6) (.t 5),none,none⟩] (sR [oV 0 7,oF 0 3 8,lN 2 8 9,mo (.call (.f 28) [(.t 7),(.t 9)] [1000] []) 10,oF 2 3 11,⟨.st 2 (.t 11) (.t 10),none,none⟩] (.seq (.note (.gc [0,2,3]) (.reg [oV 0 12,mo (.call (.f 29) [(.t 12)] [1000] []) 13,oF 4 3 14,⟨.st 2 (.t 14) (.t 13),none,none⟩])) (sR [oV 0 15,mo (.call (.f 30) [(.t 15)] [1000] []) 16,oF 6 3 17,⟨.st 5 (.t 17) (.t 16),none,none⟩] (sR [oV 0 18,oF 6 3 19,oF 1 19 20,oL 20 21,mo (.call (.f 31) [(.t 18),(.t 21)] [1000] []) 22,oF 11 3 23,⟨.st 1 (.t 23) (.t 22),none,none⟩] (.seq (.note (.gc [0,2,3]) (.reg [oV 0 24,mo (.call (.f 12) [(.t 24),(cI 5)] [1000] []) 25,mo (.i2i false .u64 (.t 25)) 26,oV 0 27,mo (.call (.f 12) [(.t 27),(cI 4)] [1000] []) 28,mo (.mksl 6 72 (.agg [(.int .i64 0),(.str []),(.int .i64 0),(.sl []),(.int .i64 0),(.int .i64 0)]) (.t 28) (.t 28)) 29,mo (.build [(.int .i64 0),(.int .u64 0),(.sl [])] [(1,1,(.t 26)),(2,1,(.t 29))]) 30,oF 12 3 31,⟨.st 3 (.t 31) (.t 30),none,none⟩])) (.seq (.note (.gc [0,2,3]) (.reg [oV 0 32,mo (.call (.f 12) [(.t 32),(cI 3)] [1000] []) 33,oF 15 3 34,⟨.st 1 (.t 34) (.t 33),none,none⟩])) (sR [oV 0 35,mo (.call (.f 32) [(.t 35),(cI 3)] [1000] []) 36,oF 16 3 37,⟨.st 2 (.t 37) (.t 36),none,none⟩] (sR [oV 0 38,oF 16 3 39,lN 2 39 40,mo (.call (.f 33) [(.t 38),(.t 40)] [1000] []) 41,oF 18 3 42,⟨.st 3 (.t 42) (.t 41),none,none⟩] (.seq (.note (.gc [0,2,3]) (.reg [oV 0 43,mo (.call (.f 34) [(.t 43)] [1000] []) 44,oF 21 3 45,⟨.st 4 (.t 45) (.t 44),none,none⟩])) (sR [lN 25 3 46,⟨.st 25 (.t 2) (.t 46),none,none⟩] .ret)))))))))))))
instance Wq_1h {m_:GTape}:WI (F_1h m_) Tryz.prog 8 [.ptr 1000 0] [(1000,.cells [.sl (m_.L.map (V.int .i64)),.int .i64 m_.at_])] (fun z=>Gscene.v z.1) (fun z=>[(1000,.cells [.sl (z.2.L.map (V.int .i64)),.int .i64 z.2.at_])]):=⟨fun Q Q' h hQ=>by
 refine acallM mc_1h [.fzc 2] [1000] [.c 2 (some 25)] Tryz.func8 fun M=>?_
 unfold F_1h at h
 unfold mc_1h
 exact tX⟩
end Go.Ab
