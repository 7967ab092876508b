/- What the functions of this seat that lie on the laws' road compute (part LA), each for every input. By AI agents. -/
import Derived.Test.YtlcclnfjeinggaaProg
import Derived.KernelRfl
import Derived.Test.YtlcclnfjeinggaaAbFun
import Derived.Test.YtlcclnfjeinggaaAbUns
import Derived.Test.YtlcclnfjeinggaaSL
set_option linter.all false
set_option linter.all false
set_option maxRecDepth 20000
set_option maxHeartbeats 2000000
namespace Go.Ab
open Go.Proofs
structure GGrant where
 Credential : Int
 Resource : Int
 Right : Int
instance : Inhabited GGrant := ⟨⟨default, default, default⟩⟩
def GGrant.v (x : GGrant) : V := .agg [.int .i64 x.Credential, .int .i64 x.Resource, .int .i64 x.Right]
structure GStore where
 Resource : Int
 Credential : Int
instance : Inhabited GStore := ⟨⟨default, default⟩⟩
def GStore.v (x : GStore) : V := .agg [.int .i64 x.Resource, .int .i64 x.Credential]
structure GMint where
 From : Int
 To : Int
instance : Inhabited GMint := ⟨⟨default, default⟩⟩
def GMint.v (x : GMint) : V := .agg [.int .i64 x.From, .int .i64 x.To]
structure GRights where
 Credentials : Int
 Resources : Int
 Grants : List GGrant
 Stores : List GStore
 Mints : List GMint
instance : Inhabited GRights := ⟨⟨default, default, default, default, default⟩⟩
def GRights.v (x : GRights) : V := .agg [.int .i64 x.Credentials, .int .i64 x.Resources, .sl (x.Grants.map GGrant.v), .sl (x.Stores.map GStore.v), .sl (x.Mints.map GMint.v)]
structure GLink where
 Kind : Int
 Grant : Int
 Store : Int
 Mint : Int
instance : Inhabited GLink := ⟨⟨default, default, default, default⟩⟩
def GLink.v (x : GLink) : V := .agg [.int .i64 x.Kind, .int .i64 x.Grant, .int .i64 x.Store, .int .i64 x.Mint]
theorem dlt {a : Int} : decide (a < a) = false := by simp
attribute [go_sem] byteV beq_self_eq_true Int.cast_ofNat_Int List.take_succ_cons List.take_zero List.drop_succ_cons List.cons_append List.nil_append putPs pinH wrap_u8 rng64 inb_and inc_and room_and roomI_and divs_and shok_and64 rep_u rep_ll mget_i mget_s mput_i mput_s mdel_i mdel_s lk_b lk_i lk_s lk_l lkt_b' lkt_i' lkt_s' lkt_l' rep_b rep_i ovS ovE ovU patO filt filtH dropE stepNs atEndN shqs shq1 V.oids V.oidsL V.tr V.trL trE trH Obj'.tr true_implies false_implies Bool.false_eq_true Bool.true_eq_false dlt mpV slV Int.natCast_zero List.map_set kvV nxt_map erase_map V.sw V.swL swN swH sw_sl sw_int sw_bool sw_str sw_smap sw_byte Obj'.sw sw_arr sw_map byte_1 byte_2 Mach.b2s_e Mach.b2s_eD toNat_ltb List.length_set List.length_replicate List.take_of_length_le Nat.zero_le bounds eqCells Option.map_some Option.map_none Fl_nx Fl_ex Sum_inl Sum_inr Ok_ite Ok_chk Ok_some Ok_bind Ok_none
theorem inbk_0 {n : Nat} : (inb 0 n = true) = (((0 : Nat) : Int) < (n : Int)) := propext (by rw [inb_iff]; omega)
attribute [go_sem] inbk_0
theorem inbk_1 {n : Nat} : (inb 1 n = true) = (((1 : Nat) : Int) < (n : Int)) := propext (by rw [inb_iff]; omega)
attribute [go_sem] inbk_1
theorem incl_1 {b : Int} {n : Nat} : (inc 1 b n = true) = (((1 : Nat) : Int) ≤ b ∧ b ≤ (n : Int)) := propext (by rw [inc_iff]; omega)
attribute [go_sem] incl_1
attribute [go_sem] GGrant.v GLink.v GMint.v GRights.v GStore.v
def F_0 (n_ : Int) (low_ : Int) (high_ : Int) : Option Bool :=
 grp ((decide (low_ ≤ n_) && decide (n_ ≤ high_))) fun b2 => some b2
@[irreducible] def mg_20 : List MOp := [gT 10 11 (.mv (.t 0)),
 gT 10 12 (.mv (.t 2)),
 gT 10 13 (.bin false .leq (.t 11) (.t 12)),
 mo (.pick (.t 10) (.t 13) (.c (.bool false))) 14]
def mc_0 : MC :=
 (sR [mo (.mv (.c (.bool false))) 6]
 (.seq (.regI [.op (oV 0 7),
 .op (oV 1 8),
 .op (mo (.bin false .geq (.t 7) (.t 8)) 9),
 .op (oV 9 10),
 .grp mg_20,
 .op (oV 14 6)])
 .ret))
theorem Wq_0 {n_ low_ high_ : Int} : Cn Try.prog 31 [.int .i64 n_, .int .i64 low_, .int .i64 high_] [] (F_0 n_ low_ high_) (fun z => .bool z) (fun z => []) := fun Q Q' h hQ => by
 refine acallM mc_0 [] [] [.t 6] Try.func31 fun M => ?_
 unfold F_0 at h
 unfold mc_0
 replace h := tY h
 refine tB ?_
 repeat' (first
 | (exact tZ)
 | ((first | refine oblg h ?_ | refine roomG h ?_ | refine fork h ?_ ?_ | refine forkS h ?_ ?_) <;> clear h <;> intro hc h)
 | (refine M.gv1 (ms := mg_20) 14 [11,12,13] h ?_ ?_ <;> first
 | (clear h; intro K hK1; unfold mg_20; refine tB ?_)
 | (clear h; intro b h; replace h := tY h; refine tB ?_))
 | (refine hK1 _ ?_; exact tU; done)
 | (refine bfork (fun hc => ?_) (fun hc => ?_))
 | (refine tE ?_; (first | rw [M.lok_compU] | rw [M.lokD_compU]); refine tB ?_)
 | (refine tA ?_)
 | fail)
def F_3 (x_ : GRights) (c_ : Int) : Option Bool :=
 chk (in64 (x_.Credentials - 1)) ((F_0 c_ 0 (x_.Credentials - 1)).bind fun y2 => some y2)
def mc_3 : MC :=
 (sR [mo (.box (.t 0)) 2,
 mo (.mv (.c (.bool false))) 4]
 (sR [oV 1 5,
 oF 0 2 6,
 oL 6 7,
 mo (.bin true .sub (.t 7) (cI 1)) 8,
 mo (.call (.f 31) [(.t 5), (cI 0),(.t 8)] [] []) 9,
 oV 9 4]
 .ret))
theorem Wq_3 {x_ : GRights} {c_ : Int} : Cn Try.prog 22 [GRights.v x_, .int .i64 c_] [] (F_3 x_ c_) (fun z => .bool z) (fun z => []) := fun Q Q' h hQ => by
 refine acallM mc_3 [] [] [.t 4] Try.func22 fun M => ?_
 unfold F_3 at h
 unfold mc_3
 replace h := tY h
 refine tB ?_
 repeat' (first
 | (exact tZ)
 | ((first | refine oblg h ?_ | refine roomG h ?_ | refine fork h ?_ ?_ | refine forkS h ?_ ?_) <;> clear h <;> intro hc h)
 | (obtain ⟨y, hy, h⟩ := h; have hw := Wq_0.w hy; replace hw := tY hw; (first | refine M.sC hw ?_ | refine M.sD hw ?_); clear hw hy; refine tB ?_)
 | (refine tE ?_; (first | rw [M.lok_compU] | rw [M.lokD_compU]); refine tB ?_)
 | (refine tA ?_)
 | fail)
def F_f (x_ : GRights) (r_ : Int) : Option Bool :=
 chk (in64 (x_.Resources - 1)) ((F_0 r_ 0 (x_.Resources - 1)).bind fun y2 => some y2)
def mc_f : MC :=
 (sR [mo (.box (.t 0)) 2,
 mo (.mv (.c (.bool false))) 4]
 (sR [oV 1 5,
 oF 1 2 6,
 oL 6 7,
 mo (.bin true .sub (.t 7) (cI 1)) 8,
 mo (.call (.f 31) [(.t 5), (cI 0),(.t 8)] [] []) 9,
 oV 9 4]
 .ret))
theorem Wq_f {x_ : GRights} {r_ : Int} : Cn Try.prog 32 [GRights.v x_, .int .i64 r_] [] (F_f x_ r_) (fun z => .bool z) (fun z => []) := fun Q Q' h hQ => by
 refine acallM mc_f [] [] [.t 4] Try.func32 fun M => ?_
 unfold F_f at h
 unfold mc_f
 replace h := tY h
 refine tB ?_
 repeat' (first
 | (exact tZ)
 | ((first | refine oblg h ?_ | refine roomG h ?_ | refine fork h ?_ ?_ | refine forkS h ?_ ?_) <;> clear h <;> intro hc h)
 | (obtain ⟨y, hy, h⟩ := h; have hw := Wq_0.w hy; replace hw := tY hw; (first | refine M.sC hw ?_ | refine M.sD hw ?_); clear hw hy; refine tB ?_)
 | (refine tE ?_; (first | rw [M.lok_compU] | rw [M.lokD_compU]); refine tB ?_)
 | (refine tA ?_)
 | fail)
def F_a (g_ : GGrant) (p_ : GRights) : Option Bool :=
 (F_3 p_ g_.Credential).bind fun y6 => jn (α := Bool) (bif (!y6) then some true else (F_f p_ g_.Resource).bind fun y8 => some (!y8)) fun j9 => jn (α := Bool) (bif j9 then some true else (F_0 g_.Right 1 3).bind fun y11 => some (!y11)) fun j12 => some j12
@[irreducible] def mg_21 : List MOp := [gF 9 10 (.ld (some 5) (.t 1)),
 gF 9 11 (.fad 1 (.t 2)),
 gF 9 12 (.ld none (.t 11)),
 gF 9 13 (.call (.f 32) [(.t 10),(.t 12)] [] []),
 gF 9 14 (.not (.t 13)),
 mo (.pick (.t 9) (.c (.bool true)) (.t 14)) 15]
@[irreducible] def mg_22 : List MOp := [gF 16 17 (.fad 2 (.t 2)),
 gF 16 18 (.ld none (.t 17)),
 gF 16 19 (.call (.f 31) [(.t 18), (cI 1), (cI 3)] [] []),
 gF 16 20 (.not (.t 19)),
 mo (.pick (.t 16) (.c (.bool true)) (.t 20)) 21]
def mc_a : MC :=
 (sR [mo (.box (.t 0)) 2,
 mo (.mv (.c (.bool false))) 3]
 (.seq (.regI [.op (mo (.ld (some 5) (.t 1)) 4),
 .op (oF 0 2 5),
 .op (oL 5 6),
 .op (mo (.call (.f 22) [(.t 4),(.t 6)] [] []) 7),
 .op (mo (.not (.t 7)) 8),
 .op (oV 8 9),
 .grp mg_21,
 .op (oV 15 16),
 .grp mg_22,
 .op (oV 21 3)])
 .ret))
theorem Wq_a {g_ : GGrant} {p_ : GRights} : Cn Try.prog 35 [GGrant.v g_, .ptr 1000 0] [(1000, .cells [.int .i64 p_.Credentials, .int .i64 p_.Resources, .sl (p_.Grants.map GGrant.v), .sl (p_.Stores.map GStore.v), .sl (p_.Mints.map GMint.v)])] (F_a g_ p_) (fun z => .bool z) (fun z => [(1000, .cells [.int .i64 p_.Credentials, .int .i64 p_.Resources, .sl (p_.Grants.map GGrant.v), .sl (p_.Stores.map GStore.v), .sl (p_.Mints.map GMint.v)])]) := fun Q Q' h hQ => by
 refine acallM mc_a [] [1000] [.t 3] Try.func35 fun M => ?_
 unfold F_a at h
 unfold mc_a
 replace h := tY h
 refine tB ?_
 repeat' (first
 | (exact tZ)
 | ((first | refine oblg h ?_ | refine roomG h ?_ | refine fork h ?_ ?_ | refine forkS h ?_ ?_) <;> clear h <;> intro hc h)
 | (obtain ⟨y, hy, h⟩ := h; (first | with_reducible first | have hw := Wq_3.w hy | have hw := Wq_f.w hy | have hw := Wq_0.w hy); replace hw := tY hw; (first | refine M.sC hw ?_ | refine M.sD hw ?_); clear hw hy; refine tB ?_)
 | (refine M.gj1 (ms := mg_22) [3] [1000] (fun y => [(21, .bool y)]) (fun y => []) h ?_ ?_ <;> first
 | (clear h; intro Qn K hK1 h; unfold mg_22; replace h := tY h; refine tB ?_)
  |(clear h; intro y h; replace h := tY h; refine tB ?_))
 | (refine M.gj1 (ms := mg_21) [2,3] [2,1000] (fun y => [(15, .bool y)]) (fun y => []) h ?_ ?_ <;> first
 | (clear h; intro Qn K hK2 h; unfold mg_21; replace h := tY h; refine tB ?_)
  |(clear h; intro y h; replace h := tY h; refine tB ?_))
 | ((first | refine hK1 _ ?_ | refine hK2 _ ?_); (try refine tB ?_); refine ⟨_, h, ?_⟩; exact tU0; done)
 | (refine tE ?_; (first | rw [M.lok_compU] | rw [M.lokD_compU]); refine tB ?_)
 | (refine tA ?_)
 | fail)
def F_13 (fc0_ : GRights) (k31 : Int) (a32 : GGrant) (x30 : Unit) : Option (Fl Unit Int) :=
 (F_a a32 fc0_).bind fun y40 => bif y40 then some (.ex k31) else some (.nx ())
def F_14 (s_ : List GGrant) (fc0_ : GRights) : Option Int :=
 (forL (F_13 fc0_) s_ 0 ()).bind fun o => o.elim (fun x41 => some (-1)) (fun r42 => some r42)
@[irreducible] def mc_13 : MC :=
 (sR [mo (.bin false .lss (.t 8) (.t 7)) 9]
 (.seq (.cond (.t 9)
 .skip
 (.exit 0))
 (.seq (.block 1
 (sR [oV 8 10,
 oV 10 5]
 (sR [oV 1 11,
 oV 0 12,
 oV 5 13,
 mo (.iad 3 (.t 12) (.t 13)) 14,
 mo (.ld (some 3) (.t 14)) 15,
 mo (.call (.t 11) [(.t 15)] [1000] []) 16]
 (.cond (.t 16)
 (sR [oV 5 17,
 oV 17 4]
 .ret)
 .skip))))
 (.reg [mo (.bin true .add (.t 8) (cI 1)) 18,
 oV 18 8]))))
def mc_14 : MC :=
 (sR [oC 0 4]
 (.seq (sR [oV 0 6,
 mo (.len false (.t 6)) 7,
 oC 0 8]
 (.block 0
 (.loop mc_13)))
 (sR [oC (-1) 4]
 .ret)))
theorem Wq_14 {s_ : List GGrant} {fc0_ : GRights} : Cn Try.prog 46 [.sl (s_.map GGrant.v), .fn (.func 35) [.ptr 1000 0]] [(1000, .cells [.int .i64 fc0_.Credentials, .int .i64 fc0_.Resources, .sl (fc0_.Grants.map GGrant.v), .sl (fc0_.Stores.map GStore.v), .sl (fc0_.Mints.map GMint.v)])] (F_14 s_ fc0_) (fun z => .int .i64 z) (fun z => [(1000, .cells [.int .i64 fc0_.Credentials, .int .i64 fc0_.Resources, .sl (fc0_.Grants.map GGrant.v), .sl (fc0_.Stores.map GStore.v), .sl (fc0_.Mints.map GMint.v)])]) := fun Q Q' h hQ => by
 refine acallM mc_14 [] [1000] [.t 4] Try.func46 fun M => ?_
 unfold F_14 at h
 unfold mc_14
 replace h := tY h
 refine tB ?_
 repeat' (first
 | (exact tZ)
 | ((first | refine oblg h ?_ | refine roomG h ?_ | refine fork h ?_ ?_ | refine forkS h ?_ ?_) <;> clear h <;> intro hc h)
 | (obtain ⟨y, hy, h⟩ := h; have hw := Wq_a.w hy; replace hw := tY hw; (first | refine M.sC hw ?_ | refine M.sD hw ?_); clear hw hy; refine tB ?_)
 | (refine M.for1 (b := mc_13) 8 [0,1,7] [1000] (fun x => []) (fun x => []) [] h ?_ ?_ ?_ <;> first
 | (clear h; intro k a x Qn K hK1 hkN1 ha1 h hf; have hl := fact_int (factsE_find (n := 7) hf.1 rfl); clear hf; have hkd := kD hkN1; have hkB1 := kB hkN1; have hkI1 := kI (k := k) (by omega); unfold F_13 at h; unfold mc_13; replace h := tY h; refine tK ha1 hkd hkN1 hkB1 hkI1 ?_)
  |(clear h; intro x K h; replace h := And.left (And.intro h trivial); unfold mc_13; replace h := tY h; refine tB ?_)
  |(clear h; (try refine tB ?_); exact tU0; done))
 | (simp only [ha1])
 | (refine hK1 _ ?_; (try refine tB ?_); refine ⟨_, h, ?_⟩; exact tU0; done)
 | (refine tE ?_; (first | rw [M.lok_compU] | rw [M.lokD_compU]); refine tB ?_)
 | (refine tA ?_)
 | fail)
def F_s (s_ : List GGrant) (fc0_ : GRights) : Option Bool :=
 (F_14 s_ fc0_).bind fun y2 => some (decide (0 ≤ y2))
def mc_s : MC :=
 (sR [mo (.mv (.c (.bool false))) 4]
 (sR [oV 0 5,
 oV 1 6,
 mo (.call (.f 46) [(.t 5),(.t 6)] [1000] []) 7,
 mo (.bin false .geq (.t 7) (cI 0)) 8,
 oV 8 4]
 .ret))
theorem Wq_s {s_ : List GGrant} {fc0_ : GRights} : Cn Try.prog 38 [.sl (s_.map GGrant.v), .fn (.func 35) [.ptr 1000 0]] [(1000, .cells [.int .i64 fc0_.Credentials, .int .i64 fc0_.Resources, .sl (fc0_.Grants.map GGrant.v), .sl (fc0_.Stores.map GStore.v), .sl (fc0_.Mints.map GMint.v)])] (F_s s_ fc0_) (fun z => .bool z) (fun z => [(1000, .cells [.int .i64 fc0_.Credentials, .int .i64 fc0_.Resources, .sl (fc0_.Grants.map GGrant.v), .sl (fc0_.Stores.map GStore.v), .sl (fc0_.Mints.map GMint.v)])]) := fun Q Q' h hQ => by
 refine acallM mc_s [] [1000] [.t 4] Try.func38 fun M => ?_
 unfold F_s at h
 unfold mc_s
 replace h := tY h
 refine tB ?_
 repeat' (first
 | (exact tZ)
 | ((first | refine oblg h ?_ | refine roomG h ?_ | refine fork h ?_ ?_ | refine forkS h ?_ ?_) <;> clear h <;> intro hc h)
 | (obtain ⟨y, hy, h⟩ := h; have hw := Wq_14.w hy; replace hw := tY hw; (first | refine M.sC hw ?_ | refine M.sD hw ?_); clear hw hy; refine tB ?_)
 | (refine tE ?_; (first | rw [M.lok_compU] | rw [M.lokD_compU]); refine tB ?_)
 | (refine tA ?_)
 | fail)
def F_b (s_ : GStore) (p_ : GRights) : Option Bool :=
 (F_3 p_ s_.Credential).bind fun y4 => jn (α := Bool) (bif (!y4) then some true else (F_f p_ s_.Resource).bind fun y6 => some (!y6)) fun j7 => some j7
@[irreducible] def mg_23 : List MOp := [gF 9 10 (.ld (some 5) (.t 1)),
 gF 9 11 (.fad 0 (.t 2)),
 gF 9 12 (.ld none (.t 11)),
 gF 9 13 (.call (.f 32) [(.t 10),(.t 12)] [] []),
 gF 9 14 (.not (.t 13)),
 mo (.pick (.t 9) (.c (.bool true)) (.t 14)) 15]
def mc_b : MC :=
 (sR [mo (.box (.t 0)) 2,
 mo (.mv (.c (.bool false))) 3]
 (.seq (.regI [.op (mo (.ld (some 5) (.t 1)) 4),
 .op (oF 1 2 5),
 .op (oL 5 6),
 .op (mo (.call (.f 22) [(.t 4),(.t 6)] [] []) 7),
 .op (mo (.not (.t 7)) 8),
 .op (oV 8 9),
 .grp mg_23,
 .op (oV 15 3)])
 .ret))
theorem Wq_b {s_ : GStore} {p_ : GRights} : Cn Try.prog 36 [GStore.v s_, .ptr 1000 0] [(1000, .cells [.int .i64 p_.Credentials, .int .i64 p_.Resources, .sl (p_.Grants.map GGrant.v), .sl (p_.Stores.map GStore.v), .sl (p_.Mints.map GMint.v)])] (F_b s_ p_) (fun z => .bool z) (fun z => [(1000, .cells [.int .i64 p_.Credentials, .int .i64 p_.Resources, .sl (p_.Grants.map GGrant.v), .sl (p_.Stores.map GStore.v), .sl (p_.Mints.map GMint.v)])]) := fun Q Q' h hQ => by
 refine acallM mc_b [] [1000] [.t 3] Try.func36 fun M => ?_
 unfold F_b at h
 unfold mc_b
 replace h := tY h
 refine tB ?_
 repeat' (first
 | (exact tZ)
 | ((first | refine oblg h ?_ | refine roomG h ?_ | refine fork h ?_ ?_ | refine forkS h ?_ ?_) <;> clear h <;> intro hc h)
 | (obtain ⟨y, hy, h⟩ := h; (first | with_reducible first | have hw := Wq_3.w hy | have hw := Wq_f.w hy); replace hw := tY hw; (first | refine M.sC hw ?_ | refine M.sD hw ?_); clear hw hy; refine tB ?_)
 | (refine M.gj1 (ms := mg_23) [3] [1000] (fun y => [(15, .bool y)]) (fun y => []) h ?_ ?_ <;> first
 | (clear h; intro Qn K hK1 h; unfold mg_23; replace h := tY h; refine tB ?_)
  |(clear h; intro y h; replace h := tY h; refine tB ?_))
 | (refine hK1 _ ?_; (try refine tB ?_); refine ⟨_, h, ?_⟩; exact tU0; done)
 | (refine tE ?_; (first | rw [M.lok_compU] | rw [M.lokD_compU]); refine tB ?_)
 | (refine tA ?_)
 | fail)
def F_15 (fc0_ : GRights) (k31 : Int) (a32 : GStore) (x30 : Unit) : Option (Fl Unit Int) :=
 (F_b a32 fc0_).bind fun y40 => bif y40 then some (.ex k31) else some (.nx ())
def F_16 (s_ : List GStore) (fc0_ : GRights) : Option Int :=
 (forL (F_15 fc0_) s_ 0 ()).bind fun o => o.elim (fun x41 => some (-1)) (fun r42 => some r42)
@[irreducible] def mc_15 : MC :=
 (sR [mo (.bin false .lss (.t 8) (.t 7)) 9]
 (.seq (.cond (.t 9)
 .skip
 (.exit 0))
 (.seq (.block 1
 (sR [oV 8 10,
 oV 10 5]
 (sR [oV 1 11,
 oV 0 12,
 oV 5 13,
 mo (.iad 2 (.t 12) (.t 13)) 14,
 mo (.ld (some 2) (.t 14)) 15,
 mo (.call (.t 11) [(.t 15)] [1000] []) 16]
 (.cond (.t 16)
 (sR [oV 5 17,
 oV 17 4]
 .ret)
 .skip))))
 (.reg [mo (.bin true .add (.t 8) (cI 1)) 18,
 oV 18 8]))))
def mc_16 : MC :=
 (sR [oC 0 4]
 (.seq (sR [oV 0 6,
 mo (.len false (.t 6)) 7,
 oC 0 8]
 (.block 0
 (.loop mc_15)))
 (sR [oC (-1) 4]
 .ret)))
theorem Wq_16 {s_ : List GStore} {fc0_ : GRights} : Cn Try.prog 47 [.sl (s_.map GStore.v), .fn (.func 36) [.ptr 1000 0]] [(1000, .cells [.int .i64 fc0_.Credentials, .int .i64 fc0_.Resources, .sl (fc0_.Grants.map GGrant.v), .sl (fc0_.Stores.map GStore.v), .sl (fc0_.Mints.map GMint.v)])] (F_16 s_ fc0_) (fun z => .int .i64 z) (fun z => [(1000, .cells [.int .i64 fc0_.Credentials, .int .i64 fc0_.Resources, .sl (fc0_.Grants.map GGrant.v), .sl (fc0_.Stores.map GStore.v), .sl (fc0_.Mints.map GMint.v)])]) := fun Q Q' h hQ => by
 refine acallM mc_16 [] [1000] [.t 4] Try.func47 fun M => ?_
 unfold F_16 at h
 unfold mc_16
 replace h := tY h
 refine tB ?_
 repeat' (first
 | (exact tZ)
 | ((first | refine oblg h ?_ | refine roomG h ?_ | refine fork h ?_ ?_ | refine forkS h ?_ ?_) <;> clear h <;> intro hc h)
 | (obtain ⟨y, hy, h⟩ := h; have hw := Wq_b.w hy; replace hw := tY hw; (first | refine M.sC hw ?_ | refine M.sD hw ?_); clear hw hy; refine tB ?_)
 | (refine M.for1 (b := mc_15) 8 [0,1,7] [1000] (fun x => []) (fun x => []) [] h ?_ ?_ ?_ <;> first
 | (clear h; intro k a x Qn K hK1 hkN1 ha1 h hf; have hl := fact_int (factsE_find (n := 7) hf.1 rfl); clear hf; have hkd := kD hkN1; have hkB1 := kB hkN1; have hkI1 := kI (k := k) (by omega); unfold F_15 at h; unfold mc_15; replace h := tY h; refine tK ha1 hkd hkN1 hkB1 hkI1 ?_)
  |(clear h; intro x K h; replace h := And.left (And.intro h trivial); unfold mc_15; replace h := tY h; refine tB ?_)
  |(clear h; (try refine tB ?_); exact tU0; done))
 | (simp only [ha1])
 | (refine hK1 _ ?_; (try refine tB ?_); refine ⟨_, h, ?_⟩; exact tU0; done)
 | (refine tE ?_; (first | rw [M.lok_compU] | rw [M.lokD_compU]); refine tB ?_)
 | (refine tA ?_)
 | fail)
def F_t (s_ : List GStore) (fc0_ : GRights) : Option Bool :=
 (F_16 s_ fc0_).bind fun y2 => some (decide (0 ≤ y2))
def mc_t : MC :=
 (sR [mo (.mv (.c (.bool false))) 4]
 (sR [oV 0 5,
 oV 1 6,
 mo (.call (.f 47) [(.t 5),(.t 6)] [1000] []) 7,
 mo (.bin false .geq (.t 7) (cI 0)) 8,
 oV 8 4]
 .ret))
theorem Wq_t {s_ : List GStore} {fc0_ : GRights} : Cn Try.prog 39 [.sl (s_.map GStore.v), .fn (.func 36) [.ptr 1000 0]] [(1000, .cells [.int .i64 fc0_.Credentials, .int .i64 fc0_.Resources, .sl (fc0_.Grants.map GGrant.v), .sl (fc0_.Stores.map GStore.v), .sl (fc0_.Mints.map GMint.v)])] (F_t s_ fc0_) (fun z => .bool z) (fun z => [(1000, .cells [.int .i64 fc0_.Credentials, .int .i64 fc0_.Resources, .sl (fc0_.Grants.map GGrant.v), .sl (fc0_.Stores.map GStore.v), .sl (fc0_.Mints.map GMint.v)])]) := fun Q Q' h hQ => by
 refine acallM mc_t [] [1000] [.t 4] Try.func39 fun M => ?_
 unfold F_t at h
 unfold mc_t
 replace h := tY h
 refine tB ?_
 repeat' (first
 | (exact tZ)
 | ((first | refine oblg h ?_ | refine roomG h ?_ | refine fork h ?_ ?_ | refine forkS h ?_ ?_) <;> clear h <;> intro hc h)
 | (obtain ⟨y, hy, h⟩ := h; have hw := Wq_16.w hy; replace hw := tY hw; (first | refine M.sC hw ?_ | refine M.sD hw ?_); clear hw hy; refine tB ?_)
 | (refine tE ?_; (first | rw [M.lok_compU] | rw [M.lokD_compU]); refine tB ?_)
 | (refine tA ?_)
 | fail)
def F_u (m_ : GMint) (p_ : GRights) : Option Bool :=
 (F_3 p_ m_.From).bind fun y4 => jn (α := Bool) (bif (!y4) then some true else (F_3 p_ m_.To).bind fun y6 => some (!y6)) fun j7 => some j7
@[irreducible] def mg_24 : List MOp := [gF 9 10 (.ld (some 5) (.t 1)),
 gF 9 11 (.fad 1 (.t 2)),
 gF 9 12 (.ld none (.t 11)),
 gF 9 13 (.call (.f 22) [(.t 10),(.t 12)] [] []),
 gF 9 14 (.not (.t 13)),
 mo (.pick (.t 9) (.c (.bool true)) (.t 14)) 15]
def mc_u : MC :=
 (sR [mo (.box (.t 0)) 2,
 mo (.mv (.c (.bool false))) 3]
 (.seq (.regI [.op (mo (.ld (some 5) (.t 1)) 4),
 .op (oF 0 2 5),
 .op (oL 5 6),
 .op (mo (.call (.f 22) [(.t 4),(.t 6)] [] []) 7),
 .op (mo (.not (.t 7)) 8),
 .op (oV 8 9),
 .grp mg_24,
 .op (oV 15 3)])
 .ret))
theorem Wq_u {m_ : GMint} {p_ : GRights} : Cn Try.prog 37 [GMint.v m_, .ptr 1000 0] [(1000, .cells [.int .i64 p_.Credentials, .int .i64 p_.Resources, .sl (p_.Grants.map GGrant.v), .sl (p_.Stores.map GStore.v), .sl (p_.Mints.map GMint.v)])] (F_u m_ p_) (fun z => .bool z) (fun z => [(1000, .cells [.int .i64 p_.Credentials, .int .i64 p_.Resources, .sl (p_.Grants.map GGrant.v), .sl (p_.Stores.map GStore.v), .sl (p_.Mints.map GMint.v)])]) := fun Q Q' h hQ => by
 refine acallM mc_u [] [1000] [.t 3] Try.func37 fun M => ?_
 unfold F_u at h
 unfold mc_u
 replace h := tY h
 refine tB ?_
 repeat' (first
 | (exact tZ)
 | ((first | refine oblg h ?_ | refine roomG h ?_ | refine fork h ?_ ?_ | refine forkS h ?_ ?_) <;> clear h <;> intro hc h)
 | (obtain ⟨y, hy, h⟩ := h; have hw := Wq_3.w hy; replace hw := tY hw; (first | refine M.sC hw ?_ | refine M.sD hw ?_); clear hw hy; refine tB ?_)
 | (refine M.gj1 (ms := mg_24) [3] [1000] (fun y => [(15, .bool y)]) (fun y => []) h ?_ ?_ <;> first
 | (clear h; intro Qn K hK1 h; unfold mg_24; replace h := tY h; refine tB ?_)
  |(clear h; intro y h; replace h := tY h; refine tB ?_))
 | (refine hK1 _ ?_; (try refine tB ?_); refine ⟨_, h, ?_⟩; exact tU0; done)
 | (refine tE ?_; (first | rw [M.lok_compU] | rw [M.lokD_compU]); refine tB ?_)
 | (refine tA ?_)
 | fail)
def F_17 (fc0_ : GRights) (k31 : Int) (a32 : GMint) (x30 : Unit) : Option (Fl Unit Int) :=
 (F_u a32 fc0_).bind fun y40 => bif y40 then some (.ex k31) else some (.nx ())
def F_18 (s_ : List GMint) (fc0_ : GRights) : Option Int :=
 (forL (F_17 fc0_) s_ 0 ()).bind fun o => o.elim (fun x41 => some (-1)) (fun r42 => some r42)
@[irreducible] def mc_17 : MC :=
 (sR [mo (.bin false .lss (.t 8) (.t 7)) 9]
 (.seq (.cond (.t 9)
 .skip
 (.exit 0))
 (.seq (.block 1
 (sR [oV 8 10,
 oV 10 5]
 (sR [oV 1 11,
 oV 0 12,
 oV 5 13,
 mo (.iad 2 (.t 12) (.t 13)) 14,
 mo (.ld (some 2) (.t 14)) 15,
 mo (.call (.t 11) [(.t 15)] [1000] []) 16]
 (.cond (.t 16)
 (sR [oV 5 17,
 oV 17 4]
 .ret)
 .skip))))
 (.reg [mo (.bin true .add (.t 8) (cI 1)) 18,
 oV 18 8]))))
def mc_18 : MC :=
 (sR [oC 0 4]
 (.seq (sR [oV 0 6,
 mo (.len false (.t 6)) 7,
 oC 0 8]
 (.block 0
 (.loop mc_17)))
 (sR [oC (-1) 4]
 .ret)))
theorem Wq_18 {s_ : List GMint} {fc0_ : GRights} : Cn Try.prog 48 [.sl (s_.map GMint.v), .fn (.func 37) [.ptr 1000 0]] [(1000, .cells [.int .i64 fc0_.Credentials, .int .i64 fc0_.Resources, .sl (fc0_.Grants.map GGrant.v), .sl (fc0_.Stores.map GStore.v), .sl (fc0_.Mints.map GMint.v)])] (F_18 s_ fc0_) (fun z => .int .i64 z) (fun z => [(1000, .cells [.int .i64 fc0_.Credentials, .int .i64 fc0_.Resources, .sl (fc0_.Grants.map GGrant.v), .sl (fc0_.Stores.map GStore.v), .sl (fc0_.Mints.map GMint.v)])]) := fun Q Q' h hQ => by
 refine acallM mc_18 [] [1000] [.t 4] Try.func48 fun M => ?_
 unfold F_18 at h
 unfold mc_18
 replace h := tY h
 refine tB ?_
 repeat' (first
 | (exact tZ)
 | ((first | refine oblg h ?_ | refine roomG h ?_ | refine fork h ?_ ?_ | refine forkS h ?_ ?_) <;> clear h <;> intro hc h)
 | (obtain ⟨y, hy, h⟩ := h; have hw := Wq_u.w hy; replace hw := tY hw; (first | refine M.sC hw ?_ | refine M.sD hw ?_); clear hw hy; refine tB ?_)
 | (refine M.for1 (b := mc_17) 8 [0,1,7] [1000] (fun x => []) (fun x => []) [] h ?_ ?_ ?_ <;> first
 | (clear h; intro k a x Qn K hK1 hkN1 ha1 h hf; have hl := fact_int (factsE_find (n := 7) hf.1 rfl); clear hf; have hkd := kD hkN1; have hkB1 := kB hkN1; have hkI1 := kI (k := k) (by omega); unfold F_17 at h; unfold mc_17; replace h := tY h; refine tK ha1 hkd hkN1 hkB1 hkI1 ?_)
  |(clear h; intro x K h; replace h := And.left (And.intro h trivial); unfold mc_17; replace h := tY h; refine tB ?_)
  |(clear h; (try refine tB ?_); exact tU0; done))
 | (simp only [ha1])
 | (refine hK1 _ ?_; (try refine tB ?_); refine ⟨_, h, ?_⟩; exact tU0; done)
 | (refine tE ?_; (first | rw [M.lok_compU] | rw [M.lokD_compU]); refine tB ?_)
 | (refine tA ?_)
 | fail)
def F_v (s_ : List GMint) (fc0_ : GRights) : Option Bool :=
 (F_18 s_ fc0_).bind fun y2 => some (decide (0 ≤ y2))
def mc_v : MC :=
 (sR [mo (.mv (.c (.bool false))) 4]
 (sR [oV 0 5,
 oV 1 6,
 mo (.call (.f 48) [(.t 5),(.t 6)] [1000] []) 7,
 mo (.bin false .geq (.t 7) (cI 0)) 8,
 oV 8 4]
 .ret))
theorem Wq_v {s_ : List GMint} {fc0_ : GRights} : Cn Try.prog 40 [.sl (s_.map GMint.v), .fn (.func 37) [.ptr 1000 0]] [(1000, .cells [.int .i64 fc0_.Credentials, .int .i64 fc0_.Resources, .sl (fc0_.Grants.map GGrant.v), .sl (fc0_.Stores.map GStore.v), .sl (fc0_.Mints.map GMint.v)])] (F_v s_ fc0_) (fun z => .bool z) (fun z => [(1000, .cells [.int .i64 fc0_.Credentials, .int .i64 fc0_.Resources, .sl (fc0_.Grants.map GGrant.v), .sl (fc0_.Stores.map GStore.v), .sl (fc0_.Mints.map GMint.v)])]) := fun Q Q' h hQ => by
 refine acallM mc_v [] [1000] [.t 4] Try.func40 fun M => ?_
 unfold F_v at h
 unfold mc_v
 replace h := tY h
 refine tB ?_
 repeat' (first
 | (exact tZ)
 | ((first | refine oblg h ?_ | refine roomG h ?_ | refine fork h ?_ ?_ | refine forkS h ?_ ?_) <;> clear h <;> intro hc h)
 | (obtain ⟨y, hy, h⟩ := h; have hw := Wq_18.w hy; replace hw := tY hw; (first | refine M.sC hw ?_ | refine M.sD hw ?_); clear hw hy; refine tB ?_)
 | (refine tE ?_; (first | rw [M.lok_compU] | rw [M.lokD_compU]); refine tB ?_)
 | (refine tA ?_)
 | fail)
def F_7 (x_ : GRights) : Option Int :=
 (F_0 x_.Credentials 0 24).bind fun y11 => bif (!y11) then some 32 else (F_0 x_.Resources 0 24).bind fun y12 => bif (!y12) then some 32 else grp ((decide (100 < (x_.Grants.length : Int)) || decide (100 < (x_.Stores.length : Int)))) fun b15 => grp ((b15 || decide (100 < (x_.Mints.length : Int)))) fun b16 => bif b16 then some 32 else (F_s x_.Grants x_).bind fun y26 => bif y26 then some 32 else (F_t x_.Stores x_).bind fun y27 => bif y27 then some 32 else (F_v x_.Mints x_).bind fun y28 => bif y28 then some 32 else some 0
@[irreducible] def mg_a : List MOp := [gF 22 23 (.fad 3 (.t 1)),
 gF 22 24 (.ld none (.t 23)),
 gF 22 25 (.len false (.t 24)),
 gF 22 26 (.bin false .gtr (.t 25) (cI 100)),
 mo (.pick (.t 22) (.c (.bool true)) (.t 26)) 27]
@[irreducible] def mg_b : List MOp := [gF 28 29 (.fad 4 (.t 1)),
 gF 28 30 (.ld none (.t 29)),
 gF 28 31 (.len false (.t 30)),
 gF 28 32 (.bin false .gtr (.t 31) (cI 100)),
 mo (.pick (.t 28) (.c (.bool true)) (.t 32)) 33]
def mc_7 : MC :=
 (sR [mo (.box (.t 0)) 1,
 oC 0 2]
 (.seq (.block 0
 (sR [oF 0 1 7,
 oL 7 8,
 mo (.call (.f 31) [(.t 8), (cI 0), (cI 24)] [] []) 9,
 mo (.not (.t 9)) 10,
 oV 10 11,
 gF 11 12 (.fad 1 (.t 1)),
 gF 11 13 (.ld none (.t 12)),
 gF 11 14 (.call (.f 31) [(.t 13), (cI 0), (cI 24)] [] []),
 gF 11 15 (.not (.t 14)),
 mo (.pick (.t 11) (.c (.bool true)) (.t 15)) 16,
 oV 16 6]
 (.cond (.t 6)
 (sR [oC 32 2]
 .ret)
 (.seq (.note (.gc [1,23,24,25,26,29,30,31,32,42,43,44,45,48,49,50,51]) (.regI [.op (oF 2 1 18),
 .op (oL 18 19),
 .op (mo (.len false (.t 19)) 20),
 .op (mo (.bin false .gtr (.t 20) (cI 100)) 21),
 .op (oV 21 22),
 .grp mg_a,
 .op (oV 27 28),
 .grp mg_b,
 .op (oV 33 17)]))
 (.cond (.t 17)
 (sR [oC 32 2]
 .ret)
 .skip)))))
 (sR [mo (.mkfn 35 [(.t 1)]) 34,
 oV 34 3]
 (sR [mo (.mkfn 36 [(.t 1)]) 35,
 oV 35 4]
 (sR [mo (.mkfn 37 [(.t 1)]) 36,
 oV 36 5]
 (.seq (.seq (.note (.gc [1,3,4,5,42,43,44,45,48,49,50,51]) (.reg [oF 2 1 37,
 oL 37 38,
 oV 3 39,
 mo (.call (.f 38) [(.t 38),(.t 39)] [1] []) 40,
 oV 40 41,
 gF 41 42 (.fad 3 (.t 1)),
 gF 41 43 (.ld none (.t 42)),
 gF 41 44 (.mv (.t 4)),
 gF 41 45 (.call (.f 39) [(.t 43),(.t 44)] [1] []),
 mo (.pick (.t 41) (.c (.bool true)) (.t 45)) 46,
 oV 46 47,
 gF 47 48 (.fad 4 (.t 1)),
 gF 47 49 (.ld none (.t 48)),
 gF 47 50 (.mv (.t 5)),
 gF 47 51 (.call (.f 40) [(.t 49),(.t 50)] [1] []),
 mo (.pick (.t 47) (.c (.bool true)) (.t 51)) 52]))
 (.cond (.t 52)
 (sR [oC 32 2]
 .ret)
 .skip))
 (sR [oC 0 2]
 .ret)))))))
theorem Wq_7 {x_ : GRights} : Cn Try.prog 21 [GRights.v x_] [] (F_7 x_) (fun z => .int .i64 z) (fun z => []) := fun Q Q' h hQ => by
 refine acallM mc_7 [] [] [.t 2] Try.func21 fun M => ?_
 unfold F_7 at h
 unfold mc_7
 replace h := tY h
 refine tB ?_
 repeat' (first
 | (exact tZ)
 | ((first | refine oblg h ?_ | refine roomG h ?_ | refine fork h ?_ ?_ | refine forkS h ?_ ?_) <;> clear h <;> intro hc h)
 | (obtain ⟨y, hy, h⟩ := h; (first | (with_reducible first | have hw := Wq_0.w hy) | have hw := acall_swe 1000 1 (Wq_s.w hy) | have hw := acall_swe 1000 1 (Wq_t.w hy) | have hw := acall_swe 1000 1 (Wq_v.w hy)); replace hw := tY hw; (first | refine M.sC hw ?_ | refine M.sD hw ?_); clear hw hy; refine tB ?_)
 | (refine M.gv1 (ms := mg_b) 33 [29,30,31,32] h ?_ ?_ <;> first
 | (clear h; intro K hK1; unfold mg_b; refine tB ?_)
 | (clear h; intro b h; replace h := tY h; refine tB ?_))
 | (refine M.gv1 (ms := mg_a) 27 [23,24,25,26] h ?_ ?_ <;> first
 | (clear h; intro K hK2; unfold mg_a; refine tB ?_)
 | (clear h; intro b h; replace h := tY h; refine tB ?_))
 | ((first | refine hK1 _ ?_ | refine hK2 _ ?_); exact tU; done)
 | (refine bfork (fun hc => ?_) (fun hc => ?_))
 | (refine tE ?_; (first | rw [M.lok_compU] | rw [M.lokD_compU]); refine tB ?_)
 | (refine tA ?_)
 | fail)
def F_19 (c_ : Int) (k16 : Int) (a17 : GMint) (x15 : List GLink) : Option (List GLink) :=
 bif decide (a17.From = c_) then chk (room (x15.length + [(GLink.mk 2 (-1) (-1) k16)].length) 32) (some (x15 ++ [(GLink.mk 2 (-1) (-1) k16)])) else some x15
def F_1a (c_ : Int) (k384 : Int) (a385 : GGrant) (k479 : Int) (a480 : GStore) (x478 : List GLink) : Option (List GLink) :=
 grp ((decide (a385.Credential = c_) && decide (a480.Resource = a385.Resource))) fun b488 => bif b488 then chk (room (x478.length + [(GLink.mk 1 k384 k479 (-1))].length) 32) (some (x478 ++ [(GLink.mk 1 k384 k479 (-1))])) else some x478
def F_1b (x_ : GRights) (c_ : Int) (k384 : Int) (a385 : GGrant) (x383 : List GLink) : Option (List GLink) :=
 (foldL (F_1a c_ k384 a385) x_.Stores 0 x383).bind fun x489 => some x489
def F_8 (x_ : GRights) (c_ : Int) : Option (List GLink) :=
 (foldL (F_19 c_) x_.Mints 0 []).bind fun x18 => (foldL (F_1b x_ c_) x_.Grants 0 x18).bind fun x490 => some x490
@[irreducible] def mc_19 : MC :=
 (sR [mo (.bin false .lss (.t 15) (.t 14)) 16]
 (.seq (.cond (.t 16)
 .skip
 (.exit 0))
 (.seq (.block 1
 (sR [oV 15 17,
 mo (.iad 2 (.t 13) (.t 15)) 18,
 mo (.ld (some 2) (.t 18)) 19,
 mo (.alloc [(.int .i64 0),(.int .i64 0)]) 7,
 oV 17 6,
 ⟨.st 2 (.t 7) (.t 19), none, none⟩]
 (sR [oF 0 7 20,
 oL 20 21,
 oV 1 22,
 mo (.bin false .eql (.t 21) (.t 22)) 23]
 (.cond (.t 23)
 (.note (.gc [1,2,5,6,13,14,15,51,52,53,54,55]) (.reg [oV 5 24,
 oV 6 25,
 mo (.build [(.int .i64 0),(.int .i64 0),(.int .i64 0),(.int .i64 0)] [(0,1, (cI 2)), (1,1, (cI (-1))), (2,1, (cI (-1))), (3,1,(.t 25))]) 26,
 mo (.bslice 4 [(.t 26)]) 27,
 mo (.app 4 32 (.t 24) (.t 27)) 28,
 oV 28 5]))
 .skip))))
 (.reg [mo (.bin true .add (.t 15) (cI 1)) 29,
 oV 29 15]))))
@[irreducible] def mg_25 : List MOp := [gT 50 51 (.fad 0 (.t 11)),
 gT 50 52 (.ld none (.t 51)),
 gT 50 53 (.fad 1 (.t 9)),
 gT 50 54 (.ld none (.t 53)),
 gT 50 55 (.bin false .eql (.t 52) (.t 54)),
 mo (.pick (.t 50) (.t 55) (.c (.bool false))) 56]
@[irreducible] def mc_1a : MC :=
 (sR [mo (.bin false .lss (.t 41) (.t 40)) 42]
 (.seq (.cond (.t 42)
 .skip
 (.exit 4))
 (.seq (.block 5
 (sR [oV 41 43,
 mo (.iad 2 (.t 39) (.t 41)) 44,
 mo (.ld (some 2) (.t 44)) 45,
 mo (.alloc [(.int .i64 0),(.int .i64 0)]) 11,
 oV 43 10,
 ⟨.st 2 (.t 11) (.t 45), none, none⟩]
 (.seq (.regI [.op (oF 0 9 46),
 .op (oL 46 47),
 .op (oV 1 48),
 .op (mo (.bin false .eql (.t 47) (.t 48)) 49),
 .op (oV 49 50),
 .grp mg_25])
 (.cond (.t 56)
 (.note (.gc [1,2,5,8,9,10,31,32,33,39,40,41,51,52,53,54,55]) (.reg [oV 5 57,
 oV 8 58,
 oV 10 59,
 mo (.build [(.int .i64 0),(.int .i64 0),(.int .i64 0),(.int .i64 0)] [(0,1, (cI 1)), (1,1,(.t 58)), (2,1,(.t 59)), (3,1, (cI (-1)))]) 60,
 mo (.bslice 4 [(.t 60)]) 61,
 mo (.app 4 32 (.t 57) (.t 61)) 62,
 oV 62 5]))
 .skip))))
 (.reg [mo (.bin true .add (.t 41) (cI 1)) 63,
 oV 63 41]))))
@[irreducible] def mc_1b : MC :=
 (sR [mo (.bin false .lss (.t 33) (.t 32)) 34]
 (.seq (.cond (.t 34)
 .skip
 (.exit 2))
 (.seq (.block 3
 (sR [oV 33 35,
 mo (.iad 3 (.t 31) (.t 33)) 36,
 mo (.ld (some 3) (.t 36)) 37,
 mo (.alloc [(.int .i64 0),(.int .i64 0),(.int .i64 0)]) 9,
 oV 35 8,
 ⟨.st 3 (.t 9) (.t 37), none, none⟩]
 (sR [oF 3 2 38,
 oL 38 39,
 mo (.len false (.t 39)) 40,
 oC 0 41]
 (.block 4
 (.loop mc_1a)))))
 (.reg [mo (.bin true .add (.t 33) (cI 1)) 64,
 oV 64 33]))))
def mc_8 : MC :=
 (sR [mo (.box (.t 0)) 2,
 mo (.mv (.c (.sl []))) 4]
 (sR [mo (.mv (.c .nils)) 5]
 (.seq (sR [oF 4 2 12,
 oL 12 13,
 mo (.len false (.t 13)) 14,
 oC 0 15]
 (.block 0
 (.loop mc_19)))
 (.seq (sR [oF 2 2 30,
 oL 30 31,
 mo (.len false (.t 31)) 32,
 oC 0 33]
 (.block 2
 (.loop mc_1b)))
 (sR [oV 5 65,
 oV 65 4]
 .ret)))))
theorem Wq_8 {x_ : GRights} {c_ : Int} : Cn Try.prog 28 [GRights.v x_, .int .i64 c_] [] (F_8 x_ c_) (fun z => .sl (z.map GLink.v)) (fun z => []) := fun Q Q' h hQ => by
 refine acallM mc_8 [.fz 4] [] [.t 4] Try.func28 fun M => ?_
 unfold F_8 at h
 unfold mc_8
 replace h := tY h
 refine tB ?_
 repeat' (first
 | (exact tZ)
 | ((first | refine oblg h ?_ | refine roomG h ?_ | refine fork h ?_ ?_ | refine forkS h ?_ ?_) <;> clear h <;> intro hc h)
 | (refine M.fold1 (b := mc_19) 15 [1,2,13,14] [2] (fun x => [(5, .osl 2005 4 0 x.length)]) (fun x => [.o 2005 (.arr 4 (x.map GLink.v))]) [.gc [1,2,5,13,14,15], .acc 5 2005 4] h ?_ ?_ ?_ <;> first
 | (clear h; intro k a x Qn K hK1 hkN1 ha1 h hf; have hl := fact_int (factsE_find (n := 14) hf.1 rfl); clear hf; have hkd := kD hkN1; have hkB1 := kB hkN1; have hkI1 := kI (k := k) (by omega); unfold F_19 at h; unfold mc_19; replace h := tY h; refine tK ha1 hkd hkN1 hkB1 hkI1 ?_)
  |(clear h; intro x K h; replace h := And.left (And.intro h trivial); unfold mc_19; replace h := tY h; refine tB ?_)
  |(clear h; (try refine tB ?_); exact tU0; done))
 | (refine M.gv1 (ms := mg_25) 56 [51,52,53,54,55] h ?_ ?_ <;> first
 | (clear h; intro K hK2; unfold mg_25; refine tB ?_)
 | (clear h; intro b h; replace h := tY h; refine tB ?_))
 | (refine M.fold1 (b := mc_1a) 41 [1,2,8,9,31,32,33,39,40] [9,2] (fun x => [(5, .osl 2005 4 0 x.length)]) (fun x => [.o 2005 (.arr 4 (x.map GLink.v))]) [.gc [1,2,5,8,9,31,32,33,39,40,41], .acc 5 2005 4] h ?_ ?_ ?_ <;> first
 | (clear h; intro k a x Qn K hK3 hkN3 ha3 h hf; have hl := fact_int (factsE_find (n := 40) hf.1 rfl); clear hf; have hkd := kD hkN3; have hkB3 := kB hkN3; have hkI3 := kI (k := k) (by omega); unfold F_1a at h; unfold mc_1a; replace h := tY h; refine tK ha3 hkd hkN3 hkB3 hkI3 ?_)
  |(clear h; intro x K h; replace h := And.left (And.intro h trivial); unfold mc_1a; replace h := tY h; refine tB ?_)
  |(clear h; (try refine tB ?_); exact tU0; done))
 | (refine M.fold1 (b := mc_1b) 33 [1,2,31,32] [2] (fun x => [(5, .osl 2005 4 0 x.length)]) (fun x => [.o 2005 (.arr 4 (x.map GLink.v))]) [] h ?_ ?_ ?_ <;> first
 | (clear h; intro k a x Qn K hK4 hkN4 ha4 h hf; have hl := fact_int (factsE_find (n := 32) hf.1 rfl); clear hf; have hkd := kD hkN4; have hkB4 := kB hkN4; have hkI4 := kI (k := k) (by omega); unfold F_1b at h; unfold mc_1b; replace h := tY h; refine tK ha4 hkd hkN4 hkB4 hkI4 ?_)
  |(clear h; intro x K h; replace h := And.left (And.intro h trivial); unfold mc_1b; replace h := tY h; refine tB ?_)
  |(clear h; (try refine tB ?_); exact tU0; done))
 | (first | simp only [ha1] | simp only [ha3] | simp only [ha4])
 | ((first | refine hK1 _ ?_ | refine hK3 _ ?_ | refine hK4 _ ?_); (try refine tB ?_); refine ⟨_, h, ?_⟩; exact tU0; done)
 | (refine hK2 _ ?_; exact tU; done)
 | (refine bfork (fun hc => ?_) (fun hc => ?_))
 | (refine tE ?_; (first | rw [M.lok_compU] | rw [M.lokD_compU]); refine tB ?_)
 | (refine tA ?_)
 | fail)
def F_9 (x_ : GRights) (c_ : Int) (l_ : GLink) : Option (Int × Bool) :=
 grp ((decide (l_.Kind = 2) && decide (l_.Grant = (-1)))) fun b20 => grp ((b20 && decide (l_.Store = (-1)))) fun b21 => jn (α := Bool) (bif b21 then chk (in64 ((x_.Mints.length : Int) - 1)) ((F_0 l_.Mint 0 ((x_.Mints.length : Int) - 1)).bind fun y23 => some y23) else some false) fun j24 => jn (α := Bool) (bif j24 then chk (inb l_.Mint x_.Mints.length) (some (decide ((x_.Mints.getD (l_.Mint).toNat default).From = c_))) else some false) fun j25 => bif j25 then chk (inb l_.Mint x_.Mints.length) (some ((x_.Mints.getD (l_.Mint).toNat default).To, true)) else bif decide (l_.Kind = 1) then bif decide (l_.Mint = (-1)) then chk (in64 ((x_.Grants.length : Int) - 1)) ((F_0 l_.Grant 0 ((x_.Grants.length : Int) - 1)).bind fun y28 => bif y28 then chk (in64 ((x_.Stores.length : Int) - 1)) ((F_0 l_.Store 0 ((x_.Stores.length : Int) - 1)).bind fun y29 => bif y29 then chk (inb l_.Grant x_.Grants.length) (bif decide ((x_.Grants.getD (l_.Grant).toNat default).Credential = c_) then chk (inb l_.Store x_.Stores.length) (chk (inb l_.Grant x_.Grants.length) (bif decide ((x_.Stores.getD (l_.Store).toNat default).Resource = (x_.Grants.getD (l_.Grant).toNat default).Resource) then chk (inb l_.Store x_.Stores.length) (some ((x_.Stores.getD (l_.Store).toNat default).Credential, true)) else some (0, false))) else some (0, false)) else some (0, false)) else some (0, false)) else some (0, false) else some (0, false)
@[irreducible] def mg_26 : List MOp := [gT 12 13 (.fad 1 (.t 5)),
 gT 12 14 (.ld none (.t 13)),
 gT 12 15 (.bin false .eql (.t 14) (cI (-1))),
 mo (.pick (.t 12) (.t 15) (.c (.bool false))) 16]
@[irreducible] def mg_27 : List MOp := [gT 17 18 (.fad 2 (.t 5)),
 gT 17 19 (.ld none (.t 18)),
 gT 17 20 (.bin false .eql (.t 19) (cI (-1))),
 mo (.pick (.t 17) (.t 20) (.c (.bool false))) 21]
@[irreducible] def mg_28 : List MOp := [gT 22 23 (.fad 3 (.t 5)),
 gT 22 24 (.ld none (.t 23)),
 gT 22 25 (.fad 4 (.t 3)),
 gT 22 26 (.ld none (.t 25)),
 gT 22 27 (.len false (.t 26)),
 gT 22 28 (.bin true .sub (.t 27) (cI 1)),
 gT 22 29 (.call (.f 31) [(.t 24), (cI 0),(.t 28)] [] []),
 mo (.pick (.t 22) (.t 29) (.c (.bool false))) 30]
@[irreducible] def mg_29 : List MOp := [gT 31 32 (.fad 4 (.t 3)),
 gT 31 33 (.ld none (.t 32)),
 gT 31 34 (.fad 3 (.t 5)),
 gT 31 35 (.ld none (.t 34)),
 gT 31 36 (.iad 2 (.t 33) (.t 35)),
 gT 31 37 (.fad 0 (.t 36)),
 gT 31 38 (.ld none (.t 37)),
 gT 31 39 (.mv (.t 1)),
 gT 31 40 (.bin false .eql (.t 38) (.t 39)),
 mo (.pick (.t 31) (.t 40) (.c (.bool false))) 41]
def mc_9 : MC :=
 (sR [mo (.box (.t 0)) 3,
 mo (.box (.t 2)) 5,
 oC 0 6,
 mo (.mv (.c (.bool false))) 7]
 (.seq (.block 0
 (.seq (.regI [.op (oF 0 5 9),
 .op (oL 9 10),
 .op (mo (.bin false .eql (.t 10) (cI 2)) 11),
 .op (oV 11 12),
 .grp mg_26,
 .op (oV 16 17),
 .grp mg_27,
 .op (oV 21 22),
 .grp mg_28,
 .op (oV 30 31),
 .grp mg_29,
 .op (oV 41 8)])
 (.cond (.t 8)
 (sR [oF 4 3 42,
 oL 42 43,
 oF 3 5 44,
 oL 44 45,
 mo (.iad 2 (.t 43) (.t 45)) 46,
 oF 1 46 47,
 oL 47 48,
 oV 48 6,
 mo (.mv (.c (.bool true))) 7]
 .ret)
 (.seq (.regD [oF 0 5 50,
 oL 50 51,
 mo (.bin false .eql (.t 51) (cI 1)) 52,
 oV 52 53,
 gT 53 54 (.fad 3 (.t 5)),
 gT 53 55 (.ld none (.t 54)),
 gT 53 56 (.bin false .eql (.t 55) (cI (-1))),
 mo (.pick (.t 53) (.t 56) (.c (.bool false))) 57,
 oV 57 58,
 gT 58 59 (.fad 1 (.t 5)),
 gT 58 60 (.ld none (.t 59)),
 gT 58 61 (.fad 2 (.t 3)),
 gT 58 62 (.ld none (.t 61)),
 gT 58 63 (.len false (.t 62)),
 gT 58 64 (.bin true .sub (.t 63) (cI 1)),
 gT 58 65 (.call (.f 31) [(.t 60), (cI 0),(.t 64)] [] []),
 mo (.pick (.t 58) (.t 65) (.c (.bool false))) 66,
 oV 66 67,
 gT 67 68 (.fad 2 (.t 5)),
 gT 67 69 (.ld none (.t 68)),
 gT 67 70 (.fad 3 (.t 3)),
 gT 67 71 (.ld none (.t 70)),
 gT 67 72 (.len false (.t 71)),
 gT 67 73 (.bin true .sub (.t 72) (cI 1)),
 gT 67 74 (.call (.f 31) [(.t 69), (cI 0),(.t 73)] [] []),
 mo (.pick (.t 67) (.t 74) (.c (.bool false))) 75,
 oV 75 76,
 gT 76 77 (.fad 2 (.t 3)),
 gT 76 78 (.ld none (.t 77)),
 gT 76 79 (.fad 1 (.t 5)),
 gT 76 80 (.ld none (.t 79)),
 gT 76 81 (.iad 3 (.t 78) (.t 80)),
 gT 76 82 (.fad 0 (.t 81)),
 gT 76 83 (.ld none (.t 82)),
 gT 76 84 (.mv (.t 1)),
 gT 76 85 (.bin false .eql (.t 83) (.t 84)),
 mo (.pick (.t 76) (.t 85) (.c (.bool false))) 86,
 oV 86 87,
 gT 87 88 (.fad 3 (.t 3)),
 gT 87 89 (.ld none (.t 88)),
 gT 87 90 (.fad 2 (.t 5)),
 gT 87 91 (.ld none (.t 90)),
 gT 87 92 (.iad 2 (.t 89) (.t 91)),
 gT 87 93 (.fad 0 (.t 92)),
 gT 87 94 (.ld none (.t 93)),
 gT 87 95 (.fad 2 (.t 3)),
 gT 87 96 (.ld none (.t 95)),
 gT 87 97 (.fad 1 (.t 5)),
 gT 87 98 (.ld none (.t 97)),
 gT 87 99 (.iad 3 (.t 96) (.t 98)),
 gT 87 100 (.fad 1 (.t 99)),
 gT 87 101 (.ld none (.t 100)),
 gT 87 102 (.bin false .eql (.t 94) (.t 101)),
 mo (.pick (.t 87) (.t 102) (.c (.bool false))) 103,
 oV 103 49]
 [[],[0],[1],[2],[3],[4,3],[5,3],[3,6],[7,3],[8],[9,8],[8],[11,8],[12,8],[13,8],[10,14,8,8],[8,15],[16,15],[17],[18,17],[17],[20,17],[21,17],[22,17],[19,23,17,17],[17,24],[25,24],[26],[27,26],[26],[29,26],[28,30,26],[31,26],[32,26],[26],[33,34,26],[26,35],[36,26],[37],[38,37],[37],[40,37],[39,41,37],[42,37],[43,37],[37],[45,37],[37],[47,37],[46,48,37],[49,37],[50,37],[44,51,37],[37,52],[53,37]]
 [[],[0],[0,1],[0,1,2],[0,1,2,3],[0,1,2,3,4],[0,1,2,3,4,5],[0,1,2,3,4,5,6],[0,1,2,3,4,5,6,7],[0,1,2,3,4,5,6,7,8],[0,1,2,3,4,5,6,7,8,9],[0,1,2,3,4,5,6,7,8],[0,1,2,3,4,5,6,7,8,11],[0,1,2,3,4,5,6,7,8,11,12],[0,1,2,3,4,5,6,7,8,11,12,13],[0,1,2,3,4,5,6,7,8,9,10,11,12,13,14],[0,1,2,3,4,5,6,7,8,9,10,11,12,13,14,15],[0,1,2,3,4,5,6,7,8,9,10,11,12,13,14,15,16],[0,1,2,3,4,5,6,7,8,9,10,11,12,13,14,15,16,17],[0,1,2,3,4,5,6,7,8,9,10,11,12,13,14,15,16,17,18],[0,1,2,3,4,5,6,7,8,9,10,11,12,13,14,15,16,17],[0,1,2,3,4,5,6,7,8,9,10,11,12,13,14,15,16,17,20],[0,1,2,3,4,5,6,7,8,9,10,11,12,13,14,15,16,17,20,21],[0,1,2,3,4,5,6,7,8,9,10,11,12,13,14,15,16,17,20,21,22],[0,1,2,3,4,5,6,7,8,9,10,11,12,13,14,15,16,17,18,19,20,21,22,23],[0,1,2,3,4,5,6,7,8,9,10,11,12,13,14,15,16,17,18,19,20,21,22,23,24],[0,1,2,3,4,5,6,7,8,9,10,11,12,13,14,15,16,17,18,19,20,21,22,23,24,25],[0,1,2,3,4,5,6,7,8,9,10,11,12,13,14,15,16,17,18,19,20,21,22,23,24,25,26],[0,1,2,3,4,5,6,7,8,9,10,11,12,13,14,15,16,17,18,19,20,21,22,23,24,25,26,27],[0,1,2,3,4,5,6,7,8,9,10,11,12,13,14,15,16,17,18,19,20,21,22,23,24,25,26],[0,1,2,3,4,5,6,7,8,9,10,11,12,13,14,15,16,17,18,19,20,21,22,23,24,25,26,29],[0,1,2,3,4,5,6,7,8,9,10,11,12,13,14,15,16,17,18,19,20,21,22,23,24,25,26,27,28,29,30],[0,1,2,3,4,5,6,7,8,9,10,11,12,13,14,15,16,17,18,19,20,21,22,23,24,25,26,27,28,29,30,31],[0,1,2,3,4,5,6,7,8,9,10,11,12,13,14,15,16,17,18,19,20,21,22,23,24,25,26,27,28,29,30,31,32],[0,1,2,3,4,5,6,7,8,9,10,11,12,13,14,15,16,17,18,19,20,21,22,23,24,25,26],[0,1,2,3,4,5,6,7,8,9,10,11,12,13,14,15,16,17,18,19,20,21,22,23,24,25,26,27,28,29,30,31,32,33,34],[0,1,2,3,4,5,6,7,8,9,10,11,12,13,14,15,16,17,18,19,20,21,22,23,24,25,26,27,28,29,30,31,32,33,34,35],[0,1,2,3,4,5,6,7,8,9,10,11,12,13,14,15,16,17,18,19,20,21,22,23,24,25,26,27,28,29,30,31,32,33,34,35,36],[0,1,2,3,4,5,6,7,8,9,10,11,12,13,14,15,16,17,18,19,20,21,22,23,24,25,26,27,28,29,30,31,32,33,34,35,36,37],[0,1,2,3,4,5,6,7,8,9,10,11,12,13,14,15,16,17,18,19,20,21,22,23,24,25,26,27,28,29,30,31,32,33,34,35,36,37,38],[0,1,2,3,4,5,6,7,8,9,10,11,12,13,14,15,16,17,18,19,20,21,22,23,24,25,26,27,28,29,30,31,32,33,34,35,36,37],[0,1,2,3,4,5,6,7,8,9,10,11,12,13,14,15,16,17,18,19,20,21,22,23,24,25,26,27,28,29,30,31,32,33,34,35,36,37,40],[0,1,2,3,4,5,6,7,8,9,10,11,12,13,14,15,16,17,18,19,20,21,22,23,24,25,26,27,28,29,30,31,32,33,34,35,36,37,38,39,40,41],[0,1,2,3,4,5,6,7,8,9,10,11,12,13,14,15,16,17,18,19,20,21,22,23,24,25,26,27,28,29,30,31,32,33,34,35,36,37,38,39,40,41,42],[0,1,2,3,4,5,6,7,8,9,10,11,12,13,14,15,16,17,18,19,20,21,22,23,24,25,26,27,28,29,30,31,32,33,34,35,36,37,38,39,40,41,42,43],[0,1,2,3,4,5,6,7,8,9,10,11,12,13,14,15,16,17,18,19,20,21,22,23,24,25,26,27,28,29,30,31,32,33,34,35,36,37],[0,1,2,3,4,5,6,7,8,9,10,11,12,13,14,15,16,17,18,19,20,21,22,23,24,25,26,27,28,29,30,31,32,33,34,35,36,37,45],[0,1,2,3,4,5,6,7,8,9,10,11,12,13,14,15,16,17,18,19,20,21,22,23,24,25,26,27,28,29,30,31,32,33,34,35,36,37],[0,1,2,3,4,5,6,7,8,9,10,11,12,13,14,15,16,17,18,19,20,21,22,23,24,25,26,27,28,29,30,31,32,33,34,35,36,37,47],[0,1,2,3,4,5,6,7,8,9,10,11,12,13,14,15,16,17,18,19,20,21,22,23,24,25,26,27,28,29,30,31,32,33,34,35,36,37,45,46,47,48],[0,1,2,3,4,5,6,7,8,9,10,11,12,13,14,15,16,17,18,19,20,21,22,23,24,25,26,27,28,29,30,31,32,33,34,35,36,37,45,46,47,48,49],[0,1,2,3,4,5,6,7,8,9,10,11,12,13,14,15,16,17,18,19,20,21,22,23,24,25,26,27,28,29,30,31,32,33,34,35,36,37,45,46,47,48,49,50],[0,1,2,3,4,5,6,7,8,9,10,11,12,13,14,15,16,17,18,19,20,21,22,23,24,25,26,27,28,29,30,31,32,33,34,35,36,37,38,39,40,41,42,43,44,45,46,47,48,49,50,51],[0,1,2,3,4,5,6,7,8,9,10,11,12,13,14,15,16,17,18,19,20,21,22,23,24,25,26,27,28,29,30,31,32,33,34,35,36,37,38,39,40,41,42,43,44,45,46,47,48,49,50,51,52],[0,1,2,3,4,5,6,7,8,9,10,11,12,13,14,15,16,17,18,19,20,21,22,23,24,25,26,27,28,29,30,31,32,33,34,35,36,37,38,39,40,41,42,43,44,45,46,47,48,49,50,51,52,53]])
 (.cond (.t 49)
 (.seq (.note (.gc [3,5]) (.reg [oF 3 3 104,
 oL 104 105,
 oF 2 5 106,
 oL 106 107,
 mo (.iad 2 (.t 105) (.t 107)) 108,
 oF 1 108 109,
 oL 109 110,
 oV 110 6,
 mo (.mv (.c (.bool true))) 7]))
 .ret)
 .skip)))))
 (sR [oC 0 6,
 mo (.mv (.c (.bool false))) 7]
 .ret)))
theorem Wq_9 {x_ : GRights} {c_ : Int} {l_ : GLink} : Cn Try.prog 29 [GRights.v x_, .int .i64 c_, GLink.v l_] [] (F_9 x_ c_ l_) (fun z => .tup [.int .i64 z.1, .bool z.2]) (fun z => []) := fun Q Q' h hQ => by
 refine acallM mc_9 [] [] [.t 6, .t 7] Try.func29 fun M => ?_
 unfold F_9 at h
 unfold mc_9
 replace h := tY h
 refine tB ?_
 repeat' (first
 | (exact tZ)
 | ((first | refine oblg h ?_ | refine roomG h ?_ | refine fork h ?_ ?_ | refine forkS h ?_ ?_) <;> clear h <;> intro hc h)
 | (obtain ⟨y, hy, h⟩ := h; have hw := Wq_0.w hy; replace hw := tY hw; (first | refine M.sC hw ?_ | refine M.sD hw ?_); clear hw hy; refine tB ?_)
 | (refine M.gj1 (ms := mg_29) [1,3,5] [5,3] (fun y => [(41, .bool y)]) (fun y => []) h ?_ ?_ <;> first
 | (clear h; intro Qn K hK1 h; unfold mg_29; replace h := tY h; refine tB ?_)
  |(clear h; intro y h; replace h := tY h; refine tB ?_))
 | (refine M.gj1 (ms := mg_28) [1,3,5] [5,3] (fun y => [(30, .bool y)]) (fun y => []) h ?_ ?_ <;> first
 | (clear h; intro Qn K hK2 h; unfold mg_28; replace h := tY h; refine tB ?_)
  |(clear h; intro y h; replace h := tY h; refine tB ?_))
 | (refine M.gv1 (ms := mg_27) 21 [18,19,20] h ?_ ?_ <;> first
 | (clear h; intro K hK3; unfold mg_27; refine tB ?_)
 | (clear h; intro b h; replace h := tY h; refine tB ?_))
 | (refine M.gv1 (ms := mg_26) 16 [13,14,15] h ?_ ?_ <;> first
 | (clear h; intro K hK4; unfold mg_26; refine tB ?_)
 | (clear h; intro b h; replace h := tY h; refine tB ?_))
 | ((first | refine hK1 _ ?_ | refine hK2 _ ?_); (try refine tB ?_); refine ⟨_, h, ?_⟩; exact tU0; done)
 | ((first | refine hK3 _ ?_ | refine hK4 _ ?_); exact tU; done)
 | (refine bfork (fun hc => ?_) (fun hc => ?_))
 | (refine tE ?_; (first | rw [M.lok_compU] | rw [M.lokD_compU]); refine tB ?_)
 | (refine tA ?_)
 | fail)
noncomputable def F_k (s_ : List GLink) : Option (List GLink) :=
 amb s_.isEmpty (some []) (chk (room (([] : List GLink).length + s_.length) 32) (some (([] : List GLink) ++ s_)))
def mc_k : MC :=
 (sR [mo (.mv (.c .nils)) 2]
 (.seq (sR [oV 0 3,
 mo (.mp (.isn false) [(.t 3)]) 4]
 (.cond (.t 4)
 (sR [mo (.mv (.c .nils)) 2]
 .ret)
 .skip))
 (sR [mo (.bslice 4 []) 5,
 oV 0 6,
 mo (.app 4 32 (.t 5) (.t 6)) 7,
 oV 7 2]
 .ret)))
theorem Wq_k {s_ : List GLink} : Cn Try.prog 41 [.sl (s_.map GLink.v)] [] (F_k s_) (fun z => .osl 1900 4 0 z.length) (fun z => [(1900, .arr 4 (z.map GLink.v))]) := fun Q Q' h hQ => by
 refine acallM mc_k [.acc 2 1900 4] [1900] [.t 2] Try.func41 fun M => ?_
 unfold F_k at h
 unfold mc_k
 replace h := tY h
 refine tB ?_
 repeat' (first
 | (exact tZ)
 | ((first | refine oblg h ?_ | refine roomG h ?_ | refine fork h ?_ ?_ | refine forkS h ?_ ?_) <;> clear h <;> intro hc h)
 | (refine amb_fork h (fun hp => by simpa using hp) ?_ ?_ <;> first
 | (clear h; intro hc h; rw [M.lok_eq]; replace h := tY h; refine tB ?_)
  |(clear h; intro h; rw [M.lok_eq]; replace h := tY h; refine tB ?_))
 | (refine tE ?_; (first | rw [M.lok_compU] | rw [M.lokD_compU]); refine tB ?_)
 | (refine tA ?_)
 | fail)
noncomputable def F_o (x_ : GRights) (k599 : Int) (a600 : GLink) (x598 : (List Int) × (List (Int × List GLink))) : Option ((List Int) × (List (Int × List GLink))) :=
 chk (inb 0 x598.1.length) ((F_9 x_ (x598.1.getD 0 default) a600).bind fun y614 => bif (!((aget y614.1 x598.2).isSome)) then chk (inb 0 x598.1.length) ((F_k ((aget (x598.1.getD 0 default) x598.2).getD [])).bind fun y616 => chk (room (y616.length + [a600].length) 32) (chk (room (x598.1.length + [y614.1].length) 8) (some ((x598.1 ++ [y614.1]), aput y614.1 (y616 ++ [a600]) x598.2)))) else some (x598.1, x598.2))
noncomputable def F_c (x_ : GRights) (x437 : (List Int) × (List (Int × List GLink))) : Option (Fl ((List Int) × (List (Int × List GLink))) (List (Int × List GLink))) :=
 bif decide (0 < (x437.1.length : Int)) then chk (inb 0 x437.1.length) ((F_8 x_ (x437.1.getD 0 default)).bind fun y568 => (foldL (F_o x_) y568 0 (x437.1, x437.2)).bind fun x617 => chk (inc 1 (x617.1.length : Int) x617.1.length) (some (.nx ((x617.1.drop 1).take (x617.1.length - 1), x617.2)))) else some (.ex x437.2)
noncomputable def F_6 (x_ : GRights) (c_ : Int) : Option (List (Int × List GLink)) :=
 (loop (F_c x_) ([c_], aput c_ [] [])).bind fun r618 => some r618
@[irreducible] def mc_o : MC :=
 (sR [mo (.bin false .lss (.t 29) (.t 28)) 30]
 (.seq (.cond (.t 30)
 .skip
 (.exit 2))
 (.seq (.block 3
 (sR [mo (.iad 4 (.t 27) (.t 29)) 31,
 mo (.ld (some 4) (.t 31)) 32,
 mo (.alloc [(.int .i64 0),(.int .i64 0),(.int .i64 0),(.int .i64 0)]) 8,
 ⟨.st 4 (.t 8) (.t 32), none, none⟩]
 (.seq (.regD [mo (.ld (some 5) (.t 2)) 34,
 oV 6 35,
 mo (.iad 1 (.t 35) (cI 0)) 36,
 oL 36 37,
 mo (.ld (some 4) (.t 8)) 38,
 mo (.call (.f 29) [(.t 34),(.t 37),(.t 38)] [] []) 39,
 oV 39 33,
 mo (.ext 0 (.t 33)) 40,
 mo (.ext 1 (.t 33)) 41,
 oV 40 9,
 oV 41 10]
 [[],[],[1],[2],[],[0,3,4],[5],[6],[6],[7,5,0,1,2,3,4,5,6,7],[8,9,0,1,2,3,4,5,6,7,8,9]]
 [[],[],[1],[1,2],[],[0,1,2,3,4],[0,1,2,3,4,5],[0,1,2,3,4,5,6],[0,1,2,3,4,5,6],[0,1,2,3,4,5,6,7],[0,1,2,3,4,5,6,7,8,9]])
 (.seq (.note (.gc [2,5,6,8,9,27,28,29]) (.reg [oV 5 43,
 oV 9 44,
 mo (.mp (.lku (.int .i64) true (.sl [])) [(.t 43),(.t 44)]) 45,
 oV 45 42,
 mo (.ext 0 (.t 42)) 46,
 mo (.ext 1 (.t 42)) 47,
 oV 46 11,
 oV 47 12]))
 (sR [oV 12 48,
 mo (.not (.t 48)) 49]
 (.cond (.t 49)
 (.seq (.note (.gc [2,5,6,8,9,27,28,29]) (.regD [oV 5 50,
 oV 9 51,
 oV 5 52,
 oV 6 53,
 mo (.iad 1 (.t 53) (cI 0)) 54,
 oL 54 55,
 mo (.mp (.lku (.int .i64) false (.sl [])) [(.t 52),(.t 55)]) 56,
 mo (.call (.f 41) [(.t 56)] [] [57]) 57,
 mo (.ld (some 4) (.t 8)) 58,
 mo (.bslice 4 [(.t 58)]) 59,
 mo (.app 4 32 (.t 57) (.t 59)) 60,
 ⟨.mp (.ups (.int .i64)) [(.t 50),(.t 51),(.t 60)], none, none⟩]
 [[],[],[],[],[3],[4],[2,5],[6],[],[8],[7,9,7],[0,1,10,10,0,1,2,3,4,5,6,7,8,9,10]]
 [[],[],[],[],[3],[3,4],[2,3,4,5],[2,3,4,5,6],[],[8],[2,3,4,5,6,7,8,9],[0,1,2,3,4,5,6,7,8,9,10]]))
 (.note (.gc [2,5,6,9,27,28,29]) (.reg [oV 6 61,
 oV 9 62,
 mo (.bslice 1 [(.t 62)]) 63,
 mo (.app 1 8 (.t 61) (.t 63)) 64,
 oV 64 6])))
 .skip))))))
 (.reg [mo (.bin true .add (.t 29) (cI 1)) 65,
 oV 65 29]))))
@[irreducible] def mc_c : MC :=
 (.seq (sR [oV 6 18,
 mo (.len false (.t 18)) 19,
 mo (.bin false .gtr (.t 19) (cI 0)) 20]
 (.cond (.t 20)
 .skip
 (.exit 0)))
 (.seq (.block 1
 (.seq (.regD [mo (.ld (some 5) (.t 2)) 23,
 oV 6 24,
 mo (.iad 1 (.t 24) (cI 0)) 25,
 oL 25 26,
 mo (.call (.f 28) [(.t 23),(.t 26)] [] []) 27,
 mo (.len false (.t 27)) 28,
 oC 0 29]
 [[],[],[1],[2],[0,3],[4],[]]
 [[],[],[1],[1,2],[0,1,2,3],[0,1,2,3,4],[]])
 (.block 2
 (.loop mc_o))))
 (.reg [oV 6 21,
 mo (.slc 1 (.t 21) (some (cI 1)) none) 22,
 oV 22 6])))
def mc_6 : MC :=
 (sR [mo (.box (.t 0)) 2,
 mo (.mv (.c .nilm)) 4]
 (.seq (.regI [.op (mo (.mp (.mk (.int .i64)) []) 13),
 .op (oV 1 14),
 .op ⟨.mp (.up (.int .i64)) [(.t 13),(.t 14),(.c .nils)], none, none⟩,
 .nt (.nm 13 1900 4),
 .op (oV 13 15),
 .op (oV 15 5)])
 (.seq (sR [oV 1 16,
 mo (.bslice 1 [(.t 16)]) 17,
 oV 17 6]
 (.block 0
 (.loop mc_c)))
 (sR [oV 5 66,
 oV 66 4]
 .ret))))
theorem Wm_rights_chains {x_ : GRights} {c_ : Int} : Cn Try.prog 23 [GRights.v x_, .int .i64 c_] [(1900, .mark)] (F_6 x_ c_) (fun z => .nsmap 1900 4 (.int .i64) (z.map (kvV (V.int .i64) (slV GLink.v)))) (fun z => [(1900, .mark)]) := fun Q Q' h hQ => by
 refine acallM mc_6 [.fz 4] [1900] [.t 4] Try.func23 fun M => ?_
 unfold F_6 at h
 unfold mc_6
 replace h := tY h
 refine tB ?_
 repeat' (first
 | (exact tZ)
 | ((first | refine oblg h ?_ | refine roomG h ?_ | refine fork h ?_ ?_ | refine forkS h ?_ ?_) <;> clear h <;> intro hc h)
 | (obtain ⟨y, hy, h⟩ := h; (first | (with_reducible first | have hw := Wq_8.w hy | have hw := Wq_9.w hy) | have hw := acall_swe 1900 57 (Wq_k.w hy)); replace hw := tY hw; (first | refine M.sC hw ?_ | refine M.sD hw ?_); clear hw hy; refine tB ?_)
 | (refine M.fold1 (b := mc_o) 29 [2,5,27,28] [2,1900] (fun x => [(6, .osl 2006 1 0 x.1.length)]) (fun x => [.o 2006 (.arr 1 (x.1.map (V.int .i64))), .o 13 (.nmap 1900 4 (.int .i64) (x.2.map (kvV (V.int .i64) (slV GLink.v))))]) [.gc [2,5,6,27,28,29], .acc 6 2006 1] h ?_ ?_ ?_ <;> first
 | (clear h; intro k a x Qn K hK1 hkN1 ha1 h hf; have hl := fact_int (factsE_find (n := 28) hf.1 rfl); clear hf; have hkd := kD hkN1; have hkB1 := kB hkN1; have hkI1 := kI (k := k) (by omega); unfold F_o at h; unfold mc_o; replace h := tY h; refine tK ha1 hkd hkN1 hkB1 hkI1 ?_)
  |(clear h; intro x K h; replace h := And.left (And.intro h trivial); unfold mc_o; replace h := tY h; refine tB ?_)
  |(clear h; (try refine tB ?_); exact tU0; done))
 | (refine M.wh1 (b := mc_c) [2,5] [2,1900] (fun x => [(6, .osl 2006 1 0 x.1.length)]) (fun x => [.o 2006 (.arr 1 (x.1.map (V.int .i64))), .o 13 (.nmap 1900 4 (.int .i64) (x.2.map (kvV (V.int .i64) (slV GLink.v))))]) [.gc [2,5,6], .trim 6, .acc 6 2006 1] h ?_ ?_ <;> first
 | (clear h; intro x Qn K hK2 h; unfold F_c at h; unfold mc_c; replace h := tY h; refine tB ?_)
  |(clear h; (try refine tB ?_); exact tU0; done))
 | (simp only [ha1])
 | ((first | refine hK1 _ ?_ | refine hK2 _ ?_); (try refine tB ?_); refine ⟨_, h, ?_⟩; exact tU0; done)
 | (refine tE ?_; (first | rw [M.lok_compU] | rw [M.lokD_compU]); refine tB ?_)
 | (refine tA ?_)
 | fail)
theorem Wq_6 {x_ : GRights} {c_ : Int} : Cn Try.prog 23 [GRights.v x_, .int .i64 c_] [] (F_6 x_ c_) (fun z => (mpV (.int .i64) (V.int .i64) (slV GLink.v)) z) (fun z => []) := fun Q Q' h hQ => by
 obtain ⟨y, hy, hq⟩ := h
 exact (acall_unmark (Wm_rights_chains.w hy) rfl).mono fun r H' ⟨e1, e2⟩ => by rw [e1, e2]; exact hQ y hq
noncomputable def F_1c (k25 : Int) (a23 : Int × List GLink) (x22 : List Int) : Option (List Int) :=
 chk (room (x22.length + [a23.1].length) 8) (some (x22 ++ [a23.1]))
noncomputable def F_5 (x_ : GRights) (c_ : Int) : Option (List Int) :=
 (F_7 x_).bind fun y7 => bif (!decide (y7 = 0)) then some [] else (F_3 x_ c_).bind fun y8 => bif (!y8) then some [] else (F_6 x_ c_).bind fun y19 => permL (fun l24 => (foldL F_1c l24 0 []).bind fun x26 => (sortI x26).bind fun y28 => some y28) y19
@[irreducible] def mc_1c : MC :=
 (sR [mo (.mp .nxt [(.t 19)]) 20,
 mo (.ext 0 (.t 20)) 21]
 (.seq (.cond (.t 21)
 .skip
 (.exit 0))
 (.block 1
 (sR [mo (.mp .ent [(.t 19)]) 22,
 mo (.ext 0 (.t 22)) 23,
 oV 23 6]
 (.reg [oV 5 24,
 oV 6 25,
 mo (.bslice 1 [(.t 25)]) 26,
 mo (.app 1 8 (.t 24) (.t 26)) 27,
 oV 27 5])))))
def mc_5 : MC :=
 (sR [mo (.box (.t 0)) 2,
 mo (.mv (.c (.sl []))) 4]
 (.seq (sR [mo (.ld (some 5) (.t 2)) 7,
 mo (.call (.f 21) [(.t 7)] [] []) 8,
 mo (.bin false .neq (.t 8) (cI 0)) 9,
 oV 9 10,
 gF 10 11 (.ld (some 5) (.t 2)),
 gF 10 12 (.mv (.t 1)),
 gF 10 13 (.call (.f 22) [(.t 11),(.t 12)] [] []),
 gF 10 14 (.not (.t 13)),
 mo (.pick (.t 10) (.c (.bool true)) (.t 14)) 15]
 (.cond (.t 15)
 (sR [mo (.mv (.c (.sl []))) 4]
 .ret)
 .skip))
 (sR [mo (.mv (.c .nils)) 5]
 (.seq (.seq (.note (.gc [1,2,5]) (.reg [mo (.ld (some 5) (.t 2)) 16,
 oV 1 17,
 mo (.call (.f 23) [(.t 16),(.t 17)] [] []) 18,
 mo (.mp .rng [(.t 18)]) 19]))
 (.block 0
 (.loop mc_1c)))
 (sR [oV 5 28,
 mo (.call (.f 24) [(.t 28)] [2005] []) 29]
 (sR [oV 5 30,
 oV 30 4]
 .ret))))))
theorem Wq_5 {x_ : GRights} {c_ : Int} : Cn Try.prog 10 [GRights.v x_, .int .i64 c_] [] (F_5 x_ c_) (fun z => .sl (z.map (V.int .i64))) (fun z => []) := fun Q Q' h hQ => by
 refine acallM mc_5 [.fz 4] [] [.t 4] Try.func10 fun M => ?_
 unfold F_5 at h
 unfold mc_5
 replace h := tY h
 refine tB ?_
 repeat' (first
 | (exact tZ)
 | (refine And.intro (by refine ⟨?_, ?_, ?_, ?_⟩ <;> omega) ?_; first | exact hQ _ h | (rw [List.take_of_length_le (by omega)]; exact hQ _ h))
 | (have hq := hQ _ h; simp only [List.length_take, Nat.min_eq_left hlen.1] at hq; exact hq)
 | ((first | refine oblg h ?_ | refine roomG h ?_ | refine fork h ?_ ?_ | refine forkS h ?_ ?_) <;> clear h <;> intro hc h)
 | (obtain ⟨y, hy, h⟩ := h; (first | (with_reducible first | have hw := Wq_7.w hy | have hw := Wq_3.w hy | have hw := Wq_6.w hy) | (have hw := acall_swe 1000 2005 (W_2o hy); replace hw := tY hw; (try simp only [hlen] at hw); have hlen := sortI_len hy)); replace hw := tY hw; (first | refine M.sC hw ?_ | refine M.sD hw ?_); clear hw hy; refine tB ?_)
 | (refine M.mfold1 (b := mc_1c) (kv := (kvV (V.int .i64) (slV GLink.v))) 19 [19] [] (fun x => [(5, .osl 2005 1 0 x.length)]) (fun x => [.o 2005 (.arr 1 (x.map (V.int .i64)))]) [.gc [5,19], .acc 5 2005 1] h ?_ ?_ <;> first
 | (clear h; intro rem cur x k Qn K hK1 hs1 hn1; unfold F_1c at hn1; unfold mc_1c; refine tB ?_)
 | (clear h; (try refine tB ?_); exact tU0; done))
 | (refine nxt_of hs1 hn1 ?_ ?_ <;> first
  |(intro h; rw [M.lok_eq]; replace h := tY h; refine tB ?_)
  |(intro i a h; rw [M.lok_eq]; replace h := tY h; refine tB ?_))
 | (apply hK1; (try refine tB ?_); refine ⟨_, h, ?_⟩; exact tU0; done)
 | (refine tE ?_; (first | rw [M.lok_compU] | rw [M.lokD_compU]); refine tB ?_)
 | (refine tA ?_)
 | fail)
noncomputable def F_1o (l_ : List Int) (x9 : Int) : Option (Fl Int (Sum Unit Bool)) :=
 bif decide (x9 < (l_.length : Int)) then chk (in64 (x9 - 1)) (chk (inb (x9 - 1) l_.length) (chk (inb x9 l_.length) (bif decide ((l_.getD (x9).toNat default) ≤ (l_.getD ((x9 - 1)).toNat default)) then some (.ex (.inr false)) else chk (in64 (x9 + 1)) (some (.nx (x9 + 1)))))) else some (.ex (.inl ()))
noncomputable def F_p (l_ : List Int) : Option Bool :=
 (loop (F_1o l_) 1).bind fun r10 => Sum.elim (fun u11 => some true) (fun u12 => some u12) r10
@[irreducible] def mc_1o : MC :=
 (.seq (sR [oV 3 4,
 oV 0 5,
 mo (.len false (.t 5)) 6,
 mo (.bin false .lss (.t 4) (.t 6)) 7]
 (.cond (.t 7)
 .skip
 (.exit 0)))
 (.seq (.block 1
 (.seq (.regD [oV 0 10,
 oV 3 11,
 mo (.bin true .sub (.t 11) (cI 1)) 12,
 mo (.iad 1 (.t 10) (.t 12)) 13,
 oL 13 14,
 oV 0 15,
 oV 3 16,
 mo (.iad 1 (.t 15) (.t 16)) 17,
 oL 17 18,
 mo (.bin false .geq (.t 14) (.t 18)) 19]
 [[],[],[1],[0,2],[3],[],[],[5,6],[7],[4,8]]
 [[],[],[1],[0,1,2],[0,1,2,3],[],[],[5,6],[5,6,7],[0,1,2,3,4,5,6,7,8]])
 (.cond (.t 19)
 (sR [mo (.mv (.c (.bool false))) 2]
 .ret)
 .skip)))
 (.note (.gc [0,3]) (.reg [oV 3 8,
 mo (.bin true .add (.t 8) (cI 1)) 9,
 oV 9 3]))))
def mc_p : MC :=
 (sR [mo (.mv (.c (.bool false))) 2]
 (.seq (sR [oC 1 3]
 (.block 0
 (.loop mc_1o)))
 (sR [mo (.mv (.c (.bool true))) 2]
 .ret)))
theorem Wq_p {l_ : List Int} : Cn Try.prog 25 [.sl (l_.map (V.int .i64))] [] (F_p l_) (fun z => .bool z) (fun z => []) := fun Q Q' h hQ => by
 refine acallM mc_p [] [] [.t 2] Try.func25 fun M => ?_
 unfold F_p at h
 unfold mc_p
 replace h := tY h
 refine tB ?_
 repeat' (first
 | (exact tZ)
 | ((first | refine oblg h ?_ | refine roomG h ?_ | refine fork h ?_ ?_ | refine forkS h ?_ ?_) <;> clear h <;> intro hc h)
 | (refine M.wh1 (b := mc_1o) [0] [] (fun x => [(3, .int .i64 x)]) (fun x => []) [] h ?_ ?_ <;> first
 | (clear h; intro x Qn K hK1 h; unfold F_1o at h; unfold mc_1o; replace h := tY h; refine tB ?_)
  |(clear h; (try refine tB ?_); exact tU0; done))
 | (refine hK1 _ ?_; (try refine tB ?_); refine ⟨_, h, ?_⟩; exact tU0; done)
 | (refine tE ?_; (first | rw [M.lok_compU] | rw [M.lokD_compU]); refine tB ?_)
 | (refine tA ?_)
 | fail)
def F_d (c_ : Int) (p_ : GRights) : Option Bool :=
 (F_3 p_ c_).bind fun y2 => some (!y2)
def mc_d : MC :=
 (sR [mo (.mv (.c (.bool false))) 3]
 (sR [mo (.ld (some 5) (.t 1)) 4,
 oV 0 5,
 mo (.call (.f 22) [(.t 4),(.t 5)] [] []) 6,
 mo (.not (.t 6)) 7,
 oV 7 3]
 .ret))
theorem Wq_d {c_ : Int} {p_ : GRights} : Cn Try.prog 27 [.int .i64 c_, .ptr 1000 0] [(1000, .cells [.int .i64 p_.Credentials, .int .i64 p_.Resources, .sl (p_.Grants.map GGrant.v), .sl (p_.Stores.map GStore.v), .sl (p_.Mints.map GMint.v)])] (F_d c_ p_) (fun z => .bool z) (fun z => [(1000, .cells [.int .i64 p_.Credentials, .int .i64 p_.Resources, .sl (p_.Grants.map GGrant.v), .sl (p_.Stores.map GStore.v), .sl (p_.Mints.map GMint.v)])]) := fun Q Q' h hQ => by
 refine acallM mc_d [] [1000] [.t 3] Try.func27 fun M => ?_
 unfold F_d at h
 unfold mc_d
 replace h := tY h
 refine tB ?_
 repeat' (first
 | (exact tZ)
 | ((first | refine oblg h ?_ | refine roomG h ?_ | refine fork h ?_ ?_ | refine forkS h ?_ ?_) <;> clear h <;> intro hc h)
 | (obtain ⟨y, hy, h⟩ := h; have hw := Wq_3.w hy; replace hw := tY hw; (first | refine M.sC hw ?_ | refine M.sD hw ?_); clear hw hy; refine tB ?_)
 | (refine tE ?_; (first | rw [M.lok_compU] | rw [M.lokD_compU]); refine tB ?_)
 | (refine tA ?_)
 | fail)
def F_1d (fc0_ : GRights) (k31 : Int) (a32 : Int) (x30 : Unit) : Option (Fl Unit Int) :=
 (F_d a32 fc0_).bind fun y40 => bif y40 then some (.ex k31) else some (.nx ())
def F_1e (s_ : List Int) (fc0_ : GRights) : Option Int :=
 (forL (F_1d fc0_) s_ 0 ()).bind fun o => o.elim (fun x41 => some (-1)) (fun r42 => some r42)
@[irreducible] def mc_1d : MC :=
 (sR [mo (.bin false .lss (.t 8) (.t 7)) 9]
 (.seq (.cond (.t 9)
 .skip
 (.exit 0))
 (.seq (.block 1
 (sR [oV 8 10,
 oV 10 5]
 (sR [oV 1 11,
 oV 0 12,
 oV 5 13,
 mo (.iad 1 (.t 12) (.t 13)) 14,
 oL 14 15,
 mo (.call (.t 11) [(.t 15)] [1000] []) 16]
 (.cond (.t 16)
 (sR [oV 5 17,
 oV 17 4]
 .ret)
 .skip))))
 (.reg [mo (.bin true .add (.t 8) (cI 1)) 18,
 oV 18 8]))))
def mc_1e : MC :=
 (sR [oC 0 4]
 (.seq (sR [oV 0 6,
 mo (.len false (.t 6)) 7,
 oC 0 8]
 (.block 0
 (.loop mc_1d)))
 (sR [oC (-1) 4]
 .ret)))
theorem Wq_1e {s_ : List Int} {fc0_ : GRights} : Cn Try.prog 44 [.sl (s_.map (V.int .i64)), .fn (.func 27) [.ptr 1000 0]] [(1000, .cells [.int .i64 fc0_.Credentials, .int .i64 fc0_.Resources, .sl (fc0_.Grants.map GGrant.v), .sl (fc0_.Stores.map GStore.v), .sl (fc0_.Mints.map GMint.v)])] (F_1e s_ fc0_) (fun z => .int .i64 z) (fun z => [(1000, .cells [.int .i64 fc0_.Credentials, .int .i64 fc0_.Resources, .sl (fc0_.Grants.map GGrant.v), .sl (fc0_.Stores.map GStore.v), .sl (fc0_.Mints.map GMint.v)])]) := fun Q Q' h hQ => by
 refine acallM mc_1e [] [1000] [.t 4] Try.func44 fun M => ?_
 unfold F_1e at h
 unfold mc_1e
 replace h := tY h
 refine tB ?_
 repeat' (first
 | (exact tZ)
 | ((first | refine oblg h ?_ | refine roomG h ?_ | refine fork h ?_ ?_ | refine forkS h ?_ ?_) <;> clear h <;> intro hc h)
 | (obtain ⟨y, hy, h⟩ := h; have hw := Wq_d.w hy; replace hw := tY hw; (first | refine M.sC hw ?_ | refine M.sD hw ?_); clear hw hy; refine tB ?_)
 | (refine M.for1 (b := mc_1d) 8 [0,1,7] [1000] (fun x => []) (fun x => []) [] h ?_ ?_ ?_ <;> first
 | (clear h; intro k a x Qn K hK1 hkN1 ha1 h hf; have hl := fact_int (factsE_find (n := 7) hf.1 rfl); clear hf; have hkd := kD hkN1; have hkB1 := kB hkN1; have hkI1 := kI (k := k) (by omega); unfold F_1d at h; unfold mc_1d; replace h := tY h; refine tK ha1 hkd hkN1 hkB1 hkI1 ?_)
  |(clear h; intro x K h; replace h := And.left (And.intro h trivial); unfold mc_1d; replace h := tY h; refine tB ?_)
  |(clear h; (try refine tB ?_); exact tU0; done))
 | (simp only [ha1])
 | (refine hK1 _ ?_; (try refine tB ?_); refine ⟨_, h, ?_⟩; exact tU0; done)
 | (refine tE ?_; (first | rw [M.lok_compU] | rw [M.lokD_compU]); refine tB ?_)
 | (refine tA ?_)
 | fail)
def F_w (s_ : List Int) (fc0_ : GRights) : Option Bool :=
 (F_1e s_ fc0_).bind fun y2 => some (decide (0 ≤ y2))
def mc_w : MC :=
 (sR [mo (.mv (.c (.bool false))) 4]
 (sR [oV 0 5,
 oV 1 6,
 mo (.call (.f 44) [(.t 5),(.t 6)] [1000] []) 7,
 mo (.bin false .geq (.t 7) (cI 0)) 8,
 oV 8 4]
 .ret))
theorem Wq_w {s_ : List Int} {fc0_ : GRights} : Cn Try.prog 26 [.sl (s_.map (V.int .i64)), .fn (.func 27) [.ptr 1000 0]] [(1000, .cells [.int .i64 fc0_.Credentials, .int .i64 fc0_.Resources, .sl (fc0_.Grants.map GGrant.v), .sl (fc0_.Stores.map GStore.v), .sl (fc0_.Mints.map GMint.v)])] (F_w s_ fc0_) (fun z => .bool z) (fun z => [(1000, .cells [.int .i64 fc0_.Credentials, .int .i64 fc0_.Resources, .sl (fc0_.Grants.map GGrant.v), .sl (fc0_.Stores.map GStore.v), .sl (fc0_.Mints.map GMint.v)])]) := fun Q Q' h hQ => by
 refine acallM mc_w [] [1000] [.t 4] Try.func26 fun M => ?_
 unfold F_w at h
 unfold mc_w
 replace h := tY h
 refine tB ?_
 repeat' (first
 | (exact tZ)
 | ((first | refine oblg h ?_ | refine roomG h ?_ | refine fork h ?_ ?_ | refine forkS h ?_ ?_) <;> clear h <;> intro hc h)
 | (obtain ⟨y, hy, h⟩ := h; have hw := Wq_1e.w hy; replace hw := tY hw; (first | refine M.sC hw ?_ | refine M.sD hw ?_); clear hw hy; refine tB ?_)
 | (refine tE ?_; (first | rw [M.lok_compU] | rw [M.lokD_compU]); refine tB ?_)
 | (refine tA ?_)
 | fail)
def F_x (v_ : Int) (k11 : Int) (a12 : Int) (x10 : Unit) : Option (Fl Unit Int) :=
 bif decide (v_ = a12) then some (.ex k11) else some (.nx ())
def F_1f (s_ : List Int) (v_ : Int) : Option Int :=
 (forL (F_x v_) s_ 0 ()).bind fun o => o.elim (fun x13 => some (-1)) (fun r14 => some r14)
@[irreducible] def mc_x : MC :=
 (sR [mo (.bin false .lss (.t 8) (.t 7)) 9]
 (.seq (.cond (.t 9)
 .skip
 (.exit 0))
 (.seq (.block 1
 (sR [oV 8 10,
 oV 10 5]
 (sR [oV 1 11,
 oV 0 12,
 oV 5 13,
 mo (.iad 1 (.t 12) (.t 13)) 14,
 oL 14 15,
 mo (.bin false .eql (.t 11) (.t 15)) 16]
 (.cond (.t 16)
 (sR [oV 5 17,
 oV 17 4]
 .ret)
 .skip))))
 (.reg [mo (.bin true .add (.t 8) (cI 1)) 18,
 oV 18 8]))))
def mc_1f : MC :=
 (sR [oC 0 4]
 (.seq (sR [oV 0 6,
 mo (.len false (.t 6)) 7,
 oC 0 8]
 (.block 0
 (.loop mc_x)))
 (sR [oC (-1) 4]
 .ret)))
theorem Wq_1f {s_ : List Int} {v_ : Int} : Cn Try.prog 45 [.sl (s_.map (V.int .i64)), .int .i64 v_] [] (F_1f s_ v_) (fun z => .int .i64 z) (fun z => []) := fun Q Q' h hQ => by
 refine acallM mc_1f [] [] [.t 4] Try.func45 fun M => ?_
 unfold F_1f at h
 unfold mc_1f
 replace h := tY h
 refine tB ?_
 repeat' (first
 | (exact tZ)
 | ((first | refine oblg h ?_ | refine roomG h ?_ | refine fork h ?_ ?_ | refine forkS h ?_ ?_) <;> clear h <;> intro hc h)
 | (refine M.for1 (b := mc_x) 8 [0,1,7] [] (fun x => []) (fun x => []) [] h ?_ ?_ ?_ <;> first
 | (clear h; intro k a x Qn K hK1 hkN1 ha1 h hf; have hl := fact_int (factsE_find (n := 7) hf.1 rfl); clear hf; have hkd := kD hkN1; have hkB1 := kB hkN1; have hkI1 := kI (k := k) (by omega); unfold F_x at h; unfold mc_x; replace h := tY h; refine tK ha1 hkd hkN1 hkB1 hkI1 ?_)
  |(clear h; intro x K h; replace h := And.left (And.intro h trivial); unfold mc_x; replace h := tY h; refine tB ?_)
  |(clear h; (try refine tB ?_); exact tU0; done))
 | (simp only [ha1])
 | (refine hK1 _ ?_; (try refine tB ?_); refine ⟨_, h, ?_⟩; exact tU0; done)
 | (refine tE ?_; (first | rw [M.lok_compU] | rw [M.lokD_compU]); refine tB ?_)
 | (refine tA ?_)
 | fail)
def F_l (s_ : List Int) (v_ : Int) : Option Bool :=
 (F_1f s_ v_).bind fun y2 => some (decide (0 ≤ y2))
def mc_l : MC :=
 (sR [mo (.mv (.c (.bool false))) 4]
 (sR [oV 0 5,
 oV 1 6,
 mo (.call (.f 45) [(.t 5),(.t 6)] [] []) 7,
 mo (.bin false .geq (.t 7) (cI 0)) 8,
 oV 8 4]
 .ret))
theorem Wq_l {s_ : List Int} {v_ : Int} : Cn Try.prog 30 [.sl (s_.map (V.int .i64)), .int .i64 v_] [] (F_l s_ v_) (fun z => .bool z) (fun z => []) := fun Q Q' h hQ => by
 refine acallM mc_l [] [] [.t 4] Try.func30 fun M => ?_
 unfold F_l at h
 unfold mc_l
 replace h := tY h
 refine tB ?_
 repeat' (first
 | (exact tZ)
 | ((first | refine oblg h ?_ | refine roomG h ?_ | refine fork h ?_ ?_ | refine forkS h ?_ ?_) <;> clear h <;> intro hc h)
 | (obtain ⟨y, hy, h⟩ := h; have hw := Wq_1f.w hy; replace hw := tY hw; (first | refine M.sC hw ?_ | refine M.sD hw ?_); clear hw hy; refine tB ?_)
 | (refine tE ?_; (first | rw [M.lok_compU] | rw [M.lokD_compU]); refine tB ?_)
 | (refine tA ?_)
 | fail)
noncomputable def F_1g (x_ : GRights) (set_ : List Int) (a358 : Int) (k479 : Int) (a480 : GLink) (x478 : Unit) : Option (Fl Unit Bool) :=
 (F_9 x_ a358 a480).bind fun y494 => (F_l set_ y494.1).bind fun y496 => bif (!y496) then some (.ex false) else some (.nx ())
noncomputable def F_1h (x_ : GRights) (set_ : List Int) (k357 : Int) (a358 : Int) (x356 : Unit) : Option (Fl Unit Bool) :=
 (F_8 x_ a358).bind fun y459 => (forL (F_1g x_ set_ a358) y459 0 ()).bind fun o => o.elim (fun x497 => some (.nx ())) (fun r498 => some (.ex r498))
noncomputable def F_g (x_ : GRights) (set_ : List Int) : Option Bool :=
 (F_7 x_).bind fun y13 => grp (((!decide (y13 = 0)) || decide ((set_.length : Int) = 0))) fun b14 => bif b14 then some false else (F_p set_).bind fun y15 => bif (!y15) then some false else (F_w set_ x_).bind fun y16 => bif y16 then some false else (forL (F_1h x_ set_) set_ 0 ()).bind fun o => o.elim (fun x499 => some true) (fun r500 => some r500)
@[irreducible] def mg_d : List MOp := [gF 14 15 (.mv (.t 1)),
 gF 14 16 (.len false (.t 15)),
 gF 14 17 (.bin false .eql (.t 16) (cI 0)),
 mo (.pick (.t 14) (.c (.bool true)) (.t 17)) 18]
@[irreducible] def mc_1g : MC :=
 (sR [mo (.bin false .lss (.t 39) (.t 38)) 40]
 (.seq (.cond (.t 40)
 .skip
 (.exit 2))
 (.seq (.block 3
 (sR [mo (.iad 4 (.t 37) (.t 39)) 41,
 mo (.ld (some 4) (.t 41)) 42,
 mo (.alloc [(.int .i64 0),(.int .i64 0),(.int .i64 0),(.int .i64 0)]) 8,
 ⟨.st 4 (.t 8) (.t 42), none, none⟩]
 (sR [mo (.ld (some 5) (.t 2)) 44,
 oV 6 45,
 mo (.ld (some 4) (.t 8)) 46,
 mo (.call (.f 29) [(.t 44),(.t 45),(.t 46)] [] []) 47,
 oV 47 43,
 mo (.ext 0 (.t 43)) 48,
 mo (.ext 1 (.t 43)) 49,
 oV 48 9,
 oV 49 10]
 (.seq (.note (.gc [1,2,6,9,29,30,31,37,38,39]) (.reg [oV 1 50,
 oV 9 51,
 mo (.call (.f 30) [(.t 50),(.t 51)] [] []) 52,
 mo (.not (.t 52)) 53]))
 (.cond (.t 53)
 (sR [mo (.mv (.c (.bool false))) 4]
 .ret)
 .skip)))))
 (.reg [mo (.bin true .add (.t 39) (cI 1)) 54,
 oV 54 39]))))
@[irreducible] def mc_1h : MC :=
 (sR [mo (.bin false .lss (.t 31) (.t 30)) 32]
 (.seq (.cond (.t 32)
 .skip
 (.exit 0))
 (.seq (.block 1
 (sR [mo (.iad 1 (.t 29) (.t 31)) 33,
 oL 33 34,
 oV 34 6]
 (sR [mo (.ld (some 5) (.t 2)) 35,
 oV 6 36,
 mo (.call (.f 28) [(.t 35),(.t 36)] [] []) 37,
 mo (.len false (.t 37)) 38,
 oC 0 39]
 (.block 2
 (.loop mc_1g)))))
 (.reg [mo (.bin true .add (.t 31) (cI 1)) 55,
 oV 55 31]))))
def mc_g : MC :=
 (sR [mo (.box (.t 0)) 2,
 mo (.mv (.c (.bool false))) 4]
 (.seq (.seq (.regI [.op (mo (.ld (some 5) (.t 2)) 11),
 .op (mo (.call (.f 21) [(.t 11)] [] []) 12),
 .op (mo (.bin false .neq (.t 12) (cI 0)) 13),
 .op (oV 13 14),
 .grp mg_d,
 .op (oV 18 19),
 .op (gF 19 20 (.mv (.t 1))),
 .op (gF 19 21 (.call (.f 25) [(.t 20)] [] [])),
 .op (gF 19 22 (.not (.t 21))),
 .op (mo (.pick (.t 19) (.c (.bool true)) (.t 22)) 23),
 .op (oV 23 24),
 .op (gF 24 25 (.mv (.t 1))),
 .op (gF 24 26 (.mkfn 27 [(.t 2)])),
 .op (gF 24 27 (.call (.f 26) [(.t 25),(.t 26)] [2] [])),
 .op (mo (.pick (.t 24) (.c (.bool true)) (.t 27)) 28)])
 (.cond (.t 28)
 (sR [mo (.mv (.c (.bool false))) 4]
 .ret)
 .skip))
 (.seq (.seq (.note (.gc [1,2]) (.reg [oV 1 29,
 mo (.len false (.t 29)) 30,
 oC 0 31]))
 (.block 0
 (.loop mc_1h)))
 (sR [mo (.mv (.c (.bool true))) 4]
 .ret))))
theorem Wq_g {x_ : GRights} {set_ : List Int} : Cn Try.prog 13 [GRights.v x_, .sl (set_.map (V.int .i64))] [] (F_g x_ set_) (fun z => .bool z) (fun z => []) := fun Q Q' h hQ => by
 refine acallM mc_g [] [] [.t 4] Try.func13 fun M => ?_
 unfold F_g at h
 unfold mc_g
 replace h := tY h
 refine tB ?_
 repeat' (first
 | (exact tZ)
 | ((first | refine oblg h ?_ | refine roomG h ?_ | refine fork h ?_ ?_ | refine forkS h ?_ ?_) <;> clear h <;> intro hc h)
 | (obtain ⟨y, hy, h⟩ := h; (first | (with_reducible first | have hw := Wq_7.w hy | have hw := Wq_p.w hy | have hw := Wq_8.w hy | have hw := Wq_9.w hy | have hw := Wq_l.w hy) | have hw := acall_swe 1000 2 (Wq_w.w hy)); replace hw := tY hw; (first | refine M.sC hw ?_ | refine M.sD hw ?_); clear hw hy; refine tB ?_)
 | (refine M.for1 (b := mc_1g) 39 [1,2,6,29,30,31,37,38] [2] (fun x => []) (fun x => []) [] h ?_ ?_ ?_ <;> first
 | (clear h; intro k a x Qn K hK1 hkN1 ha1 h hf; have hl := fact_int (factsE_find (n := 38) hf.1 rfl); clear hf; have hkd := kD hkN1; have hkB1 := kB hkN1; have hkI1 := kI (k := k) (by omega); unfold F_1g at h; unfold mc_1g; replace h := tY h; refine tK ha1 hkd hkN1 hkB1 hkI1 ?_)
  |(clear h; intro x K h; replace h := And.left (And.intro h trivial); unfold mc_1g; replace h := tY h; refine tB ?_)
  |(clear h; (try refine tB ?_); exact tU0; done))
 | (refine M.for1 (b := mc_1h) 31 [1,2,29,30] [2] (fun x => []) (fun x => []) [] h ?_ ?_ ?_ <;> first
 | (clear h; intro k a x Qn K hK2 hkN2 ha2 h hf; have hl := fact_int (factsE_find (n := 30) hf.1 rfl); clear hf; have hkd := kD hkN2; have hkB2 := kB hkN2; have hkI2 := kI (k := k) (by omega); unfold F_1h at h; unfold mc_1h; replace h := tY h; refine tK ha2 hkd hkN2 hkB2 hkI2 ?_)
  |(clear h; intro x K h; replace h := And.left (And.intro h trivial); unfold mc_1h; replace h := tY h; refine tB ?_)
  |(clear h; (try refine tB ?_); exact tU0; done))
 | (refine M.gv1 (ms := mg_d) 18 [15,16,17] h ?_ ?_ <;> first
 | (clear h; intro K hK3; unfold mg_d; refine tB ?_)
 | (clear h; intro b h; replace h := tY h; refine tB ?_))
 | (first | simp only [ha1] | simp only [ha2])
 | ((first | refine hK1 _ ?_ | refine hK2 _ ?_); (try refine tB ?_); refine ⟨_, h, ?_⟩; exact tU0; done)
 | (refine hK3 _ ?_; exact tU; done)
 | (refine bfork (fun hc => ?_) (fun hc => ?_))
 | (refine tE ?_; (first | rw [M.lok_compU] | rw [M.lokD_compU]); refine tB ?_)
 | (refine tA ?_)
 | fail)
noncomputable def F_y (set_ : List Int) (k48 : Int) (a49 : GGrant) (x47 : List Int) : Option (List Int) :=
 (F_l set_ a49.Credential).bind fun y57 => bif y57 then chk (inb a49.Resource x47.length) (chk (inb a49.Resource x47.length) (some (x47.set ((a49.Resource).toNat) (max (x47.getD ((a49.Resource).toNat) default) a49.Right)))) else some x47
noncomputable def F_m (x_ : GRights) (set_ : List Int) : Option (List Int) :=
 (F_g x_ set_).bind fun y4 => bif (!y4) then some [] else chk (roomI x_.Resources x_.Resources 8) ((foldL (F_y set_) x_.Grants 0 (List.replicate (x_.Resources).toNat 0)).bind fun x58 => some x58)
@[irreducible] def mc_y : MC :=
 (sR [mo (.bin false .lss (.t 18) (.t 17)) 19]
 (.seq (.cond (.t 19)
 .skip
 (.exit 0))
 (.seq (.block 1
 (sR [mo (.iad 3 (.t 16) (.t 18)) 20,
 mo (.ld (some 3) (.t 20)) 21,
 mo (.alloc [(.int .i64 0),(.int .i64 0),(.int .i64 0)]) 7,
 ⟨.st 3 (.t 7) (.t 21), none, none⟩]
 (sR [oV 1 22,
 oF 0 7 23,
 oL 23 24,
 mo (.call (.f 30) [(.t 22),(.t 24)] [] []) 25]
 (.cond (.t 25)
 (.regD [oV 5 26,
 oF 1 7 27,
 oL 27 28,
 oV 5 29,
 oF 1 7 30,
 oL 30 31,
 mo (.iad 1 (.t 29) (.t 31)) 32,
 oL 32 33,
 oF 2 7 34,
 oL 34 35,
 mo (.mm true (.t 33) (.t 35)) 36,
 mo (.iad 1 (.t 26) (.t 28)) 37,
 ⟨.st 1 (.t 37) (.t 36), none, none⟩]
 [[],[],[1],[],[],[4],[3,5],[6],[],[8],[7,9],[0,2,0,1,2,3,4,5,6,7,8,9,10],[11,10,0,1,2,3,4,5,6,7,8,9,10]]
 [[],[],[1],[],[],[4],[3,4,5],[3,4,5,6],[],[8],[3,4,5,6,7,8,9],[0,1,2,3,4,5,6,7,8,9,10],[0,1,2,3,4,5,6,7,8,9,10,11]])
 .skip))))
 (.reg [mo (.bin true .add (.t 18) (cI 1)) 38,
 oV 38 18]))))
def mc_m : MC :=
 (sR [mo (.box (.t 0)) 2,
 mo (.mv (.c (.sl []))) 4]
 (.seq (sR [mo (.ld (some 5) (.t 2)) 8,
 oV 1 9,
 mo (.call (.f 13) [(.t 8),(.t 9)] [] []) 10,
 mo (.not (.t 10)) 11]
 (.cond (.t 11)
 (sR [mo (.mv (.c (.sl []))) 4]
 .ret)
 .skip))
 (sR [oF 1 2 12,
 oL 12 13,
 mo (.mksl 1 8 (.int .i64 0) (.t 13) (.t 13)) 14,
 oV 14 5]
 (.seq (.seq (.note (.gc [1,2,5]) (.reg [oF 2 2 15,
 oL 15 16,
 mo (.len false (.t 16)) 17,
 oC 0 18]))
 (.block 0
 (.loop mc_y)))
 (sR [oV 5 39,
 oV 39 4]
 .ret)))))
theorem Wq_m {x_ : GRights} {set_ : List Int} : Cn Try.prog 15 [GRights.v x_, .sl (set_.map (V.int .i64))] [] (F_m x_ set_) (fun z => .sl (z.map (V.int .i64))) (fun z => []) := fun Q Q' h hQ => by
 refine acallM mc_m [.fz 4] [] [.t 4] Try.func15 fun M => ?_
 unfold F_m at h
 unfold mc_m
 replace h := tY h
 refine tB ?_
 repeat' (first
 | (exact tZ)
 | ((first | refine oblg h ?_ | refine roomG h ?_ | refine fork h ?_ ?_ | refine forkS h ?_ ?_) <;> clear h <;> intro hc h)
 | (obtain ⟨y, hy, h⟩ := h; (first | with_reducible first | have hw := Wq_g.w hy | have hw := Wq_l.w hy); replace hw := tY hw; (first | refine M.sC hw ?_ | refine M.sD hw ?_); clear hw hy; refine tB ?_)
 | (refine M.fold1 (b := mc_y) 18 [1,16,17] [] (fun x => [(5, .osl 14 1 0 x.length)]) (fun x => [.o 14 (.arr 1 (x.map (V.int .i64)))]) [] h ?_ ?_ ?_ <;> first
 | (clear h; intro k a x Qn K hK1 hkN1 ha1 h hf; have hl := fact_int (factsE_find (n := 17) hf.1 rfl); clear hf; have hkd := kD hkN1; have hkB1 := kB hkN1; have hkI1 := kI (k := k) (by omega); unfold F_y at h; unfold mc_y; replace h := tY h; refine tK ha1 hkd hkN1 hkB1 hkI1 ?_)
  |(clear h; intro x K h; replace h := And.left (And.intro h trivial); unfold mc_y; replace h := tY h; refine tB ?_)
  |(clear h; (try refine tB ?_); exact tU0; done))
 | (simp only [ha1])
 | (refine hK1 _ ?_; (try refine tB ?_); refine ⟨_, h, ?_⟩; exact tU0; done)
 | (refine tE ?_; (first | rw [M.lok_compU] | rw [M.lokD_compU]); refine tB ?_)
 | (refine ⟨_, getE_mapset (by first | exact inb_toNat (by assumption) | exact inb_nat (by assumption)), ?_⟩; (first | rw [M.lok_compU] | rw [M.lokD_compU] | (simp only [V.cells]; first | rw [M.lok_comp] | rw [M.lokD_comp])); refine tB ?_)
 | (refine tA ?_)
 | fail)
noncomputable def F_4 (x_ : GRights) (c_ : Int) : Option (List Int) :=
 (F_5 x_ c_).bind fun y3 => (F_m x_ y3).bind fun y4 => some y4
def mc_4 : MC :=
 (sR [mo (.box (.t 0)) 2,
 mo (.mv (.c (.sl []))) 4]
 (.seq (.regD [mo (.ld (some 5) (.t 2)) 5,
 mo (.ld (some 5) (.t 2)) 6,
 oV 1 7,
 mo (.call (.f 10) [(.t 6),(.t 7)] [] []) 8,
 mo (.call (.f 15) [(.t 5),(.t 8)] [] []) 9,
 oV 9 4]
 [[],[],[],[1,2],[0,3,3],[4,4,0,1,2,3,4]]
 [[],[],[],[1,2],[0,1,2,3],[0,1,2,3,4]])
 .ret))
theorem Wq_4 {x_ : GRights} {c_ : Int} : Cn Try.prog 11 [GRights.v x_, .int .i64 c_] [] (F_4 x_ c_) (fun z => .sl (z.map (V.int .i64))) (fun z => []) := fun Q Q' h hQ => by
 refine acallM mc_4 [.fz 4] [] [.t 4] Try.func11 fun M => ?_
 unfold F_4 at h
 unfold mc_4
 replace h := tY h
 refine tB ?_
 repeat' (first
 | (exact tZ)
 | ((first | refine oblg h ?_ | refine roomG h ?_ | refine fork h ?_ ?_ | refine forkS h ?_ ?_) <;> clear h <;> intro hc h)
 | (obtain ⟨y, hy, h⟩ := h; (first | with_reducible first | have hw := Wq_5.w hy | have hw := Wq_m.w hy); replace hw := tY hw; (first | refine M.sC hw ?_ | refine M.sD hw ?_); clear hw hy; refine tB ?_)
 | (refine tE ?_; (first | rw [M.lok_compU] | rw [M.lokD_compU]); refine tB ?_)
 | (refine tA ?_)
 | fail)
noncomputable def F_q (r_ : Int) (y2 : List Int) (y8 : List (Int × List GLink)) (k19 : Int) (a20 : GGrant) (x18 : Unit) : Option (Fl Unit ((List GLink) × Bool)) :=
 bif (aget a20.Credential y8).isSome then bif decide (a20.Resource = r_) then chk (inb r_ y2.length) (bif decide (a20.Right = (y2.getD (r_).toNat default)) then chk (room (((aget a20.Credential y8).getD []).length + [(GLink.mk 3 k19 (-1) (-1))].length) 32) (some (.ex ((((aget a20.Credential y8).getD []) ++ [(GLink.mk 3 k19 (-1) (-1))]), true))) else some (.nx ())) else some (.nx ()) else some (.nx ())
noncomputable def F_h (x_ : GRights) (c_ : Int) (r_ : Int) : Option ((List GLink) × Bool) :=
 (F_4 x_ c_).bind fun y2 => chk (in64 ((y2.length : Int) - 1)) ((F_0 r_ 0 ((y2.length : Int) - 1)).bind fun y6 => bif (!y6) then some ([], false) else chk (inb r_ y2.length) (bif decide ((y2.getD (r_).toNat default) = 0) then some ([], false) else (F_6 x_ c_).bind fun y8 => (forL (F_q r_ y2 y8) x_.Grants 0 ()).bind fun o => o.elim (fun x21 => some ([], false)) (fun r22 => some r22)))
@[irreducible] def mc_q : MC :=
 (sR [mo (.bin false .lss (.t 36) (.t 35)) 37]
 (.seq (.cond (.t 37)
 .skip
 (.exit 0))
 (.seq (.block 1
 (sR [oV 36 38,
 mo (.iad 3 (.t 34) (.t 36)) 39,
 mo (.ld (some 3) (.t 39)) 40,
 mo (.alloc [(.int .i64 0),(.int .i64 0),(.int .i64 0)]) 11,
 oV 38 10,
 ⟨.st 3 (.t 11) (.t 40), none, none⟩]
 (sR [oV 9 42,
 oF 0 11 43,
 oL 43 44,
 mo (.mp (.lku (.int .i64) true (.sl [])) [(.t 42),(.t 44)]) 45,
 oV 45 41,
 mo (.ext 0 (.t 41)) 46,
 mo (.ext 1 (.t 41)) 47,
 oV 46 12,
 oV 47 13]
 (.seq (.note (.gc [2,8,9,10,11,12,13,34,35,36,50,51,52,53,56,57,58,59,60,61,62]) (.regD [oV 13 48,
 oV 48 49,
 gT 49 50 (.fad 1 (.t 11)),
 gT 49 51 (.ld none (.t 50)),
 gT 49 52 (.mv (.t 2)),
 gT 49 53 (.bin false .eql (.t 51) (.t 52)),
 mo (.pick (.t 49) (.t 53) (.c (.bool false))) 54,
 oV 54 55,
 gT 55 56 (.fad 2 (.t 11)),
 gT 55 57 (.ld none (.t 56)),
 gT 55 58 (.mv (.t 8)),
 gT 55 59 (.mv (.t 2)),
 gT 55 60 (.iad 1 (.t 58) (.t 59)),
 gT 55 61 (.ld none (.t 60)),
 gT 55 62 (.bin false .eql (.t 57) (.t 61)),
 mo (.pick (.t 55) (.t 62) (.c (.bool false))) 63]
 [[],[0],[1],[2,1],[1],[3,4,1],[1,5],[6,1],[7],[8,7],[7],[7],[10,11,7],[12,7],[9,13,7],[7,14]]
 [[],[0],[0,1],[0,1,2],[0,1],[0,1,2,3,4],[0,1,2,3,4,5],[0,1,2,3,4,5,6],[0,1,2,3,4,5,6,7],[0,1,2,3,4,5,6,7,8],[0,1,2,3,4,5,6,7],[0,1,2,3,4,5,6,7],[0,1,2,3,4,5,6,7,10,11],[0,1,2,3,4,5,6,7,10,11,12],[0,1,2,3,4,5,6,7,8,9,10,11,12,13],[0,1,2,3,4,5,6,7,8,9,10,11,12,13,14]]))
 (.cond (.t 63)
 (.seq (.note (.gc [10,12]) (.hnote (unsT 12 1900 2012 4 [10]) (.reg [oV 12 64,
 oV 10 65,
 mo (.build [(.int .i64 0),(.int .i64 0),(.int .i64 0),(.int .i64 0)] [(0,1, (cI 3)), (1,1,(.t 65)), (2,1, (cI (-1))), (3,1, (cI (-1)))]) 66,
 mo (.bslice 4 [(.t 66)]) 67,
 mo (.app 4 32 (.t 64) (.t 67)) 68,
 oV 68 6,
 mo (.mv (.c (.bool true))) 7])))
 .ret)
 .skip)))))
 (.reg [mo (.bin true .add (.t 36) (cI 1)) 69,
 oV 69 36]))))
def mc_h : MC :=
 (sR [mo (.box (.t 0)) 3,
 mo (.mv (.c (.sl []))) 6,
 mo (.mv (.c (.bool false))) 7]
 (sR [mo (.ld (some 5) (.t 3)) 14,
 oV 1 15,
 mo (.call (.f 11) [(.t 14),(.t 15)] [] []) 16,
 oV 16 8]
 (.seq (sR [oV 2 17,
 oV 8 18,
 mo (.len false (.t 18)) 19,
 mo (.bin true .sub (.t 19) (cI 1)) 20,
 mo (.call (.f 31) [(.t 17), (cI 0),(.t 20)] [] []) 21,
 mo (.not (.t 21)) 22,
 oV 22 23,
 gF 23 24 (.mv (.t 8)),
 gF 23 25 (.mv (.t 2)),
 gF 23 26 (.iad 1 (.t 24) (.t 25)),
 gF 23 27 (.ld none (.t 26)),
 gF 23 28 (.bin false .eql (.t 27) (cI 0)),
 mo (.pick (.t 23) (.c (.bool true)) (.t 28)) 29]
 (.cond (.t 29)
 (sR [mo (.mv (.c (.sl []))) 6,
 mo (.mv (.c (.bool false))) 7]
 .ret)
 .skip))
 (.seq (.note (.gc [1,2,3,8,50,51,52,53,56,57,58,59,60,61,62]) (.reg [mo (.ld (some 5) (.t 3)) 30,
 oV 1 31,
 mo (.call (.f 23) [(.t 30),(.t 31)] [1900] []) 32,
 oV 32 9]))
 (.seq (sR [oF 2 3 33,
 oL 33 34,
 mo (.len false (.t 34)) 35,
 oC 0 36]
 (.block 0
 (.loop mc_q)))
 (sR [mo (.mv (.c (.sl []))) 6,
 mo (.mv (.c (.bool false))) 7]
 .ret))))))
theorem Wq_h {x_ : GRights} {c_ r_ : Int} : Cn Try.prog 18 [GRights.v x_, .int .i64 c_, .int .i64 r_] [] (F_h x_ c_ r_) (fun z => .tup [.sl (z.1.map GLink.v), .bool z.2]) (fun z => []) := fun Q Q' h hQ => by
 obtain ⟨QQ, hQQ⟩ : ∃ QQ : V → Heap → Prop, QQ = fun r H' => ∃ z, Q z ∧ r = .tup [.sl (z.1.map GLink.v), .bool z.2] ∧ H' = [] := ⟨_, rfl⟩
 refine ACall.mono (acallK (Q := QQ) mc_h 1900 [.fz 6] [.t 6, .t 7] Try.func18 (fun c hc hcov => ?_) (fun r H' hq => by rw [hQQ] at hq; obtain ⟨z, _, e1, e2⟩ := hq; exact ⟨by rw [e1]; rfl, e2⟩) fun M => ?_) (fun r H' hq => by rw [hQQ] at hq; obtain ⟨z, h, e1, e2⟩ := hq; rw [e1, e2]; exact hQ z h)
 ·simp only [mc_h, mc_q, HNOK, and_true, true_and]
  exact fun K c' g σ a w hl hR hT => uns_ok hcov (only_mark hc) K c' g σ a w hl hR hT
 replace hQ : ∀ z, Q z → QQ (.tup [.sl (z.1.map GLink.v), .bool z.2]) [] := fun z h => by rw [hQQ]; exact ⟨z, h, rfl, rfl⟩
 clear hQQ
 unfold F_h at h
 unfold mc_h
 replace h := tY h
 refine tB ?_
 repeat' (first
 | (exact tZ)
 | ((first | refine oblg h ?_ | refine roomG h ?_ | refine fork h ?_ ?_ | refine forkS h ?_ ?_) <;> clear h <;> intro hc h)
 | (obtain ⟨y, hy, h⟩ := h; (first | with_reducible first | have hw := Wq_4.w hy | have hw := Wq_0.w hy | have hw := Wm_rights_chains.w hy); replace hw := tY hw; (first | refine M.sC hw ?_ | refine M.sD hw ?_); clear hw hy; refine tB ?_)
 | (refine M.for1 (b := mc_q) 36 [2,8,9,34,35] [1900] (fun x => []) (fun x => []) [] h ?_ ?_ ?_ <;> first
 | (clear h; intro k a x Qn K hK1 hkN1 ha1 h hf; have hl := fact_int (factsE_find (n := 35) hf.1 rfl); clear hf; have hkd := kD hkN1; have hkB1 := kB hkN1; have hkI1 := kI (k := k) (by omega); unfold F_q at h; unfold mc_q; replace h := tY h; refine tK ha1 hkd hkN1 hkB1 hkI1 ?_)
  |(clear h; intro x K h; replace h := And.left (And.intro h trivial); unfold mc_q; replace h := tY h; refine tB ?_)
  |(clear h; (try refine tB ?_); exact tU0; done))
 | (simp only [ha1])
 | (refine hK1 _ ?_; (try refine tB ?_); refine ⟨_, h, ?_⟩; exact tU0; done)
 | (refine tE ?_; (first | rw [M.lok_compU] | rw [M.lokD_compU]); refine tB ?_)
 | (refine ⟨ibs_map (fun a c hc => by simp only [GGrant.v, GLink.v, GMint.v, GRights.v, GStore.v, V.cells, List.mem_cons, List.not_mem_nil, or_false] at hc; rcases hc with rfl | rfl | rfl | rfl <;> rfl), ?_⟩)
 | (refine tA ?_)
 | fail)
end Go.Ab
