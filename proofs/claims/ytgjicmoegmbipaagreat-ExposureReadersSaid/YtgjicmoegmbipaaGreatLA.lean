/- What the functions of this seat that lie on the laws' road compute (part LA), each for every input. By AI agents. -/
import Derived.Test.YtgjicmoegmbipaaGreatProg
import Derived.KernelRfl
import Derived.Test.YtgjicmoegmbipaaGreatAbFun
import Derived.Test.YtgjicmoegmbipaaGreatSL
import Derived.Test.YtgjicmoegmbipaaGreatMX
set_option linter.all false
set_option linter.all false
set_option maxRecDepth 20000
set_option maxHeartbeats 2000000
namespace Go.Ab
open Go.Proofs
structure GMember where
 Time : Int
 Kind : Int
 Principal : Int
 Group : Int
instance : Inhabited GMember := ⟨⟨default, default, default, default⟩⟩
def GMember.v (x : GMember) : V := .agg [.int .i64 x.Time, .int .i64 x.Kind, .int .i64 x.Principal, .int .i64 x.Group]
structure GDirectory where
 Kinds : List Int
 Events : List GMember
instance : Inhabited GDirectory := ⟨⟨default, default⟩⟩
def GDirectory.v (x : GDirectory) : V := .agg [.sl (x.Kinds.map (V.int .i64)), .sl (x.Events.map GMember.v)]
structure GAccess where
 Time : Int
 Kind : Int
 Place : Int
 Principal : Int
 Until : Int
 Content : Int
 From : Int
instance : Inhabited GAccess := ⟨⟨default, default, default, default, default, default, default⟩⟩
def GAccess.v (x : GAccess) : V := .agg [.int .i64 x.Time, .int .i64 x.Kind, .int .i64 x.Place, .int .i64 x.Principal, .int .i64 x.Until, .int .i64 x.Content, .int .i64 x.From]
structure GEstate where
 Places : Int
 Events : List GAccess
instance : Inhabited GEstate := ⟨⟨default, default⟩⟩
def GEstate.v (x : GEstate) : V := .agg [.int .i64 x.Places, .sl (x.Events.map GAccess.v)]
theorem dlt {a : Int} : decide (a < a) = false := by simp
attribute [go_sem] beq_self_eq_true Int.cast_ofNat_Int List.take_succ_cons List.take_zero List.drop_succ_cons List.cons_append List.nil_append putPs pinH wrap_u8 rng64 inb_and inc_and room_and roomI_and divs_and shok_and64 rep_u rep_ll mget_i mget_s mput_i mput_s mdel_i mdel_s lk_b lk_i lk_s lk_l lkt_b' lkt_i' lkt_s' lkt_l' rep_b rep_i ovS ovE ovU patO filt filtH dropE stepNs atEndN shqs shq1 V.oids V.oidsL V.tr V.trL trE trH Obj'.tr true_implies false_implies Bool.false_eq_true Bool.true_eq_false dlt mpV slV Int.natCast_zero List.map_set kvV nxt_map erase_map V.sw V.swL swN swH sw_sl sw_int sw_bool sw_str sw_smap sw_byte Obj'.sw sw_arr sw_map byte_1 byte_2 Mach.b2s_e Mach.b2s_eD toNat_ltb List.length_set List.length_replicate List.take_of_length_le Nat.zero_le bounds eqCells Option.map_some Option.map_none Fl_nx Fl_ex Sum_inl Sum_inr Ok_ite Ok_chk Ok_some Ok_bind Ok_none
theorem inbk_0 {n : Nat} : (inb 0 n = true) = (((0 : Nat) : Int) < (n : Int)) := propext (by rw [inb_iff]; omega)
attribute [go_sem] inbk_0
theorem incl_1 {b : Int} {n : Nat} : (inc 1 b n = true) = (((1 : Nat) : Int) ≤ b ∧ b ≤ (n : Int)) := propext (by rw [inc_iff]; omega)
attribute [go_sem] incl_1
attribute [go_sem] GAccess.v GDirectory.v GEstate.v GMember.v
def F_m (kind_ : Int) : Option Bool :=
 grp ((decide (kind_ < 1) || decide (3 < kind_))) fun b2 => some b2
@[irreducible] def mg_49 : List MOp := [gF 5 6 (.mv (.t 0)),
 gF 5 7 (.bin false .gtr (.t 6) (cI 3)),
 mo (.pick (.t 5) (.c (.bool true)) (.t 7)) 8]
def mc_m : MC :=
 (sR [mo (.mv (.c (.bool false))) 2]
 (.seq (.regI [.op (oV 0 3),
 .op (mo (.bin false .lss (.t 3) (cI 1)) 4),
 .op (oV 4 5),
 .grp mg_49,
 .op (oV 8 2)])
 .ret))
theorem Wq_m {kind_ : Int} : Cn Tryz.prog 104 [.int .i64 kind_] [] (F_m kind_) (fun z => .bool z) (fun z => []) := fun Q Q' h hQ => by
 refine acallM mc_m [] [] [.t 2] Tryz.func104 fun M => ?_
 unfold F_m at h
 unfold mc_m
 replace h := tY h
 refine tB ?_
 repeat' (first
 | (exact tZ)
 | ((first | refine oblg h ?_ | refine roomG h ?_ | refine fork h ?_ ?_ | refine forkS h ?_ ?_) <;> clear h <;> intro hc h)
 | (refine M.gv1 (ms := mg_49) 8 [6,7] h ?_ ?_ <;> first
 | (clear h; intro K hK1; unfold mg_49; refine tB ?_)
 | (clear h; intro b h; replace h := tY h; refine tB ?_))
 | (refine hK1 _ ?_; exact tU; done)
 | (refine bfork (fun hc => ?_) (fun hc => ?_))
 | (refine tE ?_; (first | rw [M.lok_compU] | rw [M.lokD_compU]); refine tB ?_)
 | (refine tA ?_))
def F_35 (k31 : Int) (a32 : Int) (x30 : Unit) : Option (Fl Unit Int) :=
 (F_m a32).bind fun y40 => bif y40 then some (.ex k31) else some (.nx ())
def F_36 (s_ : List Int) : Option Int :=
 (forL F_35 s_ 0 ()).bind fun o => o.elim (fun x41 => some (-1)) (fun r42 => some r42)
@[irreducible] def mc_35 : MC :=
 (sR [mo (.bin false .lss (.t 8) (.t 7)) 9]
 (.seq (.cond (.t 9)
 .skip
 (.exit 0))
 (.seq (.block 1
 (sR [oV 8 10,
 oV 10 5]
 (sR [oV 1 11,
 oV 0 12,
 oV 5 13,
 mo (.iad 1 (.t 12) (.t 13)) 14,
 oL 14 15,
 mo (.call (.t 11) [(.t 15)] [] []) 16]
 (.cond (.t 16)
 (sR [oV 5 17,
 oV 17 4]
 .ret)
 .skip))))
 (.reg [mo (.bin true .add (.t 8) (cI 1)) 18,
 oV 18 8]))))
def mc_36 : MC :=
 (sR [oC 0 4]
 (.seq (sR [oV 0 6,
 mo (.len false (.t 6)) 7,
 oC 0 8]
 (.block 0
 (.loop mc_35)))
 (sR [oC (-1) 4]
 .ret)))
theorem Wq_36 {s_ : List Int} : Cn Tryz.prog 118 [.sl (s_.map (V.int .i64)), .fn (.func 104) []] [] (F_36 s_) (fun z => .int .i64 z) (fun z => []) := fun Q Q' h hQ => by
 refine acallM mc_36 [] [] [.t 4] Tryz.func118 fun M => ?_
 unfold F_36 at h
 unfold mc_36
 replace h := tY h
 refine tB ?_
 repeat' (first
 | (exact tZ)
 | ((first | refine oblg h ?_ | refine roomG h ?_ | refine fork h ?_ ?_ | refine forkS h ?_ ?_) <;> clear h <;> intro hc h)
 | (obtain ⟨y, hy, h⟩ := h; have hw := Wq_m.w hy; replace hw := tY hw; (first | refine M.sC hw ?_ | refine M.sD hw ?_); clear hw hy; refine tB ?_)
 | (refine M.for1 (b := mc_35) 8 [0,1,7] [] (fun x => []) (fun x => []) [] h ?_ ?_ ?_ <;> first
 | (clear h; intro k a x Qn K hK1 hkN1 ha1 h hf; have hl := fact_int (factsE_find (n := 7) hf.1 rfl); clear hf; have hkd := kD hkN1; have hkB1 := kB hkN1; have hkI1 := kI (k := k) (by omega); unfold F_35 at h; unfold mc_35; replace h := tY h; refine tK ha1 hkd hkN1 hkB1 hkI1 ?_)
  |(clear h; intro x K h; replace h := And.left (And.intro h trivial); unfold mc_35; replace h := tY h; refine tB ?_)
  |(clear h; (try refine tB ?_); exact tU0; done))
 | (simp only [ha1])
 | (refine hK1 _ ?_; (try refine tB ?_); refine ⟨_, h, ?_⟩; exact tU0; done)
 | (refine tE ?_; (first | rw [M.lok_compU] | rw [M.lokD_compU]); refine tB ?_)
 | (refine tA ?_))
def F_2g (s_ : List Int) : Option Bool :=
 (F_36 s_).bind fun y2 => some (decide (0 ≤ y2))
def mc_2g : MC :=
 (sR [mo (.mv (.c (.bool false))) 4]
 (sR [oV 0 5,
 oV 1 6,
 mo (.call (.f 118) [(.t 5),(.t 6)] [] []) 7,
 mo (.bin false .geq (.t 7) (cI 0)) 8,
 oV 8 4]
 .ret))
theorem Wq_2g {s_ : List Int} : Cn Tryz.prog 105 [.sl (s_.map (V.int .i64)), .fn (.func 104) []] [] (F_2g s_) (fun z => .bool z) (fun z => []) := fun Q Q' h hQ => by
 refine acallM mc_2g [] [] [.t 4] Tryz.func105 fun M => ?_
 unfold F_2g at h
 unfold mc_2g
 replace h := tY h
 refine tB ?_
 repeat' (first
 | (exact tZ)
 | ((first | refine oblg h ?_ | refine roomG h ?_ | refine fork h ?_ ?_ | refine forkS h ?_ ?_) <;> clear h <;> intro hc h)
 | (obtain ⟨y, hy, h⟩ := h; have hw := Wq_36.w hy; replace hw := tY hw; (first | refine M.sC hw ?_ | refine M.sD hw ?_); clear hw hy; refine tB ?_)
 | (refine tE ?_; (first | rw [M.lok_compU] | rw [M.lokD_compU]); refine tB ?_)
 | (refine tA ?_))
def F_a (d_ : GDirectory) (p_ : Int) : Option Bool :=
 grp ((decide (0 ≤ p_) && decide (p_ < (d_.Kinds.length : Int)))) fun b2 => some b2
@[irreducible] def mg_4a : List MOp := [gT 7 8 (.mv (.t 1)),
 gT 7 9 (.fad 0 (.t 2)),
 gT 7 10 (.ld none (.t 9)),
 gT 7 11 (.len false (.t 10)),
 gT 7 12 (.bin false .lss (.t 8) (.t 11)),
 mo (.pick (.t 7) (.t 12) (.c (.bool false))) 13]
def mc_a : MC :=
 (sR [mo (.box (.t 0)) 2,
 mo (.mv (.c (.bool false))) 4]
 (.seq (.regI [.op (oV 1 5),
 .op (mo (.bin false .geq (.t 5) (cI 0)) 6),
 .op (oV 6 7),
 .grp mg_4a,
 .op (oV 13 4)])
 .ret))
theorem Wq_a {d_ : GDirectory} {p_ : Int} : Cn Tryz.prog 101 [GDirectory.v d_, .int .i64 p_] [] (F_a d_ p_) (fun z => .bool z) (fun z => []) := fun Q Q' h hQ => by
 refine acallM mc_a [] [] [.t 4] Tryz.func101 fun M => ?_
 unfold F_a at h
 unfold mc_a
 replace h := tY h
 refine tB ?_
 repeat' (first
 | (exact tZ)
 | ((first | refine oblg h ?_ | refine roomG h ?_ | refine fork h ?_ ?_ | refine forkS h ?_ ?_) <;> clear h <;> intro hc h)
 | (refine M.gv1 (ms := mg_4a) 13 [8,9,10,11,12] h ?_ ?_ <;> first
 | (clear h; intro K hK1; unfold mg_4a; refine tB ?_)
 | (clear h; intro b h; replace h := tY h; refine tB ?_))
 | (refine hK1 _ ?_; exact tU; done)
 | (refine bfork (fun hc => ?_) (fun hc => ?_))
 | (refine tE ?_; (first | rw [M.lok_compU] | rw [M.lokD_compU]); refine tB ?_)
 | (refine tA ?_))
def F_1p (d_ : GDirectory) (p_ : Int) : Option Bool :=
 (F_a d_ p_).bind fun y3 => jn (α := Bool) (bif y3 then chk (inb p_ d_.Kinds.length) (some (decide ((d_.Kinds.getD (p_).toNat default) = 2))) else some false) fun j4 => some j4
@[irreducible] def mg_4b : List MOp := [gT 8 9 (.fad 0 (.t 2)),
 gT 8 10 (.ld none (.t 9)),
 gT 8 11 (.mv (.t 1)),
 gT 8 12 (.iad 1 (.t 10) (.t 11)),
 gT 8 13 (.ld none (.t 12)),
 gT 8 14 (.bin false .eql (.t 13) (cI 2)),
 mo (.pick (.t 8) (.t 14) (.c (.bool false))) 15]
def mc_1p : MC :=
 (sR [mo (.box (.t 0)) 2,
 mo (.mv (.c (.bool false))) 4]
 (.seq (.regI [.op (mo (.ld (some 2) (.t 2)) 5),
 .op (oV 1 6),
 .op (mo (.call (.f 101) [(.t 5),(.t 6)] [] []) 7),
 .op (oV 7 8),
 .grp mg_4b,
 .op (oV 15 4)])
 .ret))
theorem Wq_1p {d_ : GDirectory} {p_ : Int} : Cn Tryz.prog 106 [GDirectory.v d_, .int .i64 p_] [] (F_1p d_ p_) (fun z => .bool z) (fun z => []) := fun Q Q' h hQ => by
 refine acallM mc_1p [] [] [.t 4] Tryz.func106 fun M => ?_
 unfold F_1p at h
 unfold mc_1p
 replace h := tY h
 refine tB ?_
 repeat' (first
 | (exact tZ)
 | ((first | refine oblg h ?_ | refine roomG h ?_ | refine fork h ?_ ?_ | refine forkS h ?_ ?_) <;> clear h <;> intro hc h)
 | (obtain ⟨y, hy, h⟩ := h; have hw := Wq_a.w hy; replace hw := tY hw; (first | refine M.sC hw ?_ | refine M.sD hw ?_); clear hw hy; refine tB ?_)
 | (refine M.gj1 (ms := mg_4b) [4] [] (fun y => [(15, .bool y)]) (fun y => []) h ?_ ?_ <;> first
 | (clear h; intro Qn K hK1 h; unfold mg_4b; replace h := tY h; refine tB ?_)
  |(clear h; intro y h; replace h := tY h; refine tB ?_))
 | (refine hK1 _ ?_; (try refine tB ?_); refine ⟨_, h, ?_⟩; exact tU0; done)
 | (refine tE ?_; (first | rw [M.lok_compU] | rw [M.lokD_compU]); refine tB ?_)
 | (refine tA ?_))
def F_2h (d_ : GDirectory) (k277 : Int) (a278 : GMember) (x276 : Int) : Option (Fl Int Int) :=
 jn (α := Fl Unit Int) (grp (((!decide (a278.Kind = 1)) && (!decide (a278.Kind = 2)))) fun b358 => grp ((b358 || decide (a278.Time < x276))) fun b359 => grp ((b359 || decide (1099511627776 < a278.Time))) fun b360 => bif b360 then grp (true) fun b361 => bif b361 then some (.ex 30) else some (.nx ()) else (F_a d_ a278.Principal).bind fun y362 => bif (!y362) then grp (true) fun b363 => bif b363 then some (.ex 30) else some (.nx ()) else (F_1p d_ a278.Group).bind fun y364 => grp (((!y364) || decide (a278.Principal = a278.Group))) fun b365 => bif b365 then some (.ex 30) else some (.nx ())) fun o => o.elim (fun j349 => some (.nx a278.Time)) (fun r366 => some (.ex r366))
def F_f (d_ : GDirectory) : Option Int :=
 grp ((decide (24 < (d_.Kinds.length : Int)) || decide (120 < (d_.Events.length : Int)))) fun b7 => bif b7 then some 30 else (F_2g d_.Kinds).bind fun y8 => bif y8 then some 30 else (forL (F_2h d_) d_.Events 0 0).bind fun o => o.elim (fun x367 => some 0) (fun r368 => some r368)
@[irreducible] def mg_m : List MOp := [gF 11 12 (.fad 1 (.t 1)),
 gF 11 13 (.ld none (.t 12)),
 gF 11 14 (.len false (.t 13)),
 gF 11 15 (.bin false .gtr (.t 14) (cI 120)),
 mo (.pick (.t 11) (.c (.bool true)) (.t 15)) 16]
@[irreducible] def mg_4c : List MOp := [gT 33 34 (.fad 1 (.t 6)),
 gT 33 35 (.ld none (.t 34)),
 gT 33 36 (.bin false .neq (.t 35) (cI 2)),
 mo (.pick (.t 33) (.t 36) (.c (.bool false))) 37]
@[irreducible] def mg_4d : List MOp := [gF 38 39 (.fad 0 (.t 6)),
 gF 38 40 (.ld none (.t 39)),
 gF 38 41 (.mv (.t 4)),
 gF 38 42 (.bin false .lss (.t 40) (.t 41)),
 mo (.pick (.t 38) (.c (.bool true)) (.t 42)) 43]
@[irreducible] def mg_4e : List MOp := [gF 44 45 (.fad 0 (.t 6)),
 gF 44 46 (.ld none (.t 45)),
 gF 44 47 (.bin false .gtr (.t 46) (cI 1099511627776)),
 mo (.pick (.t 44) (.c (.bool true)) (.t 47)) 48]
@[irreducible] def mg_3t : List MOp := [gF 63 64 (.fad 2 (.t 6)),
 gF 63 65 (.ld none (.t 64)),
 gF 63 66 (.fad 3 (.t 6)),
 gF 63 67 (.ld none (.t 66)),
 gF 63 68 (.bin false .eql (.t 65) (.t 67)),
 mo (.pick (.t 63) (.c (.bool true)) (.t 68)) 69]
@[irreducible] def mc_4f : MC :=
 (.reg [oF 0 6 70,
 oL 70 71,
 oV 71 4])
@[irreducible] def mc_2h : MC :=
 (sR [mo (.bin false .lss (.t 26) (.t 25)) 27]
 (.seq (.cond (.t 27)
 .skip
 (.exit 0))
 (.seq (.block 1
 (sR [mo (.iad 4 (.t 24) (.t 26)) 28,
 mo (.ld (some 4) (.t 28)) 29,
 mo (.alloc [(.int .i64 0),(.int .i64 0),(.int .i64 0),(.int .i64 0)]) 6,
 ⟨.st 4 (.t 6) (.t 29), none, none⟩]
 (.cut (.seq (.regI [.op (oF 1 6 30),
 .op (oL 30 31),
 .op (mo (.bin false .neq (.t 31) (cI 1)) 32),
 .op (oV 32 33),
 .grp mg_4c,
 .op (oV 37 38),
 .grp mg_4d,
 .op (oV 43 44),
 .grp mg_4e,
 .op (oV 48 49),
 .op (gF 49 50 (.ld (some 2) (.t 1))),
 .op (gF 49 51 (.fad 2 (.t 6))),
 .op (gF 49 52 (.ld none (.t 51))),
 .op (gF 49 53 (.call (.f 101) [(.t 50),(.t 52)] [] [])),
 .op (gF 49 54 (.not (.t 53))),
 .op (mo (.pick (.t 49) (.c (.bool true)) (.t 54)) 55),
 .op (oV 55 56),
 .op (gF 56 57 (.ld (some 2) (.t 1))),
 .op (gF 56 58 (.fad 3 (.t 6))),
 .op (gF 56 59 (.ld none (.t 58))),
 .op (gF 56 60 (.call (.f 106) [(.t 57),(.t 59)] [] [])),
 .op (gF 56 61 (.not (.t 60))),
 .op (mo (.pick (.t 56) (.c (.bool true)) (.t 61)) 62),
 .op (oV 62 63),
 .grp mg_3t])
 (.cond (.t 69)
 (sR [oC 30 2]
 .ret)
 .skip))
 mc_4f)))
 (.reg [mo (.bin true .add (.t 26) (cI 1)) 72,
 oV 72 26]))))
def mc_f : MC :=
 (sR [mo (.box (.t 0)) 1,
 oC 0 2]
 (sR [mo (.mv (.f 104)) 3]
 (.seq (.seq (.regI [.op (oF 0 1 7),
 .op (oL 7 8),
 .op (mo (.len false (.t 8)) 9),
 .op (mo (.bin false .gtr (.t 9) (cI 24)) 10),
 .op (oV 10 11),
 .grp mg_m,
 .op (oV 16 17),
 .op (gF 17 18 (.fad 0 (.t 1))),
 .op (gF 17 19 (.ld none (.t 18))),
 .op (gF 17 20 (.mv (.t 3))),
 .op (gF 17 21 (.call (.f 105) [(.t 19),(.t 20)] [] [])),
 .op (mo (.pick (.t 17) (.c (.bool true)) (.t 21)) 22)])
 (.cond (.t 22)
 (sR [oC 30 2]
 .ret)
 .skip))
 (sR [oC 0 4]
 (.seq (.seq (.note (.gc [1,4,34,35,36,39,40,41,42,45,46,47,50,51,52,53,54,57,58,59,60,61,64,65,66,67,68]) (.reg [oF 1 1 23,
 oL 23 24,
 mo (.len false (.t 24)) 25,
 oC 0 26]))
 (.block 0
 (.loop mc_2h)))
 (sR [oC 0 2]
 .ret))))))
theorem Wq_f {d_ : GDirectory} : Cn Tryz.prog 79 [GDirectory.v d_] [] (F_f d_) (fun z => .int .i64 z) (fun z => []) := fun Q Q' h hQ => by
 refine acallM mc_f [] [] [.t 2] Tryz.func79 fun M => ?_
 unfold F_f at h
 unfold mc_f
 replace h := tY h
 refine tB ?_
 repeat' (first
 | (exact tZ)
 | ((first | refine oblg h ?_ | refine roomG h ?_ | refine fork h ?_ ?_ | refine forkS h ?_ ?_) <;> clear h <;> intro hc h)
 | (obtain ⟨y, hy, h⟩ := h; (first | with_reducible first | have hw := Wq_2g.w hy | have hw := Wq_a.w hy | have hw := Wq_1p.w hy); replace hw := tY hw; (first | refine M.sC hw ?_ | refine M.sD hw ?_); clear hw hy; refine tB ?_)
 | (refine M.gv1 (ms := mg_3t) 69 [64,65,66,67,68] h ?_ ?_ <;> first
 | (clear h; intro K hK1; unfold mg_3t; refine tB ?_)
 | (clear h; intro b h; replace h := tY h; refine tB ?_))
 | (refine M.gv1 (ms := mg_3t) 69 [64,65,66,67,68] h ?_ ?_ <;> first
 | (clear h; intro K hK2; unfold mg_3t; refine tB ?_)
 | (clear h; intro b h; replace h := tY h; refine tB ?_))
 | (refine M.gv1 (ms := mg_3t) 69 [64,65,66,67,68] h ?_ ?_ <;> first
 | (clear h; intro K hK3; unfold mg_3t; refine tB ?_)
 | (clear h; intro b h; replace h := tY h; refine tB ?_))
 | (refine M.gv1 (ms := mg_4e) 48 [45,46,47] h ?_ ?_ <;> first
 | (clear h; intro K hK4; unfold mg_4e; refine tB ?_)
 | (clear h; intro b h; replace h := tY h; refine tB ?_))
 | (refine M.gv1 (ms := mg_4d) 43 [39,40,41,42] h ?_ ?_ <;> first
 | (clear h; intro K hK5; unfold mg_4d; refine tB ?_)
 | (clear h; intro b h; replace h := tY h; refine tB ?_))
 | (refine M.gv1 (ms := mg_4c) 37 [34,35,36] h ?_ ?_ <;> first
 | (clear h; intro K hK6; unfold mg_4c; refine tB ?_)
 | (clear h; intro b h; replace h := tY h; refine tB ?_))
 | (refine M.jnE (b := mc_4f) [1,6,24,25,26] [6,1] (fun y => []) (fun y => []) [] h ?_ ?_ <;> first
 | (clear h; intro Qn K hK7 h; replace h := tY h; refine tB ?_)
  |(clear h; intro y h; unfold mc_4f; replace h := tY h; refine tB ?_))
 | (refine M.for1 (b := mc_2h) 26 [1,24,25] [1] (fun x => [(4, .int .i64 x)]) (fun x => []) [] h ?_ ?_ ?_ <;> first
 | (clear h; intro k a x Qn K hK8 hkN8 ha8 h hf; have hl := fact_int (factsE_find (n := 25) hf.1 rfl); clear hf; have hkd := kD hkN8; have hkB8 := kB hkN8; have hkI8 := kI (k := k) (by omega); unfold F_2h at h; unfold mc_2h; replace h := tY h; refine tK ha8 hkd hkN8 hkB8 hkI8 ?_)
  |(clear h; intro x K h; replace h := And.left (And.intro h trivial); unfold mc_2h; replace h := tY h; refine tB ?_)
  |(clear h; (try refine tB ?_); exact tU0; done))
 | (refine M.gv1 (ms := mg_m) 16 [12,13,14,15] h ?_ ?_ <;> first
 | (clear h; intro K hK9; unfold mg_m; refine tB ?_)
 | (clear h; intro b h; replace h := tY h; refine tB ?_))
 | (simp only [ha8])
 | ((first | refine hK1 _ ?_ | refine hK2 _ ?_ | refine hK3 _ ?_ | refine hK4 _ ?_ | refine hK5 _ ?_ | refine hK6 _ ?_ | refine hK9 _ ?_); exact tU; done)
 | ((first | refine hK7 _ ?_ | refine hK8 _ ?_); (try refine tB ?_); refine ⟨_, h, ?_⟩; exact tU0; done)
 | (refine bfork (fun hc => ?_) (fun hc => ?_))
 | (refine tE ?_; (first | rw [M.lok_compU] | rw [M.lokD_compU]); refine tB ?_)
 | (refine tA ?_))
def F_b (n_ : Int) (low_ : Int) (high_ : Int) : Option Bool :=
 grp ((decide (low_ ≤ n_) && decide (n_ ≤ high_))) fun b2 => some b2
@[irreducible] def mg_4g : List MOp := [gT 10 11 (.mv (.t 0)),
 gT 10 12 (.mv (.t 2)),
 gT 10 13 (.bin false .leq (.t 11) (.t 12)),
 mo (.pick (.t 10) (.t 13) (.c (.bool false))) 14]
def mc_b : MC :=
 (sR [mo (.mv (.c (.bool false))) 6]
 (.seq (.regI [.op (oV 0 7),
 .op (oV 1 8),
 .op (mo (.bin false .geq (.t 7) (.t 8)) 9),
 .op (oV 9 10),
 .grp mg_4g,
 .op (oV 14 6)])
 .ret))
theorem Wq_b {n_ low_ high_ : Int} : Cn Tryz.prog 80 [.int .i64 n_, .int .i64 low_, .int .i64 high_] [] (F_b n_ low_ high_) (fun z => .bool z) (fun z => []) := fun Q Q' h hQ => by
 refine acallM mc_b [] [] [.t 6] Tryz.func80 fun M => ?_
 unfold F_b at h
 unfold mc_b
 replace h := tY h
 refine tB ?_
 repeat' (first
 | (exact tZ)
 | ((first | refine oblg h ?_ | refine roomG h ?_ | refine fork h ?_ ?_ | refine forkS h ?_ ?_) <;> clear h <;> intro hc h)
 | (refine M.gv1 (ms := mg_4g) 14 [11,12,13] h ?_ ?_ <;> first
 | (clear h; intro K hK1; unfold mg_4g; refine tB ?_)
 | (clear h; intro b h; replace h := tY h; refine tB ?_))
 | (refine hK1 _ ?_; exact tU; done)
 | (refine bfork (fun hc => ?_) (fun hc => ?_))
 | (refine tE ?_; (first | rw [M.lok_compU] | rw [M.lokD_compU]); refine tB ?_)
 | (refine tA ?_))
def F_2 (content_ : Int) : Option Bool :=
 (F_b content_ 0 63).bind fun y2 => some y2
def mc_2 : MC :=
 (sR [mo (.mv (.c (.bool false))) 2]
 (sR [oV 0 3,
 mo (.call (.f 80) [(.t 3), (cI 0), (cI 63)] [] []) 4,
 oV 4 2]
 .ret))
theorem Wq_2 {content_ : Int} : Cn Tryz.prog 51 [.int .i64 content_] [] (F_2 content_) (fun z => .bool z) (fun z => []) := fun Q Q' h hQ => by
 refine acallM mc_2 [] [] [.t 2] Tryz.func51 fun M => ?_
 unfold F_2 at h
 unfold mc_2
 replace h := tY h
 refine tB ?_
 repeat' (first
 | (exact tZ)
 | ((first | refine oblg h ?_ | refine roomG h ?_ | refine fork h ?_ ?_ | refine forkS h ?_ ?_) <;> clear h <;> intro hc h)
 | (obtain ⟨y, hy, h⟩ := h; have hw := Wq_b.w hy; replace hw := tY hw; (first | refine M.sC hw ?_ | refine M.sD hw ?_); clear hw hy; refine tB ?_)
 | (refine tE ?_; (first | rw [M.lok_compU] | rw [M.lokD_compU]); refine tB ?_)
 | (refine tA ?_))
def F_7 (a_ : GEstate) (place_ : Int) : Option Bool :=
 chk (in64 (a_.Places - 1)) ((F_b place_ 0 (a_.Places - 1)).bind fun y2 => some y2)
def mc_7 : MC :=
 (sR [mo (.box (.t 0)) 2,
 mo (.mv (.c (.bool false))) 4]
 (sR [oV 1 5,
 oF 0 2 6,
 oL 6 7,
 mo (.bin true .sub (.t 7) (cI 1)) 8,
 mo (.call (.f 80) [(.t 5), (cI 0),(.t 8)] [] []) 9,
 oV 9 4]
 .ret))
theorem Wq_7 {a_ : GEstate} {place_ : Int} : Cn Tryz.prog 63 [GEstate.v a_, .int .i64 place_] [] (F_7 a_ place_) (fun z => .bool z) (fun z => []) := fun Q Q' h hQ => by
 refine acallM mc_7 [] [] [.t 4] Tryz.func63 fun M => ?_
 unfold F_7 at h
 unfold mc_7
 replace h := tY h
 refine tB ?_
 repeat' (first
 | (exact tZ)
 | ((first | refine oblg h ?_ | refine roomG h ?_ | refine fork h ?_ ?_ | refine forkS h ?_ ?_) <;> clear h <;> intro hc h)
 | (obtain ⟨y, hy, h⟩ := h; have hw := Wq_b.w hy; replace hw := tY hw; (first | refine M.sC hw ?_ | refine M.sD hw ?_); clear hw hy; refine tB ?_)
 | (refine tE ?_; (first | rw [M.lok_compU] | rw [M.lokD_compU]); refine tB ?_)
 | (refine tA ?_))
def F_1q (a_ : GEstate) (x_ : GAccess) : Option Bool :=
 jn (α := Bool × GAccess) (jn (α := Bool) (bif decide (x_.Kind = 1) then some true else some (decide (x_.Kind = 2))) fun j7 => bif j7 then (F_b x_.Principal 0 23).bind fun y8 => some (y8, (GAccess.mk x_.Time x_.Kind x_.Place x_.Principal 0 0 0)) else bif decide (x_.Kind = 3) then bif decide (x_.Time < x_.Until) then some (decide (x_.Until ≤ 1099511627776), (GAccess.mk x_.Time x_.Kind x_.Place 0 x_.Until 0 0)) else some (false, (GAccess.mk x_.Time x_.Kind x_.Place 0 x_.Until 0 0)) else bif decide (x_.Kind = 4) then some (true, (GAccess.mk x_.Time x_.Kind x_.Place 0 0 0 0)) else jn (α := Bool) (bif decide (x_.Kind = 5) then some true else some (decide (x_.Kind = 6))) fun j9 => bif j9 then (F_2 x_.Content).bind fun y10 => some (y10, (GAccess.mk x_.Time x_.Kind x_.Place 0 0 x_.Content 0)) else bif decide (x_.Kind = 7) then (F_7 a_ x_.From).bind fun y11 => bif y11 then some ((!decide (x_.From = x_.Place)), (GAccess.mk x_.Time x_.Kind x_.Place 0 0 0 x_.From)) else some (false, (GAccess.mk x_.Time x_.Kind x_.Place 0 0 0 x_.From)) else some (false, (GAccess.mk x_.Time x_.Kind x_.Place 0 0 0 0))) fun j6 => jn (α := Bool) (bif j6.1 then (F_7 a_ x_.Place).bind fun y16 => some y16 else some false) fun j17 => grp ((j17 && (decide (x_.Time = j6.2.Time) && (decide (x_.Kind = j6.2.Kind) && (decide (x_.Place = j6.2.Place) && (decide (x_.Principal = j6.2.Principal) && (decide (x_.Until = j6.2.Until) && (decide (x_.Content = j6.2.Content) && decide (x_.From = j6.2.From))))))))) fun b18 => some b18
@[irreducible] def mc_4h : MC :=
 (.cond (.t 42)
 (.regD [oF 5 3 45,
 oL 45 46,
 oF 5 3 47,
 oL 47 48,
 mo (.call (.f 51) [(.t 48)] [] []) 49,
 oF 5 5 50,
 ⟨.st 1 (.t 50) (.t 46), none, none⟩,
 oV 49 6]
 [[],[0],[],[2],[3],[0,1],[5,1,4,0,1],[4,6,0,1,2,3,4,5,6]]
 [[],[0],[],[2],[2,3],[0,1],[0,1,2,3,4,5],[0,1,2,3,4,5,6]])
 (sR [mo (.bin false .eql (.t 15) (cI 7)) 52,
 oV 52 51]
 (.cond (.t 51)
 (.regD [oF 6 3 53,
 oL 53 54,
 mo (.ld (some 2) (.t 2)) 55,
 oF 6 3 56,
 oL 56 57,
 mo (.call (.f 63) [(.t 55),(.t 57)] [] []) 58,
 oV 58 59,
 gT 59 60 (.fad 6 (.t 3)),
 gT 59 61 (.ld none (.t 60)),
 gT 59 62 (.fad 2 (.t 3)),
 gT 59 63 (.ld none (.t 62)),
 gT 59 64 (.bin false .neq (.t 61) (.t 63)),
 mo (.pick (.t 59) (.t 64) (.c (.bool false))) 65,
 oF 6 5 66,
 ⟨.st 1 (.t 66) (.t 54), none, none⟩,
 oV 65 6]
 [[],[0],[],[],[3],[2,4],[5,5],[6],[7,6],[6],[9,6],[8,10,6],[6,11],[0,1],[13,1,6,0,1],[12,14,0,1,2,3,4,5,6,7,8,9,10,11,12,13,14]]
 [[],[0],[],[],[3],[2,3,4],[2,3,4,5],[2,3,4,5,6],[2,3,4,5,6,7],[2,3,4,5,6],[2,3,4,5,6,9],[2,3,4,5,6,7,8,9,10],[2,3,4,5,6,7,8,9,10,11],[0,1],[0,1,2,3,4,5,6,13],[0,1,2,3,4,5,6,7,8,9,10,11,12,13,14]])
 .skip)))
@[irreducible] def mc_4i : MC :=
 (.cond (.t 16)
 (.regD [oF 3 3 19,
 oL 19 20,
 oF 3 3 21,
 oL 21 22,
 mo (.call (.f 80) [(.t 22), (cI 0), (cI 23)] [] []) 23,
 oF 3 5 24,
 ⟨.st 1 (.t 24) (.t 20), none, none⟩,
 oV 23 6]
 [[],[0],[],[2],[3],[0,1],[5,1,4,0,1],[4,6,0,1,2,3,4,5,6]]
 [[],[0],[],[2],[2,3],[0,1],[0,1,2,3,4,5],[0,1,2,3,4,5,6]])
 (sR [mo (.bin false .eql (.t 15) (cI 3)) 26,
 oV 26 25]
 (.cond (.t 25)
 (.regD [oF 4 3 27,
 oL 27 28,
 oF 4 3 29,
 oL 29 30,
 oF 0 3 31,
 oL 31 32,
 mo (.bin false .gtr (.t 30) (.t 32)) 33,
 oV 33 34,
 gT 34 35 (.fad 4 (.t 3)),
 gT 34 36 (.ld none (.t 35)),
 gT 34 37 (.bin false .leq (.t 36) (cI 1099511627776)),
 mo (.pick (.t 34) (.t 37) (.c (.bool false))) 38,
 oF 4 5 39,
 ⟨.st 1 (.t 39) (.t 28), none, none⟩,
 oV 38 6]
 [[],[0],[],[2],[],[4],[3,5],[6],[7],[8,7],[9,7],[7,10],[0,1],[12,1,7,0,1],[11,13,0,1,2,3,4,5,6,7,8,9,10,11,12,13]]
 [[],[0],[],[2],[],[4],[2,3,4,5],[2,3,4,5,6],[2,3,4,5,6,7],[2,3,4,5,6,7,8],[2,3,4,5,6,7,8,9],[2,3,4,5,6,7,8,9,10],[0,1],[0,1,2,3,4,5,6,7,12],[0,1,2,3,4,5,6,7,8,9,10,11,12,13]])
 (sR [mo (.bin false .eql (.t 15) (cI 4)) 41,
 oV 41 40]
 (.cond (.t 40)
 (.reg [mo (.mv (.c (.bool true))) 6])
 (.cut (sR [mo (.bin false .eql (.t 15) (cI 5)) 43,
 oV 43 42]
 (.cond (.t 42)
 .skip
 (.reg [mo (.bin false .eql (.t 15) (cI 6)) 44,
 oV 44 42])))
 mc_4h))))))
@[irreducible] def mg_4j : List MOp := [gT 68 69 (.ld (some 2) (.t 2)),
 gT 68 70 (.fad 2 (.t 3)),
 gT 68 71 (.ld none (.t 70)),
 gT 68 72 (.call (.f 63) [(.t 69),(.t 71)] [] []),
 mo (.pick (.t 68) (.t 72) (.c (.bool false))) 73]
@[irreducible] def mg_4k : List MOp := [gT 74 75 (.ld (some 7) (.t 3)),
 gT 74 76 (.ld (some 7) (.t 5)),
 gT 74 77 (.eqs false [0,0,0,0,0,0,0] (.t 75) (.t 76)),
 mo (.pick (.t 74) (.t 77) (.c (.bool false))) 78]
@[irreducible] def mc_4l : MC :=
 (.seq (.regI [.op (oV 6 67),
 .op (oV 67 68),
 .grp mg_4j,
 .op (oV 73 74),
 .grp mg_4k,
 .op (oV 78 4)])
 .ret)
def mc_1q : MC :=
 (sR [mo (.box (.t 0)) 2,
 mo (.box (.t 1)) 3,
 mo (.mv (.c (.bool false))) 4]
 (sR [oF 0 3 7,
 oL 7 8,
 oF 1 3 9,
 oL 9 10,
 oF 2 3 11,
 oL 11 12,
 mo (.build [(.int .i64 0),(.int .i64 0),(.int .i64 0),(.int .i64 0),(.int .i64 0),(.int .i64 0),(.int .i64 0)] [(0,1,(.t 8)), (1,1,(.t 10)), (2,1,(.t 12))]) 13,
 mo (.alloc [(.int .i64 0),(.int .i64 0),(.int .i64 0),(.int .i64 0),(.int .i64 0),(.int .i64 0),(.int .i64 0)]) 5,
 ⟨.st 7 (.t 5) (.t 13), none, none⟩]
 (sR [mo (.mv (.c (.bool false))) 6]
 (.cut (sR [oF 1 3 14,
 oL 14 15]
 (.block 0
 (.cut (sR [mo (.bin false .eql (.t 15) (cI 1)) 17,
 oV 17 16]
 (.cond (.t 16)
 .skip
 (.reg [mo (.bin false .eql (.t 15) (cI 2)) 18,
 oV 18 16])))
 mc_4i)))
 mc_4l))))
theorem Wq_1q {a_ : GEstate} {x_ : GAccess} : Cn Tryz.prog 89 [GEstate.v a_, GAccess.v x_] [] (F_1q a_ x_) (fun z => .bool z) (fun z => []) := fun Q Q' h hQ => by
 refine acallM mc_1q [] [] [.t 4] Tryz.func89 fun M => ?_
 unfold F_1q at h
 unfold mc_1q
 replace h := tY h
 refine tB ?_
 repeat' (first
 | (exact tZ)
 | ((first | refine oblg h ?_ | refine roomG h ?_ | refine fork h ?_ ?_ | refine forkS h ?_ ?_) <;> clear h <;> intro hc h)
 | (obtain ⟨y, hy, h⟩ := h; (first | with_reducible first | have hw := Wq_b.w hy | have hw := Wq_2.w hy | have hw := Wq_7.w hy); replace hw := tY hw; (first | refine M.sC hw ?_ | refine M.sD hw ?_); clear hw hy; refine tB ?_)
 | (refine M.jn1 (b := mc_4h) [2,3,5,6,15] [5,3,2] (fun y => [(42, .bool y)]) (fun y => []) [] h ?_ ?_ <;> first
 | (clear h; intro Qn K hK1 h; replace h := tY h; refine tB ?_)
  |(clear h; intro y h; unfold mc_4h; replace h := tY h; refine tB ?_))
 | (refine M.jn1 (b := mc_4i) [2,3,5,6,15] [5,3,2] (fun y => [(16, .bool y)]) (fun y => []) [] h ?_ ?_ <;> first
 | (clear h; intro Qn K hK2 h; replace h := tY h; refine tB ?_)
  |(clear h; intro y h; unfold mc_4i; replace h := tY h; refine tB ?_))
 | (refine M.gv1 (ms := mg_4k) 78 [75,76,77] h ?_ ?_ <;> first
 | (clear h; intro K hK3; unfold mg_4k; refine tB ?_)
 | (clear h; intro b h; replace h := tY h; refine tB ?_))
 | (refine M.gj1 (ms := mg_4j) [3,5] [5,3] (fun y => [(73, .bool y)]) (fun y => []) h ?_ ?_ <;> first
 | (clear h; intro Qn K hK4 h; unfold mg_4j; replace h := tY h; refine tB ?_)
  |(clear h; intro y h; replace h := tY h; refine tB ?_))
 | (refine M.jn1 (b := mc_4l) [2,3,5] [3,2] (fun y => [(6, .bool y.1)]) (fun y => [.o 5 (.cells [.int .i64 y.2.Time, .int .i64 y.2.Kind, .int .i64 y.2.Place, .int .i64 y.2.Principal, .int .i64 y.2.Until, .int .i64 y.2.Content, .int .i64 y.2.From])]) [] h ?_ ?_ <;> first
 | (clear h; intro Qn K hK5 h; replace h := tY h; refine tB ?_)
  |(clear h; intro y h; unfold mc_4l; replace h := tY h; refine tB ?_))
 | ((first | refine hK1 _ ?_ | refine hK2 _ ?_ | refine hK4 _ ?_ | refine hK5 _ ?_); (try refine tB ?_); refine ⟨_, h, ?_⟩; exact tU0; done)
 | (refine hK3 _ ?_; exact tU; done)
 | (refine bfork (fun hc => ?_) (fun hc => ?_))
 | (refine tE ?_; (first | rw [M.lok_compU] | rw [M.lokD_compU]); refine tB ?_)
 | (refine tA ?_))
def F_2i (a_ : GEstate) (k137 : Int) (a138 : GAccess) (x136 : Int) : Option (Fl Int Int) :=
 grp ((decide (a138.Time < x136) || decide (1099511627776 < a138.Time))) fun b169 => bif b169 then some (.ex 34) else (F_1q a_ a138).bind fun y170 => bif (!y170) then some (.ex 34) else some (.nx a138.Time)
def F_5 (a_ : GEstate) : Option Int :=
 (F_b a_.Places 1 16).bind fun y7 => grp (((!y7) || decide (120 < (a_.Events.length : Int)))) fun b8 => bif b8 then some 34 else (forL (F_2i a_) a_.Events 0 0).bind fun o => o.elim (fun x171 => some 0) (fun r172 => some r172)
@[irreducible] def mg_4m : List MOp := [gF 10 11 (.fad 1 (.t 1)),
 gF 10 12 (.ld none (.t 11)),
 gF 10 13 (.len false (.t 12)),
 gF 10 14 (.bin false .gtr (.t 13) (cI 120)),
 mo (.pick (.t 10) (.c (.bool true)) (.t 14)) 15]
@[irreducible] def mg_4n : List MOp := [gF 27 28 (.fad 0 (.t 5)),
 gF 27 29 (.ld none (.t 28)),
 gF 27 30 (.bin false .gtr (.t 29) (cI 1099511627776)),
 mo (.pick (.t 27) (.c (.bool true)) (.t 30)) 31]
@[irreducible] def mc_2i : MC :=
 (sR [mo (.bin false .lss (.t 19) (.t 18)) 20]
 (.seq (.cond (.t 20)
 .skip
 (.exit 0))
 (.seq (.block 1
 (sR [mo (.iad 7 (.t 17) (.t 19)) 21,
 mo (.ld (some 7) (.t 21)) 22,
 mo (.alloc [(.int .i64 0),(.int .i64 0),(.int .i64 0),(.int .i64 0),(.int .i64 0),(.int .i64 0),(.int .i64 0)]) 5,
 ⟨.st 7 (.t 5) (.t 22), none, none⟩]
 (.seq (.seq (.regI [.op (oF 0 5 23),
 .op (oL 23 24),
 .op (oV 3 25),
 .op (mo (.bin false .lss (.t 24) (.t 25)) 26),
 .op (oV 26 27),
 .grp mg_4n,
 .op (oV 31 32),
 .op (gF 32 33 (.ld (some 2) (.t 1))),
 .op (gF 32 34 (.ld (some 7) (.t 5))),
 .op (gF 32 35 (.call (.f 89) [(.t 33),(.t 34)] [] [])),
 .op (gF 32 36 (.not (.t 35))),
 .op (mo (.pick (.t 32) (.c (.bool true)) (.t 36)) 37)])
 (.cond (.t 37)
 (sR [oC 34 2]
 .ret)
 .skip))
 (.note (.gc [1,5,17,18,19,28,29,30,33,34,35,36]) (.reg [oF 0 5 38,
 oL 38 39,
 oV 39 3])))))
 (.reg [mo (.bin true .add (.t 19) (cI 1)) 40,
 oV 40 19]))))
def mc_5 : MC :=
 (sR [mo (.box (.t 0)) 1,
 oC 0 2]
 (.seq (.seq (.regI [.op (oF 0 1 6),
 .op (oL 6 7),
 .op (mo (.call (.f 80) [(.t 7), (cI 1), (cI 16)] [] []) 8),
 .op (mo (.not (.t 8)) 9),
 .op (oV 9 10),
 .grp mg_4m])
 (.cond (.t 15)
 (sR [oC 34 2]
 .ret)
 .skip))
 (sR [oC 0 3]
 (.seq (.seq (.note (.gc [1,3,28,29,30,33,34,35,36]) (.reg [oF 1 1 16,
 oL 16 17,
 mo (.len false (.t 17)) 18,
 oC 0 19]))
 (.block 0
 (.loop mc_2i)))
 (sR [oC 0 2]
 .ret)))))
theorem Wq_5 {a_ : GEstate} : Cn Tryz.prog 62 [GEstate.v a_] [] (F_5 a_) (fun z => .int .i64 z) (fun z => []) := fun Q Q' h hQ => by
 refine acallM mc_5 [] [] [.t 2] Tryz.func62 fun M => ?_
 unfold F_5 at h
 unfold mc_5
 replace h := tY h
 refine tB ?_
 repeat' (first
 | (exact tZ)
 | ((first | refine oblg h ?_ | refine roomG h ?_ | refine fork h ?_ ?_ | refine forkS h ?_ ?_) <;> clear h <;> intro hc h)
 | (obtain ⟨y, hy, h⟩ := h; (first | with_reducible first | have hw := Wq_b.w hy | have hw := Wq_1q.w hy); replace hw := tY hw; (first | refine M.sC hw ?_ | refine M.sD hw ?_); clear hw hy; refine tB ?_)
 | (refine M.gv1 (ms := mg_4n) 31 [28,29,30] h ?_ ?_ <;> first
 | (clear h; intro K hK1; unfold mg_4n; refine tB ?_)
 | (clear h; intro b h; replace h := tY h; refine tB ?_))
 | (refine M.for1 (b := mc_2i) 19 [1,17,18] [1] (fun x => [(3, .int .i64 x)]) (fun x => []) [] h ?_ ?_ ?_ <;> first
 | (clear h; intro k a x Qn K hK2 hkN2 ha2 h hf; have hl := fact_int (factsE_find (n := 18) hf.1 rfl); clear hf; have hkd := kD hkN2; have hkB2 := kB hkN2; have hkI2 := kI (k := k) (by omega); unfold F_2i at h; unfold mc_2i; replace h := tY h; refine tK ha2 hkd hkN2 hkB2 hkI2 ?_)
  |(clear h; intro x K h; replace h := And.left (And.intro h trivial); unfold mc_2i; replace h := tY h; refine tB ?_)
  |(clear h; (try refine tB ?_); exact tU0; done))
 | (refine M.gv1 (ms := mg_4m) 15 [11,12,13,14] h ?_ ?_ <;> first
 | (clear h; intro K hK3; unfold mg_4m; refine tB ?_)
 | (clear h; intro b h; replace h := tY h; refine tB ?_))
 | (simp only [ha2])
 | ((first | refine hK1 _ ?_ | refine hK3 _ ?_); exact tU; done)
 | (refine hK2 _ ?_; (try refine tB ?_); refine ⟨_, h, ?_⟩; exact tU0; done)
 | (refine bfork (fun hc => ?_) (fun hc => ?_))
 | (refine tE ?_; (first | rw [M.lok_compU] | rw [M.lokD_compU]); refine tB ?_)
 | (refine tA ?_))
def F_10 (d_ : GDirectory) (a_ : GEstate) : Option Int :=
 (F_f d_).bind fun y4 => bif (!decide (y4 = 0)) then some y4 else (F_5 a_).bind fun y6 => some y6
def mc_10 : MC :=
 (sR [mo (.box (.t 0)) 2,
 mo (.box (.t 1)) 3,
 oC 0 4]
 (.seq (sR [mo (.ld (some 2) (.t 2)) 6,
 mo (.call (.f 79) [(.t 6)] [] []) 7,
 oV 7 5]
 (sR [oV 5 8,
 mo (.bin false .neq (.t 8) (cI 0)) 9]
 (.cond (.t 9)
 (sR [oV 5 10,
 oV 10 4]
 .ret)
 .skip)))
 (.seq (.note (.gc [3]) (.reg [mo (.ld (some 2) (.t 3)) 11,
 mo (.call (.f 62) [(.t 11)] [] []) 12,
 oV 12 4]))
 .ret)))
theorem Wq_10 {d_ : GDirectory} {a_ : GEstate} : Cn Tryz.prog 50 [GDirectory.v d_, GEstate.v a_] [] (F_10 d_ a_) (fun z => .int .i64 z) (fun z => []) := fun Q Q' h hQ => by
 refine acallM mc_10 [] [] [.t 4] Tryz.func50 fun M => ?_
 unfold F_10 at h
 unfold mc_10
 replace h := tY h
 refine tB ?_
 repeat' (first
 | (exact tZ)
 | ((first | refine oblg h ?_ | refine roomG h ?_ | refine fork h ?_ ?_ | refine forkS h ?_ ?_) <;> clear h <;> intro hc h)
 | (obtain ⟨y, hy, h⟩ := h; (first | with_reducible first | have hw := Wq_f.w hy | have hw := Wq_5.w hy); replace hw := tY hw; (first | refine M.sC hw ?_ | refine M.sD hw ?_); clear hw hy; refine tB ?_)
 | (refine tE ?_; (first | rw [M.lok_compU] | rw [M.lokD_compU]); refine tB ?_)
 | (refine tA ?_))
def F_1r (d_ : GDirectory) (p_ : Int) : Option Bool :=
 grp ((decide (0 ≤ p_) && decide (p_ < (d_.Kinds.length : Int)))) fun b3 => jn (α := Bool) (bif b3 then chk (inb p_ d_.Kinds.length) (some (!decide ((d_.Kinds.getD (p_).toNat default) = 2))) else some false) fun j4 => some j4
@[irreducible] def mg_4o : List MOp := [gT 7 8 (.mv (.t 1)),
 gT 7 9 (.fad 0 (.t 2)),
 gT 7 10 (.ld none (.t 9)),
 gT 7 11 (.len false (.t 10)),
 gT 7 12 (.bin false .lss (.t 8) (.t 11)),
 mo (.pick (.t 7) (.t 12) (.c (.bool false))) 13]
@[irreducible] def mg_4p : List MOp := [gT 14 15 (.fad 0 (.t 2)),
 gT 14 16 (.ld none (.t 15)),
 gT 14 17 (.mv (.t 1)),
 gT 14 18 (.iad 1 (.t 16) (.t 17)),
 gT 14 19 (.ld none (.t 18)),
 gT 14 20 (.bin false .neq (.t 19) (cI 2)),
 mo (.pick (.t 14) (.t 20) (.c (.bool false))) 21]
def mc_1r : MC :=
 (sR [mo (.box (.t 0)) 2,
 mo (.mv (.c (.bool false))) 4]
 (.seq (.regI [.op (oV 1 5),
 .op (mo (.bin false .geq (.t 5) (cI 0)) 6),
 .op (oV 6 7),
 .grp mg_4o,
 .op (oV 13 14),
 .grp mg_4p,
 .op (oV 21 4)])
 .ret))
theorem Wq_1r {d_ : GDirectory} {p_ : Int} : Cn Tryz.prog 100 [GDirectory.v d_, .int .i64 p_] [] (F_1r d_ p_) (fun z => .bool z) (fun z => []) := fun Q Q' h hQ => by
 refine acallM mc_1r [] [] [.t 4] Tryz.func100 fun M => ?_
 unfold F_1r at h
 unfold mc_1r
 replace h := tY h
 refine tB ?_
 repeat' (first
 | (exact tZ)
 | ((first | refine oblg h ?_ | refine roomG h ?_ | refine fork h ?_ ?_ | refine forkS h ?_ ?_) <;> clear h <;> intro hc h)
 | (refine M.gj1 (ms := mg_4p) [4] [] (fun y => [(21, .bool y)]) (fun y => []) h ?_ ?_ <;> first
 | (clear h; intro Qn K hK1 h; unfold mg_4p; replace h := tY h; refine tB ?_)
  |(clear h; intro y h; replace h := tY h; refine tB ?_))
 | (refine M.gv1 (ms := mg_4o) 13 [8,9,10,11,12] h ?_ ?_ <;> first
 | (clear h; intro K hK2; unfold mg_4o; refine tB ?_)
 | (clear h; intro b h; replace h := tY h; refine tB ?_))
 | (refine hK1 _ ?_; (try refine tB ?_); refine ⟨_, h, ?_⟩; exact tU0; done)
 | (refine hK2 _ ?_; exact tU; done)
 | (refine bfork (fun hc => ?_) (fun hc => ?_))
 | (refine tE ?_; (first | rw [M.lok_compU] | rw [M.lokD_compU]); refine tB ?_)
 | (refine tA ?_))
def F_11 (d_ : GDirectory) (a_ : GEstate) (p_ : Int) (place_ : Int) : Option Bool :=
 (F_10 d_ a_).bind fun y6 => jn (α := Bool) (bif decide (y6 = 0) then (F_1r d_ p_).bind fun y8 => some y8 else some false) fun j9 => jn (α := Bool) (bif j9 then (F_7 a_ place_).bind fun y11 => some y11 else some false) fun j12 => some j12
@[irreducible] def mg_4q : List MOp := [gT 13 14 (.ld (some 2) (.t 4)),
 gT 13 15 (.mv (.t 2)),
 gT 13 16 (.call (.f 100) [(.t 14),(.t 15)] [] []),
 mo (.pick (.t 13) (.t 16) (.c (.bool false))) 17]
@[irreducible] def mg_4r : List MOp := [gT 18 19 (.ld (some 2) (.t 5)),
 gT 18 20 (.mv (.t 3)),
 gT 18 21 (.call (.f 63) [(.t 19),(.t 20)] [] []),
 mo (.pick (.t 18) (.t 21) (.c (.bool false))) 22]
def mc_11 : MC :=
 (sR [mo (.box (.t 0)) 4,
 mo (.box (.t 1)) 5,
 mo (.mv (.c (.bool false))) 8]
 (.seq (.regI [.op (mo (.ld (some 2) (.t 4)) 9),
 .op (mo (.ld (some 2) (.t 5)) 10),
 .op (mo (.call (.f 50) [(.t 9),(.t 10)] [] []) 11),
 .op (mo (.bin false .eql (.t 11) (cI 0)) 12),
 .op (oV 12 13),
 .grp mg_4q,
 .op (oV 17 18),
 .grp mg_4r,
 .op (oV 22 8)])
 .ret))
theorem Wq_11 {d_ : GDirectory} {a_ : GEstate} {p_ place_ : Int} : Cn Tryz.prog 72 [GDirectory.v d_, GEstate.v a_, .int .i64 p_, .int .i64 place_] [] (F_11 d_ a_ p_ place_) (fun z => .bool z) (fun z => []) := fun Q Q' h hQ => by
 refine acallM mc_11 [] [] [.t 8] Tryz.func72 fun M => ?_
 unfold F_11 at h
 unfold mc_11
 replace h := tY h
 refine tB ?_
 repeat' (first
 | (exact tZ)
 | ((first | refine oblg h ?_ | refine roomG h ?_ | refine fork h ?_ ?_ | refine forkS h ?_ ?_) <;> clear h <;> intro hc h)
 | (obtain ⟨y, hy, h⟩ := h; (first | with_reducible first | have hw := Wq_10.w hy | have hw := Wq_1r.w hy | have hw := Wq_7.w hy); replace hw := tY hw; (first | refine M.sC hw ?_ | refine M.sD hw ?_); clear hw hy; refine tB ?_)
 | (refine M.gj1 (ms := mg_4r) [8] [] (fun y => [(22, .bool y)]) (fun y => []) h ?_ ?_ <;> first
 | (clear h; intro Qn K hK1 h; unfold mg_4r; replace h := tY h; refine tB ?_)
  |(clear h; intro y h; replace h := tY h; refine tB ?_))
 | (refine M.gj1 (ms := mg_4q) [3,5,8] [5] (fun y => [(17, .bool y)]) (fun y => []) h ?_ ?_ <;> first
 | (clear h; intro Qn K hK2 h; unfold mg_4q; replace h := tY h; refine tB ?_)
  |(clear h; intro y h; replace h := tY h; refine tB ?_))
 | ((first | refine hK1 _ ?_ | refine hK2 _ ?_); (try refine tB ?_); refine ⟨_, h, ?_⟩; exact tU0; done)
 | (refine tE ?_; (first | rw [M.lok_compU] | rw [M.lokD_compU]); refine tB ?_)
 | (refine tA ?_))
def F_1 (a_ : GEstate) (place_ : Int) : Option Bool :=
 (F_5 a_).bind fun y4 => jn (α := Bool) (bif decide (y4 = 0) then (F_7 a_ place_).bind fun y6 => some y6 else some false) fun j7 => some j7
@[irreducible] def mg_4s : List MOp := [gT 8 9 (.ld (some 2) (.t 2)),
 gT 8 10 (.mv (.t 1)),
 gT 8 11 (.call (.f 63) [(.t 9),(.t 10)] [] []),
 mo (.pick (.t 8) (.t 11) (.c (.bool false))) 12]
def mc_1 : MC :=
 (sR [mo (.box (.t 0)) 2,
 mo (.mv (.c (.bool false))) 4]
 (.seq (.regI [.op (mo (.ld (some 2) (.t 2)) 5),
 .op (mo (.call (.f 62) [(.t 5)] [] []) 6),
 .op (mo (.bin false .eql (.t 6) (cI 0)) 7),
 .op (oV 7 8),
 .grp mg_4s,
 .op (oV 12 4)])
 .ret))
theorem Wq_1 {a_ : GEstate} {place_ : Int} : Cn Tryz.prog 68 [GEstate.v a_, .int .i64 place_] [] (F_1 a_ place_) (fun z => .bool z) (fun z => []) := fun Q Q' h hQ => by
 refine acallM mc_1 [] [] [.t 4] Tryz.func68 fun M => ?_
 unfold F_1 at h
 unfold mc_1
 replace h := tY h
 refine tB ?_
 repeat' (first
 | (exact tZ)
 | ((first | refine oblg h ?_ | refine roomG h ?_ | refine fork h ?_ ?_ | refine forkS h ?_ ?_) <;> clear h <;> intro hc h)
 | (obtain ⟨y, hy, h⟩ := h; (first | with_reducible first | have hw := Wq_5.w hy | have hw := Wq_7.w hy); replace hw := tY hw; (first | refine M.sC hw ?_ | refine M.sD hw ?_); clear hw hy; refine tB ?_)
 | (refine M.gj1 (ms := mg_4s) [4] [] (fun y => [(12, .bool y)]) (fun y => []) h ?_ ?_ <;> first
 | (clear h; intro Qn K hK1 h; unfold mg_4s; replace h := tY h; refine tB ?_)
  |(clear h; intro y h; replace h := tY h; refine tB ?_))
 | (refine hK1 _ ?_; (try refine tB ?_); refine ⟨_, h, ?_⟩; exact tU0; done)
 | (refine tE ?_; (first | rw [M.lok_compU] | rw [M.lokD_compU]); refine tB ?_)
 | (refine tA ?_))
def F_47 (place_ : Int) (t_ : Int) (k24 : Int) (a19 : Int × GAccess) (x18 : Unit) : Option (Fl Unit (Int × Bool)) :=
 grp ((decide (t_ < a19.2.Time) || (!decide (a19.2.Place = place_)))) fun b26 => bif b26 then some (.nx ()) else bif decide (a19.2.Kind = 4) then some (.ex (0, false)) else grp ((decide (a19.2.Kind = 3) && decide (t_ < a19.2.Until))) fun b28 => bif b28 then some (.ex (a19.1, true)) else some (.nx ())
def F_8 (a_ : GEstate) (place_ : Int) (t_ : Int) : Option (Int × Bool) :=
 (F_1 a_ place_).bind fun y4 => bif (!y4) then some (0, false) else (backF a_.Events).bind fun y17 => (forL (F_47 place_ t_) (revp a_.Events) 0 ()).bind fun o => o.elim (fun x29 => some (0, false)) (fun r30 => some r30)
@[irreducible] def mg_4t : List MOp := [gF 24 25 (.fad 2 (.t 9)),
 gF 24 26 (.ld none (.t 25)),
 gF 24 27 (.ld none (.t 4)),
 gF 24 28 (.bin false .neq (.t 26) (.t 27)),
 mo (.pick (.t 24) (.c (.bool true)) (.t 28)) 29]
@[irreducible] def mg_4u : List MOp := [gT 38 39 (.fad 4 (.t 9)),
 gT 38 40 (.ld none (.t 39)),
 gT 38 41 (.ld none (.t 5)),
 gT 38 42 (.bin false .gtr (.t 40) (.t 41)),
 mo (.pick (.t 38) (.t 42) (.c (.bool false))) 43]
@[irreducible] def mc_4v : MC :=
 (.block 1
 (.block 2
 (.seq (.note (.gc [4,5,6,7,8,9,25,26,27,28,39,40,41,42]) (.regI [.op (oF 0 9 20),
 .op (oL 20 21),
 .op (oL 5 22),
 .op (mo (.bin false .gtr (.t 21) (.t 22)) 23),
 .op (oV 23 24),
 .grp mg_4t,
 .op (oV 29 19)]))
 (.cond (.t 19)
 .skip
 (.seq (.note (.gc [5,6,7,8,9,39,40,41,42]) (.reg [oF 1 9 31,
 oL 31 32,
 mo (.bin false .eql (.t 32) (cI 4)) 33,
 oV 33 30]))
 (.cond (.t 30)
 (sR [⟨.st 1 (.t 6) (cI 0), none, none⟩,
 ⟨.st 1 (.t 7) (.c (.bool false)), none, none⟩]
 .ret)
 (.seq (.regI [.op (oF 1 9 35),
 .op (oL 35 36),
 .op (mo (.bin false .eql (.t 36) (cI 3)) 37),
 .op (oV 37 38),
 .grp mg_4u,
 .op (oV 43 34)])
 (.cond (.t 34)
 (.seq (.note (.gc [6,7,8]) (.reg [oV 8 44,
 ⟨.st 1 (.t 6) (.t 44), none, none⟩,
 ⟨.st 1 (.t 7) (.c (.bool true)), none, none⟩]))
 .ret)
 .skip))))))))
def mc_8 : MC :=
 (sR [mo (.box (.t 0)) 3,
 mo (.box (.t 1)) 4,
 mo (.box (.t 2)) 5,
 mo (.alloc [(.int .i64 0)]) 6,
 mo (.alloc [(.bool false)]) 7]
 (.seq (sR [mo (.ld (some 2) (.t 3)) 10,
 oL 4 11,
 mo (.call (.f 68) [(.t 10),(.t 11)] [] []) 12,
 mo (.not (.t 12)) 13]
 (.cond (.t 13)
 (sR [⟨.st 1 (.t 6) (cI 0), none, none⟩,
 ⟨.st 1 (.t 7) (.c (.bool false)), none, none⟩]
 .ret)
 .skip))
 (.seq (sR [oF 1 3 14,
 oL 14 15,
 mo (.call (.f 69) [(.t 15)] [] []) 16]
 (.block 0
 (.rngF (.t 16) [17,18] (sR [oV 17 8]
 (.reg [mo (.alloc [(.int .i64 0),(.int .i64 0),(.int .i64 0),(.int .i64 0),(.int .i64 0),(.int .i64 0),(.int .i64 0)]) 9,
 ⟨.st 7 (.t 9) (.t 18), none, none⟩])) mc_4v)))
 (sR [⟨.st 1 (.t 6) (cI 0), none, none⟩,
 ⟨.st 1 (.t 7) (.c (.bool false)), none, none⟩]
 .ret))))
theorem Wq_8 {a_ : GEstate} {place_ t_ : Int} : Cn Tryz.prog 43 [GEstate.v a_, .int .i64 place_, .int .i64 t_] [] (F_8 a_ place_ t_) (fun z => .tup [.int .i64 z.1, .bool z.2]) (fun z => []) := fun Q Q' h hQ => by
 refine acallM mc_8 [] [] [.c 6 none, .c 7 none] Tryz.func43 fun M => ?_
 unfold F_8 at h
 unfold mc_8
 replace h := tY h
 refine tB ?_
 repeat' (first
 | (exact tZ)
 | ((first | refine oblg h ?_ | refine roomG h ?_ | refine fork h ?_ ?_ | refine forkS h ?_ ?_) <;> clear h <;> intro hc h)
 | (obtain ⟨y, hy, h⟩ := h; (first | (with_reducible first | have hw := Wq_1.w hy) | have hw := W_7v (f := GAccess.v) hy); replace hw := tY hw; (first | refine M.sC hw ?_ | refine M.sD hw ?_); clear hw hy; refine tB ?_)
 | (refine M.gv1 (ms := mg_4u) 43 [39,40,41,42] h ?_ ?_ <;> first
 | (clear h; intro K hK1; unfold mg_4u; refine tB ?_)
 | (clear h; intro b h; replace h := tY h; refine tB ?_))
 | (refine M.gv1 (ms := mg_4t) 29 [25,26,27,28] h ?_ ?_ <;> first
 | (clear h; intro K hK2; unfold mg_4t; refine tB ?_)
 | (clear h; intro b h; replace h := tY h; refine tB ?_))
 | (refine M.rfor (b := mc_4v) (enc := fun a => [.int .i64 a.1, GAccess.v a.2]) [3,4,5,6,7] [3,7,6,5,4] (fun x => []) [] h rfl (W_7w fun a => ⟨_, rfl, rfl, rfl⟩) rfl (fun a => ⟨rfl, rfl⟩) ?_ ?_ rfl ?_ <;> first
 | (clear h; intro k a x Qn K hK3 hkN3 h hf; clear hf; unfold F_47 at h; unfold mc_4v; replace h := tY h; refine tB ?_)
  |(clear h; intro x h; replace h := tY h; refine tB ?_)
  |(clear h; (try refine tB ?_); exact tU0; done))
 | ((first | refine hK1 _ ?_ | refine hK2 _ ?_); exact tU; done)
 | (refine hK3 _ ?_; (try refine tB ?_); refine ⟨_, h, ?_⟩; exact tU0; done)
 | (refine bfork (fun hc => ?_) (fun hc => ?_))
 | (refine tE ?_; (first | rw [M.lok_compU] | rw [M.lokD_compU]); refine tB ?_)
 | (refine tA ?_))
def F_1s (d_ : GDirectory) (p_ : Int) : Option Bool :=
 (F_f d_).bind fun y4 => jn (α := Bool) (bif decide (y4 = 0) then (F_a d_ p_).bind fun y6 => some y6 else some false) fun j7 => some j7
@[irreducible] def mg_4w : List MOp := [gT 8 9 (.ld (some 2) (.t 2)),
 gT 8 10 (.mv (.t 1)),
 gT 8 11 (.call (.f 101) [(.t 9),(.t 10)] [] []),
 mo (.pick (.t 8) (.t 11) (.c (.bool false))) 12]
def mc_1s : MC :=
 (sR [mo (.box (.t 0)) 2,
 mo (.mv (.c (.bool false))) 4]
 (.seq (.regI [.op (mo (.ld (some 2) (.t 2)) 5),
 .op (mo (.call (.f 79) [(.t 5)] [] []) 6),
 .op (mo (.bin false .eql (.t 6) (cI 0)) 7),
 .op (oV 7 8),
 .grp mg_4w,
 .op (oV 12 4)])
 .ret))
theorem Wq_1s {d_ : GDirectory} {p_ : Int} : Cn Tryz.prog 110 [GDirectory.v d_, .int .i64 p_] [] (F_1s d_ p_) (fun z => .bool z) (fun z => []) := fun Q Q' h hQ => by
 refine acallM mc_1s [] [] [.t 4] Tryz.func110 fun M => ?_
 unfold F_1s at h
 unfold mc_1s
 replace h := tY h
 refine tB ?_
 repeat' (first
 | (exact tZ)
 | ((first | refine oblg h ?_ | refine roomG h ?_ | refine fork h ?_ ?_ | refine forkS h ?_ ?_) <;> clear h <;> intro hc h)
 | (obtain ⟨y, hy, h⟩ := h; (first | with_reducible first | have hw := Wq_f.w hy | have hw := Wq_a.w hy); replace hw := tY hw; (first | refine M.sC hw ?_ | refine M.sD hw ?_); clear hw hy; refine tB ?_)
 | (refine M.gj1 (ms := mg_4w) [4] [] (fun y => [(12, .bool y)]) (fun y => []) h ?_ ?_ <;> first
 | (clear h; intro Qn K hK1 h; unfold mg_4w; replace h := tY h; refine tB ?_)
  |(clear h; intro y h; replace h := tY h; refine tB ?_))
 | (refine hK1 _ ?_; (try refine tB ?_); refine ⟨_, h, ?_⟩; exact tU0; done)
 | (refine tE ?_; (first | rw [M.lok_compU] | rw [M.lokD_compU]); refine tB ?_)
 | (refine tA ?_))
noncomputable def F_2j (k351 : Int) (a352 : Bool) (x350 : (List Int) × (List Bool)) : Option ((List Int) × (List Bool)) :=
 jn (α := Bool) (bif a352 then chk (inb k351 x350.2.length) (some (!(x350.2.getD ((k351).toNat) default))) else some false) fun j360 => bif j360 then chk (room (x350.1.length + [k351].length) 8) (chk (inb k351 x350.2.length) (some ((x350.1 ++ [k351]), x350.2.set ((k351).toNat) true))) else some (x350.1, x350.2)
noncomputable def F_3u (x_ : List (List Bool)) (x257 : (List Int) × (List Bool)) : Option (Fl ((List Int) × (List Bool)) (List Bool)) :=
 bif decide (0 < (x257.1.length : Int)) then chk (inb 0 x257.1.length) (chk (inb (x257.1.getD 0 default) x_.length) ((foldL F_2j (x_.getD (x257.1.getD 0 default).toNat default) 0 (x257.1, x257.2)).bind fun x361 => chk (inc 1 (x361.1.length : Int) x361.1.length) (some (.nx ((x361.1.drop 1).take (x361.1.length - 1), x361.2))))) else some (.ex x257.2)
noncomputable def F_1t (x_ : List (List Bool)) (p_ : Int) : Option (List Bool) :=
 chk (roomI (x_.length : Int) (x_.length : Int) 1) (chk (inb p_ (List.replicate ((x_.length : Int)).toNat false).length) ((loop (F_3u x_) ([p_], (List.replicate ((x_.length : Int)).toNat false).set ((p_).toNat) true)).bind fun r362 => some r362))
@[irreducible] def mg_4x : List MOp := [gT 35 36 (.mv (.t 5)),
 gT 35 37 (.mv (.t 7)),
 gT 35 38 (.iad 1 (.t 36) (.t 37)),
 gT 35 39 (.ld none (.t 38)),
 gT 35 40 (.not (.t 39)),
 mo (.pick (.t 35) (.t 40) (.c (.bool false))) 41]
@[irreducible] def mc_2j : MC :=
 (sR [mo (.bin false .lss (.t 29) (.t 28)) 30]
 (.seq (.cond (.t 30)
 .skip
 (.exit 2))
 (.seq (.block 3
 (sR [oV 29 31,
 mo (.iad 1 (.t 27) (.t 29)) 32,
 oL 32 33,
 oV 31 7,
 oV 33 8]
 (.seq (.regI [.op (oV 8 34),
 .op (oV 34 35),
 .grp mg_4x])
 (.cond (.t 41)
 (.reg [oV 5 42,
 oV 7 43,
 oV 6 44,
 oV 7 45,
 mo (.bslice 1 [(.t 45)]) 46,
 mo (.app 1 8 (.t 44) (.t 46)) 47,
 mo (.iad 1 (.t 42) (.t 43)) 48,
 ⟨.st 1 (.t 48) (.c (.bool true)), none, none⟩,
 oV 47 6])
 .skip))))
 (.reg [mo (.bin true .add (.t 29) (cI 1)) 49,
 oV 49 29]))))
@[irreducible] def mc_3u : MC :=
 (.seq (sR [oV 6 17,
 mo (.len false (.t 17)) 18,
 mo (.bin false .gtr (.t 18) (cI 0)) 19]
 (.cond (.t 19)
 .skip
 (.exit 0)))
 (.seq (.block 1
 (sR [oV 0 22,
 oV 6 23,
 mo (.iad 1 (.t 23) (cI 0)) 24,
 oL 24 25,
 mo (.iad 1 (.t 22) (.t 25)) 26,
 oL 26 27,
 mo (.len false (.t 27)) 28,
 oC 0 29]
 (.block 2
 (.loop mc_2j))))
 (.reg [oV 6 20,
 mo (.slc 1 (.t 20) (some (cI 1)) none) 21,
 oV 21 6])))
def mc_1t : MC :=
 (sR [mo (.mv (.c (.sl []))) 4]
 (sR [oV 0 9,
 mo (.len false (.t 9)) 10,
 mo (.mksl 1 1 (.bool false) (.t 10) (.t 10)) 11,
 oV 11 5]
 (sR [oV 5 12,
 oV 1 13,
 mo (.iad 1 (.t 12) (.t 13)) 14,
 ⟨.st 1 (.t 14) (.c (.bool true)), none, none⟩]
 (.seq (sR [oV 1 15,
 mo (.bslice 1 [(.t 15)]) 16,
 oV 16 6]
 (.block 0
 (.loop mc_3u)))
 (sR [oV 5 50,
 oV 50 4]
 .ret)))))
theorem Wq_1t {x_ : List (List Bool)} {p_ : Int} : Cn Tryz.prog 112 [.sl (x_.map (slV V.bool)), .int .i64 p_] [] (F_1t x_ p_) (fun z => .sl (z.map V.bool)) (fun z => []) := fun Q Q' h hQ => by
 refine acallM mc_1t [.fz 4] [] [.t 4] Tryz.func112 fun M => ?_
 unfold F_1t at h
 unfold mc_1t
 replace h := tY h
 refine tB ?_
 repeat' (first
 | (exact tZ)
 | ((first | refine oblg h ?_ | refine roomG h ?_ | refine fork h ?_ ?_ | refine forkS h ?_ ?_) <;> clear h <;> intro hc h)
 | (refine M.gj1 (ms := mg_4x) [0,5,6,7,27,28,29] [2006,11] (fun y => [(41, .bool y)]) (fun y => []) h ?_ ?_ <;> first
 | (clear h; intro Qn K hK1 h; unfold mg_4x; replace h := tY h; refine tB ?_)
  |(clear h; intro y h; replace h := tY h; refine tB ?_))
 | (refine M.fold1 (b := mc_2j) 29 [0,27,28] [] (fun x => [(5, .osl 11 1 0 x.2.length), (6, .osl 2006 1 0 x.1.length)]) (fun x => [.o 2006 (.arr 1 (x.1.map (V.int .i64))), .o 11 (.arr 1 (x.2.map V.bool))]) [.gc [0,5,6,27,28,29], .acc 6 2006 1] h ?_ ?_ ?_ <;> first
 | (clear h; intro k a x Qn K hK2 hkN2 ha2 h hf; have hl := fact_int (factsE_find (n := 28) hf.1 rfl); clear hf; have hkd := kD hkN2; have hkB2 := kB hkN2; have hkI2 := kI (k := k) (by omega); unfold F_2j at h; unfold mc_2j; replace h := tY h; refine tK ha2 hkd hkN2 hkB2 hkI2 ?_)
  |(clear h; intro x K h; replace h := And.left (And.intro h trivial); unfold mc_2j; replace h := tY h; refine tB ?_)
  |(clear h; (try refine tB ?_); exact tU0; done))
 | (refine M.wh1 (b := mc_3u) [0] [] (fun x => [(5, .osl 11 1 0 x.2.length), (6, .osl 2006 1 0 x.1.length)]) (fun x => [.o 2006 (.arr 1 (x.1.map (V.int .i64))), .o 11 (.arr 1 (x.2.map V.bool))]) [.gc [0,5,6], .trim 6, .acc 6 2006 1] h ?_ ?_ <;> first
 | (clear h; intro x Qn K hK3 h; unfold F_3u at h; unfold mc_3u; replace h := tY h; refine tB ?_)
  |(clear h; (try refine tB ?_); exact tU0; done))
 | (simp only [ha2])
 | ((first | refine hK1 _ ?_ | refine hK2 _ ?_ | refine hK3 _ ?_); (try refine tB ?_); refine ⟨_, h, ?_⟩; exact tU0; done)
 | (refine tE ?_; (first | rw [M.lok_compU] | rw [M.lokD_compU]); refine tB ?_)
 | (refine ⟨_, getE_mapset (by first | exact inb_toNat (by assumption) | exact inb_nat (by assumption)), ?_⟩; (first | rw [M.lok_compU] | rw [M.lokD_compU] | (simp only [V.cells]; first | rw [M.lok_comp] | rw [M.lokD_comp])); refine tB ?_)
 | (refine tA ?_))
def F_2k (k16 : Int) (a17 : Bool) (x15 : List Int) : Option (List Int) :=
 bif a17 then chk (room (x15.length + [k16].length) 8) (some (x15 ++ [k16])) else some x15
def F_1g (l_ : List Bool) : Option (List Int) :=
 (foldL F_2k l_ 0 []).bind fun x18 => some x18
@[irreducible] def mc_2k : MC :=
 (sR [mo (.bin false .lss (.t 8) (.t 7)) 9]
 (.seq (.cond (.t 9)
 .skip
 (.exit 0))
 (.seq (.block 1
 (sR [oV 8 10,
 mo (.iad 1 (.t 6) (.t 8)) 11,
 oL 11 12,
 oV 10 4,
 oV 12 5]
 (sR [oV 5 13]
 (.cond (.t 13)
 (.reg [oV 3 14,
 oV 4 15,
 mo (.bslice 1 [(.t 15)]) 16,
 mo (.app 1 8 (.t 14) (.t 16)) 17,
 oV 17 3])
 .skip))))
 (.reg [mo (.bin true .add (.t 8) (cI 1)) 18,
 oV 18 8]))))
def mc_1g : MC :=
 (sR [mo (.mv (.c .nils)) 2]
 (sR [mo (.mv (.c .nils)) 3]
 (.seq (sR [oV 0 6,
 mo (.len false (.t 6)) 7,
 oC 0 8]
 (.block 0
 (.loop mc_2k)))
 (sR [oV 3 19,
 oV 19 2]
 .ret))))
theorem Wq_1g {l_ : List Bool} : Cn Tryz.prog 111 [.sl (l_.map V.bool)] [] (F_1g l_) (fun z => .osl 1900 1 0 z.length) (fun z => [(1900, .arr 1 (z.map (V.int .i64)))]) := fun Q Q' h hQ => by
 refine acallM mc_1g [.acc 2 1900 1] [1900] [.t 2] Tryz.func111 fun M => ?_
 unfold F_1g at h
 unfold mc_1g
 replace h := tY h
 refine tB ?_
 repeat' (first
 | (exact tZ)
 | ((first | refine oblg h ?_ | refine roomG h ?_ | refine fork h ?_ ?_ | refine forkS h ?_ ?_) <;> clear h <;> intro hc h)
 | (refine M.fold1 (b := mc_2k) 8 [6,7] [] (fun x => [(3, .osl 2003 1 0 x.length)]) (fun x => [.o 2003 (.arr 1 (x.map (V.int .i64)))]) [.gc [3,6,7,8], .acc 3 2003 1] h ?_ ?_ ?_ <;> first
 | (clear h; intro k a x Qn K hK1 hkN1 ha1 h hf; have hl := fact_int (factsE_find (n := 7) hf.1 rfl); clear hf; have hkd := kD hkN1; have hkB1 := kB hkN1; have hkI1 := kI (k := k) (by omega); unfold F_2k at h; unfold mc_2k; replace h := tY h; refine tK ha1 hkd hkN1 hkB1 hkI1 ?_)
  |(clear h; intro x K h; replace h := And.left (And.intro h trivial); unfold mc_2k; replace h := tY h; refine tB ?_)
  |(clear h; (try refine tB ?_); exact tU0; done))
 | (simp only [ha1])
 | (refine hK1 _ ?_; (try refine tB ?_); refine ⟨_, h, ?_⟩; exact tU0; done)
 | (refine tE ?_; (first | rw [M.lok_compU] | rw [M.lokD_compU]); refine tB ?_)
 | (refine tA ?_))
noncomputable def F_n (d_ : GDirectory) (p_ : Int) (t_ : Int) : Option (List Int) :=
 (F_1s d_ p_).bind fun y4 => bif (!y4) then some [] else (atF d_.Kinds.length (d_.Events.map fun e => (e.Time, e.Kind, e.Principal, e.Group)) t_).bind fun y8 => (F_1t y8 p_).bind fun y9 => (F_1g y9).bind fun y10 => some y10
def mc_n : MC :=
 (sR [mo (.box (.t 0)) 3,
 mo (.mv (.c .nils)) 6]
 (.seq (sR [mo (.ld (some 2) (.t 3)) 7,
 oV 1 8,
 mo (.call (.f 110) [(.t 7),(.t 8)] [] []) 9,
 mo (.not (.t 9)) 10]
 (.cond (.t 10)
 (sR [mo (.mv (.c .nils)) 6]
 .ret)
 .skip))
 (sR [mo (.ld (some 2) (.t 3)) 11,
 oV 2 12,
 mo (.call (.f 95) [(.t 11),(.t 12)] [] []) 13,
 oV 1 14,
 mo (.call (.f 112) [(.t 13),(.t 14)] [] []) 15,
 mo (.call (.f 111) [(.t 15)] [] [16]) 16,
 oV 16 6]
 .ret)))
theorem Wq_n {d_ : GDirectory} {p_ t_ : Int} : Cn Tryz.prog 90 [GDirectory.v d_, .int .i64 p_, .int .i64 t_] [] (F_n d_ p_ t_) (fun z => .osl 1900 1 0 z.length) (fun z => [(1900, .arr 1 (z.map (V.int .i64)))]) := fun Q Q' h hQ => by
 refine acallM mc_n [.acc 6 1900 1] [1900] [.t 6] Tryz.func90 fun M => ?_
 unfold F_n at h
 unfold mc_n
 replace h := tY h
 refine tB ?_
 repeat' (first
 | (exact tZ)
 | ((first | refine oblg h ?_ | refine roomG h ?_ | refine fork h ?_ ?_ | refine forkS h ?_ ?_) <;> clear h <;> intro hc h)
 | (obtain ⟨y, hy, h⟩ := h; (first | (with_reducible first | have hw := Wq_1s.w hy | have hw := Wq_1t.w hy) | have hw := W_at (f := GMember.v) (e4 := fun e => (e.Time, e.Kind, e.Principal, e.Group)) (fun _ => rfl) hy | have hw := acall_swe 1900 16 (Wq_1g.w hy)); replace hw := tY hw; (first | refine M.sC hw ?_ | refine M.sD hw ?_); clear hw hy; refine tB ?_)
 | (refine tE ?_; (first | rw [M.lok_compU] | rw [M.lokD_compU]); refine tB ?_)
 | (refine tA ?_))
def F_2l (place_ : Int) (t_ : Int) (k44 : Int) (a45 : GAccess) (x43 : List (Int × Int)) : Option (List (Int × Int)) :=
 grp ((decide (t_ < a45.Time) || (!decide (a45.Place = place_)))) fun b53 => bif b53 then some x43 else bif decide (a45.Kind = 1) then some (aput a45.Principal k44 x43) else bif decide (a45.Kind = 2) then some (adel a45.Principal x43) else some x43
def F_12 (a_ : GEstate) (place_ : Int) (t_ : Int) : Option (List (Int × Int)) :=
 (foldL (F_2l place_ t_) a_.Events 0 []).bind fun x54 => some x54
@[irreducible] def mg_4y : List MOp := [gF 24 25 (.fad 2 (.t 9)),
 gF 24 26 (.ld none (.t 25)),
 gF 24 27 (.mv (.t 1)),
 gF 24 28 (.bin false .neq (.t 26) (.t 27)),
 mo (.pick (.t 24) (.c (.bool true)) (.t 28)) 29]
@[irreducible] def mc_2l : MC :=
 (sR [mo (.bin false .lss (.t 14) (.t 13)) 15]
 (.seq (.cond (.t 15)
 .skip
 (.exit 0))
 (.seq (.block 1
 (sR [oV 14 16,
 mo (.iad 7 (.t 12) (.t 14)) 17,
 mo (.ld (some 7) (.t 17)) 18,
 mo (.alloc [(.int .i64 0),(.int .i64 0),(.int .i64 0),(.int .i64 0),(.int .i64 0),(.int .i64 0),(.int .i64 0)]) 9,
 oV 16 8,
 ⟨.st 7 (.t 9) (.t 18), none, none⟩]
 (.block 2
 (.seq (.regI [.op (oF 0 9 20),
 .op (oL 20 21),
 .op (oV 2 22),
 .op (mo (.bin false .gtr (.t 21) (.t 22)) 23),
 .op (oV 23 24),
 .grp mg_4y,
 .op (oV 29 19)])
 (.cond (.t 19)
 .skip
 (.seq (.note (.gc [1,2,7,8,9,12,13,14,25,26,27,28]) (.reg [oF 1 9 31,
 oL 31 32,
 mo (.bin false .eql (.t 32) (cI 1)) 33,
 oV 33 30]))
 (.cond (.t 30)
 (.reg [oV 7 34,
 oF 3 9 35,
 oL 35 36,
 oV 8 37,
 ⟨.mp (.up (.int .i64)) [(.t 34),(.t 36),(.t 37)], none, none⟩])
 (sR [oF 1 9 39,
 oL 39 40,
 mo (.bin false .eql (.t 40) (cI 2)) 41,
 oV 41 38]
 (.cond (.t 38)
 (.note (.gc [1,2,7,9,12,13,14,25,26,27,28]) (.reg [oV 7 42,
 oF 3 9 43,
 oL 43 44,
 ⟨.mp (.del (.int .i64)) [(.t 42),(.t 44)], none, none⟩]))
 .skip)))))))))
 (.reg [mo (.bin true .add (.t 14) (cI 1)) 45,
 oV 45 14]))))
def mc_12 : MC :=
 (sR [mo (.box (.t 0)) 3,
 mo (.mv (.c .nilm)) 6]
 (sR [mo (.mp (.mk (.int .i64)) []) 10,
 oV 10 7]
 (.seq (sR [oF 1 3 11,
 oL 11 12,
 mo (.len false (.t 12)) 13,
 oC 0 14]
 (.block 0
 (.loop mc_2l)))
 (sR [oV 7 46,
 oV 46 6]
 .ret))))
theorem Wq_12 {a_ : GEstate} {place_ t_ : Int} : Cn Tryz.prog 93 [GEstate.v a_, .int .i64 place_, .int .i64 t_] [] (F_12 a_ place_ t_) (fun z => (mpV (.int .i64) (V.int .i64) (V.int .i64)) z) (fun z => []) := fun Q Q' h hQ => by
 refine acallM mc_12 [.fz 6] [] [.t 6] Tryz.func93 fun M => ?_
 unfold F_12 at h
 unfold mc_12
 replace h := tY h
 refine tB ?_
 repeat' (first
 | (exact tZ)
 | ((first | refine oblg h ?_ | refine roomG h ?_ | refine fork h ?_ ?_ | refine forkS h ?_ ?_) <;> clear h <;> intro hc h)
 | (refine M.gv1 (ms := mg_4y) 29 [25,26,27,28] h ?_ ?_ <;> first
 | (clear h; intro K hK1; unfold mg_4y; refine tB ?_)
 | (clear h; intro b h; replace h := tY h; refine tB ?_))
 | (refine M.fold1 (b := mc_2l) 14 [1,2,7,12,13] [] (fun x => []) (fun x => [.o 10 (.map (.int .i64) (x.map (kvV (V.int .i64) (V.int .i64))))]) [] h ?_ ?_ ?_ <;> first
 | (clear h; intro k a x Qn K hK2 hkN2 ha2 h hf; have hl := fact_int (factsE_find (n := 13) hf.1 rfl); clear hf; have hkd := kD hkN2; have hkB2 := kB hkN2; have hkI2 := kI (k := k) (by omega); unfold F_2l at h; unfold mc_2l; replace h := tY h; refine tK ha2 hkd hkN2 hkB2 hkI2 ?_)
  |(clear h; intro x K h; replace h := And.left (And.intro h trivial); unfold mc_2l; replace h := tY h; refine tB ?_)
  |(clear h; (try refine tB ?_); exact tU0; done))
 | (simp only [ha2])
 | (refine hK1 _ ?_; exact tU; done)
 | (refine hK2 _ ?_; (try refine tB ?_); refine ⟨_, h, ?_⟩; exact tU0; done)
 | (refine bfork (fun hc => ?_) (fun hc => ?_))
 | (refine tE ?_; (first | rw [M.lok_compU] | rw [M.lokD_compU]); refine tB ?_)
 | (refine tA ?_))
noncomputable def F_3v (k21 : Int) (a19 : Int × Int) (x18 : List Int) : Option (List Int) :=
 chk (room (x18.length + [a19.1].length) 8) (some (x18 ++ [a19.1]))
noncomputable def F_o (a_ : GEstate) (place_ : Int) (t_ : Int) : Option (List Int) :=
 (F_1 a_ place_).bind fun y4 => bif (!y4) then some [] else (F_12 a_ place_ t_).bind fun y15 => permL (fun l20 => (foldL F_3v l20 0 []).bind fun x22 => (sortI x22).bind fun y24 => some y24) y15
@[irreducible] def mc_3v : MC :=
 (sR [mo (.mp .nxt [(.t 17)]) 18,
 mo (.ext 0 (.t 18)) 19]
 (.seq (.cond (.t 19)
 .skip
 (.exit 0))
 (.block 1
 (sR [mo (.mp .ent [(.t 17)]) 20,
 mo (.ext 0 (.t 20)) 21,
 oV 21 8]
 (.reg [oV 7 22,
 oV 8 23,
 mo (.bslice 1 [(.t 23)]) 24,
 mo (.app 1 8 (.t 22) (.t 24)) 25,
 oV 25 7])))))
def mc_o : MC :=
 (sR [mo (.box (.t 0)) 3,
 mo (.mv (.c (.sl []))) 6]
 (.seq (sR [mo (.ld (some 2) (.t 3)) 9,
 oV 1 10,
 mo (.call (.f 68) [(.t 9),(.t 10)] [] []) 11,
 mo (.not (.t 11)) 12]
 (.cond (.t 12)
 (sR [mo (.mv (.c (.sl []))) 6]
 .ret)
 .skip))
 (sR [mo (.mv (.c .nils)) 7]
 (.seq (sR [mo (.ld (some 2) (.t 3)) 13,
 oV 1 14,
 oV 2 15,
 mo (.call (.f 93) [(.t 13),(.t 14),(.t 15)] [] []) 16,
 mo (.mp .rng [(.t 16)]) 17]
 (.block 0
 (.loop mc_3v)))
 (sR [oV 7 26,
 mo (.call (.f 82) [(.t 26)] [2007] []) 27]
 (sR [oV 7 28,
 oV 28 6]
 .ret))))))
theorem Wq_o {a_ : GEstate} {place_ t_ : Int} : Cn Tryz.prog 91 [GEstate.v a_, .int .i64 place_, .int .i64 t_] [] (F_o a_ place_ t_) (fun z => .sl (z.map (V.int .i64))) (fun z => []) := fun Q Q' h hQ => by
 refine acallM mc_o [.fz 6] [] [.t 6] Tryz.func91 fun M => ?_
 unfold F_o at h
 unfold mc_o
 replace h := tY h
 refine tB ?_
 repeat' (first
 | (exact tZ)
 | (refine And.intro (by refine ⟨?_, ?_, ?_, ?_⟩ <;> omega) ?_; first | exact hQ _ h | (rw [List.take_of_length_le (by omega)]; exact hQ _ h))
 | (have hq := hQ _ h; simp only [List.length_take, Nat.min_eq_left hlen.1] at hq; exact hq)
 | ((first | refine oblg h ?_ | refine roomG h ?_ | refine fork h ?_ ?_ | refine forkS h ?_ ?_) <;> clear h <;> intro hc h)
 | (obtain ⟨y, hy, h⟩ := h; (first | (with_reducible first | have hw := Wq_1.w hy | have hw := Wq_12.w hy) | (have hw := acall_swe 1000 2007 (W_7p hy); replace hw := tY hw; (try simp only [hlen] at hw); have hlen := sortI_len hy)); replace hw := tY hw; (first | refine M.sC hw ?_ | refine M.sD hw ?_); clear hw hy; refine tB ?_)
 | (refine M.mfold1 (b := mc_3v) (kv := (kvV (V.int .i64) (V.int .i64))) 17 [17] [] (fun x => [(7, .osl 2007 1 0 x.length)]) (fun x => [.o 2007 (.arr 1 (x.map (V.int .i64)))]) [.gc [7,17], .acc 7 2007 1] h ?_ ?_ <;> first
 | (clear h; intro rem cur x k Qn K hK1 hs1 hn1; unfold F_3v at hn1; unfold mc_3v; refine tB ?_)
 | (clear h; (try refine tB ?_); exact tU0; done))
 | (refine nxt_of hs1 hn1 ?_ ?_ <;> first
  |(intro h; rw [M.lok_eq]; replace h := tY h; refine tB ?_)
  |(intro i a h; rw [M.lok_eq]; replace h := tY h; refine tB ?_))
 | (apply hK1; (try refine tB ?_); refine ⟨_, h, ?_⟩; exact tU0; done)
 | (refine tE ?_; (first | rw [M.lok_compU] | rw [M.lokD_compU]); refine tB ?_)
 | (refine tA ?_))
def F_2m (v_ : Int) (k11 : Int) (a12 : Int) (x10 : Unit) : Option (Fl Unit Int) :=
 bif decide (v_ = a12) then some (.ex k11) else some (.nx ())
def F_37 (s_ : List Int) (v_ : Int) : Option Int :=
 (forL (F_2m v_) s_ 0 ()).bind fun o => o.elim (fun x13 => some (-1)) (fun r14 => some r14)
@[irreducible] def mc_2m : MC :=
 (sR [mo (.bin false .lss (.t 8) (.t 7)) 9]
 (.seq (.cond (.t 9)
 .skip
 (.exit 0))
 (.seq (.block 1
 (sR [oV 8 10,
 oV 10 5]
 (sR [oV 1 11,
 oV 0 12,
 oV 5 13,
 mo (.iad 1 (.t 12) (.t 13)) 14,
 oL 14 15,
 mo (.bin false .eql (.t 11) (.t 15)) 16]
 (.cond (.t 16)
 (sR [oV 5 17,
 oV 17 4]
 .ret)
 .skip))))
 (.reg [mo (.bin true .add (.t 8) (cI 1)) 18,
 oV 18 8]))))
def mc_37 : MC :=
 (sR [oC 0 4]
 (.seq (sR [oV 0 6,
 mo (.len false (.t 6)) 7,
 oC 0 8]
 (.block 0
 (.loop mc_2m)))
 (sR [oC (-1) 4]
 .ret)))
theorem Wq_37 {s_ : List Int} {v_ : Int} : Cn Tryz.prog 113 [.sl (s_.map (V.int .i64)), .int .i64 v_] [] (F_37 s_ v_) (fun z => .int .i64 z) (fun z => []) := fun Q Q' h hQ => by
 refine acallM mc_37 [] [] [.t 4] Tryz.func113 fun M => ?_
 unfold F_37 at h
 unfold mc_37
 replace h := tY h
 refine tB ?_
 repeat' (first
 | (exact tZ)
 | ((first | refine oblg h ?_ | refine roomG h ?_ | refine fork h ?_ ?_ | refine forkS h ?_ ?_) <;> clear h <;> intro hc h)
 | (refine M.for1 (b := mc_2m) 8 [0,1,7] [] (fun x => []) (fun x => []) [] h ?_ ?_ ?_ <;> first
 | (clear h; intro k a x Qn K hK1 hkN1 ha1 h hf; have hl := fact_int (factsE_find (n := 7) hf.1 rfl); clear hf; have hkd := kD hkN1; have hkB1 := kB hkN1; have hkI1 := kI (k := k) (by omega); unfold F_2m at h; unfold mc_2m; replace h := tY h; refine tK ha1 hkd hkN1 hkB1 hkI1 ?_)
  |(clear h; intro x K h; replace h := And.left (And.intro h trivial); unfold mc_2m; replace h := tY h; refine tB ?_)
  |(clear h; (try refine tB ?_); exact tU0; done))
 | (simp only [ha1])
 | (refine hK1 _ ?_; (try refine tB ?_); refine ⟨_, h, ?_⟩; exact tU0; done)
 | (refine tE ?_; (first | rw [M.lok_compU] | rw [M.lokD_compU]); refine tB ?_)
 | (refine tA ?_))
def F_p (s_ : List Int) (v_ : Int) : Option Bool :=
 (F_37 s_ v_).bind fun y2 => some (decide (0 ≤ y2))
def mc_p : MC :=
 (sR [mo (.mv (.c (.bool false))) 4]
 (sR [oV 0 5,
 oV 1 6,
 mo (.call (.f 113) [(.t 5),(.t 6)] [] []) 7,
 mo (.bin false .geq (.t 7) (cI 0)) 8,
 oV 8 4]
 .ret))
theorem Wq_p {s_ : List Int} {v_ : Int} : Cn Tryz.prog 92 [.sl (s_.map (V.int .i64)), .int .i64 v_] [] (F_p s_ v_) (fun z => .bool z) (fun z => []) := fun Q Q' h hQ => by
 refine acallM mc_p [] [] [.t 4] Tryz.func92 fun M => ?_
 unfold F_p at h
 unfold mc_p
 replace h := tY h
 refine tB ?_
 repeat' (first
 | (exact tZ)
 | ((first | refine oblg h ?_ | refine roomG h ?_ | refine fork h ?_ ?_ | refine forkS h ?_ ?_) <;> clear h <;> intro hc h)
 | (obtain ⟨y, hy, h⟩ := h; have hw := Wq_37.w hy; replace hw := tY hw; (first | refine M.sC hw ?_ | refine M.sD hw ?_); clear hw hy; refine tB ?_)
 | (refine tE ?_; (first | rw [M.lok_compU] | rw [M.lokD_compU]); refine tB ?_)
 | (refine tA ?_))
noncomputable def F_2n (k51 : Int) (a52 : Int) (x50 : List Int) : Option (Fl (List Int) (Int × Bool)) :=
 (F_p x50 a52).bind fun y60 => bif y60 then some (.ex (a52, true)) else some (.nx x50)
noncomputable def F_q (d_ : GDirectory) (a_ : GEstate) (p_ : Int) (place_ : Int) (t_ : Int) : Option (Int × Bool) :=
 (F_n d_ p_ t_).bind fun y2 => (F_o a_ place_ t_).bind fun y32 => (forL F_2n y32 0 y2).bind fun o => o.elim (fun x61 => some (0, false)) (fun r62 => some r62)
@[irreducible] def mc_2n : MC :=
 (sR [mo (.bin false .lss (.t 24) (.t 23)) 25]
 (.seq (.cond (.t 25)
 .skip
 (.exit 0))
 (.seq (.block 1
 (sR [mo (.iad 1 (.t 22) (.t 24)) 26,
 oL 26 27,
 oV 27 14]
 (.seq (.regI [.op (oV 12 28),
 .op (oV 14 29),
 .nt (.fz 28),
 .op (mo (.call (.f 92) [(.t 28),(.t 29)] [] []) 30)])
 (.cond (.t 30)
 (.seq (.note (.gc [14]) (.reg [oV 14 31,
 oV 31 10,
 mo (.mv (.c (.bool true))) 11]))
 .ret)
 .skip))))
 (.reg [mo (.bin true .add (.t 24) (cI 1)) 32,
 oV 32 24]))))
def mc_q : MC :=
 (sR [mo (.box (.t 0)) 5,
 mo (.box (.t 1)) 6,
 oC 0 10,
 mo (.mv (.c (.bool false))) 11]
 (sR [mo (.ld (some 2) (.t 5)) 15,
 oV 2 16,
 oV 4 17,
 mo (.call (.f 90) [(.t 15),(.t 16),(.t 17)] [] [18]) 18,
 oV 18 12]
 (.seq (.seq (.note (.gc [3,4,6,12]) (.reg [mo (.ld (some 2) (.t 6)) 19,
 oV 3 20,
 oV 4 21,
 mo (.call (.f 91) [(.t 19),(.t 20),(.t 21)] [] []) 22,
 mo (.len false (.t 22)) 23,
 oC 0 24]))
 (.block 0
 (.loop mc_2n)))
 (sR [oC 0 10,
 mo (.mv (.c (.bool false))) 11]
 .ret))))
theorem Wq_q {d_ : GDirectory} {a_ : GEstate} {p_ place_ t_ : Int} : Cn Tryz.prog 65 [GDirectory.v d_, GEstate.v a_, .int .i64 p_, .int .i64 place_, .int .i64 t_] [] (F_q d_ a_ p_ place_ t_) (fun z => .tup [.int .i64 z.1, .bool z.2]) (fun z => []) := fun Q Q' h hQ => by
 refine acallM mc_q [] [] [.t 10, .t 11] Tryz.func65 fun M => ?_
 unfold F_q at h
 unfold mc_q
 replace h := tY h
 refine tB ?_
 repeat' (first
 | (exact tZ)
 | ((first | refine oblg h ?_ | refine roomG h ?_ | refine fork h ?_ ?_ | refine forkS h ?_ ?_) <;> clear h <;> intro hc h)
 | (obtain ⟨y, hy, h⟩ := h; (first | (with_reducible first | have hw := Wq_o.w hy | have hw := Wq_p.w hy) | have hw := acall_swe 1900 18 (Wq_n.w hy)); replace hw := tY hw; (first | refine M.sC hw ?_ | refine M.sD hw ?_); clear hw hy; refine tB ?_)
 | (refine M.for1 (b := mc_2n) 24 [22,23] [] (fun x => [(12, .sl (x.map (V.int .i64)))]) (fun x => []) [.fz 12] h ?_ ?_ ?_ <;> first
 | (clear h; intro k a x Qn K hK1 hkN1 ha1 h hf; have hl := fact_int (factsE_find (n := 23) hf.1 rfl); clear hf; have hkd := kD hkN1; have hkB1 := kB hkN1; have hkI1 := kI (k := k) (by omega); unfold F_2n at h; unfold mc_2n; replace h := tY h; refine tK ha1 hkd hkN1 hkB1 hkI1 ?_)
  |(clear h; intro x K h; replace h := And.left (And.intro h trivial); unfold mc_2n; replace h := tY h; refine tB ?_)
  |(clear h; (try refine tB ?_); exact tU0; done))
 | (simp only [ha1])
 | (refine hK1 _ ?_; (try refine tB ?_); refine ⟨_, h, ?_⟩; exact tU0; done)
 | (refine tE ?_; (first | rw [M.lok_compU] | rw [M.lokD_compU]); refine tB ?_)
 | (refine tA ?_))
noncomputable def F_13 (d_ : GDirectory) (a_ : GEstate) (p_ : Int) (place_ : Int) (t_ : Int) : Option Bool :=
 (F_11 d_ a_ p_ place_).bind fun y4 => bif (!y4) then some false else (F_8 a_ place_ t_).bind fun y6 => (F_q d_ a_ p_ place_ t_).bind fun y8 => grp ((y6.2 || y8.2)) fun b10 => some b10
@[irreducible] def mg_4z : List MOp := [gF 38 39 (.mv (.t 14)),
 mo (.pick (.t 38) (.c (.bool true)) (.t 39)) 40]
def mc_13 : MC :=
 (sR [mo (.box (.t 0)) 5,
 mo (.box (.t 1)) 6,
 mo (.mv (.c (.bool false))) 10]
 (.seq (sR [mo (.ld (some 2) (.t 5)) 15,
 mo (.ld (some 2) (.t 6)) 16,
 oV 2 17,
 oV 3 18,
 mo (.call (.f 72) [(.t 15),(.t 16),(.t 17),(.t 18)] [] []) 19,
 mo (.not (.t 19)) 20]
 (.cond (.t 20)
 (sR [mo (.mv (.c (.bool false))) 10]
 .ret)
 .skip))
 (.seq (.note (.gc [2,3,4,5,6,39]) (.reg [mo (.ld (some 2) (.t 6)) 22,
 oV 3 23,
 oV 4 24,
 mo (.call (.f 43) [(.t 22),(.t 23),(.t 24)] [] []) 25,
 oV 25 21,
 mo (.ext 0 (.t 21)) 26,
 mo (.ext 1 (.t 21)) 27,
 oV 26 11,
 oV 27 12]))
 (.seq (.note (.gc [2,3,4,5,6,12,39]) (.reg [mo (.ld (some 2) (.t 5)) 29,
 mo (.ld (some 2) (.t 6)) 30,
 oV 2 31,
 oV 3 32,
 oV 4 33,
 mo (.call (.f 65) [(.t 29),(.t 30),(.t 31),(.t 32),(.t 33)] [] []) 34,
 oV 34 28,
 mo (.ext 0 (.t 28)) 35,
 mo (.ext 1 (.t 28)) 36,
 oV 35 13,
 oV 36 14]))
 (.seq (.note (.gc [12,14,39]) (.regI [.op (oV 12 37),
 .op (oV 37 38),
 .grp mg_4z,
 .op (oV 40 10)]))
 .ret)))))
theorem Wq_13 {d_ : GDirectory} {a_ : GEstate} {p_ place_ t_ : Int} : Cn Tryz.prog 61 [GDirectory.v d_, GEstate.v a_, .int .i64 p_, .int .i64 place_, .int .i64 t_] [] (F_13 d_ a_ p_ place_ t_) (fun z => .bool z) (fun z => []) := fun Q Q' h hQ => by
 refine acallM mc_13 [] [] [.t 10] Tryz.func61 fun M => ?_
 unfold F_13 at h
 unfold mc_13
 replace h := tY h
 refine tB ?_
 repeat' (first
 | (exact tZ)
 | ((first | refine oblg h ?_ | refine roomG h ?_ | refine fork h ?_ ?_ | refine forkS h ?_ ?_) <;> clear h <;> intro hc h)
 | (obtain ⟨y, hy, h⟩ := h; (first | with_reducible first | have hw := Wq_11.w hy | have hw := Wq_8.w hy | have hw := Wq_q.w hy); replace hw := tY hw; (first | refine M.sC hw ?_ | refine M.sD hw ?_); clear hw hy; refine tB ?_)
 | (refine M.gv1 (ms := mg_4z) 40 [39] h ?_ ?_ <;> first
 | (clear h; intro K hK1; unfold mg_4z; refine tB ?_)
 | (clear h; intro b h; replace h := tY h; refine tB ?_))
 | (refine hK1 _ ?_; exact tU; done)
 | (refine bfork (fun hc => ?_) (fun hc => ?_))
 | (refine tE ?_; (first | rw [M.lok_compU] | rw [M.lokD_compU]); refine tB ?_)
 | (refine tA ?_))
noncomputable def F_2o (d_ : GDirectory) (p_ : Int) (t_ : Int) : Option (List Int) :=
 (F_n d_ p_ t_).bind fun y3 => (delI y3 p_).bind fun y4 => some ((y4.2.drop 0).take y4.1)
def mc_2o : MC :=
 (sR [mo (.box (.t 0)) 3,
 mo (.box (.t 1)) 4,
 mo (.mv (.c (.sl []))) 6]
 (sR [mo (.ld (some 2) (.t 3)) 7,
 oL 4 8,
 oV 2 9,
 mo (.call (.f 90) [(.t 7),(.t 8),(.t 9)] [] [10]) 10,
 mo (.mkfn 131 [(.t 4)]) 11,
 mo (.call (.f 130) [(.t 10),(.t 11)] [10,4] []) 12,
 oV 12 6]
 .ret))
theorem Wq_2o {d_ : GDirectory} {p_ t_ : Int} : Cn Tryz.prog 114 [GDirectory.v d_, .int .i64 p_, .int .i64 t_] [] (F_2o d_ p_ t_) (fun z => .sl (z.map (V.int .i64))) (fun z => []) := fun Q Q' h hQ => by
 refine acallM mc_2o [.fz 6] [] [.t 6] Tryz.func114 fun M => ?_
 unfold F_2o at h
 unfold mc_2o
 replace h := tY h
 refine tB ?_
 repeat' (first
 | (exact tZ)
 | (refine And.intro (by refine ⟨?_, ?_, ?_, ?_⟩ <;> omega) ?_; first | exact hQ _ h | (rw [List.take_of_length_le (by omega)]; exact hQ _ h))
 | (have hq := hQ _ h; simp only [List.length_take, Nat.min_eq_left hlen.1] at hq; exact hq)
 | ((first | refine oblg h ?_ | refine roomG h ?_ | refine fork h ?_ ?_ | refine forkS h ?_ ?_) <;> clear h <;> intro hc h)
 | (obtain ⟨y, hy, h⟩ := h; (first | have hw := acall_swe 1900 10 (Wq_n.w hy) | (have hw := acall_swe 1001 4 (acall_swe 1000 10 (W_7t hy)); replace hw := tY hw; (try simp only [hlen] at hw); have hlen := delI_len hy)); replace hw := tY hw; (first | refine M.sC hw ?_ | refine M.sD hw ?_); clear hw hy; refine tB ?_)
 | (refine tE ?_; (first | rw [M.lok_compU] | rw [M.lokD_compU]); refine tB ?_)
 | (refine tA ?_))
def F_38 (k20 : Int) (a21 : GAccess) (x19 : List Int) : Option (List Int) :=
 chk (room (x19.length + [a21.Time].length) 8) (some (x19 ++ [a21.Time]))
def F_1u (a_ : GEstate) : Option (List Int) :=
 (F_5 a_).bind fun y4 => bif (!decide (y4 = 0)) then some [] else (foldL F_38 a_.Events 0 []).bind fun x22 => (compactI x22).bind fun y24 => some ((y24.2.drop 0).take y24.1)
@[irreducible] def mc_38 : MC :=
 (sR [mo (.bin false .lss (.t 12) (.t 11)) 13]
 (.seq (.cond (.t 13)
 .skip
 (.exit 0))
 (.seq (.block 1
 (sR [mo (.iad 7 (.t 10) (.t 12)) 14,
 mo (.ld (some 7) (.t 14)) 15,
 mo (.alloc [(.int .i64 0),(.int .i64 0),(.int .i64 0),(.int .i64 0),(.int .i64 0),(.int .i64 0),(.int .i64 0)]) 5,
 ⟨.st 7 (.t 5) (.t 15), none, none⟩]
 (.reg [oV 3 16,
 oF 0 5 17,
 oL 17 18,
 mo (.bslice 1 [(.t 18)]) 19,
 mo (.app 1 8 (.t 16) (.t 19)) 20,
 oV 20 3])))
 (.reg [mo (.bin true .add (.t 12) (cI 1)) 21,
 oV 21 12]))))
def mc_1u : MC :=
 (sR [mo (.box (.t 0)) 1,
 mo (.mv (.c .nils)) 2]
 (.seq (sR [mo (.ld (some 2) (.t 1)) 6,
 mo (.call (.f 62) [(.t 6)] [] []) 7,
 mo (.bin false .neq (.t 7) (cI 0)) 8]
 (.cond (.t 8)
 (sR [mo (.mv (.c .nils)) 2]
 .ret)
 .skip))
 (sR [mo (.mv (.c .nils)) 3]
 (.seq (sR [oF 1 1 9,
 oL 9 10,
 mo (.len false (.t 10)) 11,
 oC 0 12]
 (.block 0
 (.loop mc_38)))
 (sR [oV 3 22,
 mo (.call (.f 83) [(.t 22)] [2003] []) 23,
 oV 23 2]
 .ret)))))
theorem Wq_1u {a_ : GEstate} : Cn Tryz.prog 81 [GEstate.v a_] [] (F_1u a_) (fun z => .osl 1900 1 0 z.length) (fun z => [(1900, .arr 1 (z.map (V.int .i64)))]) := fun Q Q' h hQ => by
 refine acallM mc_1u [.gc [2], .trim 2, .acc 2 1900 1] [1900] [.t 2] Tryz.func81 fun M => ?_
 unfold F_1u at h
 unfold mc_1u
 replace h := tY h
 refine tB ?_
 repeat' (first
 | (exact tZ)
 | (refine And.intro (by refine ⟨?_, ?_, ?_, ?_⟩ <;> omega) ?_; first | exact hQ _ h | (rw [List.take_of_length_le (by omega)]; exact hQ _ h))
 | (have hq := hQ _ h; simp only [List.length_take, Nat.min_eq_left hlen.1] at hq; exact hq)
 | ((first | refine oblg h ?_ | refine roomG h ?_ | refine fork h ?_ ?_ | refine forkS h ?_ ?_) <;> clear h <;> intro hc h)
 | (obtain ⟨y, hy, h⟩ := h; (first | (with_reducible first | have hw := Wq_5.w hy) | (have hw := acall_swe 1000 2003 (W_7q hy); replace hw := tY hw; (try simp only [hlen] at hw); have hlen := compactI_len hy)); replace hw := tY hw; (first | refine M.sC hw ?_ | refine M.sD hw ?_); clear hw hy; refine tB ?_)
 | (refine M.fold1 (b := mc_38) 12 [10,11] [] (fun x => [(3, .osl 2003 1 0 x.length)]) (fun x => [.o 2003 (.arr 1 (x.map (V.int .i64)))]) [.gc [3,10,11,12], .acc 3 2003 1] h ?_ ?_ ?_ <;> first
 | (clear h; intro k a x Qn K hK1 hkN1 ha1 h hf; have hl := fact_int (factsE_find (n := 11) hf.1 rfl); clear hf; have hkd := kD hkN1; have hkB1 := kB hkN1; have hkI1 := kI (k := k) (by omega); unfold F_38 at h; unfold mc_38; replace h := tY h; refine tK ha1 hkd hkN1 hkB1 hkI1 ?_)
  |(clear h; intro x K h; replace h := And.left (And.intro h trivial); unfold mc_38; replace h := tY h; refine tB ?_)
  |(clear h; (try refine tB ?_); exact tU0; done))
 | (simp only [ha1])
 | (refine hK1 _ ?_; (try refine tB ?_); refine ⟨_, h, ?_⟩; exact tU0; done)
 | (refine tE ?_; (first | rw [M.lok_compU] | rw [M.lokD_compU]); refine tB ?_)
 | (refine tA ?_))
def F_39 (k18 : Int) (a19 : GMember) (x17 : List Int) : Option (List Int) :=
 chk (room (x17.length + [a19.Time].length) 8) (some (x17 ++ [a19.Time]))
def F_1v (d_ : GDirectory) (a_ : GEstate) : Option (List Int) :=
 (F_1u a_).bind fun y2 => (foldL F_39 d_.Events 0 y2).bind fun x20 => (sortI x20).bind fun y22 => (compactI y22).bind fun y24 => some ((y24.2.drop 0).take y24.1)
@[irreducible] def mc_39 : MC :=
 (sR [mo (.bin false .lss (.t 13) (.t 12)) 14]
 (.seq (.cond (.t 14)
 .skip
 (.exit 0))
 (.seq (.block 1
 (sR [mo (.iad 4 (.t 11) (.t 13)) 15,
 mo (.ld (some 4) (.t 15)) 16,
 mo (.alloc [(.int .i64 0),(.int .i64 0),(.int .i64 0),(.int .i64 0)]) 7,
 ⟨.st 4 (.t 7) (.t 16), none, none⟩]
 (.reg [oV 5 17,
 oF 0 7 18,
 oL 18 19,
 mo (.bslice 1 [(.t 19)]) 20,
 mo (.app 1 8 (.t 17) (.t 20)) 21,
 oV 21 5])))
 (.reg [mo (.bin true .add (.t 13) (cI 1)) 22,
 oV 22 13]))))
def mc_1v : MC :=
 (sR [mo (.box (.t 0)) 2,
 mo (.box (.t 1)) 3,
 mo (.mv (.c (.sl []))) 4]
 (sR [mo (.ld (some 2) (.t 3)) 8,
 mo (.call (.f 81) [(.t 8)] [] [9]) 9,
 oV 9 5]
 (.seq (sR [oF 1 2 10,
 oL 10 11,
 mo (.len false (.t 11)) 12,
 oC 0 13]
 (.block 0
 (.loop mc_39)))
 (sR [oV 5 23,
 mo (.call (.f 82) [(.t 23)] [2005] []) 24]
 (sR [oV 5 25,
 mo (.call (.f 83) [(.t 25)] [2005] []) 26,
 oV 26 4]
 .ret)))))
theorem Wq_1v {d_ : GDirectory} {a_ : GEstate} : Cn Tryz.prog 52 [GDirectory.v d_, GEstate.v a_] [] (F_1v d_ a_) (fun z => .sl (z.map (V.int .i64))) (fun z => []) := fun Q Q' h hQ => by
 refine acallM mc_1v [.fz 4] [] [.t 4] Tryz.func52 fun M => ?_
 unfold F_1v at h
 unfold mc_1v
 replace h := tY h
 refine tB ?_
 repeat' (first
 | (exact tZ)
 | (refine And.intro (by refine ⟨?_, ?_, ?_, ?_⟩ <;> omega) ?_; first | exact hQ _ h | (rw [List.take_of_length_le (by omega)]; exact hQ _ h))
 | (have hq := hQ _ h; simp only [List.length_take, Nat.min_eq_left hlen.1] at hq; exact hq)
 | ((first | refine oblg h ?_ | refine roomG h ?_ | refine fork h ?_ ?_ | refine forkS h ?_ ?_) <;> clear h <;> intro hc h)
 | (obtain ⟨y, hy, h⟩ := h; (first | have hw := acall_swe 1900 9 (Wq_1u.w hy) | (have hw := acall_swe 1000 2005 (W_7p hy); replace hw := tY hw; (try simp only [hlen] at hw); have hlen := sortI_len hy) | (have hw := acall_swe 1000 2005 (W_7q hy); replace hw := tY hw; (try simp only [hlen] at hw); have hlen := compactI_len hy)); replace hw := tY hw; (first | refine M.sC hw ?_ | refine M.sD hw ?_); clear hw hy; refine tB ?_)
 | (refine M.fold1 (b := mc_39) 13 [11,12] [] (fun x => [(5, .osl 2005 1 0 x.length)]) (fun x => [.o 2005 (.arr 1 (x.map (V.int .i64)))]) [.gc [5,11,12,13], .acc 5 2005 1] h ?_ ?_ ?_ <;> first
 | (clear h; intro k a x Qn K hK1 hkN1 ha1 h hf; have hl := fact_int (factsE_find (n := 12) hf.1 rfl); clear hf; have hkd := kD hkN1; have hkB1 := kB hkN1; have hkI1 := kI (k := k) (by omega); unfold F_39 at h; unfold mc_39; replace h := tY h; refine tK ha1 hkd hkN1 hkB1 hkI1 ?_)
  |(clear h; intro x K h; replace h := And.left (And.intro h trivial); unfold mc_39; replace h := tY h; refine tB ?_)
  |(clear h; (try refine tB ?_); exact tU0; done))
 | (simp only [ha1])
 | (refine hK1 _ ?_; (try refine tB ?_); refine ⟨_, h, ?_⟩; exact tU0; done)
 | (refine tE ?_; (first | rw [M.lok_compU] | rw [M.lokD_compU]); refine tB ?_)
 | (refine tA ?_))
end Go.Ab
