/- What the functions of this seat that lie on the laws' road compute (part LA), each for every input. By AI agents. -/
import Derived.Test.YtdcjekffkibboaaGreatDoorProg
import Derived.KernelRfl
import Derived.Test.YtdcjekffkibboaaGreatDoorAbFun
import Derived.Test.YtdcjekffkibboaaGreatDoorLN
set_option linter.all false
set_option linter.all false
set_option maxRecDepth 20000
set_option maxHeartbeats 2000000
namespace Go.Ab
open Go.Proofs
structure GOp where
 From : Int
 Size : Int
 Data : List UInt8
instance : Inhabited GOp := ⟨⟨default, default, default⟩⟩
def GOp.v (x : GOp) : V := .agg [.int .i64 x.From, .int .i64 x.Size, .sl (x.Data.map byteV)]
structure GPacked where
 ID : Int
 Delta : Bool
 Base : Int
 Ops : List GOp
 Data : List UInt8
instance : Inhabited GPacked := ⟨⟨default, default, default, default, default⟩⟩
def GPacked.v (x : GPacked) : V := .agg [.int .i64 x.ID, .bool x.Delta, .int .i64 x.Base, .sl (x.Ops.map GOp.v), .sl (x.Data.map byteV)]
structure GItem where
 Name : Str
 ID : Int
instance : Inhabited GItem := ⟨⟨default, default⟩⟩
def GItem.v (x : GItem) : V := .agg [.str x.Name, .int .i64 x.ID]
structure GObject where
 ID : Int
 Kind : Int
 Data : List UInt8
 Items : List GItem
 Tree : Int
 Parents : List Int
 Author : Str
 Time : Int
instance : Inhabited GObject := ⟨⟨default, default, default, default, default, default, default, default⟩⟩
def GObject.v (x : GObject) : V := .agg [.int .i64 x.ID, .int .i64 x.Kind, .sl (x.Data.map byteV), .sl (x.Items.map GItem.v), .int .i64 x.Tree, .sl (x.Parents.map (V.int .i64)), .str x.Author, .int .i64 x.Time]
theorem dlt {a : Int} : decide (a < a) = false := by simp
attribute [go_sem] beq_self_eq_true Int.cast_ofNat_Int List.take_succ_cons List.take_zero List.drop_succ_cons List.cons_append List.nil_append putPs pinH wrap_u8 rng64 inb_and inc_and room_and roomI_and divs_and shok_and64 rep_u rep_ll mget_i mget_s mput_i mput_s mdel_i mdel_s lk_b lk_i lk_s lk_l lkt_b' lkt_i' lkt_s' lkt_l' rep_b rep_i ovS ovE ovU patO filt filtH dropE stepNs atEndN shqs shq1 V.oids V.oidsL V.tr V.trL trE trH Obj'.tr true_implies false_implies Bool.false_eq_true Bool.true_eq_false dlt mpV slV Int.natCast_zero List.map_set kvV nxt_map erase_map V.sw V.swL swN swH sw_sl sw_int sw_bool sw_str sw_smap sw_byte Obj'.sw sw_arr sw_map byte_1 byte_2 Mach.b2s_e Mach.b2s_eD toNat_ltb List.length_set List.length_replicate List.take_of_length_le Nat.zero_le bounds eqCells Option.map_some Option.map_none Fl_nx Fl_ex Sum_inl Sum_inr Ok_ite Ok_chk Ok_some Ok_bind Ok_none
theorem inbk_0 {n : Nat} : (inb 0 n = true) = (((0 : Nat) : Int) < (n : Int)) := propext (by rw [inb_iff]; omega)
attribute [go_sem] inbk_0
theorem inbk_1 {n : Nat} : (inb 1 n = true) = (((1 : Nat) : Int) < (n : Int)) := propext (by rw [inb_iff]; omega)
attribute [go_sem] inbk_1
theorem incl_0 {b : Int} {n : Nat} : (inc 0 b n = true) = (((0 : Nat) : Int) ≤ b ∧ b ≤ (n : Int)) := propext (by rw [inc_iff]; omega)
attribute [go_sem] incl_0
attribute [go_sem] GItem.v GObject.v GOp.v GPacked.v
def F_39 (k30 : Int) (a31 : GPacked) (x29 : Bool × (List (Int × Int))) : Option (Bool × (List (Int × Int))) :=
 jn (α := Bool × Int) (bif (aget a31.ID x29.2).isSome then some (false, (-1)) else some (x29.1, k30)) fun j35 => some (j35.1, aput a31.ID j35.2 x29.2)
def F_f (l_ : List GPacked) : Option ((List (Int × Int)) × Bool) :=
 (foldL F_39 l_ 0 (true, [])).bind fun x36 => some (x36.2, x36.1)
@[irreducible] def mc_4l : MC :=
 (.reg [oV 4 26,
 oF 0 7 27,
 oL 27 28,
 oV 6 29,
 ⟨.mp (.up (.int .i64)) [(.t 26),(.t 28),(.t 29)], none, none⟩])
@[irreducible] def mc_39 : MC :=
 (sR [mo (.bin false .lss (.t 13) (.t 12)) 14]
 (.seq (.cond (.t 14)
 .skip
 (.exit 0))
 (.seq (.block 1
 (sR [oV 13 15,
 mo (.iad 5 (.t 11) (.t 13)) 16,
 mo (.ld (some 5) (.t 16)) 17,
 mo (.alloc [(.int .i64 0),(.bool false),(.int .i64 0),(.sl []),(.sl [])]) 7,
 oV 15 6,
 ⟨.st 5 (.t 7) (.t 17), none, none⟩]
 (.cut (sR [oV 4 19,
 oF 0 7 20,
 oL 20 21,
 mo (.mp (.lku (.int .i64) true (.int .i64 0)) [(.t 19),(.t 21)]) 22,
 oV 22 18,
 mo (.ext 0 (.t 18)) 23,
 mo (.ext 1 (.t 18)) 24,
 oV 23 8,
 oV 24 9]
 (sR [oV 9 25]
 (.cond (.t 25)
 (.reg [oC (-1) 6,
 mo (.mv (.c (.bool false))) 5])
 .skip)))
 mc_4l)))
 (.reg [mo (.bin true .add (.t 13) (cI 1)) 30,
 oV 30 13]))))
def mc_f : MC :=
 (sR [mo (.mv (.c .nilm)) 2,
 mo (.mv (.c (.bool false))) 3]
 (sR [mo (.mp (.mk (.int .i64)) []) 10,
 oV 10 4]
 (sR [mo (.mv (.c (.bool true))) 5]
 (.seq (sR [oV 0 11,
 mo (.len false (.t 11)) 12,
 oC 0 13]
 (.block 0
 (.loop mc_39)))
 (sR [oV 4 31,
 oV 5 32,
 oV 31 2,
 oV 32 3]
 .ret)))))
theorem Wq_f {l_ : List GPacked} : Cn Tryz.prog 45 [.sl (l_.map GPacked.v)] [] (F_f l_) (fun z => .tup [(mpV (.int .i64) (V.int .i64) (V.int .i64)) z.1, .bool z.2]) (fun z => []) := fun Q Q' h hQ => by
 refine acallM mc_f [.fz 2] [] [.t 2, .t 3] Tryz.func45 fun M => ?_
 unfold F_f at h
 unfold mc_f
 replace h := tY h
 refine tB ?_
 repeat' (first
 | (exact tZ)
 | ((first | refine oblg h ?_ | refine roomG h ?_ | refine fork h ?_ ?_ | refine forkS h ?_ ?_) <;> clear h <;> intro hc h)
 | (refine M.jn1 (b := mc_4l) [4,7,11,12,13] [7,10] (fun y => [(5, .bool y.1), (6, .int .i64 y.2)]) (fun y => []) [] h ?_ ?_ <;> first
 | (clear h; intro Qn K hK1 h; replace h := tY h; refine tB ?_)
  |(clear h; intro y h; unfold mc_4l; replace h := tY h; refine tB ?_))
 | (refine M.fold1 (b := mc_39) 13 [4,11,12] [] (fun x => [(5, .bool x.1)]) (fun x => [.o 10 (.map (.int .i64) (x.2.map (kvV (V.int .i64) (V.int .i64))))]) [] h ?_ ?_ ?_ <;> first
 | (clear h; intro k a x Qn K hK2 hkN2 ha2 h hf; have hl := fact_int (factsE_find (n := 12) hf.1 rfl); clear hf; have hkd := kD hkN2; have hkB2 := kB hkN2; have hkI2 := kI (k := k) (by omega); unfold F_39 at h; unfold mc_39; replace h := tY h; refine tK ha2 hkd hkN2 hkB2 hkI2 ?_)
  |(clear h; intro x K h; replace h := And.left (And.intro h trivial); unfold mc_39; replace h := tY h; refine tB ?_)
  |(clear h; (try refine tB ?_); exact tU0; done))
 | (simp only [ha2])
 | ((first | refine hK1 _ ?_ | refine hK2 _ ?_); (try refine tB ?_); refine ⟨_, h, ?_⟩; exact tU0; done)
 | (refine tE ?_; (first | rw [M.lok_compU] | rw [M.lokD_compU]); refine tB ?_)
 | (refine tA ?_)
 | fail)
def F_5 (id_ : Int) : Option Bool :=
 grp ((decide (1 ≤ id_) && decide (id_ ≤ 1073741824))) fun b2 => some b2
@[irreducible] def mg_4m : List MOp := [gT 5 6 (.mv (.t 0)),
 gT 5 7 (.bin false .leq (.t 6) (cI 1073741824)),
 mo (.pick (.t 5) (.t 7) (.c (.bool false))) 8]
def mc_5 : MC :=
 (sR [mo (.mv (.c (.bool false))) 2]
 (.seq (.regI [.op (oV 0 3),
 .op (mo (.bin false .geq (.t 3) (cI 1)) 4),
 .op (oV 4 5),
 .grp mg_4m,
 .op (oV 8 2)])
 .ret))
theorem Wq_5 {id_ : Int} : Cn Tryz.prog 28 [.int .i64 id_] [] (F_5 id_) (fun z => .bool z) (fun z => []) := fun Q Q' h hQ => by
 refine acallM mc_5 [] [] [.t 2] Tryz.func28 fun M => ?_
 unfold F_5 at h
 unfold mc_5
 replace h := tY h
 refine tB ?_
 repeat' (first
 | (exact tZ)
 | ((first | refine oblg h ?_ | refine roomG h ?_ | refine fork h ?_ ?_ | refine forkS h ?_ ?_) <;> clear h <;> intro hc h)
 | (refine M.gv1 (ms := mg_4m) 8 [6,7] h ?_ ?_ <;> first
 | (clear h; intro K hK1; unfold mg_4m; refine tB ?_)
 | (clear h; intro b h; replace h := tY h; refine tB ?_))
 | (refine hK1 _ ?_; exact tU; done)
 | (refine bfork (fun hc => ?_) (fun hc => ?_))
 | (refine tE ?_; (first | rw [M.lok_compU] | rw [M.lokD_compU]); refine tB ?_)
 | (refine tA ?_)
 | fail)
def F_2c (p_ : GPacked) : Option Bool :=
 bif p_.Delta then (F_5 p_.ID).bind fun y7 => grp ((y7 && decide ((p_.Data.length : Int) = 0))) fun b8 => some b8 else (F_5 p_.ID).bind fun y12 => grp ((y12 && decide (p_.Base = 0))) fun b13 => grp ((b13 && decide ((p_.Ops.length : Int) = 0))) fun b14 => some b14
@[irreducible] def mg_4n : List MOp := [gT 8 9 (.fad 4 (.t 1)),
 gT 8 10 (.ld none (.t 9)),
 gT 8 11 (.len false (.t 10)),
 gT 8 12 (.bin false .eql (.t 11) (cI 0)),
 mo (.pick (.t 8) (.t 12) (.c (.bool false))) 13]
@[irreducible] def mg_4o : List MOp := [gT 17 18 (.fad 2 (.t 1)),
 gT 17 19 (.ld none (.t 18)),
 gT 17 20 (.bin false .eql (.t 19) (cI 0)),
 mo (.pick (.t 17) (.t 20) (.c (.bool false))) 21]
@[irreducible] def mg_4p : List MOp := [gT 22 23 (.fad 3 (.t 1)),
 gT 22 24 (.ld none (.t 23)),
 gT 22 25 (.len false (.t 24)),
 gT 22 26 (.bin false .eql (.t 25) (cI 0)),
 mo (.pick (.t 22) (.t 26) (.c (.bool false))) 27]
def mc_2c : MC :=
 (sR [mo (.box (.t 0)) 1,
 mo (.mv (.c (.bool false))) 2]
 (.seq (sR [oF 1 1 3,
 oL 3 4]
 (.cond (.t 4)
 (.seq (.regI [.op (oF 0 1 5),
 .op (oL 5 6),
 .op (mo (.call (.f 28) [(.t 6)] [] []) 7),
 .op (oV 7 8),
 .grp mg_4n,
 .op (oV 13 2)])
 .ret)
 .skip))
 (.seq (.regI [.op (oF 0 1 14),
 .op (oL 14 15),
 .op (mo (.call (.f 28) [(.t 15)] [] []) 16),
 .op (oV 16 17),
 .grp mg_4o,
 .op (oV 21 22),
 .grp mg_4p,
 .op (oV 27 2)])
 .ret)))
theorem Wq_2c {p_ : GPacked} : Cn Tryz.prog 71 [GPacked.v p_] [] (F_2c p_) (fun z => .bool z) (fun z => []) := fun Q Q' h hQ => by
 refine acallM mc_2c [] [] [.t 2] Tryz.func71 fun M => ?_
 unfold F_2c at h
 unfold mc_2c
 replace h := tY h
 refine tB ?_
 repeat' (first
 | (exact tZ)
 | ((first | refine oblg h ?_ | refine roomG h ?_ | refine fork h ?_ ?_ | refine forkS h ?_ ?_) <;> clear h <;> intro hc h)
 | (obtain ⟨y, hy, h⟩ := h; have hw := Wq_5.w hy; replace hw := tY hw; (first | refine M.sC hw ?_ | refine M.sD hw ?_); clear hw hy; refine tB ?_)
 | (refine M.gv1 (ms := mg_4n) 13 [9,10,11,12] h ?_ ?_ <;> first
 | (clear h; intro K hK1; unfold mg_4n; refine tB ?_)
 | (clear h; intro b h; replace h := tY h; refine tB ?_))
 | (refine M.gv1 (ms := mg_4p) 27 [23,24,25,26] h ?_ ?_ <;> first
 | (clear h; intro K hK2; unfold mg_4p; refine tB ?_)
 | (clear h; intro b h; replace h := tY h; refine tB ?_))
 | (refine M.gv1 (ms := mg_4o) 21 [18,19,20] h ?_ ?_ <;> first
 | (clear h; intro K hK3; unfold mg_4o; refine tB ?_)
 | (clear h; intro b h; replace h := tY h; refine tB ?_))
 | ((first | refine hK1 _ ?_ | refine hK2 _ ?_ | refine hK3 _ ?_); exact tU; done)
 | (refine bfork (fun hc => ?_) (fun hc => ?_))
 | (refine tE ?_; (first | rw [M.lok_compU] | rw [M.lokD_compU]); refine tB ?_)
 | (refine tA ?_)
 | fail)
def F_c (p_ : GPacked) : Option Bool :=
 (F_2c p_).bind fun y2 => some (!y2)
def mc_c : MC :=
 (sR [mo (.box (.t 0)) 1,
 mo (.mv (.c (.bool false))) 2]
 (sR [mo (.ld (some 5) (.t 1)) 3,
 mo (.call (.f 71) [(.t 3)] [] []) 4,
 mo (.not (.t 4)) 5,
 oV 5 2]
 .ret))
theorem Wq_c {p_ : GPacked} : Cn Tryz.prog 70 [GPacked.v p_] [] (F_c p_) (fun z => .bool z) (fun z => []) := fun Q Q' h hQ => by
 refine acallM mc_c [] [] [.t 2] Tryz.func70 fun M => ?_
 unfold F_c at h
 unfold mc_c
 replace h := tY h
 refine tB ?_
 repeat' (first
 | (exact tZ)
 | ((first | refine oblg h ?_ | refine roomG h ?_ | refine fork h ?_ ?_ | refine forkS h ?_ ?_) <;> clear h <;> intro hc h)
 | (obtain ⟨y, hy, h⟩ := h; have hw := Wq_2c.w hy; replace hw := tY hw; (first | refine M.sC hw ?_ | refine M.sD hw ?_); clear hw hy; refine tB ?_)
 | (refine tE ?_; (first | rw [M.lok_compU] | rw [M.lokD_compU]); refine tB ?_)
 | (refine tA ?_)
 | fail)
def F_3a (k31 : Int) (a32 : GPacked) (x30 : Unit) : Option (Fl Unit Int) :=
 (F_c a32).bind fun y40 => bif y40 then some (.ex k31) else some (.nx ())
def F_2d (s_ : List GPacked) : Option Int :=
 (forL F_3a s_ 0 ()).bind fun o => o.elim (fun x41 => some (-1)) (fun r42 => some r42)
@[irreducible] def mc_3a : MC :=
 (sR [mo (.bin false .lss (.t 8) (.t 7)) 9]
 (.seq (.cond (.t 9)
 .skip
 (.exit 0))
 (.seq (.block 1
 (sR [oV 8 10,
 oV 10 5]
 (sR [oV 1 11,
 oV 0 12,
 oV 5 13,
 mo (.iad 5 (.t 12) (.t 13)) 14,
 mo (.ld (some 5) (.t 14)) 15,
 mo (.call (.t 11) [(.t 15)] [] []) 16]
 (.cond (.t 16)
 (sR [oV 5 17,
 oV 17 4]
 .ret)
 .skip))))
 (.reg [mo (.bin true .add (.t 8) (cI 1)) 18,
 oV 18 8]))))
def mc_2d : MC :=
 (sR [oC 0 4]
 (.seq (sR [oV 0 6,
 mo (.len false (.t 6)) 7,
 oC 0 8]
 (.block 0
 (.loop mc_3a)))
 (sR [oC (-1) 4]
 .ret)))
theorem Wq_2d {s_ : List GPacked} : Cn Tryz.prog 86 [.sl (s_.map GPacked.v), .fn (.func 70) []] [] (F_2d s_) (fun z => .int .i64 z) (fun z => []) := fun Q Q' h hQ => by
 refine acallM mc_2d [] [] [.t 4] Tryz.func86 fun M => ?_
 unfold F_2d at h
 unfold mc_2d
 replace h := tY h
 refine tB ?_
 repeat' (first
 | (exact tZ)
 | ((first | refine oblg h ?_ | refine roomG h ?_ | refine fork h ?_ ?_ | refine forkS h ?_ ?_) <;> clear h <;> intro hc h)
 | (obtain ⟨y, hy, h⟩ := h; have hw := Wq_c.w hy; replace hw := tY hw; (first | refine M.sC hw ?_ | refine M.sD hw ?_); clear hw hy; refine tB ?_)
 | (refine M.for1 (b := mc_3a) 8 [0,1,7] [] (fun x => []) (fun x => []) [] h ?_ ?_ ?_ <;> first
 | (clear h; intro k a x Qn K hK1 hkN1 ha1 h hf; have hl := fact_int (factsE_find (n := 7) hf.1 rfl); clear hf; have hkd := kD hkN1; have hkB1 := kB hkN1; have hkI1 := kI (k := k) (by omega); unfold F_3a at h; unfold mc_3a; replace h := tY h; refine tK ha1 hkd hkN1 hkB1 hkI1 ?_)
  |(clear h; intro x K h; replace h := And.left (And.intro h trivial); unfold mc_3a; replace h := tY h; refine tB ?_)
  |(clear h; (try refine tB ?_); exact tU0; done))
 | (simp only [ha1])
 | (refine hK1 _ ?_; (try refine tB ?_); refine ⟨_, h, ?_⟩; exact tU0; done)
 | (refine tE ?_; (first | rw [M.lok_compU] | rw [M.lokD_compU]); refine tB ?_)
 | (refine tA ?_)
 | fail)
def F_18 (s_ : List GPacked) : Option Bool :=
 (F_2d s_).bind fun y2 => some (decide (0 ≤ y2))
def mc_18 : MC :=
 (sR [mo (.mv (.c (.bool false))) 4]
 (sR [oV 0 5,
 oV 1 6,
 mo (.call (.f 86) [(.t 5),(.t 6)] [] []) 7,
 mo (.bin false .geq (.t 7) (cI 0)) 8,
 oV 8 4]
 .ret))
theorem Wq_18 {s_ : List GPacked} : Cn Tryz.prog 69 [.sl (s_.map GPacked.v), .fn (.func 70) []] [] (F_18 s_) (fun z => .bool z) (fun z => []) := fun Q Q' h hQ => by
 refine acallM mc_18 [] [] [.t 4] Tryz.func69 fun M => ?_
 unfold F_18 at h
 unfold mc_18
 replace h := tY h
 refine tB ?_
 repeat' (first
 | (exact tZ)
 | ((first | refine oblg h ?_ | refine roomG h ?_ | refine fork h ?_ ?_ | refine forkS h ?_ ?_) <;> clear h <;> intro hc h)
 | (obtain ⟨y, hy, h⟩ := h; have hw := Wq_2d.w hy; replace hw := tY hw; (first | refine M.sC hw ?_ | refine M.sD hw ?_); clear hw hy; refine tB ?_)
 | (refine tE ?_; (first | rw [M.lok_compU] | rw [M.lokD_compU]); refine tB ?_)
 | (refine tA ?_)
 | fail)
noncomputable def F_12 (l_ : List GPacked) (at_ : List (Int × Int)) (x49 : Int × Int) : Option (Fl (Int × Int) (Sum Unit Int)) :=
 bif decide (x49.2 ≤ (l_.length : Int)) then grp (((!((aget x49.1 at_).isSome)) || decide (((aget x49.1 at_).getD 0) < 0))) fun b65 => bif b65 then some (.ex (.inr (-1))) else chk (inb ((aget x49.1 at_).getD 0) l_.length) (bif (!((l_.getD (((aget x49.1 at_).getD 0)).toNat default).Delta)) then some (.ex (.inr x49.2)) else chk (inb ((aget x49.1 at_).getD 0) l_.length) (chk (in64 (x49.2 + 1)) (some (.nx ((l_.getD (((aget x49.1 at_).getD 0)).toNat default).Base, (x49.2 + 1)))))) else some (.ex (.inl ()))
noncomputable def F_q (l_ : List GPacked) (at_ : List (Int × Int)) (id_ : Int) : Option Int :=
 (loop (F_12 l_ at_) (id_, 0)).bind fun r66 => Sum.elim (fun u67 => some (-2)) (fun u68 => some u68) r66
@[irreducible] def mg_4q : List MOp := [gF 24 25 (.mv (.t 8)),
 gF 24 26 (.bin false .lss (.t 25) (cI 0)),
 mo (.pick (.t 24) (.c (.bool true)) (.t 26)) 27]
@[irreducible] def mc_12 : MC :=
 (.seq (sR [oV 7 10,
 oV 0 11,
 mo (.len false (.t 11)) 12,
 mo (.bin false .leq (.t 10) (.t 12)) 13]
 (.cond (.t 13)
 .skip
 (.exit 0)))
 (.seq (.block 1
 (sR [oV 1 17,
 oV 2 18,
 mo (.mp (.lku (.int .i64) true (.int .i64 0)) [(.t 17),(.t 18)]) 19,
 oV 19 16,
 mo (.ext 0 (.t 16)) 20,
 mo (.ext 1 (.t 16)) 21,
 oV 20 8,
 oV 21 9]
 (.seq (.seq (.note (.gc [0,1,7,8,9,25,26]) (.regI [.op (oV 9 22),
 .op (mo (.not (.t 22)) 23),
 .op (oV 23 24),
 .grp mg_4q]))
 (.cond (.t 27)
 (sR [oC (-1) 6]
 .ret)
 .skip))
 (.seq (sR [oV 0 28,
 oV 8 29,
 mo (.iad 5 (.t 28) (.t 29)) 30,
 oF 1 30 31,
 oL 31 32,
 mo (.not (.t 32)) 33]
 (.cond (.t 33)
 (sR [oV 7 34,
 oV 34 6]
 .ret)
 .skip))
 (.note (.gc [0,1,7,8,25,26]) (.reg [oV 0 35,
 oV 8 36,
 mo (.iad 5 (.t 35) (.t 36)) 37,
 oF 2 37 38,
 oL 38 39,
 oV 39 2]))))))
 (.reg [oV 7 14,
 mo (.bin true .add (.t 14) (cI 1)) 15,
 oV 15 7])))
def mc_q : MC :=
 (sR [oC 0 6]
 (.seq (sR [oC 0 7]
 (.block 0
 (.loop mc_12)))
 (sR [oC (-2) 6]
 .ret)))
theorem Wq_q {l_ : List GPacked} {at_ : List (Int × Int)} {id_ : Int} : Cn Tryz.prog 49 [.sl (l_.map GPacked.v), (mpV (.int .i64) (V.int .i64) (V.int .i64)) at_, .int .i64 id_] [] (F_q l_ at_ id_) (fun z => .int .i64 z) (fun z => []) := fun Q Q' h hQ => by
 refine acallM mc_q [] [] [.t 6] Tryz.func49 fun M => ?_
 unfold F_q at h
 unfold mc_q
 replace h := tY h
 refine tB ?_
 repeat' (first
 | (exact tZ)
 | ((first | refine oblg h ?_ | refine roomG h ?_ | refine fork h ?_ ?_ | refine forkS h ?_ ?_) <;> clear h <;> intro hc h)
 | (refine M.gv1 (ms := mg_4q) 27 [25,26] h ?_ ?_ <;> first
 | (clear h; intro K hK1; unfold mg_4q; refine tB ?_)
 | (clear h; intro b h; replace h := tY h; refine tB ?_))
 | (refine M.wh1 (b := mc_12) [0,1] [] (fun x => [(2, .int .i64 x.1), (7, .int .i64 x.2)]) (fun x => []) [] h ?_ ?_ <;> first
 | (clear h; intro x Qn K hK2 h; unfold F_12 at h; unfold mc_12; replace h := tY h; refine tB ?_)
  |(clear h; (try refine tB ?_); exact tU0; done))
 | (refine hK1 _ ?_; exact tU; done)
 | (refine hK2 _ ?_; (try refine tB ?_); refine ⟨_, h, ?_⟩; exact tU0; done)
 | (refine bfork (fun hc => ?_) (fun hc => ?_))
 | (refine tE ?_; (first | rw [M.lok_compU] | rw [M.lokD_compU]); refine tB ?_)
 | (refine tA ?_)
 | fail)
def F_2e (v_ : Int) (k11 : Int) (a12 : Int) (x10 : Unit) : Option (Fl Unit Int) :=
 bif decide (v_ = a12) then some (.ex k11) else some (.nx ())
def F_2f (s_ : List Int) (v_ : Int) : Option Int :=
 (forL (F_2e v_) s_ 0 ()).bind fun o => o.elim (fun x13 => some (-1)) (fun r14 => some r14)
@[irreducible] def mc_2e : MC :=
 (sR [mo (.bin false .lss (.t 8) (.t 7)) 9]
 (.seq (.cond (.t 9)
 .skip
 (.exit 0))
 (.seq (.block 1
 (sR [oV 8 10,
 oV 10 5]
 (sR [oV 1 11,
 oV 0 12,
 oV 5 13,
 mo (.iad 1 (.t 12) (.t 13)) 14,
 oL 14 15,
 mo (.bin false .eql (.t 11) (.t 15)) 16]
 (.cond (.t 16)
 (sR [oV 5 17,
 oV 17 4]
 .ret)
 .skip))))
 (.reg [mo (.bin true .add (.t 8) (cI 1)) 18,
 oV 18 8]))))
def mc_2f : MC :=
 (sR [oC 0 4]
 (.seq (sR [oV 0 6,
 mo (.len false (.t 6)) 7,
 oC 0 8]
 (.block 0
 (.loop mc_2e)))
 (sR [oC (-1) 4]
 .ret)))
theorem Wq_2f {s_ : List Int} {v_ : Int} : Cn Tryz.prog 87 [.sl (s_.map (V.int .i64)), .int .i64 v_] [] (F_2f s_ v_) (fun z => .int .i64 z) (fun z => []) := fun Q Q' h hQ => by
 refine acallM mc_2f [] [] [.t 4] Tryz.func87 fun M => ?_
 unfold F_2f at h
 unfold mc_2f
 replace h := tY h
 refine tB ?_
 repeat' (first
 | (exact tZ)
 | ((first | refine oblg h ?_ | refine roomG h ?_ | refine fork h ?_ ?_ | refine forkS h ?_ ?_) <;> clear h <;> intro hc h)
 | (refine M.for1 (b := mc_2e) 8 [0,1,7] [] (fun x => []) (fun x => []) [] h ?_ ?_ ?_ <;> first
 | (clear h; intro k a x Qn K hK1 hkN1 ha1 h hf; have hl := fact_int (factsE_find (n := 7) hf.1 rfl); clear hf; have hkd := kD hkN1; have hkB1 := kB hkN1; have hkI1 := kI (k := k) (by omega); unfold F_2e at h; unfold mc_2e; replace h := tY h; refine tK ha1 hkd hkN1 hkB1 hkI1 ?_)
  |(clear h; intro x K h; replace h := And.left (And.intro h trivial); unfold mc_2e; replace h := tY h; refine tB ?_)
  |(clear h; (try refine tB ?_); exact tU0; done))
 | (simp only [ha1])
 | (refine hK1 _ ?_; (try refine tB ?_); refine ⟨_, h, ?_⟩; exact tU0; done)
 | (refine tE ?_; (first | rw [M.lok_compU] | rw [M.lokD_compU]); refine tB ?_)
 | (refine tA ?_)
 | fail)
def F_g (s_ : List Int) (v_ : Int) : Option Bool :=
 (F_2f s_ v_).bind fun y2 => some (decide (0 ≤ y2))
def mc_g : MC :=
 (sR [mo (.mv (.c (.bool false))) 4]
 (sR [oV 0 5,
 oV 1 6,
 mo (.call (.f 87) [(.t 5),(.t 6)] [] []) 7,
 mo (.bin false .geq (.t 7) (cI 0)) 8,
 oV 8 4]
 .ret))
theorem Wq_g {s_ : List Int} {v_ : Int} : Cn Tryz.prog 72 [.sl (s_.map (V.int .i64)), .int .i64 v_] [] (F_g s_ v_) (fun z => .bool z) (fun z => []) := fun Q Q' h hQ => by
 refine acallM mc_g [] [] [.t 4] Tryz.func72 fun M => ?_
 unfold F_g at h
 unfold mc_g
 replace h := tY h
 refine tB ?_
 repeat' (first
 | (exact tZ)
 | ((first | refine oblg h ?_ | refine roomG h ?_ | refine fork h ?_ ?_ | refine forkS h ?_ ?_) <;> clear h <;> intro hc h)
 | (obtain ⟨y, hy, h⟩ := h; have hw := Wq_2f.w hy; replace hw := tY hw; (first | refine M.sC hw ?_ | refine M.sD hw ?_); clear hw hy; refine tB ?_)
 | (refine tE ?_; (first | rw [M.lok_compU] | rw [M.lokD_compU]); refine tB ?_)
 | (refine tA ?_)
 | fail)
noncomputable def F_3y (x_ : List Int) (x7 : Int × Int) : Option (Fl (Int × Int) Int) :=
 bif decide (x7.2 < (x_.length : Int)) then chk (inb x7.2 x_.length) (chk (in64 (x7.2 + 1)) (some (.nx ((max x7.1 (x_.getD (x7.2).toNat default)), (x7.2 + 1))))) else some (.ex x7.1)
noncomputable def F_19 (x_ : List Int) : Option Int :=
 bif decide ((x_.length : Int) < 1) then none else chk (inb 0 x_.length) ((loop (F_3y x_) ((x_.getD 0 default),1)).bind fun r8 => some r8)
@[irreducible] def mc_3y : MC :=
 (.seq (sR [oV 4 12,
 oV 0 13,
 mo (.len false (.t 13)) 14,
 mo (.bin false .lss (.t 12) (.t 14)) 15]
 (.cond (.t 15)
 .skip
 (.exit 0)))
 (.seq (.block 1
 (.reg [oV 3 18,
 oV 0 19,
 oV 4 20,
 mo (.iad 1 (.t 19) (.t 20)) 21,
 oL 21 22,
 mo (.mm true (.t 18) (.t 22)) 23,
 oV 23 3]))
 (.note (.gc [0,3,4]) (.reg [oV 4 16,
 mo (.bin true .add (.t 16) (cI 1)) 17,
 oV 17 4]))))
def mc_19 : MC :=
 (sR [oC 0 2]
 (.seq (sR [oV 0 5,
 mo (.len false (.t 5)) 6,
 mo (.bin false .lss (.t 6) (cI 1)) 7]
 (.cond (.t 7)
 .no
 .skip))
 (sR [oV 0 9,
 mo (.iad 1 (.t 9) (cI 0)) 10,
 oL 10 11,
 oV 11 3]
 (.seq (sR [oC 1 4]
 (.block 0
 (.loop mc_3y)))
 (sR [oV 3 24,
 oV 24 2]
 .ret)))))
theorem Wq_19 {x_ : List Int} : Cn Tryz.prog 73 [.sl (x_.map (V.int .i64))] [] (F_19 x_) (fun z => .int .i64 z) (fun z => []) := fun Q Q' h hQ => by
 refine acallM mc_19 [] [] [.t 2] Tryz.func73 fun M => ?_
 unfold F_19 at h
 unfold mc_19
 replace h := tY h
 refine tB ?_
 repeat' (first
 | (exact tZ)
 | ((first | refine oblg h ?_ | refine roomG h ?_ | refine fork h ?_ ?_ | refine forkS h ?_ ?_) <;> clear h <;> intro hc h)
 | (refine M.wh1 (b := mc_3y) [0] [] (fun x => [(3, .int .i64 x.1), (4, .int .i64 x.2)]) (fun x => []) [] h ?_ ?_ <;> first
 | (clear h; intro x Qn K hK1 h; unfold F_3y at h; unfold mc_3y; replace h := tY h; refine tB ?_)
  |(clear h; (try refine tB ?_); exact tU0; done))
 | (refine hK1 _ ?_; (try refine tB ?_); refine ⟨_, h, ?_⟩; exact tU0; done)
 | (refine tE ?_; (first | rw [M.lok_compU] | rw [M.lokD_compU]); refine tB ?_)
 | (refine tA ?_)
 | fail)
noncomputable def F_3b (l_ : List GPacked) (at_ : List (Int × Int)) (k34 : Int) (a35 : GPacked) (x33 : List Int) : Option (List Int) :=
 (F_q l_ at_ a35.ID).bind fun y39 => chk (inb k34 x33.length) (some (x33.set ((k34).toNat) y39))
noncomputable def F_1a (l_ : List GPacked) (at_ : List (Int × Int)) (single_ : Bool) : Option Int :=
 (F_18 l_).bind fun y4 => bif y4 then some 1 else bif (!single_) then some 7 else chk (roomI (l_.length : Int) (l_.length : Int) 8) ((foldL (F_3b l_ at_) l_ 0 (List.replicate ((l_.length : Int)).toNat 0)).bind fun x40 => (F_g x40 (-1)).bind fun y50 => bif y50 then some 6 else (F_g x40 (-2)).bind fun y52 => bif y52 then some 8 else jn (α := Bool) (bif decide (0 < (l_.length : Int)) then (F_19 x40).bind fun y56 => some (decide (20 < y56)) else some false) fun j57 => bif j57 then some 9 else some 0)
@[irreducible] def mc_3b : MC :=
 (sR [mo (.bin false .lss (.t 18) (.t 17)) 19]
 (.seq (.cond (.t 19)
 .skip
 (.exit 0))
 (.seq (.block 1
 (sR [oV 18 20,
 oV 20 8]
 (.reg [oV 7 21,
 oV 8 22,
 oV 0 23,
 oV 1 24,
 oV 0 25,
 oV 8 26,
 mo (.iad 5 (.t 25) (.t 26)) 27,
 oF 0 27 28,
 oL 28 29,
 mo (.call (.f 49) [(.t 23),(.t 24),(.t 29)] [] []) 30,
 mo (.iad 1 (.t 21) (.t 22)) 31,
 ⟨.st 1 (.t 31) (.t 30), none, none⟩])))
 (.reg [mo (.bin true .add (.t 18) (cI 1)) 32,
 oV 32 18]))))
@[irreducible] def mg_c : List MOp := [gT 43 44 (.mv (.t 7)),
 gT 43 45 (.call (.f 73) [(.t 44)] [] []),
 gT 43 46 (.bin false .gtr (.t 45) (cI 20)),
 mo (.pick (.t 43) (.t 46) (.c (.bool false))) 47]
def mc_1a : MC :=
 (sR [oC 0 6]
 (.seq (sR [oV 0 9,
 mo (.call (.f 69) [(.t 9),(.f 70)] [] []) 10]
 (.cond (.t 10)
 (sR [oC 1 6]
 .ret)
 .skip))
 (.seq (sR [oV 2 11,
 mo (.not (.t 11)) 12]
 (.cond (.t 12)
 (sR [oC 7 6]
 .ret)
 .skip))
 (sR [oV 0 13,
 mo (.len false (.t 13)) 14,
 mo (.mksl 1 8 (.int .i64 0) (.t 14) (.t 14)) 15,
 oV 15 7]
 (.seq (.seq (.note (.gc [0,1,7,44,45,46]) (.reg [oV 0 16,
 mo (.len false (.t 16)) 17,
 oC 0 18]))
 (.block 0
 (.loop mc_3b)))
 (.seq (.block 2
 (.seq (.regI [.op (oV 7 34),
 .nt (.fz 34),
 .op (mo (.call (.f 72) [(.t 34), (cI (-1))] [] []) 35),
 .op (oV 35 33)])
 (.cond (.t 33)
 (sR [oC 6 6]
 .ret)
 (sR [oV 7 37,
 mo (.call (.f 72) [(.t 37), (cI (-2))] [] []) 38,
 oV 38 36]
 (.cond (.t 36)
 (sR [oC 8 6]
 .ret)
 (.seq (.note (.gc [0,7,44,45,46]) (.regI [.op (oV 0 40),
 .op (mo (.len false (.t 40)) 41),
 .op (mo (.bin false .gtr (.t 41) (cI 0)) 42),
 .op (oV 42 43),
 .grp mg_c,
 .op (oV 47 39)]))
 (.cond (.t 39)
 (sR [oC 9 6]
 .ret)
 .skip)))))))
 (sR [oC 0 6]
 .ret)))))))
theorem Wq_1a {l_ : List GPacked} {at_ : List (Int × Int)} {single_ : Bool} : Cn Tryz.prog 46 [.sl (l_.map GPacked.v), (mpV (.int .i64) (V.int .i64) (V.int .i64)) at_, .bool single_] [] (F_1a l_ at_ single_) (fun z => .int .i64 z) (fun z => []) := fun Q Q' h hQ => by
 refine acallM mc_1a [] [] [.t 6] Tryz.func46 fun M => ?_
 unfold F_1a at h
 unfold mc_1a
 replace h := tY h
 refine tB ?_
 repeat' (first
 | (exact tZ)
 | ((first | refine oblg h ?_ | refine roomG h ?_ | refine fork h ?_ ?_ | refine forkS h ?_ ?_) <;> clear h <;> intro hc h)
 | (obtain ⟨y, hy, h⟩ := h; (first | with_reducible first | have hw := Wq_18.w hy | have hw := Wq_q.w hy | have hw := Wq_g.w hy | have hw := Wq_19.w hy); replace hw := tY hw; (first | refine M.sC hw ?_ | refine M.sD hw ?_); clear hw hy; refine tB ?_)
 | (refine M.fold1 (b := mc_3b) 18 [0,1,17] [] (fun x => [(7, .osl 15 1 0 x.length)]) (fun x => [.o 15 (.arr 1 (x.map (V.int .i64)))]) [] h ?_ ?_ ?_ <;> first
 | (clear h; intro k a x Qn K hK1 hkN1 ha1 h hf; have hl := fact_int (factsE_find (n := 17) hf.1 rfl); clear hf; have hkd := kD hkN1; have hkB1 := kB hkN1; have hkI1 := kI (k := k) (by omega); unfold F_3b at h; unfold mc_3b; replace h := tY h; refine tK ha1 hkd hkN1 hkB1 hkI1 ?_)
  |(clear h; intro x K h; replace h := And.left (And.intro h trivial); unfold mc_3b; replace h := tY h; refine tB ?_)
  |(clear h; (try refine tB ?_); exact tU0; done))
 | (refine M.gj1 (ms := mg_c) [] [] (fun y => [(47, .bool y)]) (fun y => []) h ?_ ?_ <;> first
 | (clear h; intro Qn K hK2 h; unfold mg_c; replace h := tY h; refine tB ?_)
  |(clear h; intro y h; replace h := tY h; refine tB ?_))
 | (simp only [ha1])
 | ((first | refine hK1 _ ?_ | refine hK2 _ ?_); (try refine tB ?_); refine ⟨_, h, ?_⟩; exact tU0; done)
 | (refine tE ?_; (first | rw [M.lok_compU] | rw [M.lokD_compU]); refine tB ?_)
 | (refine ⟨_, getE_mapset (by first | exact inb_toNat (by assumption) | exact inb_nat (by assumption)), ?_⟩; (first | rw [M.lok_compU] | rw [M.lokD_compU] | (simp only [V.cells]; first | rw [M.lok_comp] | rw [M.lokD_comp])); refine tB ?_)
 | (refine tA ?_)
 | fail)
noncomputable def F_r (s_ : List UInt8) : Option (List UInt8) :=
 amb s_.isEmpty (some []) (chk (room (([] : List UInt8).length + s_.length) 1) (some (([] : List UInt8) ++ s_)))
def mc_r : MC :=
 (sR [mo (.mv (.c (.sl []))) 2]
 (.seq (sR [oV 0 3,
 mo (.mp (.isn false) [(.t 3)]) 4]
 (.cond (.t 4)
 (sR [mo (.mv (.c (.sl []))) 2]
 .ret)
 .skip))
 (sR [mo (.bslice 1 []) 5,
 oV 0 6,
 mo (.app 1 1 (.t 5) (.t 6)) 7,
 oV 7 2]
 .ret)))
theorem Wq_r {s_ : List UInt8} : Cn Tryz.prog 34 [.sl (s_.map byteV)] [] (F_r s_) (fun z => .sl (z.map byteV)) (fun z => []) := fun Q Q' h hQ => by
 refine acallM mc_r [.fz 2] [] [.t 2] Tryz.func34 fun M => ?_
 unfold F_r at h
 unfold mc_r
 replace h := tY h
 refine tB ?_
 repeat' (first
 | (exact tZ)
 | ((first | refine oblg h ?_ | refine roomG h ?_ | refine fork h ?_ ?_ | refine forkS h ?_ ?_) <;> clear h <;> intro hc h)
 | (refine amb_fork h (fun hp => by simpa using hp) ?_ ?_ <;> first
 | (clear h; intro hc h; rw [M.lok_eq]; replace h := tY h; refine tB ?_)
  |(clear h; intro h; rw [M.lok_eq]; replace h := tY h; refine tB ?_))
 | (refine tE ?_; (first | rw [M.lok_compU] | rw [M.lokD_compU]); refine tB ?_)
 | (refine tA ?_)
 | fail)
def F_h (o_ : GOp) : Option Bool :=
 bif decide (o_.Size = 0) then grp ((decide (o_.From = 0) && decide (0 < (o_.Data.length : Int)))) fun b4 => some b4 else grp ((decide (0 < o_.Size) && decide (0 ≤ o_.From))) fun b7 => grp ((b7 && decide ((o_.Data.length : Int) = 0))) fun b8 => some b8
@[irreducible] def mg_4r : List MOp := [gT 9 10 (.fad 2 (.t 1)),
 gT 9 11 (.ld none (.t 10)),
 gT 9 12 (.len false (.t 11)),
 gT 9 13 (.bin false .gtr (.t 12) (cI 0)),
 mo (.pick (.t 9) (.t 13) (.c (.bool false))) 14]
@[irreducible] def mg_4s : List MOp := [gT 18 19 (.fad 0 (.t 1)),
 gT 18 20 (.ld none (.t 19)),
 gT 18 21 (.bin false .geq (.t 20) (cI 0)),
 mo (.pick (.t 18) (.t 21) (.c (.bool false))) 22]
@[irreducible] def mg_4t : List MOp := [gT 23 24 (.fad 2 (.t 1)),
 gT 23 25 (.ld none (.t 24)),
 gT 23 26 (.len false (.t 25)),
 gT 23 27 (.bin false .eql (.t 26) (cI 0)),
 mo (.pick (.t 23) (.t 27) (.c (.bool false))) 28]
def mc_h : MC :=
 (sR [mo (.box (.t 0)) 1,
 mo (.mv (.c (.bool false))) 2]
 (.seq (sR [oF 1 1 3,
 oL 3 4,
 mo (.bin false .eql (.t 4) (cI 0)) 5]
 (.cond (.t 5)
 (.seq (.regI [.op (oF 0 1 6),
 .op (oL 6 7),
 .op (mo (.bin false .eql (.t 7) (cI 0)) 8),
 .op (oV 8 9),
 .grp mg_4r,
 .op (oV 14 2)])
 .ret)
 .skip))
 (.seq (.regI [.op (oF 1 1 15),
 .op (oL 15 16),
 .op (mo (.bin false .gtr (.t 16) (cI 0)) 17),
 .op (oV 17 18),
 .grp mg_4s,
 .op (oV 22 23),
 .grp mg_4t,
 .op (oV 28 2)])
 .ret)))
theorem Wq_h {o_ : GOp} : Cn Tryz.prog 59 [GOp.v o_] [] (F_h o_) (fun z => .bool z) (fun z => []) := fun Q Q' h hQ => by
 refine acallM mc_h [] [] [.t 2] Tryz.func59 fun M => ?_
 unfold F_h at h
 unfold mc_h
 replace h := tY h
 refine tB ?_
 repeat' (first
 | (exact tZ)
 | ((first | refine oblg h ?_ | refine roomG h ?_ | refine fork h ?_ ?_ | refine forkS h ?_ ?_) <;> clear h <;> intro hc h)
 | (refine M.gv1 (ms := mg_4r) 14 [10,11,12,13] h ?_ ?_ <;> first
 | (clear h; intro K hK1; unfold mg_4r; refine tB ?_)
 | (clear h; intro b h; replace h := tY h; refine tB ?_))
 | (refine M.gv1 (ms := mg_4t) 28 [24,25,26,27] h ?_ ?_ <;> first
 | (clear h; intro K hK2; unfold mg_4t; refine tB ?_)
 | (clear h; intro b h; replace h := tY h; refine tB ?_))
 | (refine M.gv1 (ms := mg_4s) 22 [19,20,21] h ?_ ?_ <;> first
 | (clear h; intro K hK3; unfold mg_4s; refine tB ?_)
 | (clear h; intro b h; replace h := tY h; refine tB ?_))
 | ((first | refine hK1 _ ?_ | refine hK2 _ ?_ | refine hK3 _ ?_); exact tU; done)
 | (refine bfork (fun hc => ?_) (fun hc => ?_))
 | (refine tE ?_; (first | rw [M.lok_compU] | rw [M.lokD_compU]); refine tB ?_)
 | (refine tA ?_)
 | fail)
def F_1b (o_ : GOp) (base_ : Int) : Option Bool :=
 (F_h o_).bind fun y3 => jn (α := Bool) (bif y3 then bif decide (o_.Size = 0) then some true else bif decide (o_.From ≤ base_) then chk (in64 (base_ - o_.From)) (some (decide (o_.Size ≤ (base_ - o_.From)))) else some false else some false) fun j4 => some j4
@[irreducible] def mg_4u : List MOp := [gT 7 8 (.fad 1 (.t 2)),
 gT 7 9 (.ld none (.t 8)),
 gT 7 10 (.bin false .eql (.t 9) (cI 0)),
 gT 7 11 (.mv (.t 10)),
 gF 11 12 (.fad 0 (.t 2)),
 gF 11 13 (.ld none (.t 12)),
 gF 11 14 (.mv (.t 1)),
 gF 11 15 (.bin false .leq (.t 13) (.t 14)),
 gF 11 16 (.mv (.t 15)),
 gT 16 17 (.fad 1 (.t 2)),
 gT 16 18 (.ld none (.t 17)),
 gT 16 19 (.mv (.t 1)),
 gT 16 20 (.fad 0 (.t 2)),
 gT 16 21 (.ld none (.t 20)),
 gT 16 22 (.bin true .sub (.t 19) (.t 21)),
 gT 16 23 (.bin false .leq (.t 18) (.t 22)),
 gF 11 24 (.pick (.t 16) (.t 23) (.c (.bool false))),
 gT 7 25 (.pick (.t 11) (.c (.bool true)) (.t 24)),
 mo (.pick (.t 7) (.t 25) (.c (.bool false))) 26]
def mc_1b : MC :=
 (sR [mo (.box (.t 0)) 2,
 mo (.mv (.c (.bool false))) 4]
 (.seq (.regI [.op (mo (.ld (some 3) (.t 2)) 5),
 .op (mo (.call (.f 59) [(.t 5)] [] []) 6),
 .op (oV 6 7),
 .grp mg_4u,
 .op (oV 26 4)])
 .ret))
theorem Wq_1b {o_ : GOp} {base_ : Int} : Cn Tryz.prog 97 [GOp.v o_, .int .i64 base_] [] (F_1b o_ base_) (fun z => .bool z) (fun z => []) := fun Q Q' h hQ => by
 refine acallM mc_1b [] [] [.t 4] Tryz.func97 fun M => ?_
 unfold F_1b at h
 unfold mc_1b
 replace h := tY h
 refine tB ?_
 repeat' (first
 | (exact tZ)
 | ((first | refine oblg h ?_ | refine roomG h ?_ | refine fork h ?_ ?_ | refine forkS h ?_ ?_) <;> clear h <;> intro hc h)
 | (obtain ⟨y, hy, h⟩ := h; have hw := Wq_h.w hy; replace hw := tY hw; (first | refine M.sC hw ?_ | refine M.sD hw ?_); clear hw hy; refine tB ?_)
 | (refine M.gj1 (ms := mg_4u) [4] [] (fun y => [(26, .bool y)]) (fun y => []) h ?_ ?_ <;> first
 | (clear h; intro Qn K hK1 h; unfold mg_4u; replace h := tY h; refine tB ?_)
  |(clear h; intro y h; replace h := tY h; refine tB ?_))
 | (refine hK1 _ ?_; (try refine tB ?_); refine ⟨_, h, ?_⟩; exact tU0; done)
 | (refine tE ?_; (first | rw [M.lok_compU] | rw [M.lokD_compU]); refine tB ?_)
 | (refine tA ?_)
 | fail)
def F_i (o_ : GOp) (p_ : List UInt8) : Option Bool :=
 (F_1b o_ (p_.length : Int)).bind fun y2 => some (!y2)
def mc_i : MC :=
 (sR [mo (.box (.t 0)) 2,
 mo (.mv (.c (.bool false))) 3]
 (sR [mo (.ld (some 3) (.t 2)) 4,
 oL 1 5,
 mo (.len false (.t 5)) 6,
 mo (.call (.f 97) [(.t 4),(.t 6)] [] []) 7,
 mo (.not (.t 7)) 8,
 oV 8 3]
 .ret))
theorem Wq_i {o_ : GOp} {p_ : List UInt8} : Cn Tryz.prog 96 [GOp.v o_, .ptr 1000 0] [(1000, .cells [.sl (p_.map byteV)])] (F_i o_ p_) (fun z => .bool z) (fun z => [(1000, .cells [.sl (p_.map byteV)])]) := fun Q Q' h hQ => by
 refine acallM mc_i [] [1000] [.t 3] Tryz.func96 fun M => ?_
 unfold F_i at h
 unfold mc_i
 replace h := tY h
 refine tB ?_
 repeat' (first
 | (exact tZ)
 | ((first | refine oblg h ?_ | refine roomG h ?_ | refine fork h ?_ ?_ | refine forkS h ?_ ?_) <;> clear h <;> intro hc h)
 | (obtain ⟨y, hy, h⟩ := h; have hw := Wq_1b.w hy; replace hw := tY hw; (first | refine M.sC hw ?_ | refine M.sD hw ?_); clear hw hy; refine tB ?_)
 | (refine tE ?_; (first | rw [M.lok_compU] | rw [M.lokD_compU]); refine tB ?_)
 | (refine tA ?_)
 | fail)
def F_3c (fc0_ : List UInt8) (k31 : Int) (a32 : GOp) (x30 : Unit) : Option (Fl Unit Int) :=
 (F_i a32 fc0_).bind fun y40 => bif y40 then some (.ex k31) else some (.nx ())
def F_2g (s_ : List GOp) (fc0_ : List UInt8) : Option Int :=
 (forL (F_3c fc0_) s_ 0 ()).bind fun o => o.elim (fun x41 => some (-1)) (fun r42 => some r42)
@[irreducible] def mc_3c : MC :=
 (sR [mo (.bin false .lss (.t 8) (.t 7)) 9]
 (.seq (.cond (.t 9)
 .skip
 (.exit 0))
 (.seq (.block 1
 (sR [oV 8 10,
 oV 10 5]
 (sR [oV 1 11,
 oV 0 12,
 oV 5 13,
 mo (.iad 3 (.t 12) (.t 13)) 14,
 mo (.ld (some 3) (.t 14)) 15,
 mo (.call (.t 11) [(.t 15)] [1000] []) 16]
 (.cond (.t 16)
 (sR [oV 5 17,
 oV 17 4]
 .ret)
 .skip))))
 (.reg [mo (.bin true .add (.t 8) (cI 1)) 18,
 oV 18 8]))))
def mc_2g : MC :=
 (sR [oC 0 4]
 (.seq (sR [oV 0 6,
 mo (.len false (.t 6)) 7,
 oC 0 8]
 (.block 0
 (.loop mc_3c)))
 (sR [oC (-1) 4]
 .ret)))
theorem Wq_2g {s_ : List GOp} {fc0_ : List UInt8} : Cn Tryz.prog 82 [.sl (s_.map GOp.v), .fn (.func 96) [.ptr 1000 0]] [(1000, .cells [.sl (fc0_.map byteV)])] (F_2g s_ fc0_) (fun z => .int .i64 z) (fun z => [(1000, .cells [.sl (fc0_.map byteV)])]) := fun Q Q' h hQ => by
 refine acallM mc_2g [] [1000] [.t 4] Tryz.func82 fun M => ?_
 unfold F_2g at h
 unfold mc_2g
 replace h := tY h
 refine tB ?_
 repeat' (first
 | (exact tZ)
 | ((first | refine oblg h ?_ | refine roomG h ?_ | refine fork h ?_ ?_ | refine forkS h ?_ ?_) <;> clear h <;> intro hc h)
 | (obtain ⟨y, hy, h⟩ := h; have hw := Wq_i.w hy; replace hw := tY hw; (first | refine M.sC hw ?_ | refine M.sD hw ?_); clear hw hy; refine tB ?_)
 | (refine M.for1 (b := mc_3c) 8 [0,1,7] [1000] (fun x => []) (fun x => []) [] h ?_ ?_ ?_ <;> first
 | (clear h; intro k a x Qn K hK1 hkN1 ha1 h hf; have hl := fact_int (factsE_find (n := 7) hf.1 rfl); clear hf; have hkd := kD hkN1; have hkB1 := kB hkN1; have hkI1 := kI (k := k) (by omega); unfold F_3c at h; unfold mc_3c; replace h := tY h; refine tK ha1 hkd hkN1 hkB1 hkI1 ?_)
  |(clear h; intro x K h; replace h := And.left (And.intro h trivial); unfold mc_3c; replace h := tY h; refine tB ?_)
  |(clear h; (try refine tB ?_); exact tU0; done))
 | (simp only [ha1])
 | (refine hK1 _ ?_; (try refine tB ?_); refine ⟨_, h, ?_⟩; exact tU0; done)
 | (refine tE ?_; (first | rw [M.lok_compU] | rw [M.lokD_compU]); refine tB ?_)
 | (refine tA ?_)
 | fail)
def F_1c (s_ : List GOp) (fc0_ : List UInt8) : Option Bool :=
 (F_2g s_ fc0_).bind fun y2 => some (decide (0 ≤ y2))
def mc_1c : MC :=
 (sR [mo (.mv (.c (.bool false))) 4]
 (sR [oV 0 5,
 oV 1 6,
 mo (.call (.f 82) [(.t 5),(.t 6)] [1000] []) 7,
 mo (.bin false .geq (.t 7) (cI 0)) 8,
 oV 8 4]
 .ret))
theorem Wq_1c {s_ : List GOp} {fc0_ : List UInt8} : Cn Tryz.prog 57 [.sl (s_.map GOp.v), .fn (.func 96) [.ptr 1000 0]] [(1000, .cells [.sl (fc0_.map byteV)])] (F_1c s_ fc0_) (fun z => .bool z) (fun z => [(1000, .cells [.sl (fc0_.map byteV)])]) := fun Q Q' h hQ => by
 refine acallM mc_1c [] [1000] [.t 4] Tryz.func57 fun M => ?_
 unfold F_1c at h
 unfold mc_1c
 replace h := tY h
 refine tB ?_
 repeat' (first
 | (exact tZ)
 | ((first | refine oblg h ?_ | refine roomG h ?_ | refine fork h ?_ ?_ | refine forkS h ?_ ?_) <;> clear h <;> intro hc h)
 | (obtain ⟨y, hy, h⟩ := h; have hw := Wq_2g.w hy; replace hw := tY hw; (first | refine M.sC hw ?_ | refine M.sD hw ?_); clear hw hy; refine tB ?_)
 | (refine tE ?_; (first | rw [M.lok_compU] | rw [M.lokD_compU]); refine tB ?_)
 | (refine tA ?_)
 | fail)
def F_1d (k35 : Int) (a36 : GOp) (x34 : Int) : Option (Fl Int Int) :=
 jn (α := Int) (bif decide (a36.Size < 1) then some (a36.Data.length : Int) else some a36.Size) fun j40 => bif decide (x34 < j40) then some (.ex 3) else chk (in64 (x34 - j40)) (some (.nx (x34 - j40)))
def F_1e (base_ : List UInt8) (ops_ : List GOp) : Option Int :=
 grp ((decide (200 < (ops_.length : Int)) || decide (65536 < (base_.length : Int)))) fun b4 => bif b4 then some 3 else (forL F_1d ops_ 0 65536).bind fun o => o.elim (fun x41 => (F_1c ops_ base_).bind fun y46 => bif y46 then some 2 else some 0) (fun r42 => some r42)
@[irreducible] def mg_i : List MOp := [gF 12 13 (.ld none (.t 2)),
 gF 12 14 (.len false (.t 13)),
 gF 12 15 (.bin false .gtr (.t 14) (cI 65536)),
 mo (.pick (.t 12) (.c (.bool true)) (.t 15)) 16]
@[irreducible] def mc_4v : MC :=
 (.seq (sR [oV 8 30,
 oV 5 31,
 mo (.bin false .gtr (.t 30) (.t 31)) 32]
 (.cond (.t 32)
 (sR [oC 3 4]
 .ret)
 .skip))
 (.reg [oV 5 33,
 oV 8 34,
 mo (.bin true .sub (.t 33) (.t 34)) 35,
 oV 35 5]))
@[irreducible] def mc_1d : MC :=
 (sR [mo (.bin false .lss (.t 19) (.t 18)) 20]
 (.seq (.cond (.t 20)
 .skip
 (.exit 0))
 (.seq (.block 1
 (sR [mo (.iad 3 (.t 17) (.t 19)) 21,
 mo (.ld (some 3) (.t 21)) 22,
 mo (.alloc [(.int .i64 0),(.int .i64 0),(.sl [])]) 7,
 ⟨.st 3 (.t 7) (.t 22), none, none⟩]
 (sR [oF 1 7 23,
 oL 23 24,
 oV 24 8]
 (.cut (sR [oV 8 25,
 mo (.bin false .lss (.t 25) (cI 1)) 26]
 (.cond (.t 26)
 (.note (.gc [1,2,5,7,17,18,19]) (.reg [oF 2 7 27,
 oL 27 28,
 mo (.len false (.t 28)) 29,
 oV 29 8]))
 .skip))
 mc_4v))))
 (.reg [mo (.bin true .add (.t 19) (cI 1)) 36,
 oV 36 19]))))
def mc_1e : MC :=
 (sR [mo (.box (.t 0)) 2,
 oC 0 4]
 (.seq (.seq (.regI [.op (oV 1 9),
 .op (mo (.len false (.t 9)) 10),
 .op (mo (.bin false .gtr (.t 10) (cI 200)) 11),
 .op (oV 11 12),
 .grp mg_i])
 (.cond (.t 16)
 (sR [oC 3 4]
 .ret)
 .skip))
 (sR [oC 65536 5]
 (.seq (sR [oV 1 17,
 mo (.len false (.t 17)) 18,
 oC 0 19]
 (.block 0
 (.loop mc_1d)))
 (.seq (sR [oV 1 37,
 mo (.mkfn 96 [(.t 2)]) 38,
 mo (.call (.f 57) [(.t 37),(.t 38)] [2] []) 39]
 (.cond (.t 39)
 (sR [oC 2 4]
 .ret)
 .skip))
 (sR [oC 0 4]
 .ret))))))
theorem Wq_1e {base_ : List UInt8} {ops_ : List GOp} : Cn Tryz.prog 88 [.sl (base_.map byteV), .sl (ops_.map GOp.v)] [] (F_1e base_ ops_) (fun z => .int .i64 z) (fun z => []) := fun Q Q' h hQ => by
 refine acallM mc_1e [] [] [.t 4] Tryz.func88 fun M => ?_
 unfold F_1e at h
 unfold mc_1e
 replace h := tY h
 refine tB ?_
 repeat' (first
 | (exact tZ)
 | ((first | refine oblg h ?_ | refine roomG h ?_ | refine fork h ?_ ?_ | refine forkS h ?_ ?_) <;> clear h <;> intro hc h)
 | (obtain ⟨y, hy, h⟩ := h; have hw := acall_swe 1000 2 (Wq_1c.w hy); replace hw := tY hw; (first | refine M.sC hw ?_ | refine M.sD hw ?_); clear hw hy; refine tB ?_)
 | (refine M.jn1 (b := mc_4v) [1,2,5,17,18,19] [2] (fun y => [(8, .int .i64 y)]) (fun y => []) [] h ?_ ?_ <;> first
 | (clear h; intro Qn K hK1 h; replace h := tY h; refine tB ?_)
  |(clear h; intro y h; unfold mc_4v; replace h := tY h; refine tB ?_))
 | (refine M.for1 (b := mc_1d) 19 [1,2,17,18] [2] (fun x => [(5, .int .i64 x)]) (fun x => []) [] h ?_ ?_ ?_ <;> first
 | (clear h; intro k a x Qn K hK2 hkN2 ha2 h hf; have hl := fact_int (factsE_find (n := 18) hf.1 rfl); clear hf; have hkd := kD hkN2; have hkB2 := kB hkN2; have hkI2 := kI (k := k) (by omega); unfold F_1d at h; unfold mc_1d; replace h := tY h; refine tK ha2 hkd hkN2 hkB2 hkI2 ?_)
  |(clear h; intro x K h; replace h := And.left (And.intro h trivial); unfold mc_1d; replace h := tY h; refine tB ?_)
  |(clear h; (try refine tB ?_); exact tU0; done))
 | (refine M.gv1 (ms := mg_i) 16 [13,14,15] h ?_ ?_ <;> first
 | (clear h; intro K hK3; unfold mg_i; refine tB ?_)
 | (clear h; intro b h; replace h := tY h; refine tB ?_))
 | (simp only [ha2])
 | ((first | refine hK1 _ ?_ | refine hK2 _ ?_); (try refine tB ?_); refine ⟨_, h, ?_⟩; exact tU0; done)
 | (refine hK3 _ ?_; exact tU; done)
 | (refine bfork (fun hc => ?_) (fun hc => ?_))
 | (refine tE ?_; (first | rw [M.lok_compU] | rw [M.lokD_compU]); refine tB ?_)
 | (refine tA ?_)
 | fail)
def F_1f (base_ : List UInt8) (k20 : Int) (a21 : GOp) (x19 : List UInt8) : Option (List UInt8) :=
 chk (in64 (a21.From + a21.Size)) (chk (inc a21.From (a21.From + a21.Size) base_.length) (chk (room (x19.length + ((base_.take (((a21.From + a21.Size)).toNat)).drop ((a21.From).toNat)).length) 1) (chk (room ((x19 ++ ((base_.take (((a21.From + a21.Size)).toNat)).drop ((a21.From).toNat))).length + a21.Data.length) 1) (some ((x19 ++ ((base_.take (((a21.From + a21.Size)).toNat)).drop ((a21.From).toNat))) ++ a21.Data)))))
def F_j (base_ : List UInt8) (ops_ : List GOp) : Option ((List UInt8) × Int) :=
 (F_1e base_ ops_).bind fun y4 => bif (!decide (y4 = 0)) then some ([], y4) else (foldL (F_1f base_) ops_ 0 []).bind fun x22 => some (x22,0)
@[irreducible] def mc_1f : MC :=
 (sR [mo (.bin false .lss (.t 18) (.t 17)) 19]
 (.seq (.cond (.t 19)
 .skip
 (.exit 0))
 (.seq (.block 1
 (sR [mo (.iad 3 (.t 16) (.t 18)) 20,
 mo (.ld (some 3) (.t 20)) 21,
 mo (.alloc [(.int .i64 0),(.int .i64 0),(.sl [])]) 9,
 ⟨.st 3 (.t 9) (.t 21), none, none⟩]
 (.regD [oV 7 22,
 oV 0 23,
 oF 0 9 24,
 oL 24 25,
 oF 0 9 26,
 oL 26 27,
 oF 1 9 28,
 oL 28 29,
 mo (.bin true .add (.t 27) (.t 29)) 30,
 mo (.slc 1 (.t 23) (some (.t 25)) (some (.t 30))) 31,
 mo (.app 1 1 (.t 22) (.t 31)) 32,
 oF 2 9 33,
 oL 33 34,
 mo (.app 1 1 (.t 32) (.t 34)) 35,
 oV 35 7]
 [[],[],[],[2],[],[4],[],[6],[5,7],[1,3,8],[0,9],[],[11],[10,12,10],[13,13,0,1,2,3,4,5,6,7,8,9,10,11,12,13]]
 [[],[],[],[2],[],[4],[],[6],[4,5,6,7],[1,2,3,4,5,6,7,8],[0,1,2,3,4,5,6,7,8,9],[],[11],[0,1,2,3,4,5,6,7,8,9,10,11,12],[0,1,2,3,4,5,6,7,8,9,10,11,12,13]])))
 (.reg [mo (.bin true .add (.t 18) (cI 1)) 36,
 oV 36 18]))))
def mc_j : MC :=
 (sR [mo (.mv (.c (.sl []))) 4,
 oC 0 5]
 (.seq (sR [oV 0 10,
 oV 1 11,
 mo (.call (.f 88) [(.t 10),(.t 11)] [] []) 12,
 oV 12 6]
 (sR [oV 6 13,
 mo (.bin false .neq (.t 13) (cI 0)) 14]
 (.cond (.t 14)
 (.seq (.note (.gc [6]) (.reg [oV 6 15,
 mo (.mv (.c (.sl []))) 4,
 oV 15 5]))
 .ret)
 .skip)))
 (sR [mo (.mv (.c .nils)) 7]
 (.seq (.seq (.note (.gc [0,1,7]) (.reg [oV 1 16,
 mo (.len false (.t 16)) 17,
 oC 0 18]))
 (.block 0
 (.loop mc_1f)))
 (sR [oV 7 37,
 oV 37 4,
 oC 0 5]
 .ret)))))
theorem Wq_j {base_ : List UInt8} {ops_ : List GOp} : Cn Tryz.prog 74 [.sl (base_.map byteV), .sl (ops_.map GOp.v)] [] (F_j base_ ops_) (fun z => .tup [.sl (z.1.map byteV), .int .i64 z.2]) (fun z => []) := fun Q Q' h hQ => by
 refine acallM mc_j [.fz 4] [] [.t 4, .t 5] Tryz.func74 fun M => ?_
 unfold F_j at h
 unfold mc_j
 replace h := tY h
 refine tB ?_
 repeat' (first
 | (exact tZ)
 | ((first | refine oblg h ?_ | refine roomG h ?_ | refine fork h ?_ ?_ | refine forkS h ?_ ?_) <;> clear h <;> intro hc h)
 | (obtain ⟨y, hy, h⟩ := h; have hw := Wq_1e.w hy; replace hw := tY hw; (first | refine M.sC hw ?_ | refine M.sD hw ?_); clear hw hy; refine tB ?_)
 | (refine M.fold1 (b := mc_1f) 18 [0,16,17] [] (fun x => [(7, .osl 2007 1 0 x.length)]) (fun x => [.o 2007 (.arr 1 (x.map byteV))]) [.gc [0,7,16,17,18], .acc 7 2007 1] h ?_ ?_ ?_ <;> first
 | (clear h; intro k a x Qn K hK1 hkN1 ha1 h hf; have hl := fact_int (factsE_find (n := 17) hf.1 rfl); clear hf; have hkd := kD hkN1; have hkB1 := kB hkN1; have hkI1 := kI (k := k) (by omega); unfold F_1f at h; unfold mc_1f; replace h := tY h; refine tK ha1 hkd hkN1 hkB1 hkI1 ?_)
  |(clear h; intro x K h; replace h := And.left (And.intro h trivial); unfold mc_1f; replace h := tY h; refine tB ?_)
  |(clear h; (try refine tB ?_); exact tU0; done))
 | (simp only [ha1])
 | (refine hK1 _ ?_; (try refine tB ?_); refine ⟨_, h, ?_⟩; exact tU0; done)
 | (refine tE ?_; (first | rw [M.lok_compU] | rw [M.lokD_compU]); refine tB ?_)
 | (refine tA ?_)
 | fail)
noncomputable def FR_2 : Nat → (List GPacked) → (List (Int × Int)) → Int → Option ((List UInt8) × Bool)
 | 0, _, _, _ => none
 | n + 1, l_, at_, i_ =>
 chk (inb i_ l_.length) (bif (!((l_.getD (i_).toNat default).Delta)) then chk (inb i_ l_.length) ((F_r ((l_.getD (i_).toNat default).Data)).bind fun y4 => some (y4, true)) else chk (inb i_ l_.length) ((FR_2 n l_ at_ ((aget ((l_.getD (i_).toNat default).Base) at_).getD 0)).bind fun y6 => bif (!y6.2) then some ([], false) else chk (inb i_ l_.length) ((F_j y6.1 ((l_.getD (i_).toNat default).Ops)).bind fun y8 => some (y8.1, decide (y8.2 = 0)))))
noncomputable def F_2 (l_ : List GPacked) (at_ : List (Int × Int)) (i_ : Int) : Option ((List UInt8) × Bool) := lim fun n => FR_2 n l_ at_ i_
def mc_2 : MC :=
 (sR [mo (.mv (.c (.sl []))) 6,
 mo (.mv (.c (.bool false))) 7]
 (.seq (sR [oV 0 12,
 oV 2 13,
 mo (.iad 5 (.t 12) (.t 13)) 14,
 oF 1 14 15,
 oL 15 16,
 mo (.not (.t 16)) 17]
 (.cond (.t 17)
 (.seq (.note (.gc [0,2]) (.reg [oV 0 18,
 oV 2 19,
 mo (.iad 5 (.t 18) (.t 19)) 20,
 oF 4 20 21,
 oL 21 22,
 mo (.call (.f 34) [(.t 22)] [] []) 23,
 oV 23 6,
 mo (.mv (.c (.bool true))) 7]))
 .ret)
 .skip))
 (.seq (.note (.gc [0,1,2]) (.reg [oV 0 25,
 oV 1 26,
 oV 1 27,
 oV 0 28,
 oV 2 29,
 mo (.iad 5 (.t 28) (.t 29)) 30,
 oF 2 30 31,
 oL 31 32,
 mo (.mp (.lku (.int .i64) false (.int .i64 0)) [(.t 27),(.t 32)]) 33,
 mo (.call (.f 47) [(.t 25),(.t 26),(.t 33)] [] []) 34,
 oV 34 24,
 mo (.ext 0 (.t 24)) 35,
 mo (.ext 1 (.t 24)) 36,
 oV 35 8,
 oV 36 9]))
 (.seq (sR [oV 9 37,
 mo (.not (.t 37)) 38]
 (.cond (.t 38)
 (sR [mo (.mv (.c (.sl []))) 6,
 mo (.mv (.c (.bool false))) 7]
 .ret)
 .skip))
 (.seq (.note (.gc [0,2,8]) (.reg [oV 8 40,
 oV 0 41,
 oV 2 42,
 mo (.iad 5 (.t 41) (.t 42)) 43,
 oF 3 43 44,
 oL 44 45,
 mo (.call (.f 74) [(.t 40),(.t 45)] [] []) 46,
 oV 46 39,
 mo (.ext 0 (.t 39)) 47,
 mo (.ext 1 (.t 39)) 48,
 oV 47 10,
 oV 48 11]))
 (.seq (.note (.gc [10,11]) (.reg [oV 10 49,
 oV 11 50,
 mo (.bin false .eql (.t 50) (cI 0)) 51,
 oV 49 6,
 oV 51 7]))
 .ret))))))
theorem Wq_2 {n : Nat} (ih_pack_bytesOf : ∀ {l_ : List GPacked} {at_ : List (Int × Int)} {i_ : Int} {y : (List UInt8) × Bool}, FR_2 n l_ at_ i_ = some y → ACall Tryz.prog 47 [.sl (l_.map GPacked.v), (mpV (.int .i64) (V.int .i64) (V.int .i64)) at_, .int .i64 i_] [] (fun r H => r = .tup [.sl (y.1.map byteV), .bool y.2] ∧ H = [])) (l_ : List GPacked) (at_ : List (Int × Int)) (i_ : Int) {Q : (List UInt8) × Bool → Prop} {Q' : V → Heap → Prop} (h : Ok (FR_2 (n + 1) l_ at_ i_) Q) (hQ : ∀ z, Q z → Q' (.tup [.sl (z.1.map byteV), .bool z.2]) []) : ACall Tryz.prog 47 [.sl (l_.map GPacked.v), (mpV (.int .i64) (V.int .i64) (V.int .i64)) at_, .int .i64 i_] [] Q' := by
 refine acallM mc_2 [.fz 6] [] [.t 6, .t 7] Tryz.func47 fun M => ?_
 simp only [FR_2] at h
 unfold mc_2
 replace h := tY h
 refine tB ?_
 repeat' (first
 | (exact tZ)
 | ((first | refine oblg h ?_ | refine roomG h ?_ | refine fork h ?_ ?_ | refine forkS h ?_ ?_) <;> clear h <;> intro hc h)
 | (obtain ⟨y, hy, h⟩ := h; (first | with_reducible first | have hw := Wq_r.w hy | have hw := ih_pack_bytesOf hy | have hw := Wq_j.w hy); replace hw := tY hw; (first | refine M.sC hw ?_ | refine M.sD hw ?_); clear hw hy; refine tB ?_)
 | (refine tE ?_; (first | rw [M.lok_compU] | rw [M.lokD_compU]); refine tB ?_)
 | (refine tA ?_)
 | fail)
theorem WG_2 : ∀ n, (∀ {l_ : List GPacked} {at_ : List (Int × Int)} {i_ : Int} {y : (List UInt8) × Bool}, FR_2 n l_ at_ i_ = some y → ACall Tryz.prog 47 [.sl (l_.map GPacked.v), (mpV (.int .i64) (V.int .i64) (V.int .i64)) at_, .int .i64 i_] [] (fun r H => r = .tup [.sl (y.1.map byteV), .bool y.2] ∧ H = []))
 | 0 => fun hy => by simp only [FR_2] at hy; cases hy
 | n + 1 => by
  have ih_pack_bytesOf := @WG_2 n
  exact fun hy => Wq_2 ih_pack_bytesOf _ _ _ (Q := (· = _)) ⟨_, hy, rfl⟩ fun | _, rfl => ⟨rfl, rfl⟩
theorem W_2 : ∀ {l_ : List GPacked} {at_ : List (Int × Int)} {i_ : Int} {y : (List UInt8) × Bool}, F_2 l_ at_ i_ = some y → ACall Tryz.prog 47 [.sl (l_.map GPacked.v), (mpV (.int .i64) (V.int .i64) (V.int .i64)) at_, .int .i64 i_] [] (fun r H => r = .tup [.sl (y.1.map byteV), .bool y.2] ∧ H = []) := fun hy => by
 obtain ⟨n, hn⟩ := lim_inv hy
 exact (WG_2 n) hn
def F_1g (s_ : Str) (prefix_ : Str) : Option Bool :=
 jn (α := Bool) (bif decide ((prefix_.length : Int) ≤ (s_.length : Int)) then chk (inc 0 (prefix_.length : Int) s_.length) (some (decide ((s_.take (((prefix_.length : Int)).toNat)) = prefix_))) else some false) fun j2 => some j2
@[irreducible] def mg_4w : List MOp := [gT 10 11 (.mv (.t 0)),
 gT 10 12 (.mv (.t 1)),
 gT 10 13 (.len true (.t 12)),
 gT 10 14 (.sls (.t 11) none (some (.t 13))),
 gT 10 15 (.mv (.t 1)),
 gT 10 16 (.bin false .eql (.t 14) (.t 15)),
 mo (.pick (.t 10) (.t 16) (.c (.bool false))) 17]
def mc_1g : MC :=
 (sR [mo (.mv (.c (.bool false))) 4]
 (.seq (.regI [.op (oV 0 5),
 .op (mo (.len true (.t 5)) 6),
 .op (oV 1 7),
 .op (mo (.len true (.t 7)) 8),
 .op (mo (.bin false .geq (.t 6) (.t 8)) 9),
 .op (oV 9 10),
 .grp mg_4w,
 .op (oV 17 4)])
 .ret))
theorem Wq_1g {s_ prefix_ : Str} : Cn Tryz.prog 98 [.str s_, .str prefix_] [] (F_1g s_ prefix_) (fun z => .bool z) (fun z => []) := fun Q Q' h hQ => by
 refine acallM mc_1g [] [] [.t 4] Tryz.func98 fun M => ?_
 unfold F_1g at h
 unfold mc_1g
 replace h := tY h
 refine tB ?_
 repeat' (first
 | (exact tZ)
 | ((first | refine oblg h ?_ | refine roomG h ?_ | refine fork h ?_ ?_ | refine forkS h ?_ ?_) <;> clear h <;> intro hc h)
 | (refine M.gj1 (ms := mg_4w) [4] [] (fun y => [(17, .bool y)]) (fun y => []) h ?_ ?_ <;> first
 | (clear h; intro Qn K hK1 h; unfold mg_4w; replace h := tY h; refine tB ?_)
  |(clear h; intro y h; replace h := tY h; refine tB ?_))
 | (refine hK1 _ ?_; (try refine tB ?_); refine ⟨_, h, ?_⟩; exact tU0; done)
 | (refine tE ?_; (first | rw [M.lok_compU] | rw [M.lokD_compU]); refine tB ?_)
 | (refine tA ?_)
 | fail)
def F_1h (s_ : Str) (prefix_ : Str) : Option (Str × Bool) :=
 (F_1g s_ prefix_).bind fun y4 => bif (!y4) then some (s_, false) else chk (inc (prefix_.length : Int) (s_.length : Int) s_.length) (some ((s_.drop (((prefix_.length : Int)).toNat)), true))
def mc_1h : MC :=
 (sR [mo (.mv (.c (.str []))) 4,
 mo (.mv (.c (.bool false))) 5]
 (.seq (sR [oV 0 6,
 oV 1 7,
 mo (.call (.f 98) [(.t 6),(.t 7)] [] []) 8,
 mo (.not (.t 8)) 9]
 (.cond (.t 9)
 (sR [oV 0 10,
 oV 10 4,
 mo (.mv (.c (.bool false))) 5]
 .ret)
 .skip))
 (sR [oV 0 11,
 oV 1 12,
 mo (.len true (.t 12)) 13,
 mo (.sls (.t 11) (some (.t 13)) none) 14,
 oV 14 4,
 mo (.mv (.c (.bool true))) 5]
 .ret)))
theorem Wq_1h {s_ prefix_ : Str} : Cn Tryz.prog 89 [.str s_, .str prefix_] [] (F_1h s_ prefix_) (fun z => .tup [.str z.1, .bool z.2]) (fun z => []) := fun Q Q' h hQ => by
 refine acallM mc_1h [] [] [.t 4, .t 5] Tryz.func89 fun M => ?_
 unfold F_1h at h
 unfold mc_1h
 replace h := tY h
 refine tB ?_
 repeat' (first
 | (exact tZ)
 | ((first | refine oblg h ?_ | refine roomG h ?_ | refine fork h ?_ ?_ | refine forkS h ?_ ?_) <;> clear h <;> intro hc h)
 | (obtain ⟨y, hy, h⟩ := h; have hw := Wq_1g.w hy; replace hw := tY hw; (first | refine M.sC hw ?_ | refine M.sD hw ?_); clear hw hy; refine tB ?_)
 | (refine tE ?_; (first | rw [M.lok_compU] | rw [M.lokD_compU]); refine tB ?_)
 | (refine tA ?_)
 | fail)
def F_6 (s_ : Str) (prefix_ : Str) : Option (Str × Bool) :=
 (F_1h s_ prefix_).bind fun y2 => some (y2.1, y2.2)
def mc_6 : MC :=
 (sR [mo (.mv (.c (.str []))) 4,
 mo (.mv (.c (.bool false))) 5]
 (sR [oV 0 6,
 oV 1 7,
 mo (.call (.f 89) [(.t 6),(.t 7)] [] []) 8,
 mo (.ext 0 (.t 8)) 9,
 mo (.ext 1 (.t 8)) 10,
 oV 9 4,
 oV 10 5]
 .ret))
theorem Wq_6 {s_ prefix_ : Str} : Cn Tryz.prog 75 [.str s_, .str prefix_] [] (F_6 s_ prefix_) (fun z => .tup [.str z.1, .bool z.2]) (fun z => []) := fun Q Q' h hQ => by
 refine acallM mc_6 [] [] [.t 4, .t 5] Tryz.func75 fun M => ?_
 unfold F_6 at h
 unfold mc_6
 replace h := tY h
 refine tB ?_
 repeat' (first
 | (exact tZ)
 | ((first | refine oblg h ?_ | refine roomG h ?_ | refine fork h ?_ ?_ | refine forkS h ?_ ?_) <;> clear h <;> intro hc h)
 | (obtain ⟨y, hy, h⟩ := h; have hw := Wq_1h.w hy; replace hw := tY hw; (first | refine M.sC hw ?_ | refine M.sD hw ?_); clear hw hy; refine tB ?_)
 | (refine tE ?_; (first | rw [M.lok_compU] | rw [M.lokD_compU]); refine tB ?_)
 | (refine tA ?_)
 | fail)
def F_2h (s_ : Str) (suffix_ : Str) : Option Bool :=
 jn (α := Bool) (bif decide ((suffix_.length : Int) ≤ (s_.length : Int)) then chk (in64 ((s_.length : Int) - (suffix_.length : Int))) (chk (inc ((s_.length : Int) - (suffix_.length : Int)) (s_.length : Int) s_.length) (some (decide ((s_.drop ((((s_.length : Int) - (suffix_.length : Int))).toNat)) = suffix_)))) else some false) fun j2 => some j2
@[irreducible] def mg_4x : List MOp := [gT 10 11 (.mv (.t 0)),
 gT 10 12 (.mv (.t 0)),
 gT 10 13 (.len true (.t 12)),
 gT 10 14 (.mv (.t 1)),
 gT 10 15 (.len true (.t 14)),
 gT 10 16 (.bin true .sub (.t 13) (.t 15)),
 gT 10 17 (.sls (.t 11) (some (.t 16)) none),
 gT 10 18 (.mv (.t 1)),
 gT 10 19 (.bin false .eql (.t 17) (.t 18)),
 mo (.pick (.t 10) (.t 19) (.c (.bool false))) 20]
def mc_2h : MC :=
 (sR [mo (.mv (.c (.bool false))) 4]
 (.seq (.regI [.op (oV 0 5),
 .op (mo (.len true (.t 5)) 6),
 .op (oV 1 7),
 .op (mo (.len true (.t 7)) 8),
 .op (mo (.bin false .geq (.t 6) (.t 8)) 9),
 .op (oV 9 10),
 .grp mg_4x,
 .op (oV 20 4)])
 .ret))
theorem Wq_2h {s_ suffix_ : Str} : Cn Tryz.prog 111 [.str s_, .str suffix_] [] (F_2h s_ suffix_) (fun z => .bool z) (fun z => []) := fun Q Q' h hQ => by
 refine acallM mc_2h [] [] [.t 4] Tryz.func111 fun M => ?_
 unfold F_2h at h
 unfold mc_2h
 replace h := tY h
 refine tB ?_
 repeat' (first
 | (exact tZ)
 | ((first | refine oblg h ?_ | refine roomG h ?_ | refine fork h ?_ ?_ | refine forkS h ?_ ?_) <;> clear h <;> intro hc h)
 | (refine M.gj1 (ms := mg_4x) [4] [] (fun y => [(20, .bool y)]) (fun y => []) h ?_ ?_ <;> first
 | (clear h; intro Qn K hK1 h; unfold mg_4x; replace h := tY h; refine tB ?_)
  |(clear h; intro y h; replace h := tY h; refine tB ?_))
 | (refine hK1 _ ?_; (try refine tB ?_); refine ⟨_, h, ?_⟩; exact tU0; done)
 | (refine tE ?_; (first | rw [M.lok_compU] | rw [M.lokD_compU]); refine tB ?_)
 | (refine tA ?_)
 | fail)
def F_2i (s_ : Str) (suffix_ : Str) : Option Str :=
 (F_2h s_ suffix_).bind fun y4 => bif y4 then chk (in64 ((s_.length : Int) - (suffix_.length : Int))) (chk (inc 0 ((s_.length : Int) - (suffix_.length : Int)) s_.length) (some (s_.take ((((s_.length : Int) - (suffix_.length : Int))).toNat)))) else some s_
def mc_2i : MC :=
 (sR [mo (.mv (.c (.str []))) 4]
 (.seq (sR [oV 0 5,
 oV 1 6,
 mo (.call (.f 111) [(.t 5),(.t 6)] [] []) 7]
 (.cond (.t 7)
 (sR [oV 0 8,
 oV 0 9,
 mo (.len true (.t 9)) 10,
 oV 1 11,
 mo (.len true (.t 11)) 12,
 mo (.bin true .sub (.t 10) (.t 12)) 13,
 mo (.sls (.t 8) none (some (.t 13))) 14,
 oV 14 4]
 .ret)
 .skip))
 (sR [oV 0 15,
 oV 15 4]
 .ret)))
theorem Wq_2i {s_ suffix_ : Str} : Cn Tryz.prog 102 [.str s_, .str suffix_] [] (F_2i s_ suffix_) (fun z => .str z) (fun z => []) := fun Q Q' h hQ => by
 refine acallM mc_2i [] [] [.t 4] Tryz.func102 fun M => ?_
 unfold F_2i at h
 unfold mc_2i
 replace h := tY h
 refine tB ?_
 repeat' (first
 | (exact tZ)
 | ((first | refine oblg h ?_ | refine roomG h ?_ | refine fork h ?_ ?_ | refine forkS h ?_ ?_) <;> clear h <;> intro hc h)
 | (obtain ⟨y, hy, h⟩ := h; have hw := Wq_2h.w hy; replace hw := tY hw; (first | refine M.sC hw ?_ | refine M.sD hw ?_); clear hw hy; refine tB ?_)
 | (refine tE ?_; (first | rw [M.lok_compU] | rw [M.lokD_compU]); refine tB ?_)
 | (refine tA ?_)
 | fail)
def F_s (s_ : Str) (suffix_ : Str) : Option Str :=
 (F_2i s_ suffix_).bind fun y2 => some y2
def mc_s : MC :=
 (sR [mo (.mv (.c (.str []))) 4]
 (sR [oV 0 5,
 oV 1 6,
 mo (.call (.f 102) [(.t 5),(.t 6)] [] []) 7,
 oV 7 4]
 .ret))
theorem Wq_s {s_ suffix_ : Str} : Cn Tryz.prog 92 [.str s_, .str suffix_] [] (F_s s_ suffix_) (fun z => .str z) (fun z => []) := fun Q Q' h hQ => by
 refine acallM mc_s [] [] [.t 4] Tryz.func92 fun M => ?_
 unfold F_s at h
 unfold mc_s
 replace h := tY h
 refine tB ?_
 repeat' (first
 | (exact tZ)
 | ((first | refine oblg h ?_ | refine roomG h ?_ | refine fork h ?_ ?_ | refine forkS h ?_ ?_) <;> clear h <;> intro hc h)
 | (obtain ⟨y, hy, h⟩ := h; have hw := Wq_2i.w hy; replace hw := tY hw; (first | refine M.sC hw ?_ | refine M.sD hw ?_); clear hw hy; refine tB ?_)
 | (refine tE ?_; (first | rw [M.lok_compU] | rw [M.lokD_compU]); refine tB ?_)
 | (refine tA ?_)
 | fail)
def F_2j (s_ : Str) (sep_ : Str) : Option (Str × Str × Bool) :=
 (ix1 s_ sep_).bind fun y4 => bif decide (0 ≤ y4) then chk (inc 0 y4 s_.length) (chk (in64 (y4 + (sep_.length : Int))) (chk (inc (y4 + (sep_.length : Int)) (s_.length : Int) s_.length) (some ((s_.take ((y4).toNat)), (s_.drop (((y4 + (sep_.length : Int))).toNat)), true)))) else some (s_, [], false)
def mc_2j : MC :=
 (sR [mo (.mv (.c (.str []))) 4,
 mo (.mv (.c (.str []))) 5,
 mo (.mv (.c (.bool false))) 6]
 (.seq (sR [oV 0 8,
 oV 1 9,
 mo (.call (.f 110) [(.t 8),(.t 9)] [] []) 10,
 oV 10 7]
 (sR [oV 7 11,
 mo (.bin false .geq (.t 11) (cI 0)) 12]
 (.cond (.t 12)
 (.seq (.note (.gc [0,1,7]) (.regD [oV 0 13,
 oV 7 14,
 mo (.sls (.t 13) none (some (.t 14))) 15,
 oV 0 16,
 oV 7 17,
 oV 1 18,
 mo (.len true (.t 18)) 19,
 mo (.bin true .add (.t 17) (.t 19)) 20,
 mo (.sls (.t 16) (some (.t 20)) none) 21,
 oV 15 4,
 oV 21 5,
 mo (.mv (.c (.bool true))) 6]
 [[],[],[0,1],[],[],[],[5],[4,6],[3,7],[2,0,1,2],[8,9,0,1,2,3,4,5,6,7,8,9],[10,0,1,2,3,4,5,6,7,8,9,10]]
 [[],[],[0,1],[],[],[],[5],[4,5,6],[3,4,5,6,7],[0,1,2],[0,1,2,3,4,5,6,7,8,9],[0,1,2,3,4,5,6,7,8,9,10]]))
 .ret)
 .skip)))
 (.seq (.note (.gc [0]) (.reg [oV 0 22,
 oV 22 4,
 mo (.mv (.c (.str []))) 5,
 mo (.mv (.c (.bool false))) 6]))
 .ret)))
theorem Wq_2j {s_ sep_ : Str} : Cn Tryz.prog 101 [.str s_, .str sep_] [] (F_2j s_ sep_) (fun z => .tup [.str z.1, .str z.2.1, .bool z.2.2]) (fun z => []) := fun Q Q' h hQ => by
 refine acallM mc_2j [] [] [.t 4, .t 5, .t 6] Tryz.func101 fun M => ?_
 unfold F_2j at h
 unfold mc_2j
 replace h := tY h
 refine tB ?_
 repeat' (first
 | (exact tZ)
 | ((first | refine oblg h ?_ | refine roomG h ?_ | refine fork h ?_ ?_ | refine forkS h ?_ ?_) <;> clear h <;> intro hc h)
 | (obtain ⟨y, hy, h⟩ := h; have hw := W_77 hy; replace hw := tY hw; (first | refine M.sC hw ?_ | refine M.sD hw ?_); clear hw hy; refine tB ?_)
 | (refine tE ?_; (first | rw [M.lok_compU] | rw [M.lokD_compU]); refine tB ?_)
 | (refine tA ?_)
 | fail)
def F_t (s_ : Str) (sep_ : Str) : Option (Str × Str × Bool) :=
 (F_2j s_ sep_).bind fun y2 => some (y2.1, y2.2.1, y2.2.2)
def mc_t : MC :=
 (sR [mo (.mv (.c (.str []))) 4,
 mo (.mv (.c (.str []))) 5,
 mo (.mv (.c (.bool false))) 6]
 (sR [oV 0 7,
 oV 1 8,
 mo (.call (.f 101) [(.t 7),(.t 8)] [] []) 9,
 mo (.ext 0 (.t 9)) 10,
 mo (.ext 1 (.t 9)) 11,
 mo (.ext 2 (.t 9)) 12,
 oV 10 4,
 oV 11 5,
 oV 12 6]
 .ret))
theorem Wq_t {s_ sep_ : Str} : Cn Tryz.prog 91 [.str s_, .str sep_] [] (F_t s_ sep_) (fun z => .tup [.str z.1, .str z.2.1, .bool z.2.2]) (fun z => []) := fun Q Q' h hQ => by
 refine acallM mc_t [] [] [.t 4, .t 5, .t 6] Tryz.func91 fun M => ?_
 unfold F_t at h
 unfold mc_t
 replace h := tY h
 refine tB ?_
 repeat' (first
 | (exact tZ)
 | ((first | refine oblg h ?_ | refine roomG h ?_ | refine fork h ?_ ?_ | refine forkS h ?_ ?_) <;> clear h <;> intro hc h)
 | (obtain ⟨y, hy, h⟩ := h; have hw := Wq_2j.w hy; replace hw := tY hw; (first | refine M.sC hw ?_ | refine M.sD hw ?_); clear hw hy; refine tB ?_)
 | (refine tE ?_; (first | rw [M.lok_compU] | rw [M.lokD_compU]); refine tB ?_)
 | (refine tA ?_)
 | fail)
def F_4e (k40 : Int) (a33 : Str) (x32 : List GItem) : Option (Fl (List GItem) Empty) :=
 (F_s a33 [10]).bind fun y43 => (F_t y43 [32]).bind fun y44 => (atoiI y44.1).bind fun y46 => chk (room (x32.length + [(GItem.mk y44.2.1 y46)].length) 24) (some (.nx (x32 ++ [(GItem.mk y44.2.1 y46)])))
def F_1i (text_ : Str) : Option GObject :=
 (linF text_).bind fun y23 => (forL F_4e (linesL text_) 0 []).bind fun o => o.elim (fun x47 => some (GObject.mk 0 2 [] x47 0 [] [] 0)) (fun r48 => none)
@[irreducible] def mc_4y : MC :=
 (.block 1
 (sR [oV 4 15,
 mo (.call (.f 92) [(.t 15),(.c (.str [10]))] [] []) 16,
 mo (.call (.f 91) [(.t 16),(.c (.str [32]))] [] []) 17,
 oV 17 14,
 mo (.ext 0 (.t 14)) 18,
 mo (.ext 1 (.t 14)) 19,
 mo (.ext 2 (.t 14)) 20,
 oV 18 5,
 oV 19 6,
 oV 20 7]
 (.seq (.note (.gc [3,5,6]) (.reg [oV 5 22,
 mo (.call (.f 93) [(.t 22)] [] []) 23,
 oV 23 21,
 mo (.ext 0 (.t 21)) 24,
 mo (.ext 1 (.t 21)) 25,
 oV 24 8,
 oV 25 9]))
 (.reg [oF 3 3 26,
 oL 26 27,
 oV 6 28,
 oV 8 29,
 mo (.build [(.str []),(.int .i64 0)] [(0,1,(.t 28)), (1,1,(.t 29))]) 30,
 mo (.bslice 2 [(.t 30)]) 31,
 mo (.app 2 24 (.t 27) (.t 31)) 32,
 oF 3 3 33,
 ⟨.st 1 (.t 33) (.t 32), none, none⟩]))))
def mc_1i : MC :=
 (sR [mo (.alloc [(.int .i64 0),(.int .i64 0),(.sl []),(.sl []),(.int .i64 0),(.sl []),(.str []),(.int .i64 0)]) 2]
 (sR [mo (.build [(.int .i64 0),(.int .i64 0), .nils, .nils, (.int .i64 0), .nils, (.str []),(.int .i64 0)] [(1,1, (cI 2))]) 10,
 mo (.alloc [(.int .i64 0),(.int .i64 0),(.sl []),(.sl []),(.int .i64 0),(.sl []),(.str []),(.int .i64 0)]) 3,
 ⟨.st 8 (.t 3) (.t 10), none, none⟩]
 (.seq (sR [oV 0 11,
 mo (.call (.f 90) [(.t 11)] [] [12]) 12]
 (.block 0
 (.note (.ownC 3 3 4051 2 none) (.rngF (.t 12) [13] (.reg [oV 13 4]) mc_4y))))
 (sR [mo (.ld (some 8) (.t 3)) 34,
 ⟨.st 8 (.t 2) (.t 34), none, none⟩]
 .ret))))
theorem Wq_1i {text_ : Str} : Cn Tryz.prog 76 [.str text_] [] (F_1i text_) (fun z => GObject.v z) (fun z => []) := fun Q Q' h hQ => by
 refine acallM mc_1i [.fzc 2] [] [.c 2 (some 8)] Tryz.func76 fun M => ?_
 unfold F_1i at h
 unfold mc_1i
 replace h := tY h
 refine tB ?_
 repeat' (first
 | (exact tZ)
 | ((first | refine oblg h ?_ | refine roomG h ?_ | refine fork h ?_ ?_ | refine forkS h ?_ ?_) <;> clear h <;> intro hc h)
 | (obtain ⟨y, hy, h⟩ := h; (first | (with_reducible first | have hw := Wq_s.w hy | have hw := Wq_t.w hy | have hw := W_71 hy) | have hw := acall_swe 1900 12 (W_74 hy)); replace hw := tY hw; (first | refine M.sC hw ?_ | refine M.sD hw ?_); clear hw hy; refine tB ?_)
 | (refine M.rforC (b := mc_4y) (enc := fun a => [.str a]) _ [2,3,12] [3,2] (fun x => [.p 3 3 [.osl 4051 2 0 x.length], .o 4051 (.arr 2 (x.map GItem.v))]) [.gc [0,2,3,10,11,12], .ownC 3 3 4051 2 none] h rfl (W_73 _ _) ⟨rfl, trivial, rfl, trivial⟩ rfl (fun a => ⟨rfl, rfl⟩) ?_ (hdis1 rfl) ?_ rfl ?_ <;> first
 | (clear h; intro k a x Qn K hK1 hkN1 h hf; clear hf; unfold F_4e at h; unfold mc_4y; replace h := tY h; refine tB ?_)
  |(clear h; intro x h; replace h := tY h; refine tB ?_)
  |(clear h; (try refine tB ?_); exact tU0; done))
 | (refine hK1 _ ?_; (try refine tB ?_); refine ⟨_, h, ?_⟩; exact tU0; done)
 | (refine tE ?_; (first | rw [M.lok_compU] | rw [M.lokD_compU]); refine tB ?_)
 | (refine tA ?_)
 | fail)
def F_4d (k40 : Int) (a33 : Str) (x32 : Int × Str × Int × (List Int)) : Option (Fl (Int × Str × Int × (List Int)) Empty) :=
 (F_s a33 [10]).bind fun y43 => (F_t y43 [32]).bind fun y44 => (atoiI y44.2.1).bind fun y46 => bif decide (y44.1 = [116,114,101,101]) then some (.nx (y46, x32.2.1, x32.2.2.1, x32.2.2.2)) else bif decide (y44.1 = [112,97,114,101,110,116]) then chk (room (x32.2.2.2.length + [y46].length) 8) (some (.nx (x32.1, x32.2.1, x32.2.2.1, (x32.2.2.2 ++ [y46])))) else bif decide (y44.1 = [97,117,116,104,111,114]) then some (.nx (x32.1, y44.2.1, x32.2.2.1, x32.2.2.2)) else bif decide (y44.1 = [116,105,109,101]) then some (.nx (x32.1, x32.2.1, y46, x32.2.2.2)) else some (.nx (x32.1, x32.2.1, x32.2.2.1, x32.2.2.2))
def F_1j (text_ : Str) : Option GObject :=
 (linF text_).bind fun y23 => (forL F_4d (linesL text_) 0 (0,[],0,[])).bind fun o => o.elim (fun x47 => some (GObject.mk 0 3 [] [] x47.1 x47.2.2.2 x47.2.1 x47.2.2.1)) (fun r48 => none)
@[irreducible] def mc_4z : MC :=
 (.block 1
 (sR [oV 4 15,
 mo (.call (.f 92) [(.t 15),(.c (.str [10]))] [] []) 16,
 mo (.call (.f 91) [(.t 16),(.c (.str [32]))] [] []) 17,
 oV 17 14,
 mo (.ext 0 (.t 14)) 18,
 mo (.ext 1 (.t 14)) 19,
 mo (.ext 2 (.t 14)) 20,
 oV 18 5,
 oV 19 6,
 oV 20 7]
 (.seq (.note (.gc [3,5,6]) (.reg [oV 6 22,
 mo (.call (.f 93) [(.t 22)] [] []) 23,
 oV 23 21,
 mo (.ext 0 (.t 21)) 24,
 mo (.ext 1 (.t 21)) 25,
 oV 24 8,
 oV 25 9]))
 (sR [oV 5 26]
 (.block 2
 (sR [mo (.bin false .eql (.t 26) (.c (.str [116,114,101,101]))) 28,
 oV 28 27]
 (.cond (.t 27)
 (.note (.gc [3,8]) (.reg [oV 8 29,
 oF 4 3 30,
 ⟨.st 1 (.t 30) (.t 29), none, none⟩]))
 (sR [mo (.bin false .eql (.t 26) (.c (.str [112,97,114,101,110,116]))) 32,
 oV 32 31]
 (.cond (.t 31)
 (.note (.gc [3,8]) (.reg [oF 5 3 33,
 oL 33 34,
 oV 8 35,
 mo (.bslice 1 [(.t 35)]) 36,
 mo (.app 1 8 (.t 34) (.t 36)) 37,
 oF 5 3 38,
 ⟨.st 1 (.t 38) (.t 37), none, none⟩]))
 (sR [mo (.bin false .eql (.t 26) (.c (.str [97,117,116,104,111,114]))) 40,
 oV 40 39]
 (.cond (.t 39)
 (.note (.gc [3,6]) (.reg [oV 6 41,
 oF 6 3 42,
 ⟨.st 1 (.t 42) (.t 41), none, none⟩]))
 (sR [mo (.bin false .eql (.t 26) (.c (.str [116,105,109,101]))) 44,
 oV 44 43]
 (.cond (.t 43)
 (.note (.gc [3,8]) (.reg [oV 8 45,
 oF 7 3 46,
 ⟨.st 1 (.t 46) (.t 45), none, none⟩]))
 .skip)))))))))))))
def mc_1j : MC :=
 (sR [mo (.alloc [(.int .i64 0),(.int .i64 0),(.sl []),(.sl []),(.int .i64 0),(.sl []),(.str []),(.int .i64 0)]) 2]
 (sR [mo (.build [(.int .i64 0),(.int .i64 0), .nils, .nils, (.int .i64 0), .nils, (.str []),(.int .i64 0)] [(1,1, (cI 3))]) 10,
 mo (.alloc [(.int .i64 0),(.int .i64 0),(.sl []),(.sl []),(.int .i64 0),(.sl []),(.str []),(.int .i64 0)]) 3,
 ⟨.st 8 (.t 3) (.t 10), none, none⟩]
 (.seq (sR [oV 0 11,
 mo (.call (.f 90) [(.t 11)] [] [12]) 12]
 (.block 0
 (.note (.ownC 3 5 4053 1 none) (.rngF (.t 12) [13] (.reg [oV 13 4]) mc_4z))))
 (sR [mo (.ld (some 8) (.t 3)) 47,
 ⟨.st 8 (.t 2) (.t 47), none, none⟩]
 .ret))))
theorem Wq_1j {text_ : Str} : Cn Tryz.prog 77 [.str text_] [] (F_1j text_) (fun z => GObject.v z) (fun z => []) := fun Q Q' h hQ => by
 refine acallM mc_1j [.fzc 2] [] [.c 2 (some 8)] Tryz.func77 fun M => ?_
 unfold F_1j at h
 unfold mc_1j
 replace h := tY h
 refine tB ?_
 repeat' (first
 | (exact tZ)
 | ((first | refine oblg h ?_ | refine roomG h ?_ | refine fork h ?_ ?_ | refine forkS h ?_ ?_) <;> clear h <;> intro hc h)
 | (obtain ⟨y, hy, h⟩ := h; (first | (with_reducible first | have hw := Wq_s.w hy | have hw := Wq_t.w hy | have hw := W_71 hy) | have hw := acall_swe 1900 12 (W_74 hy)); replace hw := tY hw; (first | refine M.sC hw ?_ | refine M.sD hw ?_); clear hw hy; refine tB ?_)
 | (refine M.rforC (b := mc_4z) (enc := fun a => [.str a]) _ [2,3,12] [3,2] (fun x => [.p 3 4 [.int .i64 x.1], .p 3 5 [.osl 4053 1 0 x.2.2.2.length], .p 3 6 [.str x.2.1], .p 3 7 [.int .i64 x.2.2.1], .o 4053 (.arr 1 (x.2.2.2.map (V.int .i64)))]) [.gc [0,2,3,10,11,12], .ownC 3 5 4053 1 none] h rfl (W_73 _ _) ⟨rfl, trivial, rfl, trivial⟩ rfl (fun a => ⟨rfl, rfl⟩) ?_ (hdis1 rfl) ?_ rfl ?_ <;> first
 | (clear h; intro k a x Qn K hK1 hkN1 h hf; clear hf; unfold F_4d at h; unfold mc_4z; replace h := tY h; refine tB ?_)
  |(clear h; intro x h; replace h := tY h; refine tB ?_)
  |(clear h; (try refine tB ?_); exact tU0; done))
 | (refine hK1 _ ?_; (try refine tB ?_); refine ⟨_, h, ?_⟩; exact tU0; done)
 | (refine tE ?_; (first | rw [M.lok_compU] | rw [M.lokD_compU]); refine tB ?_)
 | (refine tA ?_)
 | fail)
def F_3d (k51 : Int) (a52 : UInt8) (x50 : Unit) : Option (Fl Unit Bool) :=
 grp ((decide ((a52.toNat : Int) < 33) || decide (126 < (a52.toNat : Int)))) fun b67 => grp ((b67 || decide ((a52.toNat : Int) = 47))) fun b68 => bif b68 then some (.ex false) else some (.nx ())
def F_u (s_ : Str) : Option Bool :=
 (forL F_3d s_ 0 ()).bind fun o => o.elim (fun x69 => grp ((decide (1 ≤ (s_.length : Int)) && decide ((s_.length : Int) ≤ 40))) fun b72 => some b72) (fun r70 => some r70)
@[irreducible] def mg_50 : List MOp := [gF 14 15 (.mv (.t 4)),
 gF 14 16 (.bin false .gtr (.t 15) (.c (.int .u8 126))),
 mo (.pick (.t 14) (.c (.bool true)) (.t 16)) 17]
@[irreducible] def mg_51 : List MOp := [gF 18 19 (.mv (.t 4)),
 gF 18 20 (.bin false .eql (.t 19) (.c (.int .u8 47))),
 mo (.pick (.t 18) (.c (.bool true)) (.t 20)) 21]
@[irreducible] def mc_3d : MC :=
 (sR [mo (.bin false .lss (.t 8) (.t 7)) 9]
 (.seq (.cond (.t 9)
 .skip
 (.exit 0))
 (.seq (.block 1
 (sR [mo (.iad 1 (.t 6) (.t 8)) 10,
 oL 10 11,
 oV 11 4]
 (.seq (.regI [.op (oV 4 12),
 .op (mo (.bin false .lss (.t 12) (.c (.int .u8 33))) 13),
 .op (oV 13 14),
 .grp mg_50,
 .op (oV 17 18),
 .grp mg_51])
 (.cond (.t 21)
 (sR [mo (.mv (.c (.bool false))) 2]
 .ret)
 .skip))))
 (.reg [mo (.bin true .add (.t 8) (cI 1)) 22,
 oV 22 8]))))
@[irreducible] def mg_52 : List MOp := [gT 26 27 (.mv (.t 0)),
 gT 26 28 (.len true (.t 27)),
 gT 26 29 (.bin false .leq (.t 28) (cI 40)),
 mo (.pick (.t 26) (.t 29) (.c (.bool false))) 30]
def mc_u : MC :=
 (sR [mo (.mv (.c (.bool false))) 2]
 (.seq (sR [oV 0 5,
 mo (.s2b (.t 5)) 6,
 mo (.len false (.t 6)) 7,
 oC 0 8]
 (.block 0
 (.loop mc_3d)))
 (.seq (.regI [.op (oV 0 23),
 .op (mo (.len true (.t 23)) 24),
 .op (mo (.bin false .geq (.t 24) (cI 1)) 25),
 .op (oV 25 26),
 .grp mg_52,
 .op (oV 30 2)])
 .ret)))
theorem Wq_u {s_ : Str} : Cn Tryz.prog 79 [.str s_] [] (F_u s_) (fun z => .bool z) (fun z => []) := fun Q Q' h hQ => by
 refine acallM mc_u [] [] [.t 2] Tryz.func79 fun M => ?_
 unfold F_u at h
 unfold mc_u
 replace h := tY h
 refine tB ?_
 repeat' (first
 | (exact tZ)
 | ((first | refine oblg h ?_ | refine roomG h ?_ | refine fork h ?_ ?_ | refine forkS h ?_ ?_) <;> clear h <;> intro hc h)
 | (refine M.gv1 (ms := mg_51) 21 [19,20] h ?_ ?_ <;> first
 | (clear h; intro K hK1; unfold mg_51; refine tB ?_)
 | (clear h; intro b h; replace h := tY h; refine tB ?_))
 | (refine M.gv1 (ms := mg_50) 17 [15,16] h ?_ ?_ <;> first
 | (clear h; intro K hK2; unfold mg_50; refine tB ?_)
 | (clear h; intro b h; replace h := tY h; refine tB ?_))
 | (refine M.for1 (b := mc_3d) 8 [0,6,7] [6] (fun x => []) (fun x => []) [] h ?_ ?_ ?_ <;> first
 | (clear h; intro k a x Qn K hK3 hkN3 ha3 h hf; have hl := fact_int (factsE_find (n := 7) hf.1 rfl); clear hf; have hkd := kD hkN3; have hkB3 := kB hkN3; have hkI3 := kI (k := k) (by omega); unfold F_3d at h; unfold mc_3d; replace h := tY h; refine tK ha3 hkd hkN3 hkB3 hkI3 ?_)
  |(clear h; intro x K h; replace h := And.left (And.intro h trivial); unfold mc_3d; replace h := tY h; refine tB ?_)
  |(clear h; (try refine tB ?_); exact tU0; done))
 | (refine M.gv1 (ms := mg_52) 30 [27,28,29] h ?_ ?_ <;> first
 | (clear h; intro K hK4; unfold mg_52; refine tB ?_)
 | (clear h; intro b h; replace h := tY h; refine tB ?_))
 | (simp only [ha3])
 | ((first | refine hK1 _ ?_ | refine hK2 _ ?_ | refine hK4 _ ?_); exact tU; done)
 | (refine hK3 _ ?_; (try refine tB ?_); refine ⟨_, h, ?_⟩; exact tU0; done)
 | (refine bfork (fun hc => ?_) (fun hc => ?_))
 | (refine tE ?_; (first | rw [M.lok_compU] | rw [M.lokD_compU]); refine tB ?_)
 | (refine tA ?_)
 | fail)
def F_3e (o_ : GObject) (k51 : Int) (a52 : GItem) (x50 : Unit) : Option (Fl Unit Bool) :=
 (F_u a52.Name).bind fun y67 => bif (!y67) then some (.ex false) else (F_5 a52.ID).bind fun y68 => bif (!y68) then some (.ex false) else bif decide (0 < k51) then chk (in64 (k51 - 1)) (chk (inb (k51 - 1) o_.Items.length) (bif (!Op.bytesLess ((o_.Items.getD ((k51 - 1)).toNat default).Name) a52.Name) then some (.ex false) else some (.nx ()))) else some (.nx ())
def F_1k (o_ : GObject) : Option Bool :=
 (forL (F_3e o_) o_.Items 0 ()).bind fun o => o.elim (fun x69 => some true) (fun r70 => some r70)
@[irreducible] def mc_3e : MC :=
 (sR [mo (.bin false .lss (.t 8) (.t 7)) 9]
 (.seq (.cond (.t 9)
 .skip
 (.exit 0))
 (.seq (.block 1
 (sR [oV 8 10,
 mo (.iad 2 (.t 6) (.t 8)) 11,
 mo (.ld (some 2) (.t 11)) 12,
 mo (.alloc [(.str []),(.int .i64 0)]) 4,
 oV 10 3,
 ⟨.st 2 (.t 4) (.t 12), none, none⟩]
 (.seq (.regD [oF 0 4 13,
 oL 13 14,
 mo (.call (.f 79) [(.t 14)] [] []) 15,
 mo (.not (.t 15)) 16,
 oV 16 17,
 gF 17 18 (.fad 1 (.t 4)),
 gF 17 19 (.ld none (.t 18)),
 gF 17 20 (.call (.f 28) [(.t 19)] [] []),
 gF 17 21 (.not (.t 20)),
 mo (.pick (.t 17) (.c (.bool true)) (.t 21)) 22,
 oV 22 23,
 gF 23 24 (.mv (.t 3)),
 gF 23 25 (.bin false .gtr (.t 24) (cI 0)),
 gF 23 26 (.mv (.t 25)),
 gT 26 27 (.fad 3 (.t 1)),
 gT 26 28 (.ld none (.t 27)),
 gT 26 29 (.mv (.t 3)),
 gT 26 30 (.bin true .sub (.t 29) (cI 1)),
 gT 26 31 (.iad 2 (.t 28) (.t 30)),
 gT 26 32 (.fad 0 (.t 31)),
 gT 26 33 (.ld none (.t 32)),
 gT 26 34 (.fad 0 (.t 4)),
 gT 26 35 (.ld none (.t 34)),
 gT 26 36 (.bin false .geq (.t 33) (.t 35)),
 gF 23 37 (.pick (.t 26) (.t 36) (.c (.bool false))),
 mo (.pick (.t 23) (.c (.bool true)) (.t 37)) 38]
 [[],[0],[1],[2],[3,2],[4],[5,4],[6,4,4],[7,4],[4,8],[9,7],[10],[11,10],[12,10,10],[13],[14,13],[13],[16,13],[15,17,13],[18,13],[19,13],[13],[21,13],[20,22,13],[13,23,10],[10,24]]
 [[],[0],[0,1],[0,1,2],[0,1,2,3],[0,1,2,3,4],[0,1,2,3,4,5],[0,1,2,3,4,5,6],[0,1,2,3,4,5,6,7],[0,1,2,3,4,5,6,7,8],[0,1,2,3,4,5,6,7,8,9],[0,1,2,3,4,5,6,7,8,9,10],[0,1,2,3,4,5,6,7,8,9,10,11],[0,1,2,3,4,5,6,7,8,9,10,11,12],[0,1,2,3,4,5,6,7,8,9,10,11,12,13],[0,1,2,3,4,5,6,7,8,9,10,11,12,13,14],[0,1,2,3,4,5,6,7,8,9,10,11,12,13],[0,1,2,3,4,5,6,7,8,9,10,11,12,13,16],[0,1,2,3,4,5,6,7,8,9,10,11,12,13,14,15,16,17],[0,1,2,3,4,5,6,7,8,9,10,11,12,13,14,15,16,17,18],[0,1,2,3,4,5,6,7,8,9,10,11,12,13,14,15,16,17,18,19],[0,1,2,3,4,5,6,7,8,9,10,11,12,13],[0,1,2,3,4,5,6,7,8,9,10,11,12,13,21],[0,1,2,3,4,5,6,7,8,9,10,11,12,13,14,15,16,17,18,19,20,21,22],[0,1,2,3,4,5,6,7,8,9,10,11,12,13,14,15,16,17,18,19,20,21,22,23],[0,1,2,3,4,5,6,7,8,9,10,11,12,13,14,15,16,17,18,19,20,21,22,23,24]])
 (.cond (.t 38)
 (sR [mo (.mv (.c (.bool false))) 2]
 .ret)
 .skip))))
 (.reg [mo (.bin true .add (.t 8) (cI 1)) 39,
 oV 39 8]))))
def mc_1k : MC :=
 (sR [mo (.box (.t 0)) 1,
 mo (.mv (.c (.bool false))) 2]
 (.seq (sR [oF 3 1 5,
 oL 5 6,
 mo (.len false (.t 6)) 7,
 oC 0 8]
 (.block 0
 (.loop mc_3e)))
 (sR [mo (.mv (.c (.bool true))) 2]
 .ret)))
theorem Wq_1k {o_ : GObject} : Cn Tryz.prog 50 [GObject.v o_] [] (F_1k o_) (fun z => .bool z) (fun z => []) := fun Q Q' h hQ => by
 refine acallM mc_1k [] [] [.t 2] Tryz.func50 fun M => ?_
 unfold F_1k at h
 unfold mc_1k
 replace h := tY h
 refine tB ?_
 repeat' (first
 | (exact tZ)
 | ((first | refine oblg h ?_ | refine roomG h ?_ | refine fork h ?_ ?_ | refine forkS h ?_ ?_) <;> clear h <;> intro hc h)
 | (obtain ⟨y, hy, h⟩ := h; (first | with_reducible first | have hw := Wq_u.w hy | have hw := Wq_5.w hy); replace hw := tY hw; (first | refine M.sC hw ?_ | refine M.sD hw ?_); clear hw hy; refine tB ?_)
 | (refine M.for1 (b := mc_3e) 8 [1,6,7] [1] (fun x => []) (fun x => []) [] h ?_ ?_ ?_ <;> first
 | (clear h; intro k a x Qn K hK1 hkN1 ha1 h hf; have hl := fact_int (factsE_find (n := 7) hf.1 rfl); clear hf; have hkd := kD hkN1; have hkB1 := kB hkN1; have hkI1 := kI (k := k) (by omega); unfold F_3e at h; unfold mc_3e; replace h := tY h; refine tK ha1 hkd hkN1 hkB1 hkI1 ?_)
  |(clear h; intro x K h; replace h := And.left (And.intro h trivial); unfold mc_3e; replace h := tY h; refine tB ?_)
  |(clear h; (try refine tB ?_); exact tU0; done))
 | (simp only [ha1])
 | (refine hK1 _ ?_; (try refine tB ?_); refine ⟨_, h, ?_⟩; exact tU0; done)
 | (refine tE ?_; (first | rw [M.lok_compU] | rw [M.lokD_compU]); refine tB ?_)
 | (refine tA ?_)
 | fail)
def F_3f (o_ : GObject) (k51 : Int) (a52 : Int) (x50 : Unit) : Option (Fl Unit Bool) :=
 (F_5 a52).bind fun y67 => bif (!y67) then some (.ex false) else chk (inc 0 k51 o_.Parents.length) ((F_g (o_.Parents.take ((k51).toNat)) a52).bind fun y68 => bif y68 then some (.ex false) else some (.nx ()))
def F_1l (o_ : GObject) : Option Bool :=
 (forL (F_3f o_) o_.Parents 0 ()).bind fun o => o.elim (fun x69 => (F_5 o_.Tree).bind fun y76 => jn (α := Bool) (bif y76 then (F_u o_.Author).bind fun y78 => some y78 else some false) fun j79 => grp ((j79 && decide (0 ≤ o_.Time))) fun b80 => grp ((b80 && decide (o_.Time ≤ 1099511627776))) fun b81 => some b81) (fun r70 => some r70)
@[irreducible] def mc_3f : MC :=
 (sR [mo (.bin false .lss (.t 8) (.t 7)) 9]
 (.seq (.cond (.t 9)
 .skip
 (.exit 0))
 (.seq (.block 1
 (sR [oV 8 10,
 mo (.iad 1 (.t 6) (.t 8)) 11,
 oL 11 12,
 oV 10 3,
 oV 12 4]
 (sR [oV 4 13,
 mo (.call (.f 28) [(.t 13)] [] []) 14,
 mo (.not (.t 14)) 15,
 oV 15 16,
 gF 16 17 (.fad 5 (.t 1)),
 gF 16 18 (.ld none (.t 17)),
 gF 16 19 (.mv (.t 3)),
 gF 16 20 (.slc 1 (.t 18) none (some (.t 19))),
 gF 16 21 (.mv (.t 4)),
 gF 16 22 (.call (.f 72) [(.t 20),(.t 21)] [] []),
 mo (.pick (.t 16) (.c (.bool true)) (.t 22)) 23]
 (.cond (.t 23)
 (sR [mo (.mv (.c (.bool false))) 2]
 .ret)
 .skip))))
 (.reg [mo (.bin true .add (.t 8) (cI 1)) 24,
 oV 24 8]))))
@[irreducible] def mg_53 : List MOp := [gT 28 29 (.fad 6 (.t 1)),
 gT 28 30 (.ld none (.t 29)),
 gT 28 31 (.call (.f 79) [(.t 30)] [] []),
 mo (.pick (.t 28) (.t 31) (.c (.bool false))) 32]
@[irreducible] def mg_54 : List MOp := [gT 33 34 (.fad 7 (.t 1)),
 gT 33 35 (.ld none (.t 34)),
 gT 33 36 (.bin false .geq (.t 35) (cI 0)),
 mo (.pick (.t 33) (.t 36) (.c (.bool false))) 37]
@[irreducible] def mg_55 : List MOp := [gT 38 39 (.fad 7 (.t 1)),
 gT 38 40 (.ld none (.t 39)),
 gT 38 41 (.bin false .leq (.t 40) (cI 1099511627776)),
 mo (.pick (.t 38) (.t 41) (.c (.bool false))) 42]
def mc_1l : MC :=
 (sR [mo (.box (.t 0)) 1,
 mo (.mv (.c (.bool false))) 2]
 (.seq (sR [oF 5 1 5,
 oL 5 6,
 mo (.len false (.t 6)) 7,
 oC 0 8]
 (.block 0
 (.loop mc_3f)))
 (.seq (.regI [.op (oF 4 1 25),
 .op (oL 25 26),
 .op (mo (.call (.f 28) [(.t 26)] [] []) 27),
 .op (oV 27 28),
 .grp mg_53,
 .op (oV 32 33),
 .grp mg_54,
 .op (oV 37 38),
 .grp mg_55,
 .op (oV 42 2)])
 .ret)))
theorem Wq_1l {o_ : GObject} : Cn Tryz.prog 51 [GObject.v o_] [] (F_1l o_) (fun z => .bool z) (fun z => []) := fun Q Q' h hQ => by
 refine acallM mc_1l [] [] [.t 2] Tryz.func51 fun M => ?_
 unfold F_1l at h
 unfold mc_1l
 replace h := tY h
 refine tB ?_
 repeat' (first
 | (exact tZ)
 | ((first | refine oblg h ?_ | refine roomG h ?_ | refine fork h ?_ ?_ | refine forkS h ?_ ?_) <;> clear h <;> intro hc h)
 | (obtain ⟨y, hy, h⟩ := h; (first | with_reducible first | have hw := Wq_5.w hy | have hw := Wq_g.w hy | have hw := Wq_u.w hy); replace hw := tY hw; (first | refine M.sC hw ?_ | refine M.sD hw ?_); clear hw hy; refine tB ?_)
 | (refine M.for1 (b := mc_3f) 8 [1,6,7] [1] (fun x => []) (fun x => []) [] h ?_ ?_ ?_ <;> first
 | (clear h; intro k a x Qn K hK1 hkN1 ha1 h hf; have hl := fact_int (factsE_find (n := 7) hf.1 rfl); clear hf; have hkd := kD hkN1; have hkB1 := kB hkN1; have hkI1 := kI (k := k) (by omega); unfold F_3f at h; unfold mc_3f; replace h := tY h; refine tK ha1 hkd hkN1 hkB1 hkI1 ?_)
  |(clear h; intro x K h; replace h := And.left (And.intro h trivial); unfold mc_3f; replace h := tY h; refine tB ?_)
  |(clear h; (try refine tB ?_); exact tU0; done))
 | (refine M.gv1 (ms := mg_55) 42 [39,40,41] h ?_ ?_ <;> first
 | (clear h; intro K hK2; unfold mg_55; refine tB ?_)
 | (clear h; intro b h; replace h := tY h; refine tB ?_))
 | (refine M.gv1 (ms := mg_54) 37 [34,35,36] h ?_ ?_ <;> first
 | (clear h; intro K hK3; unfold mg_54; refine tB ?_)
 | (clear h; intro b h; replace h := tY h; refine tB ?_))
 | (refine M.gj1 (ms := mg_53) [1] [1] (fun y => [(32, .bool y)]) (fun y => []) h ?_ ?_ <;> first
 | (clear h; intro Qn K hK4 h; unfold mg_53; replace h := tY h; refine tB ?_)
  |(clear h; intro y h; replace h := tY h; refine tB ?_))
 | (simp only [ha1])
 | ((first | refine hK1 _ ?_ | refine hK4 _ ?_); (try refine tB ?_); refine ⟨_, h, ?_⟩; exact tU0; done)
 | ((first | refine hK2 _ ?_ | refine hK3 _ ?_); exact tU; done)
 | (refine bfork (fun hc => ?_) (fun hc => ?_))
 | (refine tE ?_; (first | rw [M.lok_compU] | rw [M.lokD_compU]); refine tB ?_)
 | (refine tA ?_)
 | fail)
def F_v (o_ : GObject) : Option Bool :=
 grp (((!decide (o_.Tree = 0)) || decide (0 < (o_.Parents.length : Int)))) fun b4 => grp ((b4 || (!decide (o_.Author = [])))) fun b5 => grp ((b5 || (!decide (o_.Time = 0)))) fun b6 => bif decide (o_.Kind = 1) then grp ((decide ((o_.Items.length : Int) = 0) && (!b6))) fun b22 => some b22 else bif decide (o_.Kind = 2) then grp ((decide ((o_.Data.length : Int) = 0) && (!b6))) fun b26 => jn (α := Bool) (bif b26 then (F_1k o_).bind fun y28 => some y28 else some false) fun j29 => some j29 else bif decide (o_.Kind = 3) then grp ((decide ((o_.Data.length : Int) = 0) && decide ((o_.Items.length : Int) = 0))) fun b33 => jn (α := Bool) (bif b33 then (F_1l o_).bind fun y35 => some y35 else some false) fun j36 => some j36 else some false
@[irreducible] def mg_56 : List MOp := [gF 7 8 (.fad 5 (.t 1)),
 gF 7 9 (.ld none (.t 8)),
 gF 7 10 (.len false (.t 9)),
 gF 7 11 (.bin false .gtr (.t 10) (cI 0)),
 mo (.pick (.t 7) (.c (.bool true)) (.t 11)) 12]
@[irreducible] def mg_57 : List MOp := [gF 13 14 (.fad 6 (.t 1)),
 gF 13 15 (.ld none (.t 14)),
 gF 13 16 (.bin false .neq (.t 15) (.c (.str []))),
 mo (.pick (.t 13) (.c (.bool true)) (.t 16)) 17]
@[irreducible] def mg_58 : List MOp := [gF 18 19 (.fad 7 (.t 1)),
 gF 18 20 (.ld none (.t 19)),
 gF 18 21 (.bin false .neq (.t 20) (cI 0)),
 mo (.pick (.t 18) (.c (.bool true)) (.t 21)) 22]
@[irreducible] def mg_59 : List MOp := [gT 31 32 (.mv (.t 3)),
 gT 31 33 (.not (.t 32)),
 mo (.pick (.t 31) (.t 33) (.c (.bool false))) 34]
@[irreducible] def mg_5a : List MOp := [gT 41 42 (.mv (.t 3)),
 gT 41 43 (.not (.t 42)),
 mo (.pick (.t 41) (.t 43) (.c (.bool false))) 44]
@[irreducible] def mg_5b : List MOp := [gT 45 46 (.ld (some 8) (.t 1)),
 gT 45 47 (.call (.f 50) [(.t 46)] [] []),
 mo (.pick (.t 45) (.t 47) (.c (.bool false))) 48]
@[irreducible] def mg_5c : List MOp := [gT 55 56 (.fad 3 (.t 1)),
 gT 55 57 (.ld none (.t 56)),
 gT 55 58 (.len false (.t 57)),
 gT 55 59 (.bin false .eql (.t 58) (cI 0)),
 mo (.pick (.t 55) (.t 59) (.c (.bool false))) 60]
@[irreducible] def mg_5d : List MOp := [gT 61 62 (.ld (some 8) (.t 1)),
 gT 61 63 (.call (.f 51) [(.t 62)] [] []),
 mo (.pick (.t 61) (.t 63) (.c (.bool false))) 64]
def mc_v : MC :=
 (sR [mo (.box (.t 0)) 1,
 mo (.mv (.c (.bool false))) 2]
 (.seq (.regI [.op (oF 4 1 4),
 .op (oL 4 5),
 .op (mo (.bin false .neq (.t 5) (cI 0)) 6),
 .op (oV 6 7),
 .grp mg_56,
 .op (oV 12 13),
 .grp mg_57,
 .op (oV 17 18),
 .grp mg_58,
 .op (oV 22 3)])
 (.seq (sR [oF 1 1 23,
 oL 23 24]
 (.block 0
 (sR [mo (.bin false .eql (.t 24) (cI 1)) 26,
 oV 26 25]
 (.cond (.t 25)
 (.seq (.note (.gc [1,3,32,33]) (.regI [.op (oF 3 1 27),
 .op (oL 27 28),
 .op (mo (.len false (.t 28)) 29),
 .op (mo (.bin false .eql (.t 29) (cI 0)) 30),
 .op (oV 30 31),
 .grp mg_59,
 .op (oV 34 2)]))
 .ret)
 (sR [mo (.bin false .eql (.t 24) (cI 2)) 36,
 oV 36 35]
 (.cond (.t 35)
 (.seq (.note (.gc [1,3,42,43,46,47]) (.regI [.op (oF 2 1 37),
 .op (oL 37 38),
 .op (mo (.len false (.t 38)) 39),
 .op (mo (.bin false .eql (.t 39) (cI 0)) 40),
 .op (oV 40 41),
 .grp mg_5a,
 .op (oV 44 45),
 .grp mg_5b,
 .op (oV 48 2)]))
 .ret)
 (sR [mo (.bin false .eql (.t 24) (cI 3)) 50,
 oV 50 49]
 (.cond (.t 49)
 (.seq (.note (.gc [1,56,57,58,59,62,63]) (.regI [.op (oF 2 1 51),
 .op (oL 51 52),
 .op (mo (.len false (.t 52)) 53),
 .op (mo (.bin false .eql (.t 53) (cI 0)) 54),
 .op (oV 54 55),
 .grp mg_5c,
 .op (oV 60 61),
 .grp mg_5d,
 .op (oV 64 2)]))
 .ret)
 .skip))))))))
 (sR [mo (.mv (.c (.bool false))) 2]
 .ret))))
theorem Wq_v {o_ : GObject} : Cn Tryz.prog 29 [GObject.v o_] [] (F_v o_) (fun z => .bool z) (fun z => []) := fun Q Q' h hQ => by
 refine acallM mc_v [] [] [.t 2] Tryz.func29 fun M => ?_
 unfold F_v at h
 unfold mc_v
 replace h := tY h
 refine tB ?_
 repeat' (first
 | (exact tZ)
 | ((first | refine oblg h ?_ | refine roomG h ?_ | refine fork h ?_ ?_ | refine forkS h ?_ ?_) <;> clear h <;> intro hc h)
 | (obtain ⟨y, hy, h⟩ := h; (first | with_reducible first | have hw := Wq_1k.w hy | have hw := Wq_1l.w hy); replace hw := tY hw; (first | refine M.sC hw ?_ | refine M.sD hw ?_); clear hw hy; refine tB ?_)
 | (refine M.gv1 (ms := mg_59) 34 [32,33] h ?_ ?_ <;> first
 | (clear h; intro K hK1; unfold mg_59; refine tB ?_)
 | (clear h; intro b h; replace h := tY h; refine tB ?_))
 | (refine M.gj1 (ms := mg_5b) [] [] (fun y => [(48, .bool y)]) (fun y => []) h ?_ ?_ <;> first
 | (clear h; intro Qn K hK2 h; unfold mg_5b; replace h := tY h; refine tB ?_)
  |(clear h; intro y h; replace h := tY h; refine tB ?_))
 | (refine M.gv1 (ms := mg_5a) 44 [42,43] h ?_ ?_ <;> first
 | (clear h; intro K hK3; unfold mg_5a; refine tB ?_)
 | (clear h; intro b h; replace h := tY h; refine tB ?_))
 | (refine M.gj1 (ms := mg_5d) [] [] (fun y => [(64, .bool y)]) (fun y => []) h ?_ ?_ <;> first
 | (clear h; intro Qn K hK4 h; unfold mg_5d; replace h := tY h; refine tB ?_)
  |(clear h; intro y h; replace h := tY h; refine tB ?_))
 | (refine M.gv1 (ms := mg_5c) 60 [56,57,58,59] h ?_ ?_ <;> first
 | (clear h; intro K hK5; unfold mg_5c; refine tB ?_)
 | (clear h; intro b h; replace h := tY h; refine tB ?_))
 | (refine M.gv1 (ms := mg_58) 22 [19,20,21] h ?_ ?_ <;> first
 | (clear h; intro K hK6; unfold mg_58; refine tB ?_)
 | (clear h; intro b h; replace h := tY h; refine tB ?_))
 | (refine M.gv1 (ms := mg_57) 17 [14,15,16] h ?_ ?_ <;> first
 | (clear h; intro K hK7; unfold mg_57; refine tB ?_)
 | (clear h; intro b h; replace h := tY h; refine tB ?_))
 | (refine M.gv1 (ms := mg_56) 12 [8,9,10,11] h ?_ ?_ <;> first
 | (clear h; intro K hK8; unfold mg_56; refine tB ?_)
 | (clear h; intro b h; replace h := tY h; refine tB ?_))
 | ((first | refine hK1 _ ?_ | refine hK3 _ ?_ | refine hK5 _ ?_ | refine hK6 _ ?_ | refine hK7 _ ?_ | refine hK8 _ ?_); exact tU; done)
 | ((first | refine hK2 _ ?_ | refine hK4 _ ?_); (try refine tB ?_); refine ⟨_, h, ?_⟩; exact tU0; done)
 | (refine bfork (fun hc => ?_) (fun hc => ?_))
 | (refine tE ?_; (first | rw [M.lok_compU] | rw [M.lokD_compU]); refine tB ?_)
 | (refine tA ?_)
 | fail)
def F_9 (o_ : GObject) : Option Int :=
 (F_5 o_.ID).bind fun y10 => bif (!y10) then some 2 else grp ((decide (65536 < (o_.Data.length : Int)) || decide (64 < (o_.Items.length : Int)))) fun b13 => grp ((b13 || decide (8 < (o_.Parents.length : Int)))) fun b14 => bif b14 then some 3 else (F_v o_).bind fun y16 => bif (!y16) then some 1 else some 0
@[irreducible] def mg_5e : List MOp := [gF 13 14 (.fad 3 (.t 1)),
 gF 13 15 (.ld none (.t 14)),
 gF 13 16 (.len false (.t 15)),
 gF 13 17 (.bin false .gtr (.t 16) (cI 64)),
 mo (.pick (.t 13) (.c (.bool true)) (.t 17)) 18]
@[irreducible] def mg_5f : List MOp := [gF 19 20 (.fad 5 (.t 1)),
 gF 19 21 (.ld none (.t 20)),
 gF 19 22 (.len false (.t 21)),
 gF 19 23 (.bin false .gtr (.t 22) (cI 8)),
 mo (.pick (.t 19) (.c (.bool true)) (.t 23)) 24]
def mc_9 : MC :=
 (sR [mo (.box (.t 0)) 1,
 oC 0 2]
 (.seq (.block 0
 (sR [oF 0 1 4,
 oL 4 5,
 mo (.call (.f 28) [(.t 5)] [] []) 6,
 mo (.not (.t 6)) 7,
 oV 7 3]
 (.cond (.t 3)
 (sR [oC 2 2]
 .ret)
 (.seq (.regI [.op (oF 2 1 9),
 .op (oL 9 10),
 .op (mo (.len false (.t 10)) 11),
 .op (mo (.bin false .gtr (.t 11) (cI 65536)) 12),
 .op (oV 12 13),
 .grp mg_5e,
 .op (oV 18 19),
 .grp mg_5f,
 .op (oV 24 8)])
 (.cond (.t 8)
 (sR [oC 3 2]
 .ret)
 (.seq (.note (.gc [1]) (.reg [mo (.ld (some 8) (.t 1)) 26,
 mo (.call (.f 29) [(.t 26)] [] []) 27,
 mo (.not (.t 27)) 28,
 oV 28 25]))
 (.cond (.t 25)
 (sR [oC 1 2]
 .ret)
 .skip)))))))
 (sR [oC 0 2]
 .ret)))
theorem Wq_9 {o_ : GObject} : Cn Tryz.prog 15 [GObject.v o_] [] (F_9 o_) (fun z => .int .i64 z) (fun z => []) := fun Q Q' h hQ => by
 refine acallM mc_9 [] [] [.t 2] Tryz.func15 fun M => ?_
 unfold F_9 at h
 unfold mc_9
 replace h := tY h
 refine tB ?_
 repeat' (first
 | (exact tZ)
 | ((first | refine oblg h ?_ | refine roomG h ?_ | refine fork h ?_ ?_ | refine forkS h ?_ ?_) <;> clear h <;> intro hc h)
 | (obtain ⟨y, hy, h⟩ := h; (first | with_reducible first | have hw := Wq_5.w hy | have hw := Wq_v.w hy); replace hw := tY hw; (first | refine M.sC hw ?_ | refine M.sD hw ?_); clear hw hy; refine tB ?_)
 | (refine M.gv1 (ms := mg_5f) 24 [20,21,22,23] h ?_ ?_ <;> first
 | (clear h; intro K hK1; unfold mg_5f; refine tB ?_)
 | (clear h; intro b h; replace h := tY h; refine tB ?_))
 | (refine M.gv1 (ms := mg_5e) 18 [14,15,16,17] h ?_ ?_ <;> first
 | (clear h; intro K hK2; unfold mg_5e; refine tB ?_)
 | (clear h; intro b h; replace h := tY h; refine tB ?_))
 | ((first | refine hK1 _ ?_ | refine hK2 _ ?_); exact tU; done)
 | (refine bfork (fun hc => ?_) (fun hc => ?_))
 | (refine tE ?_; (first | rw [M.lok_compU] | rw [M.lokD_compU]); refine tB ?_)
 | (refine tA ?_)
 | fail)
def F_4 (word_ : Str) (rest_ : Str) (p_ : Str) : Option Str :=
 chk (strl (word_.length + [32].length)) (chk (strl ((word_ ++ [32]).length + rest_.length)) (chk (strl (((word_ ++ [32]) ++ rest_).length + [10].length)) ((bws p_ (((word_ ++ [32]) ++ rest_) ++ [10])).bind fun y1 => some y1)))
def mc_4 : MC :=
 (.reg [oV 0 5,
 mo (.bin false .add (.t 5) (.c (.str [32]))) 6,
 oV 1 7,
 mo (.bin false .add (.t 6) (.t 7)) 8,
 mo (.bin false .add (.t 8) (.c (.str [10]))) 9,
 mo (.call (.f 53) [(.t 2),(.t 9)] [1000,1001] [8641]) 10])
theorem Wq_4 {word_ rest_ p_ : Str} : Cn Tryz.prog 52 [.str word_, .str rest_, .ptr 1000 0] [(1000, .cells [.bptr 1000, .osl 1001 1 0 p_.length] (some 94)), (1001, .arr 1 (p_.map byteV) (some 5))] (F_4 word_ rest_ p_) (fun z => .tup []) (fun z => [(1000, .cells [.bptr 1000, .osl 1701 1 0 z.length] (some 94)), (1701, .arr 1 (z.map byteV) (some 5))]) := fun Q Q' h hQ => by
 refine acallM mc_4 [.ownC 1000 1 1701 1 none] [1000,1701] [] Tryz.func52 fun M => ?_
 unfold F_4 at h
 unfold mc_4
 replace h := tY h
 refine tB ?_
 repeat' (first
 | (exact tZ)
 | ((first | refine oblg h ?_ | refine roomG h ?_ | refine fork h ?_ ?_ | refine forkS h ?_ ?_) <;> clear h <;> intro hc h)
 | (obtain ⟨y, hy, h⟩ := h; have hw := acall_swe 1002 8641 (W_4k hy); replace hw := tY hw; (first | refine M.sC hw ?_ | refine M.sD hw ?_); clear hw hy; refine tB ?_)
 | (refine tE ?_; (first | rw [M.lok_compU] | rw [M.lokD_compU]); refine tB ?_)
 | (refine tA ?_)
 | fail)
def F_3g (k100 : Int) (a101 : GItem) (x99 : List UInt8) : Option (List UInt8) :=
 (itoaI a101.ID).bind fun y108 => (F_4 y108 a101.Name x99).bind fun y109 => some y109
def F_3h (k162 : Int) (a163 : Int) (x161 : List UInt8) : Option (List UInt8) :=
 (itoaI a163).bind fun y170 => (F_4 [112,97,114,101,110,116] y170 x161).bind fun y171 => some y171
def F_a (o_ : GObject) : Option (List UInt8) :=
 bif decide (o_.Kind = 1) then chk (room ([98,108,111,98,10].length + o_.Data.length) 1) (some ([98,108,111,98,10] ++ o_.Data)) else bif decide (o_.Kind = 2) then (bws ([] : Str) [116,114,101,101,10]).bind fun y56 => (foldL F_3g o_.Items 0 y56).bind fun x110 => (bstr x110).bind fun y112 => some y112 else (bws ([] : Str) [99,111,109,109,105,116,10]).bind fun y114 => (itoaI o_.Tree).bind fun y117 => (F_4 [116,114,101,101] y117 y114).bind fun y118 => (foldL F_3h o_.Parents 0 y118).bind fun x172 => (F_4 [97,117,116,104,111,114] o_.Author x172).bind fun y174 => (itoaI o_.Time).bind fun y177 => (F_4 [116,105,109,101] y177 y174).bind fun y178 => (bstr y178).bind fun y180 => some y180
@[irreducible] def mc_3g : MC :=
 (sR [mo (.bin false .lss (.t 25) (.t 24)) 26]
 (.seq (.cond (.t 26)
 .skip
 (.exit 0))
 (.seq (.block 1
 (sR [mo (.iad 2 (.t 23) (.t 25)) 27,
 mo (.ld (some 2) (.t 27)) 28,
 mo (.alloc [(.str []),(.int .i64 0)]) 6,
 ⟨.st 2 (.t 6) (.t 28), none, none⟩]
 (.regD [oV 4 29,
 oF 1 6 30,
 oL 30 31,
 mo (.call (.f 54) [(.t 31)] [] []) 32,
 oF 0 6 33,
 oL 33 34,
 mo (.call (.t 29) [(.t 32),(.t 34)] [3,4049] [10241]) 35]
 [[],[],[1],[2],[],[4],[0,3,5,3]]
 [[],[],[1],[1,2],[],[4],[0,1,2,3,4,5]])))
 (.reg [mo (.bin true .add (.t 25) (cI 1)) 36,
 oV 36 25]))))
@[irreducible] def mc_3h : MC :=
 (sR [mo (.bin false .lss (.t 48) (.t 47)) 49]
 (.seq (.cond (.t 49)
 .skip
 (.exit 2))
 (.seq (.block 3
 (sR [mo (.iad 1 (.t 46) (.t 48)) 50,
 oL 50 51,
 oV 51 8]
 (.reg [oV 4 52,
 oV 8 53,
 mo (.call (.f 54) [(.t 53)] [] []) 54,
 mo (.call (.t 52) [(.c (.str [112,97,114,101,110,116])),(.t 54)] [3,4049] [11521]) 55])))
 (.reg [mo (.bin true .add (.t 48) (cI 1)) 56,
 oV 56 48]))))
def mc_a : MC :=
 (sR [mo (.box (.t 0)) 1,
 mo (.mv (.c (.sl []))) 2]
 (.seq (sR [oF 1 1 9,
 oL 9 10,
 mo (.bin false .eql (.t 10) (cI 1)) 11]
 (.cond (.t 11)
 (sR [mo (.bslice 1 [(.c (.int .u8 98)),(.c (.int .u8 108)),(.c (.int .u8 111)),(.c (.int .u8 98)),(.c (.int .u8 10))]) 12,
 mo (.mks (.t 12)) 13,
 oF 2 1 14,
 oL 14 15,
 mo (.app 1 1 (.t 13) (.t 15)) 16,
 oV 16 2]
 .ret)
 .skip))
 (.seq (.regI [.op (mo (.alloc [.nilp, .nils] (some 94)) 3),
 .nt (.bld 3),
 .nt (.ownC 3 1 5003 1 (some 5))])
 (sR [mo (.mkfn 52 [(.t 3)]) 17,
 oV 17 4]
 (.seq (sR [oF 1 1 18,
 oL 18 19,
 mo (.bin false .eql (.t 19) (cI 2)) 20]
 (.cond (.t 20)
 (sR [mo (.call (.f 53) [(.t 3),(.c (.str [116,114,101,101,10]))] [3,5003] [9345]) 21]
 (.seq (.seq (.note (.gc [1,3,4]) (.reg [oF 3 1 22,
 oL 22 23,
 mo (.len false (.t 23)) 24,
 oC 0 25]))
 (.block 0
 (.loop mc_3g)))
 (sR [mo (.call (.f 55) [(.t 3)] [3,4049] []) 37,
 mo (.s2b (.t 37)) 38,
 oV 38 2]
 .ret)))
 .skip))
 (sR [mo (.call (.f 53) [(.t 3),(.c (.str [99,111,109,109,105,116,10]))] [3,5003] [10497]) 39]
 (.seq (.note (.gc [1,3,4]) (.reg [oV 4 40,
 oF 4 1 41,
 oL 41 42,
 mo (.call (.f 54) [(.t 42)] [] []) 43,
 mo (.call (.t 40) [(.c (.str [116,114,101,101])),(.t 43)] [3,10497] [10817]) 44]))
 (.seq (sR [oF 5 1 45,
 oL 45 46,
 mo (.len false (.t 46)) 47,
 oC 0 48]
 (.block 2
 (.loop mc_3h)))
 (sR [oV 4 57,
 oF 6 1 58,
 oL 58 59,
 mo (.call (.t 57) [(.c (.str [97,117,116,104,111,114])),(.t 59)] [3,4049] [11841]) 60]
 (.seq (.note (.gc [1,3,4]) (.reg [oV 4 61,
 oF 7 1 62,
 oL 62 63,
 mo (.call (.f 54) [(.t 63)] [] []) 64,
 mo (.call (.t 61) [(.c (.str [116,105,109,101])),(.t 64)] [3,11841] [12161]) 65]))
 (sR [mo (.call (.f 55) [(.t 3)] [3,12161] []) 66,
 mo (.s2b (.t 66)) 67,
 oV 67 2]
 .ret)))))))))))
theorem Wq_a {o_ : GObject} : Cn Tryz.prog 31 [GObject.v o_] [] (F_a o_) (fun z => .sl (z.map byteV)) (fun z => []) := fun Q Q' h hQ => by
 refine acallM mc_a [.fz 2] [] [.t 2] Tryz.func31 fun M => ?_
 unfold F_a at h
 unfold mc_a
 replace h := tY h
 refine tB ?_
 repeat' (first
 | (exact tZ)
 | ((first | refine oblg h ?_ | refine roomG h ?_ | refine fork h ?_ ?_ | refine forkS h ?_ ?_) <;> clear h <;> intro hc h)
 | (obtain ⟨y, hy, h⟩ := h; have hw := acall_swe 1002 9345 (acall_swe 1001 5003 (acall_swe 1000 3 (W_4k hy))); replace hw := tY hw; (first | refine M.sC hw ?_ | refine M.sD hw ?_); clear hw hy; refine tB ?_)
 | (obtain ⟨y, hy, h⟩ := h; have hw := acall_swe 1701 10241 (acall_swe 1001 9345 (acall_swe 1000 3 (Wq_4.w hy))); replace hw := tY hw; (first | refine M.sC hw ?_ | refine M.sD hw ?_); clear hw hy; refine tB ?_)
 | (obtain ⟨y, hy, h⟩ := h; have hw := acall_swe 1701 10241 (acall_swe 1001 4049 (acall_swe 1000 3 (Wq_4.w hy))); replace hw := tY hw; (first | refine M.sC hw ?_ | refine M.sD hw ?_); clear hw hy; refine tB ?_)
 | (obtain ⟨y, hy, h⟩ := h; have hw := acall_swe 1001 4049 (acall_swe 1000 3 (W_72 hy)); replace hw := tY hw; (first | refine M.sC hw ?_ | refine M.sD hw ?_); clear hw hy; refine tB ?_)
 | (obtain ⟨y, hy, h⟩ := h; have hw := acall_swe 1002 10497 (acall_swe 1001 5003 (acall_swe 1000 3 (W_4k hy))); replace hw := tY hw; (first | refine M.sC hw ?_ | refine M.sD hw ?_); clear hw hy; refine tB ?_)
 | (obtain ⟨y, hy, h⟩ := h; have hw := acall_swe 1701 10817 (acall_swe 1001 10497 (acall_swe 1000 3 (Wq_4.w hy))); replace hw := tY hw; (first | refine M.sC hw ?_ | refine M.sD hw ?_); clear hw hy; refine tB ?_)
 | (obtain ⟨y, hy, h⟩ := h; have hw := acall_swe 1701 11521 (acall_swe 1001 10817 (acall_swe 1000 3 (Wq_4.w hy))); replace hw := tY hw; (first | refine M.sC hw ?_ | refine M.sD hw ?_); clear hw hy; refine tB ?_)
 | (obtain ⟨y, hy, h⟩ := h; have hw := acall_swe 1701 11521 (acall_swe 1001 4049 (acall_swe 1000 3 (Wq_4.w hy))); replace hw := tY hw; (first | refine M.sC hw ?_ | refine M.sD hw ?_); clear hw hy; refine tB ?_)
 | (obtain ⟨y, hy, h⟩ := h; have hw := acall_swe 1701 11841 (acall_swe 1001 4049 (acall_swe 1000 3 (Wq_4.w hy))); replace hw := tY hw; (first | refine M.sC hw ?_ | refine M.sD hw ?_); clear hw hy; refine tB ?_)
 | (obtain ⟨y, hy, h⟩ := h; have hw := acall_swe 1701 12161 (acall_swe 1001 11841 (acall_swe 1000 3 (Wq_4.w hy))); replace hw := tY hw; (first | refine M.sC hw ?_ | refine M.sD hw ?_); clear hw hy; refine tB ?_)
 | (obtain ⟨y, hy, h⟩ := h; have hw := acall_swe 1001 12161 (acall_swe 1000 3 (W_72 hy)); replace hw := tY hw; (first | refine M.sC hw ?_ | refine M.sD hw ?_); clear hw hy; refine tB ?_)
 | (obtain ⟨y, hy, h⟩ := h; have hw := W_75 hy; replace hw := tY hw; (first | refine M.sC hw ?_ | refine M.sD hw ?_); clear hw hy; refine tB ?_)
 | (refine M.fold1 (b := mc_3g) 25 [3,4,23,24] [3] (fun x => []) (fun x => [.p 3 1 [.osl 4049 1 0 x.length], .o 4049 (.arr 1 (x.map byteV) (some 5))]) [.gc [3,4,23,24,25], .ownC 3 1 4049 1 none] h ?_ ?_ ?_ <;> first
 | (clear h; intro k a x Qn K hK1 hkN1 ha1 h hf; have hl := fact_int (factsE_find (n := 24) hf.1 rfl); clear hf; have hkd := kD hkN1; have hkB1 := kB hkN1; have hkI1 := kI (k := k) (by omega); unfold F_3g at h; unfold mc_3g; replace h := tY h; refine tK ha1 hkd hkN1 hkB1 hkI1 ?_)
  |(clear h; intro x K h; replace h := And.left (And.intro h trivial); unfold mc_3g; replace h := tY h; refine tB ?_)
  |(clear h; (try refine tB ?_); exact tU0; done))
 | (refine M.fold1 (b := mc_3h) 48 [1,3,4,46,47] [3,1] (fun x => []) (fun x => [.p 3 1 [.osl 4049 1 0 x.length], .o 4049 (.arr 1 (x.map byteV) (some 5))]) [.gc [1,3,4,46,47,48], .ownC 3 1 4049 1 none] h ?_ ?_ ?_ <;> first
 | (clear h; intro k a x Qn K hK2 hkN2 ha2 h hf; have hl := fact_int (factsE_find (n := 47) hf.1 rfl); clear hf; have hkd := kD hkN2; have hkB2 := kB hkN2; have hkI2 := kI (k := k) (by omega); unfold F_3h at h; unfold mc_3h; replace h := tY h; refine tK ha2 hkd hkN2 hkB2 hkI2 ?_)
  |(clear h; intro x K h; replace h := And.left (And.intro h trivial); unfold mc_3h; replace h := tY h; refine tB ?_)
  |(clear h; (try refine tB ?_); exact tU0; done))
 | (first | simp only [ha1] | simp only [ha2])
 | ((first | refine hK1 _ ?_ | refine hK2 _ ?_); (try refine tB ?_); refine ⟨_, h, ?_⟩; exact tU0; done)
 | (refine tE ?_; (first | rw [M.lok_compU] | rw [M.lokD_compU]); refine tB ?_)
 | (refine tA ?_)
 | fail)
def F_1m (a_ : List UInt8) (b_ : List UInt8) : Option Bool :=
 some (decide (a_ = b_))
def mc_1m : MC :=
 (sR [mo (.mv (.c (.bool false))) 4]
 (sR [oV 0 5,
 mo (.b2s (.t 5)) 6,
 oV 1 7,
 mo (.b2s (.t 7)) 8,
 mo (.bin false .eql (.t 6) (.t 8)) 9,
 oV 9 4]
 .ret))
theorem Wq_1m {a_ b_ : List UInt8} : Cn Tryz.prog 78 [.sl (a_.map byteV), .sl (b_.map byteV)] [] (F_1m a_ b_) (fun z => .bool z) (fun z => []) := fun Q Q' h hQ => by
 refine acallM mc_1m [] [] [.t 4] Tryz.func78 fun M => ?_
 unfold F_1m at h
 unfold mc_1m
 replace h := tY h
 refine tB ?_
 repeat' (first
 | (exact tZ)
 | ((first | refine oblg h ?_ | refine roomG h ?_ | refine fork h ?_ ?_ | refine forkS h ?_ ?_) <;> clear h <;> intro hc h)
 | (refine tE ?_; (first | rw [M.lok_compU] | rw [M.lokD_compU]); refine tB ?_)
 | (refine tA ?_)
 | fail)
def F_k (id_ : Int) (b_ : List UInt8) : Option (GObject × Int) :=
 (F_5 id_).bind fun y4 => bif (!y4) then some ((GObject.mk 0 0 [] [] 0 [] [] 0),2) else jn (α := GObject) ((F_6 b_ [98,108,111,98,10]).bind fun y15 => bif y15.2 then some (GObject.mk 0 1 y15.1 [] 0 [] [] 0) else (F_6 b_ [116,114,101,101,10]).bind fun y17 => bif y17.2 then (F_1i y17.1).bind fun y18 => some y18 else (F_6 b_ [99,111,109,109,105,116,10]).bind fun y20 => bif y20.2 then (F_1j y20.1).bind fun y21 => some y21 else some (GObject.mk 0 0 [] [] 0 [] [] 0)) fun j13 => (F_9 (GObject.mk id_ j13.Kind j13.Data j13.Items j13.Tree j13.Parents j13.Author j13.Time)).bind fun y31 => bif (!decide (y31 = 0)) then some ((GObject.mk 0 0 [] [] 0 [] [] 0),10) else (F_a (GObject.mk id_ j13.Kind j13.Data j13.Items j13.Tree j13.Parents j13.Author j13.Time)).bind fun y32 => (F_1m y32 b_).bind fun y33 => bif (!y33) then some ((GObject.mk 0 0 [] [] 0 [] [] 0),10) else some ((GObject.mk id_ j13.Kind j13.Data j13.Items j13.Tree j13.Parents j13.Author j13.Time),0)
@[irreducible] def mc_5g : MC :=
 (sR [oV 0 45,
 oF 0 6 46,
 ⟨.st 1 (.t 46) (.t 45), none, none⟩]
 (.seq (sR [mo (.ld (some 8) (.t 6)) 47,
 mo (.call (.f 15) [(.t 47)] [] []) 48,
 mo (.bin false .neq (.t 48) (cI 0)) 49,
 oV 49 50,
 gF 50 51 (.ld (some 8) (.t 6)),
 gF 50 52 (.call (.f 31) [(.t 51)] [] []),
 gF 50 53 (.mv (.t 1)),
 gF 50 54 (.call (.f 78) [(.t 52),(.t 53)] [] []),
 gF 50 55 (.not (.t 54)),
 mo (.pick (.t 50) (.c (.bool true)) (.t 55)) 56]
 (.cond (.t 56)
 (.seq (.note (.gc [4]) (.reg [mo (.build [(.int .i64 0),(.int .i64 0),(.sl []),(.sl []),(.int .i64 0),(.sl []),(.str []),(.int .i64 0)] []) 57,
 ⟨.st 8 (.t 4) (.t 57), none, none⟩,
 oC 10 5]))
 .ret)
 .skip))
 (.seq (.note (.gc [4,6]) (.reg [mo (.ld (some 8) (.t 6)) 58,
 ⟨.st 8 (.t 4) (.t 58), none, none⟩,
 oC 0 5]))
 .ret)))
def mc_k : MC :=
 (sR [mo (.alloc [(.int .i64 0),(.int .i64 0),(.sl []),(.sl []),(.int .i64 0),(.sl []),(.str []),(.int .i64 0)]) 4,
 oC 0 5]
 (.seq (sR [oV 0 14,
 mo (.call (.f 28) [(.t 14)] [] []) 15,
 mo (.not (.t 15)) 16]
 (.cond (.t 16)
 (sR [mo (.build [(.int .i64 0),(.int .i64 0),(.sl []),(.sl []),(.int .i64 0),(.sl []),(.str []),(.int .i64 0)] []) 17,
 ⟨.st 8 (.t 4) (.t 17), none, none⟩,
 oC 2 5]
 .ret)
 .skip))
 (sR [mo (.alloc [(.int .i64 0),(.int .i64 0),(.sl []),(.sl []),(.int .i64 0),(.sl []),(.str []),(.int .i64 0)]) 6]
 (sR [oV 1 18,
 mo (.b2s (.t 18)) 19,
 oV 19 7]
 (.cut (sR [oV 7 21,
 mo (.call (.f 75) [(.t 21),(.c (.str [98,108,111,98,10]))] [] []) 22,
 oV 22 20,
 mo (.ext 0 (.t 20)) 23,
 mo (.ext 1 (.t 20)) 24,
 oV 23 8,
 oV 24 9]
 (sR [oV 9 25]
 (.cond (.t 25)
 (.note (.gc [0,1,4,6,8,51,52,53,54,55]) (.reg [oV 8 26,
 mo (.s2b (.t 26)) 27,
 mo (.build [(.int .i64 0),(.int .i64 0),(.sl []),(.sl []),(.int .i64 0),(.sl []),(.str []),(.int .i64 0)] [(1,1, (cI 1)), (2,1,(.t 27))]) 28,
 ⟨.st 8 (.t 6) (.t 28), none, none⟩]))
 (.seq (.note (.gc [0,1,4,6,7,51,52,53,54,55]) (.reg [oV 7 30,
 mo (.call (.f 75) [(.t 30),(.c (.str [116,114,101,101,10]))] [] []) 31,
 oV 31 29,
 mo (.ext 0 (.t 29)) 32,
 mo (.ext 1 (.t 29)) 33,
 oV 32 10,
 oV 33 11]))
 (sR [oV 11 34]
 (.cond (.t 34)
 (.note (.gc [0,1,4,6,10,51,52,53,54,55]) (.reg [oV 10 35,
 mo (.call (.f 76) [(.t 35)] [] []) 36,
 ⟨.st 8 (.t 6) (.t 36), none, none⟩]))
 (.seq (.note (.gc [0,1,4,6,7,51,52,53,54,55]) (.reg [oV 7 38,
 mo (.call (.f 75) [(.t 38),(.c (.str [99,111,109,109,105,116,10]))] [] []) 39,
 oV 39 37,
 mo (.ext 0 (.t 37)) 40,
 mo (.ext 1 (.t 37)) 41,
 oV 40 12,
 oV 41 13]))
 (sR [oV 13 42]
 (.cond (.t 42)
 (.note (.gc [0,1,4,6,12,51,52,53,54,55]) (.reg [oV 12 43,
 mo (.call (.f 77) [(.t 43)] [] []) 44,
 ⟨.st 8 (.t 6) (.t 44), none, none⟩]))
 .skip)))))))))
 mc_5g)))))
theorem Wq_k {id_ : Int} {b_ : List UInt8} : Cn Tryz.prog 48 [.int .i64 id_, .sl (b_.map byteV)] [] (F_k id_ b_) (fun z => .tup [GObject.v z.1, .int .i64 z.2]) (fun z => []) := fun Q Q' h hQ => by
 refine acallM mc_k [.fzc 4] [] [.c 4 (some 8), .t 5] Tryz.func48 fun M => ?_
 unfold F_k at h
 unfold mc_k
 replace h := tY h
 refine tB ?_
 repeat' (first
 | (exact tZ)
 | ((first | refine oblg h ?_ | refine roomG h ?_ | refine fork h ?_ ?_ | refine forkS h ?_ ?_) <;> clear h <;> intro hc h)
 | (obtain ⟨y, hy, h⟩ := h; (first | with_reducible first | have hw := Wq_5.w hy | have hw := Wq_6.w hy | have hw := Wq_1i.w hy | have hw := Wq_1j.w hy | have hw := Wq_9.w hy | have hw := Wq_a.w hy | have hw := Wq_1m.w hy); replace hw := tY hw; (first | refine M.sC hw ?_ | refine M.sD hw ?_); clear hw hy; refine tB ?_)
 | (refine M.jn1 (b := mc_5g) [0,1,4,6] [4] (fun y => []) (fun y => [.o 6 (.cells [.int .i64 y.ID, .int .i64 y.Kind, .sl (y.Data.map byteV), .sl (y.Items.map GItem.v), .int .i64 y.Tree, .sl (y.Parents.map (V.int .i64)), .str y.Author, .int .i64 y.Time])]) [.fzc 6] h ?_ ?_ <;> first
 | (clear h; intro Qn K hK1 h; replace h := tY h; refine tB ?_)
  |(clear h; intro y h; unfold mc_5g; replace h := tY h; refine tB ?_))
 | (refine hK1 _ ?_; (try refine tB ?_); refine ⟨_, h, ?_⟩; exact tU0; done)
 | (refine tE ?_; (first | rw [M.lok_compU] | rw [M.lokD_compU]); refine tB ?_)
 | (refine tA ?_)
 | fail)
noncomputable def F_2k (l_ : List GPacked) (y2 : (List (Int × Int)) × Bool) (k51 : Int) (a52 : GPacked) (x50 : List (List UInt8)) : Option (Fl (List (List UInt8)) ((List GObject) × Int)) :=
 (F_2 l_ y2.1 k51).bind fun y60 => bif (!y60.2) then some (.ex ([],2)) else chk (room (x50.length + [y60.1].length) 24) (some (.nx (x50 ++ [y60.1])))
noncomputable def F_2l (l_ : List GPacked) (k107 : Int) (a108 : List UInt8) (x106 : List GObject) : Option (Fl (List GObject) ((List GObject) × Int)) :=
 chk (inb k107 l_.length) ((F_k ((l_.getD (k107).toNat default).ID) a108).bind fun y116 => bif (!decide (y116.2 = 0)) then some (.ex ([],10)) else chk (room (x106.length + [y116.1].length) 120) (some (.nx (x106 ++ [y116.1]))))
noncomputable def F_1n (l_ : List GPacked) : Option ((List GObject) × Int) :=
 bif decide (400 < (l_.length : Int)) then some ([],3) else (F_f l_).bind fun y2 => (F_1a l_ y2.1 y2.2).bind fun y6 => bif (!decide (y6 = 0)) then some ([], y6) else (forL (F_2k l_ y2) l_ 0 []).bind fun o => o.elim (fun x61 => (forL (F_2l l_) x61 0 []).bind fun o => o.elim (fun x117 => some (x117,0)) (fun r118 => some r118)) (fun r62 => some r62)
@[irreducible] def mc_2k : MC :=
 (sR [mo (.bin false .lss (.t 33) (.t 32)) 34]
 (.seq (.cond (.t 34)
 .skip
 (.exit 0))
 (.seq (.block 1
 (sR [oV 33 35,
 oV 35 8]
 (sR [oV 0 37,
 oV 4 38,
 oV 8 39,
 mo (.call (.f 47) [(.t 37),(.t 38),(.t 39)] [] []) 40,
 oV 40 36,
 mo (.ext 0 (.t 36)) 41,
 mo (.ext 1 (.t 36)) 42,
 oV 41 9,
 oV 42 10]
 (.seq (sR [oV 10 43,
 mo (.not (.t 43)) 44]
 (.cond (.t 44)
 (sR [mo (.mv (.c (.sl []))) 2,
 oC 2 3]
 .ret)
 .skip))
 (.note (.gc [0,4,7,9,32,33]) (.reg [oV 7 45,
 oV 9 46,
 mo (.bslice 1 [(.t 46)]) 47,
 mo (.app 1 24 (.t 45) (.t 47)) 48,
 oV 48 7]))))))
 (.reg [mo (.bin true .add (.t 33) (cI 1)) 49,
 oV 49 33]))))
@[irreducible] def mc_2l : MC :=
 (sR [mo (.bin false .lss (.t 52) (.t 51)) 53]
 (.seq (.cond (.t 53)
 .skip
 (.exit 2))
 (.seq (.block 3
 (sR [oV 52 54,
 mo (.iad 1 (.t 50) (.t 52)) 55,
 oL 55 56,
 oV 54 12,
 oV 56 13]
 (sR [oV 0 58,
 oV 12 59,
 mo (.iad 5 (.t 58) (.t 59)) 60,
 oF 0 60 61,
 oL 61 62,
 oV 13 63,
 mo (.call (.f 48) [(.t 62),(.t 63)] [] []) 64,
 oV 64 57,
 mo (.ext 0 (.t 57)) 65,
 mo (.ext 1 (.t 57)) 66,
 mo (.alloc [(.int .i64 0),(.int .i64 0),(.sl []),(.sl []),(.int .i64 0),(.sl []),(.str []),(.int .i64 0)]) 14,
 ⟨.st 8 (.t 14) (.t 65), none, none⟩,
 oV 66 15]
 (.seq (sR [oV 15 67,
 mo (.bin false .neq (.t 67) (cI 0)) 68]
 (.cond (.t 68)
 (sR [mo (.mv (.c (.sl []))) 2,
 oC 10 3]
 .ret)
 .skip))
 (.note (.gc [0,11,14,50,51,52]) (.reg [oV 11 69,
 mo (.ld (some 8) (.t 14)) 70,
 mo (.bslice 8 [(.t 70)]) 71,
 mo (.app 8 120 (.t 69) (.t 71)) 72,
 oV 72 11]))))))
 (.reg [mo (.bin true .add (.t 52) (cI 1)) 73,
 oV 73 52]))))
def mc_1n : MC :=
 (sR [mo (.mv (.c (.sl []))) 2,
 oC 0 3]
 (.seq (sR [oV 0 16,
 mo (.len false (.t 16)) 17,
 mo (.bin false .gtr (.t 17) (cI 400)) 18]
 (.cond (.t 18)
 (sR [mo (.mv (.c (.sl []))) 2,
 oC 3 3]
 .ret)
 .skip))
 (sR [oV 0 20,
 mo (.call (.f 45) [(.t 20)] [] []) 21,
 oV 21 19,
 mo (.ext 0 (.t 19)) 22,
 mo (.ext 1 (.t 19)) 23,
 oV 22 4,
 oV 23 5]
 (.seq (.seq (.note (.gc [0,4,5]) (.reg [oV 0 24,
 oV 4 25,
 oV 5 26,
 mo (.call (.f 46) [(.t 24),(.t 25),(.t 26)] [] []) 27,
 oV 27 6]))
 (sR [oV 6 28,
 mo (.bin false .neq (.t 28) (cI 0)) 29]
 (.cond (.t 29)
 (.seq (.note (.gc [6]) (.reg [oV 6 30,
 mo (.mv (.c (.sl []))) 2,
 oV 30 3]))
 .ret)
 .skip)))
 (sR [mo (.mv (.c .nils)) 7]
 (.seq (.seq (.note (.gc [0,4,7]) (.reg [oV 0 31,
 mo (.len false (.t 31)) 32,
 oC 0 33]))
 (.block 0
 (.loop mc_2k)))
 (sR [mo (.mv (.c .nils)) 11]
 (.seq (sR [oV 7 50,
 mo (.len false (.t 50)) 51,
 oC 0 52]
 (.block 2
 (.loop mc_2l)))
 (sR [oV 11 74,
 oV 74 2,
 oC 0 3]
 .ret)))))))))
theorem Wq_1n {l_ : List GPacked} : Cn Tryz.prog 26 [.sl (l_.map GPacked.v)] [] (F_1n l_) (fun z => .tup [.sl (z.1.map GObject.v), .int .i64 z.2]) (fun z => []) := fun Q Q' h hQ => by
 refine acallM mc_1n [.fz 2] [] [.t 2, .t 3] Tryz.func26 fun M => ?_
 unfold F_1n at h
 unfold mc_1n
 replace h := tY h
 refine tB ?_
 repeat' (first
 | (exact tZ)
 | ((first | refine oblg h ?_ | refine roomG h ?_ | refine fork h ?_ ?_ | refine forkS h ?_ ?_) <;> clear h <;> intro hc h)
 | (obtain ⟨y, hy, h⟩ := h; (first | with_reducible first | have hw := Wq_f.w hy | have hw := Wq_1a.w hy | have hw := W_2 hy | have hw := Wq_k.w hy); replace hw := tY hw; (first | refine M.sC hw ?_ | refine M.sD hw ?_); clear hw hy; refine tB ?_)
 | (refine M.for1 (b := mc_2k) 33 [0,4,32] [] (fun x => [(7, .osl 2007 1 0 x.length)]) (fun x => [.o 2007 (.arr 1 (x.map (slV byteV)))]) [.gc [0,4,7,32,33], .acc 7 2007 1] h ?_ ?_ ?_ <;> first
 | (clear h; intro k a x Qn K hK1 hkN1 ha1 h hf; have hl := fact_int (factsE_find (n := 32) hf.1 rfl); clear hf; have hkd := kD hkN1; have hkB1 := kB hkN1; have hkI1 := kI (k := k) (by omega); unfold F_2k at h; unfold mc_2k; replace h := tY h; refine tK ha1 hkd hkN1 hkB1 hkI1 ?_)
  |(clear h; intro x K h; replace h := And.left (And.intro h trivial); unfold mc_2k; replace h := tY h; refine tB ?_)
  |(clear h; (try refine tB ?_); exact tU0; done))
 | (refine M.for1 (b := mc_2l) 52 [0,50,51] [2007] (fun x => [(11, .osl 2011 8 0 x.length)]) (fun x => [.o 2011 (.arr 8 (x.map GObject.v))]) [.gc [0,11,50,51,52], .acc 11 2011 8] h ?_ ?_ ?_ <;> first
 | (clear h; intro k a x Qn K hK2 hkN2 ha2 h hf; have hl := fact_int (factsE_find (n := 51) hf.1 rfl); clear hf; have hkd := kD hkN2; have hkB2 := kB hkN2; have hkI2 := kI (k := k) (by omega); unfold F_2l at h; unfold mc_2l; replace h := tY h; refine tK ha2 hkd hkN2 hkB2 hkI2 ?_)
  |(clear h; intro x K h; replace h := And.left (And.intro h trivial); unfold mc_2l; replace h := tY h; refine tB ?_)
  |(clear h; (try refine tB ?_); exact tU0; done))
 | (first | simp only [ha1] | simp only [ha2])
 | ((first | refine hK1 _ ?_ | refine hK2 _ ?_); (try refine tB ?_); refine ⟨_, h, ?_⟩; exact tU0; done)
 | (refine tE ?_; (first | rw [M.lok_compU] | rw [M.lokD_compU]); refine tB ?_)
 | (refine tA ?_)
 | fail)
noncomputable def F_13 (l_ : List GPacked) (id_ : Int) : Option Int :=
 (F_f l_).bind fun y2 => (F_q l_ y2.1 id_).bind fun y4 => some (max y4 (-1))
def mc_13 : MC :=
 (sR [oC 0 4]
 (sR [oV 0 8,
 mo (.call (.f 45) [(.t 8)] [] []) 9,
 oV 9 7,
 mo (.ext 0 (.t 7)) 10,
 mo (.ext 1 (.t 7)) 11,
 oV 10 5,
 oV 11 6]
 (sR [oV 0 12,
 oV 5 13,
 oV 1 14,
 mo (.call (.f 49) [(.t 12),(.t 13),(.t 14)] [] []) 15,
 mo (.mm true (.t 15) (cI (-1))) 16,
 oV 16 4]
 .ret)))
theorem Wq_13 {l_ : List GPacked} {id_ : Int} : Cn Tryz.prog 27 [.sl (l_.map GPacked.v), .int .i64 id_] [] (F_13 l_ id_) (fun z => .int .i64 z) (fun z => []) := fun Q Q' h hQ => by
 refine acallM mc_13 [] [] [.t 4] Tryz.func27 fun M => ?_
 unfold F_13 at h
 unfold mc_13
 replace h := tY h
 refine tB ?_
 repeat' (first
 | (exact tZ)
 | ((first | refine oblg h ?_ | refine roomG h ?_ | refine fork h ?_ ?_ | refine forkS h ?_ ?_) <;> clear h <;> intro hc h)
 | (obtain ⟨y, hy, h⟩ := h; (first | with_reducible first | have hw := Wq_f.w hy | have hw := Wq_q.w hy); replace hw := tY hw; (first | refine M.sC hw ?_ | refine M.sD hw ?_); clear hw hy; refine tB ?_)
 | (refine tE ?_; (first | rw [M.lok_compU] | rw [M.lokD_compU]); refine tB ?_)
 | (refine tA ?_)
 | fail)
noncomputable def F_1o : Option Bool :=
 (F_1n [(GPacked.mk 1 false 0 [] [98,108,111,98,10,97,98]), (GPacked.mk 2 true 1 [(GOp.mk 0 6 [])] [])]).bind fun y2 => grp ((decide (y2.2 = 0) && decide ((y2.1.length : Int) = 2))) fun b7 => jn (α := Bool) (bif b7 then chk (inb 1 y2.1.length) (some (decide ((y2.1.getD 1 default).Data = [97]))) else some false) fun j8 => jn (α := Bool) (bif j8 then (F_13 [(GPacked.mk 1 false 0 [] [98,108,111,98,10,97,98]), (GPacked.mk 2 true 1 [(GOp.mk 0 6 [])] [])] 2).bind fun y10 => some (decide (y10 = 1)) else some false) fun j11 => some j11
@[irreducible] def mg_5h : List MOp := [gT 18 19 (.mv (.t 2)),
 gT 18 20 (.len false (.t 19)),
 gT 18 21 (.bin false .eql (.t 20) (cI 2)),
 mo (.pick (.t 18) (.t 21) (.c (.bool false))) 22]
@[irreducible] def mg_5i : List MOp := [gT 23 24 (.mv (.t 2)),
 gT 23 25 (.iad 8 (.t 24) (cI 1)),
 gT 23 26 (.fad 2 (.t 25)),
 gT 23 27 (.ld none (.t 26)),
 gT 23 28 (.b2s (.t 27)),
 gT 23 29 (.bin false .eql (.t 28) (.c (.str [97]))),
 mo (.pick (.t 23) (.t 29) (.c (.bool false))) 30]
@[irreducible] def mg_5j : List MOp := [gT 31 32 (.mv (.t 1)),
 gT 31 33 (.call (.f 27) [(.t 32), (cI 2)] [] []),
 gT 31 34 (.bin false .eql (.t 33) (cI 1)),
 mo (.pick (.t 31) (.t 34) (.c (.bool false))) 35]
def mc_1o : MC :=
 (sR [mo (.mv (.c (.bool false))) 0]
 (.seq (.regI [.op (mo (.bslice 1 [(.c (.int .u8 98)),(.c (.int .u8 108)),(.c (.int .u8 111)),(.c (.int .u8 98)),(.c (.int .u8 10)),(.c (.int .u8 97)),(.c (.int .u8 98))]) 4),
 .op (mo (.mks (.t 4)) 5),
 .op (mo (.build [(.int .i64 0),(.bool false),(.int .i64 0),(.sl []),(.sl [])] [(0,1, (cI 1)), (4,1,(.t 5))]) 6),
 .op (mo (.build [(.int .i64 0),(.int .i64 0),(.sl [])] [(1,1, (cI 6))]) 7),
 .op (mo (.lsl 3 [(.t 7)]) 8),
 .op (mo (.build [(.int .i64 0),(.bool false),(.int .i64 0),(.sl []),(.sl [])] [(0,1, (cI 2)), (1,1,(.c (.bool true))), (2,1, (cI 1)), (3,1,(.t 8))]) 9),
 .nt (.fz 6),
 .op (mo (.bslice 5 [(.t 6),(.t 9)]) 10),
 .op (oV 10 1)])
 (.seq (.note (.gc [1,19,20,21,24,25,26,27,28,29,32,33,34]) (.regI [.op (oV 1 12),
 .nt (.fz 12),
 .op (mo (.call (.f 26) [(.t 12)] [] []) 13),
 .op (oV 13 11),
 .op (mo (.ext 0 (.t 11)) 14),
 .op (mo (.ext 1 (.t 11)) 15),
 .op (oV 14 2),
 .op (oV 15 3)]))
 (.seq (.regI [.op (oV 3 16),
 .op (mo (.bin false .eql (.t 16) (cI 0)) 17),
 .op (oV 17 18),
 .grp mg_5h,
 .op (oV 22 23),
 .grp mg_5i,
 .op (oV 30 31),
 .grp mg_5j,
 .op (oV 35 0)])
 .ret))))
theorem Wq_1o : Cn Tryz.prog 10 [] [] F_1o (fun z => .bool z) (fun z => []) := fun Q Q' h hQ => by
 refine acallM mc_1o [] [] [.t 0] Tryz.func10 fun M => ?_
 unfold F_1o at h
 unfold mc_1o
 replace h := tY h
 refine tB ?_
 repeat' (first
 | (exact tZ)
 | ((first | refine oblg h ?_ | refine roomG h ?_ | refine fork h ?_ ?_ | refine forkS h ?_ ?_) <;> clear h <;> intro hc h)
 | (obtain ⟨y, hy, h⟩ := h; (first | with_reducible first | have hw := Wq_1n.w hy | have hw := Wq_13.w hy); replace hw := tY hw; (first | refine M.sC hw ?_ | refine M.sD hw ?_); clear hw hy; refine tB ?_)
 | (refine M.gj1 (ms := mg_5j) [] [] (fun y => [(35, .bool y)]) (fun y => []) h ?_ ?_ <;> first
 | (clear h; intro Qn K hK1 h; unfold mg_5j; replace h := tY h; refine tB ?_)
  |(clear h; intro y h; replace h := tY h; refine tB ?_))
 | (refine M.gj1 (ms := mg_5i) [1] [] (fun y => [(30, .bool y)]) (fun y => []) h ?_ ?_ <;> first
 | (clear h; intro Qn K hK2 h; unfold mg_5i; replace h := tY h; refine tB ?_)
  |(clear h; intro y h; replace h := tY h; refine tB ?_))
 | (refine M.gv1 (ms := mg_5h) 22 [19,20,21] h ?_ ?_ <;> first
 | (clear h; intro K hK3; unfold mg_5h; refine tB ?_)
 | (clear h; intro b h; replace h := tY h; refine tB ?_))
 | ((first | refine hK1 _ ?_ | refine hK2 _ ?_); (try refine tB ?_); refine ⟨_, h, ?_⟩; exact tU0; done)
 | (refine hK3 _ ?_; exact tU; done)
 | (refine bfork (fun hc => ?_) (fun hc => ?_))
 | (refine tE ?_; (first | rw [M.lok_compU] | rw [M.lokD_compU]); refine tB ?_)
 | (refine tA ?_)
 | fail)
end Go.Ab
