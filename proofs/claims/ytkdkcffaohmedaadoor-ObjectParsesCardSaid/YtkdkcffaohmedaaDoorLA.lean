/- What the functions of this seat that lie on the laws' road compute (part LA), each for every input. By AI agents. -/
import Derived.Test.YtkdkcffaohmedaaDoorProg
import Derived.KernelRfl
import Derived.Test.YtkdkcffaohmedaaDoorAbFun
import Derived.Test.YtkdkcffaohmedaaDoorLN
set_option linter.all false
set_option linter.all false
set_option maxRecDepth 20000
set_option maxHeartbeats 2000000
namespace Go.Ab
open Go.Proofs
structure GItem where
 Name : Str
 ID : Int
instance : Inhabited GItem := ⟨⟨default, default⟩⟩
def GItem.v (x : GItem) : V := .agg [.str x.Name, .int .i64 x.ID]
structure GObject where
 ID : Int
 Kind : Int
 Data : List UInt8
 Items : List GItem
 Tree : Int
 Parents : List Int
 Author : Str
 Time : Int
instance : Inhabited GObject := ⟨⟨default, default, default, default, default, default, default, default⟩⟩
def GObject.v (x : GObject) : V := .agg [.int .i64 x.ID, .int .i64 x.Kind, .sl (x.Data.map byteV), .sl (x.Items.map GItem.v), .int .i64 x.Tree, .sl (x.Parents.map (V.int .i64)), .str x.Author, .int .i64 x.Time]
theorem dlt {a : Int} : decide (a < a) = false := by simp
attribute [go_sem] beq_self_eq_true Int.cast_ofNat_Int List.take_succ_cons List.take_zero List.drop_succ_cons List.cons_append List.nil_append putPs pinH wrap_u8 rng64 inb_and inc_and room_and roomI_and divs_and shok_and64 rep_u rep_ll mget_i mget_s mput_i mput_s mdel_i mdel_s lk_b lk_i lk_s lk_l lkt_b' lkt_i' lkt_s' lkt_l' rep_b rep_i ovS ovE ovU patO filt filtH dropE stepNs atEndN shqs shq1 V.oids V.oidsL V.tr V.trL trE trH Obj'.tr true_implies false_implies Bool.false_eq_true Bool.true_eq_false dlt mpV slV Int.natCast_zero List.map_set kvV nxt_map erase_map V.sw V.swL swN swH sw_sl sw_int sw_bool sw_str sw_smap sw_byte Obj'.sw sw_arr sw_map byte_1 byte_2 Mach.b2s_e Mach.b2s_eD toNat_ltb List.length_set List.length_replicate List.take_of_length_le Nat.zero_le bounds eqCells Option.map_some Option.map_none Fl_nx Fl_ex Sum_inl Sum_inr Ok_ite Ok_chk Ok_some Ok_bind Ok_none
theorem inbk_0 {n : Nat} : (inb 0 n = true) = (((0 : Nat) : Int) < (n : Int)) := propext (by rw [inb_iff]; omega)
attribute [go_sem] inbk_0
theorem incl_0 {b : Int} {n : Nat} : (inc 0 b n = true) = (((0 : Nat) : Int) ≤ b ∧ b ≤ (n : Int)) := propext (by rw [inc_iff]; omega)
attribute [go_sem] incl_0
attribute [go_sem] GItem.v GObject.v
def F_6 (id_ : Int) : Option Bool :=
 grp ((decide (1 ≤ id_) && decide (id_ ≤ 1073741824))) fun b2 => some b2
@[irreducible] def mg_2a : List MOp := [gT 5 6 (.mv (.t 0)),
 gT 5 7 (.bin false .leq (.t 6) (cI 1073741824)),
 mo (.pick (.t 5) (.t 7) (.c (.bool false))) 8]
def mc_6 : MC :=
 (sR [mo (.mv (.c (.bool false))) 2]
 (.seq (.regI [.op (oV 0 3),
 .op (mo (.bin false .geq (.t 3) (cI 1)) 4),
 .op (oV 4 5),
 .grp mg_2a,
 .op (oV 8 2)])
 .ret))
theorem Wq_6 {id_ : Int} : Cn Tryd.prog 26 [.int .i64 id_] [] (F_6 id_) (fun z => .bool z) (fun z => []) := fun Q Q' h hQ => by
 refine acallM mc_6 [] [] [.t 2] Tryd.func26 fun M => ?_
 unfold F_6 at h
 unfold mc_6
 replace h := tY h
 refine tB ?_
 repeat' (first
 | (exact tZ)
 | ((first | refine oblg h ?_ | refine roomG h ?_ | refine fork h ?_ ?_ | refine forkS h ?_ ?_) <;> clear h <;> intro hc h)
 | (refine M.gv1 (ms := mg_2a) 8 [6,7] h ?_ ?_ <;> first
 | (clear h; intro K hK1; unfold mg_2a; refine tB ?_)
 | (clear h; intro b h; replace h := tY h; refine tB ?_))
 | (refine hK1 _ ?_; exact tU; done)
 | (refine bfork (fun hc => ?_) (fun hc => ?_))
 | (refine tE ?_; (first | rw [M.lok_compU] | rw [M.lokD_compU]); refine tB ?_)
 | (refine tA ?_)
 | fail)
def F_1l (k51 : Int) (a52 : UInt8) (x50 : Unit) : Option (Fl Unit Bool) :=
 grp ((decide ((a52.toNat : Int) < 33) || decide (126 < (a52.toNat : Int)))) fun b67 => grp ((b67 || decide ((a52.toNat : Int) = 47))) fun b68 => bif b68 then some (.ex false) else some (.nx ())
def F_i (s_ : Str) : Option Bool :=
 (forL F_1l s_ 0 ()).bind fun o => o.elim (fun x69 => grp ((decide (1 ≤ (s_.length : Int)) && decide ((s_.length : Int) ≤ 40))) fun b72 => some b72) (fun r70 => some r70)
@[irreducible] def mg_2b : List MOp := [gF 14 15 (.mv (.t 4)),
 gF 14 16 (.bin false .gtr (.t 15) (.c (.int .u8 126))),
 mo (.pick (.t 14) (.c (.bool true)) (.t 16)) 17]
@[irreducible] def mg_2c : List MOp := [gF 18 19 (.mv (.t 4)),
 gF 18 20 (.bin false .eql (.t 19) (.c (.int .u8 47))),
 mo (.pick (.t 18) (.c (.bool true)) (.t 20)) 21]
@[irreducible] def mc_1l : MC :=
 (sR [mo (.bin false .lss (.t 8) (.t 7)) 9]
 (.seq (.cond (.t 9)
 .skip
 (.exit 0))
 (.seq (.block 1
 (sR [mo (.iad 1 (.t 6) (.t 8)) 10,
 oL 10 11,
 oV 11 4]
 (.seq (.regI [.op (oV 4 12),
 .op (mo (.bin false .lss (.t 12) (.c (.int .u8 33))) 13),
 .op (oV 13 14),
 .grp mg_2b,
 .op (oV 17 18),
 .grp mg_2c])
 (.cond (.t 21)
 (sR [mo (.mv (.c (.bool false))) 2]
 .ret)
 .skip))))
 (.reg [mo (.bin true .add (.t 8) (cI 1)) 22,
 oV 22 8]))))
@[irreducible] def mg_2d : List MOp := [gT 26 27 (.mv (.t 0)),
 gT 26 28 (.len true (.t 27)),
 gT 26 29 (.bin false .leq (.t 28) (cI 40)),
 mo (.pick (.t 26) (.t 29) (.c (.bool false))) 30]
def mc_i : MC :=
 (sR [mo (.mv (.c (.bool false))) 2]
 (.seq (sR [oV 0 5,
 mo (.s2b (.t 5)) 6,
 mo (.len false (.t 6)) 7,
 oC 0 8]
 (.block 0
 (.loop mc_1l)))
 (.seq (.regI [.op (oV 0 23),
 .op (mo (.len true (.t 23)) 24),
 .op (mo (.bin false .geq (.t 24) (cI 1)) 25),
 .op (oV 25 26),
 .grp mg_2d,
 .op (oV 30 2)])
 .ret)))
theorem Wq_i {s_ : Str} : Cn Tryd.prog 9 [.str s_] [] (F_i s_) (fun z => .bool z) (fun z => []) := fun Q Q' h hQ => by
 refine acallM mc_i [] [] [.t 2] Tryd.func9 fun M => ?_
 unfold F_i at h
 unfold mc_i
 replace h := tY h
 refine tB ?_
 repeat' (first
 | (exact tZ)
 | ((first | refine oblg h ?_ | refine roomG h ?_ | refine fork h ?_ ?_ | refine forkS h ?_ ?_) <;> clear h <;> intro hc h)
 | (refine M.gv1 (ms := mg_2c) 21 [19,20] h ?_ ?_ <;> first
 | (clear h; intro K hK1; unfold mg_2c; refine tB ?_)
 | (clear h; intro b h; replace h := tY h; refine tB ?_))
 | (refine M.gv1 (ms := mg_2b) 17 [15,16] h ?_ ?_ <;> first
 | (clear h; intro K hK2; unfold mg_2b; refine tB ?_)
 | (clear h; intro b h; replace h := tY h; refine tB ?_))
 | (refine M.for1 (b := mc_1l) 8 [0,6,7] [6] (fun x => []) (fun x => []) [] h ?_ ?_ ?_ <;> first
 | (clear h; intro k a x Qn K hK3 hkN3 ha3 h hf; have hl := fact_int (factsE_find (n := 7) hf.1 rfl); clear hf; have hkd := kD hkN3; have hkB3 := kB hkN3; have hkI3 := kI (k := k) (by omega); unfold F_1l at h; unfold mc_1l; replace h := tY h; refine tK ha3 hkd hkN3 hkB3 hkI3 ?_)
  |(clear h; intro x K h; replace h := And.left (And.intro h trivial); unfold mc_1l; replace h := tY h; refine tB ?_)
  |(clear h; (try refine tB ?_); exact tU0; done))
 | (refine M.gv1 (ms := mg_2d) 30 [27,28,29] h ?_ ?_ <;> first
 | (clear h; intro K hK4; unfold mg_2d; refine tB ?_)
 | (clear h; intro b h; replace h := tY h; refine tB ?_))
 | (simp only [ha3])
 | ((first | refine hK1 _ ?_ | refine hK2 _ ?_ | refine hK4 _ ?_); exact tU; done)
 | (refine hK3 _ ?_; (try refine tB ?_); refine ⟨_, h, ?_⟩; exact tU0; done)
 | (refine bfork (fun hc => ?_) (fun hc => ?_))
 | (refine tE ?_; (first | rw [M.lok_compU] | rw [M.lokD_compU]); refine tB ?_)
 | (refine tA ?_)
 | fail)
def F_1m (o_ : GObject) (k51 : Int) (a52 : GItem) (x50 : Unit) : Option (Fl Unit Bool) :=
 (F_i a52.Name).bind fun y67 => bif (!y67) then some (.ex false) else (F_6 a52.ID).bind fun y68 => bif (!y68) then some (.ex false) else bif decide (0 < k51) then chk (in64 (k51 - 1)) (chk (inb (k51 - 1) o_.Items.length) (bif (!Op.bytesLess ((o_.Items.getD ((k51 - 1)).toNat default).Name) a52.Name) then some (.ex false) else some (.nx ()))) else some (.nx ())
def F_t (o_ : GObject) : Option Bool :=
 (forL (F_1m o_) o_.Items 0 ()).bind fun o => o.elim (fun x69 => some true) (fun r70 => some r70)
@[irreducible] def mc_1m : MC :=
 (sR [mo (.bin false .lss (.t 8) (.t 7)) 9]
 (.seq (.cond (.t 9)
 .skip
 (.exit 0))
 (.seq (.block 1
 (sR [oV 8 10,
 mo (.iad 2 (.t 6) (.t 8)) 11,
 mo (.ld (some 2) (.t 11)) 12,
 mo (.alloc [(.str []),(.int .i64 0)]) 4,
 oV 10 3,
 ⟨.st 2 (.t 4) (.t 12), none, none⟩]
 (.seq (.regD [oF 0 4 13,
 oL 13 14,
 mo (.call (.f 9) [(.t 14)] [] []) 15,
 mo (.not (.t 15)) 16,
 oV 16 17,
 gF 17 18 (.fad 1 (.t 4)),
 gF 17 19 (.ld none (.t 18)),
 gF 17 20 (.call (.f 26) [(.t 19)] [] []),
 gF 17 21 (.not (.t 20)),
 mo (.pick (.t 17) (.c (.bool true)) (.t 21)) 22,
 oV 22 23,
 gF 23 24 (.mv (.t 3)),
 gF 23 25 (.bin false .gtr (.t 24) (cI 0)),
 gF 23 26 (.mv (.t 25)),
 gT 26 27 (.fad 3 (.t 1)),
 gT 26 28 (.ld none (.t 27)),
 gT 26 29 (.mv (.t 3)),
 gT 26 30 (.bin true .sub (.t 29) (cI 1)),
 gT 26 31 (.iad 2 (.t 28) (.t 30)),
 gT 26 32 (.fad 0 (.t 31)),
 gT 26 33 (.ld none (.t 32)),
 gT 26 34 (.fad 0 (.t 4)),
 gT 26 35 (.ld none (.t 34)),
 gT 26 36 (.bin false .geq (.t 33) (.t 35)),
 gF 23 37 (.pick (.t 26) (.t 36) (.c (.bool false))),
 mo (.pick (.t 23) (.c (.bool true)) (.t 37)) 38]
 [[],[0],[1],[2],[3,2],[4],[5,4],[6,4,4],[7,4],[4,8],[9,7],[10],[11,10],[12,10,10],[13],[14,13],[13],[16,13],[15,17,13],[18,13],[19,13],[13],[21,13],[20,22,13],[13,23,10],[10,24]]
 [[],[0],[0,1],[0,1,2],[0,1,2,3],[0,1,2,3,4],[0,1,2,3,4,5],[0,1,2,3,4,5,6],[0,1,2,3,4,5,6,7],[0,1,2,3,4,5,6,7,8],[0,1,2,3,4,5,6,7,8,9],[0,1,2,3,4,5,6,7,8,9,10],[0,1,2,3,4,5,6,7,8,9,10,11],[0,1,2,3,4,5,6,7,8,9,10,11,12],[0,1,2,3,4,5,6,7,8,9,10,11,12,13],[0,1,2,3,4,5,6,7,8,9,10,11,12,13,14],[0,1,2,3,4,5,6,7,8,9,10,11,12,13],[0,1,2,3,4,5,6,7,8,9,10,11,12,13,16],[0,1,2,3,4,5,6,7,8,9,10,11,12,13,14,15,16,17],[0,1,2,3,4,5,6,7,8,9,10,11,12,13,14,15,16,17,18],[0,1,2,3,4,5,6,7,8,9,10,11,12,13,14,15,16,17,18,19],[0,1,2,3,4,5,6,7,8,9,10,11,12,13],[0,1,2,3,4,5,6,7,8,9,10,11,12,13,21],[0,1,2,3,4,5,6,7,8,9,10,11,12,13,14,15,16,17,18,19,20,21,22],[0,1,2,3,4,5,6,7,8,9,10,11,12,13,14,15,16,17,18,19,20,21,22,23],[0,1,2,3,4,5,6,7,8,9,10,11,12,13,14,15,16,17,18,19,20,21,22,23,24]])
 (.cond (.t 38)
 (sR [mo (.mv (.c (.bool false))) 2]
 .ret)
 .skip))))
 (.reg [mo (.bin true .add (.t 8) (cI 1)) 39,
 oV 39 8]))))
def mc_t : MC :=
 (sR [mo (.box (.t 0)) 1,
 mo (.mv (.c (.bool false))) 2]
 (.seq (sR [oF 3 1 5,
 oL 5 6,
 mo (.len false (.t 6)) 7,
 oC 0 8]
 (.block 0
 (.loop mc_1m)))
 (sR [mo (.mv (.c (.bool true))) 2]
 .ret)))
theorem Wq_t {o_ : GObject} : Cn Tryd.prog 46 [GObject.v o_] [] (F_t o_) (fun z => .bool z) (fun z => []) := fun Q Q' h hQ => by
 refine acallM mc_t [] [] [.t 2] Tryd.func46 fun M => ?_
 unfold F_t at h
 unfold mc_t
 replace h := tY h
 refine tB ?_
 repeat' (first
 | (exact tZ)
 | ((first | refine oblg h ?_ | refine roomG h ?_ | refine fork h ?_ ?_ | refine forkS h ?_ ?_) <;> clear h <;> intro hc h)
 | (obtain ⟨y, hy, h⟩ := h; (first | with_reducible first | have hw := Wq_i.w hy | have hw := Wq_6.w hy); replace hw := tY hw; (first | refine M.sC hw ?_ | refine M.sD hw ?_); clear hw hy; refine tB ?_)
 | (refine M.for1 (b := mc_1m) 8 [1,6,7] [1] (fun x => []) (fun x => []) [] h ?_ ?_ ?_ <;> first
 | (clear h; intro k a x Qn K hK1 hkN1 ha1 h hf; have hl := fact_int (factsE_find (n := 7) hf.1 rfl); clear hf; have hkd := kD hkN1; have hkB1 := kB hkN1; have hkI1 := kI (k := k) (by omega); unfold F_1m at h; unfold mc_1m; replace h := tY h; refine tK ha1 hkd hkN1 hkB1 hkI1 ?_)
  |(clear h; intro x K h; replace h := And.left (And.intro h trivial); unfold mc_1m; replace h := tY h; refine tB ?_)
  |(clear h; (try refine tB ?_); exact tU0; done))
 | (simp only [ha1])
 | (refine hK1 _ ?_; (try refine tB ?_); refine ⟨_, h, ?_⟩; exact tU0; done)
 | (refine tE ?_; (first | rw [M.lok_compU] | rw [M.lokD_compU]); refine tB ?_)
 | (refine tA ?_)
 | fail)
def F_1a (v_ : Int) (k11 : Int) (a12 : Int) (x10 : Unit) : Option (Fl Unit Int) :=
 bif decide (v_ = a12) then some (.ex k11) else some (.nx ())
def F_1b (s_ : List Int) (v_ : Int) : Option Int :=
 (forL (F_1a v_) s_ 0 ()).bind fun o => o.elim (fun x13 => some (-1)) (fun r14 => some r14)
@[irreducible] def mc_1a : MC :=
 (sR [mo (.bin false .lss (.t 8) (.t 7)) 9]
 (.seq (.cond (.t 9)
 .skip
 (.exit 0))
 (.seq (.block 1
 (sR [oV 8 10,
 oV 10 5]
 (sR [oV 1 11,
 oV 0 12,
 oV 5 13,
 mo (.iad 1 (.t 12) (.t 13)) 14,
 oL 14 15,
 mo (.bin false .eql (.t 11) (.t 15)) 16]
 (.cond (.t 16)
 (sR [oV 5 17,
 oV 17 4]
 .ret)
 .skip))))
 (.reg [mo (.bin true .add (.t 8) (cI 1)) 18,
 oV 18 8]))))
def mc_1b : MC :=
 (sR [oC 0 4]
 (.seq (sR [oV 0 6,
 mo (.len false (.t 6)) 7,
 oC 0 8]
 (.block 0
 (.loop mc_1a)))
 (sR [oC (-1) 4]
 .ret)))
theorem Wq_1b {s_ : List Int} {v_ : Int} : Cn Tryd.prog 68 [.sl (s_.map (V.int .i64)), .int .i64 v_] [] (F_1b s_ v_) (fun z => .int .i64 z) (fun z => []) := fun Q Q' h hQ => by
 refine acallM mc_1b [] [] [.t 4] Tryd.func68 fun M => ?_
 unfold F_1b at h
 unfold mc_1b
 replace h := tY h
 refine tB ?_
 repeat' (first
 | (exact tZ)
 | ((first | refine oblg h ?_ | refine roomG h ?_ | refine fork h ?_ ?_ | refine forkS h ?_ ?_) <;> clear h <;> intro hc h)
 | (refine M.for1 (b := mc_1a) 8 [0,1,7] [] (fun x => []) (fun x => []) [] h ?_ ?_ ?_ <;> first
 | (clear h; intro k a x Qn K hK1 hkN1 ha1 h hf; have hl := fact_int (factsE_find (n := 7) hf.1 rfl); clear hf; have hkd := kD hkN1; have hkB1 := kB hkN1; have hkI1 := kI (k := k) (by omega); unfold F_1a at h; unfold mc_1a; replace h := tY h; refine tK ha1 hkd hkN1 hkB1 hkI1 ?_)
  |(clear h; intro x K h; replace h := And.left (And.intro h trivial); unfold mc_1a; replace h := tY h; refine tB ?_)
  |(clear h; (try refine tB ?_); exact tU0; done))
 | (simp only [ha1])
 | (refine hK1 _ ?_; (try refine tB ?_); refine ⟨_, h, ?_⟩; exact tU0; done)
 | (refine tE ?_; (first | rw [M.lok_compU] | rw [M.lokD_compU]); refine tB ?_)
 | (refine tA ?_)
 | fail)
def F_u (s_ : List Int) (v_ : Int) : Option Bool :=
 (F_1b s_ v_).bind fun y2 => some (decide (0 ≤ y2))
def mc_u : MC :=
 (sR [mo (.mv (.c (.bool false))) 4]
 (sR [oV 0 5,
 oV 1 6,
 mo (.call (.f 68) [(.t 5),(.t 6)] [] []) 7,
 mo (.bin false .geq (.t 7) (cI 0)) 8,
 oV 8 4]
 .ret))
theorem Wq_u {s_ : List Int} {v_ : Int} : Cn Tryd.prog 58 [.sl (s_.map (V.int .i64)), .int .i64 v_] [] (F_u s_ v_) (fun z => .bool z) (fun z => []) := fun Q Q' h hQ => by
 refine acallM mc_u [] [] [.t 4] Tryd.func58 fun M => ?_
 unfold F_u at h
 unfold mc_u
 replace h := tY h
 refine tB ?_
 repeat' (first
 | (exact tZ)
 | ((first | refine oblg h ?_ | refine roomG h ?_ | refine fork h ?_ ?_ | refine forkS h ?_ ?_) <;> clear h <;> intro hc h)
 | (obtain ⟨y, hy, h⟩ := h; have hw := Wq_1b.w hy; replace hw := tY hw; (first | refine M.sC hw ?_ | refine M.sD hw ?_); clear hw hy; refine tB ?_)
 | (refine tE ?_; (first | rw [M.lok_compU] | rw [M.lokD_compU]); refine tB ?_)
 | (refine tA ?_)
 | fail)
def F_1n (o_ : GObject) (k51 : Int) (a52 : Int) (x50 : Unit) : Option (Fl Unit Bool) :=
 (F_6 a52).bind fun y67 => bif (!y67) then some (.ex false) else chk (inc 0 k51 o_.Parents.length) ((F_u (o_.Parents.take ((k51).toNat)) a52).bind fun y68 => bif y68 then some (.ex false) else some (.nx ()))
def F_v (o_ : GObject) : Option Bool :=
 (forL (F_1n o_) o_.Parents 0 ()).bind fun o => o.elim (fun x69 => (F_6 o_.Tree).bind fun y76 => jn (α := Bool) (bif y76 then (F_i o_.Author).bind fun y78 => some y78 else some false) fun j79 => grp ((j79 && decide (0 ≤ o_.Time))) fun b80 => grp ((b80 && decide (o_.Time ≤ 1099511627776))) fun b81 => some b81) (fun r70 => some r70)
@[irreducible] def mc_1n : MC :=
 (sR [mo (.bin false .lss (.t 8) (.t 7)) 9]
 (.seq (.cond (.t 9)
 .skip
 (.exit 0))
 (.seq (.block 1
 (sR [oV 8 10,
 mo (.iad 1 (.t 6) (.t 8)) 11,
 oL 11 12,
 oV 10 3,
 oV 12 4]
 (sR [oV 4 13,
 mo (.call (.f 26) [(.t 13)] [] []) 14,
 mo (.not (.t 14)) 15,
 oV 15 16,
 gF 16 17 (.fad 5 (.t 1)),
 gF 16 18 (.ld none (.t 17)),
 gF 16 19 (.mv (.t 3)),
 gF 16 20 (.slc 1 (.t 18) none (some (.t 19))),
 gF 16 21 (.mv (.t 4)),
 gF 16 22 (.call (.f 58) [(.t 20),(.t 21)] [] []),
 mo (.pick (.t 16) (.c (.bool true)) (.t 22)) 23]
 (.cond (.t 23)
 (sR [mo (.mv (.c (.bool false))) 2]
 .ret)
 .skip))))
 (.reg [mo (.bin true .add (.t 8) (cI 1)) 24,
 oV 24 8]))))
@[irreducible] def mg_2e : List MOp := [gT 28 29 (.fad 6 (.t 1)),
 gT 28 30 (.ld none (.t 29)),
 gT 28 31 (.call (.f 9) [(.t 30)] [] []),
 mo (.pick (.t 28) (.t 31) (.c (.bool false))) 32]
@[irreducible] def mg_2f : List MOp := [gT 33 34 (.fad 7 (.t 1)),
 gT 33 35 (.ld none (.t 34)),
 gT 33 36 (.bin false .geq (.t 35) (cI 0)),
 mo (.pick (.t 33) (.t 36) (.c (.bool false))) 37]
@[irreducible] def mg_2g : List MOp := [gT 38 39 (.fad 7 (.t 1)),
 gT 38 40 (.ld none (.t 39)),
 gT 38 41 (.bin false .leq (.t 40) (cI 1099511627776)),
 mo (.pick (.t 38) (.t 41) (.c (.bool false))) 42]
def mc_v : MC :=
 (sR [mo (.box (.t 0)) 1,
 mo (.mv (.c (.bool false))) 2]
 (.seq (sR [oF 5 1 5,
 oL 5 6,
 mo (.len false (.t 6)) 7,
 oC 0 8]
 (.block 0
 (.loop mc_1n)))
 (.seq (.regI [.op (oF 4 1 25),
 .op (oL 25 26),
 .op (mo (.call (.f 26) [(.t 26)] [] []) 27),
 .op (oV 27 28),
 .grp mg_2e,
 .op (oV 32 33),
 .grp mg_2f,
 .op (oV 37 38),
 .grp mg_2g,
 .op (oV 42 2)])
 .ret)))
theorem Wq_v {o_ : GObject} : Cn Tryd.prog 47 [GObject.v o_] [] (F_v o_) (fun z => .bool z) (fun z => []) := fun Q Q' h hQ => by
 refine acallM mc_v [] [] [.t 2] Tryd.func47 fun M => ?_
 unfold F_v at h
 unfold mc_v
 replace h := tY h
 refine tB ?_
 repeat' (first
 | (exact tZ)
 | ((first | refine oblg h ?_ | refine roomG h ?_ | refine fork h ?_ ?_ | refine forkS h ?_ ?_) <;> clear h <;> intro hc h)
 | (obtain ⟨y, hy, h⟩ := h; (first | with_reducible first | have hw := Wq_6.w hy | have hw := Wq_u.w hy | have hw := Wq_i.w hy); replace hw := tY hw; (first | refine M.sC hw ?_ | refine M.sD hw ?_); clear hw hy; refine tB ?_)
 | (refine M.for1 (b := mc_1n) 8 [1,6,7] [1] (fun x => []) (fun x => []) [] h ?_ ?_ ?_ <;> first
 | (clear h; intro k a x Qn K hK1 hkN1 ha1 h hf; have hl := fact_int (factsE_find (n := 7) hf.1 rfl); clear hf; have hkd := kD hkN1; have hkB1 := kB hkN1; have hkI1 := kI (k := k) (by omega); unfold F_1n at h; unfold mc_1n; replace h := tY h; refine tK ha1 hkd hkN1 hkB1 hkI1 ?_)
  |(clear h; intro x K h; replace h := And.left (And.intro h trivial); unfold mc_1n; replace h := tY h; refine tB ?_)
  |(clear h; (try refine tB ?_); exact tU0; done))
 | (refine M.gv1 (ms := mg_2g) 42 [39,40,41] h ?_ ?_ <;> first
 | (clear h; intro K hK2; unfold mg_2g; refine tB ?_)
 | (clear h; intro b h; replace h := tY h; refine tB ?_))
 | (refine M.gv1 (ms := mg_2f) 37 [34,35,36] h ?_ ?_ <;> first
 | (clear h; intro K hK3; unfold mg_2f; refine tB ?_)
 | (clear h; intro b h; replace h := tY h; refine tB ?_))
 | (refine M.gj1 (ms := mg_2e) [1] [1] (fun y => [(32, .bool y)]) (fun y => []) h ?_ ?_ <;> first
 | (clear h; intro Qn K hK4 h; unfold mg_2e; replace h := tY h; refine tB ?_)
  |(clear h; intro y h; replace h := tY h; refine tB ?_))
 | (simp only [ha1])
 | ((first | refine hK1 _ ?_ | refine hK4 _ ?_); (try refine tB ?_); refine ⟨_, h, ?_⟩; exact tU0; done)
 | ((first | refine hK2 _ ?_ | refine hK3 _ ?_); exact tU; done)
 | (refine bfork (fun hc => ?_) (fun hc => ?_))
 | (refine tE ?_; (first | rw [M.lok_compU] | rw [M.lokD_compU]); refine tB ?_)
 | (refine tA ?_)
 | fail)
def F_j (o_ : GObject) : Option Bool :=
 grp (((!decide (o_.Tree = 0)) || decide (0 < (o_.Parents.length : Int)))) fun b4 => grp ((b4 || (!decide (o_.Author = [])))) fun b5 => grp ((b5 || (!decide (o_.Time = 0)))) fun b6 => bif decide (o_.Kind = 1) then grp ((decide ((o_.Items.length : Int) = 0) && (!b6))) fun b22 => some b22 else bif decide (o_.Kind = 2) then grp ((decide ((o_.Data.length : Int) = 0) && (!b6))) fun b26 => jn (α := Bool) (bif b26 then (F_t o_).bind fun y28 => some y28 else some false) fun j29 => some j29 else bif decide (o_.Kind = 3) then grp ((decide ((o_.Data.length : Int) = 0) && decide ((o_.Items.length : Int) = 0))) fun b33 => jn (α := Bool) (bif b33 then (F_v o_).bind fun y35 => some y35 else some false) fun j36 => some j36 else some false
@[irreducible] def mg_2h : List MOp := [gF 7 8 (.fad 5 (.t 1)),
 gF 7 9 (.ld none (.t 8)),
 gF 7 10 (.len false (.t 9)),
 gF 7 11 (.bin false .gtr (.t 10) (cI 0)),
 mo (.pick (.t 7) (.c (.bool true)) (.t 11)) 12]
@[irreducible] def mg_2i : List MOp := [gF 13 14 (.fad 6 (.t 1)),
 gF 13 15 (.ld none (.t 14)),
 gF 13 16 (.bin false .neq (.t 15) (.c (.str []))),
 mo (.pick (.t 13) (.c (.bool true)) (.t 16)) 17]
@[irreducible] def mg_2j : List MOp := [gF 18 19 (.fad 7 (.t 1)),
 gF 18 20 (.ld none (.t 19)),
 gF 18 21 (.bin false .neq (.t 20) (cI 0)),
 mo (.pick (.t 18) (.c (.bool true)) (.t 21)) 22]
@[irreducible] def mg_2k : List MOp := [gT 31 32 (.mv (.t 3)),
 gT 31 33 (.not (.t 32)),
 mo (.pick (.t 31) (.t 33) (.c (.bool false))) 34]
@[irreducible] def mg_2l : List MOp := [gT 41 42 (.mv (.t 3)),
 gT 41 43 (.not (.t 42)),
 mo (.pick (.t 41) (.t 43) (.c (.bool false))) 44]
@[irreducible] def mg_2m : List MOp := [gT 45 46 (.ld (some 8) (.t 1)),
 gT 45 47 (.call (.f 46) [(.t 46)] [] []),
 mo (.pick (.t 45) (.t 47) (.c (.bool false))) 48]
@[irreducible] def mg_2n : List MOp := [gT 55 56 (.fad 3 (.t 1)),
 gT 55 57 (.ld none (.t 56)),
 gT 55 58 (.len false (.t 57)),
 gT 55 59 (.bin false .eql (.t 58) (cI 0)),
 mo (.pick (.t 55) (.t 59) (.c (.bool false))) 60]
@[irreducible] def mg_2o : List MOp := [gT 61 62 (.ld (some 8) (.t 1)),
 gT 61 63 (.call (.f 47) [(.t 62)] [] []),
 mo (.pick (.t 61) (.t 63) (.c (.bool false))) 64]
def mc_j : MC :=
 (sR [mo (.box (.t 0)) 1,
 mo (.mv (.c (.bool false))) 2]
 (.seq (.regI [.op (oF 4 1 4),
 .op (oL 4 5),
 .op (mo (.bin false .neq (.t 5) (cI 0)) 6),
 .op (oV 6 7),
 .grp mg_2h,
 .op (oV 12 13),
 .grp mg_2i,
 .op (oV 17 18),
 .grp mg_2j,
 .op (oV 22 3)])
 (.seq (sR [oF 1 1 23,
 oL 23 24]
 (.block 0
 (sR [mo (.bin false .eql (.t 24) (cI 1)) 26,
 oV 26 25]
 (.cond (.t 25)
 (.seq (.note (.gc [1,3,32,33]) (.regI [.op (oF 3 1 27),
 .op (oL 27 28),
 .op (mo (.len false (.t 28)) 29),
 .op (mo (.bin false .eql (.t 29) (cI 0)) 30),
 .op (oV 30 31),
 .grp mg_2k,
 .op (oV 34 2)]))
 .ret)
 (sR [mo (.bin false .eql (.t 24) (cI 2)) 36,
 oV 36 35]
 (.cond (.t 35)
 (.seq (.note (.gc [1,3,42,43,46,47]) (.regI [.op (oF 2 1 37),
 .op (oL 37 38),
 .op (mo (.len false (.t 38)) 39),
 .op (mo (.bin false .eql (.t 39) (cI 0)) 40),
 .op (oV 40 41),
 .grp mg_2l,
 .op (oV 44 45),
 .grp mg_2m,
 .op (oV 48 2)]))
 .ret)
 (sR [mo (.bin false .eql (.t 24) (cI 3)) 50,
 oV 50 49]
 (.cond (.t 49)
 (.seq (.note (.gc [1,56,57,58,59,62,63]) (.regI [.op (oF 2 1 51),
 .op (oL 51 52),
 .op (mo (.len false (.t 52)) 53),
 .op (mo (.bin false .eql (.t 53) (cI 0)) 54),
 .op (oV 54 55),
 .grp mg_2n,
 .op (oV 60 61),
 .grp mg_2o,
 .op (oV 64 2)]))
 .ret)
 .skip))))))))
 (sR [mo (.mv (.c (.bool false))) 2]
 .ret))))
theorem Wq_j {o_ : GObject} : Cn Tryd.prog 27 [GObject.v o_] [] (F_j o_) (fun z => .bool z) (fun z => []) := fun Q Q' h hQ => by
 refine acallM mc_j [] [] [.t 2] Tryd.func27 fun M => ?_
 unfold F_j at h
 unfold mc_j
 replace h := tY h
 refine tB ?_
 repeat' (first
 | (exact tZ)
 | ((first | refine oblg h ?_ | refine roomG h ?_ | refine fork h ?_ ?_ | refine forkS h ?_ ?_) <;> clear h <;> intro hc h)
 | (obtain ⟨y, hy, h⟩ := h; (first | with_reducible first | have hw := Wq_t.w hy | have hw := Wq_v.w hy); replace hw := tY hw; (first | refine M.sC hw ?_ | refine M.sD hw ?_); clear hw hy; refine tB ?_)
 | (refine M.gv1 (ms := mg_2k) 34 [32,33] h ?_ ?_ <;> first
 | (clear h; intro K hK1; unfold mg_2k; refine tB ?_)
 | (clear h; intro b h; replace h := tY h; refine tB ?_))
 | (refine M.gj1 (ms := mg_2m) [] [] (fun y => [(48, .bool y)]) (fun y => []) h ?_ ?_ <;> first
 | (clear h; intro Qn K hK2 h; unfold mg_2m; replace h := tY h; refine tB ?_)
  |(clear h; intro y h; replace h := tY h; refine tB ?_))
 | (refine M.gv1 (ms := mg_2l) 44 [42,43] h ?_ ?_ <;> first
 | (clear h; intro K hK3; unfold mg_2l; refine tB ?_)
 | (clear h; intro b h; replace h := tY h; refine tB ?_))
 | (refine M.gj1 (ms := mg_2o) [] [] (fun y => [(64, .bool y)]) (fun y => []) h ?_ ?_ <;> first
 | (clear h; intro Qn K hK4 h; unfold mg_2o; replace h := tY h; refine tB ?_)
  |(clear h; intro y h; replace h := tY h; refine tB ?_))
 | (refine M.gv1 (ms := mg_2n) 60 [56,57,58,59] h ?_ ?_ <;> first
 | (clear h; intro K hK5; unfold mg_2n; refine tB ?_)
 | (clear h; intro b h; replace h := tY h; refine tB ?_))
 | (refine M.gv1 (ms := mg_2j) 22 [19,20,21] h ?_ ?_ <;> first
 | (clear h; intro K hK6; unfold mg_2j; refine tB ?_)
 | (clear h; intro b h; replace h := tY h; refine tB ?_))
 | (refine M.gv1 (ms := mg_2i) 17 [14,15,16] h ?_ ?_ <;> first
 | (clear h; intro K hK7; unfold mg_2i; refine tB ?_)
 | (clear h; intro b h; replace h := tY h; refine tB ?_))
 | (refine M.gv1 (ms := mg_2h) 12 [8,9,10,11] h ?_ ?_ <;> first
 | (clear h; intro K hK8; unfold mg_2h; refine tB ?_)
 | (clear h; intro b h; replace h := tY h; refine tB ?_))
 | ((first | refine hK1 _ ?_ | refine hK3 _ ?_ | refine hK5 _ ?_ | refine hK6 _ ?_ | refine hK7 _ ?_ | refine hK8 _ ?_); exact tU; done)
 | ((first | refine hK2 _ ?_ | refine hK4 _ ?_); (try refine tB ?_); refine ⟨_, h, ?_⟩; exact tU0; done)
 | (refine bfork (fun hc => ?_) (fun hc => ?_))
 | (refine tE ?_; (first | rw [M.lok_compU] | rw [M.lokD_compU]); refine tB ?_)
 | (refine tA ?_)
 | fail)
def F_8 (o_ : GObject) : Option Int :=
 (F_6 o_.ID).bind fun y10 => bif (!y10) then some 2 else grp ((decide (65536 < (o_.Data.length : Int)) || decide (64 < (o_.Items.length : Int)))) fun b13 => grp ((b13 || decide (8 < (o_.Parents.length : Int)))) fun b14 => bif b14 then some 3 else (F_j o_).bind fun y16 => bif (!y16) then some 1 else some 0
@[irreducible] def mg_2p : List MOp := [gF 13 14 (.fad 3 (.t 1)),
 gF 13 15 (.ld none (.t 14)),
 gF 13 16 (.len false (.t 15)),
 gF 13 17 (.bin false .gtr (.t 16) (cI 64)),
 mo (.pick (.t 13) (.c (.bool true)) (.t 17)) 18]
@[irreducible] def mg_2q : List MOp := [gF 19 20 (.fad 5 (.t 1)),
 gF 19 21 (.ld none (.t 20)),
 gF 19 22 (.len false (.t 21)),
 gF 19 23 (.bin false .gtr (.t 22) (cI 8)),
 mo (.pick (.t 19) (.c (.bool true)) (.t 23)) 24]
def mc_8 : MC :=
 (sR [mo (.box (.t 0)) 1,
 oC 0 2]
 (.seq (.block 0
 (sR [oF 0 1 4,
 oL 4 5,
 mo (.call (.f 26) [(.t 5)] [] []) 6,
 mo (.not (.t 6)) 7,
 oV 7 3]
 (.cond (.t 3)
 (sR [oC 2 2]
 .ret)
 (.seq (.regI [.op (oF 2 1 9),
 .op (oL 9 10),
 .op (mo (.len false (.t 10)) 11),
 .op (mo (.bin false .gtr (.t 11) (cI 65536)) 12),
 .op (oV 12 13),
 .grp mg_2p,
 .op (oV 18 19),
 .grp mg_2q,
 .op (oV 24 8)])
 (.cond (.t 8)
 (sR [oC 3 2]
 .ret)
 (.seq (.note (.gc [1]) (.reg [mo (.ld (some 8) (.t 1)) 26,
 mo (.call (.f 27) [(.t 26)] [] []) 27,
 mo (.not (.t 27)) 28,
 oV 28 25]))
 (.cond (.t 25)
 (sR [oC 1 2]
 .ret)
 .skip)))))))
 (sR [oC 0 2]
 .ret)))
theorem Wq_8 {o_ : GObject} : Cn Tryd.prog 16 [GObject.v o_] [] (F_8 o_) (fun z => .int .i64 z) (fun z => []) := fun Q Q' h hQ => by
 refine acallM mc_8 [] [] [.t 2] Tryd.func16 fun M => ?_
 unfold F_8 at h
 unfold mc_8
 replace h := tY h
 refine tB ?_
 repeat' (first
 | (exact tZ)
 | ((first | refine oblg h ?_ | refine roomG h ?_ | refine fork h ?_ ?_ | refine forkS h ?_ ?_) <;> clear h <;> intro hc h)
 | (obtain ⟨y, hy, h⟩ := h; (first | with_reducible first | have hw := Wq_6.w hy | have hw := Wq_j.w hy); replace hw := tY hw; (first | refine M.sC hw ?_ | refine M.sD hw ?_); clear hw hy; refine tB ?_)
 | (refine M.gv1 (ms := mg_2q) 24 [20,21,22,23] h ?_ ?_ <;> first
 | (clear h; intro K hK1; unfold mg_2q; refine tB ?_)
 | (clear h; intro b h; replace h := tY h; refine tB ?_))
 | (refine M.gv1 (ms := mg_2p) 18 [14,15,16,17] h ?_ ?_ <;> first
 | (clear h; intro K hK2; unfold mg_2p; refine tB ?_)
 | (clear h; intro b h; replace h := tY h; refine tB ?_))
 | ((first | refine hK1 _ ?_ | refine hK2 _ ?_); exact tU; done)
 | (refine bfork (fun hc => ?_) (fun hc => ?_))
 | (refine tE ?_; (first | rw [M.lok_compU] | rw [M.lokD_compU]); refine tB ?_)
 | (refine tA ?_)
 | fail)
def F_2 (word_ : Str) (rest_ : Str) (p_ : Str) : Option Str :=
 chk (strl (word_.length + [32].length)) (chk (strl ((word_ ++ [32]).length + rest_.length)) (chk (strl (((word_ ++ [32]) ++ rest_).length + [10].length)) ((bws p_ (((word_ ++ [32]) ++ rest_) ++ [10])).bind fun y1 => some y1)))
def mc_2 : MC :=
 (.reg [oV 0 5,
 mo (.bin false .add (.t 5) (.c (.str [32]))) 6,
 oV 1 7,
 mo (.bin false .add (.t 6) (.t 7)) 8,
 mo (.bin false .add (.t 8) (.c (.str [10]))) 9,
 mo (.call (.f 43) [(.t 2),(.t 9)] [1000,1001] [8641]) 10])
theorem Wq_2 {word_ rest_ p_ : Str} : Cn Tryd.prog 42 [.str word_, .str rest_, .ptr 1000 0] [(1000, .cells [.bptr 1000, .osl 1001 1 0 p_.length] (some 71)), (1001, .arr 1 (p_.map byteV) (some 5))] (F_2 word_ rest_ p_) (fun z => .tup []) (fun z => [(1000, .cells [.bptr 1000, .osl 1701 1 0 z.length] (some 71)), (1701, .arr 1 (z.map byteV) (some 5))]) := fun Q Q' h hQ => by
 refine acallM mc_2 [.ownC 1000 1 1701 1 none] [1000,1701] [] Tryd.func42 fun M => ?_
 unfold F_2 at h
 unfold mc_2
 replace h := tY h
 refine tB ?_
 repeat' (first
 | (exact tZ)
 | ((first | refine oblg h ?_ | refine roomG h ?_ | refine fork h ?_ ?_ | refine forkS h ?_ ?_) <;> clear h <;> intro hc h)
 | (obtain ⟨y, hy, h⟩ := h; have hw := acall_swe 1002 8641 (W_29 hy); replace hw := tY hw; (first | refine M.sC hw ?_ | refine M.sD hw ?_); clear hw hy; refine tB ?_)
 | (refine tE ?_; (first | rw [M.lok_compU] | rw [M.lokD_compU]); refine tB ?_)
 | (refine tA ?_)
 | fail)
def F_1c (k100 : Int) (a101 : GItem) (x99 : List UInt8) : Option (List UInt8) :=
 (itoaI a101.ID).bind fun y108 => (F_2 y108 a101.Name x99).bind fun y109 => some y109
def F_1o (k162 : Int) (a163 : Int) (x161 : List UInt8) : Option (List UInt8) :=
 (itoaI a163).bind fun y170 => (F_2 [112,97,114,101,110,116] y170 x161).bind fun y171 => some y171
def F_5 (o_ : GObject) : Option (List UInt8) :=
 bif decide (o_.Kind = 1) then chk (room ([98,108,111,98,10].length + o_.Data.length) 1) (some ([98,108,111,98,10] ++ o_.Data)) else bif decide (o_.Kind = 2) then (bws ([] : Str) [116,114,101,101,10]).bind fun y56 => (foldL F_1c o_.Items 0 y56).bind fun x110 => (bstr x110).bind fun y112 => some y112 else (bws ([] : Str) [99,111,109,109,105,116,10]).bind fun y114 => (itoaI o_.Tree).bind fun y117 => (F_2 [116,114,101,101] y117 y114).bind fun y118 => (foldL F_1o o_.Parents 0 y118).bind fun x172 => (F_2 [97,117,116,104,111,114] o_.Author x172).bind fun y174 => (itoaI o_.Time).bind fun y177 => (F_2 [116,105,109,101] y177 y174).bind fun y178 => (bstr y178).bind fun y180 => some y180
@[irreducible] def mc_1c : MC :=
 (sR [mo (.bin false .lss (.t 25) (.t 24)) 26]
 (.seq (.cond (.t 26)
 .skip
 (.exit 0))
 (.seq (.block 1
 (sR [mo (.iad 2 (.t 23) (.t 25)) 27,
 mo (.ld (some 2) (.t 27)) 28,
 mo (.alloc [(.str []),(.int .i64 0)]) 6,
 ⟨.st 2 (.t 6) (.t 28), none, none⟩]
 (.regD [oV 4 29,
 oF 1 6 30,
 oL 30 31,
 mo (.call (.f 44) [(.t 31)] [] []) 32,
 oF 0 6 33,
 oL 33 34,
 mo (.call (.t 29) [(.t 32),(.t 34)] [3,4049] [10241]) 35]
 [[],[],[1],[2],[],[4],[0,3,5,3]]
 [[],[],[1],[1,2],[],[4],[0,1,2,3,4,5]])))
 (.reg [mo (.bin true .add (.t 25) (cI 1)) 36,
 oV 36 25]))))
@[irreducible] def mc_1o : MC :=
 (sR [mo (.bin false .lss (.t 48) (.t 47)) 49]
 (.seq (.cond (.t 49)
 .skip
 (.exit 2))
 (.seq (.block 3
 (sR [mo (.iad 1 (.t 46) (.t 48)) 50,
 oL 50 51,
 oV 51 8]
 (.reg [oV 4 52,
 oV 8 53,
 mo (.call (.f 44) [(.t 53)] [] []) 54,
 mo (.call (.t 52) [(.c (.str [112,97,114,101,110,116])),(.t 54)] [3,4049] [11521]) 55])))
 (.reg [mo (.bin true .add (.t 48) (cI 1)) 56,
 oV 56 48]))))
def mc_5 : MC :=
 (sR [mo (.box (.t 0)) 1,
 mo (.mv (.c (.sl []))) 2]
 (.seq (sR [oF 1 1 9,
 oL 9 10,
 mo (.bin false .eql (.t 10) (cI 1)) 11]
 (.cond (.t 11)
 (sR [mo (.bslice 1 [(.c (.int .u8 98)),(.c (.int .u8 108)),(.c (.int .u8 111)),(.c (.int .u8 98)),(.c (.int .u8 10))]) 12,
 mo (.mks (.t 12)) 13,
 oF 2 1 14,
 oL 14 15,
 mo (.app 1 1 (.t 13) (.t 15)) 16,
 oV 16 2]
 .ret)
 .skip))
 (.seq (.regI [.op (mo (.alloc [.nilp, .nils] (some 71)) 3),
 .nt (.bld 3),
 .nt (.ownC 3 1 5003 1 (some 5))])
 (sR [mo (.mkfn 42 [(.t 3)]) 17,
 oV 17 4]
 (.seq (sR [oF 1 1 18,
 oL 18 19,
 mo (.bin false .eql (.t 19) (cI 2)) 20]
 (.cond (.t 20)
 (sR [mo (.call (.f 43) [(.t 3),(.c (.str [116,114,101,101,10]))] [3,5003] [9345]) 21]
 (.seq (.seq (.note (.gc [1,3,4]) (.reg [oF 3 1 22,
 oL 22 23,
 mo (.len false (.t 23)) 24,
 oC 0 25]))
 (.block 0
 (.loop mc_1c)))
 (sR [mo (.call (.f 45) [(.t 3)] [3,4049] []) 37,
 mo (.s2b (.t 37)) 38,
 oV 38 2]
 .ret)))
 .skip))
 (sR [mo (.call (.f 43) [(.t 3),(.c (.str [99,111,109,109,105,116,10]))] [3,5003] [10497]) 39]
 (.seq (.note (.gc [1,3,4]) (.reg [oV 4 40,
 oF 4 1 41,
 oL 41 42,
 mo (.call (.f 44) [(.t 42)] [] []) 43,
 mo (.call (.t 40) [(.c (.str [116,114,101,101])),(.t 43)] [3,10497] [10817]) 44]))
 (.seq (sR [oF 5 1 45,
 oL 45 46,
 mo (.len false (.t 46)) 47,
 oC 0 48]
 (.block 2
 (.loop mc_1o)))
 (sR [oV 4 57,
 oF 6 1 58,
 oL 58 59,
 mo (.call (.t 57) [(.c (.str [97,117,116,104,111,114])),(.t 59)] [3,4049] [11841]) 60]
 (.seq (.note (.gc [1,3,4]) (.reg [oV 4 61,
 oF 7 1 62,
 oL 62 63,
 mo (.call (.f 44) [(.t 63)] [] []) 64,
 mo (.call (.t 61) [(.c (.str [116,105,109,101])),(.t 64)] [3,11841] [12161]) 65]))
 (sR [mo (.call (.f 45) [(.t 3)] [3,12161] []) 66,
 mo (.s2b (.t 66)) 67,
 oV 67 2]
 .ret)))))))))))
theorem Wq_5 {o_ : GObject} : Cn Tryd.prog 25 [GObject.v o_] [] (F_5 o_) (fun z => .sl (z.map byteV)) (fun z => []) := fun Q Q' h hQ => by
 refine acallM mc_5 [.fz 2] [] [.t 2] Tryd.func25 fun M => ?_
 unfold F_5 at h
 unfold mc_5
 replace h := tY h
 refine tB ?_
 repeat' (first
 | (exact tZ)
 | ((first | refine oblg h ?_ | refine roomG h ?_ | refine fork h ?_ ?_ | refine forkS h ?_ ?_) <;> clear h <;> intro hc h)
 | (obtain ⟨y, hy, h⟩ := h; have hw := acall_swe 1002 9345 (acall_swe 1001 5003 (acall_swe 1000 3 (W_29 hy))); replace hw := tY hw; (first | refine M.sC hw ?_ | refine M.sD hw ?_); clear hw hy; refine tB ?_)
 | (obtain ⟨y, hy, h⟩ := h; have hw := acall_swe 1701 10241 (acall_swe 1001 9345 (acall_swe 1000 3 (Wq_2.w hy))); replace hw := tY hw; (first | refine M.sC hw ?_ | refine M.sD hw ?_); clear hw hy; refine tB ?_)
 | (obtain ⟨y, hy, h⟩ := h; have hw := acall_swe 1701 10241 (acall_swe 1001 4049 (acall_swe 1000 3 (Wq_2.w hy))); replace hw := tY hw; (first | refine M.sC hw ?_ | refine M.sD hw ?_); clear hw hy; refine tB ?_)
 | (obtain ⟨y, hy, h⟩ := h; have hw := acall_swe 1001 4049 (acall_swe 1000 3 (W_3x hy)); replace hw := tY hw; (first | refine M.sC hw ?_ | refine M.sD hw ?_); clear hw hy; refine tB ?_)
 | (obtain ⟨y, hy, h⟩ := h; have hw := acall_swe 1002 10497 (acall_swe 1001 5003 (acall_swe 1000 3 (W_29 hy))); replace hw := tY hw; (first | refine M.sC hw ?_ | refine M.sD hw ?_); clear hw hy; refine tB ?_)
 | (obtain ⟨y, hy, h⟩ := h; have hw := acall_swe 1701 10817 (acall_swe 1001 10497 (acall_swe 1000 3 (Wq_2.w hy))); replace hw := tY hw; (first | refine M.sC hw ?_ | refine M.sD hw ?_); clear hw hy; refine tB ?_)
 | (obtain ⟨y, hy, h⟩ := h; have hw := acall_swe 1701 11521 (acall_swe 1001 10817 (acall_swe 1000 3 (Wq_2.w hy))); replace hw := tY hw; (first | refine M.sC hw ?_ | refine M.sD hw ?_); clear hw hy; refine tB ?_)
 | (obtain ⟨y, hy, h⟩ := h; have hw := acall_swe 1701 11521 (acall_swe 1001 4049 (acall_swe 1000 3 (Wq_2.w hy))); replace hw := tY hw; (first | refine M.sC hw ?_ | refine M.sD hw ?_); clear hw hy; refine tB ?_)
 | (obtain ⟨y, hy, h⟩ := h; have hw := acall_swe 1701 11841 (acall_swe 1001 4049 (acall_swe 1000 3 (Wq_2.w hy))); replace hw := tY hw; (first | refine M.sC hw ?_ | refine M.sD hw ?_); clear hw hy; refine tB ?_)
 | (obtain ⟨y, hy, h⟩ := h; have hw := acall_swe 1701 12161 (acall_swe 1001 11841 (acall_swe 1000 3 (Wq_2.w hy))); replace hw := tY hw; (first | refine M.sC hw ?_ | refine M.sD hw ?_); clear hw hy; refine tB ?_)
 | (obtain ⟨y, hy, h⟩ := h; have hw := acall_swe 1001 12161 (acall_swe 1000 3 (W_3x hy)); replace hw := tY hw; (first | refine M.sC hw ?_ | refine M.sD hw ?_); clear hw hy; refine tB ?_)
 | (obtain ⟨y, hy, h⟩ := h; have hw := W_42 hy; replace hw := tY hw; (first | refine M.sC hw ?_ | refine M.sD hw ?_); clear hw hy; refine tB ?_)
 | (refine M.fold1 (b := mc_1c) 25 [3,4,23,24] [3] (fun x => []) (fun x => [.p 3 1 [.osl 4049 1 0 x.length], .o 4049 (.arr 1 (x.map byteV) (some 5))]) [.gc [3,4,23,24,25], .ownC 3 1 4049 1 none] h ?_ ?_ ?_ <;> first
 | (clear h; intro k a x Qn K hK1 hkN1 ha1 h hf; have hl := fact_int (factsE_find (n := 24) hf.1 rfl); clear hf; have hkd := kD hkN1; have hkB1 := kB hkN1; have hkI1 := kI (k := k) (by omega); unfold F_1c at h; unfold mc_1c; replace h := tY h; refine tK ha1 hkd hkN1 hkB1 hkI1 ?_)
  |(clear h; intro x K h; replace h := And.left (And.intro h trivial); unfold mc_1c; replace h := tY h; refine tB ?_)
  |(clear h; (try refine tB ?_); exact tU0; done))
 | (refine M.fold1 (b := mc_1o) 48 [1,3,4,46,47] [3,1] (fun x => []) (fun x => [.p 3 1 [.osl 4049 1 0 x.length], .o 4049 (.arr 1 (x.map byteV) (some 5))]) [.gc [1,3,4,46,47,48], .ownC 3 1 4049 1 none] h ?_ ?_ ?_ <;> first
 | (clear h; intro k a x Qn K hK2 hkN2 ha2 h hf; have hl := fact_int (factsE_find (n := 47) hf.1 rfl); clear hf; have hkd := kD hkN2; have hkB2 := kB hkN2; have hkI2 := kI (k := k) (by omega); unfold F_1o at h; unfold mc_1o; replace h := tY h; refine tK ha2 hkd hkN2 hkB2 hkI2 ?_)
  |(clear h; intro x K h; replace h := And.left (And.intro h trivial); unfold mc_1o; replace h := tY h; refine tB ?_)
  |(clear h; (try refine tB ?_); exact tU0; done))
 | (first | simp only [ha1] | simp only [ha2])
 | ((first | refine hK1 _ ?_ | refine hK2 _ ?_); (try refine tB ?_); refine ⟨_, h, ?_⟩; exact tU0; done)
 | (refine tE ?_; (first | rw [M.lok_compU] | rw [M.lokD_compU]); refine tB ?_)
 | (refine tA ?_)
 | fail)
def F_1d (o_ : GObject) : Option ((List UInt8) × Int) :=
 (F_8 o_).bind fun y4 => bif (!decide (y4 = 0)) then some ([], y4) else (F_5 o_).bind fun y6 => some (y6,0)
def mc_1d : MC :=
 (sR [mo (.box (.t 0)) 1,
 mo (.mv (.c (.sl []))) 2,
 oC 0 3]
 (.seq (sR [mo (.ld (some 8) (.t 1)) 5,
 mo (.call (.f 16) [(.t 5)] [] []) 6,
 oV 6 4]
 (sR [oV 4 7,
 mo (.bin false .neq (.t 7) (cI 0)) 8]
 (.cond (.t 8)
 (.seq (.note (.gc [4]) (.reg [oV 4 9,
 mo (.mv (.c (.sl []))) 2,
 oV 9 3]))
 .ret)
 .skip)))
 (.seq (.note (.gc [1]) (.reg [mo (.ld (some 8) (.t 1)) 10,
 mo (.call (.f 25) [(.t 10)] [] []) 11,
 oV 11 2,
 oC 0 3]))
 .ret)))
theorem Wq_1d {o_ : GObject} : Cn Tryd.prog 14 [GObject.v o_] [] (F_1d o_) (fun z => .tup [.sl (z.1.map byteV), .int .i64 z.2]) (fun z => []) := fun Q Q' h hQ => by
 refine acallM mc_1d [.fz 2] [] [.t 2, .t 3] Tryd.func14 fun M => ?_
 unfold F_1d at h
 unfold mc_1d
 replace h := tY h
 refine tB ?_
 repeat' (first
 | (exact tZ)
 | ((first | refine oblg h ?_ | refine roomG h ?_ | refine fork h ?_ ?_ | refine forkS h ?_ ?_) <;> clear h <;> intro hc h)
 | (obtain ⟨y, hy, h⟩ := h; (first | with_reducible first | have hw := Wq_8.w hy | have hw := Wq_5.w hy); replace hw := tY hw; (first | refine M.sC hw ?_ | refine M.sD hw ?_); clear hw hy; refine tB ?_)
 | (refine tE ?_; (first | rw [M.lok_compU] | rw [M.lokD_compU]); refine tB ?_)
 | (refine tA ?_)
 | fail)
def F_9 (a_ : List UInt8) (b_ : List UInt8) : Option Bool :=
 some (decide (a_ = b_))
def mc_9 : MC :=
 (sR [mo (.mv (.c (.bool false))) 4]
 (sR [oV 0 5,
 mo (.b2s (.t 5)) 6,
 oV 1 7,
 mo (.b2s (.t 7)) 8,
 mo (.bin false .eql (.t 6) (.t 8)) 9,
 oV 9 4]
 .ret))
theorem Wq_9 {a_ b_ : List UInt8} : Cn Tryd.prog 32 [.sl (a_.map byteV), .sl (b_.map byteV)] [] (F_9 a_ b_) (fun z => .bool z) (fun z => []) := fun Q Q' h hQ => by
 refine acallM mc_9 [] [] [.t 4] Tryd.func32 fun M => ?_
 unfold F_9 at h
 unfold mc_9
 replace h := tY h
 refine tB ?_
 repeat' (first
 | (exact tZ)
 | ((first | refine oblg h ?_ | refine roomG h ?_ | refine fork h ?_ ?_ | refine forkS h ?_ ?_) <;> clear h <;> intro hc h)
 | (refine tE ?_; (first | rw [M.lok_compU] | rw [M.lokD_compU]); refine tB ?_)
 | (refine tA ?_)
 | fail)
def F_40 (s2_ : List GItem) (k11 : Int) (a12 : GItem) (x10 : Unit) : Option (Fl Unit Bool) :=
 chk (inb k11 s2_.length) (bif (!(decide (a12.Name = (s2_.getD (k11).toNat default).Name) && decide (a12.ID = (s2_.getD (k11).toNat default).ID))) then some (.ex false) else some (.nx ()))
def F_2r (s1_ : List GItem) (s2_ : List GItem) : Option Bool :=
 bif (!decide ((s1_.length : Int) = (s2_.length : Int))) then some false else (forL (F_40 s2_) s1_ 0 ()).bind fun o => o.elim (fun x13 => some true) (fun r14 => some r14)
def F_41 (s2_ : List Int) (k11 : Int) (a12 : Int) (x10 : Unit) : Option (Fl Unit Bool) :=
 chk (inb k11 s2_.length) (bif (!decide (a12 = (s2_.getD (k11).toNat default))) then some (.ex false) else some (.nx ()))
def F_2s (s1_ : List Int) (s2_ : List Int) : Option Bool :=
 bif (!decide ((s1_.length : Int) = (s2_.length : Int))) then some false else (forL (F_41 s2_) s1_ 0 ()).bind fun o => o.elim (fun x13 => some true) (fun r14 => some r14)
def F_28 (a_ : GObject) (b_ : GObject) : Option Bool :=
 grp ((decide (a_.ID = b_.ID) && decide (a_.Kind = b_.Kind))) fun b11 => jn (α := Bool) (bif b11 then (F_9 a_.Data b_.Data).bind fun y13 => some y13 else some false) fun j14 => jn (α := Bool) (bif j14 then (F_2r a_.Items b_.Items).bind fun y16 => some y16 else some false) fun j17 => grp ((j17 && decide (a_.Tree = b_.Tree))) fun b18 => jn (α := Bool) (bif b18 then (F_2s a_.Parents b_.Parents).bind fun y20 => some y20 else some false) fun j21 => grp ((j21 && decide (a_.Author = b_.Author))) fun b22 => grp ((b22 && decide (a_.Time = b_.Time))) fun b23 => some b23
def F_7 (n_ : Int) : Option Bool :=
 grp ((decide (1 ≤ n_) && decide (n_ ≤ 1073741824))) fun b2 => some b2
@[irreducible] def mg_2t : List MOp := [gT 5 6 (.mv (.t 0)),
 gT 5 7 (.bin false .leq (.t 6) (cI 1073741824)),
 mo (.pick (.t 5) (.t 7) (.c (.bool false))) 8]
def mc_7 : MC :=
 (sR [mo (.mv (.c (.bool false))) 2]
 (.seq (.regI [.op (oV 0 3),
 .op (mo (.bin false .geq (.t 3) (cI 1)) 4),
 .op (oV 4 5),
 .grp mg_2t,
 .op (oV 8 2)])
 .ret))
theorem Wq_7 {n_ : Int} : Cn Tryd.prog 28 [.int .i64 n_] [] (F_7 n_) (fun z => .bool z) (fun z => []) := fun Q Q' h hQ => by
 refine acallM mc_7 [] [] [.t 2] Tryd.func28 fun M => ?_
 unfold F_7 at h
 unfold mc_7
 replace h := tY h
 refine tB ?_
 repeat' (first
 | (exact tZ)
 | ((first | refine oblg h ?_ | refine roomG h ?_ | refine fork h ?_ ?_ | refine forkS h ?_ ?_) <;> clear h <;> intro hc h)
 | (refine M.gv1 (ms := mg_2t) 8 [6,7] h ?_ ?_ <;> first
 | (clear h; intro K hK1; unfold mg_2t; refine tB ?_)
 | (clear h; intro b h; replace h := tY h; refine tB ?_))
 | (refine hK1 _ ?_; exact tU; done)
 | (refine bfork (fun hc => ?_) (fun hc => ?_))
 | (refine tE ?_; (first | rw [M.lok_compU] | rw [M.lokD_compU]); refine tB ?_)
 | (refine tA ?_)
 | fail)
def F_1e (o_ : GObject) : Option Bool :=
 grp ((decide ((o_.Items.length : Int) = 0) && decide (o_.Tree = 0))) fun b5 => grp ((b5 && decide ((o_.Parents.length : Int) = 0))) fun b6 => grp ((b6 && decide (o_.Author = []))) fun b7 => grp ((b7 && decide (o_.Time = 0))) fun b8 => some b8
@[irreducible] def mg_2u : List MOp := [gT 7 8 (.fad 4 (.t 1)),
 gT 7 9 (.ld none (.t 8)),
 gT 7 10 (.bin false .eql (.t 9) (cI 0)),
 mo (.pick (.t 7) (.t 10) (.c (.bool false))) 11]
@[irreducible] def mg_2v : List MOp := [gT 12 13 (.fad 5 (.t 1)),
 gT 12 14 (.ld none (.t 13)),
 gT 12 15 (.len false (.t 14)),
 gT 12 16 (.bin false .eql (.t 15) (cI 0)),
 mo (.pick (.t 12) (.t 16) (.c (.bool false))) 17]
@[irreducible] def mg_2w : List MOp := [gT 18 19 (.fad 6 (.t 1)),
 gT 18 20 (.ld none (.t 19)),
 gT 18 21 (.bin false .eql (.t 20) (.c (.str []))),
 mo (.pick (.t 18) (.t 21) (.c (.bool false))) 22]
@[irreducible] def mg_2x : List MOp := [gT 23 24 (.fad 7 (.t 1)),
 gT 23 25 (.ld none (.t 24)),
 gT 23 26 (.bin false .eql (.t 25) (cI 0)),
 mo (.pick (.t 23) (.t 26) (.c (.bool false))) 27]
def mc_1e : MC :=
 (sR [mo (.box (.t 0)) 1,
 mo (.mv (.c (.bool false))) 2]
 (.seq (.regI [.op (oF 3 1 3),
 .op (oL 3 4),
 .op (mo (.len false (.t 4)) 5),
 .op (mo (.bin false .eql (.t 5) (cI 0)) 6),
 .op (oV 6 7),
 .grp mg_2u,
 .op (oV 11 12),
 .grp mg_2v,
 .op (oV 17 18),
 .grp mg_2w,
 .op (oV 22 23),
 .grp mg_2x,
 .op (oV 27 2)])
 .ret))
theorem Wq_1e {o_ : GObject} : Cn Tryd.prog 29 [GObject.v o_] [] (F_1e o_) (fun z => .bool z) (fun z => []) := fun Q Q' h hQ => by
 refine acallM mc_1e [] [] [.t 2] Tryd.func29 fun M => ?_
 unfold F_1e at h
 unfold mc_1e
 replace h := tY h
 refine tB ?_
 repeat' (first
 | (exact tZ)
 | ((first | refine oblg h ?_ | refine roomG h ?_ | refine fork h ?_ ?_ | refine forkS h ?_ ?_) <;> clear h <;> intro hc h)
 | (refine M.gv1 (ms := mg_2x) 27 [24,25,26] h ?_ ?_ <;> first
 | (clear h; intro K hK1; unfold mg_2x; refine tB ?_)
 | (clear h; intro b h; replace h := tY h; refine tB ?_))
 | (refine M.gv1 (ms := mg_2w) 22 [19,20,21] h ?_ ?_ <;> first
 | (clear h; intro K hK2; unfold mg_2w; refine tB ?_)
 | (clear h; intro b h; replace h := tY h; refine tB ?_))
 | (refine M.gv1 (ms := mg_2v) 17 [13,14,15,16] h ?_ ?_ <;> first
 | (clear h; intro K hK3; unfold mg_2v; refine tB ?_)
 | (clear h; intro b h; replace h := tY h; refine tB ?_))
 | (refine M.gv1 (ms := mg_2u) 11 [8,9,10] h ?_ ?_ <;> first
 | (clear h; intro K hK4; unfold mg_2u; refine tB ?_)
 | (clear h; intro b h; replace h := tY h; refine tB ?_))
 | ((first | refine hK1 _ ?_ | refine hK2 _ ?_ | refine hK3 _ ?_ | refine hK4 _ ?_); exact tU; done)
 | (refine bfork (fun hc => ?_) (fun hc => ?_))
 | (refine tE ?_; (first | rw [M.lok_compU] | rw [M.lokD_compU]); refine tB ?_)
 | (refine tA ?_)
 | fail)
noncomputable def F_1p (s_ : Str) (x9 : Int) : Option (Fl Int (Sum Unit Bool)) :=
 bif decide (x9 < (s_.length : Int)) then chk (inb x9 s_.length) (bif decide (((s_.getD (x9).toNat 0).toNat : Int) < 33) then some (.ex (.inr false)) else chk (inb x9 s_.length) (bif decide (126 < ((s_.getD (x9).toNat 0).toNat : Int)) then some (.ex (.inr false)) else chk (inb x9 s_.length) (bif decide (((s_.getD (x9).toNat 0).toNat : Int) = 47) then some (.ex (.inr false)) else chk (in64 (x9 + 1)) (some (.nx (x9 + 1)))))) else some (.ex (.inl ()))
noncomputable def F_k (s_ : Str) : Option Bool :=
 (loop (F_1p s_) 0).bind fun r10 => Sum.elim (fun u11 => grp ((decide (1 ≤ (s_.length : Int)) && decide ((s_.length : Int) ≤ 40))) fun b14 => some b14) (fun u12 => some u12) r10
@[irreducible] def mc_1p : MC :=
 (.seq (sR [oV 3 4,
 oV 0 5,
 mo (.len true (.t 5)) 6,
 mo (.bin false .lss (.t 4) (.t 6)) 7]
 (.cond (.t 7)
 .skip
 (.exit 0)))
 (.seq (.block 1
 (sR [oV 0 10,
 oV 3 11,
 mo (.idx (.t 10) (.t 11)) 12,
 mo (.bin false .lss (.t 12) (.c (.int .u8 33))) 13,
 oV 13 14,
 gF 14 15 (.mv (.t 0)),
 gF 14 16 (.mv (.t 3)),
 gF 14 17 (.idx (.t 15) (.t 16)),
 gF 14 18 (.bin false .gtr (.t 17) (.c (.int .u8 126))),
 mo (.pick (.t 14) (.c (.bool true)) (.t 18)) 19,
 oV 19 20,
 gF 20 21 (.mv (.t 0)),
 gF 20 22 (.mv (.t 3)),
 gF 20 23 (.idx (.t 21) (.t 22)),
 gF 20 24 (.bin false .eql (.t 23) (.c (.int .u8 47))),
 mo (.pick (.t 20) (.c (.bool true)) (.t 24)) 25]
 (.cond (.t 25)
 (sR [mo (.mv (.c (.bool false))) 2]
 .ret)
 .skip)))
 (.note (.gc [0,3,15,16,17,18,21,22,23,24,30,31,32]) (.reg [oV 3 8,
 mo (.bin true .add (.t 8) (cI 1)) 9,
 oV 9 3]))))
@[irreducible] def mg_2y : List MOp := [gT 29 30 (.mv (.t 0)),
 gT 29 31 (.len true (.t 30)),
 gT 29 32 (.bin false .leq (.t 31) (cI 40)),
 mo (.pick (.t 29) (.t 32) (.c (.bool false))) 33]
def mc_k : MC :=
 (sR [mo (.mv (.c (.bool false))) 2]
 (.seq (sR [oC 0 3]
 (.block 0
 (.loop mc_1p)))
 (.seq (.regI [.op (oV 0 26),
 .op (mo (.len true (.t 26)) 27),
 .op (mo (.bin false .geq (.t 27) (cI 1)) 28),
 .op (oV 28 29),
 .grp mg_2y,
 .op (oV 33 2)])
 .ret)))
theorem Wq_k {s_ : Str} : Cn Tryd.prog 10 [.str s_] [] (F_k s_) (fun z => .bool z) (fun z => []) := fun Q Q' h hQ => by
 refine acallM mc_k [] [] [.t 2] Tryd.func10 fun M => ?_
 unfold F_k at h
 unfold mc_k
 replace h := tY h
 refine tB ?_
 repeat' (first
 | (exact tZ)
 | ((first | refine oblg h ?_ | refine roomG h ?_ | refine fork h ?_ ?_ | refine forkS h ?_ ?_) <;> clear h <;> intro hc h)
 | (refine M.wh1 (b := mc_1p) [0] [] (fun x => [(3, .int .i64 x)]) (fun x => []) [] h ?_ ?_ <;> first
 | (clear h; intro x Qn K hK1 h; unfold F_1p at h; unfold mc_1p; replace h := tY h; refine tB ?_)
  |(clear h; (try refine tB ?_); exact tU0; done))
 | (refine M.gv1 (ms := mg_2y) 33 [30,31,32] h ?_ ?_ <;> first
 | (clear h; intro K hK2; unfold mg_2y; refine tB ?_)
 | (clear h; intro b h; replace h := tY h; refine tB ?_))
 | (refine hK1 _ ?_; (try refine tB ?_); refine ⟨_, h, ?_⟩; exact tU0; done)
 | (refine hK2 _ ?_; exact tU; done)
 | (refine bfork (fun hc => ?_) (fun hc => ?_))
 | (refine tE ?_; (first | rw [M.lok_compU] | rw [M.lokD_compU]); refine tB ?_)
 | (refine tA ?_)
 | fail)
noncomputable def F_1q (o_ : GObject) (x39 : Int) : Option (Fl Int (Sum Unit Bool)) :=
 bif decide (x39 < (o_.Items.length : Int)) then jn (α := Fl ((List GItem) × Int × Int × Bool × Bool × Int × Bool × Bool × Bool) Bool) (chk (inb x39 o_.Items.length) ((F_k ((o_.Items.getD (x39).toNat default).Name)).bind fun y53 => bif (!y53) then some (.ex false) else chk (inb x39 o_.Items.length) ((F_7 ((o_.Items.getD (x39).toNat default).ID)).bind fun y54 => bif (!y54) then some (.ex false) else bif decide (0 < x39) then chk (inb x39 o_.Items.length) (chk (in64 (x39 - 1)) (chk (inb (x39 - 1) o_.Items.length) (bif (Op.bytesLess ((o_.Items.getD (x39).toNat default).Name) ((o_.Items.getD ((x39 - 1)).toNat default).Name) || decide ((o_.Items.getD (x39).toNat default).Name = (o_.Items.getD ((x39 - 1)).toNat default).Name)) then some (.ex false) else some (.nx (o_.Items, x39, (o_.Items.getD (x39).toNat default).ID, y54, (!y54), x39, decide (0 < x39), true, (Op.bytesLess ((o_.Items.getD (x39).toNat default).Name) ((o_.Items.getD ((x39 - 1)).toNat default).Name) || decide ((o_.Items.getD (x39).toNat default).Name = (o_.Items.getD ((x39 - 1)).toNat default).Name))))))) else some (.nx (o_.Items, x39, (o_.Items.getD (x39).toNat default).ID, y54, (!y54), x39, decide (0 < x39), false, false))))) fun o => o.elim (fun j50 => chk (in64 (x39 + 1)) (some (.nx (x39 + 1)))) (fun r55 => some (.ex (.inr r55))) else some (.ex (.inl ()))
noncomputable def F_w (o_ : GObject) : Option Bool :=
 (loop (F_1q o_) 0).bind fun r56 => Sum.elim (fun u57 => grp ((decide ((o_.Data.length : Int) = 0) && decide (o_.Tree = 0))) fun b63 => grp ((b63 && decide ((o_.Parents.length : Int) = 0))) fun b64 => grp ((b64 && decide (o_.Author = []))) fun b65 => grp ((b65 && decide (o_.Time = 0))) fun b66 => some b66) (fun u58 => some u58) r56
@[irreducible] def mc_2z : MC :=
 (.reg [oV 3 9,
 mo (.bin true .add (.t 9) (cI 1)) 10,
 oV 10 3])
@[irreducible] def mc_1q : MC :=
 (.seq (sR [oV 3 4,
 oF 3 1 5,
 oL 5 6,
 mo (.len false (.t 6)) 7,
 mo (.bin false .lss (.t 4) (.t 7)) 8]
 (.cond (.t 8)
 .skip
 (.exit 0)))
 (.cut (.block 1
 (.seq (.regD [oF 3 1 11,
 oL 11 12,
 oV 3 13,
 mo (.iad 2 (.t 12) (.t 13)) 14,
 oF 0 14 15,
 oL 15 16,
 mo (.call (.f 10) [(.t 16)] [] []) 17,
 mo (.not (.t 17)) 18,
 oV 18 19,
 gF 19 20 (.fad 3 (.t 1)),
 gF 19 21 (.ld none (.t 20)),
 gF 19 22 (.mv (.t 3)),
 gF 19 23 (.iad 2 (.t 21) (.t 22)),
 gF 19 24 (.fad 1 (.t 23)),
 gF 19 25 (.ld none (.t 24)),
 gF 19 26 (.call (.f 28) [(.t 25)] [] []),
 gF 19 27 (.not (.t 26)),
 mo (.pick (.t 19) (.c (.bool true)) (.t 27)) 28,
 oV 28 29,
 gF 29 30 (.mv (.t 3)),
 gF 29 31 (.bin false .gtr (.t 30) (cI 0)),
 gF 29 32 (.mv (.t 31)),
 gT 32 33 (.fad 3 (.t 1)),
 gT 32 34 (.ld none (.t 33)),
 gT 32 35 (.mv (.t 3)),
 gT 32 36 (.iad 2 (.t 34) (.t 35)),
 gT 32 37 (.fad 0 (.t 36)),
 gT 32 38 (.ld none (.t 37)),
 gT 32 39 (.fad 3 (.t 1)),
 gT 32 40 (.ld none (.t 39)),
 gT 32 41 (.mv (.t 3)),
 gT 32 42 (.bin true .sub (.t 41) (cI 1)),
 gT 32 43 (.iad 2 (.t 40) (.t 42)),
 gT 32 44 (.fad 0 (.t 43)),
 gT 32 45 (.ld none (.t 44)),
 gT 32 46 (.bin false .leq (.t 38) (.t 45)),
 gF 29 47 (.pick (.t 32) (.t 46) (.c (.bool false))),
 mo (.pick (.t 29) (.c (.bool true)) (.t 47)) 48]
 [[],[0],[],[1,2],[3],[4],[5],[6],[7,6],[8],[9,8],[8],[10,11,8],[12,8],[13,8],[14,8,8],[15,8],[8,16],[17,15],[18],[19,18],[20,18,18],[21],[22,21],[21],[23,24,21],[25,21],[26,21],[21],[28,21],[21],[30,21],[29,31,21],[32,21],[33,21],[27,34,21],[21,35,18],[18,36]]
 [[],[0],[],[0,1,2],[0,1,2,3],[0,1,2,3,4],[0,1,2,3,4,5],[0,1,2,3,4,5,6],[0,1,2,3,4,5,6,7],[0,1,2,3,4,5,6,7,8],[0,1,2,3,4,5,6,7,8,9],[0,1,2,3,4,5,6,7,8],[0,1,2,3,4,5,6,7,8,9,10,11],[0,1,2,3,4,5,6,7,8,9,10,11,12],[0,1,2,3,4,5,6,7,8,9,10,11,12,13],[0,1,2,3,4,5,6,7,8,9,10,11,12,13,14],[0,1,2,3,4,5,6,7,8,9,10,11,12,13,14,15],[0,1,2,3,4,5,6,7,8,9,10,11,12,13,14,15,16],[0,1,2,3,4,5,6,7,8,9,10,11,12,13,14,15,16,17],[0,1,2,3,4,5,6,7,8,9,10,11,12,13,14,15,16,17,18],[0,1,2,3,4,5,6,7,8,9,10,11,12,13,14,15,16,17,18,19],[0,1,2,3,4,5,6,7,8,9,10,11,12,13,14,15,16,17,18,19,20],[0,1,2,3,4,5,6,7,8,9,10,11,12,13,14,15,16,17,18,19,20,21],[0,1,2,3,4,5,6,7,8,9,10,11,12,13,14,15,16,17,18,19,20,21,22],[0,1,2,3,4,5,6,7,8,9,10,11,12,13,14,15,16,17,18,19,20,21],[0,1,2,3,4,5,6,7,8,9,10,11,12,13,14,15,16,17,18,19,20,21,22,23,24],[0,1,2,3,4,5,6,7,8,9,10,11,12,13,14,15,16,17,18,19,20,21,22,23,24,25],[0,1,2,3,4,5,6,7,8,9,10,11,12,13,14,15,16,17,18,19,20,21,22,23,24,25,26],[0,1,2,3,4,5,6,7,8,9,10,11,12,13,14,15,16,17,18,19,20,21],[0,1,2,3,4,5,6,7,8,9,10,11,12,13,14,15,16,17,18,19,20,21,28],[0,1,2,3,4,5,6,7,8,9,10,11,12,13,14,15,16,17,18,19,20,21],[0,1,2,3,4,5,6,7,8,9,10,11,12,13,14,15,16,17,18,19,20,21,30],[0,1,2,3,4,5,6,7,8,9,10,11,12,13,14,15,16,17,18,19,20,21,28,29,30,31],[0,1,2,3,4,5,6,7,8,9,10,11,12,13,14,15,16,17,18,19,20,21,28,29,30,31,32],[0,1,2,3,4,5,6,7,8,9,10,11,12,13,14,15,16,17,18,19,20,21,28,29,30,31,32,33],[0,1,2,3,4,5,6,7,8,9,10,11,12,13,14,15,16,17,18,19,20,21,22,23,24,25,26,27,28,29,30,31,32,33,34],[0,1,2,3,4,5,6,7,8,9,10,11,12,13,14,15,16,17,18,19,20,21,22,23,24,25,26,27,28,29,30,31,32,33,34,35],[0,1,2,3,4,5,6,7,8,9,10,11,12,13,14,15,16,17,18,19,20,21,22,23,24,25,26,27,28,29,30,31,32,33,34,35,36]])
 (.cond (.t 48)
 (sR [mo (.mv (.c (.bool false))) 2]
 .ret)
 .skip)))
 mc_2z))
@[irreducible] def mg_30 : List MOp := [gT 53 54 (.fad 4 (.t 1)),
 gT 53 55 (.ld none (.t 54)),
 gT 53 56 (.bin false .eql (.t 55) (cI 0)),
 mo (.pick (.t 53) (.t 56) (.c (.bool false))) 57]
@[irreducible] def mg_31 : List MOp := [gT 58 59 (.fad 5 (.t 1)),
 gT 58 60 (.ld none (.t 59)),
 gT 58 61 (.len false (.t 60)),
 gT 58 62 (.bin false .eql (.t 61) (cI 0)),
 mo (.pick (.t 58) (.t 62) (.c (.bool false))) 63]
@[irreducible] def mg_32 : List MOp := [gT 64 65 (.fad 6 (.t 1)),
 gT 64 66 (.ld none (.t 65)),
 gT 64 67 (.bin false .eql (.t 66) (.c (.str []))),
 mo (.pick (.t 64) (.t 67) (.c (.bool false))) 68]
@[irreducible] def mg_33 : List MOp := [gT 69 70 (.fad 7 (.t 1)),
 gT 69 71 (.ld none (.t 70)),
 gT 69 72 (.bin false .eql (.t 71) (cI 0)),
 mo (.pick (.t 69) (.t 72) (.c (.bool false))) 73]
def mc_w : MC :=
 (sR [mo (.box (.t 0)) 1,
 mo (.mv (.c (.bool false))) 2]
 (.seq (sR [oC 0 3]
 (.block 0
 (.loop mc_1q)))
 (.seq (.regI [.op (oF 2 1 49),
 .op (oL 49 50),
 .op (mo (.len false (.t 50)) 51),
 .op (mo (.bin false .eql (.t 51) (cI 0)) 52),
 .op (oV 52 53),
 .grp mg_30,
 .op (oV 57 58),
 .grp mg_31,
 .op (oV 63 64),
 .grp mg_32,
 .op (oV 68 69),
 .grp mg_33,
 .op (oV 73 2)])
 .ret)))
theorem Wq_w {o_ : GObject} : Cn Tryd.prog 30 [GObject.v o_] [] (F_w o_) (fun z => .bool z) (fun z => []) := fun Q Q' h hQ => by
 refine acallM mc_w [] [] [.t 2] Tryd.func30 fun M => ?_
 unfold F_w at h
 unfold mc_w
 replace h := tY h
 refine tB ?_
 repeat' (first
 | (exact tZ)
 | ((first | refine oblg h ?_ | refine roomG h ?_ | refine fork h ?_ ?_ | refine forkS h ?_ ?_) <;> clear h <;> intro hc h)
 | (obtain ⟨y, hy, h⟩ := h; (first | with_reducible first | have hw := Wq_k.w hy | have hw := Wq_7.w hy); replace hw := tY hw; (first | refine M.sC hw ?_ | refine M.sD hw ?_); clear hw hy; refine tB ?_)
 | (refine M.jnE (b := mc_2z) [1,3] [1] (fun y => [(20, .ptr 1 3), (21, .sl (y.1.map GItem.v)), (22, .int .i64 y.2.1), (25, .int .i64 y.2.2.1), (26, .bool y.2.2.2.1), (27, .bool y.2.2.2.2.1), (30, .int .i64 y.2.2.2.2.2.1), (31, .bool y.2.2.2.2.2.2.1), (32, .bool y.2.2.2.2.2.2.2.1), (47, .bool y.2.2.2.2.2.2.2.2)]) (fun y => []) [] h ?_ ?_ <;> first
 | (clear h; intro Qn K hK1 h; replace h := tY h; refine tB ?_)
  |(clear h; intro y h; unfold mc_2z; replace h := tY h; refine tB ?_))
 | (refine M.wh1 (b := mc_1q) [1] [1] (fun x => [(3, .int .i64 x)]) (fun x => []) [] h ?_ ?_ <;> first
 | (clear h; intro x Qn K hK2 h; unfold F_1q at h; unfold mc_1q; replace h := tY h; refine tB ?_)
  |(clear h; (try refine tB ?_); exact tU0; done))
 | (refine M.gv1 (ms := mg_33) 73 [70,71,72] h ?_ ?_ <;> first
 | (clear h; intro K hK3; unfold mg_33; refine tB ?_)
 | (clear h; intro b h; replace h := tY h; refine tB ?_))
 | (refine M.gv1 (ms := mg_32) 68 [65,66,67] h ?_ ?_ <;> first
 | (clear h; intro K hK4; unfold mg_32; refine tB ?_)
 | (clear h; intro b h; replace h := tY h; refine tB ?_))
 | (refine M.gv1 (ms := mg_31) 63 [59,60,61,62] h ?_ ?_ <;> first
 | (clear h; intro K hK5; unfold mg_31; refine tB ?_)
 | (clear h; intro b h; replace h := tY h; refine tB ?_))
 | (refine M.gv1 (ms := mg_30) 57 [54,55,56] h ?_ ?_ <;> first
 | (clear h; intro K hK6; unfold mg_30; refine tB ?_)
 | (clear h; intro b h; replace h := tY h; refine tB ?_))
 | ((first | refine hK1 _ ?_ | refine hK2 _ ?_); (try refine tB ?_); refine ⟨_, h, ?_⟩; exact tU0; done)
 | ((first | refine hK3 _ ?_ | refine hK4 _ ?_ | refine hK5 _ ?_ | refine hK6 _ ?_); exact tU; done)
 | (refine bfork (fun hc => ?_) (fun hc => ?_))
 | (refine tE ?_; (first | rw [M.lok_compU] | rw [M.lokD_compU]); refine tB ?_)
 | (refine tA ?_)
 | fail)
noncomputable def F_1f (o_ : GObject) (x109 : Int) (x146 : Int) : Option (Fl Int (Sum Unit Bool)) :=
 bif decide (x146 < x109) then chk (inb x146 o_.Parents.length) (chk (inb x109 o_.Parents.length) (bif decide ((o_.Parents.getD (x146).toNat default) = (o_.Parents.getD (x109).toNat default)) then some (.ex (.inr false)) else chk (in64 (x146 + 1)) (some (.nx (x146 + 1))))) else some (.ex (.inl ()))
noncomputable def F_1r (o_ : GObject) (x109 : Int) : Option (Fl Int (Sum Unit Bool)) :=
 bif decide (x109 < (o_.Parents.length : Int)) then chk (inb x109 o_.Parents.length) ((F_7 (o_.Parents.getD (x109).toNat default)).bind fun y143 => bif (!y143) then some (.ex (.inr false)) else (loop (F_1f o_ x109) 0).bind fun r147 => Sum.elim (fun u148 => chk (in64 (x109 + 1)) (some (.nx (x109 + 1)))) (fun u149 => some (.ex (.inr u149))) r147) else some (.ex (.inl ()))
noncomputable def F_x (o_ : GObject) : Option Bool :=
 (loop (F_1r o_) 0).bind fun r150 => Sum.elim (fun u151 => grp ((decide ((o_.Data.length : Int) = 0) && decide ((o_.Items.length : Int) = 0))) fun b160 => jn (α := Bool) (bif b160 then (F_7 o_.Tree).bind fun y162 => some y162 else some false) fun j163 => jn (α := Bool) (bif j163 then (F_k o_.Author).bind fun y165 => some y165 else some false) fun j166 => grp ((j166 && decide (0 ≤ o_.Time))) fun b167 => grp ((b167 && decide (o_.Time ≤ 1099511627776))) fun b168 => some b168) (fun u152 => some u152) r150
@[irreducible] def mc_1f : MC :=
 (.seq (sR [oV 4 19,
 oV 3 20,
 mo (.bin false .lss (.t 19) (.t 20)) 21]
 (.cond (.t 21)
 .skip
 (.exit 2)))
 (.seq (.block 3
 (.seq (.regD [oF 5 1 24,
 oL 24 25,
 oV 4 26,
 mo (.iad 1 (.t 25) (.t 26)) 27,
 oL 27 28,
 oF 5 1 29,
 oL 29 30,
 oV 3 31,
 mo (.iad 1 (.t 30) (.t 31)) 32,
 oL 32 33,
 mo (.bin false .eql (.t 28) (.t 33)) 34]
 [[],[0],[],[1,2],[3],[],[5],[],[6,7],[8],[4,9]]
 [[],[0],[],[0,1,2],[0,1,2,3],[],[5],[],[5,6,7],[5,6,7,8],[0,1,2,3,4,5,6,7,8,9]])
 (.cond (.t 34)
 (sR [mo (.mv (.c (.bool false))) 2]
 .ret)
 .skip)))
 (.note (.gc [1,3,4,40,41,42,43,46,47,48,51,52,53,56,57,58,61,62,63]) (.reg [oV 4 22,
 mo (.bin true .add (.t 22) (cI 1)) 23,
 oV 23 4]))))
@[irreducible] def mc_1r : MC :=
 (.seq (sR [oV 3 5,
 oF 5 1 6,
 oL 6 7,
 mo (.len false (.t 7)) 8,
 mo (.bin false .lss (.t 5) (.t 8)) 9]
 (.cond (.t 9)
 .skip
 (.exit 0)))
 (.seq (.block 1
 (.seq (sR [oF 5 1 12,
 oL 12 13,
 oV 3 14,
 mo (.iad 1 (.t 13) (.t 14)) 15,
 oL 15 16,
 mo (.call (.f 28) [(.t 16)] [] []) 17,
 mo (.not (.t 17)) 18]
 (.cond (.t 18)
 (sR [mo (.mv (.c (.bool false))) 2]
 .ret)
 .skip))
 (sR [oC 0 4]
 (.block 2
 (.loop mc_1f)))))
 (.reg [oV 3 10,
 mo (.bin true .add (.t 10) (cI 1)) 11,
 oV 11 3])))
@[irreducible] def mg_34 : List MOp := [gT 39 40 (.fad 3 (.t 1)),
 gT 39 41 (.ld none (.t 40)),
 gT 39 42 (.len false (.t 41)),
 gT 39 43 (.bin false .eql (.t 42) (cI 0)),
 mo (.pick (.t 39) (.t 43) (.c (.bool false))) 44]
@[irreducible] def mg_35 : List MOp := [gT 45 46 (.fad 4 (.t 1)),
 gT 45 47 (.ld none (.t 46)),
 gT 45 48 (.call (.f 28) [(.t 47)] [] []),
 mo (.pick (.t 45) (.t 48) (.c (.bool false))) 49]
@[irreducible] def mg_36 : List MOp := [gT 50 51 (.fad 6 (.t 1)),
 gT 50 52 (.ld none (.t 51)),
 gT 50 53 (.call (.f 10) [(.t 52)] [] []),
 mo (.pick (.t 50) (.t 53) (.c (.bool false))) 54]
@[irreducible] def mg_37 : List MOp := [gT 55 56 (.fad 7 (.t 1)),
 gT 55 57 (.ld none (.t 56)),
 gT 55 58 (.bin false .geq (.t 57) (cI 0)),
 mo (.pick (.t 55) (.t 58) (.c (.bool false))) 59]
@[irreducible] def mg_38 : List MOp := [gT 60 61 (.fad 7 (.t 1)),
 gT 60 62 (.ld none (.t 61)),
 gT 60 63 (.bin false .leq (.t 62) (cI 1099511627776)),
 mo (.pick (.t 60) (.t 63) (.c (.bool false))) 64]
def mc_x : MC :=
 (sR [mo (.box (.t 0)) 1,
 mo (.mv (.c (.bool false))) 2]
 (.seq (sR [oC 0 3]
 (.block 0
 (.loop mc_1r)))
 (.seq (.regI [.op (oF 2 1 35),
 .op (oL 35 36),
 .op (mo (.len false (.t 36)) 37),
 .op (mo (.bin false .eql (.t 37) (cI 0)) 38),
 .op (oV 38 39),
 .grp mg_34,
 .op (oV 44 45),
 .grp mg_35,
 .op (oV 49 50),
 .grp mg_36,
 .op (oV 54 55),
 .grp mg_37,
 .op (oV 59 60),
 .grp mg_38,
 .op (oV 64 2)])
 .ret)))
theorem Wq_x {o_ : GObject} : Cn Tryd.prog 31 [GObject.v o_] [] (F_x o_) (fun z => .bool z) (fun z => []) := fun Q Q' h hQ => by
 refine acallM mc_x [] [] [.t 2] Tryd.func31 fun M => ?_
 unfold F_x at h
 unfold mc_x
 replace h := tY h
 refine tB ?_
 repeat' (first
 | (exact tZ)
 | ((first | refine oblg h ?_ | refine roomG h ?_ | refine fork h ?_ ?_ | refine forkS h ?_ ?_) <;> clear h <;> intro hc h)
 | (obtain ⟨y, hy, h⟩ := h; (first | with_reducible first | have hw := Wq_7.w hy | have hw := Wq_k.w hy); replace hw := tY hw; (first | refine M.sC hw ?_ | refine M.sD hw ?_); clear hw hy; refine tB ?_)
 | (refine M.wh1 (b := mc_1f) [1,3] [1] (fun x => [(4, .int .i64 x)]) (fun x => []) [] h ?_ ?_ <;> first
 | (clear h; intro x Qn K hK1 h; unfold F_1f at h; unfold mc_1f; replace h := tY h; refine tB ?_)
  |(clear h; (try refine tB ?_); exact tU0; done))
 | (refine M.wh1 (b := mc_1r) [1] [1] (fun x => [(3, .int .i64 x)]) (fun x => []) [] h ?_ ?_ <;> first
 | (clear h; intro x Qn K hK2 h; unfold F_1r at h; unfold mc_1r; replace h := tY h; refine tB ?_)
  |(clear h; (try refine tB ?_); exact tU0; done))
 | (refine M.gv1 (ms := mg_38) 64 [61,62,63] h ?_ ?_ <;> first
 | (clear h; intro K hK3; unfold mg_38; refine tB ?_)
 | (clear h; intro b h; replace h := tY h; refine tB ?_))
 | (refine M.gv1 (ms := mg_37) 59 [56,57,58] h ?_ ?_ <;> first
 | (clear h; intro K hK4; unfold mg_37; refine tB ?_)
 | (clear h; intro b h; replace h := tY h; refine tB ?_))
 | (refine M.gj1 (ms := mg_36) [1] [1] (fun y => [(54, .bool y)]) (fun y => []) h ?_ ?_ <;> first
 | (clear h; intro Qn K hK5 h; unfold mg_36; replace h := tY h; refine tB ?_)
  |(clear h; intro y h; replace h := tY h; refine tB ?_))
 | (refine M.gj1 (ms := mg_35) [1] [1] (fun y => [(49, .bool y)]) (fun y => []) h ?_ ?_ <;> first
 | (clear h; intro Qn K hK6 h; unfold mg_35; replace h := tY h; refine tB ?_)
  |(clear h; intro y h; replace h := tY h; refine tB ?_))
 | (refine M.gv1 (ms := mg_34) 44 [40,41,42,43] h ?_ ?_ <;> first
 | (clear h; intro K hK7; unfold mg_34; refine tB ?_)
 | (clear h; intro b h; replace h := tY h; refine tB ?_))
 | ((first | refine hK1 _ ?_ | refine hK2 _ ?_ | refine hK5 _ ?_ | refine hK6 _ ?_); (try refine tB ?_); refine ⟨_, h, ?_⟩; exact tU0; done)
 | ((first | refine hK3 _ ?_ | refine hK4 _ ?_ | refine hK7 _ ?_); exact tU; done)
 | (refine bfork (fun hc => ?_) (fun hc => ?_))
 | (refine tE ?_; (first | rw [M.lok_compU] | rw [M.lokD_compU]); refine tB ?_)
 | (refine tA ?_)
 | fail)
noncomputable def F_p (o_ : GObject) : Option Int :=
 (F_7 o_.ID).bind fun y4 => bif (!y4) then some 2 else grp ((decide (65536 < (o_.Data.length : Int)) || decide (64 < (o_.Items.length : Int)))) fun b11 => grp ((b11 || decide (8 < (o_.Parents.length : Int)))) fun b12 => bif b12 then some 3 else jn (α := Bool) (bif decide (o_.Kind = 1) then (F_1e o_).bind fun y46 => some y46 else some false) fun j47 => bif j47 then some 0 else jn (α := Bool) (bif decide (o_.Kind = 2) then (F_w o_).bind fun y51 => some y51 else some false) fun j52 => bif j52 then some 0 else jn (α := Bool) (bif decide (o_.Kind = 3) then (F_x o_).bind fun y54 => some y54 else some false) fun j55 => bif j55 then some 0 else some 1
@[irreducible] def mg_39 : List MOp := [gF 11 12 (.fad 3 (.t 1)),
 gF 11 13 (.ld none (.t 12)),
 gF 11 14 (.len false (.t 13)),
 gF 11 15 (.bin false .gtr (.t 14) (cI 64)),
 mo (.pick (.t 11) (.c (.bool true)) (.t 15)) 16]
@[irreducible] def mg_3a : List MOp := [gF 17 18 (.fad 5 (.t 1)),
 gF 17 19 (.ld none (.t 18)),
 gF 17 20 (.len false (.t 19)),
 gF 17 21 (.bin false .gtr (.t 20) (cI 8)),
 mo (.pick (.t 17) (.c (.bool true)) (.t 21)) 22]
@[irreducible] def mg_3b : List MOp := [gT 27 28 (.ld (some 8) (.t 1)),
 gT 27 29 (.call (.f 29) [(.t 28)] [] []),
 mo (.pick (.t 27) (.t 29) (.c (.bool false))) 30]
@[irreducible] def mg_3c : List MOp := [gT 34 35 (.ld (some 8) (.t 1)),
 gT 34 36 (.call (.f 30) [(.t 35)] [] []),
 mo (.pick (.t 34) (.t 36) (.c (.bool false))) 37]
@[irreducible] def mg_3d : List MOp := [gT 41 42 (.ld (some 8) (.t 1)),
 gT 41 43 (.call (.f 31) [(.t 42)] [] []),
 mo (.pick (.t 41) (.t 43) (.c (.bool false))) 44]
def mc_p : MC :=
 (sR [mo (.box (.t 0)) 1,
 oC 0 2]
 (.seq (sR [oF 0 1 3,
 oL 3 4,
 mo (.call (.f 28) [(.t 4)] [] []) 5,
 mo (.not (.t 5)) 6]
 (.cond (.t 6)
 (sR [oC 2 2]
 .ret)
 .skip))
 (.seq (.seq (.regI [.op (oF 2 1 7),
 .op (oL 7 8),
 .op (mo (.len false (.t 8)) 9),
 .op (mo (.bin false .gtr (.t 9) (cI 65536)) 10),
 .op (oV 10 11),
 .grp mg_39,
 .op (oV 16 17),
 .grp mg_3a])
 (.cond (.t 22)
 (sR [oC 3 2]
 .ret)
 .skip))
 (.seq (.block 0
 (.seq (.seq (.note (.gc [1,28,29,35,36,42,43]) (.regI [.op (oF 1 1 24),
 .op (oL 24 25),
 .op (mo (.bin false .eql (.t 25) (cI 1)) 26),
 .op (oV 26 27),
 .grp mg_3b,
 .op (oV 30 23)]))
 (.cond (.t 23)
 .skip
 (.seq (.regI [.op (oF 1 1 31),
 .op (oL 31 32),
 .op (mo (.bin false .eql (.t 32) (cI 2)) 33),
 .op (oV 33 34),
 .grp mg_3c,
 .op (oV 37 23)])
 (.cond (.t 23)
 .skip
 (.regI [.op (oF 1 1 38),
 .op (oL 38 39),
 .op (mo (.bin false .eql (.t 39) (cI 3)) 40),
 .op (oV 40 41),
 .grp mg_3d,
 .op (oV 44 23)])))))
 (.cond (.t 23)
 (sR [oC 0 2]
 .ret)
 .skip)))
 (sR [oC 1 2]
 .ret)))))
theorem Wq_p {o_ : GObject} : Cn Tryd.prog 17 [GObject.v o_] [] (F_p o_) (fun z => .int .i64 z) (fun z => []) := fun Q Q' h hQ => by
 refine acallM mc_p [] [] [.t 2] Tryd.func17 fun M => ?_
 unfold F_p at h
 unfold mc_p
 replace h := tY h
 refine tB ?_
 repeat' (first
 | (exact tZ)
 | ((first | refine oblg h ?_ | refine roomG h ?_ | refine fork h ?_ ?_ | refine forkS h ?_ ?_) <;> clear h <;> intro hc h)
 | (obtain ⟨y, hy, h⟩ := h; (first | with_reducible first | have hw := Wq_7.w hy | have hw := Wq_1e.w hy | have hw := Wq_w.w hy | have hw := Wq_x.w hy); replace hw := tY hw; (first | refine M.sC hw ?_ | refine M.sD hw ?_); clear hw hy; refine tB ?_)
 | (refine M.gj1 (ms := mg_3d) [23] [] (fun y => [(44, .bool y)]) (fun y => []) h ?_ ?_ <;> first
 | (clear h; intro Qn K hK1 h; unfold mg_3d; replace h := tY h; refine tB ?_)
  |(clear h; intro y h; replace h := tY h; refine tB ?_))
 | (refine M.gj1 (ms := mg_3c) [1,23] [1] (fun y => [(37, .bool y)]) (fun y => []) h ?_ ?_ <;> first
 | (clear h; intro Qn K hK2 h; unfold mg_3c; replace h := tY h; refine tB ?_)
  |(clear h; intro y h; replace h := tY h; refine tB ?_))
 | (refine M.gj1 (ms := mg_3b) [1] [1] (fun y => [(30, .bool y)]) (fun y => []) h ?_ ?_ <;> first
 | (clear h; intro Qn K hK3 h; unfold mg_3b; replace h := tY h; refine tB ?_)
  |(clear h; intro y h; replace h := tY h; refine tB ?_))
 | (refine M.gv1 (ms := mg_3a) 22 [18,19,20,21] h ?_ ?_ <;> first
 | (clear h; intro K hK4; unfold mg_3a; refine tB ?_)
 | (clear h; intro b h; replace h := tY h; refine tB ?_))
 | (refine M.gv1 (ms := mg_39) 16 [12,13,14,15] h ?_ ?_ <;> first
 | (clear h; intro K hK5; unfold mg_39; refine tB ?_)
 | (clear h; intro b h; replace h := tY h; refine tB ?_))
 | ((first | refine hK1 _ ?_ | refine hK2 _ ?_ | refine hK3 _ ?_); (try refine tB ?_); refine ⟨_, h, ?_⟩; exact tU0; done)
 | ((first | refine hK4 _ ?_ | refine hK5 _ ?_); exact tU; done)
 | (refine bfork (fun hc => ?_) (fun hc => ?_))
 | (refine tE ?_; (first | rw [M.lok_compU] | rw [M.lokD_compU]); refine tB ?_)
 | (refine tA ?_)
 | fail)
def FR_1 : Nat → Int → Option Str
 | 0, _ => none
 | n + 1, n_ =>
 bif decide (n_ < 10) then some [(u8 (48 + ((u8 n_).toNat : Int)))] else chk (divs n_ 10) ((FR_1 n (n_ / 10)).bind fun y2 => chk (divs n_ 10) (chk (strl (y2.length + [(u8 (48 + ((u8 (n_ % 10)).toNat : Int)))].length)) (some (y2 ++ [(u8 (48 + ((u8 (n_ % 10)).toNat : Int)))]))))
noncomputable def F_1 (n_ : Int) : Option Str := lim fun n => FR_1 n n_
def mc_1 : MC :=
 (sR [mo (.mv (.c (.str []))) 2]
 (.seq (sR [oV 0 3,
 mo (.bin false .lss (.t 3) (cI 10)) 4]
 (.cond (.t 4)
 (sR [oV 0 5,
 mo (.i2i false .u8 (.t 5)) 6,
 mo (.bin false .add (.c (.int .u8 48)) (.t 6)) 7,
 mo (.bslice 1 [(.t 7)]) 8,
 mo (.b2s (.t 8)) 9,
 oV 9 2]
 .ret)
 .skip))
 (.seq (.regD [oV 0 10,
 mo (.bin true .quo (.t 10) (cI 10)) 11,
 mo (.call (.f 37) [(.t 11)] [] []) 12,
 oV 0 13,
 mo (.bin true .rem (.t 13) (cI 10)) 14,
 mo (.i2i false .u8 (.t 14)) 15,
 mo (.bin false .add (.c (.int .u8 48)) (.t 15)) 16,
 mo (.bslice 1 [(.t 16)]) 17,
 mo (.b2s (.t 17)) 18,
 mo (.bin false .add (.t 12) (.t 18)) 19,
 oV 19 2]
 [[],[0],[1],[],[3],[4],[5],[6],[7],[2,8],[9,2,0,1,2,3,4,5,6,7,8,9]]
 [[],[0],[0,1],[],[3],[3,4],[3,4,5],[3,4,5,6],[3,4,5,6,7],[0,1,2,3,4,5,6,7,8],[0,1,2,3,4,5,6,7,8,9]])
 .ret)))
theorem Wq_1 {n : Nat} (ih_ref13_number : ∀ {n_ : Int} {y : Str}, FR_1 n n_ = some y → ACall Tryd.prog 37 [.int .i64 n_] [] (fun r H => r = .str y ∧ H = [])) (n_ : Int) {Q : Str → Prop} {Q' : V → Heap → Prop} (h : Ok (FR_1 (n + 1) n_) Q) (hQ : ∀ z, Q z → Q' (.str z) []) : ACall Tryd.prog 37 [.int .i64 n_] [] Q' := by
 refine acallM mc_1 [] [] [.t 2] Tryd.func37 fun M => ?_
 simp only [FR_1] at h
 unfold mc_1
 replace h := tY h
 refine tB ?_
 repeat' (first
 | (exact tZ)
 | ((first | refine oblg h ?_ | refine roomG h ?_ | refine divG h ?_ | refine fork h ?_ ?_ | refine forkS h ?_ ?_) <;> clear h <;> intro hc h)
 | (obtain ⟨y, hy, h⟩ := h; have hw := ih_ref13_number hy; replace hw := tY hw; (first | refine M.sC hw ?_ | refine M.sD hw ?_); clear hw hy; refine tB ?_)
 | (refine tE ?_; (first | rw [M.lok_compU] | rw [M.lokD_compU]); refine tB ?_)
 | (refine tA ?_)
 | fail)
theorem WG_1 : ∀ n, (∀ {n_ : Int} {y : Str}, FR_1 n n_ = some y → ACall Tryd.prog 37 [.int .i64 n_] [] (fun r H => r = .str y ∧ H = []))
 | 0 => fun hy => by simp only [FR_1] at hy; cases hy
 | n + 1 => by
  have ih_ref13_number := @WG_1 n
  exact fun hy => Wq_1 ih_ref13_number _ (Q := (· = _)) ⟨_, hy, rfl⟩ fun | _, rfl => ⟨rfl, rfl⟩
theorem W_1 : ∀ {n_ : Int} {y : Str}, F_1 n_ = some y → ACall Tryd.prog 37 [.int .i64 n_] [] (fun r H => r = .str y ∧ H = []) := fun hy => by
 obtain ⟨n, hn⟩ := lim_inv hy
 exact (WG_1 n) hn
noncomputable def F_1g (o_ : GObject) (x37 : Str × Int) : Option (Fl (Str × Int) Str) :=
 bif decide (x37.2 < (o_.Items.length : Int)) then chk (inb x37.2 o_.Items.length) ((F_1 ((o_.Items.getD (x37.2).toNat default).ID)).bind fun y41 => chk (strl (y41.length + [32].length)) (chk (inb x37.2 o_.Items.length) (chk (strl ((y41 ++ [32]).length + ((o_.Items.getD (x37.2).toNat default).Name).length)) (chk (strl (((y41 ++ [32]) ++ (o_.Items.getD (x37.2).toNat default).Name).length + [10].length)) (chk (strl (x37.1.length + (((y41 ++ [32]) ++ (o_.Items.getD (x37.2).toNat default).Name) ++ [10]).length)) (chk (in64 (x37.2 + 1)) (some (.nx ((x37.1 ++ (((y41 ++ [32]) ++ (o_.Items.getD (x37.2).toNat default).Name) ++ [10])), (x37.2 + 1)))))))))) else some (.ex x37.1)
noncomputable def F_1h (o_ : GObject) (x61 : Str × Int) : Option (Fl (Str × Int) Str) :=
 bif decide (x61.2 < (o_.Parents.length : Int)) then chk (inb x61.2 o_.Parents.length) ((F_1 (o_.Parents.getD (x61.2).toNat default)).bind fun y65 => chk (strl ([112,97,114,101,110,116,32].length + y65.length)) (chk (strl (([112,97,114,101,110,116,32] ++ y65).length + [10].length)) (chk (strl (x61.1.length + (([112,97,114,101,110,116,32] ++ y65) ++ [10]).length)) (chk (in64 (x61.2 + 1)) (some (.nx ((x61.1 ++ (([112,97,114,101,110,116,32] ++ y65) ++ [10])), (x61.2 + 1)))))))) else some (.ex x61.1)
noncomputable def F_a (o_ : GObject) : Option (List UInt8) :=
 bif decide (o_.Kind = 1) then chk (room ([98,108,111,98,10].length + o_.Data.length) 1) (some ([98,108,111,98,10] ++ o_.Data)) else bif decide (o_.Kind = 2) then (loop (F_1g o_) ([116,114,101,101,10],0)).bind fun r42 => some r42 else (F_1 o_.Tree).bind fun y44 => chk (strl ([99,111,109,109,105,116,10,116,114,101,101,32].length + y44.length)) (chk (strl (([99,111,109,109,105,116,10,116,114,101,101,32] ++ y44).length + [10].length)) ((loop (F_1h o_) ((([99,111,109,109,105,116,10,116,114,101,101,32] ++ y44) ++ [10]),0)).bind fun r66 => chk (strl (r66.length + [97,117,116,104,111,114,32].length)) (chk (strl ((r66 ++ [97,117,116,104,111,114,32]).length + o_.Author.length)) (chk (strl (((r66 ++ [97,117,116,104,111,114,32]) ++ o_.Author).length + [10,116,105,109,101,32].length)) ((F_1 o_.Time).bind fun y68 => chk (strl ((((r66 ++ [97,117,116,104,111,114,32]) ++ o_.Author) ++ [10,116,105,109,101,32]).length + y68.length)) (chk (strl (((((r66 ++ [97,117,116,104,111,114,32]) ++ o_.Author) ++ [10,116,105,109,101,32]) ++ y68).length + [10].length)) (some (((((r66 ++ [97,117,116,104,111,114,32]) ++ o_.Author) ++ [10,116,105,109,101,32]) ++ y68) ++ [10]))))))))
@[irreducible] def mc_1g : MC :=
 (.seq (sR [oV 4 18,
 oF 3 1 19,
 oL 19 20,
 mo (.len false (.t 20)) 21,
 mo (.bin false .lss (.t 18) (.t 21)) 22]
 (.cond (.t 22)
 .skip
 (.exit 1)))
 (.seq (.block 2
 (.regD [oV 3 25,
 oF 3 1 26,
 oL 26 27,
 oV 4 28,
 mo (.iad 2 (.t 27) (.t 28)) 29,
 oF 1 29 30,
 oL 30 31,
 mo (.call (.f 37) [(.t 31)] [] []) 32,
 mo (.bin false .add (.t 32) (.c (.str [32]))) 33,
 oF 3 1 34,
 oL 34 35,
 oV 4 36,
 mo (.iad 2 (.t 35) (.t 36)) 37,
 oF 0 37 38,
 oL 38 39,
 mo (.bin false .add (.t 33) (.t 39)) 40,
 mo (.bin false .add (.t 40) (.c (.str [10]))) 41,
 mo (.bin false .add (.t 25) (.t 41)) 42,
 oV 42 3]
 [[],[],[1],[],[2,3],[4],[5],[6],[7],[],[9],[],[10,11],[12],[13],[8,14],[15],[0,16],[17,7,0,1,2,3,4,5,6,7,8,9,10,11,12,13,14,15,16,17]]
 [[],[],[1],[],[1,2,3],[1,2,3,4],[1,2,3,4,5],[1,2,3,4,5,6],[1,2,3,4,5,6,7],[],[9],[],[9,10,11],[9,10,11,12],[9,10,11,12,13],[1,2,3,4,5,6,7,8,9,10,11,12,13,14],[1,2,3,4,5,6,7,8,9,10,11,12,13,14,15],[0,1,2,3,4,5,6,7,8,9,10,11,12,13,14,15,16],[0,1,2,3,4,5,6,7,8,9,10,11,12,13,14,15,16,17]]))
 (.note (.gc [1,3,4]) (.reg [oV 4 23,
 mo (.bin true .add (.t 23) (cI 1)) 24,
 oV 24 4]))))
@[irreducible] def mc_1h : MC :=
 (.seq (sR [oV 6 50,
 oF 5 1 51,
 oL 51 52,
 mo (.len false (.t 52)) 53,
 mo (.bin false .lss (.t 50) (.t 53)) 54]
 (.cond (.t 54)
 .skip
 (.exit 3)))
 (.seq (.block 4
 (.reg [oV 5 57,
 oF 5 1 58,
 oL 58 59,
 oV 6 60,
 mo (.iad 1 (.t 59) (.t 60)) 61,
 oL 61 62,
 mo (.call (.f 37) [(.t 62)] [] []) 63,
 mo (.bin false .add (.c (.str [112,97,114,101,110,116,32])) (.t 63)) 64,
 mo (.bin false .add (.t 64) (.c (.str [10]))) 65,
 mo (.bin false .add (.t 57) (.t 65)) 66,
 oV 66 5]))
 (.note (.gc [1,5,6]) (.reg [oV 6 55,
 mo (.bin true .add (.t 55) (cI 1)) 56,
 oV 56 6]))))
def mc_a : MC :=
 (sR [mo (.box (.t 0)) 1,
 mo (.mv (.c (.sl []))) 2]
 (.seq (sR [oF 1 1 7,
 oL 7 8]
 (.block 0
 (sR [mo (.bin false .eql (.t 8) (cI 1)) 10,
 oV 10 9]
 (.cond (.t 9)
 (sR [mo (.bslice 1 [(.c (.int .u8 98)),(.c (.int .u8 108)),(.c (.int .u8 111)),(.c (.int .u8 98)),(.c (.int .u8 10))]) 11,
 mo (.mks (.t 11)) 12,
 oF 2 1 13,
 oL 13 14,
 mo (.app 1 1 (.t 12) (.t 14)) 15,
 oV 15 2]
 .ret)
 (sR [mo (.bin false .eql (.t 8) (cI 2)) 17,
 oV 17 16]
 (.cond (.t 16)
 (sR [mo (.mv (.c (.str [116,114,101,101,10]))) 3]
 (.seq (sR [oC 0 4]
 (.block 1
 (.loop mc_1g)))
 (sR [oV 3 43,
 mo (.s2b (.t 43)) 44,
 oV 44 2]
 .ret)))
 .skip))))))
 (.seq (.note (.gc [1]) (.reg [oF 4 1 45,
 oL 45 46,
 mo (.call (.f 37) [(.t 46)] [] []) 47,
 mo (.bin false .add (.c (.str [99,111,109,109,105,116,10,116,114,101,101,32])) (.t 47)) 48,
 mo (.bin false .add (.t 48) (.c (.str [10]))) 49,
 oV 49 5]))
 (.seq (sR [oC 0 6]
 (.block 3
 (.loop mc_1h)))
 (.seq (.regD [oV 5 67,
 mo (.bin false .add (.t 67) (.c (.str [97,117,116,104,111,114,32]))) 68,
 oF 6 1 69,
 oL 69 70,
 mo (.bin false .add (.t 68) (.t 70)) 71,
 mo (.bin false .add (.t 71) (.c (.str [10,116,105,109,101,32]))) 72,
 oF 7 1 73,
 oL 73 74,
 mo (.call (.f 37) [(.t 74)] [] []) 75,
 mo (.bin false .add (.t 72) (.t 75)) 76,
 mo (.bin false .add (.t 76) (.c (.str [10]))) 77,
 mo (.s2b (.t 77)) 78,
 oV 78 2]
 [[],[0],[],[2],[1,3],[4],[],[6],[7],[5,8],[9],[10],[11,8,0,1,2,3,4,5,6,7,8,9,10,11]]
 [[],[0],[],[2],[0,1,2,3],[0,1,2,3,4],[],[6],[6,7],[0,1,2,3,4,5,6,7,8],[0,1,2,3,4,5,6,7,8,9],[0,1,2,3,4,5,6,7,8,9,10],[0,1,2,3,4,5,6,7,8,9,10,11]])
 .ret)))))
theorem Wq_a {o_ : GObject} : Cn Tryd.prog 21 [GObject.v o_] [] (F_a o_) (fun z => .sl (z.map byteV)) (fun z => []) := fun Q Q' h hQ => by
 refine acallM mc_a [.fz 2] [] [.t 2] Tryd.func21 fun M => ?_
 unfold F_a at h
 unfold mc_a
 replace h := tY h
 refine tB ?_
 repeat' (first
 | (exact tZ)
 | ((first | refine oblg h ?_ | refine roomG h ?_ | refine fork h ?_ ?_ | refine forkS h ?_ ?_) <;> clear h <;> intro hc h)
 | (obtain ⟨y, hy, h⟩ := h; have hw := W_1 hy; replace hw := tY hw; (first | refine M.sC hw ?_ | refine M.sD hw ?_); clear hw hy; refine tB ?_)
 | (refine M.wh1 (b := mc_1g) [1] [1] (fun x => [(3, .str x.1), (4, .int .i64 x.2)]) (fun x => []) [] h ?_ ?_ <;> first
 | (clear h; intro x Qn K hK1 h; unfold F_1g at h; unfold mc_1g; replace h := tY h; refine tB ?_)
  |(clear h; (try refine tB ?_); exact tU0; done))
 | (refine M.wh1 (b := mc_1h) [1] [1] (fun x => [(5, .str x.1), (6, .int .i64 x.2)]) (fun x => []) [] h ?_ ?_ <;> first
 | (clear h; intro x Qn K hK2 h; unfold F_1h at h; unfold mc_1h; replace h := tY h; refine tB ?_)
  |(clear h; (try refine tB ?_); exact tU0; done))
 | ((first | refine hK1 _ ?_ | refine hK2 _ ?_); (try refine tB ?_); refine ⟨_, h, ?_⟩; exact tU0; done)
 | (refine tE ?_; (first | rw [M.lok_compU] | rw [M.lokD_compU]); refine tB ?_)
 | (refine tA ?_)
 | fail)
noncomputable def F_1i (a_ : GObject) (b_ : GObject) (x54 : Int) : Option (Fl Int (Sum Unit Bool)) :=
 bif decide (x54 < (a_.Items.length : Int)) then chk (inb x54 a_.Items.length) (chk (inb x54 b_.Items.length) (bif (!(decide ((a_.Items.getD (x54).toNat default).Name = (b_.Items.getD (x54).toNat default).Name) && decide ((a_.Items.getD (x54).toNat default).ID = (b_.Items.getD (x54).toNat default).ID))) then some (.ex (.inr false)) else chk (in64 (x54 + 1)) (some (.nx (x54 + 1))))) else some (.ex (.inl ()))
noncomputable def F_1j (a_ : GObject) (b_ : GObject) (x66 : Int) : Option (Fl Int (Sum Unit Bool)) :=
 bif decide (x66 < (a_.Parents.length : Int)) then chk (inb x66 a_.Parents.length) (chk (inb x66 b_.Parents.length) (bif (!decide ((a_.Parents.getD (x66).toNat default) = (b_.Parents.getD (x66).toNat default))) then some (.ex (.inr false)) else chk (in64 (x66 + 1)) (some (.nx (x66 + 1))))) else some (.ex (.inl ()))
noncomputable def F_q (a_ : GObject) (b_ : GObject) : Option Bool :=
 jn (α := Fl Unit Bool) (grp (((!decide (a_.ID = b_.ID)) || (!decide (a_.Kind = b_.Kind)))) fun b35 => bif b35 then grp (true) fun b36 => grp ((b36 || (!decide (a_.Author = b_.Author)))) fun b37 => grp ((b37 || (!decide (a_.Time = b_.Time)))) fun b38 => grp ((b38 || (!decide ((a_.Items.length : Int) = (b_.Items.length : Int))))) fun b39 => grp ((b39 || (!decide ((a_.Parents.length : Int) = (b_.Parents.length : Int))))) fun b40 => bif b40 then some (.ex false) else some (.nx ()) else grp (((!decide (a_.Data = b_.Data)) || (!decide (a_.Tree = b_.Tree)))) fun b41 => grp ((b41 || (!decide (a_.Author = b_.Author)))) fun b42 => grp ((b42 || (!decide (a_.Time = b_.Time)))) fun b43 => grp ((b43 || (!decide ((a_.Items.length : Int) = (b_.Items.length : Int))))) fun b44 => grp ((b44 || (!decide ((a_.Parents.length : Int) = (b_.Parents.length : Int))))) fun b45 => bif b45 then some (.ex false) else some (.nx ())) fun o => o.elim (fun j23 => (loop (F_1i a_ b_) 0).bind fun r55 => Sum.elim (fun u56 => (loop (F_1j a_ b_) 0).bind fun r67 => Sum.elim (fun u68 => some true) (fun u69 => some u69) r67) (fun u57 => some u57) r55) (fun r70 => some r70)
@[irreducible] def mg_3e : List MOp := [gF 12 13 (.fad 1 (.t 2)),
 gF 12 14 (.ld none (.t 13)),
 gF 12 15 (.fad 1 (.t 3)),
 gF 12 16 (.ld none (.t 15)),
 gF 12 17 (.bin false .neq (.t 14) (.t 16)),
 mo (.pick (.t 12) (.c (.bool true)) (.t 17)) 18]
@[irreducible] def mg_23 : List MOp := [gF 28 29 (.fad 4 (.t 2)),
 gF 28 30 (.ld none (.t 29)),
 gF 28 31 (.fad 4 (.t 3)),
 gF 28 32 (.ld none (.t 31)),
 gF 28 33 (.bin false .neq (.t 30) (.t 32)),
 mo (.pick (.t 28) (.c (.bool true)) (.t 33)) 34]
@[irreducible] def mg_24 : List MOp := [gF 35 36 (.fad 6 (.t 2)),
 gF 35 37 (.ld none (.t 36)),
 gF 35 38 (.fad 6 (.t 3)),
 gF 35 39 (.ld none (.t 38)),
 gF 35 40 (.bin false .neq (.t 37) (.t 39)),
 mo (.pick (.t 35) (.c (.bool true)) (.t 40)) 41]
@[irreducible] def mg_25 : List MOp := [gF 42 43 (.fad 7 (.t 2)),
 gF 42 44 (.ld none (.t 43)),
 gF 42 45 (.fad 7 (.t 3)),
 gF 42 46 (.ld none (.t 45)),
 gF 42 47 (.bin false .neq (.t 44) (.t 46)),
 mo (.pick (.t 42) (.c (.bool true)) (.t 47)) 48]
@[irreducible] def mg_26 : List MOp := [gF 49 50 (.fad 3 (.t 2)),
 gF 49 51 (.ld none (.t 50)),
 gF 49 52 (.len false (.t 51)),
 gF 49 53 (.fad 3 (.t 3)),
 gF 49 54 (.ld none (.t 53)),
 gF 49 55 (.len false (.t 54)),
 gF 49 56 (.bin false .neq (.t 52) (.t 55)),
 mo (.pick (.t 49) (.c (.bool true)) (.t 56)) 57]
@[irreducible] def mg_27 : List MOp := [gF 58 59 (.fad 5 (.t 2)),
 gF 58 60 (.ld none (.t 59)),
 gF 58 61 (.len false (.t 60)),
 gF 58 62 (.fad 5 (.t 3)),
 gF 58 63 (.ld none (.t 62)),
 gF 58 64 (.len false (.t 63)),
 gF 58 65 (.bin false .neq (.t 61) (.t 64)),
 mo (.pick (.t 58) (.c (.bool true)) (.t 65)) 66]
@[irreducible] def mc_1i : MC :=
 (.seq (sR [oV 5 67,
 oF 3 2 68,
 oL 68 69,
 mo (.len false (.t 69)) 70,
 mo (.bin false .lss (.t 67) (.t 70)) 71]
 (.cond (.t 71)
 .skip
 (.exit 0)))
 (.seq (.block 1
 (.seq (.regD [oF 3 2 74,
 oL 74 75,
 oV 5 76,
 mo (.iad 2 (.t 75) (.t 76)) 77,
 mo (.ld (some 2) (.t 77)) 78,
 oF 3 3 79,
 oL 79 80,
 oV 5 81,
 mo (.iad 2 (.t 80) (.t 81)) 82,
 mo (.ld (some 2) (.t 82)) 83,
 mo (.eqs true [1,0] (.t 78) (.t 83)) 84]
 [[],[0],[],[1,2],[3],[],[5],[],[6,7],[8],[4,9]]
 [[],[0],[],[0,1,2],[0,1,2,3],[],[5],[],[5,6,7],[5,6,7,8],[0,1,2,3,4,5,6,7,8,9]])
 (.cond (.t 84)
 (sR [mo (.mv (.c (.bool false))) 4]
 .ret)
 .skip)))
 (.note (.gc [2,3,5]) (.reg [oV 5 72,
 mo (.bin true .add (.t 72) (cI 1)) 73,
 oV 73 5]))))
@[irreducible] def mc_1j : MC :=
 (.seq (sR [oV 6 85,
 oF 5 2 86,
 oL 86 87,
 mo (.len false (.t 87)) 88,
 mo (.bin false .lss (.t 85) (.t 88)) 89]
 (.cond (.t 89)
 .skip
 (.exit 2)))
 (.seq (.block 3
 (.seq (.regD [oF 5 2 92,
 oL 92 93,
 oV 6 94,
 mo (.iad 1 (.t 93) (.t 94)) 95,
 oL 95 96,
 oF 5 3 97,
 oL 97 98,
 oV 6 99,
 mo (.iad 1 (.t 98) (.t 99)) 100,
 oL 100 101,
 mo (.bin false .neq (.t 96) (.t 101)) 102]
 [[],[0],[],[1,2],[3],[],[5],[],[6,7],[8],[4,9]]
 [[],[0],[],[0,1,2],[0,1,2,3],[],[5],[],[5,6,7],[5,6,7,8],[0,1,2,3,4,5,6,7,8,9]])
 (.cond (.t 102)
 (sR [mo (.mv (.c (.bool false))) 4]
 .ret)
 .skip)))
 (.note (.gc [2,3,6]) (.reg [oV 6 90,
 mo (.bin true .add (.t 90) (cI 1)) 91,
 oV 91 6]))))
@[irreducible] def mc_3f : MC :=
 (.seq (sR [oC 0 5]
 (.block 0
 (.loop mc_1i)))
 (.seq (sR [oC 0 6]
 (.block 2
 (.loop mc_1j)))
 (sR [mo (.mv (.c (.bool true))) 4]
 .ret)))
def mc_q : MC :=
 (sR [mo (.box (.t 0)) 2,
 mo (.box (.t 1)) 3,
 mo (.mv (.c (.bool false))) 4]
 (.cut (.seq (.regI [.op (oF 0 2 7),
 .op (oL 7 8),
 .op (oF 0 3 9),
 .op (oL 9 10),
 .op (mo (.bin false .neq (.t 8) (.t 10)) 11),
 .op (oV 11 12),
 .grp mg_3e,
 .op (oV 18 19),
 .op (gF 19 20 (.fad 2 (.t 2))),
 .op (gF 19 21 (.ld none (.t 20))),
 .op (gF 19 22 (.b2s (.t 21))),
 .op (gF 19 23 (.fad 2 (.t 3))),
 .op (gF 19 24 (.ld none (.t 23))),
 .op (gF 19 25 (.b2s (.t 24))),
 .op (gF 19 26 (.bin false .neq (.t 22) (.t 25))),
 .op (mo (.pick (.t 19) (.c (.bool true)) (.t 26)) 27),
 .op (oV 27 28),
 .grp mg_23,
 .op (oV 34 35),
 .grp mg_24,
 .op (oV 41 42),
 .grp mg_25,
 .op (oV 48 49),
 .grp mg_26,
 .op (oV 57 58),
 .grp mg_27])
 (.cond (.t 66)
 (sR [mo (.mv (.c (.bool false))) 4]
 .ret)
 .skip))
 mc_3f))
theorem Wq_q {a_ b_ : GObject} : Cn Tryd.prog 19 [GObject.v a_, GObject.v b_] [] (F_q a_ b_) (fun z => .bool z) (fun z => []) := fun Q Q' h hQ => by
 refine acallM mc_q [] [] [.t 4] Tryd.func19 fun M => ?_
 unfold F_q at h
 unfold mc_q
 replace h := tY h
 refine tB ?_
 repeat' (first
 | (exact tZ)
 | ((first | refine oblg h ?_ | refine roomG h ?_ | refine fork h ?_ ?_ | refine forkS h ?_ ?_) <;> clear h <;> intro hc h)
 | (refine M.gv1 (ms := mg_27) 66 [59,60,61,62,63,64,65] h ?_ ?_ <;> first
 | (clear h; intro K hK1; unfold mg_27; refine tB ?_)
 | (clear h; intro b h; replace h := tY h; refine tB ?_))
 | (refine M.gv1 (ms := mg_26) 57 [50,51,52,53,54,55,56] h ?_ ?_ <;> first
 | (clear h; intro K hK2; unfold mg_26; refine tB ?_)
 | (clear h; intro b h; replace h := tY h; refine tB ?_))
 | (refine M.gv1 (ms := mg_25) 48 [43,44,45,46,47] h ?_ ?_ <;> first
 | (clear h; intro K hK3; unfold mg_25; refine tB ?_)
 | (clear h; intro b h; replace h := tY h; refine tB ?_))
 | (refine M.gv1 (ms := mg_24) 41 [36,37,38,39,40] h ?_ ?_ <;> first
 | (clear h; intro K hK4; unfold mg_24; refine tB ?_)
 | (clear h; intro b h; replace h := tY h; refine tB ?_))
 | (refine M.gv1 (ms := mg_23) 34 [29,30,31,32,33] h ?_ ?_ <;> first
 | (clear h; intro K hK5; unfold mg_23; refine tB ?_)
 | (clear h; intro b h; replace h := tY h; refine tB ?_))
 | (refine M.gv1 (ms := mg_27) 66 [59,60,61,62,63,64,65] h ?_ ?_ <;> first
 | (clear h; intro K hK6; unfold mg_27; refine tB ?_)
 | (clear h; intro b h; replace h := tY h; refine tB ?_))
 | (refine M.gv1 (ms := mg_26) 57 [50,51,52,53,54,55,56] h ?_ ?_ <;> first
 | (clear h; intro K hK7; unfold mg_26; refine tB ?_)
 | (clear h; intro b h; replace h := tY h; refine tB ?_))
 | (refine M.gv1 (ms := mg_25) 48 [43,44,45,46,47] h ?_ ?_ <;> first
 | (clear h; intro K hK8; unfold mg_25; refine tB ?_)
 | (clear h; intro b h; replace h := tY h; refine tB ?_))
 | (refine M.gv1 (ms := mg_24) 41 [36,37,38,39,40] h ?_ ?_ <;> first
 | (clear h; intro K hK9; unfold mg_24; refine tB ?_)
 | (clear h; intro b h; replace h := tY h; refine tB ?_))
 | (refine M.gv1 (ms := mg_23) 34 [29,30,31,32,33] h ?_ ?_ <;> first
 | (clear h; intro K hK10; unfold mg_23; refine tB ?_)
 | (clear h; intro b h; replace h := tY h; refine tB ?_))
 | (refine M.gv1 (ms := mg_3e) 18 [13,14,15,16,17] h ?_ ?_ <;> first
 | (clear h; intro K hK11; unfold mg_3e; refine tB ?_)
 | (clear h; intro b h; replace h := tY h; refine tB ?_))
 | (refine M.wh1 (b := mc_1i) [2,3] [3,2] (fun x => [(5, .int .i64 x)]) (fun x => []) [] h ?_ ?_ <;> first
 | (clear h; intro x Qn K hK12 h; unfold F_1i at h; unfold mc_1i; replace h := tY h; refine tB ?_)
  |(clear h; (try refine tB ?_); exact tU0; done))
 | (refine M.wh1 (b := mc_1j) [2,3] [3,2] (fun x => [(6, .int .i64 x)]) (fun x => []) [] h ?_ ?_ <;> first
 | (clear h; intro x Qn K hK13 h; unfold F_1j at h; unfold mc_1j; replace h := tY h; refine tB ?_)
  |(clear h; (try refine tB ?_); exact tU0; done))
 | (refine M.jnE (b := mc_3f) [2,3] [3,2] (fun y => []) (fun y => []) [] h ?_ ?_ <;> first
 | (clear h; intro Qn K hK14 h; replace h := tY h; refine tB ?_)
  |(clear h; intro y h; unfold mc_3f; replace h := tY h; refine tB ?_))
 | ((first | refine hK1 _ ?_ | refine hK2 _ ?_ | refine hK3 _ ?_ | refine hK4 _ ?_ | refine hK5 _ ?_ | refine hK6 _ ?_ | refine hK7 _ ?_ | refine hK8 _ ?_ | refine hK9 _ ?_ | refine hK10 _ ?_ | refine hK11 _ ?_); exact tU; done)
 | ((first | refine hK12 _ ?_ | refine hK13 _ ?_ | refine hK14 _ ?_); (try refine tB ?_); refine ⟨_, h, ?_⟩; exact tU0; done)
 | (refine bfork (fun hc => ?_) (fun hc => ?_))
 | (refine tE ?_; (first | rw [M.lok_compU] | rw [M.lokD_compU]); refine tB ?_)
 | (refine tA ?_)
 | fail)
def F_y : Option Bool :=
 (F_1d (GObject.mk 4 2 [] [(GItem.mk [97,46,116,120,116] 3)] 0 [] [] 0)).bind fun y2 => jn (α := Bool) (bif decide (y2.2 = 0) then some (decide (y2.1 = [116,114,101,101,10,51,32,97,46,116,120,116,10])) else some false) fun j4 => some j4
@[irreducible] def mg_3g : List MOp := [gT 12 13 (.mv (.t 1)),
 gT 12 14 (.b2s (.t 13)),
 gT 12 15 (.bin false .eql (.t 14) (.c (.str [116,114,101,101,10,51,32,97,46,116,120,116,10]))),
 mo (.pick (.t 12) (.t 15) (.c (.bool false))) 16]
def mc_y : MC :=
 (sR [mo (.mv (.c (.bool false))) 0]
 (sR [mo (.build [(.str []),(.int .i64 0)] [(0,1,(.c (.str [97,46,116,120,116]))), (1,1, (cI 3))]) 4,
 mo (.lsl 2 [(.t 4)]) 5,
 mo (.build [(.int .i64 0),(.int .i64 0),(.sl []),(.sl []),(.int .i64 0),(.sl []),(.str []),(.int .i64 0)] [(0,1, (cI 4)), (1,1, (cI 2)), (3,1,(.t 5))]) 6,
 mo (.call (.f 14) [(.t 6)] [] []) 7,
 oV 7 3,
 mo (.ext 0 (.t 3)) 8,
 mo (.ext 1 (.t 3)) 9,
 oV 8 1,
 oV 9 2]
 (.seq (.note (.gc [1,2,13,14,15]) (.regI [.op (oV 2 10),
 .op (mo (.bin false .eql (.t 10) (cI 0)) 11),
 .op (oV 11 12),
 .grp mg_3g,
 .op (oV 16 0)]))
 .ret)))
theorem Wq_y : Cn Tryd.prog 11 [] [] F_y (fun z => .bool z) (fun z => []) := fun Q Q' h hQ => by
 refine acallM mc_y [] [] [.t 0] Tryd.func11 fun M => ?_
 unfold F_y at h
 unfold mc_y
 replace h := tY h
 refine tB ?_
 repeat' (first
 | (exact tZ)
 | ((first | refine oblg h ?_ | refine roomG h ?_ | refine fork h ?_ ?_ | refine forkS h ?_ ?_) <;> clear h <;> intro hc h)
 | (obtain ⟨y, hy, h⟩ := h; have hw := Wq_1d.w hy; replace hw := tY hw; (first | refine M.sC hw ?_ | refine M.sD hw ?_); clear hw hy; refine tB ?_)
 | (refine M.gj1 (ms := mg_3g) [] [] (fun y => [(16, .bool y)]) (fun y => []) h ?_ ?_ <;> first
 | (clear h; intro Qn K hK1 h; unfold mg_3g; replace h := tY h; refine tB ?_)
  |(clear h; intro y h; replace h := tY h; refine tB ?_))
 | (refine hK1 _ ?_; (try refine tB ?_); refine ⟨_, h, ?_⟩; exact tU0; done)
 | (refine tE ?_; (first | rw [M.lok_compU] | rw [M.lokD_compU]); refine tB ?_)
 | (refine tA ?_)
 | fail)
end Go.Ab
