/- What the functions of this seat that lie on the laws' road compute (part LA), each for every input. By AI agents. -/
import Derived.Test.YtgjicmoegmbipaaGreatProg
import Derived.KernelRfl
import Derived.Test.YtgjicmoegmbipaaGreatAbFun
import Derived.Test.YtgjicmoegmbipaaGreatSL
import Derived.Test.YtgjicmoegmbipaaGreatMX
set_option linter.all false
set_option linter.all false
set_option maxRecDepth 20000
set_option maxHeartbeats 2000000
namespace Go.Ab
open Go.Proofs
structure GMember where
 Time : Int
 Kind : Int
 Principal : Int
 Group : Int
instance : Inhabited GMember := ⟨⟨default, default, default, default⟩⟩
def GMember.v (x : GMember) : V := .agg [.int .i64 x.Time, .int .i64 x.Kind, .int .i64 x.Principal, .int .i64 x.Group]
structure GDirectory where
 Kinds : List Int
 Events : List GMember
instance : Inhabited GDirectory := ⟨⟨default, default⟩⟩
def GDirectory.v (x : GDirectory) : V := .agg [.sl (x.Kinds.map (V.int .i64)), .sl (x.Events.map GMember.v)]
structure GAccess where
 Time : Int
 Kind : Int
 Place : Int
 Principal : Int
 Until : Int
 Content : Int
 From : Int
instance : Inhabited GAccess := ⟨⟨default, default, default, default, default, default, default⟩⟩
def GAccess.v (x : GAccess) : V := .agg [.int .i64 x.Time, .int .i64 x.Kind, .int .i64 x.Place, .int .i64 x.Principal, .int .i64 x.Until, .int .i64 x.Content, .int .i64 x.From]
structure GEstate where
 Places : Int
 Events : List GAccess
instance : Inhabited GEstate := ⟨⟨default, default⟩⟩
def GEstate.v (x : GEstate) : V := .agg [.int .i64 x.Places, .sl (x.Events.map GAccess.v)]
theorem dlt {a : Int} : decide (a < a) = false := by simp
attribute [go_sem] beq_self_eq_true Int.cast_ofNat_Int List.take_succ_cons List.take_zero List.drop_succ_cons List.cons_append List.nil_append putPs pinH wrap_u8 rng64 inb_and inc_and room_and roomI_and divs_and shok_and64 rep_u rep_ll mget_i mget_s mput_i mput_s mdel_i mdel_s lk_b lk_i lk_s lk_l lkt_b' lkt_i' lkt_s' lkt_l' rep_b rep_i ovS ovE ovU patO filt filtH dropE stepNs atEndN shqs shq1 V.oids V.oidsL V.tr V.trL trE trH Obj'.tr true_implies false_implies Bool.false_eq_true Bool.true_eq_false dlt mpV slV Int.natCast_zero List.map_set kvV nxt_map erase_map V.sw V.swL swN swH sw_sl sw_int sw_bool sw_str sw_smap sw_byte Obj'.sw sw_arr sw_map byte_1 byte_2 Mach.b2s_e Mach.b2s_eD toNat_ltb List.length_set List.length_replicate List.take_of_length_le Nat.zero_le bounds eqCells Option.map_some Option.map_none Fl_nx Fl_ex Sum_inl Sum_inr Ok_ite Ok_chk Ok_some Ok_bind Ok_none
theorem inbk_0 {n : Nat} : (inb 0 n = true) = (((0 : Nat) : Int) < (n : Int)) := propext (by rw [inb_iff]; omega)
attribute [go_sem] inbk_0
theorem incl_1 {b : Int} {n : Nat} : (inc 1 b n = true) = (((1 : Nat) : Int) ≤ b ∧ b ≤ (n : Int)) := propext (by rw [inc_iff]; omega)
attribute [go_sem] incl_1
attribute [go_sem] GAccess.v GDirectory.v GEstate.v GMember.v
def F_k (kind_ : Int) : Option Bool :=
 grp ((decide (kind_ < 1) || decide (3 < kind_))) fun b2 => some b2
@[irreducible] def mg_3o : List MOp := [⟨.mv (.t 0), (some 6), (some (5, false))⟩,
 ⟨.bin false .gtr (.t 6) (.c (.int .i64 3)), (some 7), (some (5, false))⟩,
 mo (.pick (.t 5) (.c (.bool true)) (.t 7)) 8]
def mc_k : MC :=
 (.seq (.reg [mo (.mv (.c (.bool false))) 2])
 (.seq (.regI [.op (mo (.mv (.t 0)) 3),
 .op (mo (.bin false .lss (.t 3) (.c (.int .i64 1))) 4),
 .op (mo (.mv (.t 4)) 5),
 .grp mg_3o,
 .op (mo (.mv (.t 8)) 2)])
 .ret))
theorem Wq_k (kind_ : Int) {Q : Bool → Prop} {Q' : V → Heap → Prop} (h : Ok (F_k kind_) Q) (hQ : ∀ z, Q z → Q' (.bool z) []) : ACall Tryz.prog 104 [.int .i64 kind_] [] Q' := by
 refine acallM mc_k [] [] [.t 2] Tryz.func104 fun M => ?_
 unfold F_k at h
 unfold mc_k
 replace h := tY h
 refine tB ?_
 repeat' (first
 | (exact tZ)
 | ((first | refine oblg h ?_ | refine roomG h ?_ | refine fork h ?_ ?_ | refine forkS h ?_ ?_) <;> clear h <;> intro hc h)
 | (refine M.gv1 (ms := mg_3o) 8 [6,7] h ?_ ?_ <;> first
 | (clear h; intro K hK1; unfold mg_3o; refine tB ?_)
 | (clear h; intro b h; replace h := tY h; refine tB ?_))
 | (refine hK1 _ ?_; exact tU; done)
 | (refine bfork (fun hc => ?_) (fun hc => ?_))
 | (refine tE ?_; (first | rw [M.lok_compU] | rw [M.lokD_compU]); refine tB ?_)
 | (refine tA ?_))
def W_k {kind_ y} (hy : (F_k kind_) = some y) := acW (Wq_k kind_) hy
def F_2s (k31 : Int) (a32 : Int) (x30 : Unit) : Option (Fl Unit Int) :=
 (F_k a32).bind fun y40 => bif y40 then some (.ex k31) else some (.nx ())
def F_23 (s_ : List Int) : Option Int :=
 (forL F_2s s_ 0 ()).bind fun o => o.elim (fun x41 => some (-1)) (fun r42 => some r42)
@[irreducible] def mc_2s : MC :=
 (.seq (.reg [mo (.bin false .lss (.t 8) (.t 7)) 9])
 (.seq (.cond (.t 9)
 .skip
 (.exit 0))
 (.seq (.block 1
 (.seq (.reg [mo (.mv (.t 8)) 10,
 mo (.mv (.t 10)) 5])
 (.seq (.reg [mo (.mv (.t 1)) 11,
 mo (.mv (.t 0)) 12,
 mo (.mv (.t 5)) 13,
 mo (.iad 1 (.t 12) (.t 13)) 14,
 mo (.ld none (.t 14)) 15,
 mo (.call (.t 11) [(.t 15)] [] []) 16])
 (.cond (.t 16)
 (.seq (.reg [mo (.mv (.t 5)) 17,
 mo (.mv (.t 17)) 4])
 .ret)
 .skip))))
 (.reg [mo (.bin true .add (.t 8) (.c (.int .i64 1))) 18,
 mo (.mv (.t 18)) 8]))))
def mc_23 : MC :=
 (.seq (.reg [mo (.mv (.c (.int .i64 0))) 4])
 (.seq (.seq (.reg [mo (.mv (.t 0)) 6,
 mo (.len false (.t 6)) 7,
 mo (.mv (.c (.int .i64 0))) 8])
 (.block 0
 (.loop mc_2s)))
 (.seq (.reg [mo (.mv (.c (.int .i64 (-1)))) 4])
 .ret)))
theorem Wq_23 (s_ : List Int) {Q : Int → Prop} {Q' : V → Heap → Prop} (h : Ok (F_23 s_) Q) (hQ : ∀ z, Q z → Q' (.int .i64 z) []) : ACall Tryz.prog 118 [.sl (s_.map (V.int .i64)), .fn (.func 104) []] [] Q' := by
 refine acallM mc_23 [] [] [.t 4] Tryz.func118 fun M => ?_
 unfold F_23 at h
 unfold mc_23
 replace h := tY h
 refine tB ?_
 repeat' (first
 | (exact tZ)
 | ((first | refine oblg h ?_ | refine roomG h ?_ | refine fork h ?_ ?_ | refine forkS h ?_ ?_) <;> clear h <;> intro hc h)
 | (obtain ⟨y, hy, h⟩ := h; have hw := W_k hy; replace hw := tY hw; (first | refine M.sC hw ?_ | refine M.sD hw ?_); clear hw hy; refine tB ?_)
 | (refine M.for1 (b := mc_2s) 8 [0,1,7] [] (fun x => []) (fun x => []) [] h ?_ ?_ ?_ <;> first
 | (clear h; intro k a x Qn K hK1 hkN1 ha1 h hf; have hl := fact_int (factsE_find (n := 7) hf.1 rfl); clear hf; have hkd := kD hkN1; have hkB1 := kB hkN1; have hkI1 := kI (k := k) (by omega); unfold F_2s at h; unfold mc_2s; replace h := tY h; refine tK ha1 hkd hkN1 hkB1 hkI1 ?_)
  |(clear h; intro x K h; replace h := And.left (And.intro h trivial); unfold mc_2s; replace h := tY h; refine tB ?_)
  |(clear h; (try refine tB ?_); exact tU0; done))
 | (simp only [ha1])
 | (refine hK1 _ ?_; (try refine tB ?_); refine ⟨_, h, ?_⟩; exact tU0; done)
 | (refine tE ?_; (first | rw [M.lok_compU] | rw [M.lokD_compU]); refine tB ?_)
 | (refine tA ?_))
def W_23 {s_ y} (hy : (F_23 s_) = some y) := acW (Wq_23 s_) hy
def F_1u (s_ : List Int) : Option Bool :=
 (F_23 s_).bind fun y2 => some (decide (0 ≤ y2))
def mc_1u : MC :=
 (.seq (.reg [mo (.mv (.c (.bool false))) 4])
 (.seq (.reg [mo (.mv (.t 0)) 5,
 mo (.mv (.t 1)) 6,
 mo (.call (.f 118) [(.t 5),(.t 6)] [] []) 7,
 mo (.bin false .geq (.t 7) (.c (.int .i64 0))) 8,
 mo (.mv (.t 8)) 4])
 .ret))
theorem Wq_1u (s_ : List Int) {Q : Bool → Prop} {Q' : V → Heap → Prop} (h : Ok (F_1u s_) Q) (hQ : ∀ z, Q z → Q' (.bool z) []) : ACall Tryz.prog 105 [.sl (s_.map (V.int .i64)), .fn (.func 104) []] [] Q' := by
 refine acallM mc_1u [] [] [.t 4] Tryz.func105 fun M => ?_
 unfold F_1u at h
 unfold mc_1u
 replace h := tY h
 refine tB ?_
 repeat' (first
 | (exact tZ)
 | ((first | refine oblg h ?_ | refine roomG h ?_ | refine fork h ?_ ?_ | refine forkS h ?_ ?_) <;> clear h <;> intro hc h)
 | (obtain ⟨y, hy, h⟩ := h; have hw := W_23 hy; replace hw := tY hw; (first | refine M.sC hw ?_ | refine M.sD hw ?_); clear hw hy; refine tB ?_)
 | (refine tE ?_; (first | rw [M.lok_compU] | rw [M.lokD_compU]); refine tB ?_)
 | (refine tA ?_))
def W_1u {s_ y} (hy : (F_1u s_) = some y) := acW (Wq_1u s_) hy
def F_d (d_ : GDirectory) (p_ : Int) : Option Bool :=
 grp ((decide (0 ≤ p_) && decide (p_ < (d_.Kinds.length : Int)))) fun b2 => some b2
@[irreducible] def mg_3p : List MOp := [⟨.mv (.t 1), (some 8), (some (7, true))⟩,
 ⟨.fad 0 (.t 2), (some 9), (some (7, true))⟩,
 ⟨.ld none (.t 9), (some 10), (some (7, true))⟩,
 ⟨.len false (.t 10), (some 11), (some (7, true))⟩,
 ⟨.bin false .lss (.t 8) (.t 11), (some 12), (some (7, true))⟩,
 mo (.pick (.t 7) (.t 12) (.c (.bool false))) 13]
def mc_d : MC :=
 (.seq (.reg [mo (.box (.t 0)) 2,
 mo (.mv (.c (.bool false))) 4])
 (.seq (.regI [.op (mo (.mv (.t 1)) 5),
 .op (mo (.bin false .geq (.t 5) (.c (.int .i64 0))) 6),
 .op (mo (.mv (.t 6)) 7),
 .grp mg_3p,
 .op (mo (.mv (.t 13)) 4)])
 .ret))
theorem Wq_d (d_ : GDirectory) (p_ : Int) {Q : Bool → Prop} {Q' : V → Heap → Prop} (h : Ok (F_d d_ p_) Q) (hQ : ∀ z, Q z → Q' (.bool z) []) : ACall Tryz.prog 101 [GDirectory.v d_, .int .i64 p_] [] Q' := by
 refine acallM mc_d [] [] [.t 4] Tryz.func101 fun M => ?_
 unfold F_d at h
 unfold mc_d
 replace h := tY h
 refine tB ?_
 repeat' (first
 | (exact tZ)
 | ((first | refine oblg h ?_ | refine roomG h ?_ | refine fork h ?_ ?_ | refine forkS h ?_ ?_) <;> clear h <;> intro hc h)
 | (refine M.gv1 (ms := mg_3p) 13 [8,9,10,11,12] h ?_ ?_ <;> first
 | (clear h; intro K hK1; unfold mg_3p; refine tB ?_)
 | (clear h; intro b h; replace h := tY h; refine tB ?_))
 | (refine hK1 _ ?_; exact tU; done)
 | (refine bfork (fun hc => ?_) (fun hc => ?_))
 | (refine tE ?_; (first | rw [M.lok_compU] | rw [M.lokD_compU]); refine tB ?_)
 | (refine tA ?_))
def W_d {d_ p_ y} (hy : (F_d d_ p_) = some y) := acW (Wq_d d_ p_) hy
def F_1a (d_ : GDirectory) (p_ : Int) : Option Bool :=
 (F_d d_ p_).bind fun y3 => jn (α := Bool) (bif y3 then chk (inb p_ d_.Kinds.length) (some (decide ((d_.Kinds.getD (p_).toNat default) = 2))) else some false) fun j4 => some j4
@[irreducible] def mg_3q : List MOp := [⟨.fad 0 (.t 2), (some 9), (some (8, true))⟩,
 ⟨.ld none (.t 9), (some 10), (some (8, true))⟩,
 ⟨.mv (.t 1), (some 11), (some (8, true))⟩,
 ⟨.iad 1 (.t 10) (.t 11), (some 12), (some (8, true))⟩,
 ⟨.ld none (.t 12), (some 13), (some (8, true))⟩,
 ⟨.bin false .eql (.t 13) (.c (.int .i64 2)), (some 14), (some (8, true))⟩,
 mo (.pick (.t 8) (.t 14) (.c (.bool false))) 15]
def mc_1a : MC :=
 (.seq (.reg [mo (.box (.t 0)) 2,
 mo (.mv (.c (.bool false))) 4])
 (.seq (.regI [.op (mo (.ld (some 2) (.t 2)) 5),
 .op (mo (.mv (.t 1)) 6),
 .op (mo (.call (.f 101) [(.t 5),(.t 6)] [] []) 7),
 .op (mo (.mv (.t 7)) 8),
 .grp mg_3q,
 .op (mo (.mv (.t 15)) 4)])
 .ret))
theorem Wq_1a (d_ : GDirectory) (p_ : Int) {Q : Bool → Prop} {Q' : V → Heap → Prop} (h : Ok (F_1a d_ p_) Q) (hQ : ∀ z, Q z → Q' (.bool z) []) : ACall Tryz.prog 106 [GDirectory.v d_, .int .i64 p_] [] Q' := by
 refine acallM mc_1a [] [] [.t 4] Tryz.func106 fun M => ?_
 unfold F_1a at h
 unfold mc_1a
 replace h := tY h
 refine tB ?_
 repeat' (first
 | (exact tZ)
 | ((first | refine oblg h ?_ | refine roomG h ?_ | refine fork h ?_ ?_ | refine forkS h ?_ ?_) <;> clear h <;> intro hc h)
 | (obtain ⟨y, hy, h⟩ := h; have hw := W_d hy; replace hw := tY hw; (first | refine M.sC hw ?_ | refine M.sD hw ?_); clear hw hy; refine tB ?_)
 | (refine M.gj1 (ms := mg_3q) [4] [] (fun y => [(15, .bool y)]) (fun y => []) h ?_ ?_ <;> first
 | (clear h; intro Qn K hK1 h; unfold mg_3q; replace h := tY h; refine tB ?_)
  |(clear h; intro y h; replace h := tY h; refine tB ?_))
 | (refine hK1 _ ?_; (try refine tB ?_); refine ⟨_, h, ?_⟩; exact tU0; done)
 | (refine tE ?_; (first | rw [M.lok_compU] | rw [M.lokD_compU]); refine tB ?_)
 | (refine tA ?_))
def W_1a {d_ p_ y} (hy : (F_1a d_ p_) = some y) := acW (Wq_1a d_ p_) hy
def F_2f (d_ : GDirectory) (k277 : Int) (a278 : GMember) (x276 : Int) : Option (Fl Int Int) :=
 jn (α := Fl Unit Int) (grp (((!decide (a278.Kind = 1)) && (!decide (a278.Kind = 2)))) fun b358 => grp ((b358 || decide (a278.Time < x276))) fun b359 => grp ((b359 || decide (1099511627776 < a278.Time))) fun b360 => bif b360 then grp (true) fun b361 => bif b361 then some (.ex 30) else some (.nx ()) else (F_d d_ a278.Principal).bind fun y362 => bif (!y362) then grp (true) fun b363 => bif b363 then some (.ex 30) else some (.nx ()) else (F_1a d_ a278.Group).bind fun y364 => grp (((!y364) || decide (a278.Principal = a278.Group))) fun b365 => bif b365 then some (.ex 30) else some (.nx ())) fun o => o.elim (fun j349 => some (.nx a278.Time)) (fun r366 => some (.ex r366))
def F_r (d_ : GDirectory) : Option Int :=
 grp ((decide (24 < (d_.Kinds.length : Int)) || decide (120 < (d_.Events.length : Int)))) fun b7 => bif b7 then some 30 else (F_1u d_.Kinds).bind fun y8 => bif y8 then some 30 else (forL (F_2f d_) d_.Events 0 0).bind fun o => o.elim (fun x367 => some 0) (fun r368 => some r368)
@[irreducible] def mg_k : List MOp := [⟨.fad 1 (.t 1), (some 12), (some (11, false))⟩,
 ⟨.ld none (.t 12), (some 13), (some (11, false))⟩,
 ⟨.len false (.t 13), (some 14), (some (11, false))⟩,
 ⟨.bin false .gtr (.t 14) (.c (.int .i64 120)), (some 15), (some (11, false))⟩,
 mo (.pick (.t 11) (.c (.bool true)) (.t 15)) 16]
@[irreducible] def mg_3r : List MOp := [⟨.fad 1 (.t 6), (some 34), (some (33, true))⟩,
 ⟨.ld none (.t 34), (some 35), (some (33, true))⟩,
 ⟨.bin false .neq (.t 35) (.c (.int .i64 2)), (some 36), (some (33, true))⟩,
 mo (.pick (.t 33) (.t 36) (.c (.bool false))) 37]
@[irreducible] def mg_3s : List MOp := [⟨.fad 0 (.t 6), (some 39), (some (38, false))⟩,
 ⟨.ld none (.t 39), (some 40), (some (38, false))⟩,
 ⟨.mv (.t 4), (some 41), (some (38, false))⟩,
 ⟨.bin false .lss (.t 40) (.t 41), (some 42), (some (38, false))⟩,
 mo (.pick (.t 38) (.c (.bool true)) (.t 42)) 43]
@[irreducible] def mg_3t : List MOp := [⟨.fad 0 (.t 6), (some 45), (some (44, false))⟩,
 ⟨.ld none (.t 45), (some 46), (some (44, false))⟩,
 ⟨.bin false .gtr (.t 46) (.c (.int .i64 1099511627776)), (some 47), (some (44, false))⟩,
 mo (.pick (.t 44) (.c (.bool true)) (.t 47)) 48]
@[irreducible] def mg_37 : List MOp := [⟨.fad 2 (.t 6), (some 64), (some (63, false))⟩,
 ⟨.ld none (.t 64), (some 65), (some (63, false))⟩,
 ⟨.fad 3 (.t 6), (some 66), (some (63, false))⟩,
 ⟨.ld none (.t 66), (some 67), (some (63, false))⟩,
 ⟨.bin false .eql (.t 65) (.t 67), (some 68), (some (63, false))⟩,
 mo (.pick (.t 63) (.c (.bool true)) (.t 68)) 69]
@[irreducible] def mc_3u : MC :=
 (.reg [mo (.fad 0 (.t 6)) 70,
 mo (.ld none (.t 70)) 71,
 mo (.mv (.t 71)) 4])
@[irreducible] def mc_2f : MC :=
 (.seq (.reg [mo (.bin false .lss (.t 26) (.t 25)) 27])
 (.seq (.cond (.t 27)
 .skip
 (.exit 0))
 (.seq (.block 1
 (.seq (.reg [mo (.iad 4 (.t 24) (.t 26)) 28,
 mo (.ld (some 4) (.t 28)) 29,
 mo (.alloc [(.int .i64 0),(.int .i64 0),(.int .i64 0),(.int .i64 0)]) 6,
 ⟨.st 4 (.t 6) (.t 29), none, none⟩])
 (.cut (.seq (.regI [.op (mo (.fad 1 (.t 6)) 30),
 .op (mo (.ld none (.t 30)) 31),
 .op (mo (.bin false .neq (.t 31) (.c (.int .i64 1))) 32),
 .op (mo (.mv (.t 32)) 33),
 .grp mg_3r,
 .op (mo (.mv (.t 37)) 38),
 .grp mg_3s,
 .op (mo (.mv (.t 43)) 44),
 .grp mg_3t,
 .op (mo (.mv (.t 48)) 49),
 .op ⟨.ld (some 2) (.t 1), (some 50), (some (49, false))⟩,
 .op ⟨.fad 2 (.t 6), (some 51), (some (49, false))⟩,
 .op ⟨.ld none (.t 51), (some 52), (some (49, false))⟩,
 .op ⟨.call (.f 101) [(.t 50),(.t 52)] [] [], (some 53), (some (49, false))⟩,
 .op ⟨.not (.t 53), (some 54), (some (49, false))⟩,
 .op (mo (.pick (.t 49) (.c (.bool true)) (.t 54)) 55),
 .op (mo (.mv (.t 55)) 56),
 .op ⟨.ld (some 2) (.t 1), (some 57), (some (56, false))⟩,
 .op ⟨.fad 3 (.t 6), (some 58), (some (56, false))⟩,
 .op ⟨.ld none (.t 58), (some 59), (some (56, false))⟩,
 .op ⟨.call (.f 106) [(.t 57),(.t 59)] [] [], (some 60), (some (56, false))⟩,
 .op ⟨.not (.t 60), (some 61), (some (56, false))⟩,
 .op (mo (.pick (.t 56) (.c (.bool true)) (.t 61)) 62),
 .op (mo (.mv (.t 62)) 63),
 .grp mg_37])
 (.cond (.t 69)
 (.seq (.reg [mo (.mv (.c (.int .i64 30))) 2])
 .ret)
 .skip))
 mc_3u)))
 (.reg [mo (.bin true .add (.t 26) (.c (.int .i64 1))) 72,
 mo (.mv (.t 72)) 26]))))
def mc_r : MC :=
 (.seq (.reg [mo (.box (.t 0)) 1,
 mo (.mv (.c (.int .i64 0))) 2])
 (.seq (.reg [mo (.mv (.f 104)) 3])
 (.seq (.seq (.regI [.op (mo (.fad 0 (.t 1)) 7),
 .op (mo (.ld none (.t 7)) 8),
 .op (mo (.len false (.t 8)) 9),
 .op (mo (.bin false .gtr (.t 9) (.c (.int .i64 24))) 10),
 .op (mo (.mv (.t 10)) 11),
 .grp mg_k,
 .op (mo (.mv (.t 16)) 17),
 .op ⟨.fad 0 (.t 1), (some 18), (some (17, false))⟩,
 .op ⟨.ld none (.t 18), (some 19), (some (17, false))⟩,
 .op ⟨.mv (.t 3), (some 20), (some (17, false))⟩,
 .op ⟨.call (.f 105) [(.t 19),(.t 20)] [] [], (some 21), (some (17, false))⟩,
 .op (mo (.pick (.t 17) (.c (.bool true)) (.t 21)) 22)])
 (.cond (.t 22)
 (.seq (.reg [mo (.mv (.c (.int .i64 30))) 2])
 .ret)
 .skip))
 (.seq (.reg [mo (.mv (.c (.int .i64 0))) 4])
 (.seq (.seq (.note (.gc [1,4,34,35,36,39,40,41,42,45,46,47,50,51,52,53,54,57,58,59,60,61,64,65,66,67,68]) (.reg [mo (.fad 1 (.t 1)) 23,
 mo (.ld none (.t 23)) 24,
 mo (.len false (.t 24)) 25,
 mo (.mv (.c (.int .i64 0))) 26]))
 (.block 0
 (.loop mc_2f)))
 (.seq (.reg [mo (.mv (.c (.int .i64 0))) 2])
 .ret))))))
theorem Wq_r (d_ : GDirectory) {Q : Int → Prop} {Q' : V → Heap → Prop} (h : Ok (F_r d_) Q) (hQ : ∀ z, Q z → Q' (.int .i64 z) []) : ACall Tryz.prog 79 [GDirectory.v d_] [] Q' := by
 refine acallM mc_r [] [] [.t 2] Tryz.func79 fun M => ?_
 unfold F_r at h
 unfold mc_r
 replace h := tY h
 refine tB ?_
 repeat' (first
 | (exact tZ)
 | ((first | refine oblg h ?_ | refine roomG h ?_ | refine fork h ?_ ?_ | refine forkS h ?_ ?_) <;> clear h <;> intro hc h)
 | (obtain ⟨y, hy, h⟩ := h; (first | with_reducible first | have hw := W_1u hy | have hw := W_d hy | have hw := W_1a hy); replace hw := tY hw; (first | refine M.sC hw ?_ | refine M.sD hw ?_); clear hw hy; refine tB ?_)
 | (refine M.gv1 (ms := mg_37) 69 [64,65,66,67,68] h ?_ ?_ <;> first
 | (clear h; intro K hK1; unfold mg_37; refine tB ?_)
 | (clear h; intro b h; replace h := tY h; refine tB ?_))
 | (refine M.gv1 (ms := mg_37) 69 [64,65,66,67,68] h ?_ ?_ <;> first
 | (clear h; intro K hK2; unfold mg_37; refine tB ?_)
 | (clear h; intro b h; replace h := tY h; refine tB ?_))
 | (refine M.gv1 (ms := mg_37) 69 [64,65,66,67,68] h ?_ ?_ <;> first
 | (clear h; intro K hK3; unfold mg_37; refine tB ?_)
 | (clear h; intro b h; replace h := tY h; refine tB ?_))
 | (refine M.gv1 (ms := mg_3t) 48 [45,46,47] h ?_ ?_ <;> first
 | (clear h; intro K hK4; unfold mg_3t; refine tB ?_)
 | (clear h; intro b h; replace h := tY h; refine tB ?_))
 | (refine M.gv1 (ms := mg_3s) 43 [39,40,41,42] h ?_ ?_ <;> first
 | (clear h; intro K hK5; unfold mg_3s; refine tB ?_)
 | (clear h; intro b h; replace h := tY h; refine tB ?_))
 | (refine M.gv1 (ms := mg_3r) 37 [34,35,36] h ?_ ?_ <;> first
 | (clear h; intro K hK6; unfold mg_3r; refine tB ?_)
 | (clear h; intro b h; replace h := tY h; refine tB ?_))
 | (refine M.jnE (b := mc_3u) [1,6,24,25,26] [6,1] (fun y => []) (fun y => []) [] h ?_ ?_ <;> first
 | (clear h; intro Qn K hK7 h; replace h := tY h; refine tB ?_)
  |(clear h; intro y h; unfold mc_3u; replace h := tY h; refine tB ?_))
 | (refine M.for1 (b := mc_2f) 26 [1,24,25] [1] (fun x => [(4, .int .i64 x)]) (fun x => []) [] h ?_ ?_ ?_ <;> first
 | (clear h; intro k a x Qn K hK8 hkN8 ha8 h hf; have hl := fact_int (factsE_find (n := 25) hf.1 rfl); clear hf; have hkd := kD hkN8; have hkB8 := kB hkN8; have hkI8 := kI (k := k) (by omega); unfold F_2f at h; unfold mc_2f; replace h := tY h; refine tK ha8 hkd hkN8 hkB8 hkI8 ?_)
  |(clear h; intro x K h; replace h := And.left (And.intro h trivial); unfold mc_2f; replace h := tY h; refine tB ?_)
  |(clear h; (try refine tB ?_); exact tU0; done))
 | (refine M.gv1 (ms := mg_k) 16 [12,13,14,15] h ?_ ?_ <;> first
 | (clear h; intro K hK9; unfold mg_k; refine tB ?_)
 | (clear h; intro b h; replace h := tY h; refine tB ?_))
 | (simp only [ha8])
 | ((first | refine hK1 _ ?_ | refine hK2 _ ?_ | refine hK3 _ ?_ | refine hK4 _ ?_ | refine hK5 _ ?_ | refine hK6 _ ?_ | refine hK9 _ ?_); exact tU; done)
 | ((first | refine hK7 _ ?_ | refine hK8 _ ?_); (try refine tB ?_); refine ⟨_, h, ?_⟩; exact tU0; done)
 | (refine bfork (fun hc => ?_) (fun hc => ?_))
 | (refine tE ?_; (first | rw [M.lok_compU] | rw [M.lokD_compU]); refine tB ?_)
 | (refine tA ?_))
def W_r {d_ y} (hy : (F_r d_) = some y) := acW (Wq_r d_) hy
def F_a (n_ : Int) (low_ : Int) (high_ : Int) : Option Bool :=
 grp ((decide (low_ ≤ n_) && decide (n_ ≤ high_))) fun b2 => some b2
@[irreducible] def mg_3v : List MOp := [⟨.mv (.t 0), (some 11), (some (10, true))⟩,
 ⟨.mv (.t 2), (some 12), (some (10, true))⟩,
 ⟨.bin false .leq (.t 11) (.t 12), (some 13), (some (10, true))⟩,
 mo (.pick (.t 10) (.t 13) (.c (.bool false))) 14]
def mc_a : MC :=
 (.seq (.reg [mo (.mv (.c (.bool false))) 6])
 (.seq (.regI [.op (mo (.mv (.t 0)) 7),
 .op (mo (.mv (.t 1)) 8),
 .op (mo (.bin false .geq (.t 7) (.t 8)) 9),
 .op (mo (.mv (.t 9)) 10),
 .grp mg_3v,
 .op (mo (.mv (.t 14)) 6)])
 .ret))
theorem Wq_a (n_ : Int) (low_ : Int) (high_ : Int) {Q : Bool → Prop} {Q' : V → Heap → Prop} (h : Ok (F_a n_ low_ high_) Q) (hQ : ∀ z, Q z → Q' (.bool z) []) : ACall Tryz.prog 80 [.int .i64 n_, .int .i64 low_, .int .i64 high_] [] Q' := by
 refine acallM mc_a [] [] [.t 6] Tryz.func80 fun M => ?_
 unfold F_a at h
 unfold mc_a
 replace h := tY h
 refine tB ?_
 repeat' (first
 | (exact tZ)
 | ((first | refine oblg h ?_ | refine roomG h ?_ | refine fork h ?_ ?_ | refine forkS h ?_ ?_) <;> clear h <;> intro hc h)
 | (refine M.gv1 (ms := mg_3v) 14 [11,12,13] h ?_ ?_ <;> first
 | (clear h; intro K hK1; unfold mg_3v; refine tB ?_)
 | (clear h; intro b h; replace h := tY h; refine tB ?_))
 | (refine hK1 _ ?_; exact tU; done)
 | (refine bfork (fun hc => ?_) (fun hc => ?_))
 | (refine tE ?_; (first | rw [M.lok_compU] | rw [M.lokD_compU]); refine tB ?_)
 | (refine tA ?_))
def W_a {n_ low_ high_ y} (hy : (F_a n_ low_ high_) = some y) := acW (Wq_a n_ low_ high_) hy
def F_4 (content_ : Int) : Option Bool :=
 (F_a content_ 0 63).bind fun y2 => some y2
def mc_4 : MC :=
 (.seq (.reg [mo (.mv (.c (.bool false))) 2])
 (.seq (.reg [mo (.mv (.t 0)) 3,
 mo (.call (.f 80) [(.t 3),(.c (.int .i64 0)),(.c (.int .i64 63))] [] []) 4,
 mo (.mv (.t 4)) 2])
 .ret))
theorem Wq_4 (content_ : Int) {Q : Bool → Prop} {Q' : V → Heap → Prop} (h : Ok (F_4 content_) Q) (hQ : ∀ z, Q z → Q' (.bool z) []) : ACall Tryz.prog 51 [.int .i64 content_] [] Q' := by
 refine acallM mc_4 [] [] [.t 2] Tryz.func51 fun M => ?_
 unfold F_4 at h
 unfold mc_4
 replace h := tY h
 refine tB ?_
 repeat' (first
 | (exact tZ)
 | ((first | refine oblg h ?_ | refine roomG h ?_ | refine fork h ?_ ?_ | refine forkS h ?_ ?_) <;> clear h <;> intro hc h)
 | (obtain ⟨y, hy, h⟩ := h; have hw := W_a hy; replace hw := tY hw; (first | refine M.sC hw ?_ | refine M.sD hw ?_); clear hw hy; refine tB ?_)
 | (refine tE ?_; (first | rw [M.lok_compU] | rw [M.lokD_compU]); refine tB ?_)
 | (refine tA ?_))
def W_4 {content_ y} (hy : (F_4 content_) = some y) := acW (Wq_4 content_) hy
def F_9 (a_ : GEstate) (place_ : Int) : Option Bool :=
 chk (in64 (a_.Places - 1)) ((F_a place_ 0 (a_.Places - 1)).bind fun y2 => some y2)
def mc_9 : MC :=
 (.seq (.reg [mo (.box (.t 0)) 2,
 mo (.mv (.c (.bool false))) 4])
 (.seq (.reg [mo (.mv (.t 1)) 5,
 mo (.fad 0 (.t 2)) 6,
 mo (.ld none (.t 6)) 7,
 mo (.bin true .sub (.t 7) (.c (.int .i64 1))) 8,
 mo (.call (.f 80) [(.t 5),(.c (.int .i64 0)),(.t 8)] [] []) 9,
 mo (.mv (.t 9)) 4])
 .ret))
theorem Wq_9 (a_ : GEstate) (place_ : Int) {Q : Bool → Prop} {Q' : V → Heap → Prop} (h : Ok (F_9 a_ place_) Q) (hQ : ∀ z, Q z → Q' (.bool z) []) : ACall Tryz.prog 63 [GEstate.v a_, .int .i64 place_] [] Q' := by
 refine acallM mc_9 [] [] [.t 4] Tryz.func63 fun M => ?_
 unfold F_9 at h
 unfold mc_9
 replace h := tY h
 refine tB ?_
 repeat' (first
 | (exact tZ)
 | ((first | refine oblg h ?_ | refine roomG h ?_ | refine fork h ?_ ?_ | refine forkS h ?_ ?_) <;> clear h <;> intro hc h)
 | (obtain ⟨y, hy, h⟩ := h; have hw := W_a hy; replace hw := tY hw; (first | refine M.sC hw ?_ | refine M.sD hw ?_); clear hw hy; refine tB ?_)
 | (refine tE ?_; (first | rw [M.lok_compU] | rw [M.lokD_compU]); refine tB ?_)
 | (refine tA ?_))
def W_9 {a_ place_ y} (hy : (F_9 a_ place_) = some y) := acW (Wq_9 a_ place_) hy
def F_1b (a_ : GEstate) (x_ : GAccess) : Option Bool :=
 jn (α := Bool × GAccess) (jn (α := Bool) (bif decide (x_.Kind = 1) then some true else some (decide (x_.Kind = 2))) fun j7 => bif j7 then (F_a x_.Principal 0 23).bind fun y8 => some (y8, (GAccess.mk x_.Time x_.Kind x_.Place x_.Principal 0 0 0)) else bif decide (x_.Kind = 3) then bif decide (x_.Time < x_.Until) then some (decide (x_.Until ≤ 1099511627776), (GAccess.mk x_.Time x_.Kind x_.Place 0 x_.Until 0 0)) else some (false, (GAccess.mk x_.Time x_.Kind x_.Place 0 x_.Until 0 0)) else bif decide (x_.Kind = 4) then some (true, (GAccess.mk x_.Time x_.Kind x_.Place 0 0 0 0)) else jn (α := Bool) (bif decide (x_.Kind = 5) then some true else some (decide (x_.Kind = 6))) fun j9 => bif j9 then (F_4 x_.Content).bind fun y10 => some (y10, (GAccess.mk x_.Time x_.Kind x_.Place 0 0 x_.Content 0)) else bif decide (x_.Kind = 7) then (F_9 a_ x_.From).bind fun y11 => bif y11 then some ((!decide (x_.From = x_.Place)), (GAccess.mk x_.Time x_.Kind x_.Place 0 0 0 x_.From)) else some (false, (GAccess.mk x_.Time x_.Kind x_.Place 0 0 0 x_.From)) else some (false, (GAccess.mk x_.Time x_.Kind x_.Place 0 0 0 0))) fun j6 => jn (α := Bool) (bif j6.1 then (F_9 a_ x_.Place).bind fun y16 => some y16 else some false) fun j17 => grp ((j17 && (decide (x_.Time = j6.2.Time) && (decide (x_.Kind = j6.2.Kind) && (decide (x_.Place = j6.2.Place) && (decide (x_.Principal = j6.2.Principal) && (decide (x_.Until = j6.2.Until) && (decide (x_.Content = j6.2.Content) && decide (x_.From = j6.2.From))))))))) fun b18 => some b18
@[irreducible] def mc_3w : MC :=
 (.cond (.t 42)
 (.regD [mo (.fad 5 (.t 3)) 45,
 mo (.ld none (.t 45)) 46,
 mo (.fad 5 (.t 3)) 47,
 mo (.ld none (.t 47)) 48,
 mo (.call (.f 51) [(.t 48)] [] []) 49,
 mo (.fad 5 (.t 5)) 50,
 ⟨.st 1 (.t 50) (.t 46), none, none⟩,
 mo (.mv (.t 49)) 6]
 [[],[0],[],[2],[3],[0,1],[5,1,4,0,1],[4,6,0,1,2,3,4,5,6]]
 [[],[0],[],[2],[2,3],[0,1],[0,1,2,3,4,5],[0,1,2,3,4,5,6]])
 (.seq (.reg [mo (.bin false .eql (.t 15) (.c (.int .i64 7))) 52,
 mo (.mv (.t 52)) 51])
 (.cond (.t 51)
 (.regD [mo (.fad 6 (.t 3)) 53,
 mo (.ld none (.t 53)) 54,
 mo (.ld (some 2) (.t 2)) 55,
 mo (.fad 6 (.t 3)) 56,
 mo (.ld none (.t 56)) 57,
 mo (.call (.f 63) [(.t 55),(.t 57)] [] []) 58,
 mo (.mv (.t 58)) 59,
 ⟨.fad 6 (.t 3), (some 60), (some (59, true))⟩,
 ⟨.ld none (.t 60), (some 61), (some (59, true))⟩,
 ⟨.fad 2 (.t 3), (some 62), (some (59, true))⟩,
 ⟨.ld none (.t 62), (some 63), (some (59, true))⟩,
 ⟨.bin false .neq (.t 61) (.t 63), (some 64), (some (59, true))⟩,
 mo (.pick (.t 59) (.t 64) (.c (.bool false))) 65,
 mo (.fad 6 (.t 5)) 66,
 ⟨.st 1 (.t 66) (.t 54), none, none⟩,
 mo (.mv (.t 65)) 6]
 [[],[0],[],[],[3],[2,4],[5,5],[6],[7,6],[6],[9,6],[8,10,6],[6,11],[0,1],[13,1,6,0,1],[12,14,0,1,2,3,4,5,6,7,8,9,10,11,12,13,14]]
 [[],[0],[],[],[3],[2,3,4],[2,3,4,5],[2,3,4,5,6],[2,3,4,5,6,7],[2,3,4,5,6],[2,3,4,5,6,9],[2,3,4,5,6,7,8,9,10],[2,3,4,5,6,7,8,9,10,11],[0,1],[0,1,2,3,4,5,6,13],[0,1,2,3,4,5,6,7,8,9,10,11,12,13,14]])
 .skip)))
@[irreducible] def mc_3x : MC :=
 (.cond (.t 16)
 (.regD [mo (.fad 3 (.t 3)) 19,
 mo (.ld none (.t 19)) 20,
 mo (.fad 3 (.t 3)) 21,
 mo (.ld none (.t 21)) 22,
 mo (.call (.f 80) [(.t 22),(.c (.int .i64 0)),(.c (.int .i64 23))] [] []) 23,
 mo (.fad 3 (.t 5)) 24,
 ⟨.st 1 (.t 24) (.t 20), none, none⟩,
 mo (.mv (.t 23)) 6]
 [[],[0],[],[2],[3],[0,1],[5,1,4,0,1],[4,6,0,1,2,3,4,5,6]]
 [[],[0],[],[2],[2,3],[0,1],[0,1,2,3,4,5],[0,1,2,3,4,5,6]])
 (.seq (.reg [mo (.bin false .eql (.t 15) (.c (.int .i64 3))) 26,
 mo (.mv (.t 26)) 25])
 (.cond (.t 25)
 (.regD [mo (.fad 4 (.t 3)) 27,
 mo (.ld none (.t 27)) 28,
 mo (.fad 4 (.t 3)) 29,
 mo (.ld none (.t 29)) 30,
 mo (.fad 0 (.t 3)) 31,
 mo (.ld none (.t 31)) 32,
 mo (.bin false .gtr (.t 30) (.t 32)) 33,
 mo (.mv (.t 33)) 34,
 ⟨.fad 4 (.t 3), (some 35), (some (34, true))⟩,
 ⟨.ld none (.t 35), (some 36), (some (34, true))⟩,
 ⟨.bin false .leq (.t 36) (.c (.int .i64 1099511627776)), (some 37), (some (34, true))⟩,
 mo (.pick (.t 34) (.t 37) (.c (.bool false))) 38,
 mo (.fad 4 (.t 5)) 39,
 ⟨.st 1 (.t 39) (.t 28), none, none⟩,
 mo (.mv (.t 38)) 6]
 [[],[0],[],[2],[],[4],[3,5],[6],[7],[8,7],[9,7],[7,10],[0,1],[12,1,7,0,1],[11,13,0,1,2,3,4,5,6,7,8,9,10,11,12,13]]
 [[],[0],[],[2],[],[4],[2,3,4,5],[2,3,4,5,6],[2,3,4,5,6,7],[2,3,4,5,6,7,8],[2,3,4,5,6,7,8,9],[2,3,4,5,6,7,8,9,10],[0,1],[0,1,2,3,4,5,6,7,12],[0,1,2,3,4,5,6,7,8,9,10,11,12,13]])
 (.seq (.reg [mo (.bin false .eql (.t 15) (.c (.int .i64 4))) 41,
 mo (.mv (.t 41)) 40])
 (.cond (.t 40)
 (.reg [mo (.mv (.c (.bool true))) 6])
 (.cut (.seq (.reg [mo (.bin false .eql (.t 15) (.c (.int .i64 5))) 43,
 mo (.mv (.t 43)) 42])
 (.cond (.t 42)
 .skip
 (.reg [mo (.bin false .eql (.t 15) (.c (.int .i64 6))) 44,
 mo (.mv (.t 44)) 42])))
 mc_3w))))))
@[irreducible] def mg_3y : List MOp := [⟨.ld (some 2) (.t 2), (some 69), (some (68, true))⟩,
 ⟨.fad 2 (.t 3), (some 70), (some (68, true))⟩,
 ⟨.ld none (.t 70), (some 71), (some (68, true))⟩,
 ⟨.call (.f 63) [(.t 69),(.t 71)] [] [], (some 72), (some (68, true))⟩,
 mo (.pick (.t 68) (.t 72) (.c (.bool false))) 73]
@[irreducible] def mg_3z : List MOp := [⟨.ld (some 7) (.t 3), (some 75), (some (74, true))⟩,
 ⟨.ld (some 7) (.t 5), (some 76), (some (74, true))⟩,
 ⟨.eqs false [0,0,0,0,0,0,0] (.t 75) (.t 76), (some 77), (some (74, true))⟩,
 mo (.pick (.t 74) (.t 77) (.c (.bool false))) 78]
@[irreducible] def mc_40 : MC :=
 (.seq (.regI [.op (mo (.mv (.t 6)) 67),
 .op (mo (.mv (.t 67)) 68),
 .grp mg_3y,
 .op (mo (.mv (.t 73)) 74),
 .grp mg_3z,
 .op (mo (.mv (.t 78)) 4)])
 .ret)
def mc_1b : MC :=
 (.seq (.reg [mo (.box (.t 0)) 2,
 mo (.box (.t 1)) 3,
 mo (.mv (.c (.bool false))) 4])
 (.seq (.reg [mo (.fad 0 (.t 3)) 7,
 mo (.ld none (.t 7)) 8,
 mo (.fad 1 (.t 3)) 9,
 mo (.ld none (.t 9)) 10,
 mo (.fad 2 (.t 3)) 11,
 mo (.ld none (.t 11)) 12,
 mo (.build [(.int .i64 0),(.int .i64 0),(.int .i64 0),(.int .i64 0),(.int .i64 0),(.int .i64 0),(.int .i64 0)] [(0,1,(.t 8)), (1,1,(.t 10)), (2,1,(.t 12))]) 13,
 mo (.alloc [(.int .i64 0),(.int .i64 0),(.int .i64 0),(.int .i64 0),(.int .i64 0),(.int .i64 0),(.int .i64 0)]) 5,
 ⟨.st 7 (.t 5) (.t 13), none, none⟩])
 (.seq (.reg [mo (.mv (.c (.bool false))) 6])
 (.cut (.seq (.reg [mo (.fad 1 (.t 3)) 14,
 mo (.ld none (.t 14)) 15])
 (.block 0
 (.cut (.seq (.reg [mo (.bin false .eql (.t 15) (.c (.int .i64 1))) 17,
 mo (.mv (.t 17)) 16])
 (.cond (.t 16)
 .skip
 (.reg [mo (.bin false .eql (.t 15) (.c (.int .i64 2))) 18,
 mo (.mv (.t 18)) 16])))
 mc_3x)))
 mc_40))))
theorem Wq_1b (a_ : GEstate) (x_ : GAccess) {Q : Bool → Prop} {Q' : V → Heap → Prop} (h : Ok (F_1b a_ x_) Q) (hQ : ∀ z, Q z → Q' (.bool z) []) : ACall Tryz.prog 89 [GEstate.v a_, GAccess.v x_] [] Q' := by
 refine acallM mc_1b [] [] [.t 4] Tryz.func89 fun M => ?_
 unfold F_1b at h
 unfold mc_1b
 replace h := tY h
 refine tB ?_
 repeat' (first
 | (exact tZ)
 | ((first | refine oblg h ?_ | refine roomG h ?_ | refine fork h ?_ ?_ | refine forkS h ?_ ?_) <;> clear h <;> intro hc h)
 | (obtain ⟨y, hy, h⟩ := h; (first | with_reducible first | have hw := W_a hy | have hw := W_4 hy | have hw := W_9 hy); replace hw := tY hw; (first | refine M.sC hw ?_ | refine M.sD hw ?_); clear hw hy; refine tB ?_)
 | (refine M.jn1 (b := mc_3w) [2,3,5,6,15] [5,3,2] (fun y => [(42, .bool y)]) (fun y => []) [] h ?_ ?_ <;> first
 | (clear h; intro Qn K hK1 h; replace h := tY h; refine tB ?_)
  |(clear h; intro y h; unfold mc_3w; replace h := tY h; refine tB ?_))
 | (refine M.jn1 (b := mc_3x) [2,3,5,6,15] [5,3,2] (fun y => [(16, .bool y)]) (fun y => []) [] h ?_ ?_ <;> first
 | (clear h; intro Qn K hK2 h; replace h := tY h; refine tB ?_)
  |(clear h; intro y h; unfold mc_3x; replace h := tY h; refine tB ?_))
 | (refine M.gv1 (ms := mg_3z) 78 [75,76,77] h ?_ ?_ <;> first
 | (clear h; intro K hK3; unfold mg_3z; refine tB ?_)
 | (clear h; intro b h; replace h := tY h; refine tB ?_))
 | (refine M.gj1 (ms := mg_3y) [3,5] [5,3] (fun y => [(73, .bool y)]) (fun y => []) h ?_ ?_ <;> first
 | (clear h; intro Qn K hK4 h; unfold mg_3y; replace h := tY h; refine tB ?_)
  |(clear h; intro y h; replace h := tY h; refine tB ?_))
 | (refine M.jn1 (b := mc_40) [2,3,5] [3,2] (fun y => [(6, .bool y.1)]) (fun y => [.o 5 (.cells [.int .i64 y.2.Time, .int .i64 y.2.Kind, .int .i64 y.2.Place, .int .i64 y.2.Principal, .int .i64 y.2.Until, .int .i64 y.2.Content, .int .i64 y.2.From])]) [] h ?_ ?_ <;> first
 | (clear h; intro Qn K hK5 h; replace h := tY h; refine tB ?_)
  |(clear h; intro y h; unfold mc_40; replace h := tY h; refine tB ?_))
 | ((first | refine hK1 _ ?_ | refine hK2 _ ?_ | refine hK4 _ ?_ | refine hK5 _ ?_); (try refine tB ?_); refine ⟨_, h, ?_⟩; exact tU0; done)
 | (refine hK3 _ ?_; exact tU; done)
 | (refine bfork (fun hc => ?_) (fun hc => ?_))
 | (refine tE ?_; (first | rw [M.lok_compU] | rw [M.lokD_compU]); refine tB ?_)
 | (refine tA ?_))
def W_1b {a_ x_ y} (hy : (F_1b a_ x_) = some y) := acW (Wq_1b a_ x_) hy
def F_2g (a_ : GEstate) (k137 : Int) (a138 : GAccess) (x136 : Int) : Option (Fl Int Int) :=
 grp ((decide (a138.Time < x136) || decide (1099511627776 < a138.Time))) fun b169 => bif b169 then some (.ex 34) else (F_1b a_ a138).bind fun y170 => bif (!y170) then some (.ex 34) else some (.nx a138.Time)
def F_7 (a_ : GEstate) : Option Int :=
 (F_a a_.Places 1 16).bind fun y7 => grp (((!y7) || decide (120 < (a_.Events.length : Int)))) fun b8 => bif b8 then some 34 else (forL (F_2g a_) a_.Events 0 0).bind fun o => o.elim (fun x171 => some 0) (fun r172 => some r172)
@[irreducible] def mg_41 : List MOp := [⟨.fad 1 (.t 1), (some 11), (some (10, false))⟩,
 ⟨.ld none (.t 11), (some 12), (some (10, false))⟩,
 ⟨.len false (.t 12), (some 13), (some (10, false))⟩,
 ⟨.bin false .gtr (.t 13) (.c (.int .i64 120)), (some 14), (some (10, false))⟩,
 mo (.pick (.t 10) (.c (.bool true)) (.t 14)) 15]
@[irreducible] def mg_42 : List MOp := [⟨.fad 0 (.t 5), (some 28), (some (27, false))⟩,
 ⟨.ld none (.t 28), (some 29), (some (27, false))⟩,
 ⟨.bin false .gtr (.t 29) (.c (.int .i64 1099511627776)), (some 30), (some (27, false))⟩,
 mo (.pick (.t 27) (.c (.bool true)) (.t 30)) 31]
@[irreducible] def mc_2g : MC :=
 (.seq (.reg [mo (.bin false .lss (.t 19) (.t 18)) 20])
 (.seq (.cond (.t 20)
 .skip
 (.exit 0))
 (.seq (.block 1
 (.seq (.reg [mo (.iad 7 (.t 17) (.t 19)) 21,
 mo (.ld (some 7) (.t 21)) 22,
 mo (.alloc [(.int .i64 0),(.int .i64 0),(.int .i64 0),(.int .i64 0),(.int .i64 0),(.int .i64 0),(.int .i64 0)]) 5,
 ⟨.st 7 (.t 5) (.t 22), none, none⟩])
 (.seq (.seq (.regI [.op (mo (.fad 0 (.t 5)) 23),
 .op (mo (.ld none (.t 23)) 24),
 .op (mo (.mv (.t 3)) 25),
 .op (mo (.bin false .lss (.t 24) (.t 25)) 26),
 .op (mo (.mv (.t 26)) 27),
 .grp mg_42,
 .op (mo (.mv (.t 31)) 32),
 .op ⟨.ld (some 2) (.t 1), (some 33), (some (32, false))⟩,
 .op ⟨.ld (some 7) (.t 5), (some 34), (some (32, false))⟩,
 .op ⟨.call (.f 89) [(.t 33),(.t 34)] [] [], (some 35), (some (32, false))⟩,
 .op ⟨.not (.t 35), (some 36), (some (32, false))⟩,
 .op (mo (.pick (.t 32) (.c (.bool true)) (.t 36)) 37)])
 (.cond (.t 37)
 (.seq (.reg [mo (.mv (.c (.int .i64 34))) 2])
 .ret)
 .skip))
 (.note (.gc [1,5,17,18,19,28,29,30,33,34,35,36]) (.reg [mo (.fad 0 (.t 5)) 38,
 mo (.ld none (.t 38)) 39,
 mo (.mv (.t 39)) 3])))))
 (.reg [mo (.bin true .add (.t 19) (.c (.int .i64 1))) 40,
 mo (.mv (.t 40)) 19]))))
def mc_7 : MC :=
 (.seq (.reg [mo (.box (.t 0)) 1,
 mo (.mv (.c (.int .i64 0))) 2])
 (.seq (.seq (.regI [.op (mo (.fad 0 (.t 1)) 6),
 .op (mo (.ld none (.t 6)) 7),
 .op (mo (.call (.f 80) [(.t 7),(.c (.int .i64 1)),(.c (.int .i64 16))] [] []) 8),
 .op (mo (.not (.t 8)) 9),
 .op (mo (.mv (.t 9)) 10),
 .grp mg_41])
 (.cond (.t 15)
 (.seq (.reg [mo (.mv (.c (.int .i64 34))) 2])
 .ret)
 .skip))
 (.seq (.reg [mo (.mv (.c (.int .i64 0))) 3])
 (.seq (.seq (.note (.gc [1,3,28,29,30,33,34,35,36]) (.reg [mo (.fad 1 (.t 1)) 16,
 mo (.ld none (.t 16)) 17,
 mo (.len false (.t 17)) 18,
 mo (.mv (.c (.int .i64 0))) 19]))
 (.block 0
 (.loop mc_2g)))
 (.seq (.reg [mo (.mv (.c (.int .i64 0))) 2])
 .ret)))))
theorem Wq_7 (a_ : GEstate) {Q : Int → Prop} {Q' : V → Heap → Prop} (h : Ok (F_7 a_) Q) (hQ : ∀ z, Q z → Q' (.int .i64 z) []) : ACall Tryz.prog 62 [GEstate.v a_] [] Q' := by
 refine acallM mc_7 [] [] [.t 2] Tryz.func62 fun M => ?_
 unfold F_7 at h
 unfold mc_7
 replace h := tY h
 refine tB ?_
 repeat' (first
 | (exact tZ)
 | ((first | refine oblg h ?_ | refine roomG h ?_ | refine fork h ?_ ?_ | refine forkS h ?_ ?_) <;> clear h <;> intro hc h)
 | (obtain ⟨y, hy, h⟩ := h; (first | with_reducible first | have hw := W_a hy | have hw := W_1b hy); replace hw := tY hw; (first | refine M.sC hw ?_ | refine M.sD hw ?_); clear hw hy; refine tB ?_)
 | (refine M.gv1 (ms := mg_42) 31 [28,29,30] h ?_ ?_ <;> first
 | (clear h; intro K hK1; unfold mg_42; refine tB ?_)
 | (clear h; intro b h; replace h := tY h; refine tB ?_))
 | (refine M.for1 (b := mc_2g) 19 [1,17,18] [1] (fun x => [(3, .int .i64 x)]) (fun x => []) [] h ?_ ?_ ?_ <;> first
 | (clear h; intro k a x Qn K hK2 hkN2 ha2 h hf; have hl := fact_int (factsE_find (n := 18) hf.1 rfl); clear hf; have hkd := kD hkN2; have hkB2 := kB hkN2; have hkI2 := kI (k := k) (by omega); unfold F_2g at h; unfold mc_2g; replace h := tY h; refine tK ha2 hkd hkN2 hkB2 hkI2 ?_)
  |(clear h; intro x K h; replace h := And.left (And.intro h trivial); unfold mc_2g; replace h := tY h; refine tB ?_)
  |(clear h; (try refine tB ?_); exact tU0; done))
 | (refine M.gv1 (ms := mg_41) 15 [11,12,13,14] h ?_ ?_ <;> first
 | (clear h; intro K hK3; unfold mg_41; refine tB ?_)
 | (clear h; intro b h; replace h := tY h; refine tB ?_))
 | (simp only [ha2])
 | ((first | refine hK1 _ ?_ | refine hK3 _ ?_); exact tU; done)
 | (refine hK2 _ ?_; (try refine tB ?_); refine ⟨_, h, ?_⟩; exact tU0; done)
 | (refine bfork (fun hc => ?_) (fun hc => ?_))
 | (refine tE ?_; (first | rw [M.lok_compU] | rw [M.lokD_compU]); refine tB ?_)
 | (refine tA ?_))
def W_7 {a_ y} (hy : (F_7 a_) = some y) := acW (Wq_7 a_) hy
def F_s (d_ : GDirectory) (a_ : GEstate) : Option Int :=
 (F_r d_).bind fun y4 => bif (!decide (y4 = 0)) then some y4 else (F_7 a_).bind fun y6 => some y6
def mc_s : MC :=
 (.seq (.reg [mo (.box (.t 0)) 2,
 mo (.box (.t 1)) 3,
 mo (.mv (.c (.int .i64 0))) 4])
 (.seq (.seq (.reg [mo (.ld (some 2) (.t 2)) 6,
 mo (.call (.f 79) [(.t 6)] [] []) 7,
 mo (.mv (.t 7)) 5])
 (.seq (.reg [mo (.mv (.t 5)) 8,
 mo (.bin false .neq (.t 8) (.c (.int .i64 0))) 9])
 (.cond (.t 9)
 (.seq (.reg [mo (.mv (.t 5)) 10,
 mo (.mv (.t 10)) 4])
 .ret)
 .skip)))
 (.seq (.note (.gc [3]) (.reg [mo (.ld (some 2) (.t 3)) 11,
 mo (.call (.f 62) [(.t 11)] [] []) 12,
 mo (.mv (.t 12)) 4]))
 .ret)))
theorem Wq_s (d_ : GDirectory) (a_ : GEstate) {Q : Int → Prop} {Q' : V → Heap → Prop} (h : Ok (F_s d_ a_) Q) (hQ : ∀ z, Q z → Q' (.int .i64 z) []) : ACall Tryz.prog 50 [GDirectory.v d_, GEstate.v a_] [] Q' := by
 refine acallM mc_s [] [] [.t 4] Tryz.func50 fun M => ?_
 unfold F_s at h
 unfold mc_s
 replace h := tY h
 refine tB ?_
 repeat' (first
 | (exact tZ)
 | ((first | refine oblg h ?_ | refine roomG h ?_ | refine fork h ?_ ?_ | refine forkS h ?_ ?_) <;> clear h <;> intro hc h)
 | (obtain ⟨y, hy, h⟩ := h; (first | with_reducible first | have hw := W_r hy | have hw := W_7 hy); replace hw := tY hw; (first | refine M.sC hw ?_ | refine M.sD hw ?_); clear hw hy; refine tB ?_)
 | (refine tE ?_; (first | rw [M.lok_compU] | rw [M.lokD_compU]); refine tB ?_)
 | (refine tA ?_))
def W_s {d_ a_ y} (hy : (F_s d_ a_) = some y) := acW (Wq_s d_ a_) hy
def F_1c (d_ : GDirectory) (p_ : Int) : Option Bool :=
 grp ((decide (0 ≤ p_) && decide (p_ < (d_.Kinds.length : Int)))) fun b3 => jn (α := Bool) (bif b3 then chk (inb p_ d_.Kinds.length) (some (!decide ((d_.Kinds.getD (p_).toNat default) = 2))) else some false) fun j4 => some j4
@[irreducible] def mg_43 : List MOp := [⟨.mv (.t 1), (some 8), (some (7, true))⟩,
 ⟨.fad 0 (.t 2), (some 9), (some (7, true))⟩,
 ⟨.ld none (.t 9), (some 10), (some (7, true))⟩,
 ⟨.len false (.t 10), (some 11), (some (7, true))⟩,
 ⟨.bin false .lss (.t 8) (.t 11), (some 12), (some (7, true))⟩,
 mo (.pick (.t 7) (.t 12) (.c (.bool false))) 13]
@[irreducible] def mg_44 : List MOp := [⟨.fad 0 (.t 2), (some 15), (some (14, true))⟩,
 ⟨.ld none (.t 15), (some 16), (some (14, true))⟩,
 ⟨.mv (.t 1), (some 17), (some (14, true))⟩,
 ⟨.iad 1 (.t 16) (.t 17), (some 18), (some (14, true))⟩,
 ⟨.ld none (.t 18), (some 19), (some (14, true))⟩,
 ⟨.bin false .neq (.t 19) (.c (.int .i64 2)), (some 20), (some (14, true))⟩,
 mo (.pick (.t 14) (.t 20) (.c (.bool false))) 21]
def mc_1c : MC :=
 (.seq (.reg [mo (.box (.t 0)) 2,
 mo (.mv (.c (.bool false))) 4])
 (.seq (.regI [.op (mo (.mv (.t 1)) 5),
 .op (mo (.bin false .geq (.t 5) (.c (.int .i64 0))) 6),
 .op (mo (.mv (.t 6)) 7),
 .grp mg_43,
 .op (mo (.mv (.t 13)) 14),
 .grp mg_44,
 .op (mo (.mv (.t 21)) 4)])
 .ret))
theorem Wq_1c (d_ : GDirectory) (p_ : Int) {Q : Bool → Prop} {Q' : V → Heap → Prop} (h : Ok (F_1c d_ p_) Q) (hQ : ∀ z, Q z → Q' (.bool z) []) : ACall Tryz.prog 100 [GDirectory.v d_, .int .i64 p_] [] Q' := by
 refine acallM mc_1c [] [] [.t 4] Tryz.func100 fun M => ?_
 unfold F_1c at h
 unfold mc_1c
 replace h := tY h
 refine tB ?_
 repeat' (first
 | (exact tZ)
 | ((first | refine oblg h ?_ | refine roomG h ?_ | refine fork h ?_ ?_ | refine forkS h ?_ ?_) <;> clear h <;> intro hc h)
 | (refine M.gj1 (ms := mg_44) [4] [] (fun y => [(21, .bool y)]) (fun y => []) h ?_ ?_ <;> first
 | (clear h; intro Qn K hK1 h; unfold mg_44; replace h := tY h; refine tB ?_)
  |(clear h; intro y h; replace h := tY h; refine tB ?_))
 | (refine M.gv1 (ms := mg_43) 13 [8,9,10,11,12] h ?_ ?_ <;> first
 | (clear h; intro K hK2; unfold mg_43; refine tB ?_)
 | (clear h; intro b h; replace h := tY h; refine tB ?_))
 | (refine hK1 _ ?_; (try refine tB ?_); refine ⟨_, h, ?_⟩; exact tU0; done)
 | (refine hK2 _ ?_; exact tU; done)
 | (refine bfork (fun hc => ?_) (fun hc => ?_))
 | (refine tE ?_; (first | rw [M.lok_compU] | rw [M.lokD_compU]); refine tB ?_)
 | (refine tA ?_))
def W_1c {d_ p_ y} (hy : (F_1c d_ p_) = some y) := acW (Wq_1c d_ p_) hy
def F_1d (d_ : GDirectory) (a_ : GEstate) (p_ : Int) (place_ : Int) : Option Bool :=
 (F_s d_ a_).bind fun y6 => jn (α := Bool) (bif decide (y6 = 0) then (F_1c d_ p_).bind fun y8 => some y8 else some false) fun j9 => jn (α := Bool) (bif j9 then (F_9 a_ place_).bind fun y11 => some y11 else some false) fun j12 => some j12
@[irreducible] def mg_45 : List MOp := [⟨.ld (some 2) (.t 4), (some 14), (some (13, true))⟩,
 ⟨.mv (.t 2), (some 15), (some (13, true))⟩,
 ⟨.call (.f 100) [(.t 14),(.t 15)] [] [], (some 16), (some (13, true))⟩,
 mo (.pick (.t 13) (.t 16) (.c (.bool false))) 17]
@[irreducible] def mg_46 : List MOp := [⟨.ld (some 2) (.t 5), (some 19), (some (18, true))⟩,
 ⟨.mv (.t 3), (some 20), (some (18, true))⟩,
 ⟨.call (.f 63) [(.t 19),(.t 20)] [] [], (some 21), (some (18, true))⟩,
 mo (.pick (.t 18) (.t 21) (.c (.bool false))) 22]
def mc_1d : MC :=
 (.seq (.reg [mo (.box (.t 0)) 4,
 mo (.box (.t 1)) 5,
 mo (.mv (.c (.bool false))) 8])
 (.seq (.regI [.op (mo (.ld (some 2) (.t 4)) 9),
 .op (mo (.ld (some 2) (.t 5)) 10),
 .op (mo (.call (.f 50) [(.t 9),(.t 10)] [] []) 11),
 .op (mo (.bin false .eql (.t 11) (.c (.int .i64 0))) 12),
 .op (mo (.mv (.t 12)) 13),
 .grp mg_45,
 .op (mo (.mv (.t 17)) 18),
 .grp mg_46,
 .op (mo (.mv (.t 22)) 8)])
 .ret))
theorem Wq_1d (d_ : GDirectory) (a_ : GEstate) (p_ : Int) (place_ : Int) {Q : Bool → Prop} {Q' : V → Heap → Prop} (h : Ok (F_1d d_ a_ p_ place_) Q) (hQ : ∀ z, Q z → Q' (.bool z) []) : ACall Tryz.prog 72 [GDirectory.v d_, GEstate.v a_, .int .i64 p_, .int .i64 place_] [] Q' := by
 refine acallM mc_1d [] [] [.t 8] Tryz.func72 fun M => ?_
 unfold F_1d at h
 unfold mc_1d
 replace h := tY h
 refine tB ?_
 repeat' (first
 | (exact tZ)
 | ((first | refine oblg h ?_ | refine roomG h ?_ | refine fork h ?_ ?_ | refine forkS h ?_ ?_) <;> clear h <;> intro hc h)
 | (obtain ⟨y, hy, h⟩ := h; (first | with_reducible first | have hw := W_s hy | have hw := W_1c hy | have hw := W_9 hy); replace hw := tY hw; (first | refine M.sC hw ?_ | refine M.sD hw ?_); clear hw hy; refine tB ?_)
 | (refine M.gj1 (ms := mg_46) [8] [] (fun y => [(22, .bool y)]) (fun y => []) h ?_ ?_ <;> first
 | (clear h; intro Qn K hK1 h; unfold mg_46; replace h := tY h; refine tB ?_)
  |(clear h; intro y h; replace h := tY h; refine tB ?_))
 | (refine M.gj1 (ms := mg_45) [3,5,8] [5] (fun y => [(17, .bool y)]) (fun y => []) h ?_ ?_ <;> first
 | (clear h; intro Qn K hK2 h; unfold mg_45; replace h := tY h; refine tB ?_)
  |(clear h; intro y h; replace h := tY h; refine tB ?_))
 | ((first | refine hK1 _ ?_ | refine hK2 _ ?_); (try refine tB ?_); refine ⟨_, h, ?_⟩; exact tU0; done)
 | (refine tE ?_; (first | rw [M.lok_compU] | rw [M.lokD_compU]); refine tB ?_)
 | (refine tA ?_))
def W_1d {d_ a_ p_ place_ y} (hy : (F_1d d_ a_ p_ place_) = some y) := acW (Wq_1d d_ a_ p_ place_) hy
def F_1 (a_ : GEstate) (place_ : Int) : Option Bool :=
 (F_7 a_).bind fun y4 => jn (α := Bool) (bif decide (y4 = 0) then (F_9 a_ place_).bind fun y6 => some y6 else some false) fun j7 => some j7
@[irreducible] def mg_47 : List MOp := [⟨.ld (some 2) (.t 2), (some 9), (some (8, true))⟩,
 ⟨.mv (.t 1), (some 10), (some (8, true))⟩,
 ⟨.call (.f 63) [(.t 9),(.t 10)] [] [], (some 11), (some (8, true))⟩,
 mo (.pick (.t 8) (.t 11) (.c (.bool false))) 12]
def mc_1 : MC :=
 (.seq (.reg [mo (.box (.t 0)) 2,
 mo (.mv (.c (.bool false))) 4])
 (.seq (.regI [.op (mo (.ld (some 2) (.t 2)) 5),
 .op (mo (.call (.f 62) [(.t 5)] [] []) 6),
 .op (mo (.bin false .eql (.t 6) (.c (.int .i64 0))) 7),
 .op (mo (.mv (.t 7)) 8),
 .grp mg_47,
 .op (mo (.mv (.t 12)) 4)])
 .ret))
theorem Wq_1 (a_ : GEstate) (place_ : Int) {Q : Bool → Prop} {Q' : V → Heap → Prop} (h : Ok (F_1 a_ place_) Q) (hQ : ∀ z, Q z → Q' (.bool z) []) : ACall Tryz.prog 68 [GEstate.v a_, .int .i64 place_] [] Q' := by
 refine acallM mc_1 [] [] [.t 4] Tryz.func68 fun M => ?_
 unfold F_1 at h
 unfold mc_1
 replace h := tY h
 refine tB ?_
 repeat' (first
 | (exact tZ)
 | ((first | refine oblg h ?_ | refine roomG h ?_ | refine fork h ?_ ?_ | refine forkS h ?_ ?_) <;> clear h <;> intro hc h)
 | (obtain ⟨y, hy, h⟩ := h; (first | with_reducible first | have hw := W_7 hy | have hw := W_9 hy); replace hw := tY hw; (first | refine M.sC hw ?_ | refine M.sD hw ?_); clear hw hy; refine tB ?_)
 | (refine M.gj1 (ms := mg_47) [4] [] (fun y => [(12, .bool y)]) (fun y => []) h ?_ ?_ <;> first
 | (clear h; intro Qn K hK1 h; unfold mg_47; replace h := tY h; refine tB ?_)
  |(clear h; intro y h; replace h := tY h; refine tB ?_))
 | (refine hK1 _ ?_; (try refine tB ?_); refine ⟨_, h, ?_⟩; exact tU0; done)
 | (refine tE ?_; (first | rw [M.lok_compU] | rw [M.lokD_compU]); refine tB ?_)
 | (refine tA ?_))
def W_1 {a_ place_ y} (hy : (F_1 a_ place_) = some y) := acW (Wq_1 a_ place_) hy
def F_3n (place_ : Int) (t_ : Int) (k24 : Int) (a19 : Int × GAccess) (x18 : Unit) : Option (Fl Unit (Int × Bool)) :=
 grp ((decide (t_ < a19.2.Time) || (!decide (a19.2.Place = place_)))) fun b26 => bif b26 then some (.nx ()) else bif decide (a19.2.Kind = 4) then some (.ex (0, false)) else grp ((decide (a19.2.Kind = 3) && decide (t_ < a19.2.Until))) fun b28 => bif b28 then some (.ex (a19.1, true)) else some (.nx ())
def F_6 (a_ : GEstate) (place_ : Int) (t_ : Int) : Option (Int × Bool) :=
 (F_1 a_ place_).bind fun y4 => bif (!y4) then some (0, false) else (backF a_.Events).bind fun y17 => (forL (F_3n place_ t_) (revp a_.Events) 0 ()).bind fun o => o.elim (fun x29 => some (0, false)) (fun r30 => some r30)
@[irreducible] def mg_48 : List MOp := [⟨.fad 2 (.t 9), (some 25), (some (24, false))⟩,
 ⟨.ld none (.t 25), (some 26), (some (24, false))⟩,
 ⟨.ld none (.t 4), (some 27), (some (24, false))⟩,
 ⟨.bin false .neq (.t 26) (.t 27), (some 28), (some (24, false))⟩,
 mo (.pick (.t 24) (.c (.bool true)) (.t 28)) 29]
@[irreducible] def mg_49 : List MOp := [⟨.fad 4 (.t 9), (some 39), (some (38, true))⟩,
 ⟨.ld none (.t 39), (some 40), (some (38, true))⟩,
 ⟨.ld none (.t 5), (some 41), (some (38, true))⟩,
 ⟨.bin false .gtr (.t 40) (.t 41), (some 42), (some (38, true))⟩,
 mo (.pick (.t 38) (.t 42) (.c (.bool false))) 43]
@[irreducible] def mc_4a : MC :=
 (.block 1
 (.block 2
 (.seq (.note (.gc [4,5,6,7,8,9,25,26,27,28,39,40,41,42]) (.regI [.op (mo (.fad 0 (.t 9)) 20),
 .op (mo (.ld none (.t 20)) 21),
 .op (mo (.ld none (.t 5)) 22),
 .op (mo (.bin false .gtr (.t 21) (.t 22)) 23),
 .op (mo (.mv (.t 23)) 24),
 .grp mg_48,
 .op (mo (.mv (.t 29)) 19)]))
 (.cond (.t 19)
 .skip
 (.seq (.note (.gc [5,6,7,8,9,39,40,41,42]) (.reg [mo (.fad 1 (.t 9)) 31,
 mo (.ld none (.t 31)) 32,
 mo (.bin false .eql (.t 32) (.c (.int .i64 4))) 33,
 mo (.mv (.t 33)) 30]))
 (.cond (.t 30)
 (.seq (.reg [⟨.st 1 (.t 6) (.c (.int .i64 0)), none, none⟩,
 ⟨.st 1 (.t 7) (.c (.bool false)), none, none⟩])
 .ret)
 (.seq (.regI [.op (mo (.fad 1 (.t 9)) 35),
 .op (mo (.ld none (.t 35)) 36),
 .op (mo (.bin false .eql (.t 36) (.c (.int .i64 3))) 37),
 .op (mo (.mv (.t 37)) 38),
 .grp mg_49,
 .op (mo (.mv (.t 43)) 34)])
 (.cond (.t 34)
 (.seq (.note (.gc [6,7,8]) (.reg [mo (.mv (.t 8)) 44,
 ⟨.st 1 (.t 6) (.t 44), none, none⟩,
 ⟨.st 1 (.t 7) (.c (.bool true)), none, none⟩]))
 .ret)
 .skip))))))))
def mc_6 : MC :=
 (.seq (.reg [mo (.box (.t 0)) 3,
 mo (.box (.t 1)) 4,
 mo (.box (.t 2)) 5,
 mo (.alloc [(.int .i64 0)]) 6,
 mo (.alloc [(.bool false)]) 7])
 (.seq (.seq (.reg [mo (.ld (some 2) (.t 3)) 10,
 mo (.ld none (.t 4)) 11,
 mo (.call (.f 68) [(.t 10),(.t 11)] [] []) 12,
 mo (.not (.t 12)) 13])
 (.cond (.t 13)
 (.seq (.reg [⟨.st 1 (.t 6) (.c (.int .i64 0)), none, none⟩,
 ⟨.st 1 (.t 7) (.c (.bool false)), none, none⟩])
 .ret)
 .skip))
 (.seq (.seq (.reg [mo (.fad 1 (.t 3)) 14,
 mo (.ld none (.t 14)) 15,
 mo (.call (.f 69) [(.t 15)] [] []) 16])
 (.block 0
 (.rngF (.t 16) [17,18] (.seq (.reg [mo (.mv (.t 17)) 8])
 (.reg [mo (.alloc [(.int .i64 0),(.int .i64 0),(.int .i64 0),(.int .i64 0),(.int .i64 0),(.int .i64 0),(.int .i64 0)]) 9,
 ⟨.st 7 (.t 9) (.t 18), none, none⟩])) mc_4a)))
 (.seq (.reg [⟨.st 1 (.t 6) (.c (.int .i64 0)), none, none⟩,
 ⟨.st 1 (.t 7) (.c (.bool false)), none, none⟩])
 .ret))))
theorem Wq_6 (a_ : GEstate) (place_ : Int) (t_ : Int) {Q : Int × Bool → Prop} {Q' : V → Heap → Prop} (h : Ok (F_6 a_ place_ t_) Q) (hQ : ∀ z, Q z → Q' (.tup [.int .i64 z.1, .bool z.2]) []) : ACall Tryz.prog 43 [GEstate.v a_, .int .i64 place_, .int .i64 t_] [] Q' := by
 refine acallM mc_6 [] [] [.c 6 none, .c 7 none] Tryz.func43 fun M => ?_
 unfold F_6 at h
 unfold mc_6
 replace h := tY h
 refine tB ?_
 repeat' (first
 | (exact tZ)
 | ((first | refine oblg h ?_ | refine roomG h ?_ | refine fork h ?_ ?_ | refine forkS h ?_ ?_) <;> clear h <;> intro hc h)
 | (obtain ⟨y, hy, h⟩ := h; (first | (with_reducible first | have hw := W_1 hy) | have hw := W_6n (f := GAccess.v) hy); replace hw := tY hw; (first | refine M.sC hw ?_ | refine M.sD hw ?_); clear hw hy; refine tB ?_)
 | (refine M.gv1 (ms := mg_49) 43 [39,40,41,42] h ?_ ?_ <;> first
 | (clear h; intro K hK1; unfold mg_49; refine tB ?_)
 | (clear h; intro b h; replace h := tY h; refine tB ?_))
 | (refine M.gv1 (ms := mg_48) 29 [25,26,27,28] h ?_ ?_ <;> first
 | (clear h; intro K hK2; unfold mg_48; refine tB ?_)
 | (clear h; intro b h; replace h := tY h; refine tB ?_))
 | (refine M.rfor (b := mc_4a) (enc := fun a => [.int .i64 a.1, GAccess.v a.2]) [3,4,5,6,7] [3,7,6,5,4] (fun x => []) [] h rfl (W_6o fun a => ⟨_, rfl, rfl, rfl⟩) rfl (fun a => ⟨rfl, rfl⟩) ?_ ?_ rfl ?_ <;> first
 | (clear h; intro k a x Qn K hK3 hkN3 h hf; clear hf; unfold F_3n at h; unfold mc_4a; replace h := tY h; refine tB ?_)
  |(clear h; intro x h; replace h := tY h; refine tB ?_)
  |(clear h; (try refine tB ?_); exact tU0; done))
 | ((first | refine hK1 _ ?_ | refine hK2 _ ?_); exact tU; done)
 | (refine hK3 _ ?_; (try refine tB ?_); refine ⟨_, h, ?_⟩; exact tU0; done)
 | (refine bfork (fun hc => ?_) (fun hc => ?_))
 | (refine tE ?_; (first | rw [M.lok_compU] | rw [M.lokD_compU]); refine tB ?_)
 | (refine tA ?_))
def W_6 {a_ place_ t_ y} (hy : (F_6 a_ place_ t_) = some y) := acW (Wq_6 a_ place_ t_) hy
def F_1e (d_ : GDirectory) (p_ : Int) : Option Bool :=
 (F_r d_).bind fun y4 => jn (α := Bool) (bif decide (y4 = 0) then (F_d d_ p_).bind fun y6 => some y6 else some false) fun j7 => some j7
@[irreducible] def mg_4b : List MOp := [⟨.ld (some 2) (.t 2), (some 9), (some (8, true))⟩,
 ⟨.mv (.t 1), (some 10), (some (8, true))⟩,
 ⟨.call (.f 101) [(.t 9),(.t 10)] [] [], (some 11), (some (8, true))⟩,
 mo (.pick (.t 8) (.t 11) (.c (.bool false))) 12]
def mc_1e : MC :=
 (.seq (.reg [mo (.box (.t 0)) 2,
 mo (.mv (.c (.bool false))) 4])
 (.seq (.regI [.op (mo (.ld (some 2) (.t 2)) 5),
 .op (mo (.call (.f 79) [(.t 5)] [] []) 6),
 .op (mo (.bin false .eql (.t 6) (.c (.int .i64 0))) 7),
 .op (mo (.mv (.t 7)) 8),
 .grp mg_4b,
 .op (mo (.mv (.t 12)) 4)])
 .ret))
theorem Wq_1e (d_ : GDirectory) (p_ : Int) {Q : Bool → Prop} {Q' : V → Heap → Prop} (h : Ok (F_1e d_ p_) Q) (hQ : ∀ z, Q z → Q' (.bool z) []) : ACall Tryz.prog 110 [GDirectory.v d_, .int .i64 p_] [] Q' := by
 refine acallM mc_1e [] [] [.t 4] Tryz.func110 fun M => ?_
 unfold F_1e at h
 unfold mc_1e
 replace h := tY h
 refine tB ?_
 repeat' (first
 | (exact tZ)
 | ((first | refine oblg h ?_ | refine roomG h ?_ | refine fork h ?_ ?_ | refine forkS h ?_ ?_) <;> clear h <;> intro hc h)
 | (obtain ⟨y, hy, h⟩ := h; (first | with_reducible first | have hw := W_r hy | have hw := W_d hy); replace hw := tY hw; (first | refine M.sC hw ?_ | refine M.sD hw ?_); clear hw hy; refine tB ?_)
 | (refine M.gj1 (ms := mg_4b) [4] [] (fun y => [(12, .bool y)]) (fun y => []) h ?_ ?_ <;> first
 | (clear h; intro Qn K hK1 h; unfold mg_4b; replace h := tY h; refine tB ?_)
  |(clear h; intro y h; replace h := tY h; refine tB ?_))
 | (refine hK1 _ ?_; (try refine tB ?_); refine ⟨_, h, ?_⟩; exact tU0; done)
 | (refine tE ?_; (first | rw [M.lok_compU] | rw [M.lokD_compU]); refine tB ?_)
 | (refine tA ?_))
def W_1e {d_ p_ y} (hy : (F_1e d_ p_) = some y) := acW (Wq_1e d_ p_) hy
noncomputable def F_2h (k351 : Int) (a352 : Bool) (x350 : (List Int) × (List Bool)) : Option ((List Int) × (List Bool)) :=
 jn (α := Bool) (bif a352 then chk (inb k351 x350.2.length) (some (!(x350.2.getD ((k351).toNat) default))) else some false) fun j360 => bif j360 then chk (room (x350.1.length + [k351].length) 8) (chk (inb k351 x350.2.length) (some ((x350.1 ++ [k351]), x350.2.set ((k351).toNat) true))) else some (x350.1, x350.2)
noncomputable def F_38 (x_ : List (List Bool)) (x257 : (List Int) × (List Bool)) : Option (Fl ((List Int) × (List Bool)) (List Bool)) :=
 bif decide (0 < (x257.1.length : Int)) then chk (inb 0 x257.1.length) (chk (inb (x257.1.getD 0 default) x_.length) ((foldL F_2h (x_.getD (x257.1.getD 0 default).toNat default) 0 (x257.1, x257.2)).bind fun x361 => chk (inc 1 (x361.1.length : Int) x361.1.length) (some (.nx ((x361.1.drop 1).take (x361.1.length - 1), x361.2))))) else some (.ex x257.2)
noncomputable def F_1f (x_ : List (List Bool)) (p_ : Int) : Option (List Bool) :=
 chk (roomI (x_.length : Int) (x_.length : Int) 1) (chk (inb p_ (List.replicate ((x_.length : Int)).toNat false).length) ((loop (F_38 x_) ([p_], (List.replicate ((x_.length : Int)).toNat false).set ((p_).toNat) true)).bind fun r362 => some r362))
@[irreducible] def mg_4c : List MOp := [⟨.mv (.t 5), (some 36), (some (35, true))⟩,
 ⟨.mv (.t 7), (some 37), (some (35, true))⟩,
 ⟨.iad 1 (.t 36) (.t 37), (some 38), (some (35, true))⟩,
 ⟨.ld none (.t 38), (some 39), (some (35, true))⟩,
 ⟨.not (.t 39), (some 40), (some (35, true))⟩,
 mo (.pick (.t 35) (.t 40) (.c (.bool false))) 41]
@[irreducible] def mc_2h : MC :=
 (.seq (.reg [mo (.bin false .lss (.t 29) (.t 28)) 30])
 (.seq (.cond (.t 30)
 .skip
 (.exit 2))
 (.seq (.block 3
 (.seq (.reg [mo (.mv (.t 29)) 31,
 mo (.iad 1 (.t 27) (.t 29)) 32,
 mo (.ld none (.t 32)) 33,
 mo (.mv (.t 31)) 7,
 mo (.mv (.t 33)) 8])
 (.seq (.regI [.op (mo (.mv (.t 8)) 34),
 .op (mo (.mv (.t 34)) 35),
 .grp mg_4c])
 (.cond (.t 41)
 (.reg [mo (.mv (.t 5)) 42,
 mo (.mv (.t 7)) 43,
 mo (.mv (.t 6)) 44,
 mo (.mv (.t 7)) 45,
 mo (.bslice 1 [(.t 45)]) 46,
 mo (.app 1 8 (.t 44) (.t 46)) 47,
 mo (.iad 1 (.t 42) (.t 43)) 48,
 ⟨.st 1 (.t 48) (.c (.bool true)), none, none⟩,
 mo (.mv (.t 47)) 6])
 .skip))))
 (.reg [mo (.bin true .add (.t 29) (.c (.int .i64 1))) 49,
 mo (.mv (.t 49)) 29]))))
@[irreducible] def mc_38 : MC :=
 (.seq (.seq (.reg [mo (.mv (.t 6)) 17,
 mo (.len false (.t 17)) 18,
 mo (.bin false .gtr (.t 18) (.c (.int .i64 0))) 19])
 (.cond (.t 19)
 .skip
 (.exit 0)))
 (.seq (.block 1
 (.seq (.reg [mo (.mv (.t 0)) 22,
 mo (.mv (.t 6)) 23,
 mo (.iad 1 (.t 23) (.c (.int .i64 0))) 24,
 mo (.ld none (.t 24)) 25,
 mo (.iad 1 (.t 22) (.t 25)) 26,
 mo (.ld none (.t 26)) 27,
 mo (.len false (.t 27)) 28,
 mo (.mv (.c (.int .i64 0))) 29])
 (.block 2
 (.loop mc_2h))))
 (.reg [mo (.mv (.t 6)) 20,
 mo (.slc 1 (.t 20) (some (.c (.int .i64 1))) none) 21,
 mo (.mv (.t 21)) 6])))
def mc_1f : MC :=
 (.seq (.reg [mo (.mv (.c (.sl []))) 4])
 (.seq (.reg [mo (.mv (.t 0)) 9,
 mo (.len false (.t 9)) 10,
 mo (.mksl 1 1 (.bool false) (.t 10) (.t 10)) 11,
 mo (.mv (.t 11)) 5])
 (.seq (.reg [mo (.mv (.t 5)) 12,
 mo (.mv (.t 1)) 13,
 mo (.iad 1 (.t 12) (.t 13)) 14,
 ⟨.st 1 (.t 14) (.c (.bool true)), none, none⟩])
 (.seq (.seq (.reg [mo (.mv (.t 1)) 15,
 mo (.bslice 1 [(.t 15)]) 16,
 mo (.mv (.t 16)) 6])
 (.block 0
 (.loop mc_38)))
 (.seq (.reg [mo (.mv (.t 5)) 50,
 mo (.mv (.t 50)) 4])
 .ret)))))
theorem Wq_1f (x_ : List (List Bool)) (p_ : Int) {Q : List Bool → Prop} {Q' : V → Heap → Prop} (h : Ok (F_1f x_ p_) Q) (hQ : ∀ z, Q z → Q' (.sl (z.map V.bool)) []) : ACall Tryz.prog 112 [.sl (x_.map (slV V.bool)), .int .i64 p_] [] Q' := by
 refine acallM mc_1f [.fz 4] [] [.t 4] Tryz.func112 fun M => ?_
 unfold F_1f at h
 unfold mc_1f
 replace h := tY h
 refine tB ?_
 repeat' (first
 | (exact tZ)
 | ((first | refine oblg h ?_ | refine roomG h ?_ | refine fork h ?_ ?_ | refine forkS h ?_ ?_) <;> clear h <;> intro hc h)
 | (refine M.gj1 (ms := mg_4c) [0,5,6,7,27,28,29] [2006,11] (fun y => [(41, .bool y)]) (fun y => []) h ?_ ?_ <;> first
 | (clear h; intro Qn K hK1 h; unfold mg_4c; replace h := tY h; refine tB ?_)
  |(clear h; intro y h; replace h := tY h; refine tB ?_))
 | (refine M.fold1 (b := mc_2h) 29 [0,27,28] [] (fun x => [(5, .osl 11 1 0 x.2.length), (6, .osl 2006 1 0 x.1.length)]) (fun x => [.o 2006 (.arr 1 (x.1.map (V.int .i64))), .o 11 (.arr 1 (x.2.map V.bool))]) [.gc [0,5,6,27,28,29], .acc 6 2006 1] h ?_ ?_ ?_ <;> first
 | (clear h; intro k a x Qn K hK2 hkN2 ha2 h hf; have hl := fact_int (factsE_find (n := 28) hf.1 rfl); clear hf; have hkd := kD hkN2; have hkB2 := kB hkN2; have hkI2 := kI (k := k) (by omega); unfold F_2h at h; unfold mc_2h; replace h := tY h; refine tK ha2 hkd hkN2 hkB2 hkI2 ?_)
  |(clear h; intro x K h; replace h := And.left (And.intro h trivial); unfold mc_2h; replace h := tY h; refine tB ?_)
  |(clear h; (try refine tB ?_); exact tU0; done))
 | (refine M.wh1 (b := mc_38) [0] [] (fun x => [(5, .osl 11 1 0 x.2.length), (6, .osl 2006 1 0 x.1.length)]) (fun x => [.o 2006 (.arr 1 (x.1.map (V.int .i64))), .o 11 (.arr 1 (x.2.map V.bool))]) [.gc [0,5,6], .trim 6, .acc 6 2006 1] h ?_ ?_ <;> first
 | (clear h; intro x Qn K hK3 h; unfold F_38 at h; unfold mc_38; replace h := tY h; refine tB ?_)
  |(clear h; (try refine tB ?_); exact tU0; done))
 | (simp only [ha2])
 | ((first | refine hK1 _ ?_ | refine hK2 _ ?_ | refine hK3 _ ?_); (try refine tB ?_); refine ⟨_, h, ?_⟩; exact tU0; done)
 | (refine tE ?_; (first | rw [M.lok_compU] | rw [M.lokD_compU]); refine tB ?_)
 | (refine ⟨_, getE_mapset (by first | exact inb_toNat (by assumption) | exact inb_nat (by assumption)), ?_⟩; (first | rw [M.lok_compU] | rw [M.lokD_compU] | (simp only [V.cells]; first | rw [M.lok_comp] | rw [M.lokD_comp])); refine tB ?_)
 | (refine tA ?_))
def W_1f {x_ p_ y} (hy : (F_1f x_ p_) = some y) := acW (Wq_1f x_ p_) hy
def F_2i (k16 : Int) (a17 : Bool) (x15 : List Int) : Option (List Int) :=
 bif a17 then chk (room (x15.length + [k16].length) 8) (some (x15 ++ [k16])) else some x15
def F_14 (l_ : List Bool) : Option (List Int) :=
 (foldL F_2i l_ 0 []).bind fun x18 => some x18
@[irreducible] def mc_2i : MC :=
 (.seq (.reg [mo (.bin false .lss (.t 8) (.t 7)) 9])
 (.seq (.cond (.t 9)
 .skip
 (.exit 0))
 (.seq (.block 1
 (.seq (.reg [mo (.mv (.t 8)) 10,
 mo (.iad 1 (.t 6) (.t 8)) 11,
 mo (.ld none (.t 11)) 12,
 mo (.mv (.t 10)) 4,
 mo (.mv (.t 12)) 5])
 (.seq (.reg [mo (.mv (.t 5)) 13])
 (.cond (.t 13)
 (.reg [mo (.mv (.t 3)) 14,
 mo (.mv (.t 4)) 15,
 mo (.bslice 1 [(.t 15)]) 16,
 mo (.app 1 8 (.t 14) (.t 16)) 17,
 mo (.mv (.t 17)) 3])
 .skip))))
 (.reg [mo (.bin true .add (.t 8) (.c (.int .i64 1))) 18,
 mo (.mv (.t 18)) 8]))))
def mc_14 : MC :=
 (.seq (.reg [mo (.mv (.c .nils)) 2])
 (.seq (.reg [mo (.mv (.c .nils)) 3])
 (.seq (.seq (.reg [mo (.mv (.t 0)) 6,
 mo (.len false (.t 6)) 7,
 mo (.mv (.c (.int .i64 0))) 8])
 (.block 0
 (.loop mc_2i)))
 (.seq (.reg [mo (.mv (.t 3)) 19,
 mo (.mv (.t 19)) 2])
 .ret))))
theorem Wq_14 (l_ : List Bool) {Q : List Int → Prop} {Q' : V → Heap → Prop} (h : Ok (F_14 l_) Q) (hQ : ∀ z, Q z → Q' (.osl 1900 1 0 z.length) [(1900, .arr 1 (z.map (V.int .i64)))]) : ACall Tryz.prog 111 [.sl (l_.map V.bool)] [] Q' := by
 refine acallM mc_14 [.acc 2 1900 1] [1900] [.t 2] Tryz.func111 fun M => ?_
 unfold F_14 at h
 unfold mc_14
 replace h := tY h
 refine tB ?_
 repeat' (first
 | (exact tZ)
 | ((first | refine oblg h ?_ | refine roomG h ?_ | refine fork h ?_ ?_ | refine forkS h ?_ ?_) <;> clear h <;> intro hc h)
 | (refine M.fold1 (b := mc_2i) 8 [6,7] [] (fun x => [(3, .osl 2003 1 0 x.length)]) (fun x => [.o 2003 (.arr 1 (x.map (V.int .i64)))]) [.gc [3,6,7,8], .acc 3 2003 1] h ?_ ?_ ?_ <;> first
 | (clear h; intro k a x Qn K hK1 hkN1 ha1 h hf; have hl := fact_int (factsE_find (n := 7) hf.1 rfl); clear hf; have hkd := kD hkN1; have hkB1 := kB hkN1; have hkI1 := kI (k := k) (by omega); unfold F_2i at h; unfold mc_2i; replace h := tY h; refine tK ha1 hkd hkN1 hkB1 hkI1 ?_)
  |(clear h; intro x K h; replace h := And.left (And.intro h trivial); unfold mc_2i; replace h := tY h; refine tB ?_)
  |(clear h; (try refine tB ?_); exact tU0; done))
 | (simp only [ha1])
 | (refine hK1 _ ?_; (try refine tB ?_); refine ⟨_, h, ?_⟩; exact tU0; done)
 | (refine tE ?_; (first | rw [M.lok_compU] | rw [M.lokD_compU]); refine tB ?_)
 | (refine tA ?_))
def W_14 {l_ y} (hy : (F_14 l_) = some y) := acW (Wq_14 l_) hy
noncomputable def F_l (d_ : GDirectory) (p_ : Int) (t_ : Int) : Option (List Int) :=
 (F_1e d_ p_).bind fun y4 => bif (!y4) then some [] else (atF d_.Kinds.length (d_.Events.map fun e => (e.Time, e.Kind, e.Principal, e.Group)) t_).bind fun y8 => (F_1f y8 p_).bind fun y9 => (F_14 y9).bind fun y10 => some y10
def mc_l : MC :=
 (.seq (.reg [mo (.box (.t 0)) 3,
 mo (.mv (.c .nils)) 6])
 (.seq (.seq (.reg [mo (.ld (some 2) (.t 3)) 7,
 mo (.mv (.t 1)) 8,
 mo (.call (.f 110) [(.t 7),(.t 8)] [] []) 9,
 mo (.not (.t 9)) 10])
 (.cond (.t 10)
 (.seq (.reg [mo (.mv (.c .nils)) 6])
 .ret)
 .skip))
 (.seq (.reg [mo (.ld (some 2) (.t 3)) 11,
 mo (.mv (.t 2)) 12,
 mo (.call (.f 95) [(.t 11),(.t 12)] [] []) 13,
 mo (.mv (.t 1)) 14,
 mo (.call (.f 112) [(.t 13),(.t 14)] [] []) 15,
 mo (.call (.f 111) [(.t 15)] [] [16]) 16,
 mo (.mv (.t 16)) 6])
 .ret)))
theorem Wq_l (d_ : GDirectory) (p_ : Int) (t_ : Int) {Q : List Int → Prop} {Q' : V → Heap → Prop} (h : Ok (F_l d_ p_ t_) Q) (hQ : ∀ z, Q z → Q' (.osl 1900 1 0 z.length) [(1900, .arr 1 (z.map (V.int .i64)))]) : ACall Tryz.prog 90 [GDirectory.v d_, .int .i64 p_, .int .i64 t_] [] Q' := by
 refine acallM mc_l [.acc 6 1900 1] [1900] [.t 6] Tryz.func90 fun M => ?_
 unfold F_l at h
 unfold mc_l
 replace h := tY h
 refine tB ?_
 repeat' (first
 | (exact tZ)
 | ((first | refine oblg h ?_ | refine roomG h ?_ | refine fork h ?_ ?_ | refine forkS h ?_ ?_) <;> clear h <;> intro hc h)
 | (obtain ⟨y, hy, h⟩ := h; (first | (with_reducible first | have hw := W_1e hy | have hw := W_1f hy) | have hw := W_at (f := GMember.v) (e4 := fun e => (e.Time, e.Kind, e.Principal, e.Group)) (fun _ => rfl) hy | have hw := acall_swe 1900 16 (W_14 hy)); replace hw := tY hw; (first | refine M.sC hw ?_ | refine M.sD hw ?_); clear hw hy; refine tB ?_)
 | (refine tE ?_; (first | rw [M.lok_compU] | rw [M.lokD_compU]); refine tB ?_)
 | (refine tA ?_))
def W_l {d_ p_ t_ y} (hy : (F_l d_ p_ t_) = some y) := acW (Wq_l d_ p_ t_) hy
def F_2j (place_ : Int) (t_ : Int) (k44 : Int) (a45 : GAccess) (x43 : List (Int × Int)) : Option (List (Int × Int)) :=
 grp ((decide (t_ < a45.Time) || (!decide (a45.Place = place_)))) fun b53 => bif b53 then some x43 else bif decide (a45.Kind = 1) then some (aput a45.Principal k44 x43) else bif decide (a45.Kind = 2) then some (adel a45.Principal x43) else some x43
def F_t (a_ : GEstate) (place_ : Int) (t_ : Int) : Option (List (Int × Int)) :=
 (foldL (F_2j place_ t_) a_.Events 0 []).bind fun x54 => some x54
@[irreducible] def mg_4d : List MOp := [⟨.fad 2 (.t 9), (some 25), (some (24, false))⟩,
 ⟨.ld none (.t 25), (some 26), (some (24, false))⟩,
 ⟨.mv (.t 1), (some 27), (some (24, false))⟩,
 ⟨.bin false .neq (.t 26) (.t 27), (some 28), (some (24, false))⟩,
 mo (.pick (.t 24) (.c (.bool true)) (.t 28)) 29]
@[irreducible] def mc_2j : MC :=
 (.seq (.reg [mo (.bin false .lss (.t 14) (.t 13)) 15])
 (.seq (.cond (.t 15)
 .skip
 (.exit 0))
 (.seq (.block 1
 (.seq (.reg [mo (.mv (.t 14)) 16,
 mo (.iad 7 (.t 12) (.t 14)) 17,
 mo (.ld (some 7) (.t 17)) 18,
 mo (.alloc [(.int .i64 0),(.int .i64 0),(.int .i64 0),(.int .i64 0),(.int .i64 0),(.int .i64 0),(.int .i64 0)]) 9,
 mo (.mv (.t 16)) 8,
 ⟨.st 7 (.t 9) (.t 18), none, none⟩])
 (.block 2
 (.seq (.regI [.op (mo (.fad 0 (.t 9)) 20),
 .op (mo (.ld none (.t 20)) 21),
 .op (mo (.mv (.t 2)) 22),
 .op (mo (.bin false .gtr (.t 21) (.t 22)) 23),
 .op (mo (.mv (.t 23)) 24),
 .grp mg_4d,
 .op (mo (.mv (.t 29)) 19)])
 (.cond (.t 19)
 .skip
 (.seq (.note (.gc [1,2,7,8,9,12,13,14,25,26,27,28]) (.reg [mo (.fad 1 (.t 9)) 31,
 mo (.ld none (.t 31)) 32,
 mo (.bin false .eql (.t 32) (.c (.int .i64 1))) 33,
 mo (.mv (.t 33)) 30]))
 (.cond (.t 30)
 (.reg [mo (.mv (.t 7)) 34,
 mo (.fad 3 (.t 9)) 35,
 mo (.ld none (.t 35)) 36,
 mo (.mv (.t 8)) 37,
 ⟨.mp (.up (.int .i64)) [(.t 34),(.t 36),(.t 37)], none, none⟩])
 (.seq (.reg [mo (.fad 1 (.t 9)) 39,
 mo (.ld none (.t 39)) 40,
 mo (.bin false .eql (.t 40) (.c (.int .i64 2))) 41,
 mo (.mv (.t 41)) 38])
 (.cond (.t 38)
 (.note (.gc [1,2,7,9,12,13,14,25,26,27,28]) (.reg [mo (.mv (.t 7)) 42,
 mo (.fad 3 (.t 9)) 43,
 mo (.ld none (.t 43)) 44,
 ⟨.mp (.del (.int .i64)) [(.t 42),(.t 44)], none, none⟩]))
 .skip)))))))))
 (.reg [mo (.bin true .add (.t 14) (.c (.int .i64 1))) 45,
 mo (.mv (.t 45)) 14]))))
def mc_t : MC :=
 (.seq (.reg [mo (.box (.t 0)) 3,
 mo (.mv (.c .nilm)) 6])
 (.seq (.reg [mo (.mp (.mk (.int .i64)) []) 10,
 mo (.mv (.t 10)) 7])
 (.seq (.seq (.reg [mo (.fad 1 (.t 3)) 11,
 mo (.ld none (.t 11)) 12,
 mo (.len false (.t 12)) 13,
 mo (.mv (.c (.int .i64 0))) 14])
 (.block 0
 (.loop mc_2j)))
 (.seq (.reg [mo (.mv (.t 7)) 46,
 mo (.mv (.t 46)) 6])
 .ret))))
theorem Wq_t (a_ : GEstate) (place_ : Int) (t_ : Int) {Q : List (Int × Int) → Prop} {Q' : V → Heap → Prop} (h : Ok (F_t a_ place_ t_) Q) (hQ : ∀ z, Q z → Q' ((mpV (.int .i64) (V.int .i64) (V.int .i64)) z) []) : ACall Tryz.prog 93 [GEstate.v a_, .int .i64 place_, .int .i64 t_] [] Q' := by
 refine acallM mc_t [.fz 6] [] [.t 6] Tryz.func93 fun M => ?_
 unfold F_t at h
 unfold mc_t
 replace h := tY h
 refine tB ?_
 repeat' (first
 | (exact tZ)
 | ((first | refine oblg h ?_ | refine roomG h ?_ | refine fork h ?_ ?_ | refine forkS h ?_ ?_) <;> clear h <;> intro hc h)
 | (refine M.gv1 (ms := mg_4d) 29 [25,26,27,28] h ?_ ?_ <;> first
 | (clear h; intro K hK1; unfold mg_4d; refine tB ?_)
 | (clear h; intro b h; replace h := tY h; refine tB ?_))
 | (refine M.fold1 (b := mc_2j) 14 [1,2,7,12,13] [] (fun x => []) (fun x => [.o 10 (.map (.int .i64) (x.map (kvV (V.int .i64) (V.int .i64))))]) [] h ?_ ?_ ?_ <;> first
 | (clear h; intro k a x Qn K hK2 hkN2 ha2 h hf; have hl := fact_int (factsE_find (n := 13) hf.1 rfl); clear hf; have hkd := kD hkN2; have hkB2 := kB hkN2; have hkI2 := kI (k := k) (by omega); unfold F_2j at h; unfold mc_2j; replace h := tY h; refine tK ha2 hkd hkN2 hkB2 hkI2 ?_)
  |(clear h; intro x K h; replace h := And.left (And.intro h trivial); unfold mc_2j; replace h := tY h; refine tB ?_)
  |(clear h; (try refine tB ?_); exact tU0; done))
 | (simp only [ha2])
 | (refine hK1 _ ?_; exact tU; done)
 | (refine hK2 _ ?_; (try refine tB ?_); refine ⟨_, h, ?_⟩; exact tU0; done)
 | (refine bfork (fun hc => ?_) (fun hc => ?_))
 | (refine tE ?_; (first | rw [M.lok_compU] | rw [M.lokD_compU]); refine tB ?_)
 | (refine tA ?_))
def W_t {a_ place_ t_ y} (hy : (F_t a_ place_ t_) = some y) := acW (Wq_t a_ place_ t_) hy
noncomputable def F_39 (k21 : Int) (a19 : Int × Int) (x18 : List Int) : Option (List Int) :=
 chk (room (x18.length + [a19.1].length) 8) (some (x18 ++ [a19.1]))
noncomputable def F_m (a_ : GEstate) (place_ : Int) (t_ : Int) : Option (List Int) :=
 (F_1 a_ place_).bind fun y4 => bif (!y4) then some [] else (F_t a_ place_ t_).bind fun y15 => permL (fun l20 => (foldL F_39 l20 0 []).bind fun x22 => (sortI x22).bind fun y24 => some y24) y15
@[irreducible] def mc_39 : MC :=
 (.seq (.reg [mo (.mp .nxt [(.t 17)]) 18,
 mo (.ext 0 (.t 18)) 19])
 (.seq (.cond (.t 19)
 .skip
 (.exit 0))
 (.block 1
 (.seq (.reg [mo (.mp .ent [(.t 17)]) 20,
 mo (.ext 0 (.t 20)) 21,
 mo (.mv (.t 21)) 8])
 (.reg [mo (.mv (.t 7)) 22,
 mo (.mv (.t 8)) 23,
 mo (.bslice 1 [(.t 23)]) 24,
 mo (.app 1 8 (.t 22) (.t 24)) 25,
 mo (.mv (.t 25)) 7])))))
def mc_m : MC :=
 (.seq (.reg [mo (.box (.t 0)) 3,
 mo (.mv (.c (.sl []))) 6])
 (.seq (.seq (.reg [mo (.ld (some 2) (.t 3)) 9,
 mo (.mv (.t 1)) 10,
 mo (.call (.f 68) [(.t 9),(.t 10)] [] []) 11,
 mo (.not (.t 11)) 12])
 (.cond (.t 12)
 (.seq (.reg [mo (.mv (.c (.sl []))) 6])
 .ret)
 .skip))
 (.seq (.reg [mo (.mv (.c .nils)) 7])
 (.seq (.seq (.reg [mo (.ld (some 2) (.t 3)) 13,
 mo (.mv (.t 1)) 14,
 mo (.mv (.t 2)) 15,
 mo (.call (.f 93) [(.t 13),(.t 14),(.t 15)] [] []) 16,
 mo (.mp .rng [(.t 16)]) 17])
 (.block 0
 (.loop mc_39)))
 (.seq (.reg [mo (.mv (.t 7)) 26,
 mo (.call (.f 82) [(.t 26)] [2007] []) 27])
 (.seq (.reg [mo (.mv (.t 7)) 28,
 mo (.mv (.t 28)) 6])
 .ret))))))
theorem Wq_m (a_ : GEstate) (place_ : Int) (t_ : Int) {Q : List Int → Prop} {Q' : V → Heap → Prop} (h : Ok (F_m a_ place_ t_) Q) (hQ : ∀ z, Q z → Q' (.sl (z.map (V.int .i64))) []) : ACall Tryz.prog 91 [GEstate.v a_, .int .i64 place_, .int .i64 t_] [] Q' := by
 refine acallM mc_m [.fz 6] [] [.t 6] Tryz.func91 fun M => ?_
 unfold F_m at h
 unfold mc_m
 replace h := tY h
 refine tB ?_
 repeat' (first
 | (exact tZ)
 | (refine And.intro (by refine ⟨?_, ?_, ?_, ?_⟩ <;> omega) ?_; first | exact hQ _ h | (rw [List.take_of_length_le (by omega)]; exact hQ _ h))
 | (have hq := hQ _ h; simp only [List.length_take, Nat.min_eq_left hlen.1] at hq; exact hq)
 | ((first | refine oblg h ?_ | refine roomG h ?_ | refine fork h ?_ ?_ | refine forkS h ?_ ?_) <;> clear h <;> intro hc h)
 | (obtain ⟨y, hy, h⟩ := h; (first | (with_reducible first | have hw := W_1 hy | have hw := W_t hy) | (have hw := acall_swe 1000 2007 (W_6g hy); replace hw := tY hw; (try simp only [hlen] at hw); have hlen := sortI_len hy)); replace hw := tY hw; (first | refine M.sC hw ?_ | refine M.sD hw ?_); clear hw hy; refine tB ?_)
 | (refine M.mfold1 (b := mc_39) (kv := (kvV (V.int .i64) (V.int .i64))) 17 [17] [] (fun x => [(7, .osl 2007 1 0 x.length)]) (fun x => [.o 2007 (.arr 1 (x.map (V.int .i64)))]) [.gc [7,17], .acc 7 2007 1] h ?_ ?_ <;> first
 | (clear h; intro rem cur x k Qn K hK1 hs1 hn1; unfold F_39 at hn1; unfold mc_39; refine tB ?_)
 | (clear h; (try refine tB ?_); exact tU0; done))
 | (refine nxt_of hs1 hn1 ?_ ?_ <;> first
  |(intro h; rw [M.lok_eq]; replace h := tY h; refine tB ?_)
  |(intro i a h; rw [M.lok_eq]; replace h := tY h; refine tB ?_))
 | (apply hK1; (try refine tB ?_); refine ⟨_, h, ?_⟩; exact tU0; done)
 | (refine tE ?_; (first | rw [M.lok_compU] | rw [M.lokD_compU]); refine tB ?_)
 | (refine tA ?_))
def W_m {a_ place_ t_ y} (hy : (F_m a_ place_ t_) = some y) := acW (Wq_m a_ place_ t_) hy
def F_2k (v_ : Int) (k11 : Int) (a12 : Int) (x10 : Unit) : Option (Fl Unit Int) :=
 bif decide (v_ = a12) then some (.ex k11) else some (.nx ())
def F_24 (s_ : List Int) (v_ : Int) : Option Int :=
 (forL (F_2k v_) s_ 0 ()).bind fun o => o.elim (fun x13 => some (-1)) (fun r14 => some r14)
@[irreducible] def mc_2k : MC :=
 (.seq (.reg [mo (.bin false .lss (.t 8) (.t 7)) 9])
 (.seq (.cond (.t 9)
 .skip
 (.exit 0))
 (.seq (.block 1
 (.seq (.reg [mo (.mv (.t 8)) 10,
 mo (.mv (.t 10)) 5])
 (.seq (.reg [mo (.mv (.t 1)) 11,
 mo (.mv (.t 0)) 12,
 mo (.mv (.t 5)) 13,
 mo (.iad 1 (.t 12) (.t 13)) 14,
 mo (.ld none (.t 14)) 15,
 mo (.bin false .eql (.t 11) (.t 15)) 16])
 (.cond (.t 16)
 (.seq (.reg [mo (.mv (.t 5)) 17,
 mo (.mv (.t 17)) 4])
 .ret)
 .skip))))
 (.reg [mo (.bin true .add (.t 8) (.c (.int .i64 1))) 18,
 mo (.mv (.t 18)) 8]))))
def mc_24 : MC :=
 (.seq (.reg [mo (.mv (.c (.int .i64 0))) 4])
 (.seq (.seq (.reg [mo (.mv (.t 0)) 6,
 mo (.len false (.t 6)) 7,
 mo (.mv (.c (.int .i64 0))) 8])
 (.block 0
 (.loop mc_2k)))
 (.seq (.reg [mo (.mv (.c (.int .i64 (-1)))) 4])
 .ret)))
theorem Wq_24 (s_ : List Int) (v_ : Int) {Q : Int → Prop} {Q' : V → Heap → Prop} (h : Ok (F_24 s_ v_) Q) (hQ : ∀ z, Q z → Q' (.int .i64 z) []) : ACall Tryz.prog 113 [.sl (s_.map (V.int .i64)), .int .i64 v_] [] Q' := by
 refine acallM mc_24 [] [] [.t 4] Tryz.func113 fun M => ?_
 unfold F_24 at h
 unfold mc_24
 replace h := tY h
 refine tB ?_
 repeat' (first
 | (exact tZ)
 | ((first | refine oblg h ?_ | refine roomG h ?_ | refine fork h ?_ ?_ | refine forkS h ?_ ?_) <;> clear h <;> intro hc h)
 | (refine M.for1 (b := mc_2k) 8 [0,1,7] [] (fun x => []) (fun x => []) [] h ?_ ?_ ?_ <;> first
 | (clear h; intro k a x Qn K hK1 hkN1 ha1 h hf; have hl := fact_int (factsE_find (n := 7) hf.1 rfl); clear hf; have hkd := kD hkN1; have hkB1 := kB hkN1; have hkI1 := kI (k := k) (by omega); unfold F_2k at h; unfold mc_2k; replace h := tY h; refine tK ha1 hkd hkN1 hkB1 hkI1 ?_)
  |(clear h; intro x K h; replace h := And.left (And.intro h trivial); unfold mc_2k; replace h := tY h; refine tB ?_)
  |(clear h; (try refine tB ?_); exact tU0; done))
 | (simp only [ha1])
 | (refine hK1 _ ?_; (try refine tB ?_); refine ⟨_, h, ?_⟩; exact tU0; done)
 | (refine tE ?_; (first | rw [M.lok_compU] | rw [M.lokD_compU]); refine tB ?_)
 | (refine tA ?_))
def W_24 {s_ v_ y} (hy : (F_24 s_ v_) = some y) := acW (Wq_24 s_ v_) hy
def F_15 (s_ : List Int) (v_ : Int) : Option Bool :=
 (F_24 s_ v_).bind fun y2 => some (decide (0 ≤ y2))
def mc_15 : MC :=
 (.seq (.reg [mo (.mv (.c (.bool false))) 4])
 (.seq (.reg [mo (.mv (.t 0)) 5,
 mo (.mv (.t 1)) 6,
 mo (.call (.f 113) [(.t 5),(.t 6)] [] []) 7,
 mo (.bin false .geq (.t 7) (.c (.int .i64 0))) 8,
 mo (.mv (.t 8)) 4])
 .ret))
theorem Wq_15 (s_ : List Int) (v_ : Int) {Q : Bool → Prop} {Q' : V → Heap → Prop} (h : Ok (F_15 s_ v_) Q) (hQ : ∀ z, Q z → Q' (.bool z) []) : ACall Tryz.prog 92 [.sl (s_.map (V.int .i64)), .int .i64 v_] [] Q' := by
 refine acallM mc_15 [] [] [.t 4] Tryz.func92 fun M => ?_
 unfold F_15 at h
 unfold mc_15
 replace h := tY h
 refine tB ?_
 repeat' (first
 | (exact tZ)
 | ((first | refine oblg h ?_ | refine roomG h ?_ | refine fork h ?_ ?_ | refine forkS h ?_ ?_) <;> clear h <;> intro hc h)
 | (obtain ⟨y, hy, h⟩ := h; have hw := W_24 hy; replace hw := tY hw; (first | refine M.sC hw ?_ | refine M.sD hw ?_); clear hw hy; refine tB ?_)
 | (refine tE ?_; (first | rw [M.lok_compU] | rw [M.lokD_compU]); refine tB ?_)
 | (refine tA ?_))
def W_15 {s_ v_ y} (hy : (F_15 s_ v_) = some y) := acW (Wq_15 s_ v_) hy
noncomputable def F_2l (k51 : Int) (a52 : Int) (x50 : List Int) : Option (Fl (List Int) (Int × Bool)) :=
 (F_15 x50 a52).bind fun y60 => bif y60 then some (.ex (a52, true)) else some (.nx x50)
noncomputable def F_n (d_ : GDirectory) (a_ : GEstate) (p_ : Int) (place_ : Int) (t_ : Int) : Option (Int × Bool) :=
 (F_l d_ p_ t_).bind fun y2 => (F_m a_ place_ t_).bind fun y32 => (forL F_2l y32 0 y2).bind fun o => o.elim (fun x61 => some (0, false)) (fun r62 => some r62)
@[irreducible] def mc_2l : MC :=
 (.seq (.reg [mo (.bin false .lss (.t 24) (.t 23)) 25])
 (.seq (.cond (.t 25)
 .skip
 (.exit 0))
 (.seq (.block 1
 (.seq (.reg [mo (.iad 1 (.t 22) (.t 24)) 26,
 mo (.ld none (.t 26)) 27,
 mo (.mv (.t 27)) 14])
 (.seq (.regI [.op (mo (.mv (.t 12)) 28),
 .op (mo (.mv (.t 14)) 29),
 .nt (.fz 28),
 .op (mo (.call (.f 92) [(.t 28),(.t 29)] [] []) 30)])
 (.cond (.t 30)
 (.seq (.note (.gc [14]) (.reg [mo (.mv (.t 14)) 31,
 mo (.mv (.t 31)) 10,
 mo (.mv (.c (.bool true))) 11]))
 .ret)
 .skip))))
 (.reg [mo (.bin true .add (.t 24) (.c (.int .i64 1))) 32,
 mo (.mv (.t 32)) 24]))))
def mc_n : MC :=
 (.seq (.reg [mo (.box (.t 0)) 5,
 mo (.box (.t 1)) 6,
 mo (.mv (.c (.int .i64 0))) 10,
 mo (.mv (.c (.bool false))) 11])
 (.seq (.reg [mo (.ld (some 2) (.t 5)) 15,
 mo (.mv (.t 2)) 16,
 mo (.mv (.t 4)) 17,
 mo (.call (.f 90) [(.t 15),(.t 16),(.t 17)] [] [18]) 18,
 mo (.mv (.t 18)) 12])
 (.seq (.seq (.note (.gc [3,4,6,12]) (.reg [mo (.ld (some 2) (.t 6)) 19,
 mo (.mv (.t 3)) 20,
 mo (.mv (.t 4)) 21,
 mo (.call (.f 91) [(.t 19),(.t 20),(.t 21)] [] []) 22,
 mo (.len false (.t 22)) 23,
 mo (.mv (.c (.int .i64 0))) 24]))
 (.block 0
 (.loop mc_2l)))
 (.seq (.reg [mo (.mv (.c (.int .i64 0))) 10,
 mo (.mv (.c (.bool false))) 11])
 .ret))))
theorem Wq_n (d_ : GDirectory) (a_ : GEstate) (p_ : Int) (place_ : Int) (t_ : Int) {Q : Int × Bool → Prop} {Q' : V → Heap → Prop} (h : Ok (F_n d_ a_ p_ place_ t_) Q) (hQ : ∀ z, Q z → Q' (.tup [.int .i64 z.1, .bool z.2]) []) : ACall Tryz.prog 65 [GDirectory.v d_, GEstate.v a_, .int .i64 p_, .int .i64 place_, .int .i64 t_] [] Q' := by
 refine acallM mc_n [] [] [.t 10, .t 11] Tryz.func65 fun M => ?_
 unfold F_n at h
 unfold mc_n
 replace h := tY h
 refine tB ?_
 repeat' (first
 | (exact tZ)
 | ((first | refine oblg h ?_ | refine roomG h ?_ | refine fork h ?_ ?_ | refine forkS h ?_ ?_) <;> clear h <;> intro hc h)
 | (obtain ⟨y, hy, h⟩ := h; (first | (with_reducible first | have hw := W_m hy | have hw := W_15 hy) | have hw := acall_swe 1900 18 (W_l hy)); replace hw := tY hw; (first | refine M.sC hw ?_ | refine M.sD hw ?_); clear hw hy; refine tB ?_)
 | (refine M.for1 (b := mc_2l) 24 [22,23] [] (fun x => [(12, .sl (x.map (V.int .i64)))]) (fun x => []) [.fz 12] h ?_ ?_ ?_ <;> first
 | (clear h; intro k a x Qn K hK1 hkN1 ha1 h hf; have hl := fact_int (factsE_find (n := 23) hf.1 rfl); clear hf; have hkd := kD hkN1; have hkB1 := kB hkN1; have hkI1 := kI (k := k) (by omega); unfold F_2l at h; unfold mc_2l; replace h := tY h; refine tK ha1 hkd hkN1 hkB1 hkI1 ?_)
  |(clear h; intro x K h; replace h := And.left (And.intro h trivial); unfold mc_2l; replace h := tY h; refine tB ?_)
  |(clear h; (try refine tB ?_); exact tU0; done))
 | (simp only [ha1])
 | (refine hK1 _ ?_; (try refine tB ?_); refine ⟨_, h, ?_⟩; exact tU0; done)
 | (refine tE ?_; (first | rw [M.lok_compU] | rw [M.lokD_compU]); refine tB ?_)
 | (refine tA ?_))
def W_n {d_ a_ p_ place_ t_ y} (hy : (F_n d_ a_ p_ place_ t_) = some y) := acW (Wq_n d_ a_ p_ place_ t_) hy
noncomputable def F_u (d_ : GDirectory) (a_ : GEstate) (p_ : Int) (place_ : Int) (t_ : Int) : Option Bool :=
 (F_1d d_ a_ p_ place_).bind fun y4 => bif (!y4) then some false else (F_6 a_ place_ t_).bind fun y6 => (F_n d_ a_ p_ place_ t_).bind fun y8 => grp ((y6.2 || y8.2)) fun b10 => some b10
@[irreducible] def mg_4e : List MOp := [⟨.mv (.t 14), (some 39), (some (38, false))⟩,
 mo (.pick (.t 38) (.c (.bool true)) (.t 39)) 40]
def mc_u : MC :=
 (.seq (.reg [mo (.box (.t 0)) 5,
 mo (.box (.t 1)) 6,
 mo (.mv (.c (.bool false))) 10])
 (.seq (.seq (.reg [mo (.ld (some 2) (.t 5)) 15,
 mo (.ld (some 2) (.t 6)) 16,
 mo (.mv (.t 2)) 17,
 mo (.mv (.t 3)) 18,
 mo (.call (.f 72) [(.t 15),(.t 16),(.t 17),(.t 18)] [] []) 19,
 mo (.not (.t 19)) 20])
 (.cond (.t 20)
 (.seq (.reg [mo (.mv (.c (.bool false))) 10])
 .ret)
 .skip))
 (.seq (.note (.gc [2,3,4,5,6,39]) (.reg [mo (.ld (some 2) (.t 6)) 22,
 mo (.mv (.t 3)) 23,
 mo (.mv (.t 4)) 24,
 mo (.call (.f 43) [(.t 22),(.t 23),(.t 24)] [] []) 25,
 mo (.mv (.t 25)) 21,
 mo (.ext 0 (.t 21)) 26,
 mo (.ext 1 (.t 21)) 27,
 mo (.mv (.t 26)) 11,
 mo (.mv (.t 27)) 12]))
 (.seq (.note (.gc [2,3,4,5,6,12,39]) (.reg [mo (.ld (some 2) (.t 5)) 29,
 mo (.ld (some 2) (.t 6)) 30,
 mo (.mv (.t 2)) 31,
 mo (.mv (.t 3)) 32,
 mo (.mv (.t 4)) 33,
 mo (.call (.f 65) [(.t 29),(.t 30),(.t 31),(.t 32),(.t 33)] [] []) 34,
 mo (.mv (.t 34)) 28,
 mo (.ext 0 (.t 28)) 35,
 mo (.ext 1 (.t 28)) 36,
 mo (.mv (.t 35)) 13,
 mo (.mv (.t 36)) 14]))
 (.seq (.note (.gc [12,14,39]) (.regI [.op (mo (.mv (.t 12)) 37),
 .op (mo (.mv (.t 37)) 38),
 .grp mg_4e,
 .op (mo (.mv (.t 40)) 10)]))
 .ret)))))
theorem Wq_u (d_ : GDirectory) (a_ : GEstate) (p_ : Int) (place_ : Int) (t_ : Int) {Q : Bool → Prop} {Q' : V → Heap → Prop} (h : Ok (F_u d_ a_ p_ place_ t_) Q) (hQ : ∀ z, Q z → Q' (.bool z) []) : ACall Tryz.prog 61 [GDirectory.v d_, GEstate.v a_, .int .i64 p_, .int .i64 place_, .int .i64 t_] [] Q' := by
 refine acallM mc_u [] [] [.t 10] Tryz.func61 fun M => ?_
 unfold F_u at h
 unfold mc_u
 replace h := tY h
 refine tB ?_
 repeat' (first
 | (exact tZ)
 | ((first | refine oblg h ?_ | refine roomG h ?_ | refine fork h ?_ ?_ | refine forkS h ?_ ?_) <;> clear h <;> intro hc h)
 | (obtain ⟨y, hy, h⟩ := h; (first | with_reducible first | have hw := W_1d hy | have hw := W_6 hy | have hw := W_n hy); replace hw := tY hw; (first | refine M.sC hw ?_ | refine M.sD hw ?_); clear hw hy; refine tB ?_)
 | (refine M.gv1 (ms := mg_4e) 40 [39] h ?_ ?_ <;> first
 | (clear h; intro K hK1; unfold mg_4e; refine tB ?_)
 | (clear h; intro b h; replace h := tY h; refine tB ?_))
 | (refine hK1 _ ?_; exact tU; done)
 | (refine bfork (fun hc => ?_) (fun hc => ?_))
 | (refine tE ?_; (first | rw [M.lok_compU] | rw [M.lokD_compU]); refine tB ?_)
 | (refine tA ?_))
def W_u {d_ a_ p_ place_ t_ y} (hy : (F_u d_ a_ p_ place_ t_) = some y) := acW (Wq_u d_ a_ p_ place_ t_) hy
noncomputable def F_25 (d_ : GDirectory) (p_ : Int) (t_ : Int) : Option (List Int) :=
 (F_l d_ p_ t_).bind fun y3 => (delI y3 p_).bind fun y4 => some ((y4.2.drop 0).take y4.1)
def mc_25 : MC :=
 (.seq (.reg [mo (.box (.t 0)) 3,
 mo (.box (.t 1)) 4,
 mo (.mv (.c (.sl []))) 6])
 (.seq (.reg [mo (.ld (some 2) (.t 3)) 7,
 mo (.ld none (.t 4)) 8,
 mo (.mv (.t 2)) 9,
 mo (.call (.f 90) [(.t 7),(.t 8),(.t 9)] [] [10]) 10,
 mo (.mkfn 131 [(.t 4)]) 11,
 mo (.call (.f 130) [(.t 10),(.t 11)] [10,4] []) 12,
 mo (.mv (.t 12)) 6])
 .ret))
theorem Wq_25 (d_ : GDirectory) (p_ : Int) (t_ : Int) {Q : List Int → Prop} {Q' : V → Heap → Prop} (h : Ok (F_25 d_ p_ t_) Q) (hQ : ∀ z, Q z → Q' (.sl (z.map (V.int .i64))) []) : ACall Tryz.prog 114 [GDirectory.v d_, .int .i64 p_, .int .i64 t_] [] Q' := by
 refine acallM mc_25 [.fz 6] [] [.t 6] Tryz.func114 fun M => ?_
 unfold F_25 at h
 unfold mc_25
 replace h := tY h
 refine tB ?_
 repeat' (first
 | (exact tZ)
 | (refine And.intro (by refine ⟨?_, ?_, ?_, ?_⟩ <;> omega) ?_; first | exact hQ _ h | (rw [List.take_of_length_le (by omega)]; exact hQ _ h))
 | (have hq := hQ _ h; simp only [List.length_take, Nat.min_eq_left hlen.1] at hq; exact hq)
 | ((first | refine oblg h ?_ | refine roomG h ?_ | refine fork h ?_ ?_ | refine forkS h ?_ ?_) <;> clear h <;> intro hc h)
 | (obtain ⟨y, hy, h⟩ := h; (first | have hw := acall_swe 1900 10 (W_l hy) | (have hw := acall_swe 1001 4 (acall_swe 1000 10 (W_6l hy)); replace hw := tY hw; (try simp only [hlen] at hw); have hlen := delI_len hy)); replace hw := tY hw; (first | refine M.sC hw ?_ | refine M.sD hw ?_); clear hw hy; refine tB ?_)
 | (refine tE ?_; (first | rw [M.lok_compU] | rw [M.lokD_compU]); refine tB ?_)
 | (refine tA ?_))
def W_25 {d_ p_ t_ y} (hy : (F_25 d_ p_ t_) = some y) := acW (Wq_25 d_ p_ t_) hy
def F_2t (k20 : Int) (a21 : GAccess) (x19 : List Int) : Option (List Int) :=
 chk (room (x19.length + [a21.Time].length) 8) (some (x19 ++ [a21.Time]))
def F_1g (a_ : GEstate) : Option (List Int) :=
 (F_7 a_).bind fun y4 => bif (!decide (y4 = 0)) then some [] else (foldL F_2t a_.Events 0 []).bind fun x22 => (compactI x22).bind fun y24 => some ((y24.2.drop 0).take y24.1)
@[irreducible] def mc_2t : MC :=
 (.seq (.reg [mo (.bin false .lss (.t 12) (.t 11)) 13])
 (.seq (.cond (.t 13)
 .skip
 (.exit 0))
 (.seq (.block 1
 (.seq (.reg [mo (.iad 7 (.t 10) (.t 12)) 14,
 mo (.ld (some 7) (.t 14)) 15,
 mo (.alloc [(.int .i64 0),(.int .i64 0),(.int .i64 0),(.int .i64 0),(.int .i64 0),(.int .i64 0),(.int .i64 0)]) 5,
 ⟨.st 7 (.t 5) (.t 15), none, none⟩])
 (.reg [mo (.mv (.t 3)) 16,
 mo (.fad 0 (.t 5)) 17,
 mo (.ld none (.t 17)) 18,
 mo (.bslice 1 [(.t 18)]) 19,
 mo (.app 1 8 (.t 16) (.t 19)) 20,
 mo (.mv (.t 20)) 3])))
 (.reg [mo (.bin true .add (.t 12) (.c (.int .i64 1))) 21,
 mo (.mv (.t 21)) 12]))))
def mc_1g : MC :=
 (.seq (.reg [mo (.box (.t 0)) 1,
 mo (.mv (.c .nils)) 2])
 (.seq (.seq (.reg [mo (.ld (some 2) (.t 1)) 6,
 mo (.call (.f 62) [(.t 6)] [] []) 7,
 mo (.bin false .neq (.t 7) (.c (.int .i64 0))) 8])
 (.cond (.t 8)
 (.seq (.reg [mo (.mv (.c .nils)) 2])
 .ret)
 .skip))
 (.seq (.reg [mo (.mv (.c .nils)) 3])
 (.seq (.seq (.reg [mo (.fad 1 (.t 1)) 9,
 mo (.ld none (.t 9)) 10,
 mo (.len false (.t 10)) 11,
 mo (.mv (.c (.int .i64 0))) 12])
 (.block 0
 (.loop mc_2t)))
 (.seq (.reg [mo (.mv (.t 3)) 22,
 mo (.call (.f 83) [(.t 22)] [2003] []) 23,
 mo (.mv (.t 23)) 2])
 .ret)))))
theorem Wq_1g (a_ : GEstate) {Q : List Int → Prop} {Q' : V → Heap → Prop} (h : Ok (F_1g a_) Q) (hQ : ∀ z, Q z → Q' (.osl 1900 1 0 z.length) [(1900, .arr 1 (z.map (V.int .i64)))]) : ACall Tryz.prog 81 [GEstate.v a_] [] Q' := by
 refine acallM mc_1g [.gc [2], .trim 2, .acc 2 1900 1] [1900] [.t 2] Tryz.func81 fun M => ?_
 unfold F_1g at h
 unfold mc_1g
 replace h := tY h
 refine tB ?_
 repeat' (first
 | (exact tZ)
 | (refine And.intro (by refine ⟨?_, ?_, ?_, ?_⟩ <;> omega) ?_; first | exact hQ _ h | (rw [List.take_of_length_le (by omega)]; exact hQ _ h))
 | (have hq := hQ _ h; simp only [List.length_take, Nat.min_eq_left hlen.1] at hq; exact hq)
 | ((first | refine oblg h ?_ | refine roomG h ?_ | refine fork h ?_ ?_ | refine forkS h ?_ ?_) <;> clear h <;> intro hc h)
 | (obtain ⟨y, hy, h⟩ := h; (first | (with_reducible first | have hw := W_7 hy) | (have hw := acall_swe 1000 2003 (W_6h hy); replace hw := tY hw; (try simp only [hlen] at hw); have hlen := compactI_len hy)); replace hw := tY hw; (first | refine M.sC hw ?_ | refine M.sD hw ?_); clear hw hy; refine tB ?_)
 | (refine M.fold1 (b := mc_2t) 12 [10,11] [] (fun x => [(3, .osl 2003 1 0 x.length)]) (fun x => [.o 2003 (.arr 1 (x.map (V.int .i64)))]) [.gc [3,10,11,12], .acc 3 2003 1] h ?_ ?_ ?_ <;> first
 | (clear h; intro k a x Qn K hK1 hkN1 ha1 h hf; have hl := fact_int (factsE_find (n := 11) hf.1 rfl); clear hf; have hkd := kD hkN1; have hkB1 := kB hkN1; have hkI1 := kI (k := k) (by omega); unfold F_2t at h; unfold mc_2t; replace h := tY h; refine tK ha1 hkd hkN1 hkB1 hkI1 ?_)
  |(clear h; intro x K h; replace h := And.left (And.intro h trivial); unfold mc_2t; replace h := tY h; refine tB ?_)
  |(clear h; (try refine tB ?_); exact tU0; done))
 | (simp only [ha1])
 | (refine hK1 _ ?_; (try refine tB ?_); refine ⟨_, h, ?_⟩; exact tU0; done)
 | (refine tE ?_; (first | rw [M.lok_compU] | rw [M.lokD_compU]); refine tB ?_)
 | (refine tA ?_))
def W_1g {a_ y} (hy : (F_1g a_) = some y) := acW (Wq_1g a_) hy
def F_2u (k18 : Int) (a19 : GMember) (x17 : List Int) : Option (List Int) :=
 chk (room (x17.length + [a19.Time].length) 8) (some (x17 ++ [a19.Time]))
def F_1h (d_ : GDirectory) (a_ : GEstate) : Option (List Int) :=
 (F_1g a_).bind fun y2 => (foldL F_2u d_.Events 0 y2).bind fun x20 => (sortI x20).bind fun y22 => (compactI y22).bind fun y24 => some ((y24.2.drop 0).take y24.1)
@[irreducible] def mc_2u : MC :=
 (.seq (.reg [mo (.bin false .lss (.t 13) (.t 12)) 14])
 (.seq (.cond (.t 14)
 .skip
 (.exit 0))
 (.seq (.block 1
 (.seq (.reg [mo (.iad 4 (.t 11) (.t 13)) 15,
 mo (.ld (some 4) (.t 15)) 16,
 mo (.alloc [(.int .i64 0),(.int .i64 0),(.int .i64 0),(.int .i64 0)]) 7,
 ⟨.st 4 (.t 7) (.t 16), none, none⟩])
 (.reg [mo (.mv (.t 5)) 17,
 mo (.fad 0 (.t 7)) 18,
 mo (.ld none (.t 18)) 19,
 mo (.bslice 1 [(.t 19)]) 20,
 mo (.app 1 8 (.t 17) (.t 20)) 21,
 mo (.mv (.t 21)) 5])))
 (.reg [mo (.bin true .add (.t 13) (.c (.int .i64 1))) 22,
 mo (.mv (.t 22)) 13]))))
def mc_1h : MC :=
 (.seq (.reg [mo (.box (.t 0)) 2,
 mo (.box (.t 1)) 3,
 mo (.mv (.c (.sl []))) 4])
 (.seq (.reg [mo (.ld (some 2) (.t 3)) 8,
 mo (.call (.f 81) [(.t 8)] [] [9]) 9,
 mo (.mv (.t 9)) 5])
 (.seq (.seq (.reg [mo (.fad 1 (.t 2)) 10,
 mo (.ld none (.t 10)) 11,
 mo (.len false (.t 11)) 12,
 mo (.mv (.c (.int .i64 0))) 13])
 (.block 0
 (.loop mc_2u)))
 (.seq (.reg [mo (.mv (.t 5)) 23,
 mo (.call (.f 82) [(.t 23)] [2005] []) 24])
 (.seq (.reg [mo (.mv (.t 5)) 25,
 mo (.call (.f 83) [(.t 25)] [2005] []) 26,
 mo (.mv (.t 26)) 4])
 .ret)))))
theorem Wq_1h (d_ : GDirectory) (a_ : GEstate) {Q : List Int → Prop} {Q' : V → Heap → Prop} (h : Ok (F_1h d_ a_) Q) (hQ : ∀ z, Q z → Q' (.sl (z.map (V.int .i64))) []) : ACall Tryz.prog 52 [GDirectory.v d_, GEstate.v a_] [] Q' := by
 refine acallM mc_1h [.fz 4] [] [.t 4] Tryz.func52 fun M => ?_
 unfold F_1h at h
 unfold mc_1h
 replace h := tY h
 refine tB ?_
 repeat' (first
 | (exact tZ)
 | (refine And.intro (by refine ⟨?_, ?_, ?_, ?_⟩ <;> omega) ?_; first | exact hQ _ h | (rw [List.take_of_length_le (by omega)]; exact hQ _ h))
 | (have hq := hQ _ h; simp only [List.length_take, Nat.min_eq_left hlen.1] at hq; exact hq)
 | ((first | refine oblg h ?_ | refine roomG h ?_ | refine fork h ?_ ?_ | refine forkS h ?_ ?_) <;> clear h <;> intro hc h)
 | (obtain ⟨y, hy, h⟩ := h; (first | have hw := acall_swe 1900 9 (W_1g hy) | (have hw := acall_swe 1000 2005 (W_6g hy); replace hw := tY hw; (try simp only [hlen] at hw); have hlen := sortI_len hy) | (have hw := acall_swe 1000 2005 (W_6h hy); replace hw := tY hw; (try simp only [hlen] at hw); have hlen := compactI_len hy)); replace hw := tY hw; (first | refine M.sC hw ?_ | refine M.sD hw ?_); clear hw hy; refine tB ?_)
 | (refine M.fold1 (b := mc_2u) 13 [11,12] [] (fun x => [(5, .osl 2005 1 0 x.length)]) (fun x => [.o 2005 (.arr 1 (x.map (V.int .i64)))]) [.gc [5,11,12,13], .acc 5 2005 1] h ?_ ?_ ?_ <;> first
 | (clear h; intro k a x Qn K hK1 hkN1 ha1 h hf; have hl := fact_int (factsE_find (n := 12) hf.1 rfl); clear hf; have hkd := kD hkN1; have hkB1 := kB hkN1; have hkI1 := kI (k := k) (by omega); unfold F_2u at h; unfold mc_2u; replace h := tY h; refine tK ha1 hkd hkN1 hkB1 hkI1 ?_)
  |(clear h; intro x K h; replace h := And.left (And.intro h trivial); unfold mc_2u; replace h := tY h; refine tB ?_)
  |(clear h; (try refine tB ?_); exact tU0; done))
 | (simp only [ha1])
 | (refine hK1 _ ?_; (try refine tB ?_); refine ⟨_, h, ?_⟩; exact tU0; done)
 | (refine tE ?_; (first | rw [M.lok_compU] | rw [M.lokD_compU]); refine tB ?_)
 | (refine tA ?_))
def W_1h {d_ a_ y} (hy : (F_1h d_ a_) = some y) := acW (Wq_1h d_ a_) hy
end Go.Ab
