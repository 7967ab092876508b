/- What the functions of this seat that lie on the laws' road compute (part L31A), each for every input. By AI agents. -/
import Derived.Test.YtopbblhkapgdkaaDoorProg
import Derived.KernelRfl
import Derived.Test.YtopbblhkapgdkaaDoorAbFun
import Derived.Test.YtopbblhkapgdkaaDoorSHr31
set_option linter.all false
set_option maxRecDepth 20000
set_option linter.all false
namespace Go.Ab
open Go.Proofs
structure GA47 where
  e0 : Int
  e1 : Int
  e2 : Int
  e3 : Int
instance : Inhabited GA47 := ⟨⟨default, default, default, default⟩⟩
def GA47.v (x : GA47) : V := .agg [.int .i64 x.e0, .int .i64 x.e1, .int .i64 x.e2, .int .i64 x.e3]

structure GGrant where
  Credential : Int
  Resource : Int
  Right : Int
instance : Inhabited GGrant := ⟨⟨default, default, default⟩⟩
def GGrant.v (x : GGrant) : V := .agg [.int .i64 x.Credential, .int .i64 x.Resource, .int .i64 x.Right]

structure GStore where
  Resource : Int
  Credential : Int
instance : Inhabited GStore := ⟨⟨default, default⟩⟩
def GStore.v (x : GStore) : V := .agg [.int .i64 x.Resource, .int .i64 x.Credential]

structure GMint where
  From : Int
  To : Int
instance : Inhabited GMint := ⟨⟨default, default⟩⟩
def GMint.v (x : GMint) : V := .agg [.int .i64 x.From, .int .i64 x.To]

structure GRights where
  Credentials : Int
  Resources : Int
  Grants : List GGrant
  Stores : List GStore
  Mints : List GMint
instance : Inhabited GRights := ⟨⟨default, default, default, default, default⟩⟩
def GRights.v (x : GRights) : V := .agg [.int .i64 x.Credentials, .int .i64 x.Resources, .sl (x.Grants.map GGrant.v), .sl (x.Stores.map GStore.v), .sl (x.Mints.map GMint.v)]

structure GSeverity where
  Level : Int
  Worth : Int
  Audience : Int
  Score : Int
instance : Inhabited GSeverity := ⟨⟨default, default, default, default⟩⟩
def GSeverity.v (x : GSeverity) : V := .agg [.int .i64 x.Level, .int .i64 x.Worth, .int .i64 x.Audience, .int .i64 x.Score]

structure GLink where
  Kind : Int
  Grant : Int
  Store : Int
  Mint : Int
instance : Inhabited GLink := ⟨⟨default, default, default, default⟩⟩
def GLink.v (x : GLink) : V := .agg [.int .i64 x.Kind, .int .i64 x.Grant, .int .i64 x.Store, .int .i64 x.Mint]

theorem dlt {a : Int} : decide (a < a) = false := by simp
attribute [go_sem] beq_self_eq_true Int.cast_ofNat_Int List.take_succ_cons List.take_zero List.drop_succ_cons List.cons_append List.nil_append putPs pinH wrap_u8 rng64 inb_and inc_and room_and roomI_and divs_and mget_i mget_s mput_i mput_s mdel_i mdel_s lk_b lk_i lk_s lk_l lkt_b' lkt_i' lkt_s' lkt_l' rep_b rep_i ovS ovE ovU patO filt filtH dropE stepNs atEndN shqs shq1 V.oids V.oidsL V.tr V.trL trE trH Obj'.tr true_implies false_implies Bool.false_eq_true Bool.true_eq_false dlt mpV slV Int.natCast_zero List.map_set kvV nxt_map erase_map V.sw V.swL swN swH sw_sl sw_int sw_bool sw_str sw_smap sw_byte Obj'.sw sw_arr sw_map byte_1 byte_2 Mach.b2s_e Mach.b2s_eD toNat_ltb List.length_set List.take_of_length_le Nat.zero_le bounds eqCells Option.map_some Option.map_none Fl_nx Fl_ex Sum_inl Sum_inr Ok_ite Ok_chk Ok_some Ok_bind Ok_none
theorem inb_0_4 : inb 0 4 = true := inb_iff.2 (by decide)
attribute [go_sem] inb_0_4
theorem inbk_0 {n : Nat} : (inb 0 n = true) = (((0 : Nat) : Int) < (n : Int)) := propext (by rw [inb_iff]; omega)
attribute [go_sem] inbk_0
theorem inbk_1 {n : Nat} : (inb 1 n = true) = (((1 : Nat) : Int) < (n : Int)) := propext (by rw [inb_iff]; omega)
attribute [go_sem] inbk_1
theorem incl_1 {b : Int} {n : Nat} : (inc 1 b n = true) = (((1 : Nat) : Int) ≤ b ∧ b ≤ (n : Int)) := propext (by rw [inc_iff]; omega)
attribute [go_sem] incl_1
attribute [go_sem] GA47.v GGrant.v GLink.v GMint.v GRights.v GSeverity.v GStore.v
def F_severity_Level_L1 (score_ : Int) (k16 : Int) (a17 : Int) (x15 : Int) : Option Int :=
  bif decide (a17 ≤ score_) then chk (in64 (x15 + 1)) (some (x15 + 1)) else some x15
def F_severity_Level (score_ : Int) : Option Int :=
  (foldL (F_severity_Level_L1 score_) [1, 100, 1000, 10000] 0 0).bind fun x18 => some x18

/- leakresponse/severity.Level -/
@[irreducible] def mc_severity_Level_L1 : MC :=
  (.seq (.reg [⟨.bin false .lss (.t 7) (.c (.int .i64 4)), (some 8), none⟩])
  (.seq (.cond (.t 8)
    .skip
    (.exit 0))
  (.seq (.block 1
  (.seq (.reg [⟨.aix none 1 4 (.t 6) (.t 7), (some 9), none⟩,
    ⟨.mv (.t 9), (some 5), none⟩])
  (.seq (.reg [⟨.mv (.t 0), (some 10), none⟩,
    ⟨.mv (.t 5), (some 11), none⟩,
    ⟨.bin false .geq (.t 10) (.t 11), (some 12), none⟩])
  (.cond (.t 12)
    (.reg [⟨.mv (.t 3), (some 13), none⟩,
      ⟨.bin true .add (.t 13) (.c (.int .i64 1)), (some 14), none⟩,
      ⟨.mv (.t 14), (some 3), none⟩])
    .skip))))
  (.reg [⟨.bin true .add (.t 7) (.c (.int .i64 1)), (some 15), none⟩,
    ⟨.mv (.t 15), (some 7), none⟩]))))
def mc_severity_Level : MC :=
  (.seq (.reg [⟨.mv (.c (.int .i64 0)), (some 2), none⟩])
  (.seq (.reg [⟨.mv (.c (.int .i64 0)), (some 3), none⟩])
  (.seq (.seq (.reg [⟨.mp (.tab 1) [], (some 6), none⟩,
    ⟨.mv (.c (.int .i64 0)), (some 7), none⟩])
  (.block 0
  (.loop mc_severity_Level_L1)))
  (.seq (.reg [⟨.mv (.t 3), (some 16), none⟩,
    ⟨.mv (.t 16), (some 2), none⟩])
  .ret))))
theorem ok_severity_Level : mc_severity_Level.ok Tryd.prog Tryd.f14.ntmps (Tryd.f14.body.getD .skip) = true := by kernel_rfl

set_option maxHeartbeats 2000000 in
theorem Wq_severity_Level (score_ : Int) {Q : Int → Prop} {Q' : V → Heap → Prop} (h : Ok (F_severity_Level score_) Q) (hQ : ∀ z, Q z → Q' (.int .i64 z) []) : ACall Tryd.prog 14 [.int .i64 score_] [] Q' := by
  refine acall_machN [] [] [.t 2] Tryd.func14 rfl (by kernel_rfl) ok_severity_Level (by kernel_rfl) rfl rfl fun M hf => ?_
  clear hf
  unfold F_severity_Level at h
  unfold mc_severity_Level
  (try replace h := tH h)
  refine tB ?_
  repeat' (first
    | (exact hQ _ h)
    | (exact trivial)
    | (exact False.elim h)
    | (have hq := hQ _ h; replace hq := tH hq; exact hq)
    | (refine oblg h ?_; clear h; intro hc h)
    | (refine roomG h ?_; clear h; intro hc h)
    | (refine fork h ?_ ?_ <;> clear h <;> intro hc h)
    | (refine forkS h ?_ ?_ <;> clear h <;> intro hc h)
    | (refine And.intro (chkD_of rfl) ?_)
    | (refine M.fold1 (b := mc_severity_Level_L1) 7 [0, 6] [] (fun x => [(3, .int .i64 x)]) (fun x => []) [] h ?_ ?_ ?_ <;> first
       | (clear h; intro k a x Qn K hK1 hkN1 ha1 h hf; skip; clear hf; have hkd := kD hkN1; have hkB1 := kB hkN1; have hkI1 : in64 ((k : Int) + 1) = true := in64_iff.2 ⟨by omega, by (try simp only [List.length_cons, List.length_nil] at hkN1); omega⟩; have hkd1 : decide ((k : Int) < 4) = true := decide_eq_true (by simp only [List.length_cons, List.length_nil] at hkN1; omega); have hkr1 : (0 ≤ (k : Int) ∧ (k : Int) < 4) = True := eq_true (by simp only [List.length_cons, List.length_nil] at hkN1; omega); have hle1 : (k * 1 ≤ 3) = True := eq_true (by simp only [List.length_cons, List.length_nil] at hkN1; omega); have hpt1 := drop_of (f := fun e : Int => .int .i64 e) ha1 hkN1; (try simp only [go_sem, Nat.reduceBEq, Nat.reduceAdd, Nat.reduceLeDiff, Nat.reduceSub, Nat.reduceMul, Int.reduceToNat, Int.reduceLT, Int.reduceLE, List.flatMap_cons, List.flatMap_nil, List.map_cons, List.map_nil] at hpt1); unfold F_severity_Level_L1 at h; unfold mc_severity_Level_L1; (try replace h := tH h); refine tKA ha1 hkd hkN1 hkB1 hkI1 hkd1 hkr1 hle1 hpt1 ?_)
       | (clear h; intro x K h; replace h := And.left (And.intro h trivial); unfold mc_severity_Level_L1; (try replace h := tH h); refine tB ?_)
       | (clear h; (try refine tB ?_); exact tU0; done)
       | fail)
    | (refine And.intro hkI1 ?_)
    | (refine And.intro hkN1 ?_)
    | (refine And.intro hkB1 ?_)
    | (simp only [ha1])
    | (refine hK1 _ ?_; (try refine tB ?_); refine ⟨_, h, ?_⟩; exact tU0; done)
    | (refine ⟨_, getE_map (inb_toNat (by assumption)), ?_⟩; (first | rw [M.lok_compU] | rw [M.lokD_compU]); refine tB ?_)
    | (refine And.intro (ltb_of (by assumption)) ?_)
    | (refine And.intro (by omega) ?_)
    | fail)
theorem W_severity_Level : ∀ {score_ : Int} {y : Int}, F_severity_Level score_ = some y → ACall Tryd.prog 14 [.int .i64 score_] [] (fun r H => r = .int .i64 y ∧ H = []) :=
  fun hy => Wq_severity_Level _ (Q := fun z => z = _) ⟨_, hy, rfl⟩ fun z e => by subst e; exact ⟨rfl, rfl⟩

def F_rights_among (n_ : Int) (low_ : Int) (high_ : Int) : Option Bool :=
  grp ((decide (low_ ≤ n_) && decide (n_ ≤ high_))) fun b2 => some b2

/- leakresponse/rights.among -/
@[irreducible] def mg_rights_among_1 : List MOp := [⟨.mv (.t 0), (some 11), (some (10, true))⟩,
    ⟨.mv (.t 2), (some 12), (some (10, true))⟩,
    ⟨.bin false .leq (.t 11) (.t 12), (some 13), (some (10, true))⟩,
    ⟨.pick (.t 10) (.t 13) (.c (.bool false)), (some 14), none⟩]
def mc_rights_among : MC :=
  (.seq (.reg [⟨.mv (.c (.bool false)), (some 6), none⟩])
  (.seq (.regI [.op ⟨.mv (.t 0), (some 7), none⟩,
    .op ⟨.mv (.t 1), (some 8), none⟩,
    .op ⟨.bin false .geq (.t 7) (.t 8), (some 9), none⟩,
    .op ⟨.mv (.t 9), (some 10), none⟩,
    .grp mg_rights_among_1,
    .op ⟨.mv (.t 14), (some 6), none⟩])
  .ret))
theorem ok_rights_among : mc_rights_among.ok Tryd.prog Tryd.f34.ntmps (Tryd.f34.body.getD .skip) = true := by kernel_rfl

set_option maxHeartbeats 2000000 in
theorem Wq_rights_among (n_ : Int) (low_ : Int) (high_ : Int) {Q : Bool → Prop} {Q' : V → Heap → Prop} (h : Ok (F_rights_among n_ low_ high_) Q) (hQ : ∀ z, Q z → Q' (.bool z) []) : ACall Tryd.prog 34 [.int .i64 n_, .int .i64 low_, .int .i64 high_] [] Q' := by
  refine acall_machN [] [] [.t 6] Tryd.func34 rfl (by kernel_rfl) ok_rights_among (by kernel_rfl) rfl rfl fun M hf => ?_
  clear hf
  unfold F_rights_among at h
  unfold mc_rights_among
  (try replace h := tH h)
  refine tB ?_
  repeat' (first
    | (exact hQ _ h)
    | (exact trivial)
    | (exact False.elim h)
    | (have hq := hQ _ h; replace hq := tH hq; exact hq)
    | (refine oblg h ?_; clear h; intro hc h)
    | (refine roomG h ?_; clear h; intro hc h)
    | (refine fork h ?_ ?_ <;> clear h <;> intro hc h)
    | (refine forkS h ?_ ?_ <;> clear h <;> intro hc h)
    | (refine And.intro (chkD_of rfl) ?_)
    | (refine M.gv1 (ms := mg_rights_among_1) 14 [11, 12, 13] h ?_ ?_ <;> first
       | (clear h; intro K hK1; unfold mg_rights_among_1; refine tB ?_)
       | (clear h; intro b h; (try replace h := tH h); refine tB ?_)
       | fail)
    | (refine hK1 _ ?_; exact tU; done)
    | (refine bfork (fun hc => ?_) (fun hc => ?_))
    | (refine ⟨_, getE_map (inb_toNat (by assumption)), ?_⟩; (first | rw [M.lok_compU] | rw [M.lokD_compU]); refine tB ?_)
    | (refine And.intro (ltb_of (by assumption)) ?_)
    | (refine And.intro (by omega) ?_)
    | fail)
theorem W_rights_among : ∀ {n_ : Int} {low_ : Int} {high_ : Int} {y : Bool}, F_rights_among n_ low_ high_ = some y → ACall Tryd.prog 34 [.int .i64 n_, .int .i64 low_, .int .i64 high_] [] (fun r H => r = .bool y ∧ H = []) :=
  fun hy => Wq_rights_among _ _ _ (Q := fun z => z = _) ⟨_, hy, rfl⟩ fun z e => by subst e; exact ⟨rfl, rfl⟩

def F_rights_credential (x_ : GRights) (c_ : Int) : Option Bool :=
  chk (in64 (x_.Credentials - 1)) ((F_rights_among c_ 0 (x_.Credentials - 1)).bind fun y2 => some y2)

/- leakresponse/rights.credential -/
def mc_rights_credential : MC :=
  (.seq (.reg [⟨.box (.t 0), (some 2), none⟩,
    ⟨.mv (.c (.bool false)), (some 4), none⟩])
  (.seq (.reg [⟨.mv (.t 1), (some 5), none⟩,
    ⟨.fad 0 (.t 2), (some 6), none⟩,
    ⟨.ld none (.t 6), (some 7), none⟩,
    ⟨.bin true .sub (.t 7) (.c (.int .i64 1)), (some 8), none⟩,
    ⟨.call (.f 34) [(.t 5), (.c (.int .i64 0)), (.t 8)] [] [], (some 9), none⟩,
    ⟨.mv (.t 9), (some 4), none⟩])
  .ret))
theorem ok_rights_credential : mc_rights_credential.ok Tryd.prog Tryd.f36.ntmps (Tryd.f36.body.getD .skip) = true := by kernel_rfl

set_option maxHeartbeats 2000000 in
theorem Wq_rights_credential (x_ : GRights) (c_ : Int) {Q : Bool → Prop} {Q' : V → Heap → Prop} (h : Ok (F_rights_credential x_ c_) Q) (hQ : ∀ z, Q z → Q' (.bool z) []) : ACall Tryd.prog 36 [GRights.v x_, .int .i64 c_] [] Q' := by
  refine acall_machN [] [] [.t 4] Tryd.func36 rfl (by kernel_rfl) ok_rights_credential (by kernel_rfl) rfl rfl fun M hf => ?_
  clear hf
  unfold F_rights_credential at h
  unfold mc_rights_credential
  (try replace h := tH h)
  refine tB ?_
  repeat' (first
    | (exact hQ _ h)
    | (exact trivial)
    | (exact False.elim h)
    | (have hq := hQ _ h; replace hq := tH hq; exact hq)
    | (refine oblg h ?_; clear h; intro hc h)
    | (refine roomG h ?_; clear h; intro hc h)
    | (refine fork h ?_ ?_ <;> clear h <;> intro hc h)
    | (refine forkS h ?_ ?_ <;> clear h <;> intro hc h)
    | (refine And.intro (chkD_of rfl) ?_)
    | (obtain ⟨y, hy, h⟩ := h; have hw := W_rights_among hy; (try replace hw := tH hw); (first | (refine sCall_of hw rfl rfl ?_; rw [M.lok_eq]) | (refine sCallD_of hw rfl rfl ?_; rw [M.lokD_eq])); clear hw; clear hy; refine tB ?_)
    | (refine ⟨_, getE_map (inb_toNat (by assumption)), ?_⟩; (first | rw [M.lok_compU] | rw [M.lokD_compU]); refine tB ?_)
    | (refine And.intro (ltb_of (by assumption)) ?_)
    | (refine And.intro (by omega) ?_)
    | fail)
theorem W_rights_credential : ∀ {x_ : GRights} {c_ : Int} {y : Bool}, F_rights_credential x_ c_ = some y → ACall Tryd.prog 36 [GRights.v x_, .int .i64 c_] [] (fun r H => r = .bool y ∧ H = []) :=
  fun hy => Wq_rights_credential _ _ (Q := fun z => z = _) ⟨_, hy, rfl⟩ fun z e => by subst e; exact ⟨rfl, rfl⟩

def F_rights_resource (x_ : GRights) (r_ : Int) : Option Bool :=
  chk (in64 (x_.Resources - 1)) ((F_rights_among r_ 0 (x_.Resources - 1)).bind fun y2 => some y2)

/- leakresponse/rights.resource -/
def mc_rights_resource : MC :=
  (.seq (.reg [⟨.box (.t 0), (some 2), none⟩,
    ⟨.mv (.c (.bool false)), (some 4), none⟩])
  (.seq (.reg [⟨.mv (.t 1), (some 5), none⟩,
    ⟨.fad 1 (.t 2), (some 6), none⟩,
    ⟨.ld none (.t 6), (some 7), none⟩,
    ⟨.bin true .sub (.t 7) (.c (.int .i64 1)), (some 8), none⟩,
    ⟨.call (.f 34) [(.t 5), (.c (.int .i64 0)), (.t 8)] [] [], (some 9), none⟩,
    ⟨.mv (.t 9), (some 4), none⟩])
  .ret))
theorem ok_rights_resource : mc_rights_resource.ok Tryd.prog Tryd.f37.ntmps (Tryd.f37.body.getD .skip) = true := by kernel_rfl

set_option maxHeartbeats 2000000 in
theorem Wq_rights_resource (x_ : GRights) (r_ : Int) {Q : Bool → Prop} {Q' : V → Heap → Prop} (h : Ok (F_rights_resource x_ r_) Q) (hQ : ∀ z, Q z → Q' (.bool z) []) : ACall Tryd.prog 37 [GRights.v x_, .int .i64 r_] [] Q' := by
  refine acall_machN [] [] [.t 4] Tryd.func37 rfl (by kernel_rfl) ok_rights_resource (by kernel_rfl) rfl rfl fun M hf => ?_
  clear hf
  unfold F_rights_resource at h
  unfold mc_rights_resource
  (try replace h := tH h)
  refine tB ?_
  repeat' (first
    | (exact hQ _ h)
    | (exact trivial)
    | (exact False.elim h)
    | (have hq := hQ _ h; replace hq := tH hq; exact hq)
    | (refine oblg h ?_; clear h; intro hc h)
    | (refine roomG h ?_; clear h; intro hc h)
    | (refine fork h ?_ ?_ <;> clear h <;> intro hc h)
    | (refine forkS h ?_ ?_ <;> clear h <;> intro hc h)
    | (refine And.intro (chkD_of rfl) ?_)
    | (obtain ⟨y, hy, h⟩ := h; have hw := W_rights_among hy; (try replace hw := tH hw); (first | (refine sCall_of hw rfl rfl ?_; rw [M.lok_eq]) | (refine sCallD_of hw rfl rfl ?_; rw [M.lokD_eq])); clear hw; clear hy; refine tB ?_)
    | (refine ⟨_, getE_map (inb_toNat (by assumption)), ?_⟩; (first | rw [M.lok_compU] | rw [M.lokD_compU]); refine tB ?_)
    | (refine And.intro (ltb_of (by assumption)) ?_)
    | (refine And.intro (by omega) ?_)
    | fail)
theorem W_rights_resource : ∀ {x_ : GRights} {r_ : Int} {y : Bool}, F_rights_resource x_ r_ = some y → ACall Tryd.prog 37 [GRights.v x_, .int .i64 r_] [] (fun r H => r = .bool y ∧ H = []) :=
  fun hy => Wq_rights_resource _ _ (Q := fun z => z = _) ⟨_, hy, rfl⟩ fun z e => by subst e; exact ⟨rfl, rfl⟩

def F_rights_Check_1 (g_ : GGrant) (p_ : GRights) : Option Bool :=
  (F_rights_credential p_ g_.Credential).bind fun y8 => jn (α := Bool) (bif (!y8) then some true else (F_rights_resource p_ g_.Resource).bind fun y10 => some (!y10)) fun j11 => jn (α := Bool) (bif j11 then some true else (F_rights_among g_.Right 1 3).bind fun y13 => some (!y13)) fun j14 => some j14

/- leakresponse/rights.Check$1 -/
@[irreducible] def mg_rights_Check_1_1 : List MOp := [⟨.ld (some 5) (.t 1), (some 10), (some (9, false))⟩,
    ⟨.fad 1 (.t 2), (some 11), (some (9, false))⟩,
    ⟨.ld none (.t 11), (some 12), (some (9, false))⟩,
    ⟨.call (.f 37) [(.t 10), (.t 12)] [] [], (some 13), (some (9, false))⟩,
    ⟨.not (.t 13), (some 14), (some (9, false))⟩,
    ⟨.pick (.t 9) (.c (.bool true)) (.t 14), (some 15), none⟩]
@[irreducible] def mg_rights_Check_1_2 : List MOp := [⟨.fad 2 (.t 2), (some 17), (some (16, false))⟩,
    ⟨.ld none (.t 17), (some 18), (some (16, false))⟩,
    ⟨.call (.f 34) [(.t 18), (.c (.int .i64 1)), (.c (.int .i64 3))] [] [], (some 19), (some (16, false))⟩,
    ⟨.not (.t 19), (some 20), (some (16, false))⟩,
    ⟨.pick (.t 16) (.c (.bool true)) (.t 20), (some 21), none⟩]
def mc_rights_Check_1 : MC :=
  (.seq (.reg [⟨.box (.t 0), (some 2), none⟩,
    ⟨.mv (.c (.bool false)), (some 3), none⟩])
  (.seq (.regI [.op ⟨.ld (some 5) (.t 1), (some 4), none⟩,
    .op ⟨.fad 0 (.t 2), (some 5), none⟩,
    .op ⟨.ld none (.t 5), (some 6), none⟩,
    .op ⟨.call (.f 36) [(.t 4), (.t 6)] [] [], (some 7), none⟩,
    .op ⟨.not (.t 7), (some 8), none⟩,
    .op ⟨.mv (.t 8), (some 9), none⟩,
    .grp mg_rights_Check_1_1,
    .op ⟨.mv (.t 15), (some 16), none⟩,
    .grp mg_rights_Check_1_2,
    .op ⟨.mv (.t 21), (some 3), none⟩])
  .ret))
theorem ok_rights_Check_1 : mc_rights_Check_1.ok Tryd.prog Tryd.f35.ntmps (Tryd.f35.body.getD .skip) = true := by kernel_rfl

set_option maxHeartbeats 2000000 in
theorem Wq_rights_Check_1 (g_ : GGrant) (p_ : GRights) {Q : Bool → Prop} {Q' : V → Heap → Prop} (h : Ok (F_rights_Check_1 g_ p_) Q) (hQ : ∀ z, Q z → Q' (.bool z) [(1000, .cells [.int .i64 p_.Credentials, .int .i64 p_.Resources, .sl (p_.Grants.map GGrant.v), .sl (p_.Stores.map GStore.v), .sl (p_.Mints.map GMint.v)])]) : ACall Tryd.prog 35 [GGrant.v g_, .ptr 1000 0] [(1000, .cells [.int .i64 p_.Credentials, .int .i64 p_.Resources, .sl (p_.Grants.map GGrant.v), .sl (p_.Stores.map GStore.v), .sl (p_.Mints.map GMint.v)])] Q' := by
  refine acall_machN [] [1000] [.t 3] Tryd.func35 rfl (by kernel_rfl) ok_rights_Check_1 (by kernel_rfl) rfl rfl fun M hf => ?_
  clear hf
  unfold F_rights_Check_1 at h
  unfold mc_rights_Check_1
  (try replace h := tH h)
  refine tB ?_
  repeat' (first
    | (exact hQ _ h)
    | (exact trivial)
    | (exact False.elim h)
    | (have hq := hQ _ h; replace hq := tH hq; exact hq)
    | (refine oblg h ?_; clear h; intro hc h)
    | (refine roomG h ?_; clear h; intro hc h)
    | (refine fork h ?_ ?_ <;> clear h <;> intro hc h)
    | (refine forkS h ?_ ?_ <;> clear h <;> intro hc h)
    | (refine And.intro (chkD_of rfl) ?_)
    | (obtain ⟨y, hy, h⟩ := h; have hw := W_rights_credential hy; (try replace hw := tH hw); (first | (refine sCall_of hw rfl rfl ?_; rw [M.lok_eq]) | (refine sCallD_of hw rfl rfl ?_; rw [M.lokD_eq])); clear hw; clear hy; refine tB ?_)
    | (obtain ⟨y, hy, h⟩ := h; have hw := W_rights_resource hy; (try replace hw := tH hw); (first | (refine sCall_of hw rfl rfl ?_; rw [M.lok_eq]) | (refine sCallD_of hw rfl rfl ?_; rw [M.lokD_eq])); clear hw; clear hy; refine tB ?_)
    | (obtain ⟨y, hy, h⟩ := h; have hw := W_rights_among hy; (try replace hw := tH hw); (first | (refine sCall_of hw rfl rfl ?_; rw [M.lok_eq]) | (refine sCallD_of hw rfl rfl ?_; rw [M.lokD_eq])); clear hw; clear hy; refine tB ?_)
    | (refine M.gj1 (ms := mg_rights_Check_1_2) [3] [1000] (fun y => [(21, .bool y)]) (fun y => []) h ?_ ?_ <;> first
       | (clear h; intro Qn K hK1 h; unfold mg_rights_Check_1_2; (try replace h := tH h); refine tB ?_)
       | (clear h; intro y h; (try replace h := tH h); refine tB ?_)
       | fail)
    | (refine M.gj1 (ms := mg_rights_Check_1_1) [2, 3] [2, 1000] (fun y => [(15, .bool y)]) (fun y => []) h ?_ ?_ <;> first
       | (clear h; intro Qn K hK2 h; unfold mg_rights_Check_1_1; (try replace h := tH h); refine tB ?_)
       | (clear h; intro y h; (try replace h := tH h); refine tB ?_)
       | fail)
    | (refine hK1 _ ?_; (try refine tB ?_); refine ⟨_, h, ?_⟩; exact tU0; done)
    | (refine hK2 _ ?_; (try refine tB ?_); refine ⟨_, h, ?_⟩; exact tU0; done)
    | (refine ⟨_, getE_map (inb_toNat (by assumption)), ?_⟩; (first | rw [M.lok_compU] | rw [M.lokD_compU]); refine tB ?_)
    | (refine And.intro (ltb_of (by assumption)) ?_)
    | (refine And.intro (by omega) ?_)
    | fail)
theorem W_rights_Check_1 : ∀ {g_ : GGrant} {p_ : GRights} {y : Bool}, F_rights_Check_1 g_ p_ = some y → ACall Tryd.prog 35 [GGrant.v g_, .ptr 1000 0] [(1000, .cells [.int .i64 p_.Credentials, .int .i64 p_.Resources, .sl (p_.Grants.map GGrant.v), .sl (p_.Stores.map GStore.v), .sl (p_.Mints.map GMint.v)])] (fun r H => r = .bool y ∧ H = [(1000, .cells [.int .i64 p_.Credentials, .int .i64 p_.Resources, .sl (p_.Grants.map GGrant.v), .sl (p_.Stores.map GStore.v), .sl (p_.Mints.map GMint.v)])]) :=
  fun hy => Wq_rights_Check_1 _ _ (Q := fun z => z = _) ⟨_, hy, rfl⟩ fun z e => by subst e; exact ⟨rfl, rfl⟩

def F_slices_IndexFunc_api_Grant_api_Grant_of_rights_Check_1_L1 (fc0_ : GRights) (k35 : Int) (a36 : GGrant) (x34 : Unit) : Option (Fl Unit Int) :=
  (F_rights_Check_1 a36 fc0_).bind fun y44 => bif y44 then some (.ex k35) else some (.nx ())
def F_slices_IndexFunc_api_Grant_api_Grant_of_rights_Check_1 (s_ : List GGrant) (fc0_ : GRights) : Option Int :=
  (forL (F_slices_IndexFunc_api_Grant_api_Grant_of_rights_Check_1_L1 fc0_) s_ 0 ()).bind fun o => o.elim (fun x45 => some (-1)) (fun r46 => some r46)

/- slices.IndexFunc[[]leakresponse/api.Grant,leakresponse/api.Grant] -/
@[irreducible] def mc_slices_IndexFunc_api_Grant_api_Grant_of_rights_Check_1_L1 : MC :=
  (.seq (.reg [⟨.bin false .lss (.t 8) (.t 7), (some 9), none⟩])
  (.seq (.cond (.t 9)
    .skip
    (.exit 0))
  (.seq (.block 1
  (.seq (.reg [⟨.mv (.t 8), (some 10), none⟩,
    ⟨.mv (.t 10), (some 5), none⟩])
  (.seq (.reg [⟨.mv (.t 1), (some 11), none⟩,
    ⟨.mv (.t 0), (some 12), none⟩,
    ⟨.mv (.t 5), (some 13), none⟩,
    ⟨.iad 3 (.t 12) (.t 13), (some 14), none⟩,
    ⟨.ld (some 3) (.t 14), (some 15), none⟩,
    ⟨.call (.t 11) [(.t 15)] [1000] [], (some 16), none⟩])
  (.cond (.t 16)
    (.seq (.reg [⟨.mv (.t 5), (some 17), none⟩,
      ⟨.mv (.t 17), (some 4), none⟩])
    .ret)
    .skip))))
  (.reg [⟨.bin true .add (.t 8) (.c (.int .i64 1)), (some 18), none⟩,
    ⟨.mv (.t 18), (some 8), none⟩]))))
def mc_slices_IndexFunc_api_Grant_api_Grant_of_rights_Check_1 : MC :=
  (.seq (.reg [⟨.mv (.c (.int .i64 0)), (some 4), none⟩])
  (.seq (.seq (.reg [⟨.mv (.t 0), (some 6), none⟩,
    ⟨.len false (.t 6), (some 7), none⟩,
    ⟨.mv (.c (.int .i64 0)), (some 8), none⟩])
  (.block 0
  (.loop mc_slices_IndexFunc_api_Grant_api_Grant_of_rights_Check_1_L1)))
  (.seq (.reg [⟨.mv (.c (.int .i64 (-1))), (some 4), none⟩])
  .ret)))
theorem ok_slices_IndexFunc_api_Grant_api_Grant_of_rights_Check_1 : mc_slices_IndexFunc_api_Grant_api_Grant_of_rights_Check_1.ok Tryd.prog Tryd.f47.ntmps (Tryd.f47.body.getD .skip) = true := by kernel_rfl

set_option maxHeartbeats 2000000 in
theorem Wq_slices_IndexFunc_api_Grant_api_Grant_of_rights_Check_1 (s_ : List GGrant) (fc0_ : GRights) {Q : Int → Prop} {Q' : V → Heap → Prop} (h : Ok (F_slices_IndexFunc_api_Grant_api_Grant_of_rights_Check_1 s_ fc0_) Q) (hQ : ∀ z, Q z → Q' (.int .i64 z) [(1000, .cells [.int .i64 fc0_.Credentials, .int .i64 fc0_.Resources, .sl (fc0_.Grants.map GGrant.v), .sl (fc0_.Stores.map GStore.v), .sl (fc0_.Mints.map GMint.v)])]) : ACall Tryd.prog 47 [.sl (s_.map GGrant.v), .fn (.func 35) [.ptr 1000 0]] [(1000, .cells [.int .i64 fc0_.Credentials, .int .i64 fc0_.Resources, .sl (fc0_.Grants.map GGrant.v), .sl (fc0_.Stores.map GStore.v), .sl (fc0_.Mints.map GMint.v)])] Q' := by
  refine acall_machN [] [1000] [.t 4] Tryd.func47 rfl (by kernel_rfl) ok_slices_IndexFunc_api_Grant_api_Grant_of_rights_Check_1 (by kernel_rfl) rfl rfl fun M hf => ?_
  clear hf
  unfold F_slices_IndexFunc_api_Grant_api_Grant_of_rights_Check_1 at h
  unfold mc_slices_IndexFunc_api_Grant_api_Grant_of_rights_Check_1
  (try replace h := tH h)
  refine tB ?_
  repeat' (first
    | (exact hQ _ h)
    | (exact trivial)
    | (exact False.elim h)
    | (have hq := hQ _ h; replace hq := tH hq; exact hq)
    | (refine oblg h ?_; clear h; intro hc h)
    | (refine roomG h ?_; clear h; intro hc h)
    | (refine fork h ?_ ?_ <;> clear h <;> intro hc h)
    | (refine forkS h ?_ ?_ <;> clear h <;> intro hc h)
    | (refine And.intro (chkD_of rfl) ?_)
    | (obtain ⟨y, hy, h⟩ := h; have hw := W_rights_Check_1 hy; (try replace hw := tH hw); (first | (refine sCall_of hw rfl rfl ?_; rw [M.lok_eq]) | (refine sCallD_of hw rfl rfl ?_; rw [M.lokD_eq])); clear hw; clear hy; refine tB ?_)
    | (refine M.for1 (b := mc_slices_IndexFunc_api_Grant_api_Grant_of_rights_Check_1_L1) 8 [0, 1, 7] [1000] (fun x => []) (fun x => []) [] h ?_ ?_ ?_ <;> first
       | (clear h; intro k a x Qn K hK1 hkN1 ha1 h hf; have hl := fact_int (factsE_find (n := 7) hf.1 rfl); clear hf; have hkd := kD hkN1; have hkB1 := kB hkN1; have hkI1 : in64 ((k : Int) + 1) = true := in64_iff.2 ⟨by omega, by (try simp only [List.length_cons, List.length_nil] at hkN1); omega⟩; unfold F_slices_IndexFunc_api_Grant_api_Grant_of_rights_Check_1_L1 at h; unfold mc_slices_IndexFunc_api_Grant_api_Grant_of_rights_Check_1_L1; (try replace h := tH h); refine tK ha1 hkd hkN1 hkB1 hkI1 ?_)
       | (clear h; intro x K h; replace h := And.left (And.intro h trivial); unfold mc_slices_IndexFunc_api_Grant_api_Grant_of_rights_Check_1_L1; (try replace h := tH h); refine tB ?_)
       | (clear h; (try refine tB ?_); exact tU0; done)
       | fail)
    | (refine And.intro hkI1 ?_)
    | (refine And.intro hkN1 ?_)
    | (refine And.intro hkB1 ?_)
    | (simp only [ha1])
    | (refine hK1 _ ?_; (try refine tB ?_); refine ⟨_, h, ?_⟩; exact tU0; done)
    | (refine ⟨_, getE_map (inb_toNat (by assumption)), ?_⟩; (first | rw [M.lok_compU] | rw [M.lokD_compU]); refine tB ?_)
    | (refine And.intro (ltb_of (by assumption)) ?_)
    | (refine And.intro (by omega) ?_)
    | fail)
theorem W_slices_IndexFunc_api_Grant_api_Grant_of_rights_Check_1 : ∀ {s_ : List GGrant} {fc0_ : GRights} {y : Int}, F_slices_IndexFunc_api_Grant_api_Grant_of_rights_Check_1 s_ fc0_ = some y → ACall Tryd.prog 47 [.sl (s_.map GGrant.v), .fn (.func 35) [.ptr 1000 0]] [(1000, .cells [.int .i64 fc0_.Credentials, .int .i64 fc0_.Resources, .sl (fc0_.Grants.map GGrant.v), .sl (fc0_.Stores.map GStore.v), .sl (fc0_.Mints.map GMint.v)])] (fun r H => r = .int .i64 y ∧ H = [(1000, .cells [.int .i64 fc0_.Credentials, .int .i64 fc0_.Resources, .sl (fc0_.Grants.map GGrant.v), .sl (fc0_.Stores.map GStore.v), .sl (fc0_.Mints.map GMint.v)])]) :=
  fun hy => Wq_slices_IndexFunc_api_Grant_api_Grant_of_rights_Check_1 _ _ (Q := fun z => z = _) ⟨_, hy, rfl⟩ fun z e => by subst e; exact ⟨rfl, rfl⟩

def F_slices_ContainsFunc_api_Grant_api_Grant_of_rights_Check_1 (s_ : List GGrant) (fc0_ : GRights) : Option Bool :=
  (F_slices_IndexFunc_api_Grant_api_Grant_of_rights_Check_1 s_ fc0_).bind fun y2 => some (decide (0 ≤ y2))

/- slices.ContainsFunc[[]leakresponse/api.Grant,leakresponse/api.Grant] -/
def mc_slices_ContainsFunc_api_Grant_api_Grant_of_rights_Check_1 : MC :=
  (.seq (.reg [⟨.mv (.c (.bool false)), (some 4), none⟩])
  (.seq (.reg [⟨.mv (.t 0), (some 5), none⟩,
    ⟨.mv (.t 1), (some 6), none⟩,
    ⟨.call (.f 47) [(.t 5), (.t 6)] [1000] [], (some 7), none⟩,
    ⟨.bin false .geq (.t 7) (.c (.int .i64 0)), (some 8), none⟩,
    ⟨.mv (.t 8), (some 4), none⟩])
  .ret))
theorem ok_slices_ContainsFunc_api_Grant_api_Grant_of_rights_Check_1 : mc_slices_ContainsFunc_api_Grant_api_Grant_of_rights_Check_1.ok Tryd.prog Tryd.f40.ntmps (Tryd.f40.body.getD .skip) = true := by kernel_rfl

set_option maxHeartbeats 2000000 in
theorem Wq_slices_ContainsFunc_api_Grant_api_Grant_of_rights_Check_1 (s_ : List GGrant) (fc0_ : GRights) {Q : Bool → Prop} {Q' : V → Heap → Prop} (h : Ok (F_slices_ContainsFunc_api_Grant_api_Grant_of_rights_Check_1 s_ fc0_) Q) (hQ : ∀ z, Q z → Q' (.bool z) [(1000, .cells [.int .i64 fc0_.Credentials, .int .i64 fc0_.Resources, .sl (fc0_.Grants.map GGrant.v), .sl (fc0_.Stores.map GStore.v), .sl (fc0_.Mints.map GMint.v)])]) : ACall Tryd.prog 40 [.sl (s_.map GGrant.v), .fn (.func 35) [.ptr 1000 0]] [(1000, .cells [.int .i64 fc0_.Credentials, .int .i64 fc0_.Resources, .sl (fc0_.Grants.map GGrant.v), .sl (fc0_.Stores.map GStore.v), .sl (fc0_.Mints.map GMint.v)])] Q' := by
  refine acall_machN [] [1000] [.t 4] Tryd.func40 rfl (by kernel_rfl) ok_slices_ContainsFunc_api_Grant_api_Grant_of_rights_Check_1 (by kernel_rfl) rfl rfl fun M hf => ?_
  clear hf
  unfold F_slices_ContainsFunc_api_Grant_api_Grant_of_rights_Check_1 at h
  unfold mc_slices_ContainsFunc_api_Grant_api_Grant_of_rights_Check_1
  (try replace h := tH h)
  refine tB ?_
  repeat' (first
    | (exact hQ _ h)
    | (exact trivial)
    | (exact False.elim h)
    | (have hq := hQ _ h; replace hq := tH hq; exact hq)
    | (refine oblg h ?_; clear h; intro hc h)
    | (refine roomG h ?_; clear h; intro hc h)
    | (refine fork h ?_ ?_ <;> clear h <;> intro hc h)
    | (refine forkS h ?_ ?_ <;> clear h <;> intro hc h)
    | (refine And.intro (chkD_of rfl) ?_)
    | (obtain ⟨y, hy, h⟩ := h; have hw := W_slices_IndexFunc_api_Grant_api_Grant_of_rights_Check_1 hy; (try replace hw := tH hw); (first | (refine sCall_of hw rfl rfl ?_; rw [M.lok_eq]) | (refine sCallD_of hw rfl rfl ?_; rw [M.lokD_eq])); clear hw; clear hy; refine tB ?_)
    | (refine ⟨_, getE_map (inb_toNat (by assumption)), ?_⟩; (first | rw [M.lok_compU] | rw [M.lokD_compU]); refine tB ?_)
    | (refine And.intro (ltb_of (by assumption)) ?_)
    | (refine And.intro (by omega) ?_)
    | fail)
theorem W_slices_ContainsFunc_api_Grant_api_Grant_of_rights_Check_1 : ∀ {s_ : List GGrant} {fc0_ : GRights} {y : Bool}, F_slices_ContainsFunc_api_Grant_api_Grant_of_rights_Check_1 s_ fc0_ = some y → ACall Tryd.prog 40 [.sl (s_.map GGrant.v), .fn (.func 35) [.ptr 1000 0]] [(1000, .cells [.int .i64 fc0_.Credentials, .int .i64 fc0_.Resources, .sl (fc0_.Grants.map GGrant.v), .sl (fc0_.Stores.map GStore.v), .sl (fc0_.Mints.map GMint.v)])] (fun r H => r = .bool y ∧ H = [(1000, .cells [.int .i64 fc0_.Credentials, .int .i64 fc0_.Resources, .sl (fc0_.Grants.map GGrant.v), .sl (fc0_.Stores.map GStore.v), .sl (fc0_.Mints.map GMint.v)])]) :=
  fun hy => Wq_slices_ContainsFunc_api_Grant_api_Grant_of_rights_Check_1 _ _ (Q := fun z => z = _) ⟨_, hy, rfl⟩ fun z e => by subst e; exact ⟨rfl, rfl⟩

def F_rights_Check_2 (s_ : GStore) (p_ : GRights) : Option Bool :=
  (F_rights_credential p_ s_.Credential).bind fun y5 => jn (α := Bool) (bif (!y5) then some true else (F_rights_resource p_ s_.Resource).bind fun y7 => some (!y7)) fun j8 => some j8

/- leakresponse/rights.Check$2 -/
@[irreducible] def mg_rights_Check_2_1 : List MOp := [⟨.ld (some 5) (.t 1), (some 10), (some (9, false))⟩,
    ⟨.fad 0 (.t 2), (some 11), (some (9, false))⟩,
    ⟨.ld none (.t 11), (some 12), (some (9, false))⟩,
    ⟨.call (.f 37) [(.t 10), (.t 12)] [] [], (some 13), (some (9, false))⟩,
    ⟨.not (.t 13), (some 14), (some (9, false))⟩,
    ⟨.pick (.t 9) (.c (.bool true)) (.t 14), (some 15), none⟩]
def mc_rights_Check_2 : MC :=
  (.seq (.reg [⟨.box (.t 0), (some 2), none⟩,
    ⟨.mv (.c (.bool false)), (some 3), none⟩])
  (.seq (.regI [.op ⟨.ld (some 5) (.t 1), (some 4), none⟩,
    .op ⟨.fad 1 (.t 2), (some 5), none⟩,
    .op ⟨.ld none (.t 5), (some 6), none⟩,
    .op ⟨.call (.f 36) [(.t 4), (.t 6)] [] [], (some 7), none⟩,
    .op ⟨.not (.t 7), (some 8), none⟩,
    .op ⟨.mv (.t 8), (some 9), none⟩,
    .grp mg_rights_Check_2_1,
    .op ⟨.mv (.t 15), (some 3), none⟩])
  .ret))
theorem ok_rights_Check_2 : mc_rights_Check_2.ok Tryd.prog Tryd.f38.ntmps (Tryd.f38.body.getD .skip) = true := by kernel_rfl

set_option maxHeartbeats 2000000 in
theorem Wq_rights_Check_2 (s_ : GStore) (p_ : GRights) {Q : Bool → Prop} {Q' : V → Heap → Prop} (h : Ok (F_rights_Check_2 s_ p_) Q) (hQ : ∀ z, Q z → Q' (.bool z) [(1000, .cells [.int .i64 p_.Credentials, .int .i64 p_.Resources, .sl (p_.Grants.map GGrant.v), .sl (p_.Stores.map GStore.v), .sl (p_.Mints.map GMint.v)])]) : ACall Tryd.prog 38 [GStore.v s_, .ptr 1000 0] [(1000, .cells [.int .i64 p_.Credentials, .int .i64 p_.Resources, .sl (p_.Grants.map GGrant.v), .sl (p_.Stores.map GStore.v), .sl (p_.Mints.map GMint.v)])] Q' := by
  refine acall_machN [] [1000] [.t 3] Tryd.func38 rfl (by kernel_rfl) ok_rights_Check_2 (by kernel_rfl) rfl rfl fun M hf => ?_
  clear hf
  unfold F_rights_Check_2 at h
  unfold mc_rights_Check_2
  (try replace h := tH h)
  refine tB ?_
  repeat' (first
    | (exact hQ _ h)
    | (exact trivial)
    | (exact False.elim h)
    | (have hq := hQ _ h; replace hq := tH hq; exact hq)
    | (refine oblg h ?_; clear h; intro hc h)
    | (refine roomG h ?_; clear h; intro hc h)
    | (refine fork h ?_ ?_ <;> clear h <;> intro hc h)
    | (refine forkS h ?_ ?_ <;> clear h <;> intro hc h)
    | (refine And.intro (chkD_of rfl) ?_)
    | (obtain ⟨y, hy, h⟩ := h; have hw := W_rights_credential hy; (try replace hw := tH hw); (first | (refine sCall_of hw rfl rfl ?_; rw [M.lok_eq]) | (refine sCallD_of hw rfl rfl ?_; rw [M.lokD_eq])); clear hw; clear hy; refine tB ?_)
    | (obtain ⟨y, hy, h⟩ := h; have hw := W_rights_resource hy; (try replace hw := tH hw); (first | (refine sCall_of hw rfl rfl ?_; rw [M.lok_eq]) | (refine sCallD_of hw rfl rfl ?_; rw [M.lokD_eq])); clear hw; clear hy; refine tB ?_)
    | (refine M.gj1 (ms := mg_rights_Check_2_1) [3] [1000] (fun y => [(15, .bool y)]) (fun y => []) h ?_ ?_ <;> first
       | (clear h; intro Qn K hK1 h; unfold mg_rights_Check_2_1; (try replace h := tH h); refine tB ?_)
       | (clear h; intro y h; (try replace h := tH h); refine tB ?_)
       | fail)
    | (refine hK1 _ ?_; (try refine tB ?_); refine ⟨_, h, ?_⟩; exact tU0; done)
    | (refine ⟨_, getE_map (inb_toNat (by assumption)), ?_⟩; (first | rw [M.lok_compU] | rw [M.lokD_compU]); refine tB ?_)
    | (refine And.intro (ltb_of (by assumption)) ?_)
    | (refine And.intro (by omega) ?_)
    | fail)
theorem W_rights_Check_2 : ∀ {s_ : GStore} {p_ : GRights} {y : Bool}, F_rights_Check_2 s_ p_ = some y → ACall Tryd.prog 38 [GStore.v s_, .ptr 1000 0] [(1000, .cells [.int .i64 p_.Credentials, .int .i64 p_.Resources, .sl (p_.Grants.map GGrant.v), .sl (p_.Stores.map GStore.v), .sl (p_.Mints.map GMint.v)])] (fun r H => r = .bool y ∧ H = [(1000, .cells [.int .i64 p_.Credentials, .int .i64 p_.Resources, .sl (p_.Grants.map GGrant.v), .sl (p_.Stores.map GStore.v), .sl (p_.Mints.map GMint.v)])]) :=
  fun hy => Wq_rights_Check_2 _ _ (Q := fun z => z = _) ⟨_, hy, rfl⟩ fun z e => by subst e; exact ⟨rfl, rfl⟩

def F_slices_IndexFunc_api_Store_api_Store_of_rights_Check_2_L1 (fc0_ : GRights) (k35 : Int) (a36 : GStore) (x34 : Unit) : Option (Fl Unit Int) :=
  (F_rights_Check_2 a36 fc0_).bind fun y44 => bif y44 then some (.ex k35) else some (.nx ())
def F_slices_IndexFunc_api_Store_api_Store_of_rights_Check_2 (s_ : List GStore) (fc0_ : GRights) : Option Int :=
  (forL (F_slices_IndexFunc_api_Store_api_Store_of_rights_Check_2_L1 fc0_) s_ 0 ()).bind fun o => o.elim (fun x45 => some (-1)) (fun r46 => some r46)

/- slices.IndexFunc[[]leakresponse/api.Store,leakresponse/api.Store] -/
@[irreducible] def mc_slices_IndexFunc_api_Store_api_Store_of_rights_Check_2_L1 : MC :=
  (.seq (.reg [⟨.bin false .lss (.t 8) (.t 7), (some 9), none⟩])
  (.seq (.cond (.t 9)
    .skip
    (.exit 0))
  (.seq (.block 1
  (.seq (.reg [⟨.mv (.t 8), (some 10), none⟩,
    ⟨.mv (.t 10), (some 5), none⟩])
  (.seq (.reg [⟨.mv (.t 1), (some 11), none⟩,
    ⟨.mv (.t 0), (some 12), none⟩,
    ⟨.mv (.t 5), (some 13), none⟩,
    ⟨.iad 2 (.t 12) (.t 13), (some 14), none⟩,
    ⟨.ld (some 2) (.t 14), (some 15), none⟩,
    ⟨.call (.t 11) [(.t 15)] [1000] [], (some 16), none⟩])
  (.cond (.t 16)
    (.seq (.reg [⟨.mv (.t 5), (some 17), none⟩,
      ⟨.mv (.t 17), (some 4), none⟩])
    .ret)
    .skip))))
  (.reg [⟨.bin true .add (.t 8) (.c (.int .i64 1)), (some 18), none⟩,
    ⟨.mv (.t 18), (some 8), none⟩]))))
def mc_slices_IndexFunc_api_Store_api_Store_of_rights_Check_2 : MC :=
  (.seq (.reg [⟨.mv (.c (.int .i64 0)), (some 4), none⟩])
  (.seq (.seq (.reg [⟨.mv (.t 0), (some 6), none⟩,
    ⟨.len false (.t 6), (some 7), none⟩,
    ⟨.mv (.c (.int .i64 0)), (some 8), none⟩])
  (.block 0
  (.loop mc_slices_IndexFunc_api_Store_api_Store_of_rights_Check_2_L1)))
  (.seq (.reg [⟨.mv (.c (.int .i64 (-1))), (some 4), none⟩])
  .ret)))
theorem ok_slices_IndexFunc_api_Store_api_Store_of_rights_Check_2 : mc_slices_IndexFunc_api_Store_api_Store_of_rights_Check_2.ok Tryd.prog Tryd.f48.ntmps (Tryd.f48.body.getD .skip) = true := by kernel_rfl

set_option maxHeartbeats 2000000 in
theorem Wq_slices_IndexFunc_api_Store_api_Store_of_rights_Check_2 (s_ : List GStore) (fc0_ : GRights) {Q : Int → Prop} {Q' : V → Heap → Prop} (h : Ok (F_slices_IndexFunc_api_Store_api_Store_of_rights_Check_2 s_ fc0_) Q) (hQ : ∀ z, Q z → Q' (.int .i64 z) [(1000, .cells [.int .i64 fc0_.Credentials, .int .i64 fc0_.Resources, .sl (fc0_.Grants.map GGrant.v), .sl (fc0_.Stores.map GStore.v), .sl (fc0_.Mints.map GMint.v)])]) : ACall Tryd.prog 48 [.sl (s_.map GStore.v), .fn (.func 38) [.ptr 1000 0]] [(1000, .cells [.int .i64 fc0_.Credentials, .int .i64 fc0_.Resources, .sl (fc0_.Grants.map GGrant.v), .sl (fc0_.Stores.map GStore.v), .sl (fc0_.Mints.map GMint.v)])] Q' := by
  refine acall_machN [] [1000] [.t 4] Tryd.func48 rfl (by kernel_rfl) ok_slices_IndexFunc_api_Store_api_Store_of_rights_Check_2 (by kernel_rfl) rfl rfl fun M hf => ?_
  clear hf
  unfold F_slices_IndexFunc_api_Store_api_Store_of_rights_Check_2 at h
  unfold mc_slices_IndexFunc_api_Store_api_Store_of_rights_Check_2
  (try replace h := tH h)
  refine tB ?_
  repeat' (first
    | (exact hQ _ h)
    | (exact trivial)
    | (exact False.elim h)
    | (have hq := hQ _ h; replace hq := tH hq; exact hq)
    | (refine oblg h ?_; clear h; intro hc h)
    | (refine roomG h ?_; clear h; intro hc h)
    | (refine fork h ?_ ?_ <;> clear h <;> intro hc h)
    | (refine forkS h ?_ ?_ <;> clear h <;> intro hc h)
    | (refine And.intro (chkD_of rfl) ?_)
    | (obtain ⟨y, hy, h⟩ := h; have hw := W_rights_Check_2 hy; (try replace hw := tH hw); (first | (refine sCall_of hw rfl rfl ?_; rw [M.lok_eq]) | (refine sCallD_of hw rfl rfl ?_; rw [M.lokD_eq])); clear hw; clear hy; refine tB ?_)
    | (refine M.for1 (b := mc_slices_IndexFunc_api_Store_api_Store_of_rights_Check_2_L1) 8 [0, 1, 7] [1000] (fun x => []) (fun x => []) [] h ?_ ?_ ?_ <;> first
       | (clear h; intro k a x Qn K hK1 hkN1 ha1 h hf; have hl := fact_int (factsE_find (n := 7) hf.1 rfl); clear hf; have hkd := kD hkN1; have hkB1 := kB hkN1; have hkI1 : in64 ((k : Int) + 1) = true := in64_iff.2 ⟨by omega, by (try simp only [List.length_cons, List.length_nil] at hkN1); omega⟩; unfold F_slices_IndexFunc_api_Store_api_Store_of_rights_Check_2_L1 at h; unfold mc_slices_IndexFunc_api_Store_api_Store_of_rights_Check_2_L1; (try replace h := tH h); refine tK ha1 hkd hkN1 hkB1 hkI1 ?_)
       | (clear h; intro x K h; replace h := And.left (And.intro h trivial); unfold mc_slices_IndexFunc_api_Store_api_Store_of_rights_Check_2_L1; (try replace h := tH h); refine tB ?_)
       | (clear h; (try refine tB ?_); exact tU0; done)
       | fail)
    | (refine And.intro hkI1 ?_)
    | (refine And.intro hkN1 ?_)
    | (refine And.intro hkB1 ?_)
    | (simp only [ha1])
    | (refine hK1 _ ?_; (try refine tB ?_); refine ⟨_, h, ?_⟩; exact tU0; done)
    | (refine ⟨_, getE_map (inb_toNat (by assumption)), ?_⟩; (first | rw [M.lok_compU] | rw [M.lokD_compU]); refine tB ?_)
    | (refine And.intro (ltb_of (by assumption)) ?_)
    | (refine And.intro (by omega) ?_)
    | fail)
theorem W_slices_IndexFunc_api_Store_api_Store_of_rights_Check_2 : ∀ {s_ : List GStore} {fc0_ : GRights} {y : Int}, F_slices_IndexFunc_api_Store_api_Store_of_rights_Check_2 s_ fc0_ = some y → ACall Tryd.prog 48 [.sl (s_.map GStore.v), .fn (.func 38) [.ptr 1000 0]] [(1000, .cells [.int .i64 fc0_.Credentials, .int .i64 fc0_.Resources, .sl (fc0_.Grants.map GGrant.v), .sl (fc0_.Stores.map GStore.v), .sl (fc0_.Mints.map GMint.v)])] (fun r H => r = .int .i64 y ∧ H = [(1000, .cells [.int .i64 fc0_.Credentials, .int .i64 fc0_.Resources, .sl (fc0_.Grants.map GGrant.v), .sl (fc0_.Stores.map GStore.v), .sl (fc0_.Mints.map GMint.v)])]) :=
  fun hy => Wq_slices_IndexFunc_api_Store_api_Store_of_rights_Check_2 _ _ (Q := fun z => z = _) ⟨_, hy, rfl⟩ fun z e => by subst e; exact ⟨rfl, rfl⟩

def F_slices_ContainsFunc_api_Store_api_Store_of_rights_Check_2 (s_ : List GStore) (fc0_ : GRights) : Option Bool :=
  (F_slices_IndexFunc_api_Store_api_Store_of_rights_Check_2 s_ fc0_).bind fun y2 => some (decide (0 ≤ y2))

/- slices.ContainsFunc[[]leakresponse/api.Store,leakresponse/api.Store] -/
def mc_slices_ContainsFunc_api_Store_api_Store_of_rights_Check_2 : MC :=
  (.seq (.reg [⟨.mv (.c (.bool false)), (some 4), none⟩])
  (.seq (.reg [⟨.mv (.t 0), (some 5), none⟩,
    ⟨.mv (.t 1), (some 6), none⟩,
    ⟨.call (.f 48) [(.t 5), (.t 6)] [1000] [], (some 7), none⟩,
    ⟨.bin false .geq (.t 7) (.c (.int .i64 0)), (some 8), none⟩,
    ⟨.mv (.t 8), (some 4), none⟩])
  .ret))
theorem ok_slices_ContainsFunc_api_Store_api_Store_of_rights_Check_2 : mc_slices_ContainsFunc_api_Store_api_Store_of_rights_Check_2.ok Tryd.prog Tryd.f41.ntmps (Tryd.f41.body.getD .skip) = true := by kernel_rfl

set_option maxHeartbeats 2000000 in
theorem Wq_slices_ContainsFunc_api_Store_api_Store_of_rights_Check_2 (s_ : List GStore) (fc0_ : GRights) {Q : Bool → Prop} {Q' : V → Heap → Prop} (h : Ok (F_slices_ContainsFunc_api_Store_api_Store_of_rights_Check_2 s_ fc0_) Q) (hQ : ∀ z, Q z → Q' (.bool z) [(1000, .cells [.int .i64 fc0_.Credentials, .int .i64 fc0_.Resources, .sl (fc0_.Grants.map GGrant.v), .sl (fc0_.Stores.map GStore.v), .sl (fc0_.Mints.map GMint.v)])]) : ACall Tryd.prog 41 [.sl (s_.map GStore.v), .fn (.func 38) [.ptr 1000 0]] [(1000, .cells [.int .i64 fc0_.Credentials, .int .i64 fc0_.Resources, .sl (fc0_.Grants.map GGrant.v), .sl (fc0_.Stores.map GStore.v), .sl (fc0_.Mints.map GMint.v)])] Q' := by
  refine acall_machN [] [1000] [.t 4] Tryd.func41 rfl (by kernel_rfl) ok_slices_ContainsFunc_api_Store_api_Store_of_rights_Check_2 (by kernel_rfl) rfl rfl fun M hf => ?_
  clear hf
  unfold F_slices_ContainsFunc_api_Store_api_Store_of_rights_Check_2 at h
  unfold mc_slices_ContainsFunc_api_Store_api_Store_of_rights_Check_2
  (try replace h := tH h)
  refine tB ?_
  repeat' (first
    | (exact hQ _ h)
    | (exact trivial)
    | (exact False.elim h)
    | (have hq := hQ _ h; replace hq := tH hq; exact hq)
    | (refine oblg h ?_; clear h; intro hc h)
    | (refine roomG h ?_; clear h; intro hc h)
    | (refine fork h ?_ ?_ <;> clear h <;> intro hc h)
    | (refine forkS h ?_ ?_ <;> clear h <;> intro hc h)
    | (refine And.intro (chkD_of rfl) ?_)
    | (obtain ⟨y, hy, h⟩ := h; have hw := W_slices_IndexFunc_api_Store_api_Store_of_rights_Check_2 hy; (try replace hw := tH hw); (first | (refine sCall_of hw rfl rfl ?_; rw [M.lok_eq]) | (refine sCallD_of hw rfl rfl ?_; rw [M.lokD_eq])); clear hw; clear hy; refine tB ?_)
    | (refine ⟨_, getE_map (inb_toNat (by assumption)), ?_⟩; (first | rw [M.lok_compU] | rw [M.lokD_compU]); refine tB ?_)
    | (refine And.intro (ltb_of (by assumption)) ?_)
    | (refine And.intro (by omega) ?_)
    | fail)
theorem W_slices_ContainsFunc_api_Store_api_Store_of_rights_Check_2 : ∀ {s_ : List GStore} {fc0_ : GRights} {y : Bool}, F_slices_ContainsFunc_api_Store_api_Store_of_rights_Check_2 s_ fc0_ = some y → ACall Tryd.prog 41 [.sl (s_.map GStore.v), .fn (.func 38) [.ptr 1000 0]] [(1000, .cells [.int .i64 fc0_.Credentials, .int .i64 fc0_.Resources, .sl (fc0_.Grants.map GGrant.v), .sl (fc0_.Stores.map GStore.v), .sl (fc0_.Mints.map GMint.v)])] (fun r H => r = .bool y ∧ H = [(1000, .cells [.int .i64 fc0_.Credentials, .int .i64 fc0_.Resources, .sl (fc0_.Grants.map GGrant.v), .sl (fc0_.Stores.map GStore.v), .sl (fc0_.Mints.map GMint.v)])]) :=
  fun hy => Wq_slices_ContainsFunc_api_Store_api_Store_of_rights_Check_2 _ _ (Q := fun z => z = _) ⟨_, hy, rfl⟩ fun z e => by subst e; exact ⟨rfl, rfl⟩

def F_rights_Check_3 (m_ : GMint) (p_ : GRights) : Option Bool :=
  (F_rights_credential p_ m_.From).bind fun y5 => jn (α := Bool) (bif (!y5) then some true else (F_rights_credential p_ m_.To).bind fun y7 => some (!y7)) fun j8 => some j8

/- leakresponse/rights.Check$3 -/
@[irreducible] def mg_rights_Check_3_1 : List MOp := [⟨.ld (some 5) (.t 1), (some 10), (some (9, false))⟩,
    ⟨.fad 1 (.t 2), (some 11), (some (9, false))⟩,
    ⟨.ld none (.t 11), (some 12), (some (9, false))⟩,
    ⟨.call (.f 36) [(.t 10), (.t 12)] [] [], (some 13), (some (9, false))⟩,
    ⟨.not (.t 13), (some 14), (some (9, false))⟩,
    ⟨.pick (.t 9) (.c (.bool true)) (.t 14), (some 15), none⟩]
def mc_rights_Check_3 : MC :=
  (.seq (.reg [⟨.box (.t 0), (some 2), none⟩,
    ⟨.mv (.c (.bool false)), (some 3), none⟩])
  (.seq (.regI [.op ⟨.ld (some 5) (.t 1), (some 4), none⟩,
    .op ⟨.fad 0 (.t 2), (some 5), none⟩,
    .op ⟨.ld none (.t 5), (some 6), none⟩,
    .op ⟨.call (.f 36) [(.t 4), (.t 6)] [] [], (some 7), none⟩,
    .op ⟨.not (.t 7), (some 8), none⟩,
    .op ⟨.mv (.t 8), (some 9), none⟩,
    .grp mg_rights_Check_3_1,
    .op ⟨.mv (.t 15), (some 3), none⟩])
  .ret))
theorem ok_rights_Check_3 : mc_rights_Check_3.ok Tryd.prog Tryd.f39.ntmps (Tryd.f39.body.getD .skip) = true := by kernel_rfl

set_option maxHeartbeats 2000000 in
theorem Wq_rights_Check_3 (m_ : GMint) (p_ : GRights) {Q : Bool → Prop} {Q' : V → Heap → Prop} (h : Ok (F_rights_Check_3 m_ p_) Q) (hQ : ∀ z, Q z → Q' (.bool z) [(1000, .cells [.int .i64 p_.Credentials, .int .i64 p_.Resources, .sl (p_.Grants.map GGrant.v), .sl (p_.Stores.map GStore.v), .sl (p_.Mints.map GMint.v)])]) : ACall Tryd.prog 39 [GMint.v m_, .ptr 1000 0] [(1000, .cells [.int .i64 p_.Credentials, .int .i64 p_.Resources, .sl (p_.Grants.map GGrant.v), .sl (p_.Stores.map GStore.v), .sl (p_.Mints.map GMint.v)])] Q' := by
  refine acall_machN [] [1000] [.t 3] Tryd.func39 rfl (by kernel_rfl) ok_rights_Check_3 (by kernel_rfl) rfl rfl fun M hf => ?_
  clear hf
  unfold F_rights_Check_3 at h
  unfold mc_rights_Check_3
  (try replace h := tH h)
  refine tB ?_
  repeat' (first
    | (exact hQ _ h)
    | (exact trivial)
    | (exact False.elim h)
    | (have hq := hQ _ h; replace hq := tH hq; exact hq)
    | (refine oblg h ?_; clear h; intro hc h)
    | (refine roomG h ?_; clear h; intro hc h)
    | (refine fork h ?_ ?_ <;> clear h <;> intro hc h)
    | (refine forkS h ?_ ?_ <;> clear h <;> intro hc h)
    | (refine And.intro (chkD_of rfl) ?_)
    | (obtain ⟨y, hy, h⟩ := h; have hw := W_rights_credential hy; (try replace hw := tH hw); (first | (refine sCall_of hw rfl rfl ?_; rw [M.lok_eq]) | (refine sCallD_of hw rfl rfl ?_; rw [M.lokD_eq])); clear hw; clear hy; refine tB ?_)
    | (refine M.gj1 (ms := mg_rights_Check_3_1) [3] [1000] (fun y => [(15, .bool y)]) (fun y => []) h ?_ ?_ <;> first
       | (clear h; intro Qn K hK1 h; unfold mg_rights_Check_3_1; (try replace h := tH h); refine tB ?_)
       | (clear h; intro y h; (try replace h := tH h); refine tB ?_)
       | fail)
    | (refine hK1 _ ?_; (try refine tB ?_); refine ⟨_, h, ?_⟩; exact tU0; done)
    | (refine ⟨_, getE_map (inb_toNat (by assumption)), ?_⟩; (first | rw [M.lok_compU] | rw [M.lokD_compU]); refine tB ?_)
    | (refine And.intro (ltb_of (by assumption)) ?_)
    | (refine And.intro (by omega) ?_)
    | fail)
theorem W_rights_Check_3 : ∀ {m_ : GMint} {p_ : GRights} {y : Bool}, F_rights_Check_3 m_ p_ = some y → ACall Tryd.prog 39 [GMint.v m_, .ptr 1000 0] [(1000, .cells [.int .i64 p_.Credentials, .int .i64 p_.Resources, .sl (p_.Grants.map GGrant.v), .sl (p_.Stores.map GStore.v), .sl (p_.Mints.map GMint.v)])] (fun r H => r = .bool y ∧ H = [(1000, .cells [.int .i64 p_.Credentials, .int .i64 p_.Resources, .sl (p_.Grants.map GGrant.v), .sl (p_.Stores.map GStore.v), .sl (p_.Mints.map GMint.v)])]) :=
  fun hy => Wq_rights_Check_3 _ _ (Q := fun z => z = _) ⟨_, hy, rfl⟩ fun z e => by subst e; exact ⟨rfl, rfl⟩

def F_slices_IndexFunc_api_Mint_api_Mint_of_rights_Check_3_L1 (fc0_ : GRights) (k35 : Int) (a36 : GMint) (x34 : Unit) : Option (Fl Unit Int) :=
  (F_rights_Check_3 a36 fc0_).bind fun y44 => bif y44 then some (.ex k35) else some (.nx ())
def F_slices_IndexFunc_api_Mint_api_Mint_of_rights_Check_3 (s_ : List GMint) (fc0_ : GRights) : Option Int :=
  (forL (F_slices_IndexFunc_api_Mint_api_Mint_of_rights_Check_3_L1 fc0_) s_ 0 ()).bind fun o => o.elim (fun x45 => some (-1)) (fun r46 => some r46)

/- slices.IndexFunc[[]leakresponse/api.Mint,leakresponse/api.Mint] -/
@[irreducible] def mc_slices_IndexFunc_api_Mint_api_Mint_of_rights_Check_3_L1 : MC :=
  (.seq (.reg [⟨.bin false .lss (.t 8) (.t 7), (some 9), none⟩])
  (.seq (.cond (.t 9)
    .skip
    (.exit 0))
  (.seq (.block 1
  (.seq (.reg [⟨.mv (.t 8), (some 10), none⟩,
    ⟨.mv (.t 10), (some 5), none⟩])
  (.seq (.reg [⟨.mv (.t 1), (some 11), none⟩,
    ⟨.mv (.t 0), (some 12), none⟩,
    ⟨.mv (.t 5), (some 13), none⟩,
    ⟨.iad 2 (.t 12) (.t 13), (some 14), none⟩,
    ⟨.ld (some 2) (.t 14), (some 15), none⟩,
    ⟨.call (.t 11) [(.t 15)] [1000] [], (some 16), none⟩])
  (.cond (.t 16)
    (.seq (.reg [⟨.mv (.t 5), (some 17), none⟩,
      ⟨.mv (.t 17), (some 4), none⟩])
    .ret)
    .skip))))
  (.reg [⟨.bin true .add (.t 8) (.c (.int .i64 1)), (some 18), none⟩,
    ⟨.mv (.t 18), (some 8), none⟩]))))
def mc_slices_IndexFunc_api_Mint_api_Mint_of_rights_Check_3 : MC :=
  (.seq (.reg [⟨.mv (.c (.int .i64 0)), (some 4), none⟩])
  (.seq (.seq (.reg [⟨.mv (.t 0), (some 6), none⟩,
    ⟨.len false (.t 6), (some 7), none⟩,
    ⟨.mv (.c (.int .i64 0)), (some 8), none⟩])
  (.block 0
  (.loop mc_slices_IndexFunc_api_Mint_api_Mint_of_rights_Check_3_L1)))
  (.seq (.reg [⟨.mv (.c (.int .i64 (-1))), (some 4), none⟩])
  .ret)))
theorem ok_slices_IndexFunc_api_Mint_api_Mint_of_rights_Check_3 : mc_slices_IndexFunc_api_Mint_api_Mint_of_rights_Check_3.ok Tryd.prog Tryd.f49.ntmps (Tryd.f49.body.getD .skip) = true := by kernel_rfl

set_option maxHeartbeats 2000000 in
theorem Wq_slices_IndexFunc_api_Mint_api_Mint_of_rights_Check_3 (s_ : List GMint) (fc0_ : GRights) {Q : Int → Prop} {Q' : V → Heap → Prop} (h : Ok (F_slices_IndexFunc_api_Mint_api_Mint_of_rights_Check_3 s_ fc0_) Q) (hQ : ∀ z, Q z → Q' (.int .i64 z) [(1000, .cells [.int .i64 fc0_.Credentials, .int .i64 fc0_.Resources, .sl (fc0_.Grants.map GGrant.v), .sl (fc0_.Stores.map GStore.v), .sl (fc0_.Mints.map GMint.v)])]) : ACall Tryd.prog 49 [.sl (s_.map GMint.v), .fn (.func 39) [.ptr 1000 0]] [(1000, .cells [.int .i64 fc0_.Credentials, .int .i64 fc0_.Resources, .sl (fc0_.Grants.map GGrant.v), .sl (fc0_.Stores.map GStore.v), .sl (fc0_.Mints.map GMint.v)])] Q' := by
  refine acall_machN [] [1000] [.t 4] Tryd.func49 rfl (by kernel_rfl) ok_slices_IndexFunc_api_Mint_api_Mint_of_rights_Check_3 (by kernel_rfl) rfl rfl fun M hf => ?_
  clear hf
  unfold F_slices_IndexFunc_api_Mint_api_Mint_of_rights_Check_3 at h
  unfold mc_slices_IndexFunc_api_Mint_api_Mint_of_rights_Check_3
  (try replace h := tH h)
  refine tB ?_
  repeat' (first
    | (exact hQ _ h)
    | (exact trivial)
    | (exact False.elim h)
    | (have hq := hQ _ h; replace hq := tH hq; exact hq)
    | (refine oblg h ?_; clear h; intro hc h)
    | (refine roomG h ?_; clear h; intro hc h)
    | (refine fork h ?_ ?_ <;> clear h <;> intro hc h)
    | (refine forkS h ?_ ?_ <;> clear h <;> intro hc h)
    | (refine And.intro (chkD_of rfl) ?_)
    | (obtain ⟨y, hy, h⟩ := h; have hw := W_rights_Check_3 hy; (try replace hw := tH hw); (first | (refine sCall_of hw rfl rfl ?_; rw [M.lok_eq]) | (refine sCallD_of hw rfl rfl ?_; rw [M.lokD_eq])); clear hw; clear hy; refine tB ?_)
    | (refine M.for1 (b := mc_slices_IndexFunc_api_Mint_api_Mint_of_rights_Check_3_L1) 8 [0, 1, 7] [1000] (fun x => []) (fun x => []) [] h ?_ ?_ ?_ <;> first
       | (clear h; intro k a x Qn K hK1 hkN1 ha1 h hf; have hl := fact_int (factsE_find (n := 7) hf.1 rfl); clear hf; have hkd := kD hkN1; have hkB1 := kB hkN1; have hkI1 : in64 ((k : Int) + 1) = true := in64_iff.2 ⟨by omega, by (try simp only [List.length_cons, List.length_nil] at hkN1); omega⟩; unfold F_slices_IndexFunc_api_Mint_api_Mint_of_rights_Check_3_L1 at h; unfold mc_slices_IndexFunc_api_Mint_api_Mint_of_rights_Check_3_L1; (try replace h := tH h); refine tK ha1 hkd hkN1 hkB1 hkI1 ?_)
       | (clear h; intro x K h; replace h := And.left (And.intro h trivial); unfold mc_slices_IndexFunc_api_Mint_api_Mint_of_rights_Check_3_L1; (try replace h := tH h); refine tB ?_)
       | (clear h; (try refine tB ?_); exact tU0; done)
       | fail)
    | (refine And.intro hkI1 ?_)
    | (refine And.intro hkN1 ?_)
    | (refine And.intro hkB1 ?_)
    | (simp only [ha1])
    | (refine hK1 _ ?_; (try refine tB ?_); refine ⟨_, h, ?_⟩; exact tU0; done)
    | (refine ⟨_, getE_map (inb_toNat (by assumption)), ?_⟩; (first | rw [M.lok_compU] | rw [M.lokD_compU]); refine tB ?_)
    | (refine And.intro (ltb_of (by assumption)) ?_)
    | (refine And.intro (by omega) ?_)
    | fail)
theorem W_slices_IndexFunc_api_Mint_api_Mint_of_rights_Check_3 : ∀ {s_ : List GMint} {fc0_ : GRights} {y : Int}, F_slices_IndexFunc_api_Mint_api_Mint_of_rights_Check_3 s_ fc0_ = some y → ACall Tryd.prog 49 [.sl (s_.map GMint.v), .fn (.func 39) [.ptr 1000 0]] [(1000, .cells [.int .i64 fc0_.Credentials, .int .i64 fc0_.Resources, .sl (fc0_.Grants.map GGrant.v), .sl (fc0_.Stores.map GStore.v), .sl (fc0_.Mints.map GMint.v)])] (fun r H => r = .int .i64 y ∧ H = [(1000, .cells [.int .i64 fc0_.Credentials, .int .i64 fc0_.Resources, .sl (fc0_.Grants.map GGrant.v), .sl (fc0_.Stores.map GStore.v), .sl (fc0_.Mints.map GMint.v)])]) :=
  fun hy => Wq_slices_IndexFunc_api_Mint_api_Mint_of_rights_Check_3 _ _ (Q := fun z => z = _) ⟨_, hy, rfl⟩ fun z e => by subst e; exact ⟨rfl, rfl⟩

def F_slices_ContainsFunc_api_Mint_api_Mint_of_rights_Check_3 (s_ : List GMint) (fc0_ : GRights) : Option Bool :=
  (F_slices_IndexFunc_api_Mint_api_Mint_of_rights_Check_3 s_ fc0_).bind fun y2 => some (decide (0 ≤ y2))

/- slices.ContainsFunc[[]leakresponse/api.Mint,leakresponse/api.Mint] -/
def mc_slices_ContainsFunc_api_Mint_api_Mint_of_rights_Check_3 : MC :=
  (.seq (.reg [⟨.mv (.c (.bool false)), (some 4), none⟩])
  (.seq (.reg [⟨.mv (.t 0), (some 5), none⟩,
    ⟨.mv (.t 1), (some 6), none⟩,
    ⟨.call (.f 49) [(.t 5), (.t 6)] [1000] [], (some 7), none⟩,
    ⟨.bin false .geq (.t 7) (.c (.int .i64 0)), (some 8), none⟩,
    ⟨.mv (.t 8), (some 4), none⟩])
  .ret))
theorem ok_slices_ContainsFunc_api_Mint_api_Mint_of_rights_Check_3 : mc_slices_ContainsFunc_api_Mint_api_Mint_of_rights_Check_3.ok Tryd.prog Tryd.f42.ntmps (Tryd.f42.body.getD .skip) = true := by kernel_rfl

set_option maxHeartbeats 2000000 in
theorem Wq_slices_ContainsFunc_api_Mint_api_Mint_of_rights_Check_3 (s_ : List GMint) (fc0_ : GRights) {Q : Bool → Prop} {Q' : V → Heap → Prop} (h : Ok (F_slices_ContainsFunc_api_Mint_api_Mint_of_rights_Check_3 s_ fc0_) Q) (hQ : ∀ z, Q z → Q' (.bool z) [(1000, .cells [.int .i64 fc0_.Credentials, .int .i64 fc0_.Resources, .sl (fc0_.Grants.map GGrant.v), .sl (fc0_.Stores.map GStore.v), .sl (fc0_.Mints.map GMint.v)])]) : ACall Tryd.prog 42 [.sl (s_.map GMint.v), .fn (.func 39) [.ptr 1000 0]] [(1000, .cells [.int .i64 fc0_.Credentials, .int .i64 fc0_.Resources, .sl (fc0_.Grants.map GGrant.v), .sl (fc0_.Stores.map GStore.v), .sl (fc0_.Mints.map GMint.v)])] Q' := by
  refine acall_machN [] [1000] [.t 4] Tryd.func42 rfl (by kernel_rfl) ok_slices_ContainsFunc_api_Mint_api_Mint_of_rights_Check_3 (by kernel_rfl) rfl rfl fun M hf => ?_
  clear hf
  unfold F_slices_ContainsFunc_api_Mint_api_Mint_of_rights_Check_3 at h
  unfold mc_slices_ContainsFunc_api_Mint_api_Mint_of_rights_Check_3
  (try replace h := tH h)
  refine tB ?_
  repeat' (first
    | (exact hQ _ h)
    | (exact trivial)
    | (exact False.elim h)
    | (have hq := hQ _ h; replace hq := tH hq; exact hq)
    | (refine oblg h ?_; clear h; intro hc h)
    | (refine roomG h ?_; clear h; intro hc h)
    | (refine fork h ?_ ?_ <;> clear h <;> intro hc h)
    | (refine forkS h ?_ ?_ <;> clear h <;> intro hc h)
    | (refine And.intro (chkD_of rfl) ?_)
    | (obtain ⟨y, hy, h⟩ := h; have hw := W_slices_IndexFunc_api_Mint_api_Mint_of_rights_Check_3 hy; (try replace hw := tH hw); (first | (refine sCall_of hw rfl rfl ?_; rw [M.lok_eq]) | (refine sCallD_of hw rfl rfl ?_; rw [M.lokD_eq])); clear hw; clear hy; refine tB ?_)
    | (refine ⟨_, getE_map (inb_toNat (by assumption)), ?_⟩; (first | rw [M.lok_compU] | rw [M.lokD_compU]); refine tB ?_)
    | (refine And.intro (ltb_of (by assumption)) ?_)
    | (refine And.intro (by omega) ?_)
    | fail)
theorem W_slices_ContainsFunc_api_Mint_api_Mint_of_rights_Check_3 : ∀ {s_ : List GMint} {fc0_ : GRights} {y : Bool}, F_slices_ContainsFunc_api_Mint_api_Mint_of_rights_Check_3 s_ fc0_ = some y → ACall Tryd.prog 42 [.sl (s_.map GMint.v), .fn (.func 39) [.ptr 1000 0]] [(1000, .cells [.int .i64 fc0_.Credentials, .int .i64 fc0_.Resources, .sl (fc0_.Grants.map GGrant.v), .sl (fc0_.Stores.map GStore.v), .sl (fc0_.Mints.map GMint.v)])] (fun r H => r = .bool y ∧ H = [(1000, .cells [.int .i64 fc0_.Credentials, .int .i64 fc0_.Resources, .sl (fc0_.Grants.map GGrant.v), .sl (fc0_.Stores.map GStore.v), .sl (fc0_.Mints.map GMint.v)])]) :=
  fun hy => Wq_slices_ContainsFunc_api_Mint_api_Mint_of_rights_Check_3 _ _ (Q := fun z => z = _) ⟨_, hy, rfl⟩ fun z e => by subst e; exact ⟨rfl, rfl⟩

def F_rights_Check (x_ : GRights) : Option Int :=
  (F_rights_among x_.Credentials 0 24).bind fun y11 => bif (!y11) then some 32 else (F_rights_among x_.Resources 0 24).bind fun y12 => bif (!y12) then some 32 else grp ((decide (100 < (x_.Grants.length : Int)) || decide (100 < (x_.Stores.length : Int)))) fun b15 => grp ((b15 || decide (100 < (x_.Mints.length : Int)))) fun b16 => bif b16 then some 32 else (F_slices_ContainsFunc_api_Grant_api_Grant_of_rights_Check_1 x_.Grants x_).bind fun y26 => bif y26 then some 32 else (F_slices_ContainsFunc_api_Store_api_Store_of_rights_Check_2 x_.Stores x_).bind fun y27 => bif y27 then some 32 else (F_slices_ContainsFunc_api_Mint_api_Mint_of_rights_Check_3 x_.Mints x_).bind fun y28 => bif y28 then some 32 else some 0

/- leakresponse/rights.Check -/
@[irreducible] def mg_rights_Check_1 : List MOp := [⟨.fad 3 (.t 1), (some 23), (some (22, false))⟩,
      ⟨.ld none (.t 23), (some 24), (some (22, false))⟩,
      ⟨.len false (.t 24), (some 25), (some (22, false))⟩,
      ⟨.bin false .gtr (.t 25) (.c (.int .i64 100)), (some 26), (some (22, false))⟩,
      ⟨.pick (.t 22) (.c (.bool true)) (.t 26), (some 27), none⟩]
@[irreducible] def mg_rights_Check_2 : List MOp := [⟨.fad 4 (.t 1), (some 29), (some (28, false))⟩,
      ⟨.ld none (.t 29), (some 30), (some (28, false))⟩,
      ⟨.len false (.t 30), (some 31), (some (28, false))⟩,
      ⟨.bin false .gtr (.t 31) (.c (.int .i64 100)), (some 32), (some (28, false))⟩,
      ⟨.pick (.t 28) (.c (.bool true)) (.t 32), (some 33), none⟩]
def mc_rights_Check : MC :=
  (.seq (.reg [⟨.box (.t 0), (some 1), none⟩,
    ⟨.mv (.c (.int .i64 0)), (some 2), none⟩])
  (.seq (.block 0
  (.seq (.reg [⟨.fad 0 (.t 1), (some 7), none⟩,
    ⟨.ld none (.t 7), (some 8), none⟩,
    ⟨.call (.f 34) [(.t 8), (.c (.int .i64 0)), (.c (.int .i64 24))] [] [], (some 9), none⟩,
    ⟨.not (.t 9), (some 10), none⟩,
    ⟨.mv (.t 10), (some 11), none⟩,
    ⟨.fad 1 (.t 1), (some 12), (some (11, false))⟩,
    ⟨.ld none (.t 12), (some 13), (some (11, false))⟩,
    ⟨.call (.f 34) [(.t 13), (.c (.int .i64 0)), (.c (.int .i64 24))] [] [], (some 14), (some (11, false))⟩,
    ⟨.not (.t 14), (some 15), (some (11, false))⟩,
    ⟨.pick (.t 11) (.c (.bool true)) (.t 15), (some 16), none⟩,
    ⟨.mv (.t 16), (some 6), none⟩])
  (.cond (.t 6)
    (.seq (.reg [⟨.mv (.c (.int .i64 32)), (some 2), none⟩])
    .ret)
    (.seq (.note (.gc [1, 23, 24, 25, 26, 29, 30, 31, 32, 42, 43, 44, 45, 48, 49, 50, 51]) (.regI [.op ⟨.fad 2 (.t 1), (some 18), none⟩,
      .op ⟨.ld none (.t 18), (some 19), none⟩,
      .op ⟨.len false (.t 19), (some 20), none⟩,
      .op ⟨.bin false .gtr (.t 20) (.c (.int .i64 100)), (some 21), none⟩,
      .op ⟨.mv (.t 21), (some 22), none⟩,
      .grp mg_rights_Check_1,
      .op ⟨.mv (.t 27), (some 28), none⟩,
      .grp mg_rights_Check_2,
      .op ⟨.mv (.t 33), (some 17), none⟩]))
    (.cond (.t 17)
      (.seq (.reg [⟨.mv (.c (.int .i64 32)), (some 2), none⟩])
      .ret)
      .skip)))))
  (.seq (.reg [⟨.mkfn 35 [(.t 1)], (some 34), none⟩,
    ⟨.mv (.t 34), (some 3), none⟩])
  (.seq (.reg [⟨.mkfn 38 [(.t 1)], (some 35), none⟩,
    ⟨.mv (.t 35), (some 4), none⟩])
  (.seq (.reg [⟨.mkfn 39 [(.t 1)], (some 36), none⟩,
    ⟨.mv (.t 36), (some 5), none⟩])
  (.seq (.seq (.note (.gc [1, 3, 4, 5, 42, 43, 44, 45, 48, 49, 50, 51]) (.reg [⟨.fad 2 (.t 1), (some 37), none⟩,
    ⟨.ld none (.t 37), (some 38), none⟩,
    ⟨.mv (.t 3), (some 39), none⟩,
    ⟨.call (.f 40) [(.t 38), (.t 39)] [1] [], (some 40), none⟩,
    ⟨.mv (.t 40), (some 41), none⟩,
    ⟨.fad 3 (.t 1), (some 42), (some (41, false))⟩,
    ⟨.ld none (.t 42), (some 43), (some (41, false))⟩,
    ⟨.mv (.t 4), (some 44), (some (41, false))⟩,
    ⟨.call (.f 41) [(.t 43), (.t 44)] [1] [], (some 45), (some (41, false))⟩,
    ⟨.pick (.t 41) (.c (.bool true)) (.t 45), (some 46), none⟩,
    ⟨.mv (.t 46), (some 47), none⟩,
    ⟨.fad 4 (.t 1), (some 48), (some (47, false))⟩,
    ⟨.ld none (.t 48), (some 49), (some (47, false))⟩,
    ⟨.mv (.t 5), (some 50), (some (47, false))⟩,
    ⟨.call (.f 42) [(.t 49), (.t 50)] [1] [], (some 51), (some (47, false))⟩,
    ⟨.pick (.t 47) (.c (.bool true)) (.t 51), (some 52), none⟩]))
  (.cond (.t 52)
    (.seq (.reg [⟨.mv (.c (.int .i64 32)), (some 2), none⟩])
    .ret)
    .skip))
  (.seq (.reg [⟨.mv (.c (.int .i64 0)), (some 2), none⟩])
  .ret)))))))
theorem ok_rights_Check : mc_rights_Check.ok Tryd.prog Tryd.f27.ntmps (Tryd.f27.body.getD .skip) = true := by kernel_rfl

set_option maxHeartbeats 2000000 in
theorem Wq_rights_Check (x_ : GRights) {Q : Int → Prop} {Q' : V → Heap → Prop} (h : Ok (F_rights_Check x_) Q) (hQ : ∀ z, Q z → Q' (.int .i64 z) []) : ACall Tryd.prog 27 [GRights.v x_] [] Q' := by
  refine acall_machN [] [] [.t 2] Tryd.func27 rfl (by kernel_rfl) ok_rights_Check (by kernel_rfl) rfl rfl fun M hf => ?_
  clear hf
  unfold F_rights_Check at h
  unfold mc_rights_Check
  (try replace h := tH h)
  refine tB ?_
  repeat' (first
    | (exact hQ _ h)
    | (exact trivial)
    | (exact False.elim h)
    | (have hq := hQ _ h; replace hq := tH hq; exact hq)
    | (refine oblg h ?_; clear h; intro hc h)
    | (refine roomG h ?_; clear h; intro hc h)
    | (refine fork h ?_ ?_ <;> clear h <;> intro hc h)
    | (refine forkS h ?_ ?_ <;> clear h <;> intro hc h)
    | (refine And.intro (chkD_of rfl) ?_)
    | (obtain ⟨y, hy, h⟩ := h; have hw := W_rights_among hy; (try replace hw := tH hw); (first | (refine sCall_of hw rfl rfl ?_; rw [M.lok_eq]) | (refine sCallD_of hw rfl rfl ?_; rw [M.lokD_eq])); clear hw; clear hy; refine tB ?_)
    | (obtain ⟨y, hy, h⟩ := h; have hw := acall_swe 1000 1 (W_slices_ContainsFunc_api_Grant_api_Grant_of_rights_Check_1 hy); (try replace hw := tH hw); (first | (refine sCall_of hw rfl rfl ?_; rw [M.lok_eq]) | (refine sCallD_of hw rfl rfl ?_; rw [M.lokD_eq])); clear hw; clear hy; refine tB ?_)
    | (obtain ⟨y, hy, h⟩ := h; have hw := acall_swe 1000 1 (W_slices_ContainsFunc_api_Store_api_Store_of_rights_Check_2 hy); (try replace hw := tH hw); (first | (refine sCall_of hw rfl rfl ?_; rw [M.lok_eq]) | (refine sCallD_of hw rfl rfl ?_; rw [M.lokD_eq])); clear hw; clear hy; refine tB ?_)
    | (obtain ⟨y, hy, h⟩ := h; have hw := acall_swe 1000 1 (W_slices_ContainsFunc_api_Mint_api_Mint_of_rights_Check_3 hy); (try replace hw := tH hw); (first | (refine sCall_of hw rfl rfl ?_; rw [M.lok_eq]) | (refine sCallD_of hw rfl rfl ?_; rw [M.lokD_eq])); clear hw; clear hy; refine tB ?_)
    | (refine M.gv1 (ms := mg_rights_Check_2) 33 [29, 30, 31, 32] h ?_ ?_ <;> first
       | (clear h; intro K hK1; unfold mg_rights_Check_2; refine tB ?_)
       | (clear h; intro b h; (try replace h := tH h); refine tB ?_)
       | fail)
    | (refine M.gv1 (ms := mg_rights_Check_1) 27 [23, 24, 25, 26] h ?_ ?_ <;> first
       | (clear h; intro K hK2; unfold mg_rights_Check_1; refine tB ?_)
       | (clear h; intro b h; (try replace h := tH h); refine tB ?_)
       | fail)
    | (refine hK1 _ ?_; exact tU; done)
    | (refine hK2 _ ?_; exact tU; done)
    | (refine bfork (fun hc => ?_) (fun hc => ?_))
    | (refine ⟨_, getE_map (inb_toNat (by assumption)), ?_⟩; (first | rw [M.lok_compU] | rw [M.lokD_compU]); refine tB ?_)
    | (refine And.intro (ltb_of (by assumption)) ?_)
    | (refine And.intro (by omega) ?_)
    | fail)
theorem W_rights_Check : ∀ {x_ : GRights} {y : Int}, F_rights_Check x_ = some y → ACall Tryd.prog 27 [GRights.v x_] [] (fun r H => r = .int .i64 y ∧ H = []) :=
  fun hy => Wq_rights_Check _ (Q := fun z => z = _) ⟨_, hy, rfl⟩ fun z e => by subst e; exact ⟨rfl, rfl⟩

def F_severity_Worth_1 (w_ : Int) : Option Bool :=
  grp ((decide (w_ < 0) || decide (100 < w_))) fun b2 => some b2

/- leakresponse/severity.Worth$1 -/
@[irreducible] def mg_severity_Worth_1_1 : List MOp := [⟨.mv (.t 0), (some 6), (some (5, false))⟩,
    ⟨.bin false .gtr (.t 6) (.c (.int .i64 100)), (some 7), (some (5, false))⟩,
    ⟨.pick (.t 5) (.c (.bool true)) (.t 7), (some 8), none⟩]
def mc_severity_Worth_1 : MC :=
  (.seq (.reg [⟨.mv (.c (.bool false)), (some 2), none⟩])
  (.seq (.regI [.op ⟨.mv (.t 0), (some 3), none⟩,
    .op ⟨.bin false .lss (.t 3) (.c (.int .i64 0)), (some 4), none⟩,
    .op ⟨.mv (.t 4), (some 5), none⟩,
    .grp mg_severity_Worth_1_1,
    .op ⟨.mv (.t 8), (some 2), none⟩])
  .ret))
theorem ok_severity_Worth_1 : mc_severity_Worth_1.ok Tryd.prog Tryd.f29.ntmps (Tryd.f29.body.getD .skip) = true := by kernel_rfl

set_option maxHeartbeats 2000000 in
theorem Wq_severity_Worth_1 (w_ : Int) {Q : Bool → Prop} {Q' : V → Heap → Prop} (h : Ok (F_severity_Worth_1 w_) Q) (hQ : ∀ z, Q z → Q' (.bool z) []) : ACall Tryd.prog 29 [.int .i64 w_] [] Q' := by
  refine acall_machN [] [] [.t 2] Tryd.func29 rfl (by kernel_rfl) ok_severity_Worth_1 (by kernel_rfl) rfl rfl fun M hf => ?_
  clear hf
  unfold F_severity_Worth_1 at h
  unfold mc_severity_Worth_1
  (try replace h := tH h)
  refine tB ?_
  repeat' (first
    | (exact hQ _ h)
    | (exact trivial)
    | (exact False.elim h)
    | (have hq := hQ _ h; replace hq := tH hq; exact hq)
    | (refine oblg h ?_; clear h; intro hc h)
    | (refine roomG h ?_; clear h; intro hc h)
    | (refine fork h ?_ ?_ <;> clear h <;> intro hc h)
    | (refine forkS h ?_ ?_ <;> clear h <;> intro hc h)
    | (refine And.intro (chkD_of rfl) ?_)
    | (refine M.gv1 (ms := mg_severity_Worth_1_1) 8 [6, 7] h ?_ ?_ <;> first
       | (clear h; intro K hK1; unfold mg_severity_Worth_1_1; refine tB ?_)
       | (clear h; intro b h; (try replace h := tH h); refine tB ?_)
       | fail)
    | (refine hK1 _ ?_; exact tU; done)
    | (refine bfork (fun hc => ?_) (fun hc => ?_))
    | (refine ⟨_, getE_map (inb_toNat (by assumption)), ?_⟩; (first | rw [M.lok_compU] | rw [M.lokD_compU]); refine tB ?_)
    | (refine And.intro (ltb_of (by assumption)) ?_)
    | (refine And.intro (by omega) ?_)
    | fail)
theorem W_severity_Worth_1 : ∀ {w_ : Int} {y : Bool}, F_severity_Worth_1 w_ = some y → ACall Tryd.prog 29 [.int .i64 w_] [] (fun r H => r = .bool y ∧ H = []) :=
  fun hy => Wq_severity_Worth_1 _ (Q := fun z => z = _) ⟨_, hy, rfl⟩ fun z e => by subst e; exact ⟨rfl, rfl⟩

def F_slices_IndexFunc_int_int_of_severity_Worth_1_L1 (k35 : Int) (a36 : Int) (x34 : Unit) : Option (Fl Unit Int) :=
  (F_severity_Worth_1 a36).bind fun y44 => bif y44 then some (.ex k35) else some (.nx ())
def F_slices_IndexFunc_int_int_of_severity_Worth_1 (s_ : List Int) : Option Int :=
  (forL F_slices_IndexFunc_int_int_of_severity_Worth_1_L1 s_ 0 ()).bind fun o => o.elim (fun x45 => some (-1)) (fun r46 => some r46)

/- slices.IndexFunc[[]int,int] -/
@[irreducible] def mc_slices_IndexFunc_int_int_of_severity_Worth_1_L1 : MC :=
  (.seq (.reg [⟨.bin false .lss (.t 8) (.t 7), (some 9), none⟩])
  (.seq (.cond (.t 9)
    .skip
    (.exit 0))
  (.seq (.block 1
  (.seq (.reg [⟨.mv (.t 8), (some 10), none⟩,
    ⟨.mv (.t 10), (some 5), none⟩])
  (.seq (.reg [⟨.mv (.t 1), (some 11), none⟩,
    ⟨.mv (.t 0), (some 12), none⟩,
    ⟨.mv (.t 5), (some 13), none⟩,
    ⟨.iad 1 (.t 12) (.t 13), (some 14), none⟩,
    ⟨.ld none (.t 14), (some 15), none⟩,
    ⟨.call (.t 11) [(.t 15)] [] [], (some 16), none⟩])
  (.cond (.t 16)
    (.seq (.reg [⟨.mv (.t 5), (some 17), none⟩,
      ⟨.mv (.t 17), (some 4), none⟩])
    .ret)
    .skip))))
  (.reg [⟨.bin true .add (.t 8) (.c (.int .i64 1)), (some 18), none⟩,
    ⟨.mv (.t 18), (some 8), none⟩]))))
def mc_slices_IndexFunc_int_int_of_severity_Worth_1 : MC :=
  (.seq (.reg [⟨.mv (.c (.int .i64 0)), (some 4), none⟩])
  (.seq (.seq (.reg [⟨.mv (.t 0), (some 6), none⟩,
    ⟨.len false (.t 6), (some 7), none⟩,
    ⟨.mv (.c (.int .i64 0)), (some 8), none⟩])
  (.block 0
  (.loop mc_slices_IndexFunc_int_int_of_severity_Worth_1_L1)))
  (.seq (.reg [⟨.mv (.c (.int .i64 (-1))), (some 4), none⟩])
  .ret)))
theorem ok_slices_IndexFunc_int_int_of_severity_Worth_1 : mc_slices_IndexFunc_int_int_of_severity_Worth_1.ok Tryd.prog Tryd.f43.ntmps (Tryd.f43.body.getD .skip) = true := by kernel_rfl

set_option maxHeartbeats 2000000 in
theorem Wq_slices_IndexFunc_int_int_of_severity_Worth_1 (s_ : List Int) {Q : Int → Prop} {Q' : V → Heap → Prop} (h : Ok (F_slices_IndexFunc_int_int_of_severity_Worth_1 s_) Q) (hQ : ∀ z, Q z → Q' (.int .i64 z) []) : ACall Tryd.prog 43 [.sl (s_.map (V.int .i64)), .fn (.func 29) []] [] Q' := by
  refine acall_machN [] [] [.t 4] Tryd.func43 rfl (by kernel_rfl) ok_slices_IndexFunc_int_int_of_severity_Worth_1 (by kernel_rfl) rfl rfl fun M hf => ?_
  clear hf
  unfold F_slices_IndexFunc_int_int_of_severity_Worth_1 at h
  unfold mc_slices_IndexFunc_int_int_of_severity_Worth_1
  (try replace h := tH h)
  refine tB ?_
  repeat' (first
    | (exact hQ _ h)
    | (exact trivial)
    | (exact False.elim h)
    | (have hq := hQ _ h; replace hq := tH hq; exact hq)
    | (refine oblg h ?_; clear h; intro hc h)
    | (refine roomG h ?_; clear h; intro hc h)
    | (refine fork h ?_ ?_ <;> clear h <;> intro hc h)
    | (refine forkS h ?_ ?_ <;> clear h <;> intro hc h)
    | (refine And.intro (chkD_of rfl) ?_)
    | (obtain ⟨y, hy, h⟩ := h; have hw := W_severity_Worth_1 hy; (try replace hw := tH hw); (first | (refine sCall_of hw rfl rfl ?_; rw [M.lok_eq]) | (refine sCallD_of hw rfl rfl ?_; rw [M.lokD_eq])); clear hw; clear hy; refine tB ?_)
    | (refine M.for1 (b := mc_slices_IndexFunc_int_int_of_severity_Worth_1_L1) 8 [0, 1, 7] [] (fun x => []) (fun x => []) [] h ?_ ?_ ?_ <;> first
       | (clear h; intro k a x Qn K hK1 hkN1 ha1 h hf; have hl := fact_int (factsE_find (n := 7) hf.1 rfl); clear hf; have hkd := kD hkN1; have hkB1 := kB hkN1; have hkI1 : in64 ((k : Int) + 1) = true := in64_iff.2 ⟨by omega, by (try simp only [List.length_cons, List.length_nil] at hkN1); omega⟩; unfold F_slices_IndexFunc_int_int_of_severity_Worth_1_L1 at h; unfold mc_slices_IndexFunc_int_int_of_severity_Worth_1_L1; (try replace h := tH h); refine tK ha1 hkd hkN1 hkB1 hkI1 ?_)
       | (clear h; intro x K h; replace h := And.left (And.intro h trivial); unfold mc_slices_IndexFunc_int_int_of_severity_Worth_1_L1; (try replace h := tH h); refine tB ?_)
       | (clear h; (try refine tB ?_); exact tU0; done)
       | fail)
    | (refine And.intro hkI1 ?_)
    | (refine And.intro hkN1 ?_)
    | (refine And.intro hkB1 ?_)
    | (simp only [ha1])
    | (refine hK1 _ ?_; (try refine tB ?_); refine ⟨_, h, ?_⟩; exact tU0; done)
    | (refine ⟨_, getE_map (inb_toNat (by assumption)), ?_⟩; (first | rw [M.lok_compU] | rw [M.lokD_compU]); refine tB ?_)
    | (refine And.intro (ltb_of (by assumption)) ?_)
    | (refine And.intro (by omega) ?_)
    | fail)
theorem W_slices_IndexFunc_int_int_of_severity_Worth_1 : ∀ {s_ : List Int} {y : Int}, F_slices_IndexFunc_int_int_of_severity_Worth_1 s_ = some y → ACall Tryd.prog 43 [.sl (s_.map (V.int .i64)), .fn (.func 29) []] [] (fun r H => r = .int .i64 y ∧ H = []) :=
  fun hy => Wq_slices_IndexFunc_int_int_of_severity_Worth_1 _ (Q := fun z => z = _) ⟨_, hy, rfl⟩ fun z e => by subst e; exact ⟨rfl, rfl⟩

def F_slices_ContainsFunc_int_int_of_severity_Worth_1 (s_ : List Int) : Option Bool :=
  (F_slices_IndexFunc_int_int_of_severity_Worth_1 s_).bind fun y2 => some (decide (0 ≤ y2))

/- slices.ContainsFunc[[]int,int] -/
def mc_slices_ContainsFunc_int_int_of_severity_Worth_1 : MC :=
  (.seq (.reg [⟨.mv (.c (.bool false)), (some 4), none⟩])
  (.seq (.reg [⟨.mv (.t 0), (some 5), none⟩,
    ⟨.mv (.t 1), (some 6), none⟩,
    ⟨.call (.f 43) [(.t 5), (.t 6)] [] [], (some 7), none⟩,
    ⟨.bin false .geq (.t 7) (.c (.int .i64 0)), (some 8), none⟩,
    ⟨.mv (.t 8), (some 4), none⟩])
  .ret))
theorem ok_slices_ContainsFunc_int_int_of_severity_Worth_1 : mc_slices_ContainsFunc_int_int_of_severity_Worth_1.ok Tryd.prog Tryd.f28.ntmps (Tryd.f28.body.getD .skip) = true := by kernel_rfl

set_option maxHeartbeats 2000000 in
theorem Wq_slices_ContainsFunc_int_int_of_severity_Worth_1 (s_ : List Int) {Q : Bool → Prop} {Q' : V → Heap → Prop} (h : Ok (F_slices_ContainsFunc_int_int_of_severity_Worth_1 s_) Q) (hQ : ∀ z, Q z → Q' (.bool z) []) : ACall Tryd.prog 28 [.sl (s_.map (V.int .i64)), .fn (.func 29) []] [] Q' := by
  refine acall_machN [] [] [.t 4] Tryd.func28 rfl (by kernel_rfl) ok_slices_ContainsFunc_int_int_of_severity_Worth_1 (by kernel_rfl) rfl rfl fun M hf => ?_
  clear hf
  unfold F_slices_ContainsFunc_int_int_of_severity_Worth_1 at h
  unfold mc_slices_ContainsFunc_int_int_of_severity_Worth_1
  (try replace h := tH h)
  refine tB ?_
  repeat' (first
    | (exact hQ _ h)
    | (exact trivial)
    | (exact False.elim h)
    | (have hq := hQ _ h; replace hq := tH hq; exact hq)
    | (refine oblg h ?_; clear h; intro hc h)
    | (refine roomG h ?_; clear h; intro hc h)
    | (refine fork h ?_ ?_ <;> clear h <;> intro hc h)
    | (refine forkS h ?_ ?_ <;> clear h <;> intro hc h)
    | (refine And.intro (chkD_of rfl) ?_)
    | (obtain ⟨y, hy, h⟩ := h; have hw := W_slices_IndexFunc_int_int_of_severity_Worth_1 hy; (try replace hw := tH hw); (first | (refine sCall_of hw rfl rfl ?_; rw [M.lok_eq]) | (refine sCallD_of hw rfl rfl ?_; rw [M.lokD_eq])); clear hw; clear hy; refine tB ?_)
    | (refine ⟨_, getE_map (inb_toNat (by assumption)), ?_⟩; (first | rw [M.lok_compU] | rw [M.lokD_compU]); refine tB ?_)
    | (refine And.intro (ltb_of (by assumption)) ?_)
    | (refine And.intro (by omega) ?_)
    | fail)
theorem W_slices_ContainsFunc_int_int_of_severity_Worth_1 : ∀ {s_ : List Int} {y : Bool}, F_slices_ContainsFunc_int_int_of_severity_Worth_1 s_ = some y → ACall Tryd.prog 28 [.sl (s_.map (V.int .i64)), .fn (.func 29) []] [] (fun r H => r = .bool y ∧ H = []) :=
  fun hy => Wq_slices_ContainsFunc_int_int_of_severity_Worth_1 _ (Q := fun z => z = _) ⟨_, hy, rfl⟩ fun z e => by subst e; exact ⟨rfl, rfl⟩

def F_rights_links_L1 (c_ : Int) (k16 : Int) (a17 : GMint) (x15 : List GLink) : Option (List GLink) :=
  bif decide (a17.From = c_) then chk (room (x15.length + [(GLink.mk 2 (-1) (-1) k16)].length) 32) (some (x15 ++ [(GLink.mk 2 (-1) (-1) k16)])) else some x15
def F_rights_links_L2 (c_ : Int) (k498 : Int) (a499 : GGrant) (k605 : Int) (a606 : GStore) (x604 : List GLink) : Option (List GLink) :=
  grp ((decide (a499.Credential = c_) && decide (a606.Resource = a499.Resource))) fun b614 => bif b614 then chk (room (x604.length + [(GLink.mk 1 k498 k605 (-1))].length) 32) (some (x604 ++ [(GLink.mk 1 k498 k605 (-1))])) else some x604
def F_rights_links_L3 (x_ : GRights) (c_ : Int) (k498 : Int) (a499 : GGrant) (x497 : List GLink) : Option (List GLink) :=
  (foldL (F_rights_links_L2 c_ k498 a499) x_.Stores 0 x497).bind fun x615 => some x615
def F_rights_links (x_ : GRights) (c_ : Int) : Option (List GLink) :=
  (foldL (F_rights_links_L1 c_) x_.Mints 0 []).bind fun x18 => (foldL (F_rights_links_L3 x_ c_) x_.Grants 0 x18).bind fun x616 => some x616

/- leakresponse/rights.links -/
@[irreducible] def mc_rights_links_L1 : MC :=
  (.seq (.reg [⟨.bin false .lss (.t 15) (.t 14), (some 16), none⟩])
  (.seq (.cond (.t 16)
    .skip
    (.exit 0))
  (.seq (.block 1
  (.seq (.reg [⟨.mv (.t 15), (some 17), none⟩,
    ⟨.iad 2 (.t 13) (.t 15), (some 18), none⟩,
    ⟨.ld (some 2) (.t 18), (some 19), none⟩,
    ⟨.alloc [(.int .i64 0), (.int .i64 0)], (some 7), none⟩,
    ⟨.mv (.t 17), (some 6), none⟩,
    ⟨.st 2 (.t 7) (.t 19), none, none⟩])
  (.seq (.reg [⟨.fad 0 (.t 7), (some 20), none⟩,
    ⟨.ld none (.t 20), (some 21), none⟩,
    ⟨.mv (.t 1), (some 22), none⟩,
    ⟨.bin false .eql (.t 21) (.t 22), (some 23), none⟩])
  (.cond (.t 23)
    (.note (.gc [1, 2, 5, 6, 13, 14, 15, 51, 52, 53, 54, 55]) (.reg [⟨.mv (.t 5), (some 24), none⟩,
      ⟨.mv (.t 6), (some 25), none⟩,
      ⟨.build [(.int .i64 0), (.int .i64 0), (.int .i64 0), (.int .i64 0)] [(0, 1, (.c (.int .i64 2))), (1, 1, (.c (.int .i64 (-1)))), (2, 1, (.c (.int .i64 (-1)))), (3, 1, (.t 25))], (some 26), none⟩,
      ⟨.bslice 4 [(.t 26)], (some 27), none⟩,
      ⟨.app 4 32 (.t 24) (.t 27), (some 28), none⟩,
      ⟨.mv (.t 28), (some 5), none⟩]))
    .skip))))
  (.reg [⟨.bin true .add (.t 15) (.c (.int .i64 1)), (some 29), none⟩,
    ⟨.mv (.t 29), (some 15), none⟩]))))
@[irreducible] def mg_rights_links_1 : List MOp := [⟨.fad 0 (.t 11), (some 51), (some (50, true))⟩,
    ⟨.ld none (.t 51), (some 52), (some (50, true))⟩,
    ⟨.fad 1 (.t 9), (some 53), (some (50, true))⟩,
    ⟨.ld none (.t 53), (some 54), (some (50, true))⟩,
    ⟨.bin false .eql (.t 52) (.t 54), (some 55), (some (50, true))⟩,
    ⟨.pick (.t 50) (.t 55) (.c (.bool false)), (some 56), none⟩]
@[irreducible] def mc_rights_links_L2 : MC :=
  (.seq (.reg [⟨.bin false .lss (.t 41) (.t 40), (some 42), none⟩])
  (.seq (.cond (.t 42)
    .skip
    (.exit 4))
  (.seq (.block 5
  (.seq (.reg [⟨.mv (.t 41), (some 43), none⟩,
    ⟨.iad 2 (.t 39) (.t 41), (some 44), none⟩,
    ⟨.ld (some 2) (.t 44), (some 45), none⟩,
    ⟨.alloc [(.int .i64 0), (.int .i64 0)], (some 11), none⟩,
    ⟨.mv (.t 43), (some 10), none⟩,
    ⟨.st 2 (.t 11) (.t 45), none, none⟩])
  (.seq (.regI [.op ⟨.fad 0 (.t 9), (some 46), none⟩,
    .op ⟨.ld none (.t 46), (some 47), none⟩,
    .op ⟨.mv (.t 1), (some 48), none⟩,
    .op ⟨.bin false .eql (.t 47) (.t 48), (some 49), none⟩,
    .op ⟨.mv (.t 49), (some 50), none⟩,
    .grp mg_rights_links_1])
  (.cond (.t 56)
    (.note (.gc [1, 2, 5, 8, 9, 10, 31, 32, 33, 39, 40, 41, 51, 52, 53, 54, 55]) (.reg [⟨.mv (.t 5), (some 57), none⟩,
      ⟨.mv (.t 8), (some 58), none⟩,
      ⟨.mv (.t 10), (some 59), none⟩,
      ⟨.build [(.int .i64 0), (.int .i64 0), (.int .i64 0), (.int .i64 0)] [(0, 1, (.c (.int .i64 1))), (1, 1, (.t 58)), (2, 1, (.t 59)), (3, 1, (.c (.int .i64 (-1))))], (some 60), none⟩,
      ⟨.bslice 4 [(.t 60)], (some 61), none⟩,
      ⟨.app 4 32 (.t 57) (.t 61), (some 62), none⟩,
      ⟨.mv (.t 62), (some 5), none⟩]))
    .skip))))
  (.reg [⟨.bin true .add (.t 41) (.c (.int .i64 1)), (some 63), none⟩,
    ⟨.mv (.t 63), (some 41), none⟩]))))
@[irreducible] def mc_rights_links_L3 : MC :=
  (.seq (.reg [⟨.bin false .lss (.t 33) (.t 32), (some 34), none⟩])
  (.seq (.cond (.t 34)
    .skip
    (.exit 2))
  (.seq (.block 3
  (.seq (.reg [⟨.mv (.t 33), (some 35), none⟩,
    ⟨.iad 3 (.t 31) (.t 33), (some 36), none⟩,
    ⟨.ld (some 3) (.t 36), (some 37), none⟩,
    ⟨.alloc [(.int .i64 0), (.int .i64 0), (.int .i64 0)], (some 9), none⟩,
    ⟨.mv (.t 35), (some 8), none⟩,
    ⟨.st 3 (.t 9) (.t 37), none, none⟩])
  (.seq (.reg [⟨.fad 3 (.t 2), (some 38), none⟩,
    ⟨.ld none (.t 38), (some 39), none⟩,
    ⟨.len false (.t 39), (some 40), none⟩,
    ⟨.mv (.c (.int .i64 0)), (some 41), none⟩])
  (.block 4
  (.loop mc_rights_links_L2)))))
  (.reg [⟨.bin true .add (.t 33) (.c (.int .i64 1)), (some 64), none⟩,
    ⟨.mv (.t 64), (some 33), none⟩]))))
def mc_rights_links : MC :=
  (.seq (.reg [⟨.box (.t 0), (some 2), none⟩,
    ⟨.mv (.c (.sl [])), (some 4), none⟩])
  (.seq (.reg [⟨.mv (.c .nils), (some 5), none⟩])
  (.seq (.seq (.reg [⟨.fad 4 (.t 2), (some 12), none⟩,
    ⟨.ld none (.t 12), (some 13), none⟩,
    ⟨.len false (.t 13), (some 14), none⟩,
    ⟨.mv (.c (.int .i64 0)), (some 15), none⟩])
  (.block 0
  (.loop mc_rights_links_L1)))
  (.seq (.seq (.reg [⟨.fad 2 (.t 2), (some 30), none⟩,
    ⟨.ld none (.t 30), (some 31), none⟩,
    ⟨.len false (.t 31), (some 32), none⟩,
    ⟨.mv (.c (.int .i64 0)), (some 33), none⟩])
  (.block 2
  (.loop mc_rights_links_L3)))
  (.seq (.reg [⟨.mv (.t 5), (some 65), none⟩,
    ⟨.mv (.t 65), (some 4), none⟩])
  .ret)))))
theorem ok_rights_links : mc_rights_links.ok Tryd.prog Tryd.f57.ntmps (Tryd.f57.body.getD .skip) = true := by kernel_rfl

set_option maxHeartbeats 2000000 in
theorem Wq_rights_links (x_ : GRights) (c_ : Int) {Q : List GLink → Prop} {Q' : V → Heap → Prop} (h : Ok (F_rights_links x_ c_) Q) (hQ : ∀ z, Q z → Q' (.sl (z.map GLink.v)) []) : ACall Tryd.prog 57 [GRights.v x_, .int .i64 c_] [] Q' := by
  refine acall_machN [.fz 4] [] [.t 4] Tryd.func57 rfl (by kernel_rfl) ok_rights_links (by kernel_rfl) rfl rfl fun M hf => ?_
  clear hf
  unfold F_rights_links at h
  unfold mc_rights_links
  (try replace h := tH h)
  refine tB ?_
  repeat' (first
    | (exact hQ _ h)
    | (exact trivial)
    | (exact False.elim h)
    | (have hq := hQ _ h; replace hq := tH hq; exact hq)
    | (refine oblg h ?_; clear h; intro hc h)
    | (refine roomG h ?_; clear h; intro hc h)
    | (refine fork h ?_ ?_ <;> clear h <;> intro hc h)
    | (refine forkS h ?_ ?_ <;> clear h <;> intro hc h)
    | (refine And.intro (chkD_of rfl) ?_)
    | (refine M.fold1 (b := mc_rights_links_L1) 15 [1, 2, 13, 14] [2] (fun x => [(5, .osl 2005 4 0 x.length)]) (fun x => [.o 2005 (.arr 4 (x.map GLink.v))]) [.gc [1, 2, 5, 13, 14, 15], .acc 5 2005 4] h ?_ ?_ ?_ <;> first
       | (clear h; intro k a x Qn K hK1 hkN1 ha1 h hf; have hl := fact_int (factsE_find (n := 14) hf.1 rfl); clear hf; have hkd := kD hkN1; have hkB1 := kB hkN1; have hkI1 : in64 ((k : Int) + 1) = true := in64_iff.2 ⟨by omega, by (try simp only [List.length_cons, List.length_nil] at hkN1); omega⟩; unfold F_rights_links_L1 at h; unfold mc_rights_links_L1; (try replace h := tH h); refine tK ha1 hkd hkN1 hkB1 hkI1 ?_)
       | (clear h; intro x K h; replace h := And.left (And.intro h trivial); unfold mc_rights_links_L1; (try replace h := tH h); refine tB ?_)
       | (clear h; (try refine tB ?_); exact tU0; done)
       | fail)
    | (refine M.gv1 (ms := mg_rights_links_1) 56 [51, 52, 53, 54, 55] h ?_ ?_ <;> first
       | (clear h; intro K hK2; unfold mg_rights_links_1; refine tB ?_)
       | (clear h; intro b h; (try replace h := tH h); refine tB ?_)
       | fail)
    | (refine M.fold1 (b := mc_rights_links_L2) 41 [1, 2, 8, 9, 31, 32, 33, 39, 40] [9, 2] (fun x => [(5, .osl 2005 4 0 x.length)]) (fun x => [.o 2005 (.arr 4 (x.map GLink.v))]) [.gc [1, 2, 5, 8, 9, 31, 32, 33, 39, 40, 41], .acc 5 2005 4] h ?_ ?_ ?_ <;> first
       | (clear h; intro k a x Qn K hK3 hkN3 ha3 h hf; have hl := fact_int (factsE_find (n := 40) hf.1 rfl); clear hf; have hkd := kD hkN3; have hkB3 := kB hkN3; have hkI3 : in64 ((k : Int) + 1) = true := in64_iff.2 ⟨by omega, by (try simp only [List.length_cons, List.length_nil] at hkN3); omega⟩; unfold F_rights_links_L2 at h; unfold mc_rights_links_L2; (try replace h := tH h); refine tK ha3 hkd hkN3 hkB3 hkI3 ?_)
       | (clear h; intro x K h; replace h := And.left (And.intro h trivial); unfold mc_rights_links_L2; (try replace h := tH h); refine tB ?_)
       | (clear h; (try refine tB ?_); exact tU0; done)
       | fail)
    | (refine M.fold1 (b := mc_rights_links_L3) 33 [1, 2, 31, 32] [2] (fun x => [(5, .osl 2005 4 0 x.length)]) (fun x => [.o 2005 (.arr 4 (x.map GLink.v))]) [] h ?_ ?_ ?_ <;> first
       | (clear h; intro k a x Qn K hK4 hkN4 ha4 h hf; have hl := fact_int (factsE_find (n := 32) hf.1 rfl); clear hf; have hkd := kD hkN4; have hkB4 := kB hkN4; have hkI4 : in64 ((k : Int) + 1) = true := in64_iff.2 ⟨by omega, by (try simp only [List.length_cons, List.length_nil] at hkN4); omega⟩; unfold F_rights_links_L3 at h; unfold mc_rights_links_L3; (try replace h := tH h); refine tK ha4 hkd hkN4 hkB4 hkI4 ?_)
       | (clear h; intro x K h; replace h := And.left (And.intro h trivial); unfold mc_rights_links_L3; (try replace h := tH h); refine tB ?_)
       | (clear h; (try refine tB ?_); exact tU0; done)
       | fail)
    | (refine And.intro hkI1 ?_)
    | (refine And.intro hkN1 ?_)
    | (refine And.intro hkB1 ?_)
    | (simp only [ha1])
    | (refine And.intro hkI3 ?_)
    | (refine And.intro hkN3 ?_)
    | (refine And.intro hkB3 ?_)
    | (simp only [ha3])
    | (refine And.intro hkI4 ?_)
    | (refine And.intro hkN4 ?_)
    | (refine And.intro hkB4 ?_)
    | (simp only [ha4])
    | (refine hK1 _ ?_; (try refine tB ?_); refine ⟨_, h, ?_⟩; exact tU0; done)
    | (refine hK2 _ ?_; exact tU; done)
    | (refine hK3 _ ?_; (try refine tB ?_); refine ⟨_, h, ?_⟩; exact tU0; done)
    | (refine hK4 _ ?_; (try refine tB ?_); refine ⟨_, h, ?_⟩; exact tU0; done)
    | (refine bfork (fun hc => ?_) (fun hc => ?_))
    | (refine ⟨_, getE_map (inb_toNat (by assumption)), ?_⟩; (first | rw [M.lok_compU] | rw [M.lokD_compU]); refine tB ?_)
    | (refine And.intro (ltb_of (by assumption)) ?_)
    | (refine And.intro (by omega) ?_)
    | fail)
theorem W_rights_links : ∀ {x_ : GRights} {c_ : Int} {y : List GLink}, F_rights_links x_ c_ = some y → ACall Tryd.prog 57 [GRights.v x_, .int .i64 c_] [] (fun r H => r = .sl (y.map GLink.v) ∧ H = []) :=
  fun hy => Wq_rights_links _ _ (Q := fun z => z = _) ⟨_, hy, rfl⟩ fun z e => by subst e; exact ⟨rfl, rfl⟩

def F_rights_follow (x_ : GRights) (c_ : Int) (l_ : GLink) : Option (Int × Bool) :=
  grp ((decide (l_.Kind = 2) && decide (l_.Grant = (-1)))) fun b23 => grp ((b23 && decide (l_.Store = (-1)))) fun b24 => jn (α := Bool) (bif b24 then chk (in64 ((x_.Mints.length : Int) - 1)) ((F_rights_among l_.Mint 0 ((x_.Mints.length : Int) - 1)).bind fun y26 => some y26) else some false) fun j27 => jn (α := Bool) (bif j27 then chk (inb l_.Mint x_.Mints.length) (some (decide ((x_.Mints.getD (l_.Mint).toNat default).From = c_))) else some false) fun j28 => bif j28 then chk (inb l_.Mint x_.Mints.length) (some ((x_.Mints.getD (l_.Mint).toNat default).To, true)) else bif decide (l_.Kind = 1) then bif decide (l_.Mint = (-1)) then chk (in64 ((x_.Grants.length : Int) - 1)) ((F_rights_among l_.Grant 0 ((x_.Grants.length : Int) - 1)).bind fun y31 => bif y31 then chk (in64 ((x_.Stores.length : Int) - 1)) ((F_rights_among l_.Store 0 ((x_.Stores.length : Int) - 1)).bind fun y32 => bif y32 then chk (inb l_.Grant x_.Grants.length) (bif decide ((x_.Grants.getD (l_.Grant).toNat default).Credential = c_) then chk (inb l_.Store x_.Stores.length) (chk (inb l_.Grant x_.Grants.length) (bif decide ((x_.Stores.getD (l_.Store).toNat default).Resource = (x_.Grants.getD (l_.Grant).toNat default).Resource) then chk (inb l_.Store x_.Stores.length) (some ((x_.Stores.getD (l_.Store).toNat default).Credential, true)) else some (0, false))) else some (0, false)) else some (0, false)) else some (0, false)) else some (0, false) else some (0, false)

/- leakresponse/rights.follow -/
@[irreducible] def mg_rights_follow_1 : List MOp := [⟨.fad 1 (.t 5), (some 13), (some (12, true))⟩,
    ⟨.ld none (.t 13), (some 14), (some (12, true))⟩,
    ⟨.bin false .eql (.t 14) (.c (.int .i64 (-1))), (some 15), (some (12, true))⟩,
    ⟨.pick (.t 12) (.t 15) (.c (.bool false)), (some 16), none⟩]
@[irreducible] def mg_rights_follow_2 : List MOp := [⟨.fad 2 (.t 5), (some 18), (some (17, true))⟩,
    ⟨.ld none (.t 18), (some 19), (some (17, true))⟩,
    ⟨.bin false .eql (.t 19) (.c (.int .i64 (-1))), (some 20), (some (17, true))⟩,
    ⟨.pick (.t 17) (.t 20) (.c (.bool false)), (some 21), none⟩]
@[irreducible] def mg_rights_follow_3 : List MOp := [⟨.fad 3 (.t 5), (some 23), (some (22, true))⟩,
    ⟨.ld none (.t 23), (some 24), (some (22, true))⟩,
    ⟨.fad 4 (.t 3), (some 25), (some (22, true))⟩,
    ⟨.ld none (.t 25), (some 26), (some (22, true))⟩,
    ⟨.len false (.t 26), (some 27), (some (22, true))⟩,
    ⟨.bin true .sub (.t 27) (.c (.int .i64 1)), (some 28), (some (22, true))⟩,
    ⟨.call (.f 34) [(.t 24), (.c (.int .i64 0)), (.t 28)] [] [], (some 29), (some (22, true))⟩,
    ⟨.pick (.t 22) (.t 29) (.c (.bool false)), (some 30), none⟩]
@[irreducible] def mg_rights_follow_4 : List MOp := [⟨.fad 4 (.t 3), (some 32), (some (31, true))⟩,
    ⟨.ld none (.t 32), (some 33), (some (31, true))⟩,
    ⟨.fad 3 (.t 5), (some 34), (some (31, true))⟩,
    ⟨.ld none (.t 34), (some 35), (some (31, true))⟩,
    ⟨.iad 2 (.t 33) (.t 35), (some 36), (some (31, true))⟩,
    ⟨.fad 0 (.t 36), (some 37), (some (31, true))⟩,
    ⟨.ld none (.t 37), (some 38), (some (31, true))⟩,
    ⟨.mv (.t 1), (some 39), (some (31, true))⟩,
    ⟨.bin false .eql (.t 38) (.t 39), (some 40), (some (31, true))⟩,
    ⟨.pick (.t 31) (.t 40) (.c (.bool false)), (some 41), none⟩]
def mc_rights_follow : MC :=
  (.seq (.reg [⟨.box (.t 0), (some 3), none⟩,
    ⟨.box (.t 2), (some 5), none⟩,
    ⟨.mv (.c (.int .i64 0)), (some 6), none⟩,
    ⟨.mv (.c (.bool false)), (some 7), none⟩])
  (.seq (.block 0
  (.seq (.regI [.op ⟨.fad 0 (.t 5), (some 9), none⟩,
    .op ⟨.ld none (.t 9), (some 10), none⟩,
    .op ⟨.bin false .eql (.t 10) (.c (.int .i64 2)), (some 11), none⟩,
    .op ⟨.mv (.t 11), (some 12), none⟩,
    .grp mg_rights_follow_1,
    .op ⟨.mv (.t 16), (some 17), none⟩,
    .grp mg_rights_follow_2,
    .op ⟨.mv (.t 21), (some 22), none⟩,
    .grp mg_rights_follow_3,
    .op ⟨.mv (.t 30), (some 31), none⟩,
    .grp mg_rights_follow_4,
    .op ⟨.mv (.t 41), (some 8), none⟩])
  (.cond (.t 8)
    (.seq (.reg [⟨.fad 4 (.t 3), (some 42), none⟩,
      ⟨.ld none (.t 42), (some 43), none⟩,
      ⟨.fad 3 (.t 5), (some 44), none⟩,
      ⟨.ld none (.t 44), (some 45), none⟩,
      ⟨.iad 2 (.t 43) (.t 45), (some 46), none⟩,
      ⟨.fad 1 (.t 46), (some 47), none⟩,
      ⟨.ld none (.t 47), (some 48), none⟩,
      ⟨.mv (.t 48), (some 6), none⟩,
      ⟨.mv (.c (.bool true)), (some 7), none⟩])
    .ret)
    (.seq (.regD [⟨.fad 0 (.t 5), (some 50), none⟩,
      ⟨.ld none (.t 50), (some 51), none⟩,
      ⟨.bin false .eql (.t 51) (.c (.int .i64 1)), (some 52), none⟩,
      ⟨.mv (.t 52), (some 53), none⟩,
      ⟨.fad 3 (.t 5), (some 54), (some (53, true))⟩,
      ⟨.ld none (.t 54), (some 55), (some (53, true))⟩,
      ⟨.bin false .eql (.t 55) (.c (.int .i64 (-1))), (some 56), (some (53, true))⟩,
      ⟨.pick (.t 53) (.t 56) (.c (.bool false)), (some 57), none⟩,
      ⟨.mv (.t 57), (some 58), none⟩,
      ⟨.fad 1 (.t 5), (some 59), (some (58, true))⟩,
      ⟨.ld none (.t 59), (some 60), (some (58, true))⟩,
      ⟨.fad 2 (.t 3), (some 61), (some (58, true))⟩,
      ⟨.ld none (.t 61), (some 62), (some (58, true))⟩,
      ⟨.len false (.t 62), (some 63), (some (58, true))⟩,
      ⟨.bin true .sub (.t 63) (.c (.int .i64 1)), (some 64), (some (58, true))⟩,
      ⟨.call (.f 34) [(.t 60), (.c (.int .i64 0)), (.t 64)] [] [], (some 65), (some (58, true))⟩,
      ⟨.pick (.t 58) (.t 65) (.c (.bool false)), (some 66), none⟩,
      ⟨.mv (.t 66), (some 67), none⟩,
      ⟨.fad 2 (.t 5), (some 68), (some (67, true))⟩,
      ⟨.ld none (.t 68), (some 69), (some (67, true))⟩,
      ⟨.fad 3 (.t 3), (some 70), (some (67, true))⟩,
      ⟨.ld none (.t 70), (some 71), (some (67, true))⟩,
      ⟨.len false (.t 71), (some 72), (some (67, true))⟩,
      ⟨.bin true .sub (.t 72) (.c (.int .i64 1)), (some 73), (some (67, true))⟩,
      ⟨.call (.f 34) [(.t 69), (.c (.int .i64 0)), (.t 73)] [] [], (some 74), (some (67, true))⟩,
      ⟨.pick (.t 67) (.t 74) (.c (.bool false)), (some 75), none⟩,
      ⟨.mv (.t 75), (some 76), none⟩,
      ⟨.fad 2 (.t 3), (some 77), (some (76, true))⟩,
      ⟨.ld none (.t 77), (some 78), (some (76, true))⟩,
      ⟨.fad 1 (.t 5), (some 79), (some (76, true))⟩,
      ⟨.ld none (.t 79), (some 80), (some (76, true))⟩,
      ⟨.iad 3 (.t 78) (.t 80), (some 81), (some (76, true))⟩,
      ⟨.fad 0 (.t 81), (some 82), (some (76, true))⟩,
      ⟨.ld none (.t 82), (some 83), (some (76, true))⟩,
      ⟨.mv (.t 1), (some 84), (some (76, true))⟩,
      ⟨.bin false .eql (.t 83) (.t 84), (some 85), (some (76, true))⟩,
      ⟨.pick (.t 76) (.t 85) (.c (.bool false)), (some 86), none⟩,
      ⟨.mv (.t 86), (some 87), none⟩,
      ⟨.fad 3 (.t 3), (some 88), (some (87, true))⟩,
      ⟨.ld none (.t 88), (some 89), (some (87, true))⟩,
      ⟨.fad 2 (.t 5), (some 90), (some (87, true))⟩,
      ⟨.ld none (.t 90), (some 91), (some (87, true))⟩,
      ⟨.iad 2 (.t 89) (.t 91), (some 92), (some (87, true))⟩,
      ⟨.fad 0 (.t 92), (some 93), (some (87, true))⟩,
      ⟨.ld none (.t 93), (some 94), (some (87, true))⟩,
      ⟨.fad 2 (.t 3), (some 95), (some (87, true))⟩,
      ⟨.ld none (.t 95), (some 96), (some (87, true))⟩,
      ⟨.fad 1 (.t 5), (some 97), (some (87, true))⟩,
      ⟨.ld none (.t 97), (some 98), (some (87, true))⟩,
      ⟨.iad 3 (.t 96) (.t 98), (some 99), (some (87, true))⟩,
      ⟨.fad 1 (.t 99), (some 100), (some (87, true))⟩,
      ⟨.ld none (.t 100), (some 101), (some (87, true))⟩,
      ⟨.bin false .eql (.t 94) (.t 101), (some 102), (some (87, true))⟩,
      ⟨.pick (.t 87) (.t 102) (.c (.bool false)), (some 103), none⟩,
      ⟨.mv (.t 103), (some 49), none⟩]
      [[], [0], [1], [2], [3], [4, 3], [5, 3], [3, 6], [7, 3], [8], [9, 8], [8], [11, 8], [12, 8], [13, 8], [10, 14, 8, 8], [8, 15], [16, 15], [17], [18, 17], [17], [20, 17], [21, 17], [22, 17], [19, 23, 17, 17], [17, 24], [25, 24], [26], [27, 26], [26], [29, 26], [28, 30, 26], [31, 26], [32, 26], [26], [33, 34, 26], [26, 35], [36, 26], [37], [38, 37], [37], [40, 37], [39, 41, 37], [42, 37], [43, 37], [37], [45, 37], [37], [47, 37], [46, 48, 37], [49, 37], [50, 37], [44, 51, 37], [37, 52], [53, 37]]
      [[], [0], [0, 1], [0, 1, 2], [0, 1, 2, 3], [0, 1, 2, 3, 4], [0, 1, 2, 3, 4, 5], [0, 1, 2, 3, 4, 5, 6], [0, 1, 2, 3, 4, 5, 6, 7], [0, 1, 2, 3, 4, 5, 6, 7, 8], [0, 1, 2, 3, 4, 5, 6, 7, 8, 9], [0, 1, 2, 3, 4, 5, 6, 7, 8], [0, 1, 2, 3, 4, 5, 6, 7, 8, 11], [0, 1, 2, 3, 4, 5, 6, 7, 8, 11, 12], [0, 1, 2, 3, 4, 5, 6, 7, 8, 11, 12, 13], [0, 1, 2, 3, 4, 5, 6, 7, 8, 9, 10, 11, 12, 13, 14], [0, 1, 2, 3, 4, 5, 6, 7, 8, 9, 10, 11, 12, 13, 14, 15], [0, 1, 2, 3, 4, 5, 6, 7, 8, 9, 10, 11, 12, 13, 14, 15, 16], [0, 1, 2, 3, 4, 5, 6, 7, 8, 9, 10, 11, 12, 13, 14, 15, 16, 17], [0, 1, 2, 3, 4, 5, 6, 7, 8, 9, 10, 11, 12, 13, 14, 15, 16, 17, 18], [0, 1, 2, 3, 4, 5, 6, 7, 8, 9, 10, 11, 12, 13, 14, 15, 16, 17], [0, 1, 2, 3, 4, 5, 6, 7, 8, 9, 10, 11, 12, 13, 14, 15, 16, 17, 20], [0, 1, 2, 3, 4, 5, 6, 7, 8, 9, 10, 11, 12, 13, 14, 15, 16, 17, 20, 21], [0, 1, 2, 3, 4, 5, 6, 7, 8, 9, 10, 11, 12, 13, 14, 15, 16, 17, 20, 21, 22], [0, 1, 2, 3, 4, 5, 6, 7, 8, 9, 10, 11, 12, 13, 14, 15, 16, 17, 18, 19, 20, 21, 22, 23], [0, 1, 2, 3, 4, 5, 6, 7, 8, 9, 10, 11, 12, 13, 14, 15, 16, 17, 18, 19, 20, 21, 22, 23, 24], [0, 1, 2, 3, 4, 5, 6, 7, 8, 9, 10, 11, 12, 13, 14, 15, 16, 17, 18, 19, 20, 21, 22, 23, 24, 25], [0, 1, 2, 3, 4, 5, 6, 7, 8, 9, 10, 11, 12, 13, 14, 15, 16, 17, 18, 19, 20, 21, 22, 23, 24, 25, 26], [0, 1, 2, 3, 4, 5, 6, 7, 8, 9, 10, 11, 12, 13, 14, 15, 16, 17, 18, 19, 20, 21, 22, 23, 24, 25, 26, 27], [0, 1, 2, 3, 4, 5, 6, 7, 8, 9, 10, 11, 12, 13, 14, 15, 16, 17, 18, 19, 20, 21, 22, 23, 24, 25, 26], [0, 1, 2, 3, 4, 5, 6, 7, 8, 9, 10, 11, 12, 13, 14, 15, 16, 17, 18, 19, 20, 21, 22, 23, 24, 25, 26, 29], [0, 1, 2, 3, 4, 5, 6, 7, 8, 9, 10, 11, 12, 13, 14, 15, 16, 17, 18, 19, 20, 21, 22, 23, 24, 25, 26, 27, 28, 29, 30], [0, 1, 2, 3, 4, 5, 6, 7, 8, 9, 10, 11, 12, 13, 14, 15, 16, 17, 18, 19, 20, 21, 22, 23, 24, 25, 26, 27, 28, 29, 30, 31], [0, 1, 2, 3, 4, 5, 6, 7, 8, 9, 10, 11, 12, 13, 14, 15, 16, 17, 18, 19, 20, 21, 22, 23, 24, 25, 26, 27, 28, 29, 30, 31, 32], [0, 1, 2, 3, 4, 5, 6, 7, 8, 9, 10, 11, 12, 13, 14, 15, 16, 17, 18, 19, 20, 21, 22, 23, 24, 25, 26], [0, 1, 2, 3, 4, 5, 6, 7, 8, 9, 10, 11, 12, 13, 14, 15, 16, 17, 18, 19, 20, 21, 22, 23, 24, 25, 26, 27, 28, 29, 30, 31, 32, 33, 34], [0, 1, 2, 3, 4, 5, 6, 7, 8, 9, 10, 11, 12, 13, 14, 15, 16, 17, 18, 19, 20, 21, 22, 23, 24, 25, 26, 27, 28, 29, 30, 31, 32, 33, 34, 35], [0, 1, 2, 3, 4, 5, 6, 7, 8, 9, 10, 11, 12, 13, 14, 15, 16, 17, 18, 19, 20, 21, 22, 23, 24, 25, 26, 27, 28, 29, 30, 31, 32, 33, 34, 35, 36], [0, 1, 2, 3, 4, 5, 6, 7, 8, 9, 10, 11, 12, 13, 14, 15, 16, 17, 18, 19, 20, 21, 22, 23, 24, 25, 26, 27, 28, 29, 30, 31, 32, 33, 34, 35, 36, 37], [0, 1, 2, 3, 4, 5, 6, 7, 8, 9, 10, 11, 12, 13, 14, 15, 16, 17, 18, 19, 20, 21, 22, 23, 24, 25, 26, 27, 28, 29, 30, 31, 32, 33, 34, 35, 36, 37, 38], [0, 1, 2, 3, 4, 5, 6, 7, 8, 9, 10, 11, 12, 13, 14, 15, 16, 17, 18, 19, 20, 21, 22, 23, 24, 25, 26, 27, 28, 29, 30, 31, 32, 33, 34, 35, 36, 37], [0, 1, 2, 3, 4, 5, 6, 7, 8, 9, 10, 11, 12, 13, 14, 15, 16, 17, 18, 19, 20, 21, 22, 23, 24, 25, 26, 27, 28, 29, 30, 31, 32, 33, 34, 35, 36, 37, 40], [0, 1, 2, 3, 4, 5, 6, 7, 8, 9, 10, 11, 12, 13, 14, 15, 16, 17, 18, 19, 20, 21, 22, 23, 24, 25, 26, 27, 28, 29, 30, 31, 32, 33, 34, 35, 36, 37, 38, 39, 40, 41], [0, 1, 2, 3, 4, 5, 6, 7, 8, 9, 10, 11, 12, 13, 14, 15, 16, 17, 18, 19, 20, 21, 22, 23, 24, 25, 26, 27, 28, 29, 30, 31, 32, 33, 34, 35, 36, 37, 38, 39, 40, 41, 42], [0, 1, 2, 3, 4, 5, 6, 7, 8, 9, 10, 11, 12, 13, 14, 15, 16, 17, 18, 19, 20, 21, 22, 23, 24, 25, 26, 27, 28, 29, 30, 31, 32, 33, 34, 35, 36, 37, 38, 39, 40, 41, 42, 43], [0, 1, 2, 3, 4, 5, 6, 7, 8, 9, 10, 11, 12, 13, 14, 15, 16, 17, 18, 19, 20, 21, 22, 23, 24, 25, 26, 27, 28, 29, 30, 31, 32, 33, 34, 35, 36, 37], [0, 1, 2, 3, 4, 5, 6, 7, 8, 9, 10, 11, 12, 13, 14, 15, 16, 17, 18, 19, 20, 21, 22, 23, 24, 25, 26, 27, 28, 29, 30, 31, 32, 33, 34, 35, 36, 37, 45], [0, 1, 2, 3, 4, 5, 6, 7, 8, 9, 10, 11, 12, 13, 14, 15, 16, 17, 18, 19, 20, 21, 22, 23, 24, 25, 26, 27, 28, 29, 30, 31, 32, 33, 34, 35, 36, 37], [0, 1, 2, 3, 4, 5, 6, 7, 8, 9, 10, 11, 12, 13, 14, 15, 16, 17, 18, 19, 20, 21, 22, 23, 24, 25, 26, 27, 28, 29, 30, 31, 32, 33, 34, 35, 36, 37, 47], [0, 1, 2, 3, 4, 5, 6, 7, 8, 9, 10, 11, 12, 13, 14, 15, 16, 17, 18, 19, 20, 21, 22, 23, 24, 25, 26, 27, 28, 29, 30, 31, 32, 33, 34, 35, 36, 37, 45, 46, 47, 48], [0, 1, 2, 3, 4, 5, 6, 7, 8, 9, 10, 11, 12, 13, 14, 15, 16, 17, 18, 19, 20, 21, 22, 23, 24, 25, 26, 27, 28, 29, 30, 31, 32, 33, 34, 35, 36, 37, 45, 46, 47, 48, 49], [0, 1, 2, 3, 4, 5, 6, 7, 8, 9, 10, 11, 12, 13, 14, 15, 16, 17, 18, 19, 20, 21, 22, 23, 24, 25, 26, 27, 28, 29, 30, 31, 32, 33, 34, 35, 36, 37, 45, 46, 47, 48, 49, 50], [0, 1, 2, 3, 4, 5, 6, 7, 8, 9, 10, 11, 12, 13, 14, 15, 16, 17, 18, 19, 20, 21, 22, 23, 24, 25, 26, 27, 28, 29, 30, 31, 32, 33, 34, 35, 36, 37, 38, 39, 40, 41, 42, 43, 44, 45, 46, 47, 48, 49, 50, 51], [0, 1, 2, 3, 4, 5, 6, 7, 8, 9, 10, 11, 12, 13, 14, 15, 16, 17, 18, 19, 20, 21, 22, 23, 24, 25, 26, 27, 28, 29, 30, 31, 32, 33, 34, 35, 36, 37, 38, 39, 40, 41, 42, 43, 44, 45, 46, 47, 48, 49, 50, 51, 52], [0, 1, 2, 3, 4, 5, 6, 7, 8, 9, 10, 11, 12, 13, 14, 15, 16, 17, 18, 19, 20, 21, 22, 23, 24, 25, 26, 27, 28, 29, 30, 31, 32, 33, 34, 35, 36, 37, 38, 39, 40, 41, 42, 43, 44, 45, 46, 47, 48, 49, 50, 51, 52, 53]])
    (.cond (.t 49)
      (.seq (.note (.gc [3, 5]) (.reg [⟨.fad 3 (.t 3), (some 104), none⟩,
        ⟨.ld none (.t 104), (some 105), none⟩,
        ⟨.fad 2 (.t 5), (some 106), none⟩,
        ⟨.ld none (.t 106), (some 107), none⟩,
        ⟨.iad 2 (.t 105) (.t 107), (some 108), none⟩,
        ⟨.fad 1 (.t 108), (some 109), none⟩,
        ⟨.ld none (.t 109), (some 110), none⟩,
        ⟨.mv (.t 110), (some 6), none⟩,
        ⟨.mv (.c (.bool true)), (some 7), none⟩]))
      .ret)
      .skip)))))
  (.seq (.reg [⟨.mv (.c (.int .i64 0)), (some 6), none⟩,
    ⟨.mv (.c (.bool false)), (some 7), none⟩])
  .ret)))
theorem ok_rights_follow : mc_rights_follow.ok Tryd.prog Tryd.f58.ntmps (Tryd.f58.body.getD .skip) = true := by kernel_rfl

set_option maxHeartbeats 2000000 in
theorem Wq_rights_follow (x_ : GRights) (c_ : Int) (l_ : GLink) {Q : Int × Bool → Prop} {Q' : V → Heap → Prop} (h : Ok (F_rights_follow x_ c_ l_) Q) (hQ : ∀ z, Q z → Q' (.tup [.int .i64 z.1, .bool z.2]) []) : ACall Tryd.prog 58 [GRights.v x_, .int .i64 c_, GLink.v l_] [] Q' := by
  refine acall_machN [] [] [.t 6, .t 7] Tryd.func58 rfl (by kernel_rfl) ok_rights_follow (by kernel_rfl) rfl rfl fun M hf => ?_
  clear hf
  unfold F_rights_follow at h
  unfold mc_rights_follow
  (try replace h := tH h)
  refine tB ?_
  repeat' (first
    | (exact hQ _ h)
    | (exact trivial)
    | (exact False.elim h)
    | (have hq := hQ _ h; replace hq := tH hq; exact hq)
    | (refine oblg h ?_; clear h; intro hc h)
    | (refine roomG h ?_; clear h; intro hc h)
    | (refine fork h ?_ ?_ <;> clear h <;> intro hc h)
    | (refine forkS h ?_ ?_ <;> clear h <;> intro hc h)
    | (refine And.intro (chkD_of rfl) ?_)
    | (obtain ⟨y, hy, h⟩ := h; have hw := W_rights_among hy; (try replace hw := tH hw); (first | (refine sCall_of hw rfl rfl ?_; rw [M.lok_eq]) | (refine sCallD_of hw rfl rfl ?_; rw [M.lokD_eq])); clear hw; clear hy; refine tB ?_)
    | (refine M.gj1 (ms := mg_rights_follow_4) [1, 3, 5] [5, 3] (fun y => [(41, .bool y)]) (fun y => []) h ?_ ?_ <;> first
       | (clear h; intro Qn K hK1 h; unfold mg_rights_follow_4; (try replace h := tH h); refine tB ?_)
       | (clear h; intro y h; (try replace h := tH h); refine tB ?_)
       | fail)
    | (refine M.gj1 (ms := mg_rights_follow_3) [1, 3, 5] [5, 3] (fun y => [(30, .bool y)]) (fun y => []) h ?_ ?_ <;> first
       | (clear h; intro Qn K hK2 h; unfold mg_rights_follow_3; (try replace h := tH h); refine tB ?_)
       | (clear h; intro y h; (try replace h := tH h); refine tB ?_)
       | fail)
    | (refine M.gv1 (ms := mg_rights_follow_2) 21 [18, 19, 20] h ?_ ?_ <;> first
       | (clear h; intro K hK3; unfold mg_rights_follow_2; refine tB ?_)
       | (clear h; intro b h; (try replace h := tH h); refine tB ?_)
       | fail)
    | (refine M.gv1 (ms := mg_rights_follow_1) 16 [13, 14, 15] h ?_ ?_ <;> first
       | (clear h; intro K hK4; unfold mg_rights_follow_1; refine tB ?_)
       | (clear h; intro b h; (try replace h := tH h); refine tB ?_)
       | fail)
    | (refine hK1 _ ?_; (try refine tB ?_); refine ⟨_, h, ?_⟩; exact tU0; done)
    | (refine hK2 _ ?_; (try refine tB ?_); refine ⟨_, h, ?_⟩; exact tU0; done)
    | (refine hK3 _ ?_; exact tU; done)
    | (refine hK4 _ ?_; exact tU; done)
    | (refine bfork (fun hc => ?_) (fun hc => ?_))
    | (refine ⟨_, getE_map (inb_toNat (by assumption)), ?_⟩; (first | rw [M.lok_compU] | rw [M.lokD_compU]); refine tB ?_)
    | (refine And.intro (ltb_of (by assumption)) ?_)
    | (refine And.intro (by omega) ?_)
    | fail)
theorem W_rights_follow : ∀ {x_ : GRights} {c_ : Int} {l_ : GLink} {y : Int × Bool}, F_rights_follow x_ c_ l_ = some y → ACall Tryd.prog 58 [GRights.v x_, .int .i64 c_, GLink.v l_] [] (fun r H => r = .tup [.int .i64 y.1, .bool y.2] ∧ H = []) :=
  fun hy => Wq_rights_follow _ _ _ (Q := fun z => z = _) ⟨_, hy, rfl⟩ fun z e => by subst e; exact ⟨rfl, rfl⟩

noncomputable def F_slices_Clone_api_Link_api_Link (s_ : List GLink) : Option (List GLink) :=
  amb s_.isEmpty (some []) (chk (room (([] : List GLink).length + s_.length) 32) (some (([] : List GLink) ++ s_)))

/- slices.Clone[[]leakresponse/api.Link,leakresponse/api.Link] -/
def mc_slices_Clone_api_Link_api_Link : MC :=
  (.seq (.reg [⟨.mv (.c .nils), (some 2), none⟩])
  (.seq (.seq (.reg [⟨.mv (.t 0), (some 3), none⟩,
    ⟨.mp (.isn false) [(.t 3)], (some 4), none⟩])
  (.cond (.t 4)
    (.seq (.reg [⟨.mv (.c .nils), (some 2), none⟩])
    .ret)
    .skip))
  (.seq (.reg [⟨.bslice 4 [], (some 5), none⟩,
    ⟨.mv (.t 0), (some 6), none⟩,
    ⟨.app 4 32 (.t 5) (.t 6), (some 7), none⟩,
    ⟨.mv (.t 7), (some 2), none⟩])
  .ret)))
theorem ok_slices_Clone_api_Link_api_Link : mc_slices_Clone_api_Link_api_Link.ok Tryd.prog Tryd.f60.ntmps (Tryd.f60.body.getD .skip) = true := by kernel_rfl

set_option maxHeartbeats 2000000 in
theorem Wq_slices_Clone_api_Link_api_Link (s_ : List GLink) {Q : List GLink → Prop} {Q' : V → Heap → Prop} (h : Ok (F_slices_Clone_api_Link_api_Link s_) Q) (hQ : ∀ z, Q z → Q' (.osl 1900 4 0 z.length) [(1900, .arr 4 (z.map GLink.v))]) : ACall Tryd.prog 60 [.sl (s_.map GLink.v)] [] Q' := by
  refine acall_machN [.acc 2 1900 4] [1900] [.t 2] Tryd.func60 rfl (by kernel_rfl) ok_slices_Clone_api_Link_api_Link (by kernel_rfl) rfl rfl fun M hf => ?_
  clear hf
  unfold F_slices_Clone_api_Link_api_Link at h
  unfold mc_slices_Clone_api_Link_api_Link
  (try replace h := tH h)
  refine tB ?_
  repeat' (first
    | (exact hQ _ h)
    | (exact trivial)
    | (exact False.elim h)
    | (have hq := hQ _ h; replace hq := tH hq; exact hq)
    | (refine oblg h ?_; clear h; intro hc h)
    | (refine roomG h ?_; clear h; intro hc h)
    | (refine fork h ?_ ?_ <;> clear h <;> intro hc h)
    | (refine forkS h ?_ ?_ <;> clear h <;> intro hc h)
    | (refine And.intro (chkD_of rfl) ?_)
    | (refine amb_fork h (fun hp => by simpa using hp) ?_ ?_ <;> first
       | (clear h; intro hc h; rw [M.lok_eq]; (try replace h := tH h); refine tB ?_)
       | (clear h; intro h; rw [M.lok_eq]; (try replace h := tH h); refine tB ?_)
       | fail)
    | (refine ⟨_, getE_map (inb_toNat (by assumption)), ?_⟩; (first | rw [M.lok_compU] | rw [M.lokD_compU]); refine tB ?_)
    | (refine And.intro (ltb_of (by assumption)) ?_)
    | (refine And.intro (by omega) ?_)
    | fail)
theorem W_slices_Clone_api_Link_api_Link : ∀ {s_ : List GLink} {y : List GLink}, F_slices_Clone_api_Link_api_Link s_ = some y → ACall Tryd.prog 60 [.sl (s_.map GLink.v)] [] (fun r H => r = .osl 1900 4 0 y.length ∧ H = [(1900, .arr 4 (y.map GLink.v))]) :=
  fun hy => Wq_slices_Clone_api_Link_api_Link _ (Q := fun z => z = _) ⟨_, hy, rfl⟩ fun z e => by subst e; exact ⟨rfl, rfl⟩

noncomputable def F_rights_chains_L1 (x_ : GRights) (k805 : Int) (a806 : GLink) (x804 : (List Int) × (List (Int × List GLink))) : Option ((List Int) × (List (Int × List GLink))) :=
  chk (inb 0 x804.1.length) ((F_rights_follow x_ (x804.1.getD 0 default) a806).bind fun y820 => bif (!((aget y820.1 x804.2).isSome)) then chk (inb 0 x804.1.length) ((F_slices_Clone_api_Link_api_Link ((aget (x804.1.getD 0 default) x804.2).getD [])).bind fun y822 => chk (room (y822.length + [a806].length) 32) (chk (room (x804.1.length + [y820.1].length) 8) (some ((x804.1 ++ [y820.1]), aput y820.1 (y822 ++ [a806]) x804.2)))) else some (x804.1, x804.2))
noncomputable def F_rights_chains_L2 (x_ : GRights) (x619 : (List Int) × (List (Int × List GLink))) : Option (Fl ((List Int) × (List (Int × List GLink))) (List (Int × List GLink))) :=
  bif decide (0 < (x619.1.length : Int)) then chk (inb 0 x619.1.length) ((F_rights_links x_ (x619.1.getD 0 default)).bind fun y774 => (foldL (F_rights_chains_L1 x_) y774 0 (x619.1, x619.2)).bind fun x823 => chk (inc 1 (x823.1.length : Int) x823.1.length) (some (.nx ((x823.1.drop 1).take (x823.1.length - 1), x823.2)))) else some (.ex x619.2)
noncomputable def F_rights_chains (x_ : GRights) (c_ : Int) : Option (List (Int × List GLink)) :=
  (loop (F_rights_chains_L2 x_) ([c_], aput c_ [] [])).bind fun r824 => some r824

/- leakresponse/rights.chains -/
@[irreducible] def mc_rights_chains_L1 : MC :=
  (.seq (.reg [⟨.bin false .lss (.t 29) (.t 28), (some 30), none⟩])
  (.seq (.cond (.t 30)
    .skip
    (.exit 2))
  (.seq (.block 3
  (.seq (.reg [⟨.iad 4 (.t 27) (.t 29), (some 31), none⟩,
    ⟨.ld (some 4) (.t 31), (some 32), none⟩,
    ⟨.alloc [(.int .i64 0), (.int .i64 0), (.int .i64 0), (.int .i64 0)], (some 8), none⟩,
    ⟨.st 4 (.t 8) (.t 32), none, none⟩])
  (.seq (.regD [⟨.ld (some 5) (.t 2), (some 34), none⟩,
    ⟨.mv (.t 6), (some 35), none⟩,
    ⟨.iad 1 (.t 35) (.c (.int .i64 0)), (some 36), none⟩,
    ⟨.ld none (.t 36), (some 37), none⟩,
    ⟨.ld (some 4) (.t 8), (some 38), none⟩,
    ⟨.call (.f 58) [(.t 34), (.t 37), (.t 38)] [] [], (some 39), none⟩,
    ⟨.mv (.t 39), (some 33), none⟩,
    ⟨.ext 0 (.t 33), (some 40), none⟩,
    ⟨.ext 1 (.t 33), (some 41), none⟩,
    ⟨.mv (.t 40), (some 9), none⟩,
    ⟨.mv (.t 41), (some 10), none⟩]
    [[], [], [1], [2], [], [0, 3, 4], [5], [6], [6], [7, 5, 0, 1, 2, 3, 4, 5, 6, 7], [8, 9, 0, 1, 2, 3, 4, 5, 6, 7, 8, 9]]
    [[], [], [1], [1, 2], [], [0, 1, 2, 3, 4], [0, 1, 2, 3, 4, 5], [0, 1, 2, 3, 4, 5, 6], [0, 1, 2, 3, 4, 5, 6], [0, 1, 2, 3, 4, 5, 6, 7], [0, 1, 2, 3, 4, 5, 6, 7, 8, 9]])
  (.seq (.note (.gc [2, 5, 6, 8, 9, 27, 28, 29]) (.reg [⟨.mv (.t 5), (some 43), none⟩,
    ⟨.mv (.t 9), (some 44), none⟩,
    ⟨.mp (.lku (.int .i64) true (.sl [])) [(.t 43), (.t 44)], (some 45), none⟩,
    ⟨.mv (.t 45), (some 42), none⟩,
    ⟨.ext 0 (.t 42), (some 46), none⟩,
    ⟨.ext 1 (.t 42), (some 47), none⟩,
    ⟨.mv (.t 46), (some 11), none⟩,
    ⟨.mv (.t 47), (some 12), none⟩]))
  (.seq (.reg [⟨.mv (.t 12), (some 48), none⟩,
    ⟨.not (.t 48), (some 49), none⟩])
  (.cond (.t 49)
    (.seq (.note (.gc [2, 5, 6, 8, 9, 27, 28, 29]) (.regD [⟨.mv (.t 5), (some 50), none⟩,
      ⟨.mv (.t 9), (some 51), none⟩,
      ⟨.mv (.t 5), (some 52), none⟩,
      ⟨.mv (.t 6), (some 53), none⟩,
      ⟨.iad 1 (.t 53) (.c (.int .i64 0)), (some 54), none⟩,
      ⟨.ld none (.t 54), (some 55), none⟩,
      ⟨.mp (.lku (.int .i64) false (.sl [])) [(.t 52), (.t 55)], (some 56), none⟩,
      ⟨.call (.f 60) [(.t 56)] [] [57], (some 57), none⟩,
      ⟨.ld (some 4) (.t 8), (some 58), none⟩,
      ⟨.bslice 4 [(.t 58)], (some 59), none⟩,
      ⟨.app 4 32 (.t 57) (.t 59), (some 60), none⟩,
      ⟨.mp (.ups (.int .i64)) [(.t 50), (.t 51), (.t 60)], none, none⟩]
      [[], [], [], [], [3], [4], [2, 5], [6], [], [8], [7, 9, 7], [0, 1, 10, 10, 0, 1, 2, 3, 4, 5, 6, 7, 8, 9, 10]]
      [[], [], [], [], [3], [3, 4], [2, 3, 4, 5], [2, 3, 4, 5, 6], [], [8], [2, 3, 4, 5, 6, 7, 8, 9], [0, 1, 2, 3, 4, 5, 6, 7, 8, 9, 10]]))
    (.note (.gc [2, 5, 6, 9, 27, 28, 29]) (.reg [⟨.mv (.t 6), (some 61), none⟩,
      ⟨.mv (.t 9), (some 62), none⟩,
      ⟨.bslice 1 [(.t 62)], (some 63), none⟩,
      ⟨.app 1 8 (.t 61) (.t 63), (some 64), none⟩,
      ⟨.mv (.t 64), (some 6), none⟩])))
    .skip))))))
  (.reg [⟨.bin true .add (.t 29) (.c (.int .i64 1)), (some 65), none⟩,
    ⟨.mv (.t 65), (some 29), none⟩]))))
@[irreducible] def mc_rights_chains_L2 : MC :=
  (.seq (.seq (.reg [⟨.mv (.t 6), (some 18), none⟩,
    ⟨.len false (.t 18), (some 19), none⟩,
    ⟨.bin false .gtr (.t 19) (.c (.int .i64 0)), (some 20), none⟩])
  (.cond (.t 20)
    .skip
    (.exit 0)))
  (.seq (.block 1
  (.seq (.regD [⟨.ld (some 5) (.t 2), (some 23), none⟩,
    ⟨.mv (.t 6), (some 24), none⟩,
    ⟨.iad 1 (.t 24) (.c (.int .i64 0)), (some 25), none⟩,
    ⟨.ld none (.t 25), (some 26), none⟩,
    ⟨.call (.f 57) [(.t 23), (.t 26)] [] [], (some 27), none⟩,
    ⟨.len false (.t 27), (some 28), none⟩,
    ⟨.mv (.c (.int .i64 0)), (some 29), none⟩]
    [[], [], [1], [2], [0, 3], [4], []]
    [[], [], [1], [1, 2], [0, 1, 2, 3], [0, 1, 2, 3, 4], []])
  (.block 2
  (.loop mc_rights_chains_L1))))
  (.reg [⟨.mv (.t 6), (some 21), none⟩,
    ⟨.slc 1 (.t 21) (some (.c (.int .i64 1))) none, (some 22), none⟩,
    ⟨.mv (.t 22), (some 6), none⟩])))
def mc_rights_chains : MC :=
  (.seq (.reg [⟨.box (.t 0), (some 2), none⟩,
    ⟨.mv (.c .nilm), (some 4), none⟩])
  (.seq (.reg [⟨.mp (.mk (.int .i64)) [], (some 13), none⟩,
    ⟨.mv (.t 1), (some 14), none⟩,
    ⟨.mp (.up (.int .i64)) [(.t 13), (.t 14), (.c (.sl []))], none, none⟩,
    ⟨.mv (.t 13), (some 15), none⟩,
    ⟨.mv (.t 15), (some 5), none⟩])
  (.seq (.seq (.reg [⟨.mv (.t 1), (some 16), none⟩,
    ⟨.bslice 1 [(.t 16)], (some 17), none⟩,
    ⟨.mv (.t 17), (some 6), none⟩])
  (.block 0
  (.loop mc_rights_chains_L2)))
  (.seq (.reg [⟨.mv (.t 5), (some 66), none⟩,
    ⟨.mv (.t 66), (some 4), none⟩])
  .ret))))
theorem ok_rights_chains : mc_rights_chains.ok Tryd.prog Tryd.f52.ntmps (Tryd.f52.body.getD .skip) = true := by kernel_rfl

set_option maxHeartbeats 2000000 in
theorem Wq_rights_chains (x_ : GRights) (c_ : Int) {Q : List (Int × List GLink) → Prop} {Q' : V → Heap → Prop} (h : Ok (F_rights_chains x_ c_) Q) (hQ : ∀ z, Q z → Q' ((mpV (.int .i64) (V.int .i64) (slV GLink.v)) z) []) : ACall Tryd.prog 52 [GRights.v x_, .int .i64 c_] [] Q' := by
  refine acall_machN [.fz 4] [] [.t 4] Tryd.func52 rfl (by kernel_rfl) ok_rights_chains (by kernel_rfl) rfl rfl fun M hf => ?_
  clear hf
  unfold F_rights_chains at h
  unfold mc_rights_chains
  (try replace h := tH h)
  refine tB ?_
  repeat' (first
    | (exact hQ _ h)
    | (exact trivial)
    | (exact False.elim h)
    | (have hq := hQ _ h; replace hq := tH hq; exact hq)
    | (refine oblg h ?_; clear h; intro hc h)
    | (refine roomG h ?_; clear h; intro hc h)
    | (refine fork h ?_ ?_ <;> clear h <;> intro hc h)
    | (refine forkS h ?_ ?_ <;> clear h <;> intro hc h)
    | (refine And.intro (chkD_of rfl) ?_)
    | (obtain ⟨y, hy, h⟩ := h; have hw := W_rights_links hy; (try replace hw := tH hw); (first | (refine sCall_of hw rfl rfl ?_; rw [M.lok_eq]) | (refine sCallD_of hw rfl rfl ?_; rw [M.lokD_eq])); clear hw; clear hy; refine tB ?_)
    | (obtain ⟨y, hy, h⟩ := h; have hw := W_rights_follow hy; (try replace hw := tH hw); (first | (refine sCall_of hw rfl rfl ?_; rw [M.lok_eq]) | (refine sCallD_of hw rfl rfl ?_; rw [M.lokD_eq])); clear hw; clear hy; refine tB ?_)
    | (obtain ⟨y, hy, h⟩ := h; have hw := acall_swe 1900 57 (W_slices_Clone_api_Link_api_Link hy); (try replace hw := tH hw); (first | (refine sCall_of hw rfl rfl ?_; rw [M.lok_eq]) | (refine sCallD_of hw rfl rfl ?_; rw [M.lokD_eq])); clear hw; clear hy; refine tB ?_)
    | (refine M.fold1 (b := mc_rights_chains_L1) 29 [2, 5, 27, 28] [2] (fun x => [(6, .osl 2006 1 0 x.1.length)]) (fun x => [.o 2006 (.arr 1 (x.1.map (V.int .i64))), .o 13 (.map (.int .i64) (x.2.map (kvV (V.int .i64) (slV GLink.v))))]) [.gc [2, 5, 6, 27, 28, 29], .acc 6 2006 1] h ?_ ?_ ?_ <;> first
       | (clear h; intro k a x Qn K hK1 hkN1 ha1 h hf; have hl := fact_int (factsE_find (n := 28) hf.1 rfl); clear hf; have hkd := kD hkN1; have hkB1 := kB hkN1; have hkI1 : in64 ((k : Int) + 1) = true := in64_iff.2 ⟨by omega, by (try simp only [List.length_cons, List.length_nil] at hkN1); omega⟩; unfold F_rights_chains_L1 at h; unfold mc_rights_chains_L1; (try replace h := tH h); refine tK ha1 hkd hkN1 hkB1 hkI1 ?_)
       | (clear h; intro x K h; replace h := And.left (And.intro h trivial); unfold mc_rights_chains_L1; (try replace h := tH h); refine tB ?_)
       | (clear h; (try refine tB ?_); exact tU0; done)
       | fail)
    | (refine M.wh1 (b := mc_rights_chains_L2) [2, 5] [2] (fun x => [(6, .osl 2006 1 0 x.1.length)]) (fun x => [.o 2006 (.arr 1 (x.1.map (V.int .i64))), .o 13 (.map (.int .i64) (x.2.map (kvV (V.int .i64) (slV GLink.v))))]) [.gc [2, 5, 6], .trim 6, .acc 6 2006 1] h ?_ ?_ <;> first
       | (clear h; intro x Qn K hK2 h; unfold F_rights_chains_L2 at h; unfold mc_rights_chains_L2; (try replace h := tH h); refine tB ?_)
       | (clear h; (try refine tB ?_); exact tU0; done)
       | fail)
    | (refine And.intro hkI1 ?_)
    | (refine And.intro hkN1 ?_)
    | (refine And.intro hkB1 ?_)
    | (simp only [ha1])
    | (refine hK1 _ ?_; (try refine tB ?_); refine ⟨_, h, ?_⟩; exact tU0; done)
    | (refine hK2 _ ?_; (try refine tB ?_); refine ⟨_, h, ?_⟩; exact tU0; done)
    | (refine ⟨_, getE_map (inb_toNat (by assumption)), ?_⟩; (first | rw [M.lok_compU] | rw [M.lokD_compU]); refine tB ?_)
    | (refine And.intro (ltb_of (by assumption)) ?_)
    | (refine And.intro (by omega) ?_)
    | fail)
theorem W_rights_chains : ∀ {x_ : GRights} {c_ : Int} {y : List (Int × List GLink)}, F_rights_chains x_ c_ = some y → ACall Tryd.prog 52 [GRights.v x_, .int .i64 c_] [] (fun r H => r = (mpV (.int .i64) (V.int .i64) (slV GLink.v)) y ∧ H = []) :=
  fun hy => Wq_rights_chains _ _ (Q := fun z => z = _) ⟨_, hy, rfl⟩ fun z e => by subst e; exact ⟨rfl, rfl⟩

noncomputable def F_rights_Reach_L1 (k25 : Int) (a23 : Int × List GLink) (x22 : List Int) : Option (List Int) :=
  chk (room (x22.length + [a23.1].length) 8) (some (x22 ++ [a23.1]))
noncomputable def F_rights_Reach (x_ : GRights) (c_ : Int) : Option (List Int) :=
  (F_rights_Check x_).bind fun y7 => bif (!decide (y7 = 0)) then some [] else (F_rights_credential x_ c_).bind fun y8 => bif (!y8) then some [] else (F_rights_chains x_ c_).bind fun y19 => permL (fun l24 => (foldL F_rights_Reach_L1 l24 0 []).bind fun x26 => (sortI x26).bind fun y28 => some y28) y19

/- leakresponse/rights.Reach -/
@[irreducible] def mc_rights_Reach_L1 : MC :=
  (.seq (.reg [⟨.mp .nxt [(.t 19)], (some 20), none⟩,
    ⟨.ext 0 (.t 20), (some 21), none⟩])
  (.seq (.cond (.t 21)
    .skip
    (.exit 0))
  (.block 1
  (.seq (.reg [⟨.mp .ent [(.t 19)], (some 22), none⟩,
    ⟨.ext 0 (.t 22), (some 23), none⟩,
    ⟨.mv (.t 23), (some 6), none⟩])
  (.reg [⟨.mv (.t 5), (some 24), none⟩,
    ⟨.mv (.t 6), (some 25), none⟩,
    ⟨.bslice 1 [(.t 25)], (some 26), none⟩,
    ⟨.app 1 8 (.t 24) (.t 26), (some 27), none⟩,
    ⟨.mv (.t 27), (some 5), none⟩])))))
def mc_rights_Reach : MC :=
  (.seq (.reg [⟨.box (.t 0), (some 2), none⟩,
    ⟨.mv (.c (.sl [])), (some 4), none⟩])
  (.seq (.seq (.reg [⟨.ld (some 5) (.t 2), (some 7), none⟩,
    ⟨.call (.f 27) [(.t 7)] [] [], (some 8), none⟩,
    ⟨.bin false .neq (.t 8) (.c (.int .i64 0)), (some 9), none⟩,
    ⟨.mv (.t 9), (some 10), none⟩,
    ⟨.ld (some 5) (.t 2), (some 11), (some (10, false))⟩,
    ⟨.mv (.t 1), (some 12), (some (10, false))⟩,
    ⟨.call (.f 36) [(.t 11), (.t 12)] [] [], (some 13), (some (10, false))⟩,
    ⟨.not (.t 13), (some 14), (some (10, false))⟩,
    ⟨.pick (.t 10) (.c (.bool true)) (.t 14), (some 15), none⟩])
  (.cond (.t 15)
    (.seq (.reg [⟨.mv (.c (.sl [])), (some 4), none⟩])
    .ret)
    .skip))
  (.seq (.reg [⟨.mv (.c .nils), (some 5), none⟩])
  (.seq (.seq (.note (.gc [1, 2, 5]) (.reg [⟨.ld (some 5) (.t 2), (some 16), none⟩,
    ⟨.mv (.t 1), (some 17), none⟩,
    ⟨.call (.f 52) [(.t 16), (.t 17)] [] [], (some 18), none⟩,
    ⟨.mp .rng [(.t 18)], (some 19), none⟩]))
  (.block 0
  (.loop mc_rights_Reach_L1)))
  (.seq (.reg [⟨.mv (.t 5), (some 28), none⟩,
    ⟨.call (.f 53) [(.t 28)] [2005] [], (some 29), none⟩])
  (.seq (.reg [⟨.mv (.t 5), (some 30), none⟩,
    ⟨.mv (.t 30), (some 4), none⟩])
  .ret))))))
theorem ok_rights_Reach : mc_rights_Reach.ok Tryd.prog Tryd.f45.ntmps (Tryd.f45.body.getD .skip) = true := by kernel_rfl

set_option maxHeartbeats 2000000 in
theorem Wq_rights_Reach (x_ : GRights) (c_ : Int) {Q : List Int → Prop} {Q' : V → Heap → Prop} (h : Ok (F_rights_Reach x_ c_) Q) (hQ : ∀ z, Q z → Q' (.sl (z.map (V.int .i64))) []) : ACall Tryd.prog 45 [GRights.v x_, .int .i64 c_] [] Q' := by
  refine acall_machN [.fz 4] [] [.t 4] Tryd.func45 rfl (by kernel_rfl) ok_rights_Reach (by kernel_rfl) rfl rfl fun M hf => ?_
  clear hf
  unfold F_rights_Reach at h
  unfold mc_rights_Reach
  (try replace h := tH h)
  refine tB ?_
  repeat' (first
    | (exact hQ _ h)
    | (exact trivial)
    | (exact False.elim h)
    | (refine And.intro (by refine ⟨?_, ?_, ?_, ?_⟩ <;> omega) ?_; first | exact hQ _ h | (rw [List.take_of_length_le (by omega)]; exact hQ _ h))
    | (have hq := hQ _ h; replace hq := tH hq; exact hq)
    | (refine oblg h ?_; clear h; intro hc h)
    | (refine roomG h ?_; clear h; intro hc h)
    | (refine fork h ?_ ?_ <;> clear h <;> intro hc h)
    | (refine forkS h ?_ ?_ <;> clear h <;> intro hc h)
    | (refine And.intro (chkD_of rfl) ?_)
    | (obtain ⟨y, hy, h⟩ := h; have hw := W_rights_Check hy; (try replace hw := tH hw); (first | (refine sCall_of hw rfl rfl ?_; rw [M.lok_eq]) | (refine sCallD_of hw rfl rfl ?_; rw [M.lokD_eq])); clear hw; clear hy; refine tB ?_)
    | (obtain ⟨y, hy, h⟩ := h; have hw := W_rights_credential hy; (try replace hw := tH hw); (first | (refine sCall_of hw rfl rfl ?_; rw [M.lok_eq]) | (refine sCallD_of hw rfl rfl ?_; rw [M.lokD_eq])); clear hw; clear hy; refine tB ?_)
    | (obtain ⟨y, hy, h⟩ := h; have hw := W_rights_chains hy; (try replace hw := tH hw); (first | (refine sCall_of hw rfl rfl ?_; rw [M.lok_eq]) | (refine sCallD_of hw rfl rfl ?_; rw [M.lokD_eq])); clear hw; clear hy; refine tB ?_)
    | (obtain ⟨y, hy, h⟩ := h; have hw := acall_swe 1000 2005 (W_sortI hy); (try replace hw := tH hw); (first | (refine sCall_of hw rfl rfl ?_; rw [M.lok_eq]) | (refine sCallD_of hw rfl rfl ?_; rw [M.lokD_eq])); clear hw; have hlen := sortI_len hy; clear hy; refine tB ?_)
    | (refine M.mfold1 (b := mc_rights_Reach_L1) (kv := (kvV (V.int .i64) (slV GLink.v))) 19 [19] [] (fun x => [(5, .osl 2005 1 0 x.length)]) (fun x => [.o 2005 (.arr 1 (x.map (V.int .i64)))]) [.gc [5, 19], .acc 5 2005 1] h ?_ ?_ <;> first
       | (clear h; intro rem cur x k Qn K hK1 hs1 hn1; unfold F_rights_Reach_L1 at hn1; unfold mc_rights_Reach_L1; refine tB ?_)
       | (clear h; (try refine tB ?_); exact tU0; done)
       | fail)
    | (refine nxt_of hs1 hn1 ?_ ?_ <;> first
       | (intro h; rw [M.lok_eq]; (try replace h := tH h); refine tB ?_)
       | (intro i a h; rw [M.lok_eq]; (try replace h := tH h); refine tB ?_)
       | fail)
    | (apply hK1; (try refine tB ?_); refine ⟨_, h, ?_⟩; exact tU0; done)
    | (refine ⟨_, getE_map (inb_toNat (by assumption)), ?_⟩; (first | rw [M.lok_compU] | rw [M.lokD_compU]); refine tB ?_)
    | (refine And.intro (ltb_of (by assumption)) ?_)
    | (refine And.intro (by omega) ?_)
    | fail)
theorem W_rights_Reach : ∀ {x_ : GRights} {c_ : Int} {y : List Int}, F_rights_Reach x_ c_ = some y → ACall Tryd.prog 45 [GRights.v x_, .int .i64 c_] [] (fun r H => r = .sl (y.map (V.int .i64)) ∧ H = []) :=
  fun hy => Wq_rights_Reach _ _ (Q := fun z => z = _) ⟨_, hy, rfl⟩ fun z e => by subst e; exact ⟨rfl, rfl⟩

noncomputable def F_directory_Ascending_L1 (l_ : List Int) (x9 : Int) : Option (Fl Int (Sum Unit Bool)) :=
  bif decide (x9 < (l_.length : Int)) then chk (in64 (x9 - 1)) (chk (inb (x9 - 1) l_.length) (chk (inb x9 l_.length) (bif decide ((l_.getD (x9).toNat default) ≤ (l_.getD ((x9 - 1)).toNat default)) then some (.ex (.inr false)) else chk (in64 (x9 + 1)) (some (.nx (x9 + 1)))))) else some (.ex (.inl ()))
noncomputable def F_directory_Ascending (l_ : List Int) : Option Bool :=
  (loop (F_directory_Ascending_L1 l_) 1).bind fun r10 => Sum.elim (fun u11 => some true) (fun u12 => some u12) r10

/- leakresponse/directory.Ascending -/
@[irreducible] def mc_directory_Ascending_L1 : MC :=
  (.seq (.seq (.reg [⟨.mv (.t 3), (some 4), none⟩,
    ⟨.mv (.t 0), (some 5), none⟩,
    ⟨.len false (.t 5), (some 6), none⟩,
    ⟨.bin false .lss (.t 4) (.t 6), (some 7), none⟩])
  (.cond (.t 7)
    .skip
    (.exit 0)))
  (.seq (.block 1
  (.seq (.regD [⟨.mv (.t 0), (some 10), none⟩,
    ⟨.mv (.t 3), (some 11), none⟩,
    ⟨.bin true .sub (.t 11) (.c (.int .i64 1)), (some 12), none⟩,
    ⟨.iad 1 (.t 10) (.t 12), (some 13), none⟩,
    ⟨.ld none (.t 13), (some 14), none⟩,
    ⟨.mv (.t 0), (some 15), none⟩,
    ⟨.mv (.t 3), (some 16), none⟩,
    ⟨.iad 1 (.t 15) (.t 16), (some 17), none⟩,
    ⟨.ld none (.t 17), (some 18), none⟩,
    ⟨.bin false .geq (.t 14) (.t 18), (some 19), none⟩]
    [[], [], [1], [0, 2], [3], [], [], [5, 6], [7], [4, 8]]
    [[], [], [1], [0, 1, 2], [0, 1, 2, 3], [], [], [5, 6], [5, 6, 7], [0, 1, 2, 3, 4, 5, 6, 7, 8]])
  (.cond (.t 19)
    (.seq (.reg [⟨.mv (.c (.bool false)), (some 2), none⟩])
    .ret)
    .skip)))
  (.note (.gc [0, 3]) (.reg [⟨.mv (.t 3), (some 8), none⟩,
    ⟨.bin true .add (.t 8) (.c (.int .i64 1)), (some 9), none⟩,
    ⟨.mv (.t 9), (some 3), none⟩]))))
def mc_directory_Ascending : MC :=
  (.seq (.reg [⟨.mv (.c (.bool false)), (some 2), none⟩])
  (.seq (.seq (.reg [⟨.mv (.c (.int .i64 1)), (some 3), none⟩])
  (.block 0
  (.loop mc_directory_Ascending_L1)))
  (.seq (.reg [⟨.mv (.c (.bool true)), (some 2), none⟩])
  .ret)))
theorem ok_directory_Ascending : mc_directory_Ascending.ok Tryd.prog Tryd.f55.ntmps (Tryd.f55.body.getD .skip) = true := by kernel_rfl

set_option maxHeartbeats 2000000 in
theorem Wq_directory_Ascending (l_ : List Int) {Q : Bool → Prop} {Q' : V → Heap → Prop} (h : Ok (F_directory_Ascending l_) Q) (hQ : ∀ z, Q z → Q' (.bool z) []) : ACall Tryd.prog 55 [.sl (l_.map (V.int .i64))] [] Q' := by
  refine acall_machN [] [] [.t 2] Tryd.func55 rfl (by kernel_rfl) ok_directory_Ascending (by kernel_rfl) rfl rfl fun M hf => ?_
  clear hf
  unfold F_directory_Ascending at h
  unfold mc_directory_Ascending
  (try replace h := tH h)
  refine tB ?_
  repeat' (first
    | (exact hQ _ h)
    | (exact trivial)
    | (exact False.elim h)
    | (have hq := hQ _ h; replace hq := tH hq; exact hq)
    | (refine oblg h ?_; clear h; intro hc h)
    | (refine roomG h ?_; clear h; intro hc h)
    | (refine fork h ?_ ?_ <;> clear h <;> intro hc h)
    | (refine forkS h ?_ ?_ <;> clear h <;> intro hc h)
    | (refine And.intro (chkD_of rfl) ?_)
    | (refine M.wh1 (b := mc_directory_Ascending_L1) [0] [] (fun x => [(3, .int .i64 x)]) (fun x => []) [] h ?_ ?_ <;> first
       | (clear h; intro x Qn K hK1 h; unfold F_directory_Ascending_L1 at h; unfold mc_directory_Ascending_L1; (try replace h := tH h); refine tB ?_)
       | (clear h; (try refine tB ?_); exact tU0; done)
       | fail)
    | (refine hK1 _ ?_; (try refine tB ?_); refine ⟨_, h, ?_⟩; exact tU0; done)
    | (refine ⟨_, getE_map (inb_toNat (by assumption)), ?_⟩; (first | rw [M.lok_compU] | rw [M.lokD_compU]); refine tB ?_)
    | (refine And.intro (ltb_of (by assumption)) ?_)
    | (refine And.intro (by omega) ?_)
    | fail)
theorem W_directory_Ascending : ∀ {l_ : List Int} {y : Bool}, F_directory_Ascending l_ = some y → ACall Tryd.prog 55 [.sl (l_.map (V.int .i64))] [] (fun r H => r = .bool y ∧ H = []) :=
  fun hy => Wq_directory_Ascending _ (Q := fun z => z = _) ⟨_, hy, rfl⟩ fun z e => by subst e; exact ⟨rfl, rfl⟩

def F_rights_Closed_1 (c_ : Int) (p_ : GRights) : Option Bool :=
  (F_rights_credential p_ c_).bind fun y2 => some (!y2)

/- leakresponse/rights.Closed$1 -/
def mc_rights_Closed_1 : MC :=
  (.seq (.reg [⟨.mv (.c (.bool false)), (some 3), none⟩])
  (.seq (.reg [⟨.ld (some 5) (.t 1), (some 4), none⟩,
    ⟨.mv (.t 0), (some 5), none⟩,
    ⟨.call (.f 36) [(.t 4), (.t 5)] [] [], (some 6), none⟩,
    ⟨.not (.t 6), (some 7), none⟩,
    ⟨.mv (.t 7), (some 3), none⟩])
  .ret))
theorem ok_rights_Closed_1 : mc_rights_Closed_1.ok Tryd.prog Tryd.f56.ntmps (Tryd.f56.body.getD .skip) = true := by kernel_rfl

set_option maxHeartbeats 2000000 in
theorem Wq_rights_Closed_1 (c_ : Int) (p_ : GRights) {Q : Bool → Prop} {Q' : V → Heap → Prop} (h : Ok (F_rights_Closed_1 c_ p_) Q) (hQ : ∀ z, Q z → Q' (.bool z) [(1000, .cells [.int .i64 p_.Credentials, .int .i64 p_.Resources, .sl (p_.Grants.map GGrant.v), .sl (p_.Stores.map GStore.v), .sl (p_.Mints.map GMint.v)])]) : ACall Tryd.prog 56 [.int .i64 c_, .ptr 1000 0] [(1000, .cells [.int .i64 p_.Credentials, .int .i64 p_.Resources, .sl (p_.Grants.map GGrant.v), .sl (p_.Stores.map GStore.v), .sl (p_.Mints.map GMint.v)])] Q' := by
  refine acall_machN [] [1000] [.t 3] Tryd.func56 rfl (by kernel_rfl) ok_rights_Closed_1 (by kernel_rfl) rfl rfl fun M hf => ?_
  clear hf
  unfold F_rights_Closed_1 at h
  unfold mc_rights_Closed_1
  (try replace h := tH h)
  refine tB ?_
  repeat' (first
    | (exact hQ _ h)
    | (exact trivial)
    | (exact False.elim h)
    | (have hq := hQ _ h; replace hq := tH hq; exact hq)
    | (refine oblg h ?_; clear h; intro hc h)
    | (refine roomG h ?_; clear h; intro hc h)
    | (refine fork h ?_ ?_ <;> clear h <;> intro hc h)
    | (refine forkS h ?_ ?_ <;> clear h <;> intro hc h)
    | (refine And.intro (chkD_of rfl) ?_)
    | (obtain ⟨y, hy, h⟩ := h; have hw := W_rights_credential hy; (try replace hw := tH hw); (first | (refine sCall_of hw rfl rfl ?_; rw [M.lok_eq]) | (refine sCallD_of hw rfl rfl ?_; rw [M.lokD_eq])); clear hw; clear hy; refine tB ?_)
    | (refine ⟨_, getE_map (inb_toNat (by assumption)), ?_⟩; (first | rw [M.lok_compU] | rw [M.lokD_compU]); refine tB ?_)
    | (refine And.intro (ltb_of (by assumption)) ?_)
    | (refine And.intro (by omega) ?_)
    | fail)
theorem W_rights_Closed_1 : ∀ {c_ : Int} {p_ : GRights} {y : Bool}, F_rights_Closed_1 c_ p_ = some y → ACall Tryd.prog 56 [.int .i64 c_, .ptr 1000 0] [(1000, .cells [.int .i64 p_.Credentials, .int .i64 p_.Resources, .sl (p_.Grants.map GGrant.v), .sl (p_.Stores.map GStore.v), .sl (p_.Mints.map GMint.v)])] (fun r H => r = .bool y ∧ H = [(1000, .cells [.int .i64 p_.Credentials, .int .i64 p_.Resources, .sl (p_.Grants.map GGrant.v), .sl (p_.Stores.map GStore.v), .sl (p_.Mints.map GMint.v)])]) :=
  fun hy => Wq_rights_Closed_1 _ _ (Q := fun z => z = _) ⟨_, hy, rfl⟩ fun z e => by subst e; exact ⟨rfl, rfl⟩

def F_slices_IndexFunc_int_int_of_rights_Closed_1_L1 (fc0_ : GRights) (k35 : Int) (a36 : Int) (x34 : Unit) : Option (Fl Unit Int) :=
  (F_rights_Closed_1 a36 fc0_).bind fun y44 => bif y44 then some (.ex k35) else some (.nx ())
def F_slices_IndexFunc_int_int_of_rights_Closed_1 (s_ : List Int) (fc0_ : GRights) : Option Int :=
  (forL (F_slices_IndexFunc_int_int_of_rights_Closed_1_L1 fc0_) s_ 0 ()).bind fun o => o.elim (fun x45 => some (-1)) (fun r46 => some r46)

/- slices.IndexFunc[[]int,int] -/
@[irreducible] def mc_slices_IndexFunc_int_int_of_rights_Closed_1_L1 : MC :=
  (.seq (.reg [⟨.bin false .lss (.t 8) (.t 7), (some 9), none⟩])
  (.seq (.cond (.t 9)
    .skip
    (.exit 0))
  (.seq (.block 1
  (.seq (.reg [⟨.mv (.t 8), (some 10), none⟩,
    ⟨.mv (.t 10), (some 5), none⟩])
  (.seq (.reg [⟨.mv (.t 1), (some 11), none⟩,
    ⟨.mv (.t 0), (some 12), none⟩,
    ⟨.mv (.t 5), (some 13), none⟩,
    ⟨.iad 1 (.t 12) (.t 13), (some 14), none⟩,
    ⟨.ld none (.t 14), (some 15), none⟩,
    ⟨.call (.t 11) [(.t 15)] [1000] [], (some 16), none⟩])
  (.cond (.t 16)
    (.seq (.reg [⟨.mv (.t 5), (some 17), none⟩,
      ⟨.mv (.t 17), (some 4), none⟩])
    .ret)
    .skip))))
  (.reg [⟨.bin true .add (.t 8) (.c (.int .i64 1)), (some 18), none⟩,
    ⟨.mv (.t 18), (some 8), none⟩]))))
def mc_slices_IndexFunc_int_int_of_rights_Closed_1 : MC :=
  (.seq (.reg [⟨.mv (.c (.int .i64 0)), (some 4), none⟩])
  (.seq (.seq (.reg [⟨.mv (.t 0), (some 6), none⟩,
    ⟨.len false (.t 6), (some 7), none⟩,
    ⟨.mv (.c (.int .i64 0)), (some 8), none⟩])
  (.block 0
  (.loop mc_slices_IndexFunc_int_int_of_rights_Closed_1_L1)))
  (.seq (.reg [⟨.mv (.c (.int .i64 (-1))), (some 4), none⟩])
  .ret)))
theorem ok_slices_IndexFunc_int_int_of_rights_Closed_1 : mc_slices_IndexFunc_int_int_of_rights_Closed_1.ok Tryd.prog Tryd.f43.ntmps (Tryd.f43.body.getD .skip) = true := by kernel_rfl

set_option maxHeartbeats 2000000 in
theorem Wq_slices_IndexFunc_int_int_of_rights_Closed_1 (s_ : List Int) (fc0_ : GRights) {Q : Int → Prop} {Q' : V → Heap → Prop} (h : Ok (F_slices_IndexFunc_int_int_of_rights_Closed_1 s_ fc0_) Q) (hQ : ∀ z, Q z → Q' (.int .i64 z) [(1000, .cells [.int .i64 fc0_.Credentials, .int .i64 fc0_.Resources, .sl (fc0_.Grants.map GGrant.v), .sl (fc0_.Stores.map GStore.v), .sl (fc0_.Mints.map GMint.v)])]) : ACall Tryd.prog 43 [.sl (s_.map (V.int .i64)), .fn (.func 56) [.ptr 1000 0]] [(1000, .cells [.int .i64 fc0_.Credentials, .int .i64 fc0_.Resources, .sl (fc0_.Grants.map GGrant.v), .sl (fc0_.Stores.map GStore.v), .sl (fc0_.Mints.map GMint.v)])] Q' := by
  refine acall_machN [] [1000] [.t 4] Tryd.func43 rfl (by kernel_rfl) ok_slices_IndexFunc_int_int_of_rights_Closed_1 (by kernel_rfl) rfl rfl fun M hf => ?_
  clear hf
  unfold F_slices_IndexFunc_int_int_of_rights_Closed_1 at h
  unfold mc_slices_IndexFunc_int_int_of_rights_Closed_1
  (try replace h := tH h)
  refine tB ?_
  repeat' (first
    | (exact hQ _ h)
    | (exact trivial)
    | (exact False.elim h)
    | (have hq := hQ _ h; replace hq := tH hq; exact hq)
    | (refine oblg h ?_; clear h; intro hc h)
    | (refine roomG h ?_; clear h; intro hc h)
    | (refine fork h ?_ ?_ <;> clear h <;> intro hc h)
    | (refine forkS h ?_ ?_ <;> clear h <;> intro hc h)
    | (refine And.intro (chkD_of rfl) ?_)
    | (obtain ⟨y, hy, h⟩ := h; have hw := W_rights_Closed_1 hy; (try replace hw := tH hw); (first | (refine sCall_of hw rfl rfl ?_; rw [M.lok_eq]) | (refine sCallD_of hw rfl rfl ?_; rw [M.lokD_eq])); clear hw; clear hy; refine tB ?_)
    | (refine M.for1 (b := mc_slices_IndexFunc_int_int_of_rights_Closed_1_L1) 8 [0, 1, 7] [1000] (fun x => []) (fun x => []) [] h ?_ ?_ ?_ <;> first
       | (clear h; intro k a x Qn K hK1 hkN1 ha1 h hf; have hl := fact_int (factsE_find (n := 7) hf.1 rfl); clear hf; have hkd := kD hkN1; have hkB1 := kB hkN1; have hkI1 : in64 ((k : Int) + 1) = true := in64_iff.2 ⟨by omega, by (try simp only [List.length_cons, List.length_nil] at hkN1); omega⟩; unfold F_slices_IndexFunc_int_int_of_rights_Closed_1_L1 at h; unfold mc_slices_IndexFunc_int_int_of_rights_Closed_1_L1; (try replace h := tH h); refine tK ha1 hkd hkN1 hkB1 hkI1 ?_)
       | (clear h; intro x K h; replace h := And.left (And.intro h trivial); unfold mc_slices_IndexFunc_int_int_of_rights_Closed_1_L1; (try replace h := tH h); refine tB ?_)
       | (clear h; (try refine tB ?_); exact tU0; done)
       | fail)
    | (refine And.intro hkI1 ?_)
    | (refine And.intro hkN1 ?_)
    | (refine And.intro hkB1 ?_)
    | (simp only [ha1])
    | (refine hK1 _ ?_; (try refine tB ?_); refine ⟨_, h, ?_⟩; exact tU0; done)
    | (refine ⟨_, getE_map (inb_toNat (by assumption)), ?_⟩; (first | rw [M.lok_compU] | rw [M.lokD_compU]); refine tB ?_)
    | (refine And.intro (ltb_of (by assumption)) ?_)
    | (refine And.intro (by omega) ?_)
    | fail)
theorem W_slices_IndexFunc_int_int_of_rights_Closed_1 : ∀ {s_ : List Int} {fc0_ : GRights} {y : Int}, F_slices_IndexFunc_int_int_of_rights_Closed_1 s_ fc0_ = some y → ACall Tryd.prog 43 [.sl (s_.map (V.int .i64)), .fn (.func 56) [.ptr 1000 0]] [(1000, .cells [.int .i64 fc0_.Credentials, .int .i64 fc0_.Resources, .sl (fc0_.Grants.map GGrant.v), .sl (fc0_.Stores.map GStore.v), .sl (fc0_.Mints.map GMint.v)])] (fun r H => r = .int .i64 y ∧ H = [(1000, .cells [.int .i64 fc0_.Credentials, .int .i64 fc0_.Resources, .sl (fc0_.Grants.map GGrant.v), .sl (fc0_.Stores.map GStore.v), .sl (fc0_.Mints.map GMint.v)])]) :=
  fun hy => Wq_slices_IndexFunc_int_int_of_rights_Closed_1 _ _ (Q := fun z => z = _) ⟨_, hy, rfl⟩ fun z e => by subst e; exact ⟨rfl, rfl⟩

def F_slices_ContainsFunc_int_int_of_rights_Closed_1 (s_ : List Int) (fc0_ : GRights) : Option Bool :=
  (F_slices_IndexFunc_int_int_of_rights_Closed_1 s_ fc0_).bind fun y2 => some (decide (0 ≤ y2))

/- slices.ContainsFunc[[]int,int] -/
def mc_slices_ContainsFunc_int_int_of_rights_Closed_1 : MC :=
  (.seq (.reg [⟨.mv (.c (.bool false)), (some 4), none⟩])
  (.seq (.reg [⟨.mv (.t 0), (some 5), none⟩,
    ⟨.mv (.t 1), (some 6), none⟩,
    ⟨.call (.f 43) [(.t 5), (.t 6)] [1000] [], (some 7), none⟩,
    ⟨.bin false .geq (.t 7) (.c (.int .i64 0)), (some 8), none⟩,
    ⟨.mv (.t 8), (some 4), none⟩])
  .ret))
theorem ok_slices_ContainsFunc_int_int_of_rights_Closed_1 : mc_slices_ContainsFunc_int_int_of_rights_Closed_1.ok Tryd.prog Tryd.f28.ntmps (Tryd.f28.body.getD .skip) = true := by kernel_rfl

set_option maxHeartbeats 2000000 in
theorem Wq_slices_ContainsFunc_int_int_of_rights_Closed_1 (s_ : List Int) (fc0_ : GRights) {Q : Bool → Prop} {Q' : V → Heap → Prop} (h : Ok (F_slices_ContainsFunc_int_int_of_rights_Closed_1 s_ fc0_) Q) (hQ : ∀ z, Q z → Q' (.bool z) [(1000, .cells [.int .i64 fc0_.Credentials, .int .i64 fc0_.Resources, .sl (fc0_.Grants.map GGrant.v), .sl (fc0_.Stores.map GStore.v), .sl (fc0_.Mints.map GMint.v)])]) : ACall Tryd.prog 28 [.sl (s_.map (V.int .i64)), .fn (.func 56) [.ptr 1000 0]] [(1000, .cells [.int .i64 fc0_.Credentials, .int .i64 fc0_.Resources, .sl (fc0_.Grants.map GGrant.v), .sl (fc0_.Stores.map GStore.v), .sl (fc0_.Mints.map GMint.v)])] Q' := by
  refine acall_machN [] [1000] [.t 4] Tryd.func28 rfl (by kernel_rfl) ok_slices_ContainsFunc_int_int_of_rights_Closed_1 (by kernel_rfl) rfl rfl fun M hf => ?_
  clear hf
  unfold F_slices_ContainsFunc_int_int_of_rights_Closed_1 at h
  unfold mc_slices_ContainsFunc_int_int_of_rights_Closed_1
  (try replace h := tH h)
  refine tB ?_
  repeat' (first
    | (exact hQ _ h)
    | (exact trivial)
    | (exact False.elim h)
    | (have hq := hQ _ h; replace hq := tH hq; exact hq)
    | (refine oblg h ?_; clear h; intro hc h)
    | (refine roomG h ?_; clear h; intro hc h)
    | (refine fork h ?_ ?_ <;> clear h <;> intro hc h)
    | (refine forkS h ?_ ?_ <;> clear h <;> intro hc h)
    | (refine And.intro (chkD_of rfl) ?_)
    | (obtain ⟨y, hy, h⟩ := h; have hw := W_slices_IndexFunc_int_int_of_rights_Closed_1 hy; (try replace hw := tH hw); (first | (refine sCall_of hw rfl rfl ?_; rw [M.lok_eq]) | (refine sCallD_of hw rfl rfl ?_; rw [M.lokD_eq])); clear hw; clear hy; refine tB ?_)
    | (refine ⟨_, getE_map (inb_toNat (by assumption)), ?_⟩; (first | rw [M.lok_compU] | rw [M.lokD_compU]); refine tB ?_)
    | (refine And.intro (ltb_of (by assumption)) ?_)
    | (refine And.intro (by omega) ?_)
    | fail)
theorem W_slices_ContainsFunc_int_int_of_rights_Closed_1 : ∀ {s_ : List Int} {fc0_ : GRights} {y : Bool}, F_slices_ContainsFunc_int_int_of_rights_Closed_1 s_ fc0_ = some y → ACall Tryd.prog 28 [.sl (s_.map (V.int .i64)), .fn (.func 56) [.ptr 1000 0]] [(1000, .cells [.int .i64 fc0_.Credentials, .int .i64 fc0_.Resources, .sl (fc0_.Grants.map GGrant.v), .sl (fc0_.Stores.map GStore.v), .sl (fc0_.Mints.map GMint.v)])] (fun r H => r = .bool y ∧ H = [(1000, .cells [.int .i64 fc0_.Credentials, .int .i64 fc0_.Resources, .sl (fc0_.Grants.map GGrant.v), .sl (fc0_.Stores.map GStore.v), .sl (fc0_.Mints.map GMint.v)])]) :=
  fun hy => Wq_slices_ContainsFunc_int_int_of_rights_Closed_1 _ _ (Q := fun z => z = _) ⟨_, hy, rfl⟩ fun z e => by subst e; exact ⟨rfl, rfl⟩

def F_slices_Index_int_int_L1 (v_ : Int) (k11 : Int) (a12 : Int) (x10 : Unit) : Option (Fl Unit Int) :=
  bif decide (v_ = a12) then some (.ex k11) else some (.nx ())
def F_slices_Index_int_int (s_ : List Int) (v_ : Int) : Option Int :=
  (forL (F_slices_Index_int_int_L1 v_) s_ 0 ()).bind fun o => o.elim (fun x13 => some (-1)) (fun r14 => some r14)

/- slices.Index[[]int,int] -/
@[irreducible] def mc_slices_Index_int_int_L1 : MC :=
  (.seq (.reg [⟨.bin false .lss (.t 8) (.t 7), (some 9), none⟩])
  (.seq (.cond (.t 9)
    .skip
    (.exit 0))
  (.seq (.block 1
  (.seq (.reg [⟨.mv (.t 8), (some 10), none⟩,
    ⟨.mv (.t 10), (some 5), none⟩])
  (.seq (.reg [⟨.mv (.t 1), (some 11), none⟩,
    ⟨.mv (.t 0), (some 12), none⟩,
    ⟨.mv (.t 5), (some 13), none⟩,
    ⟨.iad 1 (.t 12) (.t 13), (some 14), none⟩,
    ⟨.ld none (.t 14), (some 15), none⟩,
    ⟨.bin false .eql (.t 11) (.t 15), (some 16), none⟩])
  (.cond (.t 16)
    (.seq (.reg [⟨.mv (.t 5), (some 17), none⟩,
      ⟨.mv (.t 17), (some 4), none⟩])
    .ret)
    .skip))))
  (.reg [⟨.bin true .add (.t 8) (.c (.int .i64 1)), (some 18), none⟩,
    ⟨.mv (.t 18), (some 8), none⟩]))))
def mc_slices_Index_int_int : MC :=
  (.seq (.reg [⟨.mv (.c (.int .i64 0)), (some 4), none⟩])
  (.seq (.seq (.reg [⟨.mv (.t 0), (some 6), none⟩,
    ⟨.len false (.t 6), (some 7), none⟩,
    ⟨.mv (.c (.int .i64 0)), (some 8), none⟩])
  (.block 0
  (.loop mc_slices_Index_int_int_L1)))
  (.seq (.reg [⟨.mv (.c (.int .i64 (-1))), (some 4), none⟩])
  .ret)))
theorem ok_slices_Index_int_int : mc_slices_Index_int_int.ok Tryd.prog Tryd.f59.ntmps (Tryd.f59.body.getD .skip) = true := by kernel_rfl

set_option maxHeartbeats 2000000 in
theorem Wq_slices_Index_int_int (s_ : List Int) (v_ : Int) {Q : Int → Prop} {Q' : V → Heap → Prop} (h : Ok (F_slices_Index_int_int s_ v_) Q) (hQ : ∀ z, Q z → Q' (.int .i64 z) []) : ACall Tryd.prog 59 [.sl (s_.map (V.int .i64)), .int .i64 v_] [] Q' := by
  refine acall_machN [] [] [.t 4] Tryd.func59 rfl (by kernel_rfl) ok_slices_Index_int_int (by kernel_rfl) rfl rfl fun M hf => ?_
  clear hf
  unfold F_slices_Index_int_int at h
  unfold mc_slices_Index_int_int
  (try replace h := tH h)
  refine tB ?_
  repeat' (first
    | (exact hQ _ h)
    | (exact trivial)
    | (exact False.elim h)
    | (have hq := hQ _ h; replace hq := tH hq; exact hq)
    | (refine oblg h ?_; clear h; intro hc h)
    | (refine roomG h ?_; clear h; intro hc h)
    | (refine fork h ?_ ?_ <;> clear h <;> intro hc h)
    | (refine forkS h ?_ ?_ <;> clear h <;> intro hc h)
    | (refine And.intro (chkD_of rfl) ?_)
    | (refine M.for1 (b := mc_slices_Index_int_int_L1) 8 [0, 1, 7] [] (fun x => []) (fun x => []) [] h ?_ ?_ ?_ <;> first
       | (clear h; intro k a x Qn K hK1 hkN1 ha1 h hf; have hl := fact_int (factsE_find (n := 7) hf.1 rfl); clear hf; have hkd := kD hkN1; have hkB1 := kB hkN1; have hkI1 : in64 ((k : Int) + 1) = true := in64_iff.2 ⟨by omega, by (try simp only [List.length_cons, List.length_nil] at hkN1); omega⟩; unfold F_slices_Index_int_int_L1 at h; unfold mc_slices_Index_int_int_L1; (try replace h := tH h); refine tK ha1 hkd hkN1 hkB1 hkI1 ?_)
       | (clear h; intro x K h; replace h := And.left (And.intro h trivial); unfold mc_slices_Index_int_int_L1; (try replace h := tH h); refine tB ?_)
       | (clear h; (try refine tB ?_); exact tU0; done)
       | fail)
    | (refine And.intro hkI1 ?_)
    | (refine And.intro hkN1 ?_)
    | (refine And.intro hkB1 ?_)
    | (simp only [ha1])
    | (refine hK1 _ ?_; (try refine tB ?_); refine ⟨_, h, ?_⟩; exact tU0; done)
    | (refine ⟨_, getE_map (inb_toNat (by assumption)), ?_⟩; (first | rw [M.lok_compU] | rw [M.lokD_compU]); refine tB ?_)
    | (refine And.intro (ltb_of (by assumption)) ?_)
    | (refine And.intro (by omega) ?_)
    | fail)
theorem W_slices_Index_int_int : ∀ {s_ : List Int} {v_ : Int} {y : Int}, F_slices_Index_int_int s_ v_ = some y → ACall Tryd.prog 59 [.sl (s_.map (V.int .i64)), .int .i64 v_] [] (fun r H => r = .int .i64 y ∧ H = []) :=
  fun hy => Wq_slices_Index_int_int _ _ (Q := fun z => z = _) ⟨_, hy, rfl⟩ fun z e => by subst e; exact ⟨rfl, rfl⟩

def F_slices_Contains_int_int (s_ : List Int) (v_ : Int) : Option Bool :=
  (F_slices_Index_int_int s_ v_).bind fun y2 => some (decide (0 ≤ y2))

/- slices.Contains[[]int,int] -/
def mc_slices_Contains_int_int : MC :=
  (.seq (.reg [⟨.mv (.c (.bool false)), (some 4), none⟩])
  (.seq (.reg [⟨.mv (.t 0), (some 5), none⟩,
    ⟨.mv (.t 1), (some 6), none⟩,
    ⟨.call (.f 59) [(.t 5), (.t 6)] [] [], (some 7), none⟩,
    ⟨.bin false .geq (.t 7) (.c (.int .i64 0)), (some 8), none⟩,
    ⟨.mv (.t 8), (some 4), none⟩])
  .ret))
theorem ok_slices_Contains_int_int : mc_slices_Contains_int_int.ok Tryd.prog Tryd.f51.ntmps (Tryd.f51.body.getD .skip) = true := by kernel_rfl

set_option maxHeartbeats 2000000 in
theorem Wq_slices_Contains_int_int (s_ : List Int) (v_ : Int) {Q : Bool → Prop} {Q' : V → Heap → Prop} (h : Ok (F_slices_Contains_int_int s_ v_) Q) (hQ : ∀ z, Q z → Q' (.bool z) []) : ACall Tryd.prog 51 [.sl (s_.map (V.int .i64)), .int .i64 v_] [] Q' := by
  refine acall_machN [] [] [.t 4] Tryd.func51 rfl (by kernel_rfl) ok_slices_Contains_int_int (by kernel_rfl) rfl rfl fun M hf => ?_
  clear hf
  unfold F_slices_Contains_int_int at h
  unfold mc_slices_Contains_int_int
  (try replace h := tH h)
  refine tB ?_
  repeat' (first
    | (exact hQ _ h)
    | (exact trivial)
    | (exact False.elim h)
    | (have hq := hQ _ h; replace hq := tH hq; exact hq)
    | (refine oblg h ?_; clear h; intro hc h)
    | (refine roomG h ?_; clear h; intro hc h)
    | (refine fork h ?_ ?_ <;> clear h <;> intro hc h)
    | (refine forkS h ?_ ?_ <;> clear h <;> intro hc h)
    | (refine And.intro (chkD_of rfl) ?_)
    | (obtain ⟨y, hy, h⟩ := h; have hw := W_slices_Index_int_int hy; (try replace hw := tH hw); (first | (refine sCall_of hw rfl rfl ?_; rw [M.lok_eq]) | (refine sCallD_of hw rfl rfl ?_; rw [M.lokD_eq])); clear hw; clear hy; refine tB ?_)
    | (refine ⟨_, getE_map (inb_toNat (by assumption)), ?_⟩; (first | rw [M.lok_compU] | rw [M.lokD_compU]); refine tB ?_)
    | (refine And.intro (ltb_of (by assumption)) ?_)
    | (refine And.intro (by omega) ?_)
    | fail)
theorem W_slices_Contains_int_int : ∀ {s_ : List Int} {v_ : Int} {y : Bool}, F_slices_Contains_int_int s_ v_ = some y → ACall Tryd.prog 51 [.sl (s_.map (V.int .i64)), .int .i64 v_] [] (fun r H => r = .bool y ∧ H = []) :=
  fun hy => Wq_slices_Contains_int_int _ _ (Q := fun z => z = _) ⟨_, hy, rfl⟩ fun z e => by subst e; exact ⟨rfl, rfl⟩

noncomputable def F_rights_Closed_L1 (x_ : GRights) (set_ : List Int) (a520 : Int) (k665 : Int) (a666 : GLink) (x664 : Unit) : Option (Fl Unit Bool) :=
  (F_rights_follow x_ a520 a666).bind fun y680 => (F_slices_Contains_int_int set_ y680.1).bind fun y682 => bif (!y682) then some (.ex false) else some (.nx ())
noncomputable def F_rights_Closed_L2 (x_ : GRights) (set_ : List Int) (k519 : Int) (a520 : Int) (x518 : Unit) : Option (Fl Unit Bool) :=
  (F_rights_links x_ a520).bind fun y645 => (forL (F_rights_Closed_L1 x_ set_ a520) y645 0 ()).bind fun o => o.elim (fun x683 => some (.nx ())) (fun r684 => some (.ex r684))
noncomputable def F_rights_Closed (x_ : GRights) (set_ : List Int) : Option Bool :=
  (F_rights_Check x_).bind fun y13 => grp (((!decide (y13 = 0)) || decide ((set_.length : Int) = 0))) fun b14 => bif b14 then some false else (F_directory_Ascending set_).bind fun y15 => bif (!y15) then some false else (F_slices_ContainsFunc_int_int_of_rights_Closed_1 set_ x_).bind fun y16 => bif y16 then some false else (forL (F_rights_Closed_L2 x_ set_) set_ 0 ()).bind fun o => o.elim (fun x685 => some true) (fun r686 => some r686)

/- leakresponse/rights.Closed -/
@[irreducible] def mg_rights_Closed_1 : List MOp := [⟨.mv (.t 1), (some 15), (some (14, false))⟩,
    ⟨.len false (.t 15), (some 16), (some (14, false))⟩,
    ⟨.bin false .eql (.t 16) (.c (.int .i64 0)), (some 17), (some (14, false))⟩,
    ⟨.pick (.t 14) (.c (.bool true)) (.t 17), (some 18), none⟩]
@[irreducible] def mc_rights_Closed_L1 : MC :=
  (.seq (.reg [⟨.bin false .lss (.t 39) (.t 38), (some 40), none⟩])
  (.seq (.cond (.t 40)
    .skip
    (.exit 2))
  (.seq (.block 3
  (.seq (.reg [⟨.iad 4 (.t 37) (.t 39), (some 41), none⟩,
    ⟨.ld (some 4) (.t 41), (some 42), none⟩,
    ⟨.alloc [(.int .i64 0), (.int .i64 0), (.int .i64 0), (.int .i64 0)], (some 8), none⟩,
    ⟨.st 4 (.t 8) (.t 42), none, none⟩])
  (.seq (.reg [⟨.ld (some 5) (.t 2), (some 44), none⟩,
    ⟨.mv (.t 6), (some 45), none⟩,
    ⟨.ld (some 4) (.t 8), (some 46), none⟩,
    ⟨.call (.f 58) [(.t 44), (.t 45), (.t 46)] [] [], (some 47), none⟩,
    ⟨.mv (.t 47), (some 43), none⟩,
    ⟨.ext 0 (.t 43), (some 48), none⟩,
    ⟨.ext 1 (.t 43), (some 49), none⟩,
    ⟨.mv (.t 48), (some 9), none⟩,
    ⟨.mv (.t 49), (some 10), none⟩])
  (.seq (.note (.gc [1, 2, 6, 9, 29, 30, 31, 37, 38, 39]) (.reg [⟨.mv (.t 1), (some 50), none⟩,
    ⟨.mv (.t 9), (some 51), none⟩,
    ⟨.call (.f 51) [(.t 50), (.t 51)] [] [], (some 52), none⟩,
    ⟨.not (.t 52), (some 53), none⟩]))
  (.cond (.t 53)
    (.seq (.reg [⟨.mv (.c (.bool false)), (some 4), none⟩])
    .ret)
    .skip)))))
  (.reg [⟨.bin true .add (.t 39) (.c (.int .i64 1)), (some 54), none⟩,
    ⟨.mv (.t 54), (some 39), none⟩]))))
@[irreducible] def mc_rights_Closed_L2 : MC :=
  (.seq (.reg [⟨.bin false .lss (.t 31) (.t 30), (some 32), none⟩])
  (.seq (.cond (.t 32)
    .skip
    (.exit 0))
  (.seq (.block 1
  (.seq (.reg [⟨.iad 1 (.t 29) (.t 31), (some 33), none⟩,
    ⟨.ld none (.t 33), (some 34), none⟩,
    ⟨.mv (.t 34), (some 6), none⟩])
  (.seq (.reg [⟨.ld (some 5) (.t 2), (some 35), none⟩,
    ⟨.mv (.t 6), (some 36), none⟩,
    ⟨.call (.f 57) [(.t 35), (.t 36)] [] [], (some 37), none⟩,
    ⟨.len false (.t 37), (some 38), none⟩,
    ⟨.mv (.c (.int .i64 0)), (some 39), none⟩])
  (.block 2
  (.loop mc_rights_Closed_L1)))))
  (.reg [⟨.bin true .add (.t 31) (.c (.int .i64 1)), (some 55), none⟩,
    ⟨.mv (.t 55), (some 31), none⟩]))))
def mc_rights_Closed : MC :=
  (.seq (.reg [⟨.box (.t 0), (some 2), none⟩,
    ⟨.mv (.c (.bool false)), (some 4), none⟩])
  (.seq (.seq (.regI [.op ⟨.ld (some 5) (.t 2), (some 11), none⟩,
    .op ⟨.call (.f 27) [(.t 11)] [] [], (some 12), none⟩,
    .op ⟨.bin false .neq (.t 12) (.c (.int .i64 0)), (some 13), none⟩,
    .op ⟨.mv (.t 13), (some 14), none⟩,
    .grp mg_rights_Closed_1,
    .op ⟨.mv (.t 18), (some 19), none⟩,
    .op ⟨.mv (.t 1), (some 20), (some (19, false))⟩,
    .op ⟨.call (.f 55) [(.t 20)] [] [], (some 21), (some (19, false))⟩,
    .op ⟨.not (.t 21), (some 22), (some (19, false))⟩,
    .op ⟨.pick (.t 19) (.c (.bool true)) (.t 22), (some 23), none⟩,
    .op ⟨.mv (.t 23), (some 24), none⟩,
    .op ⟨.mv (.t 1), (some 25), (some (24, false))⟩,
    .op ⟨.mkfn 56 [(.t 2)], (some 26), (some (24, false))⟩,
    .op ⟨.call (.f 28) [(.t 25), (.t 26)] [2] [], (some 27), (some (24, false))⟩,
    .op ⟨.pick (.t 24) (.c (.bool true)) (.t 27), (some 28), none⟩])
  (.cond (.t 28)
    (.seq (.reg [⟨.mv (.c (.bool false)), (some 4), none⟩])
    .ret)
    .skip))
  (.seq (.seq (.note (.gc [1, 2]) (.reg [⟨.mv (.t 1), (some 29), none⟩,
    ⟨.len false (.t 29), (some 30), none⟩,
    ⟨.mv (.c (.int .i64 0)), (some 31), none⟩]))
  (.block 0
  (.loop mc_rights_Closed_L2)))
  (.seq (.reg [⟨.mv (.c (.bool true)), (some 4), none⟩])
  .ret))))
theorem ok_rights_Closed : mc_rights_Closed.ok Tryd.prog Tryd.f50.ntmps (Tryd.f50.body.getD .skip) = true := by kernel_rfl

set_option maxHeartbeats 2000000 in
theorem Wq_rights_Closed (x_ : GRights) (set_ : List Int) {Q : Bool → Prop} {Q' : V → Heap → Prop} (h : Ok (F_rights_Closed x_ set_) Q) (hQ : ∀ z, Q z → Q' (.bool z) []) : ACall Tryd.prog 50 [GRights.v x_, .sl (set_.map (V.int .i64))] [] Q' := by
  refine acall_machN [] [] [.t 4] Tryd.func50 rfl (by kernel_rfl) ok_rights_Closed (by kernel_rfl) rfl rfl fun M hf => ?_
  clear hf
  unfold F_rights_Closed at h
  unfold mc_rights_Closed
  (try replace h := tH h)
  refine tB ?_
  repeat' (first
    | (exact hQ _ h)
    | (exact trivial)
    | (exact False.elim h)
    | (have hq := hQ _ h; replace hq := tH hq; exact hq)
    | (refine oblg h ?_; clear h; intro hc h)
    | (refine roomG h ?_; clear h; intro hc h)
    | (refine fork h ?_ ?_ <;> clear h <;> intro hc h)
    | (refine forkS h ?_ ?_ <;> clear h <;> intro hc h)
    | (refine And.intro (chkD_of rfl) ?_)
    | (obtain ⟨y, hy, h⟩ := h; have hw := W_rights_Check hy; (try replace hw := tH hw); (first | (refine sCall_of hw rfl rfl ?_; rw [M.lok_eq]) | (refine sCallD_of hw rfl rfl ?_; rw [M.lokD_eq])); clear hw; clear hy; refine tB ?_)
    | (obtain ⟨y, hy, h⟩ := h; have hw := W_directory_Ascending hy; (try replace hw := tH hw); (first | (refine sCall_of hw rfl rfl ?_; rw [M.lok_eq]) | (refine sCallD_of hw rfl rfl ?_; rw [M.lokD_eq])); clear hw; clear hy; refine tB ?_)
    | (obtain ⟨y, hy, h⟩ := h; have hw := acall_swe 1000 2 (W_slices_ContainsFunc_int_int_of_rights_Closed_1 hy); (try replace hw := tH hw); (first | (refine sCall_of hw rfl rfl ?_; rw [M.lok_eq]) | (refine sCallD_of hw rfl rfl ?_; rw [M.lokD_eq])); clear hw; clear hy; refine tB ?_)
    | (obtain ⟨y, hy, h⟩ := h; have hw := W_rights_links hy; (try replace hw := tH hw); (first | (refine sCall_of hw rfl rfl ?_; rw [M.lok_eq]) | (refine sCallD_of hw rfl rfl ?_; rw [M.lokD_eq])); clear hw; clear hy; refine tB ?_)
    | (obtain ⟨y, hy, h⟩ := h; have hw := W_rights_follow hy; (try replace hw := tH hw); (first | (refine sCall_of hw rfl rfl ?_; rw [M.lok_eq]) | (refine sCallD_of hw rfl rfl ?_; rw [M.lokD_eq])); clear hw; clear hy; refine tB ?_)
    | (obtain ⟨y, hy, h⟩ := h; have hw := W_slices_Contains_int_int hy; (try replace hw := tH hw); (first | (refine sCall_of hw rfl rfl ?_; rw [M.lok_eq]) | (refine sCallD_of hw rfl rfl ?_; rw [M.lokD_eq])); clear hw; clear hy; refine tB ?_)
    | (refine M.for1 (b := mc_rights_Closed_L1) 39 [1, 2, 6, 29, 30, 31, 37, 38] [2] (fun x => []) (fun x => []) [] h ?_ ?_ ?_ <;> first
       | (clear h; intro k a x Qn K hK1 hkN1 ha1 h hf; have hl := fact_int (factsE_find (n := 38) hf.1 rfl); clear hf; have hkd := kD hkN1; have hkB1 := kB hkN1; have hkI1 : in64 ((k : Int) + 1) = true := in64_iff.2 ⟨by omega, by (try simp only [List.length_cons, List.length_nil] at hkN1); omega⟩; unfold F_rights_Closed_L1 at h; unfold mc_rights_Closed_L1; (try replace h := tH h); refine tK ha1 hkd hkN1 hkB1 hkI1 ?_)
       | (clear h; intro x K h; replace h := And.left (And.intro h trivial); unfold mc_rights_Closed_L1; (try replace h := tH h); refine tB ?_)
       | (clear h; (try refine tB ?_); exact tU0; done)
       | fail)
    | (refine M.for1 (b := mc_rights_Closed_L2) 31 [1, 2, 29, 30] [2] (fun x => []) (fun x => []) [] h ?_ ?_ ?_ <;> first
       | (clear h; intro k a x Qn K hK2 hkN2 ha2 h hf; have hl := fact_int (factsE_find (n := 30) hf.1 rfl); clear hf; have hkd := kD hkN2; have hkB2 := kB hkN2; have hkI2 : in64 ((k : Int) + 1) = true := in64_iff.2 ⟨by omega, by (try simp only [List.length_cons, List.length_nil] at hkN2); omega⟩; unfold F_rights_Closed_L2 at h; unfold mc_rights_Closed_L2; (try replace h := tH h); refine tK ha2 hkd hkN2 hkB2 hkI2 ?_)
       | (clear h; intro x K h; replace h := And.left (And.intro h trivial); unfold mc_rights_Closed_L2; (try replace h := tH h); refine tB ?_)
       | (clear h; (try refine tB ?_); exact tU0; done)
       | fail)
    | (refine M.gv1 (ms := mg_rights_Closed_1) 18 [15, 16, 17] h ?_ ?_ <;> first
       | (clear h; intro K hK3; unfold mg_rights_Closed_1; refine tB ?_)
       | (clear h; intro b h; (try replace h := tH h); refine tB ?_)
       | fail)
    | (refine And.intro hkI1 ?_)
    | (refine And.intro hkN1 ?_)
    | (refine And.intro hkB1 ?_)
    | (simp only [ha1])
    | (refine And.intro hkI2 ?_)
    | (refine And.intro hkN2 ?_)
    | (refine And.intro hkB2 ?_)
    | (simp only [ha2])
    | (refine hK1 _ ?_; (try refine tB ?_); refine ⟨_, h, ?_⟩; exact tU0; done)
    | (refine hK2 _ ?_; (try refine tB ?_); refine ⟨_, h, ?_⟩; exact tU0; done)
    | (refine hK3 _ ?_; exact tU; done)
    | (refine bfork (fun hc => ?_) (fun hc => ?_))
    | (refine ⟨_, getE_map (inb_toNat (by assumption)), ?_⟩; (first | rw [M.lok_compU] | rw [M.lokD_compU]); refine tB ?_)
    | (refine And.intro (ltb_of (by assumption)) ?_)
    | (refine And.intro (by omega) ?_)
    | fail)
theorem W_rights_Closed : ∀ {x_ : GRights} {set_ : List Int} {y : Bool}, F_rights_Closed x_ set_ = some y → ACall Tryd.prog 50 [GRights.v x_, .sl (set_.map (V.int .i64))] [] (fun r H => r = .bool y ∧ H = []) :=
  fun hy => Wq_rights_Closed _ _ (Q := fun z => z = _) ⟨_, hy, rfl⟩ fun z e => by subst e; exact ⟨rfl, rfl⟩

noncomputable def F_rights_Bound_L1 (set_ : List Int) (k52 : Int) (a53 : GGrant) (x51 : List Int) : Option (List Int) :=
  (F_slices_Contains_int_int set_ a53.Credential).bind fun y61 => bif y61 then chk (inb a53.Resource x51.length) (chk (inb a53.Resource x51.length) (some (x51.set ((a53.Resource).toNat) (max (x51.getD ((a53.Resource).toNat) default) a53.Right)))) else some x51
noncomputable def F_rights_Bound (x_ : GRights) (set_ : List Int) : Option (List Int) :=
  (F_rights_Closed x_ set_).bind fun y4 => bif (!y4) then some [] else chk (roomI x_.Resources x_.Resources 8) ((foldL (F_rights_Bound_L1 set_) x_.Grants 0 (List.replicate (x_.Resources).toNat 0)).bind fun x62 => some x62)

/- leakresponse/rights.Bound -/
@[irreducible] def mc_rights_Bound_L1 : MC :=
  (.seq (.reg [⟨.bin false .lss (.t 18) (.t 17), (some 19), none⟩])
  (.seq (.cond (.t 19)
    .skip
    (.exit 0))
  (.seq (.block 1
  (.seq (.reg [⟨.iad 3 (.t 16) (.t 18), (some 20), none⟩,
    ⟨.ld (some 3) (.t 20), (some 21), none⟩,
    ⟨.alloc [(.int .i64 0), (.int .i64 0), (.int .i64 0)], (some 7), none⟩,
    ⟨.st 3 (.t 7) (.t 21), none, none⟩])
  (.seq (.reg [⟨.mv (.t 1), (some 22), none⟩,
    ⟨.fad 0 (.t 7), (some 23), none⟩,
    ⟨.ld none (.t 23), (some 24), none⟩,
    ⟨.call (.f 51) [(.t 22), (.t 24)] [] [], (some 25), none⟩])
  (.cond (.t 25)
    (.regD [⟨.mv (.t 5), (some 26), none⟩,
      ⟨.fad 1 (.t 7), (some 27), none⟩,
      ⟨.ld none (.t 27), (some 28), none⟩,
      ⟨.mv (.t 5), (some 29), none⟩,
      ⟨.fad 1 (.t 7), (some 30), none⟩,
      ⟨.ld none (.t 30), (some 31), none⟩,
      ⟨.iad 1 (.t 29) (.t 31), (some 32), none⟩,
      ⟨.ld none (.t 32), (some 33), none⟩,
      ⟨.fad 2 (.t 7), (some 34), none⟩,
      ⟨.ld none (.t 34), (some 35), none⟩,
      ⟨.mm true (.t 33) (.t 35), (some 36), none⟩,
      ⟨.iad 1 (.t 26) (.t 28), (some 37), none⟩,
      ⟨.st 1 (.t 37) (.t 36), none, none⟩]
      [[], [], [1], [], [], [4], [3, 5], [6], [], [8], [7, 9], [0, 2, 0, 1, 2, 3, 4, 5, 6, 7, 8, 9, 10], [11, 10, 0, 1, 2, 3, 4, 5, 6, 7, 8, 9, 10]]
      [[], [], [1], [], [], [4], [3, 4, 5], [3, 4, 5, 6], [], [8], [3, 4, 5, 6, 7, 8, 9], [0, 1, 2, 3, 4, 5, 6, 7, 8, 9, 10], [0, 1, 2, 3, 4, 5, 6, 7, 8, 9, 10, 11]])
    .skip))))
  (.reg [⟨.bin true .add (.t 18) (.c (.int .i64 1)), (some 38), none⟩,
    ⟨.mv (.t 38), (some 18), none⟩]))))
def mc_rights_Bound : MC :=
  (.seq (.reg [⟨.box (.t 0), (some 2), none⟩,
    ⟨.mv (.c (.sl [])), (some 4), none⟩])
  (.seq (.seq (.reg [⟨.ld (some 5) (.t 2), (some 8), none⟩,
    ⟨.mv (.t 1), (some 9), none⟩,
    ⟨.call (.f 50) [(.t 8), (.t 9)] [] [], (some 10), none⟩,
    ⟨.not (.t 10), (some 11), none⟩])
  (.cond (.t 11)
    (.seq (.reg [⟨.mv (.c (.sl [])), (some 4), none⟩])
    .ret)
    .skip))
  (.seq (.reg [⟨.fad 1 (.t 2), (some 12), none⟩,
    ⟨.ld none (.t 12), (some 13), none⟩,
    ⟨.mksl 1 8 (.int .i64 0) (.t 13) (.t 13), (some 14), none⟩,
    ⟨.mv (.t 14), (some 5), none⟩])
  (.seq (.seq (.note (.gc [1, 2, 5]) (.reg [⟨.fad 2 (.t 2), (some 15), none⟩,
    ⟨.ld none (.t 15), (some 16), none⟩,
    ⟨.len false (.t 16), (some 17), none⟩,
    ⟨.mv (.c (.int .i64 0)), (some 18), none⟩]))
  (.block 0
  (.loop mc_rights_Bound_L1)))
  (.seq (.reg [⟨.mv (.t 5), (some 39), none⟩,
    ⟨.mv (.t 39), (some 4), none⟩])
  .ret)))))
theorem ok_rights_Bound : mc_rights_Bound.ok Tryd.prog Tryd.f44.ntmps (Tryd.f44.body.getD .skip) = true := by kernel_rfl

set_option maxHeartbeats 2000000 in
theorem Wq_rights_Bound (x_ : GRights) (set_ : List Int) {Q : List Int → Prop} {Q' : V → Heap → Prop} (h : Ok (F_rights_Bound x_ set_) Q) (hQ : ∀ z, Q z → Q' (.sl (z.map (V.int .i64))) []) : ACall Tryd.prog 44 [GRights.v x_, .sl (set_.map (V.int .i64))] [] Q' := by
  refine acall_machN [.fz 4] [] [.t 4] Tryd.func44 rfl (by kernel_rfl) ok_rights_Bound (by kernel_rfl) rfl rfl fun M hf => ?_
  clear hf
  unfold F_rights_Bound at h
  unfold mc_rights_Bound
  (try replace h := tH h)
  refine tB ?_
  repeat' (first
    | (exact hQ _ h)
    | (exact trivial)
    | (exact False.elim h)
    | (have hq := hQ _ h; replace hq := tH hq; exact hq)
    | (refine oblg h ?_; clear h; intro hc h)
    | (refine roomG h ?_; clear h; intro hc h)
    | (refine fork h ?_ ?_ <;> clear h <;> intro hc h)
    | (refine forkS h ?_ ?_ <;> clear h <;> intro hc h)
    | (refine And.intro (chkD_of rfl) ?_)
    | (obtain ⟨y, hy, h⟩ := h; have hw := W_rights_Closed hy; (try replace hw := tH hw); (first | (refine sCall_of hw rfl rfl ?_; rw [M.lok_eq]) | (refine sCallD_of hw rfl rfl ?_; rw [M.lokD_eq])); clear hw; clear hy; refine tB ?_)
    | (obtain ⟨y, hy, h⟩ := h; have hw := W_slices_Contains_int_int hy; (try replace hw := tH hw); (first | (refine sCall_of hw rfl rfl ?_; rw [M.lok_eq]) | (refine sCallD_of hw rfl rfl ?_; rw [M.lokD_eq])); clear hw; clear hy; refine tB ?_)
    | (refine M.fold1 (b := mc_rights_Bound_L1) 18 [1, 16, 17] [] (fun x => [(5, .osl 14 1 0 x.length)]) (fun x => [.o 14 (.arr 1 (x.map (V.int .i64)))]) [] h ?_ ?_ ?_ <;> first
       | (clear h; intro k a x Qn K hK1 hkN1 ha1 h hf; have hl := fact_int (factsE_find (n := 17) hf.1 rfl); clear hf; have hkd := kD hkN1; have hkB1 := kB hkN1; have hkI1 : in64 ((k : Int) + 1) = true := in64_iff.2 ⟨by omega, by (try simp only [List.length_cons, List.length_nil] at hkN1); omega⟩; unfold F_rights_Bound_L1 at h; unfold mc_rights_Bound_L1; (try replace h := tH h); refine tK ha1 hkd hkN1 hkB1 hkI1 ?_)
       | (clear h; intro x K h; replace h := And.left (And.intro h trivial); unfold mc_rights_Bound_L1; (try replace h := tH h); refine tB ?_)
       | (clear h; (try refine tB ?_); exact tU0; done)
       | fail)
    | (refine And.intro hkI1 ?_)
    | (refine And.intro hkN1 ?_)
    | (refine And.intro hkB1 ?_)
    | (simp only [ha1])
    | (refine hK1 _ ?_; (try refine tB ?_); refine ⟨_, h, ?_⟩; exact tU0; done)
    | (refine ⟨_, getE_map (inb_toNat (by assumption)), ?_⟩; (first | rw [M.lok_compU] | rw [M.lokD_compU]); refine tB ?_)
    | (refine And.intro (ltb_of (by assumption)) ?_)
    | (refine And.intro (by omega) ?_)
    | fail)
theorem W_rights_Bound : ∀ {x_ : GRights} {set_ : List Int} {y : List Int}, F_rights_Bound x_ set_ = some y → ACall Tryd.prog 44 [GRights.v x_, .sl (set_.map (V.int .i64))] [] (fun r H => r = .sl (y.map (V.int .i64)) ∧ H = []) :=
  fun hy => Wq_rights_Bound _ _ (Q := fun z => z = _) ⟨_, hy, rfl⟩ fun z e => by subst e; exact ⟨rfl, rfl⟩

noncomputable def F_rights_Power (x_ : GRights) (c_ : Int) : Option (List Int) :=
  (F_rights_Reach x_ c_).bind fun y3 => (F_rights_Bound x_ y3).bind fun y4 => some y4

/- leakresponse/rights.Power -/
def mc_rights_Power : MC :=
  (.seq (.reg [⟨.box (.t 0), (some 2), none⟩,
    ⟨.mv (.c (.sl [])), (some 4), none⟩])
  (.seq (.regD [⟨.ld (some 5) (.t 2), (some 5), none⟩,
    ⟨.ld (some 5) (.t 2), (some 6), none⟩,
    ⟨.mv (.t 1), (some 7), none⟩,
    ⟨.call (.f 45) [(.t 6), (.t 7)] [] [], (some 8), none⟩,
    ⟨.call (.f 44) [(.t 5), (.t 8)] [] [], (some 9), none⟩,
    ⟨.mv (.t 9), (some 4), none⟩]
    [[], [], [], [1, 2], [0, 3, 3], [4, 4, 0, 1, 2, 3, 4]]
    [[], [], [], [1, 2], [0, 1, 2, 3], [0, 1, 2, 3, 4]])
  .ret))
theorem ok_rights_Power : mc_rights_Power.ok Tryd.prog Tryd.f30.ntmps (Tryd.f30.body.getD .skip) = true := by kernel_rfl

set_option maxHeartbeats 2000000 in
theorem Wq_rights_Power (x_ : GRights) (c_ : Int) {Q : List Int → Prop} {Q' : V → Heap → Prop} (h : Ok (F_rights_Power x_ c_) Q) (hQ : ∀ z, Q z → Q' (.sl (z.map (V.int .i64))) []) : ACall Tryd.prog 30 [GRights.v x_, .int .i64 c_] [] Q' := by
  refine acall_machN [.fz 4] [] [.t 4] Tryd.func30 rfl (by kernel_rfl) ok_rights_Power (by kernel_rfl) rfl rfl fun M hf => ?_
  clear hf
  unfold F_rights_Power at h
  unfold mc_rights_Power
  (try replace h := tH h)
  refine tB ?_
  repeat' (first
    | (exact hQ _ h)
    | (exact trivial)
    | (exact False.elim h)
    | (have hq := hQ _ h; replace hq := tH hq; exact hq)
    | (refine oblg h ?_; clear h; intro hc h)
    | (refine roomG h ?_; clear h; intro hc h)
    | (refine fork h ?_ ?_ <;> clear h <;> intro hc h)
    | (refine forkS h ?_ ?_ <;> clear h <;> intro hc h)
    | (refine And.intro (chkD_of rfl) ?_)
    | (obtain ⟨y, hy, h⟩ := h; have hw := W_rights_Reach hy; (try replace hw := tH hw); (first | (refine sCall_of hw rfl rfl ?_; rw [M.lok_eq]) | (refine sCallD_of hw rfl rfl ?_; rw [M.lokD_eq])); clear hw; clear hy; refine tB ?_)
    | (obtain ⟨y, hy, h⟩ := h; have hw := W_rights_Bound hy; (try replace hw := tH hw); (first | (refine sCall_of hw rfl rfl ?_; rw [M.lok_eq]) | (refine sCallD_of hw rfl rfl ?_; rw [M.lokD_eq])); clear hw; clear hy; refine tB ?_)
    | (refine ⟨_, getE_map (inb_toNat (by assumption)), ?_⟩; (first | rw [M.lok_compU] | rw [M.lokD_compU]); refine tB ?_)
    | (refine And.intro (ltb_of (by assumption)) ?_)
    | (refine And.intro (by omega) ?_)
    | fail)
theorem W_rights_Power : ∀ {x_ : GRights} {c_ : Int} {y : List Int}, F_rights_Power x_ c_ = some y → ACall Tryd.prog 30 [GRights.v x_, .int .i64 c_] [] (fun r H => r = .sl (y.map (V.int .i64)) ∧ H = []) :=
  fun hy => Wq_rights_Power _ _ (Q := fun z => z = _) ⟨_, hy, rfl⟩ fun z e => by subst e; exact ⟨rfl, rfl⟩

noncomputable def F_severity_Worth_L1 (worths_ : List Int) (k32 : Int) (a33 : Int) (x31 : Int) : Option Int :=
  chk (inb k32 worths_.length) (chk (in64 ((worths_.getD (k32).toNat default) * a33)) (chk (in64 (x31 + ((worths_.getD (k32).toNat default) * a33))) (some (x31 + ((worths_.getD (k32).toNat default) * a33)))))
noncomputable def F_severity_Worth (x_ : GRights) (worths_ : List Int) (c_ : Int) : Option (Int × Int) :=
  (F_rights_Check x_).bind fun y4 => bif (!decide (y4 = 0)) then some (0, y4) else bif (!decide ((worths_.length : Int) = x_.Resources)) then some (0, 2) else (F_slices_ContainsFunc_int_int_of_severity_Worth_1 worths_).bind fun y10 => bif y10 then some (0, 2) else grp ((decide (c_ < 0) || decide (x_.Credentials ≤ c_))) fun b12 => bif b12 then some (0, 6) else (F_rights_Power x_ c_).bind fun y25 => (foldL (F_severity_Worth_L1 worths_) y25 0 0).bind fun x34 => some (x34, 0)

/- leakresponse/severity.Worth -/
@[irreducible] def mg_severity_Worth_1 : List MOp := [⟨.mv (.t 2), (some 31), (some (30, false))⟩,
      ⟨.fad 0 (.t 3), (some 32), (some (30, false))⟩,
      ⟨.ld none (.t 32), (some 33), (some (30, false))⟩,
      ⟨.bin false .geq (.t 31) (.t 33), (some 34), (some (30, false))⟩,
      ⟨.pick (.t 30) (.c (.bool true)) (.t 34), (some 35), none⟩]
@[irreducible] def mc_severity_Worth_L1 : MC :=
  (.seq (.reg [⟨.bin false .lss (.t 40) (.t 39), (some 41), none⟩])
  (.seq (.cond (.t 41)
    .skip
    (.exit 1))
  (.seq (.block 2
  (.seq (.reg [⟨.mv (.t 40), (some 42), none⟩,
    ⟨.iad 1 (.t 38) (.t 40), (some 43), none⟩,
    ⟨.ld none (.t 43), (some 44), none⟩,
    ⟨.mv (.t 42), (some 10), none⟩,
    ⟨.mv (.t 44), (some 11), none⟩])
  (.reg [⟨.mv (.t 9), (some 45), none⟩,
    ⟨.mv (.t 1), (some 46), none⟩,
    ⟨.mv (.t 10), (some 47), none⟩,
    ⟨.iad 1 (.t 46) (.t 47), (some 48), none⟩,
    ⟨.ld none (.t 48), (some 49), none⟩,
    ⟨.mv (.t 11), (some 50), none⟩,
    ⟨.bin true .mul (.t 49) (.t 50), (some 51), none⟩,
    ⟨.bin true .add (.t 45) (.t 51), (some 52), none⟩,
    ⟨.mv (.t 52), (some 9), none⟩])))
  (.reg [⟨.bin true .add (.t 40) (.c (.int .i64 1)), (some 53), none⟩,
    ⟨.mv (.t 53), (some 40), none⟩]))))
def mc_severity_Worth : MC :=
  (.seq (.reg [⟨.box (.t 0), (some 3), none⟩,
    ⟨.mv (.c (.int .i64 0)), (some 6), none⟩,
    ⟨.mv (.c (.int .i64 0)), (some 7), none⟩])
  (.seq (.seq (.reg [⟨.ld (some 5) (.t 3), (some 12), none⟩,
    ⟨.call (.f 27) [(.t 12)] [] [], (some 13), none⟩,
    ⟨.mv (.t 13), (some 8), none⟩])
  (.seq (.reg [⟨.mv (.t 8), (some 14), none⟩,
    ⟨.bin false .neq (.t 14) (.c (.int .i64 0)), (some 15), none⟩])
  (.cond (.t 15)
    (.seq (.note (.gc [8]) (.reg [⟨.mv (.t 8), (some 16), none⟩,
      ⟨.mv (.c (.int .i64 0)), (some 6), none⟩,
      ⟨.mv (.t 16), (some 7), none⟩]))
    .ret)
    .skip)))
  (.seq (.block 0
  (.seq (.note (.gc [1, 2, 3, 24, 25, 31, 32, 33, 34]) (.reg [⟨.mv (.t 1), (some 18), none⟩,
    ⟨.len false (.t 18), (some 19), none⟩,
    ⟨.fad 1 (.t 3), (some 20), none⟩,
    ⟨.ld none (.t 20), (some 21), none⟩,
    ⟨.bin false .neq (.t 19) (.t 21), (some 22), none⟩,
    ⟨.mv (.t 22), (some 23), none⟩,
    ⟨.mv (.t 1), (some 24), (some (23, false))⟩,
    ⟨.call (.f 28) [(.t 24), (.f 29)] [] [], (some 25), (some (23, false))⟩,
    ⟨.pick (.t 23) (.c (.bool true)) (.t 25), (some 26), none⟩,
    ⟨.mv (.t 26), (some 17), none⟩]))
  (.cond (.t 17)
    (.seq (.reg [⟨.mv (.c (.int .i64 0)), (some 6), none⟩,
      ⟨.mv (.c (.int .i64 2)), (some 7), none⟩])
    .ret)
    (.seq (.note (.gc [1, 2, 3, 31, 32, 33, 34]) (.regI [.op ⟨.mv (.t 2), (some 28), none⟩,
      .op ⟨.bin false .lss (.t 28) (.c (.int .i64 0)), (some 29), none⟩,
      .op ⟨.mv (.t 29), (some 30), none⟩,
      .grp mg_severity_Worth_1,
      .op ⟨.mv (.t 35), (some 27), none⟩]))
    (.cond (.t 27)
      (.seq (.reg [⟨.mv (.c (.int .i64 0)), (some 6), none⟩,
        ⟨.mv (.c (.int .i64 6)), (some 7), none⟩])
      .ret)
      .skip)))))
  (.seq (.reg [⟨.mv (.c (.int .i64 0)), (some 9), none⟩])
  (.seq (.seq (.reg [⟨.ld (some 5) (.t 3), (some 36), none⟩,
    ⟨.mv (.t 2), (some 37), none⟩,
    ⟨.call (.f 30) [(.t 36), (.t 37)] [] [], (some 38), none⟩,
    ⟨.len false (.t 38), (some 39), none⟩,
    ⟨.mv (.c (.int .i64 0)), (some 40), none⟩])
  (.block 1
  (.loop mc_severity_Worth_L1)))
  (.seq (.reg [⟨.mv (.t 9), (some 54), none⟩,
    ⟨.mv (.t 54), (some 6), none⟩,
    ⟨.mv (.c (.int .i64 0)), (some 7), none⟩])
  .ret))))))
theorem ok_severity_Worth : mc_severity_Worth.ok Tryd.prog Tryd.f16.ntmps (Tryd.f16.body.getD .skip) = true := by kernel_rfl

set_option maxHeartbeats 2000000 in
theorem Wq_severity_Worth (x_ : GRights) (worths_ : List Int) (c_ : Int) {Q : Int × Int → Prop} {Q' : V → Heap → Prop} (h : Ok (F_severity_Worth x_ worths_ c_) Q) (hQ : ∀ z, Q z → Q' (.tup [.int .i64 z.1, .int .i64 z.2]) []) : ACall Tryd.prog 16 [GRights.v x_, .sl (worths_.map (V.int .i64)), .int .i64 c_] [] Q' := by
  refine acall_machN [] [] [.t 6, .t 7] Tryd.func16 rfl (by kernel_rfl) ok_severity_Worth (by kernel_rfl) rfl rfl fun M hf => ?_
  clear hf
  unfold F_severity_Worth at h
  unfold mc_severity_Worth
  (try replace h := tH h)
  refine tB ?_
  repeat' (first
    | (exact hQ _ h)
    | (exact trivial)
    | (exact False.elim h)
    | (have hq := hQ _ h; replace hq := tH hq; exact hq)
    | (refine oblg h ?_; clear h; intro hc h)
    | (refine roomG h ?_; clear h; intro hc h)
    | (refine fork h ?_ ?_ <;> clear h <;> intro hc h)
    | (refine forkS h ?_ ?_ <;> clear h <;> intro hc h)
    | (refine And.intro (chkD_of rfl) ?_)
    | (obtain ⟨y, hy, h⟩ := h; have hw := W_rights_Check hy; (try replace hw := tH hw); (first | (refine sCall_of hw rfl rfl ?_; rw [M.lok_eq]) | (refine sCallD_of hw rfl rfl ?_; rw [M.lokD_eq])); clear hw; clear hy; refine tB ?_)
    | (obtain ⟨y, hy, h⟩ := h; have hw := W_slices_ContainsFunc_int_int_of_severity_Worth_1 hy; (try replace hw := tH hw); (first | (refine sCall_of hw rfl rfl ?_; rw [M.lok_eq]) | (refine sCallD_of hw rfl rfl ?_; rw [M.lokD_eq])); clear hw; clear hy; refine tB ?_)
    | (obtain ⟨y, hy, h⟩ := h; have hw := W_rights_Power hy; (try replace hw := tH hw); (first | (refine sCall_of hw rfl rfl ?_; rw [M.lok_eq]) | (refine sCallD_of hw rfl rfl ?_; rw [M.lokD_eq])); clear hw; clear hy; refine tB ?_)
    | (refine M.fold1 (b := mc_severity_Worth_L1) 40 [1, 38, 39] [] (fun x => [(9, .int .i64 x)]) (fun x => []) [] h ?_ ?_ ?_ <;> first
       | (clear h; intro k a x Qn K hK1 hkN1 ha1 h hf; have hl := fact_int (factsE_find (n := 39) hf.1 rfl); clear hf; have hkd := kD hkN1; have hkB1 := kB hkN1; have hkI1 : in64 ((k : Int) + 1) = true := in64_iff.2 ⟨by omega, by (try simp only [List.length_cons, List.length_nil] at hkN1); omega⟩; unfold F_severity_Worth_L1 at h; unfold mc_severity_Worth_L1; (try replace h := tH h); refine tK ha1 hkd hkN1 hkB1 hkI1 ?_)
       | (clear h; intro x K h; replace h := And.left (And.intro h trivial); unfold mc_severity_Worth_L1; (try replace h := tH h); refine tB ?_)
       | (clear h; (try refine tB ?_); exact tU0; done)
       | fail)
    | (refine M.gv1 (ms := mg_severity_Worth_1) 35 [31, 32, 33, 34] h ?_ ?_ <;> first
       | (clear h; intro K hK2; unfold mg_severity_Worth_1; refine tB ?_)
       | (clear h; intro b h; (try replace h := tH h); refine tB ?_)
       | fail)
    | (refine And.intro hkI1 ?_)
    | (refine And.intro hkN1 ?_)
    | (refine And.intro hkB1 ?_)
    | (simp only [ha1])
    | (refine hK1 _ ?_; (try refine tB ?_); refine ⟨_, h, ?_⟩; exact tU0; done)
    | (refine hK2 _ ?_; exact tU; done)
    | (refine bfork (fun hc => ?_) (fun hc => ?_))
    | (refine ⟨_, getE_map (inb_toNat (by assumption)), ?_⟩; (first | rw [M.lok_compU] | rw [M.lokD_compU]); refine tB ?_)
    | (refine And.intro (ltb_of (by assumption)) ?_)
    | (refine And.intro (by omega) ?_)
    | fail)
theorem W_severity_Worth : ∀ {x_ : GRights} {worths_ : List Int} {c_ : Int} {y : Int × Int}, F_severity_Worth x_ worths_ c_ = some y → ACall Tryd.prog 16 [GRights.v x_, .sl (worths_.map (V.int .i64)), .int .i64 c_] [] (fun r H => r = .tup [.int .i64 y.1, .int .i64 y.2] ∧ H = []) :=
  fun hy => Wq_severity_Worth _ _ _ (Q := fun z => z = _) ⟨_, hy, rfl⟩ fun z e => by subst e; exact ⟨rfl, rfl⟩

noncomputable def F_severity_Rate (x_ : GRights) (worths_ : List Int) (c_ : Int) (readers_ : Int) (public_ : Bool) : Option (GSeverity × Int) :=
  (F_severity_Worth x_ worths_ c_).bind fun y2 => bif (!decide (y2.2 = 0)) then some ((GSeverity.mk 0 0 0 0), y2.2) else grp ((decide (readers_ < 0) || decide (24 < readers_))) fun b6 => bif b6 then some ((GSeverity.mk 0 0 0 0), 2) else chk (in64 (1 + readers_)) (jn (α := GSeverity) (bif public_ then some (GSeverity.mk 0 y2.1 100 0) else some (GSeverity.mk 0 y2.1 (1 + readers_) 0)) fun j7 => chk (in64 (j7.Worth * j7.Audience)) ((F_severity_Level (j7.Worth * j7.Audience)).bind fun y9 => some ((GSeverity.mk y9 j7.Worth j7.Audience (j7.Worth * j7.Audience)), 0)))

/- leakresponse/severity.Rate -/
@[irreducible] def mg_severity_Rate_1 : List MOp := [⟨.mv (.t 3), (some 29), (some (28, false))⟩,
    ⟨.bin false .gtr (.t 29) (.c (.int .i64 24)), (some 30), (some (28, false))⟩,
    ⟨.pick (.t 28) (.c (.bool true)) (.t 30), (some 31), none⟩]
@[irreducible] def mc_severity_Rate_J1 : MC :=
  (.seq (.reg [⟨.fad 1 (.t 14), (some 39), none⟩,
    ⟨.ld none (.t 39), (some 40), none⟩,
    ⟨.fad 2 (.t 14), (some 41), none⟩,
    ⟨.ld none (.t 41), (some 42), none⟩,
    ⟨.bin true .mul (.t 40) (.t 42), (some 43), none⟩,
    ⟨.fad 3 (.t 14), (some 44), none⟩,
    ⟨.st 1 (.t 44) (.t 43), none, none⟩])
  (.seq (.reg [⟨.fad 3 (.t 14), (some 45), none⟩,
    ⟨.ld none (.t 45), (some 46), none⟩,
    ⟨.call (.f 14) [(.t 46)] [] [], (some 47), none⟩,
    ⟨.fad 0 (.t 14), (some 48), none⟩,
    ⟨.st 1 (.t 48) (.t 47), none, none⟩])
  (.seq (.note (.gc [10, 14]) (.reg [⟨.ld (some 4) (.t 14), (some 49), none⟩,
    ⟨.st 4 (.t 10) (.t 49), none, none⟩,
    ⟨.mv (.c (.int .i64 0)), (some 11), none⟩]))
  .ret)))
def mc_severity_Rate : MC :=
  (.seq (.reg [⟨.box (.t 0), (some 5), none⟩,
    ⟨.alloc [(.int .i64 0), (.int .i64 0), (.int .i64 0), (.int .i64 0)], (some 10), none⟩,
    ⟨.mv (.c (.int .i64 0)), (some 11), none⟩])
  (.seq (.reg [⟨.ld (some 5) (.t 5), (some 16), none⟩,
    ⟨.mv (.t 1), (some 17), none⟩,
    ⟨.mv (.t 2), (some 18), none⟩,
    ⟨.call (.f 16) [(.t 16), (.t 17), (.t 18)] [] [], (some 19), none⟩,
    ⟨.mv (.t 19), (some 15), none⟩,
    ⟨.ext 0 (.t 15), (some 20), none⟩,
    ⟨.ext 1 (.t 15), (some 21), none⟩,
    ⟨.mv (.t 20), (some 12), none⟩,
    ⟨.mv (.t 21), (some 13), none⟩])
  (.seq (.seq (.reg [⟨.mv (.t 13), (some 22), none⟩,
    ⟨.bin false .neq (.t 22) (.c (.int .i64 0)), (some 23), none⟩])
  (.cond (.t 23)
    (.seq (.note (.gc [10, 13]) (.reg [⟨.build [(.int .i64 0), (.int .i64 0), (.int .i64 0), (.int .i64 0)] [], (some 24), none⟩,
      ⟨.mv (.t 13), (some 25), none⟩,
      ⟨.st 4 (.t 10) (.t 24), none, none⟩,
      ⟨.mv (.t 25), (some 11), none⟩]))
    .ret)
    .skip))
  (.seq (.seq (.note (.gc [3, 4, 10, 12, 29, 30]) (.regI [.op ⟨.mv (.t 3), (some 26), none⟩,
    .op ⟨.bin false .lss (.t 26) (.c (.int .i64 0)), (some 27), none⟩,
    .op ⟨.mv (.t 27), (some 28), none⟩,
    .grp mg_severity_Rate_1]))
  (.cond (.t 31)
    (.seq (.reg [⟨.build [(.int .i64 0), (.int .i64 0), (.int .i64 0), (.int .i64 0)] [], (some 32), none⟩,
      ⟨.st 4 (.t 10) (.t 32), none, none⟩,
      ⟨.mv (.c (.int .i64 2)), (some 11), none⟩])
    .ret)
    .skip))
  (.seq (.reg [⟨.mv (.t 12), (some 33), none⟩,
    ⟨.mv (.t 3), (some 34), none⟩,
    ⟨.bin true .add (.c (.int .i64 1)) (.t 34), (some 35), none⟩,
    ⟨.build [(.int .i64 0), (.int .i64 0), (.int .i64 0), (.int .i64 0)] [(1, 1, (.t 33)), (2, 1, (.t 35))], (some 36), none⟩,
    ⟨.alloc [(.int .i64 0), (.int .i64 0), (.int .i64 0), (.int .i64 0)], (some 14), none⟩,
    ⟨.st 4 (.t 14) (.t 36), none, none⟩])
  (.cut (.seq (.reg [⟨.mv (.t 4), (some 37), none⟩])
  (.cond (.t 37)
    (.reg [⟨.fad 2 (.t 14), (some 38), none⟩,
      ⟨.st 1 (.t 38) (.c (.int .i64 100)), none, none⟩])
    .skip))
  mc_severity_Rate_J1))))))
theorem ok_severity_Rate : mc_severity_Rate.ok Tryd.prog Tryd.f13.ntmps (Tryd.f13.body.getD .skip) = true := by kernel_rfl

set_option maxHeartbeats 2000000 in
theorem Wq_severity_Rate (x_ : GRights) (worths_ : List Int) (c_ : Int) (readers_ : Int) (public_ : Bool) {Q : GSeverity × Int → Prop} {Q' : V → Heap → Prop} (h : Ok (F_severity_Rate x_ worths_ c_ readers_ public_) Q) (hQ : ∀ z, Q z → Q' (.tup [GSeverity.v z.1, .int .i64 z.2]) []) : ACall Tryd.prog 13 [GRights.v x_, .sl (worths_.map (V.int .i64)), .int .i64 c_, .int .i64 readers_, .bool public_] [] Q' := by
  refine acall_machN [] [] [.c 10 (some 4), .t 11] Tryd.func13 rfl (by kernel_rfl) ok_severity_Rate (by kernel_rfl) rfl rfl fun M hf => ?_
  clear hf
  unfold F_severity_Rate at h
  unfold mc_severity_Rate
  (try replace h := tH h)
  refine tB ?_
  repeat' (first
    | (exact hQ _ h)
    | (exact trivial)
    | (exact False.elim h)
    | (have hq := hQ _ h; replace hq := tH hq; exact hq)
    | (refine oblg h ?_; clear h; intro hc h)
    | (refine roomG h ?_; clear h; intro hc h)
    | (refine fork h ?_ ?_ <;> clear h <;> intro hc h)
    | (refine forkS h ?_ ?_ <;> clear h <;> intro hc h)
    | (refine And.intro (chkD_of rfl) ?_)
    | (obtain ⟨y, hy, h⟩ := h; have hw := W_severity_Worth hy; (try replace hw := tH hw); (first | (refine sCall_of hw rfl rfl ?_; rw [M.lok_eq]) | (refine sCallD_of hw rfl rfl ?_; rw [M.lokD_eq])); clear hw; clear hy; refine tB ?_)
    | (obtain ⟨y, hy, h⟩ := h; have hw := W_severity_Level hy; (try replace hw := tH hw); (first | (refine sCall_of hw rfl rfl ?_; rw [M.lok_eq]) | (refine sCallD_of hw rfl rfl ?_; rw [M.lokD_eq])); clear hw; clear hy; refine tB ?_)
    | (refine M.jn1 (b := mc_severity_Rate_J1) [10, 14] [10] (fun y => []) (fun y => [.o 14 (.cells [.int .i64 y.Level, .int .i64 y.Worth, .int .i64 y.Audience, .int .i64 y.Score])]) [] h ?_ ?_ <;> first
       | (clear h; intro Qn K hK1 h; (try replace h := tH h); refine tB ?_)
       | (clear h; intro y h; unfold mc_severity_Rate_J1; (try replace h := tH h); refine tB ?_)
       | fail)
    | (refine M.gv1 (ms := mg_severity_Rate_1) 31 [29, 30] h ?_ ?_ <;> first
       | (clear h; intro K hK2; unfold mg_severity_Rate_1; refine tB ?_)
       | (clear h; intro b h; (try replace h := tH h); refine tB ?_)
       | fail)
    | (refine hK1 _ ?_; (try refine tB ?_); refine ⟨_, h, ?_⟩; exact tU0; done)
    | (refine hK2 _ ?_; exact tU; done)
    | (refine bfork (fun hc => ?_) (fun hc => ?_))
    | (refine ⟨_, getE_map (inb_toNat (by assumption)), ?_⟩; (first | rw [M.lok_compU] | rw [M.lokD_compU]); refine tB ?_)
    | (refine And.intro (ltb_of (by assumption)) ?_)
    | (refine And.intro (by omega) ?_)
    | fail)
theorem W_severity_Rate : ∀ {x_ : GRights} {worths_ : List Int} {c_ : Int} {readers_ : Int} {public_ : Bool} {y : GSeverity × Int}, F_severity_Rate x_ worths_ c_ readers_ public_ = some y → ACall Tryd.prog 13 [GRights.v x_, .sl (worths_.map (V.int .i64)), .int .i64 c_, .int .i64 readers_, .bool public_] [] (fun r H => r = .tup [GSeverity.v y.1, .int .i64 y.2] ∧ H = []) :=
  fun hy => Wq_severity_Rate _ _ _ _ _ (Q := fun z => z = _) ⟨_, hy, rfl⟩ fun z e => by subst e; exact ⟨rfl, rfl⟩

noncomputable def F_law31_awake : Option Bool :=
  (F_severity_Rate (GRights.mk 1 1 [(GGrant.mk 0 0 3)] [] []) [50] 0 1 false).bind fun y2 => jn (α := Bool) (bif decide (y2.2 = 0) then some (decide (y2.1.Level = 2) && (decide (y2.1.Worth = 150) && (decide (y2.1.Audience = 2) && decide (y2.1.Score = 300)))) else some false) fun j4 => some j4

/- leakresponse/leakresponselaw31.awake -/
@[irreducible] def mg_law31_awake_1 : List MOp := [⟨.ld (some 4) (.t 2), (some 16), (some (15, true))⟩,
    ⟨.build [(.int .i64 0), (.int .i64 0), (.int .i64 0), (.int .i64 0)] [(0, 1, (.c (.int .i64 2))), (1, 1, (.c (.int .i64 150))), (2, 1, (.c (.int .i64 2))), (3, 1, (.c (.int .i64 300)))], (some 17), (some (15, true))⟩,
    ⟨.eqs false [0, 0, 0, 0] (.t 16) (.t 17), (some 18), (some (15, true))⟩,
    ⟨.pick (.t 15) (.t 18) (.c (.bool false)), (some 19), none⟩]
def mc_law31_awake : MC :=
  (.seq (.reg [⟨.mv (.c (.bool false)), (some 0), none⟩])
  (.seq (.reg [⟨.build [(.int .i64 0), (.int .i64 0), (.int .i64 0)] [(2, 1, (.c (.int .i64 3)))], (some 4), none⟩,
    ⟨.bslice 3 [(.t 4)], (some 5), none⟩,
    ⟨.build [(.int .i64 0), (.int .i64 0), (.sl []), (.sl []), (.sl [])] [(0, 1, (.c (.int .i64 1))), (1, 1, (.c (.int .i64 1))), (2, 1, (.t 5))], (some 6), none⟩,
    ⟨.alloc [(.int .i64 0), (.int .i64 0), (.sl []), (.sl []), (.sl [])], (some 1), none⟩,
    ⟨.st 5 (.t 1) (.t 6), none, none⟩])
  (.seq (.regI [.op ⟨.ld (some 5) (.t 1), (some 8), none⟩,
    .op ⟨.lsl 1 [(.c (.int .i64 50))], (some 9), none⟩,
    .nt (.fz 8),
    .op ⟨.call (.f 13) [(.t 8), (.t 9), (.c (.int .i64 0)), (.c (.int .i64 1)), (.c (.bool false))] [] [], (some 10), none⟩,
    .op ⟨.mv (.t 10), (some 7), none⟩,
    .op ⟨.ext 0 (.t 7), (some 11), none⟩,
    .op ⟨.ext 1 (.t 7), (some 12), none⟩,
    .op ⟨.alloc [(.int .i64 0), (.int .i64 0), (.int .i64 0), (.int .i64 0)], (some 2), none⟩,
    .op ⟨.st 4 (.t 2) (.t 11), none, none⟩,
    .op ⟨.mv (.t 12), (some 3), none⟩])
  (.seq (.note (.gc [2, 3, 16, 17, 18]) (.regI [.op ⟨.mv (.t 3), (some 13), none⟩,
    .op ⟨.bin false .eql (.t 13) (.c (.int .i64 0)), (some 14), none⟩,
    .op ⟨.mv (.t 14), (some 15), none⟩,
    .grp mg_law31_awake_1,
    .op ⟨.mv (.t 19), (some 0), none⟩]))
  .ret))))
theorem ok_law31_awake : mc_law31_awake.ok Tryd.prog Tryd.f8.ntmps (Tryd.f8.body.getD .skip) = true := by kernel_rfl

set_option maxHeartbeats 2000000 in
theorem Wq_law31_awake {Q : Bool → Prop} {Q' : V → Heap → Prop} (h : Ok F_law31_awake Q) (hQ : ∀ z, Q z → Q' (.bool z) []) : ACall Tryd.prog 8 [] [] Q' := by
  refine acall_machN [] [] [.t 0] Tryd.func8 rfl (by kernel_rfl) ok_law31_awake (by kernel_rfl) rfl rfl fun M hf => ?_
  clear hf
  unfold F_law31_awake at h
  unfold mc_law31_awake
  (try replace h := tH h)
  refine tB ?_
  repeat' (first
    | (exact hQ _ h)
    | (exact trivial)
    | (exact False.elim h)
    | (have hq := hQ _ h; replace hq := tH hq; exact hq)
    | (refine oblg h ?_; clear h; intro hc h)
    | (refine roomG h ?_; clear h; intro hc h)
    | (refine fork h ?_ ?_ <;> clear h <;> intro hc h)
    | (refine forkS h ?_ ?_ <;> clear h <;> intro hc h)
    | (refine And.intro (chkD_of rfl) ?_)
    | (obtain ⟨y, hy, h⟩ := h; have hw := W_severity_Rate hy; (try replace hw := tH hw); (first | (refine sCall_of hw rfl rfl ?_; rw [M.lok_eq]) | (refine sCallD_of hw rfl rfl ?_; rw [M.lokD_eq])); clear hw; clear hy; refine tB ?_)
    | (refine M.gj1 (ms := mg_law31_awake_1) [] [] (fun y => [(19, .bool y)]) (fun y => []) h ?_ ?_ <;> first
       | (clear h; intro Qn K hK1 h; unfold mg_law31_awake_1; (try replace h := tH h); refine tB ?_)
       | (clear h; intro y h; (try replace h := tH h); refine tB ?_)
       | fail)
    | (refine hK1 _ ?_; (try refine tB ?_); refine ⟨_, h, ?_⟩; exact tU0; done)
    | (refine ⟨_, getE_map (inb_toNat (by assumption)), ?_⟩; (first | rw [M.lok_compU] | rw [M.lokD_compU]); refine tB ?_)
    | (refine And.intro (ltb_of (by assumption)) ?_)
    | (refine And.intro (by omega) ?_)
    | fail)
theorem W_law31_awake : ∀ {y : Bool}, F_law31_awake = some y → ACall Tryd.prog 8 [] [] (fun r H => r = .bool y ∧ H = []) :=
  fun hy => Wq_law31_awake (Q := fun z => z = _) ⟨_, hy, rfl⟩ fun z e => by subst e; exact ⟨rfl, rfl⟩

noncomputable def F_law31_SeverityLevels_L1 (k76 : Int) (a77 : Int) (x75 : Unit) : Option (Fl Unit Bool) :=
  (F_severity_Level a77).bind fun y92 => chk (in64 (1 + k76)) (bif (!decide (y92 = (1 + k76))) then some (.ex false) else chk (in64 (a77 - 1)) ((F_severity_Level (a77 - 1)).bind fun y93 => bif (!decide (y93 = k76)) then some (.ex false) else some (.nx ())))
noncomputable def F_law31_SeverityLevels (a_ : Int) (b_ : Int) : Option Bool :=
  jn (α := Int × Int) (bif decide (b_ < a_) then some (b_, a_) else some (a_, b_)) fun j1 => (F_severity_Level j1.1).bind fun y14 => (F_severity_Level j1.2).bind fun y15 => bif decide (y15 < y14) then some false else (F_severity_Level j1.1).bind fun y16 => bif decide (y16 < 0) then some false else (F_severity_Level j1.2).bind fun y17 => bif decide (4 < y17) then some false else (forL F_law31_SeverityLevels_L1 [1, 100, 1000, 10000] 0 ()).bind fun o => o.elim (fun x94 => F_law31_awake.bind fun y97 => some y97) (fun r95 => some r95)

/- leakresponse/leakresponselaw31.SeverityLevels -/
@[irreducible] def mc_law31_SeverityLevels_L1 : MC :=
  (.seq (.reg [⟨.bin false .lss (.t 28) (.c (.int .i64 4)), (some 29), none⟩])
  (.seq (.cond (.t 29)
    .skip
    (.exit 0))
  (.seq (.block 1
  (.seq (.reg [⟨.mv (.t 28), (some 30), none⟩,
    ⟨.aix none 1 4 (.t 27) (.t 28), (some 31), none⟩,
    ⟨.mv (.t 30), (some 5), none⟩,
    ⟨.mv (.t 31), (some 6), none⟩])
  (.seq (.reg [⟨.mv (.t 6), (some 32), none⟩,
    ⟨.call (.f 14) [(.t 32)] [] [], (some 33), none⟩,
    ⟨.mv (.t 5), (some 34), none⟩,
    ⟨.bin true .add (.c (.int .i64 1)) (.t 34), (some 35), none⟩,
    ⟨.bin false .neq (.t 33) (.t 35), (some 36), none⟩,
    ⟨.mv (.t 36), (some 37), none⟩,
    ⟨.mv (.t 6), (some 38), (some (37, false))⟩,
    ⟨.bin true .sub (.t 38) (.c (.int .i64 1)), (some 39), (some (37, false))⟩,
    ⟨.call (.f 14) [(.t 39)] [] [], (some 40), (some (37, false))⟩,
    ⟨.mv (.t 5), (some 41), (some (37, false))⟩,
    ⟨.bin false .neq (.t 40) (.t 41), (some 42), (some (37, false))⟩,
    ⟨.pick (.t 37) (.c (.bool true)) (.t 42), (some 43), none⟩])
  (.cond (.t 43)
    (.seq (.reg [⟨.mv (.c (.bool false)), (some 4), none⟩])
    .ret)
    .skip))))
  (.reg [⟨.bin true .add (.t 28) (.c (.int .i64 1)), (some 44), none⟩,
    ⟨.mv (.t 44), (some 28), none⟩]))))
@[irreducible] def mc_law31_SeverityLevels_J1 : MC :=
  (.seq (.seq (.reg [⟨.mv (.t 0), (some 12), none⟩,
    ⟨.call (.f 14) [(.t 12)] [] [], (some 13), none⟩,
    ⟨.mv (.t 1), (some 14), none⟩,
    ⟨.call (.f 14) [(.t 14)] [] [], (some 15), none⟩,
    ⟨.bin false .gtr (.t 13) (.t 15), (some 16), none⟩,
    ⟨.mv (.t 16), (some 17), none⟩,
    ⟨.mv (.t 0), (some 18), (some (17, false))⟩,
    ⟨.call (.f 14) [(.t 18)] [] [], (some 19), (some (17, false))⟩,
    ⟨.bin false .lss (.t 19) (.c (.int .i64 0)), (some 20), (some (17, false))⟩,
    ⟨.pick (.t 17) (.c (.bool true)) (.t 20), (some 21), none⟩,
    ⟨.mv (.t 21), (some 22), none⟩,
    ⟨.mv (.t 1), (some 23), (some (22, false))⟩,
    ⟨.call (.f 14) [(.t 23)] [] [], (some 24), (some (22, false))⟩,
    ⟨.bin false .gtr (.t 24) (.c (.int .i64 4)), (some 25), (some (22, false))⟩,
    ⟨.pick (.t 22) (.c (.bool true)) (.t 25), (some 26), none⟩])
  (.cond (.t 26)
    (.seq (.reg [⟨.mv (.c (.bool false)), (some 4), none⟩])
    .ret)
    .skip))
  (.seq (.seq (.reg [⟨.barr 1 [(.int .i64 0), (.int .i64 0), (.int .i64 0), (.int .i64 0)] [(.c (.int .i64 1)), (.c (.int .i64 100)), (.c (.int .i64 1000)), (.c (.int .i64 10000))], (some 27), none⟩,
    ⟨.mv (.c (.int .i64 0)), (some 28), none⟩])
  (.block 0
  (.loop mc_law31_SeverityLevels_L1)))
  (.seq (.reg [⟨.call (.f 8) [] [] [], (some 45), none⟩,
    ⟨.mv (.t 45), (some 4), none⟩])
  .ret)))
def mc_law31_SeverityLevels : MC :=
  (.seq (.reg [⟨.mv (.c (.bool false)), (some 4), none⟩])
  (.cut (.seq (.reg [⟨.mv (.t 0), (some 7), none⟩,
    ⟨.mv (.t 1), (some 8), none⟩,
    ⟨.bin false .gtr (.t 7) (.t 8), (some 9), none⟩])
  (.cond (.t 9)
    (.reg [⟨.mv (.t 1), (some 10), none⟩,
      ⟨.mv (.t 0), (some 11), none⟩,
      ⟨.mv (.t 10), (some 0), none⟩,
      ⟨.mv (.t 11), (some 1), none⟩])
    .skip))
  mc_law31_SeverityLevels_J1))
theorem ok_law31_SeverityLevels : mc_law31_SeverityLevels.ok Tryd.prog Tryd.f5.ntmps (Tryd.f5.body.getD .skip) = true := by kernel_rfl

set_option maxHeartbeats 2000000 in
theorem Wq_law31_SeverityLevels (a_ : Int) (b_ : Int) {Q : Bool → Prop} {Q' : V → Heap → Prop} (h : Ok (F_law31_SeverityLevels a_ b_) Q) (hQ : ∀ z, Q z → Q' (.bool z) []) : ACall Tryd.prog 5 [.int .i64 a_, .int .i64 b_] [] Q' := by
  refine acall_machN [] [] [.t 4] Tryd.func5 rfl (by kernel_rfl) ok_law31_SeverityLevels (by kernel_rfl) rfl rfl fun M hf => ?_
  clear hf
  unfold F_law31_SeverityLevels at h
  unfold mc_law31_SeverityLevels
  (try replace h := tH h)
  refine tB ?_
  repeat' (first
    | (exact hQ _ h)
    | (exact trivial)
    | (exact False.elim h)
    | (have hq := hQ _ h; replace hq := tH hq; exact hq)
    | (refine oblg h ?_; clear h; intro hc h)
    | (refine roomG h ?_; clear h; intro hc h)
    | (refine fork h ?_ ?_ <;> clear h <;> intro hc h)
    | (refine forkS h ?_ ?_ <;> clear h <;> intro hc h)
    | (refine And.intro (chkD_of rfl) ?_)
    | (obtain ⟨y, hy, h⟩ := h; have hw := W_severity_Level hy; (try replace hw := tH hw); (first | (refine sCall_of hw rfl rfl ?_; rw [M.lok_eq]) | (refine sCallD_of hw rfl rfl ?_; rw [M.lokD_eq])); clear hw; clear hy; refine tB ?_)
    | (obtain ⟨y, hy, h⟩ := h; have hw := W_law31_awake hy; (try replace hw := tH hw); (first | (refine sCall_of hw rfl rfl ?_; rw [M.lok_eq]) | (refine sCallD_of hw rfl rfl ?_; rw [M.lokD_eq])); clear hw; clear hy; refine tB ?_)
    | (refine M.for1 (b := mc_law31_SeverityLevels_L1) 28 [27] [] (fun x => []) (fun x => []) [] h ?_ ?_ ?_ <;> first
       | (clear h; intro k a x Qn K hK1 hkN1 ha1 h hf; skip; clear hf; have hkd := kD hkN1; have hkB1 := kB hkN1; have hkI1 : in64 ((k : Int) + 1) = true := in64_iff.2 ⟨by omega, by (try simp only [List.length_cons, List.length_nil] at hkN1); omega⟩; have hkd1 : decide ((k : Int) < 4) = true := decide_eq_true (by simp only [List.length_cons, List.length_nil] at hkN1; omega); have hkr1 : (0 ≤ (k : Int) ∧ (k : Int) < 4) = True := eq_true (by simp only [List.length_cons, List.length_nil] at hkN1; omega); have hle1 : (k * 1 ≤ 3) = True := eq_true (by simp only [List.length_cons, List.length_nil] at hkN1; omega); have hpt1 := drop_of (f := fun e : Int => .int .i64 e) ha1 hkN1; (try simp only [go_sem, Nat.reduceBEq, Nat.reduceAdd, Nat.reduceLeDiff, Nat.reduceSub, Nat.reduceMul, Int.reduceToNat, Int.reduceLT, Int.reduceLE, List.flatMap_cons, List.flatMap_nil, List.map_cons, List.map_nil] at hpt1); unfold F_law31_SeverityLevels_L1 at h; unfold mc_law31_SeverityLevels_L1; (try replace h := tH h); refine tKA ha1 hkd hkN1 hkB1 hkI1 hkd1 hkr1 hle1 hpt1 ?_)
       | (clear h; intro x K h; replace h := And.left (And.intro h trivial); unfold mc_law31_SeverityLevels_L1; (try replace h := tH h); refine tB ?_)
       | (clear h; (try refine tB ?_); exact tU0; done)
       | fail)
    | (refine M.jn1 (b := mc_law31_SeverityLevels_J1) [] [] (fun y => [(0, .int .i64 y.1), (1, .int .i64 y.2)]) (fun y => []) [] h ?_ ?_ <;> first
       | (clear h; intro Qn K hK2 h; (try replace h := tH h); refine tB ?_)
       | (clear h; intro y h; unfold mc_law31_SeverityLevels_J1; (try replace h := tH h); refine tB ?_)
       | fail)
    | (refine And.intro hkI1 ?_)
    | (refine And.intro hkN1 ?_)
    | (refine And.intro hkB1 ?_)
    | (simp only [ha1])
    | (refine hK1 _ ?_; (try refine tB ?_); refine ⟨_, h, ?_⟩; exact tU0; done)
    | (refine hK2 _ ?_; (try refine tB ?_); refine ⟨_, h, ?_⟩; exact tU0; done)
    | (refine ⟨_, getE_map (inb_toNat (by assumption)), ?_⟩; (first | rw [M.lok_compU] | rw [M.lokD_compU]); refine tB ?_)
    | (refine And.intro (ltb_of (by assumption)) ?_)
    | (refine And.intro (by omega) ?_)
    | fail)
theorem W_law31_SeverityLevels : ∀ {a_ : Int} {b_ : Int} {y : Bool}, F_law31_SeverityLevels a_ b_ = some y → ACall Tryd.prog 5 [.int .i64 a_, .int .i64 b_] [] (fun r H => r = .bool y ∧ H = []) :=
  fun hy => Wq_law31_SeverityLevels _ _ (Q := fun z => z = _) ⟨_, hy, rfl⟩ fun z e => by subst e; exact ⟨rfl, rfl⟩

end Go.Ab
