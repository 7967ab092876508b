/- What the functions of this seat that lie on the laws' road compute (part LAW), each for every input. By AI agents. -/
import Derived.Test.YteegjccaabkhgaaProg
import Derived.KernelRfl
import Derived.Test.YteegjccaabkhgaaAbFun
import Derived.Test.YteegjccaabkhgaaAbSort
import Derived.Test.YteegjccaabkhgaaSHr27
import Derived.Test.YteegjccaabkhgaaIT27
set_option linter.all false
set_option maxRecDepth 20000
set_option linter.all false
namespace Go.Ab
open Go.Proofs
structure GAccess where
  Time : Int
  Kind : Int
  Place : Int
  Principal : Int
  Until : Int
  Content : Int
  From : Int
instance : Inhabited GAccess := ⟨⟨default, default, default, default, default, default, default⟩⟩
def GAccess.v (x : GAccess) : V := .agg [.int .i64 x.Time, .int .i64 x.Kind, .int .i64 x.Place, .int .i64 x.Principal, .int .i64 x.Until, .int .i64 x.Content, .int .i64 x.From]

structure GEstate where
  Places : Int
  Events : List GAccess
instance : Inhabited GEstate := ⟨⟨default, default⟩⟩
def GEstate.v (x : GEstate) : V := .agg [.int .i64 x.Places, .sl (x.Events.map GAccess.v)]

structure GTape where
  L : List Int
  at_ : Int
instance : Inhabited GTape := ⟨⟨default, default⟩⟩
def GTape.v (x : GTape) : V := .agg [.sl (x.L.map (V.int .i64)), .int .i64 x.at_]

structure GMember where
  Time : Int
  Kind : Int
  Principal : Int
  Group : Int
instance : Inhabited GMember := ⟨⟨default, default, default, default⟩⟩
def GMember.v (x : GMember) : V := .agg [.int .i64 x.Time, .int .i64 x.Kind, .int .i64 x.Principal, .int .i64 x.Group]

structure GDirectory where
  Kinds : List Int
  Events : List GMember
instance : Inhabited GDirectory := ⟨⟨default, default⟩⟩
def GDirectory.v (x : GDirectory) : V := .agg [.sl (x.Kinds.map (V.int .i64)), .sl (x.Events.map GMember.v)]

theorem dlt {a : Int} : decide (a < a) = false := by simp
attribute [go_sem] Int.cast_ofNat_Int List.take_succ_cons List.take_zero List.drop_succ_cons List.cons_append List.nil_append putPs pinH wrap_u8 rng64 inb_and inc_and room_and roomI_and divs_and mget_i mget_s mput_i mput_s mdel_i mdel_s lk_b lk_i lk_s lk_l lkt_b' lkt_i' lkt_s' lkt_l' rep_b rep_i ovS ovE ovU patO filt filtH dropE stepNs atEndN shqs shq1 V.oids V.oidsL V.tr V.trL trE trH Obj'.tr true_implies false_implies Bool.false_eq_true Bool.true_eq_false dlt mpV slV Int.natCast_zero List.map_set kvV nxt_map erase_map V.sw V.swL swN swH sw_sl sw_int sw_bool sw_str sw_smap sw_byte Obj'.sw sw_arr sw_map byte_1 byte_2 Mach.b2s_e Mach.b2s_eD toNat_ltb List.length_set List.take_of_length_le Nat.zero_le bounds eqCells Option.map_some Option.map_none Fl_nx Fl_ex Sum_inl Sum_inr Ok_ite Ok_chk Ok_some Ok_bind Ok_none
attribute [go_sem] GAccess.v GDirectory.v GEstate.v GMember.v GTape.v
def F_access_among (n_ : Int) (low_ : Int) (high_ : Int) : Option Bool :=
  grp ((decide (low_ ≤ n_) && decide (n_ ≤ high_))) fun b2 => some b2

/- leakresponse/access.among -/
@[irreducible] def mg_access_among_1 : List MOp := [⟨.mv (.t 0), (some 11), (some (10, true))⟩,
    ⟨.mv (.t 2), (some 12), (some (10, true))⟩,
    ⟨.bin false .leq (.t 11) (.t 12), (some 13), (some (10, true))⟩,
    ⟨.pick (.t 10) (.t 13) (.c (.bool false)), (some 14), none⟩]
def mc_access_among : MC :=
  (.seq (.reg [⟨.mv (.c (.bool false)), (some 6), none⟩])
  (.seq (.regI [.op ⟨.mv (.t 0), (some 7), none⟩,
    .op ⟨.mv (.t 1), (some 8), none⟩,
    .op ⟨.bin false .geq (.t 7) (.t 8), (some 9), none⟩,
    .op ⟨.mv (.t 9), (some 10), none⟩,
    .grp mg_access_among_1,
    .op ⟨.mv (.t 14), (some 6), none⟩])
  .ret))
theorem ok_access_among : mc_access_among.ok Try.prog Try.f33.ntmps (Try.f33.body.getD .skip) = true := by kernel_rfl

set_option maxHeartbeats 2000000 in
theorem Wq_access_among (n_ : Int) (low_ : Int) (high_ : Int) {Q : Bool → Prop} {Q' : V → Heap → Prop} (h : Ok (F_access_among n_ low_ high_) Q) (hQ : ∀ z, Q z → Q' (.bool z) []) : ACall Try.prog 33 [.int .i64 n_, .int .i64 low_, .int .i64 high_] [] Q' := by
  refine acall_machN [] [] [.t 6] Try.func33 rfl (by kernel_rfl) ok_access_among (by kernel_rfl) rfl rfl fun M hf => ?_
  clear hf
  unfold F_access_among at h
  unfold mc_access_among
  (try simp (maxSteps := 400000) only [go_sem, Nat.reduceBEq, Nat.reduceAdd, Nat.reduceLeDiff, Nat.reduceSub, Nat.reduceMul, Int.reduceToNat, Int.reduceLT, Int.reduceLE] at h)
  simp (maxSteps := 400000) only [go_sem, Nat.reduceBEq, Nat.reduceAdd, Nat.reduceLeDiff, Nat.reduceSub, Nat.reduceMul, Int.reduceToNat, Int.reduceLT, Int.reduceLE]
  repeat' (first
    | (exact hQ _ h)
    | (have hq := hQ _ h; simp (maxSteps := 400000) only [go_sem, Nat.reduceBEq, Nat.reduceAdd, Nat.reduceLeDiff, Nat.reduceSub, Nat.reduceMul, Int.reduceToNat, Int.reduceLT, Int.reduceLE] at hq; exact hq)
    | (refine oblg h ?_; clear h; intro hc h)
    | (refine fork h ?_ ?_ <;> clear h <;> intro hc h)
    | (refine forkS h ?_ ?_ <;> clear h <;> intro hc h)
    | (refine And.intro (chkD_of rfl) ?_)
    | (refine M.gv1 (ms := mg_access_among_1) 14 [11, 12, 13] h ?_ ?_ <;> first
       | (clear h; intro K hK1; unfold mg_access_among_1; simp (maxSteps := 400000) only [go_sem, Nat.reduceBEq, Nat.reduceAdd, Nat.reduceLeDiff, Nat.reduceSub, Nat.reduceMul, Int.reduceToNat, Int.reduceLT, Int.reduceLE])
       | (clear h; intro b h; (try simp (maxSteps := 400000) only [go_sem, Nat.reduceBEq, Nat.reduceAdd, Nat.reduceLeDiff, Nat.reduceSub, Nat.reduceMul, Int.reduceToNat, Int.reduceLT, Int.reduceLE] at h); simp (maxSteps := 400000) only [go_sem, Nat.reduceBEq, Nat.reduceAdd, Nat.reduceLeDiff, Nat.reduceSub, Nat.reduceMul, Int.reduceToNat, Int.reduceLT, Int.reduceLE])
       | fail)
    | (refine hK1 _ ?_; (refine ⟨?_, ?_, ?_⟩ <;> (try simp only [go_sem, Nat.reduceBEq, Nat.reduceAdd, Nat.reduceLeDiff, Nat.reduceSub, Nat.reduceMul, Int.reduceToNat, Int.reduceLT, Int.reduceLE, St.good, noAny, distinct, SubSt, subE, subHp, *]) <;> (repeat' (first | exact trivial | rfl | apply And.intro | (simp [*]; done)))); done)
    | (refine bfork (fun hc => ?_) (fun hc => ?_))
    | (refine ⟨_, getE_map (inb_toNat (by assumption)), ?_⟩; (first | rw [M.lok_compU] | rw [M.lokD_compU]); simp (maxSteps := 400000) only [go_sem, Nat.reduceBEq, Nat.reduceAdd, Nat.reduceLeDiff, Nat.reduceSub, Nat.reduceMul, Int.reduceToNat, Int.reduceLT, Int.reduceLE])
    | (refine And.intro (ltb_of (by assumption)) ?_)
    | fail)
theorem W_access_among : ∀ {n_ : Int} {low_ : Int} {high_ : Int} {y : Bool}, F_access_among n_ low_ high_ = some y → ACall Try.prog 33 [.int .i64 n_, .int .i64 low_, .int .i64 high_] [] (fun r H => r = .bool y ∧ H = []) :=
  fun hy => Wq_access_among _ _ _ (Q := fun z => z = _) ⟨_, hy, rfl⟩ fun z e => by subst e; exact ⟨rfl, rfl⟩

def F_access_Content (content_ : Int) : Option Bool :=
  (F_access_among content_ 0 63).bind fun y2 => some y2

/- leakresponse/access.Content -/
def mc_access_Content : MC :=
  (.seq (.reg [⟨.mv (.c (.bool false)), (some 2), none⟩])
  (.seq (.reg [⟨.mv (.t 0), (some 3), none⟩,
    ⟨.call (.f 33) [(.t 3), (.c (.int .i64 0)), (.c (.int .i64 63))] [] [], (some 4), none⟩,
    ⟨.mv (.t 4), (some 2), none⟩])
  .ret))
theorem ok_access_Content : mc_access_Content.ok Try.prog Try.f44.ntmps (Try.f44.body.getD .skip) = true := by kernel_rfl

set_option maxHeartbeats 2000000 in
theorem Wq_access_Content (content_ : Int) {Q : Bool → Prop} {Q' : V → Heap → Prop} (h : Ok (F_access_Content content_) Q) (hQ : ∀ z, Q z → Q' (.bool z) []) : ACall Try.prog 44 [.int .i64 content_] [] Q' := by
  refine acall_machN [] [] [.t 2] Try.func44 rfl (by kernel_rfl) ok_access_Content (by kernel_rfl) rfl rfl fun M hf => ?_
  clear hf
  unfold F_access_Content at h
  unfold mc_access_Content
  (try simp (maxSteps := 400000) only [go_sem, Nat.reduceBEq, Nat.reduceAdd, Nat.reduceLeDiff, Nat.reduceSub, Nat.reduceMul, Int.reduceToNat, Int.reduceLT, Int.reduceLE] at h)
  simp (maxSteps := 400000) only [go_sem, Nat.reduceBEq, Nat.reduceAdd, Nat.reduceLeDiff, Nat.reduceSub, Nat.reduceMul, Int.reduceToNat, Int.reduceLT, Int.reduceLE]
  repeat' (first
    | (exact hQ _ h)
    | (have hq := hQ _ h; simp (maxSteps := 400000) only [go_sem, Nat.reduceBEq, Nat.reduceAdd, Nat.reduceLeDiff, Nat.reduceSub, Nat.reduceMul, Int.reduceToNat, Int.reduceLT, Int.reduceLE] at hq; exact hq)
    | (refine oblg h ?_; clear h; intro hc h)
    | (refine fork h ?_ ?_ <;> clear h <;> intro hc h)
    | (refine forkS h ?_ ?_ <;> clear h <;> intro hc h)
    | (refine And.intro (chkD_of rfl) ?_)
    | (obtain ⟨y, hy, h⟩ := h; have hw := W_access_among hy; (try simp (maxSteps := 400000) only [go_sem, Nat.reduceBEq, Nat.reduceAdd, Nat.reduceLeDiff, Nat.reduceSub, Nat.reduceMul, Int.reduceToNat, Int.reduceLT, Int.reduceLE] at hw); refine sCall_of hw rfl rfl ?_; clear hw; clear hy; rw [M.lok_eq]; simp (maxSteps := 400000) only [go_sem, Nat.reduceBEq, Nat.reduceAdd, Nat.reduceLeDiff, Nat.reduceSub, Nat.reduceMul, Int.reduceToNat, Int.reduceLT, Int.reduceLE])
    | (obtain ⟨y, hy, h⟩ := h; have hw := W_access_among hy; (try simp (maxSteps := 400000) only [go_sem, Nat.reduceBEq, Nat.reduceAdd, Nat.reduceLeDiff, Nat.reduceSub, Nat.reduceMul, Int.reduceToNat, Int.reduceLT, Int.reduceLE] at hw); refine sCallD_of hw rfl rfl ?_; clear hw; clear hy; rw [M.lokD_eq]; simp (maxSteps := 400000) only [go_sem, Nat.reduceBEq, Nat.reduceAdd, Nat.reduceLeDiff, Nat.reduceSub, Nat.reduceMul, Int.reduceToNat, Int.reduceLT, Int.reduceLE])
    | (refine ⟨_, getE_map (inb_toNat (by assumption)), ?_⟩; (first | rw [M.lok_compU] | rw [M.lokD_compU]); simp (maxSteps := 400000) only [go_sem, Nat.reduceBEq, Nat.reduceAdd, Nat.reduceLeDiff, Nat.reduceSub, Nat.reduceMul, Int.reduceToNat, Int.reduceLT, Int.reduceLE])
    | (refine And.intro (ltb_of (by assumption)) ?_)
    | fail)
theorem W_access_Content : ∀ {content_ : Int} {y : Bool}, F_access_Content content_ = some y → ACall Try.prog 44 [.int .i64 content_] [] (fun r H => r = .bool y ∧ H = []) :=
  fun hy => Wq_access_Content _ (Q := fun z => z = _) ⟨_, hy, rfl⟩ fun z e => by subst e; exact ⟨rfl, rfl⟩

def F_access_Place (a_ : GEstate) (place_ : Int) : Option Bool :=
  chk (in64 (a_.Places - 1)) ((F_access_among place_ 0 (a_.Places - 1)).bind fun y2 => some y2)

/- leakresponse/access.Place -/
def mc_access_Place : MC :=
  (.seq (.reg [⟨.box (.t 0), (some 2), none⟩,
    ⟨.mv (.c (.bool false)), (some 4), none⟩])
  (.seq (.reg [⟨.mv (.t 1), (some 5), none⟩,
    ⟨.fad 0 (.t 2), (some 6), none⟩,
    ⟨.ld none (.t 6), (some 7), none⟩,
    ⟨.bin true .sub (.t 7) (.c (.int .i64 1)), (some 8), none⟩,
    ⟨.call (.f 33) [(.t 5), (.c (.int .i64 0)), (.t 8)] [] [], (some 9), none⟩,
    ⟨.mv (.t 9), (some 4), none⟩])
  .ret))
theorem ok_access_Place : mc_access_Place.ok Try.prog Try.f40.ntmps (Try.f40.body.getD .skip) = true := by kernel_rfl

set_option maxHeartbeats 2000000 in
theorem Wq_access_Place (a_ : GEstate) (place_ : Int) {Q : Bool → Prop} {Q' : V → Heap → Prop} (h : Ok (F_access_Place a_ place_) Q) (hQ : ∀ z, Q z → Q' (.bool z) []) : ACall Try.prog 40 [GEstate.v a_, .int .i64 place_] [] Q' := by
  refine acall_machN [] [] [.t 4] Try.func40 rfl (by kernel_rfl) ok_access_Place (by kernel_rfl) rfl rfl fun M hf => ?_
  clear hf
  unfold F_access_Place at h
  unfold mc_access_Place
  (try simp (maxSteps := 400000) only [go_sem, Nat.reduceBEq, Nat.reduceAdd, Nat.reduceLeDiff, Nat.reduceSub, Nat.reduceMul, Int.reduceToNat, Int.reduceLT, Int.reduceLE] at h)
  simp (maxSteps := 400000) only [go_sem, Nat.reduceBEq, Nat.reduceAdd, Nat.reduceLeDiff, Nat.reduceSub, Nat.reduceMul, Int.reduceToNat, Int.reduceLT, Int.reduceLE]
  repeat' (first
    | (exact hQ _ h)
    | (have hq := hQ _ h; simp (maxSteps := 400000) only [go_sem, Nat.reduceBEq, Nat.reduceAdd, Nat.reduceLeDiff, Nat.reduceSub, Nat.reduceMul, Int.reduceToNat, Int.reduceLT, Int.reduceLE] at hq; exact hq)
    | (refine oblg h ?_; clear h; intro hc h)
    | (refine fork h ?_ ?_ <;> clear h <;> intro hc h)
    | (refine forkS h ?_ ?_ <;> clear h <;> intro hc h)
    | (refine And.intro (chkD_of rfl) ?_)
    | (obtain ⟨y, hy, h⟩ := h; have hw := W_access_among hy; (try simp (maxSteps := 400000) only [go_sem, Nat.reduceBEq, Nat.reduceAdd, Nat.reduceLeDiff, Nat.reduceSub, Nat.reduceMul, Int.reduceToNat, Int.reduceLT, Int.reduceLE] at hw); refine sCall_of hw rfl rfl ?_; clear hw; clear hy; rw [M.lok_eq]; simp (maxSteps := 400000) only [go_sem, Nat.reduceBEq, Nat.reduceAdd, Nat.reduceLeDiff, Nat.reduceSub, Nat.reduceMul, Int.reduceToNat, Int.reduceLT, Int.reduceLE])
    | (obtain ⟨y, hy, h⟩ := h; have hw := W_access_among hy; (try simp (maxSteps := 400000) only [go_sem, Nat.reduceBEq, Nat.reduceAdd, Nat.reduceLeDiff, Nat.reduceSub, Nat.reduceMul, Int.reduceToNat, Int.reduceLT, Int.reduceLE] at hw); refine sCallD_of hw rfl rfl ?_; clear hw; clear hy; rw [M.lokD_eq]; simp (maxSteps := 400000) only [go_sem, Nat.reduceBEq, Nat.reduceAdd, Nat.reduceLeDiff, Nat.reduceSub, Nat.reduceMul, Int.reduceToNat, Int.reduceLT, Int.reduceLE])
    | (refine ⟨_, getE_map (inb_toNat (by assumption)), ?_⟩; (first | rw [M.lok_compU] | rw [M.lokD_compU]); simp (maxSteps := 400000) only [go_sem, Nat.reduceBEq, Nat.reduceAdd, Nat.reduceLeDiff, Nat.reduceSub, Nat.reduceMul, Int.reduceToNat, Int.reduceLT, Int.reduceLE])
    | (refine And.intro (ltb_of (by assumption)) ?_)
    | fail)
theorem W_access_Place : ∀ {a_ : GEstate} {place_ : Int} {y : Bool}, F_access_Place a_ place_ = some y → ACall Try.prog 40 [GEstate.v a_, .int .i64 place_] [] (fun r H => r = .bool y ∧ H = []) :=
  fun hy => Wq_access_Place _ _ (Q := fun z => z = _) ⟨_, hy, rfl⟩ fun z e => by subst e; exact ⟨rfl, rfl⟩

def F_access_right (a_ : GEstate) (x_ : GAccess) : Option Bool :=
  jn (α := Bool × GAccess) (jn (α := Bool) (bif decide (x_.Kind = 1) then some true else some (decide (x_.Kind = 2))) fun j7 => bif j7 then (F_access_among x_.Principal 0 23).bind fun y8 => some (y8, (GAccess.mk x_.Time x_.Kind x_.Place x_.Principal 0 0 0)) else bif decide (x_.Kind = 3) then bif decide (x_.Time < x_.Until) then some (decide (x_.Until ≤ 1099511627776), (GAccess.mk x_.Time x_.Kind x_.Place 0 x_.Until 0 0)) else some (false, (GAccess.mk x_.Time x_.Kind x_.Place 0 x_.Until 0 0)) else bif decide (x_.Kind = 4) then some (true, (GAccess.mk x_.Time x_.Kind x_.Place 0 0 0 0)) else jn (α := Bool) (bif decide (x_.Kind = 5) then some true else some (decide (x_.Kind = 6))) fun j9 => bif j9 then (F_access_Content x_.Content).bind fun y10 => some (y10, (GAccess.mk x_.Time x_.Kind x_.Place 0 0 x_.Content 0)) else bif decide (x_.Kind = 7) then (F_access_Place a_ x_.From).bind fun y11 => bif y11 then some ((!decide (x_.From = x_.Place)), (GAccess.mk x_.Time x_.Kind x_.Place 0 0 0 x_.From)) else some (false, (GAccess.mk x_.Time x_.Kind x_.Place 0 0 0 x_.From)) else some (false, (GAccess.mk x_.Time x_.Kind x_.Place 0 0 0 0))) fun j6 => jn (α := Bool) (bif j6.1 then (F_access_Place a_ x_.Place).bind fun y17 => some y17 else some false) fun j18 => grp ((j18 && (decide (x_.Time = j6.2.Time) && (decide (x_.Kind = j6.2.Kind) && (decide (x_.Place = j6.2.Place) && (decide (x_.Principal = j6.2.Principal) && (decide (x_.Until = j6.2.Until) && (decide (x_.Content = j6.2.Content) && decide (x_.From = j6.2.From))))))))) fun b19 => some b19

/- leakresponse/access.right -/
@[irreducible] def mc_access_right_J1 : MC :=
  (.cond (.t 42)
          (.regD [⟨.fad 5 (.t 3), (some 45), none⟩,
            ⟨.ld none (.t 45), (some 46), none⟩,
            ⟨.fad 5 (.t 3), (some 47), none⟩,
            ⟨.ld none (.t 47), (some 48), none⟩,
            ⟨.call (.f 44) [(.t 48)] [] [], (some 49), none⟩,
            ⟨.fad 5 (.t 5), (some 50), none⟩,
            ⟨.st 1 (.t 50) (.t 46), none, none⟩,
            ⟨.mv (.t 49), (some 6), none⟩]
            [[], [0], [], [2], [3], [0, 1], [5, 1, 4, 0, 1], [4, 6, 0, 1, 2, 3, 4, 5, 6]]
            [[], [0], [], [2], [2, 3], [0, 1], [0, 1, 2, 3, 4, 5], [0, 1, 2, 3, 4, 5, 6]])
          (.seq (.reg [⟨.bin false .eql (.t 15) (.c (.int .i64 7)), (some 52), none⟩,
            ⟨.mv (.t 52), (some 51), none⟩])
          (.cond (.t 51)
            (.regD [⟨.fad 6 (.t 3), (some 53), none⟩,
              ⟨.ld none (.t 53), (some 54), none⟩,
              ⟨.ld (some 2) (.t 2), (some 55), none⟩,
              ⟨.fad 6 (.t 3), (some 56), none⟩,
              ⟨.ld none (.t 56), (some 57), none⟩,
              ⟨.call (.f 40) [(.t 55), (.t 57)] [] [], (some 58), none⟩,
              ⟨.mv (.t 58), (some 59), none⟩,
              ⟨.fad 6 (.t 3), (some 60), (some (59, true))⟩,
              ⟨.ld none (.t 60), (some 61), (some (59, true))⟩,
              ⟨.fad 2 (.t 3), (some 62), (some (59, true))⟩,
              ⟨.ld none (.t 62), (some 63), (some (59, true))⟩,
              ⟨.bin false .neq (.t 61) (.t 63), (some 64), (some (59, true))⟩,
              ⟨.pick (.t 59) (.t 64) (.c (.bool false)), (some 65), none⟩,
              ⟨.fad 6 (.t 5), (some 66), none⟩,
              ⟨.st 1 (.t 66) (.t 54), none, none⟩,
              ⟨.mv (.t 65), (some 6), none⟩]
              [[], [0], [], [], [3], [2, 4], [5, 5], [6], [7, 6], [6], [9, 6], [8, 10, 6], [6, 11], [0, 1], [13, 1, 6, 0, 1], [12, 14, 0, 1, 2, 3, 4, 5, 6, 7, 8, 9, 10, 11, 12, 13, 14]]
              [[], [0], [], [], [3], [2, 3, 4], [2, 3, 4, 5], [2, 3, 4, 5, 6], [2, 3, 4, 5, 6, 7], [2, 3, 4, 5, 6], [2, 3, 4, 5, 6, 9], [2, 3, 4, 5, 6, 7, 8, 9, 10], [2, 3, 4, 5, 6, 7, 8, 9, 10, 11], [0, 1], [0, 1, 2, 3, 4, 5, 6, 13], [0, 1, 2, 3, 4, 5, 6, 7, 8, 9, 10, 11, 12, 13, 14]])
            .skip)))
@[irreducible] def mc_access_right_J2 : MC :=
  (.cond (.t 16)
    (.regD [⟨.fad 3 (.t 3), (some 19), none⟩,
      ⟨.ld none (.t 19), (some 20), none⟩,
      ⟨.fad 3 (.t 3), (some 21), none⟩,
      ⟨.ld none (.t 21), (some 22), none⟩,
      ⟨.call (.f 33) [(.t 22), (.c (.int .i64 0)), (.c (.int .i64 23))] [] [], (some 23), none⟩,
      ⟨.fad 3 (.t 5), (some 24), none⟩,
      ⟨.st 1 (.t 24) (.t 20), none, none⟩,
      ⟨.mv (.t 23), (some 6), none⟩]
      [[], [0], [], [2], [3], [0, 1], [5, 1, 4, 0, 1], [4, 6, 0, 1, 2, 3, 4, 5, 6]]
      [[], [0], [], [2], [2, 3], [0, 1], [0, 1, 2, 3, 4, 5], [0, 1, 2, 3, 4, 5, 6]])
    (.seq (.reg [⟨.bin false .eql (.t 15) (.c (.int .i64 3)), (some 26), none⟩,
      ⟨.mv (.t 26), (some 25), none⟩])
    (.cond (.t 25)
      (.regD [⟨.fad 4 (.t 3), (some 27), none⟩,
        ⟨.ld none (.t 27), (some 28), none⟩,
        ⟨.fad 4 (.t 3), (some 29), none⟩,
        ⟨.ld none (.t 29), (some 30), none⟩,
        ⟨.fad 0 (.t 3), (some 31), none⟩,
        ⟨.ld none (.t 31), (some 32), none⟩,
        ⟨.bin false .gtr (.t 30) (.t 32), (some 33), none⟩,
        ⟨.mv (.t 33), (some 34), none⟩,
        ⟨.fad 4 (.t 3), (some 35), (some (34, true))⟩,
        ⟨.ld none (.t 35), (some 36), (some (34, true))⟩,
        ⟨.bin false .leq (.t 36) (.c (.int .i64 1099511627776)), (some 37), (some (34, true))⟩,
        ⟨.pick (.t 34) (.t 37) (.c (.bool false)), (some 38), none⟩,
        ⟨.fad 4 (.t 5), (some 39), none⟩,
        ⟨.st 1 (.t 39) (.t 28), none, none⟩,
        ⟨.mv (.t 38), (some 6), none⟩]
        [[], [0], [], [2], [], [4], [3, 5], [6], [7], [8, 7], [9, 7], [7, 10], [0, 1], [12, 1, 7, 0, 1], [11, 13, 0, 1, 2, 3, 4, 5, 6, 7, 8, 9, 10, 11, 12, 13]]
        [[], [0], [], [2], [], [4], [2, 3, 4, 5], [2, 3, 4, 5, 6], [2, 3, 4, 5, 6, 7], [2, 3, 4, 5, 6, 7, 8], [2, 3, 4, 5, 6, 7, 8, 9], [2, 3, 4, 5, 6, 7, 8, 9, 10], [0, 1], [0, 1, 2, 3, 4, 5, 6, 7, 12], [0, 1, 2, 3, 4, 5, 6, 7, 8, 9, 10, 11, 12, 13]])
      (.seq (.reg [⟨.bin false .eql (.t 15) (.c (.int .i64 4)), (some 41), none⟩,
        ⟨.mv (.t 41), (some 40), none⟩])
      (.cond (.t 40)
        (.reg [⟨.mv (.c (.bool true)), (some 6), none⟩])
        (.cut (.seq (.reg [⟨.bin false .eql (.t 15) (.c (.int .i64 5)), (some 43), none⟩,
          ⟨.mv (.t 43), (some 42), none⟩])
        (.cond (.t 42)
          .skip
          (.reg [⟨.bin false .eql (.t 15) (.c (.int .i64 6)), (some 44), none⟩,
            ⟨.mv (.t 44), (some 42), none⟩])))
        mc_access_right_J1))))))
@[irreducible] def mg_access_right_1 : List MOp := [⟨.ld (some 2) (.t 2), (some 69), (some (68, true))⟩,
    ⟨.fad 2 (.t 3), (some 70), (some (68, true))⟩,
    ⟨.ld none (.t 70), (some 71), (some (68, true))⟩,
    ⟨.call (.f 40) [(.t 69), (.t 71)] [] [], (some 72), (some (68, true))⟩,
    ⟨.pick (.t 68) (.t 72) (.c (.bool false)), (some 73), none⟩]
@[irreducible] def mg_access_right_2 : List MOp := [⟨.ld (some 7) (.t 3), (some 75), (some (74, true))⟩,
    ⟨.ld (some 7) (.t 5), (some 76), (some (74, true))⟩,
    ⟨.eqs false [0, 0, 0, 0, 0, 0, 0] (.t 75) (.t 76), (some 77), (some (74, true))⟩,
    ⟨.pick (.t 74) (.t 77) (.c (.bool false)), (some 78), none⟩]
@[irreducible] def mc_access_right_J3 : MC :=
  (.seq (.regI [.op ⟨.mv (.t 6), (some 67), none⟩,
    .op ⟨.mv (.t 67), (some 68), none⟩,
    .grp mg_access_right_1,
    .op ⟨.mv (.t 73), (some 74), none⟩,
    .grp mg_access_right_2,
    .op ⟨.mv (.t 78), (some 4), none⟩])
  .ret)
def mc_access_right : MC :=
  (.seq (.reg [⟨.box (.t 0), (some 2), none⟩,
    ⟨.box (.t 1), (some 3), none⟩,
    ⟨.mv (.c (.bool false)), (some 4), none⟩])
  (.seq (.reg [⟨.fad 0 (.t 3), (some 7), none⟩,
    ⟨.ld none (.t 7), (some 8), none⟩,
    ⟨.fad 1 (.t 3), (some 9), none⟩,
    ⟨.ld none (.t 9), (some 10), none⟩,
    ⟨.fad 2 (.t 3), (some 11), none⟩,
    ⟨.ld none (.t 11), (some 12), none⟩,
    ⟨.build [(.int .i64 0), (.int .i64 0), (.int .i64 0), (.int .i64 0), (.int .i64 0), (.int .i64 0), (.int .i64 0)] [(0, 1, (.t 8)), (1, 1, (.t 10)), (2, 1, (.t 12))], (some 13), none⟩,
    ⟨.alloc [(.int .i64 0), (.int .i64 0), (.int .i64 0), (.int .i64 0), (.int .i64 0), (.int .i64 0), (.int .i64 0)], (some 5), none⟩,
    ⟨.st 7 (.t 5) (.t 13), none, none⟩])
  (.seq (.reg [⟨.mv (.c (.bool false)), (some 6), none⟩])
  (.cut (.seq (.reg [⟨.fad 1 (.t 3), (some 14), none⟩,
    ⟨.ld none (.t 14), (some 15), none⟩])
  (.block 0
  (.cut (.seq (.reg [⟨.bin false .eql (.t 15) (.c (.int .i64 1)), (some 17), none⟩,
    ⟨.mv (.t 17), (some 16), none⟩])
  (.cond (.t 16)
    .skip
    (.reg [⟨.bin false .eql (.t 15) (.c (.int .i64 2)), (some 18), none⟩,
      ⟨.mv (.t 18), (some 16), none⟩])))
  mc_access_right_J2)))
  mc_access_right_J3))))
theorem ok_access_right : mc_access_right.ok Try.prog Try.f34.ntmps (Try.f34.body.getD .skip) = true := by kernel_rfl

set_option maxHeartbeats 2000000 in
theorem Wq_access_right (a_ : GEstate) (x_ : GAccess) {Q : Bool → Prop} {Q' : V → Heap → Prop} (h : Ok (F_access_right a_ x_) Q) (hQ : ∀ z, Q z → Q' (.bool z) []) : ACall Try.prog 34 [GEstate.v a_, GAccess.v x_] [] Q' := by
  refine acall_machN [] [] [.t 4] Try.func34 rfl (by kernel_rfl) ok_access_right (by kernel_rfl) rfl rfl fun M hf => ?_
  clear hf
  unfold F_access_right at h
  unfold mc_access_right
  (try simp (maxSteps := 400000) only [go_sem, Nat.reduceBEq, Nat.reduceAdd, Nat.reduceLeDiff, Nat.reduceSub, Nat.reduceMul, Int.reduceToNat, Int.reduceLT, Int.reduceLE] at h)
  simp (maxSteps := 400000) only [go_sem, Nat.reduceBEq, Nat.reduceAdd, Nat.reduceLeDiff, Nat.reduceSub, Nat.reduceMul, Int.reduceToNat, Int.reduceLT, Int.reduceLE]
  repeat' (first
    | (exact hQ _ h)
    | (have hq := hQ _ h; simp (maxSteps := 400000) only [go_sem, Nat.reduceBEq, Nat.reduceAdd, Nat.reduceLeDiff, Nat.reduceSub, Nat.reduceMul, Int.reduceToNat, Int.reduceLT, Int.reduceLE] at hq; exact hq)
    | (refine oblg h ?_; clear h; intro hc h)
    | (refine fork h ?_ ?_ <;> clear h <;> intro hc h)
    | (refine forkS h ?_ ?_ <;> clear h <;> intro hc h)
    | (refine And.intro (chkD_of rfl) ?_)
    | (obtain ⟨y, hy, h⟩ := h; have hw := W_access_among hy; (try simp (maxSteps := 400000) only [go_sem, Nat.reduceBEq, Nat.reduceAdd, Nat.reduceLeDiff, Nat.reduceSub, Nat.reduceMul, Int.reduceToNat, Int.reduceLT, Int.reduceLE] at hw); refine sCall_of hw rfl rfl ?_; clear hw; clear hy; rw [M.lok_eq]; simp (maxSteps := 400000) only [go_sem, Nat.reduceBEq, Nat.reduceAdd, Nat.reduceLeDiff, Nat.reduceSub, Nat.reduceMul, Int.reduceToNat, Int.reduceLT, Int.reduceLE])
    | (obtain ⟨y, hy, h⟩ := h; have hw := W_access_among hy; (try simp (maxSteps := 400000) only [go_sem, Nat.reduceBEq, Nat.reduceAdd, Nat.reduceLeDiff, Nat.reduceSub, Nat.reduceMul, Int.reduceToNat, Int.reduceLT, Int.reduceLE] at hw); refine sCallD_of hw rfl rfl ?_; clear hw; clear hy; rw [M.lokD_eq]; simp (maxSteps := 400000) only [go_sem, Nat.reduceBEq, Nat.reduceAdd, Nat.reduceLeDiff, Nat.reduceSub, Nat.reduceMul, Int.reduceToNat, Int.reduceLT, Int.reduceLE])
    | (obtain ⟨y, hy, h⟩ := h; have hw := W_access_Content hy; (try simp (maxSteps := 400000) only [go_sem, Nat.reduceBEq, Nat.reduceAdd, Nat.reduceLeDiff, Nat.reduceSub, Nat.reduceMul, Int.reduceToNat, Int.reduceLT, Int.reduceLE] at hw); refine sCall_of hw rfl rfl ?_; clear hw; clear hy; rw [M.lok_eq]; simp (maxSteps := 400000) only [go_sem, Nat.reduceBEq, Nat.reduceAdd, Nat.reduceLeDiff, Nat.reduceSub, Nat.reduceMul, Int.reduceToNat, Int.reduceLT, Int.reduceLE])
    | (obtain ⟨y, hy, h⟩ := h; have hw := W_access_Content hy; (try simp (maxSteps := 400000) only [go_sem, Nat.reduceBEq, Nat.reduceAdd, Nat.reduceLeDiff, Nat.reduceSub, Nat.reduceMul, Int.reduceToNat, Int.reduceLT, Int.reduceLE] at hw); refine sCallD_of hw rfl rfl ?_; clear hw; clear hy; rw [M.lokD_eq]; simp (maxSteps := 400000) only [go_sem, Nat.reduceBEq, Nat.reduceAdd, Nat.reduceLeDiff, Nat.reduceSub, Nat.reduceMul, Int.reduceToNat, Int.reduceLT, Int.reduceLE])
    | (obtain ⟨y, hy, h⟩ := h; have hw := W_access_Place hy; (try simp (maxSteps := 400000) only [go_sem, Nat.reduceBEq, Nat.reduceAdd, Nat.reduceLeDiff, Nat.reduceSub, Nat.reduceMul, Int.reduceToNat, Int.reduceLT, Int.reduceLE] at hw); refine sCall_of hw rfl rfl ?_; clear hw; clear hy; rw [M.lok_eq]; simp (maxSteps := 400000) only [go_sem, Nat.reduceBEq, Nat.reduceAdd, Nat.reduceLeDiff, Nat.reduceSub, Nat.reduceMul, Int.reduceToNat, Int.reduceLT, Int.reduceLE])
    | (obtain ⟨y, hy, h⟩ := h; have hw := W_access_Place hy; (try simp (maxSteps := 400000) only [go_sem, Nat.reduceBEq, Nat.reduceAdd, Nat.reduceLeDiff, Nat.reduceSub, Nat.reduceMul, Int.reduceToNat, Int.reduceLT, Int.reduceLE] at hw); refine sCallD_of hw rfl rfl ?_; clear hw; clear hy; rw [M.lokD_eq]; simp (maxSteps := 400000) only [go_sem, Nat.reduceBEq, Nat.reduceAdd, Nat.reduceLeDiff, Nat.reduceSub, Nat.reduceMul, Int.reduceToNat, Int.reduceLT, Int.reduceLE])
    | (refine M.jn1 (b := mc_access_right_J1) [2, 3, 5, 6, 15] [5, 3, 2] (fun y => [(42, .bool y)]) (fun y => []) [] h ?_ ?_ <;> first
       | (clear h; intro Qn K hK1 h; (try simp (maxSteps := 400000) only [go_sem, Nat.reduceBEq, Nat.reduceAdd, Nat.reduceLeDiff, Nat.reduceSub, Nat.reduceMul, Int.reduceToNat, Int.reduceLT, Int.reduceLE] at h); simp (maxSteps := 400000) only [go_sem, Nat.reduceBEq, Nat.reduceAdd, Nat.reduceLeDiff, Nat.reduceSub, Nat.reduceMul, Int.reduceToNat, Int.reduceLT, Int.reduceLE])
       | (clear h; intro y h; unfold mc_access_right_J1; (try simp (maxSteps := 400000) only [go_sem, Nat.reduceBEq, Nat.reduceAdd, Nat.reduceLeDiff, Nat.reduceSub, Nat.reduceMul, Int.reduceToNat, Int.reduceLT, Int.reduceLE] at h); simp (maxSteps := 400000) only [go_sem, Nat.reduceBEq, Nat.reduceAdd, Nat.reduceLeDiff, Nat.reduceSub, Nat.reduceMul, Int.reduceToNat, Int.reduceLT, Int.reduceLE])
       | fail)
    | (refine M.jn1 (b := mc_access_right_J2) [2, 3, 5, 6, 15] [5, 3, 2] (fun y => [(16, .bool y)]) (fun y => []) [] h ?_ ?_ <;> first
       | (clear h; intro Qn K hK2 h; (try simp (maxSteps := 400000) only [go_sem, Nat.reduceBEq, Nat.reduceAdd, Nat.reduceLeDiff, Nat.reduceSub, Nat.reduceMul, Int.reduceToNat, Int.reduceLT, Int.reduceLE] at h); simp (maxSteps := 400000) only [go_sem, Nat.reduceBEq, Nat.reduceAdd, Nat.reduceLeDiff, Nat.reduceSub, Nat.reduceMul, Int.reduceToNat, Int.reduceLT, Int.reduceLE])
       | (clear h; intro y h; unfold mc_access_right_J2; (try simp (maxSteps := 400000) only [go_sem, Nat.reduceBEq, Nat.reduceAdd, Nat.reduceLeDiff, Nat.reduceSub, Nat.reduceMul, Int.reduceToNat, Int.reduceLT, Int.reduceLE] at h); simp (maxSteps := 400000) only [go_sem, Nat.reduceBEq, Nat.reduceAdd, Nat.reduceLeDiff, Nat.reduceSub, Nat.reduceMul, Int.reduceToNat, Int.reduceLT, Int.reduceLE])
       | fail)
    | (refine M.gv1 (ms := mg_access_right_2) 78 [75, 76, 77] h ?_ ?_ <;> first
       | (clear h; intro K hK3; unfold mg_access_right_2; simp (maxSteps := 400000) only [go_sem, Nat.reduceBEq, Nat.reduceAdd, Nat.reduceLeDiff, Nat.reduceSub, Nat.reduceMul, Int.reduceToNat, Int.reduceLT, Int.reduceLE])
       | (clear h; intro b h; (try simp (maxSteps := 400000) only [go_sem, Nat.reduceBEq, Nat.reduceAdd, Nat.reduceLeDiff, Nat.reduceSub, Nat.reduceMul, Int.reduceToNat, Int.reduceLT, Int.reduceLE] at h); simp (maxSteps := 400000) only [go_sem, Nat.reduceBEq, Nat.reduceAdd, Nat.reduceLeDiff, Nat.reduceSub, Nat.reduceMul, Int.reduceToNat, Int.reduceLT, Int.reduceLE])
       | fail)
    | (refine M.gj1 (ms := mg_access_right_1) [3, 5] [5, 3] (fun y => [(73, .bool y)]) (fun y => []) h ?_ ?_ <;> first
       | (clear h; intro Qn K hK4 h; unfold mg_access_right_1; (try simp (maxSteps := 400000) only [go_sem, Nat.reduceBEq, Nat.reduceAdd, Nat.reduceLeDiff, Nat.reduceSub, Nat.reduceMul, Int.reduceToNat, Int.reduceLT, Int.reduceLE] at h); simp (maxSteps := 400000) only [go_sem, Nat.reduceBEq, Nat.reduceAdd, Nat.reduceLeDiff, Nat.reduceSub, Nat.reduceMul, Int.reduceToNat, Int.reduceLT, Int.reduceLE])
       | (clear h; intro y h; (try simp (maxSteps := 400000) only [go_sem, Nat.reduceBEq, Nat.reduceAdd, Nat.reduceLeDiff, Nat.reduceSub, Nat.reduceMul, Int.reduceToNat, Int.reduceLT, Int.reduceLE] at h); simp (maxSteps := 400000) only [go_sem, Nat.reduceBEq, Nat.reduceAdd, Nat.reduceLeDiff, Nat.reduceSub, Nat.reduceMul, Int.reduceToNat, Int.reduceLT, Int.reduceLE])
       | fail)
    | (refine M.jn1 (b := mc_access_right_J3) [2, 3, 5] [3, 2] (fun y => [(6, .bool y.1)]) (fun y => [.o 5 (.cells [.int .i64 y.2.Time, .int .i64 y.2.Kind, .int .i64 y.2.Place, .int .i64 y.2.Principal, .int .i64 y.2.Until, .int .i64 y.2.Content, .int .i64 y.2.From])]) [] h ?_ ?_ <;> first
       | (clear h; intro Qn K hK5 h; (try simp (maxSteps := 400000) only [go_sem, Nat.reduceBEq, Nat.reduceAdd, Nat.reduceLeDiff, Nat.reduceSub, Nat.reduceMul, Int.reduceToNat, Int.reduceLT, Int.reduceLE] at h); simp (maxSteps := 400000) only [go_sem, Nat.reduceBEq, Nat.reduceAdd, Nat.reduceLeDiff, Nat.reduceSub, Nat.reduceMul, Int.reduceToNat, Int.reduceLT, Int.reduceLE])
       | (clear h; intro y h; unfold mc_access_right_J3; (try simp (maxSteps := 400000) only [go_sem, Nat.reduceBEq, Nat.reduceAdd, Nat.reduceLeDiff, Nat.reduceSub, Nat.reduceMul, Int.reduceToNat, Int.reduceLT, Int.reduceLE] at h); simp (maxSteps := 400000) only [go_sem, Nat.reduceBEq, Nat.reduceAdd, Nat.reduceLeDiff, Nat.reduceSub, Nat.reduceMul, Int.reduceToNat, Int.reduceLT, Int.reduceLE])
       | fail)
    | (refine hK1 _ ?_; (try simp only [go_sem, Nat.reduceBEq, Nat.reduceAdd, Nat.reduceLeDiff, Nat.reduceSub, Nat.reduceMul, Int.reduceToNat, Int.reduceLT, Int.reduceLE]); refine ⟨_, h, ?_⟩; (refine ⟨?_, ?_, ?_⟩ <;> (try simp only [go_sem, Nat.reduceBEq, Nat.reduceAdd, Nat.reduceLeDiff, Nat.reduceSub, Nat.reduceMul, Int.reduceToNat, Int.reduceLT, Int.reduceLE, St.good, noAny, distinct, SubSt, subE, subHp]) <;> (repeat' (first | exact trivial | rfl | apply And.intro | (simp; done)))); done)
    | (refine hK2 _ ?_; (try simp only [go_sem, Nat.reduceBEq, Nat.reduceAdd, Nat.reduceLeDiff, Nat.reduceSub, Nat.reduceMul, Int.reduceToNat, Int.reduceLT, Int.reduceLE]); refine ⟨_, h, ?_⟩; (refine ⟨?_, ?_, ?_⟩ <;> (try simp only [go_sem, Nat.reduceBEq, Nat.reduceAdd, Nat.reduceLeDiff, Nat.reduceSub, Nat.reduceMul, Int.reduceToNat, Int.reduceLT, Int.reduceLE, St.good, noAny, distinct, SubSt, subE, subHp]) <;> (repeat' (first | exact trivial | rfl | apply And.intro | (simp; done)))); done)
    | (refine hK3 _ ?_; (refine ⟨?_, ?_, ?_⟩ <;> (try simp only [go_sem, Nat.reduceBEq, Nat.reduceAdd, Nat.reduceLeDiff, Nat.reduceSub, Nat.reduceMul, Int.reduceToNat, Int.reduceLT, Int.reduceLE, St.good, noAny, distinct, SubSt, subE, subHp, *]) <;> (repeat' (first | exact trivial | rfl | apply And.intro | (simp [*]; done)))); done)
    | (refine hK4 _ ?_; (try simp only [go_sem, Nat.reduceBEq, Nat.reduceAdd, Nat.reduceLeDiff, Nat.reduceSub, Nat.reduceMul, Int.reduceToNat, Int.reduceLT, Int.reduceLE]); refine ⟨_, h, ?_⟩; (refine ⟨?_, ?_, ?_⟩ <;> (try simp only [go_sem, Nat.reduceBEq, Nat.reduceAdd, Nat.reduceLeDiff, Nat.reduceSub, Nat.reduceMul, Int.reduceToNat, Int.reduceLT, Int.reduceLE, St.good, noAny, distinct, SubSt, subE, subHp]) <;> (repeat' (first | exact trivial | rfl | apply And.intro | (simp; done)))); done)
    | (refine hK5 _ ?_; (try simp only [go_sem, Nat.reduceBEq, Nat.reduceAdd, Nat.reduceLeDiff, Nat.reduceSub, Nat.reduceMul, Int.reduceToNat, Int.reduceLT, Int.reduceLE]); refine ⟨_, h, ?_⟩; (refine ⟨?_, ?_, ?_⟩ <;> (try simp only [go_sem, Nat.reduceBEq, Nat.reduceAdd, Nat.reduceLeDiff, Nat.reduceSub, Nat.reduceMul, Int.reduceToNat, Int.reduceLT, Int.reduceLE, St.good, noAny, distinct, SubSt, subE, subHp]) <;> (repeat' (first | exact trivial | rfl | apply And.intro | (simp; done)))); done)
    | (refine bfork (fun hc => ?_) (fun hc => ?_))
    | (refine ⟨_, getE_map (inb_toNat (by assumption)), ?_⟩; (first | rw [M.lok_compU] | rw [M.lokD_compU]); simp (maxSteps := 400000) only [go_sem, Nat.reduceBEq, Nat.reduceAdd, Nat.reduceLeDiff, Nat.reduceSub, Nat.reduceMul, Int.reduceToNat, Int.reduceLT, Int.reduceLE])
    | (refine And.intro (ltb_of (by assumption)) ?_)
    | fail)
theorem W_access_right : ∀ {a_ : GEstate} {x_ : GAccess} {y : Bool}, F_access_right a_ x_ = some y → ACall Try.prog 34 [GEstate.v a_, GAccess.v x_] [] (fun r H => r = .bool y ∧ H = []) :=
  fun hy => Wq_access_right _ _ (Q := fun z => z = _) ⟨_, hy, rfl⟩ fun z e => by subst e; exact ⟨rfl, rfl⟩

def F_access_Check_L1 (a_ : GEstate) (k153 : Int) (a154 : GAccess) (x152 : Int) : Option (Fl Int Int) :=
  grp ((decide (a154.Time < x152) || decide (1099511627776 < a154.Time))) fun b185 => bif b185 then some (.ex 34) else (F_access_right a_ a154).bind fun y186 => bif (!y186) then some (.ex 34) else some (.nx a154.Time)
def F_access_Check (a_ : GEstate) : Option Int :=
  (F_access_among a_.Places 1 16).bind fun y7 => grp (((!y7) || decide (120 < (a_.Events.length : Int)))) fun b8 => bif b8 then some 34 else (forL (F_access_Check_L1 a_) a_.Events 0 0).bind fun o => o.elim (fun x187 => some 0) (fun r188 => some r188)

/- leakresponse/access.Check -/
@[irreducible] def mg_access_Check_1 : List MOp := [⟨.fad 1 (.t 1), (some 11), (some (10, false))⟩,
    ⟨.ld none (.t 11), (some 12), (some (10, false))⟩,
    ⟨.len false (.t 12), (some 13), (some (10, false))⟩,
    ⟨.bin false .gtr (.t 13) (.c (.int .i64 120)), (some 14), (some (10, false))⟩,
    ⟨.pick (.t 10) (.c (.bool true)) (.t 14), (some 15), none⟩]
@[irreducible] def mg_access_Check_2 : List MOp := [⟨.fad 0 (.t 5), (some 28), (some (27, false))⟩,
    ⟨.ld none (.t 28), (some 29), (some (27, false))⟩,
    ⟨.bin false .gtr (.t 29) (.c (.int .i64 1099511627776)), (some 30), (some (27, false))⟩,
    ⟨.pick (.t 27) (.c (.bool true)) (.t 30), (some 31), none⟩]
@[irreducible] def mc_access_Check_L1 : MC :=
  (.seq (.reg [⟨.bin false .lss (.t 19) (.t 18), (some 20), none⟩])
  (.seq (.cond (.t 20)
    .skip
    (.exit 0))
  (.seq (.block 1
  (.seq (.reg [⟨.iad 7 (.t 17) (.t 19), (some 21), none⟩,
    ⟨.ld (some 7) (.t 21), (some 22), none⟩,
    ⟨.alloc [(.int .i64 0), (.int .i64 0), (.int .i64 0), (.int .i64 0), (.int .i64 0), (.int .i64 0), (.int .i64 0)], (some 5), none⟩,
    ⟨.st 7 (.t 5) (.t 22), none, none⟩])
  (.seq (.seq (.regI [.op ⟨.fad 0 (.t 5), (some 23), none⟩,
    .op ⟨.ld none (.t 23), (some 24), none⟩,
    .op ⟨.mv (.t 3), (some 25), none⟩,
    .op ⟨.bin false .lss (.t 24) (.t 25), (some 26), none⟩,
    .op ⟨.mv (.t 26), (some 27), none⟩,
    .grp mg_access_Check_2,
    .op ⟨.mv (.t 31), (some 32), none⟩,
    .op ⟨.ld (some 2) (.t 1), (some 33), (some (32, false))⟩,
    .op ⟨.ld (some 7) (.t 5), (some 34), (some (32, false))⟩,
    .op ⟨.call (.f 34) [(.t 33), (.t 34)] [] [], (some 35), (some (32, false))⟩,
    .op ⟨.not (.t 35), (some 36), (some (32, false))⟩,
    .op ⟨.pick (.t 32) (.c (.bool true)) (.t 36), (some 37), none⟩])
  (.cond (.t 37)
    (.seq (.reg [⟨.mv (.c (.int .i64 34)), (some 2), none⟩])
    .ret)
    .skip))
  (.note (.gc [1, 5, 17, 18, 19, 28, 29, 30, 33, 34, 35, 36]) (.reg [⟨.fad 0 (.t 5), (some 38), none⟩,
    ⟨.ld none (.t 38), (some 39), none⟩,
    ⟨.mv (.t 39), (some 3), none⟩])))))
  (.reg [⟨.bin true .add (.t 19) (.c (.int .i64 1)), (some 40), none⟩,
    ⟨.mv (.t 40), (some 19), none⟩]))))
def mc_access_Check : MC :=
  (.seq (.reg [⟨.box (.t 0), (some 1), none⟩,
    ⟨.mv (.c (.int .i64 0)), (some 2), none⟩])
  (.seq (.seq (.regI [.op ⟨.fad 0 (.t 1), (some 6), none⟩,
    .op ⟨.ld none (.t 6), (some 7), none⟩,
    .op ⟨.call (.f 33) [(.t 7), (.c (.int .i64 1)), (.c (.int .i64 16))] [] [], (some 8), none⟩,
    .op ⟨.not (.t 8), (some 9), none⟩,
    .op ⟨.mv (.t 9), (some 10), none⟩,
    .grp mg_access_Check_1])
  (.cond (.t 15)
    (.seq (.reg [⟨.mv (.c (.int .i64 34)), (some 2), none⟩])
    .ret)
    .skip))
  (.seq (.reg [⟨.mv (.c (.int .i64 0)), (some 3), none⟩])
  (.seq (.seq (.note (.gc [1, 3, 28, 29, 30, 33, 34, 35, 36]) (.reg [⟨.fad 1 (.t 1), (some 16), none⟩,
    ⟨.ld none (.t 16), (some 17), none⟩,
    ⟨.len false (.t 17), (some 18), none⟩,
    ⟨.mv (.c (.int .i64 0)), (some 19), none⟩]))
  (.block 0
  (.loop mc_access_Check_L1)))
  (.seq (.reg [⟨.mv (.c (.int .i64 0)), (some 2), none⟩])
  .ret)))))
theorem ok_access_Check : mc_access_Check.ok Try.prog Try.f15.ntmps (Try.f15.body.getD .skip) = true := by kernel_rfl

set_option maxHeartbeats 2000000 in
theorem Wq_access_Check (a_ : GEstate) {Q : Int → Prop} {Q' : V → Heap → Prop} (h : Ok (F_access_Check a_) Q) (hQ : ∀ z, Q z → Q' (.int .i64 z) []) : ACall Try.prog 15 [GEstate.v a_] [] Q' := by
  refine acall_machN [] [] [.t 2] Try.func15 rfl (by kernel_rfl) ok_access_Check (by kernel_rfl) rfl rfl fun M hf => ?_
  clear hf
  unfold F_access_Check at h
  unfold mc_access_Check
  (try simp (maxSteps := 400000) only [go_sem, Nat.reduceBEq, Nat.reduceAdd, Nat.reduceLeDiff, Nat.reduceSub, Nat.reduceMul, Int.reduceToNat, Int.reduceLT, Int.reduceLE] at h)
  simp (maxSteps := 400000) only [go_sem, Nat.reduceBEq, Nat.reduceAdd, Nat.reduceLeDiff, Nat.reduceSub, Nat.reduceMul, Int.reduceToNat, Int.reduceLT, Int.reduceLE]
  repeat' (first
    | (exact hQ _ h)
    | (have hq := hQ _ h; simp (maxSteps := 400000) only [go_sem, Nat.reduceBEq, Nat.reduceAdd, Nat.reduceLeDiff, Nat.reduceSub, Nat.reduceMul, Int.reduceToNat, Int.reduceLT, Int.reduceLE] at hq; exact hq)
    | (refine oblg h ?_; clear h; intro hc h)
    | (refine fork h ?_ ?_ <;> clear h <;> intro hc h)
    | (refine forkS h ?_ ?_ <;> clear h <;> intro hc h)
    | (refine And.intro (chkD_of rfl) ?_)
    | (obtain ⟨y, hy, h⟩ := h; have hw := W_access_among hy; (try simp (maxSteps := 400000) only [go_sem, Nat.reduceBEq, Nat.reduceAdd, Nat.reduceLeDiff, Nat.reduceSub, Nat.reduceMul, Int.reduceToNat, Int.reduceLT, Int.reduceLE] at hw); refine sCall_of hw rfl rfl ?_; clear hw; clear hy; rw [M.lok_eq]; simp (maxSteps := 400000) only [go_sem, Nat.reduceBEq, Nat.reduceAdd, Nat.reduceLeDiff, Nat.reduceSub, Nat.reduceMul, Int.reduceToNat, Int.reduceLT, Int.reduceLE])
    | (obtain ⟨y, hy, h⟩ := h; have hw := W_access_among hy; (try simp (maxSteps := 400000) only [go_sem, Nat.reduceBEq, Nat.reduceAdd, Nat.reduceLeDiff, Nat.reduceSub, Nat.reduceMul, Int.reduceToNat, Int.reduceLT, Int.reduceLE] at hw); refine sCallD_of hw rfl rfl ?_; clear hw; clear hy; rw [M.lokD_eq]; simp (maxSteps := 400000) only [go_sem, Nat.reduceBEq, Nat.reduceAdd, Nat.reduceLeDiff, Nat.reduceSub, Nat.reduceMul, Int.reduceToNat, Int.reduceLT, Int.reduceLE])
    | (obtain ⟨y, hy, h⟩ := h; have hw := W_access_right hy; (try simp (maxSteps := 400000) only [go_sem, Nat.reduceBEq, Nat.reduceAdd, Nat.reduceLeDiff, Nat.reduceSub, Nat.reduceMul, Int.reduceToNat, Int.reduceLT, Int.reduceLE] at hw); refine sCall_of hw rfl rfl ?_; clear hw; clear hy; rw [M.lok_eq]; simp (maxSteps := 400000) only [go_sem, Nat.reduceBEq, Nat.reduceAdd, Nat.reduceLeDiff, Nat.reduceSub, Nat.reduceMul, Int.reduceToNat, Int.reduceLT, Int.reduceLE])
    | (obtain ⟨y, hy, h⟩ := h; have hw := W_access_right hy; (try simp (maxSteps := 400000) only [go_sem, Nat.reduceBEq, Nat.reduceAdd, Nat.reduceLeDiff, Nat.reduceSub, Nat.reduceMul, Int.reduceToNat, Int.reduceLT, Int.reduceLE] at hw); refine sCallD_of hw rfl rfl ?_; clear hw; clear hy; rw [M.lokD_eq]; simp (maxSteps := 400000) only [go_sem, Nat.reduceBEq, Nat.reduceAdd, Nat.reduceLeDiff, Nat.reduceSub, Nat.reduceMul, Int.reduceToNat, Int.reduceLT, Int.reduceLE])
    | (refine M.gv1 (ms := mg_access_Check_2) 31 [28, 29, 30] h ?_ ?_ <;> first
       | (clear h; intro K hK1; unfold mg_access_Check_2; simp (maxSteps := 400000) only [go_sem, Nat.reduceBEq, Nat.reduceAdd, Nat.reduceLeDiff, Nat.reduceSub, Nat.reduceMul, Int.reduceToNat, Int.reduceLT, Int.reduceLE])
       | (clear h; intro b h; (try simp (maxSteps := 400000) only [go_sem, Nat.reduceBEq, Nat.reduceAdd, Nat.reduceLeDiff, Nat.reduceSub, Nat.reduceMul, Int.reduceToNat, Int.reduceLT, Int.reduceLE] at h); simp (maxSteps := 400000) only [go_sem, Nat.reduceBEq, Nat.reduceAdd, Nat.reduceLeDiff, Nat.reduceSub, Nat.reduceMul, Int.reduceToNat, Int.reduceLT, Int.reduceLE])
       | fail)
    | (refine M.for1 (b := mc_access_Check_L1) 19 [1, 17, 18] [1] (fun x => [(3, .int .i64 x)]) (fun x => []) [] h ?_ ?_ ?_ <;> first
       | (clear h; intro k a x Qn K hK2 hkN2 ha2 h hf; have hl := fact_int (factsE_find (n := 18) hf.1 rfl); clear hf; have hkd := decide_eq_true (Int.ofNat_lt.2 hkN2); have hkB2 := inb_iff.2 ⟨Int.natCast_nonneg k, Int.ofNat_lt.2 hkN2⟩; have hkI2 : in64 ((k : Int) + 1) = true := in64_iff.2 ⟨by omega, by (try simp only [List.length_cons, List.length_nil] at hkN2); omega⟩; unfold F_access_Check_L1 at h; unfold mc_access_Check_L1; (try simp (maxSteps := 400000) only [go_sem, Nat.reduceBEq, Nat.reduceAdd, Nat.reduceLeDiff, Nat.reduceSub, Nat.reduceMul, Int.reduceToNat, Int.reduceLT, Int.reduceLE] at h); simp only [go_sem, Nat.reduceBEq, Nat.reduceAdd, Nat.reduceLeDiff, Nat.reduceSub, Nat.reduceMul, Int.reduceToNat, Int.reduceLT, Int.reduceLE, ha2, hkd, hkN2, hkB2, hkI2])
       | (clear h; intro x K h; replace h := And.left (And.intro h trivial); unfold mc_access_Check_L1; (try simp (maxSteps := 400000) only [go_sem, Nat.reduceBEq, Nat.reduceAdd, Nat.reduceLeDiff, Nat.reduceSub, Nat.reduceMul, Int.reduceToNat, Int.reduceLT, Int.reduceLE] at h); simp (maxSteps := 400000) only [go_sem, Nat.reduceBEq, Nat.reduceAdd, Nat.reduceLeDiff, Nat.reduceSub, Nat.reduceMul, Int.reduceToNat, Int.reduceLT, Int.reduceLE])
       | (clear h; (try simp only [go_sem, Nat.reduceBEq, Nat.reduceAdd, Nat.reduceLeDiff, Nat.reduceSub, Nat.reduceMul, Int.reduceToNat, Int.reduceLT, Int.reduceLE]); (refine ⟨?_, ?_, ?_⟩ <;> (try simp only [go_sem, Nat.reduceBEq, Nat.reduceAdd, Nat.reduceLeDiff, Nat.reduceSub, Nat.reduceMul, Int.reduceToNat, Int.reduceLT, Int.reduceLE, St.good, noAny, distinct, SubSt, subE, subHp]) <;> (repeat' (first | exact trivial | rfl | apply And.intro | (simp; done)))); done)
       | fail)
    | (refine M.gv1 (ms := mg_access_Check_1) 15 [11, 12, 13, 14] h ?_ ?_ <;> first
       | (clear h; intro K hK3; unfold mg_access_Check_1; simp (maxSteps := 400000) only [go_sem, Nat.reduceBEq, Nat.reduceAdd, Nat.reduceLeDiff, Nat.reduceSub, Nat.reduceMul, Int.reduceToNat, Int.reduceLT, Int.reduceLE])
       | (clear h; intro b h; (try simp (maxSteps := 400000) only [go_sem, Nat.reduceBEq, Nat.reduceAdd, Nat.reduceLeDiff, Nat.reduceSub, Nat.reduceMul, Int.reduceToNat, Int.reduceLT, Int.reduceLE] at h); simp (maxSteps := 400000) only [go_sem, Nat.reduceBEq, Nat.reduceAdd, Nat.reduceLeDiff, Nat.reduceSub, Nat.reduceMul, Int.reduceToNat, Int.reduceLT, Int.reduceLE])
       | fail)
    | (refine And.intro hkI2 ?_)
    | (refine And.intro hkN2 ?_)
    | (refine And.intro hkB2 ?_)
    | (simp only [ha2])
    | (refine hK1 _ ?_; (refine ⟨?_, ?_, ?_⟩ <;> (try simp only [go_sem, Nat.reduceBEq, Nat.reduceAdd, Nat.reduceLeDiff, Nat.reduceSub, Nat.reduceMul, Int.reduceToNat, Int.reduceLT, Int.reduceLE, St.good, noAny, distinct, SubSt, subE, subHp, *]) <;> (repeat' (first | exact trivial | rfl | apply And.intro | (simp [*]; done)))); done)
    | (refine hK2 _ ?_; (try simp only [go_sem, Nat.reduceBEq, Nat.reduceAdd, Nat.reduceLeDiff, Nat.reduceSub, Nat.reduceMul, Int.reduceToNat, Int.reduceLT, Int.reduceLE]); refine ⟨_, h, ?_⟩; (refine ⟨?_, ?_, ?_⟩ <;> (try simp only [go_sem, Nat.reduceBEq, Nat.reduceAdd, Nat.reduceLeDiff, Nat.reduceSub, Nat.reduceMul, Int.reduceToNat, Int.reduceLT, Int.reduceLE, St.good, noAny, distinct, SubSt, subE, subHp]) <;> (repeat' (first | exact trivial | rfl | apply And.intro | (simp; done)))); done)
    | (refine hK3 _ ?_; (refine ⟨?_, ?_, ?_⟩ <;> (try simp only [go_sem, Nat.reduceBEq, Nat.reduceAdd, Nat.reduceLeDiff, Nat.reduceSub, Nat.reduceMul, Int.reduceToNat, Int.reduceLT, Int.reduceLE, St.good, noAny, distinct, SubSt, subE, subHp, *]) <;> (repeat' (first | exact trivial | rfl | apply And.intro | (simp [*]; done)))); done)
    | (refine bfork (fun hc => ?_) (fun hc => ?_))
    | (refine ⟨_, getE_map (inb_toNat (by assumption)), ?_⟩; (first | rw [M.lok_compU] | rw [M.lokD_compU]); simp (maxSteps := 400000) only [go_sem, Nat.reduceBEq, Nat.reduceAdd, Nat.reduceLeDiff, Nat.reduceSub, Nat.reduceMul, Int.reduceToNat, Int.reduceLT, Int.reduceLE])
    | (refine And.intro (ltb_of (by assumption)) ?_)
    | fail)
theorem W_access_Check : ∀ {a_ : GEstate} {y : Int}, F_access_Check a_ = some y → ACall Try.prog 15 [GEstate.v a_] [] (fun r H => r = .int .i64 y ∧ H = []) :=
  fun hy => Wq_access_Check _ (Q := fun z => z = _) ⟨_, hy, rfl⟩ fun z e => by subst e; exact ⟨rfl, rfl⟩

def F_access_known (a_ : GEstate) (place_ : Int) : Option Bool :=
  (F_access_Check a_).bind fun y5 => jn (α := Bool) (bif decide (y5 = 0) then (F_access_Place a_ place_).bind fun y7 => some y7 else some false) fun j8 => some j8

/- leakresponse/access.known -/
@[irreducible] def mg_access_known_1 : List MOp := [⟨.ld (some 2) (.t 2), (some 9), (some (8, true))⟩,
    ⟨.mv (.t 1), (some 10), (some (8, true))⟩,
    ⟨.call (.f 40) [(.t 9), (.t 10)] [] [], (some 11), (some (8, true))⟩,
    ⟨.pick (.t 8) (.t 11) (.c (.bool false)), (some 12), none⟩]
def mc_access_known : MC :=
  (.seq (.reg [⟨.box (.t 0), (some 2), none⟩,
    ⟨.mv (.c (.bool false)), (some 4), none⟩])
  (.seq (.regI [.op ⟨.ld (some 2) (.t 2), (some 5), none⟩,
    .op ⟨.call (.f 15) [(.t 5)] [] [], (some 6), none⟩,
    .op ⟨.bin false .eql (.t 6) (.c (.int .i64 0)), (some 7), none⟩,
    .op ⟨.mv (.t 7), (some 8), none⟩,
    .grp mg_access_known_1,
    .op ⟨.mv (.t 12), (some 4), none⟩])
  .ret))
theorem ok_access_known : mc_access_known.ok Try.prog Try.f29.ntmps (Try.f29.body.getD .skip) = true := by kernel_rfl

set_option maxHeartbeats 2000000 in
theorem Wq_access_known (a_ : GEstate) (place_ : Int) {Q : Bool → Prop} {Q' : V → Heap → Prop} (h : Ok (F_access_known a_ place_) Q) (hQ : ∀ z, Q z → Q' (.bool z) []) : ACall Try.prog 29 [GEstate.v a_, .int .i64 place_] [] Q' := by
  refine acall_machN [] [] [.t 4] Try.func29 rfl (by kernel_rfl) ok_access_known (by kernel_rfl) rfl rfl fun M hf => ?_
  clear hf
  unfold F_access_known at h
  unfold mc_access_known
  (try simp (maxSteps := 400000) only [go_sem, Nat.reduceBEq, Nat.reduceAdd, Nat.reduceLeDiff, Nat.reduceSub, Nat.reduceMul, Int.reduceToNat, Int.reduceLT, Int.reduceLE] at h)
  simp (maxSteps := 400000) only [go_sem, Nat.reduceBEq, Nat.reduceAdd, Nat.reduceLeDiff, Nat.reduceSub, Nat.reduceMul, Int.reduceToNat, Int.reduceLT, Int.reduceLE]
  repeat' (first
    | (exact hQ _ h)
    | (have hq := hQ _ h; simp (maxSteps := 400000) only [go_sem, Nat.reduceBEq, Nat.reduceAdd, Nat.reduceLeDiff, Nat.reduceSub, Nat.reduceMul, Int.reduceToNat, Int.reduceLT, Int.reduceLE] at hq; exact hq)
    | (refine oblg h ?_; clear h; intro hc h)
    | (refine fork h ?_ ?_ <;> clear h <;> intro hc h)
    | (refine forkS h ?_ ?_ <;> clear h <;> intro hc h)
    | (refine And.intro (chkD_of rfl) ?_)
    | (obtain ⟨y, hy, h⟩ := h; have hw := W_access_Check hy; (try simp (maxSteps := 400000) only [go_sem, Nat.reduceBEq, Nat.reduceAdd, Nat.reduceLeDiff, Nat.reduceSub, Nat.reduceMul, Int.reduceToNat, Int.reduceLT, Int.reduceLE] at hw); refine sCall_of hw rfl rfl ?_; clear hw; clear hy; rw [M.lok_eq]; simp (maxSteps := 400000) only [go_sem, Nat.reduceBEq, Nat.reduceAdd, Nat.reduceLeDiff, Nat.reduceSub, Nat.reduceMul, Int.reduceToNat, Int.reduceLT, Int.reduceLE])
    | (obtain ⟨y, hy, h⟩ := h; have hw := W_access_Check hy; (try simp (maxSteps := 400000) only [go_sem, Nat.reduceBEq, Nat.reduceAdd, Nat.reduceLeDiff, Nat.reduceSub, Nat.reduceMul, Int.reduceToNat, Int.reduceLT, Int.reduceLE] at hw); refine sCallD_of hw rfl rfl ?_; clear hw; clear hy; rw [M.lokD_eq]; simp (maxSteps := 400000) only [go_sem, Nat.reduceBEq, Nat.reduceAdd, Nat.reduceLeDiff, Nat.reduceSub, Nat.reduceMul, Int.reduceToNat, Int.reduceLT, Int.reduceLE])
    | (obtain ⟨y, hy, h⟩ := h; have hw := W_access_Place hy; (try simp (maxSteps := 400000) only [go_sem, Nat.reduceBEq, Nat.reduceAdd, Nat.reduceLeDiff, Nat.reduceSub, Nat.reduceMul, Int.reduceToNat, Int.reduceLT, Int.reduceLE] at hw); refine sCall_of hw rfl rfl ?_; clear hw; clear hy; rw [M.lok_eq]; simp (maxSteps := 400000) only [go_sem, Nat.reduceBEq, Nat.reduceAdd, Nat.reduceLeDiff, Nat.reduceSub, Nat.reduceMul, Int.reduceToNat, Int.reduceLT, Int.reduceLE])
    | (obtain ⟨y, hy, h⟩ := h; have hw := W_access_Place hy; (try simp (maxSteps := 400000) only [go_sem, Nat.reduceBEq, Nat.reduceAdd, Nat.reduceLeDiff, Nat.reduceSub, Nat.reduceMul, Int.reduceToNat, Int.reduceLT, Int.reduceLE] at hw); refine sCallD_of hw rfl rfl ?_; clear hw; clear hy; rw [M.lokD_eq]; simp (maxSteps := 400000) only [go_sem, Nat.reduceBEq, Nat.reduceAdd, Nat.reduceLeDiff, Nat.reduceSub, Nat.reduceMul, Int.reduceToNat, Int.reduceLT, Int.reduceLE])
    | (refine M.gj1 (ms := mg_access_known_1) [4] [] (fun y => [(12, .bool y)]) (fun y => []) h ?_ ?_ <;> first
       | (clear h; intro Qn K hK1 h; unfold mg_access_known_1; (try simp (maxSteps := 400000) only [go_sem, Nat.reduceBEq, Nat.reduceAdd, Nat.reduceLeDiff, Nat.reduceSub, Nat.reduceMul, Int.reduceToNat, Int.reduceLT, Int.reduceLE] at h); simp (maxSteps := 400000) only [go_sem, Nat.reduceBEq, Nat.reduceAdd, Nat.reduceLeDiff, Nat.reduceSub, Nat.reduceMul, Int.reduceToNat, Int.reduceLT, Int.reduceLE])
       | (clear h; intro y h; (try simp (maxSteps := 400000) only [go_sem, Nat.reduceBEq, Nat.reduceAdd, Nat.reduceLeDiff, Nat.reduceSub, Nat.reduceMul, Int.reduceToNat, Int.reduceLT, Int.reduceLE] at h); simp (maxSteps := 400000) only [go_sem, Nat.reduceBEq, Nat.reduceAdd, Nat.reduceLeDiff, Nat.reduceSub, Nat.reduceMul, Int.reduceToNat, Int.reduceLT, Int.reduceLE])
       | fail)
    | (refine hK1 _ ?_; (try simp only [go_sem, Nat.reduceBEq, Nat.reduceAdd, Nat.reduceLeDiff, Nat.reduceSub, Nat.reduceMul, Int.reduceToNat, Int.reduceLT, Int.reduceLE]); refine ⟨_, h, ?_⟩; (refine ⟨?_, ?_, ?_⟩ <;> (try simp only [go_sem, Nat.reduceBEq, Nat.reduceAdd, Nat.reduceLeDiff, Nat.reduceSub, Nat.reduceMul, Int.reduceToNat, Int.reduceLT, Int.reduceLE, St.good, noAny, distinct, SubSt, subE, subHp]) <;> (repeat' (first | exact trivial | rfl | apply And.intro | (simp; done)))); done)
    | (refine ⟨_, getE_map (inb_toNat (by assumption)), ?_⟩; (first | rw [M.lok_compU] | rw [M.lokD_compU]); simp (maxSteps := 400000) only [go_sem, Nat.reduceBEq, Nat.reduceAdd, Nat.reduceLeDiff, Nat.reduceSub, Nat.reduceMul, Int.reduceToNat, Int.reduceLT, Int.reduceLE])
    | (refine And.intro (ltb_of (by assumption)) ?_)
    | fail)
theorem W_access_known : ∀ {a_ : GEstate} {place_ : Int} {y : Bool}, F_access_known a_ place_ = some y → ACall Try.prog 29 [GEstate.v a_, .int .i64 place_] [] (fun r H => r = .bool y ∧ H = []) :=
  fun hy => Wq_access_known _ _ (Q := fun z => z = _) ⟨_, hy, rfl⟩ fun z e => by subst e; exact ⟨rfl, rfl⟩

def F_access_Linked_L1 (place_ : Int) (t_ : Int) (k28 : Int) (a23 : Int × GAccess) (x22 : Unit) : Option (Fl Unit (Int × Bool)) :=
  grp ((decide (t_ < a23.2.Time) || (!decide (a23.2.Place = place_)))) fun b30 => bif b30 then some (.nx ()) else bif decide (a23.2.Kind = 4) then some (.ex (0, false)) else grp ((decide (a23.2.Kind = 3) && decide (t_ < a23.2.Until))) fun b32 => bif b32 then some (.ex (a23.1, true)) else some (.nx ())
def F_access_Linked (a_ : GEstate) (place_ : Int) (t_ : Int) : Option (Int × Bool) :=
  (F_access_known a_ place_).bind fun y4 => bif (!y4) then some (0, false) else (backF a_.Events).bind fun y21 => (forL (F_access_Linked_L1 place_ t_) (revp a_.Events) 0 ()).bind fun o => o.elim (fun x33 => some (0, false)) (fun r34 => some r34)

/- leakresponse/access.Linked -/
@[irreducible] def mg_access_Linked_1 : List MOp := [⟨.fad 2 (.t 9), (some 25), (some (24, false))⟩,
    ⟨.ld none (.t 25), (some 26), (some (24, false))⟩,
    ⟨.ld none (.t 4), (some 27), (some (24, false))⟩,
    ⟨.bin false .neq (.t 26) (.t 27), (some 28), (some (24, false))⟩,
    ⟨.pick (.t 24) (.c (.bool true)) (.t 28), (some 29), none⟩]
@[irreducible] def mg_access_Linked_2 : List MOp := [⟨.fad 4 (.t 9), (some 39), (some (38, true))⟩,
        ⟨.ld none (.t 39), (some 40), (some (38, true))⟩,
        ⟨.ld none (.t 5), (some 41), (some (38, true))⟩,
        ⟨.bin false .gtr (.t 40) (.t 41), (some 42), (some (38, true))⟩,
        ⟨.pick (.t 38) (.t 42) (.c (.bool false)), (some 43), none⟩]
@[irreducible] def mc_access_Linked_R1 : MC :=
  (.block 1
  (.block 2
  (.seq (.note (.gc [4, 5, 6, 7, 8, 9, 25, 26, 27, 28, 39, 40, 41, 42]) (.regI [.op ⟨.fad 0 (.t 9), (some 20), none⟩,
    .op ⟨.ld none (.t 20), (some 21), none⟩,
    .op ⟨.ld none (.t 5), (some 22), none⟩,
    .op ⟨.bin false .gtr (.t 21) (.t 22), (some 23), none⟩,
    .op ⟨.mv (.t 23), (some 24), none⟩,
    .grp mg_access_Linked_1,
    .op ⟨.mv (.t 29), (some 19), none⟩]))
  (.cond (.t 19)
    .skip
    (.seq (.note (.gc [5, 6, 7, 8, 9, 39, 40, 41, 42]) (.reg [⟨.fad 1 (.t 9), (some 31), none⟩,
      ⟨.ld none (.t 31), (some 32), none⟩,
      ⟨.bin false .eql (.t 32) (.c (.int .i64 4)), (some 33), none⟩,
      ⟨.mv (.t 33), (some 30), none⟩]))
    (.cond (.t 30)
      (.seq (.reg [⟨.st 1 (.t 6) (.c (.int .i64 0)), none, none⟩,
        ⟨.st 1 (.t 7) (.c (.bool false)), none, none⟩])
      .ret)
      (.seq (.regI [.op ⟨.fad 1 (.t 9), (some 35), none⟩,
        .op ⟨.ld none (.t 35), (some 36), none⟩,
        .op ⟨.bin false .eql (.t 36) (.c (.int .i64 3)), (some 37), none⟩,
        .op ⟨.mv (.t 37), (some 38), none⟩,
        .grp mg_access_Linked_2,
        .op ⟨.mv (.t 43), (some 34), none⟩])
      (.cond (.t 34)
        (.seq (.note (.gc [6, 7, 8]) (.reg [⟨.mv (.t 8), (some 44), none⟩,
          ⟨.st 1 (.t 6) (.t 44), none, none⟩,
          ⟨.st 1 (.t 7) (.c (.bool true)), none, none⟩]))
        .ret)
        .skip))))))))
def mc_access_Linked : MC :=
  (.seq (.reg [⟨.box (.t 0), (some 3), none⟩,
    ⟨.box (.t 1), (some 4), none⟩,
    ⟨.box (.t 2), (some 5), none⟩,
    ⟨.alloc [(.int .i64 0)], (some 6), none⟩,
    ⟨.alloc [(.bool false)], (some 7), none⟩])
  (.seq (.seq (.reg [⟨.ld (some 2) (.t 3), (some 10), none⟩,
    ⟨.ld none (.t 4), (some 11), none⟩,
    ⟨.call (.f 29) [(.t 10), (.t 11)] [] [], (some 12), none⟩,
    ⟨.not (.t 12), (some 13), none⟩])
  (.cond (.t 13)
    (.seq (.reg [⟨.st 1 (.t 6) (.c (.int .i64 0)), none, none⟩,
      ⟨.st 1 (.t 7) (.c (.bool false)), none, none⟩])
    .ret)
    .skip))
  (.seq (.seq (.reg [⟨.fad 1 (.t 3), (some 14), none⟩,
    ⟨.ld none (.t 14), (some 15), none⟩,
    ⟨.call (.f 32) [(.t 15)] [] [], (some 16), none⟩])
  (.block 0
  (.rngF (.t 16) [17, 18] (.seq (.reg [⟨.mv (.t 17), (some 8), none⟩])
  (.reg [⟨.alloc [(.int .i64 0), (.int .i64 0), (.int .i64 0), (.int .i64 0), (.int .i64 0), (.int .i64 0), (.int .i64 0)], (some 9), none⟩,
    ⟨.st 7 (.t 9) (.t 18), none, none⟩])) mc_access_Linked_R1)))
  (.seq (.reg [⟨.st 1 (.t 6) (.c (.int .i64 0)), none, none⟩,
    ⟨.st 1 (.t 7) (.c (.bool false)), none, none⟩])
  .ret))))
theorem ok_access_Linked : mc_access_Linked.ok Try.prog Try.f14.ntmps (Try.f14.body.getD .skip) = true := by kernel_rfl

set_option maxHeartbeats 2000000 in
theorem Wq_access_Linked (a_ : GEstate) (place_ : Int) (t_ : Int) {Q : Int × Bool → Prop} {Q' : V → Heap → Prop} (h : Ok (F_access_Linked a_ place_ t_) Q) (hQ : ∀ z, Q z → Q' (.tup [.int .i64 z.1, .bool z.2]) []) : ACall Try.prog 14 [GEstate.v a_, .int .i64 place_, .int .i64 t_] [] Q' := by
  refine acall_machN [] [] [.c 6 none, .c 7 none] Try.func14 rfl (by kernel_rfl) ok_access_Linked (by kernel_rfl) rfl rfl fun M hf => ?_
  clear hf
  unfold F_access_Linked at h
  unfold mc_access_Linked
  (try simp (maxSteps := 400000) only [go_sem, Nat.reduceBEq, Nat.reduceAdd, Nat.reduceLeDiff, Nat.reduceSub, Nat.reduceMul, Int.reduceToNat, Int.reduceLT, Int.reduceLE] at h)
  simp (maxSteps := 400000) only [go_sem, Nat.reduceBEq, Nat.reduceAdd, Nat.reduceLeDiff, Nat.reduceSub, Nat.reduceMul, Int.reduceToNat, Int.reduceLT, Int.reduceLE]
  repeat' (first
    | (exact hQ _ h)
    | (have hq := hQ _ h; simp (maxSteps := 400000) only [go_sem, Nat.reduceBEq, Nat.reduceAdd, Nat.reduceLeDiff, Nat.reduceSub, Nat.reduceMul, Int.reduceToNat, Int.reduceLT, Int.reduceLE] at hq; exact hq)
    | (refine oblg h ?_; clear h; intro hc h)
    | (refine fork h ?_ ?_ <;> clear h <;> intro hc h)
    | (refine forkS h ?_ ?_ <;> clear h <;> intro hc h)
    | (refine And.intro (chkD_of rfl) ?_)
    | (obtain ⟨y, hy, h⟩ := h; have hw := W_access_known hy; (try simp (maxSteps := 400000) only [go_sem, Nat.reduceBEq, Nat.reduceAdd, Nat.reduceLeDiff, Nat.reduceSub, Nat.reduceMul, Int.reduceToNat, Int.reduceLT, Int.reduceLE] at hw); refine sCall_of hw rfl rfl ?_; clear hw; clear hy; rw [M.lok_eq]; simp (maxSteps := 400000) only [go_sem, Nat.reduceBEq, Nat.reduceAdd, Nat.reduceLeDiff, Nat.reduceSub, Nat.reduceMul, Int.reduceToNat, Int.reduceLT, Int.reduceLE])
    | (obtain ⟨y, hy, h⟩ := h; have hw := W_access_known hy; (try simp (maxSteps := 400000) only [go_sem, Nat.reduceBEq, Nat.reduceAdd, Nat.reduceLeDiff, Nat.reduceSub, Nat.reduceMul, Int.reduceToNat, Int.reduceLT, Int.reduceLE] at hw); refine sCallD_of hw rfl rfl ?_; clear hw; clear hy; rw [M.lokD_eq]; simp (maxSteps := 400000) only [go_sem, Nat.reduceBEq, Nat.reduceAdd, Nat.reduceLeDiff, Nat.reduceSub, Nat.reduceMul, Int.reduceToNat, Int.reduceLT, Int.reduceLE])
    | (obtain ⟨y, hy, h⟩ := h; have hw := W_backward (f := GAccess.v) hy; (try simp (maxSteps := 400000) only [go_sem, Nat.reduceBEq, Nat.reduceAdd, Nat.reduceLeDiff, Nat.reduceSub, Nat.reduceMul, Int.reduceToNat, Int.reduceLT, Int.reduceLE] at hw); refine sCall_of hw rfl rfl ?_; clear hw; clear hy; rw [M.lok_eq]; simp (maxSteps := 400000) only [go_sem, Nat.reduceBEq, Nat.reduceAdd, Nat.reduceLeDiff, Nat.reduceSub, Nat.reduceMul, Int.reduceToNat, Int.reduceLT, Int.reduceLE])
    | (obtain ⟨y, hy, h⟩ := h; have hw := W_backward (f := GAccess.v) hy; (try simp (maxSteps := 400000) only [go_sem, Nat.reduceBEq, Nat.reduceAdd, Nat.reduceLeDiff, Nat.reduceSub, Nat.reduceMul, Int.reduceToNat, Int.reduceLT, Int.reduceLE] at hw); refine sCallD_of hw rfl rfl ?_; clear hw; clear hy; rw [M.lokD_eq]; simp (maxSteps := 400000) only [go_sem, Nat.reduceBEq, Nat.reduceAdd, Nat.reduceLeDiff, Nat.reduceSub, Nat.reduceMul, Int.reduceToNat, Int.reduceLT, Int.reduceLE])
    | (refine M.gv1 (ms := mg_access_Linked_2) 43 [39, 40, 41, 42] h ?_ ?_ <;> first
       | (clear h; intro K hK1; unfold mg_access_Linked_2; simp (maxSteps := 400000) only [go_sem, Nat.reduceBEq, Nat.reduceAdd, Nat.reduceLeDiff, Nat.reduceSub, Nat.reduceMul, Int.reduceToNat, Int.reduceLT, Int.reduceLE])
       | (clear h; intro b h; (try simp (maxSteps := 400000) only [go_sem, Nat.reduceBEq, Nat.reduceAdd, Nat.reduceLeDiff, Nat.reduceSub, Nat.reduceMul, Int.reduceToNat, Int.reduceLT, Int.reduceLE] at h); simp (maxSteps := 400000) only [go_sem, Nat.reduceBEq, Nat.reduceAdd, Nat.reduceLeDiff, Nat.reduceSub, Nat.reduceMul, Int.reduceToNat, Int.reduceLT, Int.reduceLE])
       | fail)
    | (refine M.gv1 (ms := mg_access_Linked_1) 29 [25, 26, 27, 28] h ?_ ?_ <;> first
       | (clear h; intro K hK2; unfold mg_access_Linked_1; simp (maxSteps := 400000) only [go_sem, Nat.reduceBEq, Nat.reduceAdd, Nat.reduceLeDiff, Nat.reduceSub, Nat.reduceMul, Int.reduceToNat, Int.reduceLT, Int.reduceLE])
       | (clear h; intro b h; (try simp (maxSteps := 400000) only [go_sem, Nat.reduceBEq, Nat.reduceAdd, Nat.reduceLeDiff, Nat.reduceSub, Nat.reduceMul, Int.reduceToNat, Int.reduceLT, Int.reduceLE] at h); simp (maxSteps := 400000) only [go_sem, Nat.reduceBEq, Nat.reduceAdd, Nat.reduceLeDiff, Nat.reduceSub, Nat.reduceMul, Int.reduceToNat, Int.reduceLT, Int.reduceLE])
       | fail)
    | (refine M.rfor (b := mc_access_Linked_R1) (enc := fun a => [.int .i64 a.1, GAccess.v a.2]) [3, 4, 5, 6, 7] [3, 7, 6, 5, 4] (fun x => []) [] h rfl (W_itback fun a => ⟨_, rfl, rfl, rfl⟩) rfl (fun a => ⟨rfl, rfl⟩) ?_ ?_ rfl ?_ <;> first
       | (clear h; intro k a x Qn K hK3 hkN3 h hf; clear hf; unfold F_access_Linked_L1 at h; unfold mc_access_Linked_R1; (try simp (maxSteps := 400000) only [go_sem, Nat.reduceBEq, Nat.reduceAdd, Nat.reduceLeDiff, Nat.reduceSub, Nat.reduceMul, Int.reduceToNat, Int.reduceLT, Int.reduceLE] at h); simp (maxSteps := 400000) only [go_sem, Nat.reduceBEq, Nat.reduceAdd, Nat.reduceLeDiff, Nat.reduceSub, Nat.reduceMul, Int.reduceToNat, Int.reduceLT, Int.reduceLE])
       | (clear h; intro x h; (try simp (maxSteps := 400000) only [go_sem, Nat.reduceBEq, Nat.reduceAdd, Nat.reduceLeDiff, Nat.reduceSub, Nat.reduceMul, Int.reduceToNat, Int.reduceLT, Int.reduceLE] at h); simp (maxSteps := 400000) only [go_sem, Nat.reduceBEq, Nat.reduceAdd, Nat.reduceLeDiff, Nat.reduceSub, Nat.reduceMul, Int.reduceToNat, Int.reduceLT, Int.reduceLE])
       | (clear h; (try simp only [go_sem, Nat.reduceBEq, Nat.reduceAdd, Nat.reduceLeDiff, Nat.reduceSub, Nat.reduceMul, Int.reduceToNat, Int.reduceLT, Int.reduceLE]); (refine ⟨?_, ?_, ?_⟩ <;> (try simp only [go_sem, Nat.reduceBEq, Nat.reduceAdd, Nat.reduceLeDiff, Nat.reduceSub, Nat.reduceMul, Int.reduceToNat, Int.reduceLT, Int.reduceLE, St.good, noAny, distinct, SubSt, subE, subHp]) <;> (repeat' (first | exact trivial | rfl | apply And.intro | (simp; done)))); done)
       | fail)
    | (refine hK1 _ ?_; (refine ⟨?_, ?_, ?_⟩ <;> (try simp only [go_sem, Nat.reduceBEq, Nat.reduceAdd, Nat.reduceLeDiff, Nat.reduceSub, Nat.reduceMul, Int.reduceToNat, Int.reduceLT, Int.reduceLE, St.good, noAny, distinct, SubSt, subE, subHp, *]) <;> (repeat' (first | exact trivial | rfl | apply And.intro | (simp [*]; done)))); done)
    | (refine hK2 _ ?_; (refine ⟨?_, ?_, ?_⟩ <;> (try simp only [go_sem, Nat.reduceBEq, Nat.reduceAdd, Nat.reduceLeDiff, Nat.reduceSub, Nat.reduceMul, Int.reduceToNat, Int.reduceLT, Int.reduceLE, St.good, noAny, distinct, SubSt, subE, subHp, *]) <;> (repeat' (first | exact trivial | rfl | apply And.intro | (simp [*]; done)))); done)
    | (refine hK3 _ ?_; (try simp only [go_sem, Nat.reduceBEq, Nat.reduceAdd, Nat.reduceLeDiff, Nat.reduceSub, Nat.reduceMul, Int.reduceToNat, Int.reduceLT, Int.reduceLE]); refine ⟨_, h, ?_⟩; (refine ⟨?_, ?_, ?_⟩ <;> (try simp only [go_sem, Nat.reduceBEq, Nat.reduceAdd, Nat.reduceLeDiff, Nat.reduceSub, Nat.reduceMul, Int.reduceToNat, Int.reduceLT, Int.reduceLE, St.good, noAny, distinct, SubSt, subE, subHp]) <;> (repeat' (first | exact trivial | rfl | apply And.intro | (simp; done)))); done)
    | (refine bfork (fun hc => ?_) (fun hc => ?_))
    | (refine ⟨_, getE_map (inb_toNat (by assumption)), ?_⟩; (first | rw [M.lok_compU] | rw [M.lokD_compU]); simp (maxSteps := 400000) only [go_sem, Nat.reduceBEq, Nat.reduceAdd, Nat.reduceLeDiff, Nat.reduceSub, Nat.reduceMul, Int.reduceToNat, Int.reduceLT, Int.reduceLE])
    | (refine And.intro (ltb_of (by assumption)) ?_)
    | fail)
theorem W_access_Linked : ∀ {a_ : GEstate} {place_ : Int} {t_ : Int} {y : Int × Bool}, F_access_Linked a_ place_ t_ = some y → ACall Try.prog 14 [GEstate.v a_, .int .i64 place_, .int .i64 t_] [] (fun r H => r = .tup [.int .i64 y.1, .bool y.2] ∧ H = []) :=
  fun hy => Wq_access_Linked _ _ _ (Q := fun z => z = _) ⟨_, hy, rfl⟩ fun z e => by subst e; exact ⟨rfl, rfl⟩

noncomputable def F_law27_awake_L1 (x81 : Int) : Option (Fl Int (Sum Unit Bool)) :=
  bif decide (x81 ≤ 8) then (F_access_Linked (GEstate.mk 1 [(GAccess.mk 5 3 0 0 8 0 0)]) 0 x81).bind fun y101 => grp ((decide (5 ≤ x81) && decide (x81 < 8))) fun b104 => grp (((!(y101.2 == b104)) || (!decide (y101.1 = 0)))) fun b105 => bif b105 then some (.ex (.inr false)) else chk (in64 (x81 + 1)) (some (.nx (x81 + 1))) else some (.ex (.inl ()))
noncomputable def F_law27_awake : Option Bool :=
  (loop F_law27_awake_L1 4).bind fun r106 => Sum.elim (fun u107 => (F_access_Check (GEstate.mk 1 [(GAccess.mk 5 3 0 0 8 0 0)])).bind fun y110 => some (decide (y110 = 0))) (fun u108 => some u108) r106

/- leakresponse/leakresponselaw27.awake -/
@[irreducible] def mg_law27_awake_1 : List MOp := [⟨.mv (.t 2), (some 22), (some (21, true))⟩,
    ⟨.bin false .lss (.t 22) (.c (.int .i64 8)), (some 23), (some (21, true))⟩,
    ⟨.pick (.t 21) (.t 23) (.c (.bool false)), (some 24), none⟩]
@[irreducible] def mg_law27_awake_2 : List MOp := [⟨.mv (.t 3), (some 27), (some (26, false))⟩,
    ⟨.bin false .neq (.t 27) (.c (.int .i64 0)), (some 28), (some (26, false))⟩,
    ⟨.pick (.t 26) (.c (.bool true)) (.t 28), (some 29), none⟩]
@[irreducible] def mc_law27_awake_L1 : MC :=
  (.seq (.seq (.reg [⟨.mv (.t 2), (some 8), none⟩,
    ⟨.bin false .leq (.t 8) (.c (.int .i64 8)), (some 9), none⟩])
  (.cond (.t 9)
    .skip
    (.exit 0)))
  (.seq (.block 1
  (.seq (.regI [.op ⟨.ld (some 2) (.t 1), (some 13), none⟩,
    .op ⟨.mv (.t 2), (some 14), none⟩,
    .nt (.fz 13),
    .op ⟨.call (.f 14) [(.t 13), (.c (.int .i64 0)), (.t 14)] [] [], (some 15), none⟩,
    .op ⟨.mv (.t 15), (some 12), none⟩,
    .op ⟨.ext 0 (.t 12), (some 16), none⟩,
    .op ⟨.ext 1 (.t 12), (some 17), none⟩,
    .op ⟨.mv (.t 16), (some 3), none⟩,
    .op ⟨.mv (.t 17), (some 4), none⟩])
  (.seq (.note (.gc [1, 2, 3, 4, 22, 23, 27, 28]) (.regI [.op ⟨.mv (.t 4), (some 18), none⟩,
    .op ⟨.mv (.t 2), (some 19), none⟩,
    .op ⟨.bin false .geq (.t 19) (.c (.int .i64 5)), (some 20), none⟩,
    .op ⟨.mv (.t 20), (some 21), none⟩,
    .grp mg_law27_awake_1,
    .op ⟨.beq true (.t 18) (.t 24), (some 25), none⟩,
    .op ⟨.mv (.t 25), (some 26), none⟩,
    .grp mg_law27_awake_2]))
  (.cond (.t 29)
    (.seq (.reg [⟨.mv (.c (.bool false)), (some 0), none⟩])
    .ret)
    .skip))))
  (.note (.gc [1, 2, 22, 23, 27, 28]) (.reg [⟨.mv (.t 2), (some 10), none⟩,
    ⟨.bin true .add (.t 10) (.c (.int .i64 1)), (some 11), none⟩,
    ⟨.mv (.t 11), (some 2), none⟩]))))
def mc_law27_awake : MC :=
  (.seq (.reg [⟨.mv (.c (.bool false)), (some 0), none⟩])
  (.seq (.reg [⟨.build [(.int .i64 0), (.int .i64 0), (.int .i64 0), (.int .i64 0), (.int .i64 0), (.int .i64 0), (.int .i64 0)] [(0, 1, (.c (.int .i64 5))), (1, 1, (.c (.int .i64 3))), (4, 1, (.c (.int .i64 8)))], (some 5), none⟩,
    ⟨.bslice 7 [(.t 5)], (some 6), none⟩,
    ⟨.build [(.int .i64 0), (.sl [])] [(0, 1, (.c (.int .i64 1))), (1, 1, (.t 6))], (some 7), none⟩,
    ⟨.alloc [(.int .i64 0), (.sl [])], (some 1), none⟩,
    ⟨.st 2 (.t 1) (.t 7), none, none⟩])
  (.seq (.seq (.reg [⟨.mv (.c (.int .i64 4)), (some 2), none⟩])
  (.block 0
  (.loop mc_law27_awake_L1)))
  (.seq (.reg [⟨.ld (some 2) (.t 1), (some 30), none⟩,
    ⟨.call (.f 15) [(.t 30)] [] [], (some 31), none⟩,
    ⟨.bin false .eql (.t 31) (.c (.int .i64 0)), (some 32), none⟩,
    ⟨.mv (.t 32), (some 0), none⟩])
  .ret))))
theorem ok_law27_awake : mc_law27_awake.ok Try.prog Try.f9.ntmps (Try.f9.body.getD .skip) = true := by kernel_rfl

set_option maxHeartbeats 2000000 in
theorem Wq_law27_awake {Q : Bool → Prop} {Q' : V → Heap → Prop} (h : Ok F_law27_awake Q) (hQ : ∀ z, Q z → Q' (.bool z) []) : ACall Try.prog 9 [] [] Q' := by
  refine acall_machN [] [] [.t 0] Try.func9 rfl (by kernel_rfl) ok_law27_awake (by kernel_rfl) rfl rfl fun M hf => ?_
  clear hf
  unfold F_law27_awake at h
  unfold mc_law27_awake
  (try simp (maxSteps := 400000) only [go_sem, Nat.reduceBEq, Nat.reduceAdd, Nat.reduceLeDiff, Nat.reduceSub, Nat.reduceMul, Int.reduceToNat, Int.reduceLT, Int.reduceLE] at h)
  simp (maxSteps := 400000) only [go_sem, Nat.reduceBEq, Nat.reduceAdd, Nat.reduceLeDiff, Nat.reduceSub, Nat.reduceMul, Int.reduceToNat, Int.reduceLT, Int.reduceLE]
  repeat' (first
    | (exact hQ _ h)
    | (have hq := hQ _ h; simp (maxSteps := 400000) only [go_sem, Nat.reduceBEq, Nat.reduceAdd, Nat.reduceLeDiff, Nat.reduceSub, Nat.reduceMul, Int.reduceToNat, Int.reduceLT, Int.reduceLE] at hq; exact hq)
    | (refine oblg h ?_; clear h; intro hc h)
    | (refine fork h ?_ ?_ <;> clear h <;> intro hc h)
    | (refine forkS h ?_ ?_ <;> clear h <;> intro hc h)
    | (refine And.intro (chkD_of rfl) ?_)
    | (obtain ⟨y, hy, h⟩ := h; have hw := W_access_Linked hy; (try simp (maxSteps := 400000) only [go_sem, Nat.reduceBEq, Nat.reduceAdd, Nat.reduceLeDiff, Nat.reduceSub, Nat.reduceMul, Int.reduceToNat, Int.reduceLT, Int.reduceLE] at hw); refine sCall_of hw rfl rfl ?_; clear hw; clear hy; rw [M.lok_eq]; simp (maxSteps := 400000) only [go_sem, Nat.reduceBEq, Nat.reduceAdd, Nat.reduceLeDiff, Nat.reduceSub, Nat.reduceMul, Int.reduceToNat, Int.reduceLT, Int.reduceLE])
    | (obtain ⟨y, hy, h⟩ := h; have hw := W_access_Linked hy; (try simp (maxSteps := 400000) only [go_sem, Nat.reduceBEq, Nat.reduceAdd, Nat.reduceLeDiff, Nat.reduceSub, Nat.reduceMul, Int.reduceToNat, Int.reduceLT, Int.reduceLE] at hw); refine sCallD_of hw rfl rfl ?_; clear hw; clear hy; rw [M.lokD_eq]; simp (maxSteps := 400000) only [go_sem, Nat.reduceBEq, Nat.reduceAdd, Nat.reduceLeDiff, Nat.reduceSub, Nat.reduceMul, Int.reduceToNat, Int.reduceLT, Int.reduceLE])
    | (obtain ⟨y, hy, h⟩ := h; have hw := W_access_Check hy; (try simp (maxSteps := 400000) only [go_sem, Nat.reduceBEq, Nat.reduceAdd, Nat.reduceLeDiff, Nat.reduceSub, Nat.reduceMul, Int.reduceToNat, Int.reduceLT, Int.reduceLE] at hw); refine sCall_of hw rfl rfl ?_; clear hw; clear hy; rw [M.lok_eq]; simp (maxSteps := 400000) only [go_sem, Nat.reduceBEq, Nat.reduceAdd, Nat.reduceLeDiff, Nat.reduceSub, Nat.reduceMul, Int.reduceToNat, Int.reduceLT, Int.reduceLE])
    | (obtain ⟨y, hy, h⟩ := h; have hw := W_access_Check hy; (try simp (maxSteps := 400000) only [go_sem, Nat.reduceBEq, Nat.reduceAdd, Nat.reduceLeDiff, Nat.reduceSub, Nat.reduceMul, Int.reduceToNat, Int.reduceLT, Int.reduceLE] at hw); refine sCallD_of hw rfl rfl ?_; clear hw; clear hy; rw [M.lokD_eq]; simp (maxSteps := 400000) only [go_sem, Nat.reduceBEq, Nat.reduceAdd, Nat.reduceLeDiff, Nat.reduceSub, Nat.reduceMul, Int.reduceToNat, Int.reduceLT, Int.reduceLE])
    | (refine M.gv1 (ms := mg_law27_awake_2) 29 [27, 28] h ?_ ?_ <;> first
       | (clear h; intro K hK1; unfold mg_law27_awake_2; simp (maxSteps := 400000) only [go_sem, Nat.reduceBEq, Nat.reduceAdd, Nat.reduceLeDiff, Nat.reduceSub, Nat.reduceMul, Int.reduceToNat, Int.reduceLT, Int.reduceLE])
       | (clear h; intro b h; (try simp (maxSteps := 400000) only [go_sem, Nat.reduceBEq, Nat.reduceAdd, Nat.reduceLeDiff, Nat.reduceSub, Nat.reduceMul, Int.reduceToNat, Int.reduceLT, Int.reduceLE] at h); simp (maxSteps := 400000) only [go_sem, Nat.reduceBEq, Nat.reduceAdd, Nat.reduceLeDiff, Nat.reduceSub, Nat.reduceMul, Int.reduceToNat, Int.reduceLT, Int.reduceLE])
       | fail)
    | (refine M.gv1 (ms := mg_law27_awake_1) 24 [22, 23] h ?_ ?_ <;> first
       | (clear h; intro K hK2; unfold mg_law27_awake_1; simp (maxSteps := 400000) only [go_sem, Nat.reduceBEq, Nat.reduceAdd, Nat.reduceLeDiff, Nat.reduceSub, Nat.reduceMul, Int.reduceToNat, Int.reduceLT, Int.reduceLE])
       | (clear h; intro b h; (try simp (maxSteps := 400000) only [go_sem, Nat.reduceBEq, Nat.reduceAdd, Nat.reduceLeDiff, Nat.reduceSub, Nat.reduceMul, Int.reduceToNat, Int.reduceLT, Int.reduceLE] at h); simp (maxSteps := 400000) only [go_sem, Nat.reduceBEq, Nat.reduceAdd, Nat.reduceLeDiff, Nat.reduceSub, Nat.reduceMul, Int.reduceToNat, Int.reduceLT, Int.reduceLE])
       | fail)
    | (refine M.wh1 (b := mc_law27_awake_L1) [1] [] (fun x => [(2, .int .i64 x)]) (fun x => [.o 1 (.cells [.int .i64 ((GEstate.mk 1 [(GAccess.mk 5 3 0 0 8 0 0)]).Places), .sl (((GEstate.mk 1 [(GAccess.mk 5 3 0 0 8 0 0)]).Events).map GAccess.v)])]) [.fzc 1] h ?_ ?_ <;> first
       | (clear h; intro x Qn K hK3 h; unfold F_law27_awake_L1 at h; unfold mc_law27_awake_L1; (try simp (maxSteps := 400000) only [go_sem, Nat.reduceBEq, Nat.reduceAdd, Nat.reduceLeDiff, Nat.reduceSub, Nat.reduceMul, Int.reduceToNat, Int.reduceLT, Int.reduceLE] at h); simp (maxSteps := 400000) only [go_sem, Nat.reduceBEq, Nat.reduceAdd, Nat.reduceLeDiff, Nat.reduceSub, Nat.reduceMul, Int.reduceToNat, Int.reduceLT, Int.reduceLE])
       | (clear h; (try simp only [go_sem, Nat.reduceBEq, Nat.reduceAdd, Nat.reduceLeDiff, Nat.reduceSub, Nat.reduceMul, Int.reduceToNat, Int.reduceLT, Int.reduceLE]); (refine ⟨?_, ?_, ?_⟩ <;> (try simp only [go_sem, Nat.reduceBEq, Nat.reduceAdd, Nat.reduceLeDiff, Nat.reduceSub, Nat.reduceMul, Int.reduceToNat, Int.reduceLT, Int.reduceLE, St.good, noAny, distinct, SubSt, subE, subHp]) <;> (repeat' (first | exact trivial | rfl | apply And.intro | (simp; done)))); done)
       | fail)
    | (refine hK1 _ ?_; (refine ⟨?_, ?_, ?_⟩ <;> (try simp only [go_sem, Nat.reduceBEq, Nat.reduceAdd, Nat.reduceLeDiff, Nat.reduceSub, Nat.reduceMul, Int.reduceToNat, Int.reduceLT, Int.reduceLE, St.good, noAny, distinct, SubSt, subE, subHp, *]) <;> (repeat' (first | exact trivial | rfl | apply And.intro | (simp [*]; done)))); done)
    | (refine hK2 _ ?_; (refine ⟨?_, ?_, ?_⟩ <;> (try simp only [go_sem, Nat.reduceBEq, Nat.reduceAdd, Nat.reduceLeDiff, Nat.reduceSub, Nat.reduceMul, Int.reduceToNat, Int.reduceLT, Int.reduceLE, St.good, noAny, distinct, SubSt, subE, subHp, *]) <;> (repeat' (first | exact trivial | rfl | apply And.intro | (simp [*]; done)))); done)
    | (refine hK3 _ ?_; (try simp only [go_sem, Nat.reduceBEq, Nat.reduceAdd, Nat.reduceLeDiff, Nat.reduceSub, Nat.reduceMul, Int.reduceToNat, Int.reduceLT, Int.reduceLE]); refine ⟨_, h, ?_⟩; (refine ⟨?_, ?_, ?_⟩ <;> (try simp only [go_sem, Nat.reduceBEq, Nat.reduceAdd, Nat.reduceLeDiff, Nat.reduceSub, Nat.reduceMul, Int.reduceToNat, Int.reduceLT, Int.reduceLE, St.good, noAny, distinct, SubSt, subE, subHp]) <;> (repeat' (first | exact trivial | rfl | apply And.intro | (simp; done)))); done)
    | (refine bfork (fun hc => ?_) (fun hc => ?_))
    | (refine ⟨_, getE_map (inb_toNat (by assumption)), ?_⟩; (first | rw [M.lok_compU] | rw [M.lokD_compU]); simp (maxSteps := 400000) only [go_sem, Nat.reduceBEq, Nat.reduceAdd, Nat.reduceLeDiff, Nat.reduceSub, Nat.reduceMul, Int.reduceToNat, Int.reduceLT, Int.reduceLE])
    | (refine And.intro (ltb_of (by assumption)) ?_)
    | fail)
theorem W_law27_awake : ∀ {y : Bool}, F_law27_awake = some y → ACall Try.prog 9 [] [] (fun r H => r = .bool y ∧ H = []) :=
  fun hy => Wq_law27_awake (Q := fun z => z = _) ⟨_, hy, rfl⟩ fun z e => by subst e; exact ⟨rfl, rfl⟩

def F_made_Tape_Next (t_ : GTape) (n_ : Int) : Option (Int × GTape) :=
  bif decide ((t_.L.length : Int) ≤ t_.at_) then some (0, t_) else chk (inb t_.at_ t_.L.length) (chk (in64 (t_.at_ + 1)) (chk (divs ((t_.L.getD (t_.at_).toNat default) % 2 ^ 16) n_) (some ((((t_.L.getD (t_.at_).toNat default) % 2 ^ 16) % n_), (GTape.mk t_.L (t_.at_ + 1))))))

/- (*leakresponse/leakresponsemake.Tape).Next -/
def mc_made_Tape_Next : MC :=
  (.seq (.reg [⟨.mv (.c (.int .i64 0)), (some 4), none⟩])
  (.seq (.seq (.regD [⟨.mv (.t 0), (some 6), none⟩,
    ⟨.nck (.t 6), (some 7), none⟩,
    ⟨.fad 1 (.t 7), (some 8), none⟩,
    ⟨.ld none (.t 8), (some 9), none⟩,
    ⟨.mv (.t 0), (some 10), none⟩,
    ⟨.nck (.t 10), (some 11), none⟩,
    ⟨.fad 0 (.t 11), (some 12), none⟩,
    ⟨.ld none (.t 12), (some 13), none⟩,
    ⟨.len false (.t 13), (some 14), none⟩,
    ⟨.bin false .geq (.t 9) (.t 14), (some 15), none⟩]
    [[], [0], [1], [2], [], [4], [5], [6], [7], [3, 8]]
    [[], [0], [0, 1], [0, 1, 2], [], [4], [4, 5], [4, 5, 6], [4, 5, 6, 7], [0, 1, 2, 3, 4, 5, 6, 7, 8]])
  (.cond (.t 15)
    (.seq (.reg [⟨.mv (.c (.int .i64 0)), (some 4), none⟩])
    .ret)
    .skip))
  (.seq (.note (.gc [0, 1]) (.regD [⟨.mv (.t 0), (some 16), none⟩,
    ⟨.nck (.t 16), (some 17), none⟩,
    ⟨.fad 0 (.t 17), (some 18), none⟩,
    ⟨.ld none (.t 18), (some 19), none⟩,
    ⟨.mv (.t 0), (some 20), none⟩,
    ⟨.nck (.t 20), (some 21), none⟩,
    ⟨.fad 1 (.t 21), (some 22), none⟩,
    ⟨.ld none (.t 22), (some 23), none⟩,
    ⟨.iad 1 (.t 19) (.t 23), (some 24), none⟩,
    ⟨.ld none (.t 24), (some 25), none⟩,
    ⟨.mask 16 (.t 25) .i64, (some 26), none⟩,
    ⟨.mv (.t 26), (some 5), none⟩]
    [[], [0], [1], [2], [], [4], [5], [6], [3, 7], [8], [9], [10, 0, 1, 2, 3, 4, 5, 6, 7, 8, 9, 10]]
    [[], [0], [0, 1], [0, 1, 2], [], [4], [4, 5], [4, 5, 6], [0, 1, 2, 3, 4, 5, 6, 7], [0, 1, 2, 3, 4, 5, 6, 7, 8], [0, 1, 2, 3, 4, 5, 6, 7, 8, 9], [0, 1, 2, 3, 4, 5, 6, 7, 8, 9, 10]]))
  (.seq (.note (.gc [0, 1, 5]) (.reg [⟨.mv (.t 0), (some 27), none⟩,
    ⟨.nck (.t 27), (some 28), none⟩,
    ⟨.fad 1 (.t 28), (some 29), none⟩,
    ⟨.ld none (.t 29), (some 30), none⟩,
    ⟨.bin true .add (.t 30) (.c (.int .i64 1)), (some 31), none⟩,
    ⟨.nck (.t 27), (some 32), none⟩,
    ⟨.fad 1 (.t 32), (some 33), none⟩,
    ⟨.st 1 (.t 33) (.t 31), none, none⟩]))
  (.seq (.note (.gc [1, 5]) (.reg [⟨.mv (.t 5), (some 34), none⟩,
    ⟨.mv (.t 1), (some 35), none⟩,
    ⟨.bin true .rem (.t 34) (.t 35), (some 36), none⟩,
    ⟨.mv (.t 36), (some 4), none⟩]))
  .ret)))))
theorem ok_made_Tape_Next : mc_made_Tape_Next.ok Try.prog Try.f12.ntmps (Try.f12.body.getD .skip) = true := by kernel_rfl

set_option maxHeartbeats 2000000 in
theorem Wq_made_Tape_Next (t_ : GTape) (n_ : Int) {Q : Int × GTape → Prop} {Q' : V → Heap → Prop} (h : Ok (F_made_Tape_Next t_ n_) Q) (hQ : ∀ z, Q z → Q' (.int .i64 z.1) [(1000, .cells [.sl (z.2.L.map (V.int .i64)), .int .i64 z.2.at_])]) : ACall Try.prog 12 [.ptr 1000 0, .int .i64 n_] [(1000, .cells [.sl (t_.L.map (V.int .i64)), .int .i64 t_.at_])] Q' := by
  refine acall_machN [] [1000] [.t 4] Try.func12 rfl (by kernel_rfl) ok_made_Tape_Next (by kernel_rfl) rfl rfl fun M hf => ?_
  clear hf
  unfold F_made_Tape_Next at h
  unfold mc_made_Tape_Next
  (try simp (maxSteps := 400000) only [go_sem, Nat.reduceBEq, Nat.reduceAdd, Nat.reduceLeDiff, Nat.reduceSub, Nat.reduceMul, Int.reduceToNat, Int.reduceLT, Int.reduceLE] at h)
  simp (maxSteps := 400000) only [go_sem, Nat.reduceBEq, Nat.reduceAdd, Nat.reduceLeDiff, Nat.reduceSub, Nat.reduceMul, Int.reduceToNat, Int.reduceLT, Int.reduceLE]
  repeat' (first
    | (exact hQ _ h)
    | (have hq := hQ _ h; simp (maxSteps := 400000) only [go_sem, Nat.reduceBEq, Nat.reduceAdd, Nat.reduceLeDiff, Nat.reduceSub, Nat.reduceMul, Int.reduceToNat, Int.reduceLT, Int.reduceLE] at hq; exact hq)
    | (refine oblg h ?_; clear h; intro hc h)
    | (refine fork h ?_ ?_ <;> clear h <;> intro hc h)
    | (refine forkS h ?_ ?_ <;> clear h <;> intro hc h)
    | (refine And.intro (chkD_of rfl) ?_)
    | (refine ⟨_, getE_map (inb_toNat (by assumption)), ?_⟩; (first | rw [M.lok_compU] | rw [M.lokD_compU]); simp (maxSteps := 400000) only [go_sem, Nat.reduceBEq, Nat.reduceAdd, Nat.reduceLeDiff, Nat.reduceSub, Nat.reduceMul, Int.reduceToNat, Int.reduceLT, Int.reduceLE])
    | (refine And.intro (ltb_of (by assumption)) ?_)
    | fail)
theorem W_made_Tape_Next : ∀ {t_ : GTape} {n_ : Int} {y : Int × GTape}, F_made_Tape_Next t_ n_ = some y → ACall Try.prog 12 [.ptr 1000 0, .int .i64 n_] [(1000, .cells [.sl (t_.L.map (V.int .i64)), .int .i64 t_.at_])] (fun r H => r = .int .i64 y.1 ∧ H = [(1000, .cells [.sl (y.2.L.map (V.int .i64)), .int .i64 y.2.at_])]) :=
  fun hy => Wq_made_Tape_Next _ _ (Q := fun z => z = _) ⟨_, hy, rfl⟩ fun z e => by subst e; exact ⟨rfl, rfl⟩

def F_made_Tape_Between (t_ : GTape) (a_ : Int) (b_ : Int) : Option (Int × GTape) :=
  chk (in64 (b_ - a_)) (chk (in64 ((b_ - a_) + 1)) ((F_made_Tape_Next t_ ((b_ - a_) + 1)).bind fun y2 => chk (in64 (a_ + y2.1)) (some ((a_ + y2.1), y2.2))))

/- (*leakresponse/leakresponsemake.Tape).Between -/
def mc_made_Tape_Between : MC :=
  (.seq (.reg [⟨.mv (.c (.int .i64 0)), (some 6), none⟩])
  (.seq (.reg [⟨.mv (.t 1), (some 7), none⟩,
    ⟨.mv (.t 0), (some 8), none⟩,
    ⟨.mv (.t 2), (some 9), none⟩,
    ⟨.mv (.t 1), (some 10), none⟩,
    ⟨.bin true .sub (.t 9) (.t 10), (some 11), none⟩,
    ⟨.bin true .add (.t 11) (.c (.int .i64 1)), (some 12), none⟩,
    ⟨.call (.f 12) [(.t 8), (.t 12)] [1000] [], (some 13), none⟩,
    ⟨.bin true .add (.t 7) (.t 13), (some 14), none⟩,
    ⟨.mv (.t 14), (some 6), none⟩])
  .ret))
theorem ok_made_Tape_Between : mc_made_Tape_Between.ok Try.prog Try.f23.ntmps (Try.f23.body.getD .skip) = true := by kernel_rfl

set_option maxHeartbeats 2000000 in
theorem Wq_made_Tape_Between (t_ : GTape) (a_ : Int) (b_ : Int) {Q : Int × GTape → Prop} {Q' : V → Heap → Prop} (h : Ok (F_made_Tape_Between t_ a_ b_) Q) (hQ : ∀ z, Q z → Q' (.int .i64 z.1) [(1000, .cells [.sl (z.2.L.map (V.int .i64)), .int .i64 z.2.at_])]) : ACall Try.prog 23 [.ptr 1000 0, .int .i64 a_, .int .i64 b_] [(1000, .cells [.sl (t_.L.map (V.int .i64)), .int .i64 t_.at_])] Q' := by
  refine acall_machN [] [1000] [.t 6] Try.func23 rfl (by kernel_rfl) ok_made_Tape_Between (by kernel_rfl) rfl rfl fun M hf => ?_
  clear hf
  unfold F_made_Tape_Between at h
  unfold mc_made_Tape_Between
  (try simp (maxSteps := 400000) only [go_sem, Nat.reduceBEq, Nat.reduceAdd, Nat.reduceLeDiff, Nat.reduceSub, Nat.reduceMul, Int.reduceToNat, Int.reduceLT, Int.reduceLE] at h)
  simp (maxSteps := 400000) only [go_sem, Nat.reduceBEq, Nat.reduceAdd, Nat.reduceLeDiff, Nat.reduceSub, Nat.reduceMul, Int.reduceToNat, Int.reduceLT, Int.reduceLE]
  repeat' (first
    | (exact hQ _ h)
    | (have hq := hQ _ h; simp (maxSteps := 400000) only [go_sem, Nat.reduceBEq, Nat.reduceAdd, Nat.reduceLeDiff, Nat.reduceSub, Nat.reduceMul, Int.reduceToNat, Int.reduceLT, Int.reduceLE] at hq; exact hq)
    | (refine oblg h ?_; clear h; intro hc h)
    | (refine fork h ?_ ?_ <;> clear h <;> intro hc h)
    | (refine forkS h ?_ ?_ <;> clear h <;> intro hc h)
    | (refine And.intro (chkD_of rfl) ?_)
    | (obtain ⟨y, hy, h⟩ := h; have hw := W_made_Tape_Next hy; (try simp (maxSteps := 400000) only [go_sem, Nat.reduceBEq, Nat.reduceAdd, Nat.reduceLeDiff, Nat.reduceSub, Nat.reduceMul, Int.reduceToNat, Int.reduceLT, Int.reduceLE] at hw); refine sCall_of hw rfl rfl ?_; clear hw; clear hy; rw [M.lok_eq]; simp (maxSteps := 400000) only [go_sem, Nat.reduceBEq, Nat.reduceAdd, Nat.reduceLeDiff, Nat.reduceSub, Nat.reduceMul, Int.reduceToNat, Int.reduceLT, Int.reduceLE])
    | (obtain ⟨y, hy, h⟩ := h; have hw := W_made_Tape_Next hy; (try simp (maxSteps := 400000) only [go_sem, Nat.reduceBEq, Nat.reduceAdd, Nat.reduceLeDiff, Nat.reduceSub, Nat.reduceMul, Int.reduceToNat, Int.reduceLT, Int.reduceLE] at hw); refine sCallD_of hw rfl rfl ?_; clear hw; clear hy; rw [M.lokD_eq]; simp (maxSteps := 400000) only [go_sem, Nat.reduceBEq, Nat.reduceAdd, Nat.reduceLeDiff, Nat.reduceSub, Nat.reduceMul, Int.reduceToNat, Int.reduceLT, Int.reduceLE])
    | (refine ⟨_, getE_map (inb_toNat (by assumption)), ?_⟩; (first | rw [M.lok_compU] | rw [M.lokD_compU]); simp (maxSteps := 400000) only [go_sem, Nat.reduceBEq, Nat.reduceAdd, Nat.reduceLeDiff, Nat.reduceSub, Nat.reduceMul, Int.reduceToNat, Int.reduceLT, Int.reduceLE])
    | (refine And.intro (ltb_of (by assumption)) ?_)
    | fail)
theorem W_made_Tape_Between : ∀ {t_ : GTape} {a_ : Int} {b_ : Int} {y : Int × GTape}, F_made_Tape_Between t_ a_ b_ = some y → ACall Try.prog 23 [.ptr 1000 0, .int .i64 a_, .int .i64 b_] [(1000, .cells [.sl (t_.L.map (V.int .i64)), .int .i64 t_.at_])] (fun r H => r = .int .i64 y.1 ∧ H = [(1000, .cells [.sl (y.2.L.map (V.int .i64)), .int .i64 y.2.at_])]) :=
  fun hy => Wq_made_Tape_Between _ _ _ (Q := fun z => z = _) ⟨_, hy, rfl⟩ fun z e => by subst e; exact ⟨rfl, rfl⟩

def F_made_Pick (t_ : GTape) (l_ : List Int) : Option (Int × GTape) :=
  (F_made_Tape_Next t_ (l_.length : Int)).bind fun y2 => chk (inb y2.1 l_.length) (some ((l_.getD (y2.1).toNat default), y2.2))

/- leakresponse/leakresponsemake.Pick -/
def mc_made_Pick : MC :=
  (.seq (.reg [⟨.mv (.c (.int .i64 0)), (some 4), none⟩])
  (.seq (.reg [⟨.mv (.t 1), (some 5), none⟩,
    ⟨.mv (.t 0), (some 6), none⟩,
    ⟨.mv (.t 1), (some 7), none⟩,
    ⟨.len false (.t 7), (some 8), none⟩,
    ⟨.call (.f 12) [(.t 6), (.t 8)] [1000] [], (some 9), none⟩,
    ⟨.iad 1 (.t 5) (.t 9), (some 10), none⟩,
    ⟨.ld none (.t 10), (some 11), none⟩,
    ⟨.mv (.t 11), (some 4), none⟩])
  .ret))
theorem ok_made_Pick : mc_made_Pick.ok Try.prog Try.f28.ntmps (Try.f28.body.getD .skip) = true := by kernel_rfl

set_option maxHeartbeats 2000000 in
theorem Wq_made_Pick (t_ : GTape) (l_ : List Int) {Q : Int × GTape → Prop} {Q' : V → Heap → Prop} (h : Ok (F_made_Pick t_ l_) Q) (hQ : ∀ z, Q z → Q' (.int .i64 z.1) [(1000, .cells [.sl (z.2.L.map (V.int .i64)), .int .i64 z.2.at_])]) : ACall Try.prog 28 [.ptr 1000 0, .sl (l_.map (V.int .i64))] [(1000, .cells [.sl (t_.L.map (V.int .i64)), .int .i64 t_.at_])] Q' := by
  refine acall_machN [] [1000] [.t 4] Try.func28 rfl (by kernel_rfl) ok_made_Pick (by kernel_rfl) rfl rfl fun M hf => ?_
  clear hf
  unfold F_made_Pick at h
  unfold mc_made_Pick
  (try simp (maxSteps := 400000) only [go_sem, Nat.reduceBEq, Nat.reduceAdd, Nat.reduceLeDiff, Nat.reduceSub, Nat.reduceMul, Int.reduceToNat, Int.reduceLT, Int.reduceLE] at h)
  simp (maxSteps := 400000) only [go_sem, Nat.reduceBEq, Nat.reduceAdd, Nat.reduceLeDiff, Nat.reduceSub, Nat.reduceMul, Int.reduceToNat, Int.reduceLT, Int.reduceLE]
  repeat' (first
    | (exact hQ _ h)
    | (have hq := hQ _ h; simp (maxSteps := 400000) only [go_sem, Nat.reduceBEq, Nat.reduceAdd, Nat.reduceLeDiff, Nat.reduceSub, Nat.reduceMul, Int.reduceToNat, Int.reduceLT, Int.reduceLE] at hq; exact hq)
    | (refine oblg h ?_; clear h; intro hc h)
    | (refine fork h ?_ ?_ <;> clear h <;> intro hc h)
    | (refine forkS h ?_ ?_ <;> clear h <;> intro hc h)
    | (refine And.intro (chkD_of rfl) ?_)
    | (obtain ⟨y, hy, h⟩ := h; have hw := W_made_Tape_Next hy; (try simp (maxSteps := 400000) only [go_sem, Nat.reduceBEq, Nat.reduceAdd, Nat.reduceLeDiff, Nat.reduceSub, Nat.reduceMul, Int.reduceToNat, Int.reduceLT, Int.reduceLE] at hw); refine sCall_of hw rfl rfl ?_; clear hw; clear hy; rw [M.lok_eq]; simp (maxSteps := 400000) only [go_sem, Nat.reduceBEq, Nat.reduceAdd, Nat.reduceLeDiff, Nat.reduceSub, Nat.reduceMul, Int.reduceToNat, Int.reduceLT, Int.reduceLE])
    | (obtain ⟨y, hy, h⟩ := h; have hw := W_made_Tape_Next hy; (try simp (maxSteps := 400000) only [go_sem, Nat.reduceBEq, Nat.reduceAdd, Nat.reduceLeDiff, Nat.reduceSub, Nat.reduceMul, Int.reduceToNat, Int.reduceLT, Int.reduceLE] at hw); refine sCallD_of hw rfl rfl ?_; clear hw; clear hy; rw [M.lokD_eq]; simp (maxSteps := 400000) only [go_sem, Nat.reduceBEq, Nat.reduceAdd, Nat.reduceLeDiff, Nat.reduceSub, Nat.reduceMul, Int.reduceToNat, Int.reduceLT, Int.reduceLE])
    | (refine ⟨_, getE_map (inb_toNat (by assumption)), ?_⟩; (first | rw [M.lok_compU] | rw [M.lokD_compU]); simp (maxSteps := 400000) only [go_sem, Nat.reduceBEq, Nat.reduceAdd, Nat.reduceLeDiff, Nat.reduceSub, Nat.reduceMul, Int.reduceToNat, Int.reduceLT, Int.reduceLE])
    | (refine And.intro (ltb_of (by assumption)) ?_)
    | fail)
theorem W_made_Pick : ∀ {t_ : GTape} {l_ : List Int} {y : Int × GTape}, F_made_Pick t_ l_ = some y → ACall Try.prog 28 [.ptr 1000 0, .sl (l_.map (V.int .i64))] [(1000, .cells [.sl (t_.L.map (V.int .i64)), .int .i64 t_.at_])] (fun r H => r = .int .i64 y.1 ∧ H = [(1000, .cells [.sl (y.2.L.map (V.int .i64)), .int .i64 y.2.at_])]) :=
  fun hy => Wq_made_Pick _ _ (Q := fun z => z = _) ⟨_, hy, rfl⟩ fun z e => by subst e; exact ⟨rfl, rfl⟩

noncomputable def F_made_Clock_L1 (n_ : Int) (x33 : Int × Int × (List Int) × GTape) : Option (Fl (Int × Int × (List Int) × GTape) ((List Int) × GTape)) :=
  bif decide (x33.2.1 < n_) then (F_made_Tape_Next x33.2.2.2 3).bind fun y41 => chk (in64 (x33.1 + y41.1)) (chk (room (x33.2.2.1.length + [(x33.1 + y41.1)].length) 8) (chk (in64 (x33.2.1 + 1)) (some (.nx ((x33.1 + y41.1), (x33.2.1 + 1), (x33.2.2.1 ++ [(x33.1 + y41.1)]), y41.2))))) else some (.ex (x33.2.2.1, x33.2.2.2))
noncomputable def F_made_Clock (t_ : GTape) (n_ : Int) : Option ((List Int) × GTape) :=
  (F_made_Tape_Next t_ 4).bind fun y2 => (loop (F_made_Clock_L1 n_) (y2.1, 0, [], y2.2)).bind fun r42 => some (r42.1, r42.2)

/- leakresponse/leakresponsemake.Clock -/
@[irreducible] def mc_made_Clock_L1 : MC :=
  (.seq (.seq (.reg [⟨.mv (.t 7), (some 10), none⟩,
    ⟨.mv (.t 1), (some 11), none⟩,
    ⟨.bin false .lss (.t 10) (.t 11), (some 12), none⟩])
  (.cond (.t 12)
    .skip
    (.exit 0)))
  (.seq (.block 1
  (.seq (.reg [⟨.mv (.t 6), (some 15), none⟩,
    ⟨.mv (.t 0), (some 16), none⟩,
    ⟨.call (.f 12) [(.t 16), (.c (.int .i64 3))] [1000] [], (some 17), none⟩,
    ⟨.bin true .add (.t 15) (.t 17), (some 18), none⟩,
    ⟨.mv (.t 18), (some 6), none⟩])
  (.reg [⟨.mv (.t 5), (some 19), none⟩,
    ⟨.mv (.t 6), (some 20), none⟩,
    ⟨.bslice 1 [(.t 20)], (some 21), none⟩,
    ⟨.app 1 8 (.t 19) (.t 21), (some 22), none⟩,
    ⟨.mv (.t 22), (some 5), none⟩])))
  (.note (.gc [0, 1, 5, 6, 7]) (.reg [⟨.mv (.t 7), (some 13), none⟩,
    ⟨.bin true .add (.t 13) (.c (.int .i64 1)), (some 14), none⟩,
    ⟨.mv (.t 14), (some 7), none⟩]))))
def mc_made_Clock : MC :=
  (.seq (.reg [⟨.mv (.c (.sl [])), (some 4), none⟩])
  (.seq (.reg [⟨.mv (.c .nils), (some 5), none⟩])
  (.seq (.reg [⟨.mv (.t 0), (some 8), none⟩,
    ⟨.call (.f 12) [(.t 8), (.c (.int .i64 4))] [1000] [], (some 9), none⟩,
    ⟨.mv (.t 9), (some 6), none⟩])
  (.seq (.seq (.reg [⟨.mv (.c (.int .i64 0)), (some 7), none⟩])
  (.block 0
  (.loop mc_made_Clock_L1)))
  (.seq (.reg [⟨.mv (.t 5), (some 23), none⟩,
    ⟨.mv (.t 23), (some 4), none⟩])
  .ret)))))
theorem ok_made_Clock : mc_made_Clock.ok Try.prog Try.f27.ntmps (Try.f27.body.getD .skip) = true := by kernel_rfl

set_option maxHeartbeats 2000000 in
theorem Wq_made_Clock (t_ : GTape) (n_ : Int) {Q : (List Int) × GTape → Prop} {Q' : V → Heap → Prop} (h : Ok (F_made_Clock t_ n_) Q) (hQ : ∀ z, Q z → Q' (.sl (z.1.map (V.int .i64))) [(1000, .cells [.sl (z.2.L.map (V.int .i64)), .int .i64 z.2.at_])]) : ACall Try.prog 27 [.ptr 1000 0, .int .i64 n_] [(1000, .cells [.sl (t_.L.map (V.int .i64)), .int .i64 t_.at_])] Q' := by
  refine acall_machN [.fz 4] [1000] [.t 4] Try.func27 rfl (by kernel_rfl) ok_made_Clock (by kernel_rfl) rfl rfl fun M hf => ?_
  clear hf
  unfold F_made_Clock at h
  unfold mc_made_Clock
  (try simp (maxSteps := 400000) only [go_sem, Nat.reduceBEq, Nat.reduceAdd, Nat.reduceLeDiff, Nat.reduceSub, Nat.reduceMul, Int.reduceToNat, Int.reduceLT, Int.reduceLE] at h)
  simp (maxSteps := 400000) only [go_sem, Nat.reduceBEq, Nat.reduceAdd, Nat.reduceLeDiff, Nat.reduceSub, Nat.reduceMul, Int.reduceToNat, Int.reduceLT, Int.reduceLE]
  repeat' (first
    | (exact hQ _ h)
    | (have hq := hQ _ h; simp (maxSteps := 400000) only [go_sem, Nat.reduceBEq, Nat.reduceAdd, Nat.reduceLeDiff, Nat.reduceSub, Nat.reduceMul, Int.reduceToNat, Int.reduceLT, Int.reduceLE] at hq; exact hq)
    | (refine oblg h ?_; clear h; intro hc h)
    | (refine fork h ?_ ?_ <;> clear h <;> intro hc h)
    | (refine forkS h ?_ ?_ <;> clear h <;> intro hc h)
    | (refine And.intro (chkD_of rfl) ?_)
    | (obtain ⟨y, hy, h⟩ := h; have hw := W_made_Tape_Next hy; (try simp (maxSteps := 400000) only [go_sem, Nat.reduceBEq, Nat.reduceAdd, Nat.reduceLeDiff, Nat.reduceSub, Nat.reduceMul, Int.reduceToNat, Int.reduceLT, Int.reduceLE] at hw); refine sCall_of hw rfl rfl ?_; clear hw; clear hy; rw [M.lok_eq]; simp (maxSteps := 400000) only [go_sem, Nat.reduceBEq, Nat.reduceAdd, Nat.reduceLeDiff, Nat.reduceSub, Nat.reduceMul, Int.reduceToNat, Int.reduceLT, Int.reduceLE])
    | (obtain ⟨y, hy, h⟩ := h; have hw := W_made_Tape_Next hy; (try simp (maxSteps := 400000) only [go_sem, Nat.reduceBEq, Nat.reduceAdd, Nat.reduceLeDiff, Nat.reduceSub, Nat.reduceMul, Int.reduceToNat, Int.reduceLT, Int.reduceLE] at hw); refine sCallD_of hw rfl rfl ?_; clear hw; clear hy; rw [M.lokD_eq]; simp (maxSteps := 400000) only [go_sem, Nat.reduceBEq, Nat.reduceAdd, Nat.reduceLeDiff, Nat.reduceSub, Nat.reduceMul, Int.reduceToNat, Int.reduceLT, Int.reduceLE])
    | (refine M.wh1 (b := mc_made_Clock_L1) [0, 1] [] (fun x => [(5, .osl 2005 1 0 x.2.2.1.length), (6, .int .i64 x.1), (7, .int .i64 x.2.1)]) (fun x => [.o 2005 (.arr 1 (x.2.2.1.map (V.int .i64))), .o 1000 (.cells [.sl (x.2.2.2.L.map (V.int .i64)), .int .i64 x.2.2.2.at_])]) [.gc [0, 1, 5, 6, 7], .acc 5 2005 1] h ?_ ?_ <;> first
       | (clear h; intro x Qn K hK1 h; unfold F_made_Clock_L1 at h; unfold mc_made_Clock_L1; (try simp (maxSteps := 400000) only [go_sem, Nat.reduceBEq, Nat.reduceAdd, Nat.reduceLeDiff, Nat.reduceSub, Nat.reduceMul, Int.reduceToNat, Int.reduceLT, Int.reduceLE] at h); simp (maxSteps := 400000) only [go_sem, Nat.reduceBEq, Nat.reduceAdd, Nat.reduceLeDiff, Nat.reduceSub, Nat.reduceMul, Int.reduceToNat, Int.reduceLT, Int.reduceLE])
       | (clear h; (try simp only [go_sem, Nat.reduceBEq, Nat.reduceAdd, Nat.reduceLeDiff, Nat.reduceSub, Nat.reduceMul, Int.reduceToNat, Int.reduceLT, Int.reduceLE]); (refine ⟨?_, ?_, ?_⟩ <;> (try simp only [go_sem, Nat.reduceBEq, Nat.reduceAdd, Nat.reduceLeDiff, Nat.reduceSub, Nat.reduceMul, Int.reduceToNat, Int.reduceLT, Int.reduceLE, St.good, noAny, distinct, SubSt, subE, subHp]) <;> (repeat' (first | exact trivial | rfl | apply And.intro | (simp; done)))); done)
       | fail)
    | (refine hK1 _ ?_; (try simp only [go_sem, Nat.reduceBEq, Nat.reduceAdd, Nat.reduceLeDiff, Nat.reduceSub, Nat.reduceMul, Int.reduceToNat, Int.reduceLT, Int.reduceLE]); refine ⟨_, h, ?_⟩; (refine ⟨?_, ?_, ?_⟩ <;> (try simp only [go_sem, Nat.reduceBEq, Nat.reduceAdd, Nat.reduceLeDiff, Nat.reduceSub, Nat.reduceMul, Int.reduceToNat, Int.reduceLT, Int.reduceLE, St.good, noAny, distinct, SubSt, subE, subHp]) <;> (repeat' (first | exact trivial | rfl | apply And.intro | (simp; done)))); done)
    | (refine ⟨_, getE_map (inb_toNat (by assumption)), ?_⟩; (first | rw [M.lok_compU] | rw [M.lokD_compU]); simp (maxSteps := 400000) only [go_sem, Nat.reduceBEq, Nat.reduceAdd, Nat.reduceLeDiff, Nat.reduceSub, Nat.reduceMul, Int.reduceToNat, Int.reduceLT, Int.reduceLE])
    | (refine And.intro (ltb_of (by assumption)) ?_)
    | fail)
theorem W_made_Clock : ∀ {t_ : GTape} {n_ : Int} {y : (List Int) × GTape}, F_made_Clock t_ n_ = some y → ACall Try.prog 27 [.ptr 1000 0, .int .i64 n_] [(1000, .cells [.sl (t_.L.map (V.int .i64)), .int .i64 t_.at_])] (fun r H => r = .sl (y.1.map (V.int .i64)) ∧ H = [(1000, .cells [.sl (y.2.L.map (V.int .i64)), .int .i64 y.2.at_])]) :=
  fun hy => Wq_made_Clock _ _ (Q := fun z => z = _) ⟨_, hy, rfl⟩ fun z e => by subst e; exact ⟨rfl, rfl⟩

noncomputable def F_made_Directory_L1 (x23 : Int × (List Int) × GTape) : Option (Fl (Int × (List Int) × GTape) ((List Int) × GTape)) :=
  bif decide (0 < x23.1) then (F_made_Pick x23.2.2 [2, 2, 1, 3]).bind fun y27 => chk (room (x23.2.1.length + [y27.1].length) 8) (chk (in64 (x23.1 - 1)) (some (.nx ((x23.1 - 1), (x23.2.1 ++ [y27.1]), y27.2)))) else some (.ex (x23.2.1, x23.2.2))
noncomputable def F_made_Directory_L2 (k44 : Int) (a45 : Int) (x43 : List Int) : Option (List Int) :=
  bif decide (a45 = 2) then chk (room (x43.length + [k44].length) 8) (some (x43 ++ [k44])) else some x43
noncomputable def F_made_Directory_L3 (r28 : (List Int) × GTape) (x46 : List Int) (k214 : Int) (a215 : Int) (x213 : (List GMember) × GTape) : Option ((List GMember) × GTape) :=
  (F_made_Tape_Next x213.2 (r28.1.length : Int)).bind fun y245 => (F_made_Tape_Next y245.2 (x46.length : Int)).bind fun y246 => chk (inb y246.1 x46.length) (jn (α := GMember × GTape) ((F_made_Tape_Next y246.2 4).bind fun y251 => bif decide (y251.1 = 3) then some ((GMember.mk a215 2 y245.1 (x46.getD ((y246.1).toNat) default)), y251.2) else some ((GMember.mk a215 1 y245.1 (x46.getD ((y246.1).toNat) default)), y251.2)) fun j249 => bif (!decide (j249.1.Principal = j249.1.Group)) then chk (room (x213.1.length + [j249.1].length) 32) (some ((x213.1 ++ [j249.1]), j249.2)) else some (x213.1, j249.2))
noncomputable def F_made_Directory (t_ : GTape) : Option (GDirectory × GTape) :=
  (F_made_Tape_Between t_ 2 6).bind fun y16 => (loop F_made_Directory_L1 (y16.1, [1], y16.2)).bind fun r28 => (foldL F_made_Directory_L2 r28.1 0 []).bind fun x46 => bif decide ((x46.length : Int) = 0) then some ((GDirectory.mk r28.1 []), r28.2) else (F_made_Tape_Next r28.2 12).bind fun y152 => (F_made_Clock y152.2 y152.1).bind fun y153 => (foldL (F_made_Directory_L3 r28 x46) y153.1 0 ([], y153.2)).bind fun x252 => some ((GDirectory.mk r28.1 x252.1), x252.2)

/- leakresponse/leakresponsemake.Directory -/
@[irreducible] def mc_made_Directory_L1 : MC :=
  (.seq (.seq (.reg [⟨.mv (.t 4), (some 15), none⟩,
    ⟨.bin false .gtr (.t 15) (.c (.int .i64 0)), (some 16), none⟩])
  (.cond (.t 16)
    .skip
    (.exit 0)))
  (.seq (.block 1
  (.regD [⟨.fad 0 (.t 3), (some 19), none⟩,
    ⟨.ld none (.t 19), (some 20), none⟩,
    ⟨.mv (.t 0), (some 21), none⟩,
    ⟨.lsl 1 [(.c (.int .i64 2)), (.c (.int .i64 2)), (.c (.int .i64 1)), (.c (.int .i64 3))], (some 22), none⟩,
    ⟨.call (.f 28) [(.t 21), (.t 22)] [1000] [], (some 23), none⟩,
    ⟨.bslice 1 [(.t 23)], (some 24), none⟩,
    ⟨.app 1 8 (.t 20) (.t 24), (some 25), none⟩,
    ⟨.fad 0 (.t 3), (some 26), none⟩,
    ⟨.st 1 (.t 26) (.t 25), none, none⟩]
    [[], [0], [], [], [2, 3], [4], [1, 5, 4], [0, 1, 2, 3, 4, 5, 6], [7, 6, 6, 0, 1, 2, 3, 4, 5, 6]]
    [[], [0], [], [], [2, 3], [2, 3, 4], [0, 1, 2, 3, 4, 5], [0, 1, 2, 3, 4, 5, 6], [0, 1, 2, 3, 4, 5, 6, 7]]))
  (.note (.gc [0, 2, 3, 4]) (.reg [⟨.mv (.t 4), (some 17), none⟩,
    ⟨.bin true .sub (.t 17) (.c (.int .i64 1)), (some 18), none⟩,
    ⟨.mv (.t 18), (some 4), none⟩]))))
@[irreducible] def mc_made_Directory_L2 : MC :=
  (.seq (.reg [⟨.bin false .lss (.t 30) (.t 29), (some 31), none⟩])
  (.seq (.cond (.t 31)
    .skip
    (.exit 2))
  (.seq (.block 3
  (.seq (.reg [⟨.mv (.t 30), (some 32), none⟩,
    ⟨.iad 1 (.t 28) (.t 30), (some 33), none⟩,
    ⟨.ld none (.t 33), (some 34), none⟩,
    ⟨.mv (.t 32), (some 6), none⟩,
    ⟨.mv (.t 34), (some 7), none⟩])
  (.seq (.reg [⟨.mv (.t 7), (some 35), none⟩,
    ⟨.bin false .eql (.t 35) (.c (.int .i64 2)), (some 36), none⟩])
  (.cond (.t 36)
    (.reg [⟨.mv (.t 5), (some 37), none⟩,
      ⟨.mv (.t 6), (some 38), none⟩,
      ⟨.bslice 1 [(.t 38)], (some 39), none⟩,
      ⟨.app 1 8 (.t 37) (.t 39), (some 40), none⟩,
      ⟨.mv (.t 40), (some 5), none⟩])
    .skip))))
  (.reg [⟨.bin true .add (.t 30) (.c (.int .i64 1)), (some 41), none⟩,
    ⟨.mv (.t 41), (some 30), none⟩]))))
@[irreducible] def mc_made_Directory_J1 : MC :=
  (.seq (.reg [⟨.fad 2 (.t 10), (some 73), none⟩,
    ⟨.ld none (.t 73), (some 74), none⟩,
    ⟨.fad 3 (.t 10), (some 75), none⟩,
    ⟨.ld none (.t 75), (some 76), none⟩,
    ⟨.bin false .neq (.t 74) (.t 76), (some 77), none⟩])
  (.cond (.t 77)
    (.reg [⟨.fad 1 (.t 3), (some 78), none⟩,
      ⟨.ld none (.t 78), (some 79), none⟩,
      ⟨.ld (some 4) (.t 10), (some 80), none⟩,
      ⟨.bslice 4 [(.t 80)], (some 81), none⟩,
      ⟨.app 4 32 (.t 79) (.t 81), (some 82), none⟩,
      ⟨.fad 1 (.t 3), (some 83), none⟩,
      ⟨.st 1 (.t 83) (.t 82), none, none⟩])
    .skip))
@[irreducible] def mc_made_Directory_L3 : MC :=
  (.seq (.reg [⟨.bin false .lss (.t 51) (.t 50), (some 52), none⟩])
  (.seq (.cond (.t 52)
    .skip
    (.exit 4))
  (.seq (.block 5
  (.seq (.reg [⟨.iad 1 (.t 49) (.t 51), (some 53), none⟩,
    ⟨.ld none (.t 53), (some 54), none⟩,
    ⟨.mv (.t 54), (some 9), none⟩])
  (.seq (.reg [⟨.mv (.t 9), (some 55), none⟩,
    ⟨.mv (.t 0), (some 56), none⟩,
    ⟨.fad 0 (.t 3), (some 57), none⟩,
    ⟨.ld none (.t 57), (some 58), none⟩,
    ⟨.len false (.t 58), (some 59), none⟩,
    ⟨.call (.f 12) [(.t 56), (.t 59)] [1000] [], (some 60), none⟩,
    ⟨.mv (.t 5), (some 61), none⟩,
    ⟨.mv (.t 0), (some 62), none⟩,
    ⟨.mv (.t 5), (some 63), none⟩,
    ⟨.len false (.t 63), (some 64), none⟩,
    ⟨.call (.f 12) [(.t 62), (.t 64)] [1000] [], (some 65), none⟩,
    ⟨.iad 1 (.t 61) (.t 65), (some 66), none⟩,
    ⟨.ld none (.t 66), (some 67), none⟩,
    ⟨.build [(.int .i64 0), (.int .i64 0), (.int .i64 0), (.int .i64 0)] [(0, 1, (.t 55)), (1, 1, (.c (.int .i64 1))), (2, 1, (.t 60)), (3, 1, (.t 67))], (some 68), none⟩,
    ⟨.alloc [(.int .i64 0), (.int .i64 0), (.int .i64 0), (.int .i64 0)], (some 10), none⟩,
    ⟨.st 4 (.t 10) (.t 68), none, none⟩])
  (.cut (.seq (.note (.gc [0, 2, 3, 5, 10, 49, 50, 51]) (.reg [⟨.mv (.t 0), (some 69), none⟩,
    ⟨.call (.f 12) [(.t 69), (.c (.int .i64 4))] [1000] [], (some 70), none⟩,
    ⟨.bin false .eql (.t 70) (.c (.int .i64 3)), (some 71), none⟩]))
  (.cond (.t 71)
    (.reg [⟨.fad 1 (.t 10), (some 72), none⟩,
      ⟨.st 1 (.t 72) (.c (.int .i64 2)), none, none⟩])
    .skip))
  mc_made_Directory_J1))))
  (.reg [⟨.bin true .add (.t 51) (.c (.int .i64 1)), (some 84), none⟩,
    ⟨.mv (.t 84), (some 51), none⟩]))))
def mc_made_Directory : MC :=
  (.seq (.reg [⟨.alloc [(.sl []), (.sl [])], (some 2), none⟩])
  (.seq (.reg [⟨.bslice 1 [(.c (.int .i64 1))], (some 11), none⟩,
    ⟨.build [.nils, .nils] [(0, 1, (.t 11))], (some 12), none⟩,
    ⟨.alloc [(.sl []), (.sl [])], (some 3), none⟩,
    ⟨.st 2 (.t 3) (.t 12), none, none⟩])
  (.seq (.seq (.reg [⟨.mv (.t 0), (some 13), none⟩,
    ⟨.call (.f 23) [(.t 13), (.c (.int .i64 2)), (.c (.int .i64 6))] [1000] [], (some 14), none⟩,
    ⟨.mv (.t 14), (some 4), none⟩])
  (.block 0
  (.loop mc_made_Directory_L1)))
  (.seq (.reg [⟨.mv (.c .nils), (some 5), none⟩])
  (.seq (.seq (.reg [⟨.fad 0 (.t 3), (some 27), none⟩,
    ⟨.ld none (.t 27), (some 28), none⟩,
    ⟨.len false (.t 28), (some 29), none⟩,
    ⟨.mv (.c (.int .i64 0)), (some 30), none⟩])
  (.block 2
  (.loop mc_made_Directory_L2)))
  (.seq (.seq (.reg [⟨.mv (.t 5), (some 42), none⟩,
    ⟨.len false (.t 42), (some 43), none⟩,
    ⟨.bin false .eql (.t 43) (.c (.int .i64 0)), (some 44), none⟩])
  (.cond (.t 44)
    (.seq (.reg [⟨.ld (some 2) (.t 3), (some 45), none⟩,
      ⟨.st 2 (.t 2) (.t 45), none, none⟩])
    .ret)
    .skip))
  (.seq (.seq (.reg [⟨.mv (.t 0), (some 46), none⟩,
    ⟨.mv (.t 0), (some 47), none⟩,
    ⟨.call (.f 12) [(.t 47), (.c (.int .i64 12))] [1000] [], (some 48), none⟩,
    ⟨.call (.f 27) [(.t 46), (.t 48)] [1000] [], (some 49), none⟩,
    ⟨.len false (.t 49), (some 50), none⟩,
    ⟨.mv (.c (.int .i64 0)), (some 51), none⟩])
  (.block 4
  (.loop mc_made_Directory_L3)))
  (.seq (.reg [⟨.ld (some 2) (.t 3), (some 85), none⟩,
    ⟨.st 2 (.t 2) (.t 85), none, none⟩])
  .ret))))))))
theorem ok_made_Directory : mc_made_Directory.ok Try.prog Try.f11.ntmps (Try.f11.body.getD .skip) = true := by kernel_rfl

set_option maxHeartbeats 2000000 in
theorem Wq_made_Directory (t_ : GTape) {Q : GDirectory × GTape → Prop} {Q' : V → Heap → Prop} (h : Ok (F_made_Directory t_) Q) (hQ : ∀ z, Q z → Q' (GDirectory.v z.1) [(1000, .cells [.sl (z.2.L.map (V.int .i64)), .int .i64 z.2.at_])]) : ACall Try.prog 11 [.ptr 1000 0] [(1000, .cells [.sl (t_.L.map (V.int .i64)), .int .i64 t_.at_])] Q' := by
  refine acall_machN [.fzc 2] [1000] [.c 2 (some 2)] Try.func11 rfl (by kernel_rfl) ok_made_Directory (by kernel_rfl) rfl rfl fun M hf => ?_
  clear hf
  unfold F_made_Directory at h
  unfold mc_made_Directory
  (try simp (maxSteps := 400000) only [go_sem, Nat.reduceBEq, Nat.reduceAdd, Nat.reduceLeDiff, Nat.reduceSub, Nat.reduceMul, Int.reduceToNat, Int.reduceLT, Int.reduceLE] at h)
  simp (maxSteps := 400000) only [go_sem, Nat.reduceBEq, Nat.reduceAdd, Nat.reduceLeDiff, Nat.reduceSub, Nat.reduceMul, Int.reduceToNat, Int.reduceLT, Int.reduceLE]
  repeat' (first
    | (exact hQ _ h)
    | (have hq := hQ _ h; simp (maxSteps := 400000) only [go_sem, Nat.reduceBEq, Nat.reduceAdd, Nat.reduceLeDiff, Nat.reduceSub, Nat.reduceMul, Int.reduceToNat, Int.reduceLT, Int.reduceLE] at hq; exact hq)
    | (refine oblg h ?_; clear h; intro hc h)
    | (refine fork h ?_ ?_ <;> clear h <;> intro hc h)
    | (refine forkS h ?_ ?_ <;> clear h <;> intro hc h)
    | (refine And.intro (chkD_of rfl) ?_)
    | (obtain ⟨y, hy, h⟩ := h; have hw := W_made_Tape_Between hy; (try simp (maxSteps := 400000) only [go_sem, Nat.reduceBEq, Nat.reduceAdd, Nat.reduceLeDiff, Nat.reduceSub, Nat.reduceMul, Int.reduceToNat, Int.reduceLT, Int.reduceLE] at hw); refine sCall_of hw rfl rfl ?_; clear hw; clear hy; rw [M.lok_eq]; simp (maxSteps := 400000) only [go_sem, Nat.reduceBEq, Nat.reduceAdd, Nat.reduceLeDiff, Nat.reduceSub, Nat.reduceMul, Int.reduceToNat, Int.reduceLT, Int.reduceLE])
    | (obtain ⟨y, hy, h⟩ := h; have hw := W_made_Tape_Between hy; (try simp (maxSteps := 400000) only [go_sem, Nat.reduceBEq, Nat.reduceAdd, Nat.reduceLeDiff, Nat.reduceSub, Nat.reduceMul, Int.reduceToNat, Int.reduceLT, Int.reduceLE] at hw); refine sCallD_of hw rfl rfl ?_; clear hw; clear hy; rw [M.lokD_eq]; simp (maxSteps := 400000) only [go_sem, Nat.reduceBEq, Nat.reduceAdd, Nat.reduceLeDiff, Nat.reduceSub, Nat.reduceMul, Int.reduceToNat, Int.reduceLT, Int.reduceLE])
    | (obtain ⟨y, hy, h⟩ := h; have hw := W_made_Pick hy; (try simp (maxSteps := 400000) only [go_sem, Nat.reduceBEq, Nat.reduceAdd, Nat.reduceLeDiff, Nat.reduceSub, Nat.reduceMul, Int.reduceToNat, Int.reduceLT, Int.reduceLE] at hw); refine sCall_of hw rfl rfl ?_; clear hw; clear hy; rw [M.lok_eq]; simp (maxSteps := 400000) only [go_sem, Nat.reduceBEq, Nat.reduceAdd, Nat.reduceLeDiff, Nat.reduceSub, Nat.reduceMul, Int.reduceToNat, Int.reduceLT, Int.reduceLE])
    | (obtain ⟨y, hy, h⟩ := h; have hw := W_made_Pick hy; (try simp (maxSteps := 400000) only [go_sem, Nat.reduceBEq, Nat.reduceAdd, Nat.reduceLeDiff, Nat.reduceSub, Nat.reduceMul, Int.reduceToNat, Int.reduceLT, Int.reduceLE] at hw); refine sCallD_of hw rfl rfl ?_; clear hw; clear hy; rw [M.lokD_eq]; simp (maxSteps := 400000) only [go_sem, Nat.reduceBEq, Nat.reduceAdd, Nat.reduceLeDiff, Nat.reduceSub, Nat.reduceMul, Int.reduceToNat, Int.reduceLT, Int.reduceLE])
    | (obtain ⟨y, hy, h⟩ := h; have hw := W_made_Tape_Next hy; (try simp (maxSteps := 400000) only [go_sem, Nat.reduceBEq, Nat.reduceAdd, Nat.reduceLeDiff, Nat.reduceSub, Nat.reduceMul, Int.reduceToNat, Int.reduceLT, Int.reduceLE] at hw); refine sCall_of hw rfl rfl ?_; clear hw; clear hy; rw [M.lok_eq]; simp (maxSteps := 400000) only [go_sem, Nat.reduceBEq, Nat.reduceAdd, Nat.reduceLeDiff, Nat.reduceSub, Nat.reduceMul, Int.reduceToNat, Int.reduceLT, Int.reduceLE])
    | (obtain ⟨y, hy, h⟩ := h; have hw := W_made_Tape_Next hy; (try simp (maxSteps := 400000) only [go_sem, Nat.reduceBEq, Nat.reduceAdd, Nat.reduceLeDiff, Nat.reduceSub, Nat.reduceMul, Int.reduceToNat, Int.reduceLT, Int.reduceLE] at hw); refine sCallD_of hw rfl rfl ?_; clear hw; clear hy; rw [M.lokD_eq]; simp (maxSteps := 400000) only [go_sem, Nat.reduceBEq, Nat.reduceAdd, Nat.reduceLeDiff, Nat.reduceSub, Nat.reduceMul, Int.reduceToNat, Int.reduceLT, Int.reduceLE])
    | (obtain ⟨y, hy, h⟩ := h; have hw := W_made_Clock hy; (try simp (maxSteps := 400000) only [go_sem, Nat.reduceBEq, Nat.reduceAdd, Nat.reduceLeDiff, Nat.reduceSub, Nat.reduceMul, Int.reduceToNat, Int.reduceLT, Int.reduceLE] at hw); refine sCall_of hw rfl rfl ?_; clear hw; clear hy; rw [M.lok_eq]; simp (maxSteps := 400000) only [go_sem, Nat.reduceBEq, Nat.reduceAdd, Nat.reduceLeDiff, Nat.reduceSub, Nat.reduceMul, Int.reduceToNat, Int.reduceLT, Int.reduceLE])
    | (obtain ⟨y, hy, h⟩ := h; have hw := W_made_Clock hy; (try simp (maxSteps := 400000) only [go_sem, Nat.reduceBEq, Nat.reduceAdd, Nat.reduceLeDiff, Nat.reduceSub, Nat.reduceMul, Int.reduceToNat, Int.reduceLT, Int.reduceLE] at hw); refine sCallD_of hw rfl rfl ?_; clear hw; clear hy; rw [M.lokD_eq]; simp (maxSteps := 400000) only [go_sem, Nat.reduceBEq, Nat.reduceAdd, Nat.reduceLeDiff, Nat.reduceSub, Nat.reduceMul, Int.reduceToNat, Int.reduceLT, Int.reduceLE])
    | (refine M.wh1 (b := mc_made_Directory_L1) [0, 2, 3] [3, 2] (fun x => [(4, .int .i64 x.1)]) (fun x => [.p 3 0 [.osl 4048 1 0 x.2.1.length], .o 4048 (.arr 1 (x.2.1.map (V.int .i64))), .o 1000 (.cells [.sl (x.2.2.L.map (V.int .i64)), .int .i64 x.2.2.at_])]) [.gc [0, 2, 3, 4], .ownC 3 0 4048 1 none] h ?_ ?_ <;> first
       | (clear h; intro x Qn K hK1 h; unfold F_made_Directory_L1 at h; unfold mc_made_Directory_L1; (try simp (maxSteps := 400000) only [go_sem, Nat.reduceBEq, Nat.reduceAdd, Nat.reduceLeDiff, Nat.reduceSub, Nat.reduceMul, Int.reduceToNat, Int.reduceLT, Int.reduceLE] at h); simp (maxSteps := 400000) only [go_sem, Nat.reduceBEq, Nat.reduceAdd, Nat.reduceLeDiff, Nat.reduceSub, Nat.reduceMul, Int.reduceToNat, Int.reduceLT, Int.reduceLE])
       | (clear h; (try simp only [go_sem, Nat.reduceBEq, Nat.reduceAdd, Nat.reduceLeDiff, Nat.reduceSub, Nat.reduceMul, Int.reduceToNat, Int.reduceLT, Int.reduceLE]); (refine ⟨?_, ?_, ?_⟩ <;> (try simp only [go_sem, Nat.reduceBEq, Nat.reduceAdd, Nat.reduceLeDiff, Nat.reduceSub, Nat.reduceMul, Int.reduceToNat, Int.reduceLT, Int.reduceLE, St.good, noAny, distinct, SubSt, subE, subHp]) <;> (repeat' (first | exact trivial | rfl | apply And.intro | (simp; done)))); done)
       | fail)
    | (refine M.fold1 (b := mc_made_Directory_L2) 30 [0, 2, 3, 28, 29] [4048, 3, 2, 1000] (fun x => [(5, .osl 2005 1 0 x.length)]) (fun x => [.o 2005 (.arr 1 (x.map (V.int .i64)))]) [.gc [0, 2, 3, 5, 28, 29, 30], .acc 5 2005 1] h ?_ ?_ ?_ <;> first
       | (clear h; intro k a x Qn K hK2 hkN2 ha2 h hf; have hl := fact_int (factsE_find (n := 29) hf.1 rfl); clear hf; have hkd := decide_eq_true (Int.ofNat_lt.2 hkN2); have hkB2 := inb_iff.2 ⟨Int.natCast_nonneg k, Int.ofNat_lt.2 hkN2⟩; have hkI2 : in64 ((k : Int) + 1) = true := in64_iff.2 ⟨by omega, by (try simp only [List.length_cons, List.length_nil] at hkN2); omega⟩; unfold F_made_Directory_L2 at h; unfold mc_made_Directory_L2; (try simp (maxSteps := 400000) only [go_sem, Nat.reduceBEq, Nat.reduceAdd, Nat.reduceLeDiff, Nat.reduceSub, Nat.reduceMul, Int.reduceToNat, Int.reduceLT, Int.reduceLE] at h); simp only [go_sem, Nat.reduceBEq, Nat.reduceAdd, Nat.reduceLeDiff, Nat.reduceSub, Nat.reduceMul, Int.reduceToNat, Int.reduceLT, Int.reduceLE, ha2, hkd, hkN2, hkB2, hkI2])
       | (clear h; intro x K h; replace h := And.left (And.intro h trivial); unfold mc_made_Directory_L2; (try simp (maxSteps := 400000) only [go_sem, Nat.reduceBEq, Nat.reduceAdd, Nat.reduceLeDiff, Nat.reduceSub, Nat.reduceMul, Int.reduceToNat, Int.reduceLT, Int.reduceLE] at h); simp (maxSteps := 400000) only [go_sem, Nat.reduceBEq, Nat.reduceAdd, Nat.reduceLeDiff, Nat.reduceSub, Nat.reduceMul, Int.reduceToNat, Int.reduceLT, Int.reduceLE])
       | (clear h; (try simp only [go_sem, Nat.reduceBEq, Nat.reduceAdd, Nat.reduceLeDiff, Nat.reduceSub, Nat.reduceMul, Int.reduceToNat, Int.reduceLT, Int.reduceLE]); (refine ⟨?_, ?_, ?_⟩ <;> (try simp only [go_sem, Nat.reduceBEq, Nat.reduceAdd, Nat.reduceLeDiff, Nat.reduceSub, Nat.reduceMul, Int.reduceToNat, Int.reduceLT, Int.reduceLE, St.good, noAny, distinct, SubSt, subE, subHp]) <;> (repeat' (first | exact trivial | rfl | apply And.intro | (simp; done)))); done)
       | fail)
    | (refine M.jn1 (b := mc_made_Directory_J1) [0, 2, 3, 5, 10, 49, 50, 51] [2005, 3, 4048, 4049, 2] (fun y => []) (fun y => [.o 10 (.cells [.int .i64 y.1.Time, .int .i64 y.1.Kind, .int .i64 y.1.Principal, .int .i64 y.1.Group]), .o 1000 (.cells [.sl (y.2.L.map (V.int .i64)), .int .i64 y.2.at_])]) [] h ?_ ?_ <;> first
       | (clear h; intro Qn K hK3 h; (try simp (maxSteps := 400000) only [go_sem, Nat.reduceBEq, Nat.reduceAdd, Nat.reduceLeDiff, Nat.reduceSub, Nat.reduceMul, Int.reduceToNat, Int.reduceLT, Int.reduceLE] at h); simp (maxSteps := 400000) only [go_sem, Nat.reduceBEq, Nat.reduceAdd, Nat.reduceLeDiff, Nat.reduceSub, Nat.reduceMul, Int.reduceToNat, Int.reduceLT, Int.reduceLE])
       | (clear h; intro y h; unfold mc_made_Directory_J1; (try simp (maxSteps := 400000) only [go_sem, Nat.reduceBEq, Nat.reduceAdd, Nat.reduceLeDiff, Nat.reduceSub, Nat.reduceMul, Int.reduceToNat, Int.reduceLT, Int.reduceLE] at h); simp (maxSteps := 400000) only [go_sem, Nat.reduceBEq, Nat.reduceAdd, Nat.reduceLeDiff, Nat.reduceSub, Nat.reduceMul, Int.reduceToNat, Int.reduceLT, Int.reduceLE])
       | fail)
    | (refine M.fold1 (b := mc_made_Directory_L3) 51 [0, 2, 3, 5, 49, 50] [2005, 3, 4048, 2] (fun x => []) (fun x => [.p 3 1 [.osl 4049 4 0 x.1.length], .o 4049 (.arr 4 (x.1.map GMember.v)), .o 1000 (.cells [.sl (x.2.L.map (V.int .i64)), .int .i64 x.2.at_])]) [.gc [0, 2, 3, 5, 49, 50, 51], .ownC 3 1 4049 4 none] h ?_ ?_ ?_ <;> first
       | (clear h; intro k a x Qn K hK4 hkN4 ha4 h hf; have hl := fact_int (factsE_find (n := 50) hf.1 rfl); clear hf; have hkd := decide_eq_true (Int.ofNat_lt.2 hkN4); have hkB4 := inb_iff.2 ⟨Int.natCast_nonneg k, Int.ofNat_lt.2 hkN4⟩; have hkI4 : in64 ((k : Int) + 1) = true := in64_iff.2 ⟨by omega, by (try simp only [List.length_cons, List.length_nil] at hkN4); omega⟩; unfold F_made_Directory_L3 at h; unfold mc_made_Directory_L3; (try simp (maxSteps := 400000) only [go_sem, Nat.reduceBEq, Nat.reduceAdd, Nat.reduceLeDiff, Nat.reduceSub, Nat.reduceMul, Int.reduceToNat, Int.reduceLT, Int.reduceLE] at h); simp only [go_sem, Nat.reduceBEq, Nat.reduceAdd, Nat.reduceLeDiff, Nat.reduceSub, Nat.reduceMul, Int.reduceToNat, Int.reduceLT, Int.reduceLE, ha4, hkd, hkN4, hkB4, hkI4])
       | (clear h; intro x K h; replace h := And.left (And.intro h trivial); unfold mc_made_Directory_L3; (try simp (maxSteps := 400000) only [go_sem, Nat.reduceBEq, Nat.reduceAdd, Nat.reduceLeDiff, Nat.reduceSub, Nat.reduceMul, Int.reduceToNat, Int.reduceLT, Int.reduceLE] at h); simp (maxSteps := 400000) only [go_sem, Nat.reduceBEq, Nat.reduceAdd, Nat.reduceLeDiff, Nat.reduceSub, Nat.reduceMul, Int.reduceToNat, Int.reduceLT, Int.reduceLE])
       | (clear h; (try simp only [go_sem, Nat.reduceBEq, Nat.reduceAdd, Nat.reduceLeDiff, Nat.reduceSub, Nat.reduceMul, Int.reduceToNat, Int.reduceLT, Int.reduceLE]); (refine ⟨?_, ?_, ?_⟩ <;> (try simp only [go_sem, Nat.reduceBEq, Nat.reduceAdd, Nat.reduceLeDiff, Nat.reduceSub, Nat.reduceMul, Int.reduceToNat, Int.reduceLT, Int.reduceLE, St.good, noAny, distinct, SubSt, subE, subHp]) <;> (repeat' (first | exact trivial | rfl | apply And.intro | (simp; done)))); done)
       | fail)
    | (refine And.intro hkI2 ?_)
    | (refine And.intro hkN2 ?_)
    | (refine And.intro hkB2 ?_)
    | (simp only [ha2])
    | (refine And.intro hkI4 ?_)
    | (refine And.intro hkN4 ?_)
    | (refine And.intro hkB4 ?_)
    | (simp only [ha4])
    | (refine hK1 _ ?_; (try simp only [go_sem, Nat.reduceBEq, Nat.reduceAdd, Nat.reduceLeDiff, Nat.reduceSub, Nat.reduceMul, Int.reduceToNat, Int.reduceLT, Int.reduceLE]); refine ⟨_, h, ?_⟩; (refine ⟨?_, ?_, ?_⟩ <;> (try simp only [go_sem, Nat.reduceBEq, Nat.reduceAdd, Nat.reduceLeDiff, Nat.reduceSub, Nat.reduceMul, Int.reduceToNat, Int.reduceLT, Int.reduceLE, St.good, noAny, distinct, SubSt, subE, subHp]) <;> (repeat' (first | exact trivial | rfl | apply And.intro | (simp; done)))); done)
    | (refine hK2 _ ?_; (try simp only [go_sem, Nat.reduceBEq, Nat.reduceAdd, Nat.reduceLeDiff, Nat.reduceSub, Nat.reduceMul, Int.reduceToNat, Int.reduceLT, Int.reduceLE]); refine ⟨_, h, ?_⟩; (refine ⟨?_, ?_, ?_⟩ <;> (try simp only [go_sem, Nat.reduceBEq, Nat.reduceAdd, Nat.reduceLeDiff, Nat.reduceSub, Nat.reduceMul, Int.reduceToNat, Int.reduceLT, Int.reduceLE, St.good, noAny, distinct, SubSt, subE, subHp]) <;> (repeat' (first | exact trivial | rfl | apply And.intro | (simp; done)))); done)
    | (refine hK3 _ ?_; (try simp only [go_sem, Nat.reduceBEq, Nat.reduceAdd, Nat.reduceLeDiff, Nat.reduceSub, Nat.reduceMul, Int.reduceToNat, Int.reduceLT, Int.reduceLE]); refine ⟨_, h, ?_⟩; (refine ⟨?_, ?_, ?_⟩ <;> (try simp only [go_sem, Nat.reduceBEq, Nat.reduceAdd, Nat.reduceLeDiff, Nat.reduceSub, Nat.reduceMul, Int.reduceToNat, Int.reduceLT, Int.reduceLE, St.good, noAny, distinct, SubSt, subE, subHp]) <;> (repeat' (first | exact trivial | rfl | apply And.intro | (simp; done)))); done)
    | (refine hK4 _ ?_; (try simp only [go_sem, Nat.reduceBEq, Nat.reduceAdd, Nat.reduceLeDiff, Nat.reduceSub, Nat.reduceMul, Int.reduceToNat, Int.reduceLT, Int.reduceLE]); refine ⟨_, h, ?_⟩; (refine ⟨?_, ?_, ?_⟩ <;> (try simp only [go_sem, Nat.reduceBEq, Nat.reduceAdd, Nat.reduceLeDiff, Nat.reduceSub, Nat.reduceMul, Int.reduceToNat, Int.reduceLT, Int.reduceLE, St.good, noAny, distinct, SubSt, subE, subHp]) <;> (repeat' (first | exact trivial | rfl | apply And.intro | (simp; done)))); done)
    | (refine ⟨_, getE_map (inb_toNat (by assumption)), ?_⟩; (first | rw [M.lok_compU] | rw [M.lokD_compU]); simp (maxSteps := 400000) only [go_sem, Nat.reduceBEq, Nat.reduceAdd, Nat.reduceLeDiff, Nat.reduceSub, Nat.reduceMul, Int.reduceToNat, Int.reduceLT, Int.reduceLE])
    | (refine And.intro (ltb_of (by assumption)) ?_)
    | fail)
theorem W_made_Directory : ∀ {t_ : GTape} {y : GDirectory × GTape}, F_made_Directory t_ = some y → ACall Try.prog 11 [.ptr 1000 0] [(1000, .cells [.sl (t_.L.map (V.int .i64)), .int .i64 t_.at_])] (fun r H => r = GDirectory.v y.1 ∧ H = [(1000, .cells [.sl (y.2.L.map (V.int .i64)), .int .i64 y.2.at_])]) :=
  fun hy => Wq_made_Directory _ (Q := fun z => z = _) ⟨_, hy, rfl⟩ fun z e => by subst e; exact ⟨rfl, rfl⟩

noncomputable def F_made_Estate_L1 (d_ : GDirectory) (k346 : Int) (a347 : Int) (x345 : Int × (List GAccess) × GTape) : Option (Int × (List GAccess) × GTape) :=
  (F_made_Pick x345.2.2 [1, 1, 2, 3, 4, 5, 5, 6, 7, 7]).bind fun y410 => (F_made_Tape_Next y410.2 x345.1).bind fun y411 => jn (α := Fl (GAccess × GTape) GTape) (jn (α := Bool) (bif decide (y410.1 = 1) then some true else some (decide (y410.1 = 2))) fun j420 => bif j420 then chk (in64 ((d_.Kinds.length : Int) + 1)) ((F_made_Tape_Next y411.2 ((d_.Kinds.length : Int) + 1)).bind fun y421 => some (.nx ((GAccess.mk a347 y410.1 y411.1 y421.1 0 0 0), y421.2))) else bif decide (y410.1 = 3) then chk (in64 (a347 + 1)) ((F_made_Tape_Next y411.2 5).bind fun y422 => chk (in64 ((a347 + 1) + y422.1)) (some (.nx ((GAccess.mk a347 y410.1 y411.1 0 ((a347 + 1) + y422.1) 0 0), y422.2)))) else jn (α := Bool) (bif decide (y410.1 = 5) then some true else some (decide (y410.1 = 6))) fun j423 => bif j423 then (F_made_Tape_Next y411.2 3).bind fun y424 => some (.nx ((GAccess.mk a347 y410.1 y411.1 0 0 y424.1 0), y424.2)) else bif decide (y410.1 = 7) then (F_made_Tape_Next y411.2 x345.1).bind fun y426 => bif decide (y426.1 = y411.1) then some (.ex y426.2) else some (.nx ((GAccess.mk a347 y410.1 y411.1 0 0 0 y426.1), y426.2)) else some (.nx ((GAccess.mk a347 y410.1 y411.1 0 0 0 0), y411.2))) fun o => o.elim (fun j419 => chk (room (x345.2.1.length + [j419.1].length) 56) (some (x345.1, (x345.2.1 ++ [j419.1]), j419.2))) (fun r427 => some (x345.1, x345.2.1, r427))
noncomputable def F_made_Estate (t_ : GTape) (d_ : GDirectory) : Option (GEstate × GTape) :=
  (F_made_Tape_Between t_ 1 4).bind fun y2 => (F_made_Tape_Next y2.2 16).bind fun y218 => (F_made_Clock y218.2 y218.1).bind fun y219 => (foldL (F_made_Estate_L1 d_) y219.1 0 (y2.1, [], y219.2)).bind fun x428 => some ((GEstate.mk x428.1 x428.2.1), x428.2.2)

/- leakresponse/leakresponsemake.Estate -/
@[irreducible] def mc_made_Estate_J1 : MC :=
  (.cond (.t 50)
        (.reg [⟨.mv (.t 0), (some 53), none⟩,
          ⟨.call (.f 12) [(.t 53), (.c (.int .i64 3))] [1000] [], (some 54), none⟩,
          ⟨.fad 5 (.t 8), (some 55), none⟩,
          ⟨.st 1 (.t 55) (.t 54), none, none⟩])
        (.seq (.reg [⟨.bin false .eql (.t 31) (.c (.int .i64 7)), (some 57), none⟩,
          ⟨.mv (.t 57), (some 56), none⟩])
        (.cond (.t 56)
          (.seq (.reg [⟨.mv (.t 0), (some 58), none⟩,
            ⟨.fad 0 (.t 5), (some 59), none⟩,
            ⟨.ld none (.t 59), (some 60), none⟩,
            ⟨.call (.f 12) [(.t 58), (.t 60)] [1000] [], (some 61), none⟩,
            ⟨.fad 6 (.t 8), (some 62), none⟩,
            ⟨.st 1 (.t 62) (.t 61), none, none⟩])
          (.seq (.note (.gc [0, 3, 4, 5, 8, 15, 16, 17]) (.reg [⟨.fad 6 (.t 8), (some 63), none⟩,
            ⟨.ld none (.t 63), (some 64), none⟩,
            ⟨.fad 2 (.t 8), (some 65), none⟩,
            ⟨.ld none (.t 65), (some 66), none⟩,
            ⟨.bin false .eql (.t 64) (.t 66), (some 67), none⟩]))
          (.cond (.t 67)
            (.exit 1)
            .skip)))
          .skip)))
@[irreducible] def mc_made_Estate_J2 : MC :=
  (.cond (.t 32)
    (.reg [⟨.mv (.t 0), (some 35), none⟩,
      ⟨.fad 0 (.t 3), (some 36), none⟩,
      ⟨.ld none (.t 36), (some 37), none⟩,
      ⟨.len false (.t 37), (some 38), none⟩,
      ⟨.bin true .add (.t 38) (.c (.int .i64 1)), (some 39), none⟩,
      ⟨.call (.f 12) [(.t 35), (.t 39)] [1000] [], (some 40), none⟩,
      ⟨.fad 3 (.t 8), (some 41), none⟩,
      ⟨.st 1 (.t 41) (.t 40), none, none⟩])
    (.seq (.reg [⟨.bin false .eql (.t 31) (.c (.int .i64 3)), (some 43), none⟩,
      ⟨.mv (.t 43), (some 42), none⟩])
    (.cond (.t 42)
      (.reg [⟨.mv (.t 7), (some 44), none⟩,
        ⟨.bin true .add (.t 44) (.c (.int .i64 1)), (some 45), none⟩,
        ⟨.mv (.t 0), (some 46), none⟩,
        ⟨.call (.f 12) [(.t 46), (.c (.int .i64 5))] [1000] [], (some 47), none⟩,
        ⟨.bin true .add (.t 45) (.t 47), (some 48), none⟩,
        ⟨.fad 4 (.t 8), (some 49), none⟩,
        ⟨.st 1 (.t 49) (.t 48), none, none⟩])
      (.cut (.seq (.reg [⟨.bin false .eql (.t 31) (.c (.int .i64 5)), (some 51), none⟩,
        ⟨.mv (.t 51), (some 50), none⟩])
      (.cond (.t 50)
        .skip
        (.reg [⟨.bin false .eql (.t 31) (.c (.int .i64 6)), (some 52), none⟩,
          ⟨.mv (.t 52), (some 50), none⟩])))
      mc_made_Estate_J1))))
@[irreducible] def mc_made_Estate_J3 : MC :=
  (.reg [⟨.fad 1 (.t 5), (some 68), none⟩,
    ⟨.ld none (.t 68), (some 69), none⟩,
    ⟨.ld (some 7) (.t 8), (some 70), none⟩,
    ⟨.bslice 7 [(.t 70)], (some 71), none⟩,
    ⟨.app 7 56 (.t 69) (.t 71), (some 72), none⟩,
    ⟨.fad 1 (.t 5), (some 73), none⟩,
    ⟨.st 1 (.t 73) (.t 72), none, none⟩])
@[irreducible] def mc_made_Estate_L1 : MC :=
  (.seq (.reg [⟨.bin false .lss (.t 17) (.t 16), (some 18), none⟩])
  (.seq (.cond (.t 18)
    .skip
    (.exit 0))
  (.seq (.block 1
  (.seq (.reg [⟨.iad 1 (.t 15) (.t 17), (some 19), none⟩,
    ⟨.ld none (.t 19), (some 20), none⟩,
    ⟨.mv (.t 20), (some 7), none⟩])
  (.seq (.regD [⟨.mv (.t 7), (some 21), none⟩,
    ⟨.mv (.t 0), (some 22), none⟩,
    ⟨.lsl 1 [(.c (.int .i64 1)), (.c (.int .i64 1)), (.c (.int .i64 2)), (.c (.int .i64 3)), (.c (.int .i64 4)), (.c (.int .i64 5)), (.c (.int .i64 5)), (.c (.int .i64 6)), (.c (.int .i64 7)), (.c (.int .i64 7))], (some 23), none⟩,
    ⟨.call (.f 28) [(.t 22), (.t 23)] [1000] [], (some 24), none⟩,
    ⟨.mv (.t 0), (some 25), none⟩,
    ⟨.fad 0 (.t 5), (some 26), none⟩,
    ⟨.ld none (.t 26), (some 27), none⟩,
    ⟨.call (.f 12) [(.t 25), (.t 27)] [1000] [], (some 28), none⟩,
    ⟨.build [(.int .i64 0), (.int .i64 0), (.int .i64 0), (.int .i64 0), (.int .i64 0), (.int .i64 0), (.int .i64 0)] [(0, 1, (.t 21)), (1, 1, (.t 24)), (2, 1, (.t 28))], (some 29), none⟩,
    ⟨.alloc [(.int .i64 0), (.int .i64 0), (.int .i64 0), (.int .i64 0), (.int .i64 0), (.int .i64 0), (.int .i64 0)], (some 8), none⟩,
    ⟨.st 7 (.t 8) (.t 29), none, none⟩]
    [[], [], [], [1, 2], [], [], [5], [4, 6, 3], [0, 3, 7], [], [9, 8, 7, 0, 1, 2, 3, 4, 5, 6, 7, 8, 9]]
    [[], [], [], [1, 2], [], [], [5], [1, 2, 3, 4, 5, 6], [0, 1, 2, 3, 4, 5, 6, 7], [], [0, 1, 2, 3, 4, 5, 6, 7, 8, 9]])
  (.cut (.seq (.reg [⟨.fad 1 (.t 8), (some 30), none⟩,
    ⟨.ld none (.t 30), (some 31), none⟩])
  (.block 2
  (.cut (.seq (.reg [⟨.bin false .eql (.t 31) (.c (.int .i64 1)), (some 33), none⟩,
    ⟨.mv (.t 33), (some 32), none⟩])
  (.cond (.t 32)
    .skip
    (.reg [⟨.bin false .eql (.t 31) (.c (.int .i64 2)), (some 34), none⟩,
      ⟨.mv (.t 34), (some 32), none⟩])))
  mc_made_Estate_J2)))
  mc_made_Estate_J3))))
  (.reg [⟨.bin true .add (.t 17) (.c (.int .i64 1)), (some 74), none⟩,
    ⟨.mv (.t 74), (some 17), none⟩]))))
def mc_made_Estate : MC :=
  (.seq (.reg [⟨.box (.t 1), (some 3), none⟩,
    ⟨.alloc [(.int .i64 0), (.sl [])], (some 4), none⟩])
  (.seq (.reg [⟨.mv (.t 0), (some 9), none⟩,
    ⟨.call (.f 23) [(.t 9), (.c (.int .i64 1)), (.c (.int .i64 4))] [1000] [], (some 10), none⟩,
    ⟨.build [(.int .i64 0), .nils] [(0, 1, (.t 10))], (some 11), none⟩,
    ⟨.alloc [(.int .i64 0), (.sl [])], (some 5), none⟩,
    ⟨.st 2 (.t 5) (.t 11), none, none⟩])
  (.seq (.seq (.reg [⟨.mv (.t 0), (some 12), none⟩,
    ⟨.mv (.t 0), (some 13), none⟩,
    ⟨.call (.f 12) [(.t 13), (.c (.int .i64 16))] [1000] [], (some 14), none⟩,
    ⟨.call (.f 27) [(.t 12), (.t 14)] [1000] [], (some 15), none⟩,
    ⟨.len false (.t 15), (some 16), none⟩,
    ⟨.mv (.c (.int .i64 0)), (some 17), none⟩])
  (.block 0
  (.loop mc_made_Estate_L1)))
  (.seq (.reg [⟨.ld (some 2) (.t 5), (some 75), none⟩,
    ⟨.st 2 (.t 4) (.t 75), none, none⟩])
  .ret))))
theorem ok_made_Estate : mc_made_Estate.ok Try.prog Try.f10.ntmps (Try.f10.body.getD .skip) = true := by kernel_rfl

set_option maxHeartbeats 2000000 in
theorem Wq_made_Estate (t_ : GTape) (d_ : GDirectory) {Q : GEstate × GTape → Prop} {Q' : V → Heap → Prop} (h : Ok (F_made_Estate t_ d_) Q) (hQ : ∀ z, Q z → Q' (GEstate.v z.1) [(1000, .cells [.sl (z.2.L.map (V.int .i64)), .int .i64 z.2.at_])]) : ACall Try.prog 10 [.ptr 1000 0, GDirectory.v d_] [(1000, .cells [.sl (t_.L.map (V.int .i64)), .int .i64 t_.at_])] Q' := by
  refine acall_machN [.fzc 4] [1000] [.c 4 (some 2)] Try.func10 rfl (by kernel_rfl) ok_made_Estate (by kernel_rfl) rfl rfl fun M hf => ?_
  clear hf
  unfold F_made_Estate at h
  unfold mc_made_Estate
  (try simp (maxSteps := 400000) only [go_sem, Nat.reduceBEq, Nat.reduceAdd, Nat.reduceLeDiff, Nat.reduceSub, Nat.reduceMul, Int.reduceToNat, Int.reduceLT, Int.reduceLE] at h)
  simp (maxSteps := 400000) only [go_sem, Nat.reduceBEq, Nat.reduceAdd, Nat.reduceLeDiff, Nat.reduceSub, Nat.reduceMul, Int.reduceToNat, Int.reduceLT, Int.reduceLE]
  repeat' (first
    | (exact hQ _ h)
    | (have hq := hQ _ h; simp (maxSteps := 400000) only [go_sem, Nat.reduceBEq, Nat.reduceAdd, Nat.reduceLeDiff, Nat.reduceSub, Nat.reduceMul, Int.reduceToNat, Int.reduceLT, Int.reduceLE] at hq; exact hq)
    | (refine oblg h ?_; clear h; intro hc h)
    | (refine fork h ?_ ?_ <;> clear h <;> intro hc h)
    | (refine forkS h ?_ ?_ <;> clear h <;> intro hc h)
    | (refine And.intro (chkD_of rfl) ?_)
    | (obtain ⟨y, hy, h⟩ := h; have hw := W_made_Tape_Between hy; (try simp (maxSteps := 400000) only [go_sem, Nat.reduceBEq, Nat.reduceAdd, Nat.reduceLeDiff, Nat.reduceSub, Nat.reduceMul, Int.reduceToNat, Int.reduceLT, Int.reduceLE] at hw); refine sCall_of hw rfl rfl ?_; clear hw; clear hy; rw [M.lok_eq]; simp (maxSteps := 400000) only [go_sem, Nat.reduceBEq, Nat.reduceAdd, Nat.reduceLeDiff, Nat.reduceSub, Nat.reduceMul, Int.reduceToNat, Int.reduceLT, Int.reduceLE])
    | (obtain ⟨y, hy, h⟩ := h; have hw := W_made_Tape_Between hy; (try simp (maxSteps := 400000) only [go_sem, Nat.reduceBEq, Nat.reduceAdd, Nat.reduceLeDiff, Nat.reduceSub, Nat.reduceMul, Int.reduceToNat, Int.reduceLT, Int.reduceLE] at hw); refine sCallD_of hw rfl rfl ?_; clear hw; clear hy; rw [M.lokD_eq]; simp (maxSteps := 400000) only [go_sem, Nat.reduceBEq, Nat.reduceAdd, Nat.reduceLeDiff, Nat.reduceSub, Nat.reduceMul, Int.reduceToNat, Int.reduceLT, Int.reduceLE])
    | (obtain ⟨y, hy, h⟩ := h; have hw := W_made_Tape_Next hy; (try simp (maxSteps := 400000) only [go_sem, Nat.reduceBEq, Nat.reduceAdd, Nat.reduceLeDiff, Nat.reduceSub, Nat.reduceMul, Int.reduceToNat, Int.reduceLT, Int.reduceLE] at hw); refine sCall_of hw rfl rfl ?_; clear hw; clear hy; rw [M.lok_eq]; simp (maxSteps := 400000) only [go_sem, Nat.reduceBEq, Nat.reduceAdd, Nat.reduceLeDiff, Nat.reduceSub, Nat.reduceMul, Int.reduceToNat, Int.reduceLT, Int.reduceLE])
    | (obtain ⟨y, hy, h⟩ := h; have hw := W_made_Tape_Next hy; (try simp (maxSteps := 400000) only [go_sem, Nat.reduceBEq, Nat.reduceAdd, Nat.reduceLeDiff, Nat.reduceSub, Nat.reduceMul, Int.reduceToNat, Int.reduceLT, Int.reduceLE] at hw); refine sCallD_of hw rfl rfl ?_; clear hw; clear hy; rw [M.lokD_eq]; simp (maxSteps := 400000) only [go_sem, Nat.reduceBEq, Nat.reduceAdd, Nat.reduceLeDiff, Nat.reduceSub, Nat.reduceMul, Int.reduceToNat, Int.reduceLT, Int.reduceLE])
    | (obtain ⟨y, hy, h⟩ := h; have hw := W_made_Clock hy; (try simp (maxSteps := 400000) only [go_sem, Nat.reduceBEq, Nat.reduceAdd, Nat.reduceLeDiff, Nat.reduceSub, Nat.reduceMul, Int.reduceToNat, Int.reduceLT, Int.reduceLE] at hw); refine sCall_of hw rfl rfl ?_; clear hw; clear hy; rw [M.lok_eq]; simp (maxSteps := 400000) only [go_sem, Nat.reduceBEq, Nat.reduceAdd, Nat.reduceLeDiff, Nat.reduceSub, Nat.reduceMul, Int.reduceToNat, Int.reduceLT, Int.reduceLE])
    | (obtain ⟨y, hy, h⟩ := h; have hw := W_made_Clock hy; (try simp (maxSteps := 400000) only [go_sem, Nat.reduceBEq, Nat.reduceAdd, Nat.reduceLeDiff, Nat.reduceSub, Nat.reduceMul, Int.reduceToNat, Int.reduceLT, Int.reduceLE] at hw); refine sCallD_of hw rfl rfl ?_; clear hw; clear hy; rw [M.lokD_eq]; simp (maxSteps := 400000) only [go_sem, Nat.reduceBEq, Nat.reduceAdd, Nat.reduceLeDiff, Nat.reduceSub, Nat.reduceMul, Int.reduceToNat, Int.reduceLT, Int.reduceLE])
    | (obtain ⟨y, hy, h⟩ := h; have hw := W_made_Pick hy; (try simp (maxSteps := 400000) only [go_sem, Nat.reduceBEq, Nat.reduceAdd, Nat.reduceLeDiff, Nat.reduceSub, Nat.reduceMul, Int.reduceToNat, Int.reduceLT, Int.reduceLE] at hw); refine sCall_of hw rfl rfl ?_; clear hw; clear hy; rw [M.lok_eq]; simp (maxSteps := 400000) only [go_sem, Nat.reduceBEq, Nat.reduceAdd, Nat.reduceLeDiff, Nat.reduceSub, Nat.reduceMul, Int.reduceToNat, Int.reduceLT, Int.reduceLE])
    | (obtain ⟨y, hy, h⟩ := h; have hw := W_made_Pick hy; (try simp (maxSteps := 400000) only [go_sem, Nat.reduceBEq, Nat.reduceAdd, Nat.reduceLeDiff, Nat.reduceSub, Nat.reduceMul, Int.reduceToNat, Int.reduceLT, Int.reduceLE] at hw); refine sCallD_of hw rfl rfl ?_; clear hw; clear hy; rw [M.lokD_eq]; simp (maxSteps := 400000) only [go_sem, Nat.reduceBEq, Nat.reduceAdd, Nat.reduceLeDiff, Nat.reduceSub, Nat.reduceMul, Int.reduceToNat, Int.reduceLT, Int.reduceLE])
    | (refine M.jn1 (b := mc_made_Estate_J1) [0, 3, 4, 5, 8, 15, 16, 17, 31] [8, 5, 4081, 4, 3, 1000] (fun y => [(50, .bool y)]) (fun y => []) [] h ?_ ?_ <;> first
       | (clear h; intro Qn K hK1 h; (try simp (maxSteps := 400000) only [go_sem, Nat.reduceBEq, Nat.reduceAdd, Nat.reduceLeDiff, Nat.reduceSub, Nat.reduceMul, Int.reduceToNat, Int.reduceLT, Int.reduceLE] at h); simp (maxSteps := 400000) only [go_sem, Nat.reduceBEq, Nat.reduceAdd, Nat.reduceLeDiff, Nat.reduceSub, Nat.reduceMul, Int.reduceToNat, Int.reduceLT, Int.reduceLE])
       | (clear h; intro y h; unfold mc_made_Estate_J1; (try simp (maxSteps := 400000) only [go_sem, Nat.reduceBEq, Nat.reduceAdd, Nat.reduceLeDiff, Nat.reduceSub, Nat.reduceMul, Int.reduceToNat, Int.reduceLT, Int.reduceLE] at h); simp (maxSteps := 400000) only [go_sem, Nat.reduceBEq, Nat.reduceAdd, Nat.reduceLeDiff, Nat.reduceSub, Nat.reduceMul, Int.reduceToNat, Int.reduceLT, Int.reduceLE])
       | fail)
    | (refine M.jn1 (b := mc_made_Estate_J2) [0, 3, 4, 5, 7, 8, 15, 16, 17, 31] [8, 5, 4081, 4, 3, 1000] (fun y => [(32, .bool y)]) (fun y => []) [] h ?_ ?_ <;> first
       | (clear h; intro Qn K hK2 h; (try simp (maxSteps := 400000) only [go_sem, Nat.reduceBEq, Nat.reduceAdd, Nat.reduceLeDiff, Nat.reduceSub, Nat.reduceMul, Int.reduceToNat, Int.reduceLT, Int.reduceLE] at h); simp (maxSteps := 400000) only [go_sem, Nat.reduceBEq, Nat.reduceAdd, Nat.reduceLeDiff, Nat.reduceSub, Nat.reduceMul, Int.reduceToNat, Int.reduceLT, Int.reduceLE])
       | (clear h; intro y h; unfold mc_made_Estate_J2; (try simp (maxSteps := 400000) only [go_sem, Nat.reduceBEq, Nat.reduceAdd, Nat.reduceLeDiff, Nat.reduceSub, Nat.reduceMul, Int.reduceToNat, Int.reduceLT, Int.reduceLE] at h); simp (maxSteps := 400000) only [go_sem, Nat.reduceBEq, Nat.reduceAdd, Nat.reduceLeDiff, Nat.reduceSub, Nat.reduceMul, Int.reduceToNat, Int.reduceLT, Int.reduceLE])
       | fail)
    | (refine M.jnE (b := mc_made_Estate_J3) [0, 3, 4, 5, 8, 15, 16, 17] [5, 4081, 4, 3] (fun y => []) (fun y => [.o 8 (.cells [.int .i64 y.1.Time, .int .i64 y.1.Kind, .int .i64 y.1.Place, .int .i64 y.1.Principal, .int .i64 y.1.Until, .int .i64 y.1.Content, .int .i64 y.1.From]), .o 1000 (.cells [.sl (y.2.L.map (V.int .i64)), .int .i64 y.2.at_])]) [] h ?_ ?_ <;> first
       | (clear h; intro Qn K hK3 h; (try simp (maxSteps := 400000) only [go_sem, Nat.reduceBEq, Nat.reduceAdd, Nat.reduceLeDiff, Nat.reduceSub, Nat.reduceMul, Int.reduceToNat, Int.reduceLT, Int.reduceLE] at h); simp (maxSteps := 400000) only [go_sem, Nat.reduceBEq, Nat.reduceAdd, Nat.reduceLeDiff, Nat.reduceSub, Nat.reduceMul, Int.reduceToNat, Int.reduceLT, Int.reduceLE])
       | (clear h; intro y h; unfold mc_made_Estate_J3; (try simp (maxSteps := 400000) only [go_sem, Nat.reduceBEq, Nat.reduceAdd, Nat.reduceLeDiff, Nat.reduceSub, Nat.reduceMul, Int.reduceToNat, Int.reduceLT, Int.reduceLE] at h); simp (maxSteps := 400000) only [go_sem, Nat.reduceBEq, Nat.reduceAdd, Nat.reduceLeDiff, Nat.reduceSub, Nat.reduceMul, Int.reduceToNat, Int.reduceLT, Int.reduceLE])
       | fail)
    | (refine M.fold1 (b := mc_made_Estate_L1) 17 [0, 3, 4, 5, 15, 16] [4, 3] (fun x => []) (fun x => [.o 5 (.cells [.int .i64 x.1, .osl 4081 7 0 x.2.1.length]), .o 4081 (.arr 7 (x.2.1.map GAccess.v)), .o 1000 (.cells [.sl (x.2.2.L.map (V.int .i64)), .int .i64 x.2.2.at_])]) [.gc [0, 3, 4, 5, 15, 16, 17], .ownC 5 1 4081 7 none] h ?_ ?_ ?_ <;> first
       | (clear h; intro k a x Qn K hK4 hkN4 ha4 h hf; have hl := fact_int (factsE_find (n := 16) hf.1 rfl); clear hf; have hkd := decide_eq_true (Int.ofNat_lt.2 hkN4); have hkB4 := inb_iff.2 ⟨Int.natCast_nonneg k, Int.ofNat_lt.2 hkN4⟩; have hkI4 : in64 ((k : Int) + 1) = true := in64_iff.2 ⟨by omega, by (try simp only [List.length_cons, List.length_nil] at hkN4); omega⟩; unfold F_made_Estate_L1 at h; unfold mc_made_Estate_L1; (try simp (maxSteps := 400000) only [go_sem, Nat.reduceBEq, Nat.reduceAdd, Nat.reduceLeDiff, Nat.reduceSub, Nat.reduceMul, Int.reduceToNat, Int.reduceLT, Int.reduceLE] at h); simp only [go_sem, Nat.reduceBEq, Nat.reduceAdd, Nat.reduceLeDiff, Nat.reduceSub, Nat.reduceMul, Int.reduceToNat, Int.reduceLT, Int.reduceLE, ha4, hkd, hkN4, hkB4, hkI4])
       | (clear h; intro x K h; replace h := And.left (And.intro h trivial); unfold mc_made_Estate_L1; (try simp (maxSteps := 400000) only [go_sem, Nat.reduceBEq, Nat.reduceAdd, Nat.reduceLeDiff, Nat.reduceSub, Nat.reduceMul, Int.reduceToNat, Int.reduceLT, Int.reduceLE] at h); simp (maxSteps := 400000) only [go_sem, Nat.reduceBEq, Nat.reduceAdd, Nat.reduceLeDiff, Nat.reduceSub, Nat.reduceMul, Int.reduceToNat, Int.reduceLT, Int.reduceLE])
       | (clear h; (try simp only [go_sem, Nat.reduceBEq, Nat.reduceAdd, Nat.reduceLeDiff, Nat.reduceSub, Nat.reduceMul, Int.reduceToNat, Int.reduceLT, Int.reduceLE]); (refine ⟨?_, ?_, ?_⟩ <;> (try simp only [go_sem, Nat.reduceBEq, Nat.reduceAdd, Nat.reduceLeDiff, Nat.reduceSub, Nat.reduceMul, Int.reduceToNat, Int.reduceLT, Int.reduceLE, St.good, noAny, distinct, SubSt, subE, subHp]) <;> (repeat' (first | exact trivial | rfl | apply And.intro | (simp; done)))); done)
       | fail)
    | (refine And.intro hkI4 ?_)
    | (refine And.intro hkN4 ?_)
    | (refine And.intro hkB4 ?_)
    | (simp only [ha4])
    | (refine hK1 _ ?_; (try simp only [go_sem, Nat.reduceBEq, Nat.reduceAdd, Nat.reduceLeDiff, Nat.reduceSub, Nat.reduceMul, Int.reduceToNat, Int.reduceLT, Int.reduceLE]); refine ⟨_, h, ?_⟩; (refine ⟨?_, ?_, ?_⟩ <;> (try simp only [go_sem, Nat.reduceBEq, Nat.reduceAdd, Nat.reduceLeDiff, Nat.reduceSub, Nat.reduceMul, Int.reduceToNat, Int.reduceLT, Int.reduceLE, St.good, noAny, distinct, SubSt, subE, subHp]) <;> (repeat' (first | exact trivial | rfl | apply And.intro | (simp; done)))); done)
    | (refine hK2 _ ?_; (try simp only [go_sem, Nat.reduceBEq, Nat.reduceAdd, Nat.reduceLeDiff, Nat.reduceSub, Nat.reduceMul, Int.reduceToNat, Int.reduceLT, Int.reduceLE]); refine ⟨_, h, ?_⟩; (refine ⟨?_, ?_, ?_⟩ <;> (try simp only [go_sem, Nat.reduceBEq, Nat.reduceAdd, Nat.reduceLeDiff, Nat.reduceSub, Nat.reduceMul, Int.reduceToNat, Int.reduceLT, Int.reduceLE, St.good, noAny, distinct, SubSt, subE, subHp]) <;> (repeat' (first | exact trivial | rfl | apply And.intro | (simp; done)))); done)
    | (refine hK3 _ ?_; (try simp only [go_sem, Nat.reduceBEq, Nat.reduceAdd, Nat.reduceLeDiff, Nat.reduceSub, Nat.reduceMul, Int.reduceToNat, Int.reduceLT, Int.reduceLE]); refine ⟨_, h, ?_⟩; (refine ⟨?_, ?_, ?_⟩ <;> (try simp only [go_sem, Nat.reduceBEq, Nat.reduceAdd, Nat.reduceLeDiff, Nat.reduceSub, Nat.reduceMul, Int.reduceToNat, Int.reduceLT, Int.reduceLE, St.good, noAny, distinct, SubSt, subE, subHp]) <;> (repeat' (first | exact trivial | rfl | apply And.intro | (simp; done)))); done)
    | (refine hK4 _ ?_; (try simp only [go_sem, Nat.reduceBEq, Nat.reduceAdd, Nat.reduceLeDiff, Nat.reduceSub, Nat.reduceMul, Int.reduceToNat, Int.reduceLT, Int.reduceLE]); refine ⟨_, h, ?_⟩; (refine ⟨?_, ?_, ?_⟩ <;> (try simp only [go_sem, Nat.reduceBEq, Nat.reduceAdd, Nat.reduceLeDiff, Nat.reduceSub, Nat.reduceMul, Int.reduceToNat, Int.reduceLT, Int.reduceLE, St.good, noAny, distinct, SubSt, subE, subHp]) <;> (repeat' (first | exact trivial | rfl | apply And.intro | (simp; done)))); done)
    | (refine ⟨_, getE_map (inb_toNat (by assumption)), ?_⟩; (first | rw [M.lok_compU] | rw [M.lokD_compU]); simp (maxSteps := 400000) only [go_sem, Nat.reduceBEq, Nat.reduceAdd, Nat.reduceLeDiff, Nat.reduceSub, Nat.reduceMul, Int.reduceToNat, Int.reduceLT, Int.reduceLE])
    | (refine And.intro (ltb_of (by assumption)) ?_)
    | fail)
theorem W_made_Estate : ∀ {t_ : GTape} {d_ : GDirectory} {y : GEstate × GTape}, F_made_Estate t_ d_ = some y → ACall Try.prog 10 [.ptr 1000 0, GDirectory.v d_] [(1000, .cells [.sl (t_.L.map (V.int .i64)), .int .i64 t_.at_])] (fun r H => r = GEstate.v y.1 ∧ H = [(1000, .cells [.sl (y.2.L.map (V.int .i64)), .int .i64 y.2.at_])]) :=
  fun hy => Wq_made_Estate _ _ (Q := fun z => z = _) ⟨_, hy, rfl⟩ fun z e => by subst e; exact ⟨rfl, rfl⟩

def F_access_grants_L1 (place_ : Int) (t_ : Int) (k48 : Int) (a49 : GAccess) (x47 : List (Int × Int)) : Option (List (Int × Int)) :=
  grp ((decide (t_ < a49.Time) || (!decide (a49.Place = place_)))) fun b57 => bif b57 then some x47 else bif decide (a49.Kind = 1) then some (aput a49.Principal k48 x47) else bif decide (a49.Kind = 2) then some (adel a49.Principal x47) else some x47
def F_access_grants (a_ : GEstate) (place_ : Int) (t_ : Int) : Option (List (Int × Int)) :=
  (foldL (F_access_grants_L1 place_ t_) a_.Events 0 []).bind fun x58 => some x58

/- leakresponse/access.grants -/
@[irreducible] def mg_access_grants_1 : List MOp := [⟨.fad 2 (.t 9), (some 25), (some (24, false))⟩,
    ⟨.ld none (.t 25), (some 26), (some (24, false))⟩,
    ⟨.mv (.t 1), (some 27), (some (24, false))⟩,
    ⟨.bin false .neq (.t 26) (.t 27), (some 28), (some (24, false))⟩,
    ⟨.pick (.t 24) (.c (.bool true)) (.t 28), (some 29), none⟩]
@[irreducible] def mc_access_grants_L1 : MC :=
  (.seq (.reg [⟨.bin false .lss (.t 14) (.t 13), (some 15), none⟩])
  (.seq (.cond (.t 15)
    .skip
    (.exit 0))
  (.seq (.block 1
  (.seq (.reg [⟨.mv (.t 14), (some 16), none⟩,
    ⟨.iad 7 (.t 12) (.t 14), (some 17), none⟩,
    ⟨.ld (some 7) (.t 17), (some 18), none⟩,
    ⟨.alloc [(.int .i64 0), (.int .i64 0), (.int .i64 0), (.int .i64 0), (.int .i64 0), (.int .i64 0), (.int .i64 0)], (some 9), none⟩,
    ⟨.mv (.t 16), (some 8), none⟩,
    ⟨.st 7 (.t 9) (.t 18), none, none⟩])
  (.block 2
  (.seq (.regI [.op ⟨.fad 0 (.t 9), (some 20), none⟩,
    .op ⟨.ld none (.t 20), (some 21), none⟩,
    .op ⟨.mv (.t 2), (some 22), none⟩,
    .op ⟨.bin false .gtr (.t 21) (.t 22), (some 23), none⟩,
    .op ⟨.mv (.t 23), (some 24), none⟩,
    .grp mg_access_grants_1,
    .op ⟨.mv (.t 29), (some 19), none⟩])
  (.cond (.t 19)
    .skip
    (.seq (.note (.gc [1, 2, 7, 8, 9, 12, 13, 14, 25, 26, 27, 28]) (.reg [⟨.fad 1 (.t 9), (some 31), none⟩,
      ⟨.ld none (.t 31), (some 32), none⟩,
      ⟨.bin false .eql (.t 32) (.c (.int .i64 1)), (some 33), none⟩,
      ⟨.mv (.t 33), (some 30), none⟩]))
    (.cond (.t 30)
      (.reg [⟨.mv (.t 7), (some 34), none⟩,
        ⟨.fad 3 (.t 9), (some 35), none⟩,
        ⟨.ld none (.t 35), (some 36), none⟩,
        ⟨.mv (.t 8), (some 37), none⟩,
        ⟨.mp (.up (.int .i64)) [(.t 34), (.t 36), (.t 37)], none, none⟩])
      (.seq (.reg [⟨.fad 1 (.t 9), (some 39), none⟩,
        ⟨.ld none (.t 39), (some 40), none⟩,
        ⟨.bin false .eql (.t 40) (.c (.int .i64 2)), (some 41), none⟩,
        ⟨.mv (.t 41), (some 38), none⟩])
      (.cond (.t 38)
        (.note (.gc [1, 2, 7, 9, 12, 13, 14, 25, 26, 27, 28]) (.reg [⟨.mv (.t 7), (some 42), none⟩,
          ⟨.fad 3 (.t 9), (some 43), none⟩,
          ⟨.ld none (.t 43), (some 44), none⟩,
          ⟨.mp (.del (.int .i64)) [(.t 42), (.t 44)], none, none⟩]))
        .skip)))))))))
  (.reg [⟨.bin true .add (.t 14) (.c (.int .i64 1)), (some 45), none⟩,
    ⟨.mv (.t 45), (some 14), none⟩]))))
def mc_access_grants : MC :=
  (.seq (.reg [⟨.box (.t 0), (some 3), none⟩,
    ⟨.mv (.c .nilm), (some 6), none⟩])
  (.seq (.reg [⟨.mp (.mk (.int .i64)) [], (some 10), none⟩,
    ⟨.mv (.t 10), (some 7), none⟩])
  (.seq (.seq (.reg [⟨.fad 1 (.t 3), (some 11), none⟩,
    ⟨.ld none (.t 11), (some 12), none⟩,
    ⟨.len false (.t 12), (some 13), none⟩,
    ⟨.mv (.c (.int .i64 0)), (some 14), none⟩])
  (.block 0
  (.loop mc_access_grants_L1)))
  (.seq (.reg [⟨.mv (.t 7), (some 46), none⟩,
    ⟨.mv (.t 46), (some 6), none⟩])
  .ret))))
theorem ok_access_grants : mc_access_grants.ok Try.prog Try.f30.ntmps (Try.f30.body.getD .skip) = true := by kernel_rfl

set_option maxHeartbeats 2000000 in
theorem Wq_access_grants (a_ : GEstate) (place_ : Int) (t_ : Int) {Q : List (Int × Int) → Prop} {Q' : V → Heap → Prop} (h : Ok (F_access_grants a_ place_ t_) Q) (hQ : ∀ z, Q z → Q' ((mpV (.int .i64) (V.int .i64) (V.int .i64)) z) []) : ACall Try.prog 30 [GEstate.v a_, .int .i64 place_, .int .i64 t_] [] Q' := by
  refine acall_machN [.fz 6] [] [.t 6] Try.func30 rfl (by kernel_rfl) ok_access_grants (by kernel_rfl) rfl rfl fun M hf => ?_
  clear hf
  unfold F_access_grants at h
  unfold mc_access_grants
  (try simp (maxSteps := 400000) only [go_sem, Nat.reduceBEq, Nat.reduceAdd, Nat.reduceLeDiff, Nat.reduceSub, Nat.reduceMul, Int.reduceToNat, Int.reduceLT, Int.reduceLE] at h)
  simp (maxSteps := 400000) only [go_sem, Nat.reduceBEq, Nat.reduceAdd, Nat.reduceLeDiff, Nat.reduceSub, Nat.reduceMul, Int.reduceToNat, Int.reduceLT, Int.reduceLE]
  repeat' (first
    | (exact hQ _ h)
    | (have hq := hQ _ h; simp (maxSteps := 400000) only [go_sem, Nat.reduceBEq, Nat.reduceAdd, Nat.reduceLeDiff, Nat.reduceSub, Nat.reduceMul, Int.reduceToNat, Int.reduceLT, Int.reduceLE] at hq; exact hq)
    | (refine oblg h ?_; clear h; intro hc h)
    | (refine fork h ?_ ?_ <;> clear h <;> intro hc h)
    | (refine forkS h ?_ ?_ <;> clear h <;> intro hc h)
    | (refine And.intro (chkD_of rfl) ?_)
    | (refine M.gv1 (ms := mg_access_grants_1) 29 [25, 26, 27, 28] h ?_ ?_ <;> first
       | (clear h; intro K hK1; unfold mg_access_grants_1; simp (maxSteps := 400000) only [go_sem, Nat.reduceBEq, Nat.reduceAdd, Nat.reduceLeDiff, Nat.reduceSub, Nat.reduceMul, Int.reduceToNat, Int.reduceLT, Int.reduceLE])
       | (clear h; intro b h; (try simp (maxSteps := 400000) only [go_sem, Nat.reduceBEq, Nat.reduceAdd, Nat.reduceLeDiff, Nat.reduceSub, Nat.reduceMul, Int.reduceToNat, Int.reduceLT, Int.reduceLE] at h); simp (maxSteps := 400000) only [go_sem, Nat.reduceBEq, Nat.reduceAdd, Nat.reduceLeDiff, Nat.reduceSub, Nat.reduceMul, Int.reduceToNat, Int.reduceLT, Int.reduceLE])
       | fail)
    | (refine M.fold1 (b := mc_access_grants_L1) 14 [1, 2, 7, 12, 13] [] (fun x => []) (fun x => [.o 10 (.map (.int .i64) (x.map (kvV (V.int .i64) (V.int .i64))))]) [] h ?_ ?_ ?_ <;> first
       | (clear h; intro k a x Qn K hK2 hkN2 ha2 h hf; have hl := fact_int (factsE_find (n := 13) hf.1 rfl); clear hf; have hkd := decide_eq_true (Int.ofNat_lt.2 hkN2); have hkB2 := inb_iff.2 ⟨Int.natCast_nonneg k, Int.ofNat_lt.2 hkN2⟩; have hkI2 : in64 ((k : Int) + 1) = true := in64_iff.2 ⟨by omega, by (try simp only [List.length_cons, List.length_nil] at hkN2); omega⟩; unfold F_access_grants_L1 at h; unfold mc_access_grants_L1; (try simp (maxSteps := 400000) only [go_sem, Nat.reduceBEq, Nat.reduceAdd, Nat.reduceLeDiff, Nat.reduceSub, Nat.reduceMul, Int.reduceToNat, Int.reduceLT, Int.reduceLE] at h); simp only [go_sem, Nat.reduceBEq, Nat.reduceAdd, Nat.reduceLeDiff, Nat.reduceSub, Nat.reduceMul, Int.reduceToNat, Int.reduceLT, Int.reduceLE, ha2, hkd, hkN2, hkB2, hkI2])
       | (clear h; intro x K h; replace h := And.left (And.intro h trivial); unfold mc_access_grants_L1; (try simp (maxSteps := 400000) only [go_sem, Nat.reduceBEq, Nat.reduceAdd, Nat.reduceLeDiff, Nat.reduceSub, Nat.reduceMul, Int.reduceToNat, Int.reduceLT, Int.reduceLE] at h); simp (maxSteps := 400000) only [go_sem, Nat.reduceBEq, Nat.reduceAdd, Nat.reduceLeDiff, Nat.reduceSub, Nat.reduceMul, Int.reduceToNat, Int.reduceLT, Int.reduceLE])
       | (clear h; (try simp only [go_sem, Nat.reduceBEq, Nat.reduceAdd, Nat.reduceLeDiff, Nat.reduceSub, Nat.reduceMul, Int.reduceToNat, Int.reduceLT, Int.reduceLE]); (refine ⟨?_, ?_, ?_⟩ <;> (try simp only [go_sem, Nat.reduceBEq, Nat.reduceAdd, Nat.reduceLeDiff, Nat.reduceSub, Nat.reduceMul, Int.reduceToNat, Int.reduceLT, Int.reduceLE, St.good, noAny, distinct, SubSt, subE, subHp]) <;> (repeat' (first | exact trivial | rfl | apply And.intro | (simp; done)))); done)
       | fail)
    | (refine And.intro hkI2 ?_)
    | (refine And.intro hkN2 ?_)
    | (refine And.intro hkB2 ?_)
    | (simp only [ha2])
    | (refine hK1 _ ?_; (refine ⟨?_, ?_, ?_⟩ <;> (try simp only [go_sem, Nat.reduceBEq, Nat.reduceAdd, Nat.reduceLeDiff, Nat.reduceSub, Nat.reduceMul, Int.reduceToNat, Int.reduceLT, Int.reduceLE, St.good, noAny, distinct, SubSt, subE, subHp, *]) <;> (repeat' (first | exact trivial | rfl | apply And.intro | (simp [*]; done)))); done)
    | (refine hK2 _ ?_; (try simp only [go_sem, Nat.reduceBEq, Nat.reduceAdd, Nat.reduceLeDiff, Nat.reduceSub, Nat.reduceMul, Int.reduceToNat, Int.reduceLT, Int.reduceLE]); refine ⟨_, h, ?_⟩; (refine ⟨?_, ?_, ?_⟩ <;> (try simp only [go_sem, Nat.reduceBEq, Nat.reduceAdd, Nat.reduceLeDiff, Nat.reduceSub, Nat.reduceMul, Int.reduceToNat, Int.reduceLT, Int.reduceLE, St.good, noAny, distinct, SubSt, subE, subHp]) <;> (repeat' (first | exact trivial | rfl | apply And.intro | (simp; done)))); done)
    | (refine bfork (fun hc => ?_) (fun hc => ?_))
    | (refine ⟨_, getE_map (inb_toNat (by assumption)), ?_⟩; (first | rw [M.lok_compU] | rw [M.lokD_compU]); simp (maxSteps := 400000) only [go_sem, Nat.reduceBEq, Nat.reduceAdd, Nat.reduceLeDiff, Nat.reduceSub, Nat.reduceMul, Int.reduceToNat, Int.reduceLT, Int.reduceLE])
    | (refine And.intro (ltb_of (by assumption)) ?_)
    | fail)
theorem W_access_grants : ∀ {a_ : GEstate} {place_ : Int} {t_ : Int} {y : List (Int × Int)}, F_access_grants a_ place_ t_ = some y → ACall Try.prog 30 [GEstate.v a_, .int .i64 place_, .int .i64 t_] [] (fun r H => r = (mpV (.int .i64) (V.int .i64) (V.int .i64)) y ∧ H = []) :=
  fun hy => Wq_access_grants _ _ _ (Q := fun z => z = _) ⟨_, hy, rfl⟩ fun z e => by subst e; exact ⟨rfl, rfl⟩

noncomputable def F_access_Granted_L1 (k21 : Int) (a19 : Int × Int) (x18 : List Int) : Option (List Int) :=
  chk (room (x18.length + [a19.1].length) 8) (some (x18 ++ [a19.1]))
noncomputable def F_access_Granted (a_ : GEstate) (place_ : Int) (t_ : Int) : Option (List Int) :=
  (F_access_known a_ place_).bind fun y4 => bif (!y4) then some [] else (F_access_grants a_ place_ t_).bind fun y15 => permL (fun l20 => (foldL F_access_Granted_L1 l20 0 []).bind fun x22 => (sortI x22).bind fun y24 => some y24) y15

/- leakresponse/access.Granted -/
@[irreducible] def mc_access_Granted_L1 : MC :=
  (.seq (.reg [⟨.mp .nxt [(.t 17)], (some 18), none⟩,
    ⟨.ext 0 (.t 18), (some 19), none⟩])
  (.seq (.cond (.t 19)
    .skip
    (.exit 0))
  (.block 1
  (.seq (.reg [⟨.mp .ent [(.t 17)], (some 20), none⟩,
    ⟨.ext 0 (.t 20), (some 21), none⟩,
    ⟨.mv (.t 21), (some 8), none⟩])
  (.reg [⟨.mv (.t 7), (some 22), none⟩,
    ⟨.mv (.t 8), (some 23), none⟩,
    ⟨.bslice 1 [(.t 23)], (some 24), none⟩,
    ⟨.app 1 8 (.t 22) (.t 24), (some 25), none⟩,
    ⟨.mv (.t 25), (some 7), none⟩])))))
def mc_access_Granted : MC :=
  (.seq (.reg [⟨.box (.t 0), (some 3), none⟩,
    ⟨.mv (.c (.sl [])), (some 6), none⟩])
  (.seq (.seq (.reg [⟨.ld (some 2) (.t 3), (some 9), none⟩,
    ⟨.mv (.t 1), (some 10), none⟩,
    ⟨.call (.f 29) [(.t 9), (.t 10)] [] [], (some 11), none⟩,
    ⟨.not (.t 11), (some 12), none⟩])
  (.cond (.t 12)
    (.seq (.reg [⟨.mv (.c (.sl [])), (some 6), none⟩])
    .ret)
    .skip))
  (.seq (.reg [⟨.mv (.c .nils), (some 7), none⟩])
  (.seq (.seq (.reg [⟨.ld (some 2) (.t 3), (some 13), none⟩,
    ⟨.mv (.t 1), (some 14), none⟩,
    ⟨.mv (.t 2), (some 15), none⟩,
    ⟨.call (.f 30) [(.t 13), (.t 14), (.t 15)] [] [], (some 16), none⟩,
    ⟨.mp .rng [(.t 16)], (some 17), none⟩])
  (.block 0
  (.loop mc_access_Granted_L1)))
  (.seq (.reg [⟨.mv (.t 7), (some 26), none⟩,
    ⟨.call (.f 31) [(.t 26)] [2007] [], (some 27), none⟩])
  (.seq (.reg [⟨.mv (.t 7), (some 28), none⟩,
    ⟨.mv (.t 28), (some 6), none⟩])
  .ret))))))
theorem ok_access_Granted : mc_access_Granted.ok Try.prog Try.f13.ntmps (Try.f13.body.getD .skip) = true := by kernel_rfl

set_option maxHeartbeats 2000000 in
theorem Wq_access_Granted (a_ : GEstate) (place_ : Int) (t_ : Int) {Q : List Int → Prop} {Q' : V → Heap → Prop} (h : Ok (F_access_Granted a_ place_ t_) Q) (hQ : ∀ z, Q z → Q' (.sl (z.map (V.int .i64))) []) : ACall Try.prog 13 [GEstate.v a_, .int .i64 place_, .int .i64 t_] [] Q' := by
  refine acall_machN [.fz 6] [] [.t 6] Try.func13 rfl (by kernel_rfl) ok_access_Granted (by kernel_rfl) rfl rfl fun M hf => ?_
  clear hf
  unfold F_access_Granted at h
  unfold mc_access_Granted
  (try simp (maxSteps := 400000) only [go_sem, Nat.reduceBEq, Nat.reduceAdd, Nat.reduceLeDiff, Nat.reduceSub, Nat.reduceMul, Int.reduceToNat, Int.reduceLT, Int.reduceLE] at h)
  simp (maxSteps := 400000) only [go_sem, Nat.reduceBEq, Nat.reduceAdd, Nat.reduceLeDiff, Nat.reduceSub, Nat.reduceMul, Int.reduceToNat, Int.reduceLT, Int.reduceLE]
  repeat' (first
    | (exact hQ _ h)
    | (refine And.intro (by refine ⟨?_, ?_, ?_, ?_⟩ <;> omega) ?_; first | exact hQ _ h | (rw [List.take_of_length_le (by omega)]; exact hQ _ h))
    | (have hq := hQ _ h; simp (maxSteps := 400000) only [go_sem, Nat.reduceBEq, Nat.reduceAdd, Nat.reduceLeDiff, Nat.reduceSub, Nat.reduceMul, Int.reduceToNat, Int.reduceLT, Int.reduceLE] at hq; exact hq)
    | (refine oblg h ?_; clear h; intro hc h)
    | (refine fork h ?_ ?_ <;> clear h <;> intro hc h)
    | (refine forkS h ?_ ?_ <;> clear h <;> intro hc h)
    | (refine And.intro (chkD_of rfl) ?_)
    | (obtain ⟨y, hy, h⟩ := h; have hw := W_access_known hy; (try simp (maxSteps := 400000) only [go_sem, Nat.reduceBEq, Nat.reduceAdd, Nat.reduceLeDiff, Nat.reduceSub, Nat.reduceMul, Int.reduceToNat, Int.reduceLT, Int.reduceLE] at hw); refine sCall_of hw rfl rfl ?_; clear hw; clear hy; rw [M.lok_eq]; simp (maxSteps := 400000) only [go_sem, Nat.reduceBEq, Nat.reduceAdd, Nat.reduceLeDiff, Nat.reduceSub, Nat.reduceMul, Int.reduceToNat, Int.reduceLT, Int.reduceLE])
    | (obtain ⟨y, hy, h⟩ := h; have hw := W_access_known hy; (try simp (maxSteps := 400000) only [go_sem, Nat.reduceBEq, Nat.reduceAdd, Nat.reduceLeDiff, Nat.reduceSub, Nat.reduceMul, Int.reduceToNat, Int.reduceLT, Int.reduceLE] at hw); refine sCallD_of hw rfl rfl ?_; clear hw; clear hy; rw [M.lokD_eq]; simp (maxSteps := 400000) only [go_sem, Nat.reduceBEq, Nat.reduceAdd, Nat.reduceLeDiff, Nat.reduceSub, Nat.reduceMul, Int.reduceToNat, Int.reduceLT, Int.reduceLE])
    | (obtain ⟨y, hy, h⟩ := h; have hw := W_access_grants hy; (try simp (maxSteps := 400000) only [go_sem, Nat.reduceBEq, Nat.reduceAdd, Nat.reduceLeDiff, Nat.reduceSub, Nat.reduceMul, Int.reduceToNat, Int.reduceLT, Int.reduceLE] at hw); refine sCall_of hw rfl rfl ?_; clear hw; clear hy; rw [M.lok_eq]; simp (maxSteps := 400000) only [go_sem, Nat.reduceBEq, Nat.reduceAdd, Nat.reduceLeDiff, Nat.reduceSub, Nat.reduceMul, Int.reduceToNat, Int.reduceLT, Int.reduceLE])
    | (obtain ⟨y, hy, h⟩ := h; have hw := W_access_grants hy; (try simp (maxSteps := 400000) only [go_sem, Nat.reduceBEq, Nat.reduceAdd, Nat.reduceLeDiff, Nat.reduceSub, Nat.reduceMul, Int.reduceToNat, Int.reduceLT, Int.reduceLE] at hw); refine sCallD_of hw rfl rfl ?_; clear hw; clear hy; rw [M.lokD_eq]; simp (maxSteps := 400000) only [go_sem, Nat.reduceBEq, Nat.reduceAdd, Nat.reduceLeDiff, Nat.reduceSub, Nat.reduceMul, Int.reduceToNat, Int.reduceLT, Int.reduceLE])
    | (obtain ⟨y, hy, h⟩ := h; have hw := acall_swe 1000 2007 (W_sortI hy); (try simp (maxSteps := 400000) only [go_sem, Nat.reduceBEq, Nat.reduceAdd, Nat.reduceLeDiff, Nat.reduceSub, Nat.reduceMul, Int.reduceToNat, Int.reduceLT, Int.reduceLE] at hw); refine sCall_of hw rfl rfl ?_; clear hw; have hlen := sortI_len hy; clear hy; rw [M.lok_eq]; simp (maxSteps := 400000) only [go_sem, Nat.reduceBEq, Nat.reduceAdd, Nat.reduceLeDiff, Nat.reduceSub, Nat.reduceMul, Int.reduceToNat, Int.reduceLT, Int.reduceLE])
    | (obtain ⟨y, hy, h⟩ := h; have hw := acall_swe 1000 2007 (W_sortI hy); (try simp (maxSteps := 400000) only [go_sem, Nat.reduceBEq, Nat.reduceAdd, Nat.reduceLeDiff, Nat.reduceSub, Nat.reduceMul, Int.reduceToNat, Int.reduceLT, Int.reduceLE] at hw); refine sCallD_of hw rfl rfl ?_; clear hw; have hlen := sortI_len hy; clear hy; rw [M.lokD_eq]; simp (maxSteps := 400000) only [go_sem, Nat.reduceBEq, Nat.reduceAdd, Nat.reduceLeDiff, Nat.reduceSub, Nat.reduceMul, Int.reduceToNat, Int.reduceLT, Int.reduceLE])
    | (refine M.mfold1 (b := mc_access_Granted_L1) (kv := (kvV (V.int .i64) (V.int .i64))) 17 [17] [] (fun x => [(7, .osl 2007 1 0 x.length)]) (fun x => [.o 2007 (.arr 1 (x.map (V.int .i64)))]) [.gc [7, 17], .acc 7 2007 1] h ?_ ?_ <;> first
       | (clear h; intro rem cur x k Qn K hK1 hs1 hn1; unfold F_access_Granted_L1 at hn1; unfold mc_access_Granted_L1; simp (maxSteps := 400000) only [go_sem, Nat.reduceBEq, Nat.reduceAdd, Nat.reduceLeDiff, Nat.reduceSub, Nat.reduceMul, Int.reduceToNat, Int.reduceLT, Int.reduceLE])
       | (clear h; (try simp only [go_sem, Nat.reduceBEq, Nat.reduceAdd, Nat.reduceLeDiff, Nat.reduceSub, Nat.reduceMul, Int.reduceToNat, Int.reduceLT, Int.reduceLE]); (refine ⟨?_, ?_, ?_⟩ <;> (try simp only [go_sem, Nat.reduceBEq, Nat.reduceAdd, Nat.reduceLeDiff, Nat.reduceSub, Nat.reduceMul, Int.reduceToNat, Int.reduceLT, Int.reduceLE, St.good, noAny, distinct, SubSt, subE, subHp]) <;> (repeat' (first | exact trivial | rfl | apply And.intro | (simp; done)))); done)
       | fail)
    | (refine nxt_of hs1 hn1 ?_ ?_ <;> first
       | (intro h; rw [M.lok_eq]; (try simp (maxSteps := 400000) only [go_sem, Nat.reduceBEq, Nat.reduceAdd, Nat.reduceLeDiff, Nat.reduceSub, Nat.reduceMul, Int.reduceToNat, Int.reduceLT, Int.reduceLE] at h); simp (maxSteps := 400000) only [go_sem, Nat.reduceBEq, Nat.reduceAdd, Nat.reduceLeDiff, Nat.reduceSub, Nat.reduceMul, Int.reduceToNat, Int.reduceLT, Int.reduceLE])
       | (intro i a h; rw [M.lok_eq]; (try simp (maxSteps := 400000) only [go_sem, Nat.reduceBEq, Nat.reduceAdd, Nat.reduceLeDiff, Nat.reduceSub, Nat.reduceMul, Int.reduceToNat, Int.reduceLT, Int.reduceLE] at h); simp (maxSteps := 400000) only [go_sem, Nat.reduceBEq, Nat.reduceAdd, Nat.reduceLeDiff, Nat.reduceSub, Nat.reduceMul, Int.reduceToNat, Int.reduceLT, Int.reduceLE])
       | fail)
    | (apply hK1; (try simp only [go_sem, Nat.reduceBEq, Nat.reduceAdd, Nat.reduceLeDiff, Nat.reduceSub, Nat.reduceMul, Int.reduceToNat, Int.reduceLT, Int.reduceLE]); refine ⟨_, h, ?_⟩; (refine ⟨?_, ?_, ?_⟩ <;> (try simp only [go_sem, Nat.reduceBEq, Nat.reduceAdd, Nat.reduceLeDiff, Nat.reduceSub, Nat.reduceMul, Int.reduceToNat, Int.reduceLT, Int.reduceLE, St.good, noAny, distinct, SubSt, subE, subHp]) <;> (repeat' (first | exact trivial | rfl | apply And.intro | (simp; done)))); done)
    | (refine ⟨_, getE_map (inb_toNat (by assumption)), ?_⟩; (first | rw [M.lok_compU] | rw [M.lokD_compU]); simp (maxSteps := 400000) only [go_sem, Nat.reduceBEq, Nat.reduceAdd, Nat.reduceLeDiff, Nat.reduceSub, Nat.reduceMul, Int.reduceToNat, Int.reduceLT, Int.reduceLE])
    | (refine And.intro (ltb_of (by assumption)) ?_)
    | fail)
theorem W_access_Granted : ∀ {a_ : GEstate} {place_ : Int} {t_ : Int} {y : List Int}, F_access_Granted a_ place_ t_ = some y → ACall Try.prog 13 [GEstate.v a_, .int .i64 place_, .int .i64 t_] [] (fun r H => r = .sl (y.map (V.int .i64)) ∧ H = []) :=
  fun hy => Wq_access_Granted _ _ _ (Q := fun z => z = _) ⟨_, hy, rfl⟩ fun z e => by subst e; exact ⟨rfl, rfl⟩

def F_ref23_Ints_L1 (b_ : List Int) (k11 : Int) (a12 : Int) (x10 : Unit) : Option (Fl Unit Bool) :=
  chk (inb k11 b_.length) (bif (!decide (a12 = (b_.getD (k11).toNat default))) then some (.ex false) else some (.nx ()))
def F_ref23_Ints (a_ : List Int) (b_ : List Int) : Option Bool :=
  bif (!decide ((a_.length : Int) = (b_.length : Int))) then some false else (forL (F_ref23_Ints_L1 b_) a_ 0 ()).bind fun o => o.elim (fun x13 => some true) (fun r14 => some r14)

/- leakresponse/leakresponseref23.Ints -/
@[irreducible] def mc_ref23_Ints_L1 : MC :=
  (.seq (.reg [⟨.bin false .lss (.t 13) (.t 12), (some 14), none⟩])
  (.seq (.cond (.t 14)
    .skip
    (.exit 0))
  (.seq (.block 1
  (.seq (.reg [⟨.mv (.t 13), (some 15), none⟩,
    ⟨.mv (.t 15), (some 5), none⟩])
  (.seq (.regD [⟨.mv (.t 0), (some 16), none⟩,
    ⟨.mv (.t 5), (some 17), none⟩,
    ⟨.iad 1 (.t 16) (.t 17), (some 18), none⟩,
    ⟨.ld none (.t 18), (some 19), none⟩,
    ⟨.mv (.t 1), (some 20), none⟩,
    ⟨.mv (.t 5), (some 21), none⟩,
    ⟨.iad 1 (.t 20) (.t 21), (some 22), none⟩,
    ⟨.ld none (.t 22), (some 23), none⟩,
    ⟨.bin false .neq (.t 19) (.t 23), (some 24), none⟩]
    [[], [], [0, 1], [2], [], [], [4, 5], [6], [3, 7]]
    [[], [], [0, 1], [0, 1, 2], [], [], [4, 5], [4, 5, 6], [0, 1, 2, 3, 4, 5, 6, 7]])
  (.cond (.t 24)
    (.seq (.reg [⟨.mv (.c (.bool false)), (some 4), none⟩])
    .ret)
    .skip))))
  (.reg [⟨.bin true .add (.t 13) (.c (.int .i64 1)), (some 25), none⟩,
    ⟨.mv (.t 25), (some 13), none⟩]))))
def mc_ref23_Ints : MC :=
  (.seq (.reg [⟨.mv (.c (.bool false)), (some 4), none⟩])
  (.seq (.seq (.reg [⟨.mv (.t 0), (some 6), none⟩,
    ⟨.len false (.t 6), (some 7), none⟩,
    ⟨.mv (.t 1), (some 8), none⟩,
    ⟨.len false (.t 8), (some 9), none⟩,
    ⟨.bin false .neq (.t 7) (.t 9), (some 10), none⟩])
  (.cond (.t 10)
    (.seq (.reg [⟨.mv (.c (.bool false)), (some 4), none⟩])
    .ret)
    .skip))
  (.seq (.seq (.reg [⟨.mv (.t 0), (some 11), none⟩,
    ⟨.len false (.t 11), (some 12), none⟩,
    ⟨.mv (.c (.int .i64 0)), (some 13), none⟩])
  (.block 0
  (.loop mc_ref23_Ints_L1)))
  (.seq (.reg [⟨.mv (.c (.bool true)), (some 4), none⟩])
  .ret))))
theorem ok_ref23_Ints : mc_ref23_Ints.ok Try.prog Try.f16.ntmps (Try.f16.body.getD .skip) = true := by kernel_rfl

set_option maxHeartbeats 2000000 in
theorem Wq_ref23_Ints (a_ : List Int) (b_ : List Int) {Q : Bool → Prop} {Q' : V → Heap → Prop} (h : Ok (F_ref23_Ints a_ b_) Q) (hQ : ∀ z, Q z → Q' (.bool z) []) : ACall Try.prog 16 [.sl (a_.map (V.int .i64)), .sl (b_.map (V.int .i64))] [] Q' := by
  refine acall_machN [] [] [.t 4] Try.func16 rfl (by kernel_rfl) ok_ref23_Ints (by kernel_rfl) rfl rfl fun M hf => ?_
  clear hf
  unfold F_ref23_Ints at h
  unfold mc_ref23_Ints
  (try simp (maxSteps := 400000) only [go_sem, Nat.reduceBEq, Nat.reduceAdd, Nat.reduceLeDiff, Nat.reduceSub, Nat.reduceMul, Int.reduceToNat, Int.reduceLT, Int.reduceLE] at h)
  simp (maxSteps := 400000) only [go_sem, Nat.reduceBEq, Nat.reduceAdd, Nat.reduceLeDiff, Nat.reduceSub, Nat.reduceMul, Int.reduceToNat, Int.reduceLT, Int.reduceLE]
  repeat' (first
    | (exact hQ _ h)
    | (have hq := hQ _ h; simp (maxSteps := 400000) only [go_sem, Nat.reduceBEq, Nat.reduceAdd, Nat.reduceLeDiff, Nat.reduceSub, Nat.reduceMul, Int.reduceToNat, Int.reduceLT, Int.reduceLE] at hq; exact hq)
    | (refine oblg h ?_; clear h; intro hc h)
    | (refine fork h ?_ ?_ <;> clear h <;> intro hc h)
    | (refine forkS h ?_ ?_ <;> clear h <;> intro hc h)
    | (refine And.intro (chkD_of rfl) ?_)
    | (refine M.for1 (b := mc_ref23_Ints_L1) 13 [0, 1, 12] [] (fun x => []) (fun x => []) [] h ?_ ?_ ?_ <;> first
       | (clear h; intro k a x Qn K hK1 hkN1 ha1 h hf; have hl := fact_int (factsE_find (n := 12) hf.1 rfl); clear hf; have hkd := decide_eq_true (Int.ofNat_lt.2 hkN1); have hkB1 := inb_iff.2 ⟨Int.natCast_nonneg k, Int.ofNat_lt.2 hkN1⟩; have hkI1 : in64 ((k : Int) + 1) = true := in64_iff.2 ⟨by omega, by (try simp only [List.length_cons, List.length_nil] at hkN1); omega⟩; unfold F_ref23_Ints_L1 at h; unfold mc_ref23_Ints_L1; (try simp (maxSteps := 400000) only [go_sem, Nat.reduceBEq, Nat.reduceAdd, Nat.reduceLeDiff, Nat.reduceSub, Nat.reduceMul, Int.reduceToNat, Int.reduceLT, Int.reduceLE] at h); simp only [go_sem, Nat.reduceBEq, Nat.reduceAdd, Nat.reduceLeDiff, Nat.reduceSub, Nat.reduceMul, Int.reduceToNat, Int.reduceLT, Int.reduceLE, ha1, hkd, hkN1, hkB1, hkI1])
       | (clear h; intro x K h; replace h := And.left (And.intro h trivial); unfold mc_ref23_Ints_L1; (try simp (maxSteps := 400000) only [go_sem, Nat.reduceBEq, Nat.reduceAdd, Nat.reduceLeDiff, Nat.reduceSub, Nat.reduceMul, Int.reduceToNat, Int.reduceLT, Int.reduceLE] at h); simp (maxSteps := 400000) only [go_sem, Nat.reduceBEq, Nat.reduceAdd, Nat.reduceLeDiff, Nat.reduceSub, Nat.reduceMul, Int.reduceToNat, Int.reduceLT, Int.reduceLE])
       | (clear h; (try simp only [go_sem, Nat.reduceBEq, Nat.reduceAdd, Nat.reduceLeDiff, Nat.reduceSub, Nat.reduceMul, Int.reduceToNat, Int.reduceLT, Int.reduceLE]); (refine ⟨?_, ?_, ?_⟩ <;> (try simp only [go_sem, Nat.reduceBEq, Nat.reduceAdd, Nat.reduceLeDiff, Nat.reduceSub, Nat.reduceMul, Int.reduceToNat, Int.reduceLT, Int.reduceLE, St.good, noAny, distinct, SubSt, subE, subHp]) <;> (repeat' (first | exact trivial | rfl | apply And.intro | (simp; done)))); done)
       | fail)
    | (refine And.intro hkI1 ?_)
    | (refine And.intro hkN1 ?_)
    | (refine And.intro hkB1 ?_)
    | (simp only [ha1])
    | (refine hK1 _ ?_; (try simp only [go_sem, Nat.reduceBEq, Nat.reduceAdd, Nat.reduceLeDiff, Nat.reduceSub, Nat.reduceMul, Int.reduceToNat, Int.reduceLT, Int.reduceLE]); refine ⟨_, h, ?_⟩; (refine ⟨?_, ?_, ?_⟩ <;> (try simp only [go_sem, Nat.reduceBEq, Nat.reduceAdd, Nat.reduceLeDiff, Nat.reduceSub, Nat.reduceMul, Int.reduceToNat, Int.reduceLT, Int.reduceLE, St.good, noAny, distinct, SubSt, subE, subHp]) <;> (repeat' (first | exact trivial | rfl | apply And.intro | (simp; done)))); done)
    | (refine ⟨_, getE_map (inb_toNat (by assumption)), ?_⟩; (first | rw [M.lok_compU] | rw [M.lokD_compU]); simp (maxSteps := 400000) only [go_sem, Nat.reduceBEq, Nat.reduceAdd, Nat.reduceLeDiff, Nat.reduceSub, Nat.reduceMul, Int.reduceToNat, Int.reduceLT, Int.reduceLE])
    | (refine And.intro (ltb_of (by assumption)) ?_)
    | fail)
theorem W_ref23_Ints : ∀ {a_ : List Int} {b_ : List Int} {y : Bool}, F_ref23_Ints a_ b_ = some y → ACall Try.prog 16 [.sl (a_.map (V.int .i64)), .sl (b_.map (V.int .i64))] [] (fun r H => r = .bool y ∧ H = []) :=
  fun hy => Wq_ref23_Ints _ _ (Q := fun z => z = _) ⟨_, hy, rfl⟩ fun z e => by subst e; exact ⟨rfl, rfl⟩

noncomputable def F_law27_AccessCut_L1 (y10 : Int × GTape) (k26 : Int) (a27 : GAccess) (x25 : Int × (List GAccess)) : Option (Int × (List GAccess)) :=
  bif decide (a27.Time ≤ y10.1) then chk (room (x25.2.length + [a27].length) 56) (some (x25.1, (x25.2 ++ [a27]))) else some (x25.1, x25.2)
noncomputable def F_law27_AccessCut_L2 (y8 : GEstate × GTape) (y10 : Int × GTape) (x157 : Int × GEstate) : Option (Fl (Int × GEstate) (Sum Unit Bool)) :=
  bif decide (x157.1 < y8.1.Places) then (F_access_Linked y8.1 x157.1 y10.1).bind fun y189 => (F_access_Linked x157.2 x157.1 y10.1).bind fun y191 => bif (!decide (y189.1 = y191.1)) then some (.ex (.inr false)) else bif (!(y189.2 == y191.2)) then some (.ex (.inr false)) else (F_access_Granted y8.1 x157.1 y10.1).bind fun y195 => (F_access_Granted x157.2 x157.1 y10.1).bind fun y196 => (F_ref23_Ints y195 y196).bind fun y197 => bif (!y197) then some (.ex (.inr false)) else chk (in64 (x157.1 + 1)) (some (.nx ((x157.1 + 1), x157.2))) else some (.ex (.inl ()))
noncomputable def F_law27_AccessCut (l_ : List Int) : Option Bool :=
  bif decide (300 < (l_.length : Int)) then F_law27_awake.bind fun y4 => some y4 else (F_made_Directory (GTape.mk l_ 0)).bind fun y7 => (F_made_Estate y7.2 y7.1).bind fun y8 => (F_made_Tape_Next y8.2 32).bind fun y10 => (foldL (F_law27_AccessCut_L1 y10) y8.1.Events 0 (y8.1.Places, [])).bind fun x28 => (loop (F_law27_AccessCut_L2 y8 y10) (0, (GEstate.mk x28.1 x28.2))).bind fun r198 => Sum.elim (fun u199 => F_law27_awake.bind fun y202 => some y202) (fun u200 => some u200) r198

/- leakresponse/leakresponselaw27.AccessCut -/
@[irreducible] def mc_law27_AccessCut_L1 : MC :=
  (.seq (.reg [⟨.bin false .lss (.t 33) (.t 32), (some 34), none⟩])
  (.seq (.cond (.t 34)
    .skip
    (.exit 0))
  (.seq (.block 1
  (.seq (.reg [⟨.iad 7 (.t 31) (.t 33), (some 35), none⟩,
    ⟨.ld (some 7) (.t 35), (some 36), none⟩,
    ⟨.alloc [(.int .i64 0), (.int .i64 0), (.int .i64 0), (.int .i64 0), (.int .i64 0), (.int .i64 0), (.int .i64 0)], (some 8), none⟩,
    ⟨.st 7 (.t 8) (.t 36), none, none⟩])
  (.seq (.reg [⟨.fad 0 (.t 8), (some 37), none⟩,
    ⟨.ld none (.t 37), (some 38), none⟩,
    ⟨.mv (.t 5), (some 39), none⟩,
    ⟨.bin false .leq (.t 38) (.t 39), (some 40), none⟩])
  (.cond (.t 40)
    (.reg [⟨.fad 1 (.t 6), (some 41), none⟩,
      ⟨.ld none (.t 41), (some 42), none⟩,
      ⟨.ld (some 7) (.t 8), (some 43), none⟩,
      ⟨.bslice 7 [(.t 43)], (some 44), none⟩,
      ⟨.app 7 56 (.t 42) (.t 44), (some 45), none⟩,
      ⟨.fad 1 (.t 6), (some 46), none⟩,
      ⟨.st 1 (.t 46) (.t 45), none, none⟩])
    .skip))))
  (.reg [⟨.bin true .add (.t 33) (.c (.int .i64 1)), (some 47), none⟩,
    ⟨.mv (.t 47), (some 33), none⟩]))))
@[irreducible] def mc_law27_AccessCut_L2 : MC :=
  (.seq (.seq (.reg [⟨.mv (.t 9), (some 48), none⟩,
    ⟨.fad 0 (.t 4), (some 49), none⟩,
    ⟨.ld none (.t 49), (some 50), none⟩,
    ⟨.bin false .lss (.t 48) (.t 50), (some 51), none⟩])
  (.cond (.t 51)
    .skip
    (.exit 2)))
  (.seq (.block 3
  (.seq (.reg [⟨.ld (some 2) (.t 4), (some 55), none⟩,
    ⟨.mv (.t 9), (some 56), none⟩,
    ⟨.mv (.t 5), (some 57), none⟩,
    ⟨.call (.f 14) [(.t 55), (.t 56), (.t 57)] [] [], (some 58), none⟩,
    ⟨.mv (.t 58), (some 54), none⟩,
    ⟨.ext 0 (.t 54), (some 59), none⟩,
    ⟨.ext 1 (.t 54), (some 60), none⟩,
    ⟨.mv (.t 59), (some 10), none⟩,
    ⟨.mv (.t 60), (some 11), none⟩])
  (.seq (.note (.gc [4, 5, 6, 9, 10, 11, 72, 73, 74, 77, 78, 79, 80, 81, 82, 83, 84, 85, 86]) (.regI [.op ⟨.ld (some 2) (.t 6), (some 62), none⟩,
    .op ⟨.mv (.t 9), (some 63), none⟩,
    .op ⟨.mv (.t 5), (some 64), none⟩,
    .nt (.fz 62),
    .op ⟨.call (.f 14) [(.t 62), (.t 63), (.t 64)] [] [], (some 65), none⟩,
    .op ⟨.mv (.t 65), (some 61), none⟩,
    .op ⟨.ext 0 (.t 61), (some 66), none⟩,
    .op ⟨.ext 1 (.t 61), (some 67), none⟩,
    .op ⟨.mv (.t 66), (some 12), none⟩,
    .op ⟨.mv (.t 67), (some 13), none⟩]))
  (.seq (.regD [⟨.mv (.t 10), (some 68), none⟩,
    ⟨.mv (.t 12), (some 69), none⟩,
    ⟨.bin false .neq (.t 68) (.t 69), (some 70), none⟩,
    ⟨.mv (.t 70), (some 71), none⟩,
    ⟨.mv (.t 11), (some 72), (some (71, false))⟩,
    ⟨.mv (.t 13), (some 73), (some (71, false))⟩,
    ⟨.beq true (.t 72) (.t 73), (some 74), (some (71, false))⟩,
    ⟨.pick (.t 71) (.c (.bool true)) (.t 74), (some 75), none⟩,
    ⟨.mv (.t 75), (some 76), none⟩,
    ⟨.ld (some 2) (.t 4), (some 77), (some (76, false))⟩,
    ⟨.mv (.t 9), (some 78), (some (76, false))⟩,
    ⟨.mv (.t 5), (some 79), (some (76, false))⟩,
    ⟨.call (.f 13) [(.t 77), (.t 78), (.t 79)] [] [], (some 80), (some (76, false))⟩,
    ⟨.ld (some 2) (.t 6), (some 81), (some (76, false))⟩,
    ⟨.mv (.t 9), (some 82), (some (76, false))⟩,
    ⟨.mv (.t 5), (some 83), (some (76, false))⟩,
    ⟨.call (.f 13) [(.t 81), (.t 82), (.t 83)] [] [], (some 84), (some (76, false))⟩,
    ⟨.call (.f 16) [(.t 80), (.t 84)] [] [], (some 85), (some (76, false))⟩,
    ⟨.not (.t 85), (some 86), (some (76, false))⟩,
    ⟨.pick (.t 76) (.c (.bool true)) (.t 86), (some 87), none⟩]
    [[], [], [0, 1], [2], [3], [3], [4, 5, 3], [3, 6], [7, 3], [8], [8], [8], [9, 10, 11, 8, 8], [8], [8], [8], [13, 14, 15, 12, 8], [12, 16, 16, 8], [17, 8], [8, 18]]
    [[], [], [0, 1], [0, 1, 2], [0, 1, 2, 3], [0, 1, 2, 3], [0, 1, 2, 3, 4, 5], [0, 1, 2, 3, 4, 5, 6], [0, 1, 2, 3, 4, 5, 6, 7], [0, 1, 2, 3, 4, 5, 6, 7, 8], [0, 1, 2, 3, 4, 5, 6, 7, 8], [0, 1, 2, 3, 4, 5, 6, 7, 8], [0, 1, 2, 3, 4, 5, 6, 7, 8, 9, 10, 11], [0, 1, 2, 3, 4, 5, 6, 7, 8], [0, 1, 2, 3, 4, 5, 6, 7, 8], [0, 1, 2, 3, 4, 5, 6, 7, 8], [0, 1, 2, 3, 4, 5, 6, 7, 8, 9, 10, 11, 12, 13, 14, 15], [0, 1, 2, 3, 4, 5, 6, 7, 8, 9, 10, 11, 12, 13, 14, 15, 16], [0, 1, 2, 3, 4, 5, 6, 7, 8, 9, 10, 11, 12, 13, 14, 15, 16, 17], [0, 1, 2, 3, 4, 5, 6, 7, 8, 9, 10, 11, 12, 13, 14, 15, 16, 17, 18]])
  (.cond (.t 87)
    (.seq (.reg [⟨.mv (.c (.bool false)), (some 2), none⟩])
    .ret)
    .skip)))))
  (.note (.gc [4, 5, 6, 9, 72, 73, 74, 77, 78, 79, 80, 81, 82, 83, 84, 85, 86]) (.reg [⟨.mv (.t 9), (some 52), none⟩,
    ⟨.bin true .add (.t 52) (.c (.int .i64 1)), (some 53), none⟩,
    ⟨.mv (.t 53), (some 9), none⟩]))))
def mc_law27_AccessCut : MC :=
  (.seq (.reg [⟨.mv (.c (.bool false)), (some 2), none⟩])
  (.seq (.seq (.reg [⟨.mv (.t 0), (some 14), none⟩,
    ⟨.len false (.t 14), (some 15), none⟩,
    ⟨.bin false .gtr (.t 15) (.c (.int .i64 300)), (some 16), none⟩])
  (.cond (.t 16)
    (.seq (.reg [⟨.call (.f 9) [] [] [], (some 17), none⟩,
      ⟨.mv (.t 17), (some 2), none⟩])
    .ret)
    .skip))
  (.seq (.reg [⟨.mv (.t 0), (some 18), none⟩,
    ⟨.build [(.sl []), (.int .i64 0)] [(0, 1, (.t 18))], (some 19), none⟩,
    ⟨.box (.t 19), (some 20), none⟩,
    ⟨.mv (.t 20), (some 3), none⟩])
  (.seq (.note (.gc [3, 72, 73, 74, 77, 78, 79, 80, 81, 82, 83, 84, 85, 86]) (.reg [⟨.mv (.t 3), (some 21), none⟩,
    ⟨.mv (.t 3), (some 22), none⟩,
    ⟨.call (.f 11) [(.t 22)] [20] [], (some 23), none⟩,
    ⟨.call (.f 10) [(.t 21), (.t 23)] [20] [], (some 24), none⟩,
    ⟨.alloc [(.int .i64 0), (.sl [])], (some 4), none⟩,
    ⟨.st 2 (.t 4) (.t 24), none, none⟩]))
  (.seq (.reg [⟨.mv (.t 3), (some 25), none⟩,
    ⟨.call (.f 12) [(.t 25), (.c (.int .i64 32))] [20] [], (some 26), none⟩,
    ⟨.mv (.t 26), (some 5), none⟩])
  (.seq (.reg [⟨.fad 0 (.t 4), (some 27), none⟩,
    ⟨.ld none (.t 27), (some 28), none⟩,
    ⟨.build [(.int .i64 0), .nils] [(0, 1, (.t 28))], (some 29), none⟩,
    ⟨.alloc [(.int .i64 0), (.sl [])], (some 6), none⟩,
    ⟨.st 2 (.t 6) (.t 29), none, none⟩])
  (.seq (.seq (.note (.gc [4, 5, 6, 72, 73, 74, 77, 78, 79, 80, 81, 82, 83, 84, 85, 86]) (.reg [⟨.fad 1 (.t 4), (some 30), none⟩,
    ⟨.ld none (.t 30), (some 31), none⟩,
    ⟨.len false (.t 31), (some 32), none⟩,
    ⟨.mv (.c (.int .i64 0)), (some 33), none⟩]))
  (.block 0
  (.loop mc_law27_AccessCut_L1)))
  (.seq (.seq (.reg [⟨.mv (.c (.int .i64 0)), (some 9), none⟩])
  (.block 2
  (.loop mc_law27_AccessCut_L2)))
  (.seq (.reg [⟨.call (.f 9) [] [] [], (some 88), none⟩,
    ⟨.mv (.t 88), (some 2), none⟩])
  .ret)))))))))
theorem ok_law27_AccessCut : mc_law27_AccessCut.ok Try.prog Try.f4.ntmps (Try.f4.body.getD .skip) = true := by kernel_rfl

set_option maxHeartbeats 2000000 in
theorem Wq_law27_AccessCut (l_ : List Int) {Q : Bool → Prop} {Q' : V → Heap → Prop} (h : Ok (F_law27_AccessCut l_) Q) (hQ : ∀ z, Q z → Q' (.bool z) []) : ACall Try.prog 4 [.sl (l_.map (V.int .i64))] [] Q' := by
  refine acall_machN [] [] [.t 2] Try.func4 rfl (by kernel_rfl) ok_law27_AccessCut (by kernel_rfl) rfl rfl fun M hf => ?_
  clear hf
  unfold F_law27_AccessCut at h
  unfold mc_law27_AccessCut
  (try simp (maxSteps := 400000) only [go_sem, Nat.reduceBEq, Nat.reduceAdd, Nat.reduceLeDiff, Nat.reduceSub, Nat.reduceMul, Int.reduceToNat, Int.reduceLT, Int.reduceLE] at h)
  simp (maxSteps := 400000) only [go_sem, Nat.reduceBEq, Nat.reduceAdd, Nat.reduceLeDiff, Nat.reduceSub, Nat.reduceMul, Int.reduceToNat, Int.reduceLT, Int.reduceLE]
  repeat' (first
    | (exact hQ _ h)
    | (have hq := hQ _ h; simp (maxSteps := 400000) only [go_sem, Nat.reduceBEq, Nat.reduceAdd, Nat.reduceLeDiff, Nat.reduceSub, Nat.reduceMul, Int.reduceToNat, Int.reduceLT, Int.reduceLE] at hq; exact hq)
    | (refine oblg h ?_; clear h; intro hc h)
    | (refine fork h ?_ ?_ <;> clear h <;> intro hc h)
    | (refine forkS h ?_ ?_ <;> clear h <;> intro hc h)
    | (refine And.intro (chkD_of rfl) ?_)
    | (obtain ⟨y, hy, h⟩ := h; have hw := W_law27_awake hy; (try simp (maxSteps := 400000) only [go_sem, Nat.reduceBEq, Nat.reduceAdd, Nat.reduceLeDiff, Nat.reduceSub, Nat.reduceMul, Int.reduceToNat, Int.reduceLT, Int.reduceLE] at hw); refine sCall_of hw rfl rfl ?_; clear hw; clear hy; rw [M.lok_eq]; simp (maxSteps := 400000) only [go_sem, Nat.reduceBEq, Nat.reduceAdd, Nat.reduceLeDiff, Nat.reduceSub, Nat.reduceMul, Int.reduceToNat, Int.reduceLT, Int.reduceLE])
    | (obtain ⟨y, hy, h⟩ := h; have hw := W_law27_awake hy; (try simp (maxSteps := 400000) only [go_sem, Nat.reduceBEq, Nat.reduceAdd, Nat.reduceLeDiff, Nat.reduceSub, Nat.reduceMul, Int.reduceToNat, Int.reduceLT, Int.reduceLE] at hw); refine sCallD_of hw rfl rfl ?_; clear hw; clear hy; rw [M.lokD_eq]; simp (maxSteps := 400000) only [go_sem, Nat.reduceBEq, Nat.reduceAdd, Nat.reduceLeDiff, Nat.reduceSub, Nat.reduceMul, Int.reduceToNat, Int.reduceLT, Int.reduceLE])
    | (obtain ⟨y, hy, h⟩ := h; have hw := acall_swe 1000 20 (W_made_Directory hy); (try simp (maxSteps := 400000) only [go_sem, Nat.reduceBEq, Nat.reduceAdd, Nat.reduceLeDiff, Nat.reduceSub, Nat.reduceMul, Int.reduceToNat, Int.reduceLT, Int.reduceLE] at hw); refine sCall_of hw rfl rfl ?_; clear hw; clear hy; rw [M.lok_eq]; simp (maxSteps := 400000) only [go_sem, Nat.reduceBEq, Nat.reduceAdd, Nat.reduceLeDiff, Nat.reduceSub, Nat.reduceMul, Int.reduceToNat, Int.reduceLT, Int.reduceLE])
    | (obtain ⟨y, hy, h⟩ := h; have hw := acall_swe 1000 20 (W_made_Directory hy); (try simp (maxSteps := 400000) only [go_sem, Nat.reduceBEq, Nat.reduceAdd, Nat.reduceLeDiff, Nat.reduceSub, Nat.reduceMul, Int.reduceToNat, Int.reduceLT, Int.reduceLE] at hw); refine sCallD_of hw rfl rfl ?_; clear hw; clear hy; rw [M.lokD_eq]; simp (maxSteps := 400000) only [go_sem, Nat.reduceBEq, Nat.reduceAdd, Nat.reduceLeDiff, Nat.reduceSub, Nat.reduceMul, Int.reduceToNat, Int.reduceLT, Int.reduceLE])
    | (obtain ⟨y, hy, h⟩ := h; have hw := acall_swe 1000 20 (W_made_Estate hy); (try simp (maxSteps := 400000) only [go_sem, Nat.reduceBEq, Nat.reduceAdd, Nat.reduceLeDiff, Nat.reduceSub, Nat.reduceMul, Int.reduceToNat, Int.reduceLT, Int.reduceLE] at hw); refine sCall_of hw rfl rfl ?_; clear hw; clear hy; rw [M.lok_eq]; simp (maxSteps := 400000) only [go_sem, Nat.reduceBEq, Nat.reduceAdd, Nat.reduceLeDiff, Nat.reduceSub, Nat.reduceMul, Int.reduceToNat, Int.reduceLT, Int.reduceLE])
    | (obtain ⟨y, hy, h⟩ := h; have hw := acall_swe 1000 20 (W_made_Estate hy); (try simp (maxSteps := 400000) only [go_sem, Nat.reduceBEq, Nat.reduceAdd, Nat.reduceLeDiff, Nat.reduceSub, Nat.reduceMul, Int.reduceToNat, Int.reduceLT, Int.reduceLE] at hw); refine sCallD_of hw rfl rfl ?_; clear hw; clear hy; rw [M.lokD_eq]; simp (maxSteps := 400000) only [go_sem, Nat.reduceBEq, Nat.reduceAdd, Nat.reduceLeDiff, Nat.reduceSub, Nat.reduceMul, Int.reduceToNat, Int.reduceLT, Int.reduceLE])
    | (obtain ⟨y, hy, h⟩ := h; have hw := acall_swe 1000 20 (W_made_Tape_Next hy); (try simp (maxSteps := 400000) only [go_sem, Nat.reduceBEq, Nat.reduceAdd, Nat.reduceLeDiff, Nat.reduceSub, Nat.reduceMul, Int.reduceToNat, Int.reduceLT, Int.reduceLE] at hw); refine sCall_of hw rfl rfl ?_; clear hw; clear hy; rw [M.lok_eq]; simp (maxSteps := 400000) only [go_sem, Nat.reduceBEq, Nat.reduceAdd, Nat.reduceLeDiff, Nat.reduceSub, Nat.reduceMul, Int.reduceToNat, Int.reduceLT, Int.reduceLE])
    | (obtain ⟨y, hy, h⟩ := h; have hw := acall_swe 1000 20 (W_made_Tape_Next hy); (try simp (maxSteps := 400000) only [go_sem, Nat.reduceBEq, Nat.reduceAdd, Nat.reduceLeDiff, Nat.reduceSub, Nat.reduceMul, Int.reduceToNat, Int.reduceLT, Int.reduceLE] at hw); refine sCallD_of hw rfl rfl ?_; clear hw; clear hy; rw [M.lokD_eq]; simp (maxSteps := 400000) only [go_sem, Nat.reduceBEq, Nat.reduceAdd, Nat.reduceLeDiff, Nat.reduceSub, Nat.reduceMul, Int.reduceToNat, Int.reduceLT, Int.reduceLE])
    | (obtain ⟨y, hy, h⟩ := h; have hw := W_access_Linked hy; (try simp (maxSteps := 400000) only [go_sem, Nat.reduceBEq, Nat.reduceAdd, Nat.reduceLeDiff, Nat.reduceSub, Nat.reduceMul, Int.reduceToNat, Int.reduceLT, Int.reduceLE] at hw); refine sCall_of hw rfl rfl ?_; clear hw; clear hy; rw [M.lok_eq]; simp (maxSteps := 400000) only [go_sem, Nat.reduceBEq, Nat.reduceAdd, Nat.reduceLeDiff, Nat.reduceSub, Nat.reduceMul, Int.reduceToNat, Int.reduceLT, Int.reduceLE])
    | (obtain ⟨y, hy, h⟩ := h; have hw := W_access_Linked hy; (try simp (maxSteps := 400000) only [go_sem, Nat.reduceBEq, Nat.reduceAdd, Nat.reduceLeDiff, Nat.reduceSub, Nat.reduceMul, Int.reduceToNat, Int.reduceLT, Int.reduceLE] at hw); refine sCallD_of hw rfl rfl ?_; clear hw; clear hy; rw [M.lokD_eq]; simp (maxSteps := 400000) only [go_sem, Nat.reduceBEq, Nat.reduceAdd, Nat.reduceLeDiff, Nat.reduceSub, Nat.reduceMul, Int.reduceToNat, Int.reduceLT, Int.reduceLE])
    | (obtain ⟨y, hy, h⟩ := h; have hw := W_access_Granted hy; (try simp (maxSteps := 400000) only [go_sem, Nat.reduceBEq, Nat.reduceAdd, Nat.reduceLeDiff, Nat.reduceSub, Nat.reduceMul, Int.reduceToNat, Int.reduceLT, Int.reduceLE] at hw); refine sCall_of hw rfl rfl ?_; clear hw; clear hy; rw [M.lok_eq]; simp (maxSteps := 400000) only [go_sem, Nat.reduceBEq, Nat.reduceAdd, Nat.reduceLeDiff, Nat.reduceSub, Nat.reduceMul, Int.reduceToNat, Int.reduceLT, Int.reduceLE])
    | (obtain ⟨y, hy, h⟩ := h; have hw := W_access_Granted hy; (try simp (maxSteps := 400000) only [go_sem, Nat.reduceBEq, Nat.reduceAdd, Nat.reduceLeDiff, Nat.reduceSub, Nat.reduceMul, Int.reduceToNat, Int.reduceLT, Int.reduceLE] at hw); refine sCallD_of hw rfl rfl ?_; clear hw; clear hy; rw [M.lokD_eq]; simp (maxSteps := 400000) only [go_sem, Nat.reduceBEq, Nat.reduceAdd, Nat.reduceLeDiff, Nat.reduceSub, Nat.reduceMul, Int.reduceToNat, Int.reduceLT, Int.reduceLE])
    | (obtain ⟨y, hy, h⟩ := h; have hw := W_ref23_Ints hy; (try simp (maxSteps := 400000) only [go_sem, Nat.reduceBEq, Nat.reduceAdd, Nat.reduceLeDiff, Nat.reduceSub, Nat.reduceMul, Int.reduceToNat, Int.reduceLT, Int.reduceLE] at hw); refine sCall_of hw rfl rfl ?_; clear hw; clear hy; rw [M.lok_eq]; simp (maxSteps := 400000) only [go_sem, Nat.reduceBEq, Nat.reduceAdd, Nat.reduceLeDiff, Nat.reduceSub, Nat.reduceMul, Int.reduceToNat, Int.reduceLT, Int.reduceLE])
    | (obtain ⟨y, hy, h⟩ := h; have hw := W_ref23_Ints hy; (try simp (maxSteps := 400000) only [go_sem, Nat.reduceBEq, Nat.reduceAdd, Nat.reduceLeDiff, Nat.reduceSub, Nat.reduceMul, Int.reduceToNat, Int.reduceLT, Int.reduceLE] at hw); refine sCallD_of hw rfl rfl ?_; clear hw; clear hy; rw [M.lokD_eq]; simp (maxSteps := 400000) only [go_sem, Nat.reduceBEq, Nat.reduceAdd, Nat.reduceLeDiff, Nat.reduceSub, Nat.reduceMul, Int.reduceToNat, Int.reduceLT, Int.reduceLE])
    | (refine M.fold1 (b := mc_law27_AccessCut_L1) 33 [4, 5, 6, 31, 32] [4] (fun x => []) (fun x => [.o 6 (.cells [.int .i64 x.1, .osl 4097 7 0 x.2.length]), .o 4097 (.arr 7 (x.2.map GAccess.v))]) [.gc [4, 5, 6, 31, 32, 33], .ownC 6 1 4097 7 none] h ?_ ?_ ?_ <;> first
       | (clear h; intro k a x Qn K hK1 hkN1 ha1 h hf; have hl := fact_int (factsE_find (n := 32) hf.1 rfl); clear hf; have hkd := decide_eq_true (Int.ofNat_lt.2 hkN1); have hkB1 := inb_iff.2 ⟨Int.natCast_nonneg k, Int.ofNat_lt.2 hkN1⟩; have hkI1 : in64 ((k : Int) + 1) = true := in64_iff.2 ⟨by omega, by (try simp only [List.length_cons, List.length_nil] at hkN1); omega⟩; unfold F_law27_AccessCut_L1 at h; unfold mc_law27_AccessCut_L1; (try simp (maxSteps := 400000) only [go_sem, Nat.reduceBEq, Nat.reduceAdd, Nat.reduceLeDiff, Nat.reduceSub, Nat.reduceMul, Int.reduceToNat, Int.reduceLT, Int.reduceLE] at h); simp only [go_sem, Nat.reduceBEq, Nat.reduceAdd, Nat.reduceLeDiff, Nat.reduceSub, Nat.reduceMul, Int.reduceToNat, Int.reduceLT, Int.reduceLE, ha1, hkd, hkN1, hkB1, hkI1])
       | (clear h; intro x K h; replace h := And.left (And.intro h trivial); unfold mc_law27_AccessCut_L1; (try simp (maxSteps := 400000) only [go_sem, Nat.reduceBEq, Nat.reduceAdd, Nat.reduceLeDiff, Nat.reduceSub, Nat.reduceMul, Int.reduceToNat, Int.reduceLT, Int.reduceLE] at h); simp (maxSteps := 400000) only [go_sem, Nat.reduceBEq, Nat.reduceAdd, Nat.reduceLeDiff, Nat.reduceSub, Nat.reduceMul, Int.reduceToNat, Int.reduceLT, Int.reduceLE])
       | (clear h; (try simp only [go_sem, Nat.reduceBEq, Nat.reduceAdd, Nat.reduceLeDiff, Nat.reduceSub, Nat.reduceMul, Int.reduceToNat, Int.reduceLT, Int.reduceLE]); (refine ⟨?_, ?_, ?_⟩ <;> (try simp only [go_sem, Nat.reduceBEq, Nat.reduceAdd, Nat.reduceLeDiff, Nat.reduceSub, Nat.reduceMul, Int.reduceToNat, Int.reduceLT, Int.reduceLE, St.good, noAny, distinct, SubSt, subE, subHp]) <;> (repeat' (first | exact trivial | rfl | apply And.intro | (simp; done)))); done)
       | fail)
    | (refine M.wh1 (b := mc_law27_AccessCut_L2) [4, 5, 6] [4] (fun x => [(9, .int .i64 x.1)]) (fun x => [.o 6 (.cells [.int .i64 x.2.Places, .sl (x.2.Events.map GAccess.v)])]) [.fzc 6] h ?_ ?_ <;> first
       | (clear h; intro x Qn K hK2 h; unfold F_law27_AccessCut_L2 at h; unfold mc_law27_AccessCut_L2; (try simp (maxSteps := 400000) only [go_sem, Nat.reduceBEq, Nat.reduceAdd, Nat.reduceLeDiff, Nat.reduceSub, Nat.reduceMul, Int.reduceToNat, Int.reduceLT, Int.reduceLE] at h); simp (maxSteps := 400000) only [go_sem, Nat.reduceBEq, Nat.reduceAdd, Nat.reduceLeDiff, Nat.reduceSub, Nat.reduceMul, Int.reduceToNat, Int.reduceLT, Int.reduceLE])
       | (clear h; (try simp only [go_sem, Nat.reduceBEq, Nat.reduceAdd, Nat.reduceLeDiff, Nat.reduceSub, Nat.reduceMul, Int.reduceToNat, Int.reduceLT, Int.reduceLE]); (refine ⟨?_, ?_, ?_⟩ <;> (try simp only [go_sem, Nat.reduceBEq, Nat.reduceAdd, Nat.reduceLeDiff, Nat.reduceSub, Nat.reduceMul, Int.reduceToNat, Int.reduceLT, Int.reduceLE, St.good, noAny, distinct, SubSt, subE, subHp]) <;> (repeat' (first | exact trivial | rfl | apply And.intro | (simp; done)))); done)
       | fail)
    | (refine And.intro hkI1 ?_)
    | (refine And.intro hkN1 ?_)
    | (refine And.intro hkB1 ?_)
    | (simp only [ha1])
    | (refine hK1 _ ?_; (try simp only [go_sem, Nat.reduceBEq, Nat.reduceAdd, Nat.reduceLeDiff, Nat.reduceSub, Nat.reduceMul, Int.reduceToNat, Int.reduceLT, Int.reduceLE]); refine ⟨_, h, ?_⟩; (refine ⟨?_, ?_, ?_⟩ <;> (try simp only [go_sem, Nat.reduceBEq, Nat.reduceAdd, Nat.reduceLeDiff, Nat.reduceSub, Nat.reduceMul, Int.reduceToNat, Int.reduceLT, Int.reduceLE, St.good, noAny, distinct, SubSt, subE, subHp]) <;> (repeat' (first | exact trivial | rfl | apply And.intro | (simp; done)))); done)
    | (refine hK2 _ ?_; (try simp only [go_sem, Nat.reduceBEq, Nat.reduceAdd, Nat.reduceLeDiff, Nat.reduceSub, Nat.reduceMul, Int.reduceToNat, Int.reduceLT, Int.reduceLE]); refine ⟨_, h, ?_⟩; (refine ⟨?_, ?_, ?_⟩ <;> (try simp only [go_sem, Nat.reduceBEq, Nat.reduceAdd, Nat.reduceLeDiff, Nat.reduceSub, Nat.reduceMul, Int.reduceToNat, Int.reduceLT, Int.reduceLE, St.good, noAny, distinct, SubSt, subE, subHp]) <;> (repeat' (first | exact trivial | rfl | apply And.intro | (simp; done)))); done)
    | (refine ⟨_, getE_map (inb_toNat (by assumption)), ?_⟩; (first | rw [M.lok_compU] | rw [M.lokD_compU]); simp (maxSteps := 400000) only [go_sem, Nat.reduceBEq, Nat.reduceAdd, Nat.reduceLeDiff, Nat.reduceSub, Nat.reduceMul, Int.reduceToNat, Int.reduceLT, Int.reduceLE])
    | (refine And.intro (ltb_of (by assumption)) ?_)
    | fail)
theorem W_law27_AccessCut : ∀ {l_ : List Int} {y : Bool}, F_law27_AccessCut l_ = some y → ACall Try.prog 4 [.sl (l_.map (V.int .i64))] [] (fun r H => r = .bool y ∧ H = []) :=
  fun hy => Wq_law27_AccessCut _ (Q := fun z => z = _) ⟨_, hy, rfl⟩ fun z e => by subst e; exact ⟨rfl, rfl⟩

noncomputable def F_law27_AccessPlaces_L1 (y11 : Int × GTape) (k28 : Int) (a29 : GAccess) (x27 : Int × (List GAccess)) : Option (Int × (List GAccess)) :=
  bif decide (a29.Place = y11.1) then chk (room (x27.2.length + [a29].length) 56) (some (x27.1, (x27.2 ++ [a29]))) else some (x27.1, x27.2)
noncomputable def F_law27_AccessPlaces (l_ : List Int) : Option Bool :=
  bif decide (300 < (l_.length : Int)) then F_law27_awake.bind fun y4 => some y4 else (F_made_Directory (GTape.mk l_ 0)).bind fun y7 => (F_made_Estate y7.2 y7.1).bind fun y8 => (F_made_Tape_Next y8.2 y8.1.Places).bind fun y11 => (F_made_Tape_Next y11.2 32).bind fun y12 => (foldL (F_law27_AccessPlaces_L1 y11) y8.1.Events 0 (y8.1.Places, [])).bind fun x30 => (F_access_Linked y8.1 y11.1 y12.1).bind fun y32 => (F_access_Linked (GEstate.mk x30.1 x30.2) y11.1 y12.1).bind fun y34 => bif (y32.2 == y34.2) then (F_access_Granted y8.1 y11.1 y12.1).bind fun y39 => (F_access_Granted (GEstate.mk x30.1 x30.2) y11.1 y12.1).bind fun y40 => (F_ref23_Ints y39 y40).bind fun y41 => bif y41 then F_law27_awake.bind fun y42 => some y42 else some false else some false

/- leakresponse/leakresponselaw27.AccessPlaces -/
@[irreducible] def mc_law27_AccessPlaces_L1 : MC :=
  (.seq (.reg [⟨.bin false .lss (.t 37) (.t 36), (some 38), none⟩])
  (.seq (.cond (.t 38)
    .skip
    (.exit 0))
  (.seq (.block 1
  (.seq (.reg [⟨.iad 7 (.t 35) (.t 37), (some 39), none⟩,
    ⟨.ld (some 7) (.t 39), (some 40), none⟩,
    ⟨.alloc [(.int .i64 0), (.int .i64 0), (.int .i64 0), (.int .i64 0), (.int .i64 0), (.int .i64 0), (.int .i64 0)], (some 9), none⟩,
    ⟨.st 7 (.t 9) (.t 40), none, none⟩])
  (.seq (.reg [⟨.fad 2 (.t 9), (some 41), none⟩,
    ⟨.ld none (.t 41), (some 42), none⟩,
    ⟨.mv (.t 5), (some 43), none⟩,
    ⟨.bin false .eql (.t 42) (.t 43), (some 44), none⟩])
  (.cond (.t 44)
    (.reg [⟨.fad 1 (.t 7), (some 45), none⟩,
      ⟨.ld none (.t 45), (some 46), none⟩,
      ⟨.ld (some 7) (.t 9), (some 47), none⟩,
      ⟨.bslice 7 [(.t 47)], (some 48), none⟩,
      ⟨.app 7 56 (.t 46) (.t 48), (some 49), none⟩,
      ⟨.fad 1 (.t 7), (some 50), none⟩,
      ⟨.st 1 (.t 50) (.t 49), none, none⟩])
    .skip))))
  (.reg [⟨.bin true .add (.t 37) (.c (.int .i64 1)), (some 51), none⟩,
    ⟨.mv (.t 51), (some 37), none⟩]))))
def mc_law27_AccessPlaces : MC :=
  (.seq (.reg [⟨.mv (.c (.bool false)), (some 2), none⟩])
  (.seq (.seq (.reg [⟨.mv (.t 0), (some 14), none⟩,
    ⟨.len false (.t 14), (some 15), none⟩,
    ⟨.bin false .gtr (.t 15) (.c (.int .i64 300)), (some 16), none⟩])
  (.cond (.t 16)
    (.seq (.reg [⟨.call (.f 9) [] [] [], (some 17), none⟩,
      ⟨.mv (.t 17), (some 2), none⟩])
    .ret)
    .skip))
  (.seq (.reg [⟨.mv (.t 0), (some 18), none⟩,
    ⟨.build [(.sl []), (.int .i64 0)] [(0, 1, (.t 18))], (some 19), none⟩,
    ⟨.box (.t 19), (some 20), none⟩,
    ⟨.mv (.t 20), (some 3), none⟩])
  (.seq (.note (.gc [3, 70, 71, 72, 73, 74, 75, 76, 77, 78, 81]) (.reg [⟨.mv (.t 3), (some 21), none⟩,
    ⟨.mv (.t 3), (some 22), none⟩,
    ⟨.call (.f 11) [(.t 22)] [20] [], (some 23), none⟩,
    ⟨.call (.f 10) [(.t 21), (.t 23)] [20] [], (some 24), none⟩,
    ⟨.alloc [(.int .i64 0), (.sl [])], (some 4), none⟩,
    ⟨.st 2 (.t 4) (.t 24), none, none⟩]))
  (.seq (.reg [⟨.mv (.t 3), (some 25), none⟩,
    ⟨.fad 0 (.t 4), (some 26), none⟩,
    ⟨.ld none (.t 26), (some 27), none⟩,
    ⟨.call (.f 12) [(.t 25), (.t 27)] [20] [], (some 28), none⟩,
    ⟨.mv (.t 3), (some 29), none⟩,
    ⟨.call (.f 12) [(.t 29), (.c (.int .i64 32))] [20] [], (some 30), none⟩,
    ⟨.mv (.t 28), (some 5), none⟩,
    ⟨.mv (.t 30), (some 6), none⟩])
  (.seq (.note (.gc [4, 5, 6, 70, 71, 72, 73, 74, 75, 76, 77, 78, 81]) (.reg [⟨.fad 0 (.t 4), (some 31), none⟩,
    ⟨.ld none (.t 31), (some 32), none⟩,
    ⟨.build [(.int .i64 0), .nils] [(0, 1, (.t 32))], (some 33), none⟩,
    ⟨.alloc [(.int .i64 0), (.sl [])], (some 7), none⟩,
    ⟨.st 2 (.t 7) (.t 33), none, none⟩]))
  (.seq (.seq (.reg [⟨.fad 1 (.t 4), (some 34), none⟩,
    ⟨.ld none (.t 34), (some 35), none⟩,
    ⟨.len false (.t 35), (some 36), none⟩,
    ⟨.mv (.c (.int .i64 0)), (some 37), none⟩])
  (.block 0
  (.loop mc_law27_AccessPlaces_L1)))
  (.seq (.reg [⟨.ld (some 2) (.t 4), (some 53), none⟩,
    ⟨.mv (.t 5), (some 54), none⟩,
    ⟨.mv (.t 6), (some 55), none⟩,
    ⟨.call (.f 14) [(.t 53), (.t 54), (.t 55)] [] [], (some 56), none⟩,
    ⟨.mv (.t 56), (some 52), none⟩,
    ⟨.ext 0 (.t 52), (some 57), none⟩,
    ⟨.ext 1 (.t 52), (some 58), none⟩,
    ⟨.mv (.t 57), (some 10), none⟩,
    ⟨.mv (.t 58), (some 11), none⟩])
  (.seq (.note (.gc [4, 5, 6, 7, 11, 70, 71, 72, 73, 74, 75, 76, 77, 78, 81]) (.regI [.op ⟨.ld (some 2) (.t 7), (some 60), none⟩,
    .op ⟨.mv (.t 5), (some 61), none⟩,
    .op ⟨.mv (.t 6), (some 62), none⟩,
    .nt (.fz 60),
    .op ⟨.call (.f 14) [(.t 60), (.t 61), (.t 62)] [] [], (some 63), none⟩,
    .op ⟨.mv (.t 63), (some 59), none⟩,
    .op ⟨.ext 0 (.t 59), (some 64), none⟩,
    .op ⟨.ext 1 (.t 59), (some 65), none⟩,
    .op ⟨.mv (.t 64), (some 12), none⟩,
    .op ⟨.mv (.t 65), (some 13), none⟩]))
  (.seq (.note (.gc [4, 5, 6, 7, 11, 13, 70, 71, 72, 73, 74, 75, 76, 77, 78, 81]) (.regD [⟨.mv (.t 11), (some 66), none⟩,
    ⟨.mv (.t 13), (some 67), none⟩,
    ⟨.beq false (.t 66) (.t 67), (some 68), none⟩,
    ⟨.mv (.t 68), (some 69), none⟩,
    ⟨.ld (some 2) (.t 4), (some 70), (some (69, true))⟩,
    ⟨.mv (.t 5), (some 71), (some (69, true))⟩,
    ⟨.mv (.t 6), (some 72), (some (69, true))⟩,
    ⟨.call (.f 13) [(.t 70), (.t 71), (.t 72)] [] [], (some 73), (some (69, true))⟩,
    ⟨.ld (some 2) (.t 7), (some 74), (some (69, true))⟩,
    ⟨.mv (.t 5), (some 75), (some (69, true))⟩,
    ⟨.mv (.t 6), (some 76), (some (69, true))⟩,
    ⟨.call (.f 13) [(.t 74), (.t 75), (.t 76)] [] [], (some 77), (some (69, true))⟩,
    ⟨.call (.f 16) [(.t 73), (.t 77)] [] [], (some 78), (some (69, true))⟩,
    ⟨.pick (.t 69) (.t 78) (.c (.bool false)), (some 79), none⟩,
    ⟨.mv (.t 79), (some 80), none⟩,
    ⟨.call (.f 9) [] [] [], (some 81), (some (80, true))⟩,
    ⟨.pick (.t 80) (.t 81) (.c (.bool false)), (some 82), none⟩,
    ⟨.mv (.t 82), (some 2), none⟩]
    [[], [], [0, 1], [2], [3], [3], [3], [4, 5, 6, 3, 3], [3], [3], [3], [8, 9, 10, 7, 3], [7, 11, 11, 3], [3, 12], [13, 12], [14, 14], [14, 15], [16, 15, 0, 1, 2, 3, 4, 5, 6, 7, 8, 9, 10, 11, 12, 13, 14, 15, 16]]
    [[], [], [0, 1], [0, 1, 2], [0, 1, 2, 3], [0, 1, 2, 3], [0, 1, 2, 3], [0, 1, 2, 3, 4, 5, 6], [0, 1, 2, 3], [0, 1, 2, 3], [0, 1, 2, 3], [0, 1, 2, 3, 4, 5, 6, 7, 8, 9, 10], [0, 1, 2, 3, 4, 5, 6, 7, 8, 9, 10, 11], [0, 1, 2, 3, 4, 5, 6, 7, 8, 9, 10, 11, 12], [0, 1, 2, 3, 4, 5, 6, 7, 8, 9, 10, 11, 12, 13], [0, 1, 2, 3, 4, 5, 6, 7, 8, 9, 10, 11, 12, 13, 14], [0, 1, 2, 3, 4, 5, 6, 7, 8, 9, 10, 11, 12, 13, 14, 15], [0, 1, 2, 3, 4, 5, 6, 7, 8, 9, 10, 11, 12, 13, 14, 15, 16]]))
  .ret))))))))))
theorem ok_law27_AccessPlaces : mc_law27_AccessPlaces.ok Try.prog Try.f5.ntmps (Try.f5.body.getD .skip) = true := by kernel_rfl

set_option maxHeartbeats 2000000 in
theorem Wq_law27_AccessPlaces (l_ : List Int) {Q : Bool → Prop} {Q' : V → Heap → Prop} (h : Ok (F_law27_AccessPlaces l_) Q) (hQ : ∀ z, Q z → Q' (.bool z) []) : ACall Try.prog 5 [.sl (l_.map (V.int .i64))] [] Q' := by
  refine acall_machN [] [] [.t 2] Try.func5 rfl (by kernel_rfl) ok_law27_AccessPlaces (by kernel_rfl) rfl rfl fun M hf => ?_
  clear hf
  unfold F_law27_AccessPlaces at h
  unfold mc_law27_AccessPlaces
  (try simp (maxSteps := 400000) only [go_sem, Nat.reduceBEq, Nat.reduceAdd, Nat.reduceLeDiff, Nat.reduceSub, Nat.reduceMul, Int.reduceToNat, Int.reduceLT, Int.reduceLE] at h)
  simp (maxSteps := 400000) only [go_sem, Nat.reduceBEq, Nat.reduceAdd, Nat.reduceLeDiff, Nat.reduceSub, Nat.reduceMul, Int.reduceToNat, Int.reduceLT, Int.reduceLE]
  repeat' (first
    | (exact hQ _ h)
    | (have hq := hQ _ h; simp (maxSteps := 400000) only [go_sem, Nat.reduceBEq, Nat.reduceAdd, Nat.reduceLeDiff, Nat.reduceSub, Nat.reduceMul, Int.reduceToNat, Int.reduceLT, Int.reduceLE] at hq; exact hq)
    | (refine oblg h ?_; clear h; intro hc h)
    | (refine fork h ?_ ?_ <;> clear h <;> intro hc h)
    | (refine forkS h ?_ ?_ <;> clear h <;> intro hc h)
    | (refine And.intro (chkD_of rfl) ?_)
    | (obtain ⟨y, hy, h⟩ := h; have hw := W_law27_awake hy; (try simp (maxSteps := 400000) only [go_sem, Nat.reduceBEq, Nat.reduceAdd, Nat.reduceLeDiff, Nat.reduceSub, Nat.reduceMul, Int.reduceToNat, Int.reduceLT, Int.reduceLE] at hw); refine sCall_of hw rfl rfl ?_; clear hw; clear hy; rw [M.lok_eq]; simp (maxSteps := 400000) only [go_sem, Nat.reduceBEq, Nat.reduceAdd, Nat.reduceLeDiff, Nat.reduceSub, Nat.reduceMul, Int.reduceToNat, Int.reduceLT, Int.reduceLE])
    | (obtain ⟨y, hy, h⟩ := h; have hw := W_law27_awake hy; (try simp (maxSteps := 400000) only [go_sem, Nat.reduceBEq, Nat.reduceAdd, Nat.reduceLeDiff, Nat.reduceSub, Nat.reduceMul, Int.reduceToNat, Int.reduceLT, Int.reduceLE] at hw); refine sCallD_of hw rfl rfl ?_; clear hw; clear hy; rw [M.lokD_eq]; simp (maxSteps := 400000) only [go_sem, Nat.reduceBEq, Nat.reduceAdd, Nat.reduceLeDiff, Nat.reduceSub, Nat.reduceMul, Int.reduceToNat, Int.reduceLT, Int.reduceLE])
    | (obtain ⟨y, hy, h⟩ := h; have hw := acall_swe 1000 20 (W_made_Directory hy); (try simp (maxSteps := 400000) only [go_sem, Nat.reduceBEq, Nat.reduceAdd, Nat.reduceLeDiff, Nat.reduceSub, Nat.reduceMul, Int.reduceToNat, Int.reduceLT, Int.reduceLE] at hw); refine sCall_of hw rfl rfl ?_; clear hw; clear hy; rw [M.lok_eq]; simp (maxSteps := 400000) only [go_sem, Nat.reduceBEq, Nat.reduceAdd, Nat.reduceLeDiff, Nat.reduceSub, Nat.reduceMul, Int.reduceToNat, Int.reduceLT, Int.reduceLE])
    | (obtain ⟨y, hy, h⟩ := h; have hw := acall_swe 1000 20 (W_made_Directory hy); (try simp (maxSteps := 400000) only [go_sem, Nat.reduceBEq, Nat.reduceAdd, Nat.reduceLeDiff, Nat.reduceSub, Nat.reduceMul, Int.reduceToNat, Int.reduceLT, Int.reduceLE] at hw); refine sCallD_of hw rfl rfl ?_; clear hw; clear hy; rw [M.lokD_eq]; simp (maxSteps := 400000) only [go_sem, Nat.reduceBEq, Nat.reduceAdd, Nat.reduceLeDiff, Nat.reduceSub, Nat.reduceMul, Int.reduceToNat, Int.reduceLT, Int.reduceLE])
    | (obtain ⟨y, hy, h⟩ := h; have hw := acall_swe 1000 20 (W_made_Estate hy); (try simp (maxSteps := 400000) only [go_sem, Nat.reduceBEq, Nat.reduceAdd, Nat.reduceLeDiff, Nat.reduceSub, Nat.reduceMul, Int.reduceToNat, Int.reduceLT, Int.reduceLE] at hw); refine sCall_of hw rfl rfl ?_; clear hw; clear hy; rw [M.lok_eq]; simp (maxSteps := 400000) only [go_sem, Nat.reduceBEq, Nat.reduceAdd, Nat.reduceLeDiff, Nat.reduceSub, Nat.reduceMul, Int.reduceToNat, Int.reduceLT, Int.reduceLE])
    | (obtain ⟨y, hy, h⟩ := h; have hw := acall_swe 1000 20 (W_made_Estate hy); (try simp (maxSteps := 400000) only [go_sem, Nat.reduceBEq, Nat.reduceAdd, Nat.reduceLeDiff, Nat.reduceSub, Nat.reduceMul, Int.reduceToNat, Int.reduceLT, Int.reduceLE] at hw); refine sCallD_of hw rfl rfl ?_; clear hw; clear hy; rw [M.lokD_eq]; simp (maxSteps := 400000) only [go_sem, Nat.reduceBEq, Nat.reduceAdd, Nat.reduceLeDiff, Nat.reduceSub, Nat.reduceMul, Int.reduceToNat, Int.reduceLT, Int.reduceLE])
    | (obtain ⟨y, hy, h⟩ := h; have hw := acall_swe 1000 20 (W_made_Tape_Next hy); (try simp (maxSteps := 400000) only [go_sem, Nat.reduceBEq, Nat.reduceAdd, Nat.reduceLeDiff, Nat.reduceSub, Nat.reduceMul, Int.reduceToNat, Int.reduceLT, Int.reduceLE] at hw); refine sCall_of hw rfl rfl ?_; clear hw; clear hy; rw [M.lok_eq]; simp (maxSteps := 400000) only [go_sem, Nat.reduceBEq, Nat.reduceAdd, Nat.reduceLeDiff, Nat.reduceSub, Nat.reduceMul, Int.reduceToNat, Int.reduceLT, Int.reduceLE])
    | (obtain ⟨y, hy, h⟩ := h; have hw := acall_swe 1000 20 (W_made_Tape_Next hy); (try simp (maxSteps := 400000) only [go_sem, Nat.reduceBEq, Nat.reduceAdd, Nat.reduceLeDiff, Nat.reduceSub, Nat.reduceMul, Int.reduceToNat, Int.reduceLT, Int.reduceLE] at hw); refine sCallD_of hw rfl rfl ?_; clear hw; clear hy; rw [M.lokD_eq]; simp (maxSteps := 400000) only [go_sem, Nat.reduceBEq, Nat.reduceAdd, Nat.reduceLeDiff, Nat.reduceSub, Nat.reduceMul, Int.reduceToNat, Int.reduceLT, Int.reduceLE])
    | (obtain ⟨y, hy, h⟩ := h; have hw := W_access_Linked hy; (try simp (maxSteps := 400000) only [go_sem, Nat.reduceBEq, Nat.reduceAdd, Nat.reduceLeDiff, Nat.reduceSub, Nat.reduceMul, Int.reduceToNat, Int.reduceLT, Int.reduceLE] at hw); refine sCall_of hw rfl rfl ?_; clear hw; clear hy; rw [M.lok_eq]; simp (maxSteps := 400000) only [go_sem, Nat.reduceBEq, Nat.reduceAdd, Nat.reduceLeDiff, Nat.reduceSub, Nat.reduceMul, Int.reduceToNat, Int.reduceLT, Int.reduceLE])
    | (obtain ⟨y, hy, h⟩ := h; have hw := W_access_Linked hy; (try simp (maxSteps := 400000) only [go_sem, Nat.reduceBEq, Nat.reduceAdd, Nat.reduceLeDiff, Nat.reduceSub, Nat.reduceMul, Int.reduceToNat, Int.reduceLT, Int.reduceLE] at hw); refine sCallD_of hw rfl rfl ?_; clear hw; clear hy; rw [M.lokD_eq]; simp (maxSteps := 400000) only [go_sem, Nat.reduceBEq, Nat.reduceAdd, Nat.reduceLeDiff, Nat.reduceSub, Nat.reduceMul, Int.reduceToNat, Int.reduceLT, Int.reduceLE])
    | (obtain ⟨y, hy, h⟩ := h; have hw := W_access_Granted hy; (try simp (maxSteps := 400000) only [go_sem, Nat.reduceBEq, Nat.reduceAdd, Nat.reduceLeDiff, Nat.reduceSub, Nat.reduceMul, Int.reduceToNat, Int.reduceLT, Int.reduceLE] at hw); refine sCall_of hw rfl rfl ?_; clear hw; clear hy; rw [M.lok_eq]; simp (maxSteps := 400000) only [go_sem, Nat.reduceBEq, Nat.reduceAdd, Nat.reduceLeDiff, Nat.reduceSub, Nat.reduceMul, Int.reduceToNat, Int.reduceLT, Int.reduceLE])
    | (obtain ⟨y, hy, h⟩ := h; have hw := W_access_Granted hy; (try simp (maxSteps := 400000) only [go_sem, Nat.reduceBEq, Nat.reduceAdd, Nat.reduceLeDiff, Nat.reduceSub, Nat.reduceMul, Int.reduceToNat, Int.reduceLT, Int.reduceLE] at hw); refine sCallD_of hw rfl rfl ?_; clear hw; clear hy; rw [M.lokD_eq]; simp (maxSteps := 400000) only [go_sem, Nat.reduceBEq, Nat.reduceAdd, Nat.reduceLeDiff, Nat.reduceSub, Nat.reduceMul, Int.reduceToNat, Int.reduceLT, Int.reduceLE])
    | (obtain ⟨y, hy, h⟩ := h; have hw := W_ref23_Ints hy; (try simp (maxSteps := 400000) only [go_sem, Nat.reduceBEq, Nat.reduceAdd, Nat.reduceLeDiff, Nat.reduceSub, Nat.reduceMul, Int.reduceToNat, Int.reduceLT, Int.reduceLE] at hw); refine sCall_of hw rfl rfl ?_; clear hw; clear hy; rw [M.lok_eq]; simp (maxSteps := 400000) only [go_sem, Nat.reduceBEq, Nat.reduceAdd, Nat.reduceLeDiff, Nat.reduceSub, Nat.reduceMul, Int.reduceToNat, Int.reduceLT, Int.reduceLE])
    | (obtain ⟨y, hy, h⟩ := h; have hw := W_ref23_Ints hy; (try simp (maxSteps := 400000) only [go_sem, Nat.reduceBEq, Nat.reduceAdd, Nat.reduceLeDiff, Nat.reduceSub, Nat.reduceMul, Int.reduceToNat, Int.reduceLT, Int.reduceLE] at hw); refine sCallD_of hw rfl rfl ?_; clear hw; clear hy; rw [M.lokD_eq]; simp (maxSteps := 400000) only [go_sem, Nat.reduceBEq, Nat.reduceAdd, Nat.reduceLeDiff, Nat.reduceSub, Nat.reduceMul, Int.reduceToNat, Int.reduceLT, Int.reduceLE])
    | (refine M.fold1 (b := mc_law27_AccessPlaces_L1) 37 [4, 5, 6, 7, 35, 36] [4] (fun x => []) (fun x => [.o 7 (.cells [.int .i64 x.1, .osl 4113 7 0 x.2.length]), .o 4113 (.arr 7 (x.2.map GAccess.v))]) [.gc [4, 5, 6, 7, 35, 36, 37], .ownC 7 1 4113 7 none] h ?_ ?_ ?_ <;> first
       | (clear h; intro k a x Qn K hK1 hkN1 ha1 h hf; have hl := fact_int (factsE_find (n := 36) hf.1 rfl); clear hf; have hkd := decide_eq_true (Int.ofNat_lt.2 hkN1); have hkB1 := inb_iff.2 ⟨Int.natCast_nonneg k, Int.ofNat_lt.2 hkN1⟩; have hkI1 : in64 ((k : Int) + 1) = true := in64_iff.2 ⟨by omega, by (try simp only [List.length_cons, List.length_nil] at hkN1); omega⟩; unfold F_law27_AccessPlaces_L1 at h; unfold mc_law27_AccessPlaces_L1; (try simp (maxSteps := 400000) only [go_sem, Nat.reduceBEq, Nat.reduceAdd, Nat.reduceLeDiff, Nat.reduceSub, Nat.reduceMul, Int.reduceToNat, Int.reduceLT, Int.reduceLE] at h); simp only [go_sem, Nat.reduceBEq, Nat.reduceAdd, Nat.reduceLeDiff, Nat.reduceSub, Nat.reduceMul, Int.reduceToNat, Int.reduceLT, Int.reduceLE, ha1, hkd, hkN1, hkB1, hkI1])
       | (clear h; intro x K h; replace h := And.left (And.intro h trivial); unfold mc_law27_AccessPlaces_L1; (try simp (maxSteps := 400000) only [go_sem, Nat.reduceBEq, Nat.reduceAdd, Nat.reduceLeDiff, Nat.reduceSub, Nat.reduceMul, Int.reduceToNat, Int.reduceLT, Int.reduceLE] at h); simp (maxSteps := 400000) only [go_sem, Nat.reduceBEq, Nat.reduceAdd, Nat.reduceLeDiff, Nat.reduceSub, Nat.reduceMul, Int.reduceToNat, Int.reduceLT, Int.reduceLE])
       | (clear h; (try simp only [go_sem, Nat.reduceBEq, Nat.reduceAdd, Nat.reduceLeDiff, Nat.reduceSub, Nat.reduceMul, Int.reduceToNat, Int.reduceLT, Int.reduceLE]); (refine ⟨?_, ?_, ?_⟩ <;> (try simp only [go_sem, Nat.reduceBEq, Nat.reduceAdd, Nat.reduceLeDiff, Nat.reduceSub, Nat.reduceMul, Int.reduceToNat, Int.reduceLT, Int.reduceLE, St.good, noAny, distinct, SubSt, subE, subHp]) <;> (repeat' (first | exact trivial | rfl | apply And.intro | (simp; done)))); done)
       | fail)
    | (refine And.intro hkI1 ?_)
    | (refine And.intro hkN1 ?_)
    | (refine And.intro hkB1 ?_)
    | (simp only [ha1])
    | (refine hK1 _ ?_; (try simp only [go_sem, Nat.reduceBEq, Nat.reduceAdd, Nat.reduceLeDiff, Nat.reduceSub, Nat.reduceMul, Int.reduceToNat, Int.reduceLT, Int.reduceLE]); refine ⟨_, h, ?_⟩; (refine ⟨?_, ?_, ?_⟩ <;> (try simp only [go_sem, Nat.reduceBEq, Nat.reduceAdd, Nat.reduceLeDiff, Nat.reduceSub, Nat.reduceMul, Int.reduceToNat, Int.reduceLT, Int.reduceLE, St.good, noAny, distinct, SubSt, subE, subHp]) <;> (repeat' (first | exact trivial | rfl | apply And.intro | (simp; done)))); done)
    | (refine ⟨_, getE_map (inb_toNat (by assumption)), ?_⟩; (first | rw [M.lok_compU] | rw [M.lokD_compU]); simp (maxSteps := 400000) only [go_sem, Nat.reduceBEq, Nat.reduceAdd, Nat.reduceLeDiff, Nat.reduceSub, Nat.reduceMul, Int.reduceToNat, Int.reduceLT, Int.reduceLE])
    | (refine And.intro (ltb_of (by assumption)) ?_)
    | fail)
theorem W_law27_AccessPlaces : ∀ {l_ : List Int} {y : Bool}, F_law27_AccessPlaces l_ = some y → ACall Try.prog 5 [.sl (l_.map (V.int .i64))] [] (fun r H => r = .bool y ∧ H = []) :=
  fun hy => Wq_law27_AccessPlaces _ (Q := fun z => z = _) ⟨_, hy, rfl⟩ fun z e => by subst e; exact ⟨rfl, rfl⟩

end Go.Ab
