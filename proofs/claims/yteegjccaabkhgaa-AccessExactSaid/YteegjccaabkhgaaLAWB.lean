/- What the functions of this seat that lie on the laws' road compute (part LAWB), each for every input. By AI agents. -/
import Derived.Test.YteegjccaabkhgaaProg
import Derived.KernelRfl
import Derived.Test.YteegjccaabkhgaaAbFun
import Derived.Test.YteegjccaabkhgaaLAW
set_option linter.all false
set_option maxRecDepth 20000
set_option linter.all false
namespace Go.Ab
open Go.Proofs

def F_access_Grant (a_ : GEstate) (place_ : Int) (principal_ : Int) (t_ : Int) : Option (Int × Bool) :=
  (F_access_known a_ place_).bind fun y4 => bif (!y4) then some (0, false) else (F_access_grants a_ place_ t_).bind fun y6 => some (((aget principal_ y6).getD 0), (aget principal_ y6).isSome)

/- leakresponse/access.Grant -/
def mc_access_Grant : MC :=
  (.seq (.reg [⟨.box (.t 0), (some 4), none⟩,
    ⟨.mv (.c (.int .i64 0)), (some 8), none⟩,
    ⟨.mv (.c (.bool false)), (some 9), none⟩])
  (.seq (.seq (.reg [⟨.ld (some 2) (.t 4), (some 12), none⟩,
    ⟨.mv (.t 1), (some 13), none⟩,
    ⟨.call (.f 29) [(.t 12), (.t 13)] [] [], (some 14), none⟩,
    ⟨.not (.t 14), (some 15), none⟩])
  (.cond (.t 15)
    (.seq (.reg [⟨.mv (.c (.int .i64 0)), (some 8), none⟩,
      ⟨.mv (.c (.bool false)), (some 9), none⟩])
    .ret)
    .skip))
  (.seq (.reg [⟨.ld (some 2) (.t 4), (some 17), none⟩,
    ⟨.mv (.t 1), (some 18), none⟩,
    ⟨.mv (.t 3), (some 19), none⟩,
    ⟨.call (.f 30) [(.t 17), (.t 18), (.t 19)] [] [], (some 20), none⟩,
    ⟨.mv (.t 2), (some 21), none⟩,
    ⟨.mp (.lku (.int .i64) true (.int .i64 0)) [(.t 20), (.t 21)], (some 22), none⟩,
    ⟨.mv (.t 22), (some 16), none⟩,
    ⟨.ext 0 (.t 16), (some 23), none⟩,
    ⟨.ext 1 (.t 16), (some 24), none⟩,
    ⟨.mv (.t 23), (some 10), none⟩,
    ⟨.mv (.t 24), (some 11), none⟩])
  (.seq (.note (.gc [10, 11]) (.reg [⟨.mv (.t 10), (some 25), none⟩,
    ⟨.mv (.t 11), (some 26), none⟩,
    ⟨.mv (.t 25), (some 8), none⟩,
    ⟨.mv (.t 26), (some 9), none⟩]))
  .ret))))
theorem ok_access_Grant : mc_access_Grant.ok Try.prog Try.f17.ntmps (Try.f17.body.getD .skip) = true := by kernel_rfl

set_option maxHeartbeats 2000000 in
theorem Wq_access_Grant (a_ : GEstate) (place_ : Int) (principal_ : Int) (t_ : Int) {Q : Int × Bool → Prop} {Q' : V → Heap → Prop} (h : Ok (F_access_Grant a_ place_ principal_ t_) Q) (hQ : ∀ z, Q z → Q' (.tup [.int .i64 z.1, .bool z.2]) []) : ACall Try.prog 17 [GEstate.v a_, .int .i64 place_, .int .i64 principal_, .int .i64 t_] [] Q' := by
  refine acall_machN [] [] [.t 8, .t 9] Try.func17 rfl (by kernel_rfl) ok_access_Grant (by kernel_rfl) rfl rfl fun M hf => ?_
  clear hf
  unfold F_access_Grant at h
  unfold mc_access_Grant
  (try simp (maxSteps := 400000) only [go_sem, Nat.reduceBEq, Nat.reduceAdd, Nat.reduceLeDiff, Nat.reduceSub, Nat.reduceMul, Int.reduceToNat, Int.reduceLT, Int.reduceLE] at h)
  simp (maxSteps := 400000) only [go_sem, Nat.reduceBEq, Nat.reduceAdd, Nat.reduceLeDiff, Nat.reduceSub, Nat.reduceMul, Int.reduceToNat, Int.reduceLT, Int.reduceLE]
  repeat' (first
    | (exact hQ _ h)
    | (have hq := hQ _ h; simp (maxSteps := 400000) only [go_sem, Nat.reduceBEq, Nat.reduceAdd, Nat.reduceLeDiff, Nat.reduceSub, Nat.reduceMul, Int.reduceToNat, Int.reduceLT, Int.reduceLE] at hq; exact hq)
    | (refine oblg h ?_; clear h; intro hc h)
    | (refine fork h ?_ ?_ <;> clear h <;> intro hc h)
    | (refine forkS h ?_ ?_ <;> clear h <;> intro hc h)
    | (refine And.intro (chkD_of rfl) ?_)
    | (obtain ⟨y, hy, h⟩ := h; have hw := W_access_known hy; (try simp (maxSteps := 400000) only [go_sem, Nat.reduceBEq, Nat.reduceAdd, Nat.reduceLeDiff, Nat.reduceSub, Nat.reduceMul, Int.reduceToNat, Int.reduceLT, Int.reduceLE] at hw); refine sCall_of hw rfl rfl ?_; clear hw; clear hy; rw [M.lok_eq]; simp (maxSteps := 400000) only [go_sem, Nat.reduceBEq, Nat.reduceAdd, Nat.reduceLeDiff, Nat.reduceSub, Nat.reduceMul, Int.reduceToNat, Int.reduceLT, Int.reduceLE])
    | (obtain ⟨y, hy, h⟩ := h; have hw := W_access_known hy; (try simp (maxSteps := 400000) only [go_sem, Nat.reduceBEq, Nat.reduceAdd, Nat.reduceLeDiff, Nat.reduceSub, Nat.reduceMul, Int.reduceToNat, Int.reduceLT, Int.reduceLE] at hw); refine sCallD_of hw rfl rfl ?_; clear hw; clear hy; rw [M.lokD_eq]; simp (maxSteps := 400000) only [go_sem, Nat.reduceBEq, Nat.reduceAdd, Nat.reduceLeDiff, Nat.reduceSub, Nat.reduceMul, Int.reduceToNat, Int.reduceLT, Int.reduceLE])
    | (obtain ⟨y, hy, h⟩ := h; have hw := W_access_grants hy; (try simp (maxSteps := 400000) only [go_sem, Nat.reduceBEq, Nat.reduceAdd, Nat.reduceLeDiff, Nat.reduceSub, Nat.reduceMul, Int.reduceToNat, Int.reduceLT, Int.reduceLE] at hw); refine sCall_of hw rfl rfl ?_; clear hw; clear hy; rw [M.lok_eq]; simp (maxSteps := 400000) only [go_sem, Nat.reduceBEq, Nat.reduceAdd, Nat.reduceLeDiff, Nat.reduceSub, Nat.reduceMul, Int.reduceToNat, Int.reduceLT, Int.reduceLE])
    | (obtain ⟨y, hy, h⟩ := h; have hw := W_access_grants hy; (try simp (maxSteps := 400000) only [go_sem, Nat.reduceBEq, Nat.reduceAdd, Nat.reduceLeDiff, Nat.reduceSub, Nat.reduceMul, Int.reduceToNat, Int.reduceLT, Int.reduceLE] at hw); refine sCallD_of hw rfl rfl ?_; clear hw; clear hy; rw [M.lokD_eq]; simp (maxSteps := 400000) only [go_sem, Nat.reduceBEq, Nat.reduceAdd, Nat.reduceLeDiff, Nat.reduceSub, Nat.reduceMul, Int.reduceToNat, Int.reduceLT, Int.reduceLE])
    | (refine ⟨_, getE_map (inb_toNat (by assumption)), ?_⟩; (first | rw [M.lok_compU] | rw [M.lokD_compU]); simp (maxSteps := 400000) only [go_sem, Nat.reduceBEq, Nat.reduceAdd, Nat.reduceLeDiff, Nat.reduceSub, Nat.reduceMul, Int.reduceToNat, Int.reduceLT, Int.reduceLE])
    | (refine And.intro (ltb_of (by assumption)) ?_)
    | fail)
theorem W_access_Grant : ∀ {a_ : GEstate} {place_ : Int} {principal_ : Int} {t_ : Int} {y : Int × Bool}, F_access_Grant a_ place_ principal_ t_ = some y → ACall Try.prog 17 [GEstate.v a_, .int .i64 place_, .int .i64 principal_, .int .i64 t_] [] (fun r H => r = .tup [.int .i64 y.1, .bool y.2] ∧ H = []) :=
  fun hy => Wq_access_Grant _ _ _ _ (Q := fun z => z = _) ⟨_, hy, rfl⟩ fun z e => by subst e; exact ⟨rfl, rfl⟩

def F_ref23_Has_L1 (x_ : Int) (k11 : Int) (a12 : Int) (x10 : Unit) : Option (Fl Unit Bool) :=
  bif decide (a12 = x_) then some (.ex true) else some (.nx ())
def F_ref23_Has (l_ : List Int) (x_ : Int) : Option Bool :=
  (forL (F_ref23_Has_L1 x_) l_ 0 ()).bind fun o => o.elim (fun x13 => some false) (fun r14 => some r14)

/- leakresponse/leakresponseref23.Has -/
@[irreducible] def mc_ref23_Has_L1 : MC :=
  (.seq (.reg [⟨.bin false .lss (.t 9) (.t 8), (some 10), none⟩])
  (.seq (.cond (.t 10)
    .skip
    (.exit 0))
  (.seq (.block 1
  (.seq (.reg [⟨.iad 1 (.t 7) (.t 9), (some 11), none⟩,
    ⟨.ld none (.t 11), (some 12), none⟩,
    ⟨.mv (.t 12), (some 6), none⟩])
  (.seq (.reg [⟨.mv (.t 6), (some 13), none⟩,
    ⟨.mv (.t 1), (some 14), none⟩,
    ⟨.bin false .eql (.t 13) (.t 14), (some 15), none⟩])
  (.cond (.t 15)
    (.seq (.reg [⟨.mv (.c (.bool true)), (some 4), none⟩])
    .ret)
    .skip))))
  (.reg [⟨.bin true .add (.t 9) (.c (.int .i64 1)), (some 16), none⟩,
    ⟨.mv (.t 16), (some 9), none⟩]))))
def mc_ref23_Has : MC :=
  (.seq (.reg [⟨.mv (.c (.bool false)), (some 4), none⟩])
  (.seq (.seq (.reg [⟨.mv (.t 0), (some 7), none⟩,
    ⟨.len false (.t 7), (some 8), none⟩,
    ⟨.mv (.c (.int .i64 0)), (some 9), none⟩])
  (.block 0
  (.loop mc_ref23_Has_L1)))
  (.seq (.reg [⟨.mv (.c (.bool false)), (some 4), none⟩])
  .ret)))
theorem ok_ref23_Has : mc_ref23_Has.ok Try.prog Try.f18.ntmps (Try.f18.body.getD .skip) = true := by kernel_rfl

set_option maxHeartbeats 2000000 in
theorem Wq_ref23_Has (l_ : List Int) (x_ : Int) {Q : Bool → Prop} {Q' : V → Heap → Prop} (h : Ok (F_ref23_Has l_ x_) Q) (hQ : ∀ z, Q z → Q' (.bool z) []) : ACall Try.prog 18 [.sl (l_.map (V.int .i64)), .int .i64 x_] [] Q' := by
  refine acall_machN [] [] [.t 4] Try.func18 rfl (by kernel_rfl) ok_ref23_Has (by kernel_rfl) rfl rfl fun M hf => ?_
  clear hf
  unfold F_ref23_Has at h
  unfold mc_ref23_Has
  (try simp (maxSteps := 400000) only [go_sem, Nat.reduceBEq, Nat.reduceAdd, Nat.reduceLeDiff, Nat.reduceSub, Nat.reduceMul, Int.reduceToNat, Int.reduceLT, Int.reduceLE] at h)
  simp (maxSteps := 400000) only [go_sem, Nat.reduceBEq, Nat.reduceAdd, Nat.reduceLeDiff, Nat.reduceSub, Nat.reduceMul, Int.reduceToNat, Int.reduceLT, Int.reduceLE]
  repeat' (first
    | (exact hQ _ h)
    | (have hq := hQ _ h; simp (maxSteps := 400000) only [go_sem, Nat.reduceBEq, Nat.reduceAdd, Nat.reduceLeDiff, Nat.reduceSub, Nat.reduceMul, Int.reduceToNat, Int.reduceLT, Int.reduceLE] at hq; exact hq)
    | (refine oblg h ?_; clear h; intro hc h)
    | (refine fork h ?_ ?_ <;> clear h <;> intro hc h)
    | (refine forkS h ?_ ?_ <;> clear h <;> intro hc h)
    | (refine And.intro (chkD_of rfl) ?_)
    | (refine M.for1 (b := mc_ref23_Has_L1) 9 [1, 7, 8] [] (fun x => []) (fun x => []) [] h ?_ ?_ ?_ <;> first
       | (clear h; intro k a x Qn K hK1 hkN1 ha1 h hf; have hl := fact_int (factsE_find (n := 8) hf.1 rfl); clear hf; have hkd := decide_eq_true (Int.ofNat_lt.2 hkN1); have hkB1 := inb_iff.2 ⟨Int.natCast_nonneg k, Int.ofNat_lt.2 hkN1⟩; have hkI1 : in64 ((k : Int) + 1) = true := in64_iff.2 ⟨by omega, by (try simp only [List.length_cons, List.length_nil] at hkN1); omega⟩; unfold F_ref23_Has_L1 at h; unfold mc_ref23_Has_L1; (try simp (maxSteps := 400000) only [go_sem, Nat.reduceBEq, Nat.reduceAdd, Nat.reduceLeDiff, Nat.reduceSub, Nat.reduceMul, Int.reduceToNat, Int.reduceLT, Int.reduceLE] at h); simp only [go_sem, Nat.reduceBEq, Nat.reduceAdd, Nat.reduceLeDiff, Nat.reduceSub, Nat.reduceMul, Int.reduceToNat, Int.reduceLT, Int.reduceLE, ha1, hkd, hkN1, hkB1, hkI1])
       | (clear h; intro x K h; replace h := And.left (And.intro h trivial); unfold mc_ref23_Has_L1; (try simp (maxSteps := 400000) only [go_sem, Nat.reduceBEq, Nat.reduceAdd, Nat.reduceLeDiff, Nat.reduceSub, Nat.reduceMul, Int.reduceToNat, Int.reduceLT, Int.reduceLE] at h); simp (maxSteps := 400000) only [go_sem, Nat.reduceBEq, Nat.reduceAdd, Nat.reduceLeDiff, Nat.reduceSub, Nat.reduceMul, Int.reduceToNat, Int.reduceLT, Int.reduceLE])
       | (clear h; (try simp only [go_sem, Nat.reduceBEq, Nat.reduceAdd, Nat.reduceLeDiff, Nat.reduceSub, Nat.reduceMul, Int.reduceToNat, Int.reduceLT, Int.reduceLE]); (refine ⟨?_, ?_, ?_⟩ <;> (try simp only [go_sem, Nat.reduceBEq, Nat.reduceAdd, Nat.reduceLeDiff, Nat.reduceSub, Nat.reduceMul, Int.reduceToNat, Int.reduceLT, Int.reduceLE, St.good, noAny, distinct, SubSt, subE, subHp]) <;> (repeat' (first | exact trivial | rfl | apply And.intro | (simp; done)))); done)
       | fail)
    | (refine And.intro hkI1 ?_)
    | (refine And.intro hkN1 ?_)
    | (refine And.intro hkB1 ?_)
    | (simp only [ha1])
    | (refine hK1 _ ?_; (try simp only [go_sem, Nat.reduceBEq, Nat.reduceAdd, Nat.reduceLeDiff, Nat.reduceSub, Nat.reduceMul, Int.reduceToNat, Int.reduceLT, Int.reduceLE]); refine ⟨_, h, ?_⟩; (refine ⟨?_, ?_, ?_⟩ <;> (try simp only [go_sem, Nat.reduceBEq, Nat.reduceAdd, Nat.reduceLeDiff, Nat.reduceSub, Nat.reduceMul, Int.reduceToNat, Int.reduceLT, Int.reduceLE, St.good, noAny, distinct, SubSt, subE, subHp]) <;> (repeat' (first | exact trivial | rfl | apply And.intro | (simp; done)))); done)
    | (refine ⟨_, getE_map (inb_toNat (by assumption)), ?_⟩; (first | rw [M.lok_compU] | rw [M.lokD_compU]); simp (maxSteps := 400000) only [go_sem, Nat.reduceBEq, Nat.reduceAdd, Nat.reduceLeDiff, Nat.reduceSub, Nat.reduceMul, Int.reduceToNat, Int.reduceLT, Int.reduceLE])
    | (refine And.intro (ltb_of (by assumption)) ?_)
    | fail)
theorem W_ref23_Has : ∀ {l_ : List Int} {x_ : Int} {y : Bool}, F_ref23_Has l_ x_ = some y → ACall Try.prog 18 [.sl (l_.map (V.int .i64)), .int .i64 x_] [] (fun r H => r = .bool y ∧ H = []) :=
  fun hy => Wq_ref23_Has _ _ (Q := fun z => z = _) ⟨_, hy, rfl⟩ fun z e => by subst e; exact ⟨rfl, rfl⟩

noncomputable def F_law27_AccessGrants_L1 (y10 : Int × GTape) (x7603 : Int) (x9816 : Int) (k10100 : Int) (a10101 : GAccess) (x10099 : Unit) : Option (Fl Unit Bool) :=
  grp ((decide (a10101.Kind = 2) && decide (a10101.Place = x7603))) fun b10123 => grp ((b10123 && decide (a10101.Principal = x9816))) fun b10124 => grp ((b10124 && decide (a10101.Time ≤ y10.1))) fun b10125 => bif b10125 then some (.ex false) else some (.nx ())
noncomputable def F_law27_AccessGrants_L2 (y8 : GEstate × GTape) (y10 : Int × GTape) (x7603 : Int) (y9501 : List Int) (x9816 : Int) : Option (Fl Int (Sum Unit Bool)) :=
  bif decide (x9816 < 9) then jn (α := Fl Unit Bool) ((F_access_Grant y8.1 x7603 x9816 y10.1).bind fun y10052 => (F_ref23_Has y9501 x9816).bind fun y10056 => bif (!(y10052.2 == y10056)) then some (.ex false) else bif (!y10052.2) then some (.nx ()) else grp ((decide (y10052.1 < 0) || decide ((y8.1.Events.length : Int) ≤ y10052.1))) fun b10060 => bif b10060 then some (.ex false) else chk (inb y10052.1 y8.1.Events.length) (grp (((!decide ((y8.1.Events.getD (y10052.1).toNat default).Kind = 1)) || (!decide ((y8.1.Events.getD (y10052.1).toNat default).Place = x7603)))) fun b10070 => grp ((b10070 || (!decide ((y8.1.Events.getD (y10052.1).toNat default).Principal = x9816)))) fun b10071 => grp ((b10071 || decide (y10.1 < (y8.1.Events.getD (y10052.1).toNat default).Time))) fun b10072 => bif b10072 then some (.ex false) else chk (in64 (y10052.1 + 1)) (chk (inc (y10052.1 + 1) (y8.1.Events.length : Int) y8.1.Events.length) ((forL (F_law27_AccessGrants_L1 y10 x7603 x9816) (y8.1.Events.drop ((y10052.1 + 1)).toNat) 0 ()).bind fun o => o.elim (fun x10126 => some (.nx ())) (fun r10127 => some (.ex r10127)))))) fun o => o.elim (fun j10050 => chk (in64 (x9816 + 1)) (some (.nx (x9816 + 1)))) (fun r10128 => some (.ex (.inr r10128))) else some (.ex (.inl ()))
noncomputable def F_law27_AccessGrants_L3 (y8 : GEstate × GTape) (y10 : Int × GTape) (x7603 : Int) : Option (Fl Int (Sum Unit Bool)) :=
  bif decide (x7603 < y8.1.Places) then (F_access_Granted y8.1 x7603 y10.1).bind fun y9501 => (loop (F_law27_AccessGrants_L2 y8 y10 x7603 y9501) 0).bind fun r10129 => Sum.elim (fun u10130 => chk (in64 (x7603 + 1)) (some (.nx (x7603 + 1)))) (fun u10131 => some (.ex (.inr u10131))) r10129 else some (.ex (.inl ()))
noncomputable def F_law27_AccessGrants (l_ : List Int) : Option Bool :=
  bif decide (300 < (l_.length : Int)) then F_law27_awake.bind fun y4 => some y4 else (F_made_Directory (GTape.mk l_ 0)).bind fun y7 => (F_made_Estate y7.2 y7.1).bind fun y8 => (F_made_Tape_Next y8.2 32).bind fun y10 => (loop (F_law27_AccessGrants_L3 y8 y10) 0).bind fun r10132 => Sum.elim (fun u10133 => F_law27_awake.bind fun y10136 => some y10136) (fun u10134 => some u10134) r10132

/- leakresponse/leakresponselaw27.AccessGrants -/
@[irreducible] def mg_law27_AccessGrants_1 : List MOp := [⟨.mv (.t 9), (some 59), (some (58, false))⟩,
    ⟨.fad 1 (.t 4), (some 60), (some (58, false))⟩,
    ⟨.ld none (.t 60), (some 61), (some (58, false))⟩,
    ⟨.len false (.t 61), (some 62), (some (58, false))⟩,
    ⟨.bin false .geq (.t 59) (.t 62), (some 63), (some (58, false))⟩,
    ⟨.pick (.t 58) (.c (.bool true)) (.t 63), (some 64), none⟩]
@[irreducible] def mg_law27_AccessGrants_2 : List MOp := [⟨.fad 2 (.t 11), (some 74), (some (73, false))⟩,
    ⟨.ld none (.t 74), (some 75), (some (73, false))⟩,
    ⟨.mv (.t 6), (some 76), (some (73, false))⟩,
    ⟨.bin false .neq (.t 75) (.t 76), (some 77), (some (73, false))⟩,
    ⟨.pick (.t 73) (.c (.bool true)) (.t 77), (some 78), none⟩]
@[irreducible] def mg_law27_AccessGrants_3 : List MOp := [⟨.fad 3 (.t 11), (some 80), (some (79, false))⟩,
    ⟨.ld none (.t 80), (some 81), (some (79, false))⟩,
    ⟨.mv (.t 8), (some 82), (some (79, false))⟩,
    ⟨.bin false .neq (.t 81) (.t 82), (some 83), (some (79, false))⟩,
    ⟨.pick (.t 79) (.c (.bool true)) (.t 83), (some 84), none⟩]
@[irreducible] def mg_law27_AccessGrants_4 : List MOp := [⟨.fad 0 (.t 11), (some 86), (some (85, false))⟩,
    ⟨.ld none (.t 86), (some 87), (some (85, false))⟩,
    ⟨.mv (.t 5), (some 88), (some (85, false))⟩,
    ⟨.bin false .gtr (.t 87) (.t 88), (some 89), (some (85, false))⟩,
    ⟨.pick (.t 85) (.c (.bool true)) (.t 89), (some 90), none⟩]
@[irreducible] def mg_law27_AccessGrants_5 : List MOp := [⟨.fad 2 (.t 13), (some 105), (some (104, true))⟩,
    ⟨.ld none (.t 105), (some 106), (some (104, true))⟩,
    ⟨.mv (.t 6), (some 107), (some (104, true))⟩,
    ⟨.bin false .eql (.t 106) (.t 107), (some 108), (some (104, true))⟩,
    ⟨.pick (.t 104) (.t 108) (.c (.bool false)), (some 109), none⟩]
@[irreducible] def mg_law27_AccessGrants_6 : List MOp := [⟨.fad 3 (.t 13), (some 111), (some (110, true))⟩,
    ⟨.ld none (.t 111), (some 112), (some (110, true))⟩,
    ⟨.mv (.t 8), (some 113), (some (110, true))⟩,
    ⟨.bin false .eql (.t 112) (.t 113), (some 114), (some (110, true))⟩,
    ⟨.pick (.t 110) (.t 114) (.c (.bool false)), (some 115), none⟩]
@[irreducible] def mg_law27_AccessGrants_7 : List MOp := [⟨.fad 0 (.t 13), (some 117), (some (116, true))⟩,
    ⟨.ld none (.t 117), (some 118), (some (116, true))⟩,
    ⟨.mv (.t 5), (some 119), (some (116, true))⟩,
    ⟨.bin false .leq (.t 118) (.t 119), (some 120), (some (116, true))⟩,
    ⟨.pick (.t 116) (.t 120) (.c (.bool false)), (some 121), none⟩]
@[irreducible] def mc_law27_AccessGrants_L1 : MC :=
  (.seq (.reg [⟨.bin false .lss (.t 97) (.t 96), (some 98), none⟩])
  (.seq (.cond (.t 98)
    .skip
    (.exit 4))
  (.seq (.block 5
  (.seq (.reg [⟨.iad 7 (.t 95) (.t 97), (some 99), none⟩,
    ⟨.ld (some 7) (.t 99), (some 100), none⟩,
    ⟨.alloc [(.int .i64 0), (.int .i64 0), (.int .i64 0), (.int .i64 0), (.int .i64 0), (.int .i64 0), (.int .i64 0)], (some 13), none⟩,
    ⟨.st 7 (.t 13) (.t 100), none, none⟩])
  (.seq (.regI [.op ⟨.fad 1 (.t 13), (some 101), none⟩,
    .op ⟨.ld none (.t 101), (some 102), none⟩,
    .op ⟨.bin false .eql (.t 102) (.c (.int .i64 2)), (some 103), none⟩,
    .op ⟨.mv (.t 103), (some 104), none⟩,
    .grp mg_law27_AccessGrants_5,
    .op ⟨.mv (.t 109), (some 110), none⟩,
    .grp mg_law27_AccessGrants_6,
    .op ⟨.mv (.t 115), (some 116), none⟩,
    .grp mg_law27_AccessGrants_7])
  (.cond (.t 121)
    (.seq (.reg [⟨.mv (.c (.bool false)), (some 2), none⟩])
    .ret)
    .skip))))
  (.reg [⟨.bin true .add (.t 97) (.c (.int .i64 1)), (some 122), none⟩,
    ⟨.mv (.t 122), (some 97), none⟩]))))
@[irreducible] def mc_law27_AccessGrants_J1 : MC :=
  (.reg [⟨.mv (.t 8), (some 39), none⟩,
    ⟨.bin true .add (.t 39) (.c (.int .i64 1)), (some 40), none⟩,
    ⟨.mv (.t 40), (some 8), none⟩])
@[irreducible] def mc_law27_AccessGrants_L2 : MC :=
  (.seq (.seq (.reg [⟨.mv (.t 8), (some 37), none⟩,
    ⟨.bin false .lss (.t 37) (.c (.int .i64 9)), (some 38), none⟩])
  (.cond (.t 38)
    .skip
    (.exit 2)))
  (.cut (.block 3
  (.seq (.reg [⟨.ld (some 2) (.t 4), (some 42), none⟩,
    ⟨.mv (.t 6), (some 43), none⟩,
    ⟨.mv (.t 8), (some 44), none⟩,
    ⟨.mv (.t 5), (some 45), none⟩,
    ⟨.call (.f 17) [(.t 42), (.t 43), (.t 44), (.t 45)] [] [], (some 46), none⟩,
    ⟨.mv (.t 46), (some 41), none⟩,
    ⟨.ext 0 (.t 41), (some 47), none⟩,
    ⟨.ext 1 (.t 41), (some 48), none⟩,
    ⟨.mv (.t 47), (some 9), none⟩,
    ⟨.mv (.t 48), (some 10), none⟩])
  (.seq (.seq (.note (.gc [4, 5, 6, 7, 8, 9, 10, 59, 60, 61, 62, 63, 74, 75, 76, 77, 80, 81, 82, 83, 86, 87, 88, 89, 105, 106, 107, 108, 111, 112, 113, 114, 117, 118, 119, 120]) (.reg [⟨.mv (.t 10), (some 49), none⟩,
    ⟨.mv (.t 7), (some 50), none⟩,
    ⟨.mv (.t 8), (some 51), none⟩,
    ⟨.call (.f 18) [(.t 50), (.t 51)] [] [], (some 52), none⟩,
    ⟨.beq true (.t 49) (.t 52), (some 53), none⟩]))
  (.cond (.t 53)
    (.seq (.reg [⟨.mv (.c (.bool false)), (some 2), none⟩])
    .ret)
    .skip))
  (.seq (.seq (.reg [⟨.mv (.t 10), (some 54), none⟩,
    ⟨.not (.t 54), (some 55), none⟩])
  (.cond (.t 55)
    (.exit 3)
    .skip))
  (.seq (.seq (.note (.gc [4, 5, 6, 7, 8, 9, 59, 60, 61, 62, 63, 74, 75, 76, 77, 80, 81, 82, 83, 86, 87, 88, 89, 105, 106, 107, 108, 111, 112, 113, 114, 117, 118, 119, 120]) (.regI [.op ⟨.mv (.t 9), (some 56), none⟩,
    .op ⟨.bin false .lss (.t 56) (.c (.int .i64 0)), (some 57), none⟩,
    .op ⟨.mv (.t 57), (some 58), none⟩,
    .grp mg_law27_AccessGrants_1]))
  (.cond (.t 64)
    (.seq (.reg [⟨.mv (.c (.bool false)), (some 2), none⟩])
    .ret)
    .skip))
  (.seq (.reg [⟨.fad 1 (.t 4), (some 65), none⟩,
    ⟨.ld none (.t 65), (some 66), none⟩,
    ⟨.mv (.t 9), (some 67), none⟩,
    ⟨.iad 7 (.t 66) (.t 67), (some 68), none⟩,
    ⟨.ld (some 7) (.t 68), (some 69), none⟩,
    ⟨.alloc [(.int .i64 0), (.int .i64 0), (.int .i64 0), (.int .i64 0), (.int .i64 0), (.int .i64 0), (.int .i64 0)], (some 11), none⟩,
    ⟨.st 7 (.t 11) (.t 69), none, none⟩])
  (.seq (.seq (.note (.gc [4, 5, 6, 7, 8, 9, 11, 59, 60, 61, 62, 63, 74, 75, 76, 77, 80, 81, 82, 83, 86, 87, 88, 89, 105, 106, 107, 108, 111, 112, 113, 114, 117, 118, 119, 120]) (.regI [.op ⟨.fad 1 (.t 11), (some 70), none⟩,
    .op ⟨.ld none (.t 70), (some 71), none⟩,
    .op ⟨.bin false .neq (.t 71) (.c (.int .i64 1)), (some 72), none⟩,
    .op ⟨.mv (.t 72), (some 73), none⟩,
    .grp mg_law27_AccessGrants_2,
    .op ⟨.mv (.t 78), (some 79), none⟩,
    .grp mg_law27_AccessGrants_3,
    .op ⟨.mv (.t 84), (some 85), none⟩,
    .grp mg_law27_AccessGrants_4]))
  (.cond (.t 90)
    (.seq (.reg [⟨.mv (.c (.bool false)), (some 2), none⟩])
    .ret)
    .skip))
  (.seq (.note (.gc [4, 5, 6, 7, 8, 9, 59, 60, 61, 62, 63, 74, 75, 76, 77, 80, 81, 82, 83, 86, 87, 88, 89, 105, 106, 107, 108, 111, 112, 113, 114, 117, 118, 119, 120]) (.reg [⟨.fad 1 (.t 4), (some 91), none⟩,
    ⟨.ld none (.t 91), (some 92), none⟩,
    ⟨.mv (.t 9), (some 93), none⟩,
    ⟨.bin true .add (.t 93) (.c (.int .i64 1)), (some 94), none⟩,
    ⟨.slc 7 (.t 92) (some (.t 94)) none, (some 95), none⟩,
    ⟨.len false (.t 95), (some 96), none⟩,
    ⟨.mv (.c (.int .i64 0)), (some 97), none⟩]))
  (.block 4
  (.loop mc_law27_AccessGrants_L1))))))))))
  mc_law27_AccessGrants_J1))
@[irreducible] def mc_law27_AccessGrants_L3 : MC :=
  (.seq (.seq (.reg [⟨.mv (.t 6), (some 27), none⟩,
    ⟨.fad 0 (.t 4), (some 28), none⟩,
    ⟨.ld none (.t 28), (some 29), none⟩,
    ⟨.bin false .lss (.t 27) (.t 29), (some 30), none⟩])
  (.cond (.t 30)
    .skip
    (.exit 0)))
  (.seq (.block 1
  (.seq (.reg [⟨.ld (some 2) (.t 4), (some 33), none⟩,
    ⟨.mv (.t 6), (some 34), none⟩,
    ⟨.mv (.t 5), (some 35), none⟩,
    ⟨.call (.f 13) [(.t 33), (.t 34), (.t 35)] [] [], (some 36), none⟩,
    ⟨.mv (.t 36), (some 7), none⟩])
  (.seq (.reg [⟨.mv (.c (.int .i64 0)), (some 8), none⟩])
  (.block 2
  (.loop mc_law27_AccessGrants_L2)))))
  (.reg [⟨.mv (.t 6), (some 31), none⟩,
    ⟨.bin true .add (.t 31) (.c (.int .i64 1)), (some 32), none⟩,
    ⟨.mv (.t 32), (some 6), none⟩])))
def mc_law27_AccessGrants : MC :=
  (.seq (.reg [⟨.mv (.c (.bool false)), (some 2), none⟩])
  (.seq (.seq (.reg [⟨.mv (.t 0), (some 14), none⟩,
    ⟨.len false (.t 14), (some 15), none⟩,
    ⟨.bin false .gtr (.t 15) (.c (.int .i64 300)), (some 16), none⟩])
  (.cond (.t 16)
    (.seq (.reg [⟨.call (.f 9) [] [] [], (some 17), none⟩,
      ⟨.mv (.t 17), (some 2), none⟩])
    .ret)
    .skip))
  (.seq (.reg [⟨.mv (.t 0), (some 18), none⟩,
    ⟨.build [(.sl []), (.int .i64 0)] [(0, 1, (.t 18))], (some 19), none⟩,
    ⟨.box (.t 19), (some 20), none⟩,
    ⟨.mv (.t 20), (some 3), none⟩])
  (.seq (.note (.gc [3, 59, 60, 61, 62, 63, 74, 75, 76, 77, 80, 81, 82, 83, 86, 87, 88, 89, 105, 106, 107, 108, 111, 112, 113, 114, 117, 118, 119, 120]) (.reg [⟨.mv (.t 3), (some 21), none⟩,
    ⟨.mv (.t 3), (some 22), none⟩,
    ⟨.call (.f 11) [(.t 22)] [20] [], (some 23), none⟩,
    ⟨.call (.f 10) [(.t 21), (.t 23)] [20] [], (some 24), none⟩,
    ⟨.alloc [(.int .i64 0), (.sl [])], (some 4), none⟩,
    ⟨.st 2 (.t 4) (.t 24), none, none⟩]))
  (.seq (.reg [⟨.mv (.t 3), (some 25), none⟩,
    ⟨.call (.f 12) [(.t 25), (.c (.int .i64 32))] [20] [], (some 26), none⟩,
    ⟨.mv (.t 26), (some 5), none⟩])
  (.seq (.seq (.reg [⟨.mv (.c (.int .i64 0)), (some 6), none⟩])
  (.block 0
  (.loop mc_law27_AccessGrants_L3)))
  (.seq (.reg [⟨.call (.f 9) [] [] [], (some 123), none⟩,
    ⟨.mv (.t 123), (some 2), none⟩])
  .ret)))))))
theorem ok_law27_AccessGrants : mc_law27_AccessGrants.ok Try.prog Try.f6.ntmps (Try.f6.body.getD .skip) = true := by kernel_rfl

set_option maxHeartbeats 2000000 in
theorem Wq_law27_AccessGrants (l_ : List Int) {Q : Bool → Prop} {Q' : V → Heap → Prop} (h : Ok (F_law27_AccessGrants l_) Q) (hQ : ∀ z, Q z → Q' (.bool z) []) : ACall Try.prog 6 [.sl (l_.map (V.int .i64))] [] Q' := by
  refine acall_machN [] [] [.t 2] Try.func6 rfl (by kernel_rfl) ok_law27_AccessGrants (by kernel_rfl) rfl rfl fun M hf => ?_
  clear hf
  unfold F_law27_AccessGrants at h
  unfold mc_law27_AccessGrants
  (try simp (maxSteps := 400000) only [go_sem, Nat.reduceBEq, Nat.reduceAdd, Nat.reduceLeDiff, Nat.reduceSub, Nat.reduceMul, Int.reduceToNat, Int.reduceLT, Int.reduceLE] at h)
  simp (maxSteps := 400000) only [go_sem, Nat.reduceBEq, Nat.reduceAdd, Nat.reduceLeDiff, Nat.reduceSub, Nat.reduceMul, Int.reduceToNat, Int.reduceLT, Int.reduceLE]
  repeat' (first
    | (exact hQ _ h)
    | (have hq := hQ _ h; simp (maxSteps := 400000) only [go_sem, Nat.reduceBEq, Nat.reduceAdd, Nat.reduceLeDiff, Nat.reduceSub, Nat.reduceMul, Int.reduceToNat, Int.reduceLT, Int.reduceLE] at hq; exact hq)
    | (refine oblg h ?_; clear h; intro hc h)
    | (refine fork h ?_ ?_ <;> clear h <;> intro hc h)
    | (refine forkS h ?_ ?_ <;> clear h <;> intro hc h)
    | (refine And.intro (chkD_of rfl) ?_)
    | (obtain ⟨y, hy, h⟩ := h; have hw := W_law27_awake hy; (try simp (maxSteps := 400000) only [go_sem, Nat.reduceBEq, Nat.reduceAdd, Nat.reduceLeDiff, Nat.reduceSub, Nat.reduceMul, Int.reduceToNat, Int.reduceLT, Int.reduceLE] at hw); refine sCall_of hw rfl rfl ?_; clear hw; clear hy; rw [M.lok_eq]; simp (maxSteps := 400000) only [go_sem, Nat.reduceBEq, Nat.reduceAdd, Nat.reduceLeDiff, Nat.reduceSub, Nat.reduceMul, Int.reduceToNat, Int.reduceLT, Int.reduceLE])
    | (obtain ⟨y, hy, h⟩ := h; have hw := W_law27_awake hy; (try simp (maxSteps := 400000) only [go_sem, Nat.reduceBEq, Nat.reduceAdd, Nat.reduceLeDiff, Nat.reduceSub, Nat.reduceMul, Int.reduceToNat, Int.reduceLT, Int.reduceLE] at hw); refine sCallD_of hw rfl rfl ?_; clear hw; clear hy; rw [M.lokD_eq]; simp (maxSteps := 400000) only [go_sem, Nat.reduceBEq, Nat.reduceAdd, Nat.reduceLeDiff, Nat.reduceSub, Nat.reduceMul, Int.reduceToNat, Int.reduceLT, Int.reduceLE])
    | (obtain ⟨y, hy, h⟩ := h; have hw := acall_swe 1000 20 (W_made_Directory hy); (try simp (maxSteps := 400000) only [go_sem, Nat.reduceBEq, Nat.reduceAdd, Nat.reduceLeDiff, Nat.reduceSub, Nat.reduceMul, Int.reduceToNat, Int.reduceLT, Int.reduceLE] at hw); refine sCall_of hw rfl rfl ?_; clear hw; clear hy; rw [M.lok_eq]; simp (maxSteps := 400000) only [go_sem, Nat.reduceBEq, Nat.reduceAdd, Nat.reduceLeDiff, Nat.reduceSub, Nat.reduceMul, Int.reduceToNat, Int.reduceLT, Int.reduceLE])
    | (obtain ⟨y, hy, h⟩ := h; have hw := acall_swe 1000 20 (W_made_Directory hy); (try simp (maxSteps := 400000) only [go_sem, Nat.reduceBEq, Nat.reduceAdd, Nat.reduceLeDiff, Nat.reduceSub, Nat.reduceMul, Int.reduceToNat, Int.reduceLT, Int.reduceLE] at hw); refine sCallD_of hw rfl rfl ?_; clear hw; clear hy; rw [M.lokD_eq]; simp (maxSteps := 400000) only [go_sem, Nat.reduceBEq, Nat.reduceAdd, Nat.reduceLeDiff, Nat.reduceSub, Nat.reduceMul, Int.reduceToNat, Int.reduceLT, Int.reduceLE])
    | (obtain ⟨y, hy, h⟩ := h; have hw := acall_swe 1000 20 (W_made_Estate hy); (try simp (maxSteps := 400000) only [go_sem, Nat.reduceBEq, Nat.reduceAdd, Nat.reduceLeDiff, Nat.reduceSub, Nat.reduceMul, Int.reduceToNat, Int.reduceLT, Int.reduceLE] at hw); refine sCall_of hw rfl rfl ?_; clear hw; clear hy; rw [M.lok_eq]; simp (maxSteps := 400000) only [go_sem, Nat.reduceBEq, Nat.reduceAdd, Nat.reduceLeDiff, Nat.reduceSub, Nat.reduceMul, Int.reduceToNat, Int.reduceLT, Int.reduceLE])
    | (obtain ⟨y, hy, h⟩ := h; have hw := acall_swe 1000 20 (W_made_Estate hy); (try simp (maxSteps := 400000) only [go_sem, Nat.reduceBEq, Nat.reduceAdd, Nat.reduceLeDiff, Nat.reduceSub, Nat.reduceMul, Int.reduceToNat, Int.reduceLT, Int.reduceLE] at hw); refine sCallD_of hw rfl rfl ?_; clear hw; clear hy; rw [M.lokD_eq]; simp (maxSteps := 400000) only [go_sem, Nat.reduceBEq, Nat.reduceAdd, Nat.reduceLeDiff, Nat.reduceSub, Nat.reduceMul, Int.reduceToNat, Int.reduceLT, Int.reduceLE])
    | (obtain ⟨y, hy, h⟩ := h; have hw := acall_swe 1000 20 (W_made_Tape_Next hy); (try simp (maxSteps := 400000) only [go_sem, Nat.reduceBEq, Nat.reduceAdd, Nat.reduceLeDiff, Nat.reduceSub, Nat.reduceMul, Int.reduceToNat, Int.reduceLT, Int.reduceLE] at hw); refine sCall_of hw rfl rfl ?_; clear hw; clear hy; rw [M.lok_eq]; simp (maxSteps := 400000) only [go_sem, Nat.reduceBEq, Nat.reduceAdd, Nat.reduceLeDiff, Nat.reduceSub, Nat.reduceMul, Int.reduceToNat, Int.reduceLT, Int.reduceLE])
    | (obtain ⟨y, hy, h⟩ := h; have hw := acall_swe 1000 20 (W_made_Tape_Next hy); (try simp (maxSteps := 400000) only [go_sem, Nat.reduceBEq, Nat.reduceAdd, Nat.reduceLeDiff, Nat.reduceSub, Nat.reduceMul, Int.reduceToNat, Int.reduceLT, Int.reduceLE] at hw); refine sCallD_of hw rfl rfl ?_; clear hw; clear hy; rw [M.lokD_eq]; simp (maxSteps := 400000) only [go_sem, Nat.reduceBEq, Nat.reduceAdd, Nat.reduceLeDiff, Nat.reduceSub, Nat.reduceMul, Int.reduceToNat, Int.reduceLT, Int.reduceLE])
    | (obtain ⟨y, hy, h⟩ := h; have hw := W_access_Granted hy; (try simp (maxSteps := 400000) only [go_sem, Nat.reduceBEq, Nat.reduceAdd, Nat.reduceLeDiff, Nat.reduceSub, Nat.reduceMul, Int.reduceToNat, Int.reduceLT, Int.reduceLE] at hw); refine sCall_of hw rfl rfl ?_; clear hw; clear hy; rw [M.lok_eq]; simp (maxSteps := 400000) only [go_sem, Nat.reduceBEq, Nat.reduceAdd, Nat.reduceLeDiff, Nat.reduceSub, Nat.reduceMul, Int.reduceToNat, Int.reduceLT, Int.reduceLE])
    | (obtain ⟨y, hy, h⟩ := h; have hw := W_access_Granted hy; (try simp (maxSteps := 400000) only [go_sem, Nat.reduceBEq, Nat.reduceAdd, Nat.reduceLeDiff, Nat.reduceSub, Nat.reduceMul, Int.reduceToNat, Int.reduceLT, Int.reduceLE] at hw); refine sCallD_of hw rfl rfl ?_; clear hw; clear hy; rw [M.lokD_eq]; simp (maxSteps := 400000) only [go_sem, Nat.reduceBEq, Nat.reduceAdd, Nat.reduceLeDiff, Nat.reduceSub, Nat.reduceMul, Int.reduceToNat, Int.reduceLT, Int.reduceLE])
    | (obtain ⟨y, hy, h⟩ := h; have hw := W_access_Grant hy; (try simp (maxSteps := 400000) only [go_sem, Nat.reduceBEq, Nat.reduceAdd, Nat.reduceLeDiff, Nat.reduceSub, Nat.reduceMul, Int.reduceToNat, Int.reduceLT, Int.reduceLE] at hw); refine sCall_of hw rfl rfl ?_; clear hw; clear hy; rw [M.lok_eq]; simp (maxSteps := 400000) only [go_sem, Nat.reduceBEq, Nat.reduceAdd, Nat.reduceLeDiff, Nat.reduceSub, Nat.reduceMul, Int.reduceToNat, Int.reduceLT, Int.reduceLE])
    | (obtain ⟨y, hy, h⟩ := h; have hw := W_access_Grant hy; (try simp (maxSteps := 400000) only [go_sem, Nat.reduceBEq, Nat.reduceAdd, Nat.reduceLeDiff, Nat.reduceSub, Nat.reduceMul, Int.reduceToNat, Int.reduceLT, Int.reduceLE] at hw); refine sCallD_of hw rfl rfl ?_; clear hw; clear hy; rw [M.lokD_eq]; simp (maxSteps := 400000) only [go_sem, Nat.reduceBEq, Nat.reduceAdd, Nat.reduceLeDiff, Nat.reduceSub, Nat.reduceMul, Int.reduceToNat, Int.reduceLT, Int.reduceLE])
    | (obtain ⟨y, hy, h⟩ := h; have hw := W_ref23_Has hy; (try simp (maxSteps := 400000) only [go_sem, Nat.reduceBEq, Nat.reduceAdd, Nat.reduceLeDiff, Nat.reduceSub, Nat.reduceMul, Int.reduceToNat, Int.reduceLT, Int.reduceLE] at hw); refine sCall_of hw rfl rfl ?_; clear hw; clear hy; rw [M.lok_eq]; simp (maxSteps := 400000) only [go_sem, Nat.reduceBEq, Nat.reduceAdd, Nat.reduceLeDiff, Nat.reduceSub, Nat.reduceMul, Int.reduceToNat, Int.reduceLT, Int.reduceLE])
    | (obtain ⟨y, hy, h⟩ := h; have hw := W_ref23_Has hy; (try simp (maxSteps := 400000) only [go_sem, Nat.reduceBEq, Nat.reduceAdd, Nat.reduceLeDiff, Nat.reduceSub, Nat.reduceMul, Int.reduceToNat, Int.reduceLT, Int.reduceLE] at hw); refine sCallD_of hw rfl rfl ?_; clear hw; clear hy; rw [M.lokD_eq]; simp (maxSteps := 400000) only [go_sem, Nat.reduceBEq, Nat.reduceAdd, Nat.reduceLeDiff, Nat.reduceSub, Nat.reduceMul, Int.reduceToNat, Int.reduceLT, Int.reduceLE])
    | (refine M.gv1 (ms := mg_law27_AccessGrants_7) 121 [117, 118, 119, 120] h ?_ ?_ <;> first
       | (clear h; intro K hK1; unfold mg_law27_AccessGrants_7; simp (maxSteps := 400000) only [go_sem, Nat.reduceBEq, Nat.reduceAdd, Nat.reduceLeDiff, Nat.reduceSub, Nat.reduceMul, Int.reduceToNat, Int.reduceLT, Int.reduceLE])
       | (clear h; intro b h; (try simp (maxSteps := 400000) only [go_sem, Nat.reduceBEq, Nat.reduceAdd, Nat.reduceLeDiff, Nat.reduceSub, Nat.reduceMul, Int.reduceToNat, Int.reduceLT, Int.reduceLE] at h); simp (maxSteps := 400000) only [go_sem, Nat.reduceBEq, Nat.reduceAdd, Nat.reduceLeDiff, Nat.reduceSub, Nat.reduceMul, Int.reduceToNat, Int.reduceLT, Int.reduceLE])
       | fail)
    | (refine M.gv1 (ms := mg_law27_AccessGrants_6) 115 [111, 112, 113, 114] h ?_ ?_ <;> first
       | (clear h; intro K hK2; unfold mg_law27_AccessGrants_6; simp (maxSteps := 400000) only [go_sem, Nat.reduceBEq, Nat.reduceAdd, Nat.reduceLeDiff, Nat.reduceSub, Nat.reduceMul, Int.reduceToNat, Int.reduceLT, Int.reduceLE])
       | (clear h; intro b h; (try simp (maxSteps := 400000) only [go_sem, Nat.reduceBEq, Nat.reduceAdd, Nat.reduceLeDiff, Nat.reduceSub, Nat.reduceMul, Int.reduceToNat, Int.reduceLT, Int.reduceLE] at h); simp (maxSteps := 400000) only [go_sem, Nat.reduceBEq, Nat.reduceAdd, Nat.reduceLeDiff, Nat.reduceSub, Nat.reduceMul, Int.reduceToNat, Int.reduceLT, Int.reduceLE])
       | fail)
    | (refine M.gv1 (ms := mg_law27_AccessGrants_5) 109 [105, 106, 107, 108] h ?_ ?_ <;> first
       | (clear h; intro K hK3; unfold mg_law27_AccessGrants_5; simp (maxSteps := 400000) only [go_sem, Nat.reduceBEq, Nat.reduceAdd, Nat.reduceLeDiff, Nat.reduceSub, Nat.reduceMul, Int.reduceToNat, Int.reduceLT, Int.reduceLE])
       | (clear h; intro b h; (try simp (maxSteps := 400000) only [go_sem, Nat.reduceBEq, Nat.reduceAdd, Nat.reduceLeDiff, Nat.reduceSub, Nat.reduceMul, Int.reduceToNat, Int.reduceLT, Int.reduceLE] at h); simp (maxSteps := 400000) only [go_sem, Nat.reduceBEq, Nat.reduceAdd, Nat.reduceLeDiff, Nat.reduceSub, Nat.reduceMul, Int.reduceToNat, Int.reduceLT, Int.reduceLE])
       | fail)
    | (refine M.for1 (b := mc_law27_AccessGrants_L1) 97 [4, 5, 6, 7, 8, 95, 96] [4] (fun x => []) (fun x => []) [] h ?_ ?_ ?_ <;> first
       | (clear h; intro k a x Qn K hK4 hkN4 ha4 h hf; have hl := fact_int (factsE_find (n := 96) hf.1 rfl); clear hf; have hkd := decide_eq_true (Int.ofNat_lt.2 hkN4); have hkB4 := inb_iff.2 ⟨Int.natCast_nonneg k, Int.ofNat_lt.2 hkN4⟩; have hkI4 : in64 ((k : Int) + 1) = true := in64_iff.2 ⟨by omega, by (try simp only [List.length_cons, List.length_nil] at hkN4); omega⟩; unfold F_law27_AccessGrants_L1 at h; unfold mc_law27_AccessGrants_L1; (try simp (maxSteps := 400000) only [go_sem, Nat.reduceBEq, Nat.reduceAdd, Nat.reduceLeDiff, Nat.reduceSub, Nat.reduceMul, Int.reduceToNat, Int.reduceLT, Int.reduceLE] at h); simp only [go_sem, Nat.reduceBEq, Nat.reduceAdd, Nat.reduceLeDiff, Nat.reduceSub, Nat.reduceMul, Int.reduceToNat, Int.reduceLT, Int.reduceLE, ha4, hkd, hkN4, hkB4, hkI4])
       | (clear h; intro x K h; replace h := And.left (And.intro h trivial); unfold mc_law27_AccessGrants_L1; (try simp (maxSteps := 400000) only [go_sem, Nat.reduceBEq, Nat.reduceAdd, Nat.reduceLeDiff, Nat.reduceSub, Nat.reduceMul, Int.reduceToNat, Int.reduceLT, Int.reduceLE] at h); simp (maxSteps := 400000) only [go_sem, Nat.reduceBEq, Nat.reduceAdd, Nat.reduceLeDiff, Nat.reduceSub, Nat.reduceMul, Int.reduceToNat, Int.reduceLT, Int.reduceLE])
       | (clear h; (try simp only [go_sem, Nat.reduceBEq, Nat.reduceAdd, Nat.reduceLeDiff, Nat.reduceSub, Nat.reduceMul, Int.reduceToNat, Int.reduceLT, Int.reduceLE]); (refine ⟨?_, ?_, ?_⟩ <;> (try simp only [go_sem, Nat.reduceBEq, Nat.reduceAdd, Nat.reduceLeDiff, Nat.reduceSub, Nat.reduceMul, Int.reduceToNat, Int.reduceLT, Int.reduceLE, St.good, noAny, distinct, SubSt, subE, subHp]) <;> (repeat' (first | exact trivial | rfl | apply And.intro | (simp; done)))); done)
       | fail)
    | (refine M.gv1 (ms := mg_law27_AccessGrants_4) 90 [86, 87, 88, 89] h ?_ ?_ <;> first
       | (clear h; intro K hK5; unfold mg_law27_AccessGrants_4; simp (maxSteps := 400000) only [go_sem, Nat.reduceBEq, Nat.reduceAdd, Nat.reduceLeDiff, Nat.reduceSub, Nat.reduceMul, Int.reduceToNat, Int.reduceLT, Int.reduceLE])
       | (clear h; intro b h; (try simp (maxSteps := 400000) only [go_sem, Nat.reduceBEq, Nat.reduceAdd, Nat.reduceLeDiff, Nat.reduceSub, Nat.reduceMul, Int.reduceToNat, Int.reduceLT, Int.reduceLE] at h); simp (maxSteps := 400000) only [go_sem, Nat.reduceBEq, Nat.reduceAdd, Nat.reduceLeDiff, Nat.reduceSub, Nat.reduceMul, Int.reduceToNat, Int.reduceLT, Int.reduceLE])
       | fail)
    | (refine M.gv1 (ms := mg_law27_AccessGrants_3) 84 [80, 81, 82, 83] h ?_ ?_ <;> first
       | (clear h; intro K hK6; unfold mg_law27_AccessGrants_3; simp (maxSteps := 400000) only [go_sem, Nat.reduceBEq, Nat.reduceAdd, Nat.reduceLeDiff, Nat.reduceSub, Nat.reduceMul, Int.reduceToNat, Int.reduceLT, Int.reduceLE])
       | (clear h; intro b h; (try simp (maxSteps := 400000) only [go_sem, Nat.reduceBEq, Nat.reduceAdd, Nat.reduceLeDiff, Nat.reduceSub, Nat.reduceMul, Int.reduceToNat, Int.reduceLT, Int.reduceLE] at h); simp (maxSteps := 400000) only [go_sem, Nat.reduceBEq, Nat.reduceAdd, Nat.reduceLeDiff, Nat.reduceSub, Nat.reduceMul, Int.reduceToNat, Int.reduceLT, Int.reduceLE])
       | fail)
    | (refine M.gv1 (ms := mg_law27_AccessGrants_2) 78 [74, 75, 76, 77] h ?_ ?_ <;> first
       | (clear h; intro K hK7; unfold mg_law27_AccessGrants_2; simp (maxSteps := 400000) only [go_sem, Nat.reduceBEq, Nat.reduceAdd, Nat.reduceLeDiff, Nat.reduceSub, Nat.reduceMul, Int.reduceToNat, Int.reduceLT, Int.reduceLE])
       | (clear h; intro b h; (try simp (maxSteps := 400000) only [go_sem, Nat.reduceBEq, Nat.reduceAdd, Nat.reduceLeDiff, Nat.reduceSub, Nat.reduceMul, Int.reduceToNat, Int.reduceLT, Int.reduceLE] at h); simp (maxSteps := 400000) only [go_sem, Nat.reduceBEq, Nat.reduceAdd, Nat.reduceLeDiff, Nat.reduceSub, Nat.reduceMul, Int.reduceToNat, Int.reduceLT, Int.reduceLE])
       | fail)
    | (refine M.gv1 (ms := mg_law27_AccessGrants_1) 64 [59, 60, 61, 62, 63] h ?_ ?_ <;> first
       | (clear h; intro K hK8; unfold mg_law27_AccessGrants_1; simp (maxSteps := 400000) only [go_sem, Nat.reduceBEq, Nat.reduceAdd, Nat.reduceLeDiff, Nat.reduceSub, Nat.reduceMul, Int.reduceToNat, Int.reduceLT, Int.reduceLE])
       | (clear h; intro b h; (try simp (maxSteps := 400000) only [go_sem, Nat.reduceBEq, Nat.reduceAdd, Nat.reduceLeDiff, Nat.reduceSub, Nat.reduceMul, Int.reduceToNat, Int.reduceLT, Int.reduceLE] at h); simp (maxSteps := 400000) only [go_sem, Nat.reduceBEq, Nat.reduceAdd, Nat.reduceLeDiff, Nat.reduceSub, Nat.reduceMul, Int.reduceToNat, Int.reduceLT, Int.reduceLE])
       | fail)
    | (refine M.jnE (b := mc_law27_AccessGrants_J1) [4, 5, 6, 7, 8] [4] (fun y => []) (fun y => []) [] h ?_ ?_ <;> first
       | (clear h; intro Qn K hK9 h; (try simp (maxSteps := 400000) only [go_sem, Nat.reduceBEq, Nat.reduceAdd, Nat.reduceLeDiff, Nat.reduceSub, Nat.reduceMul, Int.reduceToNat, Int.reduceLT, Int.reduceLE] at h); simp (maxSteps := 400000) only [go_sem, Nat.reduceBEq, Nat.reduceAdd, Nat.reduceLeDiff, Nat.reduceSub, Nat.reduceMul, Int.reduceToNat, Int.reduceLT, Int.reduceLE])
       | (clear h; intro y h; unfold mc_law27_AccessGrants_J1; (try simp (maxSteps := 400000) only [go_sem, Nat.reduceBEq, Nat.reduceAdd, Nat.reduceLeDiff, Nat.reduceSub, Nat.reduceMul, Int.reduceToNat, Int.reduceLT, Int.reduceLE] at h); simp (maxSteps := 400000) only [go_sem, Nat.reduceBEq, Nat.reduceAdd, Nat.reduceLeDiff, Nat.reduceSub, Nat.reduceMul, Int.reduceToNat, Int.reduceLT, Int.reduceLE])
       | fail)
    | (refine M.wh1 (b := mc_law27_AccessGrants_L2) [4, 5, 6, 7] [4] (fun x => [(8, .int .i64 x)]) (fun x => []) [] h ?_ ?_ <;> first
       | (clear h; intro x Qn K hK10 h; unfold F_law27_AccessGrants_L2 at h; unfold mc_law27_AccessGrants_L2; (try simp (maxSteps := 400000) only [go_sem, Nat.reduceBEq, Nat.reduceAdd, Nat.reduceLeDiff, Nat.reduceSub, Nat.reduceMul, Int.reduceToNat, Int.reduceLT, Int.reduceLE] at h); simp (maxSteps := 400000) only [go_sem, Nat.reduceBEq, Nat.reduceAdd, Nat.reduceLeDiff, Nat.reduceSub, Nat.reduceMul, Int.reduceToNat, Int.reduceLT, Int.reduceLE])
       | (clear h; (try simp only [go_sem, Nat.reduceBEq, Nat.reduceAdd, Nat.reduceLeDiff, Nat.reduceSub, Nat.reduceMul, Int.reduceToNat, Int.reduceLT, Int.reduceLE]); (refine ⟨?_, ?_, ?_⟩ <;> (try simp only [go_sem, Nat.reduceBEq, Nat.reduceAdd, Nat.reduceLeDiff, Nat.reduceSub, Nat.reduceMul, Int.reduceToNat, Int.reduceLT, Int.reduceLE, St.good, noAny, distinct, SubSt, subE, subHp]) <;> (repeat' (first | exact trivial | rfl | apply And.intro | (simp; done)))); done)
       | fail)
    | (refine M.wh1 (b := mc_law27_AccessGrants_L3) [4, 5] [4] (fun x => [(6, .int .i64 x)]) (fun x => []) [] h ?_ ?_ <;> first
       | (clear h; intro x Qn K hK11 h; unfold F_law27_AccessGrants_L3 at h; unfold mc_law27_AccessGrants_L3; (try simp (maxSteps := 400000) only [go_sem, Nat.reduceBEq, Nat.reduceAdd, Nat.reduceLeDiff, Nat.reduceSub, Nat.reduceMul, Int.reduceToNat, Int.reduceLT, Int.reduceLE] at h); simp (maxSteps := 400000) only [go_sem, Nat.reduceBEq, Nat.reduceAdd, Nat.reduceLeDiff, Nat.reduceSub, Nat.reduceMul, Int.reduceToNat, Int.reduceLT, Int.reduceLE])
       | (clear h; (try simp only [go_sem, Nat.reduceBEq, Nat.reduceAdd, Nat.reduceLeDiff, Nat.reduceSub, Nat.reduceMul, Int.reduceToNat, Int.reduceLT, Int.reduceLE]); (refine ⟨?_, ?_, ?_⟩ <;> (try simp only [go_sem, Nat.reduceBEq, Nat.reduceAdd, Nat.reduceLeDiff, Nat.reduceSub, Nat.reduceMul, Int.reduceToNat, Int.reduceLT, Int.reduceLE, St.good, noAny, distinct, SubSt, subE, subHp]) <;> (repeat' (first | exact trivial | rfl | apply And.intro | (simp; done)))); done)
       | fail)
    | (refine And.intro hkI4 ?_)
    | (refine And.intro hkN4 ?_)
    | (refine And.intro hkB4 ?_)
    | (simp only [ha4])
    | (refine hK1 _ ?_; (refine ⟨?_, ?_, ?_⟩ <;> (try simp only [go_sem, Nat.reduceBEq, Nat.reduceAdd, Nat.reduceLeDiff, Nat.reduceSub, Nat.reduceMul, Int.reduceToNat, Int.reduceLT, Int.reduceLE, St.good, noAny, distinct, SubSt, subE, subHp, *]) <;> (repeat' (first | exact trivial | rfl | apply And.intro | (simp [*]; done)))); done)
    | (refine hK2 _ ?_; (refine ⟨?_, ?_, ?_⟩ <;> (try simp only [go_sem, Nat.reduceBEq, Nat.reduceAdd, Nat.reduceLeDiff, Nat.reduceSub, Nat.reduceMul, Int.reduceToNat, Int.reduceLT, Int.reduceLE, St.good, noAny, distinct, SubSt, subE, subHp, *]) <;> (repeat' (first | exact trivial | rfl | apply And.intro | (simp [*]; done)))); done)
    | (refine hK3 _ ?_; (refine ⟨?_, ?_, ?_⟩ <;> (try simp only [go_sem, Nat.reduceBEq, Nat.reduceAdd, Nat.reduceLeDiff, Nat.reduceSub, Nat.reduceMul, Int.reduceToNat, Int.reduceLT, Int.reduceLE, St.good, noAny, distinct, SubSt, subE, subHp, *]) <;> (repeat' (first | exact trivial | rfl | apply And.intro | (simp [*]; done)))); done)
    | (refine hK4 _ ?_; (try simp only [go_sem, Nat.reduceBEq, Nat.reduceAdd, Nat.reduceLeDiff, Nat.reduceSub, Nat.reduceMul, Int.reduceToNat, Int.reduceLT, Int.reduceLE]); refine ⟨_, h, ?_⟩; (refine ⟨?_, ?_, ?_⟩ <;> (try simp only [go_sem, Nat.reduceBEq, Nat.reduceAdd, Nat.reduceLeDiff, Nat.reduceSub, Nat.reduceMul, Int.reduceToNat, Int.reduceLT, Int.reduceLE, St.good, noAny, distinct, SubSt, subE, subHp]) <;> (repeat' (first | exact trivial | rfl | apply And.intro | (simp; done)))); done)
    | (refine hK5 _ ?_; (refine ⟨?_, ?_, ?_⟩ <;> (try simp only [go_sem, Nat.reduceBEq, Nat.reduceAdd, Nat.reduceLeDiff, Nat.reduceSub, Nat.reduceMul, Int.reduceToNat, Int.reduceLT, Int.reduceLE, St.good, noAny, distinct, SubSt, subE, subHp, *]) <;> (repeat' (first | exact trivial | rfl | apply And.intro | (simp [*]; done)))); done)
    | (refine hK6 _ ?_; (refine ⟨?_, ?_, ?_⟩ <;> (try simp only [go_sem, Nat.reduceBEq, Nat.reduceAdd, Nat.reduceLeDiff, Nat.reduceSub, Nat.reduceMul, Int.reduceToNat, Int.reduceLT, Int.reduceLE, St.good, noAny, distinct, SubSt, subE, subHp, *]) <;> (repeat' (first | exact trivial | rfl | apply And.intro | (simp [*]; done)))); done)
    | (refine hK7 _ ?_; (refine ⟨?_, ?_, ?_⟩ <;> (try simp only [go_sem, Nat.reduceBEq, Nat.reduceAdd, Nat.reduceLeDiff, Nat.reduceSub, Nat.reduceMul, Int.reduceToNat, Int.reduceLT, Int.reduceLE, St.good, noAny, distinct, SubSt, subE, subHp, *]) <;> (repeat' (first | exact trivial | rfl | apply And.intro | (simp [*]; done)))); done)
    | (refine hK8 _ ?_; (refine ⟨?_, ?_, ?_⟩ <;> (try simp only [go_sem, Nat.reduceBEq, Nat.reduceAdd, Nat.reduceLeDiff, Nat.reduceSub, Nat.reduceMul, Int.reduceToNat, Int.reduceLT, Int.reduceLE, St.good, noAny, distinct, SubSt, subE, subHp, *]) <;> (repeat' (first | exact trivial | rfl | apply And.intro | (simp [*]; done)))); done)
    | (refine hK9 _ ?_; (try simp only [go_sem, Nat.reduceBEq, Nat.reduceAdd, Nat.reduceLeDiff, Nat.reduceSub, Nat.reduceMul, Int.reduceToNat, Int.reduceLT, Int.reduceLE]); refine ⟨_, h, ?_⟩; (refine ⟨?_, ?_, ?_⟩ <;> (try simp only [go_sem, Nat.reduceBEq, Nat.reduceAdd, Nat.reduceLeDiff, Nat.reduceSub, Nat.reduceMul, Int.reduceToNat, Int.reduceLT, Int.reduceLE, St.good, noAny, distinct, SubSt, subE, subHp]) <;> (repeat' (first | exact trivial | rfl | apply And.intro | (simp; done)))); done)
    | (refine hK10 _ ?_; (try simp only [go_sem, Nat.reduceBEq, Nat.reduceAdd, Nat.reduceLeDiff, Nat.reduceSub, Nat.reduceMul, Int.reduceToNat, Int.reduceLT, Int.reduceLE]); refine ⟨_, h, ?_⟩; (refine ⟨?_, ?_, ?_⟩ <;> (try simp only [go_sem, Nat.reduceBEq, Nat.reduceAdd, Nat.reduceLeDiff, Nat.reduceSub, Nat.reduceMul, Int.reduceToNat, Int.reduceLT, Int.reduceLE, St.good, noAny, distinct, SubSt, subE, subHp]) <;> (repeat' (first | exact trivial | rfl | apply And.intro | (simp; done)))); done)
    | (refine hK11 _ ?_; (try simp only [go_sem, Nat.reduceBEq, Nat.reduceAdd, Nat.reduceLeDiff, Nat.reduceSub, Nat.reduceMul, Int.reduceToNat, Int.reduceLT, Int.reduceLE]); refine ⟨_, h, ?_⟩; (refine ⟨?_, ?_, ?_⟩ <;> (try simp only [go_sem, Nat.reduceBEq, Nat.reduceAdd, Nat.reduceLeDiff, Nat.reduceSub, Nat.reduceMul, Int.reduceToNat, Int.reduceLT, Int.reduceLE, St.good, noAny, distinct, SubSt, subE, subHp]) <;> (repeat' (first | exact trivial | rfl | apply And.intro | (simp; done)))); done)
    | (refine bfork (fun hc => ?_) (fun hc => ?_))
    | (refine ⟨_, getE_map (inb_toNat (by assumption)), ?_⟩; (first | rw [M.lok_compU] | rw [M.lokD_compU]); simp (maxSteps := 400000) only [go_sem, Nat.reduceBEq, Nat.reduceAdd, Nat.reduceLeDiff, Nat.reduceSub, Nat.reduceMul, Int.reduceToNat, Int.reduceLT, Int.reduceLE])
    | (refine And.intro (ltb_of (by assumption)) ?_)
    | fail)
theorem W_law27_AccessGrants : ∀ {l_ : List Int} {y : Bool}, F_law27_AccessGrants l_ = some y → ACall Try.prog 6 [.sl (l_.map (V.int .i64))] [] (fun r H => r = .bool y ∧ H = []) :=
  fun hy => Wq_law27_AccessGrants _ (Q := fun z => z = _) ⟨_, hy, rfl⟩ fun z e => by subst e; exact ⟨rfl, rfl⟩

def F_access_Times_L1 (k20 : Int) (a21 : GAccess) (x19 : List Int) : Option (List Int) :=
  chk (room (x19.length + [a21.Time].length) 8) (some (x19 ++ [a21.Time]))
def F_access_Times (a_ : GEstate) : Option (List Int) :=
  (F_access_Check a_).bind fun y4 => bif (!decide (y4 = 0)) then some [] else (foldL F_access_Times_L1 a_.Events 0 []).bind fun x22 => (compactI x22).bind fun y24 => some ((y24.2.drop 0).take y24.1)

/- leakresponse/access.Times -/
@[irreducible] def mc_access_Times_L1 : MC :=
  (.seq (.reg [⟨.bin false .lss (.t 12) (.t 11), (some 13), none⟩])
  (.seq (.cond (.t 13)
    .skip
    (.exit 0))
  (.seq (.block 1
  (.seq (.reg [⟨.iad 7 (.t 10) (.t 12), (some 14), none⟩,
    ⟨.ld (some 7) (.t 14), (some 15), none⟩,
    ⟨.alloc [(.int .i64 0), (.int .i64 0), (.int .i64 0), (.int .i64 0), (.int .i64 0), (.int .i64 0), (.int .i64 0)], (some 5), none⟩,
    ⟨.st 7 (.t 5) (.t 15), none, none⟩])
  (.reg [⟨.mv (.t 3), (some 16), none⟩,
    ⟨.fad 0 (.t 5), (some 17), none⟩,
    ⟨.ld none (.t 17), (some 18), none⟩,
    ⟨.bslice 1 [(.t 18)], (some 19), none⟩,
    ⟨.app 1 8 (.t 16) (.t 19), (some 20), none⟩,
    ⟨.mv (.t 20), (some 3), none⟩])))
  (.reg [⟨.bin true .add (.t 12) (.c (.int .i64 1)), (some 21), none⟩,
    ⟨.mv (.t 21), (some 12), none⟩]))))
def mc_access_Times : MC :=
  (.seq (.reg [⟨.box (.t 0), (some 1), none⟩,
    ⟨.mv (.c (.sl [])), (some 2), none⟩])
  (.seq (.seq (.reg [⟨.ld (some 2) (.t 1), (some 6), none⟩,
    ⟨.call (.f 15) [(.t 6)] [] [], (some 7), none⟩,
    ⟨.bin false .neq (.t 7) (.c (.int .i64 0)), (some 8), none⟩])
  (.cond (.t 8)
    (.seq (.reg [⟨.mv (.c (.sl [])), (some 2), none⟩])
    .ret)
    .skip))
  (.seq (.reg [⟨.mv (.c .nils), (some 3), none⟩])
  (.seq (.seq (.reg [⟨.fad 1 (.t 1), (some 9), none⟩,
    ⟨.ld none (.t 9), (some 10), none⟩,
    ⟨.len false (.t 10), (some 11), none⟩,
    ⟨.mv (.c (.int .i64 0)), (some 12), none⟩])
  (.block 0
  (.loop mc_access_Times_L1)))
  (.seq (.reg [⟨.mv (.t 3), (some 22), none⟩,
    ⟨.call (.f 35) [(.t 22)] [2003] [], (some 23), none⟩,
    ⟨.mv (.t 23), (some 2), none⟩])
  .ret)))))
theorem ok_access_Times : mc_access_Times.ok Try.prog Try.f19.ntmps (Try.f19.body.getD .skip) = true := by kernel_rfl

set_option maxHeartbeats 2000000 in
theorem Wq_access_Times (a_ : GEstate) {Q : List Int → Prop} {Q' : V → Heap → Prop} (h : Ok (F_access_Times a_) Q) (hQ : ∀ z, Q z → Q' (.sl (z.map (V.int .i64))) []) : ACall Try.prog 19 [GEstate.v a_] [] Q' := by
  refine acall_machN [.fz 2] [] [.t 2] Try.func19 rfl (by kernel_rfl) ok_access_Times (by kernel_rfl) rfl rfl fun M hf => ?_
  clear hf
  unfold F_access_Times at h
  unfold mc_access_Times
  (try simp (maxSteps := 400000) only [go_sem, Nat.reduceBEq, Nat.reduceAdd, Nat.reduceLeDiff, Nat.reduceSub, Nat.reduceMul, Int.reduceToNat, Int.reduceLT, Int.reduceLE] at h)
  simp (maxSteps := 400000) only [go_sem, Nat.reduceBEq, Nat.reduceAdd, Nat.reduceLeDiff, Nat.reduceSub, Nat.reduceMul, Int.reduceToNat, Int.reduceLT, Int.reduceLE]
  repeat' (first
    | (exact hQ _ h)
    | (refine And.intro (by refine ⟨?_, ?_, ?_, ?_⟩ <;> omega) ?_; first | exact hQ _ h | (rw [List.take_of_length_le (by omega)]; exact hQ _ h))
    | (have hq := hQ _ h; simp (maxSteps := 400000) only [go_sem, Nat.reduceBEq, Nat.reduceAdd, Nat.reduceLeDiff, Nat.reduceSub, Nat.reduceMul, Int.reduceToNat, Int.reduceLT, Int.reduceLE] at hq; exact hq)
    | (refine oblg h ?_; clear h; intro hc h)
    | (refine fork h ?_ ?_ <;> clear h <;> intro hc h)
    | (refine forkS h ?_ ?_ <;> clear h <;> intro hc h)
    | (refine And.intro (chkD_of rfl) ?_)
    | (obtain ⟨y, hy, h⟩ := h; have hw := W_access_Check hy; (try simp (maxSteps := 400000) only [go_sem, Nat.reduceBEq, Nat.reduceAdd, Nat.reduceLeDiff, Nat.reduceSub, Nat.reduceMul, Int.reduceToNat, Int.reduceLT, Int.reduceLE] at hw); refine sCall_of hw rfl rfl ?_; clear hw; clear hy; rw [M.lok_eq]; simp (maxSteps := 400000) only [go_sem, Nat.reduceBEq, Nat.reduceAdd, Nat.reduceLeDiff, Nat.reduceSub, Nat.reduceMul, Int.reduceToNat, Int.reduceLT, Int.reduceLE])
    | (obtain ⟨y, hy, h⟩ := h; have hw := W_access_Check hy; (try simp (maxSteps := 400000) only [go_sem, Nat.reduceBEq, Nat.reduceAdd, Nat.reduceLeDiff, Nat.reduceSub, Nat.reduceMul, Int.reduceToNat, Int.reduceLT, Int.reduceLE] at hw); refine sCallD_of hw rfl rfl ?_; clear hw; clear hy; rw [M.lokD_eq]; simp (maxSteps := 400000) only [go_sem, Nat.reduceBEq, Nat.reduceAdd, Nat.reduceLeDiff, Nat.reduceSub, Nat.reduceMul, Int.reduceToNat, Int.reduceLT, Int.reduceLE])
    | (obtain ⟨y, hy, h⟩ := h; have hw := acall_swe 1000 2003 (W_compactI hy); (try simp (maxSteps := 400000) only [go_sem, Nat.reduceBEq, Nat.reduceAdd, Nat.reduceLeDiff, Nat.reduceSub, Nat.reduceMul, Int.reduceToNat, Int.reduceLT, Int.reduceLE] at hw); refine sCall_of hw rfl rfl ?_; clear hw; have hlen := compactI_len hy; clear hy; rw [M.lok_eq]; simp (maxSteps := 400000) only [go_sem, Nat.reduceBEq, Nat.reduceAdd, Nat.reduceLeDiff, Nat.reduceSub, Nat.reduceMul, Int.reduceToNat, Int.reduceLT, Int.reduceLE])
    | (obtain ⟨y, hy, h⟩ := h; have hw := acall_swe 1000 2003 (W_compactI hy); (try simp (maxSteps := 400000) only [go_sem, Nat.reduceBEq, Nat.reduceAdd, Nat.reduceLeDiff, Nat.reduceSub, Nat.reduceMul, Int.reduceToNat, Int.reduceLT, Int.reduceLE] at hw); refine sCallD_of hw rfl rfl ?_; clear hw; have hlen := compactI_len hy; clear hy; rw [M.lokD_eq]; simp (maxSteps := 400000) only [go_sem, Nat.reduceBEq, Nat.reduceAdd, Nat.reduceLeDiff, Nat.reduceSub, Nat.reduceMul, Int.reduceToNat, Int.reduceLT, Int.reduceLE])
    | (refine M.fold1 (b := mc_access_Times_L1) 12 [10, 11] [] (fun x => [(3, .osl 2003 1 0 x.length)]) (fun x => [.o 2003 (.arr 1 (x.map (V.int .i64)))]) [.gc [3, 10, 11, 12], .acc 3 2003 1] h ?_ ?_ ?_ <;> first
       | (clear h; intro k a x Qn K hK1 hkN1 ha1 h hf; have hl := fact_int (factsE_find (n := 11) hf.1 rfl); clear hf; have hkd := decide_eq_true (Int.ofNat_lt.2 hkN1); have hkB1 := inb_iff.2 ⟨Int.natCast_nonneg k, Int.ofNat_lt.2 hkN1⟩; have hkI1 : in64 ((k : Int) + 1) = true := in64_iff.2 ⟨by omega, by (try simp only [List.length_cons, List.length_nil] at hkN1); omega⟩; unfold F_access_Times_L1 at h; unfold mc_access_Times_L1; (try simp (maxSteps := 400000) only [go_sem, Nat.reduceBEq, Nat.reduceAdd, Nat.reduceLeDiff, Nat.reduceSub, Nat.reduceMul, Int.reduceToNat, Int.reduceLT, Int.reduceLE] at h); simp only [go_sem, Nat.reduceBEq, Nat.reduceAdd, Nat.reduceLeDiff, Nat.reduceSub, Nat.reduceMul, Int.reduceToNat, Int.reduceLT, Int.reduceLE, ha1, hkd, hkN1, hkB1, hkI1])
       | (clear h; intro x K h; replace h := And.left (And.intro h trivial); unfold mc_access_Times_L1; (try simp (maxSteps := 400000) only [go_sem, Nat.reduceBEq, Nat.reduceAdd, Nat.reduceLeDiff, Nat.reduceSub, Nat.reduceMul, Int.reduceToNat, Int.reduceLT, Int.reduceLE] at h); simp (maxSteps := 400000) only [go_sem, Nat.reduceBEq, Nat.reduceAdd, Nat.reduceLeDiff, Nat.reduceSub, Nat.reduceMul, Int.reduceToNat, Int.reduceLT, Int.reduceLE])
       | (clear h; (try simp only [go_sem, Nat.reduceBEq, Nat.reduceAdd, Nat.reduceLeDiff, Nat.reduceSub, Nat.reduceMul, Int.reduceToNat, Int.reduceLT, Int.reduceLE]); (refine ⟨?_, ?_, ?_⟩ <;> (try simp only [go_sem, Nat.reduceBEq, Nat.reduceAdd, Nat.reduceLeDiff, Nat.reduceSub, Nat.reduceMul, Int.reduceToNat, Int.reduceLT, Int.reduceLE, St.good, noAny, distinct, SubSt, subE, subHp]) <;> (repeat' (first | exact trivial | rfl | apply And.intro | (simp; done)))); done)
       | fail)
    | (refine And.intro hkI1 ?_)
    | (refine And.intro hkN1 ?_)
    | (refine And.intro hkB1 ?_)
    | (simp only [ha1])
    | (refine hK1 _ ?_; (try simp only [go_sem, Nat.reduceBEq, Nat.reduceAdd, Nat.reduceLeDiff, Nat.reduceSub, Nat.reduceMul, Int.reduceToNat, Int.reduceLT, Int.reduceLE]); refine ⟨_, h, ?_⟩; (refine ⟨?_, ?_, ?_⟩ <;> (try simp only [go_sem, Nat.reduceBEq, Nat.reduceAdd, Nat.reduceLeDiff, Nat.reduceSub, Nat.reduceMul, Int.reduceToNat, Int.reduceLT, Int.reduceLE, St.good, noAny, distinct, SubSt, subE, subHp]) <;> (repeat' (first | exact trivial | rfl | apply And.intro | (simp; done)))); done)
    | (refine ⟨_, getE_map (inb_toNat (by assumption)), ?_⟩; (first | rw [M.lok_compU] | rw [M.lokD_compU]); simp (maxSteps := 400000) only [go_sem, Nat.reduceBEq, Nat.reduceAdd, Nat.reduceLeDiff, Nat.reduceSub, Nat.reduceMul, Int.reduceToNat, Int.reduceLT, Int.reduceLE])
    | (refine And.intro (ltb_of (by assumption)) ?_)
    | fail)
theorem W_access_Times : ∀ {a_ : GEstate} {y : List Int}, F_access_Times a_ = some y → ACall Try.prog 19 [GEstate.v a_] [] (fun r H => r = .sl (y.map (V.int .i64)) ∧ H = []) :=
  fun hy => Wq_access_Times _ (Q := fun z => z = _) ⟨_, hy, rfl⟩ fun z e => by subst e; exact ⟨rfl, rfl⟩

noncomputable def F_law27_AccessQuiet_L1 (y8 : GEstate × GTape) (x1783 : Int) (x2299 : Int) : Option (Fl Int (Sum Unit Bool)) :=
  bif decide (x2299 < y8.1.Places) then jn (α := Fl (GEstate × Int × Int × Int × (List Int) × GEstate × Int × Int × (List Int) × Bool × Bool) Bool) (chk (in64 (x1783 - 1)) ((F_access_Linked y8.1 x2299 (x1783 - 1)).bind fun y2352 => (F_access_Linked y8.1 x2299 x1783).bind fun y2354 => bif y2354.2 then bif (!y2352.2) then some (.ex false) else chk (in64 (x1783 - 1)) ((F_access_Granted y8.1 x2299 (x1783 - 1)).bind fun y2361 => (F_access_Granted y8.1 x2299 x1783).bind fun y2362 => (F_ref23_Ints y2361 y2362).bind fun y2363 => bif (!y2363) then some (.ex false) else some (.nx (y8.1, x2299, x1783, (x1783 - 1), y2361, y8.1, x2299, x1783, y2362, y2363, (!y2363)))) else chk (in64 (x1783 - 1)) ((F_access_Granted y8.1 x2299 (x1783 - 1)).bind fun y2364 => (F_access_Granted y8.1 x2299 x1783).bind fun y2365 => (F_ref23_Ints y2364 y2365).bind fun y2366 => bif (!y2366) then some (.ex false) else some (.nx (y8.1, x2299, x1783, (x1783 - 1), y2364, y8.1, x2299, x1783, y2365, y2366, (!y2366)))))) fun o => o.elim (fun j2350 => chk (in64 (x2299 + 1)) (some (.nx (x2299 + 1)))) (fun r2367 => some (.ex (.inr r2367))) else some (.ex (.inl ()))
noncomputable def F_law27_AccessQuiet_L2 (y8 : GEstate × GTape) (y10 : List Int) (x1783 : Int) : Option (Fl Int (Sum Unit Bool)) :=
  bif decide (x1783 < 40) then jn (α := Fl Unit Bool) ((F_ref23_Has y10 x1783).bind fun y2228 => bif y2228 then some (.nx ()) else (loop (F_law27_AccessQuiet_L1 y8 x1783) 0).bind fun r2368 => Sum.elim (fun u2369 => some (.nx ())) (fun u2370 => some (.ex u2370)) r2368) fun o => o.elim (fun j2224 => chk (in64 (x1783 + 1)) (some (.nx (x1783 + 1)))) (fun r2371 => some (.ex (.inr r2371))) else some (.ex (.inl ()))
noncomputable def F_law27_AccessQuiet (l_ : List Int) : Option Bool :=
  bif decide (300 < (l_.length : Int)) then F_law27_awake.bind fun y4 => some y4 else (F_made_Directory (GTape.mk l_ 0)).bind fun y7 => (F_made_Estate y7.2 y7.1).bind fun y8 => (F_access_Times y8.1).bind fun y10 => (loop (F_law27_AccessQuiet_L2 y8 y10) 1).bind fun r2372 => Sum.elim (fun u2373 => F_law27_awake.bind fun y2376 => some y2376) (fun u2374 => some u2374) r2372

/- leakresponse/leakresponselaw27.AccessQuiet -/
@[irreducible] def mc_law27_AccessQuiet_J1 : MC :=
  (.reg [⟨.mv (.t 7), (some 36), none⟩,
    ⟨.bin true .add (.t 36) (.c (.int .i64 1)), (some 37), none⟩,
    ⟨.mv (.t 37), (some 7), none⟩])
@[irreducible] def mc_law27_AccessQuiet_L1 : MC :=
  (.seq (.seq (.reg [⟨.mv (.t 7), (some 32), none⟩,
    ⟨.fad 0 (.t 4), (some 33), none⟩,
    ⟨.ld none (.t 33), (some 34), none⟩,
    ⟨.bin false .lss (.t 32) (.t 34), (some 35), none⟩])
  (.cond (.t 35)
    .skip
    (.exit 2)))
  (.cut (.block 3
  (.seq (.reg [⟨.ld (some 2) (.t 4), (some 39), none⟩,
    ⟨.mv (.t 7), (some 40), none⟩,
    ⟨.mv (.t 6), (some 41), none⟩,
    ⟨.bin true .sub (.t 41) (.c (.int .i64 1)), (some 42), none⟩,
    ⟨.call (.f 14) [(.t 39), (.t 40), (.t 42)] [] [], (some 43), none⟩,
    ⟨.mv (.t 43), (some 38), none⟩,
    ⟨.ext 0 (.t 38), (some 44), none⟩,
    ⟨.ext 1 (.t 38), (some 45), none⟩,
    ⟨.mv (.t 44), (some 8), none⟩,
    ⟨.mv (.t 45), (some 9), none⟩])
  (.seq (.note (.gc [4, 5, 6, 7, 9, 55, 56, 59, 60, 61, 62, 63, 64, 65, 66, 67, 68, 69]) (.reg [⟨.ld (some 2) (.t 4), (some 47), none⟩,
    ⟨.mv (.t 7), (some 48), none⟩,
    ⟨.mv (.t 6), (some 49), none⟩,
    ⟨.call (.f 14) [(.t 47), (.t 48), (.t 49)] [] [], (some 50), none⟩,
    ⟨.mv (.t 50), (some 46), none⟩,
    ⟨.ext 0 (.t 46), (some 51), none⟩,
    ⟨.ext 1 (.t 46), (some 52), none⟩,
    ⟨.mv (.t 51), (some 10), none⟩,
    ⟨.mv (.t 52), (some 11), none⟩]))
  (.seq (.note (.gc [4, 5, 6, 7, 9, 11, 55, 56, 59, 60, 61, 62, 63, 64, 65, 66, 67, 68, 69]) (.regD [⟨.mv (.t 11), (some 53), none⟩,
    ⟨.mv (.t 53), (some 54), none⟩,
    ⟨.mv (.t 9), (some 55), (some (54, true))⟩,
    ⟨.not (.t 55), (some 56), (some (54, true))⟩,
    ⟨.pick (.t 54) (.t 56) (.c (.bool false)), (some 57), none⟩,
    ⟨.mv (.t 57), (some 58), none⟩,
    ⟨.ld (some 2) (.t 4), (some 59), (some (58, false))⟩,
    ⟨.mv (.t 7), (some 60), (some (58, false))⟩,
    ⟨.mv (.t 6), (some 61), (some (58, false))⟩,
    ⟨.bin true .sub (.t 61) (.c (.int .i64 1)), (some 62), (some (58, false))⟩,
    ⟨.call (.f 13) [(.t 59), (.t 60), (.t 62)] [] [], (some 63), (some (58, false))⟩,
    ⟨.ld (some 2) (.t 4), (some 64), (some (58, false))⟩,
    ⟨.mv (.t 7), (some 65), (some (58, false))⟩,
    ⟨.mv (.t 6), (some 66), (some (58, false))⟩,
    ⟨.call (.f 13) [(.t 64), (.t 65), (.t 66)] [] [], (some 67), (some (58, false))⟩,
    ⟨.call (.f 16) [(.t 63), (.t 67)] [] [], (some 68), (some (58, false))⟩,
    ⟨.not (.t 68), (some 69), (some (58, false))⟩,
    ⟨.pick (.t 58) (.c (.bool true)) (.t 69), (some 70), none⟩]
    [[], [0], [1], [2, 1], [1, 3], [4, 1], [5], [5], [5], [8, 5], [6, 7, 9, 5, 5], [5], [5], [5], [11, 12, 13, 10, 5], [10, 14, 14, 5], [15, 5], [5, 16]]
    [[], [0], [0, 1], [0, 1, 2], [0, 1, 2, 3], [0, 1, 2, 3, 4], [0, 1, 2, 3, 4, 5], [0, 1, 2, 3, 4, 5], [0, 1, 2, 3, 4, 5], [0, 1, 2, 3, 4, 5, 8], [0, 1, 2, 3, 4, 5, 6, 7, 8, 9], [0, 1, 2, 3, 4, 5], [0, 1, 2, 3, 4, 5], [0, 1, 2, 3, 4, 5], [0, 1, 2, 3, 4, 5, 6, 7, 8, 9, 10, 11, 12, 13], [0, 1, 2, 3, 4, 5, 6, 7, 8, 9, 10, 11, 12, 13, 14], [0, 1, 2, 3, 4, 5, 6, 7, 8, 9, 10, 11, 12, 13, 14, 15], [0, 1, 2, 3, 4, 5, 6, 7, 8, 9, 10, 11, 12, 13, 14, 15, 16]]))
  (.cond (.t 70)
    (.seq (.reg [⟨.mv (.c (.bool false)), (some 2), none⟩])
    .ret)
    .skip)))))
  mc_law27_AccessQuiet_J1))
@[irreducible] def mc_law27_AccessQuiet_J2 : MC :=
  (.reg [⟨.mv (.t 6), (some 27), none⟩,
    ⟨.bin true .add (.t 27) (.c (.int .i64 1)), (some 28), none⟩,
    ⟨.mv (.t 28), (some 6), none⟩])
@[irreducible] def mc_law27_AccessQuiet_L2 : MC :=
  (.seq (.seq (.reg [⟨.mv (.t 6), (some 25), none⟩,
    ⟨.bin false .lss (.t 25) (.c (.int .i64 40)), (some 26), none⟩])
  (.cond (.t 26)
    .skip
    (.exit 0)))
  (.cut (.block 1
  (.seq (.seq (.reg [⟨.mv (.t 5), (some 29), none⟩,
    ⟨.mv (.t 6), (some 30), none⟩,
    ⟨.call (.f 18) [(.t 29), (.t 30)] [] [], (some 31), none⟩])
  (.cond (.t 31)
    (.exit 1)
    .skip))
  (.seq (.reg [⟨.mv (.c (.int .i64 0)), (some 7), none⟩])
  (.block 2
  (.loop mc_law27_AccessQuiet_L1)))))
  mc_law27_AccessQuiet_J2))
def mc_law27_AccessQuiet : MC :=
  (.seq (.reg [⟨.mv (.c (.bool false)), (some 2), none⟩])
  (.seq (.seq (.reg [⟨.mv (.t 0), (some 12), none⟩,
    ⟨.len false (.t 12), (some 13), none⟩,
    ⟨.bin false .gtr (.t 13) (.c (.int .i64 300)), (some 14), none⟩])
  (.cond (.t 14)
    (.seq (.reg [⟨.call (.f 9) [] [] [], (some 15), none⟩,
      ⟨.mv (.t 15), (some 2), none⟩])
    .ret)
    .skip))
  (.seq (.reg [⟨.mv (.t 0), (some 16), none⟩,
    ⟨.build [(.sl []), (.int .i64 0)] [(0, 1, (.t 16))], (some 17), none⟩,
    ⟨.box (.t 17), (some 18), none⟩,
    ⟨.mv (.t 18), (some 3), none⟩])
  (.seq (.note (.gc [3, 55, 56, 59, 60, 61, 62, 63, 64, 65, 66, 67, 68, 69]) (.reg [⟨.mv (.t 3), (some 19), none⟩,
    ⟨.mv (.t 3), (some 20), none⟩,
    ⟨.call (.f 11) [(.t 20)] [18] [], (some 21), none⟩,
    ⟨.call (.f 10) [(.t 19), (.t 21)] [18] [], (some 22), none⟩,
    ⟨.alloc [(.int .i64 0), (.sl [])], (some 4), none⟩,
    ⟨.st 2 (.t 4) (.t 22), none, none⟩]))
  (.seq (.reg [⟨.ld (some 2) (.t 4), (some 23), none⟩,
    ⟨.call (.f 19) [(.t 23)] [] [], (some 24), none⟩,
    ⟨.mv (.t 24), (some 5), none⟩])
  (.seq (.seq (.reg [⟨.mv (.c (.int .i64 1)), (some 6), none⟩])
  (.block 0
  (.loop mc_law27_AccessQuiet_L2)))
  (.seq (.reg [⟨.call (.f 9) [] [] [], (some 71), none⟩,
    ⟨.mv (.t 71), (some 2), none⟩])
  .ret)))))))
theorem ok_law27_AccessQuiet : mc_law27_AccessQuiet.ok Try.prog Try.f7.ntmps (Try.f7.body.getD .skip) = true := by kernel_rfl

set_option maxHeartbeats 2000000 in
theorem Wq_law27_AccessQuiet (l_ : List Int) {Q : Bool → Prop} {Q' : V → Heap → Prop} (h : Ok (F_law27_AccessQuiet l_) Q) (hQ : ∀ z, Q z → Q' (.bool z) []) : ACall Try.prog 7 [.sl (l_.map (V.int .i64))] [] Q' := by
  refine acall_machN [] [] [.t 2] Try.func7 rfl (by kernel_rfl) ok_law27_AccessQuiet (by kernel_rfl) rfl rfl fun M hf => ?_
  clear hf
  unfold F_law27_AccessQuiet at h
  unfold mc_law27_AccessQuiet
  (try simp (maxSteps := 400000) only [go_sem, Nat.reduceBEq, Nat.reduceAdd, Nat.reduceLeDiff, Nat.reduceSub, Nat.reduceMul, Int.reduceToNat, Int.reduceLT, Int.reduceLE] at h)
  simp (maxSteps := 400000) only [go_sem, Nat.reduceBEq, Nat.reduceAdd, Nat.reduceLeDiff, Nat.reduceSub, Nat.reduceMul, Int.reduceToNat, Int.reduceLT, Int.reduceLE]
  repeat' (first
    | (exact hQ _ h)
    | (have hq := hQ _ h; simp (maxSteps := 400000) only [go_sem, Nat.reduceBEq, Nat.reduceAdd, Nat.reduceLeDiff, Nat.reduceSub, Nat.reduceMul, Int.reduceToNat, Int.reduceLT, Int.reduceLE] at hq; exact hq)
    | (refine oblg h ?_; clear h; intro hc h)
    | (refine fork h ?_ ?_ <;> clear h <;> intro hc h)
    | (refine forkS h ?_ ?_ <;> clear h <;> intro hc h)
    | (refine And.intro (chkD_of rfl) ?_)
    | (obtain ⟨y, hy, h⟩ := h; have hw := W_law27_awake hy; (try simp (maxSteps := 400000) only [go_sem, Nat.reduceBEq, Nat.reduceAdd, Nat.reduceLeDiff, Nat.reduceSub, Nat.reduceMul, Int.reduceToNat, Int.reduceLT, Int.reduceLE] at hw); refine sCall_of hw rfl rfl ?_; clear hw; clear hy; rw [M.lok_eq]; simp (maxSteps := 400000) only [go_sem, Nat.reduceBEq, Nat.reduceAdd, Nat.reduceLeDiff, Nat.reduceSub, Nat.reduceMul, Int.reduceToNat, Int.reduceLT, Int.reduceLE])
    | (obtain ⟨y, hy, h⟩ := h; have hw := W_law27_awake hy; (try simp (maxSteps := 400000) only [go_sem, Nat.reduceBEq, Nat.reduceAdd, Nat.reduceLeDiff, Nat.reduceSub, Nat.reduceMul, Int.reduceToNat, Int.reduceLT, Int.reduceLE] at hw); refine sCallD_of hw rfl rfl ?_; clear hw; clear hy; rw [M.lokD_eq]; simp (maxSteps := 400000) only [go_sem, Nat.reduceBEq, Nat.reduceAdd, Nat.reduceLeDiff, Nat.reduceSub, Nat.reduceMul, Int.reduceToNat, Int.reduceLT, Int.reduceLE])
    | (obtain ⟨y, hy, h⟩ := h; have hw := acall_swe 1000 18 (W_made_Directory hy); (try simp (maxSteps := 400000) only [go_sem, Nat.reduceBEq, Nat.reduceAdd, Nat.reduceLeDiff, Nat.reduceSub, Nat.reduceMul, Int.reduceToNat, Int.reduceLT, Int.reduceLE] at hw); refine sCall_of hw rfl rfl ?_; clear hw; clear hy; rw [M.lok_eq]; simp (maxSteps := 400000) only [go_sem, Nat.reduceBEq, Nat.reduceAdd, Nat.reduceLeDiff, Nat.reduceSub, Nat.reduceMul, Int.reduceToNat, Int.reduceLT, Int.reduceLE])
    | (obtain ⟨y, hy, h⟩ := h; have hw := acall_swe 1000 18 (W_made_Directory hy); (try simp (maxSteps := 400000) only [go_sem, Nat.reduceBEq, Nat.reduceAdd, Nat.reduceLeDiff, Nat.reduceSub, Nat.reduceMul, Int.reduceToNat, Int.reduceLT, Int.reduceLE] at hw); refine sCallD_of hw rfl rfl ?_; clear hw; clear hy; rw [M.lokD_eq]; simp (maxSteps := 400000) only [go_sem, Nat.reduceBEq, Nat.reduceAdd, Nat.reduceLeDiff, Nat.reduceSub, Nat.reduceMul, Int.reduceToNat, Int.reduceLT, Int.reduceLE])
    | (obtain ⟨y, hy, h⟩ := h; have hw := acall_swe 1000 18 (W_made_Estate hy); (try simp (maxSteps := 400000) only [go_sem, Nat.reduceBEq, Nat.reduceAdd, Nat.reduceLeDiff, Nat.reduceSub, Nat.reduceMul, Int.reduceToNat, Int.reduceLT, Int.reduceLE] at hw); refine sCall_of hw rfl rfl ?_; clear hw; clear hy; rw [M.lok_eq]; simp (maxSteps := 400000) only [go_sem, Nat.reduceBEq, Nat.reduceAdd, Nat.reduceLeDiff, Nat.reduceSub, Nat.reduceMul, Int.reduceToNat, Int.reduceLT, Int.reduceLE])
    | (obtain ⟨y, hy, h⟩ := h; have hw := acall_swe 1000 18 (W_made_Estate hy); (try simp (maxSteps := 400000) only [go_sem, Nat.reduceBEq, Nat.reduceAdd, Nat.reduceLeDiff, Nat.reduceSub, Nat.reduceMul, Int.reduceToNat, Int.reduceLT, Int.reduceLE] at hw); refine sCallD_of hw rfl rfl ?_; clear hw; clear hy; rw [M.lokD_eq]; simp (maxSteps := 400000) only [go_sem, Nat.reduceBEq, Nat.reduceAdd, Nat.reduceLeDiff, Nat.reduceSub, Nat.reduceMul, Int.reduceToNat, Int.reduceLT, Int.reduceLE])
    | (obtain ⟨y, hy, h⟩ := h; have hw := W_access_Times hy; (try simp (maxSteps := 400000) only [go_sem, Nat.reduceBEq, Nat.reduceAdd, Nat.reduceLeDiff, Nat.reduceSub, Nat.reduceMul, Int.reduceToNat, Int.reduceLT, Int.reduceLE] at hw); refine sCall_of hw rfl rfl ?_; clear hw; clear hy; rw [M.lok_eq]; simp (maxSteps := 400000) only [go_sem, Nat.reduceBEq, Nat.reduceAdd, Nat.reduceLeDiff, Nat.reduceSub, Nat.reduceMul, Int.reduceToNat, Int.reduceLT, Int.reduceLE])
    | (obtain ⟨y, hy, h⟩ := h; have hw := W_access_Times hy; (try simp (maxSteps := 400000) only [go_sem, Nat.reduceBEq, Nat.reduceAdd, Nat.reduceLeDiff, Nat.reduceSub, Nat.reduceMul, Int.reduceToNat, Int.reduceLT, Int.reduceLE] at hw); refine sCallD_of hw rfl rfl ?_; clear hw; clear hy; rw [M.lokD_eq]; simp (maxSteps := 400000) only [go_sem, Nat.reduceBEq, Nat.reduceAdd, Nat.reduceLeDiff, Nat.reduceSub, Nat.reduceMul, Int.reduceToNat, Int.reduceLT, Int.reduceLE])
    | (obtain ⟨y, hy, h⟩ := h; have hw := W_ref23_Has hy; (try simp (maxSteps := 400000) only [go_sem, Nat.reduceBEq, Nat.reduceAdd, Nat.reduceLeDiff, Nat.reduceSub, Nat.reduceMul, Int.reduceToNat, Int.reduceLT, Int.reduceLE] at hw); refine sCall_of hw rfl rfl ?_; clear hw; clear hy; rw [M.lok_eq]; simp (maxSteps := 400000) only [go_sem, Nat.reduceBEq, Nat.reduceAdd, Nat.reduceLeDiff, Nat.reduceSub, Nat.reduceMul, Int.reduceToNat, Int.reduceLT, Int.reduceLE])
    | (obtain ⟨y, hy, h⟩ := h; have hw := W_ref23_Has hy; (try simp (maxSteps := 400000) only [go_sem, Nat.reduceBEq, Nat.reduceAdd, Nat.reduceLeDiff, Nat.reduceSub, Nat.reduceMul, Int.reduceToNat, Int.reduceLT, Int.reduceLE] at hw); refine sCallD_of hw rfl rfl ?_; clear hw; clear hy; rw [M.lokD_eq]; simp (maxSteps := 400000) only [go_sem, Nat.reduceBEq, Nat.reduceAdd, Nat.reduceLeDiff, Nat.reduceSub, Nat.reduceMul, Int.reduceToNat, Int.reduceLT, Int.reduceLE])
    | (obtain ⟨y, hy, h⟩ := h; have hw := W_access_Linked hy; (try simp (maxSteps := 400000) only [go_sem, Nat.reduceBEq, Nat.reduceAdd, Nat.reduceLeDiff, Nat.reduceSub, Nat.reduceMul, Int.reduceToNat, Int.reduceLT, Int.reduceLE] at hw); refine sCall_of hw rfl rfl ?_; clear hw; clear hy; rw [M.lok_eq]; simp (maxSteps := 400000) only [go_sem, Nat.reduceBEq, Nat.reduceAdd, Nat.reduceLeDiff, Nat.reduceSub, Nat.reduceMul, Int.reduceToNat, Int.reduceLT, Int.reduceLE])
    | (obtain ⟨y, hy, h⟩ := h; have hw := W_access_Linked hy; (try simp (maxSteps := 400000) only [go_sem, Nat.reduceBEq, Nat.reduceAdd, Nat.reduceLeDiff, Nat.reduceSub, Nat.reduceMul, Int.reduceToNat, Int.reduceLT, Int.reduceLE] at hw); refine sCallD_of hw rfl rfl ?_; clear hw; clear hy; rw [M.lokD_eq]; simp (maxSteps := 400000) only [go_sem, Nat.reduceBEq, Nat.reduceAdd, Nat.reduceLeDiff, Nat.reduceSub, Nat.reduceMul, Int.reduceToNat, Int.reduceLT, Int.reduceLE])
    | (obtain ⟨y, hy, h⟩ := h; have hw := W_access_Granted hy; (try simp (maxSteps := 400000) only [go_sem, Nat.reduceBEq, Nat.reduceAdd, Nat.reduceLeDiff, Nat.reduceSub, Nat.reduceMul, Int.reduceToNat, Int.reduceLT, Int.reduceLE] at hw); refine sCall_of hw rfl rfl ?_; clear hw; clear hy; rw [M.lok_eq]; simp (maxSteps := 400000) only [go_sem, Nat.reduceBEq, Nat.reduceAdd, Nat.reduceLeDiff, Nat.reduceSub, Nat.reduceMul, Int.reduceToNat, Int.reduceLT, Int.reduceLE])
    | (obtain ⟨y, hy, h⟩ := h; have hw := W_access_Granted hy; (try simp (maxSteps := 400000) only [go_sem, Nat.reduceBEq, Nat.reduceAdd, Nat.reduceLeDiff, Nat.reduceSub, Nat.reduceMul, Int.reduceToNat, Int.reduceLT, Int.reduceLE] at hw); refine sCallD_of hw rfl rfl ?_; clear hw; clear hy; rw [M.lokD_eq]; simp (maxSteps := 400000) only [go_sem, Nat.reduceBEq, Nat.reduceAdd, Nat.reduceLeDiff, Nat.reduceSub, Nat.reduceMul, Int.reduceToNat, Int.reduceLT, Int.reduceLE])
    | (obtain ⟨y, hy, h⟩ := h; have hw := W_ref23_Ints hy; (try simp (maxSteps := 400000) only [go_sem, Nat.reduceBEq, Nat.reduceAdd, Nat.reduceLeDiff, Nat.reduceSub, Nat.reduceMul, Int.reduceToNat, Int.reduceLT, Int.reduceLE] at hw); refine sCall_of hw rfl rfl ?_; clear hw; clear hy; rw [M.lok_eq]; simp (maxSteps := 400000) only [go_sem, Nat.reduceBEq, Nat.reduceAdd, Nat.reduceLeDiff, Nat.reduceSub, Nat.reduceMul, Int.reduceToNat, Int.reduceLT, Int.reduceLE])
    | (obtain ⟨y, hy, h⟩ := h; have hw := W_ref23_Ints hy; (try simp (maxSteps := 400000) only [go_sem, Nat.reduceBEq, Nat.reduceAdd, Nat.reduceLeDiff, Nat.reduceSub, Nat.reduceMul, Int.reduceToNat, Int.reduceLT, Int.reduceLE] at hw); refine sCallD_of hw rfl rfl ?_; clear hw; clear hy; rw [M.lokD_eq]; simp (maxSteps := 400000) only [go_sem, Nat.reduceBEq, Nat.reduceAdd, Nat.reduceLeDiff, Nat.reduceSub, Nat.reduceMul, Int.reduceToNat, Int.reduceLT, Int.reduceLE])
    | (refine M.jnE (b := mc_law27_AccessQuiet_J1) [4, 5, 6, 7] [4] (fun y => [(59, GEstate.v y.1), (60, .int .i64 y.2.1), (61, .int .i64 y.2.2.1), (62, .int .i64 y.2.2.2.1), (63, .sl (y.2.2.2.2.1.map (V.int .i64))), (64, GEstate.v y.2.2.2.2.2.1), (65, .int .i64 y.2.2.2.2.2.2.1), (66, .int .i64 y.2.2.2.2.2.2.2.1), (67, .sl (y.2.2.2.2.2.2.2.2.1.map (V.int .i64))), (68, .bool y.2.2.2.2.2.2.2.2.2.1), (69, .bool y.2.2.2.2.2.2.2.2.2.2)]) (fun y => []) [] h ?_ ?_ <;> first
       | (clear h; intro Qn K hK1 h; (try simp (maxSteps := 400000) only [go_sem, Nat.reduceBEq, Nat.reduceAdd, Nat.reduceLeDiff, Nat.reduceSub, Nat.reduceMul, Int.reduceToNat, Int.reduceLT, Int.reduceLE] at h); simp (maxSteps := 400000) only [go_sem, Nat.reduceBEq, Nat.reduceAdd, Nat.reduceLeDiff, Nat.reduceSub, Nat.reduceMul, Int.reduceToNat, Int.reduceLT, Int.reduceLE])
       | (clear h; intro y h; unfold mc_law27_AccessQuiet_J1; (try simp (maxSteps := 400000) only [go_sem, Nat.reduceBEq, Nat.reduceAdd, Nat.reduceLeDiff, Nat.reduceSub, Nat.reduceMul, Int.reduceToNat, Int.reduceLT, Int.reduceLE] at h); simp (maxSteps := 400000) only [go_sem, Nat.reduceBEq, Nat.reduceAdd, Nat.reduceLeDiff, Nat.reduceSub, Nat.reduceMul, Int.reduceToNat, Int.reduceLT, Int.reduceLE])
       | fail)
    | (refine M.wh1 (b := mc_law27_AccessQuiet_L1) [4, 5, 6] [4] (fun x => [(7, .int .i64 x)]) (fun x => []) [] h ?_ ?_ <;> first
       | (clear h; intro x Qn K hK2 h; unfold F_law27_AccessQuiet_L1 at h; unfold mc_law27_AccessQuiet_L1; (try simp (maxSteps := 400000) only [go_sem, Nat.reduceBEq, Nat.reduceAdd, Nat.reduceLeDiff, Nat.reduceSub, Nat.reduceMul, Int.reduceToNat, Int.reduceLT, Int.reduceLE] at h); simp (maxSteps := 400000) only [go_sem, Nat.reduceBEq, Nat.reduceAdd, Nat.reduceLeDiff, Nat.reduceSub, Nat.reduceMul, Int.reduceToNat, Int.reduceLT, Int.reduceLE])
       | (clear h; (try simp only [go_sem, Nat.reduceBEq, Nat.reduceAdd, Nat.reduceLeDiff, Nat.reduceSub, Nat.reduceMul, Int.reduceToNat, Int.reduceLT, Int.reduceLE]); (refine ⟨?_, ?_, ?_⟩ <;> (try simp only [go_sem, Nat.reduceBEq, Nat.reduceAdd, Nat.reduceLeDiff, Nat.reduceSub, Nat.reduceMul, Int.reduceToNat, Int.reduceLT, Int.reduceLE, St.good, noAny, distinct, SubSt, subE, subHp]) <;> (repeat' (first | exact trivial | rfl | apply And.intro | (simp; done)))); done)
       | fail)
    | (refine M.jnE (b := mc_law27_AccessQuiet_J2) [4, 5, 6] [4] (fun y => []) (fun y => []) [] h ?_ ?_ <;> first
       | (clear h; intro Qn K hK3 h; (try simp (maxSteps := 400000) only [go_sem, Nat.reduceBEq, Nat.reduceAdd, Nat.reduceLeDiff, Nat.reduceSub, Nat.reduceMul, Int.reduceToNat, Int.reduceLT, Int.reduceLE] at h); simp (maxSteps := 400000) only [go_sem, Nat.reduceBEq, Nat.reduceAdd, Nat.reduceLeDiff, Nat.reduceSub, Nat.reduceMul, Int.reduceToNat, Int.reduceLT, Int.reduceLE])
       | (clear h; intro y h; unfold mc_law27_AccessQuiet_J2; (try simp (maxSteps := 400000) only [go_sem, Nat.reduceBEq, Nat.reduceAdd, Nat.reduceLeDiff, Nat.reduceSub, Nat.reduceMul, Int.reduceToNat, Int.reduceLT, Int.reduceLE] at h); simp (maxSteps := 400000) only [go_sem, Nat.reduceBEq, Nat.reduceAdd, Nat.reduceLeDiff, Nat.reduceSub, Nat.reduceMul, Int.reduceToNat, Int.reduceLT, Int.reduceLE])
       | fail)
    | (refine M.wh1 (b := mc_law27_AccessQuiet_L2) [4, 5] [4] (fun x => [(6, .int .i64 x)]) (fun x => []) [] h ?_ ?_ <;> first
       | (clear h; intro x Qn K hK4 h; unfold F_law27_AccessQuiet_L2 at h; unfold mc_law27_AccessQuiet_L2; (try simp (maxSteps := 400000) only [go_sem, Nat.reduceBEq, Nat.reduceAdd, Nat.reduceLeDiff, Nat.reduceSub, Nat.reduceMul, Int.reduceToNat, Int.reduceLT, Int.reduceLE] at h); simp (maxSteps := 400000) only [go_sem, Nat.reduceBEq, Nat.reduceAdd, Nat.reduceLeDiff, Nat.reduceSub, Nat.reduceMul, Int.reduceToNat, Int.reduceLT, Int.reduceLE])
       | (clear h; (try simp only [go_sem, Nat.reduceBEq, Nat.reduceAdd, Nat.reduceLeDiff, Nat.reduceSub, Nat.reduceMul, Int.reduceToNat, Int.reduceLT, Int.reduceLE]); (refine ⟨?_, ?_, ?_⟩ <;> (try simp only [go_sem, Nat.reduceBEq, Nat.reduceAdd, Nat.reduceLeDiff, Nat.reduceSub, Nat.reduceMul, Int.reduceToNat, Int.reduceLT, Int.reduceLE, St.good, noAny, distinct, SubSt, subE, subHp]) <;> (repeat' (first | exact trivial | rfl | apply And.intro | (simp; done)))); done)
       | fail)
    | (refine hK1 _ ?_; (try simp only [go_sem, Nat.reduceBEq, Nat.reduceAdd, Nat.reduceLeDiff, Nat.reduceSub, Nat.reduceMul, Int.reduceToNat, Int.reduceLT, Int.reduceLE]); refine ⟨_, h, ?_⟩; (refine ⟨?_, ?_, ?_⟩ <;> (try simp only [go_sem, Nat.reduceBEq, Nat.reduceAdd, Nat.reduceLeDiff, Nat.reduceSub, Nat.reduceMul, Int.reduceToNat, Int.reduceLT, Int.reduceLE, St.good, noAny, distinct, SubSt, subE, subHp]) <;> (repeat' (first | exact trivial | rfl | apply And.intro | (simp; done)))); done)
    | (refine hK2 _ ?_; (try simp only [go_sem, Nat.reduceBEq, Nat.reduceAdd, Nat.reduceLeDiff, Nat.reduceSub, Nat.reduceMul, Int.reduceToNat, Int.reduceLT, Int.reduceLE]); refine ⟨_, h, ?_⟩; (refine ⟨?_, ?_, ?_⟩ <;> (try simp only [go_sem, Nat.reduceBEq, Nat.reduceAdd, Nat.reduceLeDiff, Nat.reduceSub, Nat.reduceMul, Int.reduceToNat, Int.reduceLT, Int.reduceLE, St.good, noAny, distinct, SubSt, subE, subHp]) <;> (repeat' (first | exact trivial | rfl | apply And.intro | (simp; done)))); done)
    | (refine hK3 _ ?_; (try simp only [go_sem, Nat.reduceBEq, Nat.reduceAdd, Nat.reduceLeDiff, Nat.reduceSub, Nat.reduceMul, Int.reduceToNat, Int.reduceLT, Int.reduceLE]); refine ⟨_, h, ?_⟩; (refine ⟨?_, ?_, ?_⟩ <;> (try simp only [go_sem, Nat.reduceBEq, Nat.reduceAdd, Nat.reduceLeDiff, Nat.reduceSub, Nat.reduceMul, Int.reduceToNat, Int.reduceLT, Int.reduceLE, St.good, noAny, distinct, SubSt, subE, subHp]) <;> (repeat' (first | exact trivial | rfl | apply And.intro | (simp; done)))); done)
    | (refine hK4 _ ?_; (try simp only [go_sem, Nat.reduceBEq, Nat.reduceAdd, Nat.reduceLeDiff, Nat.reduceSub, Nat.reduceMul, Int.reduceToNat, Int.reduceLT, Int.reduceLE]); refine ⟨_, h, ?_⟩; (refine ⟨?_, ?_, ?_⟩ <;> (try simp only [go_sem, Nat.reduceBEq, Nat.reduceAdd, Nat.reduceLeDiff, Nat.reduceSub, Nat.reduceMul, Int.reduceToNat, Int.reduceLT, Int.reduceLE, St.good, noAny, distinct, SubSt, subE, subHp]) <;> (repeat' (first | exact trivial | rfl | apply And.intro | (simp; done)))); done)
    | (refine ⟨_, getE_map (inb_toNat (by assumption)), ?_⟩; (first | rw [M.lok_compU] | rw [M.lokD_compU]); simp (maxSteps := 400000) only [go_sem, Nat.reduceBEq, Nat.reduceAdd, Nat.reduceLeDiff, Nat.reduceSub, Nat.reduceMul, Int.reduceToNat, Int.reduceLT, Int.reduceLE])
    | (refine And.intro (ltb_of (by assumption)) ?_)
    | fail)
theorem W_law27_AccessQuiet : ∀ {l_ : List Int} {y : Bool}, F_law27_AccessQuiet l_ = some y → ACall Try.prog 7 [.sl (l_.map (V.int .i64))] [] (fun r H => r = .bool y ∧ H = []) :=
  fun hy => Wq_law27_AccessQuiet _ (Q := fun z => z = _) ⟨_, hy, rfl⟩ fun z e => by subst e; exact ⟨rfl, rfl⟩

noncomputable def F_law27_AccessRevokes_L1 (y10 : Int × GTape) (j11 : Int) (k31 : Int) (a32 : Int) (x30 : Int × (List GAccess)) : Option (Int × (List GAccess)) :=
  chk (room (x30.2.length + [(GAccess.mk j11 2 y10.1 a32 0 0 0)].length) 56) (some (x30.1, (x30.2 ++ [(GAccess.mk j11 2 y10.1 a32 0 0 0)])))
noncomputable def F_law27_AccessRevokes_L2 (y10 : Int × GTape) (j11 : Int) (x90 : Int × GEstate) : Option (Fl (Int × GEstate) (Sum GEstate Bool)) :=
  chk (in64 (j11 + 8)) (bif decide (x90.1 < (j11 + 8)) then (F_access_Linked x90.2 y10.1 x90.1).bind fun y104 => bif y104.2 then some (.ex (.inr false)) else (F_access_Granted x90.2 y10.1 x90.1).bind fun y106 => bif decide (0 < (y106.length : Int)) then some (.ex (.inr false)) else chk (in64 (x90.1 + 1)) (some (.nx ((x90.1 + 1), x90.2))) else some (.ex (.inl x90.2)))
noncomputable def F_law27_AccessRevokes (l_ : List Int) : Option Bool :=
  bif decide (300 < (l_.length : Int)) then F_law27_awake.bind fun y4 => some y4 else (F_made_Directory (GTape.mk l_ 0)).bind fun y7 => (F_made_Estate y7.2 y7.1).bind fun y8 => (F_made_Tape_Next y8.2 y8.1.Places).bind fun y10 => jn (α := Int) (bif decide (0 < (y8.1.Events.length : Int)) then chk (in64 ((y8.1.Events.length : Int) - 1)) (chk (inb ((y8.1.Events.length : Int) - 1) y8.1.Events.length) (some ((y8.1.Events.getD (((y8.1.Events.length : Int) - 1)).toNat default).Time))) else some 0) fun j11 => chk (room y8.1.Events.length 56) ((F_access_Granted y8.1 y10.1 j11).bind fun y24 => (foldL (F_law27_AccessRevokes_L1 y10 j11) y24 0 (y8.1.Places, y8.1.Events)).bind fun x33 => chk (room (x33.2.length + [(GAccess.mk j11 4 y10.1 0 0 0 0)].length) 56) ((loop (F_law27_AccessRevokes_L2 y10 j11) (j11, (GEstate.mk x33.1 (x33.2 ++ [(GAccess.mk j11 4 y10.1 0 0 0 0)])))).bind fun r107 => Sum.elim (fun u108 => (F_access_Check u108).bind fun y114 => jn (α := Bool) (bif decide (y114 = 0) then F_law27_awake.bind fun y116 => some y116 else some false) fun j117 => some j117) (fun u109 => some u109) r107))

/- leakresponse/leakresponselaw27.AccessRevokes -/
@[irreducible] def mc_law27_AccessRevokes_L1 : MC :=
  (.seq (.reg [⟨.bin false .lss (.t 51) (.t 50), (some 52), none⟩])
  (.seq (.cond (.t 52)
    .skip
    (.exit 0))
  (.seq (.block 1
  (.seq (.reg [⟨.iad 1 (.t 49) (.t 51), (some 53), none⟩,
    ⟨.ld none (.t 53), (some 54), none⟩,
    ⟨.mv (.t 54), (some 9), none⟩])
  (.reg [⟨.fad 1 (.t 7), (some 55), none⟩,
    ⟨.ld none (.t 55), (some 56), none⟩,
    ⟨.mv (.t 6), (some 57), none⟩,
    ⟨.mv (.t 5), (some 58), none⟩,
    ⟨.mv (.t 9), (some 59), none⟩,
    ⟨.build [(.int .i64 0), (.int .i64 0), (.int .i64 0), (.int .i64 0), (.int .i64 0), (.int .i64 0), (.int .i64 0)] [(0, 1, (.t 57)), (1, 1, (.c (.int .i64 2))), (2, 1, (.t 58)), (3, 1, (.t 59))], (some 60), none⟩,
    ⟨.bslice 7 [(.t 60)], (some 61), none⟩,
    ⟨.app 7 56 (.t 56) (.t 61), (some 62), none⟩,
    ⟨.fad 1 (.t 7), (some 63), none⟩,
    ⟨.st 1 (.t 63) (.t 62), none, none⟩])))
  (.reg [⟨.bin true .add (.t 51) (.c (.int .i64 1)), (some 64), none⟩,
    ⟨.mv (.t 64), (some 51), none⟩]))))
@[irreducible] def mc_law27_AccessRevokes_L2 : MC :=
  (.seq (.seq (.reg [⟨.mv (.t 10), (some 74), none⟩,
    ⟨.mv (.t 6), (some 75), none⟩,
    ⟨.bin true .add (.t 75) (.c (.int .i64 8)), (some 76), none⟩,
    ⟨.bin false .lss (.t 74) (.t 76), (some 77), none⟩])
  (.cond (.t 77)
    .skip
    (.exit 2)))
  (.seq (.block 3
  (.seq (.regI [.op ⟨.ld (some 2) (.t 7), (some 81), none⟩,
    .op ⟨.mv (.t 5), (some 82), none⟩,
    .op ⟨.mv (.t 10), (some 83), none⟩,
    .nt (.fz 81),
    .op ⟨.call (.f 14) [(.t 81), (.t 82), (.t 83)] [] [], (some 84), none⟩,
    .op ⟨.mv (.t 84), (some 80), none⟩,
    .op ⟨.ext 0 (.t 80), (some 85), none⟩,
    .op ⟨.ext 1 (.t 80), (some 86), none⟩,
    .op ⟨.mv (.t 85), (some 11), none⟩,
    .op ⟨.mv (.t 86), (some 12), none⟩])
  (.seq (.note (.gc [5, 6, 7, 10, 12, 89, 90, 91, 92, 93, 94, 100]) (.reg [⟨.mv (.t 12), (some 87), none⟩,
    ⟨.mv (.t 87), (some 88), none⟩,
    ⟨.ld (some 2) (.t 7), (some 89), (some (88, false))⟩,
    ⟨.mv (.t 5), (some 90), (some (88, false))⟩,
    ⟨.mv (.t 10), (some 91), (some (88, false))⟩,
    ⟨.call (.f 13) [(.t 89), (.t 90), (.t 91)] [] [], (some 92), (some (88, false))⟩,
    ⟨.len false (.t 92), (some 93), (some (88, false))⟩,
    ⟨.bin false .gtr (.t 93) (.c (.int .i64 0)), (some 94), (some (88, false))⟩,
    ⟨.pick (.t 88) (.c (.bool true)) (.t 94), (some 95), none⟩]))
  (.cond (.t 95)
    (.seq (.reg [⟨.mv (.c (.bool false)), (some 2), none⟩])
    .ret)
    .skip))))
  (.reg [⟨.mv (.t 10), (some 78), none⟩,
    ⟨.bin true .add (.t 78) (.c (.int .i64 1)), (some 79), none⟩,
    ⟨.mv (.t 79), (some 10), none⟩])))
@[irreducible] def mg_law27_AccessRevokes_1 : List MOp := [⟨.call (.f 9) [] [] [], (some 100), (some (99, true))⟩,
    ⟨.pick (.t 99) (.t 100) (.c (.bool false)), (some 101), none⟩]
@[irreducible] def mc_law27_AccessRevokes_J1 : MC :=
  (.seq (.reg [⟨.ld (some 2) (.t 4), (some 41), none⟩,
    ⟨.alloc [(.int .i64 0), (.sl [])], (some 7), none⟩,
    ⟨.st 2 (.t 7) (.t 41), none, none⟩])
  (.seq (.reg [⟨.fad 1 (.t 4), (some 42), none⟩,
    ⟨.ld none (.t 42), (some 43), none⟩,
    ⟨.app 7 56 (.c .nils) (.t 43), (some 44), none⟩,
    ⟨.fad 1 (.t 7), (some 45), none⟩,
    ⟨.st 1 (.t 45) (.t 44), none, none⟩])
  (.seq (.seq (.reg [⟨.ld (some 2) (.t 4), (some 46), none⟩,
    ⟨.mv (.t 5), (some 47), none⟩,
    ⟨.mv (.t 6), (some 48), none⟩,
    ⟨.call (.f 13) [(.t 46), (.t 47), (.t 48)] [] [], (some 49), none⟩,
    ⟨.len false (.t 49), (some 50), none⟩,
    ⟨.mv (.c (.int .i64 0)), (some 51), none⟩])
  (.block 0
  (.loop mc_law27_AccessRevokes_L1)))
  (.seq (.reg [⟨.fad 1 (.t 7), (some 65), none⟩,
    ⟨.ld none (.t 65), (some 66), none⟩,
    ⟨.mv (.t 6), (some 67), none⟩,
    ⟨.mv (.t 5), (some 68), none⟩,
    ⟨.build [(.int .i64 0), (.int .i64 0), (.int .i64 0), (.int .i64 0), (.int .i64 0), (.int .i64 0), (.int .i64 0)] [(0, 1, (.t 67)), (1, 1, (.c (.int .i64 4))), (2, 1, (.t 68))], (some 69), none⟩,
    ⟨.bslice 7 [(.t 69)], (some 70), none⟩,
    ⟨.app 7 56 (.t 66) (.t 70), (some 71), none⟩,
    ⟨.fad 1 (.t 7), (some 72), none⟩,
    ⟨.st 1 (.t 72) (.t 71), none, none⟩])
  (.seq (.seq (.reg [⟨.mv (.t 6), (some 73), none⟩,
    ⟨.mv (.t 73), (some 10), none⟩])
  (.block 2
  (.loop mc_law27_AccessRevokes_L2)))
  (.seq (.regI [.op ⟨.ld (some 2) (.t 7), (some 96), none⟩,
    .op ⟨.call (.f 15) [(.t 96)] [] [], (some 97), none⟩,
    .op ⟨.bin false .eql (.t 97) (.c (.int .i64 0)), (some 98), none⟩,
    .op ⟨.mv (.t 98), (some 99), none⟩,
    .grp mg_law27_AccessRevokes_1,
    .op ⟨.mv (.t 101), (some 2), none⟩])
  .ret))))))
def mc_law27_AccessRevokes : MC :=
  (.seq (.reg [⟨.mv (.c (.bool false)), (some 2), none⟩])
  (.seq (.seq (.reg [⟨.mv (.t 0), (some 13), none⟩,
    ⟨.len false (.t 13), (some 14), none⟩,
    ⟨.bin false .gtr (.t 14) (.c (.int .i64 300)), (some 15), none⟩])
  (.cond (.t 15)
    (.seq (.reg [⟨.call (.f 9) [] [] [], (some 16), none⟩,
      ⟨.mv (.t 16), (some 2), none⟩])
    .ret)
    .skip))
  (.seq (.reg [⟨.mv (.t 0), (some 17), none⟩,
    ⟨.build [(.sl []), (.int .i64 0)] [(0, 1, (.t 17))], (some 18), none⟩,
    ⟨.box (.t 18), (some 19), none⟩,
    ⟨.mv (.t 19), (some 3), none⟩])
  (.seq (.note (.gc [3, 89, 90, 91, 92, 93, 94, 100]) (.reg [⟨.mv (.t 3), (some 20), none⟩,
    ⟨.mv (.t 3), (some 21), none⟩,
    ⟨.call (.f 11) [(.t 21)] [19] [], (some 22), none⟩,
    ⟨.call (.f 10) [(.t 20), (.t 22)] [19] [], (some 23), none⟩,
    ⟨.alloc [(.int .i64 0), (.sl [])], (some 4), none⟩,
    ⟨.st 2 (.t 4) (.t 23), none, none⟩]))
  (.seq (.reg [⟨.mv (.t 3), (some 24), none⟩,
    ⟨.fad 0 (.t 4), (some 25), none⟩,
    ⟨.ld none (.t 25), (some 26), none⟩,
    ⟨.call (.f 12) [(.t 24), (.t 26)] [19] [], (some 27), none⟩,
    ⟨.mv (.t 27), (some 5), none⟩])
  (.seq (.reg [⟨.mv (.c (.int .i64 0)), (some 6), none⟩])
  (.cut (.seq (.note (.gc [4, 5, 6, 89, 90, 91, 92, 93, 94, 100]) (.reg [⟨.fad 1 (.t 4), (some 28), none⟩,
    ⟨.ld none (.t 28), (some 29), none⟩,
    ⟨.len false (.t 29), (some 30), none⟩,
    ⟨.bin false .gtr (.t 30) (.c (.int .i64 0)), (some 31), none⟩]))
  (.cond (.t 31)
    (.reg [⟨.fad 1 (.t 4), (some 32), none⟩,
      ⟨.ld none (.t 32), (some 33), none⟩,
      ⟨.fad 1 (.t 4), (some 34), none⟩,
      ⟨.ld none (.t 34), (some 35), none⟩,
      ⟨.len false (.t 35), (some 36), none⟩,
      ⟨.bin true .sub (.t 36) (.c (.int .i64 1)), (some 37), none⟩,
      ⟨.iad 7 (.t 33) (.t 37), (some 38), none⟩,
      ⟨.fad 0 (.t 38), (some 39), none⟩,
      ⟨.ld none (.t 39), (some 40), none⟩,
      ⟨.mv (.t 40), (some 6), none⟩])
    .skip))
  mc_law27_AccessRevokes_J1)))))))
theorem ok_law27_AccessRevokes : mc_law27_AccessRevokes.ok Try.prog Try.f3.ntmps (Try.f3.body.getD .skip) = true := by kernel_rfl

set_option maxHeartbeats 2000000 in
theorem Wq_law27_AccessRevokes (l_ : List Int) {Q : Bool → Prop} {Q' : V → Heap → Prop} (h : Ok (F_law27_AccessRevokes l_) Q) (hQ : ∀ z, Q z → Q' (.bool z) []) : ACall Try.prog 3 [.sl (l_.map (V.int .i64))] [] Q' := by
  refine acall_machN [] [] [.t 2] Try.func3 rfl (by kernel_rfl) ok_law27_AccessRevokes (by kernel_rfl) rfl rfl fun M hf => ?_
  clear hf
  unfold F_law27_AccessRevokes at h
  unfold mc_law27_AccessRevokes
  (try simp (maxSteps := 400000) only [go_sem, Nat.reduceBEq, Nat.reduceAdd, Nat.reduceLeDiff, Nat.reduceSub, Nat.reduceMul, Int.reduceToNat, Int.reduceLT, Int.reduceLE] at h)
  simp (maxSteps := 400000) only [go_sem, Nat.reduceBEq, Nat.reduceAdd, Nat.reduceLeDiff, Nat.reduceSub, Nat.reduceMul, Int.reduceToNat, Int.reduceLT, Int.reduceLE]
  repeat' (first
    | (exact hQ _ h)
    | (have hq := hQ _ h; simp (maxSteps := 400000) only [go_sem, Nat.reduceBEq, Nat.reduceAdd, Nat.reduceLeDiff, Nat.reduceSub, Nat.reduceMul, Int.reduceToNat, Int.reduceLT, Int.reduceLE] at hq; exact hq)
    | (refine oblg h ?_; clear h; intro hc h)
    | (refine fork h ?_ ?_ <;> clear h <;> intro hc h)
    | (refine forkS h ?_ ?_ <;> clear h <;> intro hc h)
    | (refine And.intro (chkD_of rfl) ?_)
    | (obtain ⟨y, hy, h⟩ := h; have hw := W_law27_awake hy; (try simp (maxSteps := 400000) only [go_sem, Nat.reduceBEq, Nat.reduceAdd, Nat.reduceLeDiff, Nat.reduceSub, Nat.reduceMul, Int.reduceToNat, Int.reduceLT, Int.reduceLE] at hw); refine sCall_of hw rfl rfl ?_; clear hw; clear hy; rw [M.lok_eq]; simp (maxSteps := 400000) only [go_sem, Nat.reduceBEq, Nat.reduceAdd, Nat.reduceLeDiff, Nat.reduceSub, Nat.reduceMul, Int.reduceToNat, Int.reduceLT, Int.reduceLE])
    | (obtain ⟨y, hy, h⟩ := h; have hw := W_law27_awake hy; (try simp (maxSteps := 400000) only [go_sem, Nat.reduceBEq, Nat.reduceAdd, Nat.reduceLeDiff, Nat.reduceSub, Nat.reduceMul, Int.reduceToNat, Int.reduceLT, Int.reduceLE] at hw); refine sCallD_of hw rfl rfl ?_; clear hw; clear hy; rw [M.lokD_eq]; simp (maxSteps := 400000) only [go_sem, Nat.reduceBEq, Nat.reduceAdd, Nat.reduceLeDiff, Nat.reduceSub, Nat.reduceMul, Int.reduceToNat, Int.reduceLT, Int.reduceLE])
    | (obtain ⟨y, hy, h⟩ := h; have hw := acall_swe 1000 19 (W_made_Directory hy); (try simp (maxSteps := 400000) only [go_sem, Nat.reduceBEq, Nat.reduceAdd, Nat.reduceLeDiff, Nat.reduceSub, Nat.reduceMul, Int.reduceToNat, Int.reduceLT, Int.reduceLE] at hw); refine sCall_of hw rfl rfl ?_; clear hw; clear hy; rw [M.lok_eq]; simp (maxSteps := 400000) only [go_sem, Nat.reduceBEq, Nat.reduceAdd, Nat.reduceLeDiff, Nat.reduceSub, Nat.reduceMul, Int.reduceToNat, Int.reduceLT, Int.reduceLE])
    | (obtain ⟨y, hy, h⟩ := h; have hw := acall_swe 1000 19 (W_made_Directory hy); (try simp (maxSteps := 400000) only [go_sem, Nat.reduceBEq, Nat.reduceAdd, Nat.reduceLeDiff, Nat.reduceSub, Nat.reduceMul, Int.reduceToNat, Int.reduceLT, Int.reduceLE] at hw); refine sCallD_of hw rfl rfl ?_; clear hw; clear hy; rw [M.lokD_eq]; simp (maxSteps := 400000) only [go_sem, Nat.reduceBEq, Nat.reduceAdd, Nat.reduceLeDiff, Nat.reduceSub, Nat.reduceMul, Int.reduceToNat, Int.reduceLT, Int.reduceLE])
    | (obtain ⟨y, hy, h⟩ := h; have hw := acall_swe 1000 19 (W_made_Estate hy); (try simp (maxSteps := 400000) only [go_sem, Nat.reduceBEq, Nat.reduceAdd, Nat.reduceLeDiff, Nat.reduceSub, Nat.reduceMul, Int.reduceToNat, Int.reduceLT, Int.reduceLE] at hw); refine sCall_of hw rfl rfl ?_; clear hw; clear hy; rw [M.lok_eq]; simp (maxSteps := 400000) only [go_sem, Nat.reduceBEq, Nat.reduceAdd, Nat.reduceLeDiff, Nat.reduceSub, Nat.reduceMul, Int.reduceToNat, Int.reduceLT, Int.reduceLE])
    | (obtain ⟨y, hy, h⟩ := h; have hw := acall_swe 1000 19 (W_made_Estate hy); (try simp (maxSteps := 400000) only [go_sem, Nat.reduceBEq, Nat.reduceAdd, Nat.reduceLeDiff, Nat.reduceSub, Nat.reduceMul, Int.reduceToNat, Int.reduceLT, Int.reduceLE] at hw); refine sCallD_of hw rfl rfl ?_; clear hw; clear hy; rw [M.lokD_eq]; simp (maxSteps := 400000) only [go_sem, Nat.reduceBEq, Nat.reduceAdd, Nat.reduceLeDiff, Nat.reduceSub, Nat.reduceMul, Int.reduceToNat, Int.reduceLT, Int.reduceLE])
    | (obtain ⟨y, hy, h⟩ := h; have hw := acall_swe 1000 19 (W_made_Tape_Next hy); (try simp (maxSteps := 400000) only [go_sem, Nat.reduceBEq, Nat.reduceAdd, Nat.reduceLeDiff, Nat.reduceSub, Nat.reduceMul, Int.reduceToNat, Int.reduceLT, Int.reduceLE] at hw); refine sCall_of hw rfl rfl ?_; clear hw; clear hy; rw [M.lok_eq]; simp (maxSteps := 400000) only [go_sem, Nat.reduceBEq, Nat.reduceAdd, Nat.reduceLeDiff, Nat.reduceSub, Nat.reduceMul, Int.reduceToNat, Int.reduceLT, Int.reduceLE])
    | (obtain ⟨y, hy, h⟩ := h; have hw := acall_swe 1000 19 (W_made_Tape_Next hy); (try simp (maxSteps := 400000) only [go_sem, Nat.reduceBEq, Nat.reduceAdd, Nat.reduceLeDiff, Nat.reduceSub, Nat.reduceMul, Int.reduceToNat, Int.reduceLT, Int.reduceLE] at hw); refine sCallD_of hw rfl rfl ?_; clear hw; clear hy; rw [M.lokD_eq]; simp (maxSteps := 400000) only [go_sem, Nat.reduceBEq, Nat.reduceAdd, Nat.reduceLeDiff, Nat.reduceSub, Nat.reduceMul, Int.reduceToNat, Int.reduceLT, Int.reduceLE])
    | (obtain ⟨y, hy, h⟩ := h; have hw := W_access_Granted hy; (try simp (maxSteps := 400000) only [go_sem, Nat.reduceBEq, Nat.reduceAdd, Nat.reduceLeDiff, Nat.reduceSub, Nat.reduceMul, Int.reduceToNat, Int.reduceLT, Int.reduceLE] at hw); refine sCall_of hw rfl rfl ?_; clear hw; clear hy; rw [M.lok_eq]; simp (maxSteps := 400000) only [go_sem, Nat.reduceBEq, Nat.reduceAdd, Nat.reduceLeDiff, Nat.reduceSub, Nat.reduceMul, Int.reduceToNat, Int.reduceLT, Int.reduceLE])
    | (obtain ⟨y, hy, h⟩ := h; have hw := W_access_Granted hy; (try simp (maxSteps := 400000) only [go_sem, Nat.reduceBEq, Nat.reduceAdd, Nat.reduceLeDiff, Nat.reduceSub, Nat.reduceMul, Int.reduceToNat, Int.reduceLT, Int.reduceLE] at hw); refine sCallD_of hw rfl rfl ?_; clear hw; clear hy; rw [M.lokD_eq]; simp (maxSteps := 400000) only [go_sem, Nat.reduceBEq, Nat.reduceAdd, Nat.reduceLeDiff, Nat.reduceSub, Nat.reduceMul, Int.reduceToNat, Int.reduceLT, Int.reduceLE])
    | (obtain ⟨y, hy, h⟩ := h; have hw := W_access_Linked hy; (try simp (maxSteps := 400000) only [go_sem, Nat.reduceBEq, Nat.reduceAdd, Nat.reduceLeDiff, Nat.reduceSub, Nat.reduceMul, Int.reduceToNat, Int.reduceLT, Int.reduceLE] at hw); refine sCall_of hw rfl rfl ?_; clear hw; clear hy; rw [M.lok_eq]; simp (maxSteps := 400000) only [go_sem, Nat.reduceBEq, Nat.reduceAdd, Nat.reduceLeDiff, Nat.reduceSub, Nat.reduceMul, Int.reduceToNat, Int.reduceLT, Int.reduceLE])
    | (obtain ⟨y, hy, h⟩ := h; have hw := W_access_Linked hy; (try simp (maxSteps := 400000) only [go_sem, Nat.reduceBEq, Nat.reduceAdd, Nat.reduceLeDiff, Nat.reduceSub, Nat.reduceMul, Int.reduceToNat, Int.reduceLT, Int.reduceLE] at hw); refine sCallD_of hw rfl rfl ?_; clear hw; clear hy; rw [M.lokD_eq]; simp (maxSteps := 400000) only [go_sem, Nat.reduceBEq, Nat.reduceAdd, Nat.reduceLeDiff, Nat.reduceSub, Nat.reduceMul, Int.reduceToNat, Int.reduceLT, Int.reduceLE])
    | (obtain ⟨y, hy, h⟩ := h; have hw := W_access_Check hy; (try simp (maxSteps := 400000) only [go_sem, Nat.reduceBEq, Nat.reduceAdd, Nat.reduceLeDiff, Nat.reduceSub, Nat.reduceMul, Int.reduceToNat, Int.reduceLT, Int.reduceLE] at hw); refine sCall_of hw rfl rfl ?_; clear hw; clear hy; rw [M.lok_eq]; simp (maxSteps := 400000) only [go_sem, Nat.reduceBEq, Nat.reduceAdd, Nat.reduceLeDiff, Nat.reduceSub, Nat.reduceMul, Int.reduceToNat, Int.reduceLT, Int.reduceLE])
    | (obtain ⟨y, hy, h⟩ := h; have hw := W_access_Check hy; (try simp (maxSteps := 400000) only [go_sem, Nat.reduceBEq, Nat.reduceAdd, Nat.reduceLeDiff, Nat.reduceSub, Nat.reduceMul, Int.reduceToNat, Int.reduceLT, Int.reduceLE] at hw); refine sCallD_of hw rfl rfl ?_; clear hw; clear hy; rw [M.lokD_eq]; simp (maxSteps := 400000) only [go_sem, Nat.reduceBEq, Nat.reduceAdd, Nat.reduceLeDiff, Nat.reduceSub, Nat.reduceMul, Int.reduceToNat, Int.reduceLT, Int.reduceLE])
    | (refine M.fold1 (b := mc_law27_AccessRevokes_L1) 51 [5, 6, 7, 49, 50] [] (fun x => []) (fun x => [.o 7 (.cells [.int .i64 x.1, .osl 4113 7 0 x.2.length]), .o 4113 (.arr 7 (x.2.map GAccess.v))]) [.gc [5, 6, 7, 49, 50, 51], .ownC 7 1 4113 7 none] h ?_ ?_ ?_ <;> first
       | (clear h; intro k a x Qn K hK1 hkN1 ha1 h hf; have hl := fact_int (factsE_find (n := 50) hf.1 rfl); clear hf; have hkd := decide_eq_true (Int.ofNat_lt.2 hkN1); have hkB1 := inb_iff.2 ⟨Int.natCast_nonneg k, Int.ofNat_lt.2 hkN1⟩; have hkI1 : in64 ((k : Int) + 1) = true := in64_iff.2 ⟨by omega, by (try simp only [List.length_cons, List.length_nil] at hkN1); omega⟩; unfold F_law27_AccessRevokes_L1 at h; unfold mc_law27_AccessRevokes_L1; (try simp (maxSteps := 400000) only [go_sem, Nat.reduceBEq, Nat.reduceAdd, Nat.reduceLeDiff, Nat.reduceSub, Nat.reduceMul, Int.reduceToNat, Int.reduceLT, Int.reduceLE] at h); simp only [go_sem, Nat.reduceBEq, Nat.reduceAdd, Nat.reduceLeDiff, Nat.reduceSub, Nat.reduceMul, Int.reduceToNat, Int.reduceLT, Int.reduceLE, ha1, hkd, hkN1, hkB1, hkI1])
       | (clear h; intro x K h; replace h := And.left (And.intro h trivial); unfold mc_law27_AccessRevokes_L1; (try simp (maxSteps := 400000) only [go_sem, Nat.reduceBEq, Nat.reduceAdd, Nat.reduceLeDiff, Nat.reduceSub, Nat.reduceMul, Int.reduceToNat, Int.reduceLT, Int.reduceLE] at h); simp (maxSteps := 400000) only [go_sem, Nat.reduceBEq, Nat.reduceAdd, Nat.reduceLeDiff, Nat.reduceSub, Nat.reduceMul, Int.reduceToNat, Int.reduceLT, Int.reduceLE])
       | (clear h; (try simp only [go_sem, Nat.reduceBEq, Nat.reduceAdd, Nat.reduceLeDiff, Nat.reduceSub, Nat.reduceMul, Int.reduceToNat, Int.reduceLT, Int.reduceLE]); (refine ⟨?_, ?_, ?_⟩ <;> (try simp only [go_sem, Nat.reduceBEq, Nat.reduceAdd, Nat.reduceLeDiff, Nat.reduceSub, Nat.reduceMul, Int.reduceToNat, Int.reduceLT, Int.reduceLE, St.good, noAny, distinct, SubSt, subE, subHp]) <;> (repeat' (first | exact trivial | rfl | apply And.intro | (simp; done)))); done)
       | fail)
    | (refine M.wh1 (b := mc_law27_AccessRevokes_L2) [5, 6, 7] [] (fun x => [(10, .int .i64 x.1)]) (fun x => [.o 7 (.cells [.int .i64 x.2.Places, .sl (x.2.Events.map GAccess.v)])]) [.fzc 7] h ?_ ?_ <;> first
       | (clear h; intro x Qn K hK2 h; unfold F_law27_AccessRevokes_L2 at h; unfold mc_law27_AccessRevokes_L2; (try simp (maxSteps := 400000) only [go_sem, Nat.reduceBEq, Nat.reduceAdd, Nat.reduceLeDiff, Nat.reduceSub, Nat.reduceMul, Int.reduceToNat, Int.reduceLT, Int.reduceLE] at h); simp (maxSteps := 400000) only [go_sem, Nat.reduceBEq, Nat.reduceAdd, Nat.reduceLeDiff, Nat.reduceSub, Nat.reduceMul, Int.reduceToNat, Int.reduceLT, Int.reduceLE])
       | (clear h; (try simp only [go_sem, Nat.reduceBEq, Nat.reduceAdd, Nat.reduceLeDiff, Nat.reduceSub, Nat.reduceMul, Int.reduceToNat, Int.reduceLT, Int.reduceLE]); (refine ⟨?_, ?_, ?_⟩ <;> (try simp only [go_sem, Nat.reduceBEq, Nat.reduceAdd, Nat.reduceLeDiff, Nat.reduceSub, Nat.reduceMul, Int.reduceToNat, Int.reduceLT, Int.reduceLE, St.good, noAny, distinct, SubSt, subE, subHp]) <;> (repeat' (first | exact trivial | rfl | apply And.intro | (simp; done)))); done)
       | fail)
    | (refine M.gj1 (ms := mg_law27_AccessRevokes_1) [] [] (fun y => [(101, .bool y)]) (fun y => []) h ?_ ?_ <;> first
       | (clear h; intro Qn K hK3 h; unfold mg_law27_AccessRevokes_1; (try simp (maxSteps := 400000) only [go_sem, Nat.reduceBEq, Nat.reduceAdd, Nat.reduceLeDiff, Nat.reduceSub, Nat.reduceMul, Int.reduceToNat, Int.reduceLT, Int.reduceLE] at h); simp (maxSteps := 400000) only [go_sem, Nat.reduceBEq, Nat.reduceAdd, Nat.reduceLeDiff, Nat.reduceSub, Nat.reduceMul, Int.reduceToNat, Int.reduceLT, Int.reduceLE])
       | (clear h; intro y h; (try simp (maxSteps := 400000) only [go_sem, Nat.reduceBEq, Nat.reduceAdd, Nat.reduceLeDiff, Nat.reduceSub, Nat.reduceMul, Int.reduceToNat, Int.reduceLT, Int.reduceLE] at h); simp (maxSteps := 400000) only [go_sem, Nat.reduceBEq, Nat.reduceAdd, Nat.reduceLeDiff, Nat.reduceSub, Nat.reduceMul, Int.reduceToNat, Int.reduceLT, Int.reduceLE])
       | fail)
    | (refine M.jn1 (b := mc_law27_AccessRevokes_J1) [4, 5] [4] (fun y => [(6, .int .i64 y)]) (fun y => []) [] h ?_ ?_ <;> first
       | (clear h; intro Qn K hK4 h; (try simp (maxSteps := 400000) only [go_sem, Nat.reduceBEq, Nat.reduceAdd, Nat.reduceLeDiff, Nat.reduceSub, Nat.reduceMul, Int.reduceToNat, Int.reduceLT, Int.reduceLE] at h); simp (maxSteps := 400000) only [go_sem, Nat.reduceBEq, Nat.reduceAdd, Nat.reduceLeDiff, Nat.reduceSub, Nat.reduceMul, Int.reduceToNat, Int.reduceLT, Int.reduceLE])
       | (clear h; intro y h; unfold mc_law27_AccessRevokes_J1; (try simp (maxSteps := 400000) only [go_sem, Nat.reduceBEq, Nat.reduceAdd, Nat.reduceLeDiff, Nat.reduceSub, Nat.reduceMul, Int.reduceToNat, Int.reduceLT, Int.reduceLE] at h); simp (maxSteps := 400000) only [go_sem, Nat.reduceBEq, Nat.reduceAdd, Nat.reduceLeDiff, Nat.reduceSub, Nat.reduceMul, Int.reduceToNat, Int.reduceLT, Int.reduceLE])
       | fail)
    | (refine And.intro hkI1 ?_)
    | (refine And.intro hkN1 ?_)
    | (refine And.intro hkB1 ?_)
    | (simp only [ha1])
    | (refine hK1 _ ?_; (try simp only [go_sem, Nat.reduceBEq, Nat.reduceAdd, Nat.reduceLeDiff, Nat.reduceSub, Nat.reduceMul, Int.reduceToNat, Int.reduceLT, Int.reduceLE]); refine ⟨_, h, ?_⟩; (refine ⟨?_, ?_, ?_⟩ <;> (try simp only [go_sem, Nat.reduceBEq, Nat.reduceAdd, Nat.reduceLeDiff, Nat.reduceSub, Nat.reduceMul, Int.reduceToNat, Int.reduceLT, Int.reduceLE, St.good, noAny, distinct, SubSt, subE, subHp]) <;> (repeat' (first | exact trivial | rfl | apply And.intro | (simp; done)))); done)
    | (refine hK2 _ ?_; (try simp only [go_sem, Nat.reduceBEq, Nat.reduceAdd, Nat.reduceLeDiff, Nat.reduceSub, Nat.reduceMul, Int.reduceToNat, Int.reduceLT, Int.reduceLE]); refine ⟨_, h, ?_⟩; (refine ⟨?_, ?_, ?_⟩ <;> (try simp only [go_sem, Nat.reduceBEq, Nat.reduceAdd, Nat.reduceLeDiff, Nat.reduceSub, Nat.reduceMul, Int.reduceToNat, Int.reduceLT, Int.reduceLE, St.good, noAny, distinct, SubSt, subE, subHp]) <;> (repeat' (first | exact trivial | rfl | apply And.intro | (simp; done)))); done)
    | (refine hK3 _ ?_; (try simp only [go_sem, Nat.reduceBEq, Nat.reduceAdd, Nat.reduceLeDiff, Nat.reduceSub, Nat.reduceMul, Int.reduceToNat, Int.reduceLT, Int.reduceLE]); refine ⟨_, h, ?_⟩; (refine ⟨?_, ?_, ?_⟩ <;> (try simp only [go_sem, Nat.reduceBEq, Nat.reduceAdd, Nat.reduceLeDiff, Nat.reduceSub, Nat.reduceMul, Int.reduceToNat, Int.reduceLT, Int.reduceLE, St.good, noAny, distinct, SubSt, subE, subHp]) <;> (repeat' (first | exact trivial | rfl | apply And.intro | (simp; done)))); done)
    | (refine hK4 _ ?_; (try simp only [go_sem, Nat.reduceBEq, Nat.reduceAdd, Nat.reduceLeDiff, Nat.reduceSub, Nat.reduceMul, Int.reduceToNat, Int.reduceLT, Int.reduceLE]); refine ⟨_, h, ?_⟩; (refine ⟨?_, ?_, ?_⟩ <;> (try simp only [go_sem, Nat.reduceBEq, Nat.reduceAdd, Nat.reduceLeDiff, Nat.reduceSub, Nat.reduceMul, Int.reduceToNat, Int.reduceLT, Int.reduceLE, St.good, noAny, distinct, SubSt, subE, subHp]) <;> (repeat' (first | exact trivial | rfl | apply And.intro | (simp; done)))); done)
    | (refine ⟨_, getE_map (inb_toNat (by assumption)), ?_⟩; (first | rw [M.lok_compU] | rw [M.lokD_compU]); simp (maxSteps := 400000) only [go_sem, Nat.reduceBEq, Nat.reduceAdd, Nat.reduceLeDiff, Nat.reduceSub, Nat.reduceMul, Int.reduceToNat, Int.reduceLT, Int.reduceLE])
    | (refine And.intro (ltb_of (by assumption)) ?_)
    | fail)
theorem W_law27_AccessRevokes : ∀ {l_ : List Int} {y : Bool}, F_law27_AccessRevokes l_ = some y → ACall Try.prog 3 [.sl (l_.map (V.int .i64))] [] (fun r H => r = .bool y ∧ H = []) :=
  fun hy => Wq_law27_AccessRevokes _ (Q := fun z => z = _) ⟨_, hy, rfl⟩ fun z e => by subst e; exact ⟨rfl, rfl⟩

end Go.Ab
