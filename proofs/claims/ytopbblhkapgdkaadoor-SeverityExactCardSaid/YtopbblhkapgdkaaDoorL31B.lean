/- What the functions of this seat that lie on the laws' road compute (part L31B), each for every input. By AI agents. -/
import Derived.Test.YtopbblhkapgdkaaDoorProg
import Derived.KernelRfl
import Derived.Test.YtopbblhkapgdkaaDoorAbFun
import Derived.Test.YtopbblhkapgdkaaDoorL31A
set_option linter.all false
set_option maxRecDepth 20000
set_option linter.all false
namespace Go.Ab
open Go.Proofs
structure GTape where
  L : List Int
  at_ : Int
instance : Inhabited GTape := ⟨⟨default, default⟩⟩
def GTape.v (x : GTape) : V := .agg [.sl (x.L.map (V.int .i64)), .int .i64 x.at_]

attribute [go_sem] GTape.v
def F_made_Tape_Next (t_ : GTape) (n_ : Int) : Option (Int × GTape) :=
  bif decide ((t_.L.length : Int) ≤ t_.at_) then some (0, t_) else chk (inb t_.at_ t_.L.length) (chk (in64 (t_.at_ + 1)) (chk (divs ((t_.L.getD (t_.at_).toNat default) % 2 ^ 16) n_) (some ((((t_.L.getD (t_.at_).toNat default) % 2 ^ 16) % n_), (GTape.mk t_.L (t_.at_ + 1))))))

/- (*leakresponse/leakresponsemake.Tape).Next -/
def mc_made_Tape_Next : MC :=
  (.seq (.reg [⟨.mv (.c (.int .i64 0)), (some 4), none⟩])
  (.seq (.seq (.regD [⟨.mv (.t 0), (some 6), none⟩,
    ⟨.nck (.t 6), (some 7), none⟩,
    ⟨.fad 1 (.t 7), (some 8), none⟩,
    ⟨.ld none (.t 8), (some 9), none⟩,
    ⟨.mv (.t 0), (some 10), none⟩,
    ⟨.nck (.t 10), (some 11), none⟩,
    ⟨.fad 0 (.t 11), (some 12), none⟩,
    ⟨.ld none (.t 12), (some 13), none⟩,
    ⟨.len false (.t 13), (some 14), none⟩,
    ⟨.bin false .geq (.t 9) (.t 14), (some 15), none⟩]
    [[], [0], [1], [2], [], [4], [5], [6], [7], [3, 8]]
    [[], [0], [0, 1], [0, 1, 2], [], [4], [4, 5], [4, 5, 6], [4, 5, 6, 7], [0, 1, 2, 3, 4, 5, 6, 7, 8]])
  (.cond (.t 15)
    (.seq (.reg [⟨.mv (.c (.int .i64 0)), (some 4), none⟩])
    .ret)
    .skip))
  (.seq (.note (.gc [0, 1]) (.regD [⟨.mv (.t 0), (some 16), none⟩,
    ⟨.nck (.t 16), (some 17), none⟩,
    ⟨.fad 0 (.t 17), (some 18), none⟩,
    ⟨.ld none (.t 18), (some 19), none⟩,
    ⟨.mv (.t 0), (some 20), none⟩,
    ⟨.nck (.t 20), (some 21), none⟩,
    ⟨.fad 1 (.t 21), (some 22), none⟩,
    ⟨.ld none (.t 22), (some 23), none⟩,
    ⟨.iad 1 (.t 19) (.t 23), (some 24), none⟩,
    ⟨.ld none (.t 24), (some 25), none⟩,
    ⟨.mask 16 (.t 25) .i64, (some 26), none⟩,
    ⟨.mv (.t 26), (some 5), none⟩]
    [[], [0], [1], [2], [], [4], [5], [6], [3, 7], [8], [9], [10, 0, 1, 2, 3, 4, 5, 6, 7, 8, 9, 10]]
    [[], [0], [0, 1], [0, 1, 2], [], [4], [4, 5], [4, 5, 6], [0, 1, 2, 3, 4, 5, 6, 7], [0, 1, 2, 3, 4, 5, 6, 7, 8], [0, 1, 2, 3, 4, 5, 6, 7, 8, 9], [0, 1, 2, 3, 4, 5, 6, 7, 8, 9, 10]]))
  (.seq (.note (.gc [0, 1, 5]) (.reg [⟨.mv (.t 0), (some 27), none⟩,
    ⟨.nck (.t 27), (some 28), none⟩,
    ⟨.fad 1 (.t 28), (some 29), none⟩,
    ⟨.ld none (.t 29), (some 30), none⟩,
    ⟨.bin true .add (.t 30) (.c (.int .i64 1)), (some 31), none⟩,
    ⟨.nck (.t 27), (some 32), none⟩,
    ⟨.fad 1 (.t 32), (some 33), none⟩,
    ⟨.st 1 (.t 33) (.t 31), none, none⟩]))
  (.seq (.note (.gc [1, 5]) (.reg [⟨.mv (.t 5), (some 34), none⟩,
    ⟨.mv (.t 1), (some 35), none⟩,
    ⟨.bin true .rem (.t 34) (.t 35), (some 36), none⟩,
    ⟨.mv (.t 36), (some 4), none⟩]))
  .ret)))))
theorem ok_made_Tape_Next : mc_made_Tape_Next.ok Tryd.prog Tryd.f11.ntmps (Tryd.f11.body.getD .skip) = true := by kernel_rfl

set_option maxHeartbeats 2000000 in
theorem Wq_made_Tape_Next (t_ : GTape) (n_ : Int) {Q : Int × GTape → Prop} {Q' : V → Heap → Prop} (h : Ok (F_made_Tape_Next t_ n_) Q) (hQ : ∀ z, Q z → Q' (.int .i64 z.1) [(1000, .cells [.sl (z.2.L.map (V.int .i64)), .int .i64 z.2.at_])]) : ACall Tryd.prog 11 [.ptr 1000 0, .int .i64 n_] [(1000, .cells [.sl (t_.L.map (V.int .i64)), .int .i64 t_.at_])] Q' := by
  refine acall_machN [] [1000] [.t 4] Tryd.func11 rfl (by kernel_rfl) ok_made_Tape_Next (by kernel_rfl) rfl rfl fun M hf => ?_
  clear hf
  unfold F_made_Tape_Next at h
  unfold mc_made_Tape_Next
  (try replace h := tH h)
  refine tB ?_
  repeat' (first
    | (exact hQ _ h)
    | (exact trivial)
    | (exact False.elim h)
    | (have hq := hQ _ h; replace hq := tH hq; exact hq)
    | (refine oblg h ?_; clear h; intro hc h)
    | (refine roomG h ?_; clear h; intro hc h)
    | (refine fork h ?_ ?_ <;> clear h <;> intro hc h)
    | (refine forkS h ?_ ?_ <;> clear h <;> intro hc h)
    | (refine And.intro (chkD_of rfl) ?_)
    | (refine ⟨_, getE_map (inb_toNat (by assumption)), ?_⟩; (first | rw [M.lok_compU] | rw [M.lokD_compU]); refine tB ?_)
    | (refine And.intro (ltb_of (by assumption)) ?_)
    | (refine And.intro (by omega) ?_)
    | fail)
theorem W_made_Tape_Next : ∀ {t_ : GTape} {n_ : Int} {y : Int × GTape}, F_made_Tape_Next t_ n_ = some y → ACall Tryd.prog 11 [.ptr 1000 0, .int .i64 n_] [(1000, .cells [.sl (t_.L.map (V.int .i64)), .int .i64 t_.at_])] (fun r H => r = .int .i64 y.1 ∧ H = [(1000, .cells [.sl (y.2.L.map (V.int .i64)), .int .i64 y.2.at_])]) :=
  fun hy => Wq_made_Tape_Next _ _ (Q := fun z => z = _) ⟨_, hy, rfl⟩ fun z e => by subst e; exact ⟨rfl, rfl⟩

def F_ref31_Level_L1 (score_ : Int) (k16 : Int) (a17 : Int) (x15 : Int) : Option Int :=
  bif decide (a17 ≤ score_) then chk (in64 (x15 + 1)) (some (x15 + 1)) else some x15
def F_ref31_Level (score_ : Int) : Option Int :=
  (foldL (F_ref31_Level_L1 score_) [1, 100, 1000, 10000] 0 0).bind fun x18 => some x18

/- leakresponse/leakresponseref31.Level -/
@[irreducible] def mc_ref31_Level_L1 : MC :=
  (.seq (.reg [⟨.bin false .lss (.t 7) (.c (.int .i64 4)), (some 8), none⟩])
  (.seq (.cond (.t 8)
    .skip
    (.exit 0))
  (.seq (.block 1
  (.seq (.reg [⟨.aix none 1 4 (.t 6) (.t 7), (some 9), none⟩,
    ⟨.mv (.t 9), (some 5), none⟩])
  (.seq (.reg [⟨.mv (.t 0), (some 10), none⟩,
    ⟨.mv (.t 5), (some 11), none⟩,
    ⟨.bin false .geq (.t 10) (.t 11), (some 12), none⟩])
  (.cond (.t 12)
    (.reg [⟨.mv (.t 3), (some 13), none⟩,
      ⟨.bin true .add (.t 13) (.c (.int .i64 1)), (some 14), none⟩,
      ⟨.mv (.t 14), (some 3), none⟩])
    .skip))))
  (.reg [⟨.bin true .add (.t 7) (.c (.int .i64 1)), (some 15), none⟩,
    ⟨.mv (.t 15), (some 7), none⟩]))))
def mc_ref31_Level : MC :=
  (.seq (.reg [⟨.mv (.c (.int .i64 0)), (some 2), none⟩])
  (.seq (.reg [⟨.mv (.c (.int .i64 0)), (some 3), none⟩])
  (.seq (.seq (.reg [⟨.barr 1 [(.int .i64 0), (.int .i64 0), (.int .i64 0), (.int .i64 0)] [(.c (.int .i64 1)), (.c (.int .i64 100)), (.c (.int .i64 1000)), (.c (.int .i64 10000))], (some 6), none⟩,
    ⟨.mv (.c (.int .i64 0)), (some 7), none⟩])
  (.block 0
  (.loop mc_ref31_Level_L1)))
  (.seq (.reg [⟨.mv (.t 3), (some 16), none⟩,
    ⟨.mv (.t 16), (some 2), none⟩])
  .ret))))
theorem ok_ref31_Level : mc_ref31_Level.ok Tryd.prog Tryd.f17.ntmps (Tryd.f17.body.getD .skip) = true := by kernel_rfl

set_option maxHeartbeats 2000000 in
theorem Wq_ref31_Level (score_ : Int) {Q : Int → Prop} {Q' : V → Heap → Prop} (h : Ok (F_ref31_Level score_) Q) (hQ : ∀ z, Q z → Q' (.int .i64 z) []) : ACall Tryd.prog 17 [.int .i64 score_] [] Q' := by
  refine acall_machN [] [] [.t 2] Tryd.func17 rfl (by kernel_rfl) ok_ref31_Level (by kernel_rfl) rfl rfl fun M hf => ?_
  clear hf
  unfold F_ref31_Level at h
  unfold mc_ref31_Level
  (try replace h := tH h)
  refine tB ?_
  repeat' (first
    | (exact hQ _ h)
    | (exact trivial)
    | (exact False.elim h)
    | (have hq := hQ _ h; replace hq := tH hq; exact hq)
    | (refine oblg h ?_; clear h; intro hc h)
    | (refine roomG h ?_; clear h; intro hc h)
    | (refine fork h ?_ ?_ <;> clear h <;> intro hc h)
    | (refine forkS h ?_ ?_ <;> clear h <;> intro hc h)
    | (refine And.intro (chkD_of rfl) ?_)
    | (refine M.fold1 (b := mc_ref31_Level_L1) 7 [0, 6] [] (fun x => [(3, .int .i64 x)]) (fun x => []) [] h ?_ ?_ ?_ <;> first
       | (clear h; intro k a x Qn K hK1 hkN1 ha1 h hf; skip; clear hf; have hkd := kD hkN1; have hkB1 := kB hkN1; have hkI1 : in64 ((k : Int) + 1) = true := in64_iff.2 ⟨by omega, by (try simp only [List.length_cons, List.length_nil] at hkN1); omega⟩; have hkd1 : decide ((k : Int) < 4) = true := decide_eq_true (by simp only [List.length_cons, List.length_nil] at hkN1; omega); have hkr1 : (0 ≤ (k : Int) ∧ (k : Int) < 4) = True := eq_true (by simp only [List.length_cons, List.length_nil] at hkN1; omega); have hle1 : (k * 1 ≤ 3) = True := eq_true (by simp only [List.length_cons, List.length_nil] at hkN1; omega); have hpt1 := drop_of (f := fun e : Int => .int .i64 e) ha1 hkN1; (try simp only [go_sem, Nat.reduceBEq, Nat.reduceAdd, Nat.reduceLeDiff, Nat.reduceSub, Nat.reduceMul, Int.reduceToNat, Int.reduceLT, Int.reduceLE, List.flatMap_cons, List.flatMap_nil, List.map_cons, List.map_nil] at hpt1); unfold F_ref31_Level_L1 at h; unfold mc_ref31_Level_L1; (try replace h := tH h); refine tKA ha1 hkd hkN1 hkB1 hkI1 hkd1 hkr1 hle1 hpt1 ?_)
       | (clear h; intro x K h; replace h := And.left (And.intro h trivial); unfold mc_ref31_Level_L1; (try replace h := tH h); refine tB ?_)
       | (clear h; (try refine tB ?_); exact tU0; done)
       | fail)
    | (refine And.intro hkI1 ?_)
    | (refine And.intro hkN1 ?_)
    | (refine And.intro hkB1 ?_)
    | (simp only [ha1])
    | (refine hK1 _ ?_; (try refine tB ?_); refine ⟨_, h, ?_⟩; exact tU0; done)
    | (refine ⟨_, getE_map (inb_toNat (by assumption)), ?_⟩; (first | rw [M.lok_compU] | rw [M.lokD_compU]); refine tB ?_)
    | (refine And.intro (ltb_of (by assumption)) ?_)
    | (refine And.intro (by omega) ?_)
    | fail)
theorem W_ref31_Level : ∀ {score_ : Int} {y : Int}, F_ref31_Level score_ = some y → ACall Tryd.prog 17 [.int .i64 score_] [] (fun r H => r = .int .i64 y ∧ H = []) :=
  fun hy => Wq_ref31_Level _ (Q := fun z => z = _) ⟨_, hy, rfl⟩ fun z e => by subst e; exact ⟨rfl, rfl⟩

def F_severity_Worst_L1 (l_ : List GSeverity) (k18 : Int) (a19 : GSeverity) (x17 : Int) : Option Int :=
  chk (inb x17 l_.length) (bif decide ((l_.getD (x17).toNat default).Score < a19.Score) then some k18 else some x17)
def F_severity_Worst (l_ : List GSeverity) : Option (Int × Bool) :=
  (foldL (F_severity_Worst_L1 l_) l_ 0 0).bind fun x20 => some (x20, decide (0 < (l_.length : Int)))

/- leakresponse/severity.Worst -/
@[irreducible] def mc_severity_Worst_L1 : MC :=
  (.seq (.reg [⟨.bin false .lss (.t 9) (.t 8), (some 10), none⟩])
  (.seq (.cond (.t 10)
    .skip
    (.exit 0))
  (.seq (.block 1
  (.seq (.reg [⟨.mv (.t 9), (some 11), none⟩,
    ⟨.iad 4 (.t 7) (.t 9), (some 12), none⟩,
    ⟨.ld (some 4) (.t 12), (some 13), none⟩,
    ⟨.alloc [(.int .i64 0), (.int .i64 0), (.int .i64 0), (.int .i64 0)], (some 6), none⟩,
    ⟨.mv (.t 11), (some 5), none⟩,
    ⟨.st 4 (.t 6) (.t 13), none, none⟩])
  (.seq (.regD [⟨.fad 3 (.t 6), (some 14), none⟩,
    ⟨.ld none (.t 14), (some 15), none⟩,
    ⟨.mv (.t 0), (some 16), none⟩,
    ⟨.mv (.t 4), (some 17), none⟩,
    ⟨.iad 4 (.t 16) (.t 17), (some 18), none⟩,
    ⟨.fad 3 (.t 18), (some 19), none⟩,
    ⟨.ld none (.t 19), (some 20), none⟩,
    ⟨.bin false .gtr (.t 15) (.t 20), (some 21), none⟩]
    [[], [0], [], [], [2, 3], [4], [5], [1, 6]]
    [[], [0], [], [], [2, 3], [2, 3, 4], [2, 3, 4, 5], [0, 1, 2, 3, 4, 5, 6]])
  (.cond (.t 21)
    (.reg [⟨.mv (.t 5), (some 22), none⟩,
      ⟨.mv (.t 22), (some 4), none⟩])
    .skip))))
  (.reg [⟨.bin true .add (.t 9) (.c (.int .i64 1)), (some 23), none⟩,
    ⟨.mv (.t 23), (some 9), none⟩]))))
def mc_severity_Worst : MC :=
  (.seq (.reg [⟨.mv (.c (.int .i64 0)), (some 2), none⟩,
    ⟨.mv (.c (.bool false)), (some 3), none⟩])
  (.seq (.reg [⟨.mv (.c (.int .i64 0)), (some 4), none⟩])
  (.seq (.seq (.reg [⟨.mv (.t 0), (some 7), none⟩,
    ⟨.len false (.t 7), (some 8), none⟩,
    ⟨.mv (.c (.int .i64 0)), (some 9), none⟩])
  (.block 0
  (.loop mc_severity_Worst_L1)))
  (.seq (.reg [⟨.mv (.t 4), (some 24), none⟩,
    ⟨.mv (.t 0), (some 25), none⟩,
    ⟨.len false (.t 25), (some 26), none⟩,
    ⟨.bin false .gtr (.t 26) (.c (.int .i64 0)), (some 27), none⟩,
    ⟨.mv (.t 24), (some 2), none⟩,
    ⟨.mv (.t 27), (some 3), none⟩])
  .ret))))
theorem ok_severity_Worst : mc_severity_Worst.ok Tryd.prog Tryd.f21.ntmps (Tryd.f21.body.getD .skip) = true := by kernel_rfl

set_option maxHeartbeats 2000000 in
theorem Wq_severity_Worst (l_ : List GSeverity) {Q : Int × Bool → Prop} {Q' : V → Heap → Prop} (h : Ok (F_severity_Worst l_) Q) (hQ : ∀ z, Q z → Q' (.tup [.int .i64 z.1, .bool z.2]) []) : ACall Tryd.prog 21 [.sl (l_.map GSeverity.v)] [] Q' := by
  refine acall_machN [] [] [.t 2, .t 3] Tryd.func21 rfl (by kernel_rfl) ok_severity_Worst (by kernel_rfl) rfl rfl fun M hf => ?_
  clear hf
  unfold F_severity_Worst at h
  unfold mc_severity_Worst
  (try replace h := tH h)
  refine tB ?_
  repeat' (first
    | (exact hQ _ h)
    | (exact trivial)
    | (exact False.elim h)
    | (have hq := hQ _ h; replace hq := tH hq; exact hq)
    | (refine oblg h ?_; clear h; intro hc h)
    | (refine roomG h ?_; clear h; intro hc h)
    | (refine fork h ?_ ?_ <;> clear h <;> intro hc h)
    | (refine forkS h ?_ ?_ <;> clear h <;> intro hc h)
    | (refine And.intro (chkD_of rfl) ?_)
    | (refine M.fold1 (b := mc_severity_Worst_L1) 9 [0, 7, 8] [] (fun x => [(4, .int .i64 x)]) (fun x => []) [] h ?_ ?_ ?_ <;> first
       | (clear h; intro k a x Qn K hK1 hkN1 ha1 h hf; have hl := fact_int (factsE_find (n := 8) hf.1 rfl); clear hf; have hkd := kD hkN1; have hkB1 := kB hkN1; have hkI1 : in64 ((k : Int) + 1) = true := in64_iff.2 ⟨by omega, by (try simp only [List.length_cons, List.length_nil] at hkN1); omega⟩; unfold F_severity_Worst_L1 at h; unfold mc_severity_Worst_L1; (try replace h := tH h); refine tK ha1 hkd hkN1 hkB1 hkI1 ?_)
       | (clear h; intro x K h; replace h := And.left (And.intro h trivial); unfold mc_severity_Worst_L1; (try replace h := tH h); refine tB ?_)
       | (clear h; (try refine tB ?_); exact tU0; done)
       | fail)
    | (refine And.intro hkI1 ?_)
    | (refine And.intro hkN1 ?_)
    | (refine And.intro hkB1 ?_)
    | (simp only [ha1])
    | (refine hK1 _ ?_; (try refine tB ?_); refine ⟨_, h, ?_⟩; exact tU0; done)
    | (refine ⟨_, getE_map (inb_toNat (by assumption)), ?_⟩; (first | rw [M.lok_compU] | rw [M.lokD_compU]); refine tB ?_)
    | (refine And.intro (ltb_of (by assumption)) ?_)
    | (refine And.intro (by omega) ?_)
    | fail)
theorem W_severity_Worst : ∀ {l_ : List GSeverity} {y : Int × Bool}, F_severity_Worst l_ = some y → ACall Tryd.prog 21 [.sl (l_.map GSeverity.v)] [] (fun r H => r = .tup [.int .i64 y.1, .bool y.2] ∧ H = []) :=
  fun hy => Wq_severity_Worst _ (Q := fun z => z = _) ⟨_, hy, rfl⟩ fun z e => by subst e; exact ⟨rfl, rfl⟩

noncomputable def F_law31_SeverityWorst_L1 (x87 : Int × (List GSeverity) × GTape) : Option (Fl (Int × (List GSeverity) × GTape) (List GSeverity)) :=
  bif decide (0 < x87.1) then (F_made_Tape_Next x87.2.2 6).bind fun y108 => (F_made_Tape_Next y108.2 4).bind fun y109 => chk (in64 (y108.1 * y109.1)) ((F_ref31_Level (y108.1 * y109.1)).bind fun y111 => chk (room (x87.2.1.length + [(GSeverity.mk y111 y108.1 y109.1 (y108.1 * y109.1))].length) 32) (chk (in64 (x87.1 - 1)) (some (.nx ((x87.1 - 1), (x87.2.1 ++ [(GSeverity.mk y111 y108.1 y109.1 (y108.1 * y109.1))]), y109.2))))) else some (.ex x87.2.1)
noncomputable def F_law31_SeverityWorst_L2 (r112 : List GSeverity) (y114 : Int × Bool) (k125 : Int) (a126 : GSeverity) (x124 : Unit) : Option (Fl Unit Bool) :=
  bif decide (y114.1 < 0) then some (.ex false) else bif decide ((r112.length : Int) ≤ y114.1) then some (.ex false) else chk (inb y114.1 r112.length) (bif decide ((r112.getD (y114.1).toNat default).Score < a126.Score) then some (.ex false) else bif decide (k125 < y114.1) then chk (inb y114.1 r112.length) (bif decide (a126.Score = (r112.getD (y114.1).toNat default).Score) then some (.ex false) else some (.nx ())) else some (.nx ()))
noncomputable def F_law31_SeverityWorst (l_ : List Int) : Option Bool :=
  bif decide (300 < (l_.length : Int)) then F_law31_awake.bind fun y4 => some y4 else (F_made_Tape_Next (GTape.mk l_ 0) 8).bind fun y60 => (loop F_law31_SeverityWorst_L1 (y60.1, [], y60.2)).bind fun r112 => (F_severity_Worst r112).bind fun y114 => bif (!(y114.2 == decide (0 < (r112.length : Int)))) then some false else (forL (F_law31_SeverityWorst_L2 r112 y114) r112 0 ()).bind fun o => o.elim (fun x127 => F_law31_awake.bind fun y130 => some y130) (fun r128 => some r128)

/- leakresponse/leakresponselaw31.SeverityWorst -/
@[irreducible] def mc_law31_SeverityWorst_L1 : MC :=
  (.seq (.seq (.reg [⟨.mv (.t 5), (some 20), none⟩,
    ⟨.bin false .gtr (.t 20) (.c (.int .i64 0)), (some 21), none⟩])
  (.cond (.t 21)
    .skip
    (.exit 0)))
  (.seq (.block 1
  (.seq (.reg [⟨.mv (.t 3), (some 24), none⟩,
    ⟨.call (.f 11) [(.t 24), (.c (.int .i64 6))] [17] [], (some 25), none⟩,
    ⟨.mv (.t 3), (some 26), none⟩,
    ⟨.call (.f 11) [(.t 26), (.c (.int .i64 4))] [17] [], (some 27), none⟩,
    ⟨.build [(.int .i64 0), (.int .i64 0), (.int .i64 0), (.int .i64 0)] [(1, 1, (.t 25)), (2, 1, (.t 27))], (some 28), none⟩,
    ⟨.alloc [(.int .i64 0), (.int .i64 0), (.int .i64 0), (.int .i64 0)], (some 6), none⟩,
    ⟨.st 4 (.t 6) (.t 28), none, none⟩])
  (.seq (.reg [⟨.fad 1 (.t 6), (some 29), none⟩,
    ⟨.ld none (.t 29), (some 30), none⟩,
    ⟨.fad 2 (.t 6), (some 31), none⟩,
    ⟨.ld none (.t 31), (some 32), none⟩,
    ⟨.bin true .mul (.t 30) (.t 32), (some 33), none⟩,
    ⟨.fad 3 (.t 6), (some 34), none⟩,
    ⟨.st 1 (.t 34) (.t 33), none, none⟩])
  (.seq (.note (.gc [3, 4, 5, 6, 63, 64, 65, 66, 69, 70, 71, 72, 73, 74, 75, 76, 79, 80, 81, 82, 83, 84, 85, 86, 87, 88, 89, 90, 91]) (.reg [⟨.fad 3 (.t 6), (some 35), none⟩,
    ⟨.ld none (.t 35), (some 36), none⟩,
    ⟨.call (.f 17) [(.t 36)] [] [], (some 37), none⟩,
    ⟨.fad 0 (.t 6), (some 38), none⟩,
    ⟨.st 1 (.t 38) (.t 37), none, none⟩]))
  (.reg [⟨.mv (.t 4), (some 39), none⟩,
    ⟨.ld (some 4) (.t 6), (some 40), none⟩,
    ⟨.bslice 4 [(.t 40)], (some 41), none⟩,
    ⟨.app 4 32 (.t 39) (.t 41), (some 42), none⟩,
    ⟨.mv (.t 42), (some 4), none⟩])))))
  (.note (.gc [3, 4, 5, 63, 64, 65, 66, 69, 70, 71, 72, 73, 74, 75, 76, 79, 80, 81, 82, 83, 84, 85, 86, 87, 88, 89, 90, 91]) (.reg [⟨.mv (.t 5), (some 22), none⟩,
    ⟨.bin true .sub (.t 22) (.c (.int .i64 1)), (some 23), none⟩,
    ⟨.mv (.t 23), (some 5), none⟩]))))
@[irreducible] def mc_law31_SeverityWorst_L2 : MC :=
  (.seq (.reg [⟨.bin false .lss (.t 55) (.t 54), (some 56), none⟩])
  (.seq (.cond (.t 56)
    .skip
    (.exit 2))
  (.seq (.block 3
  (.seq (.reg [⟨.mv (.t 55), (some 57), none⟩,
    ⟨.iad 4 (.t 53) (.t 55), (some 58), none⟩,
    ⟨.ld (some 4) (.t 58), (some 59), none⟩,
    ⟨.alloc [(.int .i64 0), (.int .i64 0), (.int .i64 0), (.int .i64 0)], (some 10), none⟩,
    ⟨.mv (.t 57), (some 9), none⟩,
    ⟨.st 4 (.t 10) (.t 59), none, none⟩])
  (.seq (.regD [⟨.mv (.t 7), (some 60), none⟩,
    ⟨.bin false .lss (.t 60) (.c (.int .i64 0)), (some 61), none⟩,
    ⟨.mv (.t 61), (some 62), none⟩,
    ⟨.mv (.t 7), (some 63), (some (62, false))⟩,
    ⟨.mv (.t 4), (some 64), (some (62, false))⟩,
    ⟨.len false (.t 64), (some 65), (some (62, false))⟩,
    ⟨.bin false .geq (.t 63) (.t 65), (some 66), (some (62, false))⟩,
    ⟨.pick (.t 62) (.c (.bool true)) (.t 66), (some 67), none⟩,
    ⟨.mv (.t 67), (some 68), none⟩,
    ⟨.fad 3 (.t 10), (some 69), (some (68, false))⟩,
    ⟨.ld none (.t 69), (some 70), (some (68, false))⟩,
    ⟨.mv (.t 4), (some 71), (some (68, false))⟩,
    ⟨.mv (.t 7), (some 72), (some (68, false))⟩,
    ⟨.iad 4 (.t 71) (.t 72), (some 73), (some (68, false))⟩,
    ⟨.fad 3 (.t 73), (some 74), (some (68, false))⟩,
    ⟨.ld none (.t 74), (some 75), (some (68, false))⟩,
    ⟨.bin false .gtr (.t 70) (.t 75), (some 76), (some (68, false))⟩,
    ⟨.pick (.t 68) (.c (.bool true)) (.t 76), (some 77), none⟩,
    ⟨.mv (.t 77), (some 78), none⟩,
    ⟨.mv (.t 9), (some 79), (some (78, false))⟩,
    ⟨.mv (.t 7), (some 80), (some (78, false))⟩,
    ⟨.bin false .lss (.t 79) (.t 80), (some 81), (some (78, false))⟩,
    ⟨.mv (.t 81), (some 82), (some (78, false))⟩,
    ⟨.fad 3 (.t 10), (some 83), (some (82, true))⟩,
    ⟨.ld none (.t 83), (some 84), (some (82, true))⟩,
    ⟨.mv (.t 4), (some 85), (some (82, true))⟩,
    ⟨.mv (.t 7), (some 86), (some (82, true))⟩,
    ⟨.iad 4 (.t 85) (.t 86), (some 87), (some (82, true))⟩,
    ⟨.fad 3 (.t 87), (some 88), (some (82, true))⟩,
    ⟨.ld none (.t 88), (some 89), (some (82, true))⟩,
    ⟨.bin false .eql (.t 84) (.t 89), (some 90), (some (82, true))⟩,
    ⟨.pick (.t 82) (.t 90) (.c (.bool false)), (some 91), (some (78, false))⟩,
    ⟨.pick (.t 78) (.c (.bool true)) (.t 91), (some 92), none⟩]
    [[], [0], [1], [2], [2], [4, 2], [3, 5, 2], [2, 6], [7, 2], [8], [9, 8], [8], [8], [11, 12, 8], [13, 8], [14, 8], [10, 15, 8], [8, 16], [17, 8], [18], [18], [19, 20, 18], [21, 18, 18], [22], [23, 22], [22], [22], [25, 26, 22], [27, 22], [28, 22], [24, 29, 22], [22, 30, 18], [18, 31]]
    [[], [0], [0, 1], [0, 1, 2], [0, 1, 2], [0, 1, 2, 4], [0, 1, 2, 3, 4, 5], [0, 1, 2, 3, 4, 5, 6], [0, 1, 2, 3, 4, 5, 6, 7], [0, 1, 2, 3, 4, 5, 6, 7, 8], [0, 1, 2, 3, 4, 5, 6, 7, 8, 9], [0, 1, 2, 3, 4, 5, 6, 7, 8], [0, 1, 2, 3, 4, 5, 6, 7, 8], [0, 1, 2, 3, 4, 5, 6, 7, 8, 11, 12], [0, 1, 2, 3, 4, 5, 6, 7, 8, 11, 12, 13], [0, 1, 2, 3, 4, 5, 6, 7, 8, 11, 12, 13, 14], [0, 1, 2, 3, 4, 5, 6, 7, 8, 9, 10, 11, 12, 13, 14, 15], [0, 1, 2, 3, 4, 5, 6, 7, 8, 9, 10, 11, 12, 13, 14, 15, 16], [0, 1, 2, 3, 4, 5, 6, 7, 8, 9, 10, 11, 12, 13, 14, 15, 16, 17], [0, 1, 2, 3, 4, 5, 6, 7, 8, 9, 10, 11, 12, 13, 14, 15, 16, 17, 18], [0, 1, 2, 3, 4, 5, 6, 7, 8, 9, 10, 11, 12, 13, 14, 15, 16, 17, 18], [0, 1, 2, 3, 4, 5, 6, 7, 8, 9, 10, 11, 12, 13, 14, 15, 16, 17, 18, 19, 20], [0, 1, 2, 3, 4, 5, 6, 7, 8, 9, 10, 11, 12, 13, 14, 15, 16, 17, 18, 19, 20, 21], [0, 1, 2, 3, 4, 5, 6, 7, 8, 9, 10, 11, 12, 13, 14, 15, 16, 17, 18, 19, 20, 21, 22], [0, 1, 2, 3, 4, 5, 6, 7, 8, 9, 10, 11, 12, 13, 14, 15, 16, 17, 18, 19, 20, 21, 22, 23], [0, 1, 2, 3, 4, 5, 6, 7, 8, 9, 10, 11, 12, 13, 14, 15, 16, 17, 18, 19, 20, 21, 22], [0, 1, 2, 3, 4, 5, 6, 7, 8, 9, 10, 11, 12, 13, 14, 15, 16, 17, 18, 19, 20, 21, 22], [0, 1, 2, 3, 4, 5, 6, 7, 8, 9, 10, 11, 12, 13, 14, 15, 16, 17, 18, 19, 20, 21, 22, 25, 26], [0, 1, 2, 3, 4, 5, 6, 7, 8, 9, 10, 11, 12, 13, 14, 15, 16, 17, 18, 19, 20, 21, 22, 25, 26, 27], [0, 1, 2, 3, 4, 5, 6, 7, 8, 9, 10, 11, 12, 13, 14, 15, 16, 17, 18, 19, 20, 21, 22, 25, 26, 27, 28], [0, 1, 2, 3, 4, 5, 6, 7, 8, 9, 10, 11, 12, 13, 14, 15, 16, 17, 18, 19, 20, 21, 22, 23, 24, 25, 26, 27, 28, 29], [0, 1, 2, 3, 4, 5, 6, 7, 8, 9, 10, 11, 12, 13, 14, 15, 16, 17, 18, 19, 20, 21, 22, 23, 24, 25, 26, 27, 28, 29, 30], [0, 1, 2, 3, 4, 5, 6, 7, 8, 9, 10, 11, 12, 13, 14, 15, 16, 17, 18, 19, 20, 21, 22, 23, 24, 25, 26, 27, 28, 29, 30, 31]])
  (.cond (.t 92)
    (.seq (.reg [⟨.mv (.c (.bool false)), (some 2), none⟩])
    .ret)
    .skip))))
  (.reg [⟨.bin true .add (.t 55) (.c (.int .i64 1)), (some 93), none⟩,
    ⟨.mv (.t 93), (some 55), none⟩]))))
def mc_law31_SeverityWorst : MC :=
  (.seq (.reg [⟨.mv (.c (.bool false)), (some 2), none⟩])
  (.seq (.seq (.reg [⟨.mv (.t 0), (some 11), none⟩,
    ⟨.len false (.t 11), (some 12), none⟩,
    ⟨.bin false .gtr (.t 12) (.c (.int .i64 300)), (some 13), none⟩])
  (.cond (.t 13)
    (.seq (.reg [⟨.call (.f 8) [] [] [], (some 14), none⟩,
      ⟨.mv (.t 14), (some 2), none⟩])
    .ret)
    .skip))
  (.seq (.reg [⟨.mv (.t 0), (some 15), none⟩,
    ⟨.build [(.sl []), (.int .i64 0)] [(0, 1, (.t 15))], (some 16), none⟩,
    ⟨.box (.t 16), (some 17), none⟩,
    ⟨.mv (.t 17), (some 3), none⟩])
  (.seq (.reg [⟨.mv (.c .nils), (some 4), none⟩])
  (.seq (.seq (.note (.gc [3, 4, 63, 64, 65, 66, 69, 70, 71, 72, 73, 74, 75, 76, 79, 80, 81, 82, 83, 84, 85, 86, 87, 88, 89, 90, 91]) (.reg [⟨.mv (.t 3), (some 18), none⟩,
    ⟨.call (.f 11) [(.t 18), (.c (.int .i64 8))] [17] [], (some 19), none⟩,
    ⟨.mv (.t 19), (some 5), none⟩]))
  (.block 0
  (.loop mc_law31_SeverityWorst_L1)))
  (.seq (.regI [.op ⟨.mv (.t 4), (some 44), none⟩,
    .nt (.fz 44),
    .op ⟨.call (.f 21) [(.t 44)] [] [], (some 45), none⟩,
    .op ⟨.mv (.t 45), (some 43), none⟩,
    .op ⟨.ext 0 (.t 43), (some 46), none⟩,
    .op ⟨.ext 1 (.t 43), (some 47), none⟩,
    .op ⟨.mv (.t 46), (some 7), none⟩,
    .op ⟨.mv (.t 47), (some 8), none⟩])
  (.seq (.seq (.reg [⟨.mv (.t 8), (some 48), none⟩,
    ⟨.mv (.t 4), (some 49), none⟩,
    ⟨.len false (.t 49), (some 50), none⟩,
    ⟨.bin false .gtr (.t 50) (.c (.int .i64 0)), (some 51), none⟩,
    ⟨.beq true (.t 48) (.t 51), (some 52), none⟩])
  (.cond (.t 52)
    (.seq (.reg [⟨.mv (.c (.bool false)), (some 2), none⟩])
    .ret)
    .skip))
  (.seq (.seq (.note (.gc [4, 7, 63, 64, 65, 66, 69, 70, 71, 72, 73, 74, 75, 76, 79, 80, 81, 82, 83, 84, 85, 86, 87, 88, 89, 90, 91]) (.reg [⟨.mv (.t 4), (some 53), none⟩,
    ⟨.len false (.t 53), (some 54), none⟩,
    ⟨.mv (.c (.int .i64 0)), (some 55), none⟩]))
  (.block 2
  (.loop mc_law31_SeverityWorst_L2)))
  (.seq (.reg [⟨.call (.f 8) [] [] [], (some 94), none⟩,
    ⟨.mv (.t 94), (some 2), none⟩])
  .ret)))))))))
theorem ok_law31_SeverityWorst : mc_law31_SeverityWorst.ok Tryd.prog Tryd.f7.ntmps (Tryd.f7.body.getD .skip) = true := by kernel_rfl

set_option maxHeartbeats 2000000 in
theorem Wq_law31_SeverityWorst (l_ : List Int) {Q : Bool → Prop} {Q' : V → Heap → Prop} (h : Ok (F_law31_SeverityWorst l_) Q) (hQ : ∀ z, Q z → Q' (.bool z) []) : ACall Tryd.prog 7 [.sl (l_.map (V.int .i64))] [] Q' := by
  refine acall_machN [] [] [.t 2] Tryd.func7 rfl (by kernel_rfl) ok_law31_SeverityWorst (by kernel_rfl) rfl rfl fun M hf => ?_
  clear hf
  unfold F_law31_SeverityWorst at h
  unfold mc_law31_SeverityWorst
  (try replace h := tH h)
  refine tB ?_
  repeat' (first
    | (exact hQ _ h)
    | (exact trivial)
    | (exact False.elim h)
    | (have hq := hQ _ h; replace hq := tH hq; exact hq)
    | (refine oblg h ?_; clear h; intro hc h)
    | (refine roomG h ?_; clear h; intro hc h)
    | (refine fork h ?_ ?_ <;> clear h <;> intro hc h)
    | (refine forkS h ?_ ?_ <;> clear h <;> intro hc h)
    | (refine And.intro (chkD_of rfl) ?_)
    | (obtain ⟨y, hy, h⟩ := h; have hw := W_law31_awake hy; (try replace hw := tH hw); (first | (refine sCall_of hw rfl rfl ?_; rw [M.lok_eq]) | (refine sCallD_of hw rfl rfl ?_; rw [M.lokD_eq])); clear hw; clear hy; refine tB ?_)
    | (obtain ⟨y, hy, h⟩ := h; have hw := acall_swe 1000 17 (W_made_Tape_Next hy); (try replace hw := tH hw); (first | (refine sCall_of hw rfl rfl ?_; rw [M.lok_eq]) | (refine sCallD_of hw rfl rfl ?_; rw [M.lokD_eq])); clear hw; clear hy; refine tB ?_)
    | (obtain ⟨y, hy, h⟩ := h; have hw := W_ref31_Level hy; (try replace hw := tH hw); (first | (refine sCall_of hw rfl rfl ?_; rw [M.lok_eq]) | (refine sCallD_of hw rfl rfl ?_; rw [M.lokD_eq])); clear hw; clear hy; refine tB ?_)
    | (obtain ⟨y, hy, h⟩ := h; have hw := W_severity_Worst hy; (try replace hw := tH hw); (first | (refine sCall_of hw rfl rfl ?_; rw [M.lok_eq]) | (refine sCallD_of hw rfl rfl ?_; rw [M.lokD_eq])); clear hw; clear hy; refine tB ?_)
    | (refine M.wh1 (b := mc_law31_SeverityWorst_L1) [3] [] (fun x => [(4, .osl 2004 4 0 x.2.1.length), (5, .int .i64 x.1)]) (fun x => [.o 2004 (.arr 4 (x.2.1.map GSeverity.v)), .o 17 (.cells [.sl (x.2.2.L.map (V.int .i64)), .int .i64 x.2.2.at_])]) [.gc [3, 4, 5], .acc 4 2004 4] h ?_ ?_ <;> first
       | (clear h; intro x Qn K hK1 h; unfold F_law31_SeverityWorst_L1 at h; unfold mc_law31_SeverityWorst_L1; (try replace h := tH h); refine tB ?_)
       | (clear h; (try refine tB ?_); exact tU0; done)
       | fail)
    | (refine M.for1 (b := mc_law31_SeverityWorst_L2) 55 [4, 7, 53, 54] [] (fun x => []) (fun x => []) [] h ?_ ?_ ?_ <;> first
       | (clear h; intro k a x Qn K hK2 hkN2 ha2 h hf; have hl := fact_int (factsE_find (n := 54) hf.1 rfl); clear hf; have hkd := kD hkN2; have hkB2 := kB hkN2; have hkI2 : in64 ((k : Int) + 1) = true := in64_iff.2 ⟨by omega, by (try simp only [List.length_cons, List.length_nil] at hkN2); omega⟩; unfold F_law31_SeverityWorst_L2 at h; unfold mc_law31_SeverityWorst_L2; (try replace h := tH h); refine tK ha2 hkd hkN2 hkB2 hkI2 ?_)
       | (clear h; intro x K h; replace h := And.left (And.intro h trivial); unfold mc_law31_SeverityWorst_L2; (try replace h := tH h); refine tB ?_)
       | (clear h; (try refine tB ?_); exact tU0; done)
       | fail)
    | (refine And.intro hkI2 ?_)
    | (refine And.intro hkN2 ?_)
    | (refine And.intro hkB2 ?_)
    | (simp only [ha2])
    | (refine hK1 _ ?_; (try refine tB ?_); refine ⟨_, h, ?_⟩; exact tU0; done)
    | (refine hK2 _ ?_; (try refine tB ?_); refine ⟨_, h, ?_⟩; exact tU0; done)
    | (refine ⟨_, getE_map (inb_toNat (by assumption)), ?_⟩; (first | rw [M.lok_compU] | rw [M.lokD_compU]); refine tB ?_)
    | (refine And.intro (ltb_of (by assumption)) ?_)
    | (refine And.intro (by omega) ?_)
    | fail)
theorem W_law31_SeverityWorst : ∀ {l_ : List Int} {y : Bool}, F_law31_SeverityWorst l_ = some y → ACall Tryd.prog 7 [.sl (l_.map (V.int .i64))] [] (fun r H => r = .bool y ∧ H = []) :=
  fun hy => Wq_law31_SeverityWorst _ (Q := fun z => z = _) ⟨_, hy, rfl⟩ fun z e => by subst e; exact ⟨rfl, rfl⟩

def F_made_Tape_Between (t_ : GTape) (a_ : Int) (b_ : Int) : Option (Int × GTape) :=
  chk (in64 (b_ - a_)) (chk (in64 ((b_ - a_) + 1)) ((F_made_Tape_Next t_ ((b_ - a_) + 1)).bind fun y2 => chk (in64 (a_ + y2.1)) (some ((a_ + y2.1), y2.2))))

/- (*leakresponse/leakresponsemake.Tape).Between -/
def mc_made_Tape_Between : MC :=
  (.seq (.reg [⟨.mv (.c (.int .i64 0)), (some 6), none⟩])
  (.seq (.reg [⟨.mv (.t 1), (some 7), none⟩,
    ⟨.mv (.t 0), (some 8), none⟩,
    ⟨.mv (.t 2), (some 9), none⟩,
    ⟨.mv (.t 1), (some 10), none⟩,
    ⟨.bin true .sub (.t 9) (.t 10), (some 11), none⟩,
    ⟨.bin true .add (.t 11) (.c (.int .i64 1)), (some 12), none⟩,
    ⟨.call (.f 11) [(.t 8), (.t 12)] [1000] [], (some 13), none⟩,
    ⟨.bin true .add (.t 7) (.t 13), (some 14), none⟩,
    ⟨.mv (.t 14), (some 6), none⟩])
  .ret))
theorem ok_made_Tape_Between : mc_made_Tape_Between.ok Tryd.prog Tryd.f12.ntmps (Tryd.f12.body.getD .skip) = true := by kernel_rfl

set_option maxHeartbeats 2000000 in
theorem Wq_made_Tape_Between (t_ : GTape) (a_ : Int) (b_ : Int) {Q : Int × GTape → Prop} {Q' : V → Heap → Prop} (h : Ok (F_made_Tape_Between t_ a_ b_) Q) (hQ : ∀ z, Q z → Q' (.int .i64 z.1) [(1000, .cells [.sl (z.2.L.map (V.int .i64)), .int .i64 z.2.at_])]) : ACall Tryd.prog 12 [.ptr 1000 0, .int .i64 a_, .int .i64 b_] [(1000, .cells [.sl (t_.L.map (V.int .i64)), .int .i64 t_.at_])] Q' := by
  refine acall_machN [] [1000] [.t 6] Tryd.func12 rfl (by kernel_rfl) ok_made_Tape_Between (by kernel_rfl) rfl rfl fun M hf => ?_
  clear hf
  unfold F_made_Tape_Between at h
  unfold mc_made_Tape_Between
  (try replace h := tH h)
  refine tB ?_
  repeat' (first
    | (exact hQ _ h)
    | (exact trivial)
    | (exact False.elim h)
    | (have hq := hQ _ h; replace hq := tH hq; exact hq)
    | (refine oblg h ?_; clear h; intro hc h)
    | (refine roomG h ?_; clear h; intro hc h)
    | (refine fork h ?_ ?_ <;> clear h <;> intro hc h)
    | (refine forkS h ?_ ?_ <;> clear h <;> intro hc h)
    | (refine And.intro (chkD_of rfl) ?_)
    | (obtain ⟨y, hy, h⟩ := h; have hw := W_made_Tape_Next hy; (try replace hw := tH hw); (first | (refine sCall_of hw rfl rfl ?_; rw [M.lok_eq]) | (refine sCallD_of hw rfl rfl ?_; rw [M.lokD_eq])); clear hw; clear hy; refine tB ?_)
    | (refine ⟨_, getE_map (inb_toNat (by assumption)), ?_⟩; (first | rw [M.lok_compU] | rw [M.lokD_compU]); refine tB ?_)
    | (refine And.intro (ltb_of (by assumption)) ?_)
    | (refine And.intro (by omega) ?_)
    | fail)
theorem W_made_Tape_Between : ∀ {t_ : GTape} {a_ : Int} {b_ : Int} {y : Int × GTape}, F_made_Tape_Between t_ a_ b_ = some y → ACall Tryd.prog 12 [.ptr 1000 0, .int .i64 a_, .int .i64 b_] [(1000, .cells [.sl (t_.L.map (V.int .i64)), .int .i64 t_.at_])] (fun r H => r = .int .i64 y.1 ∧ H = [(1000, .cells [.sl (y.2.L.map (V.int .i64)), .int .i64 y.2.at_])]) :=
  fun hy => Wq_made_Tape_Between _ _ _ (Q := fun z => z = _) ⟨_, hy, rfl⟩ fun z e => by subst e; exact ⟨rfl, rfl⟩

noncomputable def F_made_Rights_L1 (x51 : Int × Int × Int × (List GGrant) × GTape) : Option (Fl (Int × Int × Int × (List GGrant) × GTape) (Int × Int × (List GGrant) × GTape)) :=
  bif decide (0 < x51.1) then (F_made_Tape_Next x51.2.2.2.2 x51.2.1).bind fun y61 => (F_made_Tape_Next y61.2 x51.2.2.1).bind fun y62 => (F_made_Tape_Between y62.2 1 3).bind fun y63 => chk (room (x51.2.2.2.1.length + [(GGrant.mk y61.1 y62.1 y63.1)].length) 24) (chk (in64 (x51.1 - 1)) (some (.nx ((x51.1 - 1), x51.2.1, x51.2.2.1, (x51.2.2.2.1 ++ [(GGrant.mk y61.1 y62.1 y63.1)]), y63.2)))) else some (.ex (x51.2.1, x51.2.2.1, x51.2.2.2.1, x51.2.2.2.2))
noncomputable def F_made_Rights_L2 (x99 : Int × Int × Int × (List GStore) × GTape) : Option (Fl (Int × Int × Int × (List GStore) × GTape) (Int × Int × (List GStore) × GTape)) :=
  bif decide (0 < x99.1) then (F_made_Tape_Next x99.2.2.2.2 x99.2.2.1).bind fun y106 => (F_made_Tape_Next y106.2 x99.2.1).bind fun y107 => chk (room (x99.2.2.2.1.length + [(GStore.mk y106.1 y107.1)].length) 16) (chk (in64 (x99.1 - 1)) (some (.nx ((x99.1 - 1), x99.2.1, x99.2.2.1, (x99.2.2.2.1 ++ [(GStore.mk y106.1 y107.1)]), y107.2)))) else some (.ex (x99.2.1, x99.2.2.1, x99.2.2.2.1, x99.2.2.2.2))
noncomputable def F_made_Rights_L3 (x143 : Int × Int × Int × (List GMint) × GTape) : Option (Fl (Int × Int × Int × (List GMint) × GTape) (Int × Int × (List GMint) × GTape)) :=
  bif decide (0 < x143.1) then (F_made_Tape_Next x143.2.2.2.2 x143.2.1).bind fun y150 => (F_made_Tape_Next y150.2 x143.2.1).bind fun y151 => chk (room (x143.2.2.2.1.length + [(GMint.mk y150.1 y151.1)].length) 16) (chk (in64 (x143.1 - 1)) (some (.nx ((x143.1 - 1), x143.2.1, x143.2.2.1, (x143.2.2.2.1 ++ [(GMint.mk y150.1 y151.1)]), y151.2)))) else some (.ex (x143.2.1, x143.2.2.1, x143.2.2.2.1, x143.2.2.2.2))
noncomputable def F_made_Rights (t_ : GTape) : Option (GRights × GTape) :=
  (F_made_Tape_Between t_ 1 6).bind fun y3 => (F_made_Tape_Between y3.2 1 5).bind fun y4 => (F_made_Tape_Next y4.2 8).bind fun y36 => (loop F_made_Rights_L1 (y36.1, y3.1, y4.1, [], y36.2)).bind fun r64 => (F_made_Tape_Next r64.2.2.2 5).bind fun y88 => (loop F_made_Rights_L2 (y88.1, r64.1, r64.2.1, [], y88.2)).bind fun r108 => (F_made_Tape_Next r108.2.2.2 4).bind fun y132 => (loop F_made_Rights_L3 (y132.1, r108.1, r108.2.1, [], y132.2)).bind fun r152 => some ((GRights.mk r152.1 r152.2.1 r64.2.2.1 r108.2.2.1 r152.2.2.1), r152.2.2.2)

/- leakresponse/leakresponsemake.Rights -/
@[irreducible] def mc_made_Rights_L1 : MC :=
  (.seq (.seq (.reg [⟨.mv (.t 4), (some 14), none⟩,
    ⟨.bin false .gtr (.t 14) (.c (.int .i64 0)), (some 15), none⟩])
  (.cond (.t 15)
    .skip
    (.exit 0)))
  (.seq (.block 1
  (.regD [⟨.fad 2 (.t 3), (some 18), none⟩,
    ⟨.ld none (.t 18), (some 19), none⟩,
    ⟨.mv (.t 0), (some 20), none⟩,
    ⟨.fad 0 (.t 3), (some 21), none⟩,
    ⟨.ld none (.t 21), (some 22), none⟩,
    ⟨.call (.f 11) [(.t 20), (.t 22)] [1000] [], (some 23), none⟩,
    ⟨.mv (.t 0), (some 24), none⟩,
    ⟨.fad 1 (.t 3), (some 25), none⟩,
    ⟨.ld none (.t 25), (some 26), none⟩,
    ⟨.call (.f 11) [(.t 24), (.t 26)] [1000] [], (some 27), none⟩,
    ⟨.mv (.t 0), (some 28), none⟩,
    ⟨.call (.f 12) [(.t 28), (.c (.int .i64 1)), (.c (.int .i64 3))] [1000] [], (some 29), none⟩,
    ⟨.build [(.int .i64 0), (.int .i64 0), (.int .i64 0)] [(0, 1, (.t 23)), (1, 1, (.t 27)), (2, 1, (.t 29))], (some 30), none⟩,
    ⟨.bslice 3 [(.t 30)], (some 31), none⟩,
    ⟨.app 3 24 (.t 19) (.t 31), (some 32), none⟩,
    ⟨.fad 2 (.t 3), (some 33), none⟩,
    ⟨.st 1 (.t 33) (.t 32), none, none⟩]
    [[], [0], [], [], [3], [2, 4], [], [], [7], [6, 8, 5], [], [10, 9], [5, 9, 11], [12], [1, 13, 11], [0, 1, 2, 3, 4, 5, 6, 7, 8, 9, 10, 11, 12, 13, 14], [15, 14, 14, 0, 1, 2, 3, 4, 5, 6, 7, 8, 9, 10, 11, 12, 13, 14]]
    [[], [0], [], [], [3], [2, 3, 4], [], [], [7], [2, 3, 4, 5, 6, 7, 8], [], [2, 3, 4, 5, 6, 7, 8, 9, 10], [2, 3, 4, 5, 6, 7, 8, 9, 10, 11], [2, 3, 4, 5, 6, 7, 8, 9, 10, 11, 12], [0, 1, 2, 3, 4, 5, 6, 7, 8, 9, 10, 11, 12, 13], [0, 1, 2, 3, 4, 5, 6, 7, 8, 9, 10, 11, 12, 13, 14], [0, 1, 2, 3, 4, 5, 6, 7, 8, 9, 10, 11, 12, 13, 14, 15]]))
  (.note (.gc [0, 2, 3, 4]) (.reg [⟨.mv (.t 4), (some 16), none⟩,
    ⟨.bin true .sub (.t 16) (.c (.int .i64 1)), (some 17), none⟩,
    ⟨.mv (.t 17), (some 4), none⟩]))))
@[irreducible] def mc_made_Rights_L2 : MC :=
  (.seq (.seq (.reg [⟨.mv (.t 5), (some 36), none⟩,
    ⟨.bin false .gtr (.t 36) (.c (.int .i64 0)), (some 37), none⟩])
  (.cond (.t 37)
    .skip
    (.exit 2)))
  (.seq (.block 3
  (.regD [⟨.fad 3 (.t 3), (some 40), none⟩,
    ⟨.ld none (.t 40), (some 41), none⟩,
    ⟨.mv (.t 0), (some 42), none⟩,
    ⟨.fad 1 (.t 3), (some 43), none⟩,
    ⟨.ld none (.t 43), (some 44), none⟩,
    ⟨.call (.f 11) [(.t 42), (.t 44)] [1000] [], (some 45), none⟩,
    ⟨.mv (.t 0), (some 46), none⟩,
    ⟨.fad 0 (.t 3), (some 47), none⟩,
    ⟨.ld none (.t 47), (some 48), none⟩,
    ⟨.call (.f 11) [(.t 46), (.t 48)] [1000] [], (some 49), none⟩,
    ⟨.build [(.int .i64 0), (.int .i64 0)] [(0, 1, (.t 45)), (1, 1, (.t 49))], (some 50), none⟩,
    ⟨.bslice 2 [(.t 50)], (some 51), none⟩,
    ⟨.app 2 16 (.t 41) (.t 51), (some 52), none⟩,
    ⟨.fad 3 (.t 3), (some 53), none⟩,
    ⟨.st 1 (.t 53) (.t 52), none, none⟩]
    [[], [0], [], [], [3], [2, 4], [], [], [7], [6, 8, 5], [5, 9], [10], [1, 11, 9], [0, 1, 2, 3, 4, 5, 6, 7, 8, 9, 10, 11, 12], [13, 12, 12, 0, 1, 2, 3, 4, 5, 6, 7, 8, 9, 10, 11, 12]]
    [[], [0], [], [], [3], [2, 3, 4], [], [], [7], [2, 3, 4, 5, 6, 7, 8], [2, 3, 4, 5, 6, 7, 8, 9], [2, 3, 4, 5, 6, 7, 8, 9, 10], [0, 1, 2, 3, 4, 5, 6, 7, 8, 9, 10, 11], [0, 1, 2, 3, 4, 5, 6, 7, 8, 9, 10, 11, 12], [0, 1, 2, 3, 4, 5, 6, 7, 8, 9, 10, 11, 12, 13]]))
  (.note (.gc [0, 2, 3, 5]) (.reg [⟨.mv (.t 5), (some 38), none⟩,
    ⟨.bin true .sub (.t 38) (.c (.int .i64 1)), (some 39), none⟩,
    ⟨.mv (.t 39), (some 5), none⟩]))))
@[irreducible] def mc_made_Rights_L3 : MC :=
  (.seq (.seq (.reg [⟨.mv (.t 6), (some 56), none⟩,
    ⟨.bin false .gtr (.t 56) (.c (.int .i64 0)), (some 57), none⟩])
  (.cond (.t 57)
    .skip
    (.exit 4)))
  (.seq (.block 5
  (.regD [⟨.fad 4 (.t 3), (some 60), none⟩,
    ⟨.ld none (.t 60), (some 61), none⟩,
    ⟨.mv (.t 0), (some 62), none⟩,
    ⟨.fad 0 (.t 3), (some 63), none⟩,
    ⟨.ld none (.t 63), (some 64), none⟩,
    ⟨.call (.f 11) [(.t 62), (.t 64)] [1000] [], (some 65), none⟩,
    ⟨.mv (.t 0), (some 66), none⟩,
    ⟨.fad 0 (.t 3), (some 67), none⟩,
    ⟨.ld none (.t 67), (some 68), none⟩,
    ⟨.call (.f 11) [(.t 66), (.t 68)] [1000] [], (some 69), none⟩,
    ⟨.build [(.int .i64 0), (.int .i64 0)] [(0, 1, (.t 65)), (1, 1, (.t 69))], (some 70), none⟩,
    ⟨.bslice 2 [(.t 70)], (some 71), none⟩,
    ⟨.app 2 16 (.t 61) (.t 71), (some 72), none⟩,
    ⟨.fad 4 (.t 3), (some 73), none⟩,
    ⟨.st 1 (.t 73) (.t 72), none, none⟩]
    [[], [0], [], [], [3], [2, 4], [], [], [7], [6, 8, 5], [5, 9], [10], [1, 11, 9], [0, 1, 2, 3, 4, 5, 6, 7, 8, 9, 10, 11, 12], [13, 12, 12, 0, 1, 2, 3, 4, 5, 6, 7, 8, 9, 10, 11, 12]]
    [[], [0], [], [], [3], [2, 3, 4], [], [], [7], [2, 3, 4, 5, 6, 7, 8], [2, 3, 4, 5, 6, 7, 8, 9], [2, 3, 4, 5, 6, 7, 8, 9, 10], [0, 1, 2, 3, 4, 5, 6, 7, 8, 9, 10, 11], [0, 1, 2, 3, 4, 5, 6, 7, 8, 9, 10, 11, 12], [0, 1, 2, 3, 4, 5, 6, 7, 8, 9, 10, 11, 12, 13]]))
  (.note (.gc [0, 2, 3, 6]) (.reg [⟨.mv (.t 6), (some 58), none⟩,
    ⟨.bin true .sub (.t 58) (.c (.int .i64 1)), (some 59), none⟩,
    ⟨.mv (.t 59), (some 6), none⟩]))))
def mc_made_Rights : MC :=
  (.seq (.reg [⟨.alloc [(.int .i64 0), (.int .i64 0), (.sl []), (.sl []), (.sl [])], (some 2), none⟩])
  (.seq (.reg [⟨.mv (.t 0), (some 7), none⟩,
    ⟨.call (.f 12) [(.t 7), (.c (.int .i64 1)), (.c (.int .i64 6))] [1000] [], (some 8), none⟩,
    ⟨.mv (.t 0), (some 9), none⟩,
    ⟨.call (.f 12) [(.t 9), (.c (.int .i64 1)), (.c (.int .i64 5))] [1000] [], (some 10), none⟩,
    ⟨.build [(.int .i64 0), (.int .i64 0), .nils, .nils, .nils] [(0, 1, (.t 8)), (1, 1, (.t 10))], (some 11), none⟩,
    ⟨.alloc [(.int .i64 0), (.int .i64 0), (.sl []), (.sl []), (.sl [])], (some 3), none⟩,
    ⟨.st 5 (.t 3) (.t 11), none, none⟩])
  (.seq (.seq (.reg [⟨.mv (.t 0), (some 12), none⟩,
    ⟨.call (.f 11) [(.t 12), (.c (.int .i64 8))] [1000] [], (some 13), none⟩,
    ⟨.mv (.t 13), (some 4), none⟩])
  (.block 0
  (.loop mc_made_Rights_L1)))
  (.seq (.seq (.reg [⟨.mv (.t 0), (some 34), none⟩,
    ⟨.call (.f 11) [(.t 34), (.c (.int .i64 5))] [1000] [], (some 35), none⟩,
    ⟨.mv (.t 35), (some 5), none⟩])
  (.block 2
  (.loop mc_made_Rights_L2)))
  (.seq (.seq (.reg [⟨.mv (.t 0), (some 54), none⟩,
    ⟨.call (.f 11) [(.t 54), (.c (.int .i64 4))] [1000] [], (some 55), none⟩,
    ⟨.mv (.t 55), (some 6), none⟩])
  (.block 4
  (.loop mc_made_Rights_L3)))
  (.seq (.reg [⟨.ld (some 5) (.t 3), (some 74), none⟩,
    ⟨.st 5 (.t 2) (.t 74), none, none⟩])
  .ret))))))
theorem ok_made_Rights : mc_made_Rights.ok Tryd.prog Tryd.f9.ntmps (Tryd.f9.body.getD .skip) = true := by kernel_rfl

set_option maxHeartbeats 2000000 in
theorem Wq_made_Rights (t_ : GTape) {Q : GRights × GTape → Prop} {Q' : V → Heap → Prop} (h : Ok (F_made_Rights t_) Q) (hQ : ∀ z, Q z → Q' (GRights.v z.1) [(1000, .cells [.sl (z.2.L.map (V.int .i64)), .int .i64 z.2.at_])]) : ACall Tryd.prog 9 [.ptr 1000 0] [(1000, .cells [.sl (t_.L.map (V.int .i64)), .int .i64 t_.at_])] Q' := by
  refine acall_machN [.fzc 2] [1000] [.c 2 (some 5)] Tryd.func9 rfl (by kernel_rfl) ok_made_Rights (by kernel_rfl) rfl rfl fun M hf => ?_
  clear hf
  unfold F_made_Rights at h
  unfold mc_made_Rights
  (try replace h := tH h)
  refine tB ?_
  repeat' (first
    | (exact hQ _ h)
    | (exact trivial)
    | (exact False.elim h)
    | (have hq := hQ _ h; replace hq := tH hq; exact hq)
    | (refine oblg h ?_; clear h; intro hc h)
    | (refine roomG h ?_; clear h; intro hc h)
    | (refine fork h ?_ ?_ <;> clear h <;> intro hc h)
    | (refine forkS h ?_ ?_ <;> clear h <;> intro hc h)
    | (refine And.intro (chkD_of rfl) ?_)
    | (obtain ⟨y, hy, h⟩ := h; have hw := W_made_Tape_Between hy; (try replace hw := tH hw); (first | (refine sCall_of hw rfl rfl ?_; rw [M.lok_eq]) | (refine sCallD_of hw rfl rfl ?_; rw [M.lokD_eq])); clear hw; clear hy; refine tB ?_)
    | (obtain ⟨y, hy, h⟩ := h; have hw := W_made_Tape_Next hy; (try replace hw := tH hw); (first | (refine sCall_of hw rfl rfl ?_; rw [M.lok_eq]) | (refine sCallD_of hw rfl rfl ?_; rw [M.lokD_eq])); clear hw; clear hy; refine tB ?_)
    | (refine M.wh1 (b := mc_made_Rights_L1) [0, 2, 3] [3, 2] (fun x => [(4, .int .i64 x.1)]) (fun x => [.p 3 0 [.int .i64 x.2.1], .p 3 1 [.int .i64 x.2.2.1], .p 3 2 [.osl 4050 3 0 x.2.2.2.1.length], .o 4050 (.arr 3 (x.2.2.2.1.map GGrant.v)), .o 1000 (.cells [.sl (x.2.2.2.2.L.map (V.int .i64)), .int .i64 x.2.2.2.2.at_])]) [.gc [0, 2, 3, 4], .ownC 3 2 4050 3 none] h ?_ ?_ <;> first
       | (clear h; intro x Qn K hK1 h; unfold F_made_Rights_L1 at h; unfold mc_made_Rights_L1; (try replace h := tH h); refine tB ?_)
       | (clear h; (try refine tB ?_); exact tU0; done)
       | fail)
    | (refine M.wh1 (b := mc_made_Rights_L2) [0, 2, 3] [3, 4050, 2] (fun x => [(5, .int .i64 x.1)]) (fun x => [.p 3 0 [.int .i64 x.2.1], .p 3 1 [.int .i64 x.2.2.1], .p 3 3 [.osl 4051 2 0 x.2.2.2.1.length], .o 4051 (.arr 2 (x.2.2.2.1.map GStore.v)), .o 1000 (.cells [.sl (x.2.2.2.2.L.map (V.int .i64)), .int .i64 x.2.2.2.2.at_])]) [.gc [0, 2, 3, 5], .ownC 3 3 4051 2 none] h ?_ ?_ <;> first
       | (clear h; intro x Qn K hK2 h; unfold F_made_Rights_L2 at h; unfold mc_made_Rights_L2; (try replace h := tH h); refine tB ?_)
       | (clear h; (try refine tB ?_); exact tU0; done)
       | fail)
    | (refine M.wh1 (b := mc_made_Rights_L3) [0, 2, 3] [3, 4050, 4051, 2] (fun x => [(6, .int .i64 x.1)]) (fun x => [.p 3 0 [.int .i64 x.2.1], .p 3 1 [.int .i64 x.2.2.1], .p 3 4 [.osl 4052 2 0 x.2.2.2.1.length], .o 4052 (.arr 2 (x.2.2.2.1.map GMint.v)), .o 1000 (.cells [.sl (x.2.2.2.2.L.map (V.int .i64)), .int .i64 x.2.2.2.2.at_])]) [.gc [0, 2, 3, 6], .ownC 3 4 4052 2 none] h ?_ ?_ <;> first
       | (clear h; intro x Qn K hK3 h; unfold F_made_Rights_L3 at h; unfold mc_made_Rights_L3; (try replace h := tH h); refine tB ?_)
       | (clear h; (try refine tB ?_); exact tU0; done)
       | fail)
    | (refine hK1 _ ?_; (try refine tB ?_); refine ⟨_, h, ?_⟩; exact tU0; done)
    | (refine hK2 _ ?_; (try refine tB ?_); refine ⟨_, h, ?_⟩; exact tU0; done)
    | (refine hK3 _ ?_; (try refine tB ?_); refine ⟨_, h, ?_⟩; exact tU0; done)
    | (refine ⟨_, getE_map (inb_toNat (by assumption)), ?_⟩; (first | rw [M.lok_compU] | rw [M.lokD_compU]); refine tB ?_)
    | (refine And.intro (ltb_of (by assumption)) ?_)
    | (refine And.intro (by omega) ?_)
    | fail)
theorem W_made_Rights : ∀ {t_ : GTape} {y : GRights × GTape}, F_made_Rights t_ = some y → ACall Tryd.prog 9 [.ptr 1000 0] [(1000, .cells [.sl (t_.L.map (V.int .i64)), .int .i64 t_.at_])] (fun r H => r = GRights.v y.1 ∧ H = [(1000, .cells [.sl (y.2.L.map (V.int .i64)), .int .i64 y.2.at_])]) :=
  fun hy => Wq_made_Rights _ (Q := fun z => z = _) ⟨_, hy, rfl⟩ fun z e => by subst e; exact ⟨rfl, rfl⟩

def F_made_Pick (t_ : GTape) (l_ : List Int) : Option (Int × GTape) :=
  (F_made_Tape_Next t_ (l_.length : Int)).bind fun y2 => chk (inb y2.1 l_.length) (some ((l_.getD (y2.1).toNat default), y2.2))

/- leakresponse/leakresponsemake.Pick -/
def mc_made_Pick : MC :=
  (.seq (.reg [⟨.mv (.c (.int .i64 0)), (some 4), none⟩])
  (.seq (.reg [⟨.mv (.t 1), (some 5), none⟩,
    ⟨.mv (.t 0), (some 6), none⟩,
    ⟨.mv (.t 1), (some 7), none⟩,
    ⟨.len false (.t 7), (some 8), none⟩,
    ⟨.call (.f 11) [(.t 6), (.t 8)] [1000] [], (some 9), none⟩,
    ⟨.iad 1 (.t 5) (.t 9), (some 10), none⟩,
    ⟨.ld none (.t 10), (some 11), none⟩,
    ⟨.mv (.t 11), (some 4), none⟩])
  .ret))
theorem ok_made_Pick : mc_made_Pick.ok Tryd.prog Tryd.f23.ntmps (Tryd.f23.body.getD .skip) = true := by kernel_rfl

set_option maxHeartbeats 2000000 in
theorem Wq_made_Pick (t_ : GTape) (l_ : List Int) {Q : Int × GTape → Prop} {Q' : V → Heap → Prop} (h : Ok (F_made_Pick t_ l_) Q) (hQ : ∀ z, Q z → Q' (.int .i64 z.1) [(1000, .cells [.sl (z.2.L.map (V.int .i64)), .int .i64 z.2.at_])]) : ACall Tryd.prog 23 [.ptr 1000 0, .sl (l_.map (V.int .i64))] [(1000, .cells [.sl (t_.L.map (V.int .i64)), .int .i64 t_.at_])] Q' := by
  refine acall_machN [] [1000] [.t 4] Tryd.func23 rfl (by kernel_rfl) ok_made_Pick (by kernel_rfl) rfl rfl fun M hf => ?_
  clear hf
  unfold F_made_Pick at h
  unfold mc_made_Pick
  (try replace h := tH h)
  refine tB ?_
  repeat' (first
    | (exact hQ _ h)
    | (exact trivial)
    | (exact False.elim h)
    | (have hq := hQ _ h; replace hq := tH hq; exact hq)
    | (refine oblg h ?_; clear h; intro hc h)
    | (refine roomG h ?_; clear h; intro hc h)
    | (refine fork h ?_ ?_ <;> clear h <;> intro hc h)
    | (refine forkS h ?_ ?_ <;> clear h <;> intro hc h)
    | (refine And.intro (chkD_of rfl) ?_)
    | (obtain ⟨y, hy, h⟩ := h; have hw := W_made_Tape_Next hy; (try replace hw := tH hw); (first | (refine sCall_of hw rfl rfl ?_; rw [M.lok_eq]) | (refine sCallD_of hw rfl rfl ?_; rw [M.lokD_eq])); clear hw; clear hy; refine tB ?_)
    | (refine ⟨_, getE_map (inb_toNat (by assumption)), ?_⟩; (first | rw [M.lok_compU] | rw [M.lokD_compU]); refine tB ?_)
    | (refine And.intro (ltb_of (by assumption)) ?_)
    | (refine And.intro (by omega) ?_)
    | fail)
theorem W_made_Pick : ∀ {t_ : GTape} {l_ : List Int} {y : Int × GTape}, F_made_Pick t_ l_ = some y → ACall Tryd.prog 23 [.ptr 1000 0, .sl (l_.map (V.int .i64))] [(1000, .cells [.sl (t_.L.map (V.int .i64)), .int .i64 t_.at_])] (fun r H => r = .int .i64 y.1 ∧ H = [(1000, .cells [.sl (y.2.L.map (V.int .i64)), .int .i64 y.2.at_])]) :=
  fun hy => Wq_made_Pick _ _ (Q := fun z => z = _) ⟨_, hy, rfl⟩ fun z e => by subst e; exact ⟨rfl, rfl⟩

noncomputable def F_made_Worths_L1 (n_ : Int) (x19 : Int × (List Int) × GTape) : Option (Fl (Int × (List Int) × GTape) ((List Int) × GTape)) :=
  bif decide (x19.1 < n_) then (F_made_Pick x19.2.2 [0, 1, 10, 50, 100]).bind fun y23 => chk (room (x19.2.1.length + [y23.1].length) 8) (chk (in64 (x19.1 + 1)) (some (.nx ((x19.1 + 1), (x19.2.1 ++ [y23.1]), y23.2)))) else some (.ex (x19.2.1, x19.2.2))
noncomputable def F_made_Worths (t_ : GTape) (n_ : Int) : Option ((List Int) × GTape) :=
  (loop (F_made_Worths_L1 n_) (0, [], t_)).bind fun r24 => some (r24.1, r24.2)

/- leakresponse/leakresponsemake.Worths -/
@[irreducible] def mc_made_Worths_L1 : MC :=
  (.seq (.seq (.reg [⟨.mv (.t 6), (some 7), none⟩,
    ⟨.mv (.t 1), (some 8), none⟩,
    ⟨.bin false .lss (.t 7) (.t 8), (some 9), none⟩])
  (.cond (.t 9)
    .skip
    (.exit 0)))
  (.seq (.block 1
  (.reg [⟨.mv (.t 5), (some 12), none⟩,
    ⟨.mv (.t 0), (some 13), none⟩,
    ⟨.lsl 1 [(.c (.int .i64 0)), (.c (.int .i64 1)), (.c (.int .i64 10)), (.c (.int .i64 50)), (.c (.int .i64 100))], (some 14), none⟩,
    ⟨.call (.f 23) [(.t 13), (.t 14)] [1000] [], (some 15), none⟩,
    ⟨.bslice 1 [(.t 15)], (some 16), none⟩,
    ⟨.app 1 8 (.t 12) (.t 16), (some 17), none⟩,
    ⟨.mv (.t 17), (some 5), none⟩]))
  (.note (.gc [0, 1, 5, 6]) (.reg [⟨.mv (.t 6), (some 10), none⟩,
    ⟨.bin true .add (.t 10) (.c (.int .i64 1)), (some 11), none⟩,
    ⟨.mv (.t 11), (some 6), none⟩]))))
def mc_made_Worths : MC :=
  (.seq (.reg [⟨.mv (.c (.sl [])), (some 4), none⟩])
  (.seq (.reg [⟨.mv (.c .nils), (some 5), none⟩])
  (.seq (.seq (.reg [⟨.mv (.c (.int .i64 0)), (some 6), none⟩])
  (.block 0
  (.loop mc_made_Worths_L1)))
  (.seq (.reg [⟨.mv (.t 5), (some 18), none⟩,
    ⟨.mv (.t 18), (some 4), none⟩])
  .ret))))
theorem ok_made_Worths : mc_made_Worths.ok Tryd.prog Tryd.f10.ntmps (Tryd.f10.body.getD .skip) = true := by kernel_rfl

set_option maxHeartbeats 2000000 in
theorem Wq_made_Worths (t_ : GTape) (n_ : Int) {Q : (List Int) × GTape → Prop} {Q' : V → Heap → Prop} (h : Ok (F_made_Worths t_ n_) Q) (hQ : ∀ z, Q z → Q' (.sl (z.1.map (V.int .i64))) [(1000, .cells [.sl (z.2.L.map (V.int .i64)), .int .i64 z.2.at_])]) : ACall Tryd.prog 10 [.ptr 1000 0, .int .i64 n_] [(1000, .cells [.sl (t_.L.map (V.int .i64)), .int .i64 t_.at_])] Q' := by
  refine acall_machN [.fz 4] [1000] [.t 4] Tryd.func10 rfl (by kernel_rfl) ok_made_Worths (by kernel_rfl) rfl rfl fun M hf => ?_
  clear hf
  unfold F_made_Worths at h
  unfold mc_made_Worths
  (try replace h := tH h)
  refine tB ?_
  repeat' (first
    | (exact hQ _ h)
    | (exact trivial)
    | (exact False.elim h)
    | (have hq := hQ _ h; replace hq := tH hq; exact hq)
    | (refine oblg h ?_; clear h; intro hc h)
    | (refine roomG h ?_; clear h; intro hc h)
    | (refine fork h ?_ ?_ <;> clear h <;> intro hc h)
    | (refine forkS h ?_ ?_ <;> clear h <;> intro hc h)
    | (refine And.intro (chkD_of rfl) ?_)
    | (obtain ⟨y, hy, h⟩ := h; have hw := W_made_Pick hy; (try replace hw := tH hw); (first | (refine sCall_of hw rfl rfl ?_; rw [M.lok_eq]) | (refine sCallD_of hw rfl rfl ?_; rw [M.lokD_eq])); clear hw; clear hy; refine tB ?_)
    | (refine M.wh1 (b := mc_made_Worths_L1) [0, 1] [] (fun x => [(5, .osl 2005 1 0 x.2.1.length), (6, .int .i64 x.1)]) (fun x => [.o 2005 (.arr 1 (x.2.1.map (V.int .i64))), .o 1000 (.cells [.sl (x.2.2.L.map (V.int .i64)), .int .i64 x.2.2.at_])]) [.gc [0, 1, 5, 6], .acc 5 2005 1] h ?_ ?_ <;> first
       | (clear h; intro x Qn K hK1 h; unfold F_made_Worths_L1 at h; unfold mc_made_Worths_L1; (try replace h := tH h); refine tB ?_)
       | (clear h; (try refine tB ?_); exact tU0; done)
       | fail)
    | (refine hK1 _ ?_; (try refine tB ?_); refine ⟨_, h, ?_⟩; exact tU0; done)
    | (refine ⟨_, getE_map (inb_toNat (by assumption)), ?_⟩; (first | rw [M.lok_compU] | rw [M.lokD_compU]); refine tB ?_)
    | (refine And.intro (ltb_of (by assumption)) ?_)
    | (refine And.intro (by omega) ?_)
    | fail)
theorem W_made_Worths : ∀ {t_ : GTape} {n_ : Int} {y : (List Int) × GTape}, F_made_Worths t_ n_ = some y → ACall Tryd.prog 10 [.ptr 1000 0, .int .i64 n_] [(1000, .cells [.sl (t_.L.map (V.int .i64)), .int .i64 t_.at_])] (fun r H => r = .sl (y.1.map (V.int .i64)) ∧ H = [(1000, .cells [.sl (y.2.L.map (V.int .i64)), .int .i64 y.2.at_])]) :=
  fun hy => Wq_made_Worths _ _ (Q := fun z => z = _) ⟨_, hy, rfl⟩ fun z e => by subst e; exact ⟨rfl, rfl⟩

noncomputable def F_law31_SeverityGrows_L1 (y6 : GRights × GTape) (y8 : (List Int) × GTape) (y11 : Int × GTape) (y12 : Int × GTape) (y24 : GSeverity × Int) (x213 : (List Int) × Int × GRights × GTape) : Option (Fl ((List Int) × Int × GRights × GTape) (Sum Unit Bool)) :=
  bif decide (x213.2.1 < 4) then jn (α := (List Int) × Int × Bool × GRights × GTape) (bif decide (x213.2.1 = 0) then some (y8.1, y12.1, false, x213.2.2.1, x213.2.2.2) else bif decide (x213.2.1 = 1) then some (x213.1, y12.1, false, y6.1, x213.2.2.2) else bif decide (x213.2.1 = 2) then (F_made_Tape_Next x213.2.2.2 4).bind fun y261 => chk (in64 (y12.1 + y261.1)) (some (y8.1, (y12.1 + y261.1), false, y6.1, y261.2)) else some (y8.1, y12.1, true, y6.1, x213.2.2.2)) fun j260 => (F_severity_Rate j260.2.2.2.1 j260.1 y11.1 j260.2.1 j260.2.2.1).bind fun y263 => grp (((!decide (y24.2 = 0)) || (!decide (y263.2 = 0)))) fun b269 => grp ((b269 || decide (y263.1.Score < y24.1.Score))) fun b270 => grp ((b270 || decide (y263.1.Level < y24.1.Level))) fun b271 => grp ((b271 || decide (y263.1.Worth < y24.1.Worth))) fun b272 => grp ((b272 || decide (y263.1.Audience < y24.1.Audience))) fun b273 => bif b273 then some (.ex (.inr false)) else chk (in64 (x213.2.1 + 1)) (some (.nx (x213.1, (x213.2.1 + 1), x213.2.2.1, j260.2.2.2.2))) else some (.ex (.inl ()))
noncomputable def F_law31_SeverityGrows (l_ : List Int) : Option Bool :=
  bif decide (300 < (l_.length : Int)) then F_law31_awake.bind fun y4 => some y4 else (F_made_Rights (GTape.mk l_ 0)).bind fun y6 => (F_made_Worths y6.2 y6.1.Resources).bind fun y8 => (F_made_Tape_Next y8.2 y6.1.Credentials).bind fun y11 => (F_made_Tape_Next y11.2 20).bind fun y12 => chk (room y6.1.Grants.length 24) ((F_made_Tape_Next y12.2 y6.1.Credentials).bind fun y16 => (F_made_Tape_Next y16.2 y6.1.Resources).bind fun y17 => (F_made_Tape_Between y17.2 1 3).bind fun y18 => chk (room (y6.1.Grants.length + [(GGrant.mk y16.1 y17.1 y18.1)].length) 24) (chk (room y8.1.length 8) ((F_made_Tape_Next y18.2 (y8.1.length : Int)).bind fun y20 => chk (inb y20.1 y8.1.length) ((F_made_Tape_Next y20.2 60).bind fun y22 => chk (in64 (y8.1.getD ((y20.1).toNat) default + y22.1)) (chk (inb y20.1 y8.1.length) ((F_severity_Rate y6.1 y8.1 y11.1 y12.1 false).bind fun y24 => (loop (F_law31_SeverityGrows_L1 y6 y8 y11 y12 y24) (y8.1.set ((y20.1).toNat) (min 100 (y8.1.getD ((y20.1).toNat) default + y22.1)), 0, (GRights.mk y6.1.Credentials y6.1.Resources (y6.1.Grants ++ [(GGrant.mk y16.1 y17.1 y18.1)]) y6.1.Stores y6.1.Mints), y22.2)).bind fun r274 => Sum.elim (fun u275 => F_law31_awake.bind fun y278 => some y278) (fun u276 => some u276) r274))))))

/- leakresponse/leakresponselaw31.SeverityGrows -/
@[irreducible] def mg_law31_SeverityGrows_1 : List MOp := [⟨.mv (.t 19), (some 114), (some (113, false))⟩,
    ⟨.bin false .neq (.t 114) (.c (.int .i64 0)), (some 115), (some (113, false))⟩,
    ⟨.pick (.t 113) (.c (.bool true)) (.t 115), (some 116), none⟩]
@[irreducible] def mg_law31_SeverityGrows_2 : List MOp := [⟨.fad 3 (.t 18), (some 118), (some (117, false))⟩,
    ⟨.ld none (.t 118), (some 119), (some (117, false))⟩,
    ⟨.fad 3 (.t 11), (some 120), (some (117, false))⟩,
    ⟨.ld none (.t 120), (some 121), (some (117, false))⟩,
    ⟨.bin false .lss (.t 119) (.t 121), (some 122), (some (117, false))⟩,
    ⟨.pick (.t 117) (.c (.bool true)) (.t 122), (some 123), none⟩]
@[irreducible] def mg_law31_SeverityGrows_3 : List MOp := [⟨.fad 0 (.t 18), (some 125), (some (124, false))⟩,
    ⟨.ld none (.t 125), (some 126), (some (124, false))⟩,
    ⟨.fad 0 (.t 11), (some 127), (some (124, false))⟩,
    ⟨.ld none (.t 127), (some 128), (some (124, false))⟩,
    ⟨.bin false .lss (.t 126) (.t 128), (some 129), (some (124, false))⟩,
    ⟨.pick (.t 124) (.c (.bool true)) (.t 129), (some 130), none⟩]
@[irreducible] def mg_law31_SeverityGrows_4 : List MOp := [⟨.fad 1 (.t 18), (some 132), (some (131, false))⟩,
    ⟨.ld none (.t 132), (some 133), (some (131, false))⟩,
    ⟨.fad 1 (.t 11), (some 134), (some (131, false))⟩,
    ⟨.ld none (.t 134), (some 135), (some (131, false))⟩,
    ⟨.bin false .lss (.t 133) (.t 135), (some 136), (some (131, false))⟩,
    ⟨.pick (.t 131) (.c (.bool true)) (.t 136), (some 137), none⟩]
@[irreducible] def mg_law31_SeverityGrows_5 : List MOp := [⟨.fad 2 (.t 18), (some 139), (some (138, false))⟩,
    ⟨.ld none (.t 139), (some 140), (some (138, false))⟩,
    ⟨.fad 2 (.t 11), (some 141), (some (138, false))⟩,
    ⟨.ld none (.t 141), (some 142), (some (138, false))⟩,
    ⟨.bin false .lss (.t 140) (.t 142), (some 143), (some (138, false))⟩,
    ⟨.pick (.t 138) (.c (.bool true)) (.t 143), (some 144), none⟩]
@[irreducible] def mc_law31_SeverityGrows_J1 : MC :=
  (.seq (.reg [⟨.ld (some 5) (.t 14), (some 103), none⟩,
    ⟨.mv (.t 15), (some 104), none⟩,
    ⟨.mv (.t 6), (some 105), none⟩,
    ⟨.mv (.t 16), (some 106), none⟩,
    ⟨.mv (.t 17), (some 107), none⟩,
    ⟨.call (.f 13) [(.t 103), (.t 104), (.t 105), (.t 106), (.t 107)] [] [], (some 108), none⟩,
    ⟨.mv (.t 108), (some 102), none⟩,
    ⟨.ext 0 (.t 102), (some 109), none⟩,
    ⟨.ext 1 (.t 102), (some 110), none⟩,
    ⟨.alloc [(.int .i64 0), (.int .i64 0), (.int .i64 0), (.int .i64 0)], (some 18), none⟩,
    ⟨.st 4 (.t 18) (.t 109), none, none⟩,
    ⟨.mv (.t 110), (some 19), none⟩])
  (.seq (.note (.gc [3, 4, 5, 6, 7, 8, 9, 11, 12, 13, 18, 19, 114, 115, 118, 119, 120, 121, 122, 125, 126, 127, 128, 129, 132, 133, 134, 135, 136, 139, 140, 141, 142, 143]) (.regI [.op ⟨.mv (.t 12), (some 111), none⟩,
    .op ⟨.bin false .neq (.t 111) (.c (.int .i64 0)), (some 112), none⟩,
    .op ⟨.mv (.t 112), (some 113), none⟩,
    .grp mg_law31_SeverityGrows_1,
    .op ⟨.mv (.t 116), (some 117), none⟩,
    .grp mg_law31_SeverityGrows_2,
    .op ⟨.mv (.t 123), (some 124), none⟩,
    .grp mg_law31_SeverityGrows_3,
    .op ⟨.mv (.t 130), (some 131), none⟩,
    .grp mg_law31_SeverityGrows_4,
    .op ⟨.mv (.t 137), (some 138), none⟩,
    .grp mg_law31_SeverityGrows_5]))
  (.cond (.t 144)
    (.seq (.reg [⟨.mv (.c (.bool false)), (some 2), none⟩])
    .ret)
    .skip)))
@[irreducible] def mc_law31_SeverityGrows_L1 : MC :=
  (.seq (.seq (.reg [⟨.mv (.t 13), (some 82), none⟩,
    ⟨.bin false .lss (.t 82) (.c (.int .i64 4)), (some 83), none⟩])
  (.cond (.t 83)
    .skip
    (.exit 0)))
  (.seq (.block 1
  (.seq (.reg [⟨.ld (some 5) (.t 4), (some 86), none⟩,
    ⟨.mv (.t 5), (some 87), none⟩,
    ⟨.mv (.t 7), (some 88), none⟩,
    ⟨.alloc [(.int .i64 0), (.int .i64 0), (.sl []), (.sl []), (.sl [])], (some 14), none⟩,
    ⟨.st 5 (.t 14) (.t 86), none, none⟩,
    ⟨.mv (.t 87), (some 15), none⟩,
    ⟨.mv (.t 88), (some 16), none⟩,
    ⟨.mv (.c (.bool false)), (some 17), none⟩])
  (.cut (.seq (.reg [⟨.mv (.t 13), (some 89), none⟩])
  (.block 2
  (.seq (.reg [⟨.bin false .eql (.t 89) (.c (.int .i64 0)), (some 91), none⟩,
    ⟨.mv (.t 91), (some 90), none⟩])
  (.cond (.t 90)
    (.reg [⟨.ld (some 5) (.t 8), (some 92), none⟩,
      ⟨.st 5 (.t 14) (.t 92), none, none⟩])
    (.seq (.reg [⟨.bin false .eql (.t 89) (.c (.int .i64 1)), (some 94), none⟩,
      ⟨.mv (.t 94), (some 93), none⟩])
    (.cond (.t 93)
      (.reg [⟨.mv (.t 9), (some 95), none⟩,
        ⟨.mv (.t 95), (some 15), none⟩])
      (.seq (.reg [⟨.bin false .eql (.t 89) (.c (.int .i64 2)), (some 97), none⟩,
        ⟨.mv (.t 97), (some 96), none⟩])
      (.cond (.t 96)
        (.note (.gc [3, 4, 5, 6, 7, 8, 9, 11, 12, 13, 14, 15, 17, 114, 115, 118, 119, 120, 121, 122, 125, 126, 127, 128, 129, 132, 133, 134, 135, 136, 139, 140, 141, 142, 143]) (.reg [⟨.mv (.t 7), (some 98), none⟩,
          ⟨.mv (.t 3), (some 99), none⟩,
          ⟨.call (.f 11) [(.t 99), (.c (.int .i64 4))] [26] [], (some 100), none⟩,
          ⟨.bin true .add (.t 98) (.t 100), (some 101), none⟩,
          ⟨.mv (.t 101), (some 16), none⟩]))
        (.reg [⟨.mv (.c (.bool true)), (some 17), none⟩])))))))))
  mc_law31_SeverityGrows_J1)))
  (.note (.gc [3, 4, 5, 6, 7, 8, 9, 11, 12, 13, 114, 115, 118, 119, 120, 121, 122, 125, 126, 127, 128, 129, 132, 133, 134, 135, 136, 139, 140, 141, 142, 143]) (.reg [⟨.mv (.t 13), (some 84), none⟩,
    ⟨.bin true .add (.t 84) (.c (.int .i64 1)), (some 85), none⟩,
    ⟨.mv (.t 85), (some 13), none⟩]))))
def mc_law31_SeverityGrows : MC :=
  (.seq (.reg [⟨.mv (.c (.bool false)), (some 2), none⟩])
  (.seq (.seq (.reg [⟨.mv (.t 0), (some 20), none⟩,
    ⟨.len false (.t 20), (some 21), none⟩,
    ⟨.bin false .gtr (.t 21) (.c (.int .i64 300)), (some 22), none⟩])
  (.cond (.t 22)
    (.seq (.reg [⟨.call (.f 8) [] [] [], (some 23), none⟩,
      ⟨.mv (.t 23), (some 2), none⟩])
    .ret)
    .skip))
  (.seq (.reg [⟨.mv (.t 0), (some 24), none⟩,
    ⟨.build [(.sl []), (.int .i64 0)] [(0, 1, (.t 24))], (some 25), none⟩,
    ⟨.box (.t 25), (some 26), none⟩,
    ⟨.mv (.t 26), (some 3), none⟩])
  (.seq (.note (.gc [3, 114, 115, 118, 119, 120, 121, 122, 125, 126, 127, 128, 129, 132, 133, 134, 135, 136, 139, 140, 141, 142, 143]) (.reg [⟨.mv (.t 3), (some 27), none⟩,
    ⟨.call (.f 9) [(.t 27)] [26] [], (some 28), none⟩,
    ⟨.alloc [(.int .i64 0), (.int .i64 0), (.sl []), (.sl []), (.sl [])], (some 4), none⟩,
    ⟨.st 5 (.t 4) (.t 28), none, none⟩]))
  (.seq (.reg [⟨.mv (.t 3), (some 29), none⟩,
    ⟨.fad 1 (.t 4), (some 30), none⟩,
    ⟨.ld none (.t 30), (some 31), none⟩,
    ⟨.call (.f 10) [(.t 29), (.t 31)] [26] [], (some 32), none⟩,
    ⟨.mv (.t 32), (some 5), none⟩])
  (.seq (.reg [⟨.mv (.t 3), (some 33), none⟩,
    ⟨.fad 0 (.t 4), (some 34), none⟩,
    ⟨.ld none (.t 34), (some 35), none⟩,
    ⟨.call (.f 11) [(.t 33), (.t 35)] [26] [], (some 36), none⟩,
    ⟨.mv (.t 3), (some 37), none⟩,
    ⟨.call (.f 11) [(.t 37), (.c (.int .i64 20))] [26] [], (some 38), none⟩,
    ⟨.mv (.t 36), (some 6), none⟩,
    ⟨.mv (.t 38), (some 7), none⟩])
  (.seq (.note (.gc [3, 4, 5, 6, 7, 114, 115, 118, 119, 120, 121, 122, 125, 126, 127, 128, 129, 132, 133, 134, 135, 136, 139, 140, 141, 142, 143]) (.reg [⟨.ld (some 5) (.t 4), (some 39), none⟩,
    ⟨.alloc [(.int .i64 0), (.int .i64 0), (.sl []), (.sl []), (.sl [])], (some 8), none⟩,
    ⟨.st 5 (.t 8) (.t 39), none, none⟩]))
  (.seq (.regD [⟨.fad 2 (.t 4), (some 40), none⟩,
    ⟨.ld none (.t 40), (some 41), none⟩,
    ⟨.app 3 24 (.c .nils) (.t 41), (some 42), none⟩,
    ⟨.mv (.t 3), (some 43), none⟩,
    ⟨.fad 0 (.t 4), (some 44), none⟩,
    ⟨.ld none (.t 44), (some 45), none⟩,
    ⟨.call (.f 11) [(.t 43), (.t 45)] [26] [], (some 46), none⟩,
    ⟨.mv (.t 3), (some 47), none⟩,
    ⟨.fad 1 (.t 4), (some 48), none⟩,
    ⟨.ld none (.t 48), (some 49), none⟩,
    ⟨.call (.f 11) [(.t 47), (.t 49)] [26] [], (some 50), none⟩,
    ⟨.mv (.t 3), (some 51), none⟩,
    ⟨.call (.f 12) [(.t 51), (.c (.int .i64 1)), (.c (.int .i64 3))] [26] [], (some 52), none⟩,
    ⟨.build [(.int .i64 0), (.int .i64 0), (.int .i64 0)] [(0, 1, (.t 46)), (1, 1, (.t 50)), (2, 1, (.t 52))], (some 53), none⟩,
    ⟨.bslice 3 [(.t 53)], (some 54), none⟩,
    ⟨.app 3 24 (.t 42) (.t 54), (some 55), none⟩,
    ⟨.fad 2 (.t 8), (some 56), none⟩,
    ⟨.st 1 (.t 56) (.t 55), none, none⟩]
    [[], [0], [1], [], [], [4], [3, 5, 2], [], [], [8], [7, 9, 6], [], [11, 10], [6, 10, 12], [13], [2, 14, 12], [0, 1, 2, 3, 4, 5, 6, 7, 8, 9, 10, 11, 12, 13, 14, 15], [16, 15, 15, 0, 1, 2, 3, 4, 5, 6, 7, 8, 9, 10, 11, 12, 13, 14, 15]]
    [[], [0], [0, 1], [], [], [4], [0, 1, 2, 3, 4, 5], [], [], [8], [0, 1, 2, 3, 4, 5, 6, 7, 8, 9], [], [0, 1, 2, 3, 4, 5, 6, 7, 8, 9, 10, 11], [0, 1, 2, 3, 4, 5, 6, 7, 8, 9, 10, 11, 12], [0, 1, 2, 3, 4, 5, 6, 7, 8, 9, 10, 11, 12, 13], [0, 1, 2, 3, 4, 5, 6, 7, 8, 9, 10, 11, 12, 13, 14], [0, 1, 2, 3, 4, 5, 6, 7, 8, 9, 10, 11, 12, 13, 14, 15], [0, 1, 2, 3, 4, 5, 6, 7, 8, 9, 10, 11, 12, 13, 14, 15, 16]])
  (.seq (.note (.gc [3, 4, 5, 6, 7, 8, 114, 115, 118, 119, 120, 121, 122, 125, 126, 127, 128, 129, 132, 133, 134, 135, 136, 139, 140, 141, 142, 143]) (.reg [⟨.mv (.t 5), (some 57), none⟩,
    ⟨.app 1 8 (.c .nils) (.t 57), (some 58), none⟩,
    ⟨.mv (.t 58), (some 9), none⟩]))
  (.seq (.reg [⟨.mv (.t 3), (some 59), none⟩,
    ⟨.mv (.t 5), (some 60), none⟩,
    ⟨.len false (.t 60), (some 61), none⟩,
    ⟨.call (.f 11) [(.t 59), (.t 61)] [26] [], (some 62), none⟩,
    ⟨.mv (.t 62), (some 10), none⟩])
  (.seq (.regD [⟨.mv (.t 9), (some 63), none⟩,
    ⟨.mv (.t 10), (some 64), none⟩,
    ⟨.mv (.t 9), (some 65), none⟩,
    ⟨.mv (.t 10), (some 66), none⟩,
    ⟨.iad 1 (.t 65) (.t 66), (some 67), none⟩,
    ⟨.ld none (.t 67), (some 68), none⟩,
    ⟨.mv (.t 3), (some 69), none⟩,
    ⟨.call (.f 11) [(.t 69), (.c (.int .i64 60))] [26] [], (some 70), none⟩,
    ⟨.bin true .add (.t 68) (.t 70), (some 71), none⟩,
    ⟨.mm false (.c (.int .i64 100)) (.t 71), (some 72), none⟩,
    ⟨.iad 1 (.t 63) (.t 64), (some 73), none⟩,
    ⟨.st 1 (.t 73) (.t 72), none, none⟩]
    [[], [], [], [], [2, 3], [4], [], [6], [5, 7], [8], [0, 1, 0, 1, 2, 3, 4, 5, 6, 7, 8, 9], [10, 9, 7, 0, 1, 2, 3, 4, 5, 6, 7, 8, 9]]
    [[], [], [], [], [2, 3], [2, 3, 4], [], [6], [2, 3, 4, 5, 6, 7], [2, 3, 4, 5, 6, 7, 8], [0, 1, 2, 3, 4, 5, 6, 7, 8, 9], [0, 1, 2, 3, 4, 5, 6, 7, 8, 9, 10]])
  (.seq (.note (.gc [3, 4, 5, 6, 7, 8, 9, 114, 115, 118, 119, 120, 121, 122, 125, 126, 127, 128, 129, 132, 133, 134, 135, 136, 139, 140, 141, 142, 143]) (.reg [⟨.ld (some 5) (.t 4), (some 75), none⟩,
    ⟨.mv (.t 5), (some 76), none⟩,
    ⟨.mv (.t 6), (some 77), none⟩,
    ⟨.mv (.t 7), (some 78), none⟩,
    ⟨.call (.f 13) [(.t 75), (.t 76), (.t 77), (.t 78), (.c (.bool false))] [] [], (some 79), none⟩,
    ⟨.mv (.t 79), (some 74), none⟩,
    ⟨.ext 0 (.t 74), (some 80), none⟩,
    ⟨.ext 1 (.t 74), (some 81), none⟩,
    ⟨.alloc [(.int .i64 0), (.int .i64 0), (.int .i64 0), (.int .i64 0)], (some 11), none⟩,
    ⟨.st 4 (.t 11) (.t 80), none, none⟩,
    ⟨.mv (.t 81), (some 12), none⟩]))
  (.seq (.seq (.reg [⟨.mv (.c (.int .i64 0)), (some 13), none⟩])
  (.block 0
  (.loop mc_law31_SeverityGrows_L1)))
  (.seq (.reg [⟨.call (.f 8) [] [] [], (some 145), none⟩,
    ⟨.mv (.t 145), (some 2), none⟩])
  .ret))))))))))))))
theorem ok_law31_SeverityGrows : mc_law31_SeverityGrows.ok Tryd.prog Tryd.f3.ntmps (Tryd.f3.body.getD .skip) = true := by kernel_rfl

set_option maxHeartbeats 2000000 in
theorem Wq_law31_SeverityGrows (l_ : List Int) {Q : Bool → Prop} {Q' : V → Heap → Prop} (h : Ok (F_law31_SeverityGrows l_) Q) (hQ : ∀ z, Q z → Q' (.bool z) []) : ACall Tryd.prog 3 [.sl (l_.map (V.int .i64))] [] Q' := by
  refine acall_machN [] [] [.t 2] Tryd.func3 rfl (by kernel_rfl) ok_law31_SeverityGrows (by kernel_rfl) rfl rfl fun M hf => ?_
  clear hf
  unfold F_law31_SeverityGrows at h
  unfold mc_law31_SeverityGrows
  (try replace h := tH h)
  refine tB ?_
  repeat' (first
    | (exact hQ _ h)
    | (exact trivial)
    | (exact False.elim h)
    | (have hq := hQ _ h; replace hq := tH hq; exact hq)
    | (refine oblg h ?_; clear h; intro hc h)
    | (refine roomG h ?_; clear h; intro hc h)
    | (refine fork h ?_ ?_ <;> clear h <;> intro hc h)
    | (refine forkS h ?_ ?_ <;> clear h <;> intro hc h)
    | (refine And.intro (chkD_of rfl) ?_)
    | (obtain ⟨y, hy, h⟩ := h; have hw := W_law31_awake hy; (try replace hw := tH hw); (first | (refine sCall_of hw rfl rfl ?_; rw [M.lok_eq]) | (refine sCallD_of hw rfl rfl ?_; rw [M.lokD_eq])); clear hw; clear hy; refine tB ?_)
    | (obtain ⟨y, hy, h⟩ := h; have hw := acall_swe 1000 26 (W_made_Rights hy); (try replace hw := tH hw); (first | (refine sCall_of hw rfl rfl ?_; rw [M.lok_eq]) | (refine sCallD_of hw rfl rfl ?_; rw [M.lokD_eq])); clear hw; clear hy; refine tB ?_)
    | (obtain ⟨y, hy, h⟩ := h; have hw := acall_swe 1000 26 (W_made_Worths hy); (try replace hw := tH hw); (first | (refine sCall_of hw rfl rfl ?_; rw [M.lok_eq]) | (refine sCallD_of hw rfl rfl ?_; rw [M.lokD_eq])); clear hw; clear hy; refine tB ?_)
    | (obtain ⟨y, hy, h⟩ := h; have hw := acall_swe 1000 26 (W_made_Tape_Next hy); (try replace hw := tH hw); (first | (refine sCall_of hw rfl rfl ?_; rw [M.lok_eq]) | (refine sCallD_of hw rfl rfl ?_; rw [M.lokD_eq])); clear hw; clear hy; refine tB ?_)
    | (obtain ⟨y, hy, h⟩ := h; have hw := acall_swe 1000 26 (W_made_Tape_Between hy); (try replace hw := tH hw); (first | (refine sCall_of hw rfl rfl ?_; rw [M.lok_eq]) | (refine sCallD_of hw rfl rfl ?_; rw [M.lokD_eq])); clear hw; clear hy; refine tB ?_)
    | (obtain ⟨y, hy, h⟩ := h; have hw := W_severity_Rate hy; (try replace hw := tH hw); (first | (refine sCall_of hw rfl rfl ?_; rw [M.lok_eq]) | (refine sCallD_of hw rfl rfl ?_; rw [M.lokD_eq])); clear hw; clear hy; refine tB ?_)
    | (refine M.gv1 (ms := mg_law31_SeverityGrows_5) 144 [139, 140, 141, 142, 143] h ?_ ?_ <;> first
       | (clear h; intro K hK1; unfold mg_law31_SeverityGrows_5; refine tB ?_)
       | (clear h; intro b h; (try replace h := tH h); refine tB ?_)
       | fail)
    | (refine M.gv1 (ms := mg_law31_SeverityGrows_4) 137 [132, 133, 134, 135, 136] h ?_ ?_ <;> first
       | (clear h; intro K hK2; unfold mg_law31_SeverityGrows_4; refine tB ?_)
       | (clear h; intro b h; (try replace h := tH h); refine tB ?_)
       | fail)
    | (refine M.gv1 (ms := mg_law31_SeverityGrows_3) 130 [125, 126, 127, 128, 129] h ?_ ?_ <;> first
       | (clear h; intro K hK3; unfold mg_law31_SeverityGrows_3; refine tB ?_)
       | (clear h; intro b h; (try replace h := tH h); refine tB ?_)
       | fail)
    | (refine M.gv1 (ms := mg_law31_SeverityGrows_2) 123 [118, 119, 120, 121, 122] h ?_ ?_ <;> first
       | (clear h; intro K hK4; unfold mg_law31_SeverityGrows_2; refine tB ?_)
       | (clear h; intro b h; (try replace h := tH h); refine tB ?_)
       | fail)
    | (refine M.gv1 (ms := mg_law31_SeverityGrows_1) 116 [114, 115] h ?_ ?_ <;> first
       | (clear h; intro K hK5; unfold mg_law31_SeverityGrows_1; refine tB ?_)
       | (clear h; intro b h; (try replace h := tH h); refine tB ?_)
       | fail)
    | (refine M.jn1 (b := mc_law31_SeverityGrows_J1) [3, 4, 5, 6, 7, 8, 9, 11, 12, 13, 14] [11, 8, 4] (fun y => [(15, .sl (y.1.map (V.int .i64))), (16, .int .i64 y.2.1), (17, .bool y.2.2.1)]) (fun y => [.o 14 (.cells [.int .i64 y.2.2.2.1.Credentials, .int .i64 y.2.2.2.1.Resources, .sl (y.2.2.2.1.Grants.map GGrant.v), .sl (y.2.2.2.1.Stores.map GStore.v), .sl (y.2.2.2.1.Mints.map GMint.v)]), .o 26 (.cells [.sl (y.2.2.2.2.L.map (V.int .i64)), .int .i64 y.2.2.2.2.at_])]) [] h ?_ ?_ <;> first
       | (clear h; intro Qn K hK6 h; (try replace h := tH h); refine tB ?_)
       | (clear h; intro y h; unfold mc_law31_SeverityGrows_J1; (try replace h := tH h); refine tB ?_)
       | fail)
    | (refine M.wh1 (b := mc_law31_SeverityGrows_L1) [3, 4, 5, 6, 7, 8, 11, 12] [11, 4] (fun x => [(9, .sl (x.1.map (V.int .i64))), (13, .int .i64 x.2.1)]) (fun x => [.o 8 (.cells [.int .i64 x.2.2.1.Credentials, .int .i64 x.2.2.1.Resources, .sl (x.2.2.1.Grants.map GGrant.v), .sl (x.2.2.1.Stores.map GStore.v), .sl (x.2.2.1.Mints.map GMint.v)]), .o 26 (.cells [.sl (x.2.2.2.L.map (V.int .i64)), .int .i64 x.2.2.2.at_])]) [.fz 9, .fzc 8] h ?_ ?_ <;> first
       | (clear h; intro x Qn K hK7 h; unfold F_law31_SeverityGrows_L1 at h; unfold mc_law31_SeverityGrows_L1; (try replace h := tH h); refine tB ?_)
       | (clear h; (try refine tB ?_); exact tU0; done)
       | fail)
    | (refine hK1 _ ?_; exact tU; done)
    | (refine hK2 _ ?_; exact tU; done)
    | (refine hK3 _ ?_; exact tU; done)
    | (refine hK4 _ ?_; exact tU; done)
    | (refine hK5 _ ?_; exact tU; done)
    | (refine hK6 _ ?_; (try refine tB ?_); refine ⟨_, h, ?_⟩; exact tU0; done)
    | (refine hK7 _ ?_; (try refine tB ?_); refine ⟨_, h, ?_⟩; exact tU0; done)
    | (refine bfork (fun hc => ?_) (fun hc => ?_))
    | (refine ⟨_, getE_map (inb_toNat (by assumption)), ?_⟩; (first | rw [M.lok_compU] | rw [M.lokD_compU]); refine tB ?_)
    | (refine And.intro (ltb_of (by assumption)) ?_)
    | (refine And.intro (by omega) ?_)
    | fail)
theorem W_law31_SeverityGrows : ∀ {l_ : List Int} {y : Bool}, F_law31_SeverityGrows l_ = some y → ACall Tryd.prog 3 [.sl (l_.map (V.int .i64))] [] (fun r H => r = .bool y ∧ H = []) :=
  fun hy => Wq_law31_SeverityGrows _ (Q := fun z => z = _) ⟨_, hy, rfl⟩ fun z e => by subst e; exact ⟨rfl, rfl⟩

end Go.Ab
