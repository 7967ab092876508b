/- What the functions of this seat that lie on the laws' road compute (part L31D), each for every input. By AI agents. -/
import Derived.Test.YtopbblhkapgdkaaDoorProg
import Derived.KernelRfl
import Derived.Test.YtopbblhkapgdkaaDoorAbFun
import Derived.Test.YtopbblhkapgdkaaDoorL31C
import Derived.Test.YtopbblhkapgdkaaDoorRCB31
set_option linter.all false
set_option maxRecDepth 20000
set_option linter.all false
namespace Go.Ab
open Go.Proofs

def F_ref25_Reach_L1 (k28 : Int) (a29 : Bool) (x27 : List Int) : Option (List Int) :=
  bif a29 then chk (room (x27.length + [k28].length) 8) (some (x27 ++ [k28])) else some x27
def F_ref25_Reach (x_ : GRights) (c_ : Int) : Option (List Int) :=
  (F_ref25_Valid x_).bind fun y7 => bif (!y7) then some [] else chk (in64 (x_.Credentials - 1)) ((F_ref25_in c_ 0 (x_.Credentials - 1)).bind fun y8 => bif (!y8) then some [] else (reachF x_ c_).bind fun y21 => (foldL F_ref25_Reach_L1 y21 0 []).bind fun x30 => some x30)

/- leakresponse/leakresponseref25.Reach -/
@[irreducible] def mc_ref25_Reach_L1 : MC :=
  (.seq (.reg [⟨.bin false .lss (.t 23) (.t 22), (some 24), none⟩])
  (.seq (.cond (.t 24)
    .skip
    (.exit 0))
  (.seq (.block 1
  (.seq (.reg [⟨.mv (.t 23), (some 25), none⟩,
    ⟨.iad 1 (.t 21) (.t 23), (some 26), none⟩,
    ⟨.ld none (.t 26), (some 27), none⟩,
    ⟨.mv (.t 25), (some 6), none⟩,
    ⟨.mv (.t 27), (some 7), none⟩])
  (.seq (.reg [⟨.mv (.t 7), (some 28), none⟩])
  (.cond (.t 28)
    (.reg [⟨.mv (.t 5), (some 29), none⟩,
      ⟨.mv (.t 6), (some 30), none⟩,
      ⟨.bslice 1 [(.t 30)], (some 31), none⟩,
      ⟨.app 1 8 (.t 29) (.t 31), (some 32), none⟩,
      ⟨.mv (.t 32), (some 5), none⟩])
    .skip))))
  (.reg [⟨.bin true .add (.t 23) (.c (.int .i64 1)), (some 33), none⟩,
    ⟨.mv (.t 33), (some 23), none⟩]))))
def mc_ref25_Reach : MC :=
  (.seq (.reg [⟨.box (.t 0), (some 2), none⟩,
    ⟨.mv (.c (.sl [])), (some 4), none⟩])
  (.seq (.seq (.reg [⟨.ld (some 5) (.t 2), (some 8), none⟩,
    ⟨.call (.f 24) [(.t 8)] [] [], (some 9), none⟩,
    ⟨.not (.t 9), (some 10), none⟩,
    ⟨.mv (.t 10), (some 11), none⟩,
    ⟨.mv (.t 1), (some 12), (some (11, false))⟩,
    ⟨.fad 0 (.t 2), (some 13), (some (11, false))⟩,
    ⟨.ld none (.t 13), (some 14), (some (11, false))⟩,
    ⟨.bin true .sub (.t 14) (.c (.int .i64 1)), (some 15), (some (11, false))⟩,
    ⟨.call (.f 25) [(.t 12), (.c (.int .i64 0)), (.t 15)] [] [], (some 16), (some (11, false))⟩,
    ⟨.not (.t 16), (some 17), (some (11, false))⟩,
    ⟨.pick (.t 11) (.c (.bool true)) (.t 17), (some 18), none⟩])
  (.cond (.t 18)
    (.seq (.reg [⟨.mv (.c (.sl [])), (some 4), none⟩])
    .ret)
    .skip))
  (.seq (.reg [⟨.mv (.c .nils), (some 5), none⟩])
  (.seq (.seq (.note (.gc [1, 2, 5]) (.reg [⟨.ld (some 5) (.t 2), (some 19), none⟩,
    ⟨.mv (.t 1), (some 20), none⟩,
    ⟨.call (.f 26) [(.t 19), (.t 20)] [] [], (some 21), none⟩,
    ⟨.len false (.t 21), (some 22), none⟩,
    ⟨.mv (.c (.int .i64 0)), (some 23), none⟩]))
  (.block 0
  (.loop mc_ref25_Reach_L1)))
  (.seq (.reg [⟨.mv (.t 5), (some 34), none⟩,
    ⟨.mv (.t 34), (some 4), none⟩])
  .ret)))))
theorem ok_ref25_Reach : mc_ref25_Reach.ok Tryd.prog Tryd.f15.ntmps (Tryd.f15.body.getD .skip) = true := by kernel_rfl

set_option maxHeartbeats 2000000 in
theorem Wq_ref25_Reach (x_ : GRights) (c_ : Int) {Q : List Int → Prop} {Q' : V → Heap → Prop} (h : Ok (F_ref25_Reach x_ c_) Q) (hQ : ∀ z, Q z → Q' (.sl (z.map (V.int .i64))) []) : ACall Tryd.prog 15 [GRights.v x_, .int .i64 c_] [] Q' := by
  refine acall_machN [.fz 4] [] [.t 4] Tryd.func15 rfl (by kernel_rfl) ok_ref25_Reach (by kernel_rfl) rfl rfl fun M hf => ?_
  clear hf
  unfold F_ref25_Reach at h
  unfold mc_ref25_Reach
  (try replace h := tH h)
  refine tB ?_
  repeat' (first
    | (exact hQ _ h)
    | (exact trivial)
    | (exact False.elim h)
    | (have hq := hQ _ h; replace hq := tH hq; exact hq)
    | (refine oblg h ?_; clear h; intro hc h)
    | (refine roomG h ?_; clear h; intro hc h)
    | (refine fork h ?_ ?_ <;> clear h <;> intro hc h)
    | (refine forkS h ?_ ?_ <;> clear h <;> intro hc h)
    | (refine And.intro (chkD_of rfl) ?_)
    | (obtain ⟨y, hy, h⟩ := h; have hw := W_ref25_Valid hy; (try replace hw := tH hw); (first | (refine sCall_of hw rfl rfl ?_; rw [M.lok_eq]) | (refine sCallD_of hw rfl rfl ?_; rw [M.lokD_eq])); clear hw; clear hy; refine tB ?_)
    | (obtain ⟨y, hy, h⟩ := h; have hw := W_ref25_in hy; (try replace hw := tH hw); (first | (refine sCall_of hw rfl rfl ?_; rw [M.lok_eq]) | (refine sCallD_of hw rfl rfl ?_; rw [M.lokD_eq])); clear hw; clear hy; refine tB ?_)
    | (obtain ⟨y, hy, h⟩ := h; have hw := W_reach hy; (try replace hw := tH hw); (first | (refine sCall_of hw rfl rfl ?_; rw [M.lok_eq]) | (refine sCallD_of hw rfl rfl ?_; rw [M.lokD_eq])); clear hw; clear hy; refine tB ?_)
    | (refine M.fold1 (b := mc_ref25_Reach_L1) 23 [21, 22] [] (fun x => [(5, .osl 2005 1 0 x.length)]) (fun x => [.o 2005 (.arr 1 (x.map (V.int .i64)))]) [.gc [5, 21, 22, 23], .acc 5 2005 1] h ?_ ?_ ?_ <;> first
       | (clear h; intro k a x Qn K hK1 hkN1 ha1 h hf; have hl := fact_int (factsE_find (n := 22) hf.1 rfl); clear hf; have hkd := kD hkN1; have hkB1 := kB hkN1; have hkI1 : in64 ((k : Int) + 1) = true := in64_iff.2 ⟨by omega, by (try simp only [List.length_cons, List.length_nil] at hkN1); omega⟩; unfold F_ref25_Reach_L1 at h; unfold mc_ref25_Reach_L1; (try replace h := tH h); refine tK ha1 hkd hkN1 hkB1 hkI1 ?_)
       | (clear h; intro x K h; replace h := And.left (And.intro h trivial); unfold mc_ref25_Reach_L1; (try replace h := tH h); refine tB ?_)
       | (clear h; (try refine tB ?_); exact tU0; done)
       | fail)
    | (refine And.intro hkI1 ?_)
    | (refine And.intro hkN1 ?_)
    | (refine And.intro hkB1 ?_)
    | (simp only [ha1])
    | (refine hK1 _ ?_; (try refine tB ?_); refine ⟨_, h, ?_⟩; exact tU0; done)
    | (refine ⟨_, getE_map (inb_toNat (by assumption)), ?_⟩; (first | rw [M.lok_compU] | rw [M.lokD_compU]); refine tB ?_)
    | (refine And.intro (ltb_of (by assumption)) ?_)
    | (refine And.intro (by omega) ?_)
    | fail)
theorem W_ref25_Reach : ∀ {x_ : GRights} {c_ : Int} {y : List Int}, F_ref25_Reach x_ c_ = some y → ACall Tryd.prog 15 [GRights.v x_, .int .i64 c_] [] (fun r H => r = .sl (y.map (V.int .i64)) ∧ H = []) :=
  fun hy => Wq_ref25_Reach _ _ (Q := fun z => z = _) ⟨_, hy, rfl⟩ fun z e => by subst e; exact ⟨rfl, rfl⟩

noncomputable def F_law31_SeverityParts_L1 (y6 : GRights × GTape) (y8 : (List Int) × GTape) (y818 : GSeverity × Int) (k845 : Int) (a846 : Int) (x844 : Unit) : Option (Fl Unit Bool) :=
  (F_severity_Worth y6.1 y8.1 a846).bind fun y860 => grp (((!decide (y860.2 = 0)) || decide (y818.1.Worth < y860.1))) fun b862 => bif b862 then some (.ex false) else some (.nx ())
noncomputable def F_law31_SeverityParts_L2 (y6 : GRights × GTape) (y8 : (List Int) × GTape) (x653 : Int × GTape) : Option (Fl (Int × GTape) (Sum Unit Bool)) :=
  bif decide (x653.1 < y6.1.Credentials) then (F_made_Tape_Next x653.2 25).bind fun y815 => (F_made_Tape_Next y815.2 2).bind fun y816 => (F_severity_Rate y6.1 y8.1 x653.1 y815.1 (decide (y816.1 = 1))).bind fun y818 => jn (α := Fl (Int × Int × Int × Int × Bool × Int × Int × Int × Bool × Bool × Int × Bool × Bool × Bool × Bool × Bool × Bool) Bool) (bif (!decide (y818.2 = 0)) then some (.ex false) else chk (in64 (y818.1.Worth * y818.1.Audience)) (bif (!decide (y818.1.Score = (y818.1.Worth * y818.1.Audience))) then some (.ex false) else (F_severity_Level y818.1.Score).bind fun y823 => bif (!decide (y818.1.Level = y823)) then some (.ex false) else bif (!(decide (y816.1 = 1) == decide (y818.1.Audience = 100))) then some (.ex false) else bif (!(decide (y816.1 = 1))) then chk (in64 (y815.1 + 1)) (bif (!decide (y818.1.Audience = (y815.1 + 1))) then some (.ex false) else some (.nx (y818.1.Score, y818.1.Worth, y818.1.Audience, (y818.1.Worth * y818.1.Audience), (!decide (y818.1.Score = (y818.1.Worth * y818.1.Audience))), y818.1.Level, y818.1.Score, y823, (!decide (y818.1.Level = y823)), decide (y816.1 = 1), y818.1.Audience, decide (y818.1.Audience = 100), (!(decide (y816.1 = 1) == decide (y818.1.Audience = 100))), decide (y816.1 = 1), (!(decide (y816.1 = 1))), true, (!decide (y818.1.Audience = (y815.1 + 1)))))) else some (.nx (y818.1.Score, y818.1.Worth, y818.1.Audience, (y818.1.Worth * y818.1.Audience), (!decide (y818.1.Score = (y818.1.Worth * y818.1.Audience))), y818.1.Level, y818.1.Score, y823, (!decide (y818.1.Level = y823)), decide (y816.1 = 1), y818.1.Audience, decide (y818.1.Audience = 100), (!(decide (y816.1 = 1) == decide (y818.1.Audience = 100))), decide (y816.1 = 1), (!(decide (y816.1 = 1))), false, false)))) fun o => o.elim (fun j821 => (F_ref25_Reach y6.1 x653.1).bind fun y825 => (forL (F_law31_SeverityParts_L1 y6 y8 y818) y825 0 ()).bind fun o => o.elim (fun x863 => chk (in64 (x653.1 + 1)) (some (.nx ((x653.1 + 1), y816.2)))) (fun r864 => some (.ex (.inr r864)))) (fun r865 => some (.ex (.inr r865))) else some (.ex (.inl ()))
noncomputable def F_law31_SeverityParts (l_ : List Int) : Option Bool :=
  bif decide (300 < (l_.length : Int)) then F_law31_awake.bind fun y4 => some y4 else (F_made_Rights (GTape.mk l_ 0)).bind fun y6 => (F_made_Worths y6.2 y6.1.Resources).bind fun y8 => (loop (F_law31_SeverityParts_L2 y6 y8) (0, y8.2)).bind fun r866 => Sum.elim (fun u867 => F_law31_awake.bind fun y870 => some y870) (fun u868 => some u868) r866

/- leakresponse/leakresponselaw31.SeverityParts -/
@[irreducible] def mg_law31_SeverityParts_1 : List MOp := [⟨.mv (.t 13), (some 104), (some (103, false))⟩,
    ⟨.fad 1 (.t 9), (some 105), (some (103, false))⟩,
    ⟨.ld none (.t 105), (some 106), (some (103, false))⟩,
    ⟨.bin false .gtr (.t 104) (.t 106), (some 107), (some (103, false))⟩,
    ⟨.pick (.t 103) (.c (.bool true)) (.t 107), (some 108), none⟩]
@[irreducible] def mc_law31_SeverityParts_L1 : MC :=
  (.seq (.reg [⟨.bin false .lss (.t 90) (.t 89), (some 91), none⟩])
  (.seq (.cond (.t 91)
    .skip
    (.exit 2))
  (.seq (.block 3
  (.seq (.reg [⟨.iad 1 (.t 88) (.t 90), (some 92), none⟩,
    ⟨.ld none (.t 92), (some 93), none⟩,
    ⟨.mv (.t 93), (some 12), none⟩])
  (.seq (.reg [⟨.ld (some 5) (.t 4), (some 95), none⟩,
    ⟨.mv (.t 5), (some 96), none⟩,
    ⟨.mv (.t 12), (some 97), none⟩,
    ⟨.call (.f 16) [(.t 95), (.t 96), (.t 97)] [] [], (some 98), none⟩,
    ⟨.mv (.t 98), (some 94), none⟩,
    ⟨.ext 0 (.t 94), (some 99), none⟩,
    ⟨.ext 1 (.t 94), (some 100), none⟩,
    ⟨.mv (.t 99), (some 13), none⟩,
    ⟨.mv (.t 100), (some 14), none⟩])
  (.seq (.note (.gc [3, 4, 5, 6, 9, 13, 14, 51, 52, 53, 54, 55, 56, 57, 58, 61, 62, 63, 64, 65, 66, 69, 70, 71, 72, 73, 76, 77, 78, 79, 80, 81, 82, 83, 84, 88, 89, 90, 104, 105, 106, 107]) (.regI [.op ⟨.mv (.t 14), (some 101), none⟩,
    .op ⟨.bin false .neq (.t 101) (.c (.int .i64 0)), (some 102), none⟩,
    .op ⟨.mv (.t 102), (some 103), none⟩,
    .grp mg_law31_SeverityParts_1]))
  (.cond (.t 108)
    (.seq (.reg [⟨.mv (.c (.bool false)), (some 2), none⟩])
    .ret)
    .skip)))))
  (.reg [⟨.bin true .add (.t 90) (.c (.int .i64 1)), (some 109), none⟩,
    ⟨.mv (.t 109), (some 90), none⟩]))))
@[irreducible] def mc_law31_SeverityParts_J1 : MC :=
  (.seq (.reg [⟨.ld (some 5) (.t 4), (some 86), none⟩,
    ⟨.mv (.t 6), (some 87), none⟩,
    ⟨.call (.f 15) [(.t 86), (.t 87)] [] [], (some 88), none⟩,
    ⟨.len false (.t 88), (some 89), none⟩,
    ⟨.mv (.c (.int .i64 0)), (some 90), none⟩])
  (.block 2
  (.loop mc_law31_SeverityParts_L1)))
@[irreducible] def mc_law31_SeverityParts_L2 : MC :=
  (.seq (.seq (.reg [⟨.mv (.t 6), (some 28), none⟩,
    ⟨.fad 0 (.t 4), (some 29), none⟩,
    ⟨.ld none (.t 29), (some 30), none⟩,
    ⟨.bin false .lss (.t 28) (.t 30), (some 31), none⟩])
  (.cond (.t 31)
    .skip
    (.exit 0)))
  (.seq (.block 1
  (.seq (.reg [⟨.mv (.t 3), (some 34), none⟩,
    ⟨.call (.f 11) [(.t 34), (.c (.int .i64 25))] [21] [], (some 35), none⟩,
    ⟨.mv (.t 3), (some 36), none⟩,
    ⟨.call (.f 11) [(.t 36), (.c (.int .i64 2))] [21] [], (some 37), none⟩,
    ⟨.bin false .eql (.t 37) (.c (.int .i64 1)), (some 38), none⟩,
    ⟨.mv (.t 35), (some 7), none⟩,
    ⟨.mv (.t 38), (some 8), none⟩])
  (.seq (.note (.gc [3, 4, 5, 6, 7, 8, 51, 52, 53, 54, 55, 56, 57, 58, 61, 62, 63, 64, 65, 66, 69, 70, 71, 72, 73, 76, 77, 78, 79, 80, 81, 82, 83, 84, 104, 105, 106, 107]) (.reg [⟨.ld (some 5) (.t 4), (some 40), none⟩,
    ⟨.mv (.t 5), (some 41), none⟩,
    ⟨.mv (.t 6), (some 42), none⟩,
    ⟨.mv (.t 7), (some 43), none⟩,
    ⟨.mv (.t 8), (some 44), none⟩,
    ⟨.call (.f 13) [(.t 40), (.t 41), (.t 42), (.t 43), (.t 44)] [] [], (some 45), none⟩,
    ⟨.mv (.t 45), (some 39), none⟩,
    ⟨.ext 0 (.t 39), (some 46), none⟩,
    ⟨.ext 1 (.t 39), (some 47), none⟩,
    ⟨.alloc [(.int .i64 0), (.int .i64 0), (.int .i64 0), (.int .i64 0)], (some 9), none⟩,
    ⟨.st 4 (.t 9) (.t 46), none, none⟩,
    ⟨.mv (.t 47), (some 10), none⟩]))
  (.cut (.seq (.note (.gc [3, 4, 5, 6, 7, 8, 9, 10, 51, 52, 53, 54, 55, 56, 57, 58, 61, 62, 63, 64, 65, 66, 69, 70, 71, 72, 73, 76, 77, 78, 79, 80, 81, 82, 83, 84, 104, 105, 106, 107]) (.regD [⟨.mv (.t 10), (some 48), none⟩,
    ⟨.bin false .neq (.t 48) (.c (.int .i64 0)), (some 49), none⟩,
    ⟨.mv (.t 49), (some 50), none⟩,
    ⟨.fad 3 (.t 9), (some 51), (some (50, false))⟩,
    ⟨.ld none (.t 51), (some 52), (some (50, false))⟩,
    ⟨.fad 1 (.t 9), (some 53), (some (50, false))⟩,
    ⟨.ld none (.t 53), (some 54), (some (50, false))⟩,
    ⟨.fad 2 (.t 9), (some 55), (some (50, false))⟩,
    ⟨.ld none (.t 55), (some 56), (some (50, false))⟩,
    ⟨.bin true .mul (.t 54) (.t 56), (some 57), (some (50, false))⟩,
    ⟨.bin false .neq (.t 52) (.t 57), (some 58), (some (50, false))⟩,
    ⟨.pick (.t 50) (.c (.bool true)) (.t 58), (some 59), none⟩,
    ⟨.mv (.t 59), (some 60), none⟩,
    ⟨.fad 0 (.t 9), (some 61), (some (60, false))⟩,
    ⟨.ld none (.t 61), (some 62), (some (60, false))⟩,
    ⟨.fad 3 (.t 9), (some 63), (some (60, false))⟩,
    ⟨.ld none (.t 63), (some 64), (some (60, false))⟩,
    ⟨.call (.f 14) [(.t 64)] [] [], (some 65), (some (60, false))⟩,
    ⟨.bin false .neq (.t 62) (.t 65), (some 66), (some (60, false))⟩,
    ⟨.pick (.t 60) (.c (.bool true)) (.t 66), (some 67), none⟩,
    ⟨.mv (.t 67), (some 68), none⟩,
    ⟨.mv (.t 8), (some 69), (some (68, false))⟩,
    ⟨.fad 2 (.t 9), (some 70), (some (68, false))⟩,
    ⟨.ld none (.t 70), (some 71), (some (68, false))⟩,
    ⟨.bin false .eql (.t 71) (.c (.int .i64 100)), (some 72), (some (68, false))⟩,
    ⟨.beq true (.t 69) (.t 72), (some 73), (some (68, false))⟩,
    ⟨.pick (.t 68) (.c (.bool true)) (.t 73), (some 74), none⟩,
    ⟨.mv (.t 74), (some 75), none⟩,
    ⟨.mv (.t 8), (some 76), (some (75, false))⟩,
    ⟨.not (.t 76), (some 77), (some (75, false))⟩,
    ⟨.mv (.t 77), (some 78), (some (75, false))⟩,
    ⟨.fad 2 (.t 9), (some 79), (some (78, true))⟩,
    ⟨.ld none (.t 79), (some 80), (some (78, true))⟩,
    ⟨.mv (.t 7), (some 81), (some (78, true))⟩,
    ⟨.bin true .add (.t 81) (.c (.int .i64 1)), (some 82), (some (78, true))⟩,
    ⟨.bin false .neq (.t 80) (.t 82), (some 83), (some (78, true))⟩,
    ⟨.pick (.t 78) (.t 83) (.c (.bool false)), (some 84), (some (75, false))⟩,
    ⟨.pick (.t 75) (.c (.bool true)) (.t 84), (some 85), none⟩]
    [[], [0], [1], [2], [3, 2], [2], [5, 2], [2], [7, 2], [6, 8, 2], [4, 9, 2], [2, 10], [11, 2], [12], [13, 12], [12], [15, 12], [16, 12, 12], [14, 17, 12], [12, 18], [19, 17], [20], [20], [22, 20], [23, 20], [21, 24, 20], [20, 25], [26, 20], [27], [28, 27], [29, 27, 27], [30], [31, 30], [30], [33, 30], [32, 34, 30], [30, 35, 27], [27, 36]]
    [[], [0], [0, 1], [0, 1, 2], [0, 1, 2, 3], [0, 1, 2], [0, 1, 2, 5], [0, 1, 2], [0, 1, 2, 7], [0, 1, 2, 5, 6, 7, 8], [0, 1, 2, 3, 4, 5, 6, 7, 8, 9], [0, 1, 2, 3, 4, 5, 6, 7, 8, 9, 10], [0, 1, 2, 3, 4, 5, 6, 7, 8, 9, 10, 11], [0, 1, 2, 3, 4, 5, 6, 7, 8, 9, 10, 11, 12], [0, 1, 2, 3, 4, 5, 6, 7, 8, 9, 10, 11, 12, 13], [0, 1, 2, 3, 4, 5, 6, 7, 8, 9, 10, 11, 12], [0, 1, 2, 3, 4, 5, 6, 7, 8, 9, 10, 11, 12, 15], [0, 1, 2, 3, 4, 5, 6, 7, 8, 9, 10, 11, 12, 15, 16], [0, 1, 2, 3, 4, 5, 6, 7, 8, 9, 10, 11, 12, 13, 14, 15, 16, 17], [0, 1, 2, 3, 4, 5, 6, 7, 8, 9, 10, 11, 12, 13, 14, 15, 16, 17, 18], [0, 1, 2, 3, 4, 5, 6, 7, 8, 9, 10, 11, 12, 13, 14, 15, 16, 17, 18, 19], [0, 1, 2, 3, 4, 5, 6, 7, 8, 9, 10, 11, 12, 13, 14, 15, 16, 17, 18, 19, 20], [0, 1, 2, 3, 4, 5, 6, 7, 8, 9, 10, 11, 12, 13, 14, 15, 16, 17, 18, 19, 20], [0, 1, 2, 3, 4, 5, 6, 7, 8, 9, 10, 11, 12, 13, 14, 15, 16, 17, 18, 19, 20, 22], [0, 1, 2, 3, 4, 5, 6, 7, 8, 9, 10, 11, 12, 13, 14, 15, 16, 17, 18, 19, 20, 22, 23], [0, 1, 2, 3, 4, 5, 6, 7, 8, 9, 10, 11, 12, 13, 14, 15, 16, 17, 18, 19, 20, 21, 22, 23, 24], [0, 1, 2, 3, 4, 5, 6, 7, 8, 9, 10, 11, 12, 13, 14, 15, 16, 17, 18, 19, 20, 21, 22, 23, 24, 25], [0, 1, 2, 3, 4, 5, 6, 7, 8, 9, 10, 11, 12, 13, 14, 15, 16, 17, 18, 19, 20, 21, 22, 23, 24, 25, 26], [0, 1, 2, 3, 4, 5, 6, 7, 8, 9, 10, 11, 12, 13, 14, 15, 16, 17, 18, 19, 20, 21, 22, 23, 24, 25, 26, 27], [0, 1, 2, 3, 4, 5, 6, 7, 8, 9, 10, 11, 12, 13, 14, 15, 16, 17, 18, 19, 20, 21, 22, 23, 24, 25, 26, 27, 28], [0, 1, 2, 3, 4, 5, 6, 7, 8, 9, 10, 11, 12, 13, 14, 15, 16, 17, 18, 19, 20, 21, 22, 23, 24, 25, 26, 27, 28, 29], [0, 1, 2, 3, 4, 5, 6, 7, 8, 9, 10, 11, 12, 13, 14, 15, 16, 17, 18, 19, 20, 21, 22, 23, 24, 25, 26, 27, 28, 29, 30], [0, 1, 2, 3, 4, 5, 6, 7, 8, 9, 10, 11, 12, 13, 14, 15, 16, 17, 18, 19, 20, 21, 22, 23, 24, 25, 26, 27, 28, 29, 30, 31], [0, 1, 2, 3, 4, 5, 6, 7, 8, 9, 10, 11, 12, 13, 14, 15, 16, 17, 18, 19, 20, 21, 22, 23, 24, 25, 26, 27, 28, 29, 30], [0, 1, 2, 3, 4, 5, 6, 7, 8, 9, 10, 11, 12, 13, 14, 15, 16, 17, 18, 19, 20, 21, 22, 23, 24, 25, 26, 27, 28, 29, 30, 33], [0, 1, 2, 3, 4, 5, 6, 7, 8, 9, 10, 11, 12, 13, 14, 15, 16, 17, 18, 19, 20, 21, 22, 23, 24, 25, 26, 27, 28, 29, 30, 31, 32, 33, 34], [0, 1, 2, 3, 4, 5, 6, 7, 8, 9, 10, 11, 12, 13, 14, 15, 16, 17, 18, 19, 20, 21, 22, 23, 24, 25, 26, 27, 28, 29, 30, 31, 32, 33, 34, 35], [0, 1, 2, 3, 4, 5, 6, 7, 8, 9, 10, 11, 12, 13, 14, 15, 16, 17, 18, 19, 20, 21, 22, 23, 24, 25, 26, 27, 28, 29, 30, 31, 32, 33, 34, 35, 36]]))
  (.cond (.t 85)
    (.seq (.reg [⟨.mv (.c (.bool false)), (some 2), none⟩])
    .ret)
    .skip))
  mc_law31_SeverityParts_J1))))
  (.reg [⟨.mv (.t 6), (some 32), none⟩,
    ⟨.bin true .add (.t 32) (.c (.int .i64 1)), (some 33), none⟩,
    ⟨.mv (.t 33), (some 6), none⟩])))
def mc_law31_SeverityParts : MC :=
  (.seq (.reg [⟨.mv (.c (.bool false)), (some 2), none⟩])
  (.seq (.seq (.reg [⟨.mv (.t 0), (some 15), none⟩,
    ⟨.len false (.t 15), (some 16), none⟩,
    ⟨.bin false .gtr (.t 16) (.c (.int .i64 300)), (some 17), none⟩])
  (.cond (.t 17)
    (.seq (.reg [⟨.call (.f 8) [] [] [], (some 18), none⟩,
      ⟨.mv (.t 18), (some 2), none⟩])
    .ret)
    .skip))
  (.seq (.reg [⟨.mv (.t 0), (some 19), none⟩,
    ⟨.build [(.sl []), (.int .i64 0)] [(0, 1, (.t 19))], (some 20), none⟩,
    ⟨.box (.t 20), (some 21), none⟩,
    ⟨.mv (.t 21), (some 3), none⟩])
  (.seq (.note (.gc [3, 51, 52, 53, 54, 55, 56, 57, 58, 61, 62, 63, 64, 65, 66, 69, 70, 71, 72, 73, 76, 77, 78, 79, 80, 81, 82, 83, 84, 104, 105, 106, 107]) (.reg [⟨.mv (.t 3), (some 22), none⟩,
    ⟨.call (.f 9) [(.t 22)] [21] [], (some 23), none⟩,
    ⟨.alloc [(.int .i64 0), (.int .i64 0), (.sl []), (.sl []), (.sl [])], (some 4), none⟩,
    ⟨.st 5 (.t 4) (.t 23), none, none⟩]))
  (.seq (.reg [⟨.mv (.t 3), (some 24), none⟩,
    ⟨.fad 1 (.t 4), (some 25), none⟩,
    ⟨.ld none (.t 25), (some 26), none⟩,
    ⟨.call (.f 10) [(.t 24), (.t 26)] [21] [], (some 27), none⟩,
    ⟨.mv (.t 27), (some 5), none⟩])
  (.seq (.seq (.reg [⟨.mv (.c (.int .i64 0)), (some 6), none⟩])
  (.block 0
  (.loop mc_law31_SeverityParts_L2)))
  (.seq (.reg [⟨.call (.f 8) [] [] [], (some 110), none⟩,
    ⟨.mv (.t 110), (some 2), none⟩])
  .ret)))))))
theorem ok_law31_SeverityParts : mc_law31_SeverityParts.ok Tryd.prog Tryd.f4.ntmps (Tryd.f4.body.getD .skip) = true := by kernel_rfl

set_option maxHeartbeats 2000000 in
theorem Wq_law31_SeverityParts (l_ : List Int) {Q : Bool → Prop} {Q' : V → Heap → Prop} (h : Ok (F_law31_SeverityParts l_) Q) (hQ : ∀ z, Q z → Q' (.bool z) []) : ACall Tryd.prog 4 [.sl (l_.map (V.int .i64))] [] Q' := by
  refine acall_machN [] [] [.t 2] Tryd.func4 rfl (by kernel_rfl) ok_law31_SeverityParts (by kernel_rfl) rfl rfl fun M hf => ?_
  clear hf
  unfold F_law31_SeverityParts at h
  unfold mc_law31_SeverityParts
  (try replace h := tH h)
  refine tB ?_
  repeat' (first
    | (exact hQ _ h)
    | (exact trivial)
    | (exact False.elim h)
    | (have hq := hQ _ h; replace hq := tH hq; exact hq)
    | (refine oblg h ?_; clear h; intro hc h)
    | (refine roomG h ?_; clear h; intro hc h)
    | (refine fork h ?_ ?_ <;> clear h <;> intro hc h)
    | (refine forkS h ?_ ?_ <;> clear h <;> intro hc h)
    | (refine And.intro (chkD_of rfl) ?_)
    | (obtain ⟨y, hy, h⟩ := h; have hw := W_law31_awake hy; (try replace hw := tH hw); (first | (refine sCall_of hw rfl rfl ?_; rw [M.lok_eq]) | (refine sCallD_of hw rfl rfl ?_; rw [M.lokD_eq])); clear hw; clear hy; refine tB ?_)
    | (obtain ⟨y, hy, h⟩ := h; have hw := acall_swe 1000 21 (W_made_Rights hy); (try replace hw := tH hw); (first | (refine sCall_of hw rfl rfl ?_; rw [M.lok_eq]) | (refine sCallD_of hw rfl rfl ?_; rw [M.lokD_eq])); clear hw; clear hy; refine tB ?_)
    | (obtain ⟨y, hy, h⟩ := h; have hw := acall_swe 1000 21 (W_made_Worths hy); (try replace hw := tH hw); (first | (refine sCall_of hw rfl rfl ?_; rw [M.lok_eq]) | (refine sCallD_of hw rfl rfl ?_; rw [M.lokD_eq])); clear hw; clear hy; refine tB ?_)
    | (obtain ⟨y, hy, h⟩ := h; have hw := acall_swe 1000 21 (W_made_Tape_Next hy); (try replace hw := tH hw); (first | (refine sCall_of hw rfl rfl ?_; rw [M.lok_eq]) | (refine sCallD_of hw rfl rfl ?_; rw [M.lokD_eq])); clear hw; clear hy; refine tB ?_)
    | (obtain ⟨y, hy, h⟩ := h; have hw := W_severity_Rate hy; (try replace hw := tH hw); (first | (refine sCall_of hw rfl rfl ?_; rw [M.lok_eq]) | (refine sCallD_of hw rfl rfl ?_; rw [M.lokD_eq])); clear hw; clear hy; refine tB ?_)
    | (obtain ⟨y, hy, h⟩ := h; have hw := W_severity_Level hy; (try replace hw := tH hw); (first | (refine sCall_of hw rfl rfl ?_; rw [M.lok_eq]) | (refine sCallD_of hw rfl rfl ?_; rw [M.lokD_eq])); clear hw; clear hy; refine tB ?_)
    | (obtain ⟨y, hy, h⟩ := h; have hw := W_ref25_Reach hy; (try replace hw := tH hw); (first | (refine sCall_of hw rfl rfl ?_; rw [M.lok_eq]) | (refine sCallD_of hw rfl rfl ?_; rw [M.lokD_eq])); clear hw; clear hy; refine tB ?_)
    | (obtain ⟨y, hy, h⟩ := h; have hw := W_severity_Worth hy; (try replace hw := tH hw); (first | (refine sCall_of hw rfl rfl ?_; rw [M.lok_eq]) | (refine sCallD_of hw rfl rfl ?_; rw [M.lokD_eq])); clear hw; clear hy; refine tB ?_)
    | (refine M.gv1 (ms := mg_law31_SeverityParts_1) 108 [104, 105, 106, 107] h ?_ ?_ <;> first
       | (clear h; intro K hK1; unfold mg_law31_SeverityParts_1; refine tB ?_)
       | (clear h; intro b h; (try replace h := tH h); refine tB ?_)
       | fail)
    | (refine M.for1 (b := mc_law31_SeverityParts_L1) 90 [3, 4, 5, 6, 9, 51, 52, 53, 54, 55, 56, 57, 58, 61, 62, 63, 64, 65, 66, 69, 70, 71, 72, 73, 76, 77, 78, 84, 88, 89] [9, 4, 21] (fun x => []) (fun x => []) [] h ?_ ?_ ?_ <;> first
       | (clear h; intro k a x Qn K hK2 hkN2 ha2 h hf; have hl := fact_int (factsE_find (n := 89) hf.1 rfl); clear hf; have hkd := kD hkN2; have hkB2 := kB hkN2; have hkI2 : in64 ((k : Int) + 1) = true := in64_iff.2 ⟨by omega, by (try simp only [List.length_cons, List.length_nil] at hkN2); omega⟩; unfold F_law31_SeverityParts_L1 at h; unfold mc_law31_SeverityParts_L1; (try replace h := tH h); refine tK ha2 hkd hkN2 hkB2 hkI2 ?_)
       | (clear h; intro x K h; replace h := And.left (And.intro h trivial); unfold mc_law31_SeverityParts_L1; (try replace h := tH h); refine tB ?_)
       | (clear h; (try refine tB ?_); exact tU0; done)
       | fail)
    | (refine M.jnE (b := mc_law31_SeverityParts_J1) [3, 4, 5, 6, 9] [9, 4, 21] (fun y => [(51, .ptr 9 3), (52, .int .i64 y.1), (53, .ptr 9 1), (54, .int .i64 y.2.1), (55, .ptr 9 2), (56, .int .i64 y.2.2.1), (57, .int .i64 y.2.2.2.1), (58, .bool y.2.2.2.2.1), (61, .ptr 9 0), (62, .int .i64 y.2.2.2.2.2.1), (63, .ptr 9 3), (64, .int .i64 y.2.2.2.2.2.2.1), (65, .int .i64 y.2.2.2.2.2.2.2.1), (66, .bool y.2.2.2.2.2.2.2.2.1), (69, .bool y.2.2.2.2.2.2.2.2.2.1), (70, .ptr 9 2), (71, .int .i64 y.2.2.2.2.2.2.2.2.2.2.1), (72, .bool y.2.2.2.2.2.2.2.2.2.2.2.1), (73, .bool y.2.2.2.2.2.2.2.2.2.2.2.2.1), (76, .bool y.2.2.2.2.2.2.2.2.2.2.2.2.2.1), (77, .bool y.2.2.2.2.2.2.2.2.2.2.2.2.2.2.1), (78, .bool y.2.2.2.2.2.2.2.2.2.2.2.2.2.2.2.1), (84, .bool y.2.2.2.2.2.2.2.2.2.2.2.2.2.2.2.2)]) (fun y => []) [] h ?_ ?_ <;> first
       | (clear h; intro Qn K hK3 h; (try replace h := tH h); refine tB ?_)
       | (clear h; intro y h; unfold mc_law31_SeverityParts_J1; (try replace h := tH h); refine tB ?_)
       | fail)
    | (refine M.wh1 (b := mc_law31_SeverityParts_L2) [3, 4, 5] [4] (fun x => [(6, .int .i64 x.1)]) (fun x => [.o 21 (.cells [.sl (x.2.L.map (V.int .i64)), .int .i64 x.2.at_])]) [] h ?_ ?_ <;> first
       | (clear h; intro x Qn K hK4 h; unfold F_law31_SeverityParts_L2 at h; unfold mc_law31_SeverityParts_L2; (try replace h := tH h); refine tB ?_)
       | (clear h; (try refine tB ?_); exact tU0; done)
       | fail)
    | (refine And.intro hkI2 ?_)
    | (refine And.intro hkN2 ?_)
    | (refine And.intro hkB2 ?_)
    | (simp only [ha2])
    | (refine hK1 _ ?_; exact tU; done)
    | (refine hK2 _ ?_; (try refine tB ?_); refine ⟨_, h, ?_⟩; exact tU0; done)
    | (refine hK3 _ ?_; (try refine tB ?_); refine ⟨_, h, ?_⟩; exact tU0; done)
    | (refine hK4 _ ?_; (try refine tB ?_); refine ⟨_, h, ?_⟩; exact tU0; done)
    | (refine bfork (fun hc => ?_) (fun hc => ?_))
    | (refine ⟨_, getE_map (inb_toNat (by assumption)), ?_⟩; (first | rw [M.lok_compU] | rw [M.lokD_compU]); refine tB ?_)
    | (refine And.intro (ltb_of (by assumption)) ?_)
    | (refine And.intro (by omega) ?_)
    | fail)
theorem W_law31_SeverityParts : ∀ {l_ : List Int} {y : Bool}, F_law31_SeverityParts l_ = some y → ACall Tryd.prog 4 [.sl (l_.map (V.int .i64))] [] (fun r H => r = .bool y ∧ H = []) :=
  fun hy => Wq_law31_SeverityParts _ (Q := fun z => z = _) ⟨_, hy, rfl⟩ fun z e => by subst e; exact ⟨rfl, rfl⟩

end Go.Ab
