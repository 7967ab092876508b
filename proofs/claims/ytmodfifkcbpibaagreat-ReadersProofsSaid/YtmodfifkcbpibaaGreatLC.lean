/- What the functions of this seat that lie on the laws' road compute (part LC), each for every input. By AI agents. -/
import Derived.Test.YtmodfifkcbpibaaGreatProg
import Derived.KernelRfl
import Derived.Test.YtmodfifkcbpibaaGreatAbFun
import Derived.Test.YtmodfifkcbpibaaGreatLB
set_option linter.all false
set_option linter.all false
set_option maxRecDepth 20000
set_option maxHeartbeats 2000000
namespace Go.Ab
open Go.Proofs
structure GTape where
 L : List Int
 at_ : Int
instance : Inhabited GTape := ⟨⟨default, default⟩⟩
def GTape.v (x : GTape) : V := .agg [.sl (x.L.map (V.int .i64)), .int .i64 x.at_]
attribute [go_sem] GTape.v
def F_made_Tape_Next (t_ : GTape) (n_ : Int) : Option (Int × GTape) :=
 bif decide ((t_.L.length : Int) ≤ t_.at_) then some (0, t_) else chk (inb t_.at_ t_.L.length) (chk (in64 (t_.at_ + 1)) (chk (divs ((t_.L.getD (t_.at_).toNat default) % 2 ^ 16) n_) (some ((((t_.L.getD (t_.at_).toNat default) % 2 ^ 16) % n_), (GTape.mk t_.L (t_.at_ + 1))))))
def mc_made_Tape_Next : MC :=
 (.seq (.reg [mo (.mv (.c (.int .i64 0))) 4])
 (.seq (.seq (.regD [mo (.mv (.t 0)) 6,
 mo (.nck (.t 6)) 7,
 mo (.fad 1 (.t 7)) 8,
 mo (.ld none (.t 8)) 9,
 mo (.mv (.t 0)) 10,
 mo (.nck (.t 10)) 11,
 mo (.fad 0 (.t 11)) 12,
 mo (.ld none (.t 12)) 13,
 mo (.len false (.t 13)) 14,
 mo (.bin false .geq (.t 9) (.t 14)) 15]
 [[],[0],[1],[2],[],[4],[5],[6],[7],[3,8]]
 [[],[0],[0,1],[0,1,2],[],[4],[4,5],[4,5,6],[4,5,6,7],[0,1,2,3,4,5,6,7,8]])
 (.cond (.t 15)
 (.seq (.reg [mo (.mv (.c (.int .i64 0))) 4])
 .ret)
 .skip))
 (.seq (.note (.gc [0,1]) (.regD [mo (.mv (.t 0)) 16,
 mo (.nck (.t 16)) 17,
 mo (.fad 0 (.t 17)) 18,
 mo (.ld none (.t 18)) 19,
 mo (.mv (.t 0)) 20,
 mo (.nck (.t 20)) 21,
 mo (.fad 1 (.t 21)) 22,
 mo (.ld none (.t 22)) 23,
 mo (.iad 1 (.t 19) (.t 23)) 24,
 mo (.ld none (.t 24)) 25,
 mo (.mask 16 (.t 25) .i64) 26,
 mo (.mv (.t 26)) 5]
 [[],[0],[1],[2],[],[4],[5],[6],[3,7],[8],[9],[10,0,1,2,3,4,5,6,7,8,9,10]]
 [[],[0],[0,1],[0,1,2],[],[4],[4,5],[4,5,6],[0,1,2,3,4,5,6,7],[0,1,2,3,4,5,6,7,8],[0,1,2,3,4,5,6,7,8,9],[0,1,2,3,4,5,6,7,8,9,10]]))
 (.seq (.note (.gc [0,1,5]) (.reg [mo (.mv (.t 0)) 27,
 mo (.nck (.t 27)) 28,
 mo (.fad 1 (.t 28)) 29,
 mo (.ld none (.t 29)) 30,
 mo (.bin true .add (.t 30) (.c (.int .i64 1))) 31,
 mo (.nck (.t 27)) 32,
 mo (.fad 1 (.t 32)) 33,
 ⟨.st 1 (.t 33) (.t 31), none, none⟩]))
 (.seq (.note (.gc [1,5]) (.reg [mo (.mv (.t 5)) 34,
 mo (.mv (.t 1)) 35,
 mo (.bin true .rem (.t 34) (.t 35)) 36,
 mo (.mv (.t 36)) 4]))
 .ret)))))
theorem ok_made_Tape_Next : mc_made_Tape_Next.ok Tryz.prog Tryz.f8.ntmps (Tryz.f8.body.getD .skip) = true := by kernel_rfl
theorem Wq_made_Tape_Next (t_ : GTape) (n_ : Int) {Q : Int × GTape → Prop} {Q' : V → Heap → Prop} (h : Ok (F_made_Tape_Next t_ n_) Q) (hQ : ∀ z, Q z → Q' (.int .i64 z.1) [(1000, .cells [.sl (z.2.L.map (V.int .i64)), .int .i64 z.2.at_])]) : ACall Tryz.prog 8 [.ptr 1000 0, .int .i64 n_] [(1000, .cells [.sl (t_.L.map (V.int .i64)), .int .i64 t_.at_])] Q' := by
 refine acall_machN [] [1000] [.t 4] Tryz.func8 rfl (by kernel_rfl) ok_made_Tape_Next (by kernel_rfl) rfl rfl fun M hf => ?_
 clear hf
 unfold F_made_Tape_Next at h
 unfold mc_made_Tape_Next
 (try replace h := tH h)
 refine tB ?_
 repeat' (first
 |(exact hQ _ h)
 |(exact trivial)
 |(exact False.elim h)
 |(have hq := hQ _ h; replace hq := tH hq; exact hq)
 |((first | refine oblg h ?_ | refine roomG h ?_ | refine fork h ?_ ?_ | refine forkS h ?_ ?_) <;> clear h <;> intro hc h)
 |(refine And.intro (chkD_of rfl) ?_)
 |(refine ⟨_, getE_map (inb_toNat (by assumption)), ?_⟩; (first | rw [M.lok_compU] | rw [M.lokD_compU]); refine tB ?_)
 |(refine And.intro (ltb_of (by assumption)) ?_)
 |(refine And.intro (inb_nat (by assumption)) ?_)
 |(refine And.intro (by omega) ?_)
   | fail)
theorem W_made_Tape_Next : ∀ {t_ : GTape} {n_ : Int} {y : Int × GTape}, F_made_Tape_Next t_ n_ = some y → ACall Tryz.prog 8 [.ptr 1000 0, .int .i64 n_] [(1000, .cells [.sl (t_.L.map (V.int .i64)), .int .i64 t_.at_])] (fun r H => r = .int .i64 y.1 ∧ H = [(1000, .cells [.sl (y.2.L.map (V.int .i64)), .int .i64 y.2.at_])]) :=
 fun hy => Wq_made_Tape_Next _ _ (Q := (· = _)) ⟨_, hy, rfl⟩ fun | _, rfl => ⟨rfl, rfl⟩
def F_made_Tape_Between (t_ : GTape) (a_ : Int) (b_ : Int) : Option (Int × GTape) :=
 chk (in64 (b_ - a_)) (chk (in64 ((b_ - a_) + 1)) ((F_made_Tape_Next t_ ((b_ - a_) + 1)).bind fun y2 => chk (in64 (a_ + y2.1)) (some ((a_ + y2.1), y2.2))))
def mc_made_Tape_Between : MC :=
 (.seq (.reg [mo (.mv (.c (.int .i64 0))) 6])
 (.seq (.reg [mo (.mv (.t 1)) 7,
 mo (.mv (.t 0)) 8,
 mo (.mv (.t 2)) 9,
 mo (.mv (.t 1)) 10,
 mo (.bin true .sub (.t 9) (.t 10)) 11,
 mo (.bin true .add (.t 11) (.c (.int .i64 1))) 12,
 mo (.call (.f 8) [(.t 8),(.t 12)] [1000] []) 13,
 mo (.bin true .add (.t 7) (.t 13)) 14,
 mo (.mv (.t 14)) 6])
 .ret))
theorem ok_made_Tape_Between : mc_made_Tape_Between.ok Tryz.prog Tryz.f9.ntmps (Tryz.f9.body.getD .skip) = true := by kernel_rfl
theorem Wq_made_Tape_Between (t_ : GTape) (a_ : Int) (b_ : Int) {Q : Int × GTape → Prop} {Q' : V → Heap → Prop} (h : Ok (F_made_Tape_Between t_ a_ b_) Q) (hQ : ∀ z, Q z → Q' (.int .i64 z.1) [(1000, .cells [.sl (z.2.L.map (V.int .i64)), .int .i64 z.2.at_])]) : ACall Tryz.prog 9 [.ptr 1000 0, .int .i64 a_, .int .i64 b_] [(1000, .cells [.sl (t_.L.map (V.int .i64)), .int .i64 t_.at_])] Q' := by
 refine acall_machN [] [1000] [.t 6] Tryz.func9 rfl (by kernel_rfl) ok_made_Tape_Between (by kernel_rfl) rfl rfl fun M hf => ?_
 clear hf
 unfold F_made_Tape_Between at h
 unfold mc_made_Tape_Between
 (try replace h := tH h)
 refine tB ?_
 repeat' (first
 |(exact hQ _ h)
 |(exact trivial)
 |(exact False.elim h)
 |(have hq := hQ _ h; replace hq := tH hq; exact hq)
 |((first | refine oblg h ?_ | refine roomG h ?_ | refine fork h ?_ ?_ | refine forkS h ?_ ?_) <;> clear h <;> intro hc h)
 |(refine And.intro (chkD_of rfl) ?_)
 |(obtain ⟨y, hy, h⟩ := h; have hw := W_made_Tape_Next hy; (try replace hw := tH hw); (first | (refine sCall_of hw rfl rfl ?_; rw [M.lok_eq]) | (refine sCallD_of hw rfl rfl ?_; rw [M.lokD_eq])); clear hw; clear hy; refine tB ?_)
 |(refine ⟨_, getE_map (inb_toNat (by assumption)), ?_⟩; (first | rw [M.lok_compU] | rw [M.lokD_compU]); refine tB ?_)
 |(refine And.intro (ltb_of (by assumption)) ?_)
 |(refine And.intro (inb_nat (by assumption)) ?_)
 |(refine And.intro (by omega) ?_)
   | fail)
theorem W_made_Tape_Between : ∀ {t_ : GTape} {a_ : Int} {b_ : Int} {y : Int × GTape}, F_made_Tape_Between t_ a_ b_ = some y → ACall Tryz.prog 9 [.ptr 1000 0, .int .i64 a_, .int .i64 b_] [(1000, .cells [.sl (t_.L.map (V.int .i64)), .int .i64 t_.at_])] (fun r H => r = .int .i64 y.1 ∧ H = [(1000, .cells [.sl (y.2.L.map (V.int .i64)), .int .i64 y.2.at_])]) :=
 fun hy => Wq_made_Tape_Between _ _ _ (Q := (· = _)) ⟨_, hy, rfl⟩ fun | _, rfl => ⟨rfl, rfl⟩
def F_made_Pick (t_ : GTape) (l_ : List Int) : Option (Int × GTape) :=
 (F_made_Tape_Next t_ (l_.length : Int)).bind fun y2 => chk (inb y2.1 l_.length) (some ((l_.getD (y2.1).toNat default), y2.2))
def mc_made_Pick : MC :=
 (.seq (.reg [mo (.mv (.c (.int .i64 0))) 4])
 (.seq (.reg [mo (.mv (.t 1)) 5,
 mo (.mv (.t 0)) 6,
 mo (.mv (.t 1)) 7,
 mo (.len false (.t 7)) 8,
 mo (.call (.f 8) [(.t 6),(.t 8)] [1000] []) 9,
 mo (.iad 1 (.t 5) (.t 9)) 10,
 mo (.ld none (.t 10)) 11,
 mo (.mv (.t 11)) 4])
 .ret))
theorem ok_made_Pick : mc_made_Pick.ok Tryz.prog Tryz.f24.ntmps (Tryz.f24.body.getD .skip) = true := by kernel_rfl
theorem Wq_made_Pick (t_ : GTape) (l_ : List Int) {Q : Int × GTape → Prop} {Q' : V → Heap → Prop} (h : Ok (F_made_Pick t_ l_) Q) (hQ : ∀ z, Q z → Q' (.int .i64 z.1) [(1000, .cells [.sl (z.2.L.map (V.int .i64)), .int .i64 z.2.at_])]) : ACall Tryz.prog 24 [.ptr 1000 0, .sl (l_.map (V.int .i64))] [(1000, .cells [.sl (t_.L.map (V.int .i64)), .int .i64 t_.at_])] Q' := by
 refine acall_machN [] [1000] [.t 4] Tryz.func24 rfl (by kernel_rfl) ok_made_Pick (by kernel_rfl) rfl rfl fun M hf => ?_
 clear hf
 unfold F_made_Pick at h
 unfold mc_made_Pick
 (try replace h := tH h)
 refine tB ?_
 repeat' (first
 |(exact hQ _ h)
 |(exact trivial)
 |(exact False.elim h)
 |(have hq := hQ _ h; replace hq := tH hq; exact hq)
 |((first | refine oblg h ?_ | refine roomG h ?_ | refine fork h ?_ ?_ | refine forkS h ?_ ?_) <;> clear h <;> intro hc h)
 |(refine And.intro (chkD_of rfl) ?_)
 |(obtain ⟨y, hy, h⟩ := h; have hw := W_made_Tape_Next hy; (try replace hw := tH hw); (first | (refine sCall_of hw rfl rfl ?_; rw [M.lok_eq]) | (refine sCallD_of hw rfl rfl ?_; rw [M.lokD_eq])); clear hw; clear hy; refine tB ?_)
 |(refine ⟨_, getE_map (inb_toNat (by assumption)), ?_⟩; (first | rw [M.lok_compU] | rw [M.lokD_compU]); refine tB ?_)
 |(refine And.intro (ltb_of (by assumption)) ?_)
 |(refine And.intro (inb_nat (by assumption)) ?_)
 |(refine And.intro (by omega) ?_)
   | fail)
theorem W_made_Pick : ∀ {t_ : GTape} {l_ : List Int} {y : Int × GTape}, F_made_Pick t_ l_ = some y → ACall Tryz.prog 24 [.ptr 1000 0, .sl (l_.map (V.int .i64))] [(1000, .cells [.sl (t_.L.map (V.int .i64)), .int .i64 t_.at_])] (fun r H => r = .int .i64 y.1 ∧ H = [(1000, .cells [.sl (y.2.L.map (V.int .i64)), .int .i64 y.2.at_])]) :=
 fun hy => Wq_made_Pick _ _ (Q := (· = _)) ⟨_, hy, rfl⟩ fun | _, rfl => ⟨rfl, rfl⟩
noncomputable def F_made_Clock_L1 (n_ : Int) (x29 : Int × Int × (List Int) × GTape) : Option (Fl (Int × Int × (List Int) × GTape) ((List Int) × GTape)) :=
 bif decide (x29.2.1 < n_) then (F_made_Tape_Next x29.2.2.2 3).bind fun y37 => chk (in64 (x29.1 + y37.1)) (chk (room (x29.2.2.1.length + [(x29.1 + y37.1)].length) 8) (chk (in64 (x29.2.1 + 1)) (some (.nx ((x29.1 + y37.1), (x29.2.1 + 1), (x29.2.2.1 ++ [(x29.1 + y37.1)]), y37.2))))) else some (.ex (x29.2.2.1, x29.2.2.2))
noncomputable def F_made_Clock (t_ : GTape) (n_ : Int) : Option ((List Int) × GTape) :=
 (F_made_Tape_Next t_ 4).bind fun y2 => (loop (F_made_Clock_L1 n_) (y2.1,0,[], y2.2)).bind fun r38 => some (r38.1, r38.2)
@[irreducible] def mc_made_Clock_L1 : MC :=
 (.seq (.seq (.reg [mo (.mv (.t 7)) 10,
 mo (.mv (.t 1)) 11,
 mo (.bin false .lss (.t 10) (.t 11)) 12])
 (.cond (.t 12)
 .skip
 (.exit 0)))
 (.seq (.block 1
 (.seq (.reg [mo (.mv (.t 6)) 15,
 mo (.mv (.t 0)) 16,
 mo (.call (.f 8) [(.t 16),(.c (.int .i64 3))] [1000] []) 17,
 mo (.bin true .add (.t 15) (.t 17)) 18,
 mo (.mv (.t 18)) 6])
 (.reg [mo (.mv (.t 5)) 19,
 mo (.mv (.t 6)) 20,
 mo (.bslice 1 [(.t 20)]) 21,
 mo (.app 1 8 (.t 19) (.t 21)) 22,
 mo (.mv (.t 22)) 5])))
 (.note (.gc [0,1,5,6,7]) (.reg [mo (.mv (.t 7)) 13,
 mo (.bin true .add (.t 13) (.c (.int .i64 1))) 14,
 mo (.mv (.t 14)) 7]))))
def mc_made_Clock : MC :=
 (.seq (.reg [mo (.mv (.c (.sl []))) 4])
 (.seq (.reg [mo (.mv (.c .nils)) 5])
 (.seq (.reg [mo (.mv (.t 0)) 8,
 mo (.call (.f 8) [(.t 8),(.c (.int .i64 4))] [1000] []) 9,
 mo (.mv (.t 9)) 6])
 (.seq (.seq (.reg [mo (.mv (.c (.int .i64 0))) 7])
 (.block 0
 (.loop mc_made_Clock_L1)))
 (.seq (.reg [mo (.mv (.t 5)) 23,
 mo (.mv (.t 23)) 4])
 .ret)))))
theorem ok_made_Clock : mc_made_Clock.ok Tryz.prog Tryz.f25.ntmps (Tryz.f25.body.getD .skip) = true := by kernel_rfl
theorem Wq_made_Clock (t_ : GTape) (n_ : Int) {Q : (List Int) × GTape → Prop} {Q' : V → Heap → Prop} (h : Ok (F_made_Clock t_ n_) Q) (hQ : ∀ z, Q z → Q' (.sl (z.1.map (V.int .i64))) [(1000, .cells [.sl (z.2.L.map (V.int .i64)), .int .i64 z.2.at_])]) : ACall Tryz.prog 25 [.ptr 1000 0, .int .i64 n_] [(1000, .cells [.sl (t_.L.map (V.int .i64)), .int .i64 t_.at_])] Q' := by
 refine acall_machN [.fz 4] [1000] [.t 4] Tryz.func25 rfl (by kernel_rfl) ok_made_Clock (by kernel_rfl) rfl rfl fun M hf => ?_
 clear hf
 unfold F_made_Clock at h
 unfold mc_made_Clock
 (try replace h := tH h)
 refine tB ?_
 repeat' (first
 |(exact hQ _ h)
 |(exact trivial)
 |(exact False.elim h)
 |(have hq := hQ _ h; replace hq := tH hq; exact hq)
 |((first | refine oblg h ?_ | refine roomG h ?_ | refine fork h ?_ ?_ | refine forkS h ?_ ?_) <;> clear h <;> intro hc h)
 |(refine And.intro (chkD_of rfl) ?_)
 |(obtain ⟨y, hy, h⟩ := h; have hw := W_made_Tape_Next hy; (try replace hw := tH hw); (first | (refine sCall_of hw rfl rfl ?_; rw [M.lok_eq]) | (refine sCallD_of hw rfl rfl ?_; rw [M.lokD_eq])); clear hw; clear hy; refine tB ?_)
 |(refine M.wh1 (b := mc_made_Clock_L1) [0,1] [] (fun x => [(5, .osl 2005 1 0 x.2.2.1.length), (6, .int .i64 x.1), (7, .int .i64 x.2.1)]) (fun x => [.o 2005 (.arr 1 (x.2.2.1.map (V.int .i64))), .o 1000 (.cells [.sl (x.2.2.2.L.map (V.int .i64)), .int .i64 x.2.2.2.at_])]) [.gc [0,1,5,6,7], .acc 5 2005 1] h ?_ ?_ <;> first
  |(clear h; intro x Qn K hK1 h; unfold F_made_Clock_L1 at h; unfold mc_made_Clock_L1; (try replace h := tH h); refine tB ?_)
  |(clear h; (try refine tB ?_); exact tU0; done)
      | fail)
 |(refine hK1 _ ?_; (try refine tB ?_); refine ⟨_, h, ?_⟩; exact tU0; done)
 |(refine ⟨_, getE_map (inb_toNat (by assumption)), ?_⟩; (first | rw [M.lok_compU] | rw [M.lokD_compU]); refine tB ?_)
 |(refine And.intro (ltb_of (by assumption)) ?_)
 |(refine And.intro (inb_nat (by assumption)) ?_)
 |(refine And.intro (by omega) ?_)
   | fail)
theorem W_made_Clock : ∀ {t_ : GTape} {n_ : Int} {y : (List Int) × GTape}, F_made_Clock t_ n_ = some y → ACall Tryz.prog 25 [.ptr 1000 0, .int .i64 n_] [(1000, .cells [.sl (t_.L.map (V.int .i64)), .int .i64 t_.at_])] (fun r H => r = .sl (y.1.map (V.int .i64)) ∧ H = [(1000, .cells [.sl (y.2.L.map (V.int .i64)), .int .i64 y.2.at_])]) :=
 fun hy => Wq_made_Clock _ _ (Q := (· = _)) ⟨_, hy, rfl⟩ fun | _, rfl => ⟨rfl, rfl⟩
noncomputable def F_made_Directory_L1 (x21 : Int × (List Int) × GTape) : Option (Fl (Int × (List Int) × GTape) ((List Int) × GTape)) :=
 bif decide (0 < x21.1) then (F_made_Pick x21.2.2 [2,2,1,3]).bind fun y25 => chk (room (x21.2.1.length + [y25.1].length) 8) (chk (in64 (x21.1 - 1)) (some (.nx ((x21.1 - 1), (x21.2.1 ++ [y25.1]), y25.2)))) else some (.ex (x21.2.1, x21.2.2))
noncomputable def F_made_Directory_L2 (k42 : Int) (a43 : Int) (x41 : List Int) : Option (List Int) :=
 bif decide (a43 = 2) then chk (room (x41.length + [k42].length) 8) (some (x41 ++ [k42])) else some x41
noncomputable def F_made_Directory_L3 (r26 : (List Int) × GTape) (x44 : List Int) (k166 : Int) (a167 : Int) (x165 : (List GMember) × GTape) : Option ((List GMember) × GTape) :=
 (F_made_Tape_Next x165.2 (r26.1.length : Int)).bind fun y191 => (F_made_Tape_Next y191.2 (x44.length : Int)).bind fun y192 => chk (inb y192.1 x44.length) (jn (α := GMember × GTape) ((F_made_Tape_Next y192.2 4).bind fun y197 => bif decide (y197.1 = 3) then some ((GMember.mk a167 2 y191.1 (x44.getD ((y192.1).toNat) default)), y197.2) else some ((GMember.mk a167 1 y191.1 (x44.getD ((y192.1).toNat) default)), y197.2)) fun j195 => bif (!decide (j195.1.Principal = j195.1.Group)) then chk (room (x165.1.length + [j195.1].length) 32) (some ((x165.1 ++ [j195.1]), j195.2)) else some (x165.1, j195.2))
noncomputable def F_made_Directory (t_ : GTape) : Option (GDirectory × GTape) :=
 (F_made_Tape_Between t_ 2 6).bind fun y14 => (loop F_made_Directory_L1 (y14.1,[1], y14.2)).bind fun r26 => (foldL F_made_Directory_L2 r26.1 0 []).bind fun x44 => bif decide ((x44.length : Int) = 0) then some ((GDirectory.mk r26.1 []), r26.2) else (F_made_Tape_Next r26.2 12).bind fun y116 => (F_made_Clock y116.2 y116.1).bind fun y117 => (foldL (F_made_Directory_L3 r26 x44) y117.1 0 ([], y117.2)).bind fun x198 => some ((GDirectory.mk r26.1 x198.1), x198.2)
@[irreducible] def mc_made_Directory_L1 : MC :=
 (.seq (.seq (.reg [mo (.mv (.t 4)) 15,
 mo (.bin false .gtr (.t 15) (.c (.int .i64 0))) 16])
 (.cond (.t 16)
 .skip
 (.exit 0)))
 (.seq (.block 1
 (.regD [mo (.fad 0 (.t 3)) 19,
 mo (.ld none (.t 19)) 20,
 mo (.mv (.t 0)) 21,
 mo (.lsl 1 [(.c (.int .i64 2)),(.c (.int .i64 2)),(.c (.int .i64 1)),(.c (.int .i64 3))]) 22,
 mo (.call (.f 24) [(.t 21),(.t 22)] [1000] []) 23,
 mo (.bslice 1 [(.t 23)]) 24,
 mo (.app 1 8 (.t 20) (.t 24)) 25,
 mo (.fad 0 (.t 3)) 26,
 ⟨.st 1 (.t 26) (.t 25), none, none⟩]
 [[],[0],[],[],[2,3],[4],[1,5,4],[0,1,2,3,4,5,6],[7,6,6,0,1,2,3,4,5,6]]
 [[],[0],[],[],[2,3],[2,3,4],[0,1,2,3,4,5],[0,1,2,3,4,5,6],[0,1,2,3,4,5,6,7]]))
 (.note (.gc [0,2,3,4]) (.reg [mo (.mv (.t 4)) 17,
 mo (.bin true .sub (.t 17) (.c (.int .i64 1))) 18,
 mo (.mv (.t 18)) 4]))))
@[irreducible] def mc_made_Directory_L2 : MC :=
 (.seq (.reg [mo (.bin false .lss (.t 30) (.t 29)) 31])
 (.seq (.cond (.t 31)
 .skip
 (.exit 2))
 (.seq (.block 3
 (.seq (.reg [mo (.mv (.t 30)) 32,
 mo (.iad 1 (.t 28) (.t 30)) 33,
 mo (.ld none (.t 33)) 34,
 mo (.mv (.t 32)) 6,
 mo (.mv (.t 34)) 7])
 (.seq (.reg [mo (.mv (.t 7)) 35,
 mo (.bin false .eql (.t 35) (.c (.int .i64 2))) 36])
 (.cond (.t 36)
 (.reg [mo (.mv (.t 5)) 37,
 mo (.mv (.t 6)) 38,
 mo (.bslice 1 [(.t 38)]) 39,
 mo (.app 1 8 (.t 37) (.t 39)) 40,
 mo (.mv (.t 40)) 5])
 .skip))))
 (.reg [mo (.bin true .add (.t 30) (.c (.int .i64 1))) 41,
 mo (.mv (.t 41)) 30]))))
@[irreducible] def mc_made_Directory_J1 : MC :=
 (.seq (.reg [mo (.fad 2 (.t 10)) 73,
 mo (.ld none (.t 73)) 74,
 mo (.fad 3 (.t 10)) 75,
 mo (.ld none (.t 75)) 76,
 mo (.bin false .neq (.t 74) (.t 76)) 77])
 (.cond (.t 77)
 (.reg [mo (.fad 1 (.t 3)) 78,
 mo (.ld none (.t 78)) 79,
 mo (.ld (some 4) (.t 10)) 80,
 mo (.bslice 4 [(.t 80)]) 81,
 mo (.app 4 32 (.t 79) (.t 81)) 82,
 mo (.fad 1 (.t 3)) 83,
 ⟨.st 1 (.t 83) (.t 82), none, none⟩])
 .skip))
@[irreducible] def mc_made_Directory_L3 : MC :=
 (.seq (.reg [mo (.bin false .lss (.t 51) (.t 50)) 52])
 (.seq (.cond (.t 52)
 .skip
 (.exit 4))
 (.seq (.block 5
 (.seq (.reg [mo (.iad 1 (.t 49) (.t 51)) 53,
 mo (.ld none (.t 53)) 54,
 mo (.mv (.t 54)) 9])
 (.seq (.reg [mo (.mv (.t 9)) 55,
 mo (.mv (.t 0)) 56,
 mo (.fad 0 (.t 3)) 57,
 mo (.ld none (.t 57)) 58,
 mo (.len false (.t 58)) 59,
 mo (.call (.f 8) [(.t 56),(.t 59)] [1000] []) 60,
 mo (.mv (.t 5)) 61,
 mo (.mv (.t 0)) 62,
 mo (.mv (.t 5)) 63,
 mo (.len false (.t 63)) 64,
 mo (.call (.f 8) [(.t 62),(.t 64)] [1000] []) 65,
 mo (.iad 1 (.t 61) (.t 65)) 66,
 mo (.ld none (.t 66)) 67,
 mo (.build [(.int .i64 0),(.int .i64 0),(.int .i64 0),(.int .i64 0)] [(0,1,(.t 55)), (1,1,(.c (.int .i64 1))), (2,1,(.t 60)), (3,1,(.t 67))]) 68,
 mo (.alloc [(.int .i64 0),(.int .i64 0),(.int .i64 0),(.int .i64 0)]) 10,
 ⟨.st 4 (.t 10) (.t 68), none, none⟩])
 (.cut (.seq (.note (.gc [0,2,3,5,10,49,50,51]) (.reg [mo (.mv (.t 0)) 69,
 mo (.call (.f 8) [(.t 69),(.c (.int .i64 4))] [1000] []) 70,
 mo (.bin false .eql (.t 70) (.c (.int .i64 3))) 71]))
 (.cond (.t 71)
 (.reg [mo (.fad 1 (.t 10)) 72,
 ⟨.st 1 (.t 72) (.c (.int .i64 2)), none, none⟩])
 .skip))
 mc_made_Directory_J1))))
 (.reg [mo (.bin true .add (.t 51) (.c (.int .i64 1))) 84,
 mo (.mv (.t 84)) 51]))))
def mc_made_Directory : MC :=
 (.seq (.reg [mo (.alloc [(.sl []),(.sl [])]) 2])
 (.seq (.reg [mo (.bslice 1 [(.c (.int .i64 1))]) 11,
 mo (.build [.nils, .nils] [(0,1,(.t 11))]) 12,
 mo (.alloc [(.sl []),(.sl [])]) 3,
 ⟨.st 2 (.t 3) (.t 12), none, none⟩])
 (.seq (.seq (.reg [mo (.mv (.t 0)) 13,
 mo (.call (.f 9) [(.t 13),(.c (.int .i64 2)),(.c (.int .i64 6))] [1000] []) 14,
 mo (.mv (.t 14)) 4])
 (.block 0
 (.loop mc_made_Directory_L1)))
 (.seq (.reg [mo (.mv (.c .nils)) 5])
 (.seq (.seq (.reg [mo (.fad 0 (.t 3)) 27,
 mo (.ld none (.t 27)) 28,
 mo (.len false (.t 28)) 29,
 mo (.mv (.c (.int .i64 0))) 30])
 (.block 2
 (.loop mc_made_Directory_L2)))
 (.seq (.seq (.reg [mo (.mv (.t 5)) 42,
 mo (.len false (.t 42)) 43,
 mo (.bin false .eql (.t 43) (.c (.int .i64 0))) 44])
 (.cond (.t 44)
 (.seq (.reg [mo (.ld (some 2) (.t 3)) 45,
 ⟨.st 2 (.t 2) (.t 45), none, none⟩])
 .ret)
 .skip))
 (.seq (.seq (.reg [mo (.mv (.t 0)) 46,
 mo (.mv (.t 0)) 47,
 mo (.call (.f 8) [(.t 47),(.c (.int .i64 12))] [1000] []) 48,
 mo (.call (.f 25) [(.t 46),(.t 48)] [1000] []) 49,
 mo (.len false (.t 49)) 50,
 mo (.mv (.c (.int .i64 0))) 51])
 (.block 4
 (.loop mc_made_Directory_L3)))
 (.seq (.reg [mo (.ld (some 2) (.t 3)) 85,
 ⟨.st 2 (.t 2) (.t 85), none, none⟩])
 .ret))))))))
theorem ok_made_Directory : mc_made_Directory.ok Tryz.prog Tryz.f6.ntmps (Tryz.f6.body.getD .skip) = true := by kernel_rfl
theorem Wq_made_Directory (t_ : GTape) {Q : GDirectory × GTape → Prop} {Q' : V → Heap → Prop} (h : Ok (F_made_Directory t_) Q) (hQ : ∀ z, Q z → Q' (GDirectory.v z.1) [(1000, .cells [.sl (z.2.L.map (V.int .i64)), .int .i64 z.2.at_])]) : ACall Tryz.prog 6 [.ptr 1000 0] [(1000, .cells [.sl (t_.L.map (V.int .i64)), .int .i64 t_.at_])] Q' := by
 refine acall_machN [.fzc 2] [1000] [.c 2 (some 2)] Tryz.func6 rfl (by kernel_rfl) ok_made_Directory (by kernel_rfl) rfl rfl fun M hf => ?_
 clear hf
 unfold F_made_Directory at h
 unfold mc_made_Directory
 (try replace h := tH h)
 refine tB ?_
 repeat' (first
 |(exact hQ _ h)
 |(exact trivial)
 |(exact False.elim h)
 |(have hq := hQ _ h; replace hq := tH hq; exact hq)
 |((first | refine oblg h ?_ | refine roomG h ?_ | refine fork h ?_ ?_ | refine forkS h ?_ ?_) <;> clear h <;> intro hc h)
 |(refine And.intro (chkD_of rfl) ?_)
 |(obtain ⟨y, hy, h⟩ := h; (first | with_reducible first | have hw := W_made_Tape_Between hy | have hw := W_made_Pick hy | have hw := W_made_Tape_Next hy | have hw := W_made_Clock hy); (try replace hw := tH hw); (first | (refine sCall_of hw rfl rfl ?_; rw [M.lok_eq]) | (refine sCallD_of hw rfl rfl ?_; rw [M.lokD_eq])); clear hw; clear hy; refine tB ?_)
 |(refine M.wh1 (b := mc_made_Directory_L1) [0,2,3] [3,2] (fun x => [(4, .int .i64 x.1)]) (fun x => [.p 3 0 [.osl 4048 1 0 x.2.1.length], .o 4048 (.arr 1 (x.2.1.map (V.int .i64))), .o 1000 (.cells [.sl (x.2.2.L.map (V.int .i64)), .int .i64 x.2.2.at_])]) [.gc [0,2,3,4], .ownC 3 0 4048 1 none] h ?_ ?_ <;> first
  |(clear h; intro x Qn K hK1 h; unfold F_made_Directory_L1 at h; unfold mc_made_Directory_L1; (try replace h := tH h); refine tB ?_)
  |(clear h; (try refine tB ?_); exact tU0; done)
      | fail)
 |(refine M.fold1 (b := mc_made_Directory_L2) 30 [0,2,3,28,29] [4048,3,2,1000] (fun x => [(5, .osl 2005 1 0 x.length)]) (fun x => [.o 2005 (.arr 1 (x.map (V.int .i64)))]) [.gc [0,2,3,5,28,29,30], .acc 5 2005 1] h ?_ ?_ ?_ <;> first
  |(clear h; intro k a x Qn K hK2 hkN2 ha2 h hf; have hl := fact_int (factsE_find (n := 29) hf.1 rfl); clear hf; have hkd := kD hkN2; have hkB2 := kB hkN2; have hkI2 := kI (k := k) (by omega); unfold F_made_Directory_L2 at h; unfold mc_made_Directory_L2; (try replace h := tH h); refine tK ha2 hkd hkN2 hkB2 hkI2 ?_)
  |(clear h; intro x K h; replace h := And.left (And.intro h trivial); unfold mc_made_Directory_L2; (try replace h := tH h); refine tB ?_)
  |(clear h; (try refine tB ?_); exact tU0; done)
      | fail)
 |(refine M.jn1 (b := mc_made_Directory_J1) [0,2,3,5,10,49,50,51] [2005,3,4048,4049,2] (fun y => []) (fun y => [.o 10 (.cells [.int .i64 y.1.Time, .int .i64 y.1.Kind, .int .i64 y.1.Principal, .int .i64 y.1.Group]), .o 1000 (.cells [.sl (y.2.L.map (V.int .i64)), .int .i64 y.2.at_])]) [] h ?_ ?_ <;> first
  |(clear h; intro Qn K hK3 h; (try replace h := tH h); refine tB ?_)
  |(clear h; intro y h; unfold mc_made_Directory_J1; (try replace h := tH h); refine tB ?_)
      | fail)
 |(refine M.fold1 (b := mc_made_Directory_L3) 51 [0,2,3,5,49,50] [2005,3,4048,2] (fun x => []) (fun x => [.p 3 1 [.osl 4049 4 0 x.1.length], .o 4049 (.arr 4 (x.1.map GMember.v)), .o 1000 (.cells [.sl (x.2.L.map (V.int .i64)), .int .i64 x.2.at_])]) [.gc [0,2,3,5,49,50,51], .ownC 3 1 4049 4 none] h ?_ ?_ ?_ <;> first
  |(clear h; intro k a x Qn K hK4 hkN4 ha4 h hf; have hl := fact_int (factsE_find (n := 50) hf.1 rfl); clear hf; have hkd := kD hkN4; have hkB4 := kB hkN4; have hkI4 := kI (k := k) (by omega); unfold F_made_Directory_L3 at h; unfold mc_made_Directory_L3; (try replace h := tH h); refine tK ha4 hkd hkN4 hkB4 hkI4 ?_)
  |(clear h; intro x K h; replace h := And.left (And.intro h trivial); unfold mc_made_Directory_L3; (try replace h := tH h); refine tB ?_)
  |(clear h; (try refine tB ?_); exact tU0; done)
      | fail)
 |(refine And.intro (by first | exact hkI2 | exact hkN2 | exact hkB2 | exact hkI4 | exact hkN4 | exact hkB4) ?_)
 |(first | simp only [ha2] | simp only [ha4])
 |((first | refine hK1 _ ?_ | refine hK2 _ ?_ | refine hK3 _ ?_ | refine hK4 _ ?_); (try refine tB ?_); refine ⟨_, h, ?_⟩; exact tU0; done)
 |(refine ⟨_, getE_map (inb_toNat (by assumption)), ?_⟩; (first | rw [M.lok_compU] | rw [M.lokD_compU]); refine tB ?_)
 |(refine And.intro (ltb_of (by assumption)) ?_)
 |(refine And.intro (inb_nat (by assumption)) ?_)
 |(refine And.intro (by omega) ?_)
   | fail)
theorem W_made_Directory : ∀ {t_ : GTape} {y : GDirectory × GTape}, F_made_Directory t_ = some y → ACall Tryz.prog 6 [.ptr 1000 0] [(1000, .cells [.sl (t_.L.map (V.int .i64)), .int .i64 t_.at_])] (fun r H => r = GDirectory.v y.1 ∧ H = [(1000, .cells [.sl (y.2.L.map (V.int .i64)), .int .i64 y.2.at_])]) :=
 fun hy => Wq_made_Directory _ (Q := (· = _)) ⟨_, hy, rfl⟩ fun | _, rfl => ⟨rfl, rfl⟩
noncomputable def F_made_Estate_L1 (d_ : GDirectory) (k208 : Int) (a209 : Int) (x207 : Int × (List GAccess) × GTape) : Option (Int × (List GAccess) × GTape) :=
 (F_made_Pick x207.2.2 [1,1,2,3,4,5,5,6,7,7]).bind fun y251 => (F_made_Tape_Next y251.2 x207.1).bind fun y252 => jn (α := Fl (GAccess × GTape) GTape) (jn (α := Bool) (bif decide (y251.1 = 1) then some true else some (decide (y251.1 = 2))) fun j261 => bif j261 then chk (in64 ((d_.Kinds.length : Int) + 1)) ((F_made_Tape_Next y252.2 ((d_.Kinds.length : Int) + 1)).bind fun y262 => some (.nx ((GAccess.mk a209 y251.1 y252.1 y262.1 0 0 0), y262.2))) else bif decide (y251.1 = 3) then chk (in64 (a209 + 1)) ((F_made_Tape_Next y252.2 5).bind fun y263 => chk (in64 ((a209 + 1) + y263.1)) (some (.nx ((GAccess.mk a209 y251.1 y252.1 0 ((a209 + 1) + y263.1) 0 0), y263.2)))) else jn (α := Bool) (bif decide (y251.1 = 5) then some true else some (decide (y251.1 = 6))) fun j264 => bif j264 then (F_made_Tape_Next y252.2 3).bind fun y265 => some (.nx ((GAccess.mk a209 y251.1 y252.1 0 0 y265.1 0), y265.2)) else bif decide (y251.1 = 7) then (F_made_Tape_Next y252.2 x207.1).bind fun y267 => bif decide (y267.1 = y252.1) then some (.ex y267.2) else some (.nx ((GAccess.mk a209 y251.1 y252.1 0 0 0 y267.1), y267.2)) else some (.nx ((GAccess.mk a209 y251.1 y252.1 0 0 0 0), y252.2))) fun o => o.elim (fun j260 => chk (room (x207.2.1.length + [j260.1].length) 56) (some (x207.1, (x207.2.1 ++ [j260.1]), j260.2))) (fun r268 => some (x207.1, x207.2.1, r268))
noncomputable def F_made_Estate (t_ : GTape) (d_ : GDirectory) : Option (GEstate × GTape) :=
 (F_made_Tape_Between t_ 1 4).bind fun y2 => (F_made_Tape_Next y2.2 16).bind fun y122 => (F_made_Clock y122.2 y122.1).bind fun y123 => (foldL (F_made_Estate_L1 d_) y123.1 0 (y2.1,[], y123.2)).bind fun x269 => some ((GEstate.mk x269.1 x269.2.1), x269.2.2)
@[irreducible] def mc_made_Estate_J1 : MC :=
 (.cond (.t 50)
 (.reg [mo (.mv (.t 0)) 53,
 mo (.call (.f 8) [(.t 53),(.c (.int .i64 3))] [1000] []) 54,
 mo (.fad 5 (.t 8)) 55,
 ⟨.st 1 (.t 55) (.t 54), none, none⟩])
 (.seq (.reg [mo (.bin false .eql (.t 31) (.c (.int .i64 7))) 57,
 mo (.mv (.t 57)) 56])
 (.cond (.t 56)
 (.seq (.reg [mo (.mv (.t 0)) 58,
 mo (.fad 0 (.t 5)) 59,
 mo (.ld none (.t 59)) 60,
 mo (.call (.f 8) [(.t 58),(.t 60)] [1000] []) 61,
 mo (.fad 6 (.t 8)) 62,
 ⟨.st 1 (.t 62) (.t 61), none, none⟩])
 (.seq (.note (.gc [0,3,4,5,8,15,16,17]) (.reg [mo (.fad 6 (.t 8)) 63,
 mo (.ld none (.t 63)) 64,
 mo (.fad 2 (.t 8)) 65,
 mo (.ld none (.t 65)) 66,
 mo (.bin false .eql (.t 64) (.t 66)) 67]))
 (.cond (.t 67)
 (.exit 1)
 .skip)))
 .skip)))
@[irreducible] def mc_made_Estate_J2 : MC :=
 (.cond (.t 32)
 (.reg [mo (.mv (.t 0)) 35,
 mo (.fad 0 (.t 3)) 36,
 mo (.ld none (.t 36)) 37,
 mo (.len false (.t 37)) 38,
 mo (.bin true .add (.t 38) (.c (.int .i64 1))) 39,
 mo (.call (.f 8) [(.t 35),(.t 39)] [1000] []) 40,
 mo (.fad 3 (.t 8)) 41,
 ⟨.st 1 (.t 41) (.t 40), none, none⟩])
 (.seq (.reg [mo (.bin false .eql (.t 31) (.c (.int .i64 3))) 43,
 mo (.mv (.t 43)) 42])
 (.cond (.t 42)
 (.reg [mo (.mv (.t 7)) 44,
 mo (.bin true .add (.t 44) (.c (.int .i64 1))) 45,
 mo (.mv (.t 0)) 46,
 mo (.call (.f 8) [(.t 46),(.c (.int .i64 5))] [1000] []) 47,
 mo (.bin true .add (.t 45) (.t 47)) 48,
 mo (.fad 4 (.t 8)) 49,
 ⟨.st 1 (.t 49) (.t 48), none, none⟩])
 (.cut (.seq (.reg [mo (.bin false .eql (.t 31) (.c (.int .i64 5))) 51,
 mo (.mv (.t 51)) 50])
 (.cond (.t 50)
 .skip
 (.reg [mo (.bin false .eql (.t 31) (.c (.int .i64 6))) 52,
 mo (.mv (.t 52)) 50])))
 mc_made_Estate_J1))))
@[irreducible] def mc_made_Estate_J3 : MC :=
 (.reg [mo (.fad 1 (.t 5)) 68,
 mo (.ld none (.t 68)) 69,
 mo (.ld (some 7) (.t 8)) 70,
 mo (.bslice 7 [(.t 70)]) 71,
 mo (.app 7 56 (.t 69) (.t 71)) 72,
 mo (.fad 1 (.t 5)) 73,
 ⟨.st 1 (.t 73) (.t 72), none, none⟩])
@[irreducible] def mc_made_Estate_L1 : MC :=
 (.seq (.reg [mo (.bin false .lss (.t 17) (.t 16)) 18])
 (.seq (.cond (.t 18)
 .skip
 (.exit 0))
 (.seq (.block 1
 (.seq (.reg [mo (.iad 1 (.t 15) (.t 17)) 19,
 mo (.ld none (.t 19)) 20,
 mo (.mv (.t 20)) 7])
 (.seq (.regD [mo (.mv (.t 7)) 21,
 mo (.mv (.t 0)) 22,
 mo (.lsl 1 [(.c (.int .i64 1)),(.c (.int .i64 1)),(.c (.int .i64 2)),(.c (.int .i64 3)),(.c (.int .i64 4)),(.c (.int .i64 5)),(.c (.int .i64 5)),(.c (.int .i64 6)),(.c (.int .i64 7)),(.c (.int .i64 7))]) 23,
 mo (.call (.f 24) [(.t 22),(.t 23)] [1000] []) 24,
 mo (.mv (.t 0)) 25,
 mo (.fad 0 (.t 5)) 26,
 mo (.ld none (.t 26)) 27,
 mo (.call (.f 8) [(.t 25),(.t 27)] [1000] []) 28,
 mo (.build [(.int .i64 0),(.int .i64 0),(.int .i64 0),(.int .i64 0),(.int .i64 0),(.int .i64 0),(.int .i64 0)] [(0,1,(.t 21)), (1,1,(.t 24)), (2,1,(.t 28))]) 29,
 mo (.alloc [(.int .i64 0),(.int .i64 0),(.int .i64 0),(.int .i64 0),(.int .i64 0),(.int .i64 0),(.int .i64 0)]) 8,
 ⟨.st 7 (.t 8) (.t 29), none, none⟩]
 [[],[],[],[1,2],[],[],[5],[4,6,3],[0,3,7],[],[9,8,7,0,1,2,3,4,5,6,7,8,9]]
 [[],[],[],[1,2],[],[],[5],[1,2,3,4,5,6],[0,1,2,3,4,5,6,7],[],[0,1,2,3,4,5,6,7,8,9]])
 (.cut (.seq (.reg [mo (.fad 1 (.t 8)) 30,
 mo (.ld none (.t 30)) 31])
 (.block 2
 (.cut (.seq (.reg [mo (.bin false .eql (.t 31) (.c (.int .i64 1))) 33,
 mo (.mv (.t 33)) 32])
 (.cond (.t 32)
 .skip
 (.reg [mo (.bin false .eql (.t 31) (.c (.int .i64 2))) 34,
 mo (.mv (.t 34)) 32])))
 mc_made_Estate_J2)))
 mc_made_Estate_J3))))
 (.reg [mo (.bin true .add (.t 17) (.c (.int .i64 1))) 74,
 mo (.mv (.t 74)) 17]))))
def mc_made_Estate : MC :=
 (.seq (.reg [mo (.box (.t 1)) 3,
 mo (.alloc [(.int .i64 0),(.sl [])]) 4])
 (.seq (.reg [mo (.mv (.t 0)) 9,
 mo (.call (.f 9) [(.t 9),(.c (.int .i64 1)),(.c (.int .i64 4))] [1000] []) 10,
 mo (.build [(.int .i64 0), .nils] [(0,1,(.t 10))]) 11,
 mo (.alloc [(.int .i64 0),(.sl [])]) 5,
 ⟨.st 2 (.t 5) (.t 11), none, none⟩])
 (.seq (.seq (.reg [mo (.mv (.t 0)) 12,
 mo (.mv (.t 0)) 13,
 mo (.call (.f 8) [(.t 13),(.c (.int .i64 16))] [1000] []) 14,
 mo (.call (.f 25) [(.t 12),(.t 14)] [1000] []) 15,
 mo (.len false (.t 15)) 16,
 mo (.mv (.c (.int .i64 0))) 17])
 (.block 0
 (.loop mc_made_Estate_L1)))
 (.seq (.reg [mo (.ld (some 2) (.t 5)) 75,
 ⟨.st 2 (.t 4) (.t 75), none, none⟩])
 .ret))))
theorem ok_made_Estate : mc_made_Estate.ok Tryz.prog Tryz.f7.ntmps (Tryz.f7.body.getD .skip) = true := by kernel_rfl
theorem Wq_made_Estate (t_ : GTape) (d_ : GDirectory) {Q : GEstate × GTape → Prop} {Q' : V → Heap → Prop} (h : Ok (F_made_Estate t_ d_) Q) (hQ : ∀ z, Q z → Q' (GEstate.v z.1) [(1000, .cells [.sl (z.2.L.map (V.int .i64)), .int .i64 z.2.at_])]) : ACall Tryz.prog 7 [.ptr 1000 0, GDirectory.v d_] [(1000, .cells [.sl (t_.L.map (V.int .i64)), .int .i64 t_.at_])] Q' := by
 refine acall_machN [.fzc 4] [1000] [.c 4 (some 2)] Tryz.func7 rfl (by kernel_rfl) ok_made_Estate (by kernel_rfl) rfl rfl fun M hf => ?_
 clear hf
 unfold F_made_Estate at h
 unfold mc_made_Estate
 (try replace h := tH h)
 refine tB ?_
 repeat' (first
 |(exact hQ _ h)
 |(exact trivial)
 |(exact False.elim h)
 |(have hq := hQ _ h; replace hq := tH hq; exact hq)
 |((first | refine oblg h ?_ | refine roomG h ?_ | refine fork h ?_ ?_ | refine forkS h ?_ ?_) <;> clear h <;> intro hc h)
 |(refine And.intro (chkD_of rfl) ?_)
 |(obtain ⟨y, hy, h⟩ := h; (first | with_reducible first | have hw := W_made_Tape_Between hy | have hw := W_made_Tape_Next hy | have hw := W_made_Clock hy | have hw := W_made_Pick hy); (try replace hw := tH hw); (first | (refine sCall_of hw rfl rfl ?_; rw [M.lok_eq]) | (refine sCallD_of hw rfl rfl ?_; rw [M.lokD_eq])); clear hw; clear hy; refine tB ?_)
 |(refine M.jn1 (b := mc_made_Estate_J1) [0,3,4,5,8,15,16,17,31] [8,5,4081,4,3,1000] (fun y => [(50, .bool y)]) (fun y => []) [] h ?_ ?_ <;> first
  |(clear h; intro Qn K hK1 h; (try replace h := tH h); refine tB ?_)
  |(clear h; intro y h; unfold mc_made_Estate_J1; (try replace h := tH h); refine tB ?_)
      | fail)
 |(refine M.jn1 (b := mc_made_Estate_J2) [0,3,4,5,7,8,15,16,17,31] [8,5,4081,4,3,1000] (fun y => [(32, .bool y)]) (fun y => []) [] h ?_ ?_ <;> first
  |(clear h; intro Qn K hK2 h; (try replace h := tH h); refine tB ?_)
  |(clear h; intro y h; unfold mc_made_Estate_J2; (try replace h := tH h); refine tB ?_)
      | fail)
 |(refine M.jnE (b := mc_made_Estate_J3) [0,3,4,5,8,15,16,17] [5,4081,4,3] (fun y => []) (fun y => [.o 8 (.cells [.int .i64 y.1.Time, .int .i64 y.1.Kind, .int .i64 y.1.Place, .int .i64 y.1.Principal, .int .i64 y.1.Until, .int .i64 y.1.Content, .int .i64 y.1.From]), .o 1000 (.cells [.sl (y.2.L.map (V.int .i64)), .int .i64 y.2.at_])]) [] h ?_ ?_ <;> first
  |(clear h; intro Qn K hK3 h; (try replace h := tH h); refine tB ?_)
  |(clear h; intro y h; unfold mc_made_Estate_J3; (try replace h := tH h); refine tB ?_)
      | fail)
 |(refine M.fold1 (b := mc_made_Estate_L1) 17 [0,3,4,5,15,16] [4,3] (fun x => []) (fun x => [.o 5 (.cells [.int .i64 x.1, .osl 4081 7 0 x.2.1.length]), .o 4081 (.arr 7 (x.2.1.map GAccess.v)), .o 1000 (.cells [.sl (x.2.2.L.map (V.int .i64)), .int .i64 x.2.2.at_])]) [.gc [0,3,4,5,15,16,17], .ownC 5 1 4081 7 none] h ?_ ?_ ?_ <;> first
  |(clear h; intro k a x Qn K hK4 hkN4 ha4 h hf; have hl := fact_int (factsE_find (n := 16) hf.1 rfl); clear hf; have hkd := kD hkN4; have hkB4 := kB hkN4; have hkI4 := kI (k := k) (by omega); unfold F_made_Estate_L1 at h; unfold mc_made_Estate_L1; (try replace h := tH h); refine tK ha4 hkd hkN4 hkB4 hkI4 ?_)
  |(clear h; intro x K h; replace h := And.left (And.intro h trivial); unfold mc_made_Estate_L1; (try replace h := tH h); refine tB ?_)
  |(clear h; (try refine tB ?_); exact tU0; done)
      | fail)
 |(refine And.intro (by first | exact hkI4 | exact hkN4 | exact hkB4) ?_)
 |(simp only [ha4])
 |((first | refine hK1 _ ?_ | refine hK2 _ ?_ | refine hK3 _ ?_ | refine hK4 _ ?_); (try refine tB ?_); refine ⟨_, h, ?_⟩; exact tU0; done)
 |(refine ⟨_, getE_map (inb_toNat (by assumption)), ?_⟩; (first | rw [M.lok_compU] | rw [M.lokD_compU]); refine tB ?_)
 |(refine And.intro (ltb_of (by assumption)) ?_)
 |(refine And.intro (inb_nat (by assumption)) ?_)
 |(refine And.intro (by omega) ?_)
   | fail)
theorem W_made_Estate : ∀ {t_ : GTape} {d_ : GDirectory} {y : GEstate × GTape}, F_made_Estate t_ d_ = some y → ACall Tryz.prog 7 [.ptr 1000 0, GDirectory.v d_] [(1000, .cells [.sl (t_.L.map (V.int .i64)), .int .i64 t_.at_])] (fun r H => r = GEstate.v y.1 ∧ H = [(1000, .cells [.sl (y.2.L.map (V.int .i64)), .int .i64 y.2.at_])]) :=
 fun hy => Wq_made_Estate _ _ (Q := (· = _)) ⟨_, hy, rfl⟩ fun | _, rfl => ⟨rfl, rfl⟩
def F_ref23_Upward_L1 (k28 : Int) (a29 : Bool) (x27 : List Int) : Option (List Int) :=
 bif a29 then chk (room (x27.length + [k28].length) 8) (some (x27 ++ [k28])) else some x27
def F_ref23_Upward (d_ : GDirectory) (p_ : Int) (t_ : Int) : Option (List Int) :=
 (F_ref23_Valid d_).bind fun y7 => bif (!y7) then some [] else (F_ref23_Exists d_ p_).bind fun y8 => bif (!y8) then some [] else (upF d_.Kinds.length (d_.Events.map fun e => (e.Time, e.Kind, e.Principal, e.Group)) p_ t_).bind fun y21 => (foldL F_ref23_Upward_L1 y21 0 []).bind fun x30 => some x30
@[irreducible] def mc_ref23_Upward_L1 : MC :=
 (.seq (.reg [mo (.bin false .lss (.t 24) (.t 23)) 25])
 (.seq (.cond (.t 25)
 .skip
 (.exit 0))
 (.seq (.block 1
 (.seq (.reg [mo (.mv (.t 24)) 26,
 mo (.iad 1 (.t 22) (.t 24)) 27,
 mo (.ld none (.t 27)) 28,
 mo (.mv (.t 26)) 8,
 mo (.mv (.t 28)) 9])
 (.seq (.reg [mo (.mv (.t 9)) 29])
 (.cond (.t 29)
 (.reg [mo (.mv (.t 7)) 30,
 mo (.mv (.t 8)) 31,
 mo (.bslice 1 [(.t 31)]) 32,
 mo (.app 1 8 (.t 30) (.t 32)) 33,
 mo (.mv (.t 33)) 7])
 .skip))))
 (.reg [mo (.bin true .add (.t 24) (.c (.int .i64 1))) 34,
 mo (.mv (.t 34)) 24]))))
def mc_ref23_Upward : MC :=
 (.seq (.reg [mo (.box (.t 0)) 3,
 mo (.mv (.c (.sl []))) 6])
 (.seq (.seq (.reg [mo (.ld (some 2) (.t 3)) 10,
 mo (.call (.f 26) [(.t 10)] [] []) 11,
 mo (.not (.t 11)) 12,
 mo (.mv (.t 12)) 13,
 ⟨.ld (some 2) (.t 3), (some 14), (some (13, false))⟩,
 ⟨.mv (.t 1), (some 15), (some (13, false))⟩,
 ⟨.call (.f 44) [(.t 14),(.t 15)] [] [], (some 16), (some (13, false))⟩,
 ⟨.not (.t 16), (some 17), (some (13, false))⟩,
 mo (.pick (.t 13) (.c (.bool true)) (.t 17)) 18])
 (.cond (.t 18)
 (.seq (.reg [mo (.mv (.c (.sl []))) 6])
 .ret)
 .skip))
 (.seq (.reg [mo (.mv (.c .nils)) 7])
 (.seq (.seq (.note (.gc [1,2,3,7]) (.reg [mo (.ld (some 2) (.t 3)) 19,
 mo (.mv (.t 1)) 20,
 mo (.mv (.t 2)) 21,
 mo (.call (.f 45) [(.t 19),(.t 20),(.t 21)] [] []) 22,
 mo (.len false (.t 22)) 23,
 mo (.mv (.c (.int .i64 0))) 24]))
 (.block 0
 (.loop mc_ref23_Upward_L1)))
 (.seq (.reg [mo (.mv (.t 7)) 35,
 mo (.mv (.t 35)) 6])
 .ret)))))
theorem ok_ref23_Upward : mc_ref23_Upward.ok Tryz.prog Tryz.f19.ntmps (Tryz.f19.body.getD .skip) = true := by kernel_rfl
theorem Wq_ref23_Upward (d_ : GDirectory) (p_ : Int) (t_ : Int) {Q : List Int → Prop} {Q' : V → Heap → Prop} (h : Ok (F_ref23_Upward d_ p_ t_) Q) (hQ : ∀ z, Q z → Q' (.sl (z.map (V.int .i64))) []) : ACall Tryz.prog 19 [GDirectory.v d_, .int .i64 p_, .int .i64 t_] [] Q' := by
 refine acall_machN [.fz 6] [] [.t 6] Tryz.func19 rfl (by kernel_rfl) ok_ref23_Upward (by kernel_rfl) rfl rfl fun M hf => ?_
 clear hf
 unfold F_ref23_Upward at h
 unfold mc_ref23_Upward
 (try replace h := tH h)
 refine tB ?_
 repeat' (first
 |(exact hQ _ h)
 |(exact trivial)
 |(exact False.elim h)
 |(have hq := hQ _ h; replace hq := tH hq; exact hq)
 |((first | refine oblg h ?_ | refine roomG h ?_ | refine fork h ?_ ?_ | refine forkS h ?_ ?_) <;> clear h <;> intro hc h)
 |(refine And.intro (chkD_of rfl) ?_)
 |(obtain ⟨y, hy, h⟩ := h; (first | (with_reducible first | have hw := W_ref23_Valid hy | have hw := W_ref23_Exists hy) | have hw := W_up (f := GMember.v) (e4 := fun e => (e.Time, e.Kind, e.Principal, e.Group)) (fun _ => rfl) hy); (try replace hw := tH hw); (first | (refine sCall_of hw rfl rfl ?_; rw [M.lok_eq]) | (refine sCallD_of hw rfl rfl ?_; rw [M.lokD_eq])); clear hw; clear hy; refine tB ?_)
 |(refine M.fold1 (b := mc_ref23_Upward_L1) 24 [22,23] [] (fun x => [(7, .osl 2007 1 0 x.length)]) (fun x => [.o 2007 (.arr 1 (x.map (V.int .i64)))]) [.gc [7,22,23,24], .acc 7 2007 1] h ?_ ?_ ?_ <;> first
  |(clear h; intro k a x Qn K hK1 hkN1 ha1 h hf; have hl := fact_int (factsE_find (n := 23) hf.1 rfl); clear hf; have hkd := kD hkN1; have hkB1 := kB hkN1; have hkI1 := kI (k := k) (by omega); unfold F_ref23_Upward_L1 at h; unfold mc_ref23_Upward_L1; (try replace h := tH h); refine tK ha1 hkd hkN1 hkB1 hkI1 ?_)
  |(clear h; intro x K h; replace h := And.left (And.intro h trivial); unfold mc_ref23_Upward_L1; (try replace h := tH h); refine tB ?_)
  |(clear h; (try refine tB ?_); exact tU0; done)
      | fail)
 |(refine And.intro (by first | exact hkI1 | exact hkN1 | exact hkB1) ?_)
 |(simp only [ha1])
 |(refine hK1 _ ?_; (try refine tB ?_); refine ⟨_, h, ?_⟩; exact tU0; done)
 |(refine ⟨_, getE_map (inb_toNat (by assumption)), ?_⟩; (first | rw [M.lok_compU] | rw [M.lokD_compU]); refine tB ?_)
 |(refine And.intro (ltb_of (by assumption)) ?_)
 |(refine And.intro (inb_nat (by assumption)) ?_)
 |(refine And.intro (by omega) ?_)
   | fail)
theorem W_ref23_Upward : ∀ {d_ : GDirectory} {p_ : Int} {t_ : Int} {y : List Int}, F_ref23_Upward d_ p_ t_ = some y → ACall Tryz.prog 19 [GDirectory.v d_, .int .i64 p_, .int .i64 t_] [] (fun r H => r = .sl (y.map (V.int .i64)) ∧ H = []) :=
 fun hy => Wq_ref23_Upward _ _ _ (Q := (· = _)) ⟨_, hy, rfl⟩ fun | _, rfl => ⟨rfl, rfl⟩
end Go.Ab
