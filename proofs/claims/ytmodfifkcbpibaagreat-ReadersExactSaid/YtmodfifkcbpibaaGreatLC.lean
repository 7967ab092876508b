/- What the functions of this seat that lie on the laws' road compute (part LC), each for every input. By AI agents. -/
import Derived.Test.YtmodfifkcbpibaaGreatProg
import Derived.KernelRfl
import Derived.Test.YtmodfifkcbpibaaGreatAbFun
import Derived.Test.YtmodfifkcbpibaaGreatLB
set_option linter.all false
set_option linter.all false
set_option maxRecDepth 20000
set_option maxHeartbeats 2000000
namespace Go.Ab
open Go.Proofs
structure GTape where
 L : List Int
 at_ : Int
instance : Inhabited GTape := ⟨⟨default, default⟩⟩
def GTape.v (x : GTape) : V := .agg [.sl (x.L.map (V.int .i64)), .int .i64 x.at_]
attribute [go_sem] GTape.v
def F_0 (t_ : GTape) (n_ : Int) : Option (Int × GTape) :=
 bif decide ((t_.L.length : Int) ≤ t_.at_) then some (0, t_) else chk (inb t_.at_ t_.L.length) (chk (in64 (t_.at_ + 1)) (chk (divs ((t_.L.getD (t_.at_).toNat default) % 2 ^ 16) n_) (some ((((t_.L.getD (t_.at_).toNat default) % 2 ^ 16) % n_), (GTape.mk t_.L (t_.at_ + 1))))))
def mc_0 : MC :=
 (.seq (.reg [mo (.mv (.c (.int .i64 0))) 4])
 (.seq (.seq (.regD [mo (.mv (.t 0)) 6,
 mo (.nck (.t 6)) 7,
 mo (.fad 1 (.t 7)) 8,
 mo (.ld none (.t 8)) 9,
 mo (.mv (.t 0)) 10,
 mo (.nck (.t 10)) 11,
 mo (.fad 0 (.t 11)) 12,
 mo (.ld none (.t 12)) 13,
 mo (.len false (.t 13)) 14,
 mo (.bin false .geq (.t 9) (.t 14)) 15]
 [[],[0],[1],[2],[],[4],[5],[6],[7],[3,8]]
 [[],[0],[0,1],[0,1,2],[],[4],[4,5],[4,5,6],[4,5,6,7],[0,1,2,3,4,5,6,7,8]])
 (.cond (.t 15)
 (.seq (.reg [mo (.mv (.c (.int .i64 0))) 4])
 .ret)
 .skip))
 (.seq (.note (.gc [0,1]) (.regD [mo (.mv (.t 0)) 16,
 mo (.nck (.t 16)) 17,
 mo (.fad 0 (.t 17)) 18,
 mo (.ld none (.t 18)) 19,
 mo (.mv (.t 0)) 20,
 mo (.nck (.t 20)) 21,
 mo (.fad 1 (.t 21)) 22,
 mo (.ld none (.t 22)) 23,
 mo (.iad 1 (.t 19) (.t 23)) 24,
 mo (.ld none (.t 24)) 25,
 mo (.mask 16 (.t 25) .i64) 26,
 mo (.mv (.t 26)) 5]
 [[],[0],[1],[2],[],[4],[5],[6],[3,7],[8],[9],[10,0,1,2,3,4,5,6,7,8,9,10]]
 [[],[0],[0,1],[0,1,2],[],[4],[4,5],[4,5,6],[0,1,2,3,4,5,6,7],[0,1,2,3,4,5,6,7,8],[0,1,2,3,4,5,6,7,8,9],[0,1,2,3,4,5,6,7,8,9,10]]))
 (.seq (.note (.gc [0,1,5]) (.reg [mo (.mv (.t 0)) 27,
 mo (.nck (.t 27)) 28,
 mo (.fad 1 (.t 28)) 29,
 mo (.ld none (.t 29)) 30,
 mo (.bin true .add (.t 30) (.c (.int .i64 1))) 31,
 mo (.nck (.t 27)) 32,
 mo (.fad 1 (.t 32)) 33,
 ⟨.st 1 (.t 33) (.t 31), none, none⟩]))
 (.seq (.note (.gc [1,5]) (.reg [mo (.mv (.t 5)) 34,
 mo (.mv (.t 1)) 35,
 mo (.bin true .rem (.t 34) (.t 35)) 36,
 mo (.mv (.t 36)) 4]))
 .ret)))))
theorem Wq_0 (t_ : GTape) (n_ : Int) {Q : Int × GTape → Prop} {Q' : V → Heap → Prop} (h : Ok (F_0 t_ n_) Q) (hQ : ∀ z, Q z → Q' (.int .i64 z.1) [(1000, .cells [.sl (z.2.L.map (V.int .i64)), .int .i64 z.2.at_])]) : ACall Tryz.prog 8 [.ptr 1000 0, .int .i64 n_] [(1000, .cells [.sl (t_.L.map (V.int .i64)), .int .i64 t_.at_])] Q' := by
 refine acallM mc_0 [] [1000] [.t 4] Tryz.func8 fun M => ?_
 unfold F_0 at h
 unfold mc_0
 replace h := tY h
 refine tB ?_
 repeat' (first
 | (exact tZ)
 | ((first | refine oblg h ?_ | refine roomG h ?_ | refine fork h ?_ ?_ | refine forkS h ?_ ?_) <;> clear h <;> intro hc h)
 | (refine tE ?_; (first | rw [M.lok_compU] | rw [M.lokD_compU]); refine tB ?_)
 | (refine tA ?_))
def W_0 {t_ n_ y} (hy : (F_0 t_ n_) = some y) := acW (Wq_0 t_ n_) hy
def F_e (t_ : GTape) (a_ : Int) (b_ : Int) : Option (Int × GTape) :=
 chk (in64 (b_ - a_)) (chk (in64 ((b_ - a_) + 1)) ((F_0 t_ ((b_ - a_) + 1)).bind fun y2 => chk (in64 (a_ + y2.1)) (some ((a_ + y2.1), y2.2))))
def mc_e : MC :=
 (.seq (.reg [mo (.mv (.c (.int .i64 0))) 6])
 (.seq (.reg [mo (.mv (.t 1)) 7,
 mo (.mv (.t 0)) 8,
 mo (.mv (.t 2)) 9,
 mo (.mv (.t 1)) 10,
 mo (.bin true .sub (.t 9) (.t 10)) 11,
 mo (.bin true .add (.t 11) (.c (.int .i64 1))) 12,
 mo (.call (.f 8) [(.t 8),(.t 12)] [1000] []) 13,
 mo (.bin true .add (.t 7) (.t 13)) 14,
 mo (.mv (.t 14)) 6])
 .ret))
theorem Wq_e (t_ : GTape) (a_ : Int) (b_ : Int) {Q : Int × GTape → Prop} {Q' : V → Heap → Prop} (h : Ok (F_e t_ a_ b_) Q) (hQ : ∀ z, Q z → Q' (.int .i64 z.1) [(1000, .cells [.sl (z.2.L.map (V.int .i64)), .int .i64 z.2.at_])]) : ACall Tryz.prog 9 [.ptr 1000 0, .int .i64 a_, .int .i64 b_] [(1000, .cells [.sl (t_.L.map (V.int .i64)), .int .i64 t_.at_])] Q' := by
 refine acallM mc_e [] [1000] [.t 6] Tryz.func9 fun M => ?_
 unfold F_e at h
 unfold mc_e
 replace h := tY h
 refine tB ?_
 repeat' (first
 | (exact tZ)
 | ((first | refine oblg h ?_ | refine roomG h ?_ | refine fork h ?_ ?_ | refine forkS h ?_ ?_) <;> clear h <;> intro hc h)
 | (obtain ⟨y, hy, h⟩ := h; have hw := W_0 hy; replace hw := tY hw; (first | refine M.sC hw ?_ | refine M.sD hw ?_); clear hw hy; refine tB ?_)
 | (refine tE ?_; (first | rw [M.lok_compU] | rw [M.lokD_compU]); refine tB ?_)
 | (refine tA ?_))
def W_e {t_ a_ b_ y} (hy : (F_e t_ a_ b_) = some y) := acW (Wq_e t_ a_ b_) hy
def F_1b (t_ : GTape) (l_ : List Int) : Option (Int × GTape) :=
 (F_0 t_ (l_.length : Int)).bind fun y2 => chk (inb y2.1 l_.length) (some ((l_.getD (y2.1).toNat default), y2.2))
def mc_1b : MC :=
 (.seq (.reg [mo (.mv (.c (.int .i64 0))) 4])
 (.seq (.reg [mo (.mv (.t 1)) 5,
 mo (.mv (.t 0)) 6,
 mo (.mv (.t 1)) 7,
 mo (.len false (.t 7)) 8,
 mo (.call (.f 8) [(.t 6),(.t 8)] [1000] []) 9,
 mo (.iad 1 (.t 5) (.t 9)) 10,
 mo (.ld none (.t 10)) 11,
 mo (.mv (.t 11)) 4])
 .ret))
theorem Wq_1b (t_ : GTape) (l_ : List Int) {Q : Int × GTape → Prop} {Q' : V → Heap → Prop} (h : Ok (F_1b t_ l_) Q) (hQ : ∀ z, Q z → Q' (.int .i64 z.1) [(1000, .cells [.sl (z.2.L.map (V.int .i64)), .int .i64 z.2.at_])]) : ACall Tryz.prog 24 [.ptr 1000 0, .sl (l_.map (V.int .i64))] [(1000, .cells [.sl (t_.L.map (V.int .i64)), .int .i64 t_.at_])] Q' := by
 refine acallM mc_1b [] [1000] [.t 4] Tryz.func24 fun M => ?_
 unfold F_1b at h
 unfold mc_1b
 replace h := tY h
 refine tB ?_
 repeat' (first
 | (exact tZ)
 | ((first | refine oblg h ?_ | refine roomG h ?_ | refine fork h ?_ ?_ | refine forkS h ?_ ?_) <;> clear h <;> intro hc h)
 | (obtain ⟨y, hy, h⟩ := h; have hw := W_0 hy; replace hw := tY hw; (first | refine M.sC hw ?_ | refine M.sD hw ?_); clear hw hy; refine tB ?_)
 | (refine tE ?_; (first | rw [M.lok_compU] | rw [M.lokD_compU]); refine tB ?_)
 | (refine tA ?_))
def W_1b {t_ l_ y} (hy : (F_1b t_ l_) = some y) := acW (Wq_1b t_ l_) hy
noncomputable def F_3m (n_ : Int) (x29 : Int × Int × (List Int) × GTape) : Option (Fl (Int × Int × (List Int) × GTape) ((List Int) × GTape)) :=
 bif decide (x29.2.1 < n_) then (F_0 x29.2.2.2 3).bind fun y37 => chk (in64 (x29.1 + y37.1)) (chk (room (x29.2.2.1.length + [(x29.1 + y37.1)].length) 8) (chk (in64 (x29.2.1 + 1)) (some (.nx ((x29.1 + y37.1), (x29.2.1 + 1), (x29.2.2.1 ++ [(x29.1 + y37.1)]), y37.2))))) else some (.ex (x29.2.2.1, x29.2.2.2))
noncomputable def F_1c (t_ : GTape) (n_ : Int) : Option ((List Int) × GTape) :=
 (F_0 t_ 4).bind fun y2 => (loop (F_3m n_) (y2.1,0,[], y2.2)).bind fun r38 => some (r38.1, r38.2)
@[irreducible] def mc_3m : MC :=
 (.seq (.seq (.reg [mo (.mv (.t 7)) 10,
 mo (.mv (.t 1)) 11,
 mo (.bin false .lss (.t 10) (.t 11)) 12])
 (.cond (.t 12)
 .skip
 (.exit 0)))
 (.seq (.block 1
 (.seq (.reg [mo (.mv (.t 6)) 15,
 mo (.mv (.t 0)) 16,
 mo (.call (.f 8) [(.t 16),(.c (.int .i64 3))] [1000] []) 17,
 mo (.bin true .add (.t 15) (.t 17)) 18,
 mo (.mv (.t 18)) 6])
 (.reg [mo (.mv (.t 5)) 19,
 mo (.mv (.t 6)) 20,
 mo (.bslice 1 [(.t 20)]) 21,
 mo (.app 1 8 (.t 19) (.t 21)) 22,
 mo (.mv (.t 22)) 5])))
 (.note (.gc [0,1,5,6,7]) (.reg [mo (.mv (.t 7)) 13,
 mo (.bin true .add (.t 13) (.c (.int .i64 1))) 14,
 mo (.mv (.t 14)) 7]))))
def mc_1c : MC :=
 (.seq (.reg [mo (.mv (.c (.sl []))) 4])
 (.seq (.reg [mo (.mv (.c .nils)) 5])
 (.seq (.reg [mo (.mv (.t 0)) 8,
 mo (.call (.f 8) [(.t 8),(.c (.int .i64 4))] [1000] []) 9,
 mo (.mv (.t 9)) 6])
 (.seq (.seq (.reg [mo (.mv (.c (.int .i64 0))) 7])
 (.block 0
 (.loop mc_3m)))
 (.seq (.reg [mo (.mv (.t 5)) 23,
 mo (.mv (.t 23)) 4])
 .ret)))))
theorem Wq_1c (t_ : GTape) (n_ : Int) {Q : (List Int) × GTape → Prop} {Q' : V → Heap → Prop} (h : Ok (F_1c t_ n_) Q) (hQ : ∀ z, Q z → Q' (.sl (z.1.map (V.int .i64))) [(1000, .cells [.sl (z.2.L.map (V.int .i64)), .int .i64 z.2.at_])]) : ACall Tryz.prog 25 [.ptr 1000 0, .int .i64 n_] [(1000, .cells [.sl (t_.L.map (V.int .i64)), .int .i64 t_.at_])] Q' := by
 refine acallM mc_1c [.fz 4] [1000] [.t 4] Tryz.func25 fun M => ?_
 unfold F_1c at h
 unfold mc_1c
 replace h := tY h
 refine tB ?_
 repeat' (first
 | (exact tZ)
 | ((first | refine oblg h ?_ | refine roomG h ?_ | refine fork h ?_ ?_ | refine forkS h ?_ ?_) <;> clear h <;> intro hc h)
 | (obtain ⟨y, hy, h⟩ := h; have hw := W_0 hy; replace hw := tY hw; (first | refine M.sC hw ?_ | refine M.sD hw ?_); clear hw hy; refine tB ?_)
 | (refine M.wh1 (b := mc_3m) [0,1] [] (fun x => [(5, .osl 2005 1 0 x.2.2.1.length), (6, .int .i64 x.1), (7, .int .i64 x.2.1)]) (fun x => [.o 2005 (.arr 1 (x.2.2.1.map (V.int .i64))), .o 1000 (.cells [.sl (x.2.2.2.L.map (V.int .i64)), .int .i64 x.2.2.2.at_])]) [.gc [0,1,5,6,7], .acc 5 2005 1] h ?_ ?_ <;> first
 | (clear h; intro x Qn K hK1 h; unfold F_3m at h; unfold mc_3m; replace h := tY h; refine tB ?_)
  |(clear h; (try refine tB ?_); exact tU0; done))
 | (refine hK1 _ ?_; (try refine tB ?_); refine ⟨_, h, ?_⟩; exact tU0; done)
 | (refine tE ?_; (first | rw [M.lok_compU] | rw [M.lokD_compU]); refine tB ?_)
 | (refine tA ?_))
def W_1c {t_ n_ y} (hy : (F_1c t_ n_) = some y) := acW (Wq_1c t_ n_) hy
noncomputable def F_3n (x21 : Int × (List Int) × GTape) : Option (Fl (Int × (List Int) × GTape) ((List Int) × GTape)) :=
 bif decide (0 < x21.1) then (F_1b x21.2.2 [2,2,1,3]).bind fun y25 => chk (room (x21.2.1.length + [y25.1].length) 8) (chk (in64 (x21.1 - 1)) (some (.nx ((x21.1 - 1), (x21.2.1 ++ [y25.1]), y25.2)))) else some (.ex (x21.2.1, x21.2.2))
noncomputable def F_30 (k42 : Int) (a43 : Int) (x41 : List Int) : Option (List Int) :=
 bif decide (a43 = 2) then chk (room (x41.length + [k42].length) 8) (some (x41 ++ [k42])) else some x41
noncomputable def F_31 (r26 : (List Int) × GTape) (x44 : List Int) (k166 : Int) (a167 : Int) (x165 : (List GMember) × GTape) : Option ((List GMember) × GTape) :=
 (F_0 x165.2 (r26.1.length : Int)).bind fun y191 => (F_0 y191.2 (x44.length : Int)).bind fun y192 => chk (inb y192.1 x44.length) (jn (α := GMember × GTape) ((F_0 y192.2 4).bind fun y197 => bif decide (y197.1 = 3) then some ((GMember.mk a167 2 y191.1 (x44.getD ((y192.1).toNat) default)), y197.2) else some ((GMember.mk a167 1 y191.1 (x44.getD ((y192.1).toNat) default)), y197.2)) fun j195 => bif (!decide (j195.1.Principal = j195.1.Group)) then chk (room (x165.1.length + [j195.1].length) 32) (some ((x165.1 ++ [j195.1]), j195.2)) else some (x165.1, j195.2))
noncomputable def F_1o (t_ : GTape) : Option (GDirectory × GTape) :=
 (F_e t_ 2 6).bind fun y14 => (loop F_3n (y14.1,[1], y14.2)).bind fun r26 => (foldL F_30 r26.1 0 []).bind fun x44 => bif decide ((x44.length : Int) = 0) then some ((GDirectory.mk r26.1 []), r26.2) else (F_0 r26.2 12).bind fun y116 => (F_1c y116.2 y116.1).bind fun y117 => (foldL (F_31 r26 x44) y117.1 0 ([], y117.2)).bind fun x198 => some ((GDirectory.mk r26.1 x198.1), x198.2)
@[irreducible] def mc_3n : MC :=
 (.seq (.seq (.reg [mo (.mv (.t 4)) 15,
 mo (.bin false .gtr (.t 15) (.c (.int .i64 0))) 16])
 (.cond (.t 16)
 .skip
 (.exit 0)))
 (.seq (.block 1
 (.regD [mo (.fad 0 (.t 3)) 19,
 mo (.ld none (.t 19)) 20,
 mo (.mv (.t 0)) 21,
 mo (.lsl 1 [(.c (.int .i64 2)),(.c (.int .i64 2)),(.c (.int .i64 1)),(.c (.int .i64 3))]) 22,
 mo (.call (.f 24) [(.t 21),(.t 22)] [1000] []) 23,
 mo (.bslice 1 [(.t 23)]) 24,
 mo (.app 1 8 (.t 20) (.t 24)) 25,
 mo (.fad 0 (.t 3)) 26,
 ⟨.st 1 (.t 26) (.t 25), none, none⟩]
 [[],[0],[],[],[2,3],[4],[1,5,4],[0,1,2,3,4,5,6],[7,6,6,0,1,2,3,4,5,6]]
 [[],[0],[],[],[2,3],[2,3,4],[0,1,2,3,4,5],[0,1,2,3,4,5,6],[0,1,2,3,4,5,6,7]]))
 (.note (.gc [0,2,3,4]) (.reg [mo (.mv (.t 4)) 17,
 mo (.bin true .sub (.t 17) (.c (.int .i64 1))) 18,
 mo (.mv (.t 18)) 4]))))
@[irreducible] def mc_30 : MC :=
 (.seq (.reg [mo (.bin false .lss (.t 30) (.t 29)) 31])
 (.seq (.cond (.t 31)
 .skip
 (.exit 2))
 (.seq (.block 3
 (.seq (.reg [mo (.mv (.t 30)) 32,
 mo (.iad 1 (.t 28) (.t 30)) 33,
 mo (.ld none (.t 33)) 34,
 mo (.mv (.t 32)) 6,
 mo (.mv (.t 34)) 7])
 (.seq (.reg [mo (.mv (.t 7)) 35,
 mo (.bin false .eql (.t 35) (.c (.int .i64 2))) 36])
 (.cond (.t 36)
 (.reg [mo (.mv (.t 5)) 37,
 mo (.mv (.t 6)) 38,
 mo (.bslice 1 [(.t 38)]) 39,
 mo (.app 1 8 (.t 37) (.t 39)) 40,
 mo (.mv (.t 40)) 5])
 .skip))))
 (.reg [mo (.bin true .add (.t 30) (.c (.int .i64 1))) 41,
 mo (.mv (.t 41)) 30]))))
@[irreducible] def mc_5n : MC :=
 (.seq (.reg [mo (.fad 2 (.t 10)) 73,
 mo (.ld none (.t 73)) 74,
 mo (.fad 3 (.t 10)) 75,
 mo (.ld none (.t 75)) 76,
 mo (.bin false .neq (.t 74) (.t 76)) 77])
 (.cond (.t 77)
 (.reg [mo (.fad 1 (.t 3)) 78,
 mo (.ld none (.t 78)) 79,
 mo (.ld (some 4) (.t 10)) 80,
 mo (.bslice 4 [(.t 80)]) 81,
 mo (.app 4 32 (.t 79) (.t 81)) 82,
 mo (.fad 1 (.t 3)) 83,
 ⟨.st 1 (.t 83) (.t 82), none, none⟩])
 .skip))
@[irreducible] def mc_31 : MC :=
 (.seq (.reg [mo (.bin false .lss (.t 51) (.t 50)) 52])
 (.seq (.cond (.t 52)
 .skip
 (.exit 4))
 (.seq (.block 5
 (.seq (.reg [mo (.iad 1 (.t 49) (.t 51)) 53,
 mo (.ld none (.t 53)) 54,
 mo (.mv (.t 54)) 9])
 (.seq (.reg [mo (.mv (.t 9)) 55,
 mo (.mv (.t 0)) 56,
 mo (.fad 0 (.t 3)) 57,
 mo (.ld none (.t 57)) 58,
 mo (.len false (.t 58)) 59,
 mo (.call (.f 8) [(.t 56),(.t 59)] [1000] []) 60,
 mo (.mv (.t 5)) 61,
 mo (.mv (.t 0)) 62,
 mo (.mv (.t 5)) 63,
 mo (.len false (.t 63)) 64,
 mo (.call (.f 8) [(.t 62),(.t 64)] [1000] []) 65,
 mo (.iad 1 (.t 61) (.t 65)) 66,
 mo (.ld none (.t 66)) 67,
 mo (.build [(.int .i64 0),(.int .i64 0),(.int .i64 0),(.int .i64 0)] [(0,1,(.t 55)), (1,1,(.c (.int .i64 1))), (2,1,(.t 60)), (3,1,(.t 67))]) 68,
 mo (.alloc [(.int .i64 0),(.int .i64 0),(.int .i64 0),(.int .i64 0)]) 10,
 ⟨.st 4 (.t 10) (.t 68), none, none⟩])
 (.cut (.seq (.note (.gc [0,2,3,5,10,49,50,51]) (.reg [mo (.mv (.t 0)) 69,
 mo (.call (.f 8) [(.t 69),(.c (.int .i64 4))] [1000] []) 70,
 mo (.bin false .eql (.t 70) (.c (.int .i64 3))) 71]))
 (.cond (.t 71)
 (.reg [mo (.fad 1 (.t 10)) 72,
 ⟨.st 1 (.t 72) (.c (.int .i64 2)), none, none⟩])
 .skip))
 mc_5n))))
 (.reg [mo (.bin true .add (.t 51) (.c (.int .i64 1))) 84,
 mo (.mv (.t 84)) 51]))))
def mc_1o : MC :=
 (.seq (.reg [mo (.alloc [(.sl []),(.sl [])]) 2])
 (.seq (.reg [mo (.bslice 1 [(.c (.int .i64 1))]) 11,
 mo (.build [.nils, .nils] [(0,1,(.t 11))]) 12,
 mo (.alloc [(.sl []),(.sl [])]) 3,
 ⟨.st 2 (.t 3) (.t 12), none, none⟩])
 (.seq (.seq (.reg [mo (.mv (.t 0)) 13,
 mo (.call (.f 9) [(.t 13),(.c (.int .i64 2)),(.c (.int .i64 6))] [1000] []) 14,
 mo (.mv (.t 14)) 4])
 (.block 0
 (.loop mc_3n)))
 (.seq (.reg [mo (.mv (.c .nils)) 5])
 (.seq (.seq (.reg [mo (.fad 0 (.t 3)) 27,
 mo (.ld none (.t 27)) 28,
 mo (.len false (.t 28)) 29,
 mo (.mv (.c (.int .i64 0))) 30])
 (.block 2
 (.loop mc_30)))
 (.seq (.seq (.reg [mo (.mv (.t 5)) 42,
 mo (.len false (.t 42)) 43,
 mo (.bin false .eql (.t 43) (.c (.int .i64 0))) 44])
 (.cond (.t 44)
 (.seq (.reg [mo (.ld (some 2) (.t 3)) 45,
 ⟨.st 2 (.t 2) (.t 45), none, none⟩])
 .ret)
 .skip))
 (.seq (.seq (.reg [mo (.mv (.t 0)) 46,
 mo (.mv (.t 0)) 47,
 mo (.call (.f 8) [(.t 47),(.c (.int .i64 12))] [1000] []) 48,
 mo (.call (.f 25) [(.t 46),(.t 48)] [1000] []) 49,
 mo (.len false (.t 49)) 50,
 mo (.mv (.c (.int .i64 0))) 51])
 (.block 4
 (.loop mc_31)))
 (.seq (.reg [mo (.ld (some 2) (.t 3)) 85,
 ⟨.st 2 (.t 2) (.t 85), none, none⟩])
 .ret))))))))
theorem Wq_1o (t_ : GTape) {Q : GDirectory × GTape → Prop} {Q' : V → Heap → Prop} (h : Ok (F_1o t_) Q) (hQ : ∀ z, Q z → Q' (GDirectory.v z.1) [(1000, .cells [.sl (z.2.L.map (V.int .i64)), .int .i64 z.2.at_])]) : ACall Tryz.prog 6 [.ptr 1000 0] [(1000, .cells [.sl (t_.L.map (V.int .i64)), .int .i64 t_.at_])] Q' := by
 refine acallM mc_1o [.fzc 2] [1000] [.c 2 (some 2)] Tryz.func6 fun M => ?_
 unfold F_1o at h
 unfold mc_1o
 replace h := tY h
 refine tB ?_
 repeat' (first
 | (exact tZ)
 | ((first | refine oblg h ?_ | refine roomG h ?_ | refine fork h ?_ ?_ | refine forkS h ?_ ?_) <;> clear h <;> intro hc h)
 | (obtain ⟨y, hy, h⟩ := h; (first | with_reducible first | have hw := W_e hy | have hw := W_1b hy | have hw := W_0 hy | have hw := W_1c hy); replace hw := tY hw; (first | refine M.sC hw ?_ | refine M.sD hw ?_); clear hw hy; refine tB ?_)
 | (refine M.wh1 (b := mc_3n) [0,2,3] [3,2] (fun x => [(4, .int .i64 x.1)]) (fun x => [.p 3 0 [.osl 4048 1 0 x.2.1.length], .o 4048 (.arr 1 (x.2.1.map (V.int .i64))), .o 1000 (.cells [.sl (x.2.2.L.map (V.int .i64)), .int .i64 x.2.2.at_])]) [.gc [0,2,3,4], .ownC 3 0 4048 1 none] h ?_ ?_ <;> first
 | (clear h; intro x Qn K hK1 h; unfold F_3n at h; unfold mc_3n; replace h := tY h; refine tB ?_)
  |(clear h; (try refine tB ?_); exact tU0; done))
 | (refine M.fold1 (b := mc_30) 30 [0,2,3,28,29] [4048,3,2,1000] (fun x => [(5, .osl 2005 1 0 x.length)]) (fun x => [.o 2005 (.arr 1 (x.map (V.int .i64)))]) [.gc [0,2,3,5,28,29,30], .acc 5 2005 1] h ?_ ?_ ?_ <;> first
 | (clear h; intro k a x Qn K hK2 hkN2 ha2 h hf; have hl := fact_int (factsE_find (n := 29) hf.1 rfl); clear hf; have hkd := kD hkN2; have hkB2 := kB hkN2; have hkI2 := kI (k := k) (by omega); unfold F_30 at h; unfold mc_30; replace h := tY h; refine tK ha2 hkd hkN2 hkB2 hkI2 ?_)
  |(clear h; intro x K h; replace h := And.left (And.intro h trivial); unfold mc_30; replace h := tY h; refine tB ?_)
  |(clear h; (try refine tB ?_); exact tU0; done))
 | (refine M.jn1 (b := mc_5n) [0,2,3,5,10,49,50,51] [2005,3,4048,4049,2] (fun y => []) (fun y => [.o 10 (.cells [.int .i64 y.1.Time, .int .i64 y.1.Kind, .int .i64 y.1.Principal, .int .i64 y.1.Group]), .o 1000 (.cells [.sl (y.2.L.map (V.int .i64)), .int .i64 y.2.at_])]) [] h ?_ ?_ <;> first
 | (clear h; intro Qn K hK3 h; replace h := tY h; refine tB ?_)
  |(clear h; intro y h; unfold mc_5n; replace h := tY h; refine tB ?_))
 | (refine M.fold1 (b := mc_31) 51 [0,2,3,5,49,50] [2005,3,4048,2] (fun x => []) (fun x => [.p 3 1 [.osl 4049 4 0 x.1.length], .o 4049 (.arr 4 (x.1.map GMember.v)), .o 1000 (.cells [.sl (x.2.L.map (V.int .i64)), .int .i64 x.2.at_])]) [.gc [0,2,3,5,49,50,51], .ownC 3 1 4049 4 none] h ?_ ?_ ?_ <;> first
 | (clear h; intro k a x Qn K hK4 hkN4 ha4 h hf; have hl := fact_int (factsE_find (n := 50) hf.1 rfl); clear hf; have hkd := kD hkN4; have hkB4 := kB hkN4; have hkI4 := kI (k := k) (by omega); unfold F_31 at h; unfold mc_31; replace h := tY h; refine tK ha4 hkd hkN4 hkB4 hkI4 ?_)
  |(clear h; intro x K h; replace h := And.left (And.intro h trivial); unfold mc_31; replace h := tY h; refine tB ?_)
  |(clear h; (try refine tB ?_); exact tU0; done))
 | (first | simp only [ha2] | simp only [ha4])
 | ((first | refine hK1 _ ?_ | refine hK2 _ ?_ | refine hK3 _ ?_ | refine hK4 _ ?_); (try refine tB ?_); refine ⟨_, h, ?_⟩; exact tU0; done)
 | (refine tE ?_; (first | rw [M.lok_compU] | rw [M.lokD_compU]); refine tB ?_)
 | (refine tA ?_))
def W_1o {t_ y} (hy : (F_1o t_) = some y) := acW (Wq_1o t_) hy
noncomputable def F_32 (d_ : GDirectory) (k208 : Int) (a209 : Int) (x207 : Int × (List GAccess) × GTape) : Option (Int × (List GAccess) × GTape) :=
 (F_1b x207.2.2 [1,1,2,3,4,5,5,6,7,7]).bind fun y251 => (F_0 y251.2 x207.1).bind fun y252 => jn (α := Fl (GAccess × GTape) GTape) (jn (α := Bool) (bif decide (y251.1 = 1) then some true else some (decide (y251.1 = 2))) fun j261 => bif j261 then chk (in64 ((d_.Kinds.length : Int) + 1)) ((F_0 y252.2 ((d_.Kinds.length : Int) + 1)).bind fun y262 => some (.nx ((GAccess.mk a209 y251.1 y252.1 y262.1 0 0 0), y262.2))) else bif decide (y251.1 = 3) then chk (in64 (a209 + 1)) ((F_0 y252.2 5).bind fun y263 => chk (in64 ((a209 + 1) + y263.1)) (some (.nx ((GAccess.mk a209 y251.1 y252.1 0 ((a209 + 1) + y263.1) 0 0), y263.2)))) else jn (α := Bool) (bif decide (y251.1 = 5) then some true else some (decide (y251.1 = 6))) fun j264 => bif j264 then (F_0 y252.2 3).bind fun y265 => some (.nx ((GAccess.mk a209 y251.1 y252.1 0 0 y265.1 0), y265.2)) else bif decide (y251.1 = 7) then (F_0 y252.2 x207.1).bind fun y267 => bif decide (y267.1 = y252.1) then some (.ex y267.2) else some (.nx ((GAccess.mk a209 y251.1 y252.1 0 0 0 y267.1), y267.2)) else some (.nx ((GAccess.mk a209 y251.1 y252.1 0 0 0 0), y252.2))) fun o => o.elim (fun j260 => chk (room (x207.2.1.length + [j260.1].length) 56) (some (x207.1, (x207.2.1 ++ [j260.1]), j260.2))) (fun r268 => some (x207.1, x207.2.1, r268))
noncomputable def F_1p (t_ : GTape) (d_ : GDirectory) : Option (GEstate × GTape) :=
 (F_e t_ 1 4).bind fun y2 => (F_0 y2.2 16).bind fun y122 => (F_1c y122.2 y122.1).bind fun y123 => (foldL (F_32 d_) y123.1 0 (y2.1,[], y123.2)).bind fun x269 => some ((GEstate.mk x269.1 x269.2.1), x269.2.2)
@[irreducible] def mc_5o : MC :=
 (.cond (.t 50)
 (.reg [mo (.mv (.t 0)) 53,
 mo (.call (.f 8) [(.t 53),(.c (.int .i64 3))] [1000] []) 54,
 mo (.fad 5 (.t 8)) 55,
 ⟨.st 1 (.t 55) (.t 54), none, none⟩])
 (.seq (.reg [mo (.bin false .eql (.t 31) (.c (.int .i64 7))) 57,
 mo (.mv (.t 57)) 56])
 (.cond (.t 56)
 (.seq (.reg [mo (.mv (.t 0)) 58,
 mo (.fad 0 (.t 5)) 59,
 mo (.ld none (.t 59)) 60,
 mo (.call (.f 8) [(.t 58),(.t 60)] [1000] []) 61,
 mo (.fad 6 (.t 8)) 62,
 ⟨.st 1 (.t 62) (.t 61), none, none⟩])
 (.seq (.note (.gc [0,3,4,5,8,15,16,17]) (.reg [mo (.fad 6 (.t 8)) 63,
 mo (.ld none (.t 63)) 64,
 mo (.fad 2 (.t 8)) 65,
 mo (.ld none (.t 65)) 66,
 mo (.bin false .eql (.t 64) (.t 66)) 67]))
 (.cond (.t 67)
 (.exit 1)
 .skip)))
 .skip)))
@[irreducible] def mc_5p : MC :=
 (.cond (.t 32)
 (.reg [mo (.mv (.t 0)) 35,
 mo (.fad 0 (.t 3)) 36,
 mo (.ld none (.t 36)) 37,
 mo (.len false (.t 37)) 38,
 mo (.bin true .add (.t 38) (.c (.int .i64 1))) 39,
 mo (.call (.f 8) [(.t 35),(.t 39)] [1000] []) 40,
 mo (.fad 3 (.t 8)) 41,
 ⟨.st 1 (.t 41) (.t 40), none, none⟩])
 (.seq (.reg [mo (.bin false .eql (.t 31) (.c (.int .i64 3))) 43,
 mo (.mv (.t 43)) 42])
 (.cond (.t 42)
 (.reg [mo (.mv (.t 7)) 44,
 mo (.bin true .add (.t 44) (.c (.int .i64 1))) 45,
 mo (.mv (.t 0)) 46,
 mo (.call (.f 8) [(.t 46),(.c (.int .i64 5))] [1000] []) 47,
 mo (.bin true .add (.t 45) (.t 47)) 48,
 mo (.fad 4 (.t 8)) 49,
 ⟨.st 1 (.t 49) (.t 48), none, none⟩])
 (.cut (.seq (.reg [mo (.bin false .eql (.t 31) (.c (.int .i64 5))) 51,
 mo (.mv (.t 51)) 50])
 (.cond (.t 50)
 .skip
 (.reg [mo (.bin false .eql (.t 31) (.c (.int .i64 6))) 52,
 mo (.mv (.t 52)) 50])))
 mc_5o))))
@[irreducible] def mc_5q : MC :=
 (.reg [mo (.fad 1 (.t 5)) 68,
 mo (.ld none (.t 68)) 69,
 mo (.ld (some 7) (.t 8)) 70,
 mo (.bslice 7 [(.t 70)]) 71,
 mo (.app 7 56 (.t 69) (.t 71)) 72,
 mo (.fad 1 (.t 5)) 73,
 ⟨.st 1 (.t 73) (.t 72), none, none⟩])
@[irreducible] def mc_32 : MC :=
 (.seq (.reg [mo (.bin false .lss (.t 17) (.t 16)) 18])
 (.seq (.cond (.t 18)
 .skip
 (.exit 0))
 (.seq (.block 1
 (.seq (.reg [mo (.iad 1 (.t 15) (.t 17)) 19,
 mo (.ld none (.t 19)) 20,
 mo (.mv (.t 20)) 7])
 (.seq (.regD [mo (.mv (.t 7)) 21,
 mo (.mv (.t 0)) 22,
 mo (.lsl 1 [(.c (.int .i64 1)),(.c (.int .i64 1)),(.c (.int .i64 2)),(.c (.int .i64 3)),(.c (.int .i64 4)),(.c (.int .i64 5)),(.c (.int .i64 5)),(.c (.int .i64 6)),(.c (.int .i64 7)),(.c (.int .i64 7))]) 23,
 mo (.call (.f 24) [(.t 22),(.t 23)] [1000] []) 24,
 mo (.mv (.t 0)) 25,
 mo (.fad 0 (.t 5)) 26,
 mo (.ld none (.t 26)) 27,
 mo (.call (.f 8) [(.t 25),(.t 27)] [1000] []) 28,
 mo (.build [(.int .i64 0),(.int .i64 0),(.int .i64 0),(.int .i64 0),(.int .i64 0),(.int .i64 0),(.int .i64 0)] [(0,1,(.t 21)), (1,1,(.t 24)), (2,1,(.t 28))]) 29,
 mo (.alloc [(.int .i64 0),(.int .i64 0),(.int .i64 0),(.int .i64 0),(.int .i64 0),(.int .i64 0),(.int .i64 0)]) 8,
 ⟨.st 7 (.t 8) (.t 29), none, none⟩]
 [[],[],[],[1,2],[],[],[5],[4,6,3],[0,3,7],[],[9,8,7,0,1,2,3,4,5,6,7,8,9]]
 [[],[],[],[1,2],[],[],[5],[1,2,3,4,5,6],[0,1,2,3,4,5,6,7],[],[0,1,2,3,4,5,6,7,8,9]])
 (.cut (.seq (.reg [mo (.fad 1 (.t 8)) 30,
 mo (.ld none (.t 30)) 31])
 (.block 2
 (.cut (.seq (.reg [mo (.bin false .eql (.t 31) (.c (.int .i64 1))) 33,
 mo (.mv (.t 33)) 32])
 (.cond (.t 32)
 .skip
 (.reg [mo (.bin false .eql (.t 31) (.c (.int .i64 2))) 34,
 mo (.mv (.t 34)) 32])))
 mc_5p)))
 mc_5q))))
 (.reg [mo (.bin true .add (.t 17) (.c (.int .i64 1))) 74,
 mo (.mv (.t 74)) 17]))))
def mc_1p : MC :=
 (.seq (.reg [mo (.box (.t 1)) 3,
 mo (.alloc [(.int .i64 0),(.sl [])]) 4])
 (.seq (.reg [mo (.mv (.t 0)) 9,
 mo (.call (.f 9) [(.t 9),(.c (.int .i64 1)),(.c (.int .i64 4))] [1000] []) 10,
 mo (.build [(.int .i64 0), .nils] [(0,1,(.t 10))]) 11,
 mo (.alloc [(.int .i64 0),(.sl [])]) 5,
 ⟨.st 2 (.t 5) (.t 11), none, none⟩])
 (.seq (.seq (.reg [mo (.mv (.t 0)) 12,
 mo (.mv (.t 0)) 13,
 mo (.call (.f 8) [(.t 13),(.c (.int .i64 16))] [1000] []) 14,
 mo (.call (.f 25) [(.t 12),(.t 14)] [1000] []) 15,
 mo (.len false (.t 15)) 16,
 mo (.mv (.c (.int .i64 0))) 17])
 (.block 0
 (.loop mc_32)))
 (.seq (.reg [mo (.ld (some 2) (.t 5)) 75,
 ⟨.st 2 (.t 4) (.t 75), none, none⟩])
 .ret))))
theorem Wq_1p (t_ : GTape) (d_ : GDirectory) {Q : GEstate × GTape → Prop} {Q' : V → Heap → Prop} (h : Ok (F_1p t_ d_) Q) (hQ : ∀ z, Q z → Q' (GEstate.v z.1) [(1000, .cells [.sl (z.2.L.map (V.int .i64)), .int .i64 z.2.at_])]) : ACall Tryz.prog 7 [.ptr 1000 0, GDirectory.v d_] [(1000, .cells [.sl (t_.L.map (V.int .i64)), .int .i64 t_.at_])] Q' := by
 refine acallM mc_1p [.fzc 4] [1000] [.c 4 (some 2)] Tryz.func7 fun M => ?_
 unfold F_1p at h
 unfold mc_1p
 replace h := tY h
 refine tB ?_
 repeat' (first
 | (exact tZ)
 | ((first | refine oblg h ?_ | refine roomG h ?_ | refine fork h ?_ ?_ | refine forkS h ?_ ?_) <;> clear h <;> intro hc h)
 | (obtain ⟨y, hy, h⟩ := h; (first | with_reducible first | have hw := W_e hy | have hw := W_0 hy | have hw := W_1c hy | have hw := W_1b hy); replace hw := tY hw; (first | refine M.sC hw ?_ | refine M.sD hw ?_); clear hw hy; refine tB ?_)
 | (refine M.jn1 (b := mc_5o) [0,3,4,5,8,15,16,17,31] [8,5,4081,4,3,1000] (fun y => [(50, .bool y)]) (fun y => []) [] h ?_ ?_ <;> first
 | (clear h; intro Qn K hK1 h; replace h := tY h; refine tB ?_)
  |(clear h; intro y h; unfold mc_5o; replace h := tY h; refine tB ?_))
 | (refine M.jn1 (b := mc_5p) [0,3,4,5,7,8,15,16,17,31] [8,5,4081,4,3,1000] (fun y => [(32, .bool y)]) (fun y => []) [] h ?_ ?_ <;> first
 | (clear h; intro Qn K hK2 h; replace h := tY h; refine tB ?_)
  |(clear h; intro y h; unfold mc_5p; replace h := tY h; refine tB ?_))
 | (refine M.jnE (b := mc_5q) [0,3,4,5,8,15,16,17] [5,4081,4,3] (fun y => []) (fun y => [.o 8 (.cells [.int .i64 y.1.Time, .int .i64 y.1.Kind, .int .i64 y.1.Place, .int .i64 y.1.Principal, .int .i64 y.1.Until, .int .i64 y.1.Content, .int .i64 y.1.From]), .o 1000 (.cells [.sl (y.2.L.map (V.int .i64)), .int .i64 y.2.at_])]) [] h ?_ ?_ <;> first
 | (clear h; intro Qn K hK3 h; replace h := tY h; refine tB ?_)
  |(clear h; intro y h; unfold mc_5q; replace h := tY h; refine tB ?_))
 | (refine M.fold1 (b := mc_32) 17 [0,3,4,5,15,16] [4,3] (fun x => []) (fun x => [.o 5 (.cells [.int .i64 x.1, .osl 4081 7 0 x.2.1.length]), .o 4081 (.arr 7 (x.2.1.map GAccess.v)), .o 1000 (.cells [.sl (x.2.2.L.map (V.int .i64)), .int .i64 x.2.2.at_])]) [.gc [0,3,4,5,15,16,17], .ownC 5 1 4081 7 none] h ?_ ?_ ?_ <;> first
 | (clear h; intro k a x Qn K hK4 hkN4 ha4 h hf; have hl := fact_int (factsE_find (n := 16) hf.1 rfl); clear hf; have hkd := kD hkN4; have hkB4 := kB hkN4; have hkI4 := kI (k := k) (by omega); unfold F_32 at h; unfold mc_32; replace h := tY h; refine tK ha4 hkd hkN4 hkB4 hkI4 ?_)
  |(clear h; intro x K h; replace h := And.left (And.intro h trivial); unfold mc_32; replace h := tY h; refine tB ?_)
  |(clear h; (try refine tB ?_); exact tU0; done))
 | (simp only [ha4])
 | ((first | refine hK1 _ ?_ | refine hK2 _ ?_ | refine hK3 _ ?_ | refine hK4 _ ?_); (try refine tB ?_); refine ⟨_, h, ?_⟩; exact tU0; done)
 | (refine tE ?_; (first | rw [M.lok_compU] | rw [M.lokD_compU]); refine tB ?_)
 | (refine tA ?_))
def W_1p {t_ d_ y} (hy : (F_1p t_ d_) = some y) := acW (Wq_1p t_ d_) hy
noncomputable def F_2e (a_ : GEstate) (place_ : Int) (t_ : Int) (x29 : Int) : Option (Fl Int (Sum Unit (Int × Bool))) :=
 bif decide (0 ≤ x29) then (F_j a_ place_ x29 t_).bind fun y37 => bif y37 then some (.ex (.inr (x29, true))) else chk (in64 (x29 - 1)) (some (.nx (x29 - 1))) else some (.ex (.inl ()))
noncomputable def F_t (a_ : GEstate) (place_ : Int) (t_ : Int) : Option (Int × Bool) :=
 chk (in64 ((a_.Events.length : Int) - 1)) ((loop (F_2e a_ place_ t_) ((a_.Events.length : Int) - 1)).bind fun r38 => Sum.elim (fun u39 => some (0, false)) (fun u40 => some u40) r38)
@[irreducible] def mc_2e : MC :=
 (.seq (.seq (.reg [mo (.mv (.t 8)) 13,
 mo (.bin false .geq (.t 13) (.c (.int .i64 0))) 14])
 (.cond (.t 14)
 .skip
 (.exit 0)))
 (.seq (.block 1
 (.seq (.reg [mo (.ld (some 2) (.t 3)) 17,
 mo (.mv (.t 1)) 18,
 mo (.mv (.t 8)) 19,
 mo (.mv (.t 2)) 20,
 mo (.call (.f 38) [(.t 17),(.t 18),(.t 19),(.t 20)] [] []) 21])
 (.cond (.t 21)
 (.seq (.note (.gc [8]) (.reg [mo (.mv (.t 8)) 22,
 mo (.mv (.t 22)) 6,
 mo (.mv (.c (.bool true))) 7]))
 .ret)
 .skip)))
 (.reg [mo (.mv (.t 8)) 15,
 mo (.bin true .sub (.t 15) (.c (.int .i64 1))) 16,
 mo (.mv (.t 16)) 8])))
def mc_t : MC :=
 (.seq (.reg [mo (.box (.t 0)) 3,
 mo (.mv (.c (.int .i64 0))) 6,
 mo (.mv (.c (.bool false))) 7])
 (.seq (.seq (.reg [mo (.fad 1 (.t 3)) 9,
 mo (.ld none (.t 9)) 10,
 mo (.len false (.t 10)) 11,
 mo (.bin true .sub (.t 11) (.c (.int .i64 1))) 12,
 mo (.mv (.t 12)) 8])
 (.block 0
 (.loop mc_2e)))
 (.seq (.reg [mo (.mv (.c (.int .i64 0))) 6,
 mo (.mv (.c (.bool false))) 7])
 .ret)))
theorem Wq_t (a_ : GEstate) (place_ : Int) (t_ : Int) {Q : Int × Bool → Prop} {Q' : V → Heap → Prop} (h : Ok (F_t a_ place_ t_) Q) (hQ : ∀ z, Q z → Q' (.tup [.int .i64 z.1, .bool z.2]) []) : ACall Tryz.prog 28 [GEstate.v a_, .int .i64 place_, .int .i64 t_] [] Q' := by
 refine acallM mc_t [] [] [.t 6, .t 7] Tryz.func28 fun M => ?_
 unfold F_t at h
 unfold mc_t
 replace h := tY h
 refine tB ?_
 repeat' (first
 | (exact tZ)
 | ((first | refine oblg h ?_ | refine roomG h ?_ | refine fork h ?_ ?_ | refine forkS h ?_ ?_) <;> clear h <;> intro hc h)
 | (obtain ⟨y, hy, h⟩ := h; have hw := W_j hy; replace hw := tY hw; (first | refine M.sC hw ?_ | refine M.sD hw ?_); clear hw hy; refine tB ?_)
 | (refine M.wh1 (b := mc_2e) [1,2,3] [3] (fun x => [(8, .int .i64 x)]) (fun x => []) [] h ?_ ?_ <;> first
 | (clear h; intro x Qn K hK1 h; unfold F_2e at h; unfold mc_2e; replace h := tY h; refine tB ?_)
  |(clear h; (try refine tB ?_); exact tU0; done))
 | (refine hK1 _ ?_; (try refine tB ?_); refine ⟨_, h, ?_⟩; exact tU0; done)
 | (refine tE ?_; (first | rw [M.lok_compU] | rw [M.lokD_compU]); refine tB ?_)
 | (refine tA ?_))
def W_t {a_ place_ t_ y} (hy : (F_t a_ place_ t_) = some y) := acW (Wq_t a_ place_ t_) hy
noncomputable def F_3o (a_ : GEstate) (place_ : Int) (t_ : Int) (x26 : Int × (List Int)) : Option (Fl (Int × (List Int)) (List Int)) :=
 bif decide (x26.1 < 24) then jn (α := List Int) ((F_18 a_ place_ x26.1 t_).bind fun y34 => bif decide (0 ≤ y34) then chk (room (x26.2.length + [x26.1].length) 8) (some (x26.2 ++ [x26.1])) else some x26.2) fun j32 => chk (in64 (x26.1 + 1)) (some (.nx ((x26.1 + 1), j32))) else some (.ex x26.2)
noncomputable def F_z (a_ : GEstate) (place_ : Int) (t_ : Int) : Option (List Int) :=
 (F_3 a_ place_).bind fun y4 => bif (!y4) then some [] else (loop (F_3o a_ place_ t_) (0,[])).bind fun r35 => some r35
@[irreducible] def mc_5r : MC :=
 (.reg [mo (.mv (.t 8)) 15,
 mo (.bin true .add (.t 15) (.c (.int .i64 1))) 16,
 mo (.mv (.t 16)) 8])
@[irreducible] def mc_3o : MC :=
 (.seq (.seq (.reg [mo (.mv (.t 8)) 13,
 mo (.bin false .lss (.t 13) (.c (.int .i64 24))) 14])
 (.cond (.t 14)
 .skip
 (.exit 0)))
 (.cut (.block 1
 (.seq (.reg [mo (.ld (some 2) (.t 3)) 17,
 mo (.mv (.t 1)) 18,
 mo (.mv (.t 8)) 19,
 mo (.mv (.t 2)) 20,
 mo (.call (.f 70) [(.t 17),(.t 18),(.t 19),(.t 20)] [] []) 21,
 mo (.bin false .geq (.t 21) (.c (.int .i64 0))) 22])
 (.cond (.t 22)
 (.note (.gc [1,2,3,7,8]) (.reg [mo (.mv (.t 7)) 23,
 mo (.mv (.t 8)) 24,
 mo (.bslice 1 [(.t 24)]) 25,
 mo (.app 1 8 (.t 23) (.t 25)) 26,
 mo (.mv (.t 26)) 7]))
 .skip)))
 mc_5r))
def mc_z : MC :=
 (.seq (.reg [mo (.box (.t 0)) 3,
 mo (.mv (.c (.sl []))) 6])
 (.seq (.seq (.reg [mo (.ld (some 2) (.t 3)) 9,
 mo (.mv (.t 1)) 10,
 mo (.call (.f 27) [(.t 9),(.t 10)] [] []) 11,
 mo (.not (.t 11)) 12])
 (.cond (.t 12)
 (.seq (.reg [mo (.mv (.c (.sl []))) 6])
 .ret)
 .skip))
 (.seq (.reg [mo (.mv (.c .nils)) 7])
 (.seq (.seq (.reg [mo (.mv (.c (.int .i64 0))) 8])
 (.block 0
 (.loop mc_3o)))
 (.seq (.reg [mo (.mv (.t 7)) 27,
 mo (.mv (.t 27)) 6])
 .ret)))))
theorem Wq_z (a_ : GEstate) (place_ : Int) (t_ : Int) {Q : List Int → Prop} {Q' : V → Heap → Prop} (h : Ok (F_z a_ place_ t_) Q) (hQ : ∀ z, Q z → Q' (.sl (z.map (V.int .i64))) []) : ACall Tryz.prog 53 [GEstate.v a_, .int .i64 place_, .int .i64 t_] [] Q' := by
 refine acallM mc_z [.fz 6] [] [.t 6] Tryz.func53 fun M => ?_
 unfold F_z at h
 unfold mc_z
 replace h := tY h
 refine tB ?_
 repeat' (first
 | (exact tZ)
 | ((first | refine oblg h ?_ | refine roomG h ?_ | refine fork h ?_ ?_ | refine forkS h ?_ ?_) <;> clear h <;> intro hc h)
 | (obtain ⟨y, hy, h⟩ := h; (first | with_reducible first | have hw := W_3 hy | have hw := W_18 hy); replace hw := tY hw; (first | refine M.sC hw ?_ | refine M.sD hw ?_); clear hw hy; refine tB ?_)
 | (refine M.jn1 (b := mc_5r) [1,2,3,8] [3] (fun y => [(7, .osl 2007 1 0 y.length)]) (fun y => [.o 2007 (.arr 1 (y.map (V.int .i64)))]) [.gc [1,2,3,7,8], .acc 7 2007 1] h ?_ ?_ <;> first
 | (clear h; intro Qn K hK1 h; replace h := tY h; refine tB ?_)
  |(clear h; intro y h; unfold mc_5r; replace h := tY h; refine tB ?_))
 | (refine M.wh1 (b := mc_3o) [1,2,3] [3] (fun x => [(7, .osl 2007 1 0 x.2.length), (8, .int .i64 x.1)]) (fun x => [.o 2007 (.arr 1 (x.2.map (V.int .i64)))]) [.gc [1,2,3,7,8], .acc 7 2007 1] h ?_ ?_ <;> first
 | (clear h; intro x Qn K hK2 h; unfold F_3o at h; unfold mc_3o; replace h := tY h; refine tB ?_)
  |(clear h; (try refine tB ?_); exact tU0; done))
 | ((first | refine hK1 _ ?_ | refine hK2 _ ?_); (try refine tB ?_); refine ⟨_, h, ?_⟩; exact tU0; done)
 | (refine tE ?_; (first | rw [M.lok_compU] | rw [M.lokD_compU]); refine tB ?_)
 | (refine tA ?_))
def W_z {a_ place_ t_ y} (hy : (F_z a_ place_ t_) = some y) := acW (Wq_z a_ place_ t_) hy
def F_33 (k28 : Int) (a29 : Bool) (x27 : List Int) : Option (List Int) :=
 bif a29 then chk (room (x27.length + [k28].length) 8) (some (x27 ++ [k28])) else some x27
def F_k (d_ : GDirectory) (p_ : Int) (t_ : Int) : Option (List Int) :=
 (F_2 d_).bind fun y7 => bif (!y7) then some [] else (F_4 d_ p_).bind fun y8 => bif (!y8) then some [] else (upF d_.Kinds.length (d_.Events.map fun e => (e.Time, e.Kind, e.Principal, e.Group)) p_ t_).bind fun y21 => (foldL F_33 y21 0 []).bind fun x30 => some x30
@[irreducible] def mc_33 : MC :=
 (.seq (.reg [mo (.bin false .lss (.t 24) (.t 23)) 25])
 (.seq (.cond (.t 25)
 .skip
 (.exit 0))
 (.seq (.block 1
 (.seq (.reg [mo (.mv (.t 24)) 26,
 mo (.iad 1 (.t 22) (.t 24)) 27,
 mo (.ld none (.t 27)) 28,
 mo (.mv (.t 26)) 8,
 mo (.mv (.t 28)) 9])
 (.seq (.reg [mo (.mv (.t 9)) 29])
 (.cond (.t 29)
 (.reg [mo (.mv (.t 7)) 30,
 mo (.mv (.t 8)) 31,
 mo (.bslice 1 [(.t 31)]) 32,
 mo (.app 1 8 (.t 30) (.t 32)) 33,
 mo (.mv (.t 33)) 7])
 .skip))))
 (.reg [mo (.bin true .add (.t 24) (.c (.int .i64 1))) 34,
 mo (.mv (.t 34)) 24]))))
def mc_k : MC :=
 (.seq (.reg [mo (.box (.t 0)) 3,
 mo (.mv (.c (.sl []))) 6])
 (.seq (.seq (.reg [mo (.ld (some 2) (.t 3)) 10,
 mo (.call (.f 26) [(.t 10)] [] []) 11,
 mo (.not (.t 11)) 12,
 mo (.mv (.t 12)) 13,
 ⟨.ld (some 2) (.t 3), (some 14), (some (13, false))⟩,
 ⟨.mv (.t 1), (some 15), (some (13, false))⟩,
 ⟨.call (.f 44) [(.t 14),(.t 15)] [] [], (some 16), (some (13, false))⟩,
 ⟨.not (.t 16), (some 17), (some (13, false))⟩,
 mo (.pick (.t 13) (.c (.bool true)) (.t 17)) 18])
 (.cond (.t 18)
 (.seq (.reg [mo (.mv (.c (.sl []))) 6])
 .ret)
 .skip))
 (.seq (.reg [mo (.mv (.c .nils)) 7])
 (.seq (.seq (.note (.gc [1,2,3,7]) (.reg [mo (.ld (some 2) (.t 3)) 19,
 mo (.mv (.t 1)) 20,
 mo (.mv (.t 2)) 21,
 mo (.call (.f 45) [(.t 19),(.t 20),(.t 21)] [] []) 22,
 mo (.len false (.t 22)) 23,
 mo (.mv (.c (.int .i64 0))) 24]))
 (.block 0
 (.loop mc_33)))
 (.seq (.reg [mo (.mv (.t 7)) 35,
 mo (.mv (.t 35)) 6])
 .ret)))))
theorem Wq_k (d_ : GDirectory) (p_ : Int) (t_ : Int) {Q : List Int → Prop} {Q' : V → Heap → Prop} (h : Ok (F_k d_ p_ t_) Q) (hQ : ∀ z, Q z → Q' (.sl (z.map (V.int .i64))) []) : ACall Tryz.prog 19 [GDirectory.v d_, .int .i64 p_, .int .i64 t_] [] Q' := by
 refine acallM mc_k [.fz 6] [] [.t 6] Tryz.func19 fun M => ?_
 unfold F_k at h
 unfold mc_k
 replace h := tY h
 refine tB ?_
 repeat' (first
 | (exact tZ)
 | ((first | refine oblg h ?_ | refine roomG h ?_ | refine fork h ?_ ?_ | refine forkS h ?_ ?_) <;> clear h <;> intro hc h)
 | (obtain ⟨y, hy, h⟩ := h; (first | (with_reducible first | have hw := W_2 hy | have hw := W_4 hy) | have hw := W_up (f := GMember.v) (e4 := fun e => (e.Time, e.Kind, e.Principal, e.Group)) (fun _ => rfl) hy); replace hw := tY hw; (first | refine M.sC hw ?_ | refine M.sD hw ?_); clear hw hy; refine tB ?_)
 | (refine M.fold1 (b := mc_33) 24 [22,23] [] (fun x => [(7, .osl 2007 1 0 x.length)]) (fun x => [.o 2007 (.arr 1 (x.map (V.int .i64)))]) [.gc [7,22,23,24], .acc 7 2007 1] h ?_ ?_ ?_ <;> first
 | (clear h; intro k a x Qn K hK1 hkN1 ha1 h hf; have hl := fact_int (factsE_find (n := 23) hf.1 rfl); clear hf; have hkd := kD hkN1; have hkB1 := kB hkN1; have hkI1 := kI (k := k) (by omega); unfold F_33 at h; unfold mc_33; replace h := tY h; refine tK ha1 hkd hkN1 hkB1 hkI1 ?_)
  |(clear h; intro x K h; replace h := And.left (And.intro h trivial); unfold mc_33; replace h := tY h; refine tB ?_)
  |(clear h; (try refine tB ?_); exact tU0; done))
 | (simp only [ha1])
 | (refine hK1 _ ?_; (try refine tB ?_); refine ⟨_, h, ?_⟩; exact tU0; done)
 | (refine tE ?_; (first | rw [M.lok_compU] | rw [M.lokD_compU]); refine tB ?_)
 | (refine tA ?_))
def W_k {d_ p_ t_ y} (hy : (F_k d_ p_ t_) = some y) := acW (Wq_k d_ p_ t_) hy
end Go.Ab
