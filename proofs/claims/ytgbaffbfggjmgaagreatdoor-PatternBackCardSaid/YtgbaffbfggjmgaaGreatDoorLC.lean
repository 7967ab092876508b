/- What the functions of this seat that lie on the laws' road compute (part LC), each for every input. By AI agents. -/
import Derived.Test.YtgbaffbfggjmgaaGreatDoorProg
import Derived.KernelRfl
import Derived.Test.YtgbaffbfggjmgaaGreatDoorAbFun
import Derived.Test.YtgbaffbfggjmgaaGreatDoorLB
set_option linter.all false
set_option linter.all false
set_option maxRecDepth 20000
set_option maxHeartbeats 2000000
namespace Go.Ab
open Go.Proofs
structure GTape where
 L : List Int
 at_ : Int
instance : Inhabited GTape := ⟨⟨default, default⟩⟩
def GTape.v (x : GTape) : V := .agg [.sl (x.L.map (V.int .i64)), .int .i64 x.at_]
theorem inbk_1 {n : Nat} : (inb 1 n = true) = (((1 : Nat) : Int) < (n : Int)) := propext (by rw [inb_iff]; omega)
attribute [go_sem] inbk_1
attribute [go_sem] GTape.v
def F_t (t_ : GTape) (n_ : Int) : Option (Int × GTape) :=
 bif decide ((t_.L.length : Int) ≤ t_.at_) then some (0, t_) else chk (inb t_.at_ t_.L.length) (chk (in64 (t_.at_ + 1)) (chk (divs ((t_.L.getD (t_.at_).toNat default) % 2 ^ 16) n_) (some ((((t_.L.getD (t_.at_).toNat default) % 2 ^ 16) % n_), (GTape.mk t_.L (t_.at_ + 1))))))
def mc_t : MC :=
 (sR [oC 0 4]
 (.seq (.seq (.regD [oV 0 6,
 mo (.nck (.t 6)) 7,
 oF 1 7 8,
 oL 8 9,
 oV 0 10,
 mo (.nck (.t 10)) 11,
 oF 0 11 12,
 oL 12 13,
 mo (.len false (.t 13)) 14,
 mo (.bin false .geq (.t 9) (.t 14)) 15]
 [[],[0],[1],[2],[],[4],[5],[6],[7],[3,8]]
 [[],[0],[0,1],[0,1,2],[],[4],[4,5],[4,5,6],[4,5,6,7],[0,1,2,3,4,5,6,7,8]])
 (.cond (.t 15)
 (sR [oC 0 4]
 .ret)
 .skip))
 (.seq (.note (.gc [0,1]) (.regD [oV 0 16,
 mo (.nck (.t 16)) 17,
 oF 0 17 18,
 oL 18 19,
 oV 0 20,
 mo (.nck (.t 20)) 21,
 oF 1 21 22,
 oL 22 23,
 mo (.iad 1 (.t 19) (.t 23)) 24,
 oL 24 25,
 mo (.mask 16 (.t 25) .i64) 26,
 oV 26 5]
 [[],[0],[1],[2],[],[4],[5],[6],[3,7],[8],[9],[10,0,1,2,3,4,5,6,7,8,9,10]]
 [[],[0],[0,1],[0,1,2],[],[4],[4,5],[4,5,6],[0,1,2,3,4,5,6,7],[0,1,2,3,4,5,6,7,8],[0,1,2,3,4,5,6,7,8,9],[0,1,2,3,4,5,6,7,8,9,10]]))
 (.seq (.note (.gc [0,1,5]) (.reg [oV 0 27,
 mo (.nck (.t 27)) 28,
 oF 1 28 29,
 oL 29 30,
 mo (.bin true .add (.t 30) (cI 1)) 31,
 mo (.nck (.t 27)) 32,
 oF 1 32 33,
 ⟨.st 1 (.t 33) (.t 31), none, none⟩]))
 (.seq (.note (.gc [1,5]) (.reg [oV 5 34,
 oV 1 35,
 mo (.bin true .rem (.t 34) (.t 35)) 36,
 oV 36 4]))
 .ret)))))
theorem Wq_t {t_ : GTape} {n_ : Int} : Cn Tryz.prog 30 [.ptr 1000 0, .int .i64 n_] [(1000, .cells [.sl (t_.L.map (V.int .i64)), .int .i64 t_.at_])] (F_t t_ n_) (fun z => .int .i64 z.1) (fun z => [(1000, .cells [.sl (z.2.L.map (V.int .i64)), .int .i64 z.2.at_])]) := fun Q Q' h hQ => by
 refine acallM mc_t [] [1000] [.t 4] Tryz.func30 fun M => ?_
 unfold F_t at h
 unfold mc_t
 replace h := tY h
 refine tB ?_
 repeat' (first
 | (exact tZ)
 | ((first | refine oblg h ?_ | refine roomG h ?_ | refine divG h ?_ | refine fork h ?_ ?_ | refine forkS h ?_ ?_) <;> clear h <;> intro hc h)
 | (refine tE ?_; (first | rw [M.lok_compU] | rw [M.lokD_compU]); refine tB ?_)
 | (refine tA ?_)
 | fail)
def F_w (t_ : GTape) : Option (GNode × GTape) :=
 (F_t t_ ([[(GRange.mk 97 98)],[(GRange.mk 48 57)],[(GRange.mk 97 97)],[(GRange.mk 98 98)],[(GRange.mk 48 57), (GRange.mk 97 102)],[(GRange.mk 107 107)],[(GRange.mk 45 45)],[(GRange.mk 0 9), (GRange.mk 250 255)]].length : Int)).bind fun y2 => chk (inb y2.1 [[(GRange.mk 97 98)],[(GRange.mk 48 57)],[(GRange.mk 97 97)],[(GRange.mk 98 98)],[(GRange.mk 48 57), (GRange.mk 97 102)],[(GRange.mk 107 107)],[(GRange.mk 45 45)],[(GRange.mk 0 9), (GRange.mk 250 255)]].length) (some ((GNode.mk 1 ([[(GRange.mk 97 98)],[(GRange.mk 48 57)],[(GRange.mk 97 97)],[(GRange.mk 98 98)],[(GRange.mk 48 57), (GRange.mk 97 102)],[(GRange.mk 107 107)],[(GRange.mk 45 45)],[(GRange.mk 0 9), (GRange.mk 250 255)]].getD ((y2.1).toNat) default) [] 0 0), y2.2))
def mc_w : MC :=
 (sR [mo (.alloc [(.int .i64 0),(.sl []),(.sl []),(.int .i64 0),(.int .i64 0)]) 2]
 (sR [mo (.build [(.int .u8 0),(.int .u8 0)] [(0,1,(.c (.int .u8 97))), (1,1,(.c (.int .u8 98)))]) 4,
 mo (.lsl 2 [(.t 4)]) 5,
 mo (.build [(.int .u8 0),(.int .u8 0)] [(0,1,(.c (.int .u8 48))), (1,1,(.c (.int .u8 57)))]) 6,
 mo (.lsl 2 [(.t 6)]) 7,
 mo (.build [(.int .u8 0),(.int .u8 0)] [(0,1,(.c (.int .u8 97))), (1,1,(.c (.int .u8 97)))]) 8,
 mo (.lsl 2 [(.t 8)]) 9,
 mo (.build [(.int .u8 0),(.int .u8 0)] [(0,1,(.c (.int .u8 98))), (1,1,(.c (.int .u8 98)))]) 10,
 mo (.lsl 2 [(.t 10)]) 11,
 mo (.build [(.int .u8 0),(.int .u8 0)] [(0,1,(.c (.int .u8 48))), (1,1,(.c (.int .u8 57)))]) 12,
 mo (.build [(.int .u8 0),(.int .u8 0)] [(0,1,(.c (.int .u8 97))), (1,1,(.c (.int .u8 102)))]) 13,
 mo (.lsl 2 [(.t 12),(.t 13)]) 14,
 mo (.build [(.int .u8 0),(.int .u8 0)] [(0,1,(.c (.int .u8 107))), (1,1,(.c (.int .u8 107)))]) 15,
 mo (.lsl 2 [(.t 15)]) 16,
 mo (.build [(.int .u8 0),(.int .u8 0)] [(0,1,(.c (.int .u8 45))), (1,1,(.c (.int .u8 45)))]) 17,
 mo (.lsl 2 [(.t 17)]) 18,
 mo (.build [(.int .u8 0),(.int .u8 0)] [(0,1,(.c (.int .u8 0))), (1,1,(.c (.int .u8 9)))]) 19,
 mo (.build [(.int .u8 0),(.int .u8 0)] [(0,1,(.c (.int .u8 250))), (1,1,(.c (.int .u8 255)))]) 20,
 mo (.lsl 2 [(.t 19),(.t 20)]) 21,
 mo (.bslice 1 [(.t 5),(.t 7),(.t 9),(.t 11),(.t 14),(.t 16),(.t 18),(.t 21)]) 22,
 oV 22 3]
 (.seq (.note (.gc [0,2,3]) (.reg [oV 3 23,
 oV 0 24,
 oV 3 25,
 mo (.len false (.t 25)) 26,
 mo (.call (.f 30) [(.t 24),(.t 26)] [1000] []) 27,
 mo (.iad 1 (.t 23) (.t 27)) 28,
 oL 28 29,
 mo (.build [(.int .i64 0),(.sl []),(.sl []),(.int .i64 0),(.int .i64 0)] [(0,1, (cI 1)), (1,1,(.t 29))]) 30,
 ⟨.st 5 (.t 2) (.t 30), none, none⟩]))
 .ret)))
theorem Wq_w {t_ : GTape} : Cn Tryz.prog 35 [.ptr 1000 0] [(1000, .cells [.sl (t_.L.map (V.int .i64)), .int .i64 t_.at_])] (F_w t_) (fun z => GNode.v z.1) (fun z => [(1000, .cells [.sl (z.2.L.map (V.int .i64)), .int .i64 z.2.at_])]) := fun Q Q' h hQ => by
 refine acallM mc_w [.fzc 2] [1000] [.c 2 (some 5)] Tryz.func35 fun M => ?_
 unfold F_w at h
 unfold mc_w
 replace h := tY h
 refine tB ?_
 repeat' (first
 | (exact tZ)
 | ((first | refine oblg h ?_ | refine roomG h ?_ | refine inbG h ?_ | refine fork h ?_ ?_ | refine forkS h ?_ ?_) <;> clear h <;> intro hc h)
 | (obtain ⟨y, hy, h⟩ := h; have hw := Wq_t.w hy; replace hw := tY hw; (first | refine M.sC hw ?_ | refine M.sD hw ?_); clear hw hy; refine tB ?_)
 | (refine tE6 (slV GRange.v) ([[(GRange.mk 97 98)],[(GRange.mk 48 57)],[(GRange.mk 97 97)],[(GRange.mk 98 98)],[(GRange.mk 48 57), (GRange.mk 97 102)],[(GRange.mk 107 107)],[(GRange.mk 45 45)],[(GRange.mk 0 9), (GRange.mk 250 255)]] : List (List GRange)) ?_; (first | rw [M.lok_compU] | rw [M.lokD_compU] | (simp only [slV, V.cells]; first | rw [M.lok_comp] | rw [M.lokD_comp])); refine tB ?_)
 | (refine tE5 (slV GRange.v) (by assumption) (by assumption) ?_; (first | rw [M.lok_compU] | rw [M.lokD_compU] | (simp only [slV, V.cells]; first | rw [M.lok_comp] | rw [M.lokD_comp])); refine tB ?_)
 | (refine tE4 (slV GRange.v) ?_; (first | rw [M.lok_compU] | rw [M.lokD_compU] | (simp only [V.cells]; first | rw [M.lok_comp] | rw [M.lokD_comp])); refine tB ?_)
 | (refine tE ?_; (first | rw [M.lok_compU] | rw [M.lokD_compU]); refine tB ?_)
 | (refine tA ?_)
 | fail)
def F_17 (t_ : GTape) (a_ : Int) (b_ : Int) : Option (Int × GTape) :=
 chk (in64 (b_ - a_)) (chk (in64 ((b_ - a_) + 1)) ((F_t t_ ((b_ - a_) + 1)).bind fun y2 => chk (in64 (a_ + y2.1)) (some ((a_ + y2.1), y2.2))))
def mc_17 : MC :=
 (sR [oC 0 6]
 (sR [oV 1 7,
 oV 0 8,
 oV 2 9,
 oV 1 10,
 mo (.bin true .sub (.t 9) (.t 10)) 11,
 mo (.bin true .add (.t 11) (cI 1)) 12,
 mo (.call (.f 30) [(.t 8),(.t 12)] [1000] []) 13,
 mo (.bin true .add (.t 7) (.t 13)) 14,
 oV 14 6]
 .ret))
theorem Wq_17 {t_ : GTape} {a_ b_ : Int} : Cn Tryz.prog 34 [.ptr 1000 0, .int .i64 a_, .int .i64 b_] [(1000, .cells [.sl (t_.L.map (V.int .i64)), .int .i64 t_.at_])] (F_17 t_ a_ b_) (fun z => .int .i64 z.1) (fun z => [(1000, .cells [.sl (z.2.L.map (V.int .i64)), .int .i64 z.2.at_])]) := fun Q Q' h hQ => by
 refine acallM mc_17 [] [1000] [.t 6] Tryz.func34 fun M => ?_
 unfold F_17 at h
 unfold mc_17
 replace h := tY h
 refine tB ?_
 repeat' (first
 | (exact tZ)
 | ((first | refine oblg h ?_ | refine roomG h ?_ | refine fork h ?_ ?_ | refine forkS h ?_ ?_) <;> clear h <;> intro hc h)
 | (obtain ⟨y, hy, h⟩ := h; have hw := Wq_t.w hy; replace hw := tY hw; (first | refine M.sC hw ?_ | refine M.sD hw ?_); clear hw hy; refine tB ?_)
 | (refine tE ?_; (first | rw [M.lok_compU] | rw [M.lokD_compU]); refine tB ?_)
 | (refine tA ?_)
 | fail)
noncomputable def FR_2 : Nat → GTape → Int → Option (GNode × GTape)
 | 0, _, _ => none
 | n + 1, t_, deep_ =>
 bif decide (deep_ ≤ 1) then (F_w t_).bind fun y4 => some (y4.1, y4.2) else jn (α := Fl (Int × GTape) (GNode × GTape)) ((F_t t_ 5).bind fun y21 => jn (α := Bool) (bif decide (y21.1 = 0) then some true else some (decide (y21.1 = 1))) fun j22 => bif j22 then some (.nx (2, y21.2)) else bif decide (y21.1 = 2) then some (.nx (3, y21.2)) else bif decide (y21.1 = 3) then (F_17 y21.2 1 4).bind fun y24 => chk (in64 (y24.1 + 1)) ((F_t y24.2 (y24.1 + 1)).bind fun y26 => jn (α := Int × Int) (grp ((decide (y26.1 = 1) && decide (y24.1 = 1))) fun b31 => bif b31 then some (y26.1,2) else some (y26.1, y24.1)) fun j29 => chk (in64 (deep_ - 1)) ((FR_2 n y26.2 (deep_ - 1)).bind fun y33 => some (.ex ((GNode.mk 4 [] [y33.1] j29.1 j29.2), y33.2)))) else (F_w y21.2).bind fun y35 => some (.ex (y35.1, y35.2))) fun o => o.elim (fun j19 => (F_17 j19.2 2 3).bind fun y67 => (loop (fun (x86 : Int × Int × (List GNode) × GTape) => (bif decide (0 < x86.1) then chk (in64 (deep_ - 1)) ((FR_2 n x86.2.2.2 (deep_ - 1)).bind fun y100 => jn (α := GNode × GTape) (bif decide (y100.1.Op = x86.2.1) then (F_w y100.2).bind fun y103 => some (y103.1, y103.2) else some (y100.1, y100.2)) fun j102 => chk (room (x86.2.2.1.length + [j102.1].length) 72) (chk (in64 (x86.1 - 1)) (some (.nx ((x86.1 - 1), x86.2.1, (x86.2.2.1 ++ [j102.1]), j102.2))))) else some (.ex (x86.2.1, x86.2.2.1, x86.2.2.2)) : Option (Fl (Int × Int × (List GNode) × GTape) (Int × (List GNode) × GTape)))) (y67.1, j19.1,[], y67.2)).bind fun r104 => some ((GNode.mk r104.1 [] r104.2.1 0 0), r104.2.2)) (fun r105 => some r105)
noncomputable def F_2 (t_ : GTape) (deep_ : Int) : Option (GNode × GTape) := lim fun n => FR_2 n t_ deep_
@[irreducible] def mg_36 : List MOp := [gT 39 40 (.fad 4 (.t 5)),
 gT 39 41 (.ld none (.t 40)),
 gT 39 42 (.bin false .eql (.t 41) (cI 1)),
 mo (.pick (.t 39) (.t 42) (.c (.bool false))) 43]
@[irreducible] def mc_37 : MC :=
 (sR [oV 0 45,
 oV 1 46,
 mo (.bin true .sub (.t 46) (cI 1)) 47,
 mo (.call (.f 10) [(.t 45),(.t 47)] [1000] []) 48,
 mo (.bslice 5 [(.t 48)]) 49,
 oF 2 5 50,
 ⟨.st 1 (.t 50) (.t 49), none, none⟩]
 (sR [mo (.ld (some 5) (.t 5)) 51,
 ⟨.st 5 (.t 4) (.t 51), none, none⟩]
 .ret))
@[irreducible] def mc_38 : MC :=
 (.cond (.t 17)
 (.reg [oF 0 5 20,
 ⟨.st 1 (.t 20) (cI 2), none, none⟩])
 (sR [mo (.bin false .eql (.t 14) (cI 2)) 22,
 oV 22 21]
 (.cond (.t 21)
 (.reg [oF 0 5 23,
 ⟨.st 1 (.t 23) (cI 3), none, none⟩])
 (sR [mo (.bin false .eql (.t 14) (cI 3)) 25,
 oV 25 24]
 (.cond (.t 24)
 (sR [oF 0 5 26,
 ⟨.st 1 (.t 26) (cI 4), none, none⟩]
 (sR [oV 0 27,
 mo (.call (.f 34) [(.t 27), (cI 1), (cI 4)] [1000] []) 28,
 oF 4 5 29,
 ⟨.st 1 (.t 29) (.t 28), none, none⟩]
 (.seq (.note (.gc [0,1,4,5,40,41,42]) (.reg [oV 0 30,
 oF 4 5 31,
 oL 31 32,
 mo (.bin true .add (.t 32) (cI 1)) 33,
 mo (.call (.f 30) [(.t 30),(.t 33)] [1000] []) 34,
 oF 3 5 35,
 ⟨.st 1 (.t 35) (.t 34), none, none⟩]))
 (.cut (.seq (.regI [.op (oF 3 5 36),
 .op (oL 36 37),
 .op (mo (.bin false .eql (.t 37) (cI 1)) 38),
 .op (oV 38 39),
 .grp mg_36])
 (.cond (.t 43)
 (.reg [oF 4 5 44,
 ⟨.st 1 (.t 44) (cI 2), none, none⟩])
 .skip))
 mc_37))))
 (.seq (.note (.gc [0,4]) (.reg [oV 0 15,
 mo (.call (.f 35) [(.t 15)] [1000] []) 16,
 ⟨.st 5 (.t 4) (.t 16), none, none⟩]))
 .ret))))))
@[irreducible] def mc_39 : MC :=
 (.reg [oF 2 5 69,
 oL 69 70,
 mo (.ld (some 5) (.t 7)) 71,
 mo (.bslice 5 [(.t 71)]) 72,
 mo (.app 5 72 (.t 70) (.t 72)) 73,
 oF 2 5 74,
 ⟨.st 1 (.t 74) (.t 73), none, none⟩])
@[irreducible] def mc_3a : MC :=
 (.seq (sR [oV 6 54,
 mo (.bin false .gtr (.t 54) (cI 0)) 55]
 (.cond (.t 55)
 .skip
 (.exit 1)))
 (.seq (.block 2
 (sR [oV 0 58,
 oV 1 59,
 mo (.bin true .sub (.t 59) (cI 1)) 60,
 mo (.call (.f 10) [(.t 58),(.t 60)] [1000] []) 61,
 mo (.alloc [(.int .i64 0),(.sl []),(.sl []),(.int .i64 0),(.int .i64 0)]) 7,
 ⟨.st 5 (.t 7) (.t 61), none, none⟩]
 (.cut (sR [oF 0 7 62,
 oL 62 63,
 oF 0 5 64,
 oL 64 65,
 mo (.bin false .eql (.t 63) (.t 65)) 66]
 (.cond (.t 66)
 (.note (.gc [0,1,4,5,6,7]) (.reg [oV 0 67,
 mo (.call (.f 35) [(.t 67)] [1000] []) 68,
 ⟨.st 5 (.t 7) (.t 68), none, none⟩]))
 .skip))
 mc_39)))
 (.reg [oV 6 56,
 mo (.bin true .sub (.t 56) (cI 1)) 57,
 oV 57 6])))
@[irreducible] def mc_3b : MC :=
 (.seq (sR [oV 0 52,
 mo (.call (.f 34) [(.t 52), (cI 2), (cI 3)] [1000] []) 53,
 oV 53 6]
 (.block 1
 (.loop mc_3a)))
 (sR [mo (.ld (some 5) (.t 5)) 75,
 ⟨.st 5 (.t 4) (.t 75), none, none⟩]
 .ret))
def mc_2 : MC :=
 (sR [mo (.alloc [(.int .i64 0),(.sl []),(.sl []),(.int .i64 0),(.int .i64 0)]) 4]
 (.seq (sR [oV 1 8,
 mo (.bin false .leq (.t 8) (cI 1)) 9]
 (.cond (.t 9)
 (sR [oV 0 10,
 mo (.call (.f 35) [(.t 10)] [1000] []) 11,
 ⟨.st 5 (.t 4) (.t 11), none, none⟩]
 .ret)
 .skip))
 (sR [mo (.build [(.int .i64 0), .nils, .nils, (.int .i64 0),(.int .i64 0)] []) 12,
 mo (.alloc [(.int .i64 0),(.sl []),(.sl []),(.int .i64 0),(.int .i64 0)]) 5,
 ⟨.st 5 (.t 5) (.t 12), none, none⟩]
 (.cut (sR [oV 0 13,
 mo (.call (.f 30) [(.t 13), (cI 5)] [1000] []) 14]
 (.block 0
 (.cut (sR [mo (.bin false .eql (.t 14) (cI 0)) 18,
 oV 18 17]
 (.cond (.t 17)
 .skip
 (.reg [mo (.bin false .eql (.t 14) (cI 1)) 19,
 oV 19 17])))
 mc_38)))
 mc_3b))))
theorem Wq_2 {n : Nat} (ih_made_Pattern : ∀ {t_ : GTape} {deep_ : Int} {y : GNode × GTape}, FR_2 n t_ deep_ = some y → ACall Tryz.prog 10 [.ptr 1000 0, .int .i64 deep_] [(1000, .cells [.sl (t_.L.map (V.int .i64)), .int .i64 t_.at_])] (fun r H => r = GNode.v y.1 ∧ H = [(1000, .cells [.sl (y.2.L.map (V.int .i64)), .int .i64 y.2.at_])])) (t_ : GTape) (deep_ : Int) {Q : GNode × GTape → Prop} {Q' : V → Heap → Prop} (h : Ok (FR_2 (n + 1) t_ deep_) Q) (hQ : ∀ z, Q z → Q' (GNode.v z.1) [(1000, .cells [.sl (z.2.L.map (V.int .i64)), .int .i64 z.2.at_])]) : ACall Tryz.prog 10 [.ptr 1000 0, .int .i64 deep_] [(1000, .cells [.sl (t_.L.map (V.int .i64)), .int .i64 t_.at_])] Q' := by
 refine acallM mc_2 [.fzc 4] [1000] [.c 4 (some 5)] Tryz.func10 fun M => ?_
 simp only [FR_2] at h
 unfold mc_2
 replace h := tY h
 refine tB ?_
 repeat' (first
 | (exact tZ)
 | ((first | refine oblg h ?_ | refine roomG h ?_ | refine fork h ?_ ?_ | refine forkS h ?_ ?_) <;> clear h <;> intro hc h)
 | (obtain ⟨y, hy, h⟩ := h; (first | with_reducible first | have hw := Wq_w.w hy | have hw := Wq_t.w hy | have hw := Wq_17.w hy | have hw := ih_made_Pattern hy); replace hw := tY hw; (first | refine M.sC hw ?_ | refine M.sD hw ?_); clear hw hy; refine tB ?_)
 | (refine M.gv1 (ms := mg_36) 43 [40,41,42] h ?_ ?_ <;> first
 | (clear h; intro K hK1; unfold mg_36; refine tB ?_)
 | (clear h; intro b h; replace h := tY h; refine tB ?_))
 | (refine M.jn1 (b := mc_37) [0,1,4,5] [5,4,1000] (fun y => []) (fun y => [.p 5 3 [.int .i64 y.1], .p 5 4 [.int .i64 y.2]]) [] h ?_ ?_ <;> first
 | (clear h; intro Qn K hK2 h; replace h := tY h; refine tB ?_)
  |(clear h; intro y h; unfold mc_37; replace h := tY h; refine tB ?_))
 | (refine M.jn1 (b := mc_38) [0,1,4,5,14] [5,4,1000] (fun y => [(17, .bool y)]) (fun y => []) [] h ?_ ?_ <;> first
 | (clear h; intro Qn K hK3 h; replace h := tY h; refine tB ?_)
  |(clear h; intro y h; unfold mc_38; replace h := tY h; refine tB ?_))
 | (refine M.jn1 (b := mc_39) [0,1,4,5,6,7] [5,4082,4] (fun y => []) (fun y => [.o 7 (.cells [.int .i64 y.1.Op, .sl (y.1.Ranges.map GRange.v), .sl (y.1.Kids.map GNode.v), .int .i64 y.1.Min, .int .i64 y.1.Max]), .o 1000 (.cells [.sl (y.2.L.map (V.int .i64)), .int .i64 y.2.at_])]) [] h ?_ ?_ <;> first
 | (clear h; intro Qn K hK4 h; replace h := tY h; refine tB ?_)
  |(clear h; intro y h; unfold mc_39; replace h := tY h; refine tB ?_))
 | (refine M.wh1 (b := mc_3a) [0,1,4,5] [5,4] (fun x => [(6, .int .i64 x.1)]) (fun x => [.p 5 0 [.int .i64 x.2.1], .p 5 2 [.osl 4082 5 0 x.2.2.1.length], .o 4082 (.arr 5 (x.2.2.1.map GNode.v)), .o 1000 (.cells [.sl (x.2.2.2.L.map (V.int .i64)), .int .i64 x.2.2.2.at_])]) [.gc [0,1,4,5,6], .ownC 5 2 4082 5 none] h ?_ ?_ <;> first
 | (clear h; intro x Qn K hK5 h; unfold mc_3a; replace h := tY h; refine tB ?_)
  |(clear h; (try refine tB ?_); exact tU0; done))
 | (refine M.jnE (b := mc_3b) [0,1,4,5] [5,4] (fun y => []) (fun y => [.p 5 0 [.int .i64 y.1], .o 1000 (.cells [.sl (y.2.L.map (V.int .i64)), .int .i64 y.2.at_])]) [] h ?_ ?_ <;> first
 | (clear h; intro Qn K hK6 h; replace h := tY h; refine tB ?_)
  |(clear h; intro y h; unfold mc_3b; replace h := tY h; refine tB ?_))
 | (refine hK1 _ ?_; exact tU; done)
 | ((first | refine hK2 _ ?_ | refine hK3 _ ?_ | refine hK4 _ ?_ | refine hK5 _ ?_ | refine hK6 _ ?_); (try refine tB ?_); refine ⟨_, h, ?_⟩; exact tU0; done)
 | (refine bfork (fun hc => ?_) (fun hc => ?_))
 | (refine tE ?_; (first | rw [M.lok_compU] | rw [M.lokD_compU]); refine tB ?_)
 | (refine tA ?_)
 | fail)
theorem WG_2 : ∀ n, (∀ {t_ : GTape} {deep_ : Int} {y : GNode × GTape}, FR_2 n t_ deep_ = some y → ACall Tryz.prog 10 [.ptr 1000 0, .int .i64 deep_] [(1000, .cells [.sl (t_.L.map (V.int .i64)), .int .i64 t_.at_])] (fun r H => r = GNode.v y.1 ∧ H = [(1000, .cells [.sl (y.2.L.map (V.int .i64)), .int .i64 y.2.at_])]))
 | 0 => fun hy => (by simp only [FR_2] at hy; cases hy)
 | n + 1 => by
  have ih_made_Pattern := @WG_2 n
  exact fun hy => Wq_2 ih_made_Pattern _ _ (Q := (· = _)) ⟨_, hy, rfl⟩ fun | _, rfl => ⟨rfl, rfl⟩
theorem W_2 : ∀ {t_ : GTape} {deep_ : Int} {y : GNode × GTape}, F_2 t_ deep_ = some y → ACall Tryz.prog 10 [.ptr 1000 0, .int .i64 deep_] [(1000, .cells [.sl (t_.L.map (V.int .i64)), .int .i64 t_.at_])] (fun r H => r = GNode.v y.1 ∧ H = [(1000, .cells [.sl (y.2.L.map (V.int .i64)), .int .i64 y.2.at_])]) := fun hy => by
 obtain ⟨n, hn⟩ := lim_inv hy
 exact (WG_2 n) hn
noncomputable def FR_e : Nat → GNode → GNode → Option Bool
 | 0, _, _ => none
 | n + 1, a_, b_ =>
 grp (((!decide (a_.Op = b_.Op)) || (!decide (a_.Min = b_.Min)))) fun b13 => grp ((b13 || (!decide (a_.Max = b_.Max)))) fun b14 => grp ((b14 || (!decide ((a_.Ranges.length : Int) = (b_.Ranges.length : Int))))) fun b15 => grp ((b15 || (!decide ((a_.Kids.length : Int) = (b_.Kids.length : Int))))) fun b16 => bif b16 then some false else (loop (fun (x25 : Int) => (bif decide (x25 < (a_.Ranges.length : Int)) then chk (inb x25 a_.Ranges.length) (chk (inb x25 b_.Ranges.length) (bif (!(decide ((((a_.Ranges.getD (x25).toNat default).Low).toNat : Int) = (((b_.Ranges.getD (x25).toNat default).Low).toNat : Int)) && decide ((((a_.Ranges.getD (x25).toNat default).High).toNat : Int) = (((b_.Ranges.getD (x25).toNat default).High).toNat : Int)))) then some (.ex (.inr false)) else chk (in64 (x25 + 1)) (some (.nx (x25 + 1))))) else some (.ex (.inl ())) : Option (Fl Int (Sum Unit Bool)))) 0).bind fun r26 => Sum.elim (fun u27 => (loop (fun (x57 : Int) => (bif decide (x57 < (a_.Kids.length : Int)) then chk (inb x57 a_.Kids.length) (chk (inb x57 b_.Kids.length) ((FR_e n (a_.Kids.getD (x57).toNat default) (b_.Kids.getD (x57).toNat default)).bind fun y65 => bif (!y65) then some (.ex (.inr false)) else chk (in64 (x57 + 1)) (some (.nx (x57 + 1))))) else some (.ex (.inl ())) : Option (Fl Int (Sum Unit Bool)))) 0).bind fun r66 => Sum.elim (fun u67 => some true) (fun u68 => some u68) r66) (fun u28 => some u28) r26
noncomputable def F_e (a_ : GNode) (b_ : GNode) : Option Bool := lim fun n => FR_e n a_ b_
@[irreducible] def mg_3c : List MOp := [gF 12 13 (.fad 3 (.t 2)),
 gF 12 14 (.ld none (.t 13)),
 gF 12 15 (.fad 3 (.t 3)),
 gF 12 16 (.ld none (.t 15)),
 gF 12 17 (.bin false .neq (.t 14) (.t 16)),
 mo (.pick (.t 12) (.c (.bool true)) (.t 17)) 18]
@[irreducible] def mg_3d : List MOp := [gF 19 20 (.fad 4 (.t 2)),
 gF 19 21 (.ld none (.t 20)),
 gF 19 22 (.fad 4 (.t 3)),
 gF 19 23 (.ld none (.t 22)),
 gF 19 24 (.bin false .neq (.t 21) (.t 23)),
 mo (.pick (.t 19) (.c (.bool true)) (.t 24)) 25]
@[irreducible] def mg_3e : List MOp := [gF 26 27 (.fad 1 (.t 2)),
 gF 26 28 (.ld none (.t 27)),
 gF 26 29 (.len false (.t 28)),
 gF 26 30 (.fad 1 (.t 3)),
 gF 26 31 (.ld none (.t 30)),
 gF 26 32 (.len false (.t 31)),
 gF 26 33 (.bin false .neq (.t 29) (.t 32)),
 mo (.pick (.t 26) (.c (.bool true)) (.t 33)) 34]
@[irreducible] def mg_3f : List MOp := [gF 35 36 (.fad 2 (.t 2)),
 gF 35 37 (.ld none (.t 36)),
 gF 35 38 (.len false (.t 37)),
 gF 35 39 (.fad 2 (.t 3)),
 gF 35 40 (.ld none (.t 39)),
 gF 35 41 (.len false (.t 40)),
 gF 35 42 (.bin false .neq (.t 38) (.t 41)),
 mo (.pick (.t 35) (.c (.bool true)) (.t 42)) 43]
@[irreducible] def mc_3g : MC :=
 (.seq (sR [oV 5 44,
 oF 1 2 45,
 oL 45 46,
 mo (.len false (.t 46)) 47,
 mo (.bin false .lss (.t 44) (.t 47)) 48]
 (.cond (.t 48)
 .skip
 (.exit 0)))
 (.seq (.block 1
 (.seq (.regD [oF 1 2 51,
 oL 51 52,
 oV 5 53,
 mo (.iad 2 (.t 52) (.t 53)) 54,
 mo (.ld (some 2) (.t 54)) 55,
 oF 1 3 56,
 oL 56 57,
 oV 5 58,
 mo (.iad 2 (.t 57) (.t 58)) 59,
 mo (.ld (some 2) (.t 59)) 60,
 mo (.eqs true [0,0] (.t 55) (.t 60)) 61]
 [[],[0],[],[1,2],[3],[],[5],[],[6,7],[8],[4,9]]
 [[],[0],[],[0,1,2],[0,1,2,3],[],[5],[],[5,6,7],[5,6,7,8],[0,1,2,3,4,5,6,7,8,9]])
 (.cond (.t 61)
 (sR [mo (.mv (.c (.bool false))) 4]
 .ret)
 .skip)))
 (.note (.gc [2,3,5]) (.reg [oV 5 49,
 mo (.bin true .add (.t 49) (cI 1)) 50,
 oV 50 5]))))
@[irreducible] def mc_3h : MC :=
 (.seq (sR [oV 6 62,
 oF 2 2 63,
 oL 63 64,
 mo (.len false (.t 64)) 65,
 mo (.bin false .lss (.t 62) (.t 65)) 66]
 (.cond (.t 66)
 .skip
 (.exit 2)))
 (.seq (.block 3
 (.seq (.regD [oF 2 2 69,
 oL 69 70,
 oV 6 71,
 mo (.iad 5 (.t 70) (.t 71)) 72,
 mo (.ld (some 5) (.t 72)) 73,
 oF 2 3 74,
 oL 74 75,
 oV 6 76,
 mo (.iad 5 (.t 75) (.t 76)) 77,
 mo (.ld (some 5) (.t 77)) 78,
 mo (.call (.f 21) [(.t 73),(.t 78)] [] []) 79,
 mo (.not (.t 79)) 80]
 [[],[0],[],[1,2],[3],[],[5],[],[6,7],[8],[4,9],[10]]
 [[],[0],[],[0,1,2],[0,1,2,3],[],[5],[],[5,6,7],[5,6,7,8],[0,1,2,3,4,5,6,7,8,9],[0,1,2,3,4,5,6,7,8,9,10]])
 (.cond (.t 80)
 (sR [mo (.mv (.c (.bool false))) 4]
 .ret)
 .skip)))
 (.note (.gc [2,3,6]) (.reg [oV 6 67,
 mo (.bin true .add (.t 67) (cI 1)) 68,
 oV 68 6]))))
def mc_e : MC :=
 (sR [mo (.box (.t 0)) 2,
 mo (.box (.t 1)) 3,
 mo (.mv (.c (.bool false))) 4]
 (.seq (.seq (.regI [.op (oF 0 2 7),
 .op (oL 7 8),
 .op (oF 0 3 9),
 .op (oL 9 10),
 .op (mo (.bin false .neq (.t 8) (.t 10)) 11),
 .op (oV 11 12),
 .grp mg_3c,
 .op (oV 18 19),
 .grp mg_3d,
 .op (oV 25 26),
 .grp mg_3e,
 .op (oV 34 35),
 .grp mg_3f])
 (.cond (.t 43)
 (sR [mo (.mv (.c (.bool false))) 4]
 .ret)
 .skip))
 (.seq (sR [oC 0 5]
 (.block 0
 (.loop mc_3g)))
 (.seq (sR [oC 0 6]
 (.block 2
 (.loop mc_3h)))
 (sR [mo (.mv (.c (.bool true))) 4]
 .ret)))))
theorem Wq_e {n : Nat} (ih_ref05_Same : ∀ {a_ : GNode} {b_ : GNode} {y : Bool}, FR_e n a_ b_ = some y → ACall Tryz.prog 21 [GNode.v a_, GNode.v b_] [] (fun r H => r = .bool y ∧ H = [])) (a_ : GNode) (b_ : GNode) {Q : Bool → Prop} {Q' : V → Heap → Prop} (h : Ok (FR_e (n + 1) a_ b_) Q) (hQ : ∀ z, Q z → Q' (.bool z) []) : ACall Tryz.prog 21 [GNode.v a_, GNode.v b_] [] Q' := by
 refine acallM mc_e [] [] [.t 4] Tryz.func21 fun M => ?_
 simp only [FR_e] at h
 unfold mc_e
 replace h := tY h
 refine tB ?_
 repeat' (first
 | (exact tZ)
 | ((first | refine oblg h ?_ | refine roomG h ?_ | refine fork h ?_ ?_ | refine forkS h ?_ ?_) <;> clear h <;> intro hc h)
 | (obtain ⟨y, hy, h⟩ := h; have hw := ih_ref05_Same hy; replace hw := tY hw; (first | refine M.sC hw ?_ | refine M.sD hw ?_); clear hw hy; refine tB ?_)
 | (refine M.wh1 (b := mc_3g) [2,3] [3,2] (fun x => [(5, .int .i64 x)]) (fun x => []) [] h ?_ ?_ <;> first
 | (clear h; intro x Qn K hK1 h; unfold mc_3g; replace h := tY h; refine tB ?_)
  |(clear h; (try refine tB ?_); exact tU0; done))
 | (refine M.wh1 (b := mc_3h) [2,3] [3,2] (fun x => [(6, .int .i64 x)]) (fun x => []) [] h ?_ ?_ <;> first
 | (clear h; intro x Qn K hK2 h; unfold mc_3h; replace h := tY h; refine tB ?_)
  |(clear h; (try refine tB ?_); exact tU0; done))
 | (refine M.gv1 (ms := mg_3f) 43 [36,37,38,39,40,41,42] h ?_ ?_ <;> first
 | (clear h; intro K hK3; unfold mg_3f; refine tB ?_)
 | (clear h; intro b h; replace h := tY h; refine tB ?_))
 | (refine M.gv1 (ms := mg_3e) 34 [27,28,29,30,31,32,33] h ?_ ?_ <;> first
 | (clear h; intro K hK4; unfold mg_3e; refine tB ?_)
 | (clear h; intro b h; replace h := tY h; refine tB ?_))
 | (refine M.gv1 (ms := mg_3d) 25 [20,21,22,23,24] h ?_ ?_ <;> first
 | (clear h; intro K hK5; unfold mg_3d; refine tB ?_)
 | (clear h; intro b h; replace h := tY h; refine tB ?_))
 | (refine M.gv1 (ms := mg_3c) 18 [13,14,15,16,17] h ?_ ?_ <;> first
 | (clear h; intro K hK6; unfold mg_3c; refine tB ?_)
 | (clear h; intro b h; replace h := tY h; refine tB ?_))
 | ((first | refine hK1 _ ?_ | refine hK2 _ ?_); (try refine tB ?_); refine ⟨_, h, ?_⟩; exact tU0; done)
 | ((first | refine hK3 _ ?_ | refine hK4 _ ?_ | refine hK5 _ ?_ | refine hK6 _ ?_); exact tU; done)
 | (refine bfork (fun hc => ?_) (fun hc => ?_))
 | (refine tE ?_; (first | rw [M.lok_compU] | rw [M.lokD_compU]); refine tB ?_)
 | (refine tA ?_)
 | fail)
theorem WG_e : ∀ n, (∀ {a_ : GNode} {b_ : GNode} {y : Bool}, FR_e n a_ b_ = some y → ACall Tryz.prog 21 [GNode.v a_, GNode.v b_] [] (fun r H => r = .bool y ∧ H = []))
 | 0 => fun hy => (by simp only [FR_e] at hy; cases hy)
 | n + 1 => by
  have ih_ref05_Same := @WG_e n
  exact fun hy => Wq_e ih_ref05_Same _ _ (Q := (· = _)) ⟨_, hy, rfl⟩ fun | _, rfl => ⟨rfl, rfl⟩
theorem W_e : ∀ {a_ : GNode} {b_ : GNode} {y : Bool}, F_e a_ b_ = some y → ACall Tryz.prog 21 [GNode.v a_, GNode.v b_] [] (fun r H => r = .bool y ∧ H = []) := fun hy => by
 obtain ⟨n, hn⟩ := lim_inv hy
 exact (WG_e n) hn
noncomputable def F_3r (c_ : UInt8) (x19 : Bool × Int) : Option (Fl (Bool × Int) Bool) :=
 bif decide (x19.2 < 9) then jn (α := Bool) (bif x19.1 then chk (inb x19.2 [92,91,93,40,41,123,125,124,45].length) (some (!decide (((([92,91,93,40,41,123,125,124,45] : Str).getD (x19.2).toNat 0).toNat : Int) = (c_.toNat : Int)))) else some false) fun j23 => chk (in64 (x19.2 + 1)) (some (.nx (j23, (x19.2 + 1)))) else some (.ex x19.1)
noncomputable def F_21 (c_ : UInt8) : Option Str :=
 grp ((decide (33 ≤ (c_.toNat : Int)) && decide ((c_.toNat : Int) ≤ 126))) fun b2 => (loop (F_3r c_) (b2,0)).bind fun r24 => bif r24 then some [c_] else chk (inb ((c_.toNat : Int) / 2 ^ 4) [48,49,50,51,52,53,54,55,56,57,97,98,99,100,101,102].length) (some [92,120, (([48,49,50,51,52,53,54,55,56,57,97,98,99,100,101,102] : Str).getD (((c_.toNat : Int) / 2 ^ 4)).toNat 0), (([48,49,50,51,52,53,54,55,56,57,97,98,99,100,101,102] : Str).getD (((c_.toNat : Int) % 2 ^ 4)).toNat 0)])
def FR_18 : Nat → Int → Option Str
 | 0, _ => none
 | n + 1, n_ =>
 bif decide (n_ < 10) then some [(u8 (48 + ((u8 n_).toNat : Int)))] else chk (divs n_ 10) ((FR_18 n (n_ / 10)).bind fun y2 => chk (divs n_ 10) (chk (strl (y2.length + [(u8 (48 + ((u8 (n_ % 10)).toNat : Int)))].length)) (some (y2 ++ [(u8 (48 + ((u8 (n_ % 10)).toNat : Int)))]))))
noncomputable def F_18 (n_ : Int) : Option Str := lim fun n => FR_18 n n_
end Go.Ab
