/- What the functions of this seat that lie on the laws' road compute (part LD), each for every input. By AI agents. -/
import Derived.Test.YtgbaffbfggjmgaaGreatDoorProg
import Derived.KernelRfl
import Derived.Test.YtgbaffbfggjmgaaGreatDoorAbFun
import Derived.Test.YtgbaffbfggjmgaaGreatDoorLC
set_option linter.all false
set_option linter.all false
set_option maxRecDepth 20000
set_option maxHeartbeats 2000000
namespace Go.Ab
open Go.Proofs
noncomputable def FR_1 : Nat → GTape → GNode → Option ((List UInt8) × GTape)
 | 0, _, _ => none
 | n + 1, t_, n_ =>
 bif decide (n_.Op = 1) then (F_3 t_ (n_.Ranges.length : Int)).bind fun y32 => chk (inb y32.1 n_.Ranges.length) (chk (in64 ((((n_.Ranges.getD (y32.1).toNat default).High).toNat : Int) - (((n_.Ranges.getD (y32.1).toNat default).Low).toNat : Int))) (chk (in64 (((((n_.Ranges.getD (y32.1).toNat default).High).toNat : Int) - (((n_.Ranges.getD (y32.1).toNat default).Low).toNat : Int)) + 1)) ((F_3 y32.2 (((((n_.Ranges.getD (y32.1).toNat default).High).toNat : Int) - (((n_.Ranges.getD (y32.1).toNat default).Low).toNat : Int)) + 1)).bind fun y34 => some ([(u8 ((((n_.Ranges.getD (y32.1).toNat default).Low).toNat : Int) + ((u8 y34.1).toNat : Int)))], y34.2)))) else bif decide (n_.Op = 2) then (loop (fun (x41 : Int × (List UInt8) × GTape) => (bif decide (x41.1 < (n_.Kids.length : Int)) then chk (inb x41.1 n_.Kids.length) ((FR_1 n x41.2.2 (n_.Kids.getD (x41.1).toNat default)).bind fun y45 => chk (room (x41.2.1.length + y45.1.length) 1) (chk (in64 (x41.1 + 1)) (some (.nx ((x41.1 + 1), (x41.2.1 ++ y45.1), y45.2))))) else some (.ex (x41.2.1, x41.2.2)) : Option (Fl (Int × (List UInt8) × GTape) ((List UInt8) × GTape)))) (0,[], t_)).bind fun r46 => some (r46.1, r46.2) else bif decide (n_.Op = 3) then (F_3 t_ (n_.Kids.length : Int)).bind fun y49 => chk (inb y49.1 n_.Kids.length) ((FR_1 n y49.2 (n_.Kids.getD (y49.1).toNat default)).bind fun y50 => some (y50.1, y50.2)) else bif decide (n_.Op = 4) then (F_x t_ n_.Min n_.Max).bind fun y52 => (loop (fun (x59 : Int × (List UInt8) × GTape) => (bif decide (0 < x59.1) then chk (inb 0 n_.Kids.length) ((FR_1 n x59.2.2 (n_.Kids.getD 0 default)).bind fun y63 => chk (room (x59.2.1.length + y63.1.length) 1) (chk (in64 (x59.1 - 1)) (some (.nx ((x59.1 - 1), (x59.2.1 ++ y63.1), y63.2))))) else some (.ex (x59.2.1, x59.2.2)) : Option (Fl (Int × (List UInt8) × GTape) ((List UInt8) × GTape)))) (y52.1,[], y52.2)).bind fun r64 => some (r64.1, r64.2) else some ([], t_)
noncomputable def F_1 (t_ : GTape) (n_ : GNode) : Option ((List UInt8) × GTape) := lim fun n => FR_1 n t_ n_
@[irreducible] def mc_54 : MC :=
 (.seq (sR [oV 7 39,
 oF 2 3 40,
 oL 40 41,
 mo (.len false (.t 41)) 42,
 mo (.bin false .lss (.t 39) (.t 42)) 43]
 (.cond (.t 43)
 .skip
 (.exit 1)))
 (.seq (.block 2
 (.reg [oV 5 46,
 oV 0 47,
 oF 2 3 48,
 oL 48 49,
 oV 7 50,
 mo (.iad 5 (.t 49) (.t 50)) 51,
 mo (.ld (some 5) (.t 51)) 52,
 mo (.call (.f 29) [(.t 47),(.t 52)] [1000] []) 53,
 mo (.app 1 1 (.t 46) (.t 53)) 54,
 oV 54 5]))
 (.note (.gc [0,3,5,7]) (.reg [oV 7 44,
 mo (.bin true .add (.t 44) (cI 1)) 45,
 oV 45 7]))))
@[irreducible] def mc_55 : MC :=
 (.seq (sR [oV 8 76,
 mo (.bin false .gtr (.t 76) (cI 0)) 77]
 (.cond (.t 77)
 .skip
 (.exit 3)))
 (.seq (.block 4
 (.reg [oV 5 80,
 oV 0 81,
 oF 2 3 82,
 oL 82 83,
 mo (.iad 5 (.t 83) (cI 0)) 84,
 mo (.ld (some 5) (.t 84)) 85,
 mo (.call (.f 29) [(.t 81),(.t 85)] [1000] []) 86,
 mo (.app 1 1 (.t 80) (.t 86)) 87,
 oV 87 5]))
 (.note (.gc [0,3,5,8]) (.reg [oV 8 78,
 mo (.bin true .sub (.t 78) (cI 1)) 79,
 oV 79 8]))))
def mc_1 : MC :=
 (sR [mo (.box (.t 1)) 3,
 mo (.mv (.c (.sl []))) 4]
 (sR [mo (.mv (.c .nils)) 5]
 (.seq (sR [oF 0 3 9,
 oL 9 10]
 (.block 0
 (sR [mo (.bin false .eql (.t 10) (cI 1)) 12,
 oV 12 11]
 (.cond (.t 11)
 (.seq (.regD [oF 1 3 13,
 oL 13 14,
 oV 0 15,
 oF 1 3 16,
 oL 16 17,
 mo (.len false (.t 17)) 18,
 mo (.call (.f 30) [(.t 15),(.t 18)] [1000] []) 19,
 mo (.iad 2 (.t 14) (.t 19)) 20,
 mo (.ld (some 2) (.t 20)) 21,
 mo (.alloc [(.int .u8 0),(.int .u8 0)]) 6,
 ⟨.st 2 (.t 6) (.t 21), none, none⟩]
 [[],[0],[],[],[3],[4],[2,5],[1,6],[7],[],[9,8,6,0,1,2,3,4,5,6,7,8,9]]
 [[],[0],[],[],[3],[3,4],[2,3,4,5],[0,1,2,3,4,5,6],[0,1,2,3,4,5,6,7],[],[0,1,2,3,4,5,6,7,8,9]])
 (.seq (.note (.gc [0,6]) (.regD [oF 0 6 22,
 oL 22 23,
 oV 0 24,
 oF 1 6 25,
 oL 25 26,
 mo (.i2i true .i64 (.t 26)) 27,
 oF 0 6 28,
 oL 28 29,
 mo (.i2i true .i64 (.t 29)) 30,
 mo (.bin true .sub (.t 27) (.t 30)) 31,
 mo (.bin true .add (.t 31) (cI 1)) 32,
 mo (.call (.f 30) [(.t 24),(.t 32)] [1000] []) 33,
 mo (.i2i false .u8 (.t 33)) 34,
 mo (.bin false .add (.t 23) (.t 34)) 35,
 mo (.bslice 1 [(.t 35)]) 36,
 oV 36 4]
 [[],[0],[],[],[3],[4],[],[6],[7],[5,8],[9],[2,10],[11],[1,12],[13],[14,11,0,1,2,3,4,5,6,7,8,9,10,11,12,13,14]]
 [[],[0],[],[],[3],[3,4],[],[6],[6,7],[3,4,5,6,7,8],[3,4,5,6,7,8,9],[2,3,4,5,6,7,8,9,10],[2,3,4,5,6,7,8,9,10,11],[0,1,2,3,4,5,6,7,8,9,10,11,12],[0,1,2,3,4,5,6,7,8,9,10,11,12,13],[0,1,2,3,4,5,6,7,8,9,10,11,12,13,14]]))
 .ret))
 (sR [mo (.bin false .eql (.t 10) (cI 2)) 38,
 oV 38 37]
 (.cond (.t 37)
 (sR [oC 0 7]
 (.block 1
 (.loop mc_54)))
 (sR [mo (.bin false .eql (.t 10) (cI 3)) 56,
 oV 56 55]
 (.cond (.t 55)
 (.seq (.note (.gc [0,3]) (.regD [oV 0 57,
 oF 2 3 58,
 oL 58 59,
 oV 0 60,
 oF 2 3 61,
 oL 61 62,
 mo (.len false (.t 62)) 63,
 mo (.call (.f 30) [(.t 60),(.t 63)] [1000] []) 64,
 mo (.iad 5 (.t 59) (.t 64)) 65,
 mo (.ld (some 5) (.t 65)) 66,
 mo (.call (.f 29) [(.t 57),(.t 66)] [1000] []) 67,
 oV 67 4]
 [[],[],[1],[],[],[4],[5],[3,6],[2,7],[8],[0,9,7],[10,10,0,1,2,3,4,5,6,7,8,9,10]]
 [[],[],[1],[],[],[4],[4,5],[3,4,5,6],[1,2,3,4,5,6,7],[1,2,3,4,5,6,7,8],[0,1,2,3,4,5,6,7,8,9],[0,1,2,3,4,5,6,7,8,9,10]]))
 .ret)
 (sR [mo (.bin false .eql (.t 10) (cI 4)) 69,
 oV 69 68]
 (.cond (.t 68)
 (.seq (.note (.gc [0,3,5]) (.reg [oV 0 70,
 oF 3 3 71,
 oL 71 72,
 oF 4 3 73,
 oL 73 74,
 mo (.call (.f 34) [(.t 70),(.t 72),(.t 74)] [1000] []) 75,
 oV 75 8]))
 (.block 3
 (.loop mc_55)))
 .skip))))))))))
 (sR [oV 5 88,
 oV 88 4]
 .ret))))
theorem Wq_1 {n : Nat} (ih_made_Member : ∀ {t_ : GTape} {n_ : GNode} {y : (List UInt8) × GTape}, FR_1 n t_ n_ = some y → ACall Tryz.prog 29 [.ptr 1000 0, GNode.v n_] [(1000, .cells [.sl (t_.L.map (V.int .i64)), .int .i64 t_.at_])] (fun r H => r = .sl (y.1.map byteV) ∧ H = [(1000, .cells [.sl (y.2.L.map (V.int .i64)), .int .i64 y.2.at_])])) (t_ : GTape) (n_ : GNode) {Q : (List UInt8) × GTape → Prop} {Q' : V → Heap → Prop} (h : Ok (FR_1 (n + 1) t_ n_) Q) (hQ : ∀ z, Q z → Q' (.sl (z.1.map byteV)) [(1000, .cells [.sl (z.2.L.map (V.int .i64)), .int .i64 z.2.at_])]) : ACall Tryz.prog 29 [.ptr 1000 0, GNode.v n_] [(1000, .cells [.sl (t_.L.map (V.int .i64)), .int .i64 t_.at_])] Q' := by
 refine acallM mc_1 [.fz 4] [1000] [.t 4] Tryz.func29 fun M => ?_
 simp only [FR_1] at h
 unfold mc_1
 replace h := tY h
 refine tB ?_
 repeat' (first
 | (exact tZ)
 | ((first | refine oblg h ?_ | refine roomG h ?_ | refine fork h ?_ ?_ | refine forkS h ?_ ?_) <;> clear h <;> intro hc h)
 | (obtain ⟨y, hy, h⟩ := h; (first | with_reducible first | have hw := Wq_3.w hy | have hw := ih_made_Member hy | have hw := Wq_x.w hy); replace hw := tY hw; (first | refine M.sC hw ?_ | refine M.sD hw ?_); clear hw hy; refine tB ?_)
 | (refine M.wh1 (b := mc_54) [0,3] [3] (fun x => [(5, .osl 2005 1 0 x.2.1.length), (7, .int .i64 x.1)]) (fun x => [.o 2005 (.arr 1 (x.2.1.map byteV)), .o 1000 (.cells [.sl (x.2.2.L.map (V.int .i64)), .int .i64 x.2.2.at_])]) [.gc [0,3,5,7], .acc 5 2005 1] h ?_ ?_ <;> first
 | (clear h; intro x Qn K hK1 h; unfold mc_54; replace h := tY h; refine tB ?_)
  |(clear h; (try refine tB ?_); exact tU0; done))
 | (refine M.wh1 (b := mc_55) [0,3] [3] (fun x => [(5, .osl 2005 1 0 x.2.1.length), (8, .int .i64 x.1)]) (fun x => [.o 2005 (.arr 1 (x.2.1.map byteV)), .o 1000 (.cells [.sl (x.2.2.L.map (V.int .i64)), .int .i64 x.2.2.at_])]) [.gc [0,3,5,8], .acc 5 2005 1] h ?_ ?_ <;> first
 | (clear h; intro x Qn K hK2 h; unfold mc_55; replace h := tY h; refine tB ?_)
  |(clear h; (try refine tB ?_); exact tU0; done))
 | ((first | refine hK1 _ ?_ | refine hK2 _ ?_); (try refine tB ?_); refine ⟨_, h, ?_⟩; exact tU0; done)
 | (refine tE ?_; (first | rw [M.lok_compU] | rw [M.lokD_compU]); refine tB ?_)
 | (refine tA ?_)
 | fail)
theorem WG_1 : ∀ n, (∀ {t_ : GTape} {n_ : GNode} {y : (List UInt8) × GTape}, FR_1 n t_ n_ = some y → ACall Tryz.prog 29 [.ptr 1000 0, GNode.v n_] [(1000, .cells [.sl (t_.L.map (V.int .i64)), .int .i64 t_.at_])] (fun r H => r = .sl (y.1.map byteV) ∧ H = [(1000, .cells [.sl (y.2.L.map (V.int .i64)), .int .i64 y.2.at_])]))
 | 0 => fun hy => (by simp only [FR_1] at hy; cases hy)
 | n + 1 => by
  have ih_made_Member := @WG_1 n
  exact fun hy => Wq_1 ih_made_Member _ _ (Q := (· = _)) ⟨_, hy, rfl⟩ fun | _, rfl => ⟨rfl, rfl⟩
theorem W_1 : ∀ {t_ : GTape} {n_ : GNode} {y : (List UInt8) × GTape}, F_1 t_ n_ = some y → ACall Tryz.prog 29 [.ptr 1000 0, GNode.v n_] [(1000, .cells [.sl (t_.L.map (V.int .i64)), .int .i64 t_.at_])] (fun r H => r = .sl (y.1.map byteV) ∧ H = [(1000, .cells [.sl (y.2.L.map (V.int .i64)), .int .i64 y.2.at_])]) := fun hy => by
 obtain ⟨n, hn⟩ := lim_inv hy
 exact (WG_1 n) hn
noncomputable def F_2i (n_ : Int) (x47 : Int × (List UInt8) × GTape) : Option (Fl (Int × (List UInt8) × GTape) ((List UInt8) × GTape)) :=
 bif decide (x47.1 < n_) then jn (α := (List UInt8) × GTape) ((F_3 x47.2.2 8).bind fun y65 => bif decide (y65.1 = 0) then (F_3 y65.2 8).bind fun y66 => chk (inb y66.1 [32,10,61,37,43,47,45,46].length) (chk (room (x47.2.1.length + [(([32,10,61,37,43,47,45,46] : Str).getD (y66.1).toNat 0)].length) 1) (some ((x47.2.1 ++ [(([32,10,61,37,43,47,45,46] : Str).getD (y66.1).toNat 0)]), y66.2))) else bif decide (y65.1 = 1) then (F_3 y65.2 256).bind fun y67 => chk (room (x47.2.1.length + [(u8 y67.1)].length) 1) (some ((x47.2.1 ++ [(u8 y67.1)]), y67.2)) else jn (α := Bool) (bif decide (y65.1 = 2) then some true else some (decide (y65.1 = 3))) fun j68 => bif j68 then (F_3 y65.2 10).bind fun y69 => chk (in64 (48 + y69.1)) (chk (room (x47.2.1.length + [(u8 (48 + y69.1))].length) 1) (some ((x47.2.1 ++ [(u8 (48 + y69.1))]), y69.2))) else (F_3 y65.2 8).bind fun y70 => chk (inb y70.1 [97,98,99,100,101,102,116,107].length) (chk (room (x47.2.1.length + [(([97,98,99,100,101,102,116,107] : Str).getD (y70.1).toNat 0)].length) 1) (some ((x47.2.1 ++ [(([97,98,99,100,101,102,116,107] : Str).getD (y70.1).toNat 0)]), y70.2)))) fun j63 => chk (in64 (x47.1 + 1)) (some (.nx ((x47.1 + 1), j63.1, j63.2))) else some (.ex (x47.2.1, x47.2.2))
noncomputable def F_1l (t_ : GTape) (n_ : Int) : Option ((List UInt8) × GTape) :=
 (loop (F_2i n_) (0,[], t_)).bind fun r71 => some (r71.1, r71.2)
@[irreducible] def mc_56 : MC :=
 (.cond (.t 36)
 (.reg [oV 5 39,
 oV 0 40,
 mo (.call (.f 30) [(.t 40), (cI 10)] [1000] []) 41,
 mo (.bin true .add (cI 48) (.t 41)) 42,
 mo (.i2i false .u8 (.t 42)) 43,
 mo (.bslice 1 [(.t 43)]) 44,
 mo (.app 1 1 (.t 39) (.t 44)) 45,
 oV 45 5])
 (.reg [oV 5 14,
 oV 0 15,
 mo (.call (.f 30) [(.t 15), (cI 8)] [1000] []) 16,
 mo (.idx (.c (.str [97,98,99,100,101,102,116,107])) (.t 16)) 17,
 mo (.bslice 1 [(.t 17)]) 18,
 mo (.app 1 1 (.t 14) (.t 18)) 19,
 oV 19 5]))
@[irreducible] def mc_57 : MC :=
 (.reg [oV 6 10,
 mo (.bin true .add (.t 10) (cI 1)) 11,
 oV 11 6])
@[irreducible] def mc_2i : MC :=
 (.seq (sR [oV 6 7,
 oV 1 8,
 mo (.bin false .lss (.t 7) (.t 8)) 9]
 (.cond (.t 9)
 .skip
 (.exit 0)))
 (.cut (.block 1
 (sR [oV 0 12,
 mo (.call (.f 30) [(.t 12), (cI 8)] [1000] []) 13]
 (.block 2
 (sR [mo (.bin false .eql (.t 13) (cI 0)) 21,
 oV 21 20]
 (.cond (.t 20)
 (.reg [oV 5 22,
 oV 0 23,
 mo (.call (.f 30) [(.t 23), (cI 8)] [1000] []) 24,
 mo (.idx (.c (.str [32,10,61,37,43,47,45,46])) (.t 24)) 25,
 mo (.bslice 1 [(.t 25)]) 26,
 mo (.app 1 1 (.t 22) (.t 26)) 27,
 oV 27 5])
 (sR [mo (.bin false .eql (.t 13) (cI 1)) 29,
 oV 29 28]
 (.cond (.t 28)
 (.note (.gc [0,1,5,6]) (.reg [oV 5 30,
 oV 0 31,
 mo (.call (.f 30) [(.t 31), (cI 256)] [1000] []) 32,
 mo (.i2i false .u8 (.t 32)) 33,
 mo (.bslice 1 [(.t 33)]) 34,
 mo (.app 1 1 (.t 30) (.t 34)) 35,
 oV 35 5]))
 (.cut (sR [mo (.bin false .eql (.t 13) (cI 2)) 37,
 oV 37 36]
 (.cond (.t 36)
 .skip
 (.reg [mo (.bin false .eql (.t 13) (cI 3)) 38,
 oV 38 36])))
 mc_56))))))))
 mc_57))
def mc_1l : MC :=
 (sR [mo (.mv (.c (.sl []))) 4]
 (sR [mo (.mv (.c .nils)) 5]
 (.seq (sR [oC 0 6]
 (.block 0
 (.loop mc_2i)))
 (sR [oV 5 46,
 oV 46 4]
 .ret))))
theorem Wq_1l {t_ : GTape} {n_ : Int} : Cn Tryz.prog 31 [.ptr 1000 0, .int .i64 n_] [(1000, .cells [.sl (t_.L.map (V.int .i64)), .int .i64 t_.at_])] (F_1l t_ n_) (fun z => .sl (z.1.map byteV)) (fun z => [(1000, .cells [.sl (z.2.L.map (V.int .i64)), .int .i64 z.2.at_])]) := fun Q Q' h hQ => by
 refine acallM mc_1l [.fz 4] [1000] [.t 4] Tryz.func31 fun M => ?_
 unfold F_1l at h
 unfold mc_1l
 replace h := tY h
 refine tB ?_
 repeat' (first
 | (exact tZ)
 | ((first | refine oblg h ?_ | refine roomG h ?_ | refine inbG h ?_ | refine fork h ?_ ?_ | refine forkS h ?_ ?_) <;> clear h <;> intro hc h)
 | (obtain ⟨y, hy, h⟩ := h; have hw := Wq_3.w hy; replace hw := tY hw; (first | refine M.sC hw ?_ | refine M.sD hw ?_); clear hw hy; refine tB ?_)
 | (refine M.jn1 (b := mc_56) [0,1,5,6] [2005,1000] (fun y => [(36, .bool y)]) (fun y => []) [] h ?_ ?_ <;> first
 | (clear h; intro Qn K hK1 h; replace h := tY h; refine tB ?_)
  |(clear h; intro y h; unfold mc_56; replace h := tY h; refine tB ?_))
 | (refine M.jn1 (b := mc_57) [0,1,6] [] (fun y => [(5, .osl 2005 1 0 y.1.length)]) (fun y => [.o 2005 (.arr 1 (y.1.map byteV)), .o 1000 (.cells [.sl (y.2.L.map (V.int .i64)), .int .i64 y.2.at_])]) [.gc [0,1,5,6], .acc 5 2005 1] h ?_ ?_ <;> first
 | (clear h; intro Qn K hK2 h; replace h := tY h; refine tB ?_)
  |(clear h; intro y h; unfold mc_57; replace h := tY h; refine tB ?_))
 | (refine M.wh1 (b := mc_2i) [0,1] [] (fun x => [(5, .osl 2005 1 0 x.2.1.length), (6, .int .i64 x.1)]) (fun x => [.o 2005 (.arr 1 (x.2.1.map byteV)), .o 1000 (.cells [.sl (x.2.2.L.map (V.int .i64)), .int .i64 x.2.2.at_])]) [.gc [0,1,5,6], .acc 5 2005 1] h ?_ ?_ <;> first
 | (clear h; intro x Qn K hK3 h; unfold F_2i at h; unfold mc_2i; replace h := tY h; refine tB ?_)
  |(clear h; (try refine tB ?_); exact tU0; done))
 | ((first | refine hK1 _ ?_ | refine hK2 _ ?_ | refine hK3 _ ?_); (try refine tB ?_); refine ⟨_, h, ?_⟩; exact tU0; done)
 | (refine tE ?_; (first | rw [M.lok_compU] | rw [M.lokD_compU]); refine tB ?_)
 | (refine tA ?_)
 | fail)
def F_1x (r_ : GRange) (p_ : UInt8) : Option Bool :=
 grp ((decide ((r_.Low.toNat : Int) ≤ (p_.toNat : Int)) && decide ((p_.toNat : Int) ≤ (r_.High.toNat : Int)))) fun b2 => some b2
@[irreducible] def mg_58 : List MOp := [gT 8 9 (.ld none (.t 1)),
 gT 8 10 (.fad 1 (.t 2)),
 gT 8 11 (.ld none (.t 10)),
 gT 8 12 (.bin false .leq (.t 9) (.t 11)),
 mo (.pick (.t 8) (.t 12) (.c (.bool false))) 13]
def mc_1x : MC :=
 (sR [mo (.box (.t 0)) 2,
 mo (.mv (.c (.bool false))) 3]
 (.seq (.regI [.op (oF 0 2 4),
 .op (oL 4 5),
 .op (oL 1 6),
 .op (mo (.bin false .leq (.t 5) (.t 6)) 7),
 .op (oV 7 8),
 .grp mg_58,
 .op (oV 13 3)])
 .ret))
theorem Wq_1x {r_ : GRange} {p_ : UInt8} : Cn Tryz.prog 88 [GRange.v r_, .ptr 1000 0] [(1000, .cells [byteV p_])] (F_1x r_ p_) (fun z => .bool z) (fun z => [(1000, .cells [byteV p_])]) := fun Q Q' h hQ => by
 refine acallM mc_1x [] [1000] [.t 3] Tryz.func88 fun M => ?_
 unfold F_1x at h
 unfold mc_1x
 replace h := tY h
 refine tB ?_
 repeat' (first
 | (exact tZ)
 | ((first | refine oblg h ?_ | refine roomG h ?_ | refine fork h ?_ ?_ | refine forkS h ?_ ?_) <;> clear h <;> intro hc h)
 | (refine M.gv1 (ms := mg_58) 13 [9,10,11,12] h ?_ ?_ <;> first
 | (clear h; intro K hK1; unfold mg_58; refine tB ?_)
 | (clear h; intro b h; replace h := tY h; refine tB ?_))
 | (refine hK1 _ ?_; exact tU; done)
 | (refine bfork (fun hc => ?_) (fun hc => ?_))
 | (refine tE ?_; (first | rw [M.lok_compU] | rw [M.lokD_compU]); refine tB ?_)
 | (refine tA ?_)
 | fail)
def F_1y (fc0_ : UInt8) (k31 : Int) (a32 : GRange) (x30 : Unit) : Option (Fl Unit Int) :=
 (F_1x a32 fc0_).bind fun y40 => bif y40 then some (.ex k31) else some (.nx ())
def F_1z (s_ : List GRange) (fc0_ : UInt8) : Option Int :=
 (forL (F_1y fc0_) s_ 0 ()).bind fun o => o.elim (fun x41 => some (-1)) (fun r42 => some r42)
@[irreducible] def mc_1y : MC :=
 (sR [mo (.bin false .lss (.t 8) (.t 7)) 9]
 (.seq (.cond (.t 9)
 .skip
 (.exit 0))
 (.seq (.block 1
 (sR [oV 8 10,
 oV 10 5]
 (sR [oV 1 11,
 oV 0 12,
 oV 5 13,
 mo (.iad 2 (.t 12) (.t 13)) 14,
 mo (.ld (some 2) (.t 14)) 15,
 mo (.call (.t 11) [(.t 15)] [1000] []) 16]
 (.cond (.t 16)
 (sR [oV 5 17,
 oV 17 4]
 .ret)
 .skip))))
 (.reg [mo (.bin true .add (.t 8) (cI 1)) 18,
 oV 18 8]))))
def mc_1z : MC :=
 (sR [oC 0 4]
 (.seq (sR [oV 0 6,
 mo (.len false (.t 6)) 7,
 oC 0 8]
 (.block 0
 (.loop mc_1y)))
 (sR [oC (-1) 4]
 .ret)))
theorem Wq_1z {s_ : List GRange} {fc0_ : UInt8} : Cn Tryz.prog 97 [.sl (s_.map GRange.v), .fn (.func 88) [.ptr 1000 0]] [(1000, .cells [byteV fc0_])] (F_1z s_ fc0_) (fun z => .int .i64 z) (fun z => [(1000, .cells [byteV fc0_])]) := fun Q Q' h hQ => by
 refine acallM mc_1z [] [1000] [.t 4] Tryz.func97 fun M => ?_
 unfold F_1z at h
 unfold mc_1z
 replace h := tY h
 refine tB ?_
 repeat' (first
 | (exact tZ)
 | ((first | refine oblg h ?_ | refine roomG h ?_ | refine fork h ?_ ?_ | refine forkS h ?_ ?_) <;> clear h <;> intro hc h)
 | (obtain ⟨y, hy, h⟩ := h; have hw := Wq_1x.w hy; replace hw := tY hw; (first | refine M.sC hw ?_ | refine M.sD hw ?_); clear hw hy; refine tB ?_)
 | (refine M.for1 (b := mc_1y) 8 [0,1,7] [1000] (fun x => []) (fun x => []) [] h ?_ ?_ ?_ <;> first
 | (clear h; intro k a x Qn K hK1 hkN1 ha1 h hf; have hl := fact_int (factsE_find (n := 7) hf.1 rfl); clear hf; have hkd := kD hkN1; have hkB1 := kB hkN1; have hkI1 := kI (k := k) (by omega); unfold F_1y at h; unfold mc_1y; replace h := tY h; refine tK ha1 hkd hkN1 hkB1 hkI1 ?_)
  |(clear h; intro x K h; replace h := And.left (And.intro h trivial); unfold mc_1y; replace h := tY h; refine tB ?_)
  |(clear h; (try refine tB ?_); exact tU0; done))
 | (simp only [ha1])
 | (refine hK1 _ ?_; (try refine tB ?_); refine ⟨_, h, ?_⟩; exact tU0; done)
 | (refine tE ?_; (first | rw [M.lok_compU] | rw [M.lokD_compU]); refine tB ?_)
 | (refine tA ?_)
 | fail)
def F_20 (s_ : List GRange) (fc0_ : UInt8) : Option Bool :=
 (F_1z s_ fc0_).bind fun y2 => some (decide (0 ≤ y2))
def mc_20 : MC :=
 (sR [mo (.mv (.c (.bool false))) 4]
 (sR [oV 0 5,
 oV 1 6,
 mo (.call (.f 97) [(.t 5),(.t 6)] [1000] []) 7,
 mo (.bin false .geq (.t 7) (cI 0)) 8,
 oV 8 4]
 .ret))
theorem Wq_20 {s_ : List GRange} {fc0_ : UInt8} : Cn Tryz.prog 87 [.sl (s_.map GRange.v), .fn (.func 88) [.ptr 1000 0]] [(1000, .cells [byteV fc0_])] (F_20 s_ fc0_) (fun z => .bool z) (fun z => [(1000, .cells [byteV fc0_])]) := fun Q Q' h hQ => by
 refine acallM mc_20 [] [1000] [.t 4] Tryz.func87 fun M => ?_
 unfold F_20 at h
 unfold mc_20
 replace h := tY h
 refine tB ?_
 repeat' (first
 | (exact tZ)
 | ((first | refine oblg h ?_ | refine roomG h ?_ | refine fork h ?_ ?_ | refine forkS h ?_ ?_) <;> clear h <;> intro hc h)
 | (obtain ⟨y, hy, h⟩ := h; have hw := Wq_1z.w hy; replace hw := tY hw; (first | refine M.sC hw ?_ | refine M.sD hw ?_); clear hw hy; refine tB ?_)
 | (refine tE ?_; (first | rw [M.lok_compU] | rw [M.lokD_compU]); refine tB ?_)
 | (refine tA ?_)
 | fail)
def F_1m (l_ : List GRange) (c_ : UInt8) : Option Bool :=
 (F_20 l_ c_).bind fun y2 => some y2
def mc_1m : MC :=
 (sR [mo (.box (.t 1)) 3,
 mo (.mv (.c (.bool false))) 4]
 (sR [oV 0 5,
 mo (.mkfn 88 [(.t 3)]) 6,
 mo (.call (.f 87) [(.t 5),(.t 6)] [3] []) 7,
 oV 7 4]
 .ret))
theorem Wq_1m {l_ : List GRange} {c_ : UInt8} : Cn Tryz.prog 71 [.sl (l_.map GRange.v), byteV c_] [] (F_1m l_ c_) (fun z => .bool z) (fun z => []) := fun Q Q' h hQ => by
 refine acallM mc_1m [] [] [.t 4] Tryz.func71 fun M => ?_
 unfold F_1m at h
 unfold mc_1m
 replace h := tY h
 refine tB ?_
 repeat' (first
 | (exact tZ)
 | ((first | refine oblg h ?_ | refine roomG h ?_ | refine fork h ?_ ?_ | refine forkS h ?_ ?_) <;> clear h <;> intro hc h)
 | (obtain ⟨y, hy, h⟩ := h; have hw := acall_swe 1000 3 (Wq_20.w hy); replace hw := tY hw; (first | refine M.sC hw ?_ | refine M.sD hw ?_); clear hw hy; refine tB ?_)
 | (refine tE ?_; (first | rw [M.lok_compU] | rw [M.lokD_compU]); refine tB ?_)
 | (refine tA ?_)
 | fail)
def F_1n (k13 : Int) (a14 : Bool) (x12 : List Bool) : Option (List Bool) :=
 chk (inb k13 x12.length) (grp ((x12.getD ((k13).toNat) default || a14)) fun b18 => chk (inb k13 x12.length) (some (x12.set ((k13).toNat) b18)))
def F_u (to_ : List Bool) (places_ : List Bool) : Option (List Bool) :=
 (foldL F_1n places_ 0 to_).bind fun x19 => some x19
@[irreducible] def mg_59 : List MOp := [gF 19 20 (.mv (.t 5)),
 mo (.pick (.t 19) (.c (.bool true)) (.t 20)) 21]
@[irreducible] def mc_1n : MC :=
 (sR [mo (.bin false .lss (.t 8) (.t 7)) 9]
 (.seq (.cond (.t 9)
 .skip
 (.exit 0))
 (.seq (.block 1
 (sR [oV 8 10,
 mo (.iad 1 (.t 6) (.t 8)) 11,
 oL 11 12,
 oV 10 4,
 oV 12 5]
 (.regI [.op (oV 0 13),
 .op (oV 4 14),
 .op (oV 0 15),
 .op (oV 4 16),
 .op (mo (.iad 1 (.t 15) (.t 16)) 17),
 .op (oL 17 18),
 .op (oV 18 19),
 .grp mg_59,
 .op (mo (.iad 1 (.t 13) (.t 14)) 22),
 .op ⟨.st 1 (.t 22) (.t 21), none, none⟩])))
 (.reg [mo (.bin true .add (.t 8) (cI 1)) 23,
 oV 23 8]))))
def mc_u : MC :=
 (sR [oV 1 6,
 mo (.len false (.t 6)) 7,
 oC 0 8]
 (.block 0
 (.loop mc_1n)))
theorem Wq_u {to_ places_ : List Bool} : Cn Tryz.prog 72 [.osl 1000 1 0 to_.length, .sl (places_.map V.bool)] [(1000, .arr 1 (to_.map V.bool))] (F_u to_ places_) (fun z => .tup []) (fun z => [(1000, .arr 1 (z.map V.bool))]) := fun Q Q' h hQ => by
 refine acallM mc_u [] [1000] [] Tryz.func72 fun M => ?_
 unfold F_u at h
 unfold mc_u
 replace h := tY h
 refine tB ?_
 repeat' (first
 | (exact tZ)
 | ((first | refine oblg h ?_ | refine roomG h ?_ | refine fork h ?_ ?_ | refine forkS h ?_ ?_) <;> clear h <;> intro hc h)
 | (refine M.gv1 (ms := mg_59) 21 [20] h ?_ ?_ <;> first
 | (clear h; intro K hK1; unfold mg_59; refine tB ?_)
 | (clear h; intro b h; replace h := tY h; refine tB ?_))
 | (refine M.fold1 (b := mc_1n) 8 [6,7] [] (fun x => [(0, .osl 1000 1 0 x.length)]) (fun x => [.o 1000 (.arr 1 (x.map V.bool))]) [] h ?_ ?_ ?_ <;> first
 | (clear h; intro k a x Qn K hK2 hkN2 ha2 h hf; have hl := fact_int (factsE_find (n := 7) hf.1 rfl); clear hf; have hkd := kD hkN2; have hkB2 := kB hkN2; have hkI2 := kI (k := k) (by omega); unfold F_1n at h; unfold mc_1n; replace h := tY h; refine tK ha2 hkd hkN2 hkB2 hkI2 ?_)
  |(clear h; intro x K h; replace h := And.left (And.intro h trivial); unfold mc_1n; replace h := tY h; refine tB ?_)
  |(clear h; (try refine tB ?_); exact tU0; done))
 | (simp only [ha2])
 | (refine hK1 _ ?_; exact tU; done)
 | (refine hK2 _ ?_; (try refine tB ?_); refine ⟨_, h, ?_⟩; exact tU0; done)
 | (refine bfork (fun hc => ?_) (fun hc => ?_))
 | (refine tE ?_; (first | rw [M.lok_compU] | rw [M.lokD_compU]); refine tB ?_)
 | (refine ⟨_, getE_mapset (by first | exact inb_toNat (by assumption) | exact inb_nat (by assumption)), ?_⟩; (first | rw [M.lok_compU] | rw [M.lokD_compU] | (simp only [V.cells]; first | rw [M.lok_comp] | rw [M.lokD_comp])); refine tB ?_)
 | (refine tA ?_)
 | fail)
theorem F_5z {k13 : Int} {a14 : Bool} {x12 y : List Bool} (h : F_1n k13 a14 x12 = some y) : y.length = x12.length := by
 simp only [F_1n, chk, cond_eq_ite, Option.bind_eq_some_iff] at h
 repeat' (first | (split at h) | (simp only [Option.bind_eq_some_iff] at h) | (obtain ⟨_, _, h⟩ := h) | (cases h; done) | (obtain rfl := Option.some.inj h; simp; done) | (simp; done) | (subst h; simp; done))
theorem F_60 {to_ : List Bool} {places_ : List Bool} {y : List Bool} (h : (F_u to_ places_) = some y) : y.length = to_.length := by
 simp only [F_u, chk, cond_eq_ite, Option.bind_eq_some_iff] at h
 repeat' (first | (split at h) | (simp only [Option.bind_eq_some_iff] at h) | (obtain ⟨_, _, h⟩ := h) | (cases h; done) | (obtain rfl := Option.some.inj h; simp; done) | (simp; done) | (subst h; simp; done) | (rename_i h1; (try cases h); exact foldL_len (fun k x s s' h => F_5z h) h1))
def F_21 (v_ : Bool) (k11 : Int) (a12 : Bool) (x10 : Unit) : Option (Fl Unit Int) :=
 bif (v_ == a12) then some (.ex k11) else some (.nx ())
def F_22 (s_ : List Bool) (v_ : Bool) : Option Int :=
 (forL (F_21 v_) s_ 0 ()).bind fun o => o.elim (fun x13 => some (-1)) (fun r14 => some r14)
@[irreducible] def mc_21 : MC :=
 (sR [mo (.bin false .lss (.t 8) (.t 7)) 9]
 (.seq (.cond (.t 9)
 .skip
 (.exit 0))
 (.seq (.block 1
 (sR [oV 8 10,
 oV 10 5]
 (sR [oV 1 11,
 oV 0 12,
 oV 5 13,
 mo (.iad 1 (.t 12) (.t 13)) 14,
 oL 14 15,
 mo (.beq false (.t 11) (.t 15)) 16]
 (.cond (.t 16)
 (sR [oV 5 17,
 oV 17 4]
 .ret)
 .skip))))
 (.reg [mo (.bin true .add (.t 8) (cI 1)) 18,
 oV 18 8]))))
def mc_22 : MC :=
 (sR [oC 0 4]
 (.seq (sR [oV 0 6,
 mo (.len false (.t 6)) 7,
 oC 0 8]
 (.block 0
 (.loop mc_21)))
 (sR [oC (-1) 4]
 .ret)))
theorem Wq_22 {s_ : List Bool} {v_ : Bool} : Cn Tryz.prog 89 [.sl (s_.map V.bool), .bool v_] [] (F_22 s_ v_) (fun z => .int .i64 z) (fun z => []) := fun Q Q' h hQ => by
 refine acallM mc_22 [] [] [.t 4] Tryz.func89 fun M => ?_
 unfold F_22 at h
 unfold mc_22
 replace h := tY h
 refine tB ?_
 repeat' (first
 | (exact tZ)
 | ((first | refine oblg h ?_ | refine roomG h ?_ | refine fork h ?_ ?_ | refine forkS h ?_ ?_) <;> clear h <;> intro hc h)
 | (refine M.for1 (b := mc_21) 8 [0,1,7] [] (fun x => []) (fun x => []) [] h ?_ ?_ ?_ <;> first
 | (clear h; intro k a x Qn K hK1 hkN1 ha1 h hf; have hl := fact_int (factsE_find (n := 7) hf.1 rfl); clear hf; have hkd := kD hkN1; have hkB1 := kB hkN1; have hkI1 := kI (k := k) (by omega); unfold F_21 at h; unfold mc_21; replace h := tY h; refine tK ha1 hkd hkN1 hkB1 hkI1 ?_)
  |(clear h; intro x K h; replace h := And.left (And.intro h trivial); unfold mc_21; replace h := tY h; refine tB ?_)
  |(clear h; (try refine tB ?_); exact tU0; done))
 | (simp only [ha1])
 | (refine hK1 _ ?_; (try refine tB ?_); refine ⟨_, h, ?_⟩; exact tU0; done)
 | (refine tE ?_; (first | rw [M.lok_compU] | rw [M.lokD_compU]); refine tB ?_)
 | (refine tA ?_)
 | fail)
def F_1o (s_ : List Bool) (v_ : Bool) : Option Bool :=
 (F_22 s_ v_).bind fun y2 => some (decide (0 ≤ y2))
def mc_1o : MC :=
 (sR [mo (.mv (.c (.bool false))) 4]
 (sR [oV 0 5,
 oV 1 6,
 mo (.call (.f 89) [(.t 5),(.t 6)] [] []) 7,
 mo (.bin false .geq (.t 7) (cI 0)) 8,
 oV 8 4]
 .ret))
theorem Wq_1o {s_ : List Bool} {v_ : Bool} : Cn Tryz.prog 73 [.sl (s_.map V.bool), .bool v_] [] (F_1o s_ v_) (fun z => .bool z) (fun z => []) := fun Q Q' h hQ => by
 refine acallM mc_1o [] [] [.t 4] Tryz.func73 fun M => ?_
 unfold F_1o at h
 unfold mc_1o
 replace h := tY h
 refine tB ?_
 repeat' (first
 | (exact tZ)
 | ((first | refine oblg h ?_ | refine roomG h ?_ | refine fork h ?_ ?_ | refine forkS h ?_ ?_) <;> clear h <;> intro hc h)
 | (obtain ⟨y, hy, h⟩ := h; have hw := Wq_22.w hy; replace hw := tY hw; (first | refine M.sC hw ?_ | refine M.sD hw ?_); clear hw hy; refine tB ?_)
 | (refine tE ?_; (first | rw [M.lok_compU] | rw [M.lokD_compU]); refine tB ?_)
 | (refine tA ?_)
 | fail)
noncomputable def FR_6 : Nat → GNode → (List UInt8) → (List Bool) → Option (List Bool)
 | 0, _, _, _ => none
 | n + 1, n_, b_, from_ =>
 chk (roomI (from_.length : Int) (from_.length : Int) 1) (bif decide (n_.Op = 1) then (foldL (fun (k116 : Int) (a117 : UInt8) (x115 : List Bool) => (chk (inb k116 from_.length) (jn (α := Bool) (bif (from_.getD (k116).toNat default) then (F_1m n_.Ranges a117).bind fun y125 => some y125 else some false) fun j126 => chk (inb (k116 + 1) x115.length) (some (x115.set (((k116 + 1)).toNat) j126))) : Option (List Bool))) b_ 0 (List.replicate ((from_.length : Int)).toNat false)).bind fun x127 => some x127 else bif decide (n_.Op = 2) then chk (eqn from_.length (List.replicate ((from_.length : Int)).toNat false).length) ((foldL (fun (k140 : Int) (a141 : GNode) (x139 : List Bool) => ((FR_6 n a141 b_ x139).bind fun y145 => some y145 : Option (List Bool))) n_.Kids 0 from_).bind fun x146 => some x146) else bif decide (n_.Op = 3) then (foldL (fun (k165 : Int) (a166 : GNode) (x164 : List Bool) => ((FR_6 n a166 b_ from_).bind fun y173 => (F_u x164 y173).bind fun y174 => some y174 : Option (List Bool))) n_.Kids 0 (List.replicate ((from_.length : Int)).toNat false)).bind fun x175 => some x175 else jn (α := List Bool) (bif decide (n_.Min = 0) then (F_u (List.replicate ((from_.length : Int)).toNat false) from_).bind fun y178 => some y178 else some (List.replicate ((from_.length : Int)).toNat false)) fun j177 => (loop (fun (x197 : (List Bool) × Int × (List Bool)) => (bif decide (x197.2.1 ≤ n_.Max) then (F_1o x197.1 true).bind fun y209 => bif y209 then jn (α := (List Bool) × (List Bool)) (chk (inb 0 n_.Kids.length) ((FR_6 n (n_.Kids.getD 0 default) b_ x197.1).bind fun y215 => bif decide (n_.Min ≤ x197.2.1) then (F_u x197.2.2 y215).bind fun y216 => some (y215, y216) else some (y215, x197.2.2))) fun j213 => chk (in64 (x197.2.1 + 1)) (some (.nx (j213.1, (x197.2.1 + 1), j213.2))) else some (.ex x197.2.2) else some (.ex x197.2.2) : Option (Fl ((List Bool) × Int × (List Bool)) (List Bool)))) (from_, 1, j177)).bind fun r217 => some r217)
noncomputable def F_6 (n_ : GNode) (b_ : List UInt8) (from_ : List Bool) : Option (List Bool) := lim fun n => FR_6 n n_ b_ from_
@[irreducible] def mg_5a : List MOp := [gT 66 67 (.fad 1 (.t 3)),
 gT 66 68 (.ld none (.t 67)),
 gT 66 69 (.mv (.t 9)),
 gT 66 70 (.call (.f 71) [(.t 68),(.t 69)] [] []),
 mo (.pick (.t 66) (.t 70) (.c (.bool false))) 71]
@[irreducible] def mc_2x : MC :=
 (sR [mo (.bin false .lss (.t 54) (.t 53)) 55]
 (.seq (.cond (.t 55)
 .skip
 (.exit 3))
 (.seq (.block 4
 (sR [oV 54 56,
 mo (.iad 1 (.t 52) (.t 54)) 57,
 oL 57 58,
 oV 56 8,
 oV 58 9]
 (.regI [.op (oV 7 59),
 .op (oV 8 60),
 .op (mo (.bin true .add (.t 60) (cI 1)) 61),
 .op (oV 2 62),
 .op (oV 8 63),
 .op (mo (.iad 1 (.t 62) (.t 63)) 64),
 .op (oL 64 65),
 .op (oV 65 66),
 .grp mg_5a,
 .op (mo (.iad 1 (.t 59) (.t 61)) 72),
 .op ⟨.st 1 (.t 72) (.t 71), none, none⟩])))
 (.reg [mo (.bin true .add (.t 54) (cI 1)) 73,
 oV 73 54]))))
@[irreducible] def mc_2y : MC :=
 (sR [mo (.bin false .lss (.t 82) (.t 81)) 83]
 (.seq (.cond (.t 83)
 .skip
 (.exit 5))
 (.seq (.block 6
 (sR [mo (.iad 5 (.t 80) (.t 82)) 84,
 mo (.ld (some 5) (.t 84)) 85,
 mo (.alloc [(.int .i64 0),(.sl []),(.sl []),(.int .i64 0),(.int .i64 0)]) 11,
 ⟨.st 5 (.t 11) (.t 85), none, none⟩]
 (.regI [.op (mo (.ld (some 5) (.t 11)) 86),
 .op (oV 1 87),
 .op (oV 7 88),
 .nt (.fz 88),
 .op (mo (.call (.f 53) [(.t 86),(.t 87),(.t 88)] [] []) 89),
 .op (oV 89 7)])))
 (.reg [mo (.bin true .add (.t 82) (cI 1)) 90,
 oV 90 82]))))
@[irreducible] def mc_2z : MC :=
 (sR [mo (.bin false .lss (.t 96) (.t 95)) 97]
 (.seq (.cond (.t 97)
 .skip
 (.exit 7))
 (.seq (.block 8
 (sR [mo (.iad 5 (.t 94) (.t 96)) 98,
 mo (.ld (some 5) (.t 98)) 99,
 mo (.alloc [(.int .i64 0),(.sl []),(.sl []),(.int .i64 0),(.int .i64 0)]) 13,
 ⟨.st 5 (.t 13) (.t 99), none, none⟩]
 (.reg [oV 7 100,
 mo (.ld (some 5) (.t 13)) 101,
 oV 1 102,
 oV 2 103,
 mo (.call (.f 53) [(.t 101),(.t 102),(.t 103)] [] []) 104,
 mo (.call (.f 72) [(.t 100),(.t 104)] [17] []) 105])))
 (.reg [mo (.bin true .add (.t 96) (cI 1)) 106,
 oV 106 96]))))
@[irreducible] def mc_5b : MC :=
 (.reg [oV 14 34,
 mo (.bin true .add (.t 34) (cI 1)) 35,
 oV 35 14])
@[irreducible] def mc_5c : MC :=
 (.seq (sR [oV 14 26,
 oF 4 3 27,
 oL 27 28,
 mo (.bin false .leq (.t 26) (.t 28)) 29,
 oV 29 30,
 gT 30 31 (.mv (.t 2)),
 gT 30 32 (.call (.f 73) [(.t 31),(.c (.bool true))] [] []),
 mo (.pick (.t 30) (.t 32) (.c (.bool false))) 33]
 (.cond (.t 33)
 .skip
 (.exit 1)))
 (.cut (.block 2
 (sR [oF 2 3 36,
 oL 36 37,
 mo (.iad 5 (.t 37) (cI 0)) 38,
 mo (.ld (some 5) (.t 38)) 39,
 oV 1 40,
 oV 2 41,
 mo (.call (.f 53) [(.t 39),(.t 40),(.t 41)] [] []) 42,
 oV 42 2]
 (.seq (.note (.gc [1,2,3,7,14,31,32]) (.reg [oV 14 43,
 oF 3 3 44,
 oL 44 45,
 mo (.bin false .geq (.t 43) (.t 45)) 46]))
 (.cond (.t 46)
 (.reg [oV 7 47,
 oV 2 48,
 mo (.call (.f 72) [(.t 47),(.t 48)] [17] []) 49])
 .skip))))
 mc_5b))
@[irreducible] def mc_5d : MC :=
 (sR [oC 1 14]
 (.block 1
 (.loop mc_5c)))
def mc_6 : MC :=
 (sR [mo (.box (.t 0)) 3,
 mo (.mv (.c (.sl []))) 6]
 (sR [oV 2 15,
 mo (.len false (.t 15)) 16,
 mo (.mksl 1 1 (.bool false) (.t 16) (.t 16)) 17,
 oV 17 7]
 (.seq (sR [oF 0 3 18,
 oL 18 19]
 (.block 0
 (sR [mo (.bin false .eql (.t 19) (cI 1)) 51,
 oV 51 50]
 (.cond (.t 50)
 (.seq (.note (.gc [1,2,3,7,67,68,69,70]) (.reg [oV 1 52,
 mo (.len false (.t 52)) 53,
 oC 0 54]))
 (.block 3
 (.loop mc_2x)))
 (sR [mo (.bin false .eql (.t 19) (cI 2)) 75,
 oV 75 74]
 (.cond (.t 74)
 (.seq (.note (.gc [1,2,3,7]) (.reg [oV 7 76,
 oV 2 77,
 mo (.mp (.cpy 1) [(.t 76),(.t 77)]) 78]))
 (sR [oF 2 3 79,
 oL 79 80,
 mo (.len false (.t 80)) 81,
 oC 0 82]
 (.block 5
 (.loop mc_2y))))
 (sR [mo (.bin false .eql (.t 19) (cI 3)) 92,
 oV 92 91]
 (.cond (.t 91)
 (.seq (.note (.gc [1,2,3,7]) (.reg [oF 2 3 93,
 oL 93 94,
 mo (.len false (.t 94)) 95,
 oC 0 96]))
 (.block 7
 (.loop mc_2z)))
 (.cut (.seq (.note (.gc [1,2,3,7,31,32]) (.reg [oF 3 3 20,
 oL 20 21,
 mo (.bin false .eql (.t 21) (cI 0)) 22]))
 (.cond (.t 22)
 (.reg [oV 7 23,
 oV 2 24,
 mo (.call (.f 72) [(.t 23),(.t 24)] [17] []) 25])
 .skip))
 mc_5d)))))))))
 (sR [oV 7 107,
 oV 107 6]
 .ret))))
theorem Wq_6 {n : Nat} (ih_pattern_ends : ∀ {n_ : GNode} {b_ : List UInt8} {from_ : List Bool} {y : List Bool}, FR_6 n n_ b_ from_ = some y → ACall Tryz.prog 53 [GNode.v n_, .sl (b_.map byteV), .sl (from_.map V.bool)] [] (fun r H => r = .sl (y.map V.bool) ∧ H = [])) (n_ : GNode) (b_ : List UInt8) (from_ : List Bool) {Q : List Bool → Prop} {Q' : V → Heap → Prop} (h : Ok (FR_6 (n + 1) n_ b_ from_) Q) (hQ : ∀ z, Q z → Q' (.sl (z.map V.bool)) []) : ACall Tryz.prog 53 [GNode.v n_, .sl (b_.map byteV), .sl (from_.map V.bool)] [] Q' := by
 refine acallM mc_6 [.fz 6] [] [.t 6] Tryz.func53 fun M => ?_
 simp only [FR_6] at h
 unfold mc_6
 replace h := tY h
 refine tB ?_
 repeat' (first
 | (exact tZ)
 | ((first | refine oblg h ?_ | refine roomG h ?_ | refine fork h ?_ ?_ | refine forkS h ?_ ?_) <;> clear h <;> intro hc h)
 | (obtain ⟨y, hy, h⟩ := h; (first | (with_reducible first | have hw := Wq_1m.w hy | have hw := ih_pattern_ends hy | have hw := Wq_1o.w hy) | (have hw := acall_swe 1000 17 (Wq_u.w hy); replace hw := tY hw; have hlen := F_60 hy)); replace hw := tY hw; (first | refine M.sC hw ?_ | refine M.sD hw ?_); clear hw hy; refine tB ?_)
 | (refine M.gj1 (ms := mg_5a) [2,3,7,52,53,54,59,61] [17,3] (fun y => [(71, .bool y)]) (fun y => []) h ?_ ?_ <;> first
 | (clear h; intro Qn K hK1 h; unfold mg_5a; replace h := tY h; refine tB ?_)
  |(clear h; intro y h; replace h := tY h; refine tB ?_))
 | (refine M.fold1 (b := mc_2x) 54 [2,3,52,53] [3] (fun x => [(7, .osl 17 1 0 x.length)]) (fun x => [.o 17 (.arr 1 (x.map V.bool))]) [] h ?_ ?_ ?_ <;> first
 | (clear h; intro k a x Qn K hK2 hkN2 ha2 h hf; have hl := fact_int (factsE_find (n := 53) hf.1 rfl); clear hf; have hkd := kD hkN2; have hkB2 := kB hkN2; have hkI2 := kI (k := k) (by omega); unfold mc_2x; replace h := tY h; refine tK ha2 hkd hkN2 hkB2 hkI2 ?_)
  |(clear h; intro x K h; replace h := And.left (And.intro h trivial); unfold mc_2x; replace h := tY h; refine tB ?_)
  |(clear h; (try refine tB ?_); exact tU; done))
 | (refine M.fold1 (b := mc_2y) 82 [1,80,81] [] (fun x => [(7, .sl (x.map V.bool))]) (fun x => []) [.fz 7] h ?_ ?_ ?_ <;> first
 | (clear h; intro k a x Qn K hK3 hkN3 ha3 h hf; have hl := fact_int (factsE_find (n := 81) hf.1 rfl); clear hf; have hkd := kD hkN3; have hkB3 := kB hkN3; have hkI3 := kI (k := k) (by omega); unfold mc_2y; replace h := tY h; refine tK ha3 hkd hkN3 hkB3 hkI3 ?_)
  |(clear h; intro x K h; replace h := And.left (And.intro h trivial); unfold mc_2y; replace h := tY h; refine tB ?_)
  |(clear h; (try refine tB ?_); exact tU; done))
 | (refine M.fold1 (b := mc_2z) 96 [1,2,94,95] [] (fun x => [(7, .osl 17 1 0 x.length)]) (fun x => [.o 17 (.arr 1 (x.map V.bool))]) [] h ?_ ?_ ?_ <;> first
 | (clear h; intro k a x Qn K hK4 hkN4 ha4 h hf; have hl := fact_int (factsE_find (n := 95) hf.1 rfl); clear hf; have hkd := kD hkN4; have hkB4 := kB hkN4; have hkI4 := kI (k := k) (by omega); unfold mc_2z; replace h := tY h; refine tK ha4 hkd hkN4 hkB4 hkI4 ?_)
  |(clear h; intro x K h; replace h := And.left (And.intro h trivial); unfold mc_2z; replace h := tY h; refine tB ?_)
  |(clear h; (try refine tB ?_); exact tU; done))
 | (refine M.jn1 (b := mc_5b) [1,3,14,31,32] [3] (fun y => [(2, .sl (y.1.map V.bool)), (7, .osl 17 1 0 y.2.length)]) (fun y => [.o 17 (.arr 1 (y.2.map V.bool))]) [] h ?_ ?_ <;> first
 | (clear h; intro Qn K hK5 h; replace h := tY h; refine tB ?_)
  |(clear h; intro y h; unfold mc_5b; replace h := tY h; refine tB ?_))
 | (refine M.wh1 (b := mc_5c) [1,3] [3] (fun x => [(2, .sl (x.1.map V.bool)), (7, .osl 17 1 0 x.2.2.length), (14, .int .i64 x.2.1)]) (fun x => [.o 17 (.arr 1 (x.2.2.map V.bool))]) [] h ?_ ?_ <;> first
 | (clear h; intro x Qn K hK6 h; unfold mc_5c; replace h := tY h; refine tB ?_)
  |(clear h; (try refine tB ?_); exact tU; done))
 | (refine M.jn1 (b := mc_5d) [1,2,3] [3] (fun y => [(7, .osl 17 1 0 y.length)]) (fun y => [.o 17 (.arr 1 (y.map V.bool))]) [] h ?_ ?_ <;> first
 | (clear h; intro Qn K hK7 h; replace h := tY h; refine tB ?_)
  |(clear h; intro y h; unfold mc_5d; replace h := tY h; refine tB ?_))
 | (first | simp only [ha2] | simp only [ha3] | simp only [ha4])
 | ((first | refine hK1 _ ?_ | refine hK2 _ ?_ | refine hK3 _ ?_ | refine hK4 _ ?_ | refine hK5 _ ?_ | refine hK6 _ ?_ | refine hK7 _ ?_); (try refine tB ?_); refine ⟨_, h, ?_⟩; exact tU; done)
 | (refine tE ?_; (first | rw [M.lok_compU] | rw [M.lokD_compU]); refine tB ?_)
 | (refine ⟨_, getE_mapset (by first | exact inb_toNat (by assumption) | exact inb_nat (by assumption)), ?_⟩; (first | rw [M.lok_compU] | rw [M.lokD_compU] | (simp only [V.cells]; first | rw [M.lok_comp] | rw [M.lokD_comp])); refine tB ?_)
 | (refine tA ?_)
 | fail)
theorem WG_6 : ∀ n, (∀ {n_ : GNode} {b_ : List UInt8} {from_ : List Bool} {y : List Bool}, FR_6 n n_ b_ from_ = some y → ACall Tryz.prog 53 [GNode.v n_, .sl (b_.map byteV), .sl (from_.map V.bool)] [] (fun r H => r = .sl (y.map V.bool) ∧ H = []))
 | 0 => fun hy => (by simp only [FR_6] at hy; cases hy)
 | n + 1 => by
  have ih_pattern_ends := @WG_6 n
  exact fun hy => Wq_6 ih_pattern_ends _ _ _ (Q := (· = _)) ⟨_, hy, rfl⟩ fun | _, rfl => ⟨rfl, rfl⟩
theorem W_6 : ∀ {n_ : GNode} {b_ : List UInt8} {from_ : List Bool} {y : List Bool}, F_6 n_ b_ from_ = some y → ACall Tryz.prog 53 [GNode.v n_, .sl (b_.map byteV), .sl (from_.map V.bool)] [] (fun r H => r = .sl (y.map V.bool) ∧ H = []) := fun hy => by
 obtain ⟨n, hn⟩ := lim_inv hy
 exact (WG_6 n) hn
noncomputable def F_10 (n_ : GNode) (b_ : List UInt8) : Option Bool :=
 bif decide (1024 < (b_.length : Int)) then some false else (F_l n_).bind fun y4 => bif (!decide (y4 = 0)) then some false else chk (in64 ((b_.length : Int) + 1)) (chk (roomI ((b_.length : Int) + 1) ((b_.length : Int) + 1) 1) (chk (inb 0 (List.replicate (((b_.length : Int) + 1)).toNat false).length) ((F_6 n_ b_ ((List.replicate (((b_.length : Int) + 1)).toNat false).set 0 true)).bind fun y6 => chk (inb (b_.length : Int) y6.length) (some (y6.getD ((b_.length : Int)).toNat default)))))
def mc_10 : MC :=
 (sR [mo (.box (.t 0)) 2,
 mo (.mv (.c (.bool false))) 4]
 (.seq (sR [oV 1 6,
 mo (.len false (.t 6)) 7,
 mo (.bin false .gtr (.t 7) (cI 1024)) 8,
 oV 8 9,
 gF 9 10 (.ld (some 5) (.t 2)),
 gF 9 11 (.call (.f 12) [(.t 10)] [] []),
 gF 9 12 (.bin false .neq (.t 11) (cI 0)),
 mo (.pick (.t 9) (.c (.bool true)) (.t 12)) 13]
 (.cond (.t 13)
 (sR [mo (.mv (.c (.bool false))) 4]
 .ret)
 .skip))
 (.seq (.note (.gc [1,2]) (.reg [oV 1 14,
 mo (.len false (.t 14)) 15,
 mo (.bin true .add (.t 15) (cI 1)) 16,
 mo (.mksl 1 1 (.bool false) (.t 16) (.t 16)) 17,
 oV 17 5]))
 (sR [oV 5 18,
 mo (.iad 1 (.t 18) (cI 0)) 19,
 ⟨.st 1 (.t 19) (.c (.bool true)), none, none⟩]
 (.seq (.regI [.op (mo (.ld (some 5) (.t 2)) 20),
 .op (oV 1 21),
 .op (oV 5 22),
 .nt (.fz 22),
 .op (mo (.call (.f 53) [(.t 20),(.t 21),(.t 22)] [] []) 23),
 .op (oV 1 24),
 .op (mo (.len false (.t 24)) 25),
 .op (mo (.iad 1 (.t 23) (.t 25)) 26),
 .op (oL 26 27),
 .op (oV 27 4)])
 .ret)))))
theorem Wq_10 {n_ : GNode} {b_ : List UInt8} : Cn Tryz.prog 32 [GNode.v n_, .sl (b_.map byteV)] [] (F_10 n_ b_) (fun z => .bool z) (fun z => []) := fun Q Q' h hQ => by
 refine acallM mc_10 [] [] [.t 4] Tryz.func32 fun M => ?_
 unfold F_10 at h
 unfold mc_10
 replace h := tY h
 refine tB ?_
 repeat' (first
 | (exact tZ)
 | ((first | refine oblg h ?_ | refine roomG h ?_ | refine fork h ?_ ?_ | refine forkS h ?_ ?_) <;> clear h <;> intro hc h)
 | (obtain ⟨y, hy, h⟩ := h; (first | with_reducible first | have hw := Wq_l.w hy | have hw := W_6 hy); replace hw := tY hw; (first | refine M.sC hw ?_ | refine M.sD hw ?_); clear hw hy; refine tB ?_)
 | (refine tE ?_; (first | rw [M.lok_compU] | rw [M.lokD_compU]); refine tB ?_)
 | (refine ⟨_, getE_mapset (by first | exact inb_toNat (by assumption) | exact inb_nat (by assumption)), ?_⟩; (first | rw [M.lok_compU] | rw [M.lokD_compU] | (simp only [V.cells]; first | rw [M.lok_comp] | rw [M.lokD_comp])); refine tB ?_)
 | (refine tA ?_)
 | fail)
noncomputable def F_2j (l_ : List GRange) (c_ : UInt8) (x29 : Int) : Option (Fl Int (Sum Unit Bool)) :=
 bif decide (x29 < (l_.length : Int)) then chk (inb x29 l_.length) (jn (α := Bool) (bif decide ((((l_.getD (x29).toNat default).Low).toNat : Int) ≤ (c_.toNat : Int)) then chk (inb x29 l_.length) (some (decide ((c_.toNat : Int) ≤ (((l_.getD (x29).toNat default).High).toNat : Int)))) else some false) fun j37 => bif j37 then some (.ex (.inr true)) else chk (in64 (x29 + 1)) (some (.nx (x29 + 1)))) else some (.ex (.inl ()))
noncomputable def F_1p (l_ : List GRange) (c_ : UInt8) : Option Bool :=
 (loop (F_2j l_ c_) 0).bind fun r38 => Sum.elim (fun u39 => some false) (fun u40 => some u40) r38
@[irreducible] def mg_5e : List MOp := [gT 19 20 (.mv (.t 1)),
 gT 19 21 (.mv (.t 0)),
 gT 19 22 (.mv (.t 5)),
 gT 19 23 (.iad 2 (.t 21) (.t 22)),
 gT 19 24 (.fad 1 (.t 23)),
 gT 19 25 (.ld none (.t 24)),
 gT 19 26 (.bin false .leq (.t 20) (.t 25)),
 mo (.pick (.t 19) (.t 26) (.c (.bool false))) 27]
@[irreducible] def mc_2j : MC :=
 (.seq (sR [oV 5 6,
 oV 0 7,
 mo (.len false (.t 7)) 8,
 mo (.bin false .lss (.t 6) (.t 8)) 9]
 (.cond (.t 9)
 .skip
 (.exit 0)))
 (.seq (.block 1
 (.seq (.regI [.op (oV 0 12),
 .op (oV 5 13),
 .op (mo (.iad 2 (.t 12) (.t 13)) 14),
 .op (oF 0 14 15),
 .op (oL 15 16),
 .op (oV 1 17),
 .op (mo (.bin false .leq (.t 16) (.t 17)) 18),
 .op (oV 18 19),
 .grp mg_5e])
 (.cond (.t 27)
 (sR [mo (.mv (.c (.bool true))) 4]
 .ret)
 .skip)))
 (.reg [oV 5 10,
 mo (.bin true .add (.t 10) (cI 1)) 11,
 oV 11 5])))
def mc_1p : MC :=
 (sR [mo (.mv (.c (.bool false))) 4]
 (.seq (sR [oC 0 5]
 (.block 0
 (.loop mc_2j)))
 (sR [mo (.mv (.c (.bool false))) 4]
 .ret)))
theorem Wq_1p {l_ : List GRange} {c_ : UInt8} : Cn Tryz.prog 74 [.sl (l_.map GRange.v), byteV c_] [] (F_1p l_ c_) (fun z => .bool z) (fun z => []) := fun Q Q' h hQ => by
 refine acallM mc_1p [] [] [.t 4] Tryz.func74 fun M => ?_
 unfold F_1p at h
 unfold mc_1p
 replace h := tY h
 refine tB ?_
 repeat' (first
 | (exact tZ)
 | ((first | refine oblg h ?_ | refine roomG h ?_ | refine fork h ?_ ?_ | refine forkS h ?_ ?_) <;> clear h <;> intro hc h)
 | (refine M.gj1 (ms := mg_5e) [0,1,5] [] (fun y => [(27, .bool y)]) (fun y => []) h ?_ ?_ <;> first
 | (clear h; intro Qn K hK1 h; unfold mg_5e; replace h := tY h; refine tB ?_)
  |(clear h; intro y h; replace h := tY h; refine tB ?_))
 | (refine M.wh1 (b := mc_2j) [0,1] [] (fun x => [(5, .int .i64 x)]) (fun x => []) [] h ?_ ?_ <;> first
 | (clear h; intro x Qn K hK2 h; unfold F_2j at h; unfold mc_2j; replace h := tY h; refine tB ?_)
  |(clear h; (try refine tB ?_); exact tU0; done))
 | ((first | refine hK1 _ ?_ | refine hK2 _ ?_); (try refine tB ?_); refine ⟨_, h, ?_⟩; exact tU0; done)
 | (refine tE ?_; (first | rw [M.lok_compU] | rw [M.lokD_compU]); refine tB ?_)
 | (refine tA ?_)
 | fail)
noncomputable def F_2k (a_ : List Bool) (b_ : List Bool) (x17 : Int × (List Bool)) : Option (Fl (Int × (List Bool)) (List Bool)) :=
 bif decide (x17.1 < (a_.length : Int)) then chk (inb x17.1 a_.length) (jn (α := Bool) (bif (a_.getD (x17.1).toNat default) then some true else chk (inb x17.1 b_.length) (some (b_.getD (x17.1).toNat default))) fun j21 => chk (inb x17.1 x17.2.length) (chk (in64 (x17.1 + 1)) (some (.nx ((x17.1 + 1), x17.2.set ((x17.1).toNat) j21))))) else some (.ex x17.2)
noncomputable def F_17 (a_ : List Bool) (b_ : List Bool) : Option (List Bool) :=
 chk (roomI (a_.length : Int) (a_.length : Int) 1) ((loop (F_2k a_ b_) (0, List.replicate ((a_.length : Int)).toNat false)).bind fun r22 => some r22)
@[irreducible] def mg_5f : List MOp := [gF 22 23 (.mv (.t 1)),
 gF 22 24 (.mv (.t 6)),
 gF 22 25 (.iad 1 (.t 23) (.t 24)),
 gF 22 26 (.ld none (.t 25)),
 mo (.pick (.t 22) (.c (.bool true)) (.t 26)) 27]
@[irreducible] def mc_2k : MC :=
 (.seq (sR [oV 6 10,
 oV 0 11,
 mo (.len false (.t 11)) 12,
 mo (.bin false .lss (.t 10) (.t 12)) 13]
 (.cond (.t 13)
 .skip
 (.exit 0)))
 (.seq (.block 1
 (.regI [.op (oV 5 16),
 .op (oV 6 17),
 .op (oV 0 18),
 .op (oV 6 19),
 .op (mo (.iad 1 (.t 18) (.t 19)) 20),
 .op (oL 20 21),
 .op (oV 21 22),
 .grp mg_5f,
 .op (mo (.iad 1 (.t 16) (.t 17)) 28),
 .op ⟨.st 1 (.t 28) (.t 27), none, none⟩]))
 (.reg [oV 6 14,
 mo (.bin true .add (.t 14) (cI 1)) 15,
 oV 15 6])))
def mc_17 : MC :=
 (sR [mo (.mv (.c (.sl []))) 4]
 (sR [oV 0 7,
 mo (.len false (.t 7)) 8,
 mo (.mksl 1 1 (.bool false) (.t 8) (.t 8)) 9,
 oV 9 5]
 (.seq (sR [oC 0 6]
 (.block 0
 (.loop mc_2k)))
 (sR [oV 5 29,
 oV 29 4]
 .ret))))
theorem Wq_17 {a_ b_ : List Bool} : Cn Tryz.prog 75 [.sl (a_.map V.bool), .sl (b_.map V.bool)] [] (F_17 a_ b_) (fun z => .sl (z.map V.bool)) (fun z => []) := fun Q Q' h hQ => by
 refine acallM mc_17 [.fz 4] [] [.t 4] Tryz.func75 fun M => ?_
 unfold F_17 at h
 unfold mc_17
 replace h := tY h
 refine tB ?_
 repeat' (first
 | (exact tZ)
 | ((first | refine oblg h ?_ | refine roomG h ?_ | refine fork h ?_ ?_ | refine forkS h ?_ ?_) <;> clear h <;> intro hc h)
 | (refine M.gj1 (ms := mg_5f) [0,1,5,6,16,17] [9] (fun y => [(27, .bool y)]) (fun y => []) h ?_ ?_ <;> first
 | (clear h; intro Qn K hK1 h; unfold mg_5f; replace h := tY h; refine tB ?_)
  |(clear h; intro y h; replace h := tY h; refine tB ?_))
 | (refine M.wh1 (b := mc_2k) [0,1] [] (fun x => [(5, .osl 9 1 0 x.2.length), (6, .int .i64 x.1)]) (fun x => [.o 9 (.arr 1 (x.2.map V.bool))]) [] h ?_ ?_ <;> first
 | (clear h; intro x Qn K hK2 h; unfold F_2k at h; unfold mc_2k; replace h := tY h; refine tB ?_)
  |(clear h; (try refine tB ?_); exact tU0; done))
 | ((first | refine hK1 _ ?_ | refine hK2 _ ?_); (try refine tB ?_); refine ⟨_, h, ?_⟩; exact tU0; done)
 | (refine tE ?_; (first | rw [M.lok_compU] | rw [M.lokD_compU]); refine tB ?_)
 | (refine ⟨_, getE_mapset (by first | exact inb_toNat (by assumption) | exact inb_nat (by assumption)), ?_⟩; (first | rw [M.lok_compU] | rw [M.lokD_compU] | (simp only [V.cells]; first | rw [M.lok_comp] | rw [M.lokD_comp])); refine tB ?_)
 | (refine tA ?_)
 | fail)
noncomputable def FR_7 : Nat → GNode → (List UInt8) → (List Bool) → Option (List Bool)
 | 0, _, _, _ => none
 | n + 1, n_, b_, at_ =>
 chk (in64 ((b_.length : Int) + 1)) (chk (roomI ((b_.length : Int) + 1) ((b_.length : Int) + 1) 1) (bif decide (n_.Op = 1) then (loop (fun (x65 : Int × (List Bool)) => (bif decide (x65.1 < (b_.length : Int)) then jn (α := List Bool) (chk (in64 (x65.1 + 1)) (chk (inb x65.1 at_.length) (bif (at_.getD (x65.1).toNat default) then chk (inb x65.1 b_.length) ((F_1p n_.Ranges (b_.getD (x65.1).toNat default)).bind fun y70 => chk (inb (x65.1 + 1) x65.2.length) (some (x65.2.set (((x65.1 + 1)).toNat) y70))) else chk (inb (x65.1 + 1) x65.2.length) (some (x65.2.set (((x65.1 + 1)).toNat) false))))) fun j69 => chk (in64 (x65.1 + 1)) (some (.nx ((x65.1 + 1), j69))) else some (.ex x65.2) : Option (Fl (Int × (List Bool)) (List Bool)))) (0, List.replicate (((b_.length : Int) + 1)).toNat false)).bind fun r71 => some r71 else bif decide (n_.Op = 2) then (loop (fun (x78 : (List Bool) × Int) => (bif decide (x78.2 < (n_.Kids.length : Int)) then chk (inb x78.2 n_.Kids.length) ((FR_7 n (n_.Kids.getD (x78.2).toNat default) b_ x78.1).bind fun y82 => chk (in64 (x78.2 + 1)) (some (.nx (y82, (x78.2 + 1))))) else some (.ex x78.1) : Option (Fl ((List Bool) × Int) (List Bool)))) (at_, 0)).bind fun r83 => some r83 else bif decide (n_.Op = 3) then (loop (fun (x94 : (List Bool) × Int) => (bif decide (x94.2 < (n_.Kids.length : Int)) then chk (inb x94.2 n_.Kids.length) ((FR_7 n (n_.Kids.getD (x94.2).toNat default) b_ at_).bind fun y101 => (F_17 x94.1 y101).bind fun y102 => chk (in64 (x94.2 + 1)) (some (.nx (y102, (x94.2 + 1))))) else some (.ex x94.1) : Option (Fl ((List Bool) × Int) (List Bool)))) (List.replicate (((b_.length : Int) + 1)).toNat false, 0)).bind fun r103 => some r103 else (loop (fun (x118 : (List Bool) × (List Bool) × Int) => (bif decide (x118.2.2 ≤ n_.Max) then jn (α := List Bool) (bif decide (n_.Min ≤ x118.2.2) then (F_17 x118.2.1 x118.1).bind fun y130 => some y130 else some x118.2.1) fun j129 => chk (inb 0 n_.Kids.length) ((FR_7 n (n_.Kids.getD 0 default) b_ x118.1).bind fun y131 => chk (in64 (x118.2.2 + 1)) (some (.nx (y131, j129, (x118.2.2 + 1))))) else some (.ex x118.2.1) : Option (Fl ((List Bool) × (List Bool) × Int) (List Bool)))) (at_, List.replicate (((b_.length : Int) + 1)).toNat false, 0)).bind fun r132 => some r132))
noncomputable def F_7 (n_ : GNode) (b_ : List UInt8) (at_ : List Bool) : Option (List Bool) := lim fun n => FR_7 n n_ b_ at_
@[irreducible] def mc_5g : MC :=
 (.reg [oV 8 44,
 mo (.bin true .add (.t 44) (cI 1)) 45,
 oV 45 8])
@[irreducible] def mc_5h : MC :=
 (.seq (sR [oV 8 40,
 oV 1 41,
 mo (.len false (.t 41)) 42,
 mo (.bin false .lss (.t 40) (.t 42)) 43]
 (.cond (.t 43)
 .skip
 (.exit 3)))
 (.cut (.block 4
 (.regD [oV 7 46,
 oV 8 47,
 mo (.bin true .add (.t 47) (cI 1)) 48,
 oV 2 49,
 oV 8 50,
 mo (.iad 1 (.t 49) (.t 50)) 51,
 oL 51 52,
 oV 52 53,
 gT 53 54 (.fad 1 (.t 3)),
 gT 53 55 (.ld none (.t 54)),
 gT 53 56 (.mv (.t 1)),
 gT 53 57 (.mv (.t 8)),
 gT 53 58 (.iad 1 (.t 56) (.t 57)),
 gT 53 59 (.ld none (.t 58)),
 gT 53 60 (.call (.f 74) [(.t 55),(.t 59)] [] []),
 mo (.pick (.t 53) (.t 60) (.c (.bool false))) 61,
 mo (.iad 1 (.t 46) (.t 48)) 62,
 ⟨.st 1 (.t 62) (.t 61), none, none⟩]
 [[],[],[1],[],[],[3,4],[5],[6],[7],[8,7],[7],[7],[10,11,7],[12,7],[9,13,7,7],[7,14],[0,2,0,1,2,3,4,5,6,7,8,9,10,11,12,13,14,15],[16,15,14,0,1,2,3,4,5,6,7,8,9,10,11,12,13,14,15]]
 [[],[],[1],[],[],[3,4],[3,4,5],[3,4,5,6],[3,4,5,6,7],[3,4,5,6,7,8],[3,4,5,6,7],[3,4,5,6,7],[3,4,5,6,7,10,11],[3,4,5,6,7,10,11,12],[3,4,5,6,7,8,9,10,11,12,13],[3,4,5,6,7,8,9,10,11,12,13,14],[0,1,2,3,4,5,6,7,8,9,10,11,12,13,14,15],[0,1,2,3,4,5,6,7,8,9,10,11,12,13,14,15,16]]))
 mc_5g))
@[irreducible] def mc_5i : MC :=
 (.seq (sR [oV 9 66,
 oF 2 3 67,
 oL 67 68,
 mo (.len false (.t 68)) 69,
 mo (.bin false .lss (.t 66) (.t 69)) 70]
 (.cond (.t 70)
 .skip
 (.exit 5)))
 (.seq (.block 6
 (.reg [oF 2 3 73,
 oL 73 74,
 oV 9 75,
 mo (.iad 5 (.t 74) (.t 75)) 76,
 mo (.ld (some 5) (.t 76)) 77,
 oV 1 78,
 oV 7 79,
 mo (.call (.f 54) [(.t 77),(.t 78),(.t 79)] [] []) 80,
 oV 80 7]))
 (.note (.gc [1,3,7,9]) (.reg [oV 9 71,
 mo (.bin true .add (.t 71) (cI 1)) 72,
 oV 72 9]))))
@[irreducible] def mc_5j : MC :=
 (.seq (sR [oV 10 83,
 oF 2 3 84,
 oL 84 85,
 mo (.len false (.t 85)) 86,
 mo (.bin false .lss (.t 83) (.t 86)) 87]
 (.cond (.t 87)
 .skip
 (.exit 7)))
 (.seq (.block 8
 (.regI [.op (oV 7 90),
 .op (oF 2 3 91),
 .op (oL 91 92),
 .op (oV 10 93),
 .op (mo (.iad 5 (.t 92) (.t 93)) 94),
 .op (mo (.ld (some 5) (.t 94)) 95),
 .op (oV 1 96),
 .op (oV 2 97),
 .op (mo (.call (.f 54) [(.t 95),(.t 96),(.t 97)] [] []) 98),
 .nt (.fz 90),
 .op (mo (.call (.f 75) [(.t 90),(.t 98)] [] []) 99),
 .op (oV 99 7)]))
 (.note (.gc [1,2,3,7,10]) (.reg [oV 10 88,
 mo (.bin true .add (.t 88) (cI 1)) 89,
 oV 89 10]))))
@[irreducible] def mc_5k : MC :=
 (.reg [oF 2 3 31,
 oL 31 32,
 mo (.iad 5 (.t 32) (cI 0)) 33,
 mo (.ld (some 5) (.t 33)) 34,
 oV 1 35,
 oV 2 36,
 mo (.call (.f 54) [(.t 34),(.t 35),(.t 36)] [] []) 37,
 oV 37 2])
@[irreducible] def mc_5l : MC :=
 (.seq (sR [oV 11 18,
 oF 4 3 19,
 oL 19 20,
 mo (.bin false .leq (.t 18) (.t 20)) 21]
 (.cond (.t 21)
 .skip
 (.exit 1)))
 (.seq (.block 2
 (.cut (sR [oV 11 24,
 oF 3 3 25,
 oL 25 26,
 mo (.bin false .geq (.t 24) (.t 26)) 27]
 (.cond (.t 27)
 (.note (.gc [1,2,3,7,11]) (.regI [.op (oV 7 28),
 .op (oV 2 29),
 .nt (.fz 28),
 .op (mo (.call (.f 75) [(.t 28),(.t 29)] [] []) 30),
 .op (oV 30 7)]))
 .skip))
 mc_5k))
 (.reg [oV 11 22,
 mo (.bin true .add (.t 22) (cI 1)) 23,
 oV 23 11])))
def mc_7 : MC :=
 (sR [mo (.box (.t 0)) 3,
 mo (.mv (.c (.sl []))) 6]
 (sR [oV 1 12,
 mo (.len false (.t 12)) 13,
 mo (.bin true .add (.t 13) (cI 1)) 14,
 mo (.mksl 1 1 (.bool false) (.t 14) (.t 14)) 15,
 oV 15 7]
 (.seq (sR [oF 0 3 16,
 oL 16 17]
 (.block 0
 (sR [mo (.bin false .eql (.t 17) (cI 1)) 39,
 oV 39 38]
 (.cond (.t 38)
 (sR [oC 0 8]
 (.block 3
 (.loop mc_5h)))
 (sR [mo (.bin false .eql (.t 17) (cI 2)) 64,
 oV 64 63]
 (.cond (.t 63)
 (sR [oV 2 65,
 oV 65 7]
 (sR [oC 0 9]
 (.block 5
 (.loop mc_5i))))
 (sR [mo (.bin false .eql (.t 17) (cI 3)) 82,
 oV 82 81]
 (.cond (.t 81)
 (sR [oC 0 10]
 (.block 7
 (.loop mc_5j)))
 (sR [oC 0 11]
 (.block 1
 (.loop mc_5l)))))))))))
 (sR [oV 7 100,
 oV 100 6]
 .ret))))
theorem Wq_7 {n : Nat} (ih_ref05_step : ∀ {n_ : GNode} {b_ : List UInt8} {at_ : List Bool} {y : List Bool}, FR_7 n n_ b_ at_ = some y → ACall Tryz.prog 54 [GNode.v n_, .sl (b_.map byteV), .sl (at_.map V.bool)] [] (fun r H => r = .sl (y.map V.bool) ∧ H = [])) (n_ : GNode) (b_ : List UInt8) (at_ : List Bool) {Q : List Bool → Prop} {Q' : V → Heap → Prop} (h : Ok (FR_7 (n + 1) n_ b_ at_) Q) (hQ : ∀ z, Q z → Q' (.sl (z.map V.bool)) []) : ACall Tryz.prog 54 [GNode.v n_, .sl (b_.map byteV), .sl (at_.map V.bool)] [] Q' := by
 refine acallM mc_7 [.fz 6] [] [.t 6] Tryz.func54 fun M => ?_
 simp only [FR_7] at h
 unfold mc_7
 replace h := tY h
 refine tB ?_
 repeat' (first
 | (exact tZ)
 | ((first | refine oblg h ?_ | refine roomG h ?_ | refine fork h ?_ ?_ | refine forkS h ?_ ?_) <;> clear h <;> intro hc h)
 | (obtain ⟨y, hy, h⟩ := h; (first | with_reducible first | have hw := Wq_1p.w hy | have hw := ih_ref05_step hy | have hw := Wq_17.w hy); replace hw := tY hw; (first | refine M.sC hw ?_ | refine M.sD hw ?_); clear hw hy; refine tB ?_)
 | (refine M.jn1 (b := mc_5g) [1,2,3,8] [3] (fun y => [(7, .osl 15 1 0 y.length)]) (fun y => [.o 15 (.arr 1 (y.map V.bool))]) [] h ?_ ?_ <;> first
 | (clear h; intro Qn K hK1 h; replace h := tY h; refine tB ?_)
  |(clear h; intro y h; unfold mc_5g; replace h := tY h; refine tB ?_))
 | (refine M.wh1 (b := mc_5h) [1,2,3] [3] (fun x => [(7, .osl 15 1 0 x.2.length), (8, .int .i64 x.1)]) (fun x => [.o 15 (.arr 1 (x.2.map V.bool))]) [] h ?_ ?_ <;> first
 | (clear h; intro x Qn K hK2 h; unfold mc_5h; replace h := tY h; refine tB ?_)
  |(clear h; (try refine tB ?_); exact tU0; done))
 | (refine M.wh1 (b := mc_5i) [1,3] [3] (fun x => [(7, .sl (x.1.map V.bool)), (9, .int .i64 x.2)]) (fun x => []) [] h ?_ ?_ <;> first
 | (clear h; intro x Qn K hK3 h; unfold mc_5i; replace h := tY h; refine tB ?_)
  |(clear h; (try refine tB ?_); exact tU0; done))
 | (refine M.wh1 (b := mc_5j) [1,2,3] [3] (fun x => [(7, .sl (x.1.map V.bool)), (10, .int .i64 x.2)]) (fun x => []) [.fz 7] h ?_ ?_ <;> first
 | (clear h; intro x Qn K hK4 h; unfold mc_5j; replace h := tY h; refine tB ?_)
  |(clear h; (try refine tB ?_); exact tU0; done))
 | (refine M.jn1 (b := mc_5k) [1,2,3,11] [3] (fun y => [(7, .sl (y.map V.bool))]) (fun y => []) [] h ?_ ?_ <;> first
 | (clear h; intro Qn K hK5 h; replace h := tY h; refine tB ?_)
  |(clear h; intro y h; unfold mc_5k; replace h := tY h; refine tB ?_))
 | (refine M.wh1 (b := mc_5l) [1,3] [3] (fun x => [(2, .sl (x.1.map V.bool)), (7, .sl (x.2.1.map V.bool)), (11, .int .i64 x.2.2)]) (fun x => []) [.fz 7] h ?_ ?_ <;> first
 | (clear h; intro x Qn K hK6 h; unfold mc_5l; replace h := tY h; refine tB ?_)
  |(clear h; (try refine tB ?_); exact tU0; done))
 | ((first | refine hK1 _ ?_ | refine hK2 _ ?_ | refine hK3 _ ?_ | refine hK4 _ ?_ | refine hK5 _ ?_ | refine hK6 _ ?_); (try refine tB ?_); refine ⟨_, h, ?_⟩; exact tU0; done)
 | (refine tE ?_; (first | rw [M.lok_compU] | rw [M.lokD_compU]); refine tB ?_)
 | (refine ⟨_, getE_mapset (by first | exact inb_toNat (by assumption) | exact inb_nat (by assumption)), ?_⟩; (first | rw [M.lok_compU] | rw [M.lokD_compU] | (simp only [V.cells]; first | rw [M.lok_comp] | rw [M.lokD_comp])); refine tB ?_)
 | (refine tA ?_)
 | fail)
theorem WG_7 : ∀ n, (∀ {n_ : GNode} {b_ : List UInt8} {at_ : List Bool} {y : List Bool}, FR_7 n n_ b_ at_ = some y → ACall Tryz.prog 54 [GNode.v n_, .sl (b_.map byteV), .sl (at_.map V.bool)] [] (fun r H => r = .sl (y.map V.bool) ∧ H = []))
 | 0 => fun hy => (by simp only [FR_7] at hy; cases hy)
 | n + 1 => by
  have ih_ref05_step := @WG_7 n
  exact fun hy => Wq_7 ih_ref05_step _ _ _ (Q := (· = _)) ⟨_, hy, rfl⟩ fun | _, rfl => ⟨rfl, rfl⟩
theorem W_7 : ∀ {n_ : GNode} {b_ : List UInt8} {at_ : List Bool} {y : List Bool}, F_7 n_ b_ at_ = some y → ACall Tryz.prog 54 [GNode.v n_, .sl (b_.map byteV), .sl (at_.map V.bool)] [] (fun r H => r = .sl (y.map V.bool) ∧ H = []) := fun hy => by
 obtain ⟨n, hn⟩ := lim_inv hy
 exact (WG_7 n) hn
noncomputable def F_11 (n_ : GNode) (b_ : List UInt8) : Option Bool :=
 (F_1j n_).bind fun y7 => grp (((!decide (y7 = 0)) || decide (1024 < (b_.length : Int)))) fun b8 => bif b8 then some false else chk (in64 ((b_.length : Int) + 1)) (chk (roomI ((b_.length : Int) + 1) ((b_.length : Int) + 1) 1) (chk (inb 0 (List.replicate (((b_.length : Int) + 1)).toNat false).length) ((F_7 n_ b_ ((List.replicate (((b_.length : Int) + 1)).toNat false).set 0 true)).bind fun y10 => chk (inb (b_.length : Int) y10.length) (some (y10.getD ((b_.length : Int)).toNat default)))))
@[irreducible] def mg_5m : List MOp := [gF 9 10 (.mv (.t 1)),
 gF 9 11 (.len false (.t 10)),
 gF 9 12 (.bin false .gtr (.t 11) (cI 1024)),
 mo (.pick (.t 9) (.c (.bool true)) (.t 12)) 13]
def mc_11 : MC :=
 (sR [mo (.box (.t 0)) 2,
 mo (.mv (.c (.bool false))) 4]
 (.seq (.seq (.regI [.op (mo (.ld (some 5) (.t 2)) 6),
 .op (mo (.call (.f 13) [(.t 6)] [] []) 7),
 .op (mo (.bin false .neq (.t 7) (cI 0)) 8),
 .op (oV 8 9),
 .grp mg_5m])
 (.cond (.t 13)
 (sR [mo (.mv (.c (.bool false))) 4]
 .ret)
 .skip))
 (sR [oV 1 14,
 mo (.len false (.t 14)) 15,
 mo (.bin true .add (.t 15) (cI 1)) 16,
 mo (.mksl 1 1 (.bool false) (.t 16) (.t 16)) 17,
 oV 17 5]
 (.seq (.note (.gc [1,2,5]) (.reg [oV 5 18,
 mo (.iad 1 (.t 18) (cI 0)) 19,
 ⟨.st 1 (.t 19) (.c (.bool true)), none, none⟩]))
 (.seq (.regI [.op (mo (.ld (some 5) (.t 2)) 20),
 .op (oV 1 21),
 .op (oV 5 22),
 .nt (.fz 22),
 .op (mo (.call (.f 54) [(.t 20),(.t 21),(.t 22)] [] []) 23),
 .op (oV 1 24),
 .op (mo (.len false (.t 24)) 25),
 .op (mo (.iad 1 (.t 23) (.t 25)) 26),
 .op (oL 26 27),
 .op (oV 27 4)])
 .ret)))))
theorem Wq_11 {n_ : GNode} {b_ : List UInt8} : Cn Tryz.prog 33 [GNode.v n_, .sl (b_.map byteV)] [] (F_11 n_ b_) (fun z => .bool z) (fun z => []) := fun Q Q' h hQ => by
 refine acallM mc_11 [] [] [.t 4] Tryz.func33 fun M => ?_
 unfold F_11 at h
 unfold mc_11
 replace h := tY h
 refine tB ?_
 repeat' (first
 | (exact tZ)
 | ((first | refine oblg h ?_ | refine roomG h ?_ | refine fork h ?_ ?_ | refine forkS h ?_ ?_) <;> clear h <;> intro hc h)
 | (obtain ⟨y, hy, h⟩ := h; (first | with_reducible first | have hw := Wq_1j.w hy | have hw := W_7 hy); replace hw := tY hw; (first | refine M.sC hw ?_ | refine M.sD hw ?_); clear hw hy; refine tB ?_)
 | (refine M.gv1 (ms := mg_5m) 13 [10,11,12] h ?_ ?_ <;> first
 | (clear h; intro K hK1; unfold mg_5m; refine tB ?_)
 | (clear h; intro b h; replace h := tY h; refine tB ?_))
 | (refine hK1 _ ?_; exact tU; done)
 | (refine bfork (fun hc => ?_) (fun hc => ?_))
 | (refine tE ?_; (first | rw [M.lok_compU] | rw [M.lokD_compU]); refine tB ?_)
 | (refine ⟨_, getE_mapset (by first | exact inb_toNat (by assumption) | exact inb_nat (by assumption)), ?_⟩; (first | rw [M.lok_compU] | rw [M.lokD_compU] | (simp only [V.cells]; first | rw [M.lok_comp] | rw [M.lokD_comp])); refine tB ?_)
 | (refine tA ?_)
 | fail)
noncomputable def F_2l (raw_ : GNode) (b_ : List UInt8) (y2 : GNode × GTape) (y4 : (List UInt8) × GTape) (j7 : (List UInt8) × GTape) (y13 : (List UInt8) × GTape) (x82 : Int) : Option (Fl Int (Sum Unit Bool)) :=
 bif decide (x82 < ([y4.1, j7.1, ((([] : List UInt8) ++ y4.1) ++ [97]), y13.1, b_].length : Int)) then jn (α := Fl Unit Bool) (chk (inb x82 [y4.1, j7.1, ((([] : List UInt8) ++ y4.1) ++ [97]), y13.1, b_].length) (bif decide (80 < (([y4.1, j7.1, ((([] : List UInt8) ++ y4.1) ++ [97]), y13.1, b_].getD ((x82).toNat) default).length : Int)) then some (.nx ()) else chk (inb x82 [y4.1, j7.1, ((([] : List UInt8) ++ y4.1) ++ [97]), y13.1, b_].length) ((F_10 y2.1 ([y4.1, j7.1, ((([] : List UInt8) ++ y4.1) ++ [97]), y13.1, b_].getD ((x82).toNat) default)).bind fun y111 => chk (inb x82 [y4.1, j7.1, ((([] : List UInt8) ++ y4.1) ++ [97]), y13.1, b_].length) ((F_11 y2.1 ([y4.1, j7.1, ((([] : List UInt8) ++ y4.1) ++ [97]), y13.1, b_].getD ((x82).toNat) default)).bind fun y112 => bif (!(y111 == y112)) then some (.ex false) else (F_1k raw_).bind fun y113 => bif y113 then chk (inb x82 [y4.1, j7.1, ((([] : List UInt8) ++ y4.1) ++ [97]), y13.1, b_].length) ((F_10 raw_ ([y4.1, j7.1, ((([] : List UInt8) ++ y4.1) ++ [97]), y13.1, b_].getD ((x82).toNat) default)).bind fun y114 => chk (inb x82 [y4.1, j7.1, ((([] : List UInt8) ++ y4.1) ++ [97]), y13.1, b_].length) ((F_11 raw_ ([y4.1, j7.1, ((([] : List UInt8) ++ y4.1) ++ [97]), y13.1, b_].getD ((x82).toNat) default)).bind fun y115 => bif (!(y114 == y115)) then some (.ex false) else some (.nx ()))) else some (.nx ()))))) fun o => o.elim (fun j105 => chk (in64 (x82 + 1)) (some (.nx (x82 + 1)))) (fun r116 => some (.ex (.inr r116))) else some (.ex (.inl ()))
noncomputable def F_23 (tape_ : List Int) (raw_ : GNode) (b_ : List UInt8) : Option Bool :=
 (F_0 (GTape.mk tape_ 0) 4).bind fun y2 => (F_1 y2.2 y2.1).bind fun y4 => chk (room (([] : List UInt8).length + y4.1.length) 1) (jn (α := (List UInt8) × GTape) (bif decide (0 < ((([] : List UInt8) ++ y4.1).length : Int)) then (F_3 y4.2 ((([] : List UInt8) ++ y4.1).length : Int)).bind fun y8 => (F_3 y8.2 5).bind fun y9 => chk (inb y9.1 [97,98,48,107,45].length) (chk (inb y8.1 (([] : List UInt8) ++ y4.1).length) (some ((([] : List UInt8) ++ y4.1).set ((y8.1).toNat) (([97,98,48,107,45] : Str).getD (y9.1).toNat 0), y9.2))) else some ((([] : List UInt8) ++ y4.1), y4.2)) fun j7 => chk (room (([] : List UInt8).length + y4.1.length) 1) (chk (room ((([] : List UInt8) ++ y4.1).length + [97].length) 1) ((F_3 j7.2 6).bind fun y12 => (F_1l y12.2 y12.1).bind fun y13 => (loop (F_2l raw_ b_ y2 y4 j7 y13) 0).bind fun r117 => Sum.elim (fun u118 => F_16.bind fun y121 => some y121) (fun u119 => some u119) r117)))
@[irreducible] def mc_5n : MC :=
 (.reg [oV 12 53,
 mo (.bin true .add (.t 53) (cI 1)) 54,
 oV 54 12])
@[irreducible] def mc_2l : MC :=
 (.seq (sR [oV 12 49,
 oV 11 50,
 mo (.len false (.t 50)) 51,
 mo (.bin false .lss (.t 49) (.t 51)) 52]
 (.cond (.t 52)
 .skip
 (.exit 0)))
 (.cut (.block 1
 (.seq (sR [oV 11 55,
 oV 12 56,
 mo (.iad 1 (.t 55) (.t 56)) 57,
 oL 57 58,
 mo (.len false (.t 58)) 59,
 mo (.bin false .gtr (.t 59) (cI 80)) 60]
 (.cond (.t 60)
 (.exit 1)
 .skip))
 (.seq (.note (.gc [4,8,11,12,75,76,77,78,79,80,81,82,83,84,85,86,87,88,89,90,91]) (.regD [mo (.ld (some 5) (.t 8)) 61,
 oV 11 62,
 oV 12 63,
 mo (.iad 1 (.t 62) (.t 63)) 64,
 oL 64 65,
 mo (.call (.f 32) [(.t 61),(.t 65)] [] []) 66,
 mo (.ld (some 5) (.t 8)) 67,
 oV 11 68,
 oV 12 69,
 mo (.iad 1 (.t 68) (.t 69)) 70,
 oL 70 71,
 mo (.call (.f 33) [(.t 67),(.t 71)] [] []) 72,
 mo (.beq true (.t 66) (.t 72)) 73,
 oV 73 74,
 gF 74 75 (.ld (some 5) (.t 4)),
 gF 74 76 (.call (.f 11) [(.t 75)] [] []),
 gF 74 77 (.mv (.t 76)),
 gT 77 78 (.ld (some 5) (.t 4)),
 gT 77 79 (.mv (.t 11)),
 gT 77 80 (.mv (.t 12)),
 gT 77 81 (.iad 1 (.t 79) (.t 80)),
 gT 77 82 (.ld none (.t 81)),
 gT 77 83 (.call (.f 32) [(.t 78),(.t 82)] [] []),
 gT 77 84 (.ld (some 5) (.t 4)),
 gT 77 85 (.mv (.t 11)),
 gT 77 86 (.mv (.t 12)),
 gT 77 87 (.iad 1 (.t 85) (.t 86)),
 gT 77 88 (.ld none (.t 87)),
 gT 77 89 (.call (.f 33) [(.t 84),(.t 88)] [] []),
 gT 77 90 (.beq true (.t 83) (.t 89)),
 gF 74 91 (.pick (.t 77) (.t 90) (.c (.bool false))),
 mo (.pick (.t 74) (.c (.bool true)) (.t 91)) 92]
 [[],[],[],[1,2],[3],[0,4],[],[],[],[7,8],[9],[6,10,5],[5,11],[12,11],[13],[14,13,13],[15,15,13],[16],[16],[16],[18,19,16],[20,16],[17,21,16,16],[16],[16],[16],[24,25,16],[26,16],[23,27,22,16],[22,28,16],[16,29,13],[13,30]]
 [[],[],[],[1,2],[1,2,3],[0,1,2,3,4],[],[],[],[7,8],[7,8,9],[0,1,2,3,4,5,6,7,8,9,10],[0,1,2,3,4,5,6,7,8,9,10,11],[0,1,2,3,4,5,6,7,8,9,10,11,12],[0,1,2,3,4,5,6,7,8,9,10,11,12,13],[0,1,2,3,4,5,6,7,8,9,10,11,12,13,14],[0,1,2,3,4,5,6,7,8,9,10,11,12,13,14,15],[0,1,2,3,4,5,6,7,8,9,10,11,12,13,14,15,16],[0,1,2,3,4,5,6,7,8,9,10,11,12,13,14,15,16],[0,1,2,3,4,5,6,7,8,9,10,11,12,13,14,15,16],[0,1,2,3,4,5,6,7,8,9,10,11,12,13,14,15,16,18,19],[0,1,2,3,4,5,6,7,8,9,10,11,12,13,14,15,16,18,19,20],[0,1,2,3,4,5,6,7,8,9,10,11,12,13,14,15,16,17,18,19,20,21],[0,1,2,3,4,5,6,7,8,9,10,11,12,13,14,15,16],[0,1,2,3,4,5,6,7,8,9,10,11,12,13,14,15,16],[0,1,2,3,4,5,6,7,8,9,10,11,12,13,14,15,16],[0,1,2,3,4,5,6,7,8,9,10,11,12,13,14,15,16,24,25],[0,1,2,3,4,5,6,7,8,9,10,11,12,13,14,15,16,24,25,26],[0,1,2,3,4,5,6,7,8,9,10,11,12,13,14,15,16,17,18,19,20,21,22,23,24,25,26,27],[0,1,2,3,4,5,6,7,8,9,10,11,12,13,14,15,16,17,18,19,20,21,22,23,24,25,26,27,28],[0,1,2,3,4,5,6,7,8,9,10,11,12,13,14,15,16,17,18,19,20,21,22,23,24,25,26,27,28,29],[0,1,2,3,4,5,6,7,8,9,10,11,12,13,14,15,16,17,18,19,20,21,22,23,24,25,26,27,28,29,30]]))
 (.cond (.t 92)
 (sR [mo (.mv (.c (.bool false))) 6]
 .ret)
 .skip))))
 mc_5n))
@[irreducible] def mc_5o : MC :=
 (.seq (.regI [.op (oV 9 36),
 .op (oV 10 37),
 .op (mo (.bslice 1 []) 38),
 .op (oV 9 39),
 .op (mo (.app 1 1 (.t 38) (.t 39)) 40),
 .op (mo (.bslice 1 [(.c (.int .u8 97))]) 41),
 .op (mo (.app 1 1 (.t 40) (.t 41)) 42),
 .op (oV 7 43),
 .op (oV 7 44),
 .op (mo (.call (.f 30) [(.t 44), (cI 6)] [15] []) 45),
 .op (mo (.call (.f 31) [(.t 43),(.t 45)] [15] []) 46),
 .op (oV 2 47),
 .nt (.fz 37),
 .nt (.fz 42),
 .op (mo (.bslice 1 [(.t 36),(.t 37),(.t 42),(.t 46),(.t 47)]) 48),
 .op (oV 48 11)])
 (.seq (sR [oC 0 12]
 (.block 0
 (.loop mc_2l)))
 (sR [mo (.call (.f 22) [] [] []) 93,
 oV 93 6]
 .ret)))
def mc_23 : MC :=
 (sR [mo (.box (.t 1)) 4,
 mo (.mv (.c (.bool false))) 6]
 (sR [oV 0 13,
 mo (.build [(.sl []),(.int .i64 0)] [(0,1,(.t 13))]) 14,
 mo (.box (.t 14)) 15,
 oV 15 7]
 (sR [oV 7 16,
 mo (.call (.f 10) [(.t 16), (cI 4)] [15] []) 17,
 mo (.alloc [(.int .i64 0),(.sl []),(.sl []),(.int .i64 0),(.int .i64 0)]) 8,
 ⟨.st 5 (.t 8) (.t 17), none, none⟩]
 (.seq (.note (.gc [2,4,7,8,75,76,77,78,79,80,81,82,83,84,85,86,87,88,89,90,91]) (.reg [oV 7 18,
 mo (.ld (some 5) (.t 8)) 19,
 mo (.call (.f 29) [(.t 18),(.t 19)] [15] []) 20,
 oV 20 9]))
 (sR [mo (.bslice 1 []) 21,
 oV 9 22,
 mo (.app 1 1 (.t 21) (.t 22)) 23,
 oV 23 10]
 (.cut (sR [oV 10 24,
 mo (.len false (.t 24)) 25,
 mo (.bin false .gtr (.t 25) (cI 0)) 26]
 (.cond (.t 26)
 (.note (.gc [2,4,7,8,9,10,75,76,77,78,79,80,81,82,83,84,85,86,87,88,89,90,91]) (.reg [oV 10 27,
 oV 7 28,
 oV 10 29,
 mo (.len false (.t 29)) 30,
 mo (.call (.f 30) [(.t 28),(.t 30)] [15] []) 31,
 oV 7 32,
 mo (.call (.f 30) [(.t 32), (cI 5)] [15] []) 33,
 mo (.idx (.c (.str [97,98,48,107,45])) (.t 33)) 34,
 mo (.iad 1 (.t 27) (.t 31)) 35,
 ⟨.st 1 (.t 35) (.t 34), none, none⟩]))
 .skip))
 mc_5o))))))
theorem Wq_23 {tape_ : List Int} {raw_ : GNode} {b_ : List UInt8} : Cn Tryz.prog 7 [.sl (tape_.map (V.int .i64)), GNode.v raw_, .sl (b_.map byteV)] [] (F_23 tape_ raw_ b_) (fun z => .bool z) (fun z => []) := fun Q Q' h hQ => by
 refine acallM mc_23 [] [] [.t 6] Tryz.func7 fun M => ?_
 unfold F_23 at h
 unfold mc_23
 replace h := tY h
 refine tB ?_
 repeat' (first
 | (exact tZ)
 | ((first | refine oblg h ?_ | refine roomG h ?_ | refine inbG h ?_ | refine fork h ?_ ?_ | refine forkS h ?_ ?_) <;> clear h <;> intro hc h)
 | (obtain ⟨y, hy, h⟩ := h; (first | (with_reducible first | have hw := Wq_10.w hy | have hw := Wq_11.w hy | have hw := Wq_1k.w hy | have hw := Wq_16.w hy) | have hw := acall_swe 1000 15 (W_0 hy) | have hw := acall_swe 1000 15 (W_1 hy) | have hw := acall_swe 1000 15 (Wq_3.w hy) | have hw := acall_swe 1000 15 (Wq_1l.w hy)); replace hw := tY hw; (first | refine M.sC hw ?_ | refine M.sD hw ?_); clear hw hy; refine tB ?_)
 | (refine M.jnE (b := mc_5n) [4,8,11,12] [48,8,4] (fun y => []) (fun y => []) [] h ?_ ?_ <;> first
 | (clear h; intro Qn K hK1 h; replace h := tY h; refine tB ?_)
  |(clear h; intro y h; unfold mc_5n; replace h := tY h; refine tB ?_))
 | (refine M.wh1 (b := mc_2l) [4,8,11] [48,8,4] (fun x => [(12, .int .i64 x)]) (fun x => []) [] h ?_ ?_ <;> first
 | (clear h; intro x Qn K hK2 h; unfold F_2l at h; unfold mc_2l; replace h := tY h; refine tB ?_)
  |(clear h; (try refine tB ?_); exact tU0; done))
 | (refine M.jn1 (b := mc_5o) [2,4,7,8,9] [8,4] (fun y => [(10, .osl 23 1 0 y.1.length)]) (fun y => [.o 23 (.arr 1 (y.1.map byteV)), .o 15 (.cells [.sl (y.2.L.map (V.int .i64)), .int .i64 y.2.at_])]) [] h ?_ ?_ <;> first
 | (clear h; intro Qn K hK3 h; replace h := tY h; refine tB ?_)
  |(clear h; intro y h; unfold mc_5o; replace h := tY h; refine tB ?_))
 | ((first | refine hK1 _ ?_ | refine hK2 _ ?_ | refine hK3 _ ?_); (try refine tB ?_); refine ⟨_, h, ?_⟩; exact tU0; done)
 | (refine tE5 (slV byteV) (by assumption) (by assumption) ?_; (first | rw [M.lok_compU] | rw [M.lokD_compU] | (simp only [slV, V.cells]; first | rw [M.lok_comp] | rw [M.lokD_comp])); refine tB ?_)
 | (refine tE4 (slV byteV) ?_ (by simp only [app_b97]; repeat (first | exact IsMap.nil | apply IsMap.cons)); (first | rw [M.lok_compU] | rw [M.lokD_compU] | (simp only [slV, V.cells]; first | rw [M.lok_comp] | rw [M.lokD_comp])); refine tB ?_)
 | (refine tE4 (slV byteV) ?_; (first | rw [M.lok_compU] | rw [M.lokD_compU] | (simp only [V.cells]; first | rw [M.lok_comp] | rw [M.lokD_comp])); refine tB ?_)
 | (refine tE ?_; (first | rw [M.lok_compU] | rw [M.lokD_compU]); refine tB ?_)
 | (refine ⟨_, getE_mapset (by first | exact inb_toNat (by assumption) | exact inb_nat (by assumption)), ?_⟩; (first | rw [M.lok_compU] | rw [M.lokD_compU] | (simp only [V.cells]; first | rw [M.lok_comp] | rw [M.lokD_comp])); refine tB ?_)
 | (refine tA ?_)
 | fail)
end Go.Ab
