/- What the functions of this seat that lie on the laws' road compute (part LB), each for every input. By AI agents. -/
import Derived.Test.YtdcjekffkibboaaGreatDoorProg
import Derived.KernelRfl
import Derived.Test.YtdcjekffkibboaaGreatDoorAbFun
import Derived.Test.YtdcjekffkibboaaGreatDoorLA
set_option linter.all false
set_option linter.all false
set_option maxRecDepth 20000
set_option maxHeartbeats 2000000
namespace Go.Ab
open Go.Proofs
structure GTape where
 L : List Int
 at_ : Int
instance : Inhabited GTape := ⟨⟨default, default⟩⟩
def GTape.v (x : GTape) : V := .agg [.sl (x.L.map (V.int .i64)), .int .i64 x.at_]
structure GRefEvent where
 Kind : Int
 Name : Str
 Commit : Int
 Time : Int
instance : Inhabited GRefEvent := ⟨⟨default, default, default, default⟩⟩
def GRefEvent.v (x : GRefEvent) : V := .agg [.int .i64 x.Kind, .str x.Name, .int .i64 x.Commit, .int .i64 x.Time]
structure GRepository where
 Objects : List GObject
 Events : List GRefEvent
instance : Inhabited GRepository := ⟨⟨default, default⟩⟩
def GRepository.v (x : GRepository) : V := .agg [.sl (x.Objects.map GObject.v), .sl (x.Events.map GRefEvent.v)]
theorem incl_5 {b : Int} {n : Nat} : (inc 5 b n = true) = (((5 : Nat) : Int) ≤ b ∧ b ≤ (n : Int)) := propext (by rw [inc_iff]; omega)
attribute [go_sem] incl_5
attribute [go_sem] GRefEvent.v GRepository.v GTape.v
def F_0 (t_ : GTape) (n_ : Int) : Option (Int × GTape) :=
 bif decide ((t_.L.length : Int) ≤ t_.at_) then some (0, t_) else chk (inb t_.at_ t_.L.length) (chk (in64 (t_.at_ + 1)) (chk (divs ((t_.L.getD (t_.at_).toNat default) % 2 ^ 16) n_) (some ((((t_.L.getD (t_.at_).toNat default) % 2 ^ 16) % n_), (GTape.mk t_.L (t_.at_ + 1))))))
def mc_0 : MC :=
 (sR [oC 0 4]
 (.seq (.seq (.regD [oV 0 6,
 mo (.nck (.t 6)) 7,
 oF 1 7 8,
 oL 8 9,
 oV 0 10,
 mo (.nck (.t 10)) 11,
 oF 0 11 12,
 oL 12 13,
 mo (.len false (.t 13)) 14,
 mo (.bin false .geq (.t 9) (.t 14)) 15]
 [[],[0],[1],[2],[],[4],[5],[6],[7],[3,8]]
 [[],[0],[0,1],[0,1,2],[],[4],[4,5],[4,5,6],[4,5,6,7],[0,1,2,3,4,5,6,7,8]])
 (.cond (.t 15)
 (sR [oC 0 4]
 .ret)
 .skip))
 (.seq (.note (.gc [0,1]) (.regD [oV 0 16,
 mo (.nck (.t 16)) 17,
 oF 0 17 18,
 oL 18 19,
 oV 0 20,
 mo (.nck (.t 20)) 21,
 oF 1 21 22,
 oL 22 23,
 mo (.iad 1 (.t 19) (.t 23)) 24,
 oL 24 25,
 mo (.mask 16 (.t 25) .i64) 26,
 oV 26 5]
 [[],[0],[1],[2],[],[4],[5],[6],[3,7],[8],[9],[10,0,1,2,3,4,5,6,7,8,9,10]]
 [[],[0],[0,1],[0,1,2],[],[4],[4,5],[4,5,6],[0,1,2,3,4,5,6,7],[0,1,2,3,4,5,6,7,8],[0,1,2,3,4,5,6,7,8,9],[0,1,2,3,4,5,6,7,8,9,10]]))
 (.seq (.note (.gc [0,1,5]) (.reg [oV 0 27,
 mo (.nck (.t 27)) 28,
 oF 1 28 29,
 oL 29 30,
 mo (.bin true .add (.t 30) (cI 1)) 31,
 mo (.nck (.t 27)) 32,
 oF 1 32 33,
 ⟨.st 1 (.t 33) (.t 31), none, none⟩]))
 (.seq (.note (.gc [1,5]) (.reg [oV 5 34,
 oV 1 35,
 mo (.bin true .rem (.t 34) (.t 35)) 36,
 oV 36 4]))
 .ret)))))
theorem Wq_0 {t_ : GTape} {n_ : Int} : Cn Tryz.prog 5 [.ptr 1000 0, .int .i64 n_] [(1000, .cells [.sl (t_.L.map (V.int .i64)), .int .i64 t_.at_])] (F_0 t_ n_) (fun z => .int .i64 z.1) (fun z => [(1000, .cells [.sl (z.2.L.map (V.int .i64)), .int .i64 z.2.at_])]) := fun Q Q' h hQ => by
 refine acallM mc_0 [] [1000] [.t 4] Tryz.func5 fun M => ?_
 unfold F_0 at h
 unfold mc_0
 replace h := tY h
 refine tB ?_
 repeat' (first
 | (exact tZ)
 | ((first | refine oblg h ?_ | refine roomG h ?_ | refine divG h ?_ | refine fork h ?_ ?_ | refine forkS h ?_ ?_) <;> clear h <;> intro hc h)
 | (refine tE ?_; (first | rw [M.lok_compU] | rw [M.lokD_compU]); refine tB ?_)
 | (refine tA ?_)
 | fail)
def F_w (t_ : GTape) (a_ : Int) (b_ : Int) : Option (Int × GTape) :=
 chk (in64 (b_ - a_)) (chk (in64 ((b_ - a_) + 1)) ((F_0 t_ ((b_ - a_) + 1)).bind fun y2 => chk (in64 (a_ + y2.1)) (some ((a_ + y2.1), y2.2))))
def mc_w : MC :=
 (sR [oC 0 6]
 (sR [oV 1 7,
 oV 0 8,
 oV 2 9,
 oV 1 10,
 mo (.bin true .sub (.t 9) (.t 10)) 11,
 mo (.bin true .add (.t 11) (cI 1)) 12,
 mo (.call (.f 5) [(.t 8),(.t 12)] [1000] []) 13,
 mo (.bin true .add (.t 7) (.t 13)) 14,
 oV 14 6]
 .ret))
theorem Wq_w {t_ : GTape} {a_ b_ : Int} : Cn Tryz.prog 12 [.ptr 1000 0, .int .i64 a_, .int .i64 b_] [(1000, .cells [.sl (t_.L.map (V.int .i64)), .int .i64 t_.at_])] (F_w t_ a_ b_) (fun z => .int .i64 z.1) (fun z => [(1000, .cells [.sl (z.2.L.map (V.int .i64)), .int .i64 z.2.at_])]) := fun Q Q' h hQ => by
 refine acallM mc_w [] [1000] [.t 6] Tryz.func12 fun M => ?_
 unfold F_w at h
 unfold mc_w
 replace h := tY h
 refine tB ?_
 repeat' (first
 | (exact tZ)
 | ((first | refine oblg h ?_ | refine roomG h ?_ | refine fork h ?_ ?_ | refine forkS h ?_ ?_) <;> clear h <;> intro hc h)
 | (obtain ⟨y, hy, h⟩ := h; have hw := Wq_0.w hy; replace hw := tY hw; (first | refine M.sC hw ?_ | refine M.sD hw ?_); clear hw hy; refine tB ?_)
 | (refine tE ?_; (first | rw [M.lok_compU] | rw [M.lokD_compU]); refine tB ?_)
 | (refine tA ?_)
 | fail)
noncomputable def F_3z (n_ : Int) (x47 : Int × (List UInt8) × GTape) : Option (Fl (Int × (List UInt8) × GTape) ((List UInt8) × GTape)) :=
 bif decide (x47.1 < n_) then jn (α := (List UInt8) × GTape) ((F_0 x47.2.2 8).bind fun y65 => bif decide (y65.1 = 0) then (F_0 y65.2 8).bind fun y66 => chk (inb y66.1 [32,10,61,37,43,47,45,46].length) (chk (room (x47.2.1.length + [([32,10,61,37,43,47,45,46].getD (y66.1).toNat 0)].length) 1) (some ((x47.2.1 ++ [([32,10,61,37,43,47,45,46].getD (y66.1).toNat 0)]), y66.2))) else bif decide (y65.1 = 1) then (F_0 y65.2 256).bind fun y67 => chk (room (x47.2.1.length + [(u8 y67.1)].length) 1) (some ((x47.2.1 ++ [(u8 y67.1)]), y67.2)) else jn (α := Bool) (bif decide (y65.1 = 2) then some true else some (decide (y65.1 = 3))) fun j68 => bif j68 then (F_0 y65.2 10).bind fun y69 => chk (in64 (48 + y69.1)) (chk (room (x47.2.1.length + [(u8 (48 + y69.1))].length) 1) (some ((x47.2.1 ++ [(u8 (48 + y69.1))]), y69.2))) else (F_0 y65.2 8).bind fun y70 => chk (inb y70.1 [97,98,99,100,101,102,116,107].length) (chk (room (x47.2.1.length + [([97,98,99,100,101,102,116,107].getD (y70.1).toNat 0)].length) 1) (some ((x47.2.1 ++ [([97,98,99,100,101,102,116,107].getD (y70.1).toNat 0)]), y70.2)))) fun j63 => chk (in64 (x47.1 + 1)) (some (.nx ((x47.1 + 1), j63.1, j63.2))) else some (.ex (x47.2.1, x47.2.2))
noncomputable def F_1p (t_ : GTape) (n_ : Int) : Option ((List UInt8) × GTape) :=
 (loop (F_3z n_) (0,[], t_)).bind fun r71 => some (r71.1, r71.2)
@[irreducible] def mc_5k : MC :=
 (.cond (.t 36)
 (.reg [oV 5 39,
 oV 0 40,
 mo (.call (.f 5) [(.t 40), (cI 10)] [1000] []) 41,
 mo (.bin true .add (cI 48) (.t 41)) 42,
 mo (.i2i false .u8 (.t 42)) 43,
 mo (.bslice 1 [(.t 43)]) 44,
 mo (.app 1 1 (.t 39) (.t 44)) 45,
 oV 45 5])
 (.reg [oV 5 14,
 oV 0 15,
 mo (.call (.f 5) [(.t 15), (cI 8)] [1000] []) 16,
 mo (.idx (.c (.str [97,98,99,100,101,102,116,107])) (.t 16)) 17,
 mo (.bslice 1 [(.t 17)]) 18,
 mo (.app 1 1 (.t 14) (.t 18)) 19,
 oV 19 5]))
@[irreducible] def mc_5l : MC :=
 (.reg [oV 6 10,
 mo (.bin true .add (.t 10) (cI 1)) 11,
 oV 11 6])
@[irreducible] def mc_3z : MC :=
 (.seq (sR [oV 6 7,
 oV 1 8,
 mo (.bin false .lss (.t 7) (.t 8)) 9]
 (.cond (.t 9)
 .skip
 (.exit 0)))
 (.cut (.block 1
 (sR [oV 0 12,
 mo (.call (.f 5) [(.t 12), (cI 8)] [1000] []) 13]
 (.block 2
 (sR [mo (.bin false .eql (.t 13) (cI 0)) 21,
 oV 21 20]
 (.cond (.t 20)
 (.reg [oV 5 22,
 oV 0 23,
 mo (.call (.f 5) [(.t 23), (cI 8)] [1000] []) 24,
 mo (.idx (.c (.str [32,10,61,37,43,47,45,46])) (.t 24)) 25,
 mo (.bslice 1 [(.t 25)]) 26,
 mo (.app 1 1 (.t 22) (.t 26)) 27,
 oV 27 5])
 (sR [mo (.bin false .eql (.t 13) (cI 1)) 29,
 oV 29 28]
 (.cond (.t 28)
 (.note (.gc [0,1,5,6]) (.reg [oV 5 30,
 oV 0 31,
 mo (.call (.f 5) [(.t 31), (cI 256)] [1000] []) 32,
 mo (.i2i false .u8 (.t 32)) 33,
 mo (.bslice 1 [(.t 33)]) 34,
 mo (.app 1 1 (.t 30) (.t 34)) 35,
 oV 35 5]))
 (.cut (sR [mo (.bin false .eql (.t 13) (cI 2)) 37,
 oV 37 36]
 (.cond (.t 36)
 .skip
 (.reg [mo (.bin false .eql (.t 13) (cI 3)) 38,
 oV 38 36])))
 mc_5k))))))))
 mc_5l))
def mc_1p : MC :=
 (sR [mo (.mv (.c (.sl []))) 4]
 (sR [mo (.mv (.c .nils)) 5]
 (.seq (sR [oC 0 6]
 (.block 0
 (.loop mc_3z)))
 (sR [oV 5 46,
 oV 46 4]
 .ret))))
theorem Wq_1p {t_ : GTape} {n_ : Int} : Cn Tryz.prog 13 [.ptr 1000 0, .int .i64 n_] [(1000, .cells [.sl (t_.L.map (V.int .i64)), .int .i64 t_.at_])] (F_1p t_ n_) (fun z => .sl (z.1.map byteV)) (fun z => [(1000, .cells [.sl (z.2.L.map (V.int .i64)), .int .i64 z.2.at_])]) := fun Q Q' h hQ => by
 refine acallM mc_1p [.fz 4] [1000] [.t 4] Tryz.func13 fun M => ?_
 unfold F_1p at h
 unfold mc_1p
 replace h := tY h
 refine tB ?_
 repeat' (first
 | (exact tZ)
 | ((first | refine oblg h ?_ | refine roomG h ?_ | refine inbG h ?_ | refine fork h ?_ ?_ | refine forkS h ?_ ?_) <;> clear h <;> intro hc h)
 | (obtain ⟨y, hy, h⟩ := h; have hw := Wq_0.w hy; replace hw := tY hw; (first | refine M.sC hw ?_ | refine M.sD hw ?_); clear hw hy; refine tB ?_)
 | (refine M.jn1 (b := mc_5k) [0,1,5,6] [2005,1000] (fun y => [(36, .bool y)]) (fun y => []) [] h ?_ ?_ <;> first
 | (clear h; intro Qn K hK1 h; replace h := tY h; refine tB ?_)
  |(clear h; intro y h; unfold mc_5k; replace h := tY h; refine tB ?_))
 | (refine M.jn1 (b := mc_5l) [0,1,6] [] (fun y => [(5, .osl 2005 1 0 y.1.length)]) (fun y => [.o 2005 (.arr 1 (y.1.map byteV)), .o 1000 (.cells [.sl (y.2.L.map (V.int .i64)), .int .i64 y.2.at_])]) [.gc [0,1,5,6], .acc 5 2005 1] h ?_ ?_ <;> first
 | (clear h; intro Qn K hK2 h; replace h := tY h; refine tB ?_)
  |(clear h; intro y h; unfold mc_5l; replace h := tY h; refine tB ?_))
 | (refine M.wh1 (b := mc_3z) [0,1] [] (fun x => [(5, .osl 2005 1 0 x.2.1.length), (6, .int .i64 x.1)]) (fun x => [.o 2005 (.arr 1 (x.2.1.map byteV)), .o 1000 (.cells [.sl (x.2.2.L.map (V.int .i64)), .int .i64 x.2.2.at_])]) [.gc [0,1,5,6], .acc 5 2005 1] h ?_ ?_ <;> first
 | (clear h; intro x Qn K hK3 h; unfold F_3z at h; unfold mc_3z; replace h := tY h; refine tB ?_)
  |(clear h; (try refine tB ?_); exact tU0; done))
 | ((first | refine hK1 _ ?_ | refine hK2 _ ?_ | refine hK3 _ ?_); (try refine tB ?_); refine ⟨_, h, ?_⟩; exact tU0; done)
 | (refine tE ?_; (first | rw [M.lok_compU] | rw [M.lokD_compU]); refine tB ?_)
 | (refine tA ?_)
 | fail)
def F_7 (o_ : GObject) (p_ : Int) (p__ : GRepository) : Option (Int × Int × GRepository) :=
 chk (in64 (p_ + 1)) (chk (room (p__.Objects.length + [(GObject.mk (p_ + 1) o_.Kind o_.Data o_.Items o_.Tree o_.Parents o_.Author o_.Time)].length) 120) (some ((p_ + 1), (p_ + 1), (GRepository.mk (p__.Objects ++ [(GObject.mk (p_ + 1) o_.Kind o_.Data o_.Items o_.Tree o_.Parents o_.Author o_.Time)]) p__.Events))))
def mc_7 : MC :=
 (sR [mo (.box (.t 0)) 3,
 oC 0 4]
 (sR [oL 1 5,
 mo (.bin true .add (.t 5) (cI 1)) 6,
 ⟨.st 1 (.t 1) (.t 6), none, none⟩]
 (sR [oL 1 7,
 oF 0 3 8,
 ⟨.st 1 (.t 8) (.t 7), none, none⟩]
 (sR [oF 0 2 9,
 oL 9 10,
 mo (.ld (some 8) (.t 3)) 11,
 mo (.bslice 8 [(.t 11)]) 12,
 mo (.app 8 120 (.t 10) (.t 12)) 13,
 oF 0 2 14,
 ⟨.st 1 (.t 14) (.t 13), none, none⟩]
 (sR [oL 1 15,
 oV 15 4]
 .ret)))))
theorem Wq_7 {o_ : GObject} {p_ : Int} {p__ : GRepository} : Cn Tryz.prog 11 [GObject.v o_, .ptr 1000 0, .ptr 1001 0] [(1000, .cells [.int .i64 p_]), (1001, .cells [.osl 1002 8 0 p__.Objects.length, .osl 1003 4 0 p__.Events.length]), (1002, .arr 8 (p__.Objects.map GObject.v)), (1003, .arr 4 (p__.Events.map GRefEvent.v))] (F_7 o_ p_ p__) (fun z => .int .i64 z.1) (fun z => [(1000, .cells [.int .i64 z.2.1]), (1001, .cells [.osl 1716 8 0 z.2.2.Objects.length, .osl 1717 4 0 z.2.2.Events.length]), (1716, .arr 8 (z.2.2.Objects.map GObject.v)), (1717, .arr 4 (z.2.2.Events.map GRefEvent.v))]) := fun Q Q' h hQ => by
 refine acallM mc_7 [.ownC 1001 0 1716 8 none, .ownC 1001 1 1717 4 none] [1000,1001,1716,1717] [.t 4] Tryz.func11 fun M => ?_
 unfold F_7 at h
 unfold mc_7
 replace h := tY h
 refine tB ?_
 repeat' (first
 | (exact tZ)
 | ((first | refine oblg h ?_ | refine roomG h ?_ | refine fork h ?_ ?_ | refine forkS h ?_ ?_) <;> clear h <;> intro hc h)
 | (refine tE ?_; (first | rw [M.lok_compU] | rw [M.lokD_compU]); refine tB ?_)
 | (refine tA ?_)
 | fail)
noncomputable def F_40 (commits_ : List Int) (x83 : Int × Int × (List (Str × Bool)) × (List GRefEvent) × GTape) : Option (Fl (Int × Int × (List (Str × Bool)) × (List GRefEvent) × GTape) ((List GRefEvent) × GTape)) :=
 bif decide (0 < x83.2.1) then jn (α := Int × (List (Str × Bool)) × (List GRefEvent) × GTape) ((F_0 x83.2.2.2.2 3).bind fun y113 => chk (in64 (x83.1 + y113.1)) ((F_0 y113.2 3).bind fun y115 => chk (inb y115.1 [[109,97,105,110],[111,108,100],[120]].length) (jn (α := Bool × GTape) (bif ((aget ([[109,97,105,110],[111,108,100],[120]].getD ((y115.1).toNat) default) x83.2.2.1).getD false) then (F_0 y115.2 3).bind fun y123 => some (decide (y123.1 = 0), y123.2) else some (false, y115.2)) fun j124 => bif j124.1 then chk (room (x83.2.2.2.1.length + [(GRefEvent.mk 2 ([[109,97,105,110],[111,108,100],[120]].getD ((y115.1).toNat) default) 0 (x83.1 + y113.1))].length) 40) (some ((x83.1 + y113.1), aput ([[109,97,105,110],[111,108,100],[120]].getD ((y115.1).toNat) default) false x83.2.2.1, (x83.2.2.2.1 ++ [(GRefEvent.mk 2 ([[109,97,105,110],[111,108,100],[120]].getD ((y115.1).toNat) default) 0 (x83.1 + y113.1))]), j124.2)) else (F_0 j124.2 (commits_.length : Int)).bind fun y125 => chk (inb y125.1 commits_.length) (chk (room (x83.2.2.2.1.length + [(GRefEvent.mk 1 ([[109,97,105,110],[111,108,100],[120]].getD ((y115.1).toNat) default) (commits_.getD (y125.1).toNat default) (x83.1 + y113.1))].length) 40) (some ((x83.1 + y113.1), aput ([[109,97,105,110],[111,108,100],[120]].getD ((y115.1).toNat) default) true x83.2.2.1, (x83.2.2.2.1 ++ [(GRefEvent.mk 1 ([[109,97,105,110],[111,108,100],[120]].getD ((y115.1).toNat) default) (commits_.getD (y125.1).toNat default) (x83.1 + y113.1))]), y125.2)))))) fun j111 => chk (in64 (x83.2.1 - 1)) (some (.nx (j111.1, (x83.2.1 - 1), j111.2.1, j111.2.2.1, j111.2.2.2))) else some (.ex (x83.2.2.2.1, x83.2.2.2.2))
noncomputable def F_1q (t_ : GTape) (commits_ : List Int) : Option ((List GRefEvent) × GTape) :=
 (F_0 t_ 4).bind fun y2 => (F_0 y2.2 8).bind fun y52 => (loop (F_40 commits_) (y2.1, y52.1,[],[], y52.2)).bind fun r126 => some (r126.1, r126.2)
@[irreducible] def mg_5m : List MOp := [gT 31 32 (.mv (.t 0)),
 gT 31 33 (.call (.f 5) [(.t 32), (cI 3)] [1000] []),
 gT 31 34 (.bin false .eql (.t 33) (cI 0)),
 mo (.pick (.t 31) (.t 34) (.c (.bool false))) 35]
@[irreducible] def mc_5n : MC :=
 (.reg [oV 8 17,
 mo (.bin true .sub (.t 17) (cI 1)) 18,
 oV 18 8])
@[irreducible] def mc_40 : MC :=
 (.seq (sR [oV 8 15,
 mo (.bin false .gtr (.t 15) (cI 0)) 16]
 (.cond (.t 16)
 .skip
 (.exit 0)))
 (.cut (.block 1
 (sR [oV 7 19,
 oV 0 20,
 mo (.call (.f 5) [(.t 20), (cI 3)] [1000] []) 21,
 mo (.bin true .add (.t 19) (.t 21)) 22,
 oV 22 7]
 (sR [mo (.bslice 1 [(.c (.str [109,97,105,110])),(.c (.str [111,108,100])),(.c (.str [120]))]) 23,
 oV 0 24,
 mo (.call (.f 5) [(.t 24), (cI 3)] [1000] []) 25,
 mo (.iad 1 (.t 23) (.t 25)) 26,
 oL 26 27,
 oV 27 9]
 (.seq (.seq (.note (.gc [0,1,5,6,7,8,9,32,33,34]) (.regI [.op (oV 6 28),
 .op (oV 9 29),
 .op (mo (.mp (.lku .str false (.bool false)) [(.t 28),(.t 29)]) 30),
 .op (oV 30 31),
 .grp mg_5m]))
 (.cond (.t 35)
 (sR [oV 6 36,
 oV 9 37,
 ⟨.mp (.up .str) [(.t 36),(.t 37),(.c (.bool false))], none, none⟩]
 (sR [oV 5 38,
 oV 9 39,
 oV 7 40,
 mo (.build [(.int .i64 0),(.str []),(.int .i64 0),(.int .i64 0)] [(0,1, (cI 2)), (1,1,(.t 39)), (3,1,(.t 40))]) 41,
 mo (.bslice 4 [(.t 41)]) 42,
 mo (.app 4 40 (.t 38) (.t 42)) 43,
 oV 43 5]
 (.exit 1)))
 .skip))
 (sR [oV 6 44,
 oV 9 45,
 ⟨.mp (.up .str) [(.t 44),(.t 45),(.c (.bool true))], none, none⟩]
 (.reg [oV 5 46,
 oV 9 47,
 oV 1 48,
 oV 0 49,
 oV 1 50,
 mo (.len false (.t 50)) 51,
 mo (.call (.f 5) [(.t 49),(.t 51)] [1000] []) 52,
 mo (.iad 1 (.t 48) (.t 52)) 53,
 oL 53 54,
 oV 7 55,
 mo (.build [(.int .i64 0),(.str []),(.int .i64 0),(.int .i64 0)] [(0,1, (cI 1)), (1,1,(.t 47)), (2,1,(.t 54)), (3,1,(.t 55))]) 56,
 mo (.bslice 4 [(.t 56)]) 57,
 mo (.app 4 40 (.t 46) (.t 57)) 58,
 oV 58 5]))))))
 mc_5n))
def mc_1q : MC :=
 (sR [mo (.mv (.c (.sl []))) 4]
 (sR [mo (.mv (.c .nils)) 5]
 (sR [mo (.mp (.mk .str) []) 10,
 oV 10 6]
 (sR [oV 0 11,
 mo (.call (.f 5) [(.t 11), (cI 4)] [1000] []) 12,
 oV 12 7]
 (.seq (sR [oV 0 13,
 mo (.call (.f 5) [(.t 13), (cI 8)] [1000] []) 14,
 oV 14 8]
 (.block 0
 (.loop mc_40)))
 (sR [oV 5 59,
 oV 59 4]
 .ret))))))
theorem Wq_1q {t_ : GTape} {commits_ : List Int} : Cn Tryz.prog 14 [.ptr 1000 0, .sl (commits_.map (V.int .i64))] [(1000, .cells [.sl (t_.L.map (V.int .i64)), .int .i64 t_.at_])] (F_1q t_ commits_) (fun z => .sl (z.1.map GRefEvent.v)) (fun z => [(1000, .cells [.sl (z.2.L.map (V.int .i64)), .int .i64 z.2.at_])]) := fun Q Q' h hQ => by
 refine acallM mc_1q [.fz 4] [1000] [.t 4] Tryz.func14 fun M => ?_
 unfold F_1q at h
 unfold mc_1q
 replace h := tY h
 refine tB ?_
 repeat' (first
 | (exact tZ)
 | ((first | refine oblg h ?_ | refine roomG h ?_ | refine inbG h ?_ | refine fork h ?_ ?_ | refine forkS h ?_ ?_) <;> clear h <;> intro hc h)
 | (obtain ⟨y, hy, h⟩ := h; have hw := Wq_0.w hy; replace hw := tY hw; (first | refine M.sC hw ?_ | refine M.sD hw ?_); clear hw hy; refine tB ?_)
 | (refine M.gj1 (ms := mg_5m) [0,1,5,6,7,8,9] [10,2005] (fun y => [(35, .bool y.1)]) (fun y => [.o 1000 (.cells [.sl (y.2.L.map (V.int .i64)), .int .i64 y.2.at_])]) h ?_ ?_ <;> first
 | (clear h; intro Qn K hK1 h; unfold mg_5m; replace h := tY h; refine tB ?_)
  |(clear h; intro y h; replace h := tY h; refine tB ?_))
 | (refine M.jn1 (b := mc_5n) [0,1,6,8] [] (fun y => [(5, .osl 2005 4 0 y.2.2.1.length), (7, .int .i64 y.1)]) (fun y => [.o 10 (.map .str (y.2.1.map (kvV V.str V.bool))), .o 2005 (.arr 4 (y.2.2.1.map GRefEvent.v)), .o 1000 (.cells [.sl (y.2.2.2.L.map (V.int .i64)), .int .i64 y.2.2.2.at_])]) [.gc [0,1,5,6,7,8], .acc 5 2005 4] h ?_ ?_ <;> first
 | (clear h; intro Qn K hK2 h; replace h := tY h; refine tB ?_)
  |(clear h; intro y h; unfold mc_5n; replace h := tY h; refine tB ?_))
 | (refine M.wh1 (b := mc_40) [0,1,6] [] (fun x => [(5, .osl 2005 4 0 x.2.2.2.1.length), (7, .int .i64 x.1), (8, .int .i64 x.2.1)]) (fun x => [.o 10 (.map .str (x.2.2.1.map (kvV V.str V.bool))), .o 2005 (.arr 4 (x.2.2.2.1.map GRefEvent.v)), .o 1000 (.cells [.sl (x.2.2.2.2.L.map (V.int .i64)), .int .i64 x.2.2.2.2.at_])]) [.gc [0,1,5,6,7,8], .acc 5 2005 4] h ?_ ?_ <;> first
 | (clear h; intro x Qn K hK3 h; unfold F_40 at h; unfold mc_40; replace h := tY h; refine tB ?_)
  |(clear h; (try refine tB ?_); exact tU0; done))
 | ((first | refine hK1 _ ?_ | refine hK2 _ ?_ | refine hK3 _ ?_); (try refine tB ?_); refine ⟨_, h, ?_⟩; exact tU0; done)
 | (refine tE4 V.str ?_; (first | rw [M.lok_compU] | rw [M.lokD_compU] | (simp only [V.cells]; first | rw [M.lok_comp] | rw [M.lokD_comp])); refine tB ?_)
 | (refine tE ?_; (first | rw [M.lok_compU] | rw [M.lokD_compU]); refine tB ?_)
 | (refine tA ?_)
 | fail)
noncomputable def F_41 (x41 : Int × (List GObject) × (List GRefEvent) × Int × (List Int) × GTape) : Option (Fl (Int × (List GObject) × (List GRefEvent) × Int × (List Int) × GTape) ((List GObject) × (List GRefEvent) × Int × (List Int) × GTape)) :=
 bif decide (0 < x41.1) then (F_0 x41.2.2.2.2.2 12).bind fun y51 => (F_1p y51.2 y51.1).bind fun y52 => (F_7 (GObject.mk 0 1 y52.1 [] 0 [] [] 0) x41.2.2.2.1 (GRepository.mk x41.2.1 x41.2.2.1)).bind fun y53 => chk (room (x41.2.2.2.2.1.length + [y53.1].length) 8) (chk (in64 (x41.1 - 1)) (some (.nx ((x41.1 - 1), y53.2.2.Objects, y53.2.2.Events, y53.2.1, (x41.2.2.2.2.1 ++ [y53.1]), y52.2)))) else some (.ex (x41.2.1, x41.2.2.1, x41.2.2.2.1, x41.2.2.2.2.1, x41.2.2.2.2.2))
noncomputable def F_3i (r54 : (List GObject) × (List GRefEvent) × Int × (List Int) × GTape) (x895 : Int × (List GObject) × (List GRefEvent) × Int × (List Int) × GTape) (k1216 : Int) (a1217 : Str) (x1215 : (List GItem) × GTape) : Option ((List GItem) × GTape) :=
 (F_0 x1215.2 3).bind fun y1231 => bif decide (y1231.1 = 0) then (F_0 y1231.2 (r54.2.2.2.1.length : Int)).bind fun y1232 => chk (inb y1232.1 r54.2.2.2.1.length) (chk (room (x1215.1.length + [(GItem.mk a1217 (r54.2.2.2.1.getD ((y1232.1).toNat) default))].length) 24) (some ((x1215.1 ++ [(GItem.mk a1217 (r54.2.2.2.1.getD ((y1232.1).toNat) default))]), y1232.2))) else bif decide (y1231.1 = 1) then bif decide (0 < (x895.2.2.2.2.1.length : Int)) then (F_0 y1231.2 (x895.2.2.2.2.1.length : Int)).bind fun y1233 => chk (inb y1233.1 x895.2.2.2.2.1.length) (chk (room (x1215.1.length + [(GItem.mk a1217 (x895.2.2.2.2.1.getD ((y1233.1).toNat) default))].length) 24) (some ((x1215.1 ++ [(GItem.mk a1217 (x895.2.2.2.2.1.getD ((y1233.1).toNat) default))]), y1233.2))) else some (x1215.1, y1231.2) else some (x1215.1, y1231.2)
noncomputable def F_42 (r54 : (List GObject) × (List GRefEvent) × Int × (List Int) × GTape) (x895 : Int × (List GObject) × (List GRefEvent) × Int × (List Int) × GTape) : Option (Fl (Int × (List GObject) × (List GRefEvent) × Int × (List Int) × GTape) ((List GObject) × (List GRefEvent) × Int × (List Int) × GTape)) :=
 bif decide (0 < x895.1) then (foldL (F_3i r54 x895) [[97],[98],[100]] 0 ([], x895.2.2.2.2.2)).bind fun x1234 => (F_7 (GObject.mk 0 2 [] x1234.1 0 [] [] 0) x895.2.2.2.1 (GRepository.mk x895.2.1 x895.2.2.1)).bind fun y1235 => chk (room (x895.2.2.2.2.1.length + [y1235.1].length) 8) (chk (in64 (x895.1 - 1)) (some (.nx ((x895.1 - 1), y1235.2.2.Objects, y1235.2.2.Events, y1235.2.1, (x895.2.2.2.2.1 ++ [y1235.1]), x1234.2)))) else some (.ex (x895.2.1, x895.2.2.1, x895.2.2.2.1, x895.2.2.2.2.1, x895.2.2.2.2.2))
noncomputable def F_43 (x1797 : Int × (List GObject) × (List GRefEvent) × Int × (List Int) × GTape) (x2008 : Int × Int × Int × (List Int) × GTape) : Option (Fl (Int × Int × Int × (List Int) × GTape) (Int × Int × (List Int) × GTape)) :=
 grp ((decide (0 ≤ x2008.1) && decide ((x2008.2.2.2.1.length : Int) < 2))) fun b2019 => bif b2019 then jn (α := (List Int) × GTape) ((F_0 x2008.2.2.2.2 2).bind fun y2024 => bif decide (y2024.1 = 0) then chk (inb x2008.1 x1797.2.2.2.2.1.length) (chk (room (x2008.2.2.2.1.length + [x1797.2.2.2.2.1.getD ((x2008.1).toNat) default].length) 8) (some ((x2008.2.2.2.1 ++ [x1797.2.2.2.2.1.getD ((x2008.1).toNat) default]), y2024.2))) else some (x2008.2.2.2.1, y2024.2)) fun j2022 => chk (in64 (x2008.1 - 1)) (some (.nx ((x2008.1 - 1), x2008.2.1, x2008.2.2.1, j2022.1, j2022.2))) else some (.ex (x2008.2.1, x2008.2.2.1, x2008.2.2.2.1, x2008.2.2.2.2))
noncomputable def F_44 (r1236 : (List GObject) × (List GRefEvent) × Int × (List Int) × GTape) (x1797 : Int × (List GObject) × (List GRefEvent) × Int × (List Int) × GTape) : Option (Fl (Int × (List GObject) × (List GRefEvent) × Int × (List Int) × GTape) ((List Int) × (List GObject) × (List GRefEvent) × GTape)) :=
 bif decide (0 < x1797.1) then (F_0 x1797.2.2.2.2.2 (r1236.2.2.2.1.length : Int)).bind fun y1965 => chk (inb y1965.1 r1236.2.2.2.1.length) ((F_0 y1965.2 20).bind fun y1966 => chk (in64 ((x1797.2.2.2.2.1.length : Int) - 1)) ((loop (F_43 x1797) (((x1797.2.2.2.2.1.length : Int) - 1), r1236.2.2.2.1.getD ((y1965.1).toNat) default, y1966.1,[], y1966.2)).bind fun r2025 => (F_7 (GObject.mk 0 3 [] [] r2025.1 r2025.2.2.1 [97,110,110] r2025.2.1) x1797.2.2.2.1 (GRepository.mk x1797.2.1 x1797.2.2.1)).bind fun y2026 => chk (room (x1797.2.2.2.2.1.length + [y2026.1].length) 8) (chk (in64 (x1797.1 - 1)) (some (.nx ((x1797.1 - 1), y2026.2.2.Objects, y2026.2.2.Events, y2026.2.1, (x1797.2.2.2.2.1 ++ [y2026.1]), r2025.2.2.2)))))) else some (.ex (x1797.2.2.2.2.1, x1797.2.1, x1797.2.2.1, x1797.2.2.2.2.2))
noncomputable def F_1r (t_ : GTape) : Option (GRepository × GTape) :=
 (F_w t_ 1 4).bind fun y26 => (loop F_41 (y26.1,[],[],0,[], y26.2)).bind fun r54 => (F_w r54.2.2.2.2 1 4).bind fun y560 => (loop (F_42 r54) (y560.1, r54.1, r54.2.1, r54.2.2.1,[], y560.2)).bind fun r1236 => (F_w r1236.2.2.2.2 1 5).bind fun y1574 => (loop (F_44 r1236) (y1574.1, r1236.1, r1236.2.1, r1236.2.2.1,[], y1574.2)).bind fun r2027 => (F_1q r2027.2.2.2 r2027.1).bind fun y2029 => some ((GRepository.mk r2027.2.1 y2029.1), y2029.2)
@[irreducible] def mc_41 : MC :=
 (.seq (sR [oV 9 20,
 mo (.bin false .gtr (.t 20) (cI 0)) 21]
 (.cond (.t 21)
 .skip
 (.exit 0)))
 (.seq (.block 1
 (.regI [.op (oV 4 24),
 .op (oV 8 25),
 .op (oV 0 26),
 .op (oV 0 27),
 .op (mo (.call (.f 5) [(.t 27), (cI 12)] [1000] []) 28),
 .op (mo (.call (.f 13) [(.t 26),(.t 28)] [1000] []) 29),
 .op (mo (.build [(.int .i64 0),(.int .i64 0),(.sl []),(.sl []),(.int .i64 0),(.sl []),(.str []),(.int .i64 0)] [(1,1, (cI 1)), (2,1,(.t 29))]) 30),
 .nt (.ownC 3 0 7096 8 none),
 .nt (.ownC 3 1 7097 4 none),
 .op (mo (.call (.t 25) [(.t 30)] [7,3,7096,7097] [9992,9993]) 31),
 .op (mo (.bslice 1 [(.t 31)]) 32),
 .op (mo (.app 1 8 (.t 24) (.t 32)) 33),
 .op (oV 33 4)]))
 (.note (.gc [0,2,3,4,5,6,8,9,113,114,115,116]) (.reg [oV 9 22,
 mo (.bin true .sub (.t 22) (cI 1)) 23,
 oV 23 9]))))
@[irreducible] def mc_3i : MC :=
 (sR [mo (.bin false .lss (.t 43) (.t 42)) 44]
 (.seq (.cond (.t 44)
 .skip
 (.exit 4))
 (.seq (.block 5
 (sR [mo (.iad 1 (.t 41) (.t 43)) 45,
 oL 45 46,
 oV 46 13]
 (sR [oV 0 47,
 mo (.call (.f 5) [(.t 47), (cI 3)] [1000] []) 48]
 (.block 6
 (sR [mo (.bin false .eql (.t 48) (cI 0)) 50,
 oV 50 49]
 (.cond (.t 49)
 (.regD [oF 3 11 51,
 oL 51 52,
 oV 13 53,
 oV 4 54,
 oV 0 55,
 oV 4 56,
 mo (.len false (.t 56)) 57,
 mo (.call (.f 5) [(.t 55),(.t 57)] [1000] []) 58,
 mo (.iad 1 (.t 54) (.t 58)) 59,
 oL 59 60,
 mo (.build [(.str []),(.int .i64 0)] [(0,1,(.t 53)), (1,1,(.t 60))]) 61,
 mo (.bslice 2 [(.t 61)]) 62,
 mo (.app 2 24 (.t 52) (.t 62)) 63,
 oF 3 11 64,
 ⟨.st 1 (.t 64) (.t 63), none, none⟩]
 [[],[0],[],[],[],[],[5],[4,6],[3,7],[8],[2,9],[10],[1,11,7],[0,1,2,3,4,5,6,7,8,9,10,11,12],[13,12,12,0,1,2,3,4,5,6,7,8,9,10,11,12]]
 [[],[0],[],[],[],[],[5],[4,5,6],[3,4,5,6,7],[3,4,5,6,7,8],[2,3,4,5,6,7,8,9],[2,3,4,5,6,7,8,9,10],[0,1,2,3,4,5,6,7,8,9,10,11],[0,1,2,3,4,5,6,7,8,9,10,11,12],[0,1,2,3,4,5,6,7,8,9,10,11,12,13]])
 (sR [mo (.bin false .eql (.t 48) (cI 1)) 66,
 oV 66 65]
 (.cond (.t 65)
 (.seq (.note (.gc [0,2,3,4,5,6,8,10,11,13,41,42,43,113,114,115,116]) (.reg [oV 5 67,
 mo (.len false (.t 67)) 68,
 mo (.bin false .gtr (.t 68) (cI 0)) 69]))
 (.cond (.t 69)
 (.regD [oF 3 11 70,
 oL 70 71,
 oV 13 72,
 oV 5 73,
 oV 0 74,
 oV 5 75,
 mo (.len false (.t 75)) 76,
 mo (.call (.f 5) [(.t 74),(.t 76)] [1000] []) 77,
 mo (.iad 1 (.t 73) (.t 77)) 78,
 oL 78 79,
 mo (.build [(.str []),(.int .i64 0)] [(0,1,(.t 72)), (1,1,(.t 79))]) 80,
 mo (.bslice 2 [(.t 80)]) 81,
 mo (.app 2 24 (.t 71) (.t 81)) 82,
 oF 3 11 83,
 ⟨.st 1 (.t 83) (.t 82), none, none⟩]
 [[],[0],[],[],[],[],[5],[4,6],[3,7],[8],[2,9],[10],[1,11,7],[0,1,2,3,4,5,6,7,8,9,10,11,12],[13,12,12,0,1,2,3,4,5,6,7,8,9,10,11,12]]
 [[],[0],[],[],[],[],[5],[4,5,6],[3,4,5,6,7],[3,4,5,6,7,8],[2,3,4,5,6,7,8,9],[2,3,4,5,6,7,8,9,10],[0,1,2,3,4,5,6,7,8,9,10,11],[0,1,2,3,4,5,6,7,8,9,10,11,12],[0,1,2,3,4,5,6,7,8,9,10,11,12,13]])
 .skip))
 .skip))))))))
 (.reg [mo (.bin true .add (.t 43) (cI 1)) 84,
 oV 84 43]))))
@[irreducible] def mc_42 : MC :=
 (.seq (sR [oV 10 36,
 mo (.bin false .gtr (.t 36) (cI 0)) 37]
 (.cond (.t 37)
 .skip
 (.exit 2)))
 (.seq (.block 3
 (sR [mo (.build [(.int .i64 0),(.int .i64 0), .nils, .nils, (.int .i64 0), .nils, (.str []),(.int .i64 0)] [(1,1, (cI 2))]) 40,
 mo (.alloc [(.int .i64 0),(.int .i64 0),(.sl []),(.sl []),(.int .i64 0),(.sl []),(.str []),(.int .i64 0)]) 11,
 ⟨.st 8 (.t 11) (.t 40), none, none⟩]
 (.seq (sR [mo (.bslice 1 [(.c (.str [97])),(.c (.str [98])),(.c (.str [100]))]) 41,
 mo (.len false (.t 41)) 42,
 oC 0 43]
 (.block 4
 (.loop mc_3i)))
 (.regI [.op (oV 5 85),
 .op (oV 8 86),
 .op (mo (.ld (some 8) (.t 11)) 87),
 .nt (.ownC 3 0 7096 8 none),
 .nt (.ownC 3 1 7097 4 none),
 .nt (.fz 87),
 .op (mo (.call (.t 86) [(.t 87)] [7,3,7096,7097] [13640,13641]) 88),
 .op (mo (.bslice 1 [(.t 88)]) 89),
 .op (mo (.app 1 8 (.t 85) (.t 89)) 90),
 .op (oV 90 5)]))))
 (.note (.gc [0,2,3,4,5,6,8,10,113,114,115,116]) (.reg [oV 10 38,
 mo (.bin true .sub (.t 38) (cI 1)) 39,
 oV 39 10]))))
@[irreducible] def mg_7 : List MOp := [gT 112 113 (.fad 5 (.t 15)),
 gT 112 114 (.ld none (.t 113)),
 gT 112 115 (.len false (.t 114)),
 gT 112 116 (.bin false .lss (.t 115) (cI 2)),
 mo (.pick (.t 112) (.t 116) (.c (.bool false))) 117]
@[irreducible] def mc_5o : MC :=
 (.reg [oV 16 118,
 mo (.bin true .sub (.t 118) (cI 1)) 119,
 oV 119 16])
@[irreducible] def mc_43 : MC :=
 (.seq (.seq (.regI [.op (oV 16 110),
 .op (mo (.bin false .geq (.t 110) (cI 0)) 111),
 .op (oV 111 112),
 .grp mg_7])
 (.cond (.t 117)
 .skip
 (.exit 9)))
 (.cut (.block 10
 (sR [oV 0 120,
 mo (.call (.f 5) [(.t 120), (cI 2)] [1000] []) 121,
 mo (.bin false .eql (.t 121) (cI 0)) 122]
 (.cond (.t 122)
 (.regD [oF 5 15 123,
 oL 123 124,
 oV 6 125,
 oV 16 126,
 mo (.iad 1 (.t 125) (.t 126)) 127,
 oL 127 128,
 mo (.bslice 1 [(.t 128)]) 129,
 mo (.app 1 8 (.t 124) (.t 129)) 130,
 oF 5 15 131,
 ⟨.st 1 (.t 131) (.t 130), none, none⟩]
 [[],[0],[],[],[2,3],[4],[5],[1,6],[0,1,2,3,4,5,6,7],[8,7,7,0,1,2,3,4,5,6,7]]
 [[],[0],[],[],[2,3],[2,3,4],[2,3,4,5],[0,1,2,3,4,5,6],[0,1,2,3,4,5,6,7],[0,1,2,3,4,5,6,7,8]])
 .skip)))
 mc_5o))
@[irreducible] def mc_44 : MC :=
 (.seq (sR [oV 14 93,
 mo (.bin false .gtr (.t 93) (cI 0)) 94]
 (.cond (.t 94)
 .skip
 (.exit 7)))
 (.seq (.block 8
 (.seq (.regD [oV 5 97,
 oV 0 98,
 oV 5 99,
 mo (.len false (.t 99)) 100,
 mo (.call (.f 5) [(.t 98),(.t 100)] [1000] []) 101,
 mo (.iad 1 (.t 97) (.t 101)) 102,
 oL 102 103,
 oV 0 104,
 mo (.call (.f 5) [(.t 104), (cI 20)] [1000] []) 105,
 mo (.build [(.int .i64 0),(.int .i64 0), .nils, .nils, (.int .i64 0), .nils, (.str []),(.int .i64 0)] [(1,1, (cI 3)), (4,1,(.t 103)), (6,1,(.c (.str [97,110,110]))), (7,1,(.t 105))]) 106,
 mo (.alloc [(.int .i64 0),(.int .i64 0),(.sl []),(.sl []),(.int .i64 0),(.sl []),(.str []),(.int .i64 0)]) 15,
 ⟨.st 8 (.t 15) (.t 106), none, none⟩]
 [[],[],[],[2],[1,3],[0,4],[5],[],[7,4],[6,8],[],[10,9,8,0,1,2,3,4,5,6,7,8,9,10]]
 [[],[],[],[2],[1,2,3],[0,1,2,3,4],[0,1,2,3,4,5],[],[1,2,3,4,7],[0,1,2,3,4,5,6,7,8],[],[0,1,2,3,4,5,6,7,8,9,10]])
 (.seq (.seq (.note (.gc [0,2,3,5,6,8,14,15,113,114,115,116]) (.reg [oV 6 107,
 mo (.len false (.t 107)) 108,
 mo (.bin true .sub (.t 108) (cI 1)) 109,
 oV 109 16]))
 (.block 9
 (.loop mc_43)))
 (.regI [.op (oV 6 132),
 .op (oV 8 133),
 .op (mo (.ld (some 8) (.t 15)) 134),
 .nt (.ownC 3 0 7096 8 none),
 .nt (.ownC 3 1 7097 4 none),
 .nt (.fz 134),
 .op (mo (.call (.t 133) [(.t 134)] [7,3,7096,7097] [16648,16649]) 135),
 .op (mo (.bslice 1 [(.t 135)]) 136),
 .op (mo (.app 1 8 (.t 132) (.t 136)) 137),
 .op (oV 137 6)]))))
 (.reg [oV 14 95,
 mo (.bin true .sub (.t 95) (cI 1)) 96,
 oV 96 14])))
def mc_1r : MC :=
 (sR [mo (.alloc [(.sl []),(.sl [])]) 2]
 (sR [mo (.alloc [.nils, .nils]) 3]
 (sR [mo (.mv (.c .nils)) 4,
 mo (.mv (.c .nils)) 5,
 mo (.mv (.c .nils)) 6]
 (sR [mo (.alloc [(.int .i64 0)]) 7,
 ⟨.st 1 (.t 7) (cI 0), none, none⟩]
 (sR [mo (.mkfn 11 [(.t 7),(.t 3)]) 17,
 oV 17 8]
 (.seq (sR [oV 0 18,
 mo (.call (.f 12) [(.t 18), (cI 1), (cI 4)] [1000] []) 19,
 oV 19 9]
 (.block 0
 (.loop mc_41)))
 (.seq (sR [oV 0 34,
 mo (.call (.f 12) [(.t 34), (cI 1), (cI 4)] [1000] []) 35,
 oV 35 10]
 (.block 2
 (.loop mc_42)))
 (.seq (sR [oV 0 91,
 mo (.call (.f 12) [(.t 91), (cI 1), (cI 5)] [1000] []) 92,
 oV 92 14]
 (.block 7
 (.loop mc_44)))
 (.seq (.regI [.op (oV 0 138),
 .op (oV 6 139),
 .nt (.fz 139),
 .op (mo (.call (.f 14) [(.t 138),(.t 139)] [1000] []) 140),
 .op (oF 1 3 141),
 .op ⟨.st 1 (.t 141) (.t 140), none, none⟩])
 (sR [mo (.ld (some 2) (.t 3)) 142,
 ⟨.st 2 (.t 2) (.t 142), none, none⟩]
 .ret))))))))))
theorem Wq_1r {t_ : GTape} : Cn Tryz.prog 4 [.ptr 1000 0] [(1000, .cells [.sl (t_.L.map (V.int .i64)), .int .i64 t_.at_])] (F_1r t_) (fun z => GRepository.v z.1) (fun z => [(1000, .cells [.sl (z.2.L.map (V.int .i64)), .int .i64 z.2.at_])]) := fun Q Q' h hQ => by
 refine acallM mc_1r [.fzc 2] [1000] [.c 2 (some 2)] Tryz.func4 fun M => ?_
 unfold F_1r at h
 unfold mc_1r
 replace h := tY h
 refine tB ?_
 repeat' (first
 | (exact tZ)
 | ((first | refine oblg h ?_ | refine roomG h ?_ | refine fork h ?_ ?_ | refine forkS h ?_ ?_) <;> clear h <;> intro hc h)
 | (obtain ⟨y, hy, h⟩ := h; have hw := acall_swe 1717 9993 (acall_swe 1716 9992 (acall_swe 1003 7097 (acall_swe 1002 7096 (acall_swe 1001 3 (acall_swe 1000 7 (Wq_7.w hy)))))); replace hw := tY hw; (first | refine M.sC hw ?_ | refine M.sD hw ?_); clear hw hy; refine tB ?_)
 | (obtain ⟨y, hy, h⟩ := h; have hw := acall_swe 1717 13641 (acall_swe 1716 13640 (acall_swe 1003 7097 (acall_swe 1002 7096 (acall_swe 1001 3 (acall_swe 1000 7 (Wq_7.w hy)))))); replace hw := tY hw; (first | refine M.sC hw ?_ | refine M.sD hw ?_); clear hw hy; refine tB ?_)
 | (obtain ⟨y, hy, h⟩ := h; have hw := acall_swe 1717 16649 (acall_swe 1716 16648 (acall_swe 1003 7097 (acall_swe 1002 7096 (acall_swe 1001 3 (acall_swe 1000 7 (Wq_7.w hy)))))); replace hw := tY hw; (first | refine M.sC hw ?_ | refine M.sD hw ?_); clear hw hy; refine tB ?_)
 | (obtain ⟨y, hy, h⟩ := h; (first | with_reducible first | have hw := Wq_w.w hy | have hw := Wq_0.w hy | have hw := Wq_1p.w hy | have hw := Wq_1q.w hy); replace hw := tY hw; (first | refine M.sC hw ?_ | refine M.sD hw ?_); clear hw hy; refine tB ?_)
 | (refine M.wh1 (b := mc_41) [0,2,3,5,6,8] [2] (fun x => [(4, .osl 2004 1 0 x.2.2.2.2.1.length), (9, .int .i64 x.1)]) (fun x => [.o 3 (.cells [.osl 4048 8 0 x.2.1.length, .osl 4049 4 0 x.2.2.1.length]), .o 4048 (.arr 8 (x.2.1.map GObject.v)), .o 4049 (.arr 4 (x.2.2.1.map GRefEvent.v)), .o 7 (.cells [.int .i64 x.2.2.2.1]), .o 2004 (.arr 1 (x.2.2.2.2.1.map (V.int .i64))), .o 1000 (.cells [.sl (x.2.2.2.2.2.L.map (V.int .i64)), .int .i64 x.2.2.2.2.2.at_])]) [.gc [0,2,3,4,5,6,8,9], .acc 4 2004 1, .ownC 3 0 4048 8 none, .ownC 3 1 4049 4 none] h ?_ ?_ <;> first
 | (clear h; intro x Qn K hK1 h; unfold F_41 at h; unfold mc_41; replace h := tY h; refine tB ?_)
  |(clear h; (try refine tB ?_); exact tU0; done))
 | (refine M.fold1 (b := mc_3i) 43 [0,2,3,4,5,6,8,10,11,41,42] [41,11,3,4048,4049,7,2005,2004,2] (fun x => []) (fun x => [.p 11 3 [.osl 4179 2 0 x.1.length], .o 4179 (.arr 2 (x.1.map GItem.v)), .o 1000 (.cells [.sl (x.2.L.map (V.int .i64)), .int .i64 x.2.at_])]) [.gc [0,2,3,4,5,6,8,10,11,41,42,43], .ownC 11 3 4179 2 none] h ?_ ?_ ?_ <;> first
 | (clear h; intro k a x Qn K hK2 hkN2 ha2 h hf; skip; clear hf; have hkd := kD hkN2; have hkB2 := kB hkN2; have hkI2 := kI (k := k) (by (try simp only [List.length_cons, List.length_nil] at hkN2); omega); have hkd2 : decide ((k : Int) < 3) = true := decide_eq_true (by simp only [List.length_cons, List.length_nil] at hkN2; omega); have hkr2 : (0 ≤ (k : Int) ∧ (k : Int) < 3) = True := eq_true (by simp only [List.length_cons, List.length_nil] at hkN2; omega); have hle2 := trivial; have hpt2 := trivial; unfold F_3i at h; unfold mc_3i; replace h := tY h; refine tKA ha2 hkd hkN2 hkB2 hkI2 hkd2 hkr2 hle2 hpt2 ?_)
  |(clear h; intro x K h; replace h := And.left (And.intro h trivial); unfold mc_3i; replace h := tY h; refine tB ?_)
  |(clear h; (try refine tB ?_); exact tU0; done))
 | (refine M.wh1 (b := mc_42) [0,2,3,4,6,8] [3,2004,2] (fun x => [(5, .osl 2005 1 0 x.2.2.2.2.1.length), (10, .int .i64 x.1)]) (fun x => [.p 3 0 [.osl 4048 8 0 x.2.1.length], .p 3 1 [.osl 4049 4 0 x.2.2.1.length], .o 4048 (.arr 8 (x.2.1.map GObject.v)), .o 4049 (.arr 4 (x.2.2.1.map GRefEvent.v)), .o 7 (.cells [.int .i64 x.2.2.2.1]), .o 2005 (.arr 1 (x.2.2.2.2.1.map (V.int .i64))), .o 1000 (.cells [.sl (x.2.2.2.2.2.L.map (V.int .i64)), .int .i64 x.2.2.2.2.2.at_])]) [.gc [0,2,3,4,5,6,8,10], .acc 5 2005 1, .ownC 3 0 4048 8 none, .ownC 3 1 4049 4 none] h ?_ ?_ <;> first
 | (clear h; intro x Qn K hK3 h; unfold F_42 at h; unfold mc_42; replace h := tY h; refine tB ?_)
  |(clear h; (try refine tB ?_); exact tU0; done))
 | (refine M.jn1 (b := mc_5o) [0,2,3,5,6,8,14,15,16] [15,3,4048,4049,7,2006,2005,2] (fun y => []) (fun y => [.p 15 5 [.osl 4245 1 0 y.1.length], .o 4245 (.arr 1 (y.1.map (V.int .i64))), .o 1000 (.cells [.sl (y.2.L.map (V.int .i64)), .int .i64 y.2.at_])]) [.gc [0,2,3,5,6,8,14,15,16], .ownC 15 5 4245 1 none] h ?_ ?_ <;> first
 | (clear h; intro Qn K hK4 h; replace h := tY h; refine tB ?_)
  |(clear h; intro y h; unfold mc_5o; replace h := tY h; refine tB ?_))
 | (refine M.gv1 (ms := mg_7) 117 [113,114,115,116] h ?_ ?_ <;> first
 | (clear h; intro K hK5; unfold mg_7; refine tB ?_)
 | (clear h; intro b h; replace h := tY h; refine tB ?_))
 | (refine M.wh1 (b := mc_43) [0,2,3,5,6,8,14,15] [15,3,4048,4049,7,2006,2005,2] (fun x => [(16, .int .i64 x.1)]) (fun x => [.p 15 4 [.int .i64 x.2.1], .p 15 5 [.osl 4245 1 0 x.2.2.2.1.length], .p 15 7 [.int .i64 x.2.2.1], .o 4245 (.arr 1 (x.2.2.2.1.map (V.int .i64))), .o 1000 (.cells [.sl (x.2.2.2.2.L.map (V.int .i64)), .int .i64 x.2.2.2.2.at_])]) [.gc [0,2,3,5,6,8,14,15,16], .ownC 15 5 4245 1 none] h ?_ ?_ <;> first
 | (clear h; intro x Qn K hK6 h; unfold F_43 at h; unfold mc_43; replace h := tY h; refine tB ?_)
  |(clear h; (try refine tB ?_); exact tU0; done))
 | (refine M.wh1 (b := mc_44) [0,2,3,5,8] [3,2005,2] (fun x => [(6, .osl 2006 1 0 x.2.2.2.2.1.length), (14, .int .i64 x.1)]) (fun x => [.p 3 0 [.osl 4048 8 0 x.2.1.length], .p 3 1 [.osl 4049 4 0 x.2.2.1.length], .o 4048 (.arr 8 (x.2.1.map GObject.v)), .o 4049 (.arr 4 (x.2.2.1.map GRefEvent.v)), .o 7 (.cells [.int .i64 x.2.2.2.1]), .o 2006 (.arr 1 (x.2.2.2.2.1.map (V.int .i64))), .o 1000 (.cells [.sl (x.2.2.2.2.2.L.map (V.int .i64)), .int .i64 x.2.2.2.2.2.at_])]) [.gc [0,2,3,5,6,8,14], .acc 6 2006 1, .ownC 3 0 4048 8 none, .ownC 3 1 4049 4 none] h ?_ ?_ <;> first
 | (clear h; intro x Qn K hK7 h; unfold F_44 at h; unfold mc_44; replace h := tY h; refine tB ?_)
  |(clear h; (try refine tB ?_); exact tU0; done))
 | (simp only [ha2])
 | ((first | refine hK1 _ ?_ | refine hK2 _ ?_ | refine hK3 _ ?_ | refine hK4 _ ?_ | refine hK6 _ ?_ | refine hK7 _ ?_); (try refine tB ?_); refine ⟨_, h, ?_⟩; exact tU0; done)
 | (refine hK5 _ ?_; exact tU; done)
 | (refine bfork (fun hc => ?_) (fun hc => ?_))
 | (refine tE4 V.str ?_; (first | rw [M.lok_compU] | rw [M.lokD_compU] | (simp only [V.cells]; first | rw [M.lok_comp] | rw [M.lokD_comp])); refine tB ?_)
 | (refine tE ?_; (first | rw [M.lok_compU] | rw [M.lokD_compU]); refine tB ?_)
 | (refine tA ?_)
 | fail)
def F_8 (n_ : Int) : Option Bool :=
 grp ((decide (1 ≤ n_) && decide (n_ ≤ 1073741824))) fun b2 => some b2
@[irreducible] def mg_5p : List MOp := [gT 5 6 (.mv (.t 0)),
 gT 5 7 (.bin false .leq (.t 6) (cI 1073741824)),
 mo (.pick (.t 5) (.t 7) (.c (.bool false))) 8]
def mc_8 : MC :=
 (sR [mo (.mv (.c (.bool false))) 2]
 (.seq (.regI [.op (oV 0 3),
 .op (mo (.bin false .geq (.t 3) (cI 1)) 4),
 .op (oV 4 5),
 .grp mg_5p,
 .op (oV 8 2)])
 .ret))
theorem Wq_8 {n_ : Int} : Cn Tryz.prog 36 [.int .i64 n_] [] (F_8 n_) (fun z => .bool z) (fun z => []) := fun Q Q' h hQ => by
 refine acallM mc_8 [] [] [.t 2] Tryz.func36 fun M => ?_
 unfold F_8 at h
 unfold mc_8
 replace h := tY h
 refine tB ?_
 repeat' (first
 | (exact tZ)
 | ((first | refine oblg h ?_ | refine roomG h ?_ | refine fork h ?_ ?_ | refine forkS h ?_ ?_) <;> clear h <;> intro hc h)
 | (refine M.gv1 (ms := mg_5p) 8 [6,7] h ?_ ?_ <;> first
 | (clear h; intro K hK1; unfold mg_5p; refine tB ?_)
 | (clear h; intro b h; replace h := tY h; refine tB ?_))
 | (refine hK1 _ ?_; exact tU; done)
 | (refine bfork (fun hc => ?_) (fun hc => ?_))
 | (refine tE ?_; (first | rw [M.lok_compU] | rw [M.lokD_compU]); refine tB ?_)
 | (refine tA ?_)
 | fail)
noncomputable def F_d (s_ : Str) (x32 : Int × Int × (List Str)) : Option (Fl (Int × Int × (List Str)) (List Str)) :=
 grp ((decide (x32.2.1 < (s_.length : Int)) && decide ((x32.2.2.length : Int) < 100))) fun b41 => bif b41 then jn (α := Int × (List Str)) (chk (inb x32.2.1 s_.length) (bif decide (((s_.getD (x32.2.1).toNat 0).toNat : Int) = 10) then chk (inc x32.1 x32.2.1 s_.length) (chk (room (x32.2.2.length + [((s_.take ((x32.2.1).toNat)).drop ((x32.1).toNat))].length) 16) (chk (in64 (x32.2.1 + 1)) (some ((x32.2.1 + 1), (x32.2.2 ++ [((s_.take ((x32.2.1).toNat)).drop ((x32.1).toNat))]))))) else some (x32.1, x32.2.2))) fun j42 => chk (in64 (x32.2.1 + 1)) (some (.nx (j42.1, (x32.2.1 + 1), j42.2))) else some (.ex x32.2.2)
noncomputable def F_1s (s_ : Str) : Option (List Str) :=
 (loop (F_d s_) (0,0,[])).bind fun r43 => some r43
@[irreducible] def mg_5q : List MOp := [gT 10 11 (.mv (.t 3)),
 gT 10 12 (.len false (.t 11)),
 gT 10 13 (.bin false .lss (.t 12) (cI 100)),
 mo (.pick (.t 10) (.t 13) (.c (.bool false))) 14]
@[irreducible] def mc_5r : MC :=
 (.reg [oV 5 15,
 mo (.bin true .add (.t 15) (cI 1)) 16,
 oV 16 5])
@[irreducible] def mc_d : MC :=
 (.seq (.seq (.regI [.op (oV 5 6),
 .op (oV 0 7),
 .op (mo (.len true (.t 7)) 8),
 .op (mo (.bin false .lss (.t 6) (.t 8)) 9),
 .op (oV 9 10),
 .grp mg_5q])
 (.cond (.t 14)
 .skip
 (.exit 0)))
 (.cut (.block 1
 (sR [oV 0 17,
 oV 5 18,
 mo (.idx (.t 17) (.t 18)) 19,
 mo (.bin false .eql (.t 19) (.c (.int .u8 10))) 20]
 (.cond (.t 20)
 (.seq (.note (.gc [0,3,4,5,11,12,13]) (.reg [oV 3 21,
 oV 0 22,
 oV 4 23,
 oV 5 24,
 mo (.sls (.t 22) (some (.t 23)) (some (.t 24))) 25,
 mo (.bslice 1 [(.t 25)]) 26,
 mo (.app 1 16 (.t 21) (.t 26)) 27,
 oV 27 3]))
 (.note (.gc [0,3,5,11,12,13]) (.reg [oV 5 28,
 mo (.bin true .add (.t 28) (cI 1)) 29,
 oV 29 4])))
 .skip)))
 mc_5r))
def mc_1s : MC :=
 (sR [mo (.mv (.c (.sl []))) 2]
 (sR [mo (.mv (.c .nils)) 3]
 (sR [oC 0 4]
 (.seq (sR [oC 0 5]
 (.block 0
 (.loop mc_d)))
 (sR [oV 3 30,
 oV 30 2]
 .ret)))))
theorem Wq_1s {s_ : Str} : Cn Tryz.prog 65 [.str s_] [] (F_1s s_) (fun z => .sl (z.map V.str)) (fun z => []) := fun Q Q' h hQ => by
 refine acallM mc_1s [.fz 2] [] [.t 2] Tryz.func65 fun M => ?_
 unfold F_1s at h
 unfold mc_1s
 replace h := tY h
 refine tB ?_
 repeat' (first
 | (exact tZ)
 | ((first | refine oblg h ?_ | refine roomG h ?_ | refine fork h ?_ ?_ | refine forkS h ?_ ?_) <;> clear h <;> intro hc h)
 | (refine M.jn1 (b := mc_5r) [0,5] [] (fun y => [(3, .osl 2003 1 0 y.2.length), (4, .int .i64 y.1)]) (fun y => [.o 2003 (.arr 1 (y.2.map V.str))]) [.gc [0,3,4,5], .acc 3 2003 1] h ?_ ?_ <;> first
 | (clear h; intro Qn K hK1 h; replace h := tY h; refine tB ?_)
  |(clear h; intro y h; unfold mc_5r; replace h := tY h; refine tB ?_))
 | (refine M.gv1 (ms := mg_5q) 14 [11,12,13] h ?_ ?_ <;> first
 | (clear h; intro K hK2; unfold mg_5q; refine tB ?_)
 | (clear h; intro b h; replace h := tY h; refine tB ?_))
 | (refine M.wh1 (b := mc_d) [0] [] (fun x => [(3, .osl 2003 1 0 x.2.2.length), (4, .int .i64 x.1), (5, .int .i64 x.2.1)]) (fun x => [.o 2003 (.arr 1 (x.2.2.map V.str))]) [.gc [0,3,4,5], .acc 3 2003 1] h ?_ ?_ <;> first
 | (clear h; intro x Qn K hK3 h; unfold F_d at h; unfold mc_d; replace h := tY h; refine tB ?_)
  |(clear h; (try refine tB ?_); exact tU0; done))
 | ((first | refine hK1 _ ?_ | refine hK3 _ ?_); (try refine tB ?_); refine ⟨_, h, ?_⟩; exact tU0; done)
 | (refine hK2 _ ?_; exact tU; done)
 | (refine bfork (fun hc => ?_) (fun hc => ?_))
 | (refine tE ?_; (first | rw [M.lok_compU] | rw [M.lokD_compU]); refine tB ?_)
 | (refine tA ?_)
 | fail)
noncomputable def F_x (s_ : Str) (x9 : Int) : Option (Fl Int (Sum Unit (Str × Str))) :=
 bif decide (x9 < (s_.length : Int)) then chk (inb x9 s_.length) (bif decide (((s_.getD (x9).toNat 0).toNat : Int) = 32) then chk (inc 0 x9 s_.length) (chk (in64 (x9 + 1)) (chk (inc (x9 + 1) (s_.length : Int) s_.length) (some (.ex (.inr ((s_.take ((x9).toNat)), (s_.drop (((x9 + 1)).toNat)))))))) else chk (in64 (x9 + 1)) (some (.nx (x9 + 1)))) else some (.ex (.inl ()))
noncomputable def F_14 (s_ : Str) : Option (Str × Str) :=
 (loop (F_x s_) 0).bind fun r10 => Sum.elim (fun u11 => some (s_, [])) (fun u12 => some u12) r10
@[irreducible] def mc_x : MC :=
 (.seq (sR [oV 4 5,
 oV 0 6,
 mo (.len true (.t 6)) 7,
 mo (.bin false .lss (.t 5) (.t 7)) 8]
 (.cond (.t 8)
 .skip
 (.exit 0)))
 (.seq (.block 1
 (sR [oV 0 11,
 oV 4 12,
 mo (.idx (.t 11) (.t 12)) 13,
 mo (.bin false .eql (.t 13) (.c (.int .u8 32))) 14]
 (.cond (.t 14)
 (.seq (.note (.gc [0,4]) (.regD [oV 0 15,
 oV 4 16,
 mo (.sls (.t 15) none (some (.t 16))) 17,
 oV 0 18,
 oV 4 19,
 mo (.bin true .add (.t 19) (cI 1)) 20,
 mo (.sls (.t 18) (some (.t 20)) none) 21,
 oV 17 2,
 oV 21 3]
 [[],[],[0,1],[],[],[4],[3,5],[2,0,1,2],[6,7,0,1,2,3,4,5,6,7]]
 [[],[],[0,1],[],[],[4],[3,4,5],[0,1,2],[0,1,2,3,4,5,6,7]]))
 .ret)
 .skip)))
 (.note (.gc [0,4]) (.reg [oV 4 9,
 mo (.bin true .add (.t 9) (cI 1)) 10,
 oV 10 4]))))
def mc_14 : MC :=
 (sR [mo (.mv (.c (.str []))) 2,
 mo (.mv (.c (.str []))) 3]
 (.seq (sR [oC 0 4]
 (.block 0
 (.loop mc_x)))
 (sR [oV 0 22,
 oV 22 2,
 mo (.mv (.c (.str []))) 3]
 .ret)))
theorem Wq_14 {s_ : Str} : Cn Tryz.prog 66 [.str s_] [] (F_14 s_) (fun z => .tup [.str z.1, .str z.2]) (fun z => []) := fun Q Q' h hQ => by
 refine acallM mc_14 [] [] [.t 2, .t 3] Tryz.func66 fun M => ?_
 unfold F_14 at h
 unfold mc_14
 replace h := tY h
 refine tB ?_
 repeat' (first
 | (exact tZ)
 | ((first | refine oblg h ?_ | refine roomG h ?_ | refine fork h ?_ ?_ | refine forkS h ?_ ?_) <;> clear h <;> intro hc h)
 | (refine M.wh1 (b := mc_x) [0] [] (fun x => [(4, .int .i64 x)]) (fun x => []) [] h ?_ ?_ <;> first
 | (clear h; intro x Qn K hK1 h; unfold F_x at h; unfold mc_x; replace h := tY h; refine tB ?_)
  |(clear h; (try refine tB ?_); exact tU0; done))
 | (refine hK1 _ ?_; (try refine tB ?_); refine ⟨_, h, ?_⟩; exact tU0; done)
 | (refine tE ?_; (first | rw [M.lok_compU] | rw [M.lokD_compU]); refine tB ?_)
 | (refine tA ?_)
 | fail)
noncomputable def F_e (s_ : Str) (x13 : Int × Int) : Option (Fl (Int × Int) (Sum Int Int)) :=
 bif decide (x13.2 < (s_.length : Int)) then chk (inb x13.2 s_.length) (bif decide (((s_.getD (x13.2).toNat 0).toNat : Int) < 48) then some (.ex (.inr (-1))) else chk (inb x13.2 s_.length) (bif decide (57 < ((s_.getD (x13.2).toNat 0).toNat : Int)) then some (.ex (.inr (-1))) else chk (in64 (x13.1 * 10)) (chk (inb x13.2 s_.length) (chk (in64 ((x13.1 * 10) + ((u8 (((s_.getD (x13.2).toNat 0).toNat : Int) - 48)).toNat : Int))) (chk (in64 (x13.2 + 1)) (some (.nx (((x13.1 * 10) + ((u8 (((s_.getD (x13.2).toNat 0).toNat : Int) - 48)).toNat : Int)), (x13.2 + 1))))))))) else some (.ex (.inl x13.1))
noncomputable def F_l (s_ : Str) : Option Int :=
 grp ((decide ((s_.length : Int) = 0) || decide (18 < (s_.length : Int)))) fun b4 => bif b4 then some (-1) else (loop (F_e s_) (0,0)).bind fun r14 => Sum.elim (fun u15 => some u15) (fun u16 => some u16) r14
@[irreducible] def mg_5s : List MOp := [gF 8 9 (.mv (.t 0)),
 gF 8 10 (.len true (.t 9)),
 gF 8 11 (.bin false .gtr (.t 10) (cI 18)),
 mo (.pick (.t 8) (.c (.bool true)) (.t 11)) 12]
@[irreducible] def mc_e : MC :=
 (.seq (sR [oV 4 13,
 oV 0 14,
 mo (.len true (.t 14)) 15,
 mo (.bin false .lss (.t 13) (.t 15)) 16]
 (.cond (.t 16)
 .skip
 (.exit 0)))
 (.seq (.block 1
 (.seq (sR [oV 0 19,
 oV 4 20,
 mo (.idx (.t 19) (.t 20)) 21,
 mo (.bin false .lss (.t 21) (.c (.int .u8 48))) 22,
 oV 22 23,
 gF 23 24 (.mv (.t 0)),
 gF 23 25 (.mv (.t 4)),
 gF 23 26 (.idx (.t 24) (.t 25)),
 gF 23 27 (.bin false .gtr (.t 26) (.c (.int .u8 57))),
 mo (.pick (.t 23) (.c (.bool true)) (.t 27)) 28]
 (.cond (.t 28)
 (sR [oC (-1) 2]
 .ret)
 .skip))
 (.note (.gc [0,3,4,24,25,26,27]) (.reg [oV 3 29,
 mo (.bin true .mul (.t 29) (cI 10)) 30,
 oV 0 31,
 oV 4 32,
 mo (.idx (.t 31) (.t 32)) 33,
 mo (.bin false .sub (.t 33) (.c (.int .u8 48))) 34,
 mo (.i2i true .i64 (.t 34)) 35,
 mo (.bin true .add (.t 30) (.t 35)) 36,
 oV 36 3]))))
 (.note (.gc [0,3,4,24,25,26,27]) (.reg [oV 4 17,
 mo (.bin true .add (.t 17) (cI 1)) 18,
 oV 18 4]))))
def mc_l : MC :=
 (sR [oC 0 2]
 (.seq (.seq (.regI [.op (oV 0 5),
 .op (mo (.len true (.t 5)) 6),
 .op (mo (.bin false .eql (.t 6) (cI 0)) 7),
 .op (oV 7 8),
 .grp mg_5s])
 (.cond (.t 12)
 (sR [oC (-1) 2]
 .ret)
 .skip))
 (sR [oC 0 3]
 (.seq (sR [oC 0 4]
 (.block 0
 (.loop mc_e)))
 (sR [oV 3 37,
 oV 37 2]
 .ret)))))
theorem Wq_l {s_ : Str} : Cn Tryz.prog 67 [.str s_] [] (F_l s_) (fun z => .int .i64 z) (fun z => []) := fun Q Q' h hQ => by
 refine acallM mc_l [] [] [.t 2] Tryz.func67 fun M => ?_
 unfold F_l at h
 unfold mc_l
 replace h := tY h
 refine tB ?_
 repeat' (first
 | (exact tZ)
 | ((first | refine oblg h ?_ | refine roomG h ?_ | refine fork h ?_ ?_ | refine forkS h ?_ ?_) <;> clear h <;> intro hc h)
 | (refine M.wh1 (b := mc_e) [0] [] (fun x => [(3, .int .i64 x.1), (4, .int .i64 x.2)]) (fun x => []) [] h ?_ ?_ <;> first
 | (clear h; intro x Qn K hK1 h; unfold F_e at h; unfold mc_e; replace h := tY h; refine tB ?_)
  |(clear h; (try refine tB ?_); exact tU0; done))
 | (refine M.gv1 (ms := mg_5s) 12 [9,10,11] h ?_ ?_ <;> first
 | (clear h; intro K hK2; unfold mg_5s; refine tB ?_)
 | (clear h; intro b h; replace h := tY h; refine tB ?_))
 | (refine hK1 _ ?_; (try refine tB ?_); refine ⟨_, h, ?_⟩; exact tU0; done)
 | (refine hK2 _ ?_; exact tU; done)
 | (refine bfork (fun hc => ?_) (fun hc => ?_))
 | (refine tE ?_; (first | rw [M.lok_compU] | rw [M.lokD_compU]); refine tB ?_)
 | (refine tA ?_)
 | fail)
noncomputable def F_1t (y6 : List Str) (x87 : Int × Int × (List GItem)) : Option (Fl (Int × Int × (List GItem)) (Int × (List GItem))) :=
 bif decide (x87.1 < (y6.length : Int)) then chk (inb x87.1 y6.length) ((F_14 (y6.getD (x87.1).toNat default)).bind fun y98 => (F_l y98.1).bind fun y99 => chk (room (x87.2.2.length + [(GItem.mk y98.2 y99)].length) 24) (chk (in64 (x87.1 + 1)) (some (.nx ((x87.1 + 1), x87.2.1, (x87.2.2 ++ [(GItem.mk y98.2 y99)])))))) else some (.ex (x87.2.1, x87.2.2))
noncomputable def F_1u (y6 : List Str) (x137 : Int × Int × Int × Str × Int × (List Int)) : Option (Fl (Int × Int × Int × Str × Int × (List Int)) (Int × Int × Str × Int × (List Int))) :=
 bif decide (x137.1 < (y6.length : Int)) then jn (α := Int × Int × Str × Int × (List Int)) (chk (inb x137.1 y6.length) ((F_14 (y6.getD (x137.1).toNat default)).bind fun y151 => bif decide (y151.1 = [116,114,101,101]) then (F_l y151.2).bind fun y152 => some (x137.2.1, y152, x137.2.2.2.1, x137.2.2.2.2.1, x137.2.2.2.2.2) else bif decide (y151.1 = [112,97,114,101,110,116]) then (F_l y151.2).bind fun y153 => chk (room (x137.2.2.2.2.2.length + [y153].length) 8) (some (x137.2.1, x137.2.2.1, x137.2.2.2.1, x137.2.2.2.2.1, (x137.2.2.2.2.2 ++ [y153]))) else bif decide (y151.1 = [97,117,116,104,111,114]) then some (x137.2.1, x137.2.2.1, y151.2, x137.2.2.2.2.1, x137.2.2.2.2.2) else bif decide (y151.1 = [116,105,109,101]) then (F_l y151.2).bind fun y154 => some (x137.2.1, x137.2.2.1, x137.2.2.2.1, y154, x137.2.2.2.2.2) else some (x137.2.1, x137.2.2.1, x137.2.2.2.1, x137.2.2.2.2.1, x137.2.2.2.2.2))) fun j149 => chk (in64 (x137.1 + 1)) (some (.nx ((x137.1 + 1), j149.1, j149.2.1, j149.2.2.1, j149.2.2.2.1, j149.2.2.2.2))) else some (.ex (x137.2.1, x137.2.2.1, x137.2.2.2.1, x137.2.2.2.2.1, x137.2.2.2.2.2))
noncomputable def F_1v (id_ : Int) (s_ : Str) : Option GObject :=
 jn (α := Bool) (bif decide (5 ≤ (s_.length : Int)) then chk (inc 0 5 s_.length) (some (decide ((s_.take 5) = [98,108,111,98,10]))) else some false) fun j4 => bif j4 then chk (inc 5 (s_.length : Int) s_.length) (some (GObject.mk id_ 1 (s_.drop 5) [] 0 [] [] 0)) else (F_1s s_).bind fun y6 => bif decide ((y6.length : Int) = 0) then some (GObject.mk id_ 0 [] [] 0 [] [] 0) else chk (inb 0 y6.length) (bif decide ((y6.getD 0 default) = [116,114,101,101]) then (loop (F_1t y6) (1, id_, [])).bind fun r100 => some (GObject.mk r100.1 2 [] r100.2 0 [] [] 0) else (loop (F_1u y6) (1, id_, 0,[],0,[])).bind fun r155 => some (GObject.mk r155.1 3 [] [] r155.2.1 r155.2.2.2.2 r155.2.2.1 r155.2.2.2.1))
@[irreducible] def mg_5t : List MOp := [gT 18 19 (.mv (.t 1)),
 gT 18 20 (.sls (.t 19) none (some (cI 5))),
 gT 18 21 (.bin false .eql (.t 20) (.c (.str [98,108,111,98,10]))),
 mo (.pick (.t 18) (.t 21) (.c (.bool false))) 22]
@[irreducible] def mc_1t : MC :=
 (.seq (sR [oV 7 40,
 oV 6 41,
 mo (.len false (.t 41)) 42,
 mo (.bin false .lss (.t 40) (.t 42)) 43]
 (.cond (.t 43)
 .skip
 (.exit 0)))
 (.seq (.block 1
 (sR [oV 6 47,
 oV 7 48,
 mo (.iad 1 (.t 47) (.t 48)) 49,
 oL 49 50,
 mo (.call (.f 66) [(.t 50)] [] []) 51,
 oV 51 46,
 mo (.ext 0 (.t 46)) 52,
 mo (.ext 1 (.t 46)) 53,
 oV 52 8,
 oV 53 9]
 (.note (.gc [4,5,6,7,8,9]) (.regD [oF 3 5 54,
 oL 54 55,
 oV 9 56,
 oV 8 57,
 mo (.call (.f 67) [(.t 57)] [] []) 58,
 mo (.build [(.str []),(.int .i64 0)] [(0,1,(.t 56)), (1,1,(.t 58))]) 59,
 mo (.bslice 2 [(.t 59)]) 60,
 mo (.app 2 24 (.t 55) (.t 60)) 61,
 oF 3 5 62,
 ⟨.st 1 (.t 62) (.t 61), none, none⟩]
 [[],[0],[],[],[3],[2,4],[5],[1,6,4],[0,1,2,3,4,5,6,7],[8,7,7,0,1,2,3,4,5,6,7]]
 [[],[0],[],[],[3],[2,3,4],[2,3,4,5],[0,1,2,3,4,5,6],[0,1,2,3,4,5,6,7],[0,1,2,3,4,5,6,7,8]]))))
 (.note (.gc [4,5,6,7]) (.reg [oV 7 44,
 mo (.bin true .add (.t 44) (cI 1)) 45,
 oV 45 7]))))
@[irreducible] def mc_5u : MC :=
 (.reg [oV 10 69,
 mo (.bin true .add (.t 69) (cI 1)) 70,
 oV 70 10])
@[irreducible] def mc_1u : MC :=
 (.seq (sR [oV 10 65,
 oV 6 66,
 mo (.len false (.t 66)) 67,
 mo (.bin false .lss (.t 65) (.t 67)) 68]
 (.cond (.t 68)
 .skip
 (.exit 2)))
 (.cut (.block 3
 (sR [oV 6 72,
 oV 10 73,
 mo (.iad 1 (.t 72) (.t 73)) 74,
 oL 74 75,
 mo (.call (.f 66) [(.t 75)] [] []) 76,
 oV 76 71,
 mo (.ext 0 (.t 71)) 77,
 mo (.ext 1 (.t 71)) 78,
 oV 77 11,
 oV 78 12]
 (sR [oV 11 79]
 (.block 4
 (sR [mo (.bin false .eql (.t 79) (.c (.str [116,114,101,101]))) 81,
 oV 81 80]
 (.cond (.t 80)
 (.note (.gc [4,5,6,10,12]) (.reg [oV 12 82,
 mo (.call (.f 67) [(.t 82)] [] []) 83,
 oF 4 5 84,
 ⟨.st 1 (.t 84) (.t 83), none, none⟩]))
 (sR [mo (.bin false .eql (.t 79) (.c (.str [112,97,114,101,110,116]))) 86,
 oV 86 85]
 (.cond (.t 85)
 (.note (.gc [4,5,6,10,12]) (.regD [oF 5 5 87,
 oL 87 88,
 oV 12 89,
 mo (.call (.f 67) [(.t 89)] [] []) 90,
 mo (.bslice 1 [(.t 90)]) 91,
 mo (.app 1 8 (.t 88) (.t 91)) 92,
 oF 5 5 93,
 ⟨.st 1 (.t 93) (.t 92), none, none⟩]
 [[],[0],[],[2],[3],[1,4,3],[0,1,2,3,4,5],[6,5,5,0,1,2,3,4,5]]
 [[],[0],[],[2],[2,3],[0,1,2,3,4],[0,1,2,3,4,5],[0,1,2,3,4,5,6]]))
 (sR [mo (.bin false .eql (.t 79) (.c (.str [97,117,116,104,111,114]))) 95,
 oV 95 94]
 (.cond (.t 94)
 (.note (.gc [4,5,6,10,12]) (.reg [oV 12 96,
 oF 6 5 97,
 ⟨.st 1 (.t 97) (.t 96), none, none⟩]))
 (sR [mo (.bin false .eql (.t 79) (.c (.str [116,105,109,101]))) 99,
 oV 99 98]
 (.cond (.t 98)
 (.note (.gc [4,5,6,10,12]) (.reg [oV 12 100,
 mo (.call (.f 67) [(.t 100)] [] []) 101,
 oF 7 5 102,
 ⟨.st 1 (.t 102) (.t 101), none, none⟩]))
 .skip))))))))))))
 mc_5u))
def mc_1v : MC :=
 (sR [mo (.alloc [(.int .i64 0),(.int .i64 0),(.sl []),(.sl []),(.int .i64 0),(.sl []),(.str []),(.int .i64 0)]) 4]
 (sR [oV 0 13,
 mo (.build [(.int .i64 0),(.int .i64 0), .nils, .nils, (.int .i64 0), .nils, (.str []),(.int .i64 0)] [(0,1,(.t 13))]) 14,
 mo (.alloc [(.int .i64 0),(.int .i64 0),(.sl []),(.sl []),(.int .i64 0),(.sl []),(.str []),(.int .i64 0)]) 5,
 ⟨.st 8 (.t 5) (.t 14), none, none⟩]
 (.seq (.seq (.regI [.op (oV 1 15),
 .op (mo (.len true (.t 15)) 16),
 .op (mo (.bin false .geq (.t 16) (cI 5)) 17),
 .op (oV 17 18),
 .grp mg_5t])
 (.cond (.t 22)
 (.seq (.regD [oV 1 23,
 mo (.sls (.t 23) (some (cI 5)) none) 24,
 mo (.s2b (.t 24)) 25,
 oF 1 5 26,
 ⟨.st 1 (.t 26) (cI 1), none, none⟩,
 oF 2 5 27,
 ⟨.st 1 (.t 27) (.t 25), none, none⟩]
 [[],[0],[1],[],[3],[0,1,2,3,4],[5,2,4,0,1,2,3,4]]
 [[],[0],[0,1],[],[3],[0,1,2,3,4],[0,1,2,3,4,5]])
 (sR [mo (.ld (some 8) (.t 5)) 28,
 ⟨.st 8 (.t 4) (.t 28), none, none⟩]
 .ret))
 .skip))
 (sR [oV 1 29,
 mo (.call (.f 65) [(.t 29)] [] []) 30,
 oV 30 6]
 (.seq (sR [oV 6 31,
 mo (.len false (.t 31)) 32,
 mo (.bin false .eql (.t 32) (cI 0)) 33]
 (.cond (.t 33)
 (sR [mo (.ld (some 8) (.t 5)) 34,
 ⟨.st 8 (.t 4) (.t 34), none, none⟩]
 .ret)
 .skip))
 (.seq (sR [oV 6 35,
 mo (.iad 1 (.t 35) (cI 0)) 36,
 oL 36 37,
 mo (.bin false .eql (.t 37) (.c (.str [116,114,101,101]))) 38]
 (.cond (.t 38)
 (sR [oF 1 5 39,
 ⟨.st 1 (.t 39) (cI 2), none, none⟩]
 (.seq (sR [oC 1 7]
 (.block 0
 (.loop mc_1t)))
 (sR [mo (.ld (some 8) (.t 5)) 63,
 ⟨.st 8 (.t 4) (.t 63), none, none⟩]
 .ret)))
 .skip))
 (sR [oF 1 5 64,
 ⟨.st 1 (.t 64) (cI 3), none, none⟩]
 (.seq (sR [oC 1 10]
 (.block 2
 (.loop mc_1u)))
 (sR [mo (.ld (some 8) (.t 5)) 103,
 ⟨.st 8 (.t 4) (.t 103), none, none⟩]
 .ret)))))))))
theorem Wq_1v {id_ : Int} {s_ : Str} : Cn Tryz.prog 43 [.int .i64 id_, .str s_] [] (F_1v id_ s_) (fun z => GObject.v z) (fun z => []) := fun Q Q' h hQ => by
 refine acallM mc_1v [.fzc 4] [] [.c 4 (some 8)] Tryz.func43 fun M => ?_
 unfold F_1v at h
 unfold mc_1v
 replace h := tY h
 refine tB ?_
 repeat' (first
 | (exact tZ)
 | ((first | refine oblg h ?_ | refine roomG h ?_ | refine fork h ?_ ?_ | refine forkS h ?_ ?_) <;> clear h <;> intro hc h)
 | (obtain ⟨y, hy, h⟩ := h; (first | with_reducible first | have hw := Wq_1s.w hy | have hw := Wq_14.w hy | have hw := Wq_l.w hy); replace hw := tY hw; (first | refine M.sC hw ?_ | refine M.sD hw ?_); clear hw hy; refine tB ?_)
 | (refine M.wh1 (b := mc_1t) [4,5,6] [5,4] (fun x => [(7, .int .i64 x.1)]) (fun x => [.p 5 0 [.int .i64 x.2.1], .p 5 3 [.osl 4083 2 0 x.2.2.length], .o 4083 (.arr 2 (x.2.2.map GItem.v))]) [.gc [4,5,6,7], .ownC 5 3 4083 2 none] h ?_ ?_ <;> first
 | (clear h; intro x Qn K hK1 h; unfold F_1t at h; unfold mc_1t; replace h := tY h; refine tB ?_)
  |(clear h; (try refine tB ?_); exact tU0; done))
 | (refine M.jn1 (b := mc_5u) [4,5,6,10] [5,4] (fun y => []) (fun y => [.p 5 0 [.int .i64 y.1], .p 5 4 [.int .i64 y.2.1], .p 5 5 [.osl 4085 1 0 y.2.2.2.2.length], .p 5 6 [.str y.2.2.1], .p 5 7 [.int .i64 y.2.2.2.1], .o 4085 (.arr 1 (y.2.2.2.2.map (V.int .i64)))]) [.gc [4,5,6,10], .ownC 5 5 4085 1 none] h ?_ ?_ <;> first
 | (clear h; intro Qn K hK2 h; replace h := tY h; refine tB ?_)
  |(clear h; intro y h; unfold mc_5u; replace h := tY h; refine tB ?_))
 | (refine M.wh1 (b := mc_1u) [4,5,6] [5,4] (fun x => [(10, .int .i64 x.1)]) (fun x => [.p 5 0 [.int .i64 x.2.1], .p 5 4 [.int .i64 x.2.2.1], .p 5 5 [.osl 4085 1 0 x.2.2.2.2.2.length], .p 5 6 [.str x.2.2.2.1], .p 5 7 [.int .i64 x.2.2.2.2.1], .o 4085 (.arr 1 (x.2.2.2.2.2.map (V.int .i64)))]) [.gc [4,5,6,10], .ownC 5 5 4085 1 none] h ?_ ?_ <;> first
 | (clear h; intro x Qn K hK3 h; unfold F_1u at h; unfold mc_1u; replace h := tY h; refine tB ?_)
  |(clear h; (try refine tB ?_); exact tU0; done))
 | (refine M.gj1 (ms := mg_5t) [1,4,5] [5,4] (fun y => [(22, .bool y)]) (fun y => []) h ?_ ?_ <;> first
 | (clear h; intro Qn K hK4 h; unfold mg_5t; replace h := tY h; refine tB ?_)
  |(clear h; intro y h; replace h := tY h; refine tB ?_))
 | ((first | refine hK1 _ ?_ | refine hK2 _ ?_ | refine hK3 _ ?_ | refine hK4 _ ?_); (try refine tB ?_); refine ⟨_, h, ?_⟩; exact tU0; done)
 | (refine tE ?_; (first | rw [M.lok_compU] | rw [M.lokD_compU]); refine tB ?_)
 | (refine tA ?_)
 | fail)
def F_2m (o_ : GObject) : Option Bool :=
 grp ((decide ((o_.Items.length : Int) = 0) && decide (o_.Tree = 0))) fun b5 => grp ((b5 && decide ((o_.Parents.length : Int) = 0))) fun b6 => grp ((b6 && decide (o_.Author = []))) fun b7 => grp ((b7 && decide (o_.Time = 0))) fun b8 => some b8
@[irreducible] def mg_5v : List MOp := [gT 7 8 (.fad 4 (.t 1)),
 gT 7 9 (.ld none (.t 8)),
 gT 7 10 (.bin false .eql (.t 9) (cI 0)),
 mo (.pick (.t 7) (.t 10) (.c (.bool false))) 11]
@[irreducible] def mg_5w : List MOp := [gT 12 13 (.fad 5 (.t 1)),
 gT 12 14 (.ld none (.t 13)),
 gT 12 15 (.len false (.t 14)),
 gT 12 16 (.bin false .eql (.t 15) (cI 0)),
 mo (.pick (.t 12) (.t 16) (.c (.bool false))) 17]
@[irreducible] def mg_5x : List MOp := [gT 18 19 (.fad 6 (.t 1)),
 gT 18 20 (.ld none (.t 19)),
 gT 18 21 (.bin false .eql (.t 20) (.c (.str []))),
 mo (.pick (.t 18) (.t 21) (.c (.bool false))) 22]
@[irreducible] def mg_5y : List MOp := [gT 23 24 (.fad 7 (.t 1)),
 gT 23 25 (.ld none (.t 24)),
 gT 23 26 (.bin false .eql (.t 25) (cI 0)),
 mo (.pick (.t 23) (.t 26) (.c (.bool false))) 27]
def mc_2m : MC :=
 (sR [mo (.box (.t 0)) 1,
 mo (.mv (.c (.bool false))) 2]
 (.seq (.regI [.op (oF 3 1 3),
 .op (oL 3 4),
 .op (mo (.len false (.t 4)) 5),
 .op (mo (.bin false .eql (.t 5) (cI 0)) 6),
 .op (oV 6 7),
 .grp mg_5v,
 .op (oV 11 12),
 .grp mg_5w,
 .op (oV 17 18),
 .grp mg_5x,
 .op (oV 22 23),
 .grp mg_5y,
 .op (oV 27 2)])
 .ret))
theorem Wq_2m {o_ : GObject} : Cn Tryz.prog 37 [GObject.v o_] [] (F_2m o_) (fun z => .bool z) (fun z => []) := fun Q Q' h hQ => by
 refine acallM mc_2m [] [] [.t 2] Tryz.func37 fun M => ?_
 unfold F_2m at h
 unfold mc_2m
 replace h := tY h
 refine tB ?_
 repeat' (first
 | (exact tZ)
 | ((first | refine oblg h ?_ | refine roomG h ?_ | refine fork h ?_ ?_ | refine forkS h ?_ ?_) <;> clear h <;> intro hc h)
 | (refine M.gv1 (ms := mg_5y) 27 [24,25,26] h ?_ ?_ <;> first
 | (clear h; intro K hK1; unfold mg_5y; refine tB ?_)
 | (clear h; intro b h; replace h := tY h; refine tB ?_))
 | (refine M.gv1 (ms := mg_5x) 22 [19,20,21] h ?_ ?_ <;> first
 | (clear h; intro K hK2; unfold mg_5x; refine tB ?_)
 | (clear h; intro b h; replace h := tY h; refine tB ?_))
 | (refine M.gv1 (ms := mg_5w) 17 [13,14,15,16] h ?_ ?_ <;> first
 | (clear h; intro K hK3; unfold mg_5w; refine tB ?_)
 | (clear h; intro b h; replace h := tY h; refine tB ?_))
 | (refine M.gv1 (ms := mg_5v) 11 [8,9,10] h ?_ ?_ <;> first
 | (clear h; intro K hK4; unfold mg_5v; refine tB ?_)
 | (clear h; intro b h; replace h := tY h; refine tB ?_))
 | ((first | refine hK1 _ ?_ | refine hK2 _ ?_ | refine hK3 _ ?_ | refine hK4 _ ?_); exact tU; done)
 | (refine bfork (fun hc => ?_) (fun hc => ?_))
 | (refine tE ?_; (first | rw [M.lok_compU] | rw [M.lokD_compU]); refine tB ?_)
 | (refine tA ?_)
 | fail)
noncomputable def F_3j (s_ : Str) (x9 : Int) : Option (Fl Int (Sum Unit Bool)) :=
 bif decide (x9 < (s_.length : Int)) then chk (inb x9 s_.length) (bif decide (((s_.getD (x9).toNat 0).toNat : Int) < 33) then some (.ex (.inr false)) else chk (inb x9 s_.length) (bif decide (126 < ((s_.getD (x9).toNat 0).toNat : Int)) then some (.ex (.inr false)) else chk (inb x9 s_.length) (bif decide (((s_.getD (x9).toNat 0).toNat : Int) = 47) then some (.ex (.inr false)) else chk (in64 (x9 + 1)) (some (.nx (x9 + 1)))))) else some (.ex (.inl ()))
noncomputable def F_y (s_ : Str) : Option Bool :=
 (loop (F_3j s_) 0).bind fun r10 => Sum.elim (fun u11 => grp ((decide (1 ≤ (s_.length : Int)) && decide ((s_.length : Int) ≤ 40))) fun b14 => some b14) (fun u12 => some u12) r10
@[irreducible] def mc_3j : MC :=
 (.seq (sR [oV 3 4,
 oV 0 5,
 mo (.len true (.t 5)) 6,
 mo (.bin false .lss (.t 4) (.t 6)) 7]
 (.cond (.t 7)
 .skip
 (.exit 0)))
 (.seq (.block 1
 (sR [oV 0 10,
 oV 3 11,
 mo (.idx (.t 10) (.t 11)) 12,
 mo (.bin false .lss (.t 12) (.c (.int .u8 33))) 13,
 oV 13 14,
 gF 14 15 (.mv (.t 0)),
 gF 14 16 (.mv (.t 3)),
 gF 14 17 (.idx (.t 15) (.t 16)),
 gF 14 18 (.bin false .gtr (.t 17) (.c (.int .u8 126))),
 mo (.pick (.t 14) (.c (.bool true)) (.t 18)) 19,
 oV 19 20,
 gF 20 21 (.mv (.t 0)),
 gF 20 22 (.mv (.t 3)),
 gF 20 23 (.idx (.t 21) (.t 22)),
 gF 20 24 (.bin false .eql (.t 23) (.c (.int .u8 47))),
 mo (.pick (.t 20) (.c (.bool true)) (.t 24)) 25]
 (.cond (.t 25)
 (sR [mo (.mv (.c (.bool false))) 2]
 .ret)
 .skip)))
 (.note (.gc [0,3,15,16,17,18,21,22,23,24,30,31,32]) (.reg [oV 3 8,
 mo (.bin true .add (.t 8) (cI 1)) 9,
 oV 9 3]))))
@[irreducible] def mg_5z : List MOp := [gT 29 30 (.mv (.t 0)),
 gT 29 31 (.len true (.t 30)),
 gT 29 32 (.bin false .leq (.t 31) (cI 40)),
 mo (.pick (.t 29) (.t 32) (.c (.bool false))) 33]
def mc_y : MC :=
 (sR [mo (.mv (.c (.bool false))) 2]
 (.seq (sR [oC 0 3]
 (.block 0
 (.loop mc_3j)))
 (.seq (.regI [.op (oV 0 26),
 .op (mo (.len true (.t 26)) 27),
 .op (mo (.bin false .geq (.t 27) (cI 1)) 28),
 .op (oV 28 29),
 .grp mg_5z,
 .op (oV 33 2)])
 .ret)))
theorem Wq_y {s_ : Str} : Cn Tryz.prog 62 [.str s_] [] (F_y s_) (fun z => .bool z) (fun z => []) := fun Q Q' h hQ => by
 refine acallM mc_y [] [] [.t 2] Tryz.func62 fun M => ?_
 unfold F_y at h
 unfold mc_y
 replace h := tY h
 refine tB ?_
 repeat' (first
 | (exact tZ)
 | ((first | refine oblg h ?_ | refine roomG h ?_ | refine fork h ?_ ?_ | refine forkS h ?_ ?_) <;> clear h <;> intro hc h)
 | (refine M.wh1 (b := mc_3j) [0] [] (fun x => [(3, .int .i64 x)]) (fun x => []) [] h ?_ ?_ <;> first
 | (clear h; intro x Qn K hK1 h; unfold F_3j at h; unfold mc_3j; replace h := tY h; refine tB ?_)
  |(clear h; (try refine tB ?_); exact tU0; done))
 | (refine M.gv1 (ms := mg_5z) 33 [30,31,32] h ?_ ?_ <;> first
 | (clear h; intro K hK2; unfold mg_5z; refine tB ?_)
 | (clear h; intro b h; replace h := tY h; refine tB ?_))
 | (refine hK1 _ ?_; (try refine tB ?_); refine ⟨_, h, ?_⟩; exact tU0; done)
 | (refine hK2 _ ?_; exact tU; done)
 | (refine bfork (fun hc => ?_) (fun hc => ?_))
 | (refine tE ?_; (first | rw [M.lok_compU] | rw [M.lokD_compU]); refine tB ?_)
 | (refine tA ?_)
 | fail)
noncomputable def F_3k (o_ : GObject) (x39 : Int) : Option (Fl Int (Sum Unit Bool)) :=
 bif decide (x39 < (o_.Items.length : Int)) then jn (α := Fl ((List GItem) × Int × Int × Bool × Bool × Int × Bool × Bool × Bool) Bool) (chk (inb x39 o_.Items.length) ((F_y ((o_.Items.getD (x39).toNat default).Name)).bind fun y53 => bif (!y53) then some (.ex false) else chk (inb x39 o_.Items.length) ((F_8 ((o_.Items.getD (x39).toNat default).ID)).bind fun y54 => bif (!y54) then some (.ex false) else bif decide (0 < x39) then chk (inb x39 o_.Items.length) (chk (in64 (x39 - 1)) (chk (inb (x39 - 1) o_.Items.length) (bif (Op.bytesLess ((o_.Items.getD (x39).toNat default).Name) ((o_.Items.getD ((x39 - 1)).toNat default).Name) || decide ((o_.Items.getD (x39).toNat default).Name = (o_.Items.getD ((x39 - 1)).toNat default).Name)) then some (.ex false) else some (.nx (o_.Items, x39, (o_.Items.getD (x39).toNat default).ID, y54, (!y54), x39, decide (0 < x39), true, (Op.bytesLess ((o_.Items.getD (x39).toNat default).Name) ((o_.Items.getD ((x39 - 1)).toNat default).Name) || decide ((o_.Items.getD (x39).toNat default).Name = (o_.Items.getD ((x39 - 1)).toNat default).Name))))))) else some (.nx (o_.Items, x39, (o_.Items.getD (x39).toNat default).ID, y54, (!y54), x39, decide (0 < x39), false, false))))) fun o => o.elim (fun j50 => chk (in64 (x39 + 1)) (some (.nx (x39 + 1)))) (fun r55 => some (.ex (.inr r55))) else some (.ex (.inl ()))
noncomputable def F_1w (o_ : GObject) : Option Bool :=
 (loop (F_3k o_) 0).bind fun r56 => Sum.elim (fun u57 => grp ((decide ((o_.Data.length : Int) = 0) && decide (o_.Tree = 0))) fun b63 => grp ((b63 && decide ((o_.Parents.length : Int) = 0))) fun b64 => grp ((b64 && decide (o_.Author = []))) fun b65 => grp ((b65 && decide (o_.Time = 0))) fun b66 => some b66) (fun u58 => some u58) r56
@[irreducible] def mc_60 : MC :=
 (.reg [oV 3 9,
 mo (.bin true .add (.t 9) (cI 1)) 10,
 oV 10 3])
@[irreducible] def mc_3k : MC :=
 (.seq (sR [oV 3 4,
 oF 3 1 5,
 oL 5 6,
 mo (.len false (.t 6)) 7,
 mo (.bin false .lss (.t 4) (.t 7)) 8]
 (.cond (.t 8)
 .skip
 (.exit 0)))
 (.cut (.block 1
 (.seq (.regD [oF 3 1 11,
 oL 11 12,
 oV 3 13,
 mo (.iad 2 (.t 12) (.t 13)) 14,
 oF 0 14 15,
 oL 15 16,
 mo (.call (.f 62) [(.t 16)] [] []) 17,
 mo (.not (.t 17)) 18,
 oV 18 19,
 gF 19 20 (.fad 3 (.t 1)),
 gF 19 21 (.ld none (.t 20)),
 gF 19 22 (.mv (.t 3)),
 gF 19 23 (.iad 2 (.t 21) (.t 22)),
 gF 19 24 (.fad 1 (.t 23)),
 gF 19 25 (.ld none (.t 24)),
 gF 19 26 (.call (.f 36) [(.t 25)] [] []),
 gF 19 27 (.not (.t 26)),
 mo (.pick (.t 19) (.c (.bool true)) (.t 27)) 28,
 oV 28 29,
 gF 29 30 (.mv (.t 3)),
 gF 29 31 (.bin false .gtr (.t 30) (cI 0)),
 gF 29 32 (.mv (.t 31)),
 gT 32 33 (.fad 3 (.t 1)),
 gT 32 34 (.ld none (.t 33)),
 gT 32 35 (.mv (.t 3)),
 gT 32 36 (.iad 2 (.t 34) (.t 35)),
 gT 32 37 (.fad 0 (.t 36)),
 gT 32 38 (.ld none (.t 37)),
 gT 32 39 (.fad 3 (.t 1)),
 gT 32 40 (.ld none (.t 39)),
 gT 32 41 (.mv (.t 3)),
 gT 32 42 (.bin true .sub (.t 41) (cI 1)),
 gT 32 43 (.iad 2 (.t 40) (.t 42)),
 gT 32 44 (.fad 0 (.t 43)),
 gT 32 45 (.ld none (.t 44)),
 gT 32 46 (.bin false .leq (.t 38) (.t 45)),
 gF 29 47 (.pick (.t 32) (.t 46) (.c (.bool false))),
 mo (.pick (.t 29) (.c (.bool true)) (.t 47)) 48]
 [[],[0],[],[1,2],[3],[4],[5],[6],[7,6],[8],[9,8],[8],[10,11,8],[12,8],[13,8],[14,8,8],[15,8],[8,16],[17,15],[18],[19,18],[20,18,18],[21],[22,21],[21],[23,24,21],[25,21],[26,21],[21],[28,21],[21],[30,21],[29,31,21],[32,21],[33,21],[27,34,21],[21,35,18],[18,36]]
 [[],[0],[],[0,1,2],[0,1,2,3],[0,1,2,3,4],[0,1,2,3,4,5],[0,1,2,3,4,5,6],[0,1,2,3,4,5,6,7],[0,1,2,3,4,5,6,7,8],[0,1,2,3,4,5,6,7,8,9],[0,1,2,3,4,5,6,7,8],[0,1,2,3,4,5,6,7,8,9,10,11],[0,1,2,3,4,5,6,7,8,9,10,11,12],[0,1,2,3,4,5,6,7,8,9,10,11,12,13],[0,1,2,3,4,5,6,7,8,9,10,11,12,13,14],[0,1,2,3,4,5,6,7,8,9,10,11,12,13,14,15],[0,1,2,3,4,5,6,7,8,9,10,11,12,13,14,15,16],[0,1,2,3,4,5,6,7,8,9,10,11,12,13,14,15,16,17],[0,1,2,3,4,5,6,7,8,9,10,11,12,13,14,15,16,17,18],[0,1,2,3,4,5,6,7,8,9,10,11,12,13,14,15,16,17,18,19],[0,1,2,3,4,5,6,7,8,9,10,11,12,13,14,15,16,17,18,19,20],[0,1,2,3,4,5,6,7,8,9,10,11,12,13,14,15,16,17,18,19,20,21],[0,1,2,3,4,5,6,7,8,9,10,11,12,13,14,15,16,17,18,19,20,21,22],[0,1,2,3,4,5,6,7,8,9,10,11,12,13,14,15,16,17,18,19,20,21],[0,1,2,3,4,5,6,7,8,9,10,11,12,13,14,15,16,17,18,19,20,21,22,23,24],[0,1,2,3,4,5,6,7,8,9,10,11,12,13,14,15,16,17,18,19,20,21,22,23,24,25],[0,1,2,3,4,5,6,7,8,9,10,11,12,13,14,15,16,17,18,19,20,21,22,23,24,25,26],[0,1,2,3,4,5,6,7,8,9,10,11,12,13,14,15,16,17,18,19,20,21],[0,1,2,3,4,5,6,7,8,9,10,11,12,13,14,15,16,17,18,19,20,21,28],[0,1,2,3,4,5,6,7,8,9,10,11,12,13,14,15,16,17,18,19,20,21],[0,1,2,3,4,5,6,7,8,9,10,11,12,13,14,15,16,17,18,19,20,21,30],[0,1,2,3,4,5,6,7,8,9,10,11,12,13,14,15,16,17,18,19,20,21,28,29,30,31],[0,1,2,3,4,5,6,7,8,9,10,11,12,13,14,15,16,17,18,19,20,21,28,29,30,31,32],[0,1,2,3,4,5,6,7,8,9,10,11,12,13,14,15,16,17,18,19,20,21,28,29,30,31,32,33],[0,1,2,3,4,5,6,7,8,9,10,11,12,13,14,15,16,17,18,19,20,21,22,23,24,25,26,27,28,29,30,31,32,33,34],[0,1,2,3,4,5,6,7,8,9,10,11,12,13,14,15,16,17,18,19,20,21,22,23,24,25,26,27,28,29,30,31,32,33,34,35],[0,1,2,3,4,5,6,7,8,9,10,11,12,13,14,15,16,17,18,19,20,21,22,23,24,25,26,27,28,29,30,31,32,33,34,35,36]])
 (.cond (.t 48)
 (sR [mo (.mv (.c (.bool false))) 2]
 .ret)
 .skip)))
 mc_60))
@[irreducible] def mg_61 : List MOp := [gT 53 54 (.fad 4 (.t 1)),
 gT 53 55 (.ld none (.t 54)),
 gT 53 56 (.bin false .eql (.t 55) (cI 0)),
 mo (.pick (.t 53) (.t 56) (.c (.bool false))) 57]
@[irreducible] def mg_62 : List MOp := [gT 58 59 (.fad 5 (.t 1)),
 gT 58 60 (.ld none (.t 59)),
 gT 58 61 (.len false (.t 60)),
 gT 58 62 (.bin false .eql (.t 61) (cI 0)),
 mo (.pick (.t 58) (.t 62) (.c (.bool false))) 63]
@[irreducible] def mg_63 : List MOp := [gT 64 65 (.fad 6 (.t 1)),
 gT 64 66 (.ld none (.t 65)),
 gT 64 67 (.bin false .eql (.t 66) (.c (.str []))),
 mo (.pick (.t 64) (.t 67) (.c (.bool false))) 68]
@[irreducible] def mg_64 : List MOp := [gT 69 70 (.fad 7 (.t 1)),
 gT 69 71 (.ld none (.t 70)),
 gT 69 72 (.bin false .eql (.t 71) (cI 0)),
 mo (.pick (.t 69) (.t 72) (.c (.bool false))) 73]
def mc_1w : MC :=
 (sR [mo (.box (.t 0)) 1,
 mo (.mv (.c (.bool false))) 2]
 (.seq (sR [oC 0 3]
 (.block 0
 (.loop mc_3k)))
 (.seq (.regI [.op (oF 2 1 49),
 .op (oL 49 50),
 .op (mo (.len false (.t 50)) 51),
 .op (mo (.bin false .eql (.t 51) (cI 0)) 52),
 .op (oV 52 53),
 .grp mg_61,
 .op (oV 57 58),
 .grp mg_62,
 .op (oV 63 64),
 .grp mg_63,
 .op (oV 68 69),
 .grp mg_64,
 .op (oV 73 2)])
 .ret)))
theorem Wq_1w {o_ : GObject} : Cn Tryz.prog 38 [GObject.v o_] [] (F_1w o_) (fun z => .bool z) (fun z => []) := fun Q Q' h hQ => by
 refine acallM mc_1w [] [] [.t 2] Tryz.func38 fun M => ?_
 unfold F_1w at h
 unfold mc_1w
 replace h := tY h
 refine tB ?_
 repeat' (first
 | (exact tZ)
 | ((first | refine oblg h ?_ | refine roomG h ?_ | refine fork h ?_ ?_ | refine forkS h ?_ ?_) <;> clear h <;> intro hc h)
 | (obtain ⟨y, hy, h⟩ := h; (first | with_reducible first | have hw := Wq_y.w hy | have hw := Wq_8.w hy); replace hw := tY hw; (first | refine M.sC hw ?_ | refine M.sD hw ?_); clear hw hy; refine tB ?_)
 | (refine M.jnE (b := mc_60) [1,3] [1] (fun y => [(20, .ptr 1 3), (21, .sl (y.1.map GItem.v)), (22, .int .i64 y.2.1), (25, .int .i64 y.2.2.1), (26, .bool y.2.2.2.1), (27, .bool y.2.2.2.2.1), (30, .int .i64 y.2.2.2.2.2.1), (31, .bool y.2.2.2.2.2.2.1), (32, .bool y.2.2.2.2.2.2.2.1), (47, .bool y.2.2.2.2.2.2.2.2)]) (fun y => []) [] h ?_ ?_ <;> first
 | (clear h; intro Qn K hK1 h; replace h := tY h; refine tB ?_)
  |(clear h; intro y h; unfold mc_60; replace h := tY h; refine tB ?_))
 | (refine M.wh1 (b := mc_3k) [1] [1] (fun x => [(3, .int .i64 x)]) (fun x => []) [] h ?_ ?_ <;> first
 | (clear h; intro x Qn K hK2 h; unfold F_3k at h; unfold mc_3k; replace h := tY h; refine tB ?_)
  |(clear h; (try refine tB ?_); exact tU0; done))
 | (refine M.gv1 (ms := mg_64) 73 [70,71,72] h ?_ ?_ <;> first
 | (clear h; intro K hK3; unfold mg_64; refine tB ?_)
 | (clear h; intro b h; replace h := tY h; refine tB ?_))
 | (refine M.gv1 (ms := mg_63) 68 [65,66,67] h ?_ ?_ <;> first
 | (clear h; intro K hK4; unfold mg_63; refine tB ?_)
 | (clear h; intro b h; replace h := tY h; refine tB ?_))
 | (refine M.gv1 (ms := mg_62) 63 [59,60,61,62] h ?_ ?_ <;> first
 | (clear h; intro K hK5; unfold mg_62; refine tB ?_)
 | (clear h; intro b h; replace h := tY h; refine tB ?_))
 | (refine M.gv1 (ms := mg_61) 57 [54,55,56] h ?_ ?_ <;> first
 | (clear h; intro K hK6; unfold mg_61; refine tB ?_)
 | (clear h; intro b h; replace h := tY h; refine tB ?_))
 | ((first | refine hK1 _ ?_ | refine hK2 _ ?_); (try refine tB ?_); refine ⟨_, h, ?_⟩; exact tU0; done)
 | ((first | refine hK3 _ ?_ | refine hK4 _ ?_ | refine hK5 _ ?_ | refine hK6 _ ?_); exact tU; done)
 | (refine bfork (fun hc => ?_) (fun hc => ?_))
 | (refine tE ?_; (first | rw [M.lok_compU] | rw [M.lokD_compU]); refine tB ?_)
 | (refine tA ?_)
 | fail)
noncomputable def F_2n (o_ : GObject) (x109 : Int) (x146 : Int) : Option (Fl Int (Sum Unit Bool)) :=
 bif decide (x146 < x109) then chk (inb x146 o_.Parents.length) (chk (inb x109 o_.Parents.length) (bif decide ((o_.Parents.getD (x146).toNat default) = (o_.Parents.getD (x109).toNat default)) then some (.ex (.inr false)) else chk (in64 (x146 + 1)) (some (.nx (x146 + 1))))) else some (.ex (.inl ()))
noncomputable def F_3l (o_ : GObject) (x109 : Int) : Option (Fl Int (Sum Unit Bool)) :=
 bif decide (x109 < (o_.Parents.length : Int)) then chk (inb x109 o_.Parents.length) ((F_8 (o_.Parents.getD (x109).toNat default)).bind fun y143 => bif (!y143) then some (.ex (.inr false)) else (loop (F_2n o_ x109) 0).bind fun r147 => Sum.elim (fun u148 => chk (in64 (x109 + 1)) (some (.nx (x109 + 1)))) (fun u149 => some (.ex (.inr u149))) r147) else some (.ex (.inl ()))
noncomputable def F_1x (o_ : GObject) : Option Bool :=
 (loop (F_3l o_) 0).bind fun r150 => Sum.elim (fun u151 => grp ((decide ((o_.Data.length : Int) = 0) && decide ((o_.Items.length : Int) = 0))) fun b160 => jn (α := Bool) (bif b160 then (F_8 o_.Tree).bind fun y162 => some y162 else some false) fun j163 => jn (α := Bool) (bif j163 then (F_y o_.Author).bind fun y165 => some y165 else some false) fun j166 => grp ((j166 && decide (0 ≤ o_.Time))) fun b167 => grp ((b167 && decide (o_.Time ≤ 1099511627776))) fun b168 => some b168) (fun u152 => some u152) r150
@[irreducible] def mc_2n : MC :=
 (.seq (sR [oV 4 19,
 oV 3 20,
 mo (.bin false .lss (.t 19) (.t 20)) 21]
 (.cond (.t 21)
 .skip
 (.exit 2)))
 (.seq (.block 3
 (.seq (.regD [oF 5 1 24,
 oL 24 25,
 oV 4 26,
 mo (.iad 1 (.t 25) (.t 26)) 27,
 oL 27 28,
 oF 5 1 29,
 oL 29 30,
 oV 3 31,
 mo (.iad 1 (.t 30) (.t 31)) 32,
 oL 32 33,
 mo (.bin false .eql (.t 28) (.t 33)) 34]
 [[],[0],[],[1,2],[3],[],[5],[],[6,7],[8],[4,9]]
 [[],[0],[],[0,1,2],[0,1,2,3],[],[5],[],[5,6,7],[5,6,7,8],[0,1,2,3,4,5,6,7,8,9]])
 (.cond (.t 34)
 (sR [mo (.mv (.c (.bool false))) 2]
 .ret)
 .skip)))
 (.note (.gc [1,3,4,40,41,42,43,46,47,48,51,52,53,56,57,58,61,62,63]) (.reg [oV 4 22,
 mo (.bin true .add (.t 22) (cI 1)) 23,
 oV 23 4]))))
@[irreducible] def mc_3l : MC :=
 (.seq (sR [oV 3 5,
 oF 5 1 6,
 oL 6 7,
 mo (.len false (.t 7)) 8,
 mo (.bin false .lss (.t 5) (.t 8)) 9]
 (.cond (.t 9)
 .skip
 (.exit 0)))
 (.seq (.block 1
 (.seq (sR [oF 5 1 12,
 oL 12 13,
 oV 3 14,
 mo (.iad 1 (.t 13) (.t 14)) 15,
 oL 15 16,
 mo (.call (.f 36) [(.t 16)] [] []) 17,
 mo (.not (.t 17)) 18]
 (.cond (.t 18)
 (sR [mo (.mv (.c (.bool false))) 2]
 .ret)
 .skip))
 (sR [oC 0 4]
 (.block 2
 (.loop mc_2n)))))
 (.reg [oV 3 10,
 mo (.bin true .add (.t 10) (cI 1)) 11,
 oV 11 3])))
@[irreducible] def mg_65 : List MOp := [gT 39 40 (.fad 3 (.t 1)),
 gT 39 41 (.ld none (.t 40)),
 gT 39 42 (.len false (.t 41)),
 gT 39 43 (.bin false .eql (.t 42) (cI 0)),
 mo (.pick (.t 39) (.t 43) (.c (.bool false))) 44]
@[irreducible] def mg_66 : List MOp := [gT 45 46 (.fad 4 (.t 1)),
 gT 45 47 (.ld none (.t 46)),
 gT 45 48 (.call (.f 36) [(.t 47)] [] []),
 mo (.pick (.t 45) (.t 48) (.c (.bool false))) 49]
@[irreducible] def mg_67 : List MOp := [gT 50 51 (.fad 6 (.t 1)),
 gT 50 52 (.ld none (.t 51)),
 gT 50 53 (.call (.f 62) [(.t 52)] [] []),
 mo (.pick (.t 50) (.t 53) (.c (.bool false))) 54]
@[irreducible] def mg_68 : List MOp := [gT 55 56 (.fad 7 (.t 1)),
 gT 55 57 (.ld none (.t 56)),
 gT 55 58 (.bin false .geq (.t 57) (cI 0)),
 mo (.pick (.t 55) (.t 58) (.c (.bool false))) 59]
@[irreducible] def mg_69 : List MOp := [gT 60 61 (.fad 7 (.t 1)),
 gT 60 62 (.ld none (.t 61)),
 gT 60 63 (.bin false .leq (.t 62) (cI 1099511627776)),
 mo (.pick (.t 60) (.t 63) (.c (.bool false))) 64]
def mc_1x : MC :=
 (sR [mo (.box (.t 0)) 1,
 mo (.mv (.c (.bool false))) 2]
 (.seq (sR [oC 0 3]
 (.block 0
 (.loop mc_3l)))
 (.seq (.regI [.op (oF 2 1 35),
 .op (oL 35 36),
 .op (mo (.len false (.t 36)) 37),
 .op (mo (.bin false .eql (.t 37) (cI 0)) 38),
 .op (oV 38 39),
 .grp mg_65,
 .op (oV 44 45),
 .grp mg_66,
 .op (oV 49 50),
 .grp mg_67,
 .op (oV 54 55),
 .grp mg_68,
 .op (oV 59 60),
 .grp mg_69,
 .op (oV 64 2)])
 .ret)))
theorem Wq_1x {o_ : GObject} : Cn Tryz.prog 39 [GObject.v o_] [] (F_1x o_) (fun z => .bool z) (fun z => []) := fun Q Q' h hQ => by
 refine acallM mc_1x [] [] [.t 2] Tryz.func39 fun M => ?_
 unfold F_1x at h
 unfold mc_1x
 replace h := tY h
 refine tB ?_
 repeat' (first
 | (exact tZ)
 | ((first | refine oblg h ?_ | refine roomG h ?_ | refine fork h ?_ ?_ | refine forkS h ?_ ?_) <;> clear h <;> intro hc h)
 | (obtain ⟨y, hy, h⟩ := h; (first | with_reducible first | have hw := Wq_8.w hy | have hw := Wq_y.w hy); replace hw := tY hw; (first | refine M.sC hw ?_ | refine M.sD hw ?_); clear hw hy; refine tB ?_)
 | (refine M.wh1 (b := mc_2n) [1,3] [1] (fun x => [(4, .int .i64 x)]) (fun x => []) [] h ?_ ?_ <;> first
 | (clear h; intro x Qn K hK1 h; unfold F_2n at h; unfold mc_2n; replace h := tY h; refine tB ?_)
  |(clear h; (try refine tB ?_); exact tU0; done))
 | (refine M.wh1 (b := mc_3l) [1] [1] (fun x => [(3, .int .i64 x)]) (fun x => []) [] h ?_ ?_ <;> first
 | (clear h; intro x Qn K hK2 h; unfold F_3l at h; unfold mc_3l; replace h := tY h; refine tB ?_)
  |(clear h; (try refine tB ?_); exact tU0; done))
 | (refine M.gv1 (ms := mg_69) 64 [61,62,63] h ?_ ?_ <;> first
 | (clear h; intro K hK3; unfold mg_69; refine tB ?_)
 | (clear h; intro b h; replace h := tY h; refine tB ?_))
 | (refine M.gv1 (ms := mg_68) 59 [56,57,58] h ?_ ?_ <;> first
 | (clear h; intro K hK4; unfold mg_68; refine tB ?_)
 | (clear h; intro b h; replace h := tY h; refine tB ?_))
 | (refine M.gj1 (ms := mg_67) [1] [1] (fun y => [(54, .bool y)]) (fun y => []) h ?_ ?_ <;> first
 | (clear h; intro Qn K hK5 h; unfold mg_67; replace h := tY h; refine tB ?_)
  |(clear h; intro y h; replace h := tY h; refine tB ?_))
 | (refine M.gj1 (ms := mg_66) [1] [1] (fun y => [(49, .bool y)]) (fun y => []) h ?_ ?_ <;> first
 | (clear h; intro Qn K hK6 h; unfold mg_66; replace h := tY h; refine tB ?_)
  |(clear h; intro y h; replace h := tY h; refine tB ?_))
 | (refine M.gv1 (ms := mg_65) 44 [40,41,42,43] h ?_ ?_ <;> first
 | (clear h; intro K hK7; unfold mg_65; refine tB ?_)
 | (clear h; intro b h; replace h := tY h; refine tB ?_))
 | ((first | refine hK1 _ ?_ | refine hK2 _ ?_ | refine hK5 _ ?_ | refine hK6 _ ?_); (try refine tB ?_); refine ⟨_, h, ?_⟩; exact tU0; done)
 | ((first | refine hK3 _ ?_ | refine hK4 _ ?_ | refine hK7 _ ?_); exact tU; done)
 | (refine bfork (fun hc => ?_) (fun hc => ?_))
 | (refine tE ?_; (first | rw [M.lok_compU] | rw [M.lokD_compU]); refine tB ?_)
 | (refine tA ?_)
 | fail)
noncomputable def F_m (o_ : GObject) : Option Int :=
 (F_8 o_.ID).bind fun y4 => bif (!y4) then some 2 else grp ((decide (65536 < (o_.Data.length : Int)) || decide (64 < (o_.Items.length : Int)))) fun b11 => grp ((b11 || decide (8 < (o_.Parents.length : Int)))) fun b12 => bif b12 then some 3 else jn (α := Bool) (bif decide (o_.Kind = 1) then (F_2m o_).bind fun y46 => some y46 else some false) fun j47 => bif j47 then some 0 else jn (α := Bool) (bif decide (o_.Kind = 2) then (F_1w o_).bind fun y51 => some y51 else some false) fun j52 => bif j52 then some 0 else jn (α := Bool) (bif decide (o_.Kind = 3) then (F_1x o_).bind fun y54 => some y54 else some false) fun j55 => bif j55 then some 0 else some 1
@[irreducible] def mg_6a : List MOp := [gF 11 12 (.fad 3 (.t 1)),
 gF 11 13 (.ld none (.t 12)),
 gF 11 14 (.len false (.t 13)),
 gF 11 15 (.bin false .gtr (.t 14) (cI 64)),
 mo (.pick (.t 11) (.c (.bool true)) (.t 15)) 16]
@[irreducible] def mg_6b : List MOp := [gF 17 18 (.fad 5 (.t 1)),
 gF 17 19 (.ld none (.t 18)),
 gF 17 20 (.len false (.t 19)),
 gF 17 21 (.bin false .gtr (.t 20) (cI 8)),
 mo (.pick (.t 17) (.c (.bool true)) (.t 21)) 22]
@[irreducible] def mg_6c : List MOp := [gT 27 28 (.ld (some 8) (.t 1)),
 gT 27 29 (.call (.f 37) [(.t 28)] [] []),
 mo (.pick (.t 27) (.t 29) (.c (.bool false))) 30]
@[irreducible] def mg_6d : List MOp := [gT 34 35 (.ld (some 8) (.t 1)),
 gT 34 36 (.call (.f 38) [(.t 35)] [] []),
 mo (.pick (.t 34) (.t 36) (.c (.bool false))) 37]
@[irreducible] def mg_6e : List MOp := [gT 41 42 (.ld (some 8) (.t 1)),
 gT 41 43 (.call (.f 39) [(.t 42)] [] []),
 mo (.pick (.t 41) (.t 43) (.c (.bool false))) 44]
def mc_m : MC :=
 (sR [mo (.box (.t 0)) 1,
 oC 0 2]
 (.seq (sR [oF 0 1 3,
 oL 3 4,
 mo (.call (.f 36) [(.t 4)] [] []) 5,
 mo (.not (.t 5)) 6]
 (.cond (.t 6)
 (sR [oC 2 2]
 .ret)
 .skip))
 (.seq (.seq (.regI [.op (oF 2 1 7),
 .op (oL 7 8),
 .op (mo (.len false (.t 8)) 9),
 .op (mo (.bin false .gtr (.t 9) (cI 65536)) 10),
 .op (oV 10 11),
 .grp mg_6a,
 .op (oV 16 17),
 .grp mg_6b])
 (.cond (.t 22)
 (sR [oC 3 2]
 .ret)
 .skip))
 (.seq (.block 0
 (.seq (.seq (.note (.gc [1,28,29,35,36,42,43]) (.regI [.op (oF 1 1 24),
 .op (oL 24 25),
 .op (mo (.bin false .eql (.t 25) (cI 1)) 26),
 .op (oV 26 27),
 .grp mg_6c,
 .op (oV 30 23)]))
 (.cond (.t 23)
 .skip
 (.seq (.regI [.op (oF 1 1 31),
 .op (oL 31 32),
 .op (mo (.bin false .eql (.t 32) (cI 2)) 33),
 .op (oV 33 34),
 .grp mg_6d,
 .op (oV 37 23)])
 (.cond (.t 23)
 .skip
 (.regI [.op (oF 1 1 38),
 .op (oL 38 39),
 .op (mo (.bin false .eql (.t 39) (cI 3)) 40),
 .op (oV 40 41),
 .grp mg_6e,
 .op (oV 44 23)])))))
 (.cond (.t 23)
 (sR [oC 0 2]
 .ret)
 .skip)))
 (sR [oC 1 2]
 .ret)))))
theorem Wq_m {o_ : GObject} : Cn Tryz.prog 21 [GObject.v o_] [] (F_m o_) (fun z => .int .i64 z) (fun z => []) := fun Q Q' h hQ => by
 refine acallM mc_m [] [] [.t 2] Tryz.func21 fun M => ?_
 unfold F_m at h
 unfold mc_m
 replace h := tY h
 refine tB ?_
 repeat' (first
 | (exact tZ)
 | ((first | refine oblg h ?_ | refine roomG h ?_ | refine fork h ?_ ?_ | refine forkS h ?_ ?_) <;> clear h <;> intro hc h)
 | (obtain ⟨y, hy, h⟩ := h; (first | with_reducible first | have hw := Wq_8.w hy | have hw := Wq_2m.w hy | have hw := Wq_1w.w hy | have hw := Wq_1x.w hy); replace hw := tY hw; (first | refine M.sC hw ?_ | refine M.sD hw ?_); clear hw hy; refine tB ?_)
 | (refine M.gj1 (ms := mg_6e) [23] [] (fun y => [(44, .bool y)]) (fun y => []) h ?_ ?_ <;> first
 | (clear h; intro Qn K hK1 h; unfold mg_6e; replace h := tY h; refine tB ?_)
  |(clear h; intro y h; replace h := tY h; refine tB ?_))
 | (refine M.gj1 (ms := mg_6d) [1,23] [1] (fun y => [(37, .bool y)]) (fun y => []) h ?_ ?_ <;> first
 | (clear h; intro Qn K hK2 h; unfold mg_6d; replace h := tY h; refine tB ?_)
  |(clear h; intro y h; replace h := tY h; refine tB ?_))
 | (refine M.gj1 (ms := mg_6c) [1] [1] (fun y => [(30, .bool y)]) (fun y => []) h ?_ ?_ <;> first
 | (clear h; intro Qn K hK3 h; unfold mg_6c; replace h := tY h; refine tB ?_)
  |(clear h; intro y h; replace h := tY h; refine tB ?_))
 | (refine M.gv1 (ms := mg_6b) 22 [18,19,20,21] h ?_ ?_ <;> first
 | (clear h; intro K hK4; unfold mg_6b; refine tB ?_)
 | (clear h; intro b h; replace h := tY h; refine tB ?_))
 | (refine M.gv1 (ms := mg_6a) 16 [12,13,14,15] h ?_ ?_ <;> first
 | (clear h; intro K hK5; unfold mg_6a; refine tB ?_)
 | (clear h; intro b h; replace h := tY h; refine tB ?_))
 | ((first | refine hK1 _ ?_ | refine hK2 _ ?_ | refine hK3 _ ?_); (try refine tB ?_); refine ⟨_, h, ?_⟩; exact tU0; done)
 | ((first | refine hK4 _ ?_ | refine hK5 _ ?_); exact tU; done)
 | (refine bfork (fun hc => ?_) (fun hc => ?_))
 | (refine tE ?_; (first | rw [M.lok_compU] | rw [M.lokD_compU]); refine tB ?_)
 | (refine tA ?_)
 | fail)
def FR_1 : Nat → Int → Option Str
 | 0, _ => none
 | n + 1, n_ =>
 bif decide (n_ < 10) then some [(u8 (48 + ((u8 n_).toNat : Int)))] else chk (divs n_ 10) ((FR_1 n (n_ / 10)).bind fun y2 => chk (divs n_ 10) (chk (strl (y2.length + [(u8 (48 + ((u8 (n_ % 10)).toNat : Int)))].length)) (some (y2 ++ [(u8 (48 + ((u8 (n_ % 10)).toNat : Int)))]))))
noncomputable def F_1 (n_ : Int) : Option Str := lim fun n => FR_1 n n_
def mc_1 : MC :=
 (sR [mo (.mv (.c (.str []))) 2]
 (.seq (sR [oV 0 3,
 mo (.bin false .lss (.t 3) (cI 10)) 4]
 (.cond (.t 4)
 (sR [oV 0 5,
 mo (.i2i false .u8 (.t 5)) 6,
 mo (.bin false .add (.c (.int .u8 48)) (.t 6)) 7,
 mo (.bslice 1 [(.t 7)]) 8,
 mo (.b2s (.t 8)) 9,
 oV 9 2]
 .ret)
 .skip))
 (.seq (.regD [oV 0 10,
 mo (.bin true .quo (.t 10) (cI 10)) 11,
 mo (.call (.f 68) [(.t 11)] [] []) 12,
 oV 0 13,
 mo (.bin true .rem (.t 13) (cI 10)) 14,
 mo (.i2i false .u8 (.t 14)) 15,
 mo (.bin false .add (.c (.int .u8 48)) (.t 15)) 16,
 mo (.bslice 1 [(.t 16)]) 17,
 mo (.b2s (.t 17)) 18,
 mo (.bin false .add (.t 12) (.t 18)) 19,
 oV 19 2]
 [[],[0],[1],[],[3],[4],[5],[6],[7],[2,8],[9,2,0,1,2,3,4,5,6,7,8,9]]
 [[],[0],[0,1],[],[3],[3,4],[3,4,5],[3,4,5,6],[3,4,5,6,7],[0,1,2,3,4,5,6,7,8],[0,1,2,3,4,5,6,7,8,9]])
 .ret)))
theorem Wq_1 {n : Nat} (ih_ref13_number : ∀ {n_ : Int} {y : Str}, FR_1 n n_ = some y → ACall Tryz.prog 68 [.int .i64 n_] [] (fun r H => r = .str y ∧ H = [])) (n_ : Int) {Q : Str → Prop} {Q' : V → Heap → Prop} (h : Ok (FR_1 (n + 1) n_) Q) (hQ : ∀ z, Q z → Q' (.str z) []) : ACall Tryz.prog 68 [.int .i64 n_] [] Q' := by
 refine acallM mc_1 [] [] [.t 2] Tryz.func68 fun M => ?_
 simp only [FR_1] at h
 unfold mc_1
 replace h := tY h
 refine tB ?_
 repeat' (first
 | (exact tZ)
 | ((first | refine oblg h ?_ | refine roomG h ?_ | refine divG h ?_ | refine fork h ?_ ?_ | refine forkS h ?_ ?_) <;> clear h <;> intro hc h)
 | (obtain ⟨y, hy, h⟩ := h; have hw := ih_ref13_number hy; replace hw := tY hw; (first | refine M.sC hw ?_ | refine M.sD hw ?_); clear hw hy; refine tB ?_)
 | (refine tE ?_; (first | rw [M.lok_compU] | rw [M.lokD_compU]); refine tB ?_)
 | (refine tA ?_)
 | fail)
theorem WG_1 : ∀ n, (∀ {n_ : Int} {y : Str}, FR_1 n n_ = some y → ACall Tryz.prog 68 [.int .i64 n_] [] (fun r H => r = .str y ∧ H = []))
 | 0 => fun hy => by simp only [FR_1] at hy; cases hy
 | n + 1 => by
  have ih_ref13_number := @WG_1 n
  exact fun hy => Wq_1 ih_ref13_number _ (Q := (· = _)) ⟨_, hy, rfl⟩ fun | _, rfl => ⟨rfl, rfl⟩
theorem W_1 : ∀ {n_ : Int} {y : Str}, F_1 n_ = some y → ACall Tryz.prog 68 [.int .i64 n_] [] (fun r H => r = .str y ∧ H = []) := fun hy => by
 obtain ⟨n, hn⟩ := lim_inv hy
 exact (WG_1 n) hn
noncomputable def F_2o (o_ : GObject) (x37 : Str × Int) : Option (Fl (Str × Int) Str) :=
 bif decide (x37.2 < (o_.Items.length : Int)) then chk (inb x37.2 o_.Items.length) ((F_1 ((o_.Items.getD (x37.2).toNat default).ID)).bind fun y41 => chk (strl (y41.length + [32].length)) (chk (inb x37.2 o_.Items.length) (chk (strl ((y41 ++ [32]).length + ((o_.Items.getD (x37.2).toNat default).Name).length)) (chk (strl (((y41 ++ [32]) ++ (o_.Items.getD (x37.2).toNat default).Name).length + [10].length)) (chk (strl (x37.1.length + (((y41 ++ [32]) ++ (o_.Items.getD (x37.2).toNat default).Name) ++ [10]).length)) (chk (in64 (x37.2 + 1)) (some (.nx ((x37.1 ++ (((y41 ++ [32]) ++ (o_.Items.getD (x37.2).toNat default).Name) ++ [10])), (x37.2 + 1)))))))))) else some (.ex x37.1)
noncomputable def F_2p (o_ : GObject) (x61 : Str × Int) : Option (Fl (Str × Int) Str) :=
 bif decide (x61.2 < (o_.Parents.length : Int)) then chk (inb x61.2 o_.Parents.length) ((F_1 (o_.Parents.getD (x61.2).toNat default)).bind fun y65 => chk (strl ([112,97,114,101,110,116,32].length + y65.length)) (chk (strl (([112,97,114,101,110,116,32] ++ y65).length + [10].length)) (chk (strl (x61.1.length + (([112,97,114,101,110,116,32] ++ y65) ++ [10]).length)) (chk (in64 (x61.2 + 1)) (some (.nx ((x61.1 ++ (([112,97,114,101,110,116,32] ++ y65) ++ [10])), (x61.2 + 1)))))))) else some (.ex x61.1)
noncomputable def F_z (o_ : GObject) : Option (List UInt8) :=
 bif decide (o_.Kind = 1) then chk (room ([98,108,111,98,10].length + o_.Data.length) 1) (some ([98,108,111,98,10] ++ o_.Data)) else bif decide (o_.Kind = 2) then (loop (F_2o o_) ([116,114,101,101,10],0)).bind fun r42 => some r42 else (F_1 o_.Tree).bind fun y44 => chk (strl ([99,111,109,109,105,116,10,116,114,101,101,32].length + y44.length)) (chk (strl (([99,111,109,109,105,116,10,116,114,101,101,32] ++ y44).length + [10].length)) ((loop (F_2p o_) ((([99,111,109,109,105,116,10,116,114,101,101,32] ++ y44) ++ [10]),0)).bind fun r66 => chk (strl (r66.length + [97,117,116,104,111,114,32].length)) (chk (strl ((r66 ++ [97,117,116,104,111,114,32]).length + o_.Author.length)) (chk (strl (((r66 ++ [97,117,116,104,111,114,32]) ++ o_.Author).length + [10,116,105,109,101,32].length)) ((F_1 o_.Time).bind fun y68 => chk (strl ((((r66 ++ [97,117,116,104,111,114,32]) ++ o_.Author) ++ [10,116,105,109,101,32]).length + y68.length)) (chk (strl (((((r66 ++ [97,117,116,104,111,114,32]) ++ o_.Author) ++ [10,116,105,109,101,32]) ++ y68).length + [10].length)) (some (((((r66 ++ [97,117,116,104,111,114,32]) ++ o_.Author) ++ [10,116,105,109,101,32]) ++ y68) ++ [10]))))))))
@[irreducible] def mc_2o : MC :=
 (.seq (sR [oV 4 18,
 oF 3 1 19,
 oL 19 20,
 mo (.len false (.t 20)) 21,
 mo (.bin false .lss (.t 18) (.t 21)) 22]
 (.cond (.t 22)
 .skip
 (.exit 1)))
 (.seq (.block 2
 (.regD [oV 3 25,
 oF 3 1 26,
 oL 26 27,
 oV 4 28,
 mo (.iad 2 (.t 27) (.t 28)) 29,
 oF 1 29 30,
 oL 30 31,
 mo (.call (.f 68) [(.t 31)] [] []) 32,
 mo (.bin false .add (.t 32) (.c (.str [32]))) 33,
 oF 3 1 34,
 oL 34 35,
 oV 4 36,
 mo (.iad 2 (.t 35) (.t 36)) 37,
 oF 0 37 38,
 oL 38 39,
 mo (.bin false .add (.t 33) (.t 39)) 40,
 mo (.bin false .add (.t 40) (.c (.str [10]))) 41,
 mo (.bin false .add (.t 25) (.t 41)) 42,
 oV 42 3]
 [[],[],[1],[],[2,3],[4],[5],[6],[7],[],[9],[],[10,11],[12],[13],[8,14],[15],[0,16],[17,7,0,1,2,3,4,5,6,7,8,9,10,11,12,13,14,15,16,17]]
 [[],[],[1],[],[1,2,3],[1,2,3,4],[1,2,3,4,5],[1,2,3,4,5,6],[1,2,3,4,5,6,7],[],[9],[],[9,10,11],[9,10,11,12],[9,10,11,12,13],[1,2,3,4,5,6,7,8,9,10,11,12,13,14],[1,2,3,4,5,6,7,8,9,10,11,12,13,14,15],[0,1,2,3,4,5,6,7,8,9,10,11,12,13,14,15,16],[0,1,2,3,4,5,6,7,8,9,10,11,12,13,14,15,16,17]]))
 (.note (.gc [1,3,4]) (.reg [oV 4 23,
 mo (.bin true .add (.t 23) (cI 1)) 24,
 oV 24 4]))))
@[irreducible] def mc_2p : MC :=
 (.seq (sR [oV 6 50,
 oF 5 1 51,
 oL 51 52,
 mo (.len false (.t 52)) 53,
 mo (.bin false .lss (.t 50) (.t 53)) 54]
 (.cond (.t 54)
 .skip
 (.exit 3)))
 (.seq (.block 4
 (.reg [oV 5 57,
 oF 5 1 58,
 oL 58 59,
 oV 6 60,
 mo (.iad 1 (.t 59) (.t 60)) 61,
 oL 61 62,
 mo (.call (.f 68) [(.t 62)] [] []) 63,
 mo (.bin false .add (.c (.str [112,97,114,101,110,116,32])) (.t 63)) 64,
 mo (.bin false .add (.t 64) (.c (.str [10]))) 65,
 mo (.bin false .add (.t 57) (.t 65)) 66,
 oV 66 5]))
 (.note (.gc [1,5,6]) (.reg [oV 6 55,
 mo (.bin true .add (.t 55) (cI 1)) 56,
 oV 56 6]))))
def mc_z : MC :=
 (sR [mo (.box (.t 0)) 1,
 mo (.mv (.c (.sl []))) 2]
 (.seq (sR [oF 1 1 7,
 oL 7 8]
 (.block 0
 (sR [mo (.bin false .eql (.t 8) (cI 1)) 10,
 oV 10 9]
 (.cond (.t 9)
 (sR [mo (.bslice 1 [(.c (.int .u8 98)),(.c (.int .u8 108)),(.c (.int .u8 111)),(.c (.int .u8 98)),(.c (.int .u8 10))]) 11,
 mo (.mks (.t 11)) 12,
 oF 2 1 13,
 oL 13 14,
 mo (.app 1 1 (.t 12) (.t 14)) 15,
 oV 15 2]
 .ret)
 (sR [mo (.bin false .eql (.t 8) (cI 2)) 17,
 oV 17 16]
 (.cond (.t 16)
 (sR [mo (.mv (.c (.str [116,114,101,101,10]))) 3]
 (.seq (sR [oC 0 4]
 (.block 1
 (.loop mc_2o)))
 (sR [oV 3 43,
 mo (.s2b (.t 43)) 44,
 oV 44 2]
 .ret)))
 .skip))))))
 (.seq (.note (.gc [1]) (.reg [oF 4 1 45,
 oL 45 46,
 mo (.call (.f 68) [(.t 46)] [] []) 47,
 mo (.bin false .add (.c (.str [99,111,109,109,105,116,10,116,114,101,101,32])) (.t 47)) 48,
 mo (.bin false .add (.t 48) (.c (.str [10]))) 49,
 oV 49 5]))
 (.seq (sR [oC 0 6]
 (.block 3
 (.loop mc_2p)))
 (.seq (.regD [oV 5 67,
 mo (.bin false .add (.t 67) (.c (.str [97,117,116,104,111,114,32]))) 68,
 oF 6 1 69,
 oL 69 70,
 mo (.bin false .add (.t 68) (.t 70)) 71,
 mo (.bin false .add (.t 71) (.c (.str [10,116,105,109,101,32]))) 72,
 oF 7 1 73,
 oL 73 74,
 mo (.call (.f 68) [(.t 74)] [] []) 75,
 mo (.bin false .add (.t 72) (.t 75)) 76,
 mo (.bin false .add (.t 76) (.c (.str [10]))) 77,
 mo (.s2b (.t 77)) 78,
 oV 78 2]
 [[],[0],[],[2],[1,3],[4],[],[6],[7],[5,8],[9],[10],[11,8,0,1,2,3,4,5,6,7,8,9,10,11]]
 [[],[0],[],[2],[0,1,2,3],[0,1,2,3,4],[],[6],[6,7],[0,1,2,3,4,5,6,7,8],[0,1,2,3,4,5,6,7,8,9],[0,1,2,3,4,5,6,7,8,9,10],[0,1,2,3,4,5,6,7,8,9,10,11]])
 .ret)))))
theorem Wq_z {o_ : GObject} : Cn Tryz.prog 44 [GObject.v o_] [] (F_z o_) (fun z => .sl (z.map byteV)) (fun z => []) := fun Q Q' h hQ => by
 refine acallM mc_z [.fz 2] [] [.t 2] Tryz.func44 fun M => ?_
 unfold F_z at h
 unfold mc_z
 replace h := tY h
 refine tB ?_
 repeat' (first
 | (exact tZ)
 | ((first | refine oblg h ?_ | refine roomG h ?_ | refine fork h ?_ ?_ | refine forkS h ?_ ?_) <;> clear h <;> intro hc h)
 | (obtain ⟨y, hy, h⟩ := h; have hw := W_1 hy; replace hw := tY hw; (first | refine M.sC hw ?_ | refine M.sD hw ?_); clear hw hy; refine tB ?_)
 | (refine M.wh1 (b := mc_2o) [1] [1] (fun x => [(3, .str x.1), (4, .int .i64 x.2)]) (fun x => []) [] h ?_ ?_ <;> first
 | (clear h; intro x Qn K hK1 h; unfold F_2o at h; unfold mc_2o; replace h := tY h; refine tB ?_)
  |(clear h; (try refine tB ?_); exact tU0; done))
 | (refine M.wh1 (b := mc_2p) [1] [1] (fun x => [(5, .str x.1), (6, .int .i64 x.2)]) (fun x => []) [] h ?_ ?_ <;> first
 | (clear h; intro x Qn K hK2 h; unfold F_2p at h; unfold mc_2p; replace h := tY h; refine tB ?_)
  |(clear h; (try refine tB ?_); exact tU0; done))
 | ((first | refine hK1 _ ?_ | refine hK2 _ ?_); (try refine tB ?_); refine ⟨_, h, ?_⟩; exact tU0; done)
 | (refine tE ?_; (first | rw [M.lok_compU] | rw [M.lokD_compU]); refine tB ?_)
 | (refine tA ?_)
 | fail)
noncomputable def F_15 (id_ : Int) (b_ : List UInt8) : Option (GObject × Int) :=
 (F_8 id_).bind fun y4 => bif (!y4) then some ((GObject.mk 0 0 [] [] 0 [] [] 0),2) else (F_1v id_ b_).bind fun y6 => (F_m y6).bind fun y13 => bif (!decide (y13 = 0)) then some ((GObject.mk 0 0 [] [] 0 [] [] 0),10) else (F_z y6).bind fun y14 => bif (!decide (y14 = b_)) then some ((GObject.mk 0 0 [] [] 0 [] [] 0),10) else some (y6,0)
def mc_15 : MC :=
 (sR [mo (.alloc [(.int .i64 0),(.int .i64 0),(.sl []),(.sl []),(.int .i64 0),(.sl []),(.str []),(.int .i64 0)]) 4,
 oC 0 5]
 (.seq (sR [oV 0 7,
 mo (.call (.f 36) [(.t 7)] [] []) 8,
 mo (.not (.t 8)) 9]
 (.cond (.t 9)
 (sR [mo (.build [(.int .i64 0),(.int .i64 0),(.sl []),(.sl []),(.int .i64 0),(.sl []),(.str []),(.int .i64 0)] []) 10,
 ⟨.st 8 (.t 4) (.t 10), none, none⟩,
 oC 2 5]
 .ret)
 .skip))
 (sR [oV 0 11,
 oV 1 12,
 mo (.b2s (.t 12)) 13,
 mo (.call (.f 43) [(.t 11),(.t 13)] [] []) 14,
 mo (.alloc [(.int .i64 0),(.int .i64 0),(.sl []),(.sl []),(.int .i64 0),(.sl []),(.str []),(.int .i64 0)]) 6,
 ⟨.st 8 (.t 6) (.t 14), none, none⟩]
 (.seq (.seq (.note (.gc [1,4,6,19,20,21,22,23,24]) (.regD [mo (.ld (some 8) (.t 6)) 15,
 mo (.call (.f 21) [(.t 15)] [] []) 16,
 mo (.bin false .neq (.t 16) (cI 0)) 17,
 oV 17 18,
 gF 18 19 (.ld (some 8) (.t 6)),
 gF 18 20 (.call (.f 44) [(.t 19)] [] []),
 gF 18 21 (.b2s (.t 20)),
 gF 18 22 (.mv (.t 1)),
 gF 18 23 (.b2s (.t 22)),
 gF 18 24 (.bin false .neq (.t 21) (.t 23)),
 mo (.pick (.t 18) (.c (.bool true)) (.t 24)) 25]
 [[],[0],[1],[2,1],[3],[4,3,3],[5,3],[3],[7,3],[6,8,3],[3,9]]
 [[],[0],[0,1],[0,1,2],[0,1,2,3],[0,1,2,3,4],[0,1,2,3,4,5],[0,1,2,3],[0,1,2,3,7],[0,1,2,3,4,5,6,7,8],[0,1,2,3,4,5,6,7,8,9]]))
 (.cond (.t 25)
 (.seq (.note (.gc [4]) (.reg [mo (.build [(.int .i64 0),(.int .i64 0),(.sl []),(.sl []),(.int .i64 0),(.sl []),(.str []),(.int .i64 0)] []) 26,
 ⟨.st 8 (.t 4) (.t 26), none, none⟩,
 oC 10 5]))
 .ret)
 .skip))
 (.seq (.note (.gc [4,6]) (.reg [mo (.ld (some 8) (.t 6)) 27,
 ⟨.st 8 (.t 4) (.t 27), none, none⟩,
 oC 0 5]))
 .ret)))))
theorem Wq_15 {id_ : Int} {b_ : List UInt8} : Cn Tryz.prog 24 [.int .i64 id_, .sl (b_.map byteV)] [] (F_15 id_ b_) (fun z => .tup [GObject.v z.1, .int .i64 z.2]) (fun z => []) := fun Q Q' h hQ => by
 refine acallM mc_15 [.fzc 4] [] [.c 4 (some 8), .t 5] Tryz.func24 fun M => ?_
 unfold F_15 at h
 unfold mc_15
 replace h := tY h
 refine tB ?_
 repeat' (first
 | (exact tZ)
 | ((first | refine oblg h ?_ | refine roomG h ?_ | refine fork h ?_ ?_ | refine forkS h ?_ ?_) <;> clear h <;> intro hc h)
 | (obtain ⟨y, hy, h⟩ := h; (first | with_reducible first | have hw := Wq_8.w hy | have hw := Wq_1v.w hy | have hw := Wq_m.w hy | have hw := Wq_z.w hy); replace hw := tY hw; (first | refine M.sC hw ?_ | refine M.sD hw ?_); clear hw hy; refine tB ?_)
 | (refine tE ?_; (first | rw [M.lok_compU] | rw [M.lokD_compU]); refine tB ?_)
 | (refine tA ?_)
 | fail)
noncomputable def F_3m (a_ : GObject) (b_ : GObject) (x54 : Int) : Option (Fl Int (Sum Unit Bool)) :=
 bif decide (x54 < (a_.Items.length : Int)) then chk (inb x54 a_.Items.length) (chk (inb x54 b_.Items.length) (bif (!(decide ((a_.Items.getD (x54).toNat default).Name = (b_.Items.getD (x54).toNat default).Name) && decide ((a_.Items.getD (x54).toNat default).ID = (b_.Items.getD (x54).toNat default).ID))) then some (.ex (.inr false)) else chk (in64 (x54 + 1)) (some (.nx (x54 + 1))))) else some (.ex (.inl ()))
noncomputable def F_3n (a_ : GObject) (b_ : GObject) (x66 : Int) : Option (Fl Int (Sum Unit Bool)) :=
 bif decide (x66 < (a_.Parents.length : Int)) then chk (inb x66 a_.Parents.length) (chk (inb x66 b_.Parents.length) (bif (!decide ((a_.Parents.getD (x66).toNat default) = (b_.Parents.getD (x66).toNat default))) then some (.ex (.inr false)) else chk (in64 (x66 + 1)) (some (.nx (x66 + 1))))) else some (.ex (.inl ()))
noncomputable def F_1y (a_ : GObject) (b_ : GObject) : Option Bool :=
 jn (α := Fl Unit Bool) (grp (((!decide (a_.ID = b_.ID)) || (!decide (a_.Kind = b_.Kind)))) fun b35 => bif b35 then grp (true) fun b36 => grp ((b36 || (!decide (a_.Author = b_.Author)))) fun b37 => grp ((b37 || (!decide (a_.Time = b_.Time)))) fun b38 => grp ((b38 || (!decide ((a_.Items.length : Int) = (b_.Items.length : Int))))) fun b39 => grp ((b39 || (!decide ((a_.Parents.length : Int) = (b_.Parents.length : Int))))) fun b40 => bif b40 then some (.ex false) else some (.nx ()) else grp (((!decide (a_.Data = b_.Data)) || (!decide (a_.Tree = b_.Tree)))) fun b41 => grp ((b41 || (!decide (a_.Author = b_.Author)))) fun b42 => grp ((b42 || (!decide (a_.Time = b_.Time)))) fun b43 => grp ((b43 || (!decide ((a_.Items.length : Int) = (b_.Items.length : Int))))) fun b44 => grp ((b44 || (!decide ((a_.Parents.length : Int) = (b_.Parents.length : Int))))) fun b45 => bif b45 then some (.ex false) else some (.nx ())) fun o => o.elim (fun j23 => (loop (F_3m a_ b_) 0).bind fun r55 => Sum.elim (fun u56 => (loop (F_3n a_ b_) 0).bind fun r67 => Sum.elim (fun u68 => some true) (fun u69 => some u69) r67) (fun u57 => some u57) r55) (fun r70 => some r70)
@[irreducible] def mg_6f : List MOp := [gF 12 13 (.fad 1 (.t 2)),
 gF 12 14 (.ld none (.t 13)),
 gF 12 15 (.fad 1 (.t 3)),
 gF 12 16 (.ld none (.t 15)),
 gF 12 17 (.bin false .neq (.t 14) (.t 16)),
 mo (.pick (.t 12) (.c (.bool true)) (.t 17)) 18]
@[irreducible] def mg_4f : List MOp := [gF 28 29 (.fad 4 (.t 2)),
 gF 28 30 (.ld none (.t 29)),
 gF 28 31 (.fad 4 (.t 3)),
 gF 28 32 (.ld none (.t 31)),
 gF 28 33 (.bin false .neq (.t 30) (.t 32)),
 mo (.pick (.t 28) (.c (.bool true)) (.t 33)) 34]
@[irreducible] def mg_4g : List MOp := [gF 35 36 (.fad 6 (.t 2)),
 gF 35 37 (.ld none (.t 36)),
 gF 35 38 (.fad 6 (.t 3)),
 gF 35 39 (.ld none (.t 38)),
 gF 35 40 (.bin false .neq (.t 37) (.t 39)),
 mo (.pick (.t 35) (.c (.bool true)) (.t 40)) 41]
@[irreducible] def mg_4h : List MOp := [gF 42 43 (.fad 7 (.t 2)),
 gF 42 44 (.ld none (.t 43)),
 gF 42 45 (.fad 7 (.t 3)),
 gF 42 46 (.ld none (.t 45)),
 gF 42 47 (.bin false .neq (.t 44) (.t 46)),
 mo (.pick (.t 42) (.c (.bool true)) (.t 47)) 48]
@[irreducible] def mg_4i : List MOp := [gF 49 50 (.fad 3 (.t 2)),
 gF 49 51 (.ld none (.t 50)),
 gF 49 52 (.len false (.t 51)),
 gF 49 53 (.fad 3 (.t 3)),
 gF 49 54 (.ld none (.t 53)),
 gF 49 55 (.len false (.t 54)),
 gF 49 56 (.bin false .neq (.t 52) (.t 55)),
 mo (.pick (.t 49) (.c (.bool true)) (.t 56)) 57]
@[irreducible] def mg_4j : List MOp := [gF 58 59 (.fad 5 (.t 2)),
 gF 58 60 (.ld none (.t 59)),
 gF 58 61 (.len false (.t 60)),
 gF 58 62 (.fad 5 (.t 3)),
 gF 58 63 (.ld none (.t 62)),
 gF 58 64 (.len false (.t 63)),
 gF 58 65 (.bin false .neq (.t 61) (.t 64)),
 mo (.pick (.t 58) (.c (.bool true)) (.t 65)) 66]
@[irreducible] def mc_3m : MC :=
 (.seq (sR [oV 5 67,
 oF 3 2 68,
 oL 68 69,
 mo (.len false (.t 69)) 70,
 mo (.bin false .lss (.t 67) (.t 70)) 71]
 (.cond (.t 71)
 .skip
 (.exit 0)))
 (.seq (.block 1
 (.seq (.regD [oF 3 2 74,
 oL 74 75,
 oV 5 76,
 mo (.iad 2 (.t 75) (.t 76)) 77,
 mo (.ld (some 2) (.t 77)) 78,
 oF 3 3 79,
 oL 79 80,
 oV 5 81,
 mo (.iad 2 (.t 80) (.t 81)) 82,
 mo (.ld (some 2) (.t 82)) 83,
 mo (.eqs true [1,0] (.t 78) (.t 83)) 84]
 [[],[0],[],[1,2],[3],[],[5],[],[6,7],[8],[4,9]]
 [[],[0],[],[0,1,2],[0,1,2,3],[],[5],[],[5,6,7],[5,6,7,8],[0,1,2,3,4,5,6,7,8,9]])
 (.cond (.t 84)
 (sR [mo (.mv (.c (.bool false))) 4]
 .ret)
 .skip)))
 (.note (.gc [2,3,5]) (.reg [oV 5 72,
 mo (.bin true .add (.t 72) (cI 1)) 73,
 oV 73 5]))))
@[irreducible] def mc_3n : MC :=
 (.seq (sR [oV 6 85,
 oF 5 2 86,
 oL 86 87,
 mo (.len false (.t 87)) 88,
 mo (.bin false .lss (.t 85) (.t 88)) 89]
 (.cond (.t 89)
 .skip
 (.exit 2)))
 (.seq (.block 3
 (.seq (.regD [oF 5 2 92,
 oL 92 93,
 oV 6 94,
 mo (.iad 1 (.t 93) (.t 94)) 95,
 oL 95 96,
 oF 5 3 97,
 oL 97 98,
 oV 6 99,
 mo (.iad 1 (.t 98) (.t 99)) 100,
 oL 100 101,
 mo (.bin false .neq (.t 96) (.t 101)) 102]
 [[],[0],[],[1,2],[3],[],[5],[],[6,7],[8],[4,9]]
 [[],[0],[],[0,1,2],[0,1,2,3],[],[5],[],[5,6,7],[5,6,7,8],[0,1,2,3,4,5,6,7,8,9]])
 (.cond (.t 102)
 (sR [mo (.mv (.c (.bool false))) 4]
 .ret)
 .skip)))
 (.note (.gc [2,3,6]) (.reg [oV 6 90,
 mo (.bin true .add (.t 90) (cI 1)) 91,
 oV 91 6]))))
@[irreducible] def mc_6g : MC :=
 (.seq (sR [oC 0 5]
 (.block 0
 (.loop mc_3m)))
 (.seq (sR [oC 0 6]
 (.block 2
 (.loop mc_3n)))
 (sR [mo (.mv (.c (.bool true))) 4]
 .ret)))
def mc_1y : MC :=
 (sR [mo (.box (.t 0)) 2,
 mo (.box (.t 1)) 3,
 mo (.mv (.c (.bool false))) 4]
 (.cut (.seq (.regI [.op (oF 0 2 7),
 .op (oL 7 8),
 .op (oF 0 3 9),
 .op (oL 9 10),
 .op (mo (.bin false .neq (.t 8) (.t 10)) 11),
 .op (oV 11 12),
 .grp mg_6f,
 .op (oV 18 19),
 .op (gF 19 20 (.fad 2 (.t 2))),
 .op (gF 19 21 (.ld none (.t 20))),
 .op (gF 19 22 (.b2s (.t 21))),
 .op (gF 19 23 (.fad 2 (.t 3))),
 .op (gF 19 24 (.ld none (.t 23))),
 .op (gF 19 25 (.b2s (.t 24))),
 .op (gF 19 26 (.bin false .neq (.t 22) (.t 25))),
 .op (mo (.pick (.t 19) (.c (.bool true)) (.t 26)) 27),
 .op (oV 27 28),
 .grp mg_4f,
 .op (oV 34 35),
 .grp mg_4g,
 .op (oV 41 42),
 .grp mg_4h,
 .op (oV 48 49),
 .grp mg_4i,
 .op (oV 57 58),
 .grp mg_4j])
 (.cond (.t 66)
 (sR [mo (.mv (.c (.bool false))) 4]
 .ret)
 .skip))
 mc_6g))
theorem Wq_1y {a_ b_ : GObject} : Cn Tryz.prog 25 [GObject.v a_, GObject.v b_] [] (F_1y a_ b_) (fun z => .bool z) (fun z => []) := fun Q Q' h hQ => by
 refine acallM mc_1y [] [] [.t 4] Tryz.func25 fun M => ?_
 unfold F_1y at h
 unfold mc_1y
 replace h := tY h
 refine tB ?_
 repeat' (first
 | (exact tZ)
 | ((first | refine oblg h ?_ | refine roomG h ?_ | refine fork h ?_ ?_ | refine forkS h ?_ ?_) <;> clear h <;> intro hc h)
 | (refine M.gv1 (ms := mg_4j) 66 [59,60,61,62,63,64,65] h ?_ ?_ <;> first
 | (clear h; intro K hK1; unfold mg_4j; refine tB ?_)
 | (clear h; intro b h; replace h := tY h; refine tB ?_))
 | (refine M.gv1 (ms := mg_4i) 57 [50,51,52,53,54,55,56] h ?_ ?_ <;> first
 | (clear h; intro K hK2; unfold mg_4i; refine tB ?_)
 | (clear h; intro b h; replace h := tY h; refine tB ?_))
 | (refine M.gv1 (ms := mg_4h) 48 [43,44,45,46,47] h ?_ ?_ <;> first
 | (clear h; intro K hK3; unfold mg_4h; refine tB ?_)
 | (clear h; intro b h; replace h := tY h; refine tB ?_))
 | (refine M.gv1 (ms := mg_4g) 41 [36,37,38,39,40] h ?_ ?_ <;> first
 | (clear h; intro K hK4; unfold mg_4g; refine tB ?_)
 | (clear h; intro b h; replace h := tY h; refine tB ?_))
 | (refine M.gv1 (ms := mg_4f) 34 [29,30,31,32,33] h ?_ ?_ <;> first
 | (clear h; intro K hK5; unfold mg_4f; refine tB ?_)
 | (clear h; intro b h; replace h := tY h; refine tB ?_))
 | (refine M.gv1 (ms := mg_4j) 66 [59,60,61,62,63,64,65] h ?_ ?_ <;> first
 | (clear h; intro K hK6; unfold mg_4j; refine tB ?_)
 | (clear h; intro b h; replace h := tY h; refine tB ?_))
 | (refine M.gv1 (ms := mg_4i) 57 [50,51,52,53,54,55,56] h ?_ ?_ <;> first
 | (clear h; intro K hK7; unfold mg_4i; refine tB ?_)
 | (clear h; intro b h; replace h := tY h; refine tB ?_))
 | (refine M.gv1 (ms := mg_4h) 48 [43,44,45,46,47] h ?_ ?_ <;> first
 | (clear h; intro K hK8; unfold mg_4h; refine tB ?_)
 | (clear h; intro b h; replace h := tY h; refine tB ?_))
 | (refine M.gv1 (ms := mg_4g) 41 [36,37,38,39,40] h ?_ ?_ <;> first
 | (clear h; intro K hK9; unfold mg_4g; refine tB ?_)
 | (clear h; intro b h; replace h := tY h; refine tB ?_))
 | (refine M.gv1 (ms := mg_4f) 34 [29,30,31,32,33] h ?_ ?_ <;> first
 | (clear h; intro K hK10; unfold mg_4f; refine tB ?_)
 | (clear h; intro b h; replace h := tY h; refine tB ?_))
 | (refine M.gv1 (ms := mg_6f) 18 [13,14,15,16,17] h ?_ ?_ <;> first
 | (clear h; intro K hK11; unfold mg_6f; refine tB ?_)
 | (clear h; intro b h; replace h := tY h; refine tB ?_))
 | (refine M.wh1 (b := mc_3m) [2,3] [3,2] (fun x => [(5, .int .i64 x)]) (fun x => []) [] h ?_ ?_ <;> first
 | (clear h; intro x Qn K hK12 h; unfold F_3m at h; unfold mc_3m; replace h := tY h; refine tB ?_)
  |(clear h; (try refine tB ?_); exact tU0; done))
 | (refine M.wh1 (b := mc_3n) [2,3] [3,2] (fun x => [(6, .int .i64 x)]) (fun x => []) [] h ?_ ?_ <;> first
 | (clear h; intro x Qn K hK13 h; unfold F_3n at h; unfold mc_3n; replace h := tY h; refine tB ?_)
  |(clear h; (try refine tB ?_); exact tU0; done))
 | (refine M.jnE (b := mc_6g) [2,3] [3,2] (fun y => []) (fun y => []) [] h ?_ ?_ <;> first
 | (clear h; intro Qn K hK14 h; replace h := tY h; refine tB ?_)
  |(clear h; intro y h; unfold mc_6g; replace h := tY h; refine tB ?_))
 | ((first | refine hK1 _ ?_ | refine hK2 _ ?_ | refine hK3 _ ?_ | refine hK4 _ ?_ | refine hK5 _ ?_ | refine hK6 _ ?_ | refine hK7 _ ?_ | refine hK8 _ ?_ | refine hK9 _ ?_ | refine hK10 _ ?_ | refine hK11 _ ?_); exact tU; done)
 | ((first | refine hK12 _ ?_ | refine hK13 _ ?_ | refine hK14 _ ?_); (try refine tB ?_); refine ⟨_, h, ?_⟩; exact tU0; done)
 | (refine bfork (fun hc => ?_) (fun hc => ?_))
 | (refine tE ?_; (first | rw [M.lok_compU] | rw [M.lokD_compU]); refine tB ?_)
 | (refine tA ?_)
 | fail)
end Go.Ab
