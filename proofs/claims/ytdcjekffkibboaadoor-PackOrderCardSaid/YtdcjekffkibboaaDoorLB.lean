/- What the functions of this seat that lie on the laws' road compute (part LB), each for every input. By AI agents. -/
import Derived.Test.YtdcjekffkibboaaDoorProg
import Derived.KernelRfl
import Derived.Test.YtdcjekffkibboaaDoorAbFun
import Derived.Test.YtdcjekffkibboaaDoorLA
set_option linter.all false
set_option linter.all false
set_option maxRecDepth 20000
set_option maxHeartbeats 2000000
namespace Go.Ab
open Go.Proofs
structure GTape where
 L : List Int
 at_ : Int
instance : Inhabited GTape := ⟨⟨default, default⟩⟩
def GTape.v (x : GTape) : V := .agg [.sl (x.L.map (V.int .i64)), .int .i64 x.at_]
structure GRefEvent where
 Kind : Int
 Name : Str
 Commit : Int
 Time : Int
instance : Inhabited GRefEvent := ⟨⟨default, default, default, default⟩⟩
def GRefEvent.v (x : GRefEvent) : V := .agg [.int .i64 x.Kind, .str x.Name, .int .i64 x.Commit, .int .i64 x.Time]
structure GRepository where
 Objects : List GObject
 Events : List GRefEvent
instance : Inhabited GRepository := ⟨⟨default, default⟩⟩
def GRepository.v (x : GRepository) : V := .agg [.sl (x.Objects.map GObject.v), .sl (x.Events.map GRefEvent.v)]
attribute [go_sem] GRefEvent.v GRepository.v GTape.v
def F_0 (t_ : GTape) (n_ : Int) : Option (Int × GTape) :=
 bif decide ((t_.L.length : Int) ≤ t_.at_) then some (0, t_) else chk (inb t_.at_ t_.L.length) (chk (in64 (t_.at_ + 1)) (chk (divs ((t_.L.getD (t_.at_).toNat default) % 2 ^ 16) n_) (some ((((t_.L.getD (t_.at_).toNat default) % 2 ^ 16) % n_), (GTape.mk t_.L (t_.at_ + 1))))))
def mc_0 : MC :=
 (sR [oC 0 4]
 (.seq (.seq (.regD [oV 0 6,
 mo (.nck (.t 6)) 7,
 oF 1 7 8,
 oL 8 9,
 oV 0 10,
 mo (.nck (.t 10)) 11,
 oF 0 11 12,
 oL 12 13,
 mo (.len false (.t 13)) 14,
 mo (.bin false .geq (.t 9) (.t 14)) 15]
 [[],[0],[1],[2],[],[4],[5],[6],[7],[3,8]]
 [[],[0],[0,1],[0,1,2],[],[4],[4,5],[4,5,6],[4,5,6,7],[0,1,2,3,4,5,6,7,8]])
 (.cond (.t 15)
 (sR [oC 0 4]
 .ret)
 .skip))
 (.seq (.note (.gc [0,1]) (.regD [oV 0 16,
 mo (.nck (.t 16)) 17,
 oF 0 17 18,
 oL 18 19,
 oV 0 20,
 mo (.nck (.t 20)) 21,
 oF 1 21 22,
 oL 22 23,
 mo (.iad 1 (.t 19) (.t 23)) 24,
 oL 24 25,
 mo (.mask 16 (.t 25) .i64) 26,
 oV 26 5]
 [[],[0],[1],[2],[],[4],[5],[6],[3,7],[8],[9],[10,0,1,2,3,4,5,6,7,8,9,10]]
 [[],[0],[0,1],[0,1,2],[],[4],[4,5],[4,5,6],[0,1,2,3,4,5,6,7],[0,1,2,3,4,5,6,7,8],[0,1,2,3,4,5,6,7,8,9],[0,1,2,3,4,5,6,7,8,9,10]]))
 (.seq (.note (.gc [0,1,5]) (.reg [oV 0 27,
 mo (.nck (.t 27)) 28,
 oF 1 28 29,
 oL 29 30,
 mo (.bin true .add (.t 30) (cI 1)) 31,
 mo (.nck (.t 27)) 32,
 oF 1 32 33,
 ⟨.st 1 (.t 33) (.t 31), none, none⟩]))
 (.seq (.note (.gc [1,5]) (.reg [oV 5 34,
 oV 1 35,
 mo (.bin true .rem (.t 34) (.t 35)) 36,
 oV 36 4]))
 .ret)))))
theorem Wq_0 {t_ : GTape} {n_ : Int} : Cn Tryd.prog 12 [.ptr 1000 0, .int .i64 n_] [(1000, .cells [.sl (t_.L.map (V.int .i64)), .int .i64 t_.at_])] (F_0 t_ n_) (fun z => .int .i64 z.1) (fun z => [(1000, .cells [.sl (z.2.L.map (V.int .i64)), .int .i64 z.2.at_])]) := fun Q Q' h hQ => by
 refine acallM mc_0 [] [1000] [.t 4] Tryd.func12 fun M => ?_
 unfold F_0 at h
 unfold mc_0
 replace h := tY h
 refine tB ?_
 repeat' (first
 | (exact tZ)
 | ((first | refine oblg h ?_ | refine roomG h ?_ | refine divG h ?_ | refine fork h ?_ ?_ | refine forkS h ?_ ?_) <;> clear h <;> intro hc h)
 | (refine tE ?_; (first | rw [M.lok_compU] | rw [M.lokD_compU]); refine tB ?_)
 | (refine tA ?_)
 | fail)
def F_k (t_ : GTape) (a_ : Int) (b_ : Int) : Option (Int × GTape) :=
 chk (in64 (b_ - a_)) (chk (in64 ((b_ - a_) + 1)) ((F_0 t_ ((b_ - a_) + 1)).bind fun y2 => chk (in64 (a_ + y2.1)) (some ((a_ + y2.1), y2.2))))
def mc_k : MC :=
 (sR [oC 0 6]
 (sR [oV 1 7,
 oV 0 8,
 oV 2 9,
 oV 1 10,
 mo (.bin true .sub (.t 9) (.t 10)) 11,
 mo (.bin true .add (.t 11) (cI 1)) 12,
 mo (.call (.f 12) [(.t 8),(.t 12)] [1000] []) 13,
 mo (.bin true .add (.t 7) (.t 13)) 14,
 oV 14 6]
 .ret))
theorem Wq_k {t_ : GTape} {a_ b_ : Int} : Cn Tryd.prog 16 [.ptr 1000 0, .int .i64 a_, .int .i64 b_] [(1000, .cells [.sl (t_.L.map (V.int .i64)), .int .i64 t_.at_])] (F_k t_ a_ b_) (fun z => .int .i64 z.1) (fun z => [(1000, .cells [.sl (z.2.L.map (V.int .i64)), .int .i64 z.2.at_])]) := fun Q Q' h hQ => by
 refine acallM mc_k [] [1000] [.t 6] Tryd.func16 fun M => ?_
 unfold F_k at h
 unfold mc_k
 replace h := tY h
 refine tB ?_
 repeat' (first
 | (exact tZ)
 | ((first | refine oblg h ?_ | refine roomG h ?_ | refine fork h ?_ ?_ | refine forkS h ?_ ?_) <;> clear h <;> intro hc h)
 | (obtain ⟨y, hy, h⟩ := h; have hw := Wq_0.w hy; replace hw := tY hw; (first | refine M.sC hw ?_ | refine M.sD hw ?_); clear hw hy; refine tB ?_)
 | (refine tE ?_; (first | rw [M.lok_compU] | rw [M.lokD_compU]); refine tB ?_)
 | (refine tA ?_)
 | fail)
noncomputable def F_25 (n_ : Int) (x47 : Int × (List UInt8) × GTape) : Option (Fl (Int × (List UInt8) × GTape) ((List UInt8) × GTape)) :=
 bif decide (x47.1 < n_) then jn (α := (List UInt8) × GTape) ((F_0 x47.2.2 8).bind fun y65 => bif decide (y65.1 = 0) then (F_0 y65.2 8).bind fun y66 => chk (inb y66.1 [32,10,61,37,43,47,45,46].length) (chk (room (x47.2.1.length + [([32,10,61,37,43,47,45,46].getD (y66.1).toNat 0)].length) 1) (some ((x47.2.1 ++ [([32,10,61,37,43,47,45,46].getD (y66.1).toNat 0)]), y66.2))) else bif decide (y65.1 = 1) then (F_0 y65.2 256).bind fun y67 => chk (room (x47.2.1.length + [(u8 y67.1)].length) 1) (some ((x47.2.1 ++ [(u8 y67.1)]), y67.2)) else jn (α := Bool) (bif decide (y65.1 = 2) then some true else some (decide (y65.1 = 3))) fun j68 => bif j68 then (F_0 y65.2 10).bind fun y69 => chk (in64 (48 + y69.1)) (chk (room (x47.2.1.length + [(u8 (48 + y69.1))].length) 1) (some ((x47.2.1 ++ [(u8 (48 + y69.1))]), y69.2))) else (F_0 y65.2 8).bind fun y70 => chk (inb y70.1 [97,98,99,100,101,102,116,107].length) (chk (room (x47.2.1.length + [([97,98,99,100,101,102,116,107].getD (y70.1).toNat 0)].length) 1) (some ((x47.2.1 ++ [([97,98,99,100,101,102,116,107].getD (y70.1).toNat 0)]), y70.2)))) fun j63 => chk (in64 (x47.1 + 1)) (some (.nx ((x47.1 + 1), j63.1, j63.2))) else some (.ex (x47.2.1, x47.2.2))
noncomputable def F_16 (t_ : GTape) (n_ : Int) : Option ((List UInt8) × GTape) :=
 (loop (F_25 n_) (0,[], t_)).bind fun r71 => some (r71.1, r71.2)
@[irreducible] def mc_3j : MC :=
 (.cond (.t 36)
 (.reg [oV 5 39,
 oV 0 40,
 mo (.call (.f 12) [(.t 40), (cI 10)] [1000] []) 41,
 mo (.bin true .add (cI 48) (.t 41)) 42,
 mo (.i2i false .u8 (.t 42)) 43,
 mo (.bslice 1 [(.t 43)]) 44,
 mo (.app 1 1 (.t 39) (.t 44)) 45,
 oV 45 5])
 (.reg [oV 5 14,
 oV 0 15,
 mo (.call (.f 12) [(.t 15), (cI 8)] [1000] []) 16,
 mo (.idx (.c (.str [97,98,99,100,101,102,116,107])) (.t 16)) 17,
 mo (.bslice 1 [(.t 17)]) 18,
 mo (.app 1 1 (.t 14) (.t 18)) 19,
 oV 19 5]))
@[irreducible] def mc_3k : MC :=
 (.reg [oV 6 10,
 mo (.bin true .add (.t 10) (cI 1)) 11,
 oV 11 6])
@[irreducible] def mc_25 : MC :=
 (.seq (sR [oV 6 7,
 oV 1 8,
 mo (.bin false .lss (.t 7) (.t 8)) 9]
 (.cond (.t 9)
 .skip
 (.exit 0)))
 (.cut (.block 1
 (sR [oV 0 12,
 mo (.call (.f 12) [(.t 12), (cI 8)] [1000] []) 13]
 (.block 2
 (sR [mo (.bin false .eql (.t 13) (cI 0)) 21,
 oV 21 20]
 (.cond (.t 20)
 (.reg [oV 5 22,
 oV 0 23,
 mo (.call (.f 12) [(.t 23), (cI 8)] [1000] []) 24,
 mo (.idx (.c (.str [32,10,61,37,43,47,45,46])) (.t 24)) 25,
 mo (.bslice 1 [(.t 25)]) 26,
 mo (.app 1 1 (.t 22) (.t 26)) 27,
 oV 27 5])
 (sR [mo (.bin false .eql (.t 13) (cI 1)) 29,
 oV 29 28]
 (.cond (.t 28)
 (.note (.gc [0,1,5,6]) (.reg [oV 5 30,
 oV 0 31,
 mo (.call (.f 12) [(.t 31), (cI 256)] [1000] []) 32,
 mo (.i2i false .u8 (.t 32)) 33,
 mo (.bslice 1 [(.t 33)]) 34,
 mo (.app 1 1 (.t 30) (.t 34)) 35,
 oV 35 5]))
 (.cut (sR [mo (.bin false .eql (.t 13) (cI 2)) 37,
 oV 37 36]
 (.cond (.t 36)
 .skip
 (.reg [mo (.bin false .eql (.t 13) (cI 3)) 38,
 oV 38 36])))
 mc_3j))))))))
 mc_3k))
def mc_16 : MC :=
 (sR [mo (.mv (.c (.sl []))) 4]
 (sR [mo (.mv (.c .nils)) 5]
 (.seq (sR [oC 0 6]
 (.block 0
 (.loop mc_25)))
 (sR [oV 5 46,
 oV 46 4]
 .ret))))
theorem Wq_16 {t_ : GTape} {n_ : Int} : Cn Tryd.prog 17 [.ptr 1000 0, .int .i64 n_] [(1000, .cells [.sl (t_.L.map (V.int .i64)), .int .i64 t_.at_])] (F_16 t_ n_) (fun z => .sl (z.1.map byteV)) (fun z => [(1000, .cells [.sl (z.2.L.map (V.int .i64)), .int .i64 z.2.at_])]) := fun Q Q' h hQ => by
 refine acallM mc_16 [.fz 4] [1000] [.t 4] Tryd.func17 fun M => ?_
 unfold F_16 at h
 unfold mc_16
 replace h := tY h
 refine tB ?_
 repeat' (first
 | (exact tZ)
 | ((first | refine oblg h ?_ | refine roomG h ?_ | refine inbG h ?_ | refine fork h ?_ ?_ | refine forkS h ?_ ?_) <;> clear h <;> intro hc h)
 | (obtain ⟨y, hy, h⟩ := h; have hw := Wq_0.w hy; replace hw := tY hw; (first | refine M.sC hw ?_ | refine M.sD hw ?_); clear hw hy; refine tB ?_)
 | (refine M.jn1 (b := mc_3j) [0,1,5,6] [2005,1000] (fun y => [(36, .bool y)]) (fun y => []) [] h ?_ ?_ <;> first
 | (clear h; intro Qn K hK1 h; replace h := tY h; refine tB ?_)
  |(clear h; intro y h; unfold mc_3j; replace h := tY h; refine tB ?_))
 | (refine M.jn1 (b := mc_3k) [0,1,6] [] (fun y => [(5, .osl 2005 1 0 y.1.length)]) (fun y => [.o 2005 (.arr 1 (y.1.map byteV)), .o 1000 (.cells [.sl (y.2.L.map (V.int .i64)), .int .i64 y.2.at_])]) [.gc [0,1,5,6], .acc 5 2005 1] h ?_ ?_ <;> first
 | (clear h; intro Qn K hK2 h; replace h := tY h; refine tB ?_)
  |(clear h; intro y h; unfold mc_3k; replace h := tY h; refine tB ?_))
 | (refine M.wh1 (b := mc_25) [0,1] [] (fun x => [(5, .osl 2005 1 0 x.2.1.length), (6, .int .i64 x.1)]) (fun x => [.o 2005 (.arr 1 (x.2.1.map byteV)), .o 1000 (.cells [.sl (x.2.2.L.map (V.int .i64)), .int .i64 x.2.2.at_])]) [.gc [0,1,5,6], .acc 5 2005 1] h ?_ ?_ <;> first
 | (clear h; intro x Qn K hK3 h; unfold F_25 at h; unfold mc_25; replace h := tY h; refine tB ?_)
  |(clear h; (try refine tB ?_); exact tU0; done))
 | ((first | refine hK1 _ ?_ | refine hK2 _ ?_ | refine hK3 _ ?_); (try refine tB ?_); refine ⟨_, h, ?_⟩; exact tU0; done)
 | (refine tE ?_; (first | rw [M.lok_compU] | rw [M.lokD_compU]); refine tB ?_)
 | (refine tA ?_)
 | fail)
def F_6 (o_ : GObject) (p_ : Int) (p__ : GRepository) : Option (Int × Int × GRepository) :=
 chk (in64 (p_ + 1)) (chk (room (p__.Objects.length + [(GObject.mk (p_ + 1) o_.Kind o_.Data o_.Items o_.Tree o_.Parents o_.Author o_.Time)].length) 120) (some ((p_ + 1), (p_ + 1), (GRepository.mk (p__.Objects ++ [(GObject.mk (p_ + 1) o_.Kind o_.Data o_.Items o_.Tree o_.Parents o_.Author o_.Time)]) p__.Events))))
def mc_6 : MC :=
 (sR [mo (.box (.t 0)) 3,
 oC 0 4]
 (sR [oL 1 5,
 mo (.bin true .add (.t 5) (cI 1)) 6,
 ⟨.st 1 (.t 1) (.t 6), none, none⟩]
 (sR [oL 1 7,
 oF 0 3 8,
 ⟨.st 1 (.t 8) (.t 7), none, none⟩]
 (sR [oF 0 2 9,
 oL 9 10,
 mo (.ld (some 8) (.t 3)) 11,
 mo (.bslice 8 [(.t 11)]) 12,
 mo (.app 8 120 (.t 10) (.t 12)) 13,
 oF 0 2 14,
 ⟨.st 1 (.t 14) (.t 13), none, none⟩]
 (sR [oL 1 15,
 oV 15 4]
 .ret)))))
theorem Wq_6 {o_ : GObject} {p_ : Int} {p__ : GRepository} : Cn Tryd.prog 15 [GObject.v o_, .ptr 1000 0, .ptr 1001 0] [(1000, .cells [.int .i64 p_]), (1001, .cells [.osl 1002 8 0 p__.Objects.length, .osl 1003 4 0 p__.Events.length]), (1002, .arr 8 (p__.Objects.map GObject.v)), (1003, .arr 4 (p__.Events.map GRefEvent.v))] (F_6 o_ p_ p__) (fun z => .int .i64 z.1) (fun z => [(1000, .cells [.int .i64 z.2.1]), (1001, .cells [.osl 1716 8 0 z.2.2.Objects.length, .osl 1717 4 0 z.2.2.Events.length]), (1716, .arr 8 (z.2.2.Objects.map GObject.v)), (1717, .arr 4 (z.2.2.Events.map GRefEvent.v))]) := fun Q Q' h hQ => by
 refine acallM mc_6 [.ownC 1001 0 1716 8 none, .ownC 1001 1 1717 4 none] [1000,1001,1716,1717] [.t 4] Tryd.func15 fun M => ?_
 unfold F_6 at h
 unfold mc_6
 replace h := tY h
 refine tB ?_
 repeat' (first
 | (exact tZ)
 | ((first | refine oblg h ?_ | refine roomG h ?_ | refine fork h ?_ ?_ | refine forkS h ?_ ?_) <;> clear h <;> intro hc h)
 | (refine tE ?_; (first | rw [M.lok_compU] | rw [M.lokD_compU]); refine tB ?_)
 | (refine tA ?_)
 | fail)
noncomputable def F_26 (commits_ : List Int) (x83 : Int × Int × (List (Str × Bool)) × (List GRefEvent) × GTape) : Option (Fl (Int × Int × (List (Str × Bool)) × (List GRefEvent) × GTape) ((List GRefEvent) × GTape)) :=
 bif decide (0 < x83.2.1) then jn (α := Int × (List (Str × Bool)) × (List GRefEvent) × GTape) ((F_0 x83.2.2.2.2 3).bind fun y113 => chk (in64 (x83.1 + y113.1)) ((F_0 y113.2 3).bind fun y115 => chk (inb y115.1 [[109,97,105,110],[111,108,100],[120]].length) (jn (α := Bool × GTape) (bif ((aget ([[109,97,105,110],[111,108,100],[120]].getD ((y115.1).toNat) default) x83.2.2.1).getD false) then (F_0 y115.2 3).bind fun y123 => some (decide (y123.1 = 0), y123.2) else some (false, y115.2)) fun j124 => bif j124.1 then chk (room (x83.2.2.2.1.length + [(GRefEvent.mk 2 ([[109,97,105,110],[111,108,100],[120]].getD ((y115.1).toNat) default) 0 (x83.1 + y113.1))].length) 40) (some ((x83.1 + y113.1), aput ([[109,97,105,110],[111,108,100],[120]].getD ((y115.1).toNat) default) false x83.2.2.1, (x83.2.2.2.1 ++ [(GRefEvent.mk 2 ([[109,97,105,110],[111,108,100],[120]].getD ((y115.1).toNat) default) 0 (x83.1 + y113.1))]), j124.2)) else (F_0 j124.2 (commits_.length : Int)).bind fun y125 => chk (inb y125.1 commits_.length) (chk (room (x83.2.2.2.1.length + [(GRefEvent.mk 1 ([[109,97,105,110],[111,108,100],[120]].getD ((y115.1).toNat) default) (commits_.getD (y125.1).toNat default) (x83.1 + y113.1))].length) 40) (some ((x83.1 + y113.1), aput ([[109,97,105,110],[111,108,100],[120]].getD ((y115.1).toNat) default) true x83.2.2.1, (x83.2.2.2.1 ++ [(GRefEvent.mk 1 ([[109,97,105,110],[111,108,100],[120]].getD ((y115.1).toNat) default) (commits_.getD (y125.1).toNat default) (x83.1 + y113.1))]), y125.2)))))) fun j111 => chk (in64 (x83.2.1 - 1)) (some (.nx (j111.1, (x83.2.1 - 1), j111.2.1, j111.2.2.1, j111.2.2.2))) else some (.ex (x83.2.2.2.1, x83.2.2.2.2))
noncomputable def F_17 (t_ : GTape) (commits_ : List Int) : Option ((List GRefEvent) × GTape) :=
 (F_0 t_ 4).bind fun y2 => (F_0 y2.2 8).bind fun y52 => (loop (F_26 commits_) (y2.1, y52.1,[],[], y52.2)).bind fun r126 => some (r126.1, r126.2)
@[irreducible] def mg_3l : List MOp := [gT 31 32 (.mv (.t 0)),
 gT 31 33 (.call (.f 12) [(.t 32), (cI 3)] [1000] []),
 gT 31 34 (.bin false .eql (.t 33) (cI 0)),
 mo (.pick (.t 31) (.t 34) (.c (.bool false))) 35]
@[irreducible] def mc_3m : MC :=
 (.reg [oV 8 17,
 mo (.bin true .sub (.t 17) (cI 1)) 18,
 oV 18 8])
@[irreducible] def mc_26 : MC :=
 (.seq (sR [oV 8 15,
 mo (.bin false .gtr (.t 15) (cI 0)) 16]
 (.cond (.t 16)
 .skip
 (.exit 0)))
 (.cut (.block 1
 (sR [oV 7 19,
 oV 0 20,
 mo (.call (.f 12) [(.t 20), (cI 3)] [1000] []) 21,
 mo (.bin true .add (.t 19) (.t 21)) 22,
 oV 22 7]
 (sR [mo (.bslice 1 [(.c (.str [109,97,105,110])),(.c (.str [111,108,100])),(.c (.str [120]))]) 23,
 oV 0 24,
 mo (.call (.f 12) [(.t 24), (cI 3)] [1000] []) 25,
 mo (.iad 1 (.t 23) (.t 25)) 26,
 oL 26 27,
 oV 27 9]
 (.seq (.seq (.note (.gc [0,1,5,6,7,8,9,32,33,34]) (.regI [.op (oV 6 28),
 .op (oV 9 29),
 .op (mo (.mp (.lku .str false (.bool false)) [(.t 28),(.t 29)]) 30),
 .op (oV 30 31),
 .grp mg_3l]))
 (.cond (.t 35)
 (sR [oV 6 36,
 oV 9 37,
 ⟨.mp (.up .str) [(.t 36),(.t 37),(.c (.bool false))], none, none⟩]
 (sR [oV 5 38,
 oV 9 39,
 oV 7 40,
 mo (.build [(.int .i64 0),(.str []),(.int .i64 0),(.int .i64 0)] [(0,1, (cI 2)), (1,1,(.t 39)), (3,1,(.t 40))]) 41,
 mo (.bslice 4 [(.t 41)]) 42,
 mo (.app 4 40 (.t 38) (.t 42)) 43,
 oV 43 5]
 (.exit 1)))
 .skip))
 (sR [oV 6 44,
 oV 9 45,
 ⟨.mp (.up .str) [(.t 44),(.t 45),(.c (.bool true))], none, none⟩]
 (.reg [oV 5 46,
 oV 9 47,
 oV 1 48,
 oV 0 49,
 oV 1 50,
 mo (.len false (.t 50)) 51,
 mo (.call (.f 12) [(.t 49),(.t 51)] [1000] []) 52,
 mo (.iad 1 (.t 48) (.t 52)) 53,
 oL 53 54,
 oV 7 55,
 mo (.build [(.int .i64 0),(.str []),(.int .i64 0),(.int .i64 0)] [(0,1, (cI 1)), (1,1,(.t 47)), (2,1,(.t 54)), (3,1,(.t 55))]) 56,
 mo (.bslice 4 [(.t 56)]) 57,
 mo (.app 4 40 (.t 46) (.t 57)) 58,
 oV 58 5]))))))
 mc_3m))
def mc_17 : MC :=
 (sR [mo (.mv (.c (.sl []))) 4]
 (sR [mo (.mv (.c .nils)) 5]
 (sR [mo (.mp (.mk .str) []) 10,
 oV 10 6]
 (sR [oV 0 11,
 mo (.call (.f 12) [(.t 11), (cI 4)] [1000] []) 12,
 oV 12 7]
 (.seq (sR [oV 0 13,
 mo (.call (.f 12) [(.t 13), (cI 8)] [1000] []) 14,
 oV 14 8]
 (.block 0
 (.loop mc_26)))
 (sR [oV 5 59,
 oV 59 4]
 .ret))))))
theorem Wq_17 {t_ : GTape} {commits_ : List Int} : Cn Tryd.prog 18 [.ptr 1000 0, .sl (commits_.map (V.int .i64))] [(1000, .cells [.sl (t_.L.map (V.int .i64)), .int .i64 t_.at_])] (F_17 t_ commits_) (fun z => .sl (z.1.map GRefEvent.v)) (fun z => [(1000, .cells [.sl (z.2.L.map (V.int .i64)), .int .i64 z.2.at_])]) := fun Q Q' h hQ => by
 refine acallM mc_17 [.fz 4] [1000] [.t 4] Tryd.func18 fun M => ?_
 unfold F_17 at h
 unfold mc_17
 replace h := tY h
 refine tB ?_
 repeat' (first
 | (exact tZ)
 | ((first | refine oblg h ?_ | refine roomG h ?_ | refine inbG h ?_ | refine fork h ?_ ?_ | refine forkS h ?_ ?_) <;> clear h <;> intro hc h)
 | (obtain ⟨y, hy, h⟩ := h; have hw := Wq_0.w hy; replace hw := tY hw; (first | refine M.sC hw ?_ | refine M.sD hw ?_); clear hw hy; refine tB ?_)
 | (refine M.gj1 (ms := mg_3l) [0,1,5,6,7,8,9] [10,2005] (fun y => [(35, .bool y.1)]) (fun y => [.o 1000 (.cells [.sl (y.2.L.map (V.int .i64)), .int .i64 y.2.at_])]) h ?_ ?_ <;> first
 | (clear h; intro Qn K hK1 h; unfold mg_3l; replace h := tY h; refine tB ?_)
  |(clear h; intro y h; replace h := tY h; refine tB ?_))
 | (refine M.jn1 (b := mc_3m) [0,1,6,8] [] (fun y => [(5, .osl 2005 4 0 y.2.2.1.length), (7, .int .i64 y.1)]) (fun y => [.o 10 (.map .str (y.2.1.map (kvV V.str V.bool))), .o 2005 (.arr 4 (y.2.2.1.map GRefEvent.v)), .o 1000 (.cells [.sl (y.2.2.2.L.map (V.int .i64)), .int .i64 y.2.2.2.at_])]) [.gc [0,1,5,6,7,8], .acc 5 2005 4] h ?_ ?_ <;> first
 | (clear h; intro Qn K hK2 h; replace h := tY h; refine tB ?_)
  |(clear h; intro y h; unfold mc_3m; replace h := tY h; refine tB ?_))
 | (refine M.wh1 (b := mc_26) [0,1,6] [] (fun x => [(5, .osl 2005 4 0 x.2.2.2.1.length), (7, .int .i64 x.1), (8, .int .i64 x.2.1)]) (fun x => [.o 10 (.map .str (x.2.2.1.map (kvV V.str V.bool))), .o 2005 (.arr 4 (x.2.2.2.1.map GRefEvent.v)), .o 1000 (.cells [.sl (x.2.2.2.2.L.map (V.int .i64)), .int .i64 x.2.2.2.2.at_])]) [.gc [0,1,5,6,7,8], .acc 5 2005 4] h ?_ ?_ <;> first
 | (clear h; intro x Qn K hK3 h; unfold F_26 at h; unfold mc_26; replace h := tY h; refine tB ?_)
  |(clear h; (try refine tB ?_); exact tU0; done))
 | ((first | refine hK1 _ ?_ | refine hK2 _ ?_ | refine hK3 _ ?_); (try refine tB ?_); refine ⟨_, h, ?_⟩; exact tU0; done)
 | (refine tE4 V.str ?_; (first | rw [M.lok_compU] | rw [M.lokD_compU] | (simp only [V.cells]; first | rw [M.lok_comp] | rw [M.lokD_comp])); refine tB ?_)
 | (refine tE ?_; (first | rw [M.lok_compU] | rw [M.lokD_compU]); refine tB ?_)
 | (refine tA ?_)
 | fail)
noncomputable def F_27 (x41 : Int × (List GObject) × (List GRefEvent) × Int × (List Int) × GTape) : Option (Fl (Int × (List GObject) × (List GRefEvent) × Int × (List Int) × GTape) ((List GObject) × (List GRefEvent) × Int × (List Int) × GTape)) :=
 bif decide (0 < x41.1) then (F_0 x41.2.2.2.2.2 12).bind fun y51 => (F_16 y51.2 y51.1).bind fun y52 => (F_6 (GObject.mk 0 1 y52.1 [] 0 [] [] 0) x41.2.2.2.1 (GRepository.mk x41.2.1 x41.2.2.1)).bind fun y53 => chk (room (x41.2.2.2.2.1.length + [y53.1].length) 8) (chk (in64 (x41.1 - 1)) (some (.nx ((x41.1 - 1), y53.2.2.Objects, y53.2.2.Events, y53.2.1, (x41.2.2.2.2.1 ++ [y53.1]), y52.2)))) else some (.ex (x41.2.1, x41.2.2.1, x41.2.2.2.1, x41.2.2.2.2.1, x41.2.2.2.2.2))
noncomputable def F_1y (r54 : (List GObject) × (List GRefEvent) × Int × (List Int) × GTape) (x895 : Int × (List GObject) × (List GRefEvent) × Int × (List Int) × GTape) (k1216 : Int) (a1217 : Str) (x1215 : (List GItem) × GTape) : Option ((List GItem) × GTape) :=
 (F_0 x1215.2 3).bind fun y1231 => bif decide (y1231.1 = 0) then (F_0 y1231.2 (r54.2.2.2.1.length : Int)).bind fun y1232 => chk (inb y1232.1 r54.2.2.2.1.length) (chk (room (x1215.1.length + [(GItem.mk a1217 (r54.2.2.2.1.getD ((y1232.1).toNat) default))].length) 24) (some ((x1215.1 ++ [(GItem.mk a1217 (r54.2.2.2.1.getD ((y1232.1).toNat) default))]), y1232.2))) else bif decide (y1231.1 = 1) then bif decide (0 < (x895.2.2.2.2.1.length : Int)) then (F_0 y1231.2 (x895.2.2.2.2.1.length : Int)).bind fun y1233 => chk (inb y1233.1 x895.2.2.2.2.1.length) (chk (room (x1215.1.length + [(GItem.mk a1217 (x895.2.2.2.2.1.getD ((y1233.1).toNat) default))].length) 24) (some ((x1215.1 ++ [(GItem.mk a1217 (x895.2.2.2.2.1.getD ((y1233.1).toNat) default))]), y1233.2))) else some (x1215.1, y1231.2) else some (x1215.1, y1231.2)
noncomputable def F_28 (r54 : (List GObject) × (List GRefEvent) × Int × (List Int) × GTape) (x895 : Int × (List GObject) × (List GRefEvent) × Int × (List Int) × GTape) : Option (Fl (Int × (List GObject) × (List GRefEvent) × Int × (List Int) × GTape) ((List GObject) × (List GRefEvent) × Int × (List Int) × GTape)) :=
 bif decide (0 < x895.1) then (foldL (F_1y r54 x895) [[97],[98],[100]] 0 ([], x895.2.2.2.2.2)).bind fun x1234 => (F_6 (GObject.mk 0 2 [] x1234.1 0 [] [] 0) x895.2.2.2.1 (GRepository.mk x895.2.1 x895.2.2.1)).bind fun y1235 => chk (room (x895.2.2.2.2.1.length + [y1235.1].length) 8) (chk (in64 (x895.1 - 1)) (some (.nx ((x895.1 - 1), y1235.2.2.Objects, y1235.2.2.Events, y1235.2.1, (x895.2.2.2.2.1 ++ [y1235.1]), x1234.2)))) else some (.ex (x895.2.1, x895.2.2.1, x895.2.2.2.1, x895.2.2.2.2.1, x895.2.2.2.2.2))
noncomputable def F_29 (x1797 : Int × (List GObject) × (List GRefEvent) × Int × (List Int) × GTape) (x2008 : Int × Int × Int × (List Int) × GTape) : Option (Fl (Int × Int × Int × (List Int) × GTape) (Int × Int × (List Int) × GTape)) :=
 grp ((decide (0 ≤ x2008.1) && decide ((x2008.2.2.2.1.length : Int) < 2))) fun b2019 => bif b2019 then jn (α := (List Int) × GTape) ((F_0 x2008.2.2.2.2 2).bind fun y2024 => bif decide (y2024.1 = 0) then chk (inb x2008.1 x1797.2.2.2.2.1.length) (chk (room (x2008.2.2.2.1.length + [x1797.2.2.2.2.1.getD ((x2008.1).toNat) default].length) 8) (some ((x2008.2.2.2.1 ++ [x1797.2.2.2.2.1.getD ((x2008.1).toNat) default]), y2024.2))) else some (x2008.2.2.2.1, y2024.2)) fun j2022 => chk (in64 (x2008.1 - 1)) (some (.nx ((x2008.1 - 1), x2008.2.1, x2008.2.2.1, j2022.1, j2022.2))) else some (.ex (x2008.2.1, x2008.2.2.1, x2008.2.2.2.1, x2008.2.2.2.2))
noncomputable def F_2a (r1236 : (List GObject) × (List GRefEvent) × Int × (List Int) × GTape) (x1797 : Int × (List GObject) × (List GRefEvent) × Int × (List Int) × GTape) : Option (Fl (Int × (List GObject) × (List GRefEvent) × Int × (List Int) × GTape) ((List Int) × (List GObject) × (List GRefEvent) × GTape)) :=
 bif decide (0 < x1797.1) then (F_0 x1797.2.2.2.2.2 (r1236.2.2.2.1.length : Int)).bind fun y1965 => chk (inb y1965.1 r1236.2.2.2.1.length) ((F_0 y1965.2 20).bind fun y1966 => chk (in64 ((x1797.2.2.2.2.1.length : Int) - 1)) ((loop (F_29 x1797) (((x1797.2.2.2.2.1.length : Int) - 1), r1236.2.2.2.1.getD ((y1965.1).toNat) default, y1966.1,[], y1966.2)).bind fun r2025 => (F_6 (GObject.mk 0 3 [] [] r2025.1 r2025.2.2.1 [97,110,110] r2025.2.1) x1797.2.2.2.1 (GRepository.mk x1797.2.1 x1797.2.2.1)).bind fun y2026 => chk (room (x1797.2.2.2.2.1.length + [y2026.1].length) 8) (chk (in64 (x1797.1 - 1)) (some (.nx ((x1797.1 - 1), y2026.2.2.Objects, y2026.2.2.Events, y2026.2.1, (x1797.2.2.2.2.1 ++ [y2026.1]), r2025.2.2.2)))))) else some (.ex (x1797.2.2.2.2.1, x1797.2.1, x1797.2.2.1, x1797.2.2.2.2.2))
noncomputable def F_18 (t_ : GTape) : Option (GRepository × GTape) :=
 (F_k t_ 1 4).bind fun y26 => (loop F_27 (y26.1,[],[],0,[], y26.2)).bind fun r54 => (F_k r54.2.2.2.2 1 4).bind fun y560 => (loop (F_28 r54) (y560.1, r54.1, r54.2.1, r54.2.2.1,[], y560.2)).bind fun r1236 => (F_k r1236.2.2.2.2 1 5).bind fun y1574 => (loop (F_2a r1236) (y1574.1, r1236.1, r1236.2.1, r1236.2.2.1,[], y1574.2)).bind fun r2027 => (F_17 r2027.2.2.2 r2027.1).bind fun y2029 => some ((GRepository.mk r2027.2.1 y2029.1), y2029.2)
@[irreducible] def mc_27 : MC :=
 (.seq (sR [oV 9 20,
 mo (.bin false .gtr (.t 20) (cI 0)) 21]
 (.cond (.t 21)
 .skip
 (.exit 0)))
 (.seq (.block 1
 (.regI [.op (oV 4 24),
 .op (oV 8 25),
 .op (oV 0 26),
 .op (oV 0 27),
 .op (mo (.call (.f 12) [(.t 27), (cI 12)] [1000] []) 28),
 .op (mo (.call (.f 17) [(.t 26),(.t 28)] [1000] []) 29),
 .op (mo (.build [(.int .i64 0),(.int .i64 0),(.sl []),(.sl []),(.int .i64 0),(.sl []),(.str []),(.int .i64 0)] [(1,1, (cI 1)), (2,1,(.t 29))]) 30),
 .nt (.ownC 3 0 7096 8 none),
 .nt (.ownC 3 1 7097 4 none),
 .op (mo (.call (.t 25) [(.t 30)] [7,3,7096,7097] [9992,9993]) 31),
 .op (mo (.bslice 1 [(.t 31)]) 32),
 .op (mo (.app 1 8 (.t 24) (.t 32)) 33),
 .op (oV 33 4)]))
 (.note (.gc [0,2,3,4,5,6,8,9,113,114,115,116]) (.reg [oV 9 22,
 mo (.bin true .sub (.t 22) (cI 1)) 23,
 oV 23 9]))))
@[irreducible] def mc_1y : MC :=
 (sR [mo (.bin false .lss (.t 43) (.t 42)) 44]
 (.seq (.cond (.t 44)
 .skip
 (.exit 4))
 (.seq (.block 5
 (sR [mo (.iad 1 (.t 41) (.t 43)) 45,
 oL 45 46,
 oV 46 13]
 (sR [oV 0 47,
 mo (.call (.f 12) [(.t 47), (cI 3)] [1000] []) 48]
 (.block 6
 (sR [mo (.bin false .eql (.t 48) (cI 0)) 50,
 oV 50 49]
 (.cond (.t 49)
 (.regD [oF 3 11 51,
 oL 51 52,
 oV 13 53,
 oV 4 54,
 oV 0 55,
 oV 4 56,
 mo (.len false (.t 56)) 57,
 mo (.call (.f 12) [(.t 55),(.t 57)] [1000] []) 58,
 mo (.iad 1 (.t 54) (.t 58)) 59,
 oL 59 60,
 mo (.build [(.str []),(.int .i64 0)] [(0,1,(.t 53)), (1,1,(.t 60))]) 61,
 mo (.bslice 2 [(.t 61)]) 62,
 mo (.app 2 24 (.t 52) (.t 62)) 63,
 oF 3 11 64,
 ⟨.st 1 (.t 64) (.t 63), none, none⟩]
 [[],[0],[],[],[],[],[5],[4,6],[3,7],[8],[2,9],[10],[1,11,7],[0,1,2,3,4,5,6,7,8,9,10,11,12],[13,12,12,0,1,2,3,4,5,6,7,8,9,10,11,12]]
 [[],[0],[],[],[],[],[5],[4,5,6],[3,4,5,6,7],[3,4,5,6,7,8],[2,3,4,5,6,7,8,9],[2,3,4,5,6,7,8,9,10],[0,1,2,3,4,5,6,7,8,9,10,11],[0,1,2,3,4,5,6,7,8,9,10,11,12],[0,1,2,3,4,5,6,7,8,9,10,11,12,13]])
 (sR [mo (.bin false .eql (.t 48) (cI 1)) 66,
 oV 66 65]
 (.cond (.t 65)
 (.seq (.note (.gc [0,2,3,4,5,6,8,10,11,13,41,42,43,113,114,115,116]) (.reg [oV 5 67,
 mo (.len false (.t 67)) 68,
 mo (.bin false .gtr (.t 68) (cI 0)) 69]))
 (.cond (.t 69)
 (.regD [oF 3 11 70,
 oL 70 71,
 oV 13 72,
 oV 5 73,
 oV 0 74,
 oV 5 75,
 mo (.len false (.t 75)) 76,
 mo (.call (.f 12) [(.t 74),(.t 76)] [1000] []) 77,
 mo (.iad 1 (.t 73) (.t 77)) 78,
 oL 78 79,
 mo (.build [(.str []),(.int .i64 0)] [(0,1,(.t 72)), (1,1,(.t 79))]) 80,
 mo (.bslice 2 [(.t 80)]) 81,
 mo (.app 2 24 (.t 71) (.t 81)) 82,
 oF 3 11 83,
 ⟨.st 1 (.t 83) (.t 82), none, none⟩]
 [[],[0],[],[],[],[],[5],[4,6],[3,7],[8],[2,9],[10],[1,11,7],[0,1,2,3,4,5,6,7,8,9,10,11,12],[13,12,12,0,1,2,3,4,5,6,7,8,9,10,11,12]]
 [[],[0],[],[],[],[],[5],[4,5,6],[3,4,5,6,7],[3,4,5,6,7,8],[2,3,4,5,6,7,8,9],[2,3,4,5,6,7,8,9,10],[0,1,2,3,4,5,6,7,8,9,10,11],[0,1,2,3,4,5,6,7,8,9,10,11,12],[0,1,2,3,4,5,6,7,8,9,10,11,12,13]])
 .skip))
 .skip))))))))
 (.reg [mo (.bin true .add (.t 43) (cI 1)) 84,
 oV 84 43]))))
@[irreducible] def mc_28 : MC :=
 (.seq (sR [oV 10 36,
 mo (.bin false .gtr (.t 36) (cI 0)) 37]
 (.cond (.t 37)
 .skip
 (.exit 2)))
 (.seq (.block 3
 (sR [mo (.build [(.int .i64 0),(.int .i64 0), .nils, .nils, (.int .i64 0), .nils, (.str []),(.int .i64 0)] [(1,1, (cI 2))]) 40,
 mo (.alloc [(.int .i64 0),(.int .i64 0),(.sl []),(.sl []),(.int .i64 0),(.sl []),(.str []),(.int .i64 0)]) 11,
 ⟨.st 8 (.t 11) (.t 40), none, none⟩]
 (.seq (sR [mo (.bslice 1 [(.c (.str [97])),(.c (.str [98])),(.c (.str [100]))]) 41,
 mo (.len false (.t 41)) 42,
 oC 0 43]
 (.block 4
 (.loop mc_1y)))
 (.regI [.op (oV 5 85),
 .op (oV 8 86),
 .op (mo (.ld (some 8) (.t 11)) 87),
 .nt (.ownC 3 0 7096 8 none),
 .nt (.ownC 3 1 7097 4 none),
 .nt (.fz 87),
 .op (mo (.call (.t 86) [(.t 87)] [7,3,7096,7097] [13640,13641]) 88),
 .op (mo (.bslice 1 [(.t 88)]) 89),
 .op (mo (.app 1 8 (.t 85) (.t 89)) 90),
 .op (oV 90 5)]))))
 (.note (.gc [0,2,3,4,5,6,8,10,113,114,115,116]) (.reg [oV 10 38,
 mo (.bin true .sub (.t 38) (cI 1)) 39,
 oV 39 10]))))
@[irreducible] def mg_6 : List MOp := [gT 112 113 (.fad 5 (.t 15)),
 gT 112 114 (.ld none (.t 113)),
 gT 112 115 (.len false (.t 114)),
 gT 112 116 (.bin false .lss (.t 115) (cI 2)),
 mo (.pick (.t 112) (.t 116) (.c (.bool false))) 117]
@[irreducible] def mc_3n : MC :=
 (.reg [oV 16 118,
 mo (.bin true .sub (.t 118) (cI 1)) 119,
 oV 119 16])
@[irreducible] def mc_29 : MC :=
 (.seq (.seq (.regI [.op (oV 16 110),
 .op (mo (.bin false .geq (.t 110) (cI 0)) 111),
 .op (oV 111 112),
 .grp mg_6])
 (.cond (.t 117)
 .skip
 (.exit 9)))
 (.cut (.block 10
 (sR [oV 0 120,
 mo (.call (.f 12) [(.t 120), (cI 2)] [1000] []) 121,
 mo (.bin false .eql (.t 121) (cI 0)) 122]
 (.cond (.t 122)
 (.regD [oF 5 15 123,
 oL 123 124,
 oV 6 125,
 oV 16 126,
 mo (.iad 1 (.t 125) (.t 126)) 127,
 oL 127 128,
 mo (.bslice 1 [(.t 128)]) 129,
 mo (.app 1 8 (.t 124) (.t 129)) 130,
 oF 5 15 131,
 ⟨.st 1 (.t 131) (.t 130), none, none⟩]
 [[],[0],[],[],[2,3],[4],[5],[1,6],[0,1,2,3,4,5,6,7],[8,7,7,0,1,2,3,4,5,6,7]]
 [[],[0],[],[],[2,3],[2,3,4],[2,3,4,5],[0,1,2,3,4,5,6],[0,1,2,3,4,5,6,7],[0,1,2,3,4,5,6,7,8]])
 .skip)))
 mc_3n))
@[irreducible] def mc_2a : MC :=
 (.seq (sR [oV 14 93,
 mo (.bin false .gtr (.t 93) (cI 0)) 94]
 (.cond (.t 94)
 .skip
 (.exit 7)))
 (.seq (.block 8
 (.seq (.regD [oV 5 97,
 oV 0 98,
 oV 5 99,
 mo (.len false (.t 99)) 100,
 mo (.call (.f 12) [(.t 98),(.t 100)] [1000] []) 101,
 mo (.iad 1 (.t 97) (.t 101)) 102,
 oL 102 103,
 oV 0 104,
 mo (.call (.f 12) [(.t 104), (cI 20)] [1000] []) 105,
 mo (.build [(.int .i64 0),(.int .i64 0), .nils, .nils, (.int .i64 0), .nils, (.str []),(.int .i64 0)] [(1,1, (cI 3)), (4,1,(.t 103)), (6,1,(.c (.str [97,110,110]))), (7,1,(.t 105))]) 106,
 mo (.alloc [(.int .i64 0),(.int .i64 0),(.sl []),(.sl []),(.int .i64 0),(.sl []),(.str []),(.int .i64 0)]) 15,
 ⟨.st 8 (.t 15) (.t 106), none, none⟩]
 [[],[],[],[2],[1,3],[0,4],[5],[],[7,4],[6,8],[],[10,9,8,0,1,2,3,4,5,6,7,8,9,10]]
 [[],[],[],[2],[1,2,3],[0,1,2,3,4],[0,1,2,3,4,5],[],[1,2,3,4,7],[0,1,2,3,4,5,6,7,8],[],[0,1,2,3,4,5,6,7,8,9,10]])
 (.seq (.seq (.note (.gc [0,2,3,5,6,8,14,15,113,114,115,116]) (.reg [oV 6 107,
 mo (.len false (.t 107)) 108,
 mo (.bin true .sub (.t 108) (cI 1)) 109,
 oV 109 16]))
 (.block 9
 (.loop mc_29)))
 (.regI [.op (oV 6 132),
 .op (oV 8 133),
 .op (mo (.ld (some 8) (.t 15)) 134),
 .nt (.ownC 3 0 7096 8 none),
 .nt (.ownC 3 1 7097 4 none),
 .nt (.fz 134),
 .op (mo (.call (.t 133) [(.t 134)] [7,3,7096,7097] [16648,16649]) 135),
 .op (mo (.bslice 1 [(.t 135)]) 136),
 .op (mo (.app 1 8 (.t 132) (.t 136)) 137),
 .op (oV 137 6)]))))
 (.reg [oV 14 95,
 mo (.bin true .sub (.t 95) (cI 1)) 96,
 oV 96 14])))
def mc_18 : MC :=
 (sR [mo (.alloc [(.sl []),(.sl [])]) 2]
 (sR [mo (.alloc [.nils, .nils]) 3]
 (sR [mo (.mv (.c .nils)) 4,
 mo (.mv (.c .nils)) 5,
 mo (.mv (.c .nils)) 6]
 (sR [mo (.alloc [(.int .i64 0)]) 7,
 ⟨.st 1 (.t 7) (cI 0), none, none⟩]
 (sR [mo (.mkfn 15 [(.t 7),(.t 3)]) 17,
 oV 17 8]
 (.seq (sR [oV 0 18,
 mo (.call (.f 16) [(.t 18), (cI 1), (cI 4)] [1000] []) 19,
 oV 19 9]
 (.block 0
 (.loop mc_27)))
 (.seq (sR [oV 0 34,
 mo (.call (.f 16) [(.t 34), (cI 1), (cI 4)] [1000] []) 35,
 oV 35 10]
 (.block 2
 (.loop mc_28)))
 (.seq (sR [oV 0 91,
 mo (.call (.f 16) [(.t 91), (cI 1), (cI 5)] [1000] []) 92,
 oV 92 14]
 (.block 7
 (.loop mc_2a)))
 (.seq (.regI [.op (oV 0 138),
 .op (oV 6 139),
 .nt (.fz 139),
 .op (mo (.call (.f 18) [(.t 138),(.t 139)] [1000] []) 140),
 .op (oF 1 3 141),
 .op ⟨.st 1 (.t 141) (.t 140), none, none⟩])
 (sR [mo (.ld (some 2) (.t 3)) 142,
 ⟨.st 2 (.t 2) (.t 142), none, none⟩]
 .ret))))))))))
theorem Wq_18 {t_ : GTape} : Cn Tryd.prog 7 [.ptr 1000 0] [(1000, .cells [.sl (t_.L.map (V.int .i64)), .int .i64 t_.at_])] (F_18 t_) (fun z => GRepository.v z.1) (fun z => [(1000, .cells [.sl (z.2.L.map (V.int .i64)), .int .i64 z.2.at_])]) := fun Q Q' h hQ => by
 refine acallM mc_18 [.fzc 2] [1000] [.c 2 (some 2)] Tryd.func7 fun M => ?_
 unfold F_18 at h
 unfold mc_18
 replace h := tY h
 refine tB ?_
 repeat' (first
 | (exact tZ)
 | ((first | refine oblg h ?_ | refine roomG h ?_ | refine fork h ?_ ?_ | refine forkS h ?_ ?_) <;> clear h <;> intro hc h)
 | (obtain ⟨y, hy, h⟩ := h; have hw := acall_swe 1717 9993 (acall_swe 1716 9992 (acall_swe 1003 7097 (acall_swe 1002 7096 (acall_swe 1001 3 (acall_swe 1000 7 (Wq_6.w hy)))))); replace hw := tY hw; (first | refine M.sC hw ?_ | refine M.sD hw ?_); clear hw hy; refine tB ?_)
 | (obtain ⟨y, hy, h⟩ := h; have hw := acall_swe 1717 13641 (acall_swe 1716 13640 (acall_swe 1003 7097 (acall_swe 1002 7096 (acall_swe 1001 3 (acall_swe 1000 7 (Wq_6.w hy)))))); replace hw := tY hw; (first | refine M.sC hw ?_ | refine M.sD hw ?_); clear hw hy; refine tB ?_)
 | (obtain ⟨y, hy, h⟩ := h; have hw := acall_swe 1717 16649 (acall_swe 1716 16648 (acall_swe 1003 7097 (acall_swe 1002 7096 (acall_swe 1001 3 (acall_swe 1000 7 (Wq_6.w hy)))))); replace hw := tY hw; (first | refine M.sC hw ?_ | refine M.sD hw ?_); clear hw hy; refine tB ?_)
 | (obtain ⟨y, hy, h⟩ := h; (first | with_reducible first | have hw := Wq_k.w hy | have hw := Wq_0.w hy | have hw := Wq_16.w hy | have hw := Wq_17.w hy); replace hw := tY hw; (first | refine M.sC hw ?_ | refine M.sD hw ?_); clear hw hy; refine tB ?_)
 | (refine M.wh1 (b := mc_27) [0,2,3,5,6,8] [2] (fun x => [(4, .osl 2004 1 0 x.2.2.2.2.1.length), (9, .int .i64 x.1)]) (fun x => [.o 3 (.cells [.osl 4048 8 0 x.2.1.length, .osl 4049 4 0 x.2.2.1.length]), .o 4048 (.arr 8 (x.2.1.map GObject.v)), .o 4049 (.arr 4 (x.2.2.1.map GRefEvent.v)), .o 7 (.cells [.int .i64 x.2.2.2.1]), .o 2004 (.arr 1 (x.2.2.2.2.1.map (V.int .i64))), .o 1000 (.cells [.sl (x.2.2.2.2.2.L.map (V.int .i64)), .int .i64 x.2.2.2.2.2.at_])]) [.gc [0,2,3,4,5,6,8,9], .acc 4 2004 1, .ownC 3 0 4048 8 none, .ownC 3 1 4049 4 none] h ?_ ?_ <;> first
 | (clear h; intro x Qn K hK1 h; unfold F_27 at h; unfold mc_27; replace h := tY h; refine tB ?_)
  |(clear h; (try refine tB ?_); exact tU0; done))
 | (refine M.fold1 (b := mc_1y) 43 [0,2,3,4,5,6,8,10,11,41,42] [41,11,3,4048,4049,7,2005,2004,2] (fun x => []) (fun x => [.p 11 3 [.osl 4179 2 0 x.1.length], .o 4179 (.arr 2 (x.1.map GItem.v)), .o 1000 (.cells [.sl (x.2.L.map (V.int .i64)), .int .i64 x.2.at_])]) [.gc [0,2,3,4,5,6,8,10,11,41,42,43], .ownC 11 3 4179 2 none] h ?_ ?_ ?_ <;> first
 | (clear h; intro k a x Qn K hK2 hkN2 ha2 h hf; skip; clear hf; have hkd := kD hkN2; have hkB2 := kB hkN2; have hkI2 := kI (k := k) (by (try simp only [List.length_cons, List.length_nil] at hkN2); omega); have hkd2 : decide ((k : Int) < 3) = true := decide_eq_true (by simp only [List.length_cons, List.length_nil] at hkN2; omega); have hkr2 : (0 ≤ (k : Int) ∧ (k : Int) < 3) = True := eq_true (by simp only [List.length_cons, List.length_nil] at hkN2; omega); have hle2 := trivial; have hpt2 := trivial; unfold F_1y at h; unfold mc_1y; replace h := tY h; refine tKA ha2 hkd hkN2 hkB2 hkI2 hkd2 hkr2 hle2 hpt2 ?_)
  |(clear h; intro x K h; replace h := And.left (And.intro h trivial); unfold mc_1y; replace h := tY h; refine tB ?_)
  |(clear h; (try refine tB ?_); exact tU0; done))
 | (refine M.wh1 (b := mc_28) [0,2,3,4,6,8] [3,2004,2] (fun x => [(5, .osl 2005 1 0 x.2.2.2.2.1.length), (10, .int .i64 x.1)]) (fun x => [.p 3 0 [.osl 4048 8 0 x.2.1.length], .p 3 1 [.osl 4049 4 0 x.2.2.1.length], .o 4048 (.arr 8 (x.2.1.map GObject.v)), .o 4049 (.arr 4 (x.2.2.1.map GRefEvent.v)), .o 7 (.cells [.int .i64 x.2.2.2.1]), .o 2005 (.arr 1 (x.2.2.2.2.1.map (V.int .i64))), .o 1000 (.cells [.sl (x.2.2.2.2.2.L.map (V.int .i64)), .int .i64 x.2.2.2.2.2.at_])]) [.gc [0,2,3,4,5,6,8,10], .acc 5 2005 1, .ownC 3 0 4048 8 none, .ownC 3 1 4049 4 none] h ?_ ?_ <;> first
 | (clear h; intro x Qn K hK3 h; unfold F_28 at h; unfold mc_28; replace h := tY h; refine tB ?_)
  |(clear h; (try refine tB ?_); exact tU0; done))
 | (refine M.jn1 (b := mc_3n) [0,2,3,5,6,8,14,15,16] [15,3,4048,4049,7,2006,2005,2] (fun y => []) (fun y => [.p 15 5 [.osl 4245 1 0 y.1.length], .o 4245 (.arr 1 (y.1.map (V.int .i64))), .o 1000 (.cells [.sl (y.2.L.map (V.int .i64)), .int .i64 y.2.at_])]) [.gc [0,2,3,5,6,8,14,15,16], .ownC 15 5 4245 1 none] h ?_ ?_ <;> first
 | (clear h; intro Qn K hK4 h; replace h := tY h; refine tB ?_)
  |(clear h; intro y h; unfold mc_3n; replace h := tY h; refine tB ?_))
 | (refine M.gv1 (ms := mg_6) 117 [113,114,115,116] h ?_ ?_ <;> first
 | (clear h; intro K hK5; unfold mg_6; refine tB ?_)
 | (clear h; intro b h; replace h := tY h; refine tB ?_))
 | (refine M.wh1 (b := mc_29) [0,2,3,5,6,8,14,15] [15,3,4048,4049,7,2006,2005,2] (fun x => [(16, .int .i64 x.1)]) (fun x => [.p 15 4 [.int .i64 x.2.1], .p 15 5 [.osl 4245 1 0 x.2.2.2.1.length], .p 15 7 [.int .i64 x.2.2.1], .o 4245 (.arr 1 (x.2.2.2.1.map (V.int .i64))), .o 1000 (.cells [.sl (x.2.2.2.2.L.map (V.int .i64)), .int .i64 x.2.2.2.2.at_])]) [.gc [0,2,3,5,6,8,14,15,16], .ownC 15 5 4245 1 none] h ?_ ?_ <;> first
 | (clear h; intro x Qn K hK6 h; unfold F_29 at h; unfold mc_29; replace h := tY h; refine tB ?_)
  |(clear h; (try refine tB ?_); exact tU0; done))
 | (refine M.wh1 (b := mc_2a) [0,2,3,5,8] [3,2005,2] (fun x => [(6, .osl 2006 1 0 x.2.2.2.2.1.length), (14, .int .i64 x.1)]) (fun x => [.p 3 0 [.osl 4048 8 0 x.2.1.length], .p 3 1 [.osl 4049 4 0 x.2.2.1.length], .o 4048 (.arr 8 (x.2.1.map GObject.v)), .o 4049 (.arr 4 (x.2.2.1.map GRefEvent.v)), .o 7 (.cells [.int .i64 x.2.2.2.1]), .o 2006 (.arr 1 (x.2.2.2.2.1.map (V.int .i64))), .o 1000 (.cells [.sl (x.2.2.2.2.2.L.map (V.int .i64)), .int .i64 x.2.2.2.2.2.at_])]) [.gc [0,2,3,5,6,8,14], .acc 6 2006 1, .ownC 3 0 4048 8 none, .ownC 3 1 4049 4 none] h ?_ ?_ <;> first
 | (clear h; intro x Qn K hK7 h; unfold F_2a at h; unfold mc_2a; replace h := tY h; refine tB ?_)
  |(clear h; (try refine tB ?_); exact tU0; done))
 | (simp only [ha2])
 | ((first | refine hK1 _ ?_ | refine hK2 _ ?_ | refine hK3 _ ?_ | refine hK4 _ ?_ | refine hK6 _ ?_ | refine hK7 _ ?_); (try refine tB ?_); refine ⟨_, h, ?_⟩; exact tU0; done)
 | (refine hK5 _ ?_; exact tU; done)
 | (refine bfork (fun hc => ?_) (fun hc => ?_))
 | (refine tE4 V.str ?_; (first | rw [M.lok_compU] | rw [M.lokD_compU] | (simp only [V.cells]; first | rw [M.lok_comp] | rw [M.lokD_comp])); refine tB ?_)
 | (refine tE ?_; (first | rw [M.lok_compU] | rw [M.lokD_compU]); refine tB ?_)
 | (refine tA ?_)
 | fail)
def FR_1 : Nat → Int → Option Str
 | 0, _ => none
 | n + 1, n_ =>
 bif decide (n_ < 10) then some [(u8 (48 + ((u8 n_).toNat : Int)))] else chk (divs n_ 10) ((FR_1 n (n_ / 10)).bind fun y2 => chk (divs n_ 10) (chk (strl (y2.length + [(u8 (48 + ((u8 (n_ % 10)).toNat : Int)))].length)) (some (y2 ++ [(u8 (48 + ((u8 (n_ % 10)).toNat : Int)))]))))
noncomputable def F_1 (n_ : Int) : Option Str := lim fun n => FR_1 n n_
def mc_1 : MC :=
 (sR [mo (.mv (.c (.str []))) 2]
 (.seq (sR [oV 0 3,
 mo (.bin false .lss (.t 3) (cI 10)) 4]
 (.cond (.t 4)
 (sR [oV 0 5,
 mo (.i2i false .u8 (.t 5)) 6,
 mo (.bin false .add (.c (.int .u8 48)) (.t 6)) 7,
 mo (.bslice 1 [(.t 7)]) 8,
 mo (.b2s (.t 8)) 9,
 oV 9 2]
 .ret)
 .skip))
 (.seq (.regD [oV 0 10,
 mo (.bin true .quo (.t 10) (cI 10)) 11,
 mo (.call (.f 24) [(.t 11)] [] []) 12,
 oV 0 13,
 mo (.bin true .rem (.t 13) (cI 10)) 14,
 mo (.i2i false .u8 (.t 14)) 15,
 mo (.bin false .add (.c (.int .u8 48)) (.t 15)) 16,
 mo (.bslice 1 [(.t 16)]) 17,
 mo (.b2s (.t 17)) 18,
 mo (.bin false .add (.t 12) (.t 18)) 19,
 oV 19 2]
 [[],[0],[1],[],[3],[4],[5],[6],[7],[2,8],[9,2,0,1,2,3,4,5,6,7,8,9]]
 [[],[0],[0,1],[],[3],[3,4],[3,4,5],[3,4,5,6],[3,4,5,6,7],[0,1,2,3,4,5,6,7,8],[0,1,2,3,4,5,6,7,8,9]])
 .ret)))
theorem Wq_1 {n : Nat} (ih_ref13_number : ∀ {n_ : Int} {y : Str}, FR_1 n n_ = some y → ACall Tryd.prog 24 [.int .i64 n_] [] (fun r H => r = .str y ∧ H = [])) (n_ : Int) {Q : Str → Prop} {Q' : V → Heap → Prop} (h : Ok (FR_1 (n + 1) n_) Q) (hQ : ∀ z, Q z → Q' (.str z) []) : ACall Tryd.prog 24 [.int .i64 n_] [] Q' := by
 refine acallM mc_1 [] [] [.t 2] Tryd.func24 fun M => ?_
 simp only [FR_1] at h
 unfold mc_1
 replace h := tY h
 refine tB ?_
 repeat' (first
 | (exact tZ)
 | ((first | refine oblg h ?_ | refine roomG h ?_ | refine divG h ?_ | refine fork h ?_ ?_ | refine forkS h ?_ ?_) <;> clear h <;> intro hc h)
 | (obtain ⟨y, hy, h⟩ := h; have hw := ih_ref13_number hy; replace hw := tY hw; (first | refine M.sC hw ?_ | refine M.sD hw ?_); clear hw hy; refine tB ?_)
 | (refine tE ?_; (first | rw [M.lok_compU] | rw [M.lokD_compU]); refine tB ?_)
 | (refine tA ?_)
 | fail)
theorem WG_1 : ∀ n, (∀ {n_ : Int} {y : Str}, FR_1 n n_ = some y → ACall Tryd.prog 24 [.int .i64 n_] [] (fun r H => r = .str y ∧ H = []))
 | 0 => fun hy => by simp only [FR_1] at hy; cases hy
 | n + 1 => by
  have ih_ref13_number := @WG_1 n
  exact fun hy => Wq_1 ih_ref13_number _ (Q := (· = _)) ⟨_, hy, rfl⟩ fun | _, rfl => ⟨rfl, rfl⟩
theorem W_1 : ∀ {n_ : Int} {y : Str}, F_1 n_ = some y → ACall Tryd.prog 24 [.int .i64 n_] [] (fun r H => r = .str y ∧ H = []) := fun hy => by
 obtain ⟨n, hn⟩ := lim_inv hy
 exact (WG_1 n) hn
noncomputable def F_1m (o_ : GObject) (x37 : Str × Int) : Option (Fl (Str × Int) Str) :=
 bif decide (x37.2 < (o_.Items.length : Int)) then chk (inb x37.2 o_.Items.length) ((F_1 ((o_.Items.getD (x37.2).toNat default).ID)).bind fun y41 => chk (strl (y41.length + [32].length)) (chk (inb x37.2 o_.Items.length) (chk (strl ((y41 ++ [32]).length + ((o_.Items.getD (x37.2).toNat default).Name).length)) (chk (strl (((y41 ++ [32]) ++ (o_.Items.getD (x37.2).toNat default).Name).length + [10].length)) (chk (strl (x37.1.length + (((y41 ++ [32]) ++ (o_.Items.getD (x37.2).toNat default).Name) ++ [10]).length)) (chk (in64 (x37.2 + 1)) (some (.nx ((x37.1 ++ (((y41 ++ [32]) ++ (o_.Items.getD (x37.2).toNat default).Name) ++ [10])), (x37.2 + 1)))))))))) else some (.ex x37.1)
noncomputable def F_1n (o_ : GObject) (x61 : Str × Int) : Option (Fl (Str × Int) Str) :=
 bif decide (x61.2 < (o_.Parents.length : Int)) then chk (inb x61.2 o_.Parents.length) ((F_1 (o_.Parents.getD (x61.2).toNat default)).bind fun y65 => chk (strl ([112,97,114,101,110,116,32].length + y65.length)) (chk (strl (([112,97,114,101,110,116,32] ++ y65).length + [10].length)) (chk (strl (x61.1.length + (([112,97,114,101,110,116,32] ++ y65) ++ [10]).length)) (chk (in64 (x61.2 + 1)) (some (.nx ((x61.1 ++ (([112,97,114,101,110,116,32] ++ y65) ++ [10])), (x61.2 + 1)))))))) else some (.ex x61.1)
noncomputable def F_a (o_ : GObject) : Option (List UInt8) :=
 bif decide (o_.Kind = 1) then chk (room ([98,108,111,98,10].length + o_.Data.length) 1) (some ([98,108,111,98,10] ++ o_.Data)) else bif decide (o_.Kind = 2) then (loop (F_1m o_) ([116,114,101,101,10],0)).bind fun r42 => some r42 else (F_1 o_.Tree).bind fun y44 => chk (strl ([99,111,109,109,105,116,10,116,114,101,101,32].length + y44.length)) (chk (strl (([99,111,109,109,105,116,10,116,114,101,101,32] ++ y44).length + [10].length)) ((loop (F_1n o_) ((([99,111,109,109,105,116,10,116,114,101,101,32] ++ y44) ++ [10]),0)).bind fun r66 => chk (strl (r66.length + [97,117,116,104,111,114,32].length)) (chk (strl ((r66 ++ [97,117,116,104,111,114,32]).length + o_.Author.length)) (chk (strl (((r66 ++ [97,117,116,104,111,114,32]) ++ o_.Author).length + [10,116,105,109,101,32].length)) ((F_1 o_.Time).bind fun y68 => chk (strl ((((r66 ++ [97,117,116,104,111,114,32]) ++ o_.Author) ++ [10,116,105,109,101,32]).length + y68.length)) (chk (strl (((((r66 ++ [97,117,116,104,111,114,32]) ++ o_.Author) ++ [10,116,105,109,101,32]) ++ y68).length + [10].length)) (some (((((r66 ++ [97,117,116,104,111,114,32]) ++ o_.Author) ++ [10,116,105,109,101,32]) ++ y68) ++ [10]))))))))
@[irreducible] def mc_1m : MC :=
 (.seq (sR [oV 4 18,
 oF 3 1 19,
 oL 19 20,
 mo (.len false (.t 20)) 21,
 mo (.bin false .lss (.t 18) (.t 21)) 22]
 (.cond (.t 22)
 .skip
 (.exit 1)))
 (.seq (.block 2
 (.regD [oV 3 25,
 oF 3 1 26,
 oL 26 27,
 oV 4 28,
 mo (.iad 2 (.t 27) (.t 28)) 29,
 oF 1 29 30,
 oL 30 31,
 mo (.call (.f 24) [(.t 31)] [] []) 32,
 mo (.bin false .add (.t 32) (.c (.str [32]))) 33,
 oF 3 1 34,
 oL 34 35,
 oV 4 36,
 mo (.iad 2 (.t 35) (.t 36)) 37,
 oF 0 37 38,
 oL 38 39,
 mo (.bin false .add (.t 33) (.t 39)) 40,
 mo (.bin false .add (.t 40) (.c (.str [10]))) 41,
 mo (.bin false .add (.t 25) (.t 41)) 42,
 oV 42 3]
 [[],[],[1],[],[2,3],[4],[5],[6],[7],[],[9],[],[10,11],[12],[13],[8,14],[15],[0,16],[17,7,0,1,2,3,4,5,6,7,8,9,10,11,12,13,14,15,16,17]]
 [[],[],[1],[],[1,2,3],[1,2,3,4],[1,2,3,4,5],[1,2,3,4,5,6],[1,2,3,4,5,6,7],[],[9],[],[9,10,11],[9,10,11,12],[9,10,11,12,13],[1,2,3,4,5,6,7,8,9,10,11,12,13,14],[1,2,3,4,5,6,7,8,9,10,11,12,13,14,15],[0,1,2,3,4,5,6,7,8,9,10,11,12,13,14,15,16],[0,1,2,3,4,5,6,7,8,9,10,11,12,13,14,15,16,17]]))
 (.note (.gc [1,3,4]) (.reg [oV 4 23,
 mo (.bin true .add (.t 23) (cI 1)) 24,
 oV 24 4]))))
@[irreducible] def mc_1n : MC :=
 (.seq (sR [oV 6 50,
 oF 5 1 51,
 oL 51 52,
 mo (.len false (.t 52)) 53,
 mo (.bin false .lss (.t 50) (.t 53)) 54]
 (.cond (.t 54)
 .skip
 (.exit 3)))
 (.seq (.block 4
 (.reg [oV 5 57,
 oF 5 1 58,
 oL 58 59,
 oV 6 60,
 mo (.iad 1 (.t 59) (.t 60)) 61,
 oL 61 62,
 mo (.call (.f 24) [(.t 62)] [] []) 63,
 mo (.bin false .add (.c (.str [112,97,114,101,110,116,32])) (.t 63)) 64,
 mo (.bin false .add (.t 64) (.c (.str [10]))) 65,
 mo (.bin false .add (.t 57) (.t 65)) 66,
 oV 66 5]))
 (.note (.gc [1,5,6]) (.reg [oV 6 55,
 mo (.bin true .add (.t 55) (cI 1)) 56,
 oV 56 6]))))
def mc_a : MC :=
 (sR [mo (.box (.t 0)) 1,
 mo (.mv (.c (.sl []))) 2]
 (.seq (sR [oF 1 1 7,
 oL 7 8]
 (.block 0
 (sR [mo (.bin false .eql (.t 8) (cI 1)) 10,
 oV 10 9]
 (.cond (.t 9)
 (sR [mo (.bslice 1 [(.c (.int .u8 98)),(.c (.int .u8 108)),(.c (.int .u8 111)),(.c (.int .u8 98)),(.c (.int .u8 10))]) 11,
 mo (.mks (.t 11)) 12,
 oF 2 1 13,
 oL 13 14,
 mo (.app 1 1 (.t 12) (.t 14)) 15,
 oV 15 2]
 .ret)
 (sR [mo (.bin false .eql (.t 8) (cI 2)) 17,
 oV 17 16]
 (.cond (.t 16)
 (sR [mo (.mv (.c (.str [116,114,101,101,10]))) 3]
 (.seq (sR [oC 0 4]
 (.block 1
 (.loop mc_1m)))
 (sR [oV 3 43,
 mo (.s2b (.t 43)) 44,
 oV 44 2]
 .ret)))
 .skip))))))
 (.seq (.note (.gc [1]) (.reg [oF 4 1 45,
 oL 45 46,
 mo (.call (.f 24) [(.t 46)] [] []) 47,
 mo (.bin false .add (.c (.str [99,111,109,109,105,116,10,116,114,101,101,32])) (.t 47)) 48,
 mo (.bin false .add (.t 48) (.c (.str [10]))) 49,
 oV 49 5]))
 (.seq (sR [oC 0 6]
 (.block 3
 (.loop mc_1n)))
 (.seq (.regD [oV 5 67,
 mo (.bin false .add (.t 67) (.c (.str [97,117,116,104,111,114,32]))) 68,
 oF 6 1 69,
 oL 69 70,
 mo (.bin false .add (.t 68) (.t 70)) 71,
 mo (.bin false .add (.t 71) (.c (.str [10,116,105,109,101,32]))) 72,
 oF 7 1 73,
 oL 73 74,
 mo (.call (.f 24) [(.t 74)] [] []) 75,
 mo (.bin false .add (.t 72) (.t 75)) 76,
 mo (.bin false .add (.t 76) (.c (.str [10]))) 77,
 mo (.s2b (.t 77)) 78,
 oV 78 2]
 [[],[0],[],[2],[1,3],[4],[],[6],[7],[5,8],[9],[10],[11,8,0,1,2,3,4,5,6,7,8,9,10,11]]
 [[],[0],[],[2],[0,1,2,3],[0,1,2,3,4],[],[6],[6,7],[0,1,2,3,4,5,6,7,8],[0,1,2,3,4,5,6,7,8,9],[0,1,2,3,4,5,6,7,8,9,10],[0,1,2,3,4,5,6,7,8,9,10,11]])
 .ret)))))
theorem Wq_a {o_ : GObject} : Cn Tryd.prog 13 [GObject.v o_] [] (F_a o_) (fun z => .sl (z.map byteV)) (fun z => []) := fun Q Q' h hQ => by
 refine acallM mc_a [.fz 2] [] [.t 2] Tryd.func13 fun M => ?_
 unfold F_a at h
 unfold mc_a
 replace h := tY h
 refine tB ?_
 repeat' (first
 | (exact tZ)
 | ((first | refine oblg h ?_ | refine roomG h ?_ | refine fork h ?_ ?_ | refine forkS h ?_ ?_) <;> clear h <;> intro hc h)
 | (obtain ⟨y, hy, h⟩ := h; have hw := W_1 hy; replace hw := tY hw; (first | refine M.sC hw ?_ | refine M.sD hw ?_); clear hw hy; refine tB ?_)
 | (refine M.wh1 (b := mc_1m) [1] [1] (fun x => [(3, .str x.1), (4, .int .i64 x.2)]) (fun x => []) [] h ?_ ?_ <;> first
 | (clear h; intro x Qn K hK1 h; unfold F_1m at h; unfold mc_1m; replace h := tY h; refine tB ?_)
  |(clear h; (try refine tB ?_); exact tU0; done))
 | (refine M.wh1 (b := mc_1n) [1] [1] (fun x => [(5, .str x.1), (6, .int .i64 x.2)]) (fun x => []) [] h ?_ ?_ <;> first
 | (clear h; intro x Qn K hK2 h; unfold F_1n at h; unfold mc_1n; replace h := tY h; refine tB ?_)
  |(clear h; (try refine tB ?_); exact tU0; done))
 | ((first | refine hK1 _ ?_ | refine hK2 _ ?_); (try refine tB ?_); refine ⟨_, h, ?_⟩; exact tU0; done)
 | (refine tE ?_; (first | rw [M.lok_compU] | rw [M.lokD_compU]); refine tB ?_)
 | (refine tA ?_)
 | fail)
noncomputable def F_1z (a_ : GObject) (b_ : GObject) (x54 : Int) : Option (Fl Int (Sum Unit Bool)) :=
 bif decide (x54 < (a_.Items.length : Int)) then chk (inb x54 a_.Items.length) (chk (inb x54 b_.Items.length) (bif (!(decide ((a_.Items.getD (x54).toNat default).Name = (b_.Items.getD (x54).toNat default).Name) && decide ((a_.Items.getD (x54).toNat default).ID = (b_.Items.getD (x54).toNat default).ID))) then some (.ex (.inr false)) else chk (in64 (x54 + 1)) (some (.nx (x54 + 1))))) else some (.ex (.inl ()))
noncomputable def F_20 (a_ : GObject) (b_ : GObject) (x66 : Int) : Option (Fl Int (Sum Unit Bool)) :=
 bif decide (x66 < (a_.Parents.length : Int)) then chk (inb x66 a_.Parents.length) (chk (inb x66 b_.Parents.length) (bif (!decide ((a_.Parents.getD (x66).toNat default) = (b_.Parents.getD (x66).toNat default))) then some (.ex (.inr false)) else chk (in64 (x66 + 1)) (some (.nx (x66 + 1))))) else some (.ex (.inl ()))
noncomputable def F_19 (a_ : GObject) (b_ : GObject) : Option Bool :=
 jn (α := Fl Unit Bool) (grp (((!decide (a_.ID = b_.ID)) || (!decide (a_.Kind = b_.Kind)))) fun b35 => bif b35 then grp (true) fun b36 => grp ((b36 || (!decide (a_.Author = b_.Author)))) fun b37 => grp ((b37 || (!decide (a_.Time = b_.Time)))) fun b38 => grp ((b38 || (!decide ((a_.Items.length : Int) = (b_.Items.length : Int))))) fun b39 => grp ((b39 || (!decide ((a_.Parents.length : Int) = (b_.Parents.length : Int))))) fun b40 => bif b40 then some (.ex false) else some (.nx ()) else grp (((!decide (a_.Data = b_.Data)) || (!decide (a_.Tree = b_.Tree)))) fun b41 => grp ((b41 || (!decide (a_.Author = b_.Author)))) fun b42 => grp ((b42 || (!decide (a_.Time = b_.Time)))) fun b43 => grp ((b43 || (!decide ((a_.Items.length : Int) = (b_.Items.length : Int))))) fun b44 => grp ((b44 || (!decide ((a_.Parents.length : Int) = (b_.Parents.length : Int))))) fun b45 => bif b45 then some (.ex false) else some (.nx ())) fun o => o.elim (fun j23 => (loop (F_1z a_ b_) 0).bind fun r55 => Sum.elim (fun u56 => (loop (F_20 a_ b_) 0).bind fun r67 => Sum.elim (fun u68 => some true) (fun u69 => some u69) r67) (fun u57 => some u57) r55) (fun r70 => some r70)
@[irreducible] def mg_3o : List MOp := [gF 12 13 (.fad 1 (.t 2)),
 gF 12 14 (.ld none (.t 13)),
 gF 12 15 (.fad 1 (.t 3)),
 gF 12 16 (.ld none (.t 15)),
 gF 12 17 (.bin false .neq (.t 14) (.t 16)),
 mo (.pick (.t 12) (.c (.bool true)) (.t 17)) 18]
@[irreducible] def mg_2e : List MOp := [gF 28 29 (.fad 4 (.t 2)),
 gF 28 30 (.ld none (.t 29)),
 gF 28 31 (.fad 4 (.t 3)),
 gF 28 32 (.ld none (.t 31)),
 gF 28 33 (.bin false .neq (.t 30) (.t 32)),
 mo (.pick (.t 28) (.c (.bool true)) (.t 33)) 34]
@[irreducible] def mg_2f : List MOp := [gF 35 36 (.fad 6 (.t 2)),
 gF 35 37 (.ld none (.t 36)),
 gF 35 38 (.fad 6 (.t 3)),
 gF 35 39 (.ld none (.t 38)),
 gF 35 40 (.bin false .neq (.t 37) (.t 39)),
 mo (.pick (.t 35) (.c (.bool true)) (.t 40)) 41]
@[irreducible] def mg_2g : List MOp := [gF 42 43 (.fad 7 (.t 2)),
 gF 42 44 (.ld none (.t 43)),
 gF 42 45 (.fad 7 (.t 3)),
 gF 42 46 (.ld none (.t 45)),
 gF 42 47 (.bin false .neq (.t 44) (.t 46)),
 mo (.pick (.t 42) (.c (.bool true)) (.t 47)) 48]
@[irreducible] def mg_2h : List MOp := [gF 49 50 (.fad 3 (.t 2)),
 gF 49 51 (.ld none (.t 50)),
 gF 49 52 (.len false (.t 51)),
 gF 49 53 (.fad 3 (.t 3)),
 gF 49 54 (.ld none (.t 53)),
 gF 49 55 (.len false (.t 54)),
 gF 49 56 (.bin false .neq (.t 52) (.t 55)),
 mo (.pick (.t 49) (.c (.bool true)) (.t 56)) 57]
@[irreducible] def mg_2i : List MOp := [gF 58 59 (.fad 5 (.t 2)),
 gF 58 60 (.ld none (.t 59)),
 gF 58 61 (.len false (.t 60)),
 gF 58 62 (.fad 5 (.t 3)),
 gF 58 63 (.ld none (.t 62)),
 gF 58 64 (.len false (.t 63)),
 gF 58 65 (.bin false .neq (.t 61) (.t 64)),
 mo (.pick (.t 58) (.c (.bool true)) (.t 65)) 66]
@[irreducible] def mc_1z : MC :=
 (.seq (sR [oV 5 67,
 oF 3 2 68,
 oL 68 69,
 mo (.len false (.t 69)) 70,
 mo (.bin false .lss (.t 67) (.t 70)) 71]
 (.cond (.t 71)
 .skip
 (.exit 0)))
 (.seq (.block 1
 (.seq (.regD [oF 3 2 74,
 oL 74 75,
 oV 5 76,
 mo (.iad 2 (.t 75) (.t 76)) 77,
 mo (.ld (some 2) (.t 77)) 78,
 oF 3 3 79,
 oL 79 80,
 oV 5 81,
 mo (.iad 2 (.t 80) (.t 81)) 82,
 mo (.ld (some 2) (.t 82)) 83,
 mo (.eqs true [1,0] (.t 78) (.t 83)) 84]
 [[],[0],[],[1,2],[3],[],[5],[],[6,7],[8],[4,9]]
 [[],[0],[],[0,1,2],[0,1,2,3],[],[5],[],[5,6,7],[5,6,7,8],[0,1,2,3,4,5,6,7,8,9]])
 (.cond (.t 84)
 (sR [mo (.mv (.c (.bool false))) 4]
 .ret)
 .skip)))
 (.note (.gc [2,3,5]) (.reg [oV 5 72,
 mo (.bin true .add (.t 72) (cI 1)) 73,
 oV 73 5]))))
@[irreducible] def mc_20 : MC :=
 (.seq (sR [oV 6 85,
 oF 5 2 86,
 oL 86 87,
 mo (.len false (.t 87)) 88,
 mo (.bin false .lss (.t 85) (.t 88)) 89]
 (.cond (.t 89)
 .skip
 (.exit 2)))
 (.seq (.block 3
 (.seq (.regD [oF 5 2 92,
 oL 92 93,
 oV 6 94,
 mo (.iad 1 (.t 93) (.t 94)) 95,
 oL 95 96,
 oF 5 3 97,
 oL 97 98,
 oV 6 99,
 mo (.iad 1 (.t 98) (.t 99)) 100,
 oL 100 101,
 mo (.bin false .neq (.t 96) (.t 101)) 102]
 [[],[0],[],[1,2],[3],[],[5],[],[6,7],[8],[4,9]]
 [[],[0],[],[0,1,2],[0,1,2,3],[],[5],[],[5,6,7],[5,6,7,8],[0,1,2,3,4,5,6,7,8,9]])
 (.cond (.t 102)
 (sR [mo (.mv (.c (.bool false))) 4]
 .ret)
 .skip)))
 (.note (.gc [2,3,6]) (.reg [oV 6 90,
 mo (.bin true .add (.t 90) (cI 1)) 91,
 oV 91 6]))))
@[irreducible] def mc_3p : MC :=
 (.seq (sR [oC 0 5]
 (.block 0
 (.loop mc_1z)))
 (.seq (sR [oC 0 6]
 (.block 2
 (.loop mc_20)))
 (sR [mo (.mv (.c (.bool true))) 4]
 .ret)))
def mc_19 : MC :=
 (sR [mo (.box (.t 0)) 2,
 mo (.box (.t 1)) 3,
 mo (.mv (.c (.bool false))) 4]
 (.cut (.seq (.regI [.op (oF 0 2 7),
 .op (oL 7 8),
 .op (oF 0 3 9),
 .op (oL 9 10),
 .op (mo (.bin false .neq (.t 8) (.t 10)) 11),
 .op (oV 11 12),
 .grp mg_3o,
 .op (oV 18 19),
 .op (gF 19 20 (.fad 2 (.t 2))),
 .op (gF 19 21 (.ld none (.t 20))),
 .op (gF 19 22 (.b2s (.t 21))),
 .op (gF 19 23 (.fad 2 (.t 3))),
 .op (gF 19 24 (.ld none (.t 23))),
 .op (gF 19 25 (.b2s (.t 24))),
 .op (gF 19 26 (.bin false .neq (.t 22) (.t 25))),
 .op (mo (.pick (.t 19) (.c (.bool true)) (.t 26)) 27),
 .op (oV 27 28),
 .grp mg_2e,
 .op (oV 34 35),
 .grp mg_2f,
 .op (oV 41 42),
 .grp mg_2g,
 .op (oV 48 49),
 .grp mg_2h,
 .op (oV 57 58),
 .grp mg_2i])
 (.cond (.t 66)
 (sR [mo (.mv (.c (.bool false))) 4]
 .ret)
 .skip))
 mc_3p))
theorem Wq_19 {a_ b_ : GObject} : Cn Tryd.prog 9 [GObject.v a_, GObject.v b_] [] (F_19 a_ b_) (fun z => .bool z) (fun z => []) := fun Q Q' h hQ => by
 refine acallM mc_19 [] [] [.t 4] Tryd.func9 fun M => ?_
 unfold F_19 at h
 unfold mc_19
 replace h := tY h
 refine tB ?_
 repeat' (first
 | (exact tZ)
 | ((first | refine oblg h ?_ | refine roomG h ?_ | refine fork h ?_ ?_ | refine forkS h ?_ ?_) <;> clear h <;> intro hc h)
 | (refine M.gv1 (ms := mg_2i) 66 [59,60,61,62,63,64,65] h ?_ ?_ <;> first
 | (clear h; intro K hK1; unfold mg_2i; refine tB ?_)
 | (clear h; intro b h; replace h := tY h; refine tB ?_))
 | (refine M.gv1 (ms := mg_2h) 57 [50,51,52,53,54,55,56] h ?_ ?_ <;> first
 | (clear h; intro K hK2; unfold mg_2h; refine tB ?_)
 | (clear h; intro b h; replace h := tY h; refine tB ?_))
 | (refine M.gv1 (ms := mg_2g) 48 [43,44,45,46,47] h ?_ ?_ <;> first
 | (clear h; intro K hK3; unfold mg_2g; refine tB ?_)
 | (clear h; intro b h; replace h := tY h; refine tB ?_))
 | (refine M.gv1 (ms := mg_2f) 41 [36,37,38,39,40] h ?_ ?_ <;> first
 | (clear h; intro K hK4; unfold mg_2f; refine tB ?_)
 | (clear h; intro b h; replace h := tY h; refine tB ?_))
 | (refine M.gv1 (ms := mg_2e) 34 [29,30,31,32,33] h ?_ ?_ <;> first
 | (clear h; intro K hK5; unfold mg_2e; refine tB ?_)
 | (clear h; intro b h; replace h := tY h; refine tB ?_))
 | (refine M.gv1 (ms := mg_2i) 66 [59,60,61,62,63,64,65] h ?_ ?_ <;> first
 | (clear h; intro K hK6; unfold mg_2i; refine tB ?_)
 | (clear h; intro b h; replace h := tY h; refine tB ?_))
 | (refine M.gv1 (ms := mg_2h) 57 [50,51,52,53,54,55,56] h ?_ ?_ <;> first
 | (clear h; intro K hK7; unfold mg_2h; refine tB ?_)
 | (clear h; intro b h; replace h := tY h; refine tB ?_))
 | (refine M.gv1 (ms := mg_2g) 48 [43,44,45,46,47] h ?_ ?_ <;> first
 | (clear h; intro K hK8; unfold mg_2g; refine tB ?_)
 | (clear h; intro b h; replace h := tY h; refine tB ?_))
 | (refine M.gv1 (ms := mg_2f) 41 [36,37,38,39,40] h ?_ ?_ <;> first
 | (clear h; intro K hK9; unfold mg_2f; refine tB ?_)
 | (clear h; intro b h; replace h := tY h; refine tB ?_))
 | (refine M.gv1 (ms := mg_2e) 34 [29,30,31,32,33] h ?_ ?_ <;> first
 | (clear h; intro K hK10; unfold mg_2e; refine tB ?_)
 | (clear h; intro b h; replace h := tY h; refine tB ?_))
 | (refine M.gv1 (ms := mg_3o) 18 [13,14,15,16,17] h ?_ ?_ <;> first
 | (clear h; intro K hK11; unfold mg_3o; refine tB ?_)
 | (clear h; intro b h; replace h := tY h; refine tB ?_))
 | (refine M.wh1 (b := mc_1z) [2,3] [3,2] (fun x => [(5, .int .i64 x)]) (fun x => []) [] h ?_ ?_ <;> first
 | (clear h; intro x Qn K hK12 h; unfold F_1z at h; unfold mc_1z; replace h := tY h; refine tB ?_)
  |(clear h; (try refine tB ?_); exact tU0; done))
 | (refine M.wh1 (b := mc_20) [2,3] [3,2] (fun x => [(6, .int .i64 x)]) (fun x => []) [] h ?_ ?_ <;> first
 | (clear h; intro x Qn K hK13 h; unfold F_20 at h; unfold mc_20; replace h := tY h; refine tB ?_)
  |(clear h; (try refine tB ?_); exact tU0; done))
 | (refine M.jnE (b := mc_3p) [2,3] [3,2] (fun y => []) (fun y => []) [] h ?_ ?_ <;> first
 | (clear h; intro Qn K hK14 h; replace h := tY h; refine tB ?_)
  |(clear h; intro y h; unfold mc_3p; replace h := tY h; refine tB ?_))
 | ((first | refine hK1 _ ?_ | refine hK2 _ ?_ | refine hK3 _ ?_ | refine hK4 _ ?_ | refine hK5 _ ?_ | refine hK6 _ ?_ | refine hK7 _ ?_ | refine hK8 _ ?_ | refine hK9 _ ?_ | refine hK10 _ ?_ | refine hK11 _ ?_); exact tU; done)
 | ((first | refine hK12 _ ?_ | refine hK13 _ ?_ | refine hK14 _ ?_); (try refine tB ?_); refine ⟨_, h, ?_⟩; exact tU0; done)
 | (refine bfork (fun hc => ?_) (fun hc => ?_))
 | (refine tE ?_; (first | rw [M.lok_compU] | rw [M.lokD_compU]); refine tB ?_)
 | (refine tA ?_)
 | fail)
end Go.Ab
