/- What the functions of this seat that lie on the laws' road compute (part LB), each for every input. By AI agents. -/
import Derived.Test.YtkdkcffaohmedaaDoorProg
import Derived.KernelRfl
import Derived.Test.YtkdkcffaohmedaaDoorAbFun
import Derived.Test.YtkdkcffaohmedaaDoorLP
set_option linter.all false
set_option linter.all false
set_option maxRecDepth 20000
set_option maxHeartbeats 2000000
namespace Go.Ab
open Go.Proofs
structure GTape where
 L : List Int
 at_ : Int
instance : Inhabited GTape := ⟨⟨default, default⟩⟩
def GTape.v (x : GTape) : V := .agg [.sl (x.L.map (V.int .i64)), .int .i64 x.at_]
structure GRefEvent where
 Kind : Int
 Name : Str
 Commit : Int
 Time : Int
instance : Inhabited GRefEvent := ⟨⟨default, default, default, default⟩⟩
def GRefEvent.v (x : GRefEvent) : V := .agg [.int .i64 x.Kind, .str x.Name, .int .i64 x.Commit, .int .i64 x.Time]
structure GRepository where
 Objects : List GObject
 Events : List GRefEvent
instance : Inhabited GRepository := ⟨⟨default, default⟩⟩
def GRepository.v (x : GRepository) : V := .agg [.sl (x.Objects.map GObject.v), .sl (x.Events.map GRefEvent.v)]
attribute [go_sem] GRefEvent.v GRepository.v GTape.v
def F_0 (t_ : GTape) (n_ : Int) : Option (Int × GTape) :=
 bif decide ((t_.L.length : Int) ≤ t_.at_) then some (0, t_) else chk (inb t_.at_ t_.L.length) (chk (in64 (t_.at_ + 1)) (chk (divs ((t_.L.getD (t_.at_).toNat default) % 2 ^ 16) n_) (some ((((t_.L.getD (t_.at_).toNat default) % 2 ^ 16) % n_), (GTape.mk t_.L (t_.at_ + 1))))))
def mc_0 : MC :=
 (sR [oC 0 4]
 (.seq (.seq (.regD [oV 0 6,
 mo (.nck (.t 6)) 7,
 oF 1 7 8,
 oL 8 9,
 oV 0 10,
 mo (.nck (.t 10)) 11,
 oF 0 11 12,
 oL 12 13,
 mo (.len false (.t 13)) 14,
 mo (.bin false .geq (.t 9) (.t 14)) 15]
 [[],[0],[1],[2],[],[4],[5],[6],[7],[3,8]]
 [[],[0],[0,1],[0,1,2],[],[4],[4,5],[4,5,6],[4,5,6,7],[0,1,2,3,4,5,6,7,8]])
 (.cond (.t 15)
 (sR [oC 0 4]
 .ret)
 .skip))
 (.seq (.note (.gc [0,1]) (.regD [oV 0 16,
 mo (.nck (.t 16)) 17,
 oF 0 17 18,
 oL 18 19,
 oV 0 20,
 mo (.nck (.t 20)) 21,
 oF 1 21 22,
 oL 22 23,
 mo (.iad 1 (.t 19) (.t 23)) 24,
 oL 24 25,
 mo (.mask 16 (.t 25) .i64) 26,
 oV 26 5]
 [[],[0],[1],[2],[],[4],[5],[6],[3,7],[8],[9],[10,0,1,2,3,4,5,6,7,8,9,10]]
 [[],[0],[0,1],[0,1,2],[],[4],[4,5],[4,5,6],[0,1,2,3,4,5,6,7],[0,1,2,3,4,5,6,7,8],[0,1,2,3,4,5,6,7,8,9],[0,1,2,3,4,5,6,7,8,9,10]]))
 (.seq (.note (.gc [0,1,5]) (.reg [oV 0 27,
 mo (.nck (.t 27)) 28,
 oF 1 28 29,
 oL 29 30,
 mo (.bin true .add (.t 30) (cI 1)) 31,
 mo (.nck (.t 27)) 32,
 oF 1 32 33,
 ⟨.st 1 (.t 33) (.t 31), none, none⟩]))
 (.seq (.note (.gc [1,5]) (.reg [oV 5 34,
 oV 1 35,
 mo (.bin true .rem (.t 34) (.t 35)) 36,
 oV 36 4]))
 .ret)))))
theorem Wq_0 {t_ : GTape} {n_ : Int} : Cn Tryd.prog 8 [.ptr 1000 0, .int .i64 n_] [(1000, .cells [.sl (t_.L.map (V.int .i64)), .int .i64 t_.at_])] (F_0 t_ n_) (fun z => .int .i64 z.1) (fun z => [(1000, .cells [.sl (z.2.L.map (V.int .i64)), .int .i64 z.2.at_])]) := fun Q Q' h hQ => by
 refine acallM mc_0 [] [1000] [.t 4] Tryd.func8 fun M => ?_
 unfold F_0 at h
 unfold mc_0
 replace h := tY h
 refine tB ?_
 repeat' (first
 | (exact tZ)
 | ((first | refine oblg h ?_ | refine roomG h ?_ | refine divG h ?_ | refine fork h ?_ ?_ | refine forkS h ?_ ?_) <;> clear h <;> intro hc h)
 | (refine tE ?_; (first | rw [M.lok_compU] | rw [M.lokD_compU]); refine tB ?_)
 | (refine tA ?_)
 | fail)
def F_n (t_ : GTape) (a_ : Int) (b_ : Int) : Option (Int × GTape) :=
 chk (in64 (b_ - a_)) (chk (in64 ((b_ - a_) + 1)) ((F_0 t_ ((b_ - a_) + 1)).bind fun y2 => chk (in64 (a_ + y2.1)) (some ((a_ + y2.1), y2.2))))
def mc_n : MC :=
 (sR [oC 0 6]
 (sR [oV 1 7,
 oV 0 8,
 oV 2 9,
 oV 1 10,
 mo (.bin true .sub (.t 9) (.t 10)) 11,
 mo (.bin true .add (.t 11) (cI 1)) 12,
 mo (.call (.f 8) [(.t 8),(.t 12)] [1000] []) 13,
 mo (.bin true .add (.t 7) (.t 13)) 14,
 oV 14 6]
 .ret))
theorem Wq_n {t_ : GTape} {a_ b_ : Int} : Cn Tryd.prog 24 [.ptr 1000 0, .int .i64 a_, .int .i64 b_] [(1000, .cells [.sl (t_.L.map (V.int .i64)), .int .i64 t_.at_])] (F_n t_ a_ b_) (fun z => .int .i64 z.1) (fun z => [(1000, .cells [.sl (z.2.L.map (V.int .i64)), .int .i64 z.2.at_])]) := fun Q Q' h hQ => by
 refine acallM mc_n [] [1000] [.t 6] Tryd.func24 fun M => ?_
 unfold F_n at h
 unfold mc_n
 replace h := tY h
 refine tB ?_
 repeat' (first
 | (exact tZ)
 | ((first | refine oblg h ?_ | refine roomG h ?_ | refine fork h ?_ ?_ | refine forkS h ?_ ?_) <;> clear h <;> intro hc h)
 | (obtain ⟨y, hy, h⟩ := h; have hw := Wq_0.w hy; replace hw := tY hw; (first | refine M.sC hw ?_ | refine M.sD hw ?_); clear hw hy; refine tB ?_)
 | (refine tE ?_; (first | rw [M.lok_compU] | rw [M.lokD_compU]); refine tB ?_)
 | (refine tA ?_)
 | fail)
noncomputable def F_1w (n_ : Int) (x47 : Int × (List UInt8) × GTape) : Option (Fl (Int × (List UInt8) × GTape) ((List UInt8) × GTape)) :=
 bif decide (x47.1 < n_) then jn (α := (List UInt8) × GTape) ((F_0 x47.2.2 8).bind fun y65 => bif decide (y65.1 = 0) then (F_0 y65.2 8).bind fun y66 => chk (inb y66.1 [32,10,61,37,43,47,45,46].length) (chk (room (x47.2.1.length + [([32,10,61,37,43,47,45,46].getD (y66.1).toNat 0)].length) 1) (some ((x47.2.1 ++ [([32,10,61,37,43,47,45,46].getD (y66.1).toNat 0)]), y66.2))) else bif decide (y65.1 = 1) then (F_0 y65.2 256).bind fun y67 => chk (room (x47.2.1.length + [(u8 y67.1)].length) 1) (some ((x47.2.1 ++ [(u8 y67.1)]), y67.2)) else jn (α := Bool) (bif decide (y65.1 = 2) then some true else some (decide (y65.1 = 3))) fun j68 => bif j68 then (F_0 y65.2 10).bind fun y69 => chk (in64 (48 + y69.1)) (chk (room (x47.2.1.length + [(u8 (48 + y69.1))].length) 1) (some ((x47.2.1 ++ [(u8 (48 + y69.1))]), y69.2))) else (F_0 y65.2 8).bind fun y70 => chk (inb y70.1 [97,98,99,100,101,102,116,107].length) (chk (room (x47.2.1.length + [([97,98,99,100,101,102,116,107].getD (y70.1).toNat 0)].length) 1) (some ((x47.2.1 ++ [([97,98,99,100,101,102,116,107].getD (y70.1).toNat 0)]), y70.2)))) fun j63 => chk (in64 (x47.1 + 1)) (some (.nx ((x47.1 + 1), j63.1, j63.2))) else some (.ex (x47.2.1, x47.2.2))
noncomputable def F_13 (t_ : GTape) (n_ : Int) : Option ((List UInt8) × GTape) :=
 (loop (F_1w n_) (0,[], t_)).bind fun r71 => some (r71.1, r71.2)
@[irreducible] def mc_3m : MC :=
 (.cond (.t 36)
 (.reg [oV 5 39,
 oV 0 40,
 mo (.call (.f 8) [(.t 40), (cI 10)] [1000] []) 41,
 mo (.bin true .add (cI 48) (.t 41)) 42,
 mo (.i2i false .u8 (.t 42)) 43,
 mo (.bslice 1 [(.t 43)]) 44,
 mo (.app 1 1 (.t 39) (.t 44)) 45,
 oV 45 5])
 (.reg [oV 5 14,
 oV 0 15,
 mo (.call (.f 8) [(.t 15), (cI 8)] [1000] []) 16,
 mo (.idx (.c (.str [97,98,99,100,101,102,116,107])) (.t 16)) 17,
 mo (.bslice 1 [(.t 17)]) 18,
 mo (.app 1 1 (.t 14) (.t 18)) 19,
 oV 19 5]))
@[irreducible] def mc_3n : MC :=
 (.reg [oV 6 10,
 mo (.bin true .add (.t 10) (cI 1)) 11,
 oV 11 6])
@[irreducible] def mc_1w : MC :=
 (.seq (sR [oV 6 7,
 oV 1 8,
 mo (.bin false .lss (.t 7) (.t 8)) 9]
 (.cond (.t 9)
 .skip
 (.exit 0)))
 (.cut (.block 1
 (sR [oV 0 12,
 mo (.call (.f 8) [(.t 12), (cI 8)] [1000] []) 13]
 (.block 2
 (sR [mo (.bin false .eql (.t 13) (cI 0)) 21,
 oV 21 20]
 (.cond (.t 20)
 (.reg [oV 5 22,
 oV 0 23,
 mo (.call (.f 8) [(.t 23), (cI 8)] [1000] []) 24,
 mo (.idx (.c (.str [32,10,61,37,43,47,45,46])) (.t 24)) 25,
 mo (.bslice 1 [(.t 25)]) 26,
 mo (.app 1 1 (.t 22) (.t 26)) 27,
 oV 27 5])
 (sR [mo (.bin false .eql (.t 13) (cI 1)) 29,
 oV 29 28]
 (.cond (.t 28)
 (.note (.gc [0,1,5,6]) (.reg [oV 5 30,
 oV 0 31,
 mo (.call (.f 8) [(.t 31), (cI 256)] [1000] []) 32,
 mo (.i2i false .u8 (.t 32)) 33,
 mo (.bslice 1 [(.t 33)]) 34,
 mo (.app 1 1 (.t 30) (.t 34)) 35,
 oV 35 5]))
 (.cut (sR [mo (.bin false .eql (.t 13) (cI 2)) 37,
 oV 37 36]
 (.cond (.t 36)
 .skip
 (.reg [mo (.bin false .eql (.t 13) (cI 3)) 38,
 oV 38 36])))
 mc_3m))))))))
 mc_3n))
def mc_13 : MC :=
 (sR [mo (.mv (.c (.sl []))) 4]
 (sR [mo (.mv (.c .nils)) 5]
 (.seq (sR [oC 0 6]
 (.block 0
 (.loop mc_1w)))
 (sR [oV 5 46,
 oV 46 4]
 .ret))))
theorem Wq_13 {t_ : GTape} {n_ : Int} : Cn Tryd.prog 7 [.ptr 1000 0, .int .i64 n_] [(1000, .cells [.sl (t_.L.map (V.int .i64)), .int .i64 t_.at_])] (F_13 t_ n_) (fun z => .sl (z.1.map byteV)) (fun z => [(1000, .cells [.sl (z.2.L.map (V.int .i64)), .int .i64 z.2.at_])]) := fun Q Q' h hQ => by
 refine acallM mc_13 [.fz 4] [1000] [.t 4] Tryd.func7 fun M => ?_
 unfold F_13 at h
 unfold mc_13
 replace h := tY h
 refine tB ?_
 repeat' (first
 | (exact tZ)
 | ((first | refine oblg h ?_ | refine roomG h ?_ | refine inbG h ?_ | refine fork h ?_ ?_ | refine forkS h ?_ ?_) <;> clear h <;> intro hc h)
 | (obtain ⟨y, hy, h⟩ := h; have hw := Wq_0.w hy; replace hw := tY hw; (first | refine M.sC hw ?_ | refine M.sD hw ?_); clear hw hy; refine tB ?_)
 | (refine M.jn1 (b := mc_3m) [0,1,5,6] [2005,1000] (fun y => [(36, .bool y)]) (fun y => []) [] h ?_ ?_ <;> first
 | (clear h; intro Qn K hK1 h; replace h := tY h; refine tB ?_)
  |(clear h; intro y h; unfold mc_3m; replace h := tY h; refine tB ?_))
 | (refine M.jn1 (b := mc_3n) [0,1,6] [] (fun y => [(5, .osl 2005 1 0 y.1.length)]) (fun y => [.o 2005 (.arr 1 (y.1.map byteV)), .o 1000 (.cells [.sl (y.2.L.map (V.int .i64)), .int .i64 y.2.at_])]) [.gc [0,1,5,6], .acc 5 2005 1] h ?_ ?_ <;> first
 | (clear h; intro Qn K hK2 h; replace h := tY h; refine tB ?_)
  |(clear h; intro y h; unfold mc_3n; replace h := tY h; refine tB ?_))
 | (refine M.wh1 (b := mc_1w) [0,1] [] (fun x => [(5, .osl 2005 1 0 x.2.1.length), (6, .int .i64 x.1)]) (fun x => [.o 2005 (.arr 1 (x.2.1.map byteV)), .o 1000 (.cells [.sl (x.2.2.L.map (V.int .i64)), .int .i64 x.2.2.at_])]) [.gc [0,1,5,6], .acc 5 2005 1] h ?_ ?_ <;> first
 | (clear h; intro x Qn K hK3 h; unfold F_1w at h; unfold mc_1w; replace h := tY h; refine tB ?_)
  |(clear h; (try refine tB ?_); exact tU0; done))
 | ((first | refine hK1 _ ?_ | refine hK2 _ ?_ | refine hK3 _ ?_); (try refine tB ?_); refine ⟨_, h, ?_⟩; exact tU0; done)
 | (refine tE ?_; (first | rw [M.lok_compU] | rw [M.lokD_compU]); refine tB ?_)
 | (refine tA ?_)
 | fail)
def F_4 (o_ : GObject) (p_ : Int) (p__ : GRepository) : Option (Int × Int × GRepository) :=
 chk (in64 (p_ + 1)) (chk (room (p__.Objects.length + [(GObject.mk (p_ + 1) o_.Kind o_.Data o_.Items o_.Tree o_.Parents o_.Author o_.Time)].length) 120) (some ((p_ + 1), (p_ + 1), (GRepository.mk (p__.Objects ++ [(GObject.mk (p_ + 1) o_.Kind o_.Data o_.Items o_.Tree o_.Parents o_.Author o_.Time)]) p__.Events))))
def mc_4 : MC :=
 (sR [mo (.box (.t 0)) 3,
 oC 0 4]
 (sR [oL 1 5,
 mo (.bin true .add (.t 5) (cI 1)) 6,
 ⟨.st 1 (.t 1) (.t 6), none, none⟩]
 (sR [oL 1 7,
 oF 0 3 8,
 ⟨.st 1 (.t 8) (.t 7), none, none⟩]
 (sR [oF 0 2 9,
 oL 9 10,
 mo (.ld (some 8) (.t 3)) 11,
 mo (.bslice 8 [(.t 11)]) 12,
 mo (.app 8 120 (.t 10) (.t 12)) 13,
 oF 0 2 14,
 ⟨.st 1 (.t 14) (.t 13), none, none⟩]
 (sR [oL 1 15,
 oV 15 4]
 .ret)))))
theorem Wq_4 {o_ : GObject} {p_ : Int} {p__ : GRepository} : Cn Tryd.prog 35 [GObject.v o_, .ptr 1000 0, .ptr 1001 0] [(1000, .cells [.int .i64 p_]), (1001, .cells [.osl 1002 8 0 p__.Objects.length, .osl 1003 4 0 p__.Events.length]), (1002, .arr 8 (p__.Objects.map GObject.v)), (1003, .arr 4 (p__.Events.map GRefEvent.v))] (F_4 o_ p_ p__) (fun z => .int .i64 z.1) (fun z => [(1000, .cells [.int .i64 z.2.1]), (1001, .cells [.osl 1716 8 0 z.2.2.Objects.length, .osl 1717 4 0 z.2.2.Events.length]), (1716, .arr 8 (z.2.2.Objects.map GObject.v)), (1717, .arr 4 (z.2.2.Events.map GRefEvent.v))]) := fun Q Q' h hQ => by
 refine acallM mc_4 [.ownC 1001 0 1716 8 none, .ownC 1001 1 1717 4 none] [1000,1001,1716,1717] [.t 4] Tryd.func35 fun M => ?_
 unfold F_4 at h
 unfold mc_4
 replace h := tY h
 refine tB ?_
 repeat' (first
 | (exact tZ)
 | ((first | refine oblg h ?_ | refine roomG h ?_ | refine fork h ?_ ?_ | refine forkS h ?_ ?_) <;> clear h <;> intro hc h)
 | (refine tE ?_; (first | rw [M.lok_compU] | rw [M.lokD_compU]); refine tB ?_)
 | (refine tA ?_)
 | fail)
noncomputable def F_1x (commits_ : List Int) (x83 : Int × Int × (List (Str × Bool)) × (List GRefEvent) × GTape) : Option (Fl (Int × Int × (List (Str × Bool)) × (List GRefEvent) × GTape) ((List GRefEvent) × GTape)) :=
 bif decide (0 < x83.2.1) then jn (α := Int × (List (Str × Bool)) × (List GRefEvent) × GTape) ((F_0 x83.2.2.2.2 3).bind fun y113 => chk (in64 (x83.1 + y113.1)) ((F_0 y113.2 3).bind fun y115 => chk (inb y115.1 [[109,97,105,110],[111,108,100],[120]].length) (jn (α := Bool × GTape) (bif ((aget ([[109,97,105,110],[111,108,100],[120]].getD ((y115.1).toNat) default) x83.2.2.1).getD false) then (F_0 y115.2 3).bind fun y123 => some (decide (y123.1 = 0), y123.2) else some (false, y115.2)) fun j124 => bif j124.1 then chk (room (x83.2.2.2.1.length + [(GRefEvent.mk 2 ([[109,97,105,110],[111,108,100],[120]].getD ((y115.1).toNat) default) 0 (x83.1 + y113.1))].length) 40) (some ((x83.1 + y113.1), aput ([[109,97,105,110],[111,108,100],[120]].getD ((y115.1).toNat) default) false x83.2.2.1, (x83.2.2.2.1 ++ [(GRefEvent.mk 2 ([[109,97,105,110],[111,108,100],[120]].getD ((y115.1).toNat) default) 0 (x83.1 + y113.1))]), j124.2)) else (F_0 j124.2 (commits_.length : Int)).bind fun y125 => chk (inb y125.1 commits_.length) (chk (room (x83.2.2.2.1.length + [(GRefEvent.mk 1 ([[109,97,105,110],[111,108,100],[120]].getD ((y115.1).toNat) default) (commits_.getD (y125.1).toNat default) (x83.1 + y113.1))].length) 40) (some ((x83.1 + y113.1), aput ([[109,97,105,110],[111,108,100],[120]].getD ((y115.1).toNat) default) true x83.2.2.1, (x83.2.2.2.1 ++ [(GRefEvent.mk 1 ([[109,97,105,110],[111,108,100],[120]].getD ((y115.1).toNat) default) (commits_.getD (y125.1).toNat default) (x83.1 + y113.1))]), y125.2)))))) fun j111 => chk (in64 (x83.2.1 - 1)) (some (.nx (j111.1, (x83.2.1 - 1), j111.2.1, j111.2.2.1, j111.2.2.2))) else some (.ex (x83.2.2.2.1, x83.2.2.2.2))
noncomputable def F_14 (t_ : GTape) (commits_ : List Int) : Option ((List GRefEvent) × GTape) :=
 (F_0 t_ 4).bind fun y2 => (F_0 y2.2 8).bind fun y52 => (loop (F_1x commits_) (y2.1, y52.1,[],[], y52.2)).bind fun r126 => some (r126.1, r126.2)
@[irreducible] def mg_3o : List MOp := [gT 31 32 (.mv (.t 0)),
 gT 31 33 (.call (.f 8) [(.t 32), (cI 3)] [1000] []),
 gT 31 34 (.bin false .eql (.t 33) (cI 0)),
 mo (.pick (.t 31) (.t 34) (.c (.bool false))) 35]
@[irreducible] def mc_3p : MC :=
 (.reg [oV 8 17,
 mo (.bin true .sub (.t 17) (cI 1)) 18,
 oV 18 8])
@[irreducible] def mc_1x : MC :=
 (.seq (sR [oV 8 15,
 mo (.bin false .gtr (.t 15) (cI 0)) 16]
 (.cond (.t 16)
 .skip
 (.exit 0)))
 (.cut (.block 1
 (sR [oV 7 19,
 oV 0 20,
 mo (.call (.f 8) [(.t 20), (cI 3)] [1000] []) 21,
 mo (.bin true .add (.t 19) (.t 21)) 22,
 oV 22 7]
 (sR [mo (.bslice 1 [(.c (.str [109,97,105,110])),(.c (.str [111,108,100])),(.c (.str [120]))]) 23,
 oV 0 24,
 mo (.call (.f 8) [(.t 24), (cI 3)] [1000] []) 25,
 mo (.iad 1 (.t 23) (.t 25)) 26,
 oL 26 27,
 oV 27 9]
 (.seq (.seq (.note (.gc [0,1,5,6,7,8,9,32,33,34]) (.regI [.op (oV 6 28),
 .op (oV 9 29),
 .op (mo (.mp (.lku .str false (.bool false)) [(.t 28),(.t 29)]) 30),
 .op (oV 30 31),
 .grp mg_3o]))
 (.cond (.t 35)
 (sR [oV 6 36,
 oV 9 37,
 ⟨.mp (.up .str) [(.t 36),(.t 37),(.c (.bool false))], none, none⟩]
 (sR [oV 5 38,
 oV 9 39,
 oV 7 40,
 mo (.build [(.int .i64 0),(.str []),(.int .i64 0),(.int .i64 0)] [(0,1, (cI 2)), (1,1,(.t 39)), (3,1,(.t 40))]) 41,
 mo (.bslice 4 [(.t 41)]) 42,
 mo (.app 4 40 (.t 38) (.t 42)) 43,
 oV 43 5]
 (.exit 1)))
 .skip))
 (sR [oV 6 44,
 oV 9 45,
 ⟨.mp (.up .str) [(.t 44),(.t 45),(.c (.bool true))], none, none⟩]
 (.reg [oV 5 46,
 oV 9 47,
 oV 1 48,
 oV 0 49,
 oV 1 50,
 mo (.len false (.t 50)) 51,
 mo (.call (.f 8) [(.t 49),(.t 51)] [1000] []) 52,
 mo (.iad 1 (.t 48) (.t 52)) 53,
 oL 53 54,
 oV 7 55,
 mo (.build [(.int .i64 0),(.str []),(.int .i64 0),(.int .i64 0)] [(0,1, (cI 1)), (1,1,(.t 47)), (2,1,(.t 54)), (3,1,(.t 55))]) 56,
 mo (.bslice 4 [(.t 56)]) 57,
 mo (.app 4 40 (.t 46) (.t 57)) 58,
 oV 58 5]))))))
 mc_3p))
def mc_14 : MC :=
 (sR [mo (.mv (.c (.sl []))) 4]
 (sR [mo (.mv (.c .nils)) 5]
 (sR [mo (.mp (.mk .str) []) 10,
 oV 10 6]
 (sR [oV 0 11,
 mo (.call (.f 8) [(.t 11), (cI 4)] [1000] []) 12,
 oV 12 7]
 (.seq (sR [oV 0 13,
 mo (.call (.f 8) [(.t 13), (cI 8)] [1000] []) 14,
 oV 14 8]
 (.block 0
 (.loop mc_1x)))
 (sR [oV 5 59,
 oV 59 4]
 .ret))))))
theorem Wq_14 {t_ : GTape} {commits_ : List Int} : Cn Tryd.prog 36 [.ptr 1000 0, .sl (commits_.map (V.int .i64))] [(1000, .cells [.sl (t_.L.map (V.int .i64)), .int .i64 t_.at_])] (F_14 t_ commits_) (fun z => .sl (z.1.map GRefEvent.v)) (fun z => [(1000, .cells [.sl (z.2.L.map (V.int .i64)), .int .i64 z.2.at_])]) := fun Q Q' h hQ => by
 refine acallM mc_14 [.fz 4] [1000] [.t 4] Tryd.func36 fun M => ?_
 unfold F_14 at h
 unfold mc_14
 replace h := tY h
 refine tB ?_
 repeat' (first
 | (exact tZ)
 | ((first | refine oblg h ?_ | refine roomG h ?_ | refine inbG h ?_ | refine fork h ?_ ?_ | refine forkS h ?_ ?_) <;> clear h <;> intro hc h)
 | (obtain ⟨y, hy, h⟩ := h; have hw := Wq_0.w hy; replace hw := tY hw; (first | refine M.sC hw ?_ | refine M.sD hw ?_); clear hw hy; refine tB ?_)
 | (refine M.gj1 (ms := mg_3o) [0,1,5,6,7,8,9] [10,2005] (fun y => [(35, .bool y.1)]) (fun y => [.o 1000 (.cells [.sl (y.2.L.map (V.int .i64)), .int .i64 y.2.at_])]) h ?_ ?_ <;> first
 | (clear h; intro Qn K hK1 h; unfold mg_3o; replace h := tY h; refine tB ?_)
  |(clear h; intro y h; replace h := tY h; refine tB ?_))
 | (refine M.jn1 (b := mc_3p) [0,1,6,8] [] (fun y => [(5, .osl 2005 4 0 y.2.2.1.length), (7, .int .i64 y.1)]) (fun y => [.o 10 (.map .str (y.2.1.map (kvV V.str V.bool))), .o 2005 (.arr 4 (y.2.2.1.map GRefEvent.v)), .o 1000 (.cells [.sl (y.2.2.2.L.map (V.int .i64)), .int .i64 y.2.2.2.at_])]) [.gc [0,1,5,6,7,8], .acc 5 2005 4] h ?_ ?_ <;> first
 | (clear h; intro Qn K hK2 h; replace h := tY h; refine tB ?_)
  |(clear h; intro y h; unfold mc_3p; replace h := tY h; refine tB ?_))
 | (refine M.wh1 (b := mc_1x) [0,1,6] [] (fun x => [(5, .osl 2005 4 0 x.2.2.2.1.length), (7, .int .i64 x.1), (8, .int .i64 x.2.1)]) (fun x => [.o 10 (.map .str (x.2.2.1.map (kvV V.str V.bool))), .o 2005 (.arr 4 (x.2.2.2.1.map GRefEvent.v)), .o 1000 (.cells [.sl (x.2.2.2.2.L.map (V.int .i64)), .int .i64 x.2.2.2.2.at_])]) [.gc [0,1,5,6,7,8], .acc 5 2005 4] h ?_ ?_ <;> first
 | (clear h; intro x Qn K hK3 h; unfold F_1x at h; unfold mc_1x; replace h := tY h; refine tB ?_)
  |(clear h; (try refine tB ?_); exact tU0; done))
 | ((first | refine hK1 _ ?_ | refine hK2 _ ?_ | refine hK3 _ ?_); (try refine tB ?_); refine ⟨_, h, ?_⟩; exact tU0; done)
 | (refine tE4 V.str ?_; (first | rw [M.lok_compU] | rw [M.lokD_compU] | (simp only [V.cells]; first | rw [M.lok_comp] | rw [M.lokD_comp])); refine tB ?_)
 | (refine tE ?_; (first | rw [M.lok_compU] | rw [M.lokD_compU]); refine tB ?_)
 | (refine tA ?_)
 | fail)
noncomputable def F_1y (x41 : Int × (List GObject) × (List GRefEvent) × Int × (List Int) × GTape) : Option (Fl (Int × (List GObject) × (List GRefEvent) × Int × (List Int) × GTape) ((List GObject) × (List GRefEvent) × Int × (List Int) × GTape)) :=
 bif decide (0 < x41.1) then (F_0 x41.2.2.2.2.2 12).bind fun y51 => (F_13 y51.2 y51.1).bind fun y52 => (F_4 (GObject.mk 0 1 y52.1 [] 0 [] [] 0) x41.2.2.2.1 (GRepository.mk x41.2.1 x41.2.2.1)).bind fun y53 => chk (room (x41.2.2.2.2.1.length + [y53.1].length) 8) (chk (in64 (x41.1 - 1)) (some (.nx ((x41.1 - 1), y53.2.2.Objects, y53.2.2.Events, y53.2.1, (x41.2.2.2.2.1 ++ [y53.1]), y52.2)))) else some (.ex (x41.2.1, x41.2.2.1, x41.2.2.2.1, x41.2.2.2.2.1, x41.2.2.2.2.2))
noncomputable def F_1s (r54 : (List GObject) × (List GRefEvent) × Int × (List Int) × GTape) (x895 : Int × (List GObject) × (List GRefEvent) × Int × (List Int) × GTape) (k1216 : Int) (a1217 : Str) (x1215 : (List GItem) × GTape) : Option ((List GItem) × GTape) :=
 (F_0 x1215.2 3).bind fun y1231 => bif decide (y1231.1 = 0) then (F_0 y1231.2 (r54.2.2.2.1.length : Int)).bind fun y1232 => chk (inb y1232.1 r54.2.2.2.1.length) (chk (room (x1215.1.length + [(GItem.mk a1217 (r54.2.2.2.1.getD ((y1232.1).toNat) default))].length) 24) (some ((x1215.1 ++ [(GItem.mk a1217 (r54.2.2.2.1.getD ((y1232.1).toNat) default))]), y1232.2))) else bif decide (y1231.1 = 1) then bif decide (0 < (x895.2.2.2.2.1.length : Int)) then (F_0 y1231.2 (x895.2.2.2.2.1.length : Int)).bind fun y1233 => chk (inb y1233.1 x895.2.2.2.2.1.length) (chk (room (x1215.1.length + [(GItem.mk a1217 (x895.2.2.2.2.1.getD ((y1233.1).toNat) default))].length) 24) (some ((x1215.1 ++ [(GItem.mk a1217 (x895.2.2.2.2.1.getD ((y1233.1).toNat) default))]), y1233.2))) else some (x1215.1, y1231.2) else some (x1215.1, y1231.2)
noncomputable def F_1z (r54 : (List GObject) × (List GRefEvent) × Int × (List Int) × GTape) (x895 : Int × (List GObject) × (List GRefEvent) × Int × (List Int) × GTape) : Option (Fl (Int × (List GObject) × (List GRefEvent) × Int × (List Int) × GTape) ((List GObject) × (List GRefEvent) × Int × (List Int) × GTape)) :=
 bif decide (0 < x895.1) then (foldL (F_1s r54 x895) [[97],[98],[100]] 0 ([], x895.2.2.2.2.2)).bind fun x1234 => (F_4 (GObject.mk 0 2 [] x1234.1 0 [] [] 0) x895.2.2.2.1 (GRepository.mk x895.2.1 x895.2.2.1)).bind fun y1235 => chk (room (x895.2.2.2.2.1.length + [y1235.1].length) 8) (chk (in64 (x895.1 - 1)) (some (.nx ((x895.1 - 1), y1235.2.2.Objects, y1235.2.2.Events, y1235.2.1, (x895.2.2.2.2.1 ++ [y1235.1]), x1234.2)))) else some (.ex (x895.2.1, x895.2.2.1, x895.2.2.2.1, x895.2.2.2.2.1, x895.2.2.2.2.2))
noncomputable def F_20 (x1797 : Int × (List GObject) × (List GRefEvent) × Int × (List Int) × GTape) (x2008 : Int × Int × Int × (List Int) × GTape) : Option (Fl (Int × Int × Int × (List Int) × GTape) (Int × Int × (List Int) × GTape)) :=
 grp ((decide (0 ≤ x2008.1) && decide ((x2008.2.2.2.1.length : Int) < 2))) fun b2019 => bif b2019 then jn (α := (List Int) × GTape) ((F_0 x2008.2.2.2.2 2).bind fun y2024 => bif decide (y2024.1 = 0) then chk (inb x2008.1 x1797.2.2.2.2.1.length) (chk (room (x2008.2.2.2.1.length + [x1797.2.2.2.2.1.getD ((x2008.1).toNat) default].length) 8) (some ((x2008.2.2.2.1 ++ [x1797.2.2.2.2.1.getD ((x2008.1).toNat) default]), y2024.2))) else some (x2008.2.2.2.1, y2024.2)) fun j2022 => chk (in64 (x2008.1 - 1)) (some (.nx ((x2008.1 - 1), x2008.2.1, x2008.2.2.1, j2022.1, j2022.2))) else some (.ex (x2008.2.1, x2008.2.2.1, x2008.2.2.2.1, x2008.2.2.2.2))
noncomputable def F_21 (r1236 : (List GObject) × (List GRefEvent) × Int × (List Int) × GTape) (x1797 : Int × (List GObject) × (List GRefEvent) × Int × (List Int) × GTape) : Option (Fl (Int × (List GObject) × (List GRefEvent) × Int × (List Int) × GTape) ((List Int) × (List GObject) × (List GRefEvent) × GTape)) :=
 bif decide (0 < x1797.1) then (F_0 x1797.2.2.2.2.2 (r1236.2.2.2.1.length : Int)).bind fun y1965 => chk (inb y1965.1 r1236.2.2.2.1.length) ((F_0 y1965.2 20).bind fun y1966 => chk (in64 ((x1797.2.2.2.2.1.length : Int) - 1)) ((loop (F_20 x1797) (((x1797.2.2.2.2.1.length : Int) - 1), r1236.2.2.2.1.getD ((y1965.1).toNat) default, y1966.1,[], y1966.2)).bind fun r2025 => (F_4 (GObject.mk 0 3 [] [] r2025.1 r2025.2.2.1 [97,110,110] r2025.2.1) x1797.2.2.2.1 (GRepository.mk x1797.2.1 x1797.2.2.1)).bind fun y2026 => chk (room (x1797.2.2.2.2.1.length + [y2026.1].length) 8) (chk (in64 (x1797.1 - 1)) (some (.nx ((x1797.1 - 1), y2026.2.2.Objects, y2026.2.2.Events, y2026.2.1, (x1797.2.2.2.2.1 ++ [y2026.1]), r2025.2.2.2)))))) else some (.ex (x1797.2.2.2.2.1, x1797.2.1, x1797.2.2.1, x1797.2.2.2.2.2))
noncomputable def F_15 (t_ : GTape) : Option (GRepository × GTape) :=
 (F_n t_ 1 4).bind fun y26 => (loop F_1y (y26.1,[],[],0,[], y26.2)).bind fun r54 => (F_n r54.2.2.2.2 1 4).bind fun y560 => (loop (F_1z r54) (y560.1, r54.1, r54.2.1, r54.2.2.1,[], y560.2)).bind fun r1236 => (F_n r1236.2.2.2.2 1 5).bind fun y1574 => (loop (F_21 r1236) (y1574.1, r1236.1, r1236.2.1, r1236.2.2.1,[], y1574.2)).bind fun r2027 => (F_14 r2027.2.2.2 r2027.1).bind fun y2029 => some ((GRepository.mk r2027.2.1 y2029.1), y2029.2)
@[irreducible] def mc_1y : MC :=
 (.seq (sR [oV 9 20,
 mo (.bin false .gtr (.t 20) (cI 0)) 21]
 (.cond (.t 21)
 .skip
 (.exit 0)))
 (.seq (.block 1
 (.regI [.op (oV 4 24),
 .op (oV 8 25),
 .op (oV 0 26),
 .op (oV 0 27),
 .op (mo (.call (.f 8) [(.t 27), (cI 12)] [1000] []) 28),
 .op (mo (.call (.f 7) [(.t 26),(.t 28)] [1000] []) 29),
 .op (mo (.build [(.int .i64 0),(.int .i64 0),(.sl []),(.sl []),(.int .i64 0),(.sl []),(.str []),(.int .i64 0)] [(1,1, (cI 1)), (2,1,(.t 29))]) 30),
 .nt (.ownC 3 0 7096 8 none),
 .nt (.ownC 3 1 7097 4 none),
 .op (mo (.call (.t 25) [(.t 30)] [7,3,7096,7097] [9992,9993]) 31),
 .op (mo (.bslice 1 [(.t 31)]) 32),
 .op (mo (.app 1 8 (.t 24) (.t 32)) 33),
 .op (oV 33 4)]))
 (.note (.gc [0,2,3,4,5,6,8,9,113,114,115,116]) (.reg [oV 9 22,
 mo (.bin true .sub (.t 22) (cI 1)) 23,
 oV 23 9]))))
@[irreducible] def mc_1s : MC :=
 (sR [mo (.bin false .lss (.t 43) (.t 42)) 44]
 (.seq (.cond (.t 44)
 .skip
 (.exit 4))
 (.seq (.block 5
 (sR [mo (.iad 1 (.t 41) (.t 43)) 45,
 oL 45 46,
 oV 46 13]
 (sR [oV 0 47,
 mo (.call (.f 8) [(.t 47), (cI 3)] [1000] []) 48]
 (.block 6
 (sR [mo (.bin false .eql (.t 48) (cI 0)) 50,
 oV 50 49]
 (.cond (.t 49)
 (.regD [oF 3 11 51,
 oL 51 52,
 oV 13 53,
 oV 4 54,
 oV 0 55,
 oV 4 56,
 mo (.len false (.t 56)) 57,
 mo (.call (.f 8) [(.t 55),(.t 57)] [1000] []) 58,
 mo (.iad 1 (.t 54) (.t 58)) 59,
 oL 59 60,
 mo (.build [(.str []),(.int .i64 0)] [(0,1,(.t 53)), (1,1,(.t 60))]) 61,
 mo (.bslice 2 [(.t 61)]) 62,
 mo (.app 2 24 (.t 52) (.t 62)) 63,
 oF 3 11 64,
 ⟨.st 1 (.t 64) (.t 63), none, none⟩]
 [[],[0],[],[],[],[],[5],[4,6],[3,7],[8],[2,9],[10],[1,11,7],[0,1,2,3,4,5,6,7,8,9,10,11,12],[13,12,12,0,1,2,3,4,5,6,7,8,9,10,11,12]]
 [[],[0],[],[],[],[],[5],[4,5,6],[3,4,5,6,7],[3,4,5,6,7,8],[2,3,4,5,6,7,8,9],[2,3,4,5,6,7,8,9,10],[0,1,2,3,4,5,6,7,8,9,10,11],[0,1,2,3,4,5,6,7,8,9,10,11,12],[0,1,2,3,4,5,6,7,8,9,10,11,12,13]])
 (sR [mo (.bin false .eql (.t 48) (cI 1)) 66,
 oV 66 65]
 (.cond (.t 65)
 (.seq (.note (.gc [0,2,3,4,5,6,8,10,11,13,41,42,43,113,114,115,116]) (.reg [oV 5 67,
 mo (.len false (.t 67)) 68,
 mo (.bin false .gtr (.t 68) (cI 0)) 69]))
 (.cond (.t 69)
 (.regD [oF 3 11 70,
 oL 70 71,
 oV 13 72,
 oV 5 73,
 oV 0 74,
 oV 5 75,
 mo (.len false (.t 75)) 76,
 mo (.call (.f 8) [(.t 74),(.t 76)] [1000] []) 77,
 mo (.iad 1 (.t 73) (.t 77)) 78,
 oL 78 79,
 mo (.build [(.str []),(.int .i64 0)] [(0,1,(.t 72)), (1,1,(.t 79))]) 80,
 mo (.bslice 2 [(.t 80)]) 81,
 mo (.app 2 24 (.t 71) (.t 81)) 82,
 oF 3 11 83,
 ⟨.st 1 (.t 83) (.t 82), none, none⟩]
 [[],[0],[],[],[],[],[5],[4,6],[3,7],[8],[2,9],[10],[1,11,7],[0,1,2,3,4,5,6,7,8,9,10,11,12],[13,12,12,0,1,2,3,4,5,6,7,8,9,10,11,12]]
 [[],[0],[],[],[],[],[5],[4,5,6],[3,4,5,6,7],[3,4,5,6,7,8],[2,3,4,5,6,7,8,9],[2,3,4,5,6,7,8,9,10],[0,1,2,3,4,5,6,7,8,9,10,11],[0,1,2,3,4,5,6,7,8,9,10,11,12],[0,1,2,3,4,5,6,7,8,9,10,11,12,13]])
 .skip))
 .skip))))))))
 (.reg [mo (.bin true .add (.t 43) (cI 1)) 84,
 oV 84 43]))))
@[irreducible] def mc_1z : MC :=
 (.seq (sR [oV 10 36,
 mo (.bin false .gtr (.t 36) (cI 0)) 37]
 (.cond (.t 37)
 .skip
 (.exit 2)))
 (.seq (.block 3
 (sR [mo (.build [(.int .i64 0),(.int .i64 0), .nils, .nils, (.int .i64 0), .nils, (.str []),(.int .i64 0)] [(1,1, (cI 2))]) 40,
 mo (.alloc [(.int .i64 0),(.int .i64 0),(.sl []),(.sl []),(.int .i64 0),(.sl []),(.str []),(.int .i64 0)]) 11,
 ⟨.st 8 (.t 11) (.t 40), none, none⟩]
 (.seq (sR [mo (.bslice 1 [(.c (.str [97])),(.c (.str [98])),(.c (.str [100]))]) 41,
 mo (.len false (.t 41)) 42,
 oC 0 43]
 (.block 4
 (.loop mc_1s)))
 (.regI [.op (oV 5 85),
 .op (oV 8 86),
 .op (mo (.ld (some 8) (.t 11)) 87),
 .nt (.ownC 3 0 7096 8 none),
 .nt (.ownC 3 1 7097 4 none),
 .nt (.fz 87),
 .op (mo (.call (.t 86) [(.t 87)] [7,3,7096,7097] [13640,13641]) 88),
 .op (mo (.bslice 1 [(.t 88)]) 89),
 .op (mo (.app 1 8 (.t 85) (.t 89)) 90),
 .op (oV 90 5)]))))
 (.note (.gc [0,2,3,4,5,6,8,10,113,114,115,116]) (.reg [oV 10 38,
 mo (.bin true .sub (.t 38) (cI 1)) 39,
 oV 39 10]))))
@[irreducible] def mg_4 : List MOp := [gT 112 113 (.fad 5 (.t 15)),
 gT 112 114 (.ld none (.t 113)),
 gT 112 115 (.len false (.t 114)),
 gT 112 116 (.bin false .lss (.t 115) (cI 2)),
 mo (.pick (.t 112) (.t 116) (.c (.bool false))) 117]
@[irreducible] def mc_3q : MC :=
 (.reg [oV 16 118,
 mo (.bin true .sub (.t 118) (cI 1)) 119,
 oV 119 16])
@[irreducible] def mc_20 : MC :=
 (.seq (.seq (.regI [.op (oV 16 110),
 .op (mo (.bin false .geq (.t 110) (cI 0)) 111),
 .op (oV 111 112),
 .grp mg_4])
 (.cond (.t 117)
 .skip
 (.exit 9)))
 (.cut (.block 10
 (sR [oV 0 120,
 mo (.call (.f 8) [(.t 120), (cI 2)] [1000] []) 121,
 mo (.bin false .eql (.t 121) (cI 0)) 122]
 (.cond (.t 122)
 (.regD [oF 5 15 123,
 oL 123 124,
 oV 6 125,
 oV 16 126,
 mo (.iad 1 (.t 125) (.t 126)) 127,
 oL 127 128,
 mo (.bslice 1 [(.t 128)]) 129,
 mo (.app 1 8 (.t 124) (.t 129)) 130,
 oF 5 15 131,
 ⟨.st 1 (.t 131) (.t 130), none, none⟩]
 [[],[0],[],[],[2,3],[4],[5],[1,6],[0,1,2,3,4,5,6,7],[8,7,7,0,1,2,3,4,5,6,7]]
 [[],[0],[],[],[2,3],[2,3,4],[2,3,4,5],[0,1,2,3,4,5,6],[0,1,2,3,4,5,6,7],[0,1,2,3,4,5,6,7,8]])
 .skip)))
 mc_3q))
@[irreducible] def mc_21 : MC :=
 (.seq (sR [oV 14 93,
 mo (.bin false .gtr (.t 93) (cI 0)) 94]
 (.cond (.t 94)
 .skip
 (.exit 7)))
 (.seq (.block 8
 (.seq (.regD [oV 5 97,
 oV 0 98,
 oV 5 99,
 mo (.len false (.t 99)) 100,
 mo (.call (.f 8) [(.t 98),(.t 100)] [1000] []) 101,
 mo (.iad 1 (.t 97) (.t 101)) 102,
 oL 102 103,
 oV 0 104,
 mo (.call (.f 8) [(.t 104), (cI 20)] [1000] []) 105,
 mo (.build [(.int .i64 0),(.int .i64 0), .nils, .nils, (.int .i64 0), .nils, (.str []),(.int .i64 0)] [(1,1, (cI 3)), (4,1,(.t 103)), (6,1,(.c (.str [97,110,110]))), (7,1,(.t 105))]) 106,
 mo (.alloc [(.int .i64 0),(.int .i64 0),(.sl []),(.sl []),(.int .i64 0),(.sl []),(.str []),(.int .i64 0)]) 15,
 ⟨.st 8 (.t 15) (.t 106), none, none⟩]
 [[],[],[],[2],[1,3],[0,4],[5],[],[7,4],[6,8],[],[10,9,8,0,1,2,3,4,5,6,7,8,9,10]]
 [[],[],[],[2],[1,2,3],[0,1,2,3,4],[0,1,2,3,4,5],[],[1,2,3,4,7],[0,1,2,3,4,5,6,7,8],[],[0,1,2,3,4,5,6,7,8,9,10]])
 (.seq (.seq (.note (.gc [0,2,3,5,6,8,14,15,113,114,115,116]) (.reg [oV 6 107,
 mo (.len false (.t 107)) 108,
 mo (.bin true .sub (.t 108) (cI 1)) 109,
 oV 109 16]))
 (.block 9
 (.loop mc_20)))
 (.regI [.op (oV 6 132),
 .op (oV 8 133),
 .op (mo (.ld (some 8) (.t 15)) 134),
 .nt (.ownC 3 0 7096 8 none),
 .nt (.ownC 3 1 7097 4 none),
 .nt (.fz 134),
 .op (mo (.call (.t 133) [(.t 134)] [7,3,7096,7097] [16648,16649]) 135),
 .op (mo (.bslice 1 [(.t 135)]) 136),
 .op (mo (.app 1 8 (.t 132) (.t 136)) 137),
 .op (oV 137 6)]))))
 (.reg [oV 14 95,
 mo (.bin true .sub (.t 95) (cI 1)) 96,
 oV 96 14])))
def mc_15 : MC :=
 (sR [mo (.alloc [(.sl []),(.sl [])]) 2]
 (sR [mo (.alloc [.nils, .nils]) 3]
 (sR [mo (.mv (.c .nils)) 4,
 mo (.mv (.c .nils)) 5,
 mo (.mv (.c .nils)) 6]
 (sR [mo (.alloc [(.int .i64 0)]) 7,
 ⟨.st 1 (.t 7) (cI 0), none, none⟩]
 (sR [mo (.mkfn 35 [(.t 7),(.t 3)]) 17,
 oV 17 8]
 (.seq (sR [oV 0 18,
 mo (.call (.f 24) [(.t 18), (cI 1), (cI 4)] [1000] []) 19,
 oV 19 9]
 (.block 0
 (.loop mc_1y)))
 (.seq (sR [oV 0 34,
 mo (.call (.f 24) [(.t 34), (cI 1), (cI 4)] [1000] []) 35,
 oV 35 10]
 (.block 2
 (.loop mc_1z)))
 (.seq (sR [oV 0 91,
 mo (.call (.f 24) [(.t 91), (cI 1), (cI 5)] [1000] []) 92,
 oV 92 14]
 (.block 7
 (.loop mc_21)))
 (.seq (.regI [.op (oV 0 138),
 .op (oV 6 139),
 .nt (.fz 139),
 .op (mo (.call (.f 36) [(.t 138),(.t 139)] [1000] []) 140),
 .op (oF 1 3 141),
 .op ⟨.st 1 (.t 141) (.t 140), none, none⟩])
 (sR [mo (.ld (some 2) (.t 3)) 142,
 ⟨.st 2 (.t 2) (.t 142), none, none⟩]
 .ret))))))))))
theorem Wq_15 {t_ : GTape} : Cn Tryd.prog 20 [.ptr 1000 0] [(1000, .cells [.sl (t_.L.map (V.int .i64)), .int .i64 t_.at_])] (F_15 t_) (fun z => GRepository.v z.1) (fun z => [(1000, .cells [.sl (z.2.L.map (V.int .i64)), .int .i64 z.2.at_])]) := fun Q Q' h hQ => by
 refine acallM mc_15 [.fzc 2] [1000] [.c 2 (some 2)] Tryd.func20 fun M => ?_
 unfold F_15 at h
 unfold mc_15
 replace h := tY h
 refine tB ?_
 repeat' (first
 | (exact tZ)
 | ((first | refine oblg h ?_ | refine roomG h ?_ | refine fork h ?_ ?_ | refine forkS h ?_ ?_) <;> clear h <;> intro hc h)
 | (obtain ⟨y, hy, h⟩ := h; have hw := acall_swe 1717 9993 (acall_swe 1716 9992 (acall_swe 1003 7097 (acall_swe 1002 7096 (acall_swe 1001 3 (acall_swe 1000 7 (Wq_4.w hy)))))); replace hw := tY hw; (first | refine M.sC hw ?_ | refine M.sD hw ?_); clear hw hy; refine tB ?_)
 | (obtain ⟨y, hy, h⟩ := h; have hw := acall_swe 1717 13641 (acall_swe 1716 13640 (acall_swe 1003 7097 (acall_swe 1002 7096 (acall_swe 1001 3 (acall_swe 1000 7 (Wq_4.w hy)))))); replace hw := tY hw; (first | refine M.sC hw ?_ | refine M.sD hw ?_); clear hw hy; refine tB ?_)
 | (obtain ⟨y, hy, h⟩ := h; have hw := acall_swe 1717 16649 (acall_swe 1716 16648 (acall_swe 1003 7097 (acall_swe 1002 7096 (acall_swe 1001 3 (acall_swe 1000 7 (Wq_4.w hy)))))); replace hw := tY hw; (first | refine M.sC hw ?_ | refine M.sD hw ?_); clear hw hy; refine tB ?_)
 | (obtain ⟨y, hy, h⟩ := h; (first | with_reducible first | have hw := Wq_n.w hy | have hw := Wq_0.w hy | have hw := Wq_13.w hy | have hw := Wq_14.w hy); replace hw := tY hw; (first | refine M.sC hw ?_ | refine M.sD hw ?_); clear hw hy; refine tB ?_)
 | (refine M.wh1 (b := mc_1y) [0,2,3,5,6,8] [2] (fun x => [(4, .osl 2004 1 0 x.2.2.2.2.1.length), (9, .int .i64 x.1)]) (fun x => [.o 3 (.cells [.osl 4048 8 0 x.2.1.length, .osl 4049 4 0 x.2.2.1.length]), .o 4048 (.arr 8 (x.2.1.map GObject.v)), .o 4049 (.arr 4 (x.2.2.1.map GRefEvent.v)), .o 7 (.cells [.int .i64 x.2.2.2.1]), .o 2004 (.arr 1 (x.2.2.2.2.1.map (V.int .i64))), .o 1000 (.cells [.sl (x.2.2.2.2.2.L.map (V.int .i64)), .int .i64 x.2.2.2.2.2.at_])]) [.gc [0,2,3,4,5,6,8,9], .acc 4 2004 1, .ownC 3 0 4048 8 none, .ownC 3 1 4049 4 none] h ?_ ?_ <;> first
 | (clear h; intro x Qn K hK1 h; unfold F_1y at h; unfold mc_1y; replace h := tY h; refine tB ?_)
  |(clear h; (try refine tB ?_); exact tU0; done))
 | (refine M.fold1 (b := mc_1s) 43 [0,2,3,4,5,6,8,10,11,41,42] [41,11,3,4048,4049,7,2005,2004,2] (fun x => []) (fun x => [.p 11 3 [.osl 4179 2 0 x.1.length], .o 4179 (.arr 2 (x.1.map GItem.v)), .o 1000 (.cells [.sl (x.2.L.map (V.int .i64)), .int .i64 x.2.at_])]) [.gc [0,2,3,4,5,6,8,10,11,41,42,43], .ownC 11 3 4179 2 none] h ?_ ?_ ?_ <;> first
 | (clear h; intro k a x Qn K hK2 hkN2 ha2 h hf; skip; clear hf; have hkd := kD hkN2; have hkB2 := kB hkN2; have hkI2 := kI (k := k) (by (try simp only [List.length_cons, List.length_nil] at hkN2); omega); have hkd2 : decide ((k : Int) < 3) = true := decide_eq_true (by simp only [List.length_cons, List.length_nil] at hkN2; omega); have hkr2 : (0 ≤ (k : Int) ∧ (k : Int) < 3) = True := eq_true (by simp only [List.length_cons, List.length_nil] at hkN2; omega); have hle2 := trivial; have hpt2 := trivial; unfold F_1s at h; unfold mc_1s; replace h := tY h; refine tKA ha2 hkd hkN2 hkB2 hkI2 hkd2 hkr2 hle2 hpt2 ?_)
  |(clear h; intro x K h; replace h := And.left (And.intro h trivial); unfold mc_1s; replace h := tY h; refine tB ?_)
  |(clear h; (try refine tB ?_); exact tU0; done))
 | (refine M.wh1 (b := mc_1z) [0,2,3,4,6,8] [3,2004,2] (fun x => [(5, .osl 2005 1 0 x.2.2.2.2.1.length), (10, .int .i64 x.1)]) (fun x => [.p 3 0 [.osl 4048 8 0 x.2.1.length], .p 3 1 [.osl 4049 4 0 x.2.2.1.length], .o 4048 (.arr 8 (x.2.1.map GObject.v)), .o 4049 (.arr 4 (x.2.2.1.map GRefEvent.v)), .o 7 (.cells [.int .i64 x.2.2.2.1]), .o 2005 (.arr 1 (x.2.2.2.2.1.map (V.int .i64))), .o 1000 (.cells [.sl (x.2.2.2.2.2.L.map (V.int .i64)), .int .i64 x.2.2.2.2.2.at_])]) [.gc [0,2,3,4,5,6,8,10], .acc 5 2005 1, .ownC 3 0 4048 8 none, .ownC 3 1 4049 4 none] h ?_ ?_ <;> first
 | (clear h; intro x Qn K hK3 h; unfold F_1z at h; unfold mc_1z; replace h := tY h; refine tB ?_)
  |(clear h; (try refine tB ?_); exact tU0; done))
 | (refine M.jn1 (b := mc_3q) [0,2,3,5,6,8,14,15,16] [15,3,4048,4049,7,2006,2005,2] (fun y => []) (fun y => [.p 15 5 [.osl 4245 1 0 y.1.length], .o 4245 (.arr 1 (y.1.map (V.int .i64))), .o 1000 (.cells [.sl (y.2.L.map (V.int .i64)), .int .i64 y.2.at_])]) [.gc [0,2,3,5,6,8,14,15,16], .ownC 15 5 4245 1 none] h ?_ ?_ <;> first
 | (clear h; intro Qn K hK4 h; replace h := tY h; refine tB ?_)
  |(clear h; intro y h; unfold mc_3q; replace h := tY h; refine tB ?_))
 | (refine M.gv1 (ms := mg_4) 117 [113,114,115,116] h ?_ ?_ <;> first
 | (clear h; intro K hK5; unfold mg_4; refine tB ?_)
 | (clear h; intro b h; replace h := tY h; refine tB ?_))
 | (refine M.wh1 (b := mc_20) [0,2,3,5,6,8,14,15] [15,3,4048,4049,7,2006,2005,2] (fun x => [(16, .int .i64 x.1)]) (fun x => [.p 15 4 [.int .i64 x.2.1], .p 15 5 [.osl 4245 1 0 x.2.2.2.1.length], .p 15 7 [.int .i64 x.2.2.1], .o 4245 (.arr 1 (x.2.2.2.1.map (V.int .i64))), .o 1000 (.cells [.sl (x.2.2.2.2.L.map (V.int .i64)), .int .i64 x.2.2.2.2.at_])]) [.gc [0,2,3,5,6,8,14,15,16], .ownC 15 5 4245 1 none] h ?_ ?_ <;> first
 | (clear h; intro x Qn K hK6 h; unfold F_20 at h; unfold mc_20; replace h := tY h; refine tB ?_)
  |(clear h; (try refine tB ?_); exact tU0; done))
 | (refine M.wh1 (b := mc_21) [0,2,3,5,8] [3,2005,2] (fun x => [(6, .osl 2006 1 0 x.2.2.2.2.1.length), (14, .int .i64 x.1)]) (fun x => [.p 3 0 [.osl 4048 8 0 x.2.1.length], .p 3 1 [.osl 4049 4 0 x.2.2.1.length], .o 4048 (.arr 8 (x.2.1.map GObject.v)), .o 4049 (.arr 4 (x.2.2.1.map GRefEvent.v)), .o 7 (.cells [.int .i64 x.2.2.2.1]), .o 2006 (.arr 1 (x.2.2.2.2.1.map (V.int .i64))), .o 1000 (.cells [.sl (x.2.2.2.2.2.L.map (V.int .i64)), .int .i64 x.2.2.2.2.2.at_])]) [.gc [0,2,3,5,6,8,14], .acc 6 2006 1, .ownC 3 0 4048 8 none, .ownC 3 1 4049 4 none] h ?_ ?_ <;> first
 | (clear h; intro x Qn K hK7 h; unfold F_21 at h; unfold mc_21; replace h := tY h; refine tB ?_)
  |(clear h; (try refine tB ?_); exact tU0; done))
 | (simp only [ha2])
 | ((first | refine hK1 _ ?_ | refine hK2 _ ?_ | refine hK3 _ ?_ | refine hK4 _ ?_ | refine hK6 _ ?_ | refine hK7 _ ?_); (try refine tB ?_); refine ⟨_, h, ?_⟩; exact tU0; done)
 | (refine hK5 _ ?_; exact tU; done)
 | (refine bfork (fun hc => ?_) (fun hc => ?_))
 | (refine tE4 V.str ?_; (first | rw [M.lok_compU] | rw [M.lokD_compU] | (simp only [V.cells]; first | rw [M.lok_comp] | rw [M.lokD_comp])); refine tB ?_)
 | (refine tE ?_; (first | rw [M.lok_compU] | rw [M.lokD_compU]); refine tB ?_)
 | (refine tA ?_)
 | fail)
end Go.Ab
