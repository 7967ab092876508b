/- What the functions of this seat that lie on the laws' road compute (part LQ), each for every input. By AI agents. -/
import Derived.Test.YtkdkcffaohmedaaDoorProg
import Derived.KernelRfl
import Derived.Test.YtkdkcffaohmedaaDoorAbFun
import Derived.Test.YtkdkcffaohmedaaDoorLB
set_option linter.all false
set_option linter.all false
set_option maxRecDepth 20000
set_option maxHeartbeats 2000000
namespace Go.Ab
open Go.Proofs
theorem inbk_1 {n : Nat} : (inb 1 n = true) = (((1 : Nat) : Int) < (n : Int)) := propext (by rw [inb_iff]; omega)
attribute [go_sem] inbk_1
theorem incl_5 {b : Int} {n : Nat} : (inc 5 b n = true) = (((5 : Nat) : Int) ≤ b ∧ b ≤ (n : Int)) := propext (by rw [inc_iff]; omega)
attribute [go_sem] incl_5
noncomputable def F_e (s_ : Str) (x32 : Int × Int × (List Str)) : Option (Fl (Int × Int × (List Str)) (List Str)) :=
 grp ((decide (x32.2.1 < (s_.length : Int)) && decide ((x32.2.2.length : Int) < 100))) fun b41 => bif b41 then jn (α := Int × (List Str)) (chk (inb x32.2.1 s_.length) (bif decide (((s_.getD (x32.2.1).toNat 0).toNat : Int) = 10) then chk (inc x32.1 x32.2.1 s_.length) (chk (room (x32.2.2.length + [((s_.take ((x32.2.1).toNat)).drop ((x32.1).toNat))].length) 16) (chk (in64 (x32.2.1 + 1)) (some ((x32.2.1 + 1), (x32.2.2 ++ [((s_.take ((x32.2.1).toNat)).drop ((x32.1).toNat))]))))) else some (x32.1, x32.2.2))) fun j42 => chk (in64 (x32.2.1 + 1)) (some (.nx (j42.1, (x32.2.1 + 1), j42.2))) else some (.ex x32.2.2)
noncomputable def F_16 (s_ : Str) : Option (List Str) :=
 (loop (F_e s_) (0,0,[])).bind fun r43 => some r43
@[irreducible] def mg_3r : List MOp := [gT 10 11 (.mv (.t 3)),
 gT 10 12 (.len false (.t 11)),
 gT 10 13 (.bin false .lss (.t 12) (cI 100)),
 mo (.pick (.t 10) (.t 13) (.c (.bool false))) 14]
@[irreducible] def mc_3s : MC :=
 (.reg [oV 5 15,
 mo (.bin true .add (.t 15) (cI 1)) 16,
 oV 16 5])
@[irreducible] def mc_e : MC :=
 (.seq (.seq (.regI [.op (oV 5 6),
 .op (oV 0 7),
 .op (mo (.len true (.t 7)) 8),
 .op (mo (.bin false .lss (.t 6) (.t 8)) 9),
 .op (oV 9 10),
 .grp mg_3r])
 (.cond (.t 14)
 .skip
 (.exit 0)))
 (.cut (.block 1
 (sR [oV 0 17,
 oV 5 18,
 mo (.idx (.t 17) (.t 18)) 19,
 mo (.bin false .eql (.t 19) (.c (.int .u8 10))) 20]
 (.cond (.t 20)
 (.seq (.note (.gc [0,3,4,5,11,12,13]) (.reg [oV 3 21,
 oV 0 22,
 oV 4 23,
 oV 5 24,
 mo (.sls (.t 22) (some (.t 23)) (some (.t 24))) 25,
 mo (.bslice 1 [(.t 25)]) 26,
 mo (.app 1 16 (.t 21) (.t 26)) 27,
 oV 27 3]))
 (.note (.gc [0,3,5,11,12,13]) (.reg [oV 5 28,
 mo (.bin true .add (.t 28) (cI 1)) 29,
 oV 29 4])))
 .skip)))
 mc_3s))
def mc_16 : MC :=
 (sR [mo (.mv (.c (.sl []))) 2]
 (sR [mo (.mv (.c .nils)) 3]
 (sR [oC 0 4]
 (.seq (sR [oC 0 5]
 (.block 0
 (.loop mc_e)))
 (sR [oV 3 30,
 oV 30 2]
 .ret)))))
theorem Wq_16 {s_ : Str} : Cn Tryd.prog 53 [.str s_] [] (F_16 s_) (fun z => .sl (z.map V.str)) (fun z => []) := fun Q Q' h hQ => by
 refine acallM mc_16 [.fz 2] [] [.t 2] Tryd.func53 fun M => ?_
 unfold F_16 at h
 unfold mc_16
 replace h := tY h
 refine tB ?_
 repeat' (first
 | (exact tZ)
 | ((first | refine oblg h ?_ | refine roomG h ?_ | refine fork h ?_ ?_ | refine forkS h ?_ ?_) <;> clear h <;> intro hc h)
 | (refine M.jn1 (b := mc_3s) [0,5] [] (fun y => [(3, .osl 2003 1 0 y.2.length), (4, .int .i64 y.1)]) (fun y => [.o 2003 (.arr 1 (y.2.map V.str))]) [.gc [0,3,4,5], .acc 3 2003 1] h ?_ ?_ <;> first
 | (clear h; intro Qn K hK1 h; replace h := tY h; refine tB ?_)
  |(clear h; intro y h; unfold mc_3s; replace h := tY h; refine tB ?_))
 | (refine M.gv1 (ms := mg_3r) 14 [11,12,13] h ?_ ?_ <;> first
 | (clear h; intro K hK2; unfold mg_3r; refine tB ?_)
 | (clear h; intro b h; replace h := tY h; refine tB ?_))
 | (refine M.wh1 (b := mc_e) [0] [] (fun x => [(3, .osl 2003 1 0 x.2.2.length), (4, .int .i64 x.1), (5, .int .i64 x.2.1)]) (fun x => [.o 2003 (.arr 1 (x.2.2.map V.str))]) [.gc [0,3,4,5], .acc 3 2003 1] h ?_ ?_ <;> first
 | (clear h; intro x Qn K hK3 h; unfold F_e at h; unfold mc_e; replace h := tY h; refine tB ?_)
  |(clear h; (try refine tB ?_); exact tU0; done))
 | ((first | refine hK1 _ ?_ | refine hK3 _ ?_); (try refine tB ?_); refine ⟨_, h, ?_⟩; exact tU0; done)
 | (refine hK2 _ ?_; exact tU; done)
 | (refine bfork (fun hc => ?_) (fun hc => ?_))
 | (refine tE ?_; (first | rw [M.lok_compU] | rw [M.lokD_compU]); refine tB ?_)
 | (refine tA ?_)
 | fail)
noncomputable def F_o (s_ : Str) (x9 : Int) : Option (Fl Int (Sum Unit (Str × Str))) :=
 bif decide (x9 < (s_.length : Int)) then chk (inb x9 s_.length) (bif decide (((s_.getD (x9).toNat 0).toNat : Int) = 32) then chk (inc 0 x9 s_.length) (chk (in64 (x9 + 1)) (chk (inc (x9 + 1) (s_.length : Int) s_.length) (some (.ex (.inr ((s_.take ((x9).toNat)), (s_.drop (((x9 + 1)).toNat)))))))) else chk (in64 (x9 + 1)) (some (.nx (x9 + 1)))) else some (.ex (.inl ()))
noncomputable def F_s (s_ : Str) : Option (Str × Str) :=
 (loop (F_o s_) 0).bind fun r10 => Sum.elim (fun u11 => some (s_, [])) (fun u12 => some u12) r10
@[irreducible] def mc_o : MC :=
 (.seq (sR [oV 4 5,
 oV 0 6,
 mo (.len true (.t 6)) 7,
 mo (.bin false .lss (.t 5) (.t 7)) 8]
 (.cond (.t 8)
 .skip
 (.exit 0)))
 (.seq (.block 1
 (sR [oV 0 11,
 oV 4 12,
 mo (.idx (.t 11) (.t 12)) 13,
 mo (.bin false .eql (.t 13) (.c (.int .u8 32))) 14]
 (.cond (.t 14)
 (.seq (.note (.gc [0,4]) (.regD [oV 0 15,
 oV 4 16,
 mo (.sls (.t 15) none (some (.t 16))) 17,
 oV 0 18,
 oV 4 19,
 mo (.bin true .add (.t 19) (cI 1)) 20,
 mo (.sls (.t 18) (some (.t 20)) none) 21,
 oV 17 2,
 oV 21 3]
 [[],[],[0,1],[],[],[4],[3,5],[2,0,1,2],[6,7,0,1,2,3,4,5,6,7]]
 [[],[],[0,1],[],[],[4],[3,4,5],[0,1,2],[0,1,2,3,4,5,6,7]]))
 .ret)
 .skip)))
 (.note (.gc [0,4]) (.reg [oV 4 9,
 mo (.bin true .add (.t 9) (cI 1)) 10,
 oV 10 4]))))
def mc_s : MC :=
 (sR [mo (.mv (.c (.str []))) 2,
 mo (.mv (.c (.str []))) 3]
 (.seq (sR [oC 0 4]
 (.block 0
 (.loop mc_o)))
 (sR [oV 0 22,
 oV 22 2,
 mo (.mv (.c (.str []))) 3]
 .ret)))
theorem Wq_s {s_ : Str} : Cn Tryd.prog 54 [.str s_] [] (F_s s_) (fun z => .tup [.str z.1, .str z.2]) (fun z => []) := fun Q Q' h hQ => by
 refine acallM mc_s [] [] [.t 2, .t 3] Tryd.func54 fun M => ?_
 unfold F_s at h
 unfold mc_s
 replace h := tY h
 refine tB ?_
 repeat' (first
 | (exact tZ)
 | ((first | refine oblg h ?_ | refine roomG h ?_ | refine fork h ?_ ?_ | refine forkS h ?_ ?_) <;> clear h <;> intro hc h)
 | (refine M.wh1 (b := mc_o) [0] [] (fun x => [(4, .int .i64 x)]) (fun x => []) [] h ?_ ?_ <;> first
 | (clear h; intro x Qn K hK1 h; unfold F_o at h; unfold mc_o; replace h := tY h; refine tB ?_)
  |(clear h; (try refine tB ?_); exact tU0; done))
 | (refine hK1 _ ?_; (try refine tB ?_); refine ⟨_, h, ?_⟩; exact tU0; done)
 | (refine tE ?_; (first | rw [M.lok_compU] | rw [M.lokD_compU]); refine tB ?_)
 | (refine tA ?_)
 | fail)
noncomputable def F_f (s_ : Str) (x13 : Int × Int) : Option (Fl (Int × Int) (Sum Int Int)) :=
 bif decide (x13.2 < (s_.length : Int)) then chk (inb x13.2 s_.length) (bif decide (((s_.getD (x13.2).toNat 0).toNat : Int) < 48) then some (.ex (.inr (-1))) else chk (inb x13.2 s_.length) (bif decide (57 < ((s_.getD (x13.2).toNat 0).toNat : Int)) then some (.ex (.inr (-1))) else chk (in64 (x13.1 * 10)) (chk (inb x13.2 s_.length) (chk (in64 ((x13.1 * 10) + ((u8 (((s_.getD (x13.2).toNat 0).toNat : Int) - 48)).toNat : Int))) (chk (in64 (x13.2 + 1)) (some (.nx (((x13.1 * 10) + ((u8 (((s_.getD (x13.2).toNat 0).toNat : Int) - 48)).toNat : Int)), (x13.2 + 1))))))))) else some (.ex (.inl x13.1))
noncomputable def F_h (s_ : Str) : Option Int :=
 grp ((decide ((s_.length : Int) = 0) || decide (18 < (s_.length : Int)))) fun b4 => bif b4 then some (-1) else (loop (F_f s_) (0,0)).bind fun r14 => Sum.elim (fun u15 => some u15) (fun u16 => some u16) r14
@[irreducible] def mg_3t : List MOp := [gF 8 9 (.mv (.t 0)),
 gF 8 10 (.len true (.t 9)),
 gF 8 11 (.bin false .gtr (.t 10) (cI 18)),
 mo (.pick (.t 8) (.c (.bool true)) (.t 11)) 12]
@[irreducible] def mc_f : MC :=
 (.seq (sR [oV 4 13,
 oV 0 14,
 mo (.len true (.t 14)) 15,
 mo (.bin false .lss (.t 13) (.t 15)) 16]
 (.cond (.t 16)
 .skip
 (.exit 0)))
 (.seq (.block 1
 (.seq (sR [oV 0 19,
 oV 4 20,
 mo (.idx (.t 19) (.t 20)) 21,
 mo (.bin false .lss (.t 21) (.c (.int .u8 48))) 22,
 oV 22 23,
 gF 23 24 (.mv (.t 0)),
 gF 23 25 (.mv (.t 4)),
 gF 23 26 (.idx (.t 24) (.t 25)),
 gF 23 27 (.bin false .gtr (.t 26) (.c (.int .u8 57))),
 mo (.pick (.t 23) (.c (.bool true)) (.t 27)) 28]
 (.cond (.t 28)
 (sR [oC (-1) 2]
 .ret)
 .skip))
 (.note (.gc [0,3,4,24,25,26,27]) (.reg [oV 3 29,
 mo (.bin true .mul (.t 29) (cI 10)) 30,
 oV 0 31,
 oV 4 32,
 mo (.idx (.t 31) (.t 32)) 33,
 mo (.bin false .sub (.t 33) (.c (.int .u8 48))) 34,
 mo (.i2i true .i64 (.t 34)) 35,
 mo (.bin true .add (.t 30) (.t 35)) 36,
 oV 36 3]))))
 (.note (.gc [0,3,4,24,25,26,27]) (.reg [oV 4 17,
 mo (.bin true .add (.t 17) (cI 1)) 18,
 oV 18 4]))))
def mc_h : MC :=
 (sR [oC 0 2]
 (.seq (.seq (.regI [.op (oV 0 5),
 .op (mo (.len true (.t 5)) 6),
 .op (mo (.bin false .eql (.t 6) (cI 0)) 7),
 .op (oV 7 8),
 .grp mg_3t])
 (.cond (.t 12)
 (sR [oC (-1) 2]
 .ret)
 .skip))
 (sR [oC 0 3]
 (.seq (sR [oC 0 4]
 (.block 0
 (.loop mc_f)))
 (sR [oV 3 37,
 oV 37 2]
 .ret)))))
theorem Wq_h {s_ : Str} : Cn Tryd.prog 55 [.str s_] [] (F_h s_) (fun z => .int .i64 z) (fun z => []) := fun Q Q' h hQ => by
 refine acallM mc_h [] [] [.t 2] Tryd.func55 fun M => ?_
 unfold F_h at h
 unfold mc_h
 replace h := tY h
 refine tB ?_
 repeat' (first
 | (exact tZ)
 | ((first | refine oblg h ?_ | refine roomG h ?_ | refine fork h ?_ ?_ | refine forkS h ?_ ?_) <;> clear h <;> intro hc h)
 | (refine M.wh1 (b := mc_f) [0] [] (fun x => [(3, .int .i64 x.1), (4, .int .i64 x.2)]) (fun x => []) [] h ?_ ?_ <;> first
 | (clear h; intro x Qn K hK1 h; unfold F_f at h; unfold mc_f; replace h := tY h; refine tB ?_)
  |(clear h; (try refine tB ?_); exact tU0; done))
 | (refine M.gv1 (ms := mg_3t) 12 [9,10,11] h ?_ ?_ <;> first
 | (clear h; intro K hK2; unfold mg_3t; refine tB ?_)
 | (clear h; intro b h; replace h := tY h; refine tB ?_))
 | (refine hK1 _ ?_; (try refine tB ?_); refine ⟨_, h, ?_⟩; exact tU0; done)
 | (refine hK2 _ ?_; exact tU; done)
 | (refine bfork (fun hc => ?_) (fun hc => ?_))
 | (refine tE ?_; (first | rw [M.lok_compU] | rw [M.lokD_compU]); refine tB ?_)
 | (refine tA ?_)
 | fail)
noncomputable def F_17 (y6 : List Str) (x87 : Int × Int × (List GItem)) : Option (Fl (Int × Int × (List GItem)) (Int × (List GItem))) :=
 bif decide (x87.1 < (y6.length : Int)) then chk (inb x87.1 y6.length) ((F_s (y6.getD (x87.1).toNat default)).bind fun y98 => (F_h y98.1).bind fun y99 => chk (room (x87.2.2.length + [(GItem.mk y98.2 y99)].length) 24) (chk (in64 (x87.1 + 1)) (some (.nx ((x87.1 + 1), x87.2.1, (x87.2.2 ++ [(GItem.mk y98.2 y99)])))))) else some (.ex (x87.2.1, x87.2.2))
noncomputable def F_18 (y6 : List Str) (x137 : Int × Int × Int × Str × Int × (List Int)) : Option (Fl (Int × Int × Int × Str × Int × (List Int)) (Int × Int × Str × Int × (List Int))) :=
 bif decide (x137.1 < (y6.length : Int)) then jn (α := Int × Int × Str × Int × (List Int)) (chk (inb x137.1 y6.length) ((F_s (y6.getD (x137.1).toNat default)).bind fun y151 => bif decide (y151.1 = [116,114,101,101]) then (F_h y151.2).bind fun y152 => some (x137.2.1, y152, x137.2.2.2.1, x137.2.2.2.2.1, x137.2.2.2.2.2) else bif decide (y151.1 = [112,97,114,101,110,116]) then (F_h y151.2).bind fun y153 => chk (room (x137.2.2.2.2.2.length + [y153].length) 8) (some (x137.2.1, x137.2.2.1, x137.2.2.2.1, x137.2.2.2.2.1, (x137.2.2.2.2.2 ++ [y153]))) else bif decide (y151.1 = [97,117,116,104,111,114]) then some (x137.2.1, x137.2.2.1, y151.2, x137.2.2.2.2.1, x137.2.2.2.2.2) else bif decide (y151.1 = [116,105,109,101]) then (F_h y151.2).bind fun y154 => some (x137.2.1, x137.2.2.1, x137.2.2.2.1, y154, x137.2.2.2.2.2) else some (x137.2.1, x137.2.2.1, x137.2.2.2.1, x137.2.2.2.2.1, x137.2.2.2.2.2))) fun j149 => chk (in64 (x137.1 + 1)) (some (.nx ((x137.1 + 1), j149.1, j149.2.1, j149.2.2.1, j149.2.2.2.1, j149.2.2.2.2))) else some (.ex (x137.2.1, x137.2.2.1, x137.2.2.2.1, x137.2.2.2.2.1, x137.2.2.2.2.2))
noncomputable def F_19 (id_ : Int) (s_ : Str) : Option GObject :=
 jn (α := Bool) (bif decide (5 ≤ (s_.length : Int)) then chk (inc 0 5 s_.length) (some (decide ((s_.take 5) = [98,108,111,98,10]))) else some false) fun j4 => bif j4 then chk (inc 5 (s_.length : Int) s_.length) (some (GObject.mk id_ 1 (s_.drop 5) [] 0 [] [] 0)) else (F_16 s_).bind fun y6 => bif decide ((y6.length : Int) = 0) then some (GObject.mk id_ 0 [] [] 0 [] [] 0) else chk (inb 0 y6.length) (bif decide ((y6.getD 0 default) = [116,114,101,101]) then (loop (F_17 y6) (1, id_, [])).bind fun r100 => some (GObject.mk r100.1 2 [] r100.2 0 [] [] 0) else (loop (F_18 y6) (1, id_, 0,[],0,[])).bind fun r155 => some (GObject.mk r155.1 3 [] [] r155.2.1 r155.2.2.2.2 r155.2.2.1 r155.2.2.2.1))
@[irreducible] def mg_3u : List MOp := [gT 18 19 (.mv (.t 1)),
 gT 18 20 (.sls (.t 19) none (some (cI 5))),
 gT 18 21 (.bin false .eql (.t 20) (.c (.str [98,108,111,98,10]))),
 mo (.pick (.t 18) (.t 21) (.c (.bool false))) 22]
@[irreducible] def mc_17 : MC :=
 (.seq (sR [oV 7 40,
 oV 6 41,
 mo (.len false (.t 41)) 42,
 mo (.bin false .lss (.t 40) (.t 42)) 43]
 (.cond (.t 43)
 .skip
 (.exit 0)))
 (.seq (.block 1
 (sR [oV 6 47,
 oV 7 48,
 mo (.iad 1 (.t 47) (.t 48)) 49,
 oL 49 50,
 mo (.call (.f 54) [(.t 50)] [] []) 51,
 oV 51 46,
 mo (.ext 0 (.t 46)) 52,
 mo (.ext 1 (.t 46)) 53,
 oV 52 8,
 oV 53 9]
 (.note (.gc [4,5,6,7,8,9]) (.regD [oF 3 5 54,
 oL 54 55,
 oV 9 56,
 oV 8 57,
 mo (.call (.f 55) [(.t 57)] [] []) 58,
 mo (.build [(.str []),(.int .i64 0)] [(0,1,(.t 56)), (1,1,(.t 58))]) 59,
 mo (.bslice 2 [(.t 59)]) 60,
 mo (.app 2 24 (.t 55) (.t 60)) 61,
 oF 3 5 62,
 ⟨.st 1 (.t 62) (.t 61), none, none⟩]
 [[],[0],[],[],[3],[2,4],[5],[1,6,4],[0,1,2,3,4,5,6,7],[8,7,7,0,1,2,3,4,5,6,7]]
 [[],[0],[],[],[3],[2,3,4],[2,3,4,5],[0,1,2,3,4,5,6],[0,1,2,3,4,5,6,7],[0,1,2,3,4,5,6,7,8]]))))
 (.note (.gc [4,5,6,7]) (.reg [oV 7 44,
 mo (.bin true .add (.t 44) (cI 1)) 45,
 oV 45 7]))))
@[irreducible] def mc_3v : MC :=
 (.reg [oV 10 69,
 mo (.bin true .add (.t 69) (cI 1)) 70,
 oV 70 10])
@[irreducible] def mc_18 : MC :=
 (.seq (sR [oV 10 65,
 oV 6 66,
 mo (.len false (.t 66)) 67,
 mo (.bin false .lss (.t 65) (.t 67)) 68]
 (.cond (.t 68)
 .skip
 (.exit 2)))
 (.cut (.block 3
 (sR [oV 6 72,
 oV 10 73,
 mo (.iad 1 (.t 72) (.t 73)) 74,
 oL 74 75,
 mo (.call (.f 54) [(.t 75)] [] []) 76,
 oV 76 71,
 mo (.ext 0 (.t 71)) 77,
 mo (.ext 1 (.t 71)) 78,
 oV 77 11,
 oV 78 12]
 (sR [oV 11 79]
 (.block 4
 (sR [mo (.bin false .eql (.t 79) (.c (.str [116,114,101,101]))) 81,
 oV 81 80]
 (.cond (.t 80)
 (.note (.gc [4,5,6,10,12]) (.reg [oV 12 82,
 mo (.call (.f 55) [(.t 82)] [] []) 83,
 oF 4 5 84,
 ⟨.st 1 (.t 84) (.t 83), none, none⟩]))
 (sR [mo (.bin false .eql (.t 79) (.c (.str [112,97,114,101,110,116]))) 86,
 oV 86 85]
 (.cond (.t 85)
 (.note (.gc [4,5,6,10,12]) (.regD [oF 5 5 87,
 oL 87 88,
 oV 12 89,
 mo (.call (.f 55) [(.t 89)] [] []) 90,
 mo (.bslice 1 [(.t 90)]) 91,
 mo (.app 1 8 (.t 88) (.t 91)) 92,
 oF 5 5 93,
 ⟨.st 1 (.t 93) (.t 92), none, none⟩]
 [[],[0],[],[2],[3],[1,4,3],[0,1,2,3,4,5],[6,5,5,0,1,2,3,4,5]]
 [[],[0],[],[2],[2,3],[0,1,2,3,4],[0,1,2,3,4,5],[0,1,2,3,4,5,6]]))
 (sR [mo (.bin false .eql (.t 79) (.c (.str [97,117,116,104,111,114]))) 95,
 oV 95 94]
 (.cond (.t 94)
 (.note (.gc [4,5,6,10,12]) (.reg [oV 12 96,
 oF 6 5 97,
 ⟨.st 1 (.t 97) (.t 96), none, none⟩]))
 (sR [mo (.bin false .eql (.t 79) (.c (.str [116,105,109,101]))) 99,
 oV 99 98]
 (.cond (.t 98)
 (.note (.gc [4,5,6,10,12]) (.reg [oV 12 100,
 mo (.call (.f 55) [(.t 100)] [] []) 101,
 oF 7 5 102,
 ⟨.st 1 (.t 102) (.t 101), none, none⟩]))
 .skip))))))))))))
 mc_3v))
def mc_19 : MC :=
 (sR [mo (.alloc [(.int .i64 0),(.int .i64 0),(.sl []),(.sl []),(.int .i64 0),(.sl []),(.str []),(.int .i64 0)]) 4]
 (sR [oV 0 13,
 mo (.build [(.int .i64 0),(.int .i64 0), .nils, .nils, (.int .i64 0), .nils, (.str []),(.int .i64 0)] [(0,1,(.t 13))]) 14,
 mo (.alloc [(.int .i64 0),(.int .i64 0),(.sl []),(.sl []),(.int .i64 0),(.sl []),(.str []),(.int .i64 0)]) 5,
 ⟨.st 8 (.t 5) (.t 14), none, none⟩]
 (.seq (.seq (.regI [.op (oV 1 15),
 .op (mo (.len true (.t 15)) 16),
 .op (mo (.bin false .geq (.t 16) (cI 5)) 17),
 .op (oV 17 18),
 .grp mg_3u])
 (.cond (.t 22)
 (.seq (.regD [oV 1 23,
 mo (.sls (.t 23) (some (cI 5)) none) 24,
 mo (.s2b (.t 24)) 25,
 oF 1 5 26,
 ⟨.st 1 (.t 26) (cI 1), none, none⟩,
 oF 2 5 27,
 ⟨.st 1 (.t 27) (.t 25), none, none⟩]
 [[],[0],[1],[],[3],[0,1,2,3,4],[5,2,4,0,1,2,3,4]]
 [[],[0],[0,1],[],[3],[0,1,2,3,4],[0,1,2,3,4,5]])
 (sR [mo (.ld (some 8) (.t 5)) 28,
 ⟨.st 8 (.t 4) (.t 28), none, none⟩]
 .ret))
 .skip))
 (sR [oV 1 29,
 mo (.call (.f 53) [(.t 29)] [] []) 30,
 oV 30 6]
 (.seq (sR [oV 6 31,
 mo (.len false (.t 31)) 32,
 mo (.bin false .eql (.t 32) (cI 0)) 33]
 (.cond (.t 33)
 (sR [mo (.ld (some 8) (.t 5)) 34,
 ⟨.st 8 (.t 4) (.t 34), none, none⟩]
 .ret)
 .skip))
 (.seq (sR [oV 6 35,
 mo (.iad 1 (.t 35) (cI 0)) 36,
 oL 36 37,
 mo (.bin false .eql (.t 37) (.c (.str [116,114,101,101]))) 38]
 (.cond (.t 38)
 (sR [oF 1 5 39,
 ⟨.st 1 (.t 39) (cI 2), none, none⟩]
 (.seq (sR [oC 1 7]
 (.block 0
 (.loop mc_17)))
 (sR [mo (.ld (some 8) (.t 5)) 63,
 ⟨.st 8 (.t 4) (.t 63), none, none⟩]
 .ret)))
 .skip))
 (sR [oF 1 5 64,
 ⟨.st 1 (.t 64) (cI 3), none, none⟩]
 (.seq (sR [oC 1 10]
 (.block 2
 (.loop mc_18)))
 (sR [mo (.ld (some 8) (.t 5)) 103,
 ⟨.st 8 (.t 4) (.t 103), none, none⟩]
 .ret)))))))))
theorem Wq_19 {id_ : Int} {s_ : Str} : Cn Tryd.prog 41 [.int .i64 id_, .str s_] [] (F_19 id_ s_) (fun z => GObject.v z) (fun z => []) := fun Q Q' h hQ => by
 refine acallM mc_19 [.fzc 4] [] [.c 4 (some 8)] Tryd.func41 fun M => ?_
 unfold F_19 at h
 unfold mc_19
 replace h := tY h
 refine tB ?_
 repeat' (first
 | (exact tZ)
 | ((first | refine oblg h ?_ | refine roomG h ?_ | refine fork h ?_ ?_ | refine forkS h ?_ ?_) <;> clear h <;> intro hc h)
 | (obtain ⟨y, hy, h⟩ := h; (first | with_reducible first | have hw := Wq_16.w hy | have hw := Wq_s.w hy | have hw := Wq_h.w hy); replace hw := tY hw; (first | refine M.sC hw ?_ | refine M.sD hw ?_); clear hw hy; refine tB ?_)
 | (refine M.wh1 (b := mc_17) [4,5,6] [5,4] (fun x => [(7, .int .i64 x.1)]) (fun x => [.p 5 0 [.int .i64 x.2.1], .p 5 3 [.osl 4083 2 0 x.2.2.length], .o 4083 (.arr 2 (x.2.2.map GItem.v))]) [.gc [4,5,6,7], .ownC 5 3 4083 2 none] h ?_ ?_ <;> first
 | (clear h; intro x Qn K hK1 h; unfold F_17 at h; unfold mc_17; replace h := tY h; refine tB ?_)
  |(clear h; (try refine tB ?_); exact tU0; done))
 | (refine M.jn1 (b := mc_3v) [4,5,6,10] [5,4] (fun y => []) (fun y => [.p 5 0 [.int .i64 y.1], .p 5 4 [.int .i64 y.2.1], .p 5 5 [.osl 4085 1 0 y.2.2.2.2.length], .p 5 6 [.str y.2.2.1], .p 5 7 [.int .i64 y.2.2.2.1], .o 4085 (.arr 1 (y.2.2.2.2.map (V.int .i64)))]) [.gc [4,5,6,10], .ownC 5 5 4085 1 none] h ?_ ?_ <;> first
 | (clear h; intro Qn K hK2 h; replace h := tY h; refine tB ?_)
  |(clear h; intro y h; unfold mc_3v; replace h := tY h; refine tB ?_))
 | (refine M.wh1 (b := mc_18) [4,5,6] [5,4] (fun x => [(10, .int .i64 x.1)]) (fun x => [.p 5 0 [.int .i64 x.2.1], .p 5 4 [.int .i64 x.2.2.1], .p 5 5 [.osl 4085 1 0 x.2.2.2.2.2.length], .p 5 6 [.str x.2.2.2.1], .p 5 7 [.int .i64 x.2.2.2.2.1], .o 4085 (.arr 1 (x.2.2.2.2.2.map (V.int .i64)))]) [.gc [4,5,6,10], .ownC 5 5 4085 1 none] h ?_ ?_ <;> first
 | (clear h; intro x Qn K hK3 h; unfold F_18 at h; unfold mc_18; replace h := tY h; refine tB ?_)
  |(clear h; (try refine tB ?_); exact tU0; done))
 | (refine M.gj1 (ms := mg_3u) [1,4,5] [5,4] (fun y => [(22, .bool y)]) (fun y => []) h ?_ ?_ <;> first
 | (clear h; intro Qn K hK4 h; unfold mg_3u; replace h := tY h; refine tB ?_)
  |(clear h; intro y h; replace h := tY h; refine tB ?_))
 | ((first | refine hK1 _ ?_ | refine hK2 _ ?_ | refine hK3 _ ?_ | refine hK4 _ ?_); (try refine tB ?_); refine ⟨_, h, ?_⟩; exact tU0; done)
 | (refine tE ?_; (first | rw [M.lok_compU] | rw [M.lokD_compU]); refine tB ?_)
 | (refine tA ?_)
 | fail)
noncomputable def F_g (id_ : Int) (b_ : List UInt8) : Option (GObject × Int) :=
 (F_7 id_).bind fun y4 => bif (!y4) then some ((GObject.mk 0 0 [] [] 0 [] [] 0),2) else (F_19 id_ b_).bind fun y6 => (F_p y6).bind fun y13 => bif (!decide (y13 = 0)) then some ((GObject.mk 0 0 [] [] 0 [] [] 0),10) else (F_a y6).bind fun y14 => bif (!decide (y14 = b_)) then some ((GObject.mk 0 0 [] [] 0 [] [] 0),10) else some (y6,0)
def mc_g : MC :=
 (sR [mo (.alloc [(.int .i64 0),(.int .i64 0),(.sl []),(.sl []),(.int .i64 0),(.sl []),(.str []),(.int .i64 0)]) 4,
 oC 0 5]
 (.seq (sR [oV 0 7,
 mo (.call (.f 28) [(.t 7)] [] []) 8,
 mo (.not (.t 8)) 9]
 (.cond (.t 9)
 (sR [mo (.build [(.int .i64 0),(.int .i64 0),(.sl []),(.sl []),(.int .i64 0),(.sl []),(.str []),(.int .i64 0)] []) 10,
 ⟨.st 8 (.t 4) (.t 10), none, none⟩,
 oC 2 5]
 .ret)
 .skip))
 (sR [oV 0 11,
 oV 1 12,
 mo (.b2s (.t 12)) 13,
 mo (.call (.f 41) [(.t 11),(.t 13)] [] []) 14,
 mo (.alloc [(.int .i64 0),(.int .i64 0),(.sl []),(.sl []),(.int .i64 0),(.sl []),(.str []),(.int .i64 0)]) 6,
 ⟨.st 8 (.t 6) (.t 14), none, none⟩]
 (.seq (.seq (.note (.gc [1,4,6,19,20,21,22,23,24]) (.regD [mo (.ld (some 8) (.t 6)) 15,
 mo (.call (.f 17) [(.t 15)] [] []) 16,
 mo (.bin false .neq (.t 16) (cI 0)) 17,
 oV 17 18,
 gF 18 19 (.ld (some 8) (.t 6)),
 gF 18 20 (.call (.f 21) [(.t 19)] [] []),
 gF 18 21 (.b2s (.t 20)),
 gF 18 22 (.mv (.t 1)),
 gF 18 23 (.b2s (.t 22)),
 gF 18 24 (.bin false .neq (.t 21) (.t 23)),
 mo (.pick (.t 18) (.c (.bool true)) (.t 24)) 25]
 [[],[0],[1],[2,1],[3],[4,3,3],[5,3],[3],[7,3],[6,8,3],[3,9]]
 [[],[0],[0,1],[0,1,2],[0,1,2,3],[0,1,2,3,4],[0,1,2,3,4,5],[0,1,2,3],[0,1,2,3,7],[0,1,2,3,4,5,6,7,8],[0,1,2,3,4,5,6,7,8,9]]))
 (.cond (.t 25)
 (.seq (.note (.gc [4]) (.reg [mo (.build [(.int .i64 0),(.int .i64 0),(.sl []),(.sl []),(.int .i64 0),(.sl []),(.str []),(.int .i64 0)] []) 26,
 ⟨.st 8 (.t 4) (.t 26), none, none⟩,
 oC 10 5]))
 .ret)
 .skip))
 (.seq (.note (.gc [4,6]) (.reg [mo (.ld (some 8) (.t 6)) 27,
 ⟨.st 8 (.t 4) (.t 27), none, none⟩,
 oC 0 5]))
 .ret)))))
theorem Wq_g {id_ : Int} {b_ : List UInt8} : Cn Tryd.prog 23 [.int .i64 id_, .sl (b_.map byteV)] [] (F_g id_ b_) (fun z => .tup [GObject.v z.1, .int .i64 z.2]) (fun z => []) := fun Q Q' h hQ => by
 refine acallM mc_g [.fzc 4] [] [.c 4 (some 8), .t 5] Tryd.func23 fun M => ?_
 unfold F_g at h
 unfold mc_g
 replace h := tY h
 refine tB ?_
 repeat' (first
 | (exact tZ)
 | ((first | refine oblg h ?_ | refine roomG h ?_ | refine fork h ?_ ?_ | refine forkS h ?_ ?_) <;> clear h <;> intro hc h)
 | (obtain ⟨y, hy, h⟩ := h; (first | with_reducible first | have hw := Wq_7.w hy | have hw := Wq_19.w hy | have hw := Wq_p.w hy | have hw := Wq_a.w hy); replace hw := tY hw; (first | refine M.sC hw ?_ | refine M.sD hw ?_); clear hw hy; refine tB ?_)
 | (refine tE ?_; (first | rw [M.lok_compU] | rw [M.lokD_compU]); refine tB ?_)
 | (refine tA ?_)
 | fail)
end Go.Ab
