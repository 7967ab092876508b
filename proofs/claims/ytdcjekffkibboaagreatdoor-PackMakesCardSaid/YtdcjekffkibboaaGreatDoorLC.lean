/- What the functions of this seat that lie on the laws' road compute (part LC), each for every input. By AI agents. -/
import Derived.Test.YtdcjekffkibboaaGreatDoorProg
import Derived.KernelRfl
import Derived.Test.YtdcjekffkibboaaGreatDoorAbFun
import Derived.Test.YtdcjekffkibboaaGreatDoorLR
set_option linter.all false
set_option linter.all false
set_option maxRecDepth 20000
set_option maxHeartbeats 2000000
namespace Go.Ab
open Go.Proofs
noncomputable def F_3x (a316 : List GObject) (x413 : Int × Int) : Option (Fl (Int × Int) Int) :=
 bif decide (x413.2 < (a316.length : Int)) then chk (inb x413.2 a316.length) (chk (inb x413.2 a316.length) (chk (inb x413.2 a316.length) (chk (in64 (x413.2 + 1)) (some (.nx ((IntKind.wrap .i64 (x413.1 + (IntKind.wrap .i64 ((IntKind.wrap .i64 ((((a316.getD (x413.2).toNat default).Data).length : Int) + (((a316.getD (x413.2).toNat default).Items).length : Int))) + (((a316.getD (x413.2).toNat default).Parents).length : Int))))), (x413.2 + 1))))))) else some (.ex x413.1)
noncomputable def F_p (k315 : Int) (a316 : List GObject) (x314 : Unit) : Option (Fl Unit Bool) :=
 (loop (F_3x a316) (0,0)).bind fun r414 => grp ((decide (30 < (a316.length : Int)) || decide (3000 < r414))) fun b418 => bif b418 then some (.nx ()) else (F_26 a316).bind fun y420 => (F_27 a316).bind fun y430 => grp (((!decide (y420.2 = y430)) || (decide (k315 = 1) && (!decide (y420.2 = 0))))) fun b431 => grp ((b431 || (decide (k315 = 2) && (!decide (y420.2 = 7))))) fun b432 => bif b432 then some (.ex false) else bif (!decide (y420.2 = 0)) then some (.nx ()) else (F_2b y420.1).bind fun y434 => bif (!decide (y434.2 = 0)) then some (.ex false) else (F_37 y434.1 a316).bind fun y436 => bif (!y436) then some (.ex false) else some (.nx ())
noncomputable def F_38 (tape_ : List Int) (raw_ : List GObject) : Option Bool :=
 (F_1r (GTape.mk tape_ 0)).bind fun y2 => chk (room (([] : List GObject).length + y2.1.Objects.length) 120) ((F_0 y2.2 (y2.1.Objects.length : Int)).bind fun y4 => chk (inb y4.1 y2.1.Objects.length) (chk (room ((([] : List GObject) ++ y2.1.Objects).length + [(y2.1.Objects.getD (y4.1).toNat default)].length) 120) ((forL F_p [raw_, y2.1.Objects, ((([] : List GObject) ++ y2.1.Objects) ++ [(y2.1.Objects.getD (y4.1).toNat default)])] 0 ()).bind fun o => o.elim (fun x437 => F_1o.bind fun y440 => some y440) (fun r438 => some r438))))
@[irreducible] def mc_3x : MC :=
 (.seq (sR [oV 11 44,
 oV 9 45,
 mo (.len false (.t 45)) 46,
 mo (.bin false .lss (.t 44) (.t 46)) 47]
 (.cond (.t 47)
 .skip
 (.exit 2)))
 (.seq (.block 3
 (.regD [oV 10 50,
 oV 9 51,
 oV 11 52,
 mo (.iad 8 (.t 51) (.t 52)) 53,
 oF 2 53 54,
 oL 54 55,
 mo (.len false (.t 55)) 56,
 oV 9 57,
 oV 11 58,
 mo (.iad 8 (.t 57) (.t 58)) 59,
 oF 3 59 60,
 oL 60 61,
 mo (.len false (.t 61)) 62,
 mo (.bin false .add (.t 56) (.t 62)) 63,
 oV 9 64,
 oV 11 65,
 mo (.iad 8 (.t 64) (.t 65)) 66,
 oF 5 66 67,
 oL 67 68,
 mo (.len false (.t 68)) 69,
 mo (.bin false .add (.t 63) (.t 69)) 70,
 mo (.bin false .add (.t 50) (.t 70)) 71,
 oV 71 10]
 [[],[],[],[1,2],[3],[4],[5],[],[],[7,8],[9],[10],[11],[6,12],[],[],[14,15],[16],[17],[18],[13,19],[0,20],[21,0,1,2,3,4,5,6,7,8,9,10,11,12,13,14,15,16,17,18,19,20,21]]
 [[],[],[],[1,2],[1,2,3],[1,2,3,4],[1,2,3,4,5],[],[],[7,8],[7,8,9],[7,8,9,10],[7,8,9,10,11],[1,2,3,4,5,6,7,8,9,10,11,12],[],[],[14,15],[14,15,16],[14,15,16,17],[14,15,16,17,18],[1,2,3,4,5,6,7,8,9,10,11,12,13,14,15,16,17,18,19],[0,1,2,3,4,5,6,7,8,9,10,11,12,13,14,15,16,17,18,19,20],[0,1,2,3,4,5,6,7,8,9,10,11,12,13,14,15,16,17,18,19,20,21]]))
 (.note (.gc [8,9,10,11,37,38,39,76,77,89,90,91,92,93,94,97,98,99,100,101,102,114,115,116,117]) (.reg [oV 11 48,
 mo (.bin true .add (.t 48) (cI 1)) 49,
 oV 49 11]))))
@[irreducible] def mg_6y : List MOp := [gF 75 76 (.mv (.t 10)),
 gF 75 77 (.bin false .gtr (.t 76) (cI 3000)),
 mo (.pick (.t 75) (.c (.bool true)) (.t 77)) 78]
@[irreducible] def mg_6z : List MOp := [gF 88 89 (.mv (.t 8)),
 gF 88 90 (.bin false .eql (.t 89) (cI 1)),
 gF 88 91 (.mv (.t 90)),
 gT 91 92 (.mv (.t 13)),
 gT 91 93 (.bin false .neq (.t 92) (cI 0)),
 gF 88 94 (.pick (.t 91) (.t 93) (.c (.bool false))),
 mo (.pick (.t 88) (.c (.bool true)) (.t 94)) 95]
@[irreducible] def mg_70 : List MOp := [gF 96 97 (.mv (.t 8)),
 gF 96 98 (.bin false .eql (.t 97) (cI 2)),
 gF 96 99 (.mv (.t 98)),
 gT 99 100 (.mv (.t 13)),
 gT 99 101 (.bin false .neq (.t 100) (cI 7)),
 gF 96 102 (.pick (.t 99) (.t 101) (.c (.bool false))),
 mo (.pick (.t 96) (.c (.bool true)) (.t 102)) 103]
@[irreducible] def mc_p : MC :=
 (sR [mo (.bin false .lss (.t 39) (.t 38)) 40]
 (.seq (.cond (.t 40)
 .skip
 (.exit 0))
 (.seq (.block 1
 (sR [oV 39 41,
 mo (.iad 1 (.t 37) (.t 39)) 42,
 oL 42 43,
 oV 41 8,
 oV 43 9]
 (sR [oC 0 10]
 (.seq (sR [oC 0 11]
 (.block 2
 (.loop mc_3x)))
 (.seq (.seq (.regI [.op (oV 9 72),
 .op (mo (.len false (.t 72)) 73),
 .op (mo (.bin false .gtr (.t 73) (cI 30)) 74),
 .op (oV 74 75),
 .grp mg_6y])
 (.cond (.t 78)
 (.exit 1)
 .skip))
 (sR [oV 9 80,
 mo (.call (.f 6) [(.t 80)] [] []) 81,
 oV 81 79,
 mo (.ext 0 (.t 79)) 82,
 mo (.ext 1 (.t 79)) 83,
 oV 82 12,
 oV 83 13]
 (.seq (.seq (.note (.gc [8,9,12,13,37,38,39,76,77,89,90,91,92,93,94,97,98,99,100,101,102,114,115,116,117]) (.regI [.op (oV 13 84),
 .op (oV 9 85),
 .op (mo (.call (.f 7) [(.t 85)] [] []) 86),
 .op (mo (.bin false .neq (.t 84) (.t 86)) 87),
 .op (oV 87 88),
 .grp mg_6z,
 .op (oV 95 96),
 .grp mg_70]))
 (.cond (.t 103)
 (sR [mo (.mv (.c (.bool false))) 4]
 .ret)
 .skip))
 (.seq (sR [oV 13 104,
 mo (.bin false .neq (.t 104) (cI 0)) 105]
 (.cond (.t 105)
 (.exit 1)
 .skip))
 (.seq (.note (.gc [9,12,37,38,39,76,77,89,90,91,92,93,94,97,98,99,100,101,102,114,115,116,117]) (.reg [oV 12 107,
 mo (.call (.f 8) [(.t 107)] [] []) 108,
 oV 108 106,
 mo (.ext 0 (.t 106)) 109,
 mo (.ext 1 (.t 106)) 110,
 oV 109 14,
 oV 110 15]))
 (sR [oV 15 111,
 mo (.bin false .neq (.t 111) (cI 0)) 112,
 oV 112 113,
 gF 113 114 (.mv (.t 14)),
 gF 113 115 (.mv (.t 9)),
 gF 113 116 (.call (.f 9) [(.t 114),(.t 115)] [] []),
 gF 113 117 (.not (.t 116)),
 mo (.pick (.t 113) (.c (.bool true)) (.t 117)) 118]
 (.cond (.t 118)
 (sR [mo (.mv (.c (.bool false))) 4]
 .ret)
 .skip)))))))))))
 (.reg [mo (.bin true .add (.t 39) (cI 1)) 119,
 oV 119 39]))))
def mc_38 : MC :=
 (sR [mo (.mv (.c (.bool false))) 4]
 (sR [oV 0 16,
 mo (.build [(.sl []),(.int .i64 0)] [(0,1,(.t 16))]) 17,
 mo (.box (.t 17)) 18,
 oV 18 5]
 (sR [oV 5 19,
 mo (.call (.f 4) [(.t 19)] [18] []) 20,
 mo (.fld none 0 (.t 20)) 21,
 oV 21 6]
 (.seq (.note (.gc [1,5,6,76,77,89,90,91,92,93,94,97,98,99,100,101,102,114,115,116,117]) (.reg [mo (.bslice 8 []) 22,
 oV 6 23,
 mo (.app 8 120 (.t 22) (.t 23)) 24,
 oV 6 25,
 oV 5 26,
 oV 6 27,
 mo (.len false (.t 27)) 28,
 mo (.call (.f 5) [(.t 26),(.t 28)] [18] []) 29,
 mo (.iad 8 (.t 25) (.t 29)) 30,
 mo (.ld (some 8) (.t 30)) 31,
 mo (.bslice 8 [(.t 31)]) 32,
 mo (.app 8 120 (.t 24) (.t 32)) 33,
 oV 33 7]))
 (.seq (.seq (.note (.gc [1,6,7,76,77,89,90,91,92,93,94,97,98,99,100,101,102,114,115,116,117]) (.regI [.op (oV 1 34),
 .op (oV 6 35),
 .op (oV 7 36),
 .nt (.fz 36),
 .op (mo (.bslice 1 [(.t 34),(.t 35),(.t 36)]) 37),
 .op (mo (.len false (.t 37)) 38),
 .op (oC 0 39)]))
 (.block 0
 (.loop mc_p)))
 (sR [mo (.call (.f 10) [] [] []) 120,
 oV 120 4]
 .ret))))))
theorem Wq_38 {tape_ : List Int} {raw_ : List GObject} : Cn Tryz.prog 3 [.sl (tape_.map (V.int .i64)), .sl (raw_.map GObject.v)] [] (F_38 tape_ raw_) (fun z => .bool z) (fun z => []) := fun Q Q' h hQ => by
 refine acallM mc_38 [] [] [.t 4] Tryz.func3 fun M => ?_
 unfold F_38 at h
 unfold mc_38
 replace h := tY h
 refine tB ?_
 repeat' (first
 | (exact tZ)
 | ((first | refine oblg h ?_ | refine roomG h ?_ | refine fork h ?_ ?_ | refine forkS h ?_ ?_) <;> clear h <;> intro hc h)
 | (obtain ⟨y, hy, h⟩ := h; (first | (with_reducible first | have hw := Wq_26.w hy | have hw := Wq_27.w hy | have hw := Wq_2b.w hy | have hw := Wq_37.w hy | have hw := Wq_1o.w hy) | have hw := acall_swe 1000 18 (Wq_1r.w hy) | have hw := acall_swe 1000 18 (Wq_0.w hy)); replace hw := tY hw; (first | refine M.sC hw ?_ | refine M.sD hw ?_); clear hw hy; refine tB ?_)
 | (refine M.wh1 (b := mc_3x) [8,9,37,38,39] [37] (fun x => [(10, .int .i64 x.1), (11, .int .i64 x.2)]) (fun x => []) [] h ?_ ?_ <;> first
 | (clear h; intro x Qn K hK1 h; unfold F_3x at h; unfold mc_3x; replace h := tY h; refine tB ?_)
  |(clear h; (try refine tB ?_); exact tU0; done))
 | (refine M.gv1 (ms := mg_70) 103 [97,98,99,100,101,102] h ?_ ?_ <;> first
 | (clear h; intro K hK2; unfold mg_70; refine tB ?_)
 | (clear h; intro b h; replace h := tY h; refine tB ?_))
 | (refine M.gv1 (ms := mg_6z) 95 [89,90,91,92,93,94] h ?_ ?_ <;> first
 | (clear h; intro K hK3; unfold mg_6z; refine tB ?_)
 | (clear h; intro b h; replace h := tY h; refine tB ?_))
 | (refine M.gv1 (ms := mg_6y) 78 [76,77] h ?_ ?_ <;> first
 | (clear h; intro K hK4; unfold mg_6y; refine tB ?_)
 | (clear h; intro b h; replace h := tY h; refine tB ?_))
 | (refine M.for1 (b := mc_p) 39 [37,38] [37] (fun x => []) (fun x => []) [] h ?_ ?_ ?_ <;> first
 | (clear h; intro k a x Qn K hK5 hkN5 ha5 h hf; skip; clear hf; have hkd := kD hkN5; have hkB5 := kB hkN5; have hkI5 := kI (k := k) (by (try simp only [List.length_cons, List.length_nil] at hkN5); omega); have hkd5 : decide ((k : Int) < 3) = true := decide_eq_true (by simp only [List.length_cons, List.length_nil] at hkN5; omega); have hkr5 : (0 ≤ (k : Int) ∧ (k : Int) < 3) = True := eq_true (by simp only [List.length_cons, List.length_nil] at hkN5; omega); have hle5 := trivial; have hpt5 := trivial; unfold F_p at h; unfold mc_p; replace h := tY h; refine tKA ha5 hkd hkN5 hkB5 hkI5 hkd5 hkr5 hle5 hpt5 ?_)
  |(clear h; intro x K h; replace h := And.left (And.intro h trivial); unfold mc_p; replace h := tY h; refine tB ?_)
  |(clear h; (try refine tB ?_); exact tU0; done))
 | (simp only [ha5])
 | ((first | refine hK1 _ ?_ | refine hK5 _ ?_); (try refine tB ?_); refine ⟨_, h, ?_⟩; exact tU0; done)
 | ((first | refine hK2 _ ?_ | refine hK3 _ ?_ | refine hK4 _ ?_); exact tU; done)
 | (refine bfork (fun hc => ?_) (fun hc => ?_))
 | (refine tE5 (slV GObject.v) (by assumption) (by assumption) ?_; (first | rw [M.lok_compU] | rw [M.lokD_compU] | (simp only [slV, V.cells]; first | rw [M.lok_comp] | rw [M.lokD_comp])); refine tB ?_)
 | (refine tE4 (slV GObject.v) ?_; (first | rw [M.lok_compU] | rw [M.lokD_compU] | (simp only [V.cells]; first | rw [M.lok_comp] | rw [M.lokD_comp])); refine tB ?_)
 | (refine tE ?_; (first | rw [M.lok_compU] | rw [M.lokD_compU]); refine tB ?_)
 | (refine tA ?_)
 | fail)
end Go.Ab
