/- What the functions of this seat that lie on the laws' road compute (part LR), each for every input. By AI agents. -/
import Derived.Test.YtdcjekffkibboaaGreatDoorProg
import Derived.KernelRfl
import Derived.Test.YtdcjekffkibboaaGreatDoorAbFun
import Derived.Test.YtdcjekffkibboaaGreatDoorLM
set_option linter.all false
set_option linter.all false
set_option maxRecDepth 20000
set_option maxHeartbeats 2000000
namespace Go.Ab
open Go.Proofs
noncomputable def F_47 (l_ : List GObject) (x29 : Int) : Option (Fl Int (Sum Unit Int)) :=
 bif decide (x29 < (l_.length : Int)) then chk (inb x29 l_.length) ((F_m (l_.getD (x29).toNat default)).bind fun y37 => bif (!decide (y37 = 0)) then some (.ex (.inr y37)) else chk (in64 (x29 + 1)) (some (.nx (x29 + 1)))) else some (.ex (.inl ()))
noncomputable def F_32 (l_ : List GObject) (x109 : Int) (x130 : Int) : Option (Fl Int (Sum Unit Int)) :=
 bif decide (x130 < x109) then chk (inb x109 l_.length) (chk (inb x130 l_.length) (bif decide ((l_.getD (x109).toNat default).ID = (l_.getD (x130).toNat default).ID) then some (.ex (.inr 7)) else chk (in64 (x130 + 1)) (some (.nx (x130 + 1))))) else some (.ex (.inl ()))
noncomputable def F_3t (l_ : List GObject) (x109 : Int) : Option (Fl Int (Sum Unit Int)) :=
 bif decide (x109 < (l_.length : Int)) then (loop (F_32 l_ x109) 0).bind fun r131 => Sum.elim (fun u132 => chk (in64 (x109 + 1)) (some (.nx (x109 + 1)))) (fun u133 => some (.ex (.inr u133))) r131 else some (.ex (.inl ()))
noncomputable def F_27 (l_ : List GObject) : Option Int :=
 bif decide (400 < (l_.length : Int)) then some 3 else (loop (F_47 l_) 0).bind fun r38 => Sum.elim (fun u39 => (loop (F_3t l_) 0).bind fun r134 => Sum.elim (fun u135 => some 0) (fun u136 => some u136) r134) (fun u40 => some u40) r38
@[irreducible] def mc_47 : MC :=
 (.seq (sR [oV 3 10,
 oV 0 11,
 mo (.len false (.t 11)) 12,
 mo (.bin false .lss (.t 10) (.t 12)) 13]
 (.cond (.t 13)
 .skip
 (.exit 0)))
 (.seq (.block 1
 (sR [oV 0 16,
 oV 3 17,
 mo (.iad 8 (.t 16) (.t 17)) 18,
 mo (.ld (some 8) (.t 18)) 19,
 mo (.call (.f 21) [(.t 19)] [] []) 20,
 oV 20 4]
 (sR [oV 4 21,
 mo (.bin false .neq (.t 21) (cI 0)) 22]
 (.cond (.t 22)
 (sR [oV 4 23,
 oV 23 2]
 .ret)
 .skip))))
 (.note (.gc [0,3]) (.reg [oV 3 14,
 mo (.bin true .add (.t 14) (cI 1)) 15,
 oV 15 3]))))
@[irreducible] def mc_32 : MC :=
 (.seq (sR [oV 6 30,
 oV 5 31,
 mo (.bin false .lss (.t 30) (.t 31)) 32]
 (.cond (.t 32)
 .skip
 (.exit 4)))
 (.seq (.block 5
 (.seq (.regD [oV 0 35,
 oV 5 36,
 mo (.iad 8 (.t 35) (.t 36)) 37,
 oF 0 37 38,
 oL 38 39,
 oV 0 40,
 oV 6 41,
 mo (.iad 8 (.t 40) (.t 41)) 42,
 oF 0 42 43,
 oL 43 44,
 mo (.bin false .eql (.t 39) (.t 44)) 45]
 [[],[],[0,1],[2],[3],[],[],[5,6],[7],[8],[4,9]]
 [[],[],[0,1],[0,1,2],[0,1,2,3],[],[],[5,6],[5,6,7],[5,6,7,8],[0,1,2,3,4,5,6,7,8,9]])
 (.cond (.t 45)
 (sR [oC 7 2]
 .ret)
 .skip)))
 (.note (.gc [0,5,6]) (.reg [oV 6 33,
 mo (.bin true .add (.t 33) (cI 1)) 34,
 oV 34 6]))))
@[irreducible] def mc_3t : MC :=
 (.seq (sR [oV 5 24,
 oV 0 25,
 mo (.len false (.t 25)) 26,
 mo (.bin false .lss (.t 24) (.t 26)) 27]
 (.cond (.t 27)
 .skip
 (.exit 2)))
 (.seq (.block 3
 (sR [oC 0 6]
 (.block 4
 (.loop mc_32))))
 (.reg [oV 5 28,
 mo (.bin true .add (.t 28) (cI 1)) 29,
 oV 29 5])))
def mc_27 : MC :=
 (sR [oC 0 2]
 (.seq (sR [oV 0 7,
 mo (.len false (.t 7)) 8,
 mo (.bin false .gtr (.t 8) (cI 400)) 9]
 (.cond (.t 9)
 (sR [oC 3 2]
 .ret)
 .skip))
 (.seq (sR [oC 0 3]
 (.block 0
 (.loop mc_47)))
 (.seq (sR [oC 0 5]
 (.block 2
 (.loop mc_3t)))
 (sR [oC 0 2]
 .ret)))))
theorem Wq_27 {l_ : List GObject} : Cn Tryz.prog 7 [.sl (l_.map GObject.v)] [] (F_27 l_) (fun z => .int .i64 z) (fun z => []) := fun Q Q' h hQ => by
 refine acallM mc_27 [] [] [.t 2] Tryz.func7 fun M => ?_
 unfold F_27 at h
 unfold mc_27
 replace h := tY h
 refine tB ?_
 repeat' (first
 | (exact tZ)
 | ((first | refine oblg h ?_ | refine roomG h ?_ | refine fork h ?_ ?_ | refine forkS h ?_ ?_) <;> clear h <;> intro hc h)
 | (obtain ⟨y, hy, h⟩ := h; have hw := Wq_m.w hy; replace hw := tY hw; (first | refine M.sC hw ?_ | refine M.sD hw ?_); clear hw hy; refine tB ?_)
 | (refine M.wh1 (b := mc_47) [0] [] (fun x => [(3, .int .i64 x)]) (fun x => []) [] h ?_ ?_ <;> first
 | (clear h; intro x Qn K hK1 h; unfold F_47 at h; unfold mc_47; replace h := tY h; refine tB ?_)
  |(clear h; (try refine tB ?_); exact tU0; done))
 | (refine M.wh1 (b := mc_32) [0,5] [] (fun x => [(6, .int .i64 x)]) (fun x => []) [] h ?_ ?_ <;> first
 | (clear h; intro x Qn K hK2 h; unfold F_32 at h; unfold mc_32; replace h := tY h; refine tB ?_)
  |(clear h; (try refine tB ?_); exact tU0; done))
 | (refine M.wh1 (b := mc_3t) [0] [] (fun x => [(5, .int .i64 x)]) (fun x => []) [] h ?_ ?_ <;> first
 | (clear h; intro x Qn K hK3 h; unfold F_3t at h; unfold mc_3t; replace h := tY h; refine tB ?_)
  |(clear h; (try refine tB ?_); exact tU0; done))
 | ((first | refine hK1 _ ?_ | refine hK2 _ ?_ | refine hK3 _ ?_); (try refine tB ?_); refine ⟨_, h, ?_⟩; exact tU0; done)
 | (refine tE ?_; (first | rw [M.lok_compU] | rw [M.lokD_compU]); refine tB ?_)
 | (refine tA ?_)
 | fail)
noncomputable def F_48 (l_ : List GPacked) (id_ : Int) (x19 : Int × Int) : Option (Fl (Int × Int) (Sum Int Int)) :=
 bif decide (x19.2 < (l_.length : Int)) then jn (α := Fl Int Int) (chk (inb x19.2 l_.length) (bif decide ((l_.getD (x19.2).toNat default).ID = id_) then bif decide (0 ≤ x19.1) then some (.ex (-1)) else some (.nx x19.2) else some (.nx x19.1))) fun o => o.elim (fun j22 => chk (in64 (x19.2 + 1)) (some (.nx (j22, (x19.2 + 1))))) (fun r23 => some (.ex (.inr r23))) else some (.ex (.inl x19.1))
noncomputable def F_b (l_ : List GPacked) (id_ : Int) : Option Int :=
 (loop (F_48 l_ id_) ((-1),0)).bind fun r24 => Sum.elim (fun u25 => some u25) (fun u26 => some u26) r24
@[irreducible] def mc_6o : MC :=
 (.reg [oV 6 11,
 mo (.bin true .add (.t 11) (cI 1)) 12,
 oV 12 6])
@[irreducible] def mc_48 : MC :=
 (.seq (sR [oV 6 7,
 oV 0 8,
 mo (.len false (.t 8)) 9,
 mo (.bin false .lss (.t 7) (.t 9)) 10]
 (.cond (.t 10)
 .skip
 (.exit 0)))
 (.cut (.block 1
 (sR [oV 0 13,
 oV 6 14,
 mo (.iad 5 (.t 13) (.t 14)) 15,
 oF 0 15 16,
 oL 16 17,
 oV 1 18,
 mo (.bin false .eql (.t 17) (.t 18)) 19]
 (.cond (.t 19)
 (.seq (sR [oV 5 20,
 mo (.bin false .geq (.t 20) (cI 0)) 21]
 (.cond (.t 21)
 (sR [oC (-1) 4]
 .ret)
 .skip))
 (.reg [oV 6 22,
 oV 22 5]))
 .skip)))
 mc_6o))
def mc_b : MC :=
 (sR [oC 0 4]
 (sR [oC (-1) 5]
 (.seq (sR [oC 0 6]
 (.block 0
 (.loop mc_48)))
 (sR [oV 5 23,
 oV 23 4]
 .ret))))
theorem Wq_b {l_ : List GPacked} {id_ : Int} : Cn Tryz.prog 40 [.sl (l_.map GPacked.v), .int .i64 id_] [] (F_b l_ id_) (fun z => .int .i64 z) (fun z => []) := fun Q Q' h hQ => by
 refine acallM mc_b [] [] [.t 4] Tryz.func40 fun M => ?_
 unfold F_b at h
 unfold mc_b
 replace h := tY h
 refine tB ?_
 repeat' (first
 | (exact tZ)
 | ((first | refine oblg h ?_ | refine roomG h ?_ | refine fork h ?_ ?_ | refine forkS h ?_ ?_) <;> clear h <;> intro hc h)
 | (refine M.jnE (b := mc_6o) [0,1,6] [] (fun y => [(5, .int .i64 y)]) (fun y => []) [] h ?_ ?_ <;> first
 | (clear h; intro Qn K hK1 h; replace h := tY h; refine tB ?_)
  |(clear h; intro y h; unfold mc_6o; replace h := tY h; refine tB ?_))
 | (refine M.wh1 (b := mc_48) [0,1] [] (fun x => [(5, .int .i64 x.1), (6, .int .i64 x.2)]) (fun x => []) [] h ?_ ?_ <;> first
 | (clear h; intro x Qn K hK2 h; unfold F_48 at h; unfold mc_48; replace h := tY h; refine tB ?_)
  |(clear h; (try refine tB ?_); exact tU0; done))
 | ((first | refine hK1 _ ?_ | refine hK2 _ ?_); (try refine tB ?_); refine ⟨_, h, ?_⟩; exact tU0; done)
 | (refine tE ?_; (first | rw [M.lok_compU] | rw [M.lokD_compU]); refine tB ?_)
 | (refine tA ?_)
 | fail)
noncomputable def F_16 (l_ : List GPacked) (x29 : Int × Int) : Option (Fl (Int × Int) (Sum Unit Int)) :=
 bif decide (x29.2 ≤ (l_.length : Int)) then (F_b l_ x29.1).bind fun y37 => bif decide (y37 < 0) then some (.ex (.inr (-1))) else chk (inb y37 l_.length) (bif (!((l_.getD (y37).toNat default).Delta)) then some (.ex (.inr x29.2)) else chk (inb y37 l_.length) (chk (in64 (x29.2 + 1)) (some (.nx ((l_.getD (y37).toNat default).Base, (x29.2 + 1)))))) else some (.ex (.inl ()))
noncomputable def F_11 (l_ : List GPacked) (id_ : Int) : Option Int :=
 (loop (F_16 l_) (id_, 0)).bind fun r38 => Sum.elim (fun u39 => some (-1)) (fun u40 => some u40) r38
@[irreducible] def mc_16 : MC :=
 (.seq (sR [oV 5 7,
 oV 0 8,
 mo (.len false (.t 8)) 9,
 mo (.bin false .leq (.t 7) (.t 9)) 10]
 (.cond (.t 10)
 .skip
 (.exit 0)))
 (.seq (.block 1
 (sR [oV 0 13,
 oV 1 14,
 mo (.call (.f 40) [(.t 13),(.t 14)] [] []) 15,
 oV 15 6]
 (.seq (sR [oV 6 16,
 mo (.bin false .lss (.t 16) (cI 0)) 17]
 (.cond (.t 17)
 (sR [oC (-1) 4]
 .ret)
 .skip))
 (.seq (.seq (.note (.gc [0,5,6]) (.reg [oV 0 18,
 oV 6 19,
 mo (.iad 5 (.t 18) (.t 19)) 20,
 oF 1 20 21,
 oL 21 22,
 mo (.not (.t 22)) 23]))
 (.cond (.t 23)
 (sR [oV 5 24,
 oV 24 4]
 .ret)
 .skip))
 (.reg [oV 0 25,
 oV 6 26,
 mo (.iad 5 (.t 25) (.t 26)) 27,
 oF 2 27 28,
 oL 28 29,
 oV 29 1])))))
 (.note (.gc [0,1,5]) (.reg [oV 5 11,
 mo (.bin true .add (.t 11) (cI 1)) 12,
 oV 12 5]))))
def mc_11 : MC :=
 (sR [oC 0 4]
 (.seq (sR [oC 0 5]
 (.block 0
 (.loop mc_16)))
 (sR [oC (-1) 4]
 .ret)))
theorem Wq_11 {l_ : List GPacked} {id_ : Int} : Cn Tryz.prog 41 [.sl (l_.map GPacked.v), .int .i64 id_] [] (F_11 l_ id_) (fun z => .int .i64 z) (fun z => []) := fun Q Q' h hQ => by
 refine acallM mc_11 [] [] [.t 4] Tryz.func41 fun M => ?_
 unfold F_11 at h
 unfold mc_11
 replace h := tY h
 refine tB ?_
 repeat' (first
 | (exact tZ)
 | ((first | refine oblg h ?_ | refine roomG h ?_ | refine fork h ?_ ?_ | refine forkS h ?_ ?_) <;> clear h <;> intro hc h)
 | (obtain ⟨y, hy, h⟩ := h; have hw := Wq_b.w hy; replace hw := tY hw; (first | refine M.sC hw ?_ | refine M.sD hw ?_); clear hw hy; refine tB ?_)
 | (refine M.wh1 (b := mc_16) [0] [] (fun x => [(1, .int .i64 x.1), (5, .int .i64 x.2)]) (fun x => []) [] h ?_ ?_ <;> first
 | (clear h; intro x Qn K hK1 h; unfold F_16 at h; unfold mc_16; replace h := tY h; refine tB ?_)
  |(clear h; (try refine tB ?_); exact tU0; done))
 | (refine hK1 _ ?_; (try refine tB ?_); refine ⟨_, h, ?_⟩; exact tU0; done)
 | (refine tE ?_; (first | rw [M.lok_compU] | rw [M.lokD_compU]); refine tB ?_)
 | (refine tA ?_)
 | fail)
noncomputable def F_33 (l_ : List GPacked) (x29 : Int) : Option (Fl Int (Sum Unit Int)) :=
 bif decide (x29 < (l_.length : Int)) then jn (α := Fl ((List GPacked) × Int × Bool × Bool × Bool × Bool × (List GPacked) × Int × Bool × Bool × Bool) Int) (chk (inb x29 l_.length) ((F_8 ((l_.getD (x29).toNat default).ID)).bind fun y38 => bif (!y38) then some (.ex 1) else chk (inb x29 l_.length) (bif (!((l_.getD (x29).toNat default).Delta)) then chk (inb x29 l_.length) (bif (!decide ((l_.getD (x29).toNat default).Base = 0)) then some (.ex 1) else chk (inb x29 l_.length) (bif decide (0 < (((l_.getD (x29).toNat default).Ops).length : Int)) then some (.ex 1) else chk (inb x29 l_.length) (bif (l_.getD (x29).toNat default).Delta then chk (inb x29 l_.length) (bif decide (0 < (((l_.getD (x29).toNat default).Data).length : Int)) then some (.ex 1) else some (.nx (l_, x29, (l_.getD (x29).toNat default).Delta, (!((l_.getD (x29).toNat default).Delta)), true, decide (0 < (((l_.getD (x29).toNat default).Ops).length : Int)), l_, x29, (l_.getD (x29).toNat default).Delta, true, decide (0 < (((l_.getD (x29).toNat default).Data).length : Int))))) else some (.nx (l_, x29, (l_.getD (x29).toNat default).Delta, (!((l_.getD (x29).toNat default).Delta)), true, decide (0 < (((l_.getD (x29).toNat default).Ops).length : Int)), l_, x29, (l_.getD (x29).toNat default).Delta, false, false))))) else chk (inb x29 l_.length) (bif (l_.getD (x29).toNat default).Delta then chk (inb x29 l_.length) (bif decide (0 < (((l_.getD (x29).toNat default).Data).length : Int)) then some (.ex 1) else some (.nx (l_, x29, (l_.getD (x29).toNat default).Delta, (!((l_.getD (x29).toNat default).Delta)), false, false, l_, x29, (l_.getD (x29).toNat default).Delta, true, decide (0 < (((l_.getD (x29).toNat default).Data).length : Int))))) else some (.nx (l_, x29, (l_.getD (x29).toNat default).Delta, (!((l_.getD (x29).toNat default).Delta)), false, false, l_, x29, (l_.getD (x29).toNat default).Delta, false, false)))))) fun o => o.elim (fun j36 => chk (in64 (x29 + 1)) (some (.nx (x29 + 1)))) (fun r39 => some (.ex (.inr r39))) else some (.ex (.inl ()))
noncomputable def F_34 (l_ : List GPacked) (x71 : Int) : Option (Fl Int (Sum Unit Int)) :=
 bif decide (x71 < (l_.length : Int)) then chk (inb x71 l_.length) ((F_b l_ ((l_.getD (x71).toNat default).ID)).bind fun y79 => bif decide (y79 < 0) then some (.ex (.inr 7)) else chk (in64 (x71 + 1)) (some (.nx (x71 + 1)))) else some (.ex (.inl ()))
noncomputable def F_35 (l_ : List GPacked) (x131 : Int) : Option (Fl Int (Sum Unit Int)) :=
 bif decide (x131 < (l_.length : Int)) then chk (inb x131 l_.length) (jn (α := Bool) (bif (l_.getD (x131).toNat default).Delta then chk (inb x131 l_.length) ((F_b l_ ((l_.getD (x131).toNat default).Base)).bind fun y147 => some (decide (y147 < 0))) else some false) fun j148 => bif j148 then some (.ex (.inr 6)) else chk (in64 (x131 + 1)) (some (.nx (x131 + 1)))) else some (.ex (.inl ()))
noncomputable def F_3u (l_ : List GPacked) (x180 : Int × Int) : Option (Fl (Int × Int) (Sum Int Int)) :=
 bif decide (x180.2 < (l_.length : Int)) then chk (inb x180.2 l_.length) ((F_11 l_ ((l_.getD (x180.2).toNat default).ID)).bind fun y188 => bif decide (y188 < 0) then some (.ex (.inr 8)) else chk (in64 (x180.2 + 1)) (some (.nx ((max x180.1 y188), (x180.2 + 1))))) else some (.ex (.inl x180.1))
noncomputable def F_28 (l_ : List GPacked) : Option Int :=
 bif decide (400 < (l_.length : Int)) then some 3 else (loop (F_33 l_) 0).bind fun r40 => Sum.elim (fun u41 => (loop (F_34 l_) 0).bind fun r80 => Sum.elim (fun u81 => (loop (F_35 l_) 0).bind fun r149 => Sum.elim (fun u150 => (loop (F_3u l_) (0,0)).bind fun r189 => Sum.elim (fun u190 => bif decide (20 < u190) then some 9 else some 0) (fun u191 => some u191) r189) (fun u151 => some u151) r149) (fun u82 => some u82) r80) (fun u42 => some u42) r40
@[irreducible] def mc_6p : MC :=
 (.reg [oV 3 16,
 mo (.bin true .add (.t 16) (cI 1)) 17,
 oV 17 3])
@[irreducible] def mc_33 : MC :=
 (.seq (sR [oV 3 12,
 oV 0 13,
 mo (.len false (.t 13)) 14,
 mo (.bin false .lss (.t 12) (.t 14)) 15]
 (.cond (.t 15)
 .skip
 (.exit 0)))
 (.cut (.block 1
 (sR [oV 0 18,
 oV 3 19,
 mo (.iad 5 (.t 18) (.t 19)) 20,
 oF 0 20 21,
 oL 21 22,
 mo (.call (.f 36) [(.t 22)] [] []) 23,
 mo (.not (.t 23)) 24,
 oV 24 25,
 gF 25 26 (.mv (.t 0)),
 gF 25 27 (.mv (.t 3)),
 gF 25 28 (.iad 5 (.t 26) (.t 27)),
 gF 25 29 (.fad 1 (.t 28)),
 gF 25 30 (.ld none (.t 29)),
 gF 25 31 (.not (.t 30)),
 gF 25 32 (.mv (.t 31)),
 gT 32 33 (.mv (.t 0)),
 gT 32 34 (.mv (.t 3)),
 gT 32 35 (.iad 5 (.t 33) (.t 34)),
 gT 32 36 (.fad 2 (.t 35)),
 gT 32 37 (.ld none (.t 36)),
 gT 32 38 (.bin false .neq (.t 37) (cI 0)),
 gT 32 39 (.mv (.t 38)),
 gF 39 40 (.mv (.t 0)),
 gF 39 41 (.mv (.t 3)),
 gF 39 42 (.iad 5 (.t 40) (.t 41)),
 gF 39 43 (.fad 3 (.t 42)),
 gF 39 44 (.ld none (.t 43)),
 gF 39 45 (.len false (.t 44)),
 gF 39 46 (.bin false .gtr (.t 45) (cI 0)),
 gT 32 47 (.pick (.t 39) (.c (.bool true)) (.t 46)),
 gF 25 48 (.pick (.t 32) (.t 47) (.c (.bool false))),
 mo (.pick (.t 25) (.c (.bool true)) (.t 48)) 49,
 oV 49 50,
 gF 50 51 (.mv (.t 0)),
 gF 50 52 (.mv (.t 3)),
 gF 50 53 (.iad 5 (.t 51) (.t 52)),
 gF 50 54 (.fad 1 (.t 53)),
 gF 50 55 (.ld none (.t 54)),
 gF 50 56 (.mv (.t 55)),
 gT 56 57 (.mv (.t 0)),
 gT 56 58 (.mv (.t 3)),
 gT 56 59 (.iad 5 (.t 57) (.t 58)),
 gT 56 60 (.fad 4 (.t 59)),
 gT 56 61 (.ld none (.t 60)),
 gT 56 62 (.len false (.t 61)),
 gT 56 63 (.bin false .gtr (.t 62) (cI 0)),
 gF 50 64 (.pick (.t 56) (.t 63) (.c (.bool false))),
 mo (.pick (.t 50) (.c (.bool true)) (.t 64)) 65]
 (.cond (.t 65)
 (sR [oC 1 2]
 .ret)
 .skip)))
 mc_6p))
@[irreducible] def mc_34 : MC :=
 (.seq (sR [oV 4 66,
 oV 0 67,
 mo (.len false (.t 67)) 68,
 mo (.bin false .lss (.t 66) (.t 68)) 69]
 (.cond (.t 69)
 .skip
 (.exit 2)))
 (.seq (.block 3
 (sR [oV 0 72,
 oV 0 73,
 oV 4 74,
 mo (.iad 5 (.t 73) (.t 74)) 75,
 oF 0 75 76,
 oL 76 77,
 mo (.call (.f 40) [(.t 72),(.t 77)] [] []) 78,
 mo (.bin false .lss (.t 78) (cI 0)) 79]
 (.cond (.t 79)
 (sR [oC 7 2]
 .ret)
 .skip)))
 (.note (.gc [0,4,92,93,94,95,96,97,98,99]) (.reg [oV 4 70,
 mo (.bin true .add (.t 70) (cI 1)) 71,
 oV 71 4]))))
@[irreducible] def mg_6q : List MOp := [gT 91 92 (.mv (.t 0)),
 gT 91 93 (.mv (.t 0)),
 gT 91 94 (.mv (.t 5)),
 gT 91 95 (.iad 5 (.t 93) (.t 94)),
 gT 91 96 (.fad 2 (.t 95)),
 gT 91 97 (.ld none (.t 96)),
 gT 91 98 (.call (.f 40) [(.t 92),(.t 97)] [] []),
 gT 91 99 (.bin false .lss (.t 98) (cI 0)),
 mo (.pick (.t 91) (.t 99) (.c (.bool false))) 100]
@[irreducible] def mc_35 : MC :=
 (.seq (sR [oV 5 80,
 oV 0 81,
 mo (.len false (.t 81)) 82,
 mo (.bin false .lss (.t 80) (.t 82)) 83]
 (.cond (.t 83)
 .skip
 (.exit 4)))
 (.seq (.block 5
 (.seq (.regI [.op (oV 0 86),
 .op (oV 5 87),
 .op (mo (.iad 5 (.t 86) (.t 87)) 88),
 .op (oF 1 88 89),
 .op (oL 89 90),
 .op (oV 90 91),
 .grp mg_6q])
 (.cond (.t 100)
 (sR [oC 6 2]
 .ret)
 .skip)))
 (.reg [oV 5 84,
 mo (.bin true .add (.t 84) (cI 1)) 85,
 oV 85 5])))
@[irreducible] def mc_3u : MC :=
 (.seq (sR [oV 7 101,
 oV 0 102,
 mo (.len false (.t 102)) 103,
 mo (.bin false .lss (.t 101) (.t 103)) 104]
 (.cond (.t 104)
 .skip
 (.exit 6)))
 (.seq (.block 7
 (sR [oV 0 107,
 oV 0 108,
 oV 7 109,
 mo (.iad 5 (.t 108) (.t 109)) 110,
 oF 0 110 111,
 oL 111 112,
 mo (.call (.f 41) [(.t 107),(.t 112)] [] []) 113,
 oV 113 8]
 (.seq (sR [oV 8 114,
 mo (.bin false .lss (.t 114) (cI 0)) 115]
 (.cond (.t 115)
 (sR [oC 8 2]
 .ret)
 .skip))
 (.note (.gc [0,6,7,8]) (.reg [oV 6 116,
 oV 8 117,
 mo (.mm true (.t 116) (.t 117)) 118,
 oV 118 6])))))
 (.reg [oV 7 105,
 mo (.bin true .add (.t 105) (cI 1)) 106,
 oV 106 7])))
def mc_28 : MC :=
 (sR [oC 0 2]
 (.seq (sR [oV 0 9,
 mo (.len false (.t 9)) 10,
 mo (.bin false .gtr (.t 10) (cI 400)) 11]
 (.cond (.t 11)
 (sR [oC 3 2]
 .ret)
 .skip))
 (.seq (sR [oC 0 3]
 (.block 0
 (.loop mc_33)))
 (.seq (sR [oC 0 4]
 (.block 2
 (.loop mc_34)))
 (.seq (sR [oC 0 5]
 (.block 4
 (.loop mc_35)))
 (sR [oC 0 6]
 (.seq (sR [oC 0 7]
 (.block 6
 (.loop mc_3u)))
 (.seq (sR [oV 6 119,
 mo (.bin false .gtr (.t 119) (cI 20)) 120]
 (.cond (.t 120)
 (sR [oC 9 2]
 .ret)
 .skip))
 (sR [oC 0 2]
 .ret)))))))))
theorem Wq_28 {l_ : List GPacked} : Cn Tryz.prog 22 [.sl (l_.map GPacked.v)] [] (F_28 l_) (fun z => .int .i64 z) (fun z => []) := fun Q Q' h hQ => by
 refine acallM mc_28 [] [] [.t 2] Tryz.func22 fun M => ?_
 unfold F_28 at h
 unfold mc_28
 replace h := tY h
 refine tB ?_
 repeat' (first
 | (exact tZ)
 | ((first | refine oblg h ?_ | refine roomG h ?_ | refine fork h ?_ ?_ | refine forkS h ?_ ?_) <;> clear h <;> intro hc h)
 | (obtain ⟨y, hy, h⟩ := h; (first | with_reducible first | have hw := Wq_8.w hy | have hw := Wq_b.w hy | have hw := Wq_11.w hy); replace hw := tY hw; (first | refine M.sC hw ?_ | refine M.sD hw ?_); clear hw hy; refine tB ?_)
 | (refine M.jnE (b := mc_6p) [0,3] [] (fun y => [(26, .sl (y.1.map GPacked.v)), (27, .int .i64 y.2.1), (30, .bool y.2.2.1), (31, .bool y.2.2.2.1), (32, .bool y.2.2.2.2.1), (48, .bool y.2.2.2.2.2.1), (51, .sl (y.2.2.2.2.2.2.1.map GPacked.v)), (52, .int .i64 y.2.2.2.2.2.2.2.1), (55, .bool y.2.2.2.2.2.2.2.2.1), (56, .bool y.2.2.2.2.2.2.2.2.2.1), (64, .bool y.2.2.2.2.2.2.2.2.2.2)]) (fun y => []) [] h ?_ ?_ <;> first
 | (clear h; intro Qn K hK1 h; replace h := tY h; refine tB ?_)
  |(clear h; intro y h; unfold mc_6p; replace h := tY h; refine tB ?_))
 | (refine M.wh1 (b := mc_33) [0] [] (fun x => [(3, .int .i64 x)]) (fun x => []) [] h ?_ ?_ <;> first
 | (clear h; intro x Qn K hK2 h; unfold F_33 at h; unfold mc_33; replace h := tY h; refine tB ?_)
  |(clear h; (try refine tB ?_); exact tU0; done))
 | (refine M.wh1 (b := mc_34) [0] [] (fun x => [(4, .int .i64 x)]) (fun x => []) [] h ?_ ?_ <;> first
 | (clear h; intro x Qn K hK3 h; unfold F_34 at h; unfold mc_34; replace h := tY h; refine tB ?_)
  |(clear h; (try refine tB ?_); exact tU0; done))
 | (refine M.gj1 (ms := mg_6q) [0,5] [] (fun y => [(100, .bool y)]) (fun y => []) h ?_ ?_ <;> first
 | (clear h; intro Qn K hK4 h; unfold mg_6q; replace h := tY h; refine tB ?_)
  |(clear h; intro y h; replace h := tY h; refine tB ?_))
 | (refine M.wh1 (b := mc_35) [0] [] (fun x => [(5, .int .i64 x)]) (fun x => []) [] h ?_ ?_ <;> first
 | (clear h; intro x Qn K hK5 h; unfold F_35 at h; unfold mc_35; replace h := tY h; refine tB ?_)
  |(clear h; (try refine tB ?_); exact tU0; done))
 | (refine M.wh1 (b := mc_3u) [0] [] (fun x => [(6, .int .i64 x.1), (7, .int .i64 x.2)]) (fun x => []) [] h ?_ ?_ <;> first
 | (clear h; intro x Qn K hK6 h; unfold F_3u at h; unfold mc_3u; replace h := tY h; refine tB ?_)
  |(clear h; (try refine tB ?_); exact tU0; done))
 | ((first | refine hK1 _ ?_ | refine hK2 _ ?_ | refine hK3 _ ?_ | refine hK4 _ ?_ | refine hK5 _ ?_ | refine hK6 _ ?_); (try refine tB ?_); refine ⟨_, h, ?_⟩; exact tU0; done)
 | (refine tE ?_; (first | rw [M.lok_compU] | rw [M.lokD_compU]); refine tB ?_)
 | (refine tA ?_)
 | fail)
def F_17 (o_ : GOp) : Option Int :=
 bif decide (1 ≤ o_.Size) then some o_.Size else some (o_.Data.length : Int)
def mc_17 : MC :=
 (sR [mo (.box (.t 0)) 1,
 oC 0 2]
 (.seq (sR [oF 1 1 3,
 oL 3 4,
 mo (.bin false .geq (.t 4) (cI 1)) 5]
 (.cond (.t 5)
 (sR [oF 1 1 6,
 oL 6 7,
 oV 7 2]
 .ret)
 .skip))
 (sR [oF 2 1 8,
 oL 8 9,
 mo (.len false (.t 9)) 10,
 oV 10 2]
 .ret)))
theorem Wq_17 {o_ : GOp} : Cn Tryz.prog 84 [GOp.v o_] [] (F_17 o_) (fun z => .int .i64 z) (fun z => []) := fun Q Q' h hQ => by
 refine acallM mc_17 [] [] [.t 2] Tryz.func84 fun M => ?_
 unfold F_17 at h
 unfold mc_17
 replace h := tY h
 refine tB ?_
 repeat' (first
 | (exact tZ)
 | ((first | refine oblg h ?_ | refine roomG h ?_ | refine fork h ?_ ?_ | refine forkS h ?_ ?_) <;> clear h <;> intro hc h)
 | (refine tE ?_; (first | rw [M.lok_compU] | rw [M.lokD_compU]); refine tB ?_)
 | (refine tA ?_)
 | fail)
def F_29 (o_ : GOp) (n_ : Int) : Option Bool :=
 bif decide (1 ≤ o_.Size) then grp ((decide (0 ≤ o_.From) && decide (o_.From ≤ n_))) fun b10 => jn (α := Bool) (bif b10 then chk (in64 (n_ - o_.From)) (some (decide (o_.Size ≤ (n_ - o_.From)))) else some false) fun j11 => grp ((j11 && decide ((o_.Data.length : Int) = 0))) fun b12 => some b12 else grp ((decide (o_.Size = 0) && decide (o_.From = 0))) fun b15 => grp ((b15 && decide (0 < (o_.Data.length : Int)))) fun b16 => some b16
@[irreducible] def mg_6r : List MOp := [gT 11 12 (.fad 0 (.t 2)),
 gT 11 13 (.ld none (.t 12)),
 gT 11 14 (.mv (.t 1)),
 gT 11 15 (.bin false .leq (.t 13) (.t 14)),
 mo (.pick (.t 11) (.t 15) (.c (.bool false))) 16]
@[irreducible] def mg_6s : List MOp := [gT 17 18 (.fad 1 (.t 2)),
 gT 17 19 (.ld none (.t 18)),
 gT 17 20 (.mv (.t 1)),
 gT 17 21 (.fad 0 (.t 2)),
 gT 17 22 (.ld none (.t 21)),
 gT 17 23 (.bin true .sub (.t 20) (.t 22)),
 gT 17 24 (.bin false .leq (.t 19) (.t 23)),
 mo (.pick (.t 17) (.t 24) (.c (.bool false))) 25]
@[irreducible] def mg_6t : List MOp := [gT 26 27 (.fad 2 (.t 2)),
 gT 26 28 (.ld none (.t 27)),
 gT 26 29 (.len false (.t 28)),
 gT 26 30 (.bin false .eql (.t 29) (cI 0)),
 mo (.pick (.t 26) (.t 30) (.c (.bool false))) 31]
@[irreducible] def mg_6u : List MOp := [gT 35 36 (.fad 0 (.t 2)),
 gT 35 37 (.ld none (.t 36)),
 gT 35 38 (.bin false .eql (.t 37) (cI 0)),
 mo (.pick (.t 35) (.t 38) (.c (.bool false))) 39]
@[irreducible] def mg_6v : List MOp := [gT 40 41 (.fad 2 (.t 2)),
 gT 40 42 (.ld none (.t 41)),
 gT 40 43 (.len false (.t 42)),
 gT 40 44 (.bin false .gtr (.t 43) (cI 0)),
 mo (.pick (.t 40) (.t 44) (.c (.bool false))) 45]
def mc_29 : MC :=
 (sR [mo (.box (.t 0)) 2,
 mo (.mv (.c (.bool false))) 4]
 (.seq (sR [oF 1 2 5,
 oL 5 6,
 mo (.bin false .geq (.t 6) (cI 1)) 7]
 (.cond (.t 7)
 (.seq (.regI [.op (oF 0 2 8),
 .op (oL 8 9),
 .op (mo (.bin false .geq (.t 9) (cI 0)) 10),
 .op (oV 10 11),
 .grp mg_6r,
 .op (oV 16 17),
 .grp mg_6s,
 .op (oV 25 26),
 .grp mg_6t,
 .op (oV 31 4)])
 .ret)
 .skip))
 (.seq (.regI [.op (oF 1 2 32),
 .op (oL 32 33),
 .op (mo (.bin false .eql (.t 33) (cI 0)) 34),
 .op (oV 34 35),
 .grp mg_6u,
 .op (oV 39 40),
 .grp mg_6v,
 .op (oV 45 4)])
 .ret)))
theorem Wq_29 {o_ : GOp} {n_ : Int} : Cn Tryz.prog 85 [GOp.v o_, .int .i64 n_] [] (F_29 o_ n_) (fun z => .bool z) (fun z => []) := fun Q Q' h hQ => by
 refine acallM mc_29 [] [] [.t 4] Tryz.func85 fun M => ?_
 unfold F_29 at h
 unfold mc_29
 replace h := tY h
 refine tB ?_
 repeat' (first
 | (exact tZ)
 | ((first | refine oblg h ?_ | refine roomG h ?_ | refine fork h ?_ ?_ | refine forkS h ?_ ?_) <;> clear h <;> intro hc h)
 | (refine M.gv1 (ms := mg_6t) 31 [27,28,29,30] h ?_ ?_ <;> first
 | (clear h; intro K hK1; unfold mg_6t; refine tB ?_)
 | (clear h; intro b h; replace h := tY h; refine tB ?_))
 | (refine M.gj1 (ms := mg_6s) [2,4] [2] (fun y => [(25, .bool y)]) (fun y => []) h ?_ ?_ <;> first
 | (clear h; intro Qn K hK2 h; unfold mg_6s; replace h := tY h; refine tB ?_)
  |(clear h; intro y h; replace h := tY h; refine tB ?_))
 | (refine M.gv1 (ms := mg_6r) 16 [12,13,14,15] h ?_ ?_ <;> first
 | (clear h; intro K hK3; unfold mg_6r; refine tB ?_)
 | (clear h; intro b h; replace h := tY h; refine tB ?_))
 | (refine M.gv1 (ms := mg_6v) 45 [41,42,43,44] h ?_ ?_ <;> first
 | (clear h; intro K hK4; unfold mg_6v; refine tB ?_)
 | (clear h; intro b h; replace h := tY h; refine tB ?_))
 | (refine M.gv1 (ms := mg_6u) 39 [36,37,38] h ?_ ?_ <;> first
 | (clear h; intro K hK5; unfold mg_6u; refine tB ?_)
 | (clear h; intro b h; replace h := tY h; refine tB ?_))
 | ((first | refine hK1 _ ?_ | refine hK3 _ ?_ | refine hK4 _ ?_ | refine hK5 _ ?_); exact tU; done)
 | (refine hK2 _ ?_; (try refine tB ?_); refine ⟨_, h, ?_⟩; exact tU0; done)
 | (refine bfork (fun hc => ?_) (fun hc => ?_))
 | (refine tE ?_; (first | rw [M.lok_compU] | rw [M.lokD_compU]); refine tB ?_)
 | (refine tA ?_)
 | fail)
noncomputable def F_49 (ops_ : List GOp) (x63 : Int × Int) : Option (Fl (Int × Int) (Sum Unit Int)) :=
 bif decide (x63.2 < (ops_.length : Int)) then chk (inb x63.2 ops_.length) ((F_17 (ops_.getD (x63.2).toNat default)).bind fun y82 => bif decide (x63.1 < y82) then some (.ex (.inr 3)) else chk (inb x63.2 ops_.length) ((F_17 (ops_.getD (x63.2).toNat default)).bind fun y83 => chk (in64 (x63.1 - y83)) (chk (in64 (x63.2 + 1)) (some (.nx ((x63.1 - y83), (x63.2 + 1))))))) else some (.ex (.inl ()))
noncomputable def F_3v (base_ : List UInt8) (ops_ : List GOp) (x115 : Int) : Option (Fl Int (Sum Unit Int)) :=
 bif decide (x115 < (ops_.length : Int)) then chk (inb x115 ops_.length) ((F_29 (ops_.getD (x115).toNat default) (base_.length : Int)).bind fun y123 => bif (!y123) then some (.ex (.inr 2)) else chk (in64 (x115 + 1)) (some (.nx (x115 + 1)))) else some (.ex (.inl ()))
noncomputable def F_2a (base_ : List UInt8) (ops_ : List GOp) : Option Int :=
 grp ((decide (200 < (ops_.length : Int)) || decide (65536 < (base_.length : Int)))) fun b4 => bif b4 then some 3 else (loop (F_49 ops_) (65536,0)).bind fun r84 => Sum.elim (fun u85 => (loop (F_3v base_ ops_) 0).bind fun r124 => Sum.elim (fun u125 => some 0) (fun u126 => some u126) r124) (fun u86 => some u86) r84
@[irreducible] def mg_6w : List MOp := [gF 11 12 (.mv (.t 0)),
 gF 11 13 (.len false (.t 12)),
 gF 11 14 (.bin false .gtr (.t 13) (cI 65536)),
 mo (.pick (.t 11) (.c (.bool true)) (.t 14)) 15]
@[irreducible] def mc_49 : MC :=
 (.seq (sR [oV 6 16,
 oV 1 17,
 mo (.len false (.t 17)) 18,
 mo (.bin false .lss (.t 16) (.t 18)) 19]
 (.cond (.t 19)
 .skip
 (.exit 0)))
 (.seq (.block 1
 (.seq (sR [oV 1 22,
 oV 6 23,
 mo (.iad 3 (.t 22) (.t 23)) 24,
 mo (.ld (some 3) (.t 24)) 25,
 mo (.call (.f 84) [(.t 25)] [] []) 26,
 oV 5 27,
 mo (.bin false .gtr (.t 26) (.t 27)) 28]
 (.cond (.t 28)
 (sR [oC 3 4]
 .ret)
 .skip))
 (.note (.gc [0,1,5,6]) (.reg [oV 5 29,
 oV 1 30,
 oV 6 31,
 mo (.iad 3 (.t 30) (.t 31)) 32,
 mo (.ld (some 3) (.t 32)) 33,
 mo (.call (.f 84) [(.t 33)] [] []) 34,
 mo (.bin true .sub (.t 29) (.t 34)) 35,
 oV 35 5]))))
 (.reg [oV 6 20,
 mo (.bin true .add (.t 20) (cI 1)) 21,
 oV 21 6])))
@[irreducible] def mc_3v : MC :=
 (.seq (sR [oV 7 36,
 oV 1 37,
 mo (.len false (.t 37)) 38,
 mo (.bin false .lss (.t 36) (.t 38)) 39]
 (.cond (.t 39)
 .skip
 (.exit 2)))
 (.seq (.block 3
 (sR [oV 1 42,
 oV 7 43,
 mo (.iad 3 (.t 42) (.t 43)) 44,
 mo (.ld (some 3) (.t 44)) 45,
 oV 0 46,
 mo (.len false (.t 46)) 47,
 mo (.call (.f 85) [(.t 45),(.t 47)] [] []) 48,
 mo (.not (.t 48)) 49]
 (.cond (.t 49)
 (sR [oC 2 4]
 .ret)
 .skip)))
 (.note (.gc [0,1,7]) (.reg [oV 7 40,
 mo (.bin true .add (.t 40) (cI 1)) 41,
 oV 41 7]))))
def mc_2a : MC :=
 (sR [oC 0 4]
 (.seq (.seq (.regI [.op (oV 1 8),
 .op (mo (.len false (.t 8)) 9),
 .op (mo (.bin false .gtr (.t 9) (cI 200)) 10),
 .op (oV 10 11),
 .grp mg_6w])
 (.cond (.t 15)
 (sR [oC 3 4]
 .ret)
 .skip))
 (sR [oC 65536 5]
 (.seq (sR [oC 0 6]
 (.block 0
 (.loop mc_49)))
 (.seq (sR [oC 0 7]
 (.block 2
 (.loop mc_3v)))
 (sR [oC 0 4]
 .ret))))))
theorem Wq_2a {base_ : List UInt8} {ops_ : List GOp} : Cn Tryz.prog 63 [.sl (base_.map byteV), .sl (ops_.map GOp.v)] [] (F_2a base_ ops_) (fun z => .int .i64 z) (fun z => []) := fun Q Q' h hQ => by
 refine acallM mc_2a [] [] [.t 4] Tryz.func63 fun M => ?_
 unfold F_2a at h
 unfold mc_2a
 replace h := tY h
 refine tB ?_
 repeat' (first
 | (exact tZ)
 | ((first | refine oblg h ?_ | refine roomG h ?_ | refine fork h ?_ ?_ | refine forkS h ?_ ?_) <;> clear h <;> intro hc h)
 | (obtain ⟨y, hy, h⟩ := h; (first | with_reducible first | have hw := Wq_17.w hy | have hw := Wq_29.w hy); replace hw := tY hw; (first | refine M.sC hw ?_ | refine M.sD hw ?_); clear hw hy; refine tB ?_)
 | (refine M.wh1 (b := mc_49) [0,1] [] (fun x => [(5, .int .i64 x.1), (6, .int .i64 x.2)]) (fun x => []) [] h ?_ ?_ <;> first
 | (clear h; intro x Qn K hK1 h; unfold F_49 at h; unfold mc_49; replace h := tY h; refine tB ?_)
  |(clear h; (try refine tB ?_); exact tU0; done))
 | (refine M.wh1 (b := mc_3v) [0,1] [] (fun x => [(7, .int .i64 x)]) (fun x => []) [] h ?_ ?_ <;> first
 | (clear h; intro x Qn K hK2 h; unfold F_3v at h; unfold mc_3v; replace h := tY h; refine tB ?_)
  |(clear h; (try refine tB ?_); exact tU0; done))
 | (refine M.gv1 (ms := mg_6w) 15 [12,13,14] h ?_ ?_ <;> first
 | (clear h; intro K hK3; unfold mg_6w; refine tB ?_)
 | (clear h; intro b h; replace h := tY h; refine tB ?_))
 | ((first | refine hK1 _ ?_ | refine hK2 _ ?_); (try refine tB ?_); refine ⟨_, h, ?_⟩; exact tU0; done)
 | (refine hK3 _ ?_; exact tU; done)
 | (refine bfork (fun hc => ?_) (fun hc => ?_))
 | (refine tE ?_; (first | rw [M.lok_compU] | rw [M.lokD_compU]); refine tB ?_)
 | (refine tA ?_)
 | fail)
noncomputable def F_4a (base_ : List UInt8) (ops_ : List GOp) (x12 : Int × (List UInt8)) : Option (Fl (Int × (List UInt8)) (List UInt8)) :=
 bif decide (x12.1 < (ops_.length : Int)) then jn (α := List UInt8) (chk (inb x12.1 ops_.length) (bif decide (0 < (ops_.getD (x12.1).toNat default).Size) then chk (inb x12.1 ops_.length) (chk (inb x12.1 ops_.length) (chk (inb x12.1 ops_.length) (chk (in64 ((ops_.getD (x12.1).toNat default).From + (ops_.getD (x12.1).toNat default).Size)) (chk (inc ((ops_.getD (x12.1).toNat default).From) ((ops_.getD (x12.1).toNat default).From + (ops_.getD (x12.1).toNat default).Size) base_.length) (chk (room (x12.2.length + ((base_.take ((((ops_.getD (x12.1).toNat default).From + (ops_.getD (x12.1).toNat default).Size)).toNat)).drop (((ops_.getD (x12.1).toNat default).From).toNat)).length) 1) (some (x12.2 ++ ((base_.take ((((ops_.getD (x12.1).toNat default).From + (ops_.getD (x12.1).toNat default).Size)).toNat)).drop (((ops_.getD (x12.1).toNat default).From).toNat))))))))) else chk (inb x12.1 ops_.length) (chk (room (x12.2.length + ((ops_.getD (x12.1).toNat default).Data).length) 1) (some (x12.2 ++ (ops_.getD (x12.1).toNat default).Data))))) fun j14 => chk (in64 (x12.1 + 1)) (some (.nx ((x12.1 + 1), j14))) else some (.ex x12.2)
noncomputable def F_36 (base_ : List UInt8) (ops_ : List GOp) : Option (List UInt8) :=
 (loop (F_4a base_ ops_) (0,[])).bind fun r15 => some r15
@[irreducible] def mc_6x : MC :=
 (.reg [oV 6 11,
 mo (.bin true .add (.t 11) (cI 1)) 12,
 oV 12 6])
@[irreducible] def mc_4a : MC :=
 (.seq (sR [oV 6 7,
 oV 1 8,
 mo (.len false (.t 8)) 9,
 mo (.bin false .lss (.t 7) (.t 9)) 10]
 (.cond (.t 10)
 .skip
 (.exit 0)))
 (.cut (.block 1
 (sR [oV 1 13,
 oV 6 14,
 mo (.iad 3 (.t 13) (.t 14)) 15,
 oF 1 15 16,
 oL 16 17,
 mo (.bin false .gtr (.t 17) (cI 0)) 18]
 (.cond (.t 18)
 (.note (.gc [0,1,5,6]) (.regD [oV 5 19,
 oV 0 20,
 oV 1 21,
 oV 6 22,
 mo (.iad 3 (.t 21) (.t 22)) 23,
 oF 0 23 24,
 oL 24 25,
 oV 1 26,
 oV 6 27,
 mo (.iad 3 (.t 26) (.t 27)) 28,
 oF 0 28 29,
 oL 29 30,
 oV 1 31,
 oV 6 32,
 mo (.iad 3 (.t 31) (.t 32)) 33,
 oF 1 33 34,
 oL 34 35,
 mo (.bin true .add (.t 30) (.t 35)) 36,
 mo (.slc 1 (.t 20) (some (.t 25)) (some (.t 36))) 37,
 mo (.app 1 1 (.t 19) (.t 37)) 38,
 oV 38 5]
 [[],[],[],[],[2,3],[4],[5],[],[],[7,8],[9],[10],[],[],[12,13],[14],[15],[11,16],[1,6,17],[0,18],[19,19,0,1,2,3,4,5,6,7,8,9,10,11,12,13,14,15,16,17,18,19]]
 [[],[],[],[],[2,3],[2,3,4],[2,3,4,5],[],[],[7,8],[7,8,9],[7,8,9,10],[],[],[12,13],[12,13,14],[12,13,14,15],[7,8,9,10,11,12,13,14,15,16],[1,2,3,4,5,6,7,8,9,10,11,12,13,14,15,16,17],[0,1,2,3,4,5,6,7,8,9,10,11,12,13,14,15,16,17,18],[0,1,2,3,4,5,6,7,8,9,10,11,12,13,14,15,16,17,18,19]]))
 (.note (.gc [0,1,5,6]) (.reg [oV 5 39,
 oV 1 40,
 oV 6 41,
 mo (.iad 3 (.t 40) (.t 41)) 42,
 oF 2 42 43,
 oL 43 44,
 mo (.app 1 1 (.t 39) (.t 44)) 45,
 oV 45 5])))))
 mc_6x))
def mc_36 : MC :=
 (sR [mo (.mv (.c (.sl []))) 4]
 (sR [mo (.mv (.c .nils)) 5]
 (.seq (sR [oC 0 6]
 (.block 0
 (.loop mc_4a)))
 (sR [oV 5 46,
 oV 46 4]
 .ret))))
theorem Wq_36 {base_ : List UInt8} {ops_ : List GOp} : Cn Tryz.prog 64 [.sl (base_.map byteV), .sl (ops_.map GOp.v)] [] (F_36 base_ ops_) (fun z => .sl (z.map byteV)) (fun z => []) := fun Q Q' h hQ => by
 refine acallM mc_36 [.fz 4] [] [.t 4] Tryz.func64 fun M => ?_
 unfold F_36 at h
 unfold mc_36
 replace h := tY h
 refine tB ?_
 repeat' (first
 | (exact tZ)
 | ((first | refine oblg h ?_ | refine roomG h ?_ | refine fork h ?_ ?_ | refine forkS h ?_ ?_) <;> clear h <;> intro hc h)
 | (refine M.jn1 (b := mc_6x) [0,1,6] [] (fun y => [(5, .osl 2005 1 0 y.length)]) (fun y => [.o 2005 (.arr 1 (y.map byteV))]) [.gc [0,1,5,6], .acc 5 2005 1] h ?_ ?_ <;> first
 | (clear h; intro Qn K hK1 h; replace h := tY h; refine tB ?_)
  |(clear h; intro y h; unfold mc_6x; replace h := tY h; refine tB ?_))
 | (refine M.wh1 (b := mc_4a) [0,1] [] (fun x => [(5, .osl 2005 1 0 x.2.length), (6, .int .i64 x.1)]) (fun x => [.o 2005 (.arr 1 (x.2.map byteV))]) [.gc [0,1,5,6], .acc 5 2005 1] h ?_ ?_ <;> first
 | (clear h; intro x Qn K hK2 h; unfold F_4a at h; unfold mc_4a; replace h := tY h; refine tB ?_)
  |(clear h; (try refine tB ?_); exact tU0; done))
 | ((first | refine hK1 _ ?_ | refine hK2 _ ?_); (try refine tB ?_); refine ⟨_, h, ?_⟩; exact tU0; done)
 | (refine tE ?_; (first | rw [M.lok_compU] | rw [M.lokD_compU]); refine tB ?_)
 | (refine tA ?_)
 | fail)
noncomputable def F_o (base_ : List UInt8) (ops_ : List GOp) : Option ((List UInt8) × Int) :=
 (F_2a base_ ops_).bind fun y4 => bif (!decide (y4 = 0)) then some ([], y4) else (F_36 base_ ops_).bind fun y6 => some (y6,0)
def mc_o : MC :=
 (sR [mo (.mv (.c (.sl []))) 4,
 oC 0 5]
 (.seq (sR [oV 0 7,
 oV 1 8,
 mo (.call (.f 63) [(.t 7),(.t 8)] [] []) 9,
 oV 9 6]
 (sR [oV 6 10,
 mo (.bin false .neq (.t 10) (cI 0)) 11]
 (.cond (.t 11)
 (.seq (.note (.gc [6]) (.reg [oV 6 12,
 mo (.mv (.c (.sl []))) 4,
 oV 12 5]))
 .ret)
 .skip)))
 (.seq (.note (.gc [0,1]) (.reg [oV 0 13,
 oV 1 14,
 mo (.call (.f 64) [(.t 13),(.t 14)] [] []) 15,
 oV 15 4,
 oC 0 5]))
 .ret)))
theorem Wq_o {base_ : List UInt8} {ops_ : List GOp} : Cn Tryz.prog 42 [.sl (base_.map byteV), .sl (ops_.map GOp.v)] [] (F_o base_ ops_) (fun z => .tup [.sl (z.1.map byteV), .int .i64 z.2]) (fun z => []) := fun Q Q' h hQ => by
 refine acallM mc_o [.fz 4] [] [.t 4, .t 5] Tryz.func42 fun M => ?_
 unfold F_o at h
 unfold mc_o
 replace h := tY h
 refine tB ?_
 repeat' (first
 | (exact tZ)
 | ((first | refine oblg h ?_ | refine roomG h ?_ | refine fork h ?_ ?_ | refine forkS h ?_ ?_) <;> clear h <;> intro hc h)
 | (obtain ⟨y, hy, h⟩ := h; (first | with_reducible first | have hw := Wq_2a.w hy | have hw := Wq_36.w hy); replace hw := tY hw; (first | refine M.sC hw ?_ | refine M.sD hw ?_); clear hw hy; refine tB ?_)
 | (refine tE ?_; (first | rw [M.lok_compU] | rw [M.lokD_compU]); refine tB ?_)
 | (refine tA ?_)
 | fail)
noncomputable def FR_3 : Nat → (List GPacked) → Int → Option ((List UInt8) × Bool)
 | 0, _, _ => none
 | n + 1, l_, id_ =>
 (F_11 l_ id_).bind fun y4 => bif decide (y4 < 0) then some ([], false) else (F_b l_ id_).bind fun y6 => chk (inb y6 l_.length) (bif (!((l_.getD (y6).toNat default).Delta)) then chk (room (([] : List UInt8).length + ((l_.getD (y6).toNat default).Data).length) 1) (some ((([] : List UInt8) ++ (l_.getD (y6).toNat default).Data), true)) else (FR_3 n l_ ((l_.getD (y6).toNat default).Base)).bind fun y8 => bif (!y8.2) then some ([], false) else (F_o y8.1 ((l_.getD (y6).toNat default).Ops)).bind fun y10 => some (y10.1, decide (y10.2 = 0)))
noncomputable def F_3 (l_ : List GPacked) (id_ : Int) : Option ((List UInt8) × Bool) := lim fun n => FR_3 n l_ id_
def mc_3 : MC :=
 (sR [mo (.mv (.c (.sl []))) 4,
 mo (.mv (.c (.bool false))) 5]
 (.seq (sR [oV 0 11,
 oV 1 12,
 mo (.call (.f 41) [(.t 11),(.t 12)] [] []) 13,
 mo (.bin false .lss (.t 13) (cI 0)) 14]
 (.cond (.t 14)
 (sR [mo (.mv (.c (.sl []))) 4,
 mo (.mv (.c (.bool false))) 5]
 .ret)
 .skip))
 (sR [oV 0 15,
 oV 0 16,
 oV 1 17,
 mo (.call (.f 40) [(.t 16),(.t 17)] [] []) 18,
 mo (.iad 5 (.t 15) (.t 18)) 19,
 mo (.ld (some 5) (.t 19)) 20,
 mo (.alloc [(.int .i64 0),(.bool false),(.int .i64 0),(.sl []),(.sl [])]) 6,
 ⟨.st 5 (.t 6) (.t 20), none, none⟩]
 (.seq (.seq (.note (.gc [0,6]) (.reg [oF 1 6 21,
 oL 21 22,
 mo (.not (.t 22)) 23]))
 (.cond (.t 23)
 (sR [mo (.bslice 1 []) 24,
 oF 4 6 25,
 oL 25 26,
 mo (.app 1 1 (.t 24) (.t 26)) 27,
 oV 27 4,
 mo (.mv (.c (.bool true))) 5]
 .ret)
 .skip))
 (sR [oV 0 29,
 oF 2 6 30,
 oL 30 31,
 mo (.call (.f 23) [(.t 29),(.t 31)] [] []) 32,
 oV 32 28,
 mo (.ext 0 (.t 28)) 33,
 mo (.ext 1 (.t 28)) 34,
 oV 33 7,
 oV 34 8]
 (.seq (sR [oV 8 35,
 mo (.not (.t 35)) 36]
 (.cond (.t 36)
 (sR [mo (.mv (.c (.sl []))) 4,
 mo (.mv (.c (.bool false))) 5]
 .ret)
 .skip))
 (.seq (.note (.gc [6,7]) (.reg [oV 7 38,
 oF 3 6 39,
 oL 39 40,
 mo (.call (.f 42) [(.t 38),(.t 40)] [] []) 41,
 oV 41 37,
 mo (.ext 0 (.t 37)) 42,
 mo (.ext 1 (.t 37)) 43,
 oV 42 9,
 oV 43 10]))
 (.seq (.note (.gc [9,10]) (.reg [oV 9 44,
 oV 10 45,
 mo (.bin false .eql (.t 45) (cI 0)) 46,
 oV 44 4,
 oV 46 5]))
 .ret))))))))
theorem Wq_3 {n : Nat} (ih_ref14_Bytes : ∀ {l_ : List GPacked} {id_ : Int} {y : (List UInt8) × Bool}, FR_3 n l_ id_ = some y → ACall Tryz.prog 23 [.sl (l_.map GPacked.v), .int .i64 id_] [] (fun r H => r = .tup [.sl (y.1.map byteV), .bool y.2] ∧ H = [])) (l_ : List GPacked) (id_ : Int) {Q : (List UInt8) × Bool → Prop} {Q' : V → Heap → Prop} (h : Ok (FR_3 (n + 1) l_ id_) Q) (hQ : ∀ z, Q z → Q' (.tup [.sl (z.1.map byteV), .bool z.2]) []) : ACall Tryz.prog 23 [.sl (l_.map GPacked.v), .int .i64 id_] [] Q' := by
 refine acallM mc_3 [.fz 4] [] [.t 4, .t 5] Tryz.func23 fun M => ?_
 simp only [FR_3] at h
 unfold mc_3
 replace h := tY h
 refine tB ?_
 repeat' (first
 | (exact tZ)
 | ((first | refine oblg h ?_ | refine roomG h ?_ | refine fork h ?_ ?_ | refine forkS h ?_ ?_) <;> clear h <;> intro hc h)
 | (obtain ⟨y, hy, h⟩ := h; (first | with_reducible first | have hw := Wq_11.w hy | have hw := Wq_b.w hy | have hw := ih_ref14_Bytes hy | have hw := Wq_o.w hy); replace hw := tY hw; (first | refine M.sC hw ?_ | refine M.sD hw ?_); clear hw hy; refine tB ?_)
 | (refine tE ?_; (first | rw [M.lok_compU] | rw [M.lokD_compU]); refine tB ?_)
 | (refine tA ?_)
 | fail)
theorem WG_3 : ∀ n, (∀ {l_ : List GPacked} {id_ : Int} {y : (List UInt8) × Bool}, FR_3 n l_ id_ = some y → ACall Tryz.prog 23 [.sl (l_.map GPacked.v), .int .i64 id_] [] (fun r H => r = .tup [.sl (y.1.map byteV), .bool y.2] ∧ H = []))
 | 0 => fun hy => by simp only [FR_3] at hy; cases hy
 | n + 1 => by
  have ih_ref14_Bytes := @WG_3 n
  exact fun hy => Wq_3 ih_ref14_Bytes _ _ (Q := (· = _)) ⟨_, hy, rfl⟩ fun | _, rfl => ⟨rfl, rfl⟩
theorem W_3 : ∀ {l_ : List GPacked} {id_ : Int} {y : (List UInt8) × Bool}, F_3 l_ id_ = some y → ACall Tryz.prog 23 [.sl (l_.map GPacked.v), .int .i64 id_] [] (fun r H => r = .tup [.sl (y.1.map byteV), .bool y.2] ∧ H = []) := fun hy => by
 obtain ⟨n, hn⟩ := lim_inv hy
 exact (WG_3 n) hn
noncomputable def F_4b (l_ : List GPacked) (x33 : Int × (List (List UInt8))) : Option (Fl (Int × (List (List UInt8))) (Sum (List (List UInt8)) ((List GObject) × Int))) :=
 bif decide (x33.1 < (l_.length : Int)) then chk (inb x33.1 l_.length) ((F_3 l_ ((l_.getD (x33.1).toNat default).ID)).bind fun y41 => bif (!y41.2) then some (.ex (.inr ([],2))) else chk (room (x33.2.length + [y41.1].length) 24) (chk (in64 (x33.1 + 1)) (some (.nx ((x33.1 + 1), (x33.2 ++ [y41.1])))))) else some (.ex (.inl x33.2))
noncomputable def F_4c (l_ : List GPacked) (u43 : List (List UInt8)) (x73 : Int × (List GObject)) : Option (Fl (Int × (List GObject)) (Sum (List GObject) ((List GObject) × Int))) :=
 bif decide (x73.1 < (l_.length : Int)) then chk (inb x73.1 l_.length) (chk (inb x73.1 u43.length) ((F_15 ((l_.getD (x73.1).toNat default).ID) (u43.getD ((x73.1).toNat) default)).bind fun y81 => bif (!decide (y81.2 = 0)) then some (.ex (.inr ([],10))) else chk (room (x73.2.length + [y81.1].length) 120) (chk (in64 (x73.1 + 1)) (some (.nx ((x73.1 + 1), (x73.2 ++ [y81.1]))))))) else some (.ex (.inl x73.2))
noncomputable def F_2b (l_ : List GPacked) : Option ((List GObject) × Int) :=
 (F_28 l_).bind fun y4 => bif (!decide (y4 = 0)) then some ([], y4) else (loop (F_4b l_) (0,[])).bind fun r42 => Sum.elim (fun u43 => (loop (F_4c l_ u43) (0,[])).bind fun r82 => Sum.elim (fun u83 => some (u83,0)) (fun u84 => some u84) r82) (fun u44 => some u44) r42
@[irreducible] def mc_4b : MC :=
 (.seq (sR [oV 6 18,
 oV 0 19,
 mo (.len false (.t 19)) 20,
 mo (.bin false .lss (.t 18) (.t 20)) 21]
 (.cond (.t 21)
 .skip
 (.exit 0)))
 (.seq (.block 1
 (sR [oV 0 25,
 oV 0 26,
 oV 6 27,
 mo (.iad 5 (.t 26) (.t 27)) 28,
 oF 0 28 29,
 oL 29 30,
 mo (.call (.f 23) [(.t 25),(.t 30)] [] []) 31,
 oV 31 24,
 mo (.ext 0 (.t 24)) 32,
 mo (.ext 1 (.t 24)) 33,
 oV 32 7,
 oV 33 8]
 (.seq (sR [oV 8 34,
 mo (.not (.t 34)) 35]
 (.cond (.t 35)
 (sR [mo (.mv (.c (.sl []))) 2,
 oC 2 3]
 .ret)
 .skip))
 (.note (.gc [0,5,6,7]) (.reg [oV 5 36,
 oV 7 37,
 mo (.bslice 1 [(.t 37)]) 38,
 mo (.app 1 24 (.t 36) (.t 38)) 39,
 oV 39 5])))))
 (.reg [oV 6 22,
 mo (.bin true .add (.t 22) (cI 1)) 23,
 oV 23 6])))
@[irreducible] def mc_4c : MC :=
 (.seq (sR [oV 10 40,
 oV 0 41,
 mo (.len false (.t 41)) 42,
 mo (.bin false .lss (.t 40) (.t 42)) 43]
 (.cond (.t 43)
 .skip
 (.exit 2)))
 (.seq (.block 3
 (.seq (.regD [oV 0 47,
 oV 10 48,
 mo (.iad 5 (.t 47) (.t 48)) 49,
 oF 0 49 50,
 oL 50 51,
 oV 5 52,
 oV 10 53,
 mo (.iad 1 (.t 52) (.t 53)) 54,
 oL 54 55,
 mo (.call (.f 24) [(.t 51),(.t 55)] [] []) 56,
 oV 56 46,
 mo (.ext 0 (.t 46)) 57,
 mo (.ext 1 (.t 46)) 58,
 mo (.alloc [(.int .i64 0),(.int .i64 0),(.sl []),(.sl []),(.int .i64 0),(.sl []),(.str []),(.int .i64 0)]) 11,
 ⟨.st 8 (.t 11) (.t 57), none, none⟩,
 oV 58 12]
 [[],[],[0,1],[2],[3],[],[],[5,6],[7],[4,8],[9],[10],[10],[],[13,11,9,0,1,2,3,4,5,6,7,8,9,10,11,13],[12,14,0,1,2,3,4,5,6,7,8,9,10,11,12,13,14]]
 [[],[],[0,1],[0,1,2],[0,1,2,3],[],[],[5,6],[5,6,7],[0,1,2,3,4,5,6,7,8],[0,1,2,3,4,5,6,7,8,9],[0,1,2,3,4,5,6,7,8,9,10],[0,1,2,3,4,5,6,7,8,9,10],[],[0,1,2,3,4,5,6,7,8,9,10,11,13],[0,1,2,3,4,5,6,7,8,9,10,11,12,13,14]])
 (.seq (sR [oV 12 59,
 mo (.bin false .neq (.t 59) (cI 0)) 60]
 (.cond (.t 60)
 (sR [mo (.mv (.c (.sl []))) 2,
 oC 10 3]
 .ret)
 .skip))
 (.note (.gc [0,5,9,10,11]) (.reg [oV 9 61,
 mo (.ld (some 8) (.t 11)) 62,
 mo (.bslice 8 [(.t 62)]) 63,
 mo (.app 8 120 (.t 61) (.t 63)) 64,
 oV 64 9])))))
 (.reg [oV 10 44,
 mo (.bin true .add (.t 44) (cI 1)) 45,
 oV 45 10])))
def mc_2b : MC :=
 (sR [mo (.mv (.c (.sl []))) 2,
 oC 0 3]
 (.seq (sR [oV 0 13,
 mo (.call (.f 22) [(.t 13)] [] []) 14,
 oV 14 4]
 (sR [oV 4 15,
 mo (.bin false .neq (.t 15) (cI 0)) 16]
 (.cond (.t 16)
 (sR [oV 4 17,
 mo (.mv (.c (.sl []))) 2,
 oV 17 3]
 .ret)
 .skip)))
 (sR [mo (.mv (.c .nils)) 5]
 (.seq (sR [oC 0 6]
 (.block 0
 (.loop mc_4b)))
 (sR [mo (.mv (.c .nils)) 9]
 (.seq (sR [oC 0 10]
 (.block 2
 (.loop mc_4c)))
 (sR [oV 9 65,
 oV 65 2,
 oC 0 3]
 .ret)))))))
theorem Wq_2b {l_ : List GPacked} : Cn Tryz.prog 8 [.sl (l_.map GPacked.v)] [] (F_2b l_) (fun z => .tup [.sl (z.1.map GObject.v), .int .i64 z.2]) (fun z => []) := fun Q Q' h hQ => by
 refine acallM mc_2b [.fz 2] [] [.t 2, .t 3] Tryz.func8 fun M => ?_
 unfold F_2b at h
 unfold mc_2b
 replace h := tY h
 refine tB ?_
 repeat' (first
 | (exact tZ)
 | ((first | refine oblg h ?_ | refine roomG h ?_ | refine fork h ?_ ?_ | refine forkS h ?_ ?_) <;> clear h <;> intro hc h)
 | (obtain ⟨y, hy, h⟩ := h; (first | with_reducible first | have hw := Wq_28.w hy | have hw := W_3 hy | have hw := Wq_15.w hy); replace hw := tY hw; (first | refine M.sC hw ?_ | refine M.sD hw ?_); clear hw hy; refine tB ?_)
 | (refine M.wh1 (b := mc_4b) [0] [] (fun x => [(5, .osl 2005 1 0 x.2.length), (6, .int .i64 x.1)]) (fun x => [.o 2005 (.arr 1 (x.2.map (slV byteV)))]) [.gc [0,5,6], .acc 5 2005 1] h ?_ ?_ <;> first
 | (clear h; intro x Qn K hK1 h; unfold F_4b at h; unfold mc_4b; replace h := tY h; refine tB ?_)
  |(clear h; (try refine tB ?_); exact tU0; done))
 | (refine M.wh1 (b := mc_4c) [0,5] [2005] (fun x => [(9, .osl 2009 8 0 x.2.length), (10, .int .i64 x.1)]) (fun x => [.o 2009 (.arr 8 (x.2.map GObject.v))]) [.gc [0,5,9,10], .acc 9 2009 8] h ?_ ?_ <;> first
 | (clear h; intro x Qn K hK2 h; unfold F_4c at h; unfold mc_4c; replace h := tY h; refine tB ?_)
  |(clear h; (try refine tB ?_); exact tU0; done))
 | ((first | refine hK1 _ ?_ | refine hK2 _ ?_); (try refine tB ?_); refine ⟨_, h, ?_⟩; exact tU0; done)
 | (refine tE ?_; (first | rw [M.lok_compU] | rw [M.lokD_compU]); refine tB ?_)
 | (refine tA ?_)
 | fail)
noncomputable def F_3w (a_ : List GObject) (b_ : List GObject) (x29 : Int) : Option (Fl Int (Sum Unit Bool)) :=
 bif decide (x29 < (a_.length : Int)) then chk (inb x29 a_.length) (chk (inb x29 b_.length) ((F_1y (a_.getD (x29).toNat default) (b_.getD (x29).toNat default)).bind fun y37 => bif (!y37) then some (.ex (.inr false)) else chk (in64 (x29 + 1)) (some (.nx (x29 + 1))))) else some (.ex (.inl ()))
noncomputable def F_37 (a_ : List GObject) (b_ : List GObject) : Option Bool :=
 bif (!decide ((a_.length : Int) = (b_.length : Int))) then some false else (loop (F_3w a_ b_) 0).bind fun r38 => Sum.elim (fun u39 => some true) (fun u40 => some u40) r38
@[irreducible] def mc_3w : MC :=
 (.seq (sR [oV 5 11,
 oV 0 12,
 mo (.len false (.t 12)) 13,
 mo (.bin false .lss (.t 11) (.t 13)) 14]
 (.cond (.t 14)
 .skip
 (.exit 0)))
 (.seq (.block 1
 (.seq (.regD [oV 0 17,
 oV 5 18,
 mo (.iad 8 (.t 17) (.t 18)) 19,
 mo (.ld (some 8) (.t 19)) 20,
 oV 1 21,
 oV 5 22,
 mo (.iad 8 (.t 21) (.t 22)) 23,
 mo (.ld (some 8) (.t 23)) 24,
 mo (.call (.f 25) [(.t 20),(.t 24)] [] []) 25,
 mo (.not (.t 25)) 26]
 [[],[],[0,1],[2],[],[],[4,5],[6],[3,7],[8]]
 [[],[],[0,1],[0,1,2],[],[],[4,5],[4,5,6],[0,1,2,3,4,5,6,7],[0,1,2,3,4,5,6,7,8]])
 (.cond (.t 26)
 (sR [mo (.mv (.c (.bool false))) 4]
 .ret)
 .skip)))
 (.note (.gc [0,1,5]) (.reg [oV 5 15,
 mo (.bin true .add (.t 15) (cI 1)) 16,
 oV 16 5]))))
def mc_37 : MC :=
 (sR [mo (.mv (.c (.bool false))) 4]
 (.seq (sR [oV 0 6,
 mo (.len false (.t 6)) 7,
 oV 1 8,
 mo (.len false (.t 8)) 9,
 mo (.bin false .neq (.t 7) (.t 9)) 10]
 (.cond (.t 10)
 (sR [mo (.mv (.c (.bool false))) 4]
 .ret)
 .skip))
 (.seq (sR [oC 0 5]
 (.block 0
 (.loop mc_3w)))
 (sR [mo (.mv (.c (.bool true))) 4]
 .ret))))
theorem Wq_37 {a_ b_ : List GObject} : Cn Tryz.prog 9 [.sl (a_.map GObject.v), .sl (b_.map GObject.v)] [] (F_37 a_ b_) (fun z => .bool z) (fun z => []) := fun Q Q' h hQ => by
 refine acallM mc_37 [] [] [.t 4] Tryz.func9 fun M => ?_
 unfold F_37 at h
 unfold mc_37
 replace h := tY h
 refine tB ?_
 repeat' (first
 | (exact tZ)
 | ((first | refine oblg h ?_ | refine roomG h ?_ | refine fork h ?_ ?_ | refine forkS h ?_ ?_) <;> clear h <;> intro hc h)
 | (obtain ⟨y, hy, h⟩ := h; have hw := Wq_1y.w hy; replace hw := tY hw; (first | refine M.sC hw ?_ | refine M.sD hw ?_); clear hw hy; refine tB ?_)
 | (refine M.wh1 (b := mc_3w) [0,1] [] (fun x => [(5, .int .i64 x)]) (fun x => []) [] h ?_ ?_ <;> first
 | (clear h; intro x Qn K hK1 h; unfold F_3w at h; unfold mc_3w; replace h := tY h; refine tB ?_)
  |(clear h; (try refine tB ?_); exact tU0; done))
 | (refine hK1 _ ?_; (try refine tB ?_); refine ⟨_, h, ?_⟩; exact tU0; done)
 | (refine tE ?_; (first | rw [M.lok_compU] | rw [M.lokD_compU]); refine tB ?_)
 | (refine tA ?_)
 | fail)
end Go.Ab
