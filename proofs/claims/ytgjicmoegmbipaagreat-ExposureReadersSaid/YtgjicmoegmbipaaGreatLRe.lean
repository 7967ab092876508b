/- What the functions of this seat that lie on the laws' road compute (part LRe), each for every input. By AI agents. -/
import Derived.Test.YtgjicmoegmbipaaGreatProg
import Derived.KernelRfl
import Derived.Test.YtgjicmoegmbipaaGreatAbFun
import Derived.Test.YtgjicmoegmbipaaGreatLC
set_option linter.all false
set_option linter.all false
set_option maxRecDepth 20000
set_option maxHeartbeats 2000000
namespace Go.Ab
open Go.Proofs
theorem inbk_1 {n : Nat} : (inb 1 n = true) = (((1 : Nat) : Int) < (n : Int)) := propext (by rw [inb_iff]; omega)
attribute [go_sem] inbk_1
def F_2z (content_ : Int) (k16 : Int) (a17 : GAccess) (x15 : List Bool) : Option (List Bool) :=
 bif decide (a17.Kind = 5) then chk (inb a17.Place x15.length) (bif x15.getD ((a17.Place).toNat) default then chk (inb a17.Place x15.length) (some (x15.set ((a17.Place).toNat) true)) else chk (inb a17.Place x15.length) (some (x15.set ((a17.Place).toNat) (decide (a17.Content = content_))))) else bif decide (a17.Kind = 6) then chk (inb a17.Place x15.length) (bif x15.getD ((a17.Place).toNat) default then chk (inb a17.Place x15.length) (some (x15.set ((a17.Place).toNat) (!decide (a17.Content = content_)))) else chk (inb a17.Place x15.length) (some (x15.set ((a17.Place).toNat) false))) else bif decide (a17.Kind = 7) then chk (inb a17.Place x15.length) (bif x15.getD ((a17.Place).toNat) default then chk (inb a17.Place x15.length) (some (x15.set ((a17.Place).toNat) true)) else chk (inb a17.From x15.length) (chk (inb a17.Place x15.length) (some (x15.set ((a17.Place).toNat) (x15.getD ((a17.From).toNat) default))))) else some x15
def F_26 (a_ : GEstate) (content_ : Int) (n_ : Int) : Option (List Bool) :=
 chk (roomI a_.Places a_.Places 1) (chk (inc 0 n_ a_.Events.length) ((foldL (F_2z content_) (a_.Events.take ((n_).toNat)) 0 (List.replicate (a_.Places).toNat false)).bind fun x18 => some x18))
@[irreducible] def mc_2z : MC :=
 (sR [mo (.bin false .lss (.t 18) (.t 17)) 19]
 (.seq (.cond (.t 19)
 .skip
 (.exit 0))
 (.seq (.block 1
 (sR [mo (.iad 7 (.t 16) (.t 18)) 20,
 mo (.ld (some 7) (.t 20)) 21,
 mo (.alloc [(.int .i64 0),(.int .i64 0),(.int .i64 0),(.int .i64 0),(.int .i64 0),(.int .i64 0),(.int .i64 0)]) 9,
 ⟨.st 7 (.t 9) (.t 21), none, none⟩]
 (sR [oF 1 9 22,
 oL 22 23]
 (.block 2
 (sR [mo (.bin false .eql (.t 23) (cI 5)) 25,
 oV 25 24]
 (.cond (.t 24)
 (.regD [oV 7 26,
 oF 2 9 27,
 oL 27 28,
 oV 7 29,
 oF 2 9 30,
 oL 30 31,
 mo (.iad 1 (.t 29) (.t 31)) 32,
 oL 32 33,
 oV 33 34,
 gF 34 35 (.fad 5 (.t 9)),
 gF 34 36 (.ld none (.t 35)),
 gF 34 37 (.mv (.t 1)),
 gF 34 38 (.bin false .eql (.t 36) (.t 37)),
 mo (.pick (.t 34) (.c (.bool true)) (.t 38)) 39,
 mo (.iad 1 (.t 26) (.t 28)) 40,
 ⟨.st 1 (.t 40) (.t 39), none, none⟩]
 [[],[],[1],[],[],[4],[3,5],[6],[7],[8],[9,8],[8],[10,11,8],[8,12],[0,2,0,1,2,3,4,5,6,7,8,9,10,11,12,13],[14,13,8,0,1,2,3,4,5,6,7,8,9,10,11,12,13]]
 [[],[],[1],[],[],[4],[3,4,5],[3,4,5,6],[3,4,5,6,7],[3,4,5,6,7,8],[3,4,5,6,7,8,9],[3,4,5,6,7,8],[3,4,5,6,7,8,9,10,11],[3,4,5,6,7,8,9,10,11,12],[0,1,2,3,4,5,6,7,8,9,10,11,12,13],[0,1,2,3,4,5,6,7,8,9,10,11,12,13,14]])
 (sR [mo (.bin false .eql (.t 23) (cI 6)) 42,
 oV 42 41]
 (.cond (.t 41)
 (.note (.gc [1,7,9,16,17,18,35,36,37,38,52,53,54,55,69,70,71,72,73]) (.regD [oV 7 43,
 oF 2 9 44,
 oL 44 45,
 oV 7 46,
 oF 2 9 47,
 oL 47 48,
 mo (.iad 1 (.t 46) (.t 48)) 49,
 oL 49 50,
 oV 50 51,
 gT 51 52 (.fad 5 (.t 9)),
 gT 51 53 (.ld none (.t 52)),
 gT 51 54 (.mv (.t 1)),
 gT 51 55 (.bin false .neq (.t 53) (.t 54)),
 mo (.pick (.t 51) (.t 55) (.c (.bool false))) 56,
 mo (.iad 1 (.t 43) (.t 45)) 57,
 ⟨.st 1 (.t 57) (.t 56), none, none⟩]
 [[],[],[1],[],[],[4],[3,5],[6],[7],[8],[9,8],[8],[10,11,8],[8,12],[0,2,0,1,2,3,4,5,6,7,8,9,10,11,12,13],[14,13,8,0,1,2,3,4,5,6,7,8,9,10,11,12,13]]
 [[],[],[1],[],[],[4],[3,4,5],[3,4,5,6],[3,4,5,6,7],[3,4,5,6,7,8],[3,4,5,6,7,8,9],[3,4,5,6,7,8],[3,4,5,6,7,8,9,10,11],[3,4,5,6,7,8,9,10,11,12],[0,1,2,3,4,5,6,7,8,9,10,11,12,13],[0,1,2,3,4,5,6,7,8,9,10,11,12,13,14]]))
 (sR [mo (.bin false .eql (.t 23) (cI 7)) 59,
 oV 59 58]
 (.cond (.t 58)
 (.note (.gc [1,7,9,16,17,18,35,36,37,38,52,53,54,55,69,70,71,72,73]) (.regD [oV 7 60,
 oF 2 9 61,
 oL 61 62,
 oV 7 63,
 oF 2 9 64,
 oL 64 65,
 mo (.iad 1 (.t 63) (.t 65)) 66,
 oL 66 67,
 oV 67 68,
 gF 68 69 (.mv (.t 7)),
 gF 68 70 (.fad 6 (.t 9)),
 gF 68 71 (.ld none (.t 70)),
 gF 68 72 (.iad 1 (.t 69) (.t 71)),
 gF 68 73 (.ld none (.t 72)),
 mo (.pick (.t 68) (.c (.bool true)) (.t 73)) 74,
 mo (.iad 1 (.t 60) (.t 62)) 75,
 ⟨.st 1 (.t 75) (.t 74), none, none⟩]
 [[],[],[1],[],[],[4],[3,5],[6],[7],[8],[8],[10,8],[9,11,8],[12,8],[8,13],[0,2,0,1,2,3,4,5,6,7,8,9,10,11,12,13,14],[15,14,8,0,1,2,3,4,5,6,7,8,9,10,11,12,13,14]]
 [[],[],[1],[],[],[4],[3,4,5],[3,4,5,6],[3,4,5,6,7],[3,4,5,6,7,8],[3,4,5,6,7,8],[3,4,5,6,7,8,10],[3,4,5,6,7,8,9,10,11],[3,4,5,6,7,8,9,10,11,12],[3,4,5,6,7,8,9,10,11,12,13],[0,1,2,3,4,5,6,7,8,9,10,11,12,13,14],[0,1,2,3,4,5,6,7,8,9,10,11,12,13,14,15]]))
 .skip))))))))))
 (.reg [mo (.bin true .add (.t 18) (cI 1)) 76,
 oV 76 18]))))
def mc_26 : MC :=
 (sR [mo (.box (.t 0)) 3,
 mo (.mv (.c (.sl []))) 6]
 (sR [oF 0 3 10,
 oL 10 11,
 mo (.mksl 1 1 (.bool false) (.t 11) (.t 11)) 12,
 oV 12 7]
 (.seq (sR [oF 1 3 13,
 oL 13 14,
 oV 2 15,
 mo (.slc 7 (.t 14) none (some (.t 15))) 16,
 mo (.len false (.t 16)) 17,
 oC 0 18]
 (.block 0
 (.loop mc_2z)))
 (sR [oV 7 77,
 oV 77 6]
 .ret))))
theorem Wq_26 {a_ : GEstate} {content_ n_ : Int} : Cn Tryz.prog 31 [GEstate.v a_, .int .i64 content_, .int .i64 n_] [] (F_26 a_ content_ n_) (fun z => .sl (z.map V.bool)) (fun z => []) := fun Q Q' h hQ => by
 refine acallM mc_26 [.fz 6] [] [.t 6] Tryz.func31 fun M => ?_
 unfold F_26 at h
 unfold mc_26
 replace h := tY h
 refine tB ?_
 repeat' (first
 | (exact tZ)
 | ((first | refine oblg h ?_ | refine roomG h ?_ | refine fork h ?_ ?_ | refine forkS h ?_ ?_) <;> clear h <;> intro hc h)
 | (refine M.fold1 (b := mc_2z) 18 [1,16,17] [] (fun x => [(7, .osl 12 1 0 x.length)]) (fun x => [.o 12 (.arr 1 (x.map V.bool))]) [] h ?_ ?_ ?_ <;> first
 | (clear h; intro k a x Qn K hK1 hkN1 ha1 h hf; have hl := fact_int (factsE_find (n := 17) hf.1 rfl); clear hf; have hkd := kD hkN1; have hkB1 := kB hkN1; have hkI1 := kI (k := k) (by omega); unfold F_2z at h; unfold mc_2z; replace h := tY h; refine tK ha1 hkd hkN1 hkB1 hkI1 ?_)
  |(clear h; intro x K h; replace h := And.left (And.intro h trivial); unfold mc_2z; replace h := tY h; refine tB ?_)
  |(clear h; (try refine tB ?_); exact tU0; done))
 | (simp only [ha1])
 | (refine hK1 _ ?_; (try refine tB ?_); refine ⟨_, h, ?_⟩; exact tU0; done)
 | (refine tE ?_; (first | rw [M.lok_compU] | rw [M.lokD_compU]); refine tB ?_)
 | (refine ⟨_, getE_mapset (by first | exact inb_toNat (by assumption) | exact inb_nat (by assumption)), ?_⟩; (first | rw [M.lok_compU] | rw [M.lokD_compU] | (simp only [V.cells]; first | rw [M.lok_comp] | rw [M.lokD_comp])); refine tB ?_)
 | (refine tA ?_))
noncomputable def F_30 (k28 : Int) (a29 : Bool) (x27 : List Int) : Option (List Int) :=
 bif a29 then chk (room (x27.length + [k28].length) 8) (some (x27 ++ [k28])) else some x27
noncomputable def F_27 (a_ : GEstate) (content_ : Int) (t_ : Int) : Option (List Int) :=
 (F_v a_ content_).bind fun y4 => bif (!y4) then some [] else (F_l a_ t_).bind fun y20 => (F_26 a_ content_ y20).bind fun y21 => (foldL F_30 y21 0 []).bind fun x30 => some x30
@[irreducible] def mc_30 : MC :=
 (sR [mo (.bin false .lss (.t 21) (.t 20)) 22]
 (.seq (.cond (.t 22)
 .skip
 (.exit 0))
 (.seq (.block 1
 (sR [oV 21 23,
 mo (.iad 1 (.t 19) (.t 21)) 24,
 oL 24 25,
 oV 23 8,
 oV 25 9]
 (sR [oV 9 26]
 (.cond (.t 26)
 (.reg [oV 7 27,
 oV 8 28,
 mo (.bslice 1 [(.t 28)]) 29,
 mo (.app 1 8 (.t 27) (.t 29)) 30,
 oV 30 7])
 .skip))))
 (.reg [mo (.bin true .add (.t 21) (cI 1)) 31,
 oV 31 21]))))
def mc_27 : MC :=
 (sR [mo (.box (.t 0)) 3,
 mo (.mv (.c (.sl []))) 6]
 (.seq (sR [mo (.ld (some 2) (.t 3)) 10,
 oV 1 11,
 mo (.call (.f 39) [(.t 10),(.t 11)] [] []) 12,
 mo (.not (.t 12)) 13]
 (.cond (.t 13)
 (sR [mo (.mv (.c (.sl []))) 6]
 .ret)
 .skip))
 (sR [mo (.mv (.c .nils)) 7]
 (.seq (.seq (.regD [mo (.ld (some 2) (.t 3)) 14,
 oV 1 15,
 mo (.ld (some 2) (.t 3)) 16,
 oV 2 17,
 mo (.call (.f 32) [(.t 16),(.t 17)] [] []) 18,
 mo (.call (.f 31) [(.t 14),(.t 15),(.t 18)] [] []) 19,
 mo (.len false (.t 19)) 20,
 oC 0 21]
 [[],[],[],[],[2,3],[0,1,4,4],[5],[]]
 [[],[],[],[],[2,3],[0,1,2,3,4],[0,1,2,3,4,5],[]])
 (.block 0
 (.loop mc_30)))
 (sR [oV 7 32,
 oV 32 6]
 .ret)))))
theorem Wq_27 {a_ : GEstate} {content_ t_ : Int} : Cn Tryz.prog 20 [GEstate.v a_, .int .i64 content_, .int .i64 t_] [] (F_27 a_ content_ t_) (fun z => .sl (z.map (V.int .i64))) (fun z => []) := fun Q Q' h hQ => by
 refine acallM mc_27 [.fz 6] [] [.t 6] Tryz.func20 fun M => ?_
 unfold F_27 at h
 unfold mc_27
 replace h := tY h
 refine tB ?_
 repeat' (first
 | (exact tZ)
 | ((first | refine oblg h ?_ | refine roomG h ?_ | refine fork h ?_ ?_ | refine forkS h ?_ ?_) <;> clear h <;> intro hc h)
 | (obtain ⟨y, hy, h⟩ := h; (first | with_reducible first | have hw := Wq_v.w hy | have hw := Wq_l.w hy | have hw := Wq_26.w hy); replace hw := tY hw; (first | refine M.sC hw ?_ | refine M.sD hw ?_); clear hw hy; refine tB ?_)
 | (refine M.fold1 (b := mc_30) 21 [19,20] [] (fun x => [(7, .osl 2007 1 0 x.length)]) (fun x => [.o 2007 (.arr 1 (x.map (V.int .i64)))]) [.gc [7,19,20,21], .acc 7 2007 1] h ?_ ?_ ?_ <;> first
 | (clear h; intro k a x Qn K hK1 hkN1 ha1 h hf; have hl := fact_int (factsE_find (n := 20) hf.1 rfl); clear hf; have hkd := kD hkN1; have hkB1 := kB hkN1; have hkI1 := kI (k := k) (by omega); unfold F_30 at h; unfold mc_30; replace h := tY h; refine tK ha1 hkd hkN1 hkB1 hkI1 ?_)
  |(clear h; intro x K h; replace h := And.left (And.intro h trivial); unfold mc_30; replace h := tY h; refine tB ?_)
  |(clear h; (try refine tB ?_); exact tU0; done))
 | (simp only [ha1])
 | (refine hK1 _ ?_; (try refine tB ?_); refine ⟨_, h, ?_⟩; exact tU0; done)
 | (refine tE ?_; (first | rw [M.lok_compU] | rw [M.lokD_compU]); refine tB ?_)
 | (refine tA ?_))
noncomputable def F_1j (a_ : GEstate) (place_ : Int) (t_ : Int) (x29 : Int) : Option (Fl Int (Sum Unit (Int × Bool))) :=
 bif decide (0 ≤ x29) then (F_e a_ place_ x29 t_).bind fun y37 => bif y37 then some (.ex (.inr (x29, true))) else chk (in64 (x29 - 1)) (some (.nx (x29 - 1))) else some (.ex (.inl ()))
noncomputable def F_1f (a_ : GEstate) (place_ : Int) (t_ : Int) : Option (Int × Bool) :=
 chk (in64 ((a_.Events.length : Int) - 1)) ((loop (F_1j a_ place_ t_) ((a_.Events.length : Int) - 1)).bind fun r38 => Sum.elim (fun u39 => some (0, false)) (fun u40 => some u40) r38)
@[irreducible] def mc_1j : MC :=
 (.seq (sR [oV 8 13,
 mo (.bin false .geq (.t 13) (cI 0)) 14]
 (.cond (.t 14)
 .skip
 (.exit 0)))
 (.seq (.block 1
 (sR [mo (.ld (some 2) (.t 3)) 17,
 oV 1 18,
 oV 8 19,
 oV 2 20,
 mo (.call (.f 40) [(.t 17),(.t 18),(.t 19),(.t 20)] [] []) 21]
 (.cond (.t 21)
 (.seq (.note (.gc [8]) (.reg [oV 8 22,
 oV 22 6,
 mo (.mv (.c (.bool true))) 7]))
 .ret)
 .skip)))
 (.reg [oV 8 15,
 mo (.bin true .sub (.t 15) (cI 1)) 16,
 oV 16 8])))
def mc_1f : MC :=
 (sR [mo (.box (.t 0)) 3,
 oC 0 6,
 mo (.mv (.c (.bool false))) 7]
 (.seq (sR [oF 1 3 9,
 oL 9 10,
 mo (.len false (.t 10)) 11,
 mo (.bin true .sub (.t 11) (cI 1)) 12,
 oV 12 8]
 (.block 0
 (.loop mc_1j)))
 (sR [oC 0 6,
 mo (.mv (.c (.bool false))) 7]
 .ret)))
theorem Wq_1f {a_ : GEstate} {place_ t_ : Int} : Cn Tryz.prog 21 [GEstate.v a_, .int .i64 place_, .int .i64 t_] [] (F_1f a_ place_ t_) (fun z => .tup [.int .i64 z.1, .bool z.2]) (fun z => []) := fun Q Q' h hQ => by
 refine acallM mc_1f [] [] [.t 6, .t 7] Tryz.func21 fun M => ?_
 unfold F_1f at h
 unfold mc_1f
 replace h := tY h
 refine tB ?_
 repeat' (first
 | (exact tZ)
 | ((first | refine oblg h ?_ | refine roomG h ?_ | refine fork h ?_ ?_ | refine forkS h ?_ ?_) <;> clear h <;> intro hc h)
 | (obtain ⟨y, hy, h⟩ := h; have hw := Wq_e.w hy; replace hw := tY hw; (first | refine M.sC hw ?_ | refine M.sD hw ?_); clear hw hy; refine tB ?_)
 | (refine M.wh1 (b := mc_1j) [1,2,3] [3] (fun x => [(8, .int .i64 x)]) (fun x => []) [] h ?_ ?_ <;> first
 | (clear h; intro x Qn K hK1 h; unfold F_1j at h; unfold mc_1j; replace h := tY h; refine tB ?_)
  |(clear h; (try refine tB ?_); exact tU0; done))
 | (refine hK1 _ ?_; (try refine tB ?_); refine ⟨_, h, ?_⟩; exact tU0; done)
 | (refine tE ?_; (first | rw [M.lok_compU] | rw [M.lokD_compU]); refine tB ?_)
 | (refine tA ?_))
def F_3n (k28 : Int) (a29 : Bool) (x27 : List Int) : Option (List Int) :=
 bif a29 then chk (room (x27.length + [k28].length) 8) (some (x27 ++ [k28])) else some x27
def F_1k (d_ : GDirectory) (p_ : Int) (t_ : Int) : Option (List Int) :=
 (F_9 d_).bind fun y7 => bif (!y7) then some [] else (F_3 d_ p_).bind fun y8 => bif (!y8) then some [] else (upF d_.Kinds.length (d_.Events.map fun e => (e.Time, e.Kind, e.Principal, e.Group)) p_ t_).bind fun y21 => (foldL F_3n y21 0 []).bind fun x30 => some x30
@[irreducible] def mc_3n : MC :=
 (sR [mo (.bin false .lss (.t 24) (.t 23)) 25]
 (.seq (.cond (.t 25)
 .skip
 (.exit 0))
 (.seq (.block 1
 (sR [oV 24 26,
 mo (.iad 1 (.t 22) (.t 24)) 27,
 oL 27 28,
 oV 26 8,
 oV 28 9]
 (sR [oV 9 29]
 (.cond (.t 29)
 (.reg [oV 7 30,
 oV 8 31,
 mo (.bslice 1 [(.t 31)]) 32,
 mo (.app 1 8 (.t 30) (.t 32)) 33,
 oV 33 7])
 .skip))))
 (.reg [mo (.bin true .add (.t 24) (cI 1)) 34,
 oV 34 24]))))
def mc_1k : MC :=
 (sR [mo (.box (.t 0)) 3,
 mo (.mv (.c (.sl []))) 6]
 (.seq (sR [mo (.ld (some 2) (.t 3)) 10,
 mo (.call (.f 33) [(.t 10)] [] []) 11,
 mo (.not (.t 11)) 12,
 oV 12 13,
 gF 13 14 (.ld (some 2) (.t 3)),
 gF 13 15 (.mv (.t 1)),
 gF 13 16 (.call (.f 38) [(.t 14),(.t 15)] [] []),
 gF 13 17 (.not (.t 16)),
 mo (.pick (.t 13) (.c (.bool true)) (.t 17)) 18]
 (.cond (.t 18)
 (sR [mo (.mv (.c (.sl []))) 6]
 .ret)
 .skip))
 (sR [mo (.mv (.c .nils)) 7]
 (.seq (.seq (.note (.gc [1,2,3,7]) (.reg [mo (.ld (some 2) (.t 3)) 19,
 oV 1 20,
 oV 2 21,
 mo (.call (.f 85) [(.t 19),(.t 20),(.t 21)] [] []) 22,
 mo (.len false (.t 22)) 23,
 oC 0 24]))
 (.block 0
 (.loop mc_3n)))
 (sR [oV 7 35,
 oV 35 6]
 .ret)))))
theorem Wq_1k {d_ : GDirectory} {p_ t_ : Int} : Cn Tryz.prog 57 [GDirectory.v d_, .int .i64 p_, .int .i64 t_] [] (F_1k d_ p_ t_) (fun z => .sl (z.map (V.int .i64))) (fun z => []) := fun Q Q' h hQ => by
 refine acallM mc_1k [.fz 6] [] [.t 6] Tryz.func57 fun M => ?_
 unfold F_1k at h
 unfold mc_1k
 replace h := tY h
 refine tB ?_
 repeat' (first
 | (exact tZ)
 | ((first | refine oblg h ?_ | refine roomG h ?_ | refine fork h ?_ ?_ | refine forkS h ?_ ?_) <;> clear h <;> intro hc h)
 | (obtain ⟨y, hy, h⟩ := h; (first | (with_reducible first | have hw := Wq_9.w hy | have hw := Wq_3.w hy) | have hw := W_up (f := GMember.v) (e4 := fun e => (e.Time, e.Kind, e.Principal, e.Group)) (fun _ => rfl) hy); replace hw := tY hw; (first | refine M.sC hw ?_ | refine M.sD hw ?_); clear hw hy; refine tB ?_)
 | (refine M.fold1 (b := mc_3n) 24 [22,23] [] (fun x => [(7, .osl 2007 1 0 x.length)]) (fun x => [.o 2007 (.arr 1 (x.map (V.int .i64)))]) [.gc [7,22,23,24], .acc 7 2007 1] h ?_ ?_ ?_ <;> first
 | (clear h; intro k a x Qn K hK1 hkN1 ha1 h hf; have hl := fact_int (factsE_find (n := 23) hf.1 rfl); clear hf; have hkd := kD hkN1; have hkB1 := kB hkN1; have hkI1 := kI (k := k) (by omega); unfold F_3n at h; unfold mc_3n; replace h := tY h; refine tK ha1 hkd hkN1 hkB1 hkI1 ?_)
  |(clear h; intro x K h; replace h := And.left (And.intro h trivial); unfold mc_3n; replace h := tY h; refine tB ?_)
  |(clear h; (try refine tB ?_); exact tU0; done))
 | (simp only [ha1])
 | (refine hK1 _ ?_; (try refine tB ?_); refine ⟨_, h, ?_⟩; exact tU0; done)
 | (refine tE ?_; (first | rw [M.lok_compU] | rw [M.lokD_compU]); refine tB ?_)
 | (refine tA ?_))
noncomputable def F_42 (a_ : GEstate) (place_ : Int) (t_ : Int) (x26 : Int × (List Int)) : Option (Fl (Int × (List Int)) (List Int)) :=
 bif decide (x26.1 < 24) then jn (α := List Int) ((F_19 a_ place_ x26.1 t_).bind fun y34 => bif decide (0 ≤ y34) then chk (room (x26.2.length + [x26.1].length) 8) (some (x26.2 ++ [x26.1])) else some x26.2) fun j32 => chk (in64 (x26.1 + 1)) (some (.nx ((x26.1 + 1), j32))) else some (.ex x26.2)
noncomputable def F_1l (a_ : GEstate) (place_ : Int) (t_ : Int) : Option (List Int) :=
 (F_4 a_ place_).bind fun y4 => bif (!y4) then some [] else (loop (F_42 a_ place_ t_) (0,[])).bind fun r35 => some r35
@[irreducible] def mc_6t : MC :=
 (.reg [oV 8 15,
 mo (.bin true .add (.t 15) (cI 1)) 16,
 oV 16 8])
@[irreducible] def mc_42 : MC :=
 (.seq (sR [oV 8 13,
 mo (.bin false .lss (.t 13) (cI 24)) 14]
 (.cond (.t 14)
 .skip
 (.exit 0)))
 (.cut (.block 1
 (sR [mo (.ld (some 2) (.t 3)) 17,
 oV 1 18,
 oV 8 19,
 oV 2 20,
 mo (.call (.f 86) [(.t 17),(.t 18),(.t 19),(.t 20)] [] []) 21,
 mo (.bin false .geq (.t 21) (cI 0)) 22]
 (.cond (.t 22)
 (.note (.gc [1,2,3,7,8]) (.reg [oV 7 23,
 oV 8 24,
 mo (.bslice 1 [(.t 24)]) 25,
 mo (.app 1 8 (.t 23) (.t 25)) 26,
 oV 26 7]))
 .skip)))
 mc_6t))
def mc_1l : MC :=
 (sR [mo (.box (.t 0)) 3,
 mo (.mv (.c (.sl []))) 6]
 (.seq (sR [mo (.ld (some 2) (.t 3)) 9,
 oV 1 10,
 mo (.call (.f 30) [(.t 9),(.t 10)] [] []) 11,
 mo (.not (.t 11)) 12]
 (.cond (.t 12)
 (sR [mo (.mv (.c (.sl []))) 6]
 .ret)
 .skip))
 (sR [mo (.mv (.c .nils)) 7]
 (.seq (sR [oC 0 8]
 (.block 0
 (.loop mc_42)))
 (sR [oV 7 27,
 oV 27 6]
 .ret)))))
theorem Wq_1l {a_ : GEstate} {place_ t_ : Int} : Cn Tryz.prog 58 [GEstate.v a_, .int .i64 place_, .int .i64 t_] [] (F_1l a_ place_ t_) (fun z => .sl (z.map (V.int .i64))) (fun z => []) := fun Q Q' h hQ => by
 refine acallM mc_1l [.fz 6] [] [.t 6] Tryz.func58 fun M => ?_
 unfold F_1l at h
 unfold mc_1l
 replace h := tY h
 refine tB ?_
 repeat' (first
 | (exact tZ)
 | ((first | refine oblg h ?_ | refine roomG h ?_ | refine fork h ?_ ?_ | refine forkS h ?_ ?_) <;> clear h <;> intro hc h)
 | (obtain ⟨y, hy, h⟩ := h; (first | with_reducible first | have hw := Wq_4.w hy | have hw := Wq_19.w hy); replace hw := tY hw; (first | refine M.sC hw ?_ | refine M.sD hw ?_); clear hw hy; refine tB ?_)
 | (refine M.jn1 (b := mc_6t) [1,2,3,8] [3] (fun y => [(7, .osl 2007 1 0 y.length)]) (fun y => [.o 2007 (.arr 1 (y.map (V.int .i64)))]) [.gc [1,2,3,7,8], .acc 7 2007 1] h ?_ ?_ <;> first
 | (clear h; intro Qn K hK1 h; replace h := tY h; refine tB ?_)
  |(clear h; intro y h; unfold mc_6t; replace h := tY h; refine tB ?_))
 | (refine M.wh1 (b := mc_42) [1,2,3] [3] (fun x => [(7, .osl 2007 1 0 x.2.length), (8, .int .i64 x.1)]) (fun x => [.o 2007 (.arr 1 (x.2.map (V.int .i64)))]) [.gc [1,2,3,7,8], .acc 7 2007 1] h ?_ ?_ <;> first
 | (clear h; intro x Qn K hK2 h; unfold F_42 at h; unfold mc_42; replace h := tY h; refine tB ?_)
  |(clear h; (try refine tB ?_); exact tU0; done))
 | ((first | refine hK1 _ ?_ | refine hK2 _ ?_); (try refine tB ?_); refine ⟨_, h, ?_⟩; exact tU0; done)
 | (refine tE ?_; (first | rw [M.lok_compU] | rw [M.lokD_compU]); refine tB ?_)
 | (refine tA ?_))
noncomputable def F_3o (y2 : List Int) (k37 : Int) (a38 : Int) (x36 : Unit) : Option (Fl Unit Bool) :=
 (F_1a y2 a38).bind fun y46 => bif y46 then some (.ex true) else some (.nx ())
noncomputable def F_28 (d_ : GDirectory) (a_ : GEstate) (p_ : Int) (place_ : Int) (t_ : Int) : Option Bool :=
 (F_1k d_ p_ t_).bind fun y2 => (F_1l a_ place_ t_).bind fun y25 => (forL (F_3o y2) y25 0 ()).bind fun o => o.elim (fun x47 => some false) (fun r48 => some r48)
@[irreducible] def mc_3o : MC :=
 (sR [mo (.bin false .lss (.t 23) (.t 22)) 24]
 (.seq (.cond (.t 24)
 .skip
 (.exit 0))
 (.seq (.block 1
 (sR [mo (.iad 1 (.t 21) (.t 23)) 25,
 oL 25 26,
 oV 26 13]
 (sR [oV 11 27,
 oV 13 28,
 mo (.call (.f 59) [(.t 27),(.t 28)] [] []) 29]
 (.cond (.t 29)
 (sR [mo (.mv (.c (.bool true))) 10]
 .ret)
 .skip))))
 (.reg [mo (.bin true .add (.t 23) (cI 1)) 30,
 oV 30 23]))))
def mc_28 : MC :=
 (sR [mo (.box (.t 0)) 5,
 mo (.box (.t 1)) 6,
 mo (.mv (.c (.bool false))) 10]
 (sR [mo (.ld (some 2) (.t 5)) 14,
 oV 2 15,
 oV 4 16,
 mo (.call (.f 57) [(.t 14),(.t 15),(.t 16)] [] []) 17,
 oV 17 11]
 (.seq (.seq (.note (.gc [3,4,6,11]) (.reg [mo (.ld (some 2) (.t 6)) 18,
 oV 3 19,
 oV 4 20,
 mo (.call (.f 58) [(.t 18),(.t 19),(.t 20)] [] []) 21,
 mo (.len false (.t 21)) 22,
 oC 0 23]))
 (.block 0
 (.loop mc_3o)))
 (sR [mo (.mv (.c (.bool false))) 10]
 .ret))))
theorem Wq_28 {d_ : GDirectory} {a_ : GEstate} {p_ place_ t_ : Int} : Cn Tryz.prog 34 [GDirectory.v d_, GEstate.v a_, .int .i64 p_, .int .i64 place_, .int .i64 t_] [] (F_28 d_ a_ p_ place_ t_) (fun z => .bool z) (fun z => []) := fun Q Q' h hQ => by
 refine acallM mc_28 [] [] [.t 10] Tryz.func34 fun M => ?_
 unfold F_28 at h
 unfold mc_28
 replace h := tY h
 refine tB ?_
 repeat' (first
 | (exact tZ)
 | ((first | refine oblg h ?_ | refine roomG h ?_ | refine fork h ?_ ?_ | refine forkS h ?_ ?_) <;> clear h <;> intro hc h)
 | (obtain ⟨y, hy, h⟩ := h; (first | with_reducible first | have hw := Wq_1k.w hy | have hw := Wq_1l.w hy | have hw := Wq_1a.w hy); replace hw := tY hw; (first | refine M.sC hw ?_ | refine M.sD hw ?_); clear hw hy; refine tB ?_)
 | (refine M.for1 (b := mc_3o) 23 [11,21,22] [] (fun x => []) (fun x => []) [] h ?_ ?_ ?_ <;> first
 | (clear h; intro k a x Qn K hK1 hkN1 ha1 h hf; have hl := fact_int (factsE_find (n := 22) hf.1 rfl); clear hf; have hkd := kD hkN1; have hkB1 := kB hkN1; have hkI1 := kI (k := k) (by omega); unfold F_3o at h; unfold mc_3o; replace h := tY h; refine tK ha1 hkd hkN1 hkB1 hkI1 ?_)
  |(clear h; intro x K h; replace h := And.left (And.intro h trivial); unfold mc_3o; replace h := tY h; refine tB ?_)
  |(clear h; (try refine tB ?_); exact tU0; done))
 | (simp only [ha1])
 | (refine hK1 _ ?_; (try refine tB ?_); refine ⟨_, h, ?_⟩; exact tU0; done)
 | (refine tE ?_; (first | rw [M.lok_compU] | rw [M.lokD_compU]); refine tB ?_)
 | (refine tA ?_))
noncomputable def F_29 (d_ : GDirectory) (a_ : GEstate) (p_ : Int) (place_ : Int) (t_ : Int) : Option Bool :=
 (F_9 d_).bind fun y10 => bif (!y10) then some false else (F_4 a_ place_).bind fun y11 => bif (!y11) then some false else (F_k d_ p_).bind fun y12 => bif (!y12) then some false else (F_1f a_ place_ t_).bind fun y14 => jn (α := Bool) (bif y14.2 then some true else (F_28 d_ a_ p_ place_ t_).bind fun y18 => some y18) fun j19 => some j19
@[irreducible] def mg_6u : List MOp := [gF 36 37 (.ld (some 2) (.t 5)),
 gF 36 38 (.ld (some 2) (.t 6)),
 gF 36 39 (.mv (.t 2)),
 gF 36 40 (.mv (.t 3)),
 gF 36 41 (.mv (.t 4)),
 gF 36 42 (.call (.f 34) [(.t 37),(.t 38),(.t 39),(.t 40),(.t 41)] [] []),
 mo (.pick (.t 36) (.c (.bool true)) (.t 42)) 43]
def mc_29 : MC :=
 (sR [mo (.box (.t 0)) 5,
 mo (.box (.t 1)) 6,
 mo (.mv (.c (.bool false))) 10]
 (.seq (sR [mo (.ld (some 2) (.t 5)) 13,
 mo (.call (.f 33) [(.t 13)] [] []) 14,
 mo (.not (.t 14)) 15,
 oV 15 16,
 gF 16 17 (.ld (some 2) (.t 6)),
 gF 16 18 (.mv (.t 3)),
 gF 16 19 (.call (.f 30) [(.t 17),(.t 18)] [] []),
 gF 16 20 (.not (.t 19)),
 mo (.pick (.t 16) (.c (.bool true)) (.t 20)) 21,
 oV 21 22,
 gF 22 23 (.ld (some 2) (.t 5)),
 gF 22 24 (.mv (.t 2)),
 gF 22 25 (.call (.f 19) [(.t 23),(.t 24)] [] []),
 gF 22 26 (.not (.t 25)),
 mo (.pick (.t 22) (.c (.bool true)) (.t 26)) 27]
 (.cond (.t 27)
 (sR [mo (.mv (.c (.bool false))) 10]
 .ret)
 .skip))
 (.seq (.note (.gc [2,3,4,5,6,37,38,39,40,41,42]) (.reg [mo (.ld (some 2) (.t 6)) 29,
 oV 3 30,
 oV 4 31,
 mo (.call (.f 21) [(.t 29),(.t 30),(.t 31)] [] []) 32,
 oV 32 28,
 mo (.ext 0 (.t 28)) 33,
 mo (.ext 1 (.t 28)) 34,
 oV 33 11,
 oV 34 12]))
 (.seq (.note (.gc [2,3,4,5,6,12,37,38,39,40,41,42]) (.regI [.op (oV 12 35),
 .op (oV 35 36),
 .grp mg_6u,
 .op (oV 43 10)]))
 .ret))))
theorem Wq_29 {d_ : GDirectory} {a_ : GEstate} {p_ place_ t_ : Int} : Cn Tryz.prog 16 [GDirectory.v d_, GEstate.v a_, .int .i64 p_, .int .i64 place_, .int .i64 t_] [] (F_29 d_ a_ p_ place_ t_) (fun z => .bool z) (fun z => []) := fun Q Q' h hQ => by
 refine acallM mc_29 [] [] [.t 10] Tryz.func16 fun M => ?_
 unfold F_29 at h
 unfold mc_29
 replace h := tY h
 refine tB ?_
 repeat' (first
 | (exact tZ)
 | ((first | refine oblg h ?_ | refine roomG h ?_ | refine fork h ?_ ?_ | refine forkS h ?_ ?_) <;> clear h <;> intro hc h)
 | (obtain ⟨y, hy, h⟩ := h; (first | with_reducible first | have hw := Wq_9.w hy | have hw := Wq_4.w hy | have hw := Wq_k.w hy | have hw := Wq_1f.w hy | have hw := Wq_28.w hy); replace hw := tY hw; (first | refine M.sC hw ?_ | refine M.sD hw ?_); clear hw hy; refine tB ?_)
 | (refine M.gj1 (ms := mg_6u) [] [] (fun y => [(43, .bool y)]) (fun y => []) h ?_ ?_ <;> first
 | (clear h; intro Qn K hK1 h; unfold mg_6u; replace h := tY h; refine tB ?_)
  |(clear h; intro y h; replace h := tY h; refine tB ?_))
 | (refine hK1 _ ?_; (try refine tB ?_); refine ⟨_, h, ?_⟩; exact tU0; done)
 | (refine tE ?_; (first | rw [M.lok_compU] | rw [M.lokD_compU]); refine tB ?_)
 | (refine tA ?_))
noncomputable def F_43 (l_ : List Int) (x9 : Int) : Option (Fl Int (Sum Unit Bool)) :=
 bif decide (x9 < (l_.length : Int)) then chk (in64 (x9 - 1)) (chk (inb (x9 - 1) l_.length) (chk (inb x9 l_.length) (bif decide ((l_.getD (x9).toNat default) ≤ (l_.getD ((x9 - 1)).toNat default)) then some (.ex (.inr false)) else chk (in64 (x9 + 1)) (some (.nx (x9 + 1)))))) else some (.ex (.inl ()))
noncomputable def F_w (l_ : List Int) : Option Bool :=
 (loop (F_43 l_) 1).bind fun r10 => Sum.elim (fun u11 => some true) (fun u12 => some u12) r10
@[irreducible] def mc_43 : MC :=
 (.seq (sR [oV 3 4,
 oV 0 5,
 mo (.len false (.t 5)) 6,
 mo (.bin false .lss (.t 4) (.t 6)) 7]
 (.cond (.t 7)
 .skip
 (.exit 0)))
 (.seq (.block 1
 (.seq (.regD [oV 0 10,
 oV 3 11,
 mo (.bin true .sub (.t 11) (cI 1)) 12,
 mo (.iad 1 (.t 10) (.t 12)) 13,
 oL 13 14,
 oV 0 15,
 oV 3 16,
 mo (.iad 1 (.t 15) (.t 16)) 17,
 oL 17 18,
 mo (.bin false .geq (.t 14) (.t 18)) 19]
 [[],[],[1],[0,2],[3],[],[],[5,6],[7],[4,8]]
 [[],[],[1],[0,1,2],[0,1,2,3],[],[],[5,6],[5,6,7],[0,1,2,3,4,5,6,7,8]])
 (.cond (.t 19)
 (sR [mo (.mv (.c (.bool false))) 2]
 .ret)
 .skip)))
 (.note (.gc [0,3]) (.reg [oV 3 8,
 mo (.bin true .add (.t 8) (cI 1)) 9,
 oV 9 3]))))
def mc_w : MC :=
 (sR [mo (.mv (.c (.bool false))) 2]
 (.seq (sR [oC 1 3]
 (.block 0
 (.loop mc_43)))
 (sR [mo (.mv (.c (.bool true))) 2]
 .ret)))
theorem Wq_w {l_ : List Int} : Cn Tryz.prog 70 [.sl (l_.map (V.int .i64))] [] (F_w l_) (fun z => .bool z) (fun z => []) := fun Q Q' h hQ => by
 refine acallM mc_w [] [] [.t 2] Tryz.func70 fun M => ?_
 unfold F_w at h
 unfold mc_w
 replace h := tY h
 refine tB ?_
 repeat' (first
 | (exact tZ)
 | ((first | refine oblg h ?_ | refine roomG h ?_ | refine fork h ?_ ?_ | refine forkS h ?_ ?_) <;> clear h <;> intro hc h)
 | (refine M.wh1 (b := mc_43) [0] [] (fun x => [(3, .int .i64 x)]) (fun x => []) [] h ?_ ?_ <;> first
 | (clear h; intro x Qn K hK1 h; unfold F_43 at h; unfold mc_43; replace h := tY h; refine tB ?_)
  |(clear h; (try refine tB ?_); exact tU0; done))
 | (refine hK1 _ ?_; (try refine tB ?_); refine ⟨_, h, ?_⟩; exact tU0; done)
 | (refine tE ?_; (first | rw [M.lok_compU] | rw [M.lokD_compU]); refine tB ?_)
 | (refine tA ?_))
def F_31 (x_ : GAccess) (p_ : Int) (p__ : Int) (p___ : Int) : Option Bool :=
 grp ((decide (x_.Kind = 6) && decide (x_.Content = p_))) fun b4 => grp ((b4 && decide (x_.Place = p__))) fun b5 => grp ((b5 && decide (x_.Time ≤ p___))) fun b6 => some b6
@[irreducible] def mg_6v : List MOp := [gT 9 10 (.fad 5 (.t 4)),
 gT 9 11 (.ld none (.t 10)),
 gT 9 12 (.ld none (.t 1)),
 gT 9 13 (.bin false .eql (.t 11) (.t 12)),
 mo (.pick (.t 9) (.t 13) (.c (.bool false))) 14]
@[irreducible] def mg_6w : List MOp := [gT 15 16 (.fad 2 (.t 4)),
 gT 15 17 (.ld none (.t 16)),
 gT 15 18 (.ld none (.t 2)),
 gT 15 19 (.bin false .eql (.t 17) (.t 18)),
 mo (.pick (.t 15) (.t 19) (.c (.bool false))) 20]
@[irreducible] def mg_6x : List MOp := [gT 21 22 (.fad 0 (.t 4)),
 gT 21 23 (.ld none (.t 22)),
 gT 21 24 (.ld none (.t 3)),
 gT 21 25 (.bin false .leq (.t 23) (.t 24)),
 mo (.pick (.t 21) (.t 25) (.c (.bool false))) 26]
def mc_31 : MC :=
 (sR [mo (.box (.t 0)) 4,
 mo (.mv (.c (.bool false))) 5]
 (.seq (.regI [.op (oF 1 4 6),
 .op (oL 6 7),
 .op (mo (.bin false .eql (.t 7) (cI 6)) 8),
 .op (oV 8 9),
 .grp mg_6v,
 .op (oV 14 15),
 .grp mg_6w,
 .op (oV 20 21),
 .grp mg_6x,
 .op (oV 26 5)])
 .ret))
theorem Wq_31 {x_ : GAccess} {p_ p__ p___ : Int} : Cn Tryz.prog 99 [GAccess.v x_, .ptr 1000 0, .ptr 1001 0, .ptr 1002 0] [(1000, .cells [.int .i64 p_]), (1001, .cells [.int .i64 p__]), (1002, .cells [.int .i64 p___])] (F_31 x_ p_ p__ p___) (fun z => .bool z) (fun z => [(1000, .cells [.int .i64 p_]), (1001, .cells [.int .i64 p__]), (1002, .cells [.int .i64 p___])]) := fun Q Q' h hQ => by
 refine acallM mc_31 [] [1000,1001,1002] [.t 5] Tryz.func99 fun M => ?_
 unfold F_31 at h
 unfold mc_31
 replace h := tY h
 refine tB ?_
 repeat' (first
 | (exact tZ)
 | ((first | refine oblg h ?_ | refine roomG h ?_ | refine fork h ?_ ?_ | refine forkS h ?_ ?_) <;> clear h <;> intro hc h)
 | (refine M.gv1 (ms := mg_6x) 26 [22,23,24,25] h ?_ ?_ <;> first
 | (clear h; intro K hK1; unfold mg_6x; refine tB ?_)
 | (clear h; intro b h; replace h := tY h; refine tB ?_))
 | (refine M.gv1 (ms := mg_6w) 20 [16,17,18,19] h ?_ ?_ <;> first
 | (clear h; intro K hK2; unfold mg_6w; refine tB ?_)
 | (clear h; intro b h; replace h := tY h; refine tB ?_))
 | (refine M.gv1 (ms := mg_6v) 14 [10,11,12,13] h ?_ ?_ <;> first
 | (clear h; intro K hK3; unfold mg_6v; refine tB ?_)
 | (clear h; intro b h; replace h := tY h; refine tB ?_))
 | ((first | refine hK1 _ ?_ | refine hK2 _ ?_ | refine hK3 _ ?_); exact tU; done)
 | (refine bfork (fun hc => ?_) (fun hc => ?_))
 | (refine tE ?_; (first | rw [M.lok_compU] | rw [M.lokD_compU]); refine tB ?_)
 | (refine tA ?_))
def F_3p (fc0_ : Int) (fc1_ : Int) (fc2_ : Int) (k31 : Int) (a32 : GAccess) (x30 : Unit) : Option (Fl Unit Int) :=
 (F_31 a32 fc0_ fc1_ fc2_).bind fun y40 => bif y40 then some (.ex k31) else some (.nx ())
def F_32 (s_ : List GAccess) (fc0_ : Int) (fc1_ : Int) (fc2_ : Int) : Option Int :=
 (forL (F_3p fc0_ fc1_ fc2_) s_ 0 ()).bind fun o => o.elim (fun x41 => some (-1)) (fun r42 => some r42)
@[irreducible] def mc_3p : MC :=
 (sR [mo (.bin false .lss (.t 8) (.t 7)) 9]
 (.seq (.cond (.t 9)
 .skip
 (.exit 0))
 (.seq (.block 1
 (sR [oV 8 10,
 oV 10 5]
 (sR [oV 1 11,
 oV 0 12,
 oV 5 13,
 mo (.iad 7 (.t 12) (.t 13)) 14,
 mo (.ld (some 7) (.t 14)) 15,
 mo (.call (.t 11) [(.t 15)] [1000,1001,1002] []) 16]
 (.cond (.t 16)
 (sR [oV 5 17,
 oV 17 4]
 .ret)
 .skip))))
 (.reg [mo (.bin true .add (.t 8) (cI 1)) 18,
 oV 18 8]))))
def mc_32 : MC :=
 (sR [oC 0 4]
 (.seq (sR [oV 0 6,
 mo (.len false (.t 6)) 7,
 oC 0 8]
 (.block 0
 (.loop mc_3p)))
 (sR [oC (-1) 4]
 .ret)))
theorem Wq_32 {s_ : List GAccess} {fc0_ fc1_ fc2_ : Int} : Cn Tryz.prog 102 [.sl (s_.map GAccess.v), .fn (.func 99) [.ptr 1000 0, .ptr 1001 0, .ptr 1002 0]] [(1000, .cells [.int .i64 fc0_]), (1001, .cells [.int .i64 fc1_]), (1002, .cells [.int .i64 fc2_])] (F_32 s_ fc0_ fc1_ fc2_) (fun z => .int .i64 z) (fun z => [(1000, .cells [.int .i64 fc0_]), (1001, .cells [.int .i64 fc1_]), (1002, .cells [.int .i64 fc2_])]) := fun Q Q' h hQ => by
 refine acallM mc_32 [] [1000,1001,1002] [.t 4] Tryz.func102 fun M => ?_
 unfold F_32 at h
 unfold mc_32
 replace h := tY h
 refine tB ?_
 repeat' (first
 | (exact tZ)
 | ((first | refine oblg h ?_ | refine roomG h ?_ | refine fork h ?_ ?_ | refine forkS h ?_ ?_) <;> clear h <;> intro hc h)
 | (obtain ⟨y, hy, h⟩ := h; have hw := Wq_31.w hy; replace hw := tY hw; (first | refine M.sC hw ?_ | refine M.sD hw ?_); clear hw hy; refine tB ?_)
 | (refine M.for1 (b := mc_3p) 8 [0,1,7] [1002,1001,1000] (fun x => []) (fun x => []) [] h ?_ ?_ ?_ <;> first
 | (clear h; intro k a x Qn K hK1 hkN1 ha1 h hf; have hl := fact_int (factsE_find (n := 7) hf.1 rfl); clear hf; have hkd := kD hkN1; have hkB1 := kB hkN1; have hkI1 := kI (k := k) (by omega); unfold F_3p at h; unfold mc_3p; replace h := tY h; refine tK ha1 hkd hkN1 hkB1 hkI1 ?_)
  |(clear h; intro x K h; replace h := And.left (And.intro h trivial); unfold mc_3p; replace h := tY h; refine tB ?_)
  |(clear h; (try refine tB ?_); exact tU0; done))
 | (simp only [ha1])
 | (refine hK1 _ ?_; (try refine tB ?_); refine ⟨_, h, ?_⟩; exact tU0; done)
 | (refine tE ?_; (first | rw [M.lok_compU] | rw [M.lokD_compU]); refine tB ?_)
 | (refine tA ?_))
def F_2a (s_ : List GAccess) (fc0_ : Int) (fc1_ : Int) (fc2_ : Int) : Option Bool :=
 (F_32 s_ fc0_ fc1_ fc2_).bind fun y2 => some (decide (0 ≤ y2))
def mc_2a : MC :=
 (sR [mo (.mv (.c (.bool false))) 4]
 (sR [oV 0 5,
 oV 1 6,
 mo (.call (.f 102) [(.t 5),(.t 6)] [1000,1001,1002] []) 7,
 mo (.bin false .geq (.t 7) (cI 0)) 8,
 oV 8 4]
 .ret))
theorem Wq_2a {s_ : List GAccess} {fc0_ fc1_ fc2_ : Int} : Cn Tryz.prog 76 [.sl (s_.map GAccess.v), .fn (.func 99) [.ptr 1000 0, .ptr 1001 0, .ptr 1002 0]] [(1000, .cells [.int .i64 fc0_]), (1001, .cells [.int .i64 fc1_]), (1002, .cells [.int .i64 fc2_])] (F_2a s_ fc0_ fc1_ fc2_) (fun z => .bool z) (fun z => [(1000, .cells [.int .i64 fc0_]), (1001, .cells [.int .i64 fc1_]), (1002, .cells [.int .i64 fc2_])]) := fun Q Q' h hQ => by
 refine acallM mc_2a [] [1000,1001,1002] [.t 4] Tryz.func76 fun M => ?_
 unfold F_2a at h
 unfold mc_2a
 replace h := tY h
 refine tB ?_
 repeat' (first
 | (exact tZ)
 | ((first | refine oblg h ?_ | refine roomG h ?_ | refine fork h ?_ ?_ | refine forkS h ?_ ?_) <;> clear h <;> intro hc h)
 | (obtain ⟨y, hy, h⟩ := h; have hw := Wq_32.w hy; replace hw := tY hw; (first | refine M.sC hw ?_ | refine M.sD hw ?_); clear hw hy; refine tB ?_)
 | (refine tE ?_; (first | rw [M.lok_compU] | rw [M.lokD_compU]); refine tB ?_)
 | (refine tA ?_))
def F_x (l_ : List GAccess) (content_ : Int) (place_ : Int) (t_ : Int) : Option Bool :=
 (F_2a l_ content_ place_ t_).bind fun y2 => some y2
def mc_x : MC :=
 (sR [mo (.box (.t 1)) 5,
 mo (.box (.t 2)) 6,
 mo (.box (.t 3)) 7,
 mo (.mv (.c (.bool false))) 8]
 (sR [oV 0 9,
 mo (.mkfn 99 [(.t 5),(.t 6),(.t 7)]) 10,
 mo (.call (.f 76) [(.t 9),(.t 10)] [5,6,7] []) 11,
 oV 11 8]
 .ret))
theorem Wq_x {l_ : List GAccess} {content_ place_ t_ : Int} : Cn Tryz.prog 71 [.sl (l_.map GAccess.v), .int .i64 content_, .int .i64 place_, .int .i64 t_] [] (F_x l_ content_ place_ t_) (fun z => .bool z) (fun z => []) := fun Q Q' h hQ => by
 refine acallM mc_x [] [] [.t 8] Tryz.func71 fun M => ?_
 unfold F_x at h
 unfold mc_x
 replace h := tY h
 refine tB ?_
 repeat' (first
 | (exact tZ)
 | ((first | refine oblg h ?_ | refine roomG h ?_ | refine fork h ?_ ?_ | refine forkS h ?_ ?_) <;> clear h <;> intro hc h)
 | (obtain ⟨y, hy, h⟩ := h; have hw := acall_swe 1002 7 (acall_swe 1001 6 (acall_swe 1000 5 (Wq_2a.w hy))); replace hw := tY hw; (first | refine M.sC hw ?_ | refine M.sD hw ?_); clear hw hy; refine tB ?_)
 | (refine tE ?_; (first | rw [M.lok_compU] | rw [M.lokD_compU]); refine tB ?_)
 | (refine tA ?_))
noncomputable def F_3q (a_ : GEstate) (content_ : Int) (t_ : Int) (way_ : List Int) (k148 : Int) (a149 : Int) (x147 : Unit) : Option (Fl Unit Bool) :=
 chk (inb a149 a_.Events.length) (jn (α := Int) (bif decide ((k148 + 1) < (way_.length : Int)) then chk (inb (k148 + 1) way_.length) (some (way_.getD ((k148 + 1)).toNat default)) else some (a_.Events.length : Int)) fun j180 => grp ((decide (k148 = 0) && decide ((a_.Events.getD (a149).toNat default).Kind = 5))) fun b183 => grp ((b183 && decide ((a_.Events.getD (a149).toNat default).Content = content_))) fun b184 => jn (α := Bool) (bif decide (0 < k148) then bif decide ((a_.Events.getD (a149).toNat default).Kind = 7) then chk (in64 (k148 - 1)) (chk (inb (k148 - 1) way_.length) (chk (inb (way_.getD ((k148 - 1)).toNat default) a_.Events.length) (some (decide ((a_.Events.getD (a149).toNat default).From = (a_.Events.getD ((way_.getD ((k148 - 1)).toNat default)).toNat default).Place))))) else some false else some false) fun j185 => bif (!b184) then bif (!j185) then some (.ex false) else bif decide (t_ < (a_.Events.getD (a149).toNat default).Time) then some (.ex false) else chk (in64 (a149 + 1)) (chk (inc (a149 + 1) j180 a_.Events.length) ((F_x ((a_.Events.take ((j180).toNat)).drop (((a149 + 1)).toNat)) content_ ((a_.Events.getD (a149).toNat default).Place) t_).bind fun y188 => bif y188 then some (.ex false) else some (.nx ()))) else bif decide (t_ < (a_.Events.getD (a149).toNat default).Time) then some (.ex false) else chk (in64 (a149 + 1)) (chk (inc (a149 + 1) j180 a_.Events.length) ((F_x ((a_.Events.take ((j180).toNat)).drop (((a149 + 1)).toNat)) content_ ((a_.Events.getD (a149).toNat default).Place) t_).bind fun y189 => bif y189 then some (.ex false) else some (.nx ()))))
noncomputable def F_2b (a_ : GEstate) (content_ : Int) (place_ : Int) (t_ : Int) (way_ : List Int) : Option Bool :=
 jn (α := Fl Unit Bool) ((F_5 a_).bind fun y29 => bif (!decide (y29 = 0)) then grp (true) fun b30 => bif b30 then some (.ex false) else (F_w way_).bind fun y31 => bif (!y31) then some (.ex false) else some (.nx ()) else (F_2 content_).bind fun y32 => bif (!y32) then grp (true) fun b33 => bif b33 then some (.ex false) else (F_w way_).bind fun y34 => bif (!y34) then some (.ex false) else some (.nx ()) else (F_7 a_ place_).bind fun y35 => grp (((!y35) || decide ((way_.length : Int) = 0))) fun b36 => bif b36 then some (.ex false) else (F_w way_).bind fun y37 => bif (!y37) then some (.ex false) else some (.nx ())) fun o => o.elim (fun j19 => chk (inb 0 way_.length) (bif decide ((way_.getD 0 default) < 0) then some false else chk (in64 ((way_.length : Int) - 1)) (chk (inb ((way_.length : Int) - 1) way_.length) (bif decide ((a_.Events.length : Int) ≤ (way_.getD (((way_.length : Int) - 1)).toNat default)) then some false else (forL (F_3q a_ content_ t_ way_) way_ 0 ()).bind fun o => o.elim (fun x190 => chk (in64 ((way_.length : Int) - 1)) (chk (inb ((way_.length : Int) - 1) way_.length) (chk (inb (way_.getD (((way_.length : Int) - 1)).toNat default) a_.Events.length) (some (decide ((a_.Events.getD ((way_.getD (((way_.length : Int) - 1)).toNat default)).toNat default).Place = place_)))))) (fun r191 => some r191))))) (fun r192 => some r192)
@[irreducible] def mg_44 : List MOp := [gF 31 32 (.mv (.t 4)),
 gF 31 33 (.len false (.t 32)),
 gF 31 34 (.bin false .eql (.t 33) (cI 0)),
 mo (.pick (.t 31) (.c (.bool true)) (.t 34)) 35]
@[irreducible] def mg_6y : List MOp := [gT 84 85 (.fad 1 (.t 13)),
 gT 84 86 (.ld none (.t 85)),
 gT 84 87 (.bin false .eql (.t 86) (cI 5)),
 mo (.pick (.t 84) (.t 87) (.c (.bool false))) 88]
@[irreducible] def mg_6z : List MOp := [gT 89 90 (.fad 5 (.t 13)),
 gT 89 91 (.ld none (.t 90)),
 gT 89 92 (.mv (.t 1)),
 gT 89 93 (.bin false .eql (.t 91) (.t 92)),
 mo (.pick (.t 89) (.t 93) (.c (.bool false))) 94]
@[irreducible] def mc_70 : MC :=
 (.seq (.regD [oV 15 117,
 mo (.not (.t 117)) 118,
 oV 118 119,
 gT 119 120 (.mv (.t 16)),
 gT 119 121 (.not (.t 120)),
 mo (.pick (.t 119) (.t 121) (.c (.bool false))) 122,
 oV 122 123,
 gF 123 124 (.fad 0 (.t 13)),
 gF 123 125 (.ld none (.t 124)),
 gF 123 126 (.mv (.t 3)),
 gF 123 127 (.bin false .gtr (.t 125) (.t 126)),
 mo (.pick (.t 123) (.c (.bool true)) (.t 127)) 128,
 oV 128 129,
 gF 129 130 (.fad 1 (.t 5)),
 gF 129 131 (.ld none (.t 130)),
 gF 129 132 (.mv (.t 12)),
 gF 129 133 (.bin true .add (.t 132) (cI 1)),
 gF 129 134 (.mv (.t 14)),
 gF 129 135 (.slc 7 (.t 131) (some (.t 133)) (some (.t 134))),
 gF 129 136 (.mv (.t 1)),
 gF 129 137 (.fad 2 (.t 13)),
 gF 129 138 (.ld none (.t 137)),
 gF 129 139 (.mv (.t 3)),
 gF 129 140 (.call (.f 71) [(.t 135),(.t 136),(.t 138),(.t 139)] [] []),
 mo (.pick (.t 129) (.c (.bool true)) (.t 140)) 141]
 [[],[0],[1],[2],[3,2],[2,4],[5,2],[6],[7,6],[6],[8,9,6],[6,10],[11,6],[12],[13,12],[12],[15,12],[12],[14,16,17,12],[12],[12],[20,12],[12],[18,19,21,22,12,12],[12,23]]
 [[],[0],[0,1],[0,1,2],[0,1,2,3],[0,1,2,3,4],[0,1,2,3,4,5],[0,1,2,3,4,5,6],[0,1,2,3,4,5,6,7],[0,1,2,3,4,5,6],[0,1,2,3,4,5,6,7,8,9],[0,1,2,3,4,5,6,7,8,9,10],[0,1,2,3,4,5,6,7,8,9,10,11],[0,1,2,3,4,5,6,7,8,9,10,11,12],[0,1,2,3,4,5,6,7,8,9,10,11,12,13],[0,1,2,3,4,5,6,7,8,9,10,11,12],[0,1,2,3,4,5,6,7,8,9,10,11,12,15],[0,1,2,3,4,5,6,7,8,9,10,11,12],[0,1,2,3,4,5,6,7,8,9,10,11,12,13,14,15,16,17],[0,1,2,3,4,5,6,7,8,9,10,11,12],[0,1,2,3,4,5,6,7,8,9,10,11,12],[0,1,2,3,4,5,6,7,8,9,10,11,12,20],[0,1,2,3,4,5,6,7,8,9,10,11,12],[0,1,2,3,4,5,6,7,8,9,10,11,12,13,14,15,16,17,18,19,20,21,22],[0,1,2,3,4,5,6,7,8,9,10,11,12,13,14,15,16,17,18,19,20,21,22,23]])
 (.cond (.t 141)
 (sR [mo (.mv (.c (.bool false))) 10]
 .ret)
 .skip))
@[irreducible] def mc_71 : MC :=
 (.seq (.regI [.op (oV 11 82),
 .op (mo (.bin false .eql (.t 82) (cI 0)) 83),
 .op (oV 83 84),
 .grp mg_6y,
 .op (oV 88 89),
 .grp mg_6z,
 .op (oV 94 15)])
 (.cut (.regD [oV 11 95,
 mo (.bin false .gtr (.t 95) (cI 0)) 96,
 oV 96 97,
 gT 97 98 (.fad 1 (.t 13)),
 gT 97 99 (.ld none (.t 98)),
 gT 97 100 (.bin false .eql (.t 99) (cI 7)),
 mo (.pick (.t 97) (.t 100) (.c (.bool false))) 101,
 oV 101 102,
 gT 102 103 (.fad 6 (.t 13)),
 gT 102 104 (.ld none (.t 103)),
 gT 102 105 (.fad 1 (.t 5)),
 gT 102 106 (.ld none (.t 105)),
 gT 102 107 (.mv (.t 4)),
 gT 102 108 (.mv (.t 11)),
 gT 102 109 (.bin true .sub (.t 108) (cI 1)),
 gT 102 110 (.iad 1 (.t 107) (.t 109)),
 gT 102 111 (.ld none (.t 110)),
 gT 102 112 (.iad 7 (.t 106) (.t 111)),
 gT 102 113 (.fad 2 (.t 112)),
 gT 102 114 (.ld none (.t 113)),
 gT 102 115 (.bin false .eql (.t 104) (.t 114)),
 mo (.pick (.t 102) (.t 115) (.c (.bool false))) 116,
 oV 116 16]
 [[],[0],[1],[2],[3,2],[4,2],[2,5],[6,2],[7],[8,7],[7],[10,7],[7],[7],[13,7],[12,14,7],[15,7],[11,16,7],[17,7],[18,7],[9,19,7],[7,20],[21,7,0,1,2,3,4,5,6,7,8,9,10,11,12,13,14,15,16,17,18,19,20,21]]
 [[],[0],[0,1],[0,1,2],[0,1,2,3],[0,1,2,3,4],[0,1,2,3,4,5],[0,1,2,3,4,5,6],[0,1,2,3,4,5,6,7],[0,1,2,3,4,5,6,7,8],[0,1,2,3,4,5,6,7],[0,1,2,3,4,5,6,7,10],[0,1,2,3,4,5,6,7],[0,1,2,3,4,5,6,7],[0,1,2,3,4,5,6,7,13],[0,1,2,3,4,5,6,7,12,13,14],[0,1,2,3,4,5,6,7,12,13,14,15],[0,1,2,3,4,5,6,7,10,11,12,13,14,15,16],[0,1,2,3,4,5,6,7,10,11,12,13,14,15,16,17],[0,1,2,3,4,5,6,7,10,11,12,13,14,15,16,17,18],[0,1,2,3,4,5,6,7,8,9,10,11,12,13,14,15,16,17,18,19],[0,1,2,3,4,5,6,7,8,9,10,11,12,13,14,15,16,17,18,19,20],[0,1,2,3,4,5,6,7,8,9,10,11,12,13,14,15,16,17,18,19,20,21]])
 mc_70))
@[irreducible] def mc_3q : MC :=
 (sR [mo (.bin false .lss (.t 59) (.t 58)) 60]
 (.seq (.cond (.t 60)
 .skip
 (.exit 0))
 (.seq (.block 1
 (sR [oV 59 61,
 mo (.iad 1 (.t 57) (.t 59)) 62,
 oL 62 63,
 oV 61 11,
 oV 63 12]
 (sR [oF 1 5 64,
 oL 64 65,
 oV 12 66,
 mo (.iad 7 (.t 65) (.t 66)) 67,
 mo (.ld (some 7) (.t 67)) 68,
 mo (.alloc [(.int .i64 0),(.int .i64 0),(.int .i64 0),(.int .i64 0),(.int .i64 0),(.int .i64 0),(.int .i64 0)]) 13,
 ⟨.st 7 (.t 13) (.t 68), none, none⟩]
 (.seq (.note (.gc [1,2,3,4,5,11,12,13,57,58,59,85,86,87,90,91,92,93,98,99,100,103,104,105,106,107,108,109,110,111,112,113,114,115,120,121,124,125,126,127,130,131,132,133,134,135,136,137,138,139,140]) (.reg [oF 1 5 69,
 oL 69 70,
 mo (.len false (.t 70)) 71,
 oV 71 14]))
 (.cut (sR [oV 11 72,
 mo (.bin true .add (.t 72) (cI 1)) 73,
 oV 4 74,
 mo (.len false (.t 74)) 75,
 mo (.bin false .lss (.t 73) (.t 75)) 76]
 (.cond (.t 76)
 (.note (.gc [1,2,3,4,5,11,12,13,57,58,59,85,86,87,90,91,92,93,98,99,100,103,104,105,106,107,108,109,110,111,112,113,114,115,120,121,124,125,126,127,130,131,132,133,134,135,136,137,138,139,140]) (.reg [oV 4 77,
 oV 11 78,
 mo (.bin true .add (.t 78) (cI 1)) 79,
 mo (.iad 1 (.t 77) (.t 79)) 80,
 oL 80 81,
 oV 81 14]))
 .skip))
 mc_71)))))
 (.reg [mo (.bin true .add (.t 59) (cI 1)) 142,
 oV 142 59]))))
@[irreducible] def mc_72 : MC :=
 (.seq (.seq (.regD [oV 4 41,
 mo (.iad 1 (.t 41) (cI 0)) 42,
 oL 42 43,
 mo (.bin false .lss (.t 43) (cI 0)) 44,
 oV 44 45,
 gF 45 46 (.mv (.t 4)),
 gF 45 47 (.mv (.t 4)),
 gF 45 48 (.len false (.t 47)),
 gF 45 49 (.bin true .sub (.t 48) (cI 1)),
 gF 45 50 (.iad 1 (.t 46) (.t 49)),
 gF 45 51 (.ld none (.t 50)),
 gF 45 52 (.fad 1 (.t 5)),
 gF 45 53 (.ld none (.t 52)),
 gF 45 54 (.len false (.t 53)),
 gF 45 55 (.bin false .geq (.t 51) (.t 54)),
 mo (.pick (.t 45) (.c (.bool true)) (.t 55)) 56]
 [[],[0],[1],[2],[3],[4],[4],[6,4],[7,4],[5,8,4],[9,4],[4],[11,4],[12,4],[10,13,4],[4,14]]
 [[],[0],[0,1],[0,1,2],[0,1,2,3],[0,1,2,3,4],[0,1,2,3,4],[0,1,2,3,4,6],[0,1,2,3,4,6,7],[0,1,2,3,4,5,6,7,8],[0,1,2,3,4,5,6,7,8,9],[0,1,2,3,4],[0,1,2,3,4,11],[0,1,2,3,4,11,12],[0,1,2,3,4,5,6,7,8,9,10,11,12,13],[0,1,2,3,4,5,6,7,8,9,10,11,12,13,14]])
 (.cond (.t 56)
 (sR [mo (.mv (.c (.bool false))) 10]
 .ret)
 .skip))
 (.seq (.seq (.note (.gc [1,2,3,4,5,85,86,87,90,91,92,93,98,99,100,103,104,105,106,107,108,109,110,111,112,113,114,115,120,121,124,125,126,127,130,131,132,133,134,135,136,137,138,139,140]) (.reg [oV 4 57,
 mo (.len false (.t 57)) 58,
 oC 0 59]))
 (.block 0
 (.loop mc_3q)))
 (.seq (.regD [oF 1 5 143,
 oL 143 144,
 oV 4 145,
 oV 4 146,
 mo (.len false (.t 146)) 147,
 mo (.bin true .sub (.t 147) (cI 1)) 148,
 mo (.iad 1 (.t 145) (.t 148)) 149,
 oL 149 150,
 mo (.iad 7 (.t 144) (.t 150)) 151,
 oF 2 151 152,
 oL 152 153,
 oV 2 154,
 mo (.bin false .eql (.t 153) (.t 154)) 155,
 oV 155 10]
 [[],[0],[],[],[3],[4],[2,5],[6],[1,7],[8],[9],[],[10,11],[12,0,1,2,3,4,5,6,7,8,9,10,11,12]]
 [[],[0],[],[],[3],[3,4],[2,3,4,5],[2,3,4,5,6],[0,1,2,3,4,5,6,7],[0,1,2,3,4,5,6,7,8],[0,1,2,3,4,5,6,7,8,9],[],[0,1,2,3,4,5,6,7,8,9,10,11],[0,1,2,3,4,5,6,7,8,9,10,11,12]])
 .ret)))
def mc_2b : MC :=
 (sR [mo (.box (.t 0)) 5,
 mo (.mv (.c (.bool false))) 10]
 (.cut (.seq (.regI [.op (mo (.ld (some 2) (.t 5)) 17),
 .op (mo (.call (.f 62) [(.t 17)] [] []) 18),
 .op (mo (.bin false .neq (.t 18) (cI 0)) 19),
 .op (oV 19 20),
 .op (gF 20 21 (.mv (.t 1))),
 .op (gF 20 22 (.call (.f 51) [(.t 21)] [] [])),
 .op (gF 20 23 (.not (.t 22))),
 .op (mo (.pick (.t 20) (.c (.bool true)) (.t 23)) 24),
 .op (oV 24 25),
 .op (gF 25 26 (.ld (some 2) (.t 5))),
 .op (gF 25 27 (.mv (.t 2))),
 .op (gF 25 28 (.call (.f 63) [(.t 26),(.t 27)] [] [])),
 .op (gF 25 29 (.not (.t 28))),
 .op (mo (.pick (.t 25) (.c (.bool true)) (.t 29)) 30),
 .op (oV 30 31),
 .grp mg_44,
 .op (oV 35 36),
 .op (gF 36 37 (.mv (.t 4))),
 .op (gF 36 38 (.call (.f 70) [(.t 37)] [] [])),
 .op (gF 36 39 (.not (.t 38))),
 .op (mo (.pick (.t 36) (.c (.bool true)) (.t 39)) 40)])
 (.cond (.t 40)
 (sR [mo (.mv (.c (.bool false))) 10]
 .ret)
 .skip))
 mc_72))
theorem Wq_2b {a_ : GEstate} {content_ place_ t_ : Int} {way_ : List Int} : Cn Tryz.prog 44 [GEstate.v a_, .int .i64 content_, .int .i64 place_, .int .i64 t_, .sl (way_.map (V.int .i64))] [] (F_2b a_ content_ place_ t_ way_) (fun z => .bool z) (fun z => []) := fun Q Q' h hQ => by
 refine acallM mc_2b [] [] [.t 10] Tryz.func44 fun M => ?_
 unfold F_2b at h
 unfold mc_2b
 replace h := tY h
 refine tB ?_
 repeat' (first
 | (exact tZ)
 | ((first | refine oblg h ?_ | refine roomG h ?_ | refine fork h ?_ ?_ | refine forkS h ?_ ?_) <;> clear h <;> intro hc h)
 | (obtain ⟨y, hy, h⟩ := h; (first | with_reducible first | have hw := Wq_5.w hy | have hw := Wq_w.w hy | have hw := Wq_2.w hy | have hw := Wq_7.w hy | have hw := Wq_x.w hy); replace hw := tY hw; (first | refine M.sC hw ?_ | refine M.sD hw ?_); clear hw hy; refine tB ?_)
 | (refine M.gv1 (ms := mg_44) 35 [32,33,34] h ?_ ?_ <;> first
 | (clear h; intro K hK1; unfold mg_44; refine tB ?_)
 | (clear h; intro b h; replace h := tY h; refine tB ?_))
 | (refine M.gv1 (ms := mg_44) 35 [32,33,34] h ?_ ?_ <;> first
 | (clear h; intro K hK2; unfold mg_44; refine tB ?_)
 | (clear h; intro b h; replace h := tY h; refine tB ?_))
 | (refine M.gv1 (ms := mg_44) 35 [32,33,34] h ?_ ?_ <;> first
 | (clear h; intro K hK3; unfold mg_44; refine tB ?_)
 | (clear h; intro b h; replace h := tY h; refine tB ?_))
 | (refine M.jn1 (b := mc_70) [1,2,3,4,5,12,13,14,15,57,58,59] [13,5] (fun y => [(16, .bool y)]) (fun y => []) [] h ?_ ?_ <;> first
 | (clear h; intro Qn K hK4 h; replace h := tY h; refine tB ?_)
  |(clear h; intro y h; unfold mc_70; replace h := tY h; refine tB ?_))
 | (refine M.gv1 (ms := mg_6z) 94 [90,91,92,93] h ?_ ?_ <;> first
 | (clear h; intro K hK5; unfold mg_6z; refine tB ?_)
 | (clear h; intro b h; replace h := tY h; refine tB ?_))
 | (refine M.gv1 (ms := mg_6y) 88 [85,86,87] h ?_ ?_ <;> first
 | (clear h; intro K hK6; unfold mg_6y; refine tB ?_)
 | (clear h; intro b h; replace h := tY h; refine tB ?_))
 | (refine M.jn1 (b := mc_71) [1,2,3,4,5,11,12,13,57,58,59] [13,5] (fun y => [(14, .int .i64 y)]) (fun y => []) [] h ?_ ?_ <;> first
 | (clear h; intro Qn K hK7 h; replace h := tY h; refine tB ?_)
  |(clear h; intro y h; unfold mc_71; replace h := tY h; refine tB ?_))
 | (refine M.for1 (b := mc_3q) 59 [1,2,3,4,5,57,58] [5] (fun x => []) (fun x => []) [] h ?_ ?_ ?_ <;> first
 | (clear h; intro k a x Qn K hK8 hkN8 ha8 h hf; have hl := fact_int (factsE_find (n := 58) hf.1 rfl); clear hf; have hkd := kD hkN8; have hkB8 := kB hkN8; have hkI8 := kI (k := k) (by omega); unfold F_3q at h; unfold mc_3q; replace h := tY h; refine tK ha8 hkd hkN8 hkB8 hkI8 ?_)
  |(clear h; intro x K h; replace h := And.left (And.intro h trivial); unfold mc_3q; replace h := tY h; refine tB ?_)
  |(clear h; (try refine tB ?_); exact tU0; done))
 | (refine M.jnE (b := mc_72) [1,2,3,4,5] [5] (fun y => []) (fun y => []) [] h ?_ ?_ <;> first
 | (clear h; intro Qn K hK9 h; replace h := tY h; refine tB ?_)
  |(clear h; intro y h; unfold mc_72; replace h := tY h; refine tB ?_))
 | (simp only [ha8])
 | ((first | refine hK1 _ ?_ | refine hK2 _ ?_ | refine hK3 _ ?_ | refine hK5 _ ?_ | refine hK6 _ ?_); exact tU; done)
 | ((first | refine hK4 _ ?_ | refine hK7 _ ?_ | refine hK8 _ ?_ | refine hK9 _ ?_); (try refine tB ?_); refine ⟨_, h, ?_⟩; exact tU0; done)
 | (refine bfork (fun hc => ?_) (fun hc => ?_))
 | (refine tE ?_; (first | rw [M.lok_compU] | rw [M.lokD_compU]); refine tB ?_)
 | (refine tA ?_))
def F_y (y_ : GAccess) (p_ : Int) (p__ : Int) : Option Bool :=
 grp ((decide (y_.Kind = 4) && decide (y_.Place = p_))) fun b3 => grp ((b3 && decide (y_.Time ≤ p__))) fun b4 => some b4
@[irreducible] def mg_73 : List MOp := [gT 8 9 (.fad 2 (.t 3)),
 gT 8 10 (.ld none (.t 9)),
 gT 8 11 (.ld none (.t 1)),
 gT 8 12 (.bin false .eql (.t 10) (.t 11)),
 mo (.pick (.t 8) (.t 12) (.c (.bool false))) 13]
@[irreducible] def mg_74 : List MOp := [gT 14 15 (.fad 0 (.t 3)),
 gT 14 16 (.ld none (.t 15)),
 gT 14 17 (.ld none (.t 2)),
 gT 14 18 (.bin false .leq (.t 16) (.t 17)),
 mo (.pick (.t 14) (.t 18) (.c (.bool false))) 19]
def mc_y : MC :=
 (sR [mo (.box (.t 0)) 3,
 mo (.mv (.c (.bool false))) 4]
 (.seq (.regI [.op (oF 1 3 5),
 .op (oL 5 6),
 .op (mo (.bin false .eql (.t 6) (cI 4)) 7),
 .op (oV 7 8),
 .grp mg_73,
 .op (oV 13 14),
 .grp mg_74,
 .op (oV 19 4)])
 .ret))
theorem Wq_y {y_ : GAccess} {p_ p__ : Int} : Cn Tryz.prog 75 [GAccess.v y_, .ptr 1000 0, .ptr 1001 0] [(1000, .cells [.int .i64 p_]), (1001, .cells [.int .i64 p__])] (F_y y_ p_ p__) (fun z => .bool z) (fun z => [(1000, .cells [.int .i64 p_]), (1001, .cells [.int .i64 p__])]) := fun Q Q' h hQ => by
 refine acallM mc_y [] [1000,1001] [.t 4] Tryz.func75 fun M => ?_
 unfold F_y at h
 unfold mc_y
 replace h := tY h
 refine tB ?_
 repeat' (first
 | (exact tZ)
 | ((first | refine oblg h ?_ | refine roomG h ?_ | refine fork h ?_ ?_ | refine forkS h ?_ ?_) <;> clear h <;> intro hc h)
 | (refine M.gv1 (ms := mg_74) 19 [15,16,17,18] h ?_ ?_ <;> first
 | (clear h; intro K hK1; unfold mg_74; refine tB ?_)
 | (clear h; intro b h; replace h := tY h; refine tB ?_))
 | (refine M.gv1 (ms := mg_73) 13 [9,10,11,12] h ?_ ?_ <;> first
 | (clear h; intro K hK2; unfold mg_73; refine tB ?_)
 | (clear h; intro b h; replace h := tY h; refine tB ?_))
 | ((first | refine hK1 _ ?_ | refine hK2 _ ?_); exact tU; done)
 | (refine bfork (fun hc => ?_) (fun hc => ?_))
 | (refine tE ?_; (first | rw [M.lok_compU] | rw [M.lokD_compU]); refine tB ?_)
 | (refine tA ?_))
def F_3r (fc0_ : Int) (fc1_ : Int) (k31 : Int) (a32 : GAccess) (x30 : Unit) : Option (Fl Unit Int) :=
 (F_y a32 fc0_ fc1_).bind fun y40 => bif y40 then some (.ex k31) else some (.nx ())
def F_33 (s_ : List GAccess) (fc0_ : Int) (fc1_ : Int) : Option Int :=
 (forL (F_3r fc0_ fc1_) s_ 0 ()).bind fun o => o.elim (fun x41 => some (-1)) (fun r42 => some r42)
@[irreducible] def mc_3r : MC :=
 (sR [mo (.bin false .lss (.t 8) (.t 7)) 9]
 (.seq (.cond (.t 9)
 .skip
 (.exit 0))
 (.seq (.block 1
 (sR [oV 8 10,
 oV 10 5]
 (sR [oV 1 11,
 oV 0 12,
 oV 5 13,
 mo (.iad 7 (.t 12) (.t 13)) 14,
 mo (.ld (some 7) (.t 14)) 15,
 mo (.call (.t 11) [(.t 15)] [1000,1001] []) 16]
 (.cond (.t 16)
 (sR [oV 5 17,
 oV 17 4]
 .ret)
 .skip))))
 (.reg [mo (.bin true .add (.t 8) (cI 1)) 18,
 oV 18 8]))))
def mc_33 : MC :=
 (sR [oC 0 4]
 (.seq (sR [oV 0 6,
 mo (.len false (.t 6)) 7,
 oC 0 8]
 (.block 0
 (.loop mc_3r)))
 (sR [oC (-1) 4]
 .ret)))
theorem Wq_33 {s_ : List GAccess} {fc0_ fc1_ : Int} : Cn Tryz.prog 102 [.sl (s_.map GAccess.v), .fn (.func 75) [.ptr 1000 0, .ptr 1001 0]] [(1000, .cells [.int .i64 fc0_]), (1001, .cells [.int .i64 fc1_])] (F_33 s_ fc0_ fc1_) (fun z => .int .i64 z) (fun z => [(1000, .cells [.int .i64 fc0_]), (1001, .cells [.int .i64 fc1_])]) := fun Q Q' h hQ => by
 refine acallM mc_33 [] [1000,1001] [.t 4] Tryz.func102 fun M => ?_
 unfold F_33 at h
 unfold mc_33
 replace h := tY h
 refine tB ?_
 repeat' (first
 | (exact tZ)
 | ((first | refine oblg h ?_ | refine roomG h ?_ | refine fork h ?_ ?_ | refine forkS h ?_ ?_) <;> clear h <;> intro hc h)
 | (obtain ⟨y, hy, h⟩ := h; have hw := Wq_y.w hy; replace hw := tY hw; (first | refine M.sC hw ?_ | refine M.sD hw ?_); clear hw hy; refine tB ?_)
 | (refine M.for1 (b := mc_3r) 8 [0,1,7] [1001,1000] (fun x => []) (fun x => []) [] h ?_ ?_ ?_ <;> first
 | (clear h; intro k a x Qn K hK1 hkN1 ha1 h hf; have hl := fact_int (factsE_find (n := 7) hf.1 rfl); clear hf; have hkd := kD hkN1; have hkB1 := kB hkN1; have hkI1 := kI (k := k) (by omega); unfold F_3r at h; unfold mc_3r; replace h := tY h; refine tK ha1 hkd hkN1 hkB1 hkI1 ?_)
  |(clear h; intro x K h; replace h := And.left (And.intro h trivial); unfold mc_3r; replace h := tY h; refine tB ?_)
  |(clear h; (try refine tB ?_); exact tU0; done))
 | (simp only [ha1])
 | (refine hK1 _ ?_; (try refine tB ?_); refine ⟨_, h, ?_⟩; exact tU0; done)
 | (refine tE ?_; (first | rw [M.lok_compU] | rw [M.lokD_compU]); refine tB ?_)
 | (refine tA ?_))
def F_2c (s_ : List GAccess) (fc0_ : Int) (fc1_ : Int) : Option Bool :=
 (F_33 s_ fc0_ fc1_).bind fun y2 => some (decide (0 ≤ y2))
def mc_2c : MC :=
 (sR [mo (.mv (.c (.bool false))) 4]
 (sR [oV 0 5,
 oV 1 6,
 mo (.call (.f 102) [(.t 5),(.t 6)] [1000,1001] []) 7,
 mo (.bin false .geq (.t 7) (cI 0)) 8,
 oV 8 4]
 .ret))
theorem Wq_2c {s_ : List GAccess} {fc0_ fc1_ : Int} : Cn Tryz.prog 76 [.sl (s_.map GAccess.v), .fn (.func 75) [.ptr 1000 0, .ptr 1001 0]] [(1000, .cells [.int .i64 fc0_]), (1001, .cells [.int .i64 fc1_])] (F_2c s_ fc0_ fc1_) (fun z => .bool z) (fun z => [(1000, .cells [.int .i64 fc0_]), (1001, .cells [.int .i64 fc1_])]) := fun Q Q' h hQ => by
 refine acallM mc_2c [] [1000,1001] [.t 4] Tryz.func76 fun M => ?_
 unfold F_2c at h
 unfold mc_2c
 replace h := tY h
 refine tB ?_
 repeat' (first
 | (exact tZ)
 | ((first | refine oblg h ?_ | refine roomG h ?_ | refine fork h ?_ ?_ | refine forkS h ?_ ?_) <;> clear h <;> intro hc h)
 | (obtain ⟨y, hy, h⟩ := h; have hw := Wq_33.w hy; replace hw := tY hw; (first | refine M.sC hw ?_ | refine M.sD hw ?_); clear hw hy; refine tB ?_)
 | (refine tE ?_; (first | rw [M.lok_compU] | rw [M.lokD_compU]); refine tB ?_)
 | (refine tA ?_))
def F_z (a_ : GEstate) (place_ : Int) (t_ : Int) (link_ : Int) : Option Bool :=
 grp ((decide (link_ < 0) || decide ((a_.Events.length : Int) ≤ link_))) fun b4 => bif b4 then some false else chk (inb link_ a_.Events.length) (grp ((decide ((a_.Events.getD (link_).toNat default).Kind = 3) && decide ((a_.Events.getD (link_).toNat default).Place = place_))) fun b10 => grp ((b10 && decide ((a_.Events.getD (link_).toNat default).Time ≤ t_))) fun b11 => grp ((b11 && decide (t_ < (a_.Events.getD (link_).toNat default).Until))) fun b12 => jn (α := Bool) (bif b12 then chk (in64 (link_ + 1)) (chk (inc (link_ + 1) (a_.Events.length : Int) a_.Events.length) ((F_2c (a_.Events.drop (((link_ + 1)).toNat)) place_ t_).bind fun y14 => some (!y14))) else some false) fun j15 => some j15)
@[irreducible] def mg_y : List MOp := [gF 13 14 (.mv (.t 3)),
 gF 13 15 (.fad 1 (.t 4)),
 gF 13 16 (.ld none (.t 15)),
 gF 13 17 (.len false (.t 16)),
 gF 13 18 (.bin false .geq (.t 14) (.t 17)),
 mo (.pick (.t 13) (.c (.bool true)) (.t 18)) 19]
@[irreducible] def mg_75 : List MOp := [gT 29 30 (.fad 2 (.t 9)),
 gT 29 31 (.ld none (.t 30)),
 gT 29 32 (.ld none (.t 5)),
 gT 29 33 (.bin false .eql (.t 31) (.t 32)),
 mo (.pick (.t 29) (.t 33) (.c (.bool false))) 34]
@[irreducible] def mg_76 : List MOp := [gT 35 36 (.fad 0 (.t 9)),
 gT 35 37 (.ld none (.t 36)),
 gT 35 38 (.ld none (.t 6)),
 gT 35 39 (.bin false .leq (.t 37) (.t 38)),
 mo (.pick (.t 35) (.t 39) (.c (.bool false))) 40]
@[irreducible] def mg_77 : List MOp := [gT 41 42 (.fad 4 (.t 9)),
 gT 41 43 (.ld none (.t 42)),
 gT 41 44 (.ld none (.t 6)),
 gT 41 45 (.bin false .gtr (.t 43) (.t 44)),
 mo (.pick (.t 41) (.t 45) (.c (.bool false))) 46]
@[irreducible] def mg_78 : List MOp := [gT 47 48 (.fad 1 (.t 4)),
 gT 47 49 (.ld none (.t 48)),
 gT 47 50 (.mv (.t 3)),
 gT 47 51 (.bin true .add (.t 50) (cI 1)),
 gT 47 52 (.slc 7 (.t 49) (some (.t 51)) none),
 gT 47 53 (.mv (.t 10)),
 gT 47 54 (.call (.f 76) [(.t 52),(.t 53)] [5,6] []),
 gT 47 55 (.not (.t 54)),
 mo (.pick (.t 47) (.t 55) (.c (.bool false))) 56]
def mc_z : MC :=
 (sR [mo (.box (.t 0)) 4,
 mo (.box (.t 1)) 5,
 mo (.box (.t 2)) 6,
 mo (.mv (.c (.bool false))) 8]
 (.seq (.seq (.regI [.op (oV 3 11),
 .op (mo (.bin false .lss (.t 11) (cI 0)) 12),
 .op (oV 12 13),
 .grp mg_y])
 (.cond (.t 19)
 (sR [mo (.mv (.c (.bool false))) 8]
 .ret)
 .skip))
 (.seq (.note (.gc [3,4,5,6,30,31,32,33,36,37,38,39,42,43,44,45,48,49,50,51,52,53,54,55]) (.reg [oF 1 4 20,
 oL 20 21,
 oV 3 22,
 mo (.iad 7 (.t 21) (.t 22)) 23,
 mo (.ld (some 7) (.t 23)) 24,
 mo (.alloc [(.int .i64 0),(.int .i64 0),(.int .i64 0),(.int .i64 0),(.int .i64 0),(.int .i64 0),(.int .i64 0)]) 9,
 ⟨.st 7 (.t 9) (.t 24), none, none⟩]))
 (sR [mo (.mkfn 75 [(.t 5),(.t 6)]) 25,
 oV 25 10]
 (.seq (.regI [.op (oF 1 9 26),
 .op (oL 26 27),
 .op (mo (.bin false .eql (.t 27) (cI 3)) 28),
 .op (oV 28 29),
 .grp mg_75,
 .op (oV 34 35),
 .grp mg_76,
 .op (oV 40 41),
 .grp mg_77,
 .op (oV 46 47),
 .grp mg_78,
 .op (oV 56 8)])
 .ret)))))
theorem Wq_z {a_ : GEstate} {place_ t_ link_ : Int} : Cn Tryz.prog 46 [GEstate.v a_, .int .i64 place_, .int .i64 t_, .int .i64 link_] [] (F_z a_ place_ t_ link_) (fun z => .bool z) (fun z => []) := fun Q Q' h hQ => by
 refine acallM mc_z [] [] [.t 8] Tryz.func46 fun M => ?_
 unfold F_z at h
 unfold mc_z
 replace h := tY h
 refine tB ?_
 repeat' (first
 | (exact tZ)
 | ((first | refine oblg h ?_ | refine roomG h ?_ | refine fork h ?_ ?_ | refine forkS h ?_ ?_) <;> clear h <;> intro hc h)
 | (obtain ⟨y, hy, h⟩ := h; have hw := acall_swe 1001 6 (acall_swe 1000 5 (Wq_2c.w hy)); replace hw := tY hw; (first | refine M.sC hw ?_ | refine M.sD hw ?_); clear hw hy; refine tB ?_)
 | (refine M.gj1 (ms := mg_78) [] [] (fun y => [(56, .bool y)]) (fun y => []) h ?_ ?_ <;> first
 | (clear h; intro Qn K hK1 h; unfold mg_78; replace h := tY h; refine tB ?_)
  |(clear h; intro y h; replace h := tY h; refine tB ?_))
 | (refine M.gv1 (ms := mg_77) 46 [42,43,44,45] h ?_ ?_ <;> first
 | (clear h; intro K hK2; unfold mg_77; refine tB ?_)
 | (clear h; intro b h; replace h := tY h; refine tB ?_))
 | (refine M.gv1 (ms := mg_76) 40 [36,37,38,39] h ?_ ?_ <;> first
 | (clear h; intro K hK3; unfold mg_76; refine tB ?_)
 | (clear h; intro b h; replace h := tY h; refine tB ?_))
 | (refine M.gv1 (ms := mg_75) 34 [30,31,32,33] h ?_ ?_ <;> first
 | (clear h; intro K hK4; unfold mg_75; refine tB ?_)
 | (clear h; intro b h; replace h := tY h; refine tB ?_))
 | (refine M.gv1 (ms := mg_y) 19 [14,15,16,17,18] h ?_ ?_ <;> first
 | (clear h; intro K hK5; unfold mg_y; refine tB ?_)
 | (clear h; intro b h; replace h := tY h; refine tB ?_))
 | (refine hK1 _ ?_; (try refine tB ?_); refine ⟨_, h, ?_⟩; exact tU0; done)
 | ((first | refine hK2 _ ?_ | refine hK3 _ ?_ | refine hK4 _ ?_ | refine hK5 _ ?_); exact tU; done)
 | (refine bfork (fun hc => ?_) (fun hc => ?_))
 | (refine tE ?_; (first | rw [M.lok_compU] | rw [M.lokD_compU]); refine tB ?_)
 | (refine tA ?_))
def F_2d (a_ : GEstate) (place_ : Int) (t_ : Int) (number_ : Int) : Option (Int × Bool) :=
 grp ((decide (number_ < 0) || decide ((a_.Events.length : Int) ≤ number_))) fun b4 => bif b4 then some (0, false) else chk (inb number_ a_.Events.length) ((F_u a_ place_ ((a_.Events.getD (number_).toNat default).Principal) t_).bind fun y6 => bif y6.2 then bif decide ((a_.Events.getD (number_).toNat default).Kind = 1) then bif decide ((a_.Events.getD (number_).toNat default).Place = place_) then some ((a_.Events.getD (number_).toNat default).Principal, decide ((a_.Events.getD (number_).toNat default).Time ≤ t_)) else some ((a_.Events.getD (number_).toNat default).Principal, false) else some ((a_.Events.getD (number_).toNat default).Principal, false) else some ((a_.Events.getD (number_).toNat default).Principal, false))
@[irreducible] def mg_79 : List MOp := [gF 15 16 (.mv (.t 3)),
 gF 15 17 (.fad 1 (.t 4)),
 gF 15 18 (.ld none (.t 17)),
 gF 15 19 (.len false (.t 18)),
 gF 15 20 (.bin false .geq (.t 16) (.t 19)),
 mo (.pick (.t 15) (.c (.bool true)) (.t 20)) 21]
def mc_2d : MC :=
 (sR [mo (.box (.t 0)) 4,
 oC 0 8,
 mo (.mv (.c (.bool false))) 9]
 (.seq (.seq (.regI [.op (oV 3 13),
 .op (mo (.bin false .lss (.t 13) (cI 0)) 14),
 .op (oV 14 15),
 .grp mg_79])
 (.cond (.t 21)
 (sR [oC 0 8,
 mo (.mv (.c (.bool false))) 9]
 .ret)
 .skip))
 (sR [oF 1 4 22,
 oL 22 23,
 oV 3 24,
 mo (.iad 7 (.t 23) (.t 24)) 25,
 mo (.ld (some 7) (.t 25)) 26,
 mo (.alloc [(.int .i64 0),(.int .i64 0),(.int .i64 0),(.int .i64 0),(.int .i64 0),(.int .i64 0),(.int .i64 0)]) 10,
 ⟨.st 7 (.t 10) (.t 26), none, none⟩]
 (.seq (.note (.gc [1,2,4,10,40,41,42,45,46,47,48,51,52,53,54]) (.reg [mo (.ld (some 2) (.t 4)) 28,
 oV 1 29,
 oF 3 10 30,
 oL 30 31,
 oV 2 32,
 mo (.call (.f 66) [(.t 28),(.t 29),(.t 31),(.t 32)] [] []) 33,
 oV 33 27,
 mo (.ext 0 (.t 27)) 34,
 mo (.ext 1 (.t 27)) 35,
 oV 34 11,
 oV 35 12]))
 (.seq (.note (.gc [1,2,10,12,40,41,42,45,46,47,48,51,52,53,54]) (.regD [oF 3 10 36,
 oL 36 37,
 oV 12 38,
 oV 38 39,
 gT 39 40 (.fad 1 (.t 10)),
 gT 39 41 (.ld none (.t 40)),
 gT 39 42 (.bin false .eql (.t 41) (cI 1)),
 mo (.pick (.t 39) (.t 42) (.c (.bool false))) 43,
 oV 43 44,
 gT 44 45 (.fad 2 (.t 10)),
 gT 44 46 (.ld none (.t 45)),
 gT 44 47 (.mv (.t 1)),
 gT 44 48 (.bin false .eql (.t 46) (.t 47)),
 mo (.pick (.t 44) (.t 48) (.c (.bool false))) 49,
 oV 49 50,
 gT 50 51 (.fad 0 (.t 10)),
 gT 50 52 (.ld none (.t 51)),
 gT 50 53 (.mv (.t 2)),
 gT 50 54 (.bin false .leq (.t 52) (.t 53)),
 mo (.pick (.t 50) (.t 54) (.c (.bool false))) 55,
 oV 37 8,
 oV 55 9]
 [[],[0],[],[2],[3],[4,3],[5,3],[3,6],[7,3],[8],[9,8],[8],[10,11,8],[8,12],[13,8],[14],[15,14],[14],[16,17,14],[14,18],[1,14,0,1],[19,20,0,1,2,3,4,5,6,7,8,9,10,11,12,13,14,15,16,17,18,19,20]]
 [[],[0],[],[2],[2,3],[2,3,4],[2,3,4,5],[2,3,4,5,6],[2,3,4,5,6,7],[2,3,4,5,6,7,8],[2,3,4,5,6,7,8,9],[2,3,4,5,6,7,8],[2,3,4,5,6,7,8,9,10,11],[2,3,4,5,6,7,8,9,10,11,12],[2,3,4,5,6,7,8,9,10,11,12,13],[2,3,4,5,6,7,8,9,10,11,12,13,14],[2,3,4,5,6,7,8,9,10,11,12,13,14,15],[2,3,4,5,6,7,8,9,10,11,12,13,14],[2,3,4,5,6,7,8,9,10,11,12,13,14,15,16,17],[2,3,4,5,6,7,8,9,10,11,12,13,14,15,16,17,18],[0,1,2,3,4,5,6,7,8,9,10,11,12,13,14],[0,1,2,3,4,5,6,7,8,9,10,11,12,13,14,15,16,17,18,19,20]]))
 .ret)))))
theorem Wq_2d {a_ : GEstate} {place_ t_ number_ : Int} : Cn Tryz.prog 73 [GEstate.v a_, .int .i64 place_, .int .i64 t_, .int .i64 number_] [] (F_2d a_ place_ t_ number_) (fun z => .tup [.int .i64 z.1, .bool z.2]) (fun z => []) := fun Q Q' h hQ => by
 refine acallM mc_2d [] [] [.t 8, .t 9] Tryz.func73 fun M => ?_
 unfold F_2d at h
 unfold mc_2d
 replace h := tY h
 refine tB ?_
 repeat' (first
 | (exact tZ)
 | ((first | refine oblg h ?_ | refine roomG h ?_ | refine fork h ?_ ?_ | refine forkS h ?_ ?_) <;> clear h <;> intro hc h)
 | (obtain ⟨y, hy, h⟩ := h; have hw := Wq_u.w hy; replace hw := tY hw; (first | refine M.sC hw ?_ | refine M.sD hw ?_); clear hw hy; refine tB ?_)
 | (refine M.gv1 (ms := mg_79) 21 [16,17,18,19,20] h ?_ ?_ <;> first
 | (clear h; intro K hK1; unfold mg_79; refine tB ?_)
 | (clear h; intro b h; replace h := tY h; refine tB ?_))
 | (refine hK1 _ ?_; exact tU; done)
 | (refine bfork (fun hc => ?_) (fun hc => ?_))
 | (refine tE ?_; (first | rw [M.lok_compU] | rw [M.lokD_compU]); refine tB ?_)
 | (refine tA ?_))
def F_3s (d_ : GDirectory) (chain_ : List Int) (y10 : List (List Bool)) (k61 : Int) (a62 : Int) (x60 : Unit) : Option (Fl Unit Bool) :=
 (F_a d_ a62).bind fun y77 => bif (!y77) then some (.ex false) else chk (inc 0 k61 chain_.length) ((F_p (chain_.take ((k61).toNat)) a62).bind fun y78 => bif y78 then some (.ex false) else bif decide (0 < k61) then chk (in64 (k61 - 1)) (chk (inb (k61 - 1) chain_.length) (chk (inb (chain_.getD ((k61 - 1)).toNat default) y10.length) (chk (inb a62 (y10.getD ((chain_.getD ((k61 - 1)).toNat default)).toNat default).length) (bif (!((y10.getD ((chain_.getD ((k61 - 1)).toNat default)).toNat default).getD (a62).toNat default)) then some (.ex false) else some (.nx ()))))) else some (.nx ()))
def F_2e (d_ : GDirectory) (t_ : Int) (chain_ : List Int) : Option Bool :=
 (F_f d_).bind fun y7 => grp (((!decide (y7 = 0)) || decide ((chain_.length : Int) < 2))) fun b8 => bif b8 then some false else (atF d_.Kinds.length (d_.Events.map fun e => (e.Time, e.Kind, e.Principal, e.Group)) t_).bind fun y10 => (forL (F_3s d_ chain_ y10) chain_ 0 ()).bind fun o => o.elim (fun x79 => some true) (fun r80 => some r80)
@[irreducible] def mg_7a : List MOp := [gF 13 14 (.mv (.t 2)),
 gF 13 15 (.len false (.t 14)),
 gF 13 16 (.bin false .lss (.t 15) (cI 2)),
 mo (.pick (.t 13) (.c (.bool true)) (.t 16)) 17]
@[irreducible] def mc_3s : MC :=
 (sR [mo (.bin false .lss (.t 23) (.t 22)) 24]
 (.seq (.cond (.t 24)
 .skip
 (.exit 0))
 (.seq (.block 1
 (sR [oV 23 25,
 mo (.iad 1 (.t 21) (.t 23)) 26,
 oL 26 27,
 oV 25 8,
 oV 27 9]
 (sR [mo (.ld (some 2) (.t 3)) 28,
 oV 9 29,
 mo (.call (.f 101) [(.t 28),(.t 29)] [] []) 30,
 mo (.not (.t 30)) 31,
 oV 31 32,
 gF 32 33 (.mv (.t 2)),
 gF 32 34 (.mv (.t 8)),
 gF 32 35 (.slc 1 (.t 33) none (some (.t 34))),
 gF 32 36 (.mv (.t 9)),
 gF 32 37 (.call (.f 92) [(.t 35),(.t 36)] [] []),
 mo (.pick (.t 32) (.c (.bool true)) (.t 37)) 38,
 oV 38 39,
 gF 39 40 (.mv (.t 8)),
 gF 39 41 (.bin false .gtr (.t 40) (cI 0)),
 gF 39 42 (.mv (.t 41)),
 gT 42 43 (.mv (.t 7)),
 gT 42 44 (.mv (.t 2)),
 gT 42 45 (.mv (.t 8)),
 gT 42 46 (.bin true .sub (.t 45) (cI 1)),
 gT 42 47 (.iad 1 (.t 44) (.t 46)),
 gT 42 48 (.ld none (.t 47)),
 gT 42 49 (.iad 1 (.t 43) (.t 48)),
 gT 42 50 (.ld none (.t 49)),
 gT 42 51 (.mv (.t 9)),
 gT 42 52 (.iad 1 (.t 50) (.t 51)),
 gT 42 53 (.ld none (.t 52)),
 gT 42 54 (.not (.t 53)),
 gF 39 55 (.pick (.t 42) (.t 54) (.c (.bool false))),
 mo (.pick (.t 39) (.c (.bool true)) (.t 55)) 56]
 (.cond (.t 56)
 (sR [mo (.mv (.c (.bool false))) 6]
 .ret)
 .skip))))
 (.reg [mo (.bin true .add (.t 23) (cI 1)) 57,
 oV 57 23]))))
def mc_2e : MC :=
 (sR [mo (.box (.t 0)) 3,
 mo (.mv (.c (.bool false))) 6]
 (.seq (.seq (.regI [.op (mo (.ld (some 2) (.t 3)) 10),
 .op (mo (.call (.f 79) [(.t 10)] [] []) 11),
 .op (mo (.bin false .neq (.t 11) (cI 0)) 12),
 .op (oV 12 13),
 .grp mg_7a])
 (.cond (.t 17)
 (sR [mo (.mv (.c (.bool false))) 6]
 .ret)
 .skip))
 (sR [mo (.ld (some 2) (.t 3)) 18,
 oV 1 19,
 mo (.call (.f 95) [(.t 18),(.t 19)] [] []) 20,
 oV 20 7]
 (.seq (.seq (.note (.gc [2,3,7,33,34,35,36,37,40,41,42,43,44,45,46,47,48,49,50,51,52,53,54,55]) (.reg [oV 2 21,
 mo (.len false (.t 21)) 22,
 oC 0 23]))
 (.block 0
 (.loop mc_3s)))
 (sR [mo (.mv (.c (.bool true))) 6]
 .ret)))))
theorem Wq_2e {d_ : GDirectory} {t_ : Int} {chain_ : List Int} : Cn Tryz.prog 74 [GDirectory.v d_, .int .i64 t_, .sl (chain_.map (V.int .i64))] [] (F_2e d_ t_ chain_) (fun z => .bool z) (fun z => []) := fun Q Q' h hQ => by
 refine acallM mc_2e [] [] [.t 6] Tryz.func74 fun M => ?_
 unfold F_2e at h
 unfold mc_2e
 replace h := tY h
 refine tB ?_
 repeat' (first
 | (exact tZ)
 | ((first | refine oblg h ?_ | refine roomG h ?_ | refine fork h ?_ ?_ | refine forkS h ?_ ?_) <;> clear h <;> intro hc h)
 | (obtain ⟨y, hy, h⟩ := h; (first | (with_reducible first | have hw := Wq_f.w hy | have hw := Wq_a.w hy | have hw := Wq_p.w hy) | have hw := W_at (f := GMember.v) (e4 := fun e => (e.Time, e.Kind, e.Principal, e.Group)) (fun _ => rfl) hy); replace hw := tY hw; (first | refine M.sC hw ?_ | refine M.sD hw ?_); clear hw hy; refine tB ?_)
 | (refine M.for1 (b := mc_3s) 23 [2,3,7,21,22] [3] (fun x => []) (fun x => []) [] h ?_ ?_ ?_ <;> first
 | (clear h; intro k a x Qn K hK1 hkN1 ha1 h hf; have hl := fact_int (factsE_find (n := 22) hf.1 rfl); clear hf; have hkd := kD hkN1; have hkB1 := kB hkN1; have hkI1 := kI (k := k) (by omega); unfold F_3s at h; unfold mc_3s; replace h := tY h; refine tK ha1 hkd hkN1 hkB1 hkI1 ?_)
  |(clear h; intro x K h; replace h := And.left (And.intro h trivial); unfold mc_3s; replace h := tY h; refine tB ?_)
  |(clear h; (try refine tB ?_); exact tU0; done))
 | (refine M.gv1 (ms := mg_7a) 17 [14,15,16] h ?_ ?_ <;> first
 | (clear h; intro K hK2; unfold mg_7a; refine tB ?_)
 | (clear h; intro b h; replace h := tY h; refine tB ?_))
 | (simp only [ha1])
 | (refine hK1 _ ?_; (try refine tB ?_); refine ⟨_, h, ?_⟩; exact tU0; done)
 | (refine hK2 _ ?_; exact tU; done)
 | (refine bfork (fun hc => ?_) (fun hc => ?_))
 | (refine tE ?_; (first | rw [M.lok_compU] | rw [M.lokD_compU]); refine tB ?_)
 | (refine tA ?_))
def F_1m (d_ : GDirectory) (a_ : GEstate) (p_ : Int) (r_ : GReading) : Option Bool :=
 (F_11 d_ a_ p_ r_.Place).bind fun y4 => bif (!y4) then some false else bif (!decide (r_.Link = (-1))) then grp ((decide (r_.Grant = (-1)) && decide ((r_.Chain.length : Int) = 0))) fun b14 => jn (α := Bool) (bif b14 then (F_z a_ r_.Place r_.Time r_.Link).bind fun y16 => some y16 else some false) fun j17 => some j17 else (F_2d a_ r_.Place r_.Time r_.Grant).bind fun y19 => grp (((!y19.2) || decide ((r_.Chain.length : Int) = 0))) fun b23 => bif b23 then some false else chk (inb 0 r_.Chain.length) (bif (!decide ((r_.Chain.getD 0 default) = p_)) then some false else chk (in64 ((r_.Chain.length : Int) - 1)) (chk (inb ((r_.Chain.length : Int) - 1) r_.Chain.length) (bif (!decide ((r_.Chain.getD (((r_.Chain.length : Int) - 1)).toNat default) = y19.1)) then some false else jn (α := Bool) (bif decide ((r_.Chain.length : Int) = 1) then some true else (F_2e d_ r_.Time r_.Chain).bind fun y27 => some y27) fun j28 => some j28)))
@[irreducible] def mg_7b : List MOp := [gT 24 25 (.fad 4 (.t 7)),
 gT 24 26 (.ld none (.t 25)),
 gT 24 27 (.len false (.t 26)),
 gT 24 28 (.bin false .eql (.t 27) (cI 0)),
 mo (.pick (.t 24) (.t 28) (.c (.bool false))) 29]
@[irreducible] def mg_7c : List MOp := [gT 30 31 (.ld (some 2) (.t 5)),
 gT 30 32 (.fad 0 (.t 7)),
 gT 30 33 (.ld none (.t 32)),
 gT 30 34 (.fad 1 (.t 7)),
 gT 30 35 (.ld none (.t 34)),
 gT 30 36 (.fad 2 (.t 7)),
 gT 30 37 (.ld none (.t 36)),
 gT 30 38 (.call (.f 46) [(.t 31),(.t 33),(.t 35),(.t 37)] [] []),
 mo (.pick (.t 30) (.t 38) (.c (.bool false))) 39]
@[irreducible] def mg_7d : List MOp := [gF 53 54 (.fad 4 (.t 7)),
 gF 53 55 (.ld none (.t 54)),
 gF 53 56 (.len false (.t 55)),
 gF 53 57 (.bin false .eql (.t 56) (cI 0)),
 mo (.pick (.t 53) (.c (.bool true)) (.t 57)) 58]
@[irreducible] def mg_7e : List MOp := [gF 83 84 (.ld (some 2) (.t 4)),
 gF 83 85 (.fad 1 (.t 7)),
 gF 83 86 (.ld none (.t 85)),
 gF 83 87 (.fad 4 (.t 7)),
 gF 83 88 (.ld none (.t 87)),
 gF 83 89 (.call (.f 74) [(.t 84),(.t 86),(.t 88)] [] []),
 mo (.pick (.t 83) (.c (.bool true)) (.t 89)) 90]
def mc_1m : MC :=
 (sR [mo (.box (.t 0)) 4,
 mo (.box (.t 1)) 5,
 mo (.box (.t 3)) 7,
 mo (.mv (.c (.bool false))) 8]
 (.seq (sR [mo (.ld (some 2) (.t 4)) 11,
 mo (.ld (some 2) (.t 5)) 12,
 oV 2 13,
 oF 0 7 14,
 oL 14 15,
 mo (.call (.f 72) [(.t 11),(.t 12),(.t 13),(.t 15)] [] []) 16,
 mo (.not (.t 16)) 17]
 (.cond (.t 17)
 (sR [mo (.mv (.c (.bool false))) 8]
 .ret)
 .skip))
 (.seq (.seq (.note (.gc [2,4,5,7,25,26,27,28,31,32,33,34,35,36,37,38,54,55,56,57,60,61,62,63,64,65,68,69,70,71,72,73,74,75,76,77,84,85,86,87,88,89]) (.reg [oF 2 7 18,
 oL 18 19,
 mo (.bin false .neq (.t 19) (cI (-1))) 20]))
 (.cond (.t 20)
 (.seq (.regI [.op (oF 3 7 21),
 .op (oL 21 22),
 .op (mo (.bin false .eql (.t 22) (cI (-1))) 23),
 .op (oV 23 24),
 .grp mg_7b,
 .op (oV 29 30),
 .grp mg_7c,
 .op (oV 39 8)])
 .ret)
 .skip))
 (sR [mo (.ld (some 2) (.t 5)) 41,
 oF 0 7 42,
 oL 42 43,
 oF 1 7 44,
 oL 44 45,
 oF 3 7 46,
 oL 46 47,
 mo (.call (.f 73) [(.t 41),(.t 43),(.t 45),(.t 47)] [] []) 48,
 oV 48 40,
 mo (.ext 0 (.t 40)) 49,
 mo (.ext 1 (.t 40)) 50,
 oV 49 9,
 oV 50 10]
 (.seq (.seq (.note (.gc [2,4,7,9,10,54,55,56,57,60,61,62,63,64,65,68,69,70,71,72,73,74,75,76,77,84,85,86,87,88,89]) (.regI [.op (oV 10 51),
 .op (mo (.not (.t 51)) 52),
 .op (oV 52 53),
 .grp mg_7d,
 .op (oV 58 59),
 .op (gF 59 60 (.fad 4 (.t 7))),
 .op (gF 59 61 (.ld none (.t 60))),
 .op (gF 59 62 (.iad 1 (.t 61) (cI 0))),
 .op (gF 59 63 (.ld none (.t 62))),
 .op (gF 59 64 (.mv (.t 2))),
 .op (gF 59 65 (.bin false .neq (.t 63) (.t 64))),
 .op (mo (.pick (.t 59) (.c (.bool true)) (.t 65)) 66),
 .op (oV 66 67),
 .op (gF 67 68 (.fad 4 (.t 7))),
 .op (gF 67 69 (.ld none (.t 68))),
 .op (gF 67 70 (.fad 4 (.t 7))),
 .op (gF 67 71 (.ld none (.t 70))),
 .op (gF 67 72 (.len false (.t 71))),
 .op (gF 67 73 (.bin true .sub (.t 72) (cI 1))),
 .op (gF 67 74 (.iad 1 (.t 69) (.t 73))),
 .op (gF 67 75 (.ld none (.t 74))),
 .op (gF 67 76 (.mv (.t 9))),
 .op (gF 67 77 (.bin false .neq (.t 75) (.t 76))),
 .op (mo (.pick (.t 67) (.c (.bool true)) (.t 77)) 78)]))
 (.cond (.t 78)
 (sR [mo (.mv (.c (.bool false))) 8]
 .ret)
 .skip))
 (.seq (.note (.gc [4,7,84,85,86,87,88,89]) (.regI [.op (oF 4 7 79),
 .op (oL 79 80),
 .op (mo (.len false (.t 80)) 81),
 .op (mo (.bin false .eql (.t 81) (cI 1)) 82),
 .op (oV 82 83),
 .grp mg_7e,
 .op (oV 90 8)]))
 .ret))))))
theorem Wq_1m {d_ : GDirectory} {a_ : GEstate} {p_ : Int} {r_ : GReading} : Cn Tryz.prog 45 [GDirectory.v d_, GEstate.v a_, .int .i64 p_, GReading.v r_] [] (F_1m d_ a_ p_ r_) (fun z => .bool z) (fun z => []) := fun Q Q' h hQ => by
 refine acallM mc_1m [] [] [.t 8] Tryz.func45 fun M => ?_
 unfold F_1m at h
 unfold mc_1m
 replace h := tY h
 refine tB ?_
 repeat' (first
 | (exact tZ)
 | ((first | refine oblg h ?_ | refine roomG h ?_ | refine fork h ?_ ?_ | refine forkS h ?_ ?_) <;> clear h <;> intro hc h)
 | (obtain ⟨y, hy, h⟩ := h; (first | with_reducible first | have hw := Wq_11.w hy | have hw := Wq_z.w hy | have hw := Wq_2d.w hy | have hw := Wq_2e.w hy); replace hw := tY hw; (first | refine M.sC hw ?_ | refine M.sD hw ?_); clear hw hy; refine tB ?_)
 | (refine M.gj1 (ms := mg_7c) [] [] (fun y => [(39, .bool y)]) (fun y => []) h ?_ ?_ <;> first
 | (clear h; intro Qn K hK1 h; unfold mg_7c; replace h := tY h; refine tB ?_)
  |(clear h; intro y h; replace h := tY h; refine tB ?_))
 | (refine M.gv1 (ms := mg_7b) 29 [25,26,27,28] h ?_ ?_ <;> first
 | (clear h; intro K hK2; unfold mg_7b; refine tB ?_)
 | (clear h; intro b h; replace h := tY h; refine tB ?_))
 | (refine M.gj1 (ms := mg_7e) [] [] (fun y => [(90, .bool y)]) (fun y => []) h ?_ ?_ <;> first
 | (clear h; intro Qn K hK3 h; unfold mg_7e; replace h := tY h; refine tB ?_)
  |(clear h; intro y h; replace h := tY h; refine tB ?_))
 | (refine M.gv1 (ms := mg_7d) 58 [54,55,56,57] h ?_ ?_ <;> first
 | (clear h; intro K hK4; unfold mg_7d; refine tB ?_)
 | (clear h; intro b h; replace h := tY h; refine tB ?_))
 | ((first | refine hK1 _ ?_ | refine hK3 _ ?_); (try refine tB ?_); refine ⟨_, h, ?_⟩; exact tU0; done)
 | ((first | refine hK2 _ ?_ | refine hK4 _ ?_); exact tU; done)
 | (refine bfork (fun hc => ?_) (fun hc => ?_))
 | (refine tE ?_; (first | rw [M.lok_compU] | rw [M.lokD_compU]); refine tB ?_)
 | (refine tA ?_))
noncomputable def F_1n (d_ : GDirectory) (a_ : GEstate) (content_ : Int) (x_ : GExposure) (l_ : GLeak) : Option Bool :=
 (F_g d_ a_ content_).bind fun y16 => grp (((!decide (y16 = 0)) || (!decide (l_.Reading.Time = x_.Time)))) fun b17 => grp ((b17 || decide (x_.Time < 0))) fun b18 => grp ((b18 || decide (1099511627776 < x_.Time))) fun b19 => bif b19 then some false else (F_2b a_ content_ l_.Reading.Place l_.Reading.Time l_.Way).bind fun y20 => bif (!y20) then some false else bif (!decide (x_.Principal = (-1))) then (F_1m d_ a_ x_.Principal l_.Reading).bind fun y24 => some y24 else grp ((decide (l_.Reading.Grant = (-1)) && decide ((l_.Reading.Chain.length : Int) = 0))) fun b28 => jn (α := Bool) (bif b28 then (F_z a_ l_.Reading.Place l_.Reading.Time l_.Reading.Link).bind fun y30 => some y30 else some false) fun j31 => some j31
@[irreducible] def mg_7f : List MOp := [gF 19 20 (.fad 1 (.t 11)),
 gF 19 21 (.ld none (.t 20)),
 gF 19 22 (.fad 1 (.t 8)),
 gF 19 23 (.ld none (.t 22)),
 gF 19 24 (.bin false .neq (.t 21) (.t 23)),
 mo (.pick (.t 19) (.c (.bool true)) (.t 24)) 25]
@[irreducible] def mg_7g : List MOp := [gF 26 27 (.fad 1 (.t 8)),
 gF 26 28 (.ld none (.t 27)),
 gF 26 29 (.bin false .lss (.t 28) (cI 0)),
 mo (.pick (.t 26) (.c (.bool true)) (.t 29)) 30]
@[irreducible] def mg_7h : List MOp := [gF 31 32 (.fad 1 (.t 8)),
 gF 31 33 (.ld none (.t 32)),
 gF 31 34 (.bin false .gtr (.t 33) (cI 1099511627776)),
 mo (.pick (.t 31) (.c (.bool true)) (.t 34)) 35]
@[irreducible] def mg_7i : List MOp := [gT 60 61 (.fad 4 (.t 11)),
 gT 60 62 (.ld none (.t 61)),
 gT 60 63 (.len false (.t 62)),
 gT 60 64 (.bin false .eql (.t 63) (cI 0)),
 mo (.pick (.t 60) (.t 64) (.c (.bool false))) 65]
@[irreducible] def mg_7j : List MOp := [gT 66 67 (.ld (some 2) (.t 6)),
 gT 66 68 (.fad 0 (.t 11)),
 gT 66 69 (.ld none (.t 68)),
 gT 66 70 (.fad 1 (.t 11)),
 gT 66 71 (.ld none (.t 70)),
 gT 66 72 (.fad 2 (.t 11)),
 gT 66 73 (.ld none (.t 72)),
 gT 66 74 (.call (.f 46) [(.t 67),(.t 69),(.t 71),(.t 73)] [] []),
 mo (.pick (.t 66) (.t 74) (.c (.bool false))) 75]
def mc_1n : MC :=
 (sR [mo (.box (.t 0)) 5,
 mo (.box (.t 1)) 6,
 mo (.box (.t 3)) 8,
 mo (.box (.t 4)) 9,
 mo (.mv (.c (.bool false))) 10]
 (sR [oF 1 9 12,
 mo (.ld (some 5) (.t 12)) 13,
 mo (.alloc [(.int .i64 0),(.int .i64 0),(.int .i64 0),(.int .i64 0),(.sl [])]) 11,
 ⟨.st 5 (.t 11) (.t 13), none, none⟩]
 (.seq (.seq (.regI [.op (mo (.ld (some 2) (.t 5)) 14),
 .op (mo (.ld (some 2) (.t 6)) 15),
 .op (oV 2 16),
 .op (mo (.call (.f 28) [(.t 14),(.t 15),(.t 16)] [] []) 17),
 .op (mo (.bin false .neq (.t 17) (cI 0)) 18),
 .op (oV 18 19),
 .grp mg_7f,
 .op (oV 25 26),
 .grp mg_7g,
 .op (oV 30 31),
 .grp mg_7h,
 .op (oV 35 36),
 .op (gF 36 37 (.ld (some 2) (.t 6))),
 .op (gF 36 38 (.mv (.t 2))),
 .op (gF 36 39 (.fad 0 (.t 11))),
 .op (gF 36 40 (.ld none (.t 39))),
 .op (gF 36 41 (.fad 1 (.t 11))),
 .op (gF 36 42 (.ld none (.t 41))),
 .op (gF 36 43 (.fad 0 (.t 9))),
 .op (gF 36 44 (.ld none (.t 43))),
 .op (gF 36 45 (.call (.f 44) [(.t 37),(.t 38),(.t 40),(.t 42),(.t 44)] [] [])),
 .op (gF 36 46 (.not (.t 45))),
 .op (mo (.pick (.t 36) (.c (.bool true)) (.t 46)) 47)])
 (.cond (.t 47)
 (sR [mo (.mv (.c (.bool false))) 10]
 .ret)
 .skip))
 (.seq (.seq (.note (.gc [5,6,8,11,61,62,63,64,67,68,69,70,71,72,73,74]) (.reg [oF 0 8 48,
 oL 48 49,
 mo (.bin false .neq (.t 49) (cI (-1))) 50]))
 (.cond (.t 50)
 (sR [mo (.ld (some 2) (.t 5)) 51,
 mo (.ld (some 2) (.t 6)) 52,
 oF 0 8 53,
 oL 53 54,
 mo (.ld (some 5) (.t 11)) 55,
 mo (.call (.f 45) [(.t 51),(.t 52),(.t 54),(.t 55)] [] []) 56,
 oV 56 10]
 .ret)
 .skip))
 (.seq (.regI [.op (oF 3 11 57),
 .op (oL 57 58),
 .op (mo (.bin false .eql (.t 58) (cI (-1))) 59),
 .op (oV 59 60),
 .grp mg_7i,
 .op (oV 65 66),
 .grp mg_7j,
 .op (oV 75 10)])
 .ret)))))
theorem Wq_1n {d_ : GDirectory} {a_ : GEstate} {content_ : Int} {x_ : GExposure} {l_ : GLeak} : Cn Tryz.prog 23 [GDirectory.v d_, GEstate.v a_, .int .i64 content_, GExposure.v x_, GLeak.v l_] [] (F_1n d_ a_ content_ x_ l_) (fun z => .bool z) (fun z => []) := fun Q Q' h hQ => by
 refine acallM mc_1n [] [] [.t 10] Tryz.func23 fun M => ?_
 unfold F_1n at h
 unfold mc_1n
 replace h := tY h
 refine tB ?_
 repeat' (first
 | (exact tZ)
 | ((first | refine oblg h ?_ | refine roomG h ?_ | refine fork h ?_ ?_ | refine forkS h ?_ ?_) <;> clear h <;> intro hc h)
 | (obtain ⟨y, hy, h⟩ := h; (first | with_reducible first | have hw := Wq_g.w hy | have hw := Wq_2b.w hy | have hw := Wq_1m.w hy | have hw := Wq_z.w hy); replace hw := tY hw; (first | refine M.sC hw ?_ | refine M.sD hw ?_); clear hw hy; refine tB ?_)
 | (refine M.gj1 (ms := mg_7j) [] [] (fun y => [(75, .bool y)]) (fun y => []) h ?_ ?_ <;> first
 | (clear h; intro Qn K hK1 h; unfold mg_7j; replace h := tY h; refine tB ?_)
  |(clear h; intro y h; replace h := tY h; refine tB ?_))
 | (refine M.gv1 (ms := mg_7i) 65 [61,62,63,64] h ?_ ?_ <;> first
 | (clear h; intro K hK2; unfold mg_7i; refine tB ?_)
 | (clear h; intro b h; replace h := tY h; refine tB ?_))
 | (refine M.gv1 (ms := mg_7h) 35 [32,33,34] h ?_ ?_ <;> first
 | (clear h; intro K hK3; unfold mg_7h; refine tB ?_)
 | (clear h; intro b h; replace h := tY h; refine tB ?_))
 | (refine M.gv1 (ms := mg_7g) 30 [27,28,29] h ?_ ?_ <;> first
 | (clear h; intro K hK4; unfold mg_7g; refine tB ?_)
 | (clear h; intro b h; replace h := tY h; refine tB ?_))
 | (refine M.gv1 (ms := mg_7f) 25 [20,21,22,23,24] h ?_ ?_ <;> first
 | (clear h; intro K hK5; unfold mg_7f; refine tB ?_)
 | (clear h; intro b h; replace h := tY h; refine tB ?_))
 | (refine hK1 _ ?_; (try refine tB ?_); refine ⟨_, h, ?_⟩; exact tU0; done)
 | ((first | refine hK2 _ ?_ | refine hK3 _ ?_ | refine hK4 _ ?_ | refine hK5 _ ?_); exact tU; done)
 | (refine bfork (fun hc => ?_) (fun hc => ?_))
 | (refine tE ?_; (first | rw [M.lok_compU] | rw [M.lokD_compU]); refine tB ?_)
 | (refine tA ?_))
noncomputable def F_2f (y6 : GDirectory × GTape) (y8 : GEstate × GTape) (x4761 : Int × Int) (x7433 : Int × Int) (k7723 : Int) (a7724 : Int) (x7722 : Int) : Option Int :=
 (F_1f y8.1 a7724 x7433.2).bind fun y7750 => grp ((decide (x4761.2 = (-1)) && y7750.2)) fun b7754 => jn (α := Bool) (bif b7754 then some true else bif decide (0 ≤ x4761.2) then (F_29 y6.1 y8.1 x4761.2 a7724 x7433.2).bind fun y7756 => some y7756 else some false) fun j7757 => bif j7757 then some x7433.2 else some x7722
noncomputable def F_1o (y6 : GDirectory × GTape) (y8 : GEstate × GTape) (y10 : Int × GTape) (x4761 : Int × Int) (x7433 : Int × Int) : Option (Fl (Int × Int) Int) :=
 grp ((decide (x7433.2 < 45) && decide (x7433.1 < 0))) fun b7591 => bif b7591 then (F_27 y8.1 y10.1 x7433.2).bind fun y7668 => (foldL (F_2f y6 y8 x4761 x7433) y7668 0 x7433.1).bind fun x7758 => chk (in64 (x7433.2 + 1)) (some (.nx (x7758, (x7433.2 + 1)))) else some (.ex x7433.1)
noncomputable def F_45 (y6 : GDirectory × GTape) (y8 : GEstate × GTape) (y10 : Int × GTape) (y12 : (List GExposure) × Int) (x4761 : Int × Int) : Option (Fl (Int × Int) (Sum Int Bool)) :=
 bif decide (x4761.2 < (y6.1.Kinds.length : Int)) then jn (α := Fl Int Bool) ((loop (F_1o y6 y8 y10 x4761) ((-1),0)).bind fun r7759 => bif decide (r7759 < 0) then (F_c y6.1 y8.1 y10.1 x4761.2).bind fun y7767 => bif y7767.2 then some (.ex false) else some (.nx x4761.1) else bif decide ((y12.1.length : Int) ≤ x4761.1) then some (.ex false) else chk (inb x4761.1 y12.1.length) (bif (!(decide ((y12.1.getD (x4761.1).toNat default).Principal = x4761.2) && decide ((y12.1.getD (x4761.1).toNat default).Time = r7759))) then some (.ex false) else (F_c y6.1 y8.1 y10.1 x4761.2).bind fun y7769 => bif (!y7769.2) then some (.ex false) else chk (inb x4761.1 y12.1.length) ((F_1n y6.1 y8.1 y10.1 (y12.1.getD (x4761.1).toNat default) y7769.1).bind fun y7773 => bif (!y7773) then some (.ex false) else chk (in64 (x4761.1 + 1)) (some (.nx (x4761.1 + 1)))))) fun o => o.elim (fun j6656 => chk (in64 (x4761.2 + 1)) (some (.nx (j6656, (x4761.2 + 1))))) (fun r7774 => some (.ex (.inr r7774))) else some (.ex (.inl x4761.1))
noncomputable def F_34 (l_ : List Int) : Option Bool :=
 bif decide (400 < (l_.length : Int)) then F_1b.bind fun y4 => some y4 else (F_24 (GTape.mk l_ 0)).bind fun y6 => (F_25 y6.2 y6.1).bind fun y8 => (F_0 y8.2 3).bind fun y10 => (F_i y6.1 y8.1 y10.1).bind fun y12 => bif (!decide (y12.2 = 0)) then some false else (loop (F_45 y6 y8 y10 y12) (0, (-1))).bind fun r7775 => Sum.elim (fun u7776 => jn (α := Bool) (bif decide (u7776 = (y12.1.length : Int)) then F_1b.bind fun y7781 => some y7781 else some false) fun j7782 => some j7782) (fun u7777 => some u7777) r7775
@[irreducible] def mg_7k : List MOp := [gT 53 54 (.mv (.t 11)),
 gT 53 55 (.bin false .lss (.t 54) (cI 0)),
 mo (.pick (.t 53) (.t 55) (.c (.bool false))) 56]
@[irreducible] def mg_7l : List MOp := [gT 77 78 (.mv (.t 16)),
 mo (.pick (.t 77) (.t 78) (.c (.bool false))) 79]
@[irreducible] def mg_7m : List MOp := [gF 80 81 (.mv (.t 10)),
 gF 80 82 (.bin false .geq (.t 81) (cI 0)),
 gF 80 83 (.mv (.t 82)),
 gT 83 84 (.ld (some 2) (.t 4)),
 gT 83 85 (.ld (some 2) (.t 5)),
 gT 83 86 (.mv (.t 10)),
 gT 83 87 (.mv (.t 14)),
 gT 83 88 (.mv (.t 12)),
 gT 83 89 (.call (.f 16) [(.t 84),(.t 85),(.t 86),(.t 87),(.t 88)] [] []),
 gF 80 90 (.pick (.t 83) (.t 89) (.c (.bool false))),
 mo (.pick (.t 80) (.c (.bool true)) (.t 90)) 91]
@[irreducible] def mc_2f : MC :=
 (sR [mo (.bin false .lss (.t 64) (.t 63)) 65]
 (.seq (.cond (.t 65)
 .skip
 (.exit 4))
 (.seq (.block 5
 (sR [mo (.iad 1 (.t 62) (.t 64)) 66,
 oL 66 67,
 oV 67 14]
 (sR [mo (.ld (some 2) (.t 5)) 69,
 oV 14 70,
 oV 12 71,
 mo (.call (.f 21) [(.t 69),(.t 70),(.t 71)] [] []) 72,
 oV 72 68,
 mo (.ext 0 (.t 68)) 73,
 mo (.ext 1 (.t 68)) 74,
 oV 73 15,
 oV 74 16]
 (.seq (.note (.gc [4,5,6,7,9,10,11,12,14,16,54,55,62,63,64,78,81,82,83,84,85,86,87,88,89,90,110,111,112,113,114,115,116,117,130,131,132,133,134,135,136,137,138,139,148]) (.regI [.op (oV 10 75),
 .op (mo (.bin false .eql (.t 75) (cI (-1))) 76),
 .op (oV 76 77),
 .grp mg_7l,
 .op (oV 79 80),
 .grp mg_7m]))
 (.cond (.t 91)
 (.reg [oV 12 92,
 oV 92 11])
 .skip)))))
 (.reg [mo (.bin true .add (.t 64) (cI 1)) 93,
 oV 93 64]))))
@[irreducible] def mc_1o : MC :=
 (.seq (.seq (.regI [.op (oV 12 51),
 .op (mo (.bin false .lss (.t 51) (cI 45)) 52),
 .op (oV 52 53),
 .grp mg_7k])
 (.cond (.t 56)
 .skip
 (.exit 2)))
 (.seq (.block 3
 (sR [mo (.ld (some 2) (.t 5)) 59,
 oV 6 60,
 oV 12 61,
 mo (.call (.f 20) [(.t 59),(.t 60),(.t 61)] [] []) 62,
 mo (.len false (.t 62)) 63,
 oC 0 64]
 (.block 4
 (.loop mc_2f))))
 (.reg [oV 12 57,
 mo (.bin true .add (.t 57) (cI 1)) 58,
 oV 58 12])))
@[irreducible] def mc_7n : MC :=
 (.reg [oV 10 49,
 mo (.bin true .add (.t 49) (cI 1)) 50,
 oV 50 10])
@[irreducible] def mc_45 : MC :=
 (.seq (sR [oV 10 44,
 oF 0 4 45,
 oL 45 46,
 mo (.len false (.t 46)) 47,
 mo (.bin false .lss (.t 44) (.t 47)) 48]
 (.cond (.t 48)
 .skip
 (.exit 0)))
 (.cut (.block 1
 (sR [oC (-1) 11]
 (.seq (sR [oC 0 12]
 (.block 2
 (.loop mc_1o)))
 (.seq (sR [oV 11 94,
 mo (.bin false .lss (.t 94) (cI 0)) 95]
 (.cond (.t 95)
 (.seq (sR [mo (.ld (some 2) (.t 4)) 97,
 mo (.ld (some 2) (.t 5)) 98,
 oV 6 99,
 oV 10 100,
 mo (.call (.f 22) [(.t 97),(.t 98),(.t 99),(.t 100)] [] []) 101,
 oV 101 96,
 mo (.ext 0 (.t 96)) 102,
 mo (.ext 1 (.t 96)) 103,
 mo (.alloc [(.sl []),(.int .i64 0),(.int .i64 0),(.int .i64 0),(.int .i64 0),(.sl [])]) 17,
 ⟨.st 6 (.t 17) (.t 102), none, none⟩,
 oV 103 18]
 (sR [oV 18 104]
 (.cond (.t 104)
 (sR [mo (.mv (.c (.bool false))) 2]
 .ret)
 .skip)))
 (.exit 1))
 .skip))
 (.seq (sR [oV 9 105,
 oV 7 106,
 mo (.len false (.t 106)) 107,
 mo (.bin false .geq (.t 105) (.t 107)) 108,
 oV 108 109,
 gF 109 110 (.mv (.t 7)),
 gF 109 111 (.mv (.t 9)),
 gF 109 112 (.iad 2 (.t 110) (.t 111)),
 gF 109 113 (.ld (some 2) (.t 112)),
 gF 109 114 (.mv (.t 10)),
 gF 109 115 (.mv (.t 11)),
 gF 109 116 (.build [(.int .i64 0),(.int .i64 0)] [(0,1,(.t 114)), (1,1,(.t 115))]),
 gF 109 117 (.eqs true [0,0] (.t 113) (.t 116)),
 mo (.pick (.t 109) (.c (.bool true)) (.t 117)) 118]
 (.cond (.t 118)
 (sR [mo (.mv (.c (.bool false))) 2]
 .ret)
 .skip))
 (.seq (.note (.gc [4,5,6,7,9,10,54,55,78,81,82,83,84,85,86,87,88,89,90,110,111,112,113,114,115,116,117,130,131,132,133,134,135,136,137,138,139,148]) (.reg [mo (.ld (some 2) (.t 4)) 120,
 mo (.ld (some 2) (.t 5)) 121,
 oV 6 122,
 oV 10 123,
 mo (.call (.f 22) [(.t 120),(.t 121),(.t 122),(.t 123)] [] []) 124,
 oV 124 119,
 mo (.ext 0 (.t 119)) 125,
 mo (.ext 1 (.t 119)) 126,
 mo (.alloc [(.sl []),(.int .i64 0),(.int .i64 0),(.int .i64 0),(.int .i64 0),(.sl [])]) 19,
 ⟨.st 6 (.t 19) (.t 125), none, none⟩,
 oV 126 20]))
 (.seq (.seq (.note (.gc [4,5,6,7,9,10,19,20,54,55,78,81,82,83,84,85,86,87,88,89,90,110,111,112,113,114,115,116,117,130,131,132,133,134,135,136,137,138,139,148]) (.regD [oV 20 127,
 mo (.not (.t 127)) 128,
 oV 128 129,
 gF 129 130 (.ld (some 2) (.t 4)),
 gF 129 131 (.ld (some 2) (.t 5)),
 gF 129 132 (.mv (.t 6)),
 gF 129 133 (.mv (.t 7)),
 gF 129 134 (.mv (.t 9)),
 gF 129 135 (.iad 2 (.t 133) (.t 134)),
 gF 129 136 (.ld (some 2) (.t 135)),
 gF 129 137 (.ld (some 6) (.t 19)),
 gF 129 138 (.call (.f 23) [(.t 130),(.t 131),(.t 132),(.t 136),(.t 137)] [] []),
 gF 129 139 (.not (.t 138)),
 mo (.pick (.t 129) (.c (.bool true)) (.t 139)) 140]
 [[],[0],[1],[2],[2],[2],[2],[2],[6,7,2],[8,2],[2],[3,4,5,9,10,2,2],[11,2],[2,12]]
 [[],[0],[0,1],[0,1,2],[0,1,2],[0,1,2],[0,1,2],[0,1,2],[0,1,2,6,7],[0,1,2,6,7,8],[0,1,2],[0,1,2,3,4,5,6,7,8,9,10],[0,1,2,3,4,5,6,7,8,9,10,11],[0,1,2,3,4,5,6,7,8,9,10,11,12]]))
 (.cond (.t 140)
 (sR [mo (.mv (.c (.bool false))) 2]
 .ret)
 .skip))
 (.reg [oV 9 141,
 mo (.bin true .add (.t 141) (cI 1)) 142,
 oV 142 9]))))))))
 mc_7n))
@[irreducible] def mg_7o : List MOp := [gT 147 148 (.call (.f 8) [] [] []),
 mo (.pick (.t 147) (.t 148) (.c (.bool false))) 149]
def mc_34 : MC :=
 (sR [mo (.mv (.c (.bool false))) 2]
 (.seq (sR [oV 0 21,
 mo (.len false (.t 21)) 22,
 mo (.bin false .gtr (.t 22) (cI 400)) 23]
 (.cond (.t 23)
 (sR [mo (.call (.f 8) [] [] []) 24,
 oV 24 2]
 .ret)
 .skip))
 (sR [oV 0 25,
 mo (.build [(.sl []),(.int .i64 0)] [(0,1,(.t 25))]) 26,
 mo (.box (.t 26)) 27,
 oV 27 3]
 (.seq (.note (.gc [3,54,55,78,81,82,83,84,85,86,87,88,89,90,110,111,112,113,114,115,116,117,130,131,132,133,134,135,136,137,138,139,148]) (.reg [oV 3 28,
 mo (.call (.f 9) [(.t 28)] [27] []) 29,
 mo (.alloc [(.sl []),(.sl [])]) 4,
 ⟨.st 2 (.t 4) (.t 29), none, none⟩]))
 (sR [oV 3 30,
 mo (.ld (some 2) (.t 4)) 31,
 mo (.call (.f 10) [(.t 30),(.t 31)] [27] []) 32,
 mo (.alloc [(.int .i64 0),(.sl [])]) 5,
 ⟨.st 2 (.t 5) (.t 32), none, none⟩]
 (sR [oV 3 33,
 mo (.call (.f 11) [(.t 33), (cI 3)] [27] []) 34,
 oV 34 6]
 (.seq (.note (.gc [4,5,6,54,55,78,81,82,83,84,85,86,87,88,89,90,110,111,112,113,114,115,116,117,130,131,132,133,134,135,136,137,138,139,148]) (.reg [mo (.ld (some 2) (.t 4)) 36,
 mo (.ld (some 2) (.t 5)) 37,
 oV 6 38,
 mo (.call (.f 13) [(.t 36),(.t 37),(.t 38)] [] []) 39,
 oV 39 35,
 mo (.ext 0 (.t 35)) 40,
 mo (.ext 1 (.t 35)) 41,
 oV 40 7,
 oV 41 8]))
 (.seq (sR [oV 8 42,
 mo (.bin false .neq (.t 42) (cI 0)) 43]
 (.cond (.t 43)
 (sR [mo (.mv (.c (.bool false))) 2]
 .ret)
 .skip))
 (sR [oC 0 9]
 (.seq (sR [oC (-1) 10]
 (.block 0
 (.loop mc_45)))
 (.seq (.regI [.op (oV 9 143),
 .op (oV 7 144),
 .op (mo (.len false (.t 144)) 145),
 .op (mo (.bin false .eql (.t 143) (.t 145)) 146),
 .op (oV 146 147),
 .grp mg_7o,
 .op (oV 149 2)])
 .ret)))))))))))
theorem Wq_34 {l_ : List Int} : Cn Tryz.prog 7 [.sl (l_.map (V.int .i64))] [] (F_34 l_) (fun z => .bool z) (fun z => []) := fun Q Q' h hQ => by
 refine acallM mc_34 [] [] [.t 2] Tryz.func7 fun M => ?_
 unfold F_34 at h
 unfold mc_34
 replace h := tY h
 refine tB ?_
 repeat' (first
 | (exact tZ)
 | ((first | refine oblg h ?_ | refine roomG h ?_ | refine fork h ?_ ?_ | refine forkS h ?_ ?_) <;> clear h <;> intro hc h)
 | (obtain ⟨y, hy, h⟩ := h; (first | (with_reducible first | have hw := Wq_1b.w hy | have hw := Wq_i.w hy | have hw := Wq_27.w hy | have hw := Wq_1f.w hy | have hw := Wq_29.w hy | have hw := Wq_c.w hy | have hw := Wq_1n.w hy) | have hw := acall_swe 1000 27 (Wq_24.w hy) | have hw := acall_swe 1000 27 (Wq_25.w hy) | have hw := acall_swe 1000 27 (Wq_0.w hy)); replace hw := tY hw; (first | refine M.sC hw ?_ | refine M.sD hw ?_); clear hw hy; refine tB ?_)
 | (refine M.gj1 (ms := mg_7m) [4,5,6,7,9,10,11,12,62,63,64] [5,4] (fun y => [(91, .bool y)]) (fun y => []) h ?_ ?_ <;> first
 | (clear h; intro Qn K hK1 h; unfold mg_7m; replace h := tY h; refine tB ?_)
  |(clear h; intro y h; replace h := tY h; refine tB ?_))
 | (refine M.gv1 (ms := mg_7l) 79 [78] h ?_ ?_ <;> first
 | (clear h; intro K hK2; unfold mg_7l; refine tB ?_)
 | (clear h; intro b h; replace h := tY h; refine tB ?_))
 | (refine M.fold1 (b := mc_2f) 64 [4,5,6,7,9,10,12,62,63] [5,4] (fun x => [(11, .int .i64 x)]) (fun x => []) [] h ?_ ?_ ?_ <;> first
 | (clear h; intro k a x Qn K hK3 hkN3 ha3 h hf; have hl := fact_int (factsE_find (n := 63) hf.1 rfl); clear hf; have hkd := kD hkN3; have hkB3 := kB hkN3; have hkI3 := kI (k := k) (by omega); unfold F_2f at h; unfold mc_2f; replace h := tY h; refine tK ha3 hkd hkN3 hkB3 hkI3 ?_)
  |(clear h; intro x K h; replace h := And.left (And.intro h trivial); unfold mc_2f; replace h := tY h; refine tB ?_)
  |(clear h; (try refine tB ?_); exact tU0; done))
 | (refine M.gv1 (ms := mg_7k) 56 [54,55] h ?_ ?_ <;> first
 | (clear h; intro K hK4; unfold mg_7k; refine tB ?_)
 | (clear h; intro b h; replace h := tY h; refine tB ?_))
 | (refine M.wh1 (b := mc_1o) [4,5,6,7,9,10] [5,4] (fun x => [(11, .int .i64 x.1), (12, .int .i64 x.2)]) (fun x => []) [] h ?_ ?_ <;> first
 | (clear h; intro x Qn K hK5 h; unfold F_1o at h; unfold mc_1o; replace h := tY h; refine tB ?_)
  |(clear h; (try refine tB ?_); exact tU0; done))
 | (refine M.jnE (b := mc_7n) [4,5,6,7,10] [5,4] (fun y => [(9, .int .i64 y)]) (fun y => []) [] h ?_ ?_ <;> first
 | (clear h; intro Qn K hK6 h; replace h := tY h; refine tB ?_)
  |(clear h; intro y h; unfold mc_7n; replace h := tY h; refine tB ?_))
 | (refine M.wh1 (b := mc_45) [4,5,6,7] [5,4] (fun x => [(9, .int .i64 x.1), (10, .int .i64 x.2)]) (fun x => []) [] h ?_ ?_ <;> first
 | (clear h; intro x Qn K hK7 h; unfold F_45 at h; unfold mc_45; replace h := tY h; refine tB ?_)
  |(clear h; (try refine tB ?_); exact tU0; done))
 | (refine M.gj1 (ms := mg_7o) [] [] (fun y => [(149, .bool y)]) (fun y => []) h ?_ ?_ <;> first
 | (clear h; intro Qn K hK8 h; unfold mg_7o; replace h := tY h; refine tB ?_)
  |(clear h; intro y h; replace h := tY h; refine tB ?_))
 | (simp only [ha3])
 | ((first | refine hK1 _ ?_ | refine hK3 _ ?_ | refine hK5 _ ?_ | refine hK6 _ ?_ | refine hK7 _ ?_ | refine hK8 _ ?_); (try refine tB ?_); refine ⟨_, h, ?_⟩; exact tU0; done)
 | ((first | refine hK2 _ ?_ | refine hK4 _ ?_); exact tU; done)
 | (refine bfork (fun hc => ?_) (fun hc => ?_))
 | (refine tE ?_; (first | rw [M.lok_compU] | rw [M.lokD_compU]); refine tB ?_)
 | (refine tA ?_))
end Go.Ab
