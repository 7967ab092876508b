/- What the functions of this seat that lie on the laws' road compute (part LCop), each for every input. By AI agents. -/
import Derived.Test.YtgjicmoegmbipaaGreatProg
import Derived.KernelRfl
import Derived.Test.YtgjicmoegmbipaaGreatAbFun
import Derived.Test.YtgjicmoegmbipaaGreatLC
set_option linter.all false
set_option linter.all false
set_option maxRecDepth 20000
set_option maxHeartbeats 2000000
namespace Go.Ab
open Go.Proofs
def F_2r (content_ : Int) (k16 : Int) (a17 : GAccess) (x15 : List Bool) : Option (List Bool) :=
 bif decide (a17.Kind = 5) then chk (inb a17.Place x15.length) (bif x15.getD ((a17.Place).toNat) default then chk (inb a17.Place x15.length) (some (x15.set ((a17.Place).toNat) true)) else chk (inb a17.Place x15.length) (some (x15.set ((a17.Place).toNat) (decide (a17.Content = content_))))) else bif decide (a17.Kind = 6) then chk (inb a17.Place x15.length) (bif x15.getD ((a17.Place).toNat) default then chk (inb a17.Place x15.length) (some (x15.set ((a17.Place).toNat) (!decide (a17.Content = content_)))) else chk (inb a17.Place x15.length) (some (x15.set ((a17.Place).toNat) false))) else bif decide (a17.Kind = 7) then chk (inb a17.Place x15.length) (bif x15.getD ((a17.Place).toNat) default then chk (inb a17.Place x15.length) (some (x15.set ((a17.Place).toNat) true)) else chk (inb a17.From x15.length) (chk (inb a17.Place x15.length) (some (x15.set ((a17.Place).toNat) (x15.getD ((a17.From).toNat) default))))) else some x15
def F_1p (a_ : GEstate) (content_ : Int) (n_ : Int) : Option (List Bool) :=
 chk (roomI a_.Places a_.Places 1) (chk (inc 0 n_ a_.Events.length) ((foldL (F_2r content_) (a_.Events.take ((n_).toNat)) 0 (List.replicate (a_.Places).toNat false)).bind fun x18 => some x18))
@[irreducible] def mc_2r : MC :=
 (.seq (.reg [mo (.bin false .lss (.t 18) (.t 17)) 19])
 (.seq (.cond (.t 19)
 .skip
 (.exit 0))
 (.seq (.block 1
 (.seq (.reg [mo (.iad 7 (.t 16) (.t 18)) 20,
 mo (.ld (some 7) (.t 20)) 21,
 mo (.alloc [(.int .i64 0),(.int .i64 0),(.int .i64 0),(.int .i64 0),(.int .i64 0),(.int .i64 0),(.int .i64 0)]) 9,
 ⟨.st 7 (.t 9) (.t 21), none, none⟩])
 (.seq (.reg [mo (.fad 1 (.t 9)) 22,
 mo (.ld none (.t 22)) 23])
 (.block 2
 (.seq (.reg [mo (.bin false .eql (.t 23) (.c (.int .i64 5))) 25,
 mo (.mv (.t 25)) 24])
 (.cond (.t 24)
 (.regD [mo (.mv (.t 7)) 26,
 mo (.fad 2 (.t 9)) 27,
 mo (.ld none (.t 27)) 28,
 mo (.mv (.t 7)) 29,
 mo (.fad 2 (.t 9)) 30,
 mo (.ld none (.t 30)) 31,
 mo (.iad 1 (.t 29) (.t 31)) 32,
 mo (.ld none (.t 32)) 33,
 mo (.mv (.t 33)) 34,
 ⟨.fad 5 (.t 9), (some 35), (some (34, false))⟩,
 ⟨.ld none (.t 35), (some 36), (some (34, false))⟩,
 ⟨.mv (.t 1), (some 37), (some (34, false))⟩,
 ⟨.bin false .eql (.t 36) (.t 37), (some 38), (some (34, false))⟩,
 mo (.pick (.t 34) (.c (.bool true)) (.t 38)) 39,
 mo (.iad 1 (.t 26) (.t 28)) 40,
 ⟨.st 1 (.t 40) (.t 39), none, none⟩]
 [[],[],[1],[],[],[4],[3,5],[6],[7],[8],[9,8],[8],[10,11,8],[8,12],[0,2,0,1,2,3,4,5,6,7,8,9,10,11,12,13],[14,13,8,0,1,2,3,4,5,6,7,8,9,10,11,12,13]]
 [[],[],[1],[],[],[4],[3,4,5],[3,4,5,6],[3,4,5,6,7],[3,4,5,6,7,8],[3,4,5,6,7,8,9],[3,4,5,6,7,8],[3,4,5,6,7,8,9,10,11],[3,4,5,6,7,8,9,10,11,12],[0,1,2,3,4,5,6,7,8,9,10,11,12,13],[0,1,2,3,4,5,6,7,8,9,10,11,12,13,14]])
 (.seq (.reg [mo (.bin false .eql (.t 23) (.c (.int .i64 6))) 42,
 mo (.mv (.t 42)) 41])
 (.cond (.t 41)
 (.note (.gc [1,7,9,16,17,18,35,36,37,38,52,53,54,55,69,70,71,72,73]) (.regD [mo (.mv (.t 7)) 43,
 mo (.fad 2 (.t 9)) 44,
 mo (.ld none (.t 44)) 45,
 mo (.mv (.t 7)) 46,
 mo (.fad 2 (.t 9)) 47,
 mo (.ld none (.t 47)) 48,
 mo (.iad 1 (.t 46) (.t 48)) 49,
 mo (.ld none (.t 49)) 50,
 mo (.mv (.t 50)) 51,
 ⟨.fad 5 (.t 9), (some 52), (some (51, true))⟩,
 ⟨.ld none (.t 52), (some 53), (some (51, true))⟩,
 ⟨.mv (.t 1), (some 54), (some (51, true))⟩,
 ⟨.bin false .neq (.t 53) (.t 54), (some 55), (some (51, true))⟩,
 mo (.pick (.t 51) (.t 55) (.c (.bool false))) 56,
 mo (.iad 1 (.t 43) (.t 45)) 57,
 ⟨.st 1 (.t 57) (.t 56), none, none⟩]
 [[],[],[1],[],[],[4],[3,5],[6],[7],[8],[9,8],[8],[10,11,8],[8,12],[0,2,0,1,2,3,4,5,6,7,8,9,10,11,12,13],[14,13,8,0,1,2,3,4,5,6,7,8,9,10,11,12,13]]
 [[],[],[1],[],[],[4],[3,4,5],[3,4,5,6],[3,4,5,6,7],[3,4,5,6,7,8],[3,4,5,6,7,8,9],[3,4,5,6,7,8],[3,4,5,6,7,8,9,10,11],[3,4,5,6,7,8,9,10,11,12],[0,1,2,3,4,5,6,7,8,9,10,11,12,13],[0,1,2,3,4,5,6,7,8,9,10,11,12,13,14]]))
 (.seq (.reg [mo (.bin false .eql (.t 23) (.c (.int .i64 7))) 59,
 mo (.mv (.t 59)) 58])
 (.cond (.t 58)
 (.note (.gc [1,7,9,16,17,18,35,36,37,38,52,53,54,55,69,70,71,72,73]) (.regD [mo (.mv (.t 7)) 60,
 mo (.fad 2 (.t 9)) 61,
 mo (.ld none (.t 61)) 62,
 mo (.mv (.t 7)) 63,
 mo (.fad 2 (.t 9)) 64,
 mo (.ld none (.t 64)) 65,
 mo (.iad 1 (.t 63) (.t 65)) 66,
 mo (.ld none (.t 66)) 67,
 mo (.mv (.t 67)) 68,
 ⟨.mv (.t 7), (some 69), (some (68, false))⟩,
 ⟨.fad 6 (.t 9), (some 70), (some (68, false))⟩,
 ⟨.ld none (.t 70), (some 71), (some (68, false))⟩,
 ⟨.iad 1 (.t 69) (.t 71), (some 72), (some (68, false))⟩,
 ⟨.ld none (.t 72), (some 73), (some (68, false))⟩,
 mo (.pick (.t 68) (.c (.bool true)) (.t 73)) 74,
 mo (.iad 1 (.t 60) (.t 62)) 75,
 ⟨.st 1 (.t 75) (.t 74), none, none⟩]
 [[],[],[1],[],[],[4],[3,5],[6],[7],[8],[8],[10,8],[9,11,8],[12,8],[8,13],[0,2,0,1,2,3,4,5,6,7,8,9,10,11,12,13,14],[15,14,8,0,1,2,3,4,5,6,7,8,9,10,11,12,13,14]]
 [[],[],[1],[],[],[4],[3,4,5],[3,4,5,6],[3,4,5,6,7],[3,4,5,6,7,8],[3,4,5,6,7,8],[3,4,5,6,7,8,10],[3,4,5,6,7,8,9,10,11],[3,4,5,6,7,8,9,10,11,12],[3,4,5,6,7,8,9,10,11,12,13],[0,1,2,3,4,5,6,7,8,9,10,11,12,13,14],[0,1,2,3,4,5,6,7,8,9,10,11,12,13,14,15]]))
 .skip))))))))))
 (.reg [mo (.bin true .add (.t 18) (.c (.int .i64 1))) 76,
 mo (.mv (.t 76)) 18]))))
def mc_1p : MC :=
 (.seq (.reg [mo (.box (.t 0)) 3,
 mo (.mv (.c (.sl []))) 6])
 (.seq (.reg [mo (.fad 0 (.t 3)) 10,
 mo (.ld none (.t 10)) 11,
 mo (.mksl 1 1 (.bool false) (.t 11) (.t 11)) 12,
 mo (.mv (.t 12)) 7])
 (.seq (.seq (.reg [mo (.fad 1 (.t 3)) 13,
 mo (.ld none (.t 13)) 14,
 mo (.mv (.t 2)) 15,
 mo (.slc 7 (.t 14) none (some (.t 15))) 16,
 mo (.len false (.t 16)) 17,
 mo (.mv (.c (.int .i64 0))) 18])
 (.block 0
 (.loop mc_2r)))
 (.seq (.reg [mo (.mv (.t 7)) 77,
 mo (.mv (.t 77)) 6])
 .ret))))
theorem Wq_1p (a_ : GEstate) (content_ : Int) (n_ : Int) {Q : List Bool → Prop} {Q' : V → Heap → Prop} (h : Ok (F_1p a_ content_ n_) Q) (hQ : ∀ z, Q z → Q' (.sl (z.map V.bool)) []) : ACall Tryz.prog 31 [GEstate.v a_, .int .i64 content_, .int .i64 n_] [] Q' := by
 refine acallM mc_1p [.fz 6] [] [.t 6] Tryz.func31 fun M => ?_
 unfold F_1p at h
 unfold mc_1p
 replace h := tY h
 refine tB ?_
 repeat' (first
 | (exact tZ)
 | ((first | refine oblg h ?_ | refine roomG h ?_ | refine fork h ?_ ?_ | refine forkS h ?_ ?_) <;> clear h <;> intro hc h)
 | (refine M.fold1 (b := mc_2r) 18 [1,16,17] [] (fun x => [(7, .osl 12 1 0 x.length)]) (fun x => [.o 12 (.arr 1 (x.map V.bool))]) [] h ?_ ?_ ?_ <;> first
 | (clear h; intro k a x Qn K hK1 hkN1 ha1 h hf; have hl := fact_int (factsE_find (n := 17) hf.1 rfl); clear hf; have hkd := kD hkN1; have hkB1 := kB hkN1; have hkI1 := kI (k := k) (by omega); unfold F_2r at h; unfold mc_2r; replace h := tY h; refine tK ha1 hkd hkN1 hkB1 hkI1 ?_)
  |(clear h; intro x K h; replace h := And.left (And.intro h trivial); unfold mc_2r; replace h := tY h; refine tB ?_)
  |(clear h; (try refine tB ?_); exact tU0; done))
 | (simp only [ha1])
 | (refine hK1 _ ?_; (try refine tB ?_); refine ⟨_, h, ?_⟩; exact tU0; done)
 | (refine tE ?_; (first | rw [M.lok_compU] | rw [M.lokD_compU]); refine tB ?_)
 | (refine ⟨_, getE_mapset (by first | exact inb_toNat (by assumption) | exact inb_nat (by assumption)), ?_⟩; (first | rw [M.lok_compU] | rw [M.lokD_compU] | (simp only [V.cells]; first | rw [M.lok_comp] | rw [M.lokD_comp])); refine tB ?_)
 | (refine tA ?_))
def W_1p {a_ content_ n_ y} (hy : (F_1p a_ content_ n_) = some y) := acW (Wq_1p a_ content_ n_) hy
noncomputable def F_3i (a_ : GEstate) (place_ : Int) (t_ : Int) (x36 : Int × (List Int)) : Option (Fl (Int × (List Int)) (List Int)) :=
 bif decide (x36.1 ≤ 63) then jn (α := List Int) ((F_j a_ t_).bind fun y49 => (F_1p a_ x36.1 y49).bind fun y50 => chk (inb place_ y50.length) (bif (y50.getD (place_).toNat default) then chk (room (x36.2.length + [x36.1].length) 8) (some (x36.2 ++ [x36.1])) else some x36.2)) fun j46 => chk (in64 (x36.1 + 1)) (some (.nx ((x36.1 + 1), j46))) else some (.ex x36.2)
noncomputable def F_1q (a_ : GEstate) (place_ : Int) (t_ : Int) : Option (List Int) :=
 (F_2 a_ place_).bind fun y4 => bif (!y4) then some [] else (loop (F_3i a_ place_ t_) (0,[])).bind fun r51 => some r51
@[irreducible] def mc_68 : MC :=
 (.reg [mo (.mv (.t 8)) 15,
 mo (.bin true .add (.t 15) (.c (.int .i64 1))) 16,
 mo (.mv (.t 16)) 8])
@[irreducible] def mc_3i : MC :=
 (.seq (.seq (.reg [mo (.mv (.t 8)) 13,
 mo (.bin false .leq (.t 13) (.c (.int .i64 63))) 14])
 (.cond (.t 14)
 .skip
 (.exit 0)))
 (.cut (.block 1
 (.seq (.regD [mo (.ld (some 2) (.t 3)) 17,
 mo (.mv (.t 8)) 18,
 mo (.ld (some 2) (.t 3)) 19,
 mo (.mv (.t 2)) 20,
 mo (.call (.f 32) [(.t 19),(.t 20)] [] []) 21,
 mo (.call (.f 31) [(.t 17),(.t 18),(.t 21)] [] []) 22,
 mo (.mv (.t 1)) 23,
 mo (.iad 1 (.t 22) (.t 23)) 24,
 mo (.ld none (.t 24)) 25]
 [[],[],[],[],[2,3],[0,1,4,4],[],[5,6],[7]]
 [[],[],[],[],[2,3],[0,1,2,3,4],[],[0,1,2,3,4,5,6],[0,1,2,3,4,5,6,7]])
 (.cond (.t 25)
 (.note (.gc [1,2,3,7,8]) (.reg [mo (.mv (.t 7)) 26,
 mo (.mv (.t 8)) 27,
 mo (.bslice 1 [(.t 27)]) 28,
 mo (.app 1 8 (.t 26) (.t 28)) 29,
 mo (.mv (.t 29)) 7]))
 .skip)))
 mc_68))
def mc_1q : MC :=
 (.seq (.reg [mo (.box (.t 0)) 3,
 mo (.mv (.c (.sl []))) 6])
 (.seq (.seq (.reg [mo (.ld (some 2) (.t 3)) 9,
 mo (.mv (.t 1)) 10,
 mo (.call (.f 30) [(.t 9),(.t 10)] [] []) 11,
 mo (.not (.t 11)) 12])
 (.cond (.t 12)
 (.seq (.reg [mo (.mv (.c (.sl []))) 6])
 .ret)
 .skip))
 (.seq (.reg [mo (.mv (.c .nils)) 7])
 (.seq (.seq (.reg [mo (.mv (.c (.int .i64 0))) 8])
 (.block 0
 (.loop mc_3i)))
 (.seq (.reg [mo (.mv (.t 7)) 30,
 mo (.mv (.t 30)) 6])
 .ret)))))
theorem Wq_1q (a_ : GEstate) (place_ : Int) (t_ : Int) {Q : List Int → Prop} {Q' : V → Heap → Prop} (h : Ok (F_1q a_ place_ t_) Q) (hQ : ∀ z, Q z → Q' (.sl (z.map (V.int .i64))) []) : ACall Tryz.prog 15 [GEstate.v a_, .int .i64 place_, .int .i64 t_] [] Q' := by
 refine acallM mc_1q [.fz 6] [] [.t 6] Tryz.func15 fun M => ?_
 unfold F_1q at h
 unfold mc_1q
 replace h := tY h
 refine tB ?_
 repeat' (first
 | (exact tZ)
 | ((first | refine oblg h ?_ | refine roomG h ?_ | refine fork h ?_ ?_ | refine forkS h ?_ ?_) <;> clear h <;> intro hc h)
 | (obtain ⟨y, hy, h⟩ := h; (first | with_reducible first | have hw := W_2 hy | have hw := W_j hy | have hw := W_1p hy); replace hw := tY hw; (first | refine M.sC hw ?_ | refine M.sD hw ?_); clear hw hy; refine tB ?_)
 | (refine M.jn1 (b := mc_68) [1,2,3,8] [3] (fun y => [(7, .osl 2007 1 0 y.length)]) (fun y => [.o 2007 (.arr 1 (y.map (V.int .i64)))]) [.gc [1,2,3,7,8], .acc 7 2007 1] h ?_ ?_ <;> first
 | (clear h; intro Qn K hK1 h; replace h := tY h; refine tB ?_)
  |(clear h; intro y h; unfold mc_68; replace h := tY h; refine tB ?_))
 | (refine M.wh1 (b := mc_3i) [1,2,3] [3] (fun x => [(7, .osl 2007 1 0 x.2.length), (8, .int .i64 x.1)]) (fun x => [.o 2007 (.arr 1 (x.2.map (V.int .i64)))]) [.gc [1,2,3,7,8], .acc 7 2007 1] h ?_ ?_ <;> first
 | (clear h; intro x Qn K hK2 h; unfold F_3i at h; unfold mc_3i; replace h := tY h; refine tB ?_)
  |(clear h; (try refine tB ?_); exact tU0; done))
 | ((first | refine hK1 _ ?_ | refine hK2 _ ?_); (try refine tB ?_); refine ⟨_, h, ?_⟩; exact tU0; done)
 | (refine tE ?_; (first | rw [M.lok_compU] | rw [M.lokD_compU]); refine tB ?_)
 | (refine tA ?_))
def W_1q {a_ place_ t_ y} (hy : (F_1q a_ place_ t_) = some y) := acW (Wq_1q a_ place_ t_) hy
noncomputable def F_2c (a_ : GEstate) (place_ : Int) (t_ : Int) (x29 : Int) : Option (Fl Int (Sum Unit (Int × Bool))) :=
 bif decide (0 ≤ x29) then (F_c a_ place_ x29 t_).bind fun y37 => bif y37 then some (.ex (.inr (x29, true))) else chk (in64 (x29 - 1)) (some (.nx (x29 - 1))) else some (.ex (.inl ()))
noncomputable def F_1r (a_ : GEstate) (place_ : Int) (t_ : Int) : Option (Int × Bool) :=
 chk (in64 ((a_.Events.length : Int) - 1)) ((loop (F_2c a_ place_ t_) ((a_.Events.length : Int) - 1)).bind fun r38 => Sum.elim (fun u39 => some (0, false)) (fun u40 => some u40) r38)
@[irreducible] def mc_2c : MC :=
 (.seq (.seq (.reg [mo (.mv (.t 8)) 13,
 mo (.bin false .geq (.t 13) (.c (.int .i64 0))) 14])
 (.cond (.t 14)
 .skip
 (.exit 0)))
 (.seq (.block 1
 (.seq (.reg [mo (.ld (some 2) (.t 3)) 17,
 mo (.mv (.t 1)) 18,
 mo (.mv (.t 8)) 19,
 mo (.mv (.t 2)) 20,
 mo (.call (.f 40) [(.t 17),(.t 18),(.t 19),(.t 20)] [] []) 21])
 (.cond (.t 21)
 (.seq (.note (.gc [8]) (.reg [mo (.mv (.t 8)) 22,
 mo (.mv (.t 22)) 6,
 mo (.mv (.c (.bool true))) 7]))
 .ret)
 .skip)))
 (.reg [mo (.mv (.t 8)) 15,
 mo (.bin true .sub (.t 15) (.c (.int .i64 1))) 16,
 mo (.mv (.t 16)) 8])))
def mc_1r : MC :=
 (.seq (.reg [mo (.box (.t 0)) 3,
 mo (.mv (.c (.int .i64 0))) 6,
 mo (.mv (.c (.bool false))) 7])
 (.seq (.seq (.reg [mo (.fad 1 (.t 3)) 9,
 mo (.ld none (.t 9)) 10,
 mo (.len false (.t 10)) 11,
 mo (.bin true .sub (.t 11) (.c (.int .i64 1))) 12,
 mo (.mv (.t 12)) 8])
 (.block 0
 (.loop mc_2c)))
 (.seq (.reg [mo (.mv (.c (.int .i64 0))) 6,
 mo (.mv (.c (.bool false))) 7])
 .ret)))
theorem Wq_1r (a_ : GEstate) (place_ : Int) (t_ : Int) {Q : Int × Bool → Prop} {Q' : V → Heap → Prop} (h : Ok (F_1r a_ place_ t_) Q) (hQ : ∀ z, Q z → Q' (.tup [.int .i64 z.1, .bool z.2]) []) : ACall Tryz.prog 21 [GEstate.v a_, .int .i64 place_, .int .i64 t_] [] Q' := by
 refine acallM mc_1r [] [] [.t 6, .t 7] Tryz.func21 fun M => ?_
 unfold F_1r at h
 unfold mc_1r
 replace h := tY h
 refine tB ?_
 repeat' (first
 | (exact tZ)
 | ((first | refine oblg h ?_ | refine roomG h ?_ | refine fork h ?_ ?_ | refine forkS h ?_ ?_) <;> clear h <;> intro hc h)
 | (obtain ⟨y, hy, h⟩ := h; have hw := W_c hy; replace hw := tY hw; (first | refine M.sC hw ?_ | refine M.sD hw ?_); clear hw hy; refine tB ?_)
 | (refine M.wh1 (b := mc_2c) [1,2,3] [3] (fun x => [(8, .int .i64 x)]) (fun x => []) [] h ?_ ?_ <;> first
 | (clear h; intro x Qn K hK1 h; unfold F_2c at h; unfold mc_2c; replace h := tY h; refine tB ?_)
  |(clear h; (try refine tB ?_); exact tU0; done))
 | (refine hK1 _ ?_; (try refine tB ?_); refine ⟨_, h, ?_⟩; exact tU0; done)
 | (refine tE ?_; (first | rw [M.lok_compU] | rw [M.lokD_compU]); refine tB ?_)
 | (refine tA ?_))
def W_1r {a_ place_ t_ y} (hy : (F_1r a_ place_ t_) = some y) := acW (Wq_1r a_ place_ t_) hy
def F_33 (k28 : Int) (a29 : Bool) (x27 : List Int) : Option (List Int) :=
 bif a29 then chk (room (x27.length + [k28].length) 8) (some (x27 ++ [k28])) else some x27
def F_17 (d_ : GDirectory) (p_ : Int) (t_ : Int) : Option (List Int) :=
 (F_8 d_).bind fun y7 => bif (!y7) then some [] else (F_3 d_ p_).bind fun y8 => bif (!y8) then some [] else (upF d_.Kinds.length (d_.Events.map fun e => (e.Time, e.Kind, e.Principal, e.Group)) p_ t_).bind fun y21 => (foldL F_33 y21 0 []).bind fun x30 => some x30
@[irreducible] def mc_33 : MC :=
 (.seq (.reg [mo (.bin false .lss (.t 24) (.t 23)) 25])
 (.seq (.cond (.t 25)
 .skip
 (.exit 0))
 (.seq (.block 1
 (.seq (.reg [mo (.mv (.t 24)) 26,
 mo (.iad 1 (.t 22) (.t 24)) 27,
 mo (.ld none (.t 27)) 28,
 mo (.mv (.t 26)) 8,
 mo (.mv (.t 28)) 9])
 (.seq (.reg [mo (.mv (.t 9)) 29])
 (.cond (.t 29)
 (.reg [mo (.mv (.t 7)) 30,
 mo (.mv (.t 8)) 31,
 mo (.bslice 1 [(.t 31)]) 32,
 mo (.app 1 8 (.t 30) (.t 32)) 33,
 mo (.mv (.t 33)) 7])
 .skip))))
 (.reg [mo (.bin true .add (.t 24) (.c (.int .i64 1))) 34,
 mo (.mv (.t 34)) 24]))))
def mc_17 : MC :=
 (.seq (.reg [mo (.box (.t 0)) 3,
 mo (.mv (.c (.sl []))) 6])
 (.seq (.seq (.reg [mo (.ld (some 2) (.t 3)) 10,
 mo (.call (.f 33) [(.t 10)] [] []) 11,
 mo (.not (.t 11)) 12,
 mo (.mv (.t 12)) 13,
 ⟨.ld (some 2) (.t 3), (some 14), (some (13, false))⟩,
 ⟨.mv (.t 1), (some 15), (some (13, false))⟩,
 ⟨.call (.f 38) [(.t 14),(.t 15)] [] [], (some 16), (some (13, false))⟩,
 ⟨.not (.t 16), (some 17), (some (13, false))⟩,
 mo (.pick (.t 13) (.c (.bool true)) (.t 17)) 18])
 (.cond (.t 18)
 (.seq (.reg [mo (.mv (.c (.sl []))) 6])
 .ret)
 .skip))
 (.seq (.reg [mo (.mv (.c .nils)) 7])
 (.seq (.seq (.note (.gc [1,2,3,7]) (.reg [mo (.ld (some 2) (.t 3)) 19,
 mo (.mv (.t 1)) 20,
 mo (.mv (.t 2)) 21,
 mo (.call (.f 85) [(.t 19),(.t 20),(.t 21)] [] []) 22,
 mo (.len false (.t 22)) 23,
 mo (.mv (.c (.int .i64 0))) 24]))
 (.block 0
 (.loop mc_33)))
 (.seq (.reg [mo (.mv (.t 7)) 35,
 mo (.mv (.t 35)) 6])
 .ret)))))
theorem Wq_17 (d_ : GDirectory) (p_ : Int) (t_ : Int) {Q : List Int → Prop} {Q' : V → Heap → Prop} (h : Ok (F_17 d_ p_ t_) Q) (hQ : ∀ z, Q z → Q' (.sl (z.map (V.int .i64))) []) : ACall Tryz.prog 57 [GDirectory.v d_, .int .i64 p_, .int .i64 t_] [] Q' := by
 refine acallM mc_17 [.fz 6] [] [.t 6] Tryz.func57 fun M => ?_
 unfold F_17 at h
 unfold mc_17
 replace h := tY h
 refine tB ?_
 repeat' (first
 | (exact tZ)
 | ((first | refine oblg h ?_ | refine roomG h ?_ | refine fork h ?_ ?_ | refine forkS h ?_ ?_) <;> clear h <;> intro hc h)
 | (obtain ⟨y, hy, h⟩ := h; (first | (with_reducible first | have hw := W_8 hy | have hw := W_3 hy) | have hw := W_up (f := GMember.v) (e4 := fun e => (e.Time, e.Kind, e.Principal, e.Group)) (fun _ => rfl) hy); replace hw := tY hw; (first | refine M.sC hw ?_ | refine M.sD hw ?_); clear hw hy; refine tB ?_)
 | (refine M.fold1 (b := mc_33) 24 [22,23] [] (fun x => [(7, .osl 2007 1 0 x.length)]) (fun x => [.o 2007 (.arr 1 (x.map (V.int .i64)))]) [.gc [7,22,23,24], .acc 7 2007 1] h ?_ ?_ ?_ <;> first
 | (clear h; intro k a x Qn K hK1 hkN1 ha1 h hf; have hl := fact_int (factsE_find (n := 23) hf.1 rfl); clear hf; have hkd := kD hkN1; have hkB1 := kB hkN1; have hkI1 := kI (k := k) (by omega); unfold F_33 at h; unfold mc_33; replace h := tY h; refine tK ha1 hkd hkN1 hkB1 hkI1 ?_)
  |(clear h; intro x K h; replace h := And.left (And.intro h trivial); unfold mc_33; replace h := tY h; refine tB ?_)
  |(clear h; (try refine tB ?_); exact tU0; done))
 | (simp only [ha1])
 | (refine hK1 _ ?_; (try refine tB ?_); refine ⟨_, h, ?_⟩; exact tU0; done)
 | (refine tE ?_; (first | rw [M.lok_compU] | rw [M.lokD_compU]); refine tB ?_)
 | (refine tA ?_))
def W_17 {d_ p_ t_ y} (hy : (F_17 d_ p_ t_) = some y) := acW (Wq_17 d_ p_ t_) hy
noncomputable def F_3j (a_ : GEstate) (place_ : Int) (t_ : Int) (x26 : Int × (List Int)) : Option (Fl (Int × (List Int)) (List Int)) :=
 bif decide (x26.1 < 24) then jn (α := List Int) ((F_z a_ place_ x26.1 t_).bind fun y34 => bif decide (0 ≤ y34) then chk (room (x26.2.length + [x26.1].length) 8) (some (x26.2 ++ [x26.1])) else some x26.2) fun j32 => chk (in64 (x26.1 + 1)) (some (.nx ((x26.1 + 1), j32))) else some (.ex x26.2)
noncomputable def F_18 (a_ : GEstate) (place_ : Int) (t_ : Int) : Option (List Int) :=
 (F_2 a_ place_).bind fun y4 => bif (!y4) then some [] else (loop (F_3j a_ place_ t_) (0,[])).bind fun r35 => some r35
@[irreducible] def mc_69 : MC :=
 (.reg [mo (.mv (.t 8)) 15,
 mo (.bin true .add (.t 15) (.c (.int .i64 1))) 16,
 mo (.mv (.t 16)) 8])
@[irreducible] def mc_3j : MC :=
 (.seq (.seq (.reg [mo (.mv (.t 8)) 13,
 mo (.bin false .lss (.t 13) (.c (.int .i64 24))) 14])
 (.cond (.t 14)
 .skip
 (.exit 0)))
 (.cut (.block 1
 (.seq (.reg [mo (.ld (some 2) (.t 3)) 17,
 mo (.mv (.t 1)) 18,
 mo (.mv (.t 8)) 19,
 mo (.mv (.t 2)) 20,
 mo (.call (.f 86) [(.t 17),(.t 18),(.t 19),(.t 20)] [] []) 21,
 mo (.bin false .geq (.t 21) (.c (.int .i64 0))) 22])
 (.cond (.t 22)
 (.note (.gc [1,2,3,7,8]) (.reg [mo (.mv (.t 7)) 23,
 mo (.mv (.t 8)) 24,
 mo (.bslice 1 [(.t 24)]) 25,
 mo (.app 1 8 (.t 23) (.t 25)) 26,
 mo (.mv (.t 26)) 7]))
 .skip)))
 mc_69))
def mc_18 : MC :=
 (.seq (.reg [mo (.box (.t 0)) 3,
 mo (.mv (.c (.sl []))) 6])
 (.seq (.seq (.reg [mo (.ld (some 2) (.t 3)) 9,
 mo (.mv (.t 1)) 10,
 mo (.call (.f 30) [(.t 9),(.t 10)] [] []) 11,
 mo (.not (.t 11)) 12])
 (.cond (.t 12)
 (.seq (.reg [mo (.mv (.c (.sl []))) 6])
 .ret)
 .skip))
 (.seq (.reg [mo (.mv (.c .nils)) 7])
 (.seq (.seq (.reg [mo (.mv (.c (.int .i64 0))) 8])
 (.block 0
 (.loop mc_3j)))
 (.seq (.reg [mo (.mv (.t 7)) 27,
 mo (.mv (.t 27)) 6])
 .ret)))))
theorem Wq_18 (a_ : GEstate) (place_ : Int) (t_ : Int) {Q : List Int → Prop} {Q' : V → Heap → Prop} (h : Ok (F_18 a_ place_ t_) Q) (hQ : ∀ z, Q z → Q' (.sl (z.map (V.int .i64))) []) : ACall Tryz.prog 58 [GEstate.v a_, .int .i64 place_, .int .i64 t_] [] Q' := by
 refine acallM mc_18 [.fz 6] [] [.t 6] Tryz.func58 fun M => ?_
 unfold F_18 at h
 unfold mc_18
 replace h := tY h
 refine tB ?_
 repeat' (first
 | (exact tZ)
 | ((first | refine oblg h ?_ | refine roomG h ?_ | refine fork h ?_ ?_ | refine forkS h ?_ ?_) <;> clear h <;> intro hc h)
 | (obtain ⟨y, hy, h⟩ := h; (first | with_reducible first | have hw := W_2 hy | have hw := W_z hy); replace hw := tY hw; (first | refine M.sC hw ?_ | refine M.sD hw ?_); clear hw hy; refine tB ?_)
 | (refine M.jn1 (b := mc_69) [1,2,3,8] [3] (fun y => [(7, .osl 2007 1 0 y.length)]) (fun y => [.o 2007 (.arr 1 (y.map (V.int .i64)))]) [.gc [1,2,3,7,8], .acc 7 2007 1] h ?_ ?_ <;> first
 | (clear h; intro Qn K hK1 h; replace h := tY h; refine tB ?_)
  |(clear h; intro y h; unfold mc_69; replace h := tY h; refine tB ?_))
 | (refine M.wh1 (b := mc_3j) [1,2,3] [3] (fun x => [(7, .osl 2007 1 0 x.2.length), (8, .int .i64 x.1)]) (fun x => [.o 2007 (.arr 1 (x.2.map (V.int .i64)))]) [.gc [1,2,3,7,8], .acc 7 2007 1] h ?_ ?_ <;> first
 | (clear h; intro x Qn K hK2 h; unfold F_3j at h; unfold mc_3j; replace h := tY h; refine tB ?_)
  |(clear h; (try refine tB ?_); exact tU0; done))
 | ((first | refine hK1 _ ?_ | refine hK2 _ ?_); (try refine tB ?_); refine ⟨_, h, ?_⟩; exact tU0; done)
 | (refine tE ?_; (first | rw [M.lok_compU] | rw [M.lokD_compU]); refine tB ?_)
 | (refine tA ?_))
def W_18 {a_ place_ t_ y} (hy : (F_18 a_ place_ t_) = some y) := acW (Wq_18 a_ place_ t_) hy
noncomputable def F_34 (y2 : List Int) (k37 : Int) (a38 : Int) (x36 : Unit) : Option (Fl Unit Bool) :=
 (F_10 y2 a38).bind fun y46 => bif y46 then some (.ex true) else some (.nx ())
noncomputable def F_1s (d_ : GDirectory) (a_ : GEstate) (p_ : Int) (place_ : Int) (t_ : Int) : Option Bool :=
 (F_17 d_ p_ t_).bind fun y2 => (F_18 a_ place_ t_).bind fun y25 => (forL (F_34 y2) y25 0 ()).bind fun o => o.elim (fun x47 => some false) (fun r48 => some r48)
@[irreducible] def mc_34 : MC :=
 (.seq (.reg [mo (.bin false .lss (.t 23) (.t 22)) 24])
 (.seq (.cond (.t 24)
 .skip
 (.exit 0))
 (.seq (.block 1
 (.seq (.reg [mo (.iad 1 (.t 21) (.t 23)) 25,
 mo (.ld none (.t 25)) 26,
 mo (.mv (.t 26)) 13])
 (.seq (.reg [mo (.mv (.t 11)) 27,
 mo (.mv (.t 13)) 28,
 mo (.call (.f 59) [(.t 27),(.t 28)] [] []) 29])
 (.cond (.t 29)
 (.seq (.reg [mo (.mv (.c (.bool true))) 10])
 .ret)
 .skip))))
 (.reg [mo (.bin true .add (.t 23) (.c (.int .i64 1))) 30,
 mo (.mv (.t 30)) 23]))))
def mc_1s : MC :=
 (.seq (.reg [mo (.box (.t 0)) 5,
 mo (.box (.t 1)) 6,
 mo (.mv (.c (.bool false))) 10])
 (.seq (.reg [mo (.ld (some 2) (.t 5)) 14,
 mo (.mv (.t 2)) 15,
 mo (.mv (.t 4)) 16,
 mo (.call (.f 57) [(.t 14),(.t 15),(.t 16)] [] []) 17,
 mo (.mv (.t 17)) 11])
 (.seq (.seq (.note (.gc [3,4,6,11]) (.reg [mo (.ld (some 2) (.t 6)) 18,
 mo (.mv (.t 3)) 19,
 mo (.mv (.t 4)) 20,
 mo (.call (.f 58) [(.t 18),(.t 19),(.t 20)] [] []) 21,
 mo (.len false (.t 21)) 22,
 mo (.mv (.c (.int .i64 0))) 23]))
 (.block 0
 (.loop mc_34)))
 (.seq (.reg [mo (.mv (.c (.bool false))) 10])
 .ret))))
theorem Wq_1s (d_ : GDirectory) (a_ : GEstate) (p_ : Int) (place_ : Int) (t_ : Int) {Q : Bool → Prop} {Q' : V → Heap → Prop} (h : Ok (F_1s d_ a_ p_ place_ t_) Q) (hQ : ∀ z, Q z → Q' (.bool z) []) : ACall Tryz.prog 34 [GDirectory.v d_, GEstate.v a_, .int .i64 p_, .int .i64 place_, .int .i64 t_] [] Q' := by
 refine acallM mc_1s [] [] [.t 10] Tryz.func34 fun M => ?_
 unfold F_1s at h
 unfold mc_1s
 replace h := tY h
 refine tB ?_
 repeat' (first
 | (exact tZ)
 | ((first | refine oblg h ?_ | refine roomG h ?_ | refine fork h ?_ ?_ | refine forkS h ?_ ?_) <;> clear h <;> intro hc h)
 | (obtain ⟨y, hy, h⟩ := h; (first | with_reducible first | have hw := W_17 hy | have hw := W_18 hy | have hw := W_10 hy); replace hw := tY hw; (first | refine M.sC hw ?_ | refine M.sD hw ?_); clear hw hy; refine tB ?_)
 | (refine M.for1 (b := mc_34) 23 [11,21,22] [] (fun x => []) (fun x => []) [] h ?_ ?_ ?_ <;> first
 | (clear h; intro k a x Qn K hK1 hkN1 ha1 h hf; have hl := fact_int (factsE_find (n := 22) hf.1 rfl); clear hf; have hkd := kD hkN1; have hkB1 := kB hkN1; have hkI1 := kI (k := k) (by omega); unfold F_34 at h; unfold mc_34; replace h := tY h; refine tK ha1 hkd hkN1 hkB1 hkI1 ?_)
  |(clear h; intro x K h; replace h := And.left (And.intro h trivial); unfold mc_34; replace h := tY h; refine tB ?_)
  |(clear h; (try refine tB ?_); exact tU0; done))
 | (simp only [ha1])
 | (refine hK1 _ ?_; (try refine tB ?_); refine ⟨_, h, ?_⟩; exact tU0; done)
 | (refine tE ?_; (first | rw [M.lok_compU] | rw [M.lokD_compU]); refine tB ?_)
 | (refine tA ?_))
def W_1s {d_ a_ p_ place_ t_ y} (hy : (F_1s d_ a_ p_ place_ t_) = some y) := acW (Wq_1s d_ a_ p_ place_ t_) hy
noncomputable def F_19 (d_ : GDirectory) (a_ : GEstate) (p_ : Int) (place_ : Int) (t_ : Int) : Option Bool :=
 (F_8 d_).bind fun y10 => bif (!y10) then some false else (F_2 a_ place_).bind fun y11 => bif (!y11) then some false else (F_i d_ p_).bind fun y12 => bif (!y12) then some false else (F_1r a_ place_ t_).bind fun y14 => jn (α := Bool) (bif y14.2 then some true else (F_1s d_ a_ p_ place_ t_).bind fun y18 => some y18) fun j19 => some j19
@[irreducible] def mg_6a : List MOp := [⟨.ld (some 2) (.t 5), (some 37), (some (36, false))⟩,
 ⟨.ld (some 2) (.t 6), (some 38), (some (36, false))⟩,
 ⟨.mv (.t 2), (some 39), (some (36, false))⟩,
 ⟨.mv (.t 3), (some 40), (some (36, false))⟩,
 ⟨.mv (.t 4), (some 41), (some (36, false))⟩,
 ⟨.call (.f 34) [(.t 37),(.t 38),(.t 39),(.t 40),(.t 41)] [] [], (some 42), (some (36, false))⟩,
 mo (.pick (.t 36) (.c (.bool true)) (.t 42)) 43]
def mc_19 : MC :=
 (.seq (.reg [mo (.box (.t 0)) 5,
 mo (.box (.t 1)) 6,
 mo (.mv (.c (.bool false))) 10])
 (.seq (.seq (.reg [mo (.ld (some 2) (.t 5)) 13,
 mo (.call (.f 33) [(.t 13)] [] []) 14,
 mo (.not (.t 14)) 15,
 mo (.mv (.t 15)) 16,
 ⟨.ld (some 2) (.t 6), (some 17), (some (16, false))⟩,
 ⟨.mv (.t 3), (some 18), (some (16, false))⟩,
 ⟨.call (.f 30) [(.t 17),(.t 18)] [] [], (some 19), (some (16, false))⟩,
 ⟨.not (.t 19), (some 20), (some (16, false))⟩,
 mo (.pick (.t 16) (.c (.bool true)) (.t 20)) 21,
 mo (.mv (.t 21)) 22,
 ⟨.ld (some 2) (.t 5), (some 23), (some (22, false))⟩,
 ⟨.mv (.t 2), (some 24), (some (22, false))⟩,
 ⟨.call (.f 19) [(.t 23),(.t 24)] [] [], (some 25), (some (22, false))⟩,
 ⟨.not (.t 25), (some 26), (some (22, false))⟩,
 mo (.pick (.t 22) (.c (.bool true)) (.t 26)) 27])
 (.cond (.t 27)
 (.seq (.reg [mo (.mv (.c (.bool false))) 10])
 .ret)
 .skip))
 (.seq (.note (.gc [2,3,4,5,6,37,38,39,40,41,42]) (.reg [mo (.ld (some 2) (.t 6)) 29,
 mo (.mv (.t 3)) 30,
 mo (.mv (.t 4)) 31,
 mo (.call (.f 21) [(.t 29),(.t 30),(.t 31)] [] []) 32,
 mo (.mv (.t 32)) 28,
 mo (.ext 0 (.t 28)) 33,
 mo (.ext 1 (.t 28)) 34,
 mo (.mv (.t 33)) 11,
 mo (.mv (.t 34)) 12]))
 (.seq (.note (.gc [2,3,4,5,6,12,37,38,39,40,41,42]) (.regI [.op (mo (.mv (.t 12)) 35),
 .op (mo (.mv (.t 35)) 36),
 .grp mg_6a,
 .op (mo (.mv (.t 43)) 10)]))
 .ret))))
theorem Wq_19 (d_ : GDirectory) (a_ : GEstate) (p_ : Int) (place_ : Int) (t_ : Int) {Q : Bool → Prop} {Q' : V → Heap → Prop} (h : Ok (F_19 d_ a_ p_ place_ t_) Q) (hQ : ∀ z, Q z → Q' (.bool z) []) : ACall Tryz.prog 16 [GDirectory.v d_, GEstate.v a_, .int .i64 p_, .int .i64 place_, .int .i64 t_] [] Q' := by
 refine acallM mc_19 [] [] [.t 10] Tryz.func16 fun M => ?_
 unfold F_19 at h
 unfold mc_19
 replace h := tY h
 refine tB ?_
 repeat' (first
 | (exact tZ)
 | ((first | refine oblg h ?_ | refine roomG h ?_ | refine fork h ?_ ?_ | refine forkS h ?_ ?_) <;> clear h <;> intro hc h)
 | (obtain ⟨y, hy, h⟩ := h; (first | with_reducible first | have hw := W_8 hy | have hw := W_2 hy | have hw := W_i hy | have hw := W_1r hy | have hw := W_1s hy); replace hw := tY hw; (first | refine M.sC hw ?_ | refine M.sD hw ?_); clear hw hy; refine tB ?_)
 | (refine M.gj1 (ms := mg_6a) [] [] (fun y => [(43, .bool y)]) (fun y => []) h ?_ ?_ <;> first
 | (clear h; intro Qn K hK1 h; unfold mg_6a; replace h := tY h; refine tB ?_)
  |(clear h; intro y h; replace h := tY h; refine tB ?_))
 | (refine hK1 _ ?_; (try refine tB ?_); refine ⟨_, h, ?_⟩; exact tU0; done)
 | (refine tE ?_; (first | rw [M.lok_compU] | rw [M.lokD_compU]); refine tB ?_)
 | (refine tA ?_))
def W_19 {d_ a_ p_ place_ t_ y} (hy : (F_19 d_ a_ p_ place_ t_) = some y) := acW (Wq_19 d_ a_ p_ place_ t_) hy
noncomputable def F_1t (d_ : GDirectory) (a_ : GEstate) (content_ : Int) (p_ : Int) (t_ : Int) : Option Bool :=
 (F_e d_ a_ content_).bind fun y10 => grp (((!decide (y10 = 0)) || decide (t_ < 0))) fun b11 => grp ((b11 || decide (1099511627776 < t_))) fun b12 => bif b12 then some false else (F_g d_ a_ content_ p_ t_).bind fun y14 => some y14.2
@[irreducible] def mg_6b : List MOp := [⟨.mv (.t 4), (some 19), (some (18, false))⟩,
 ⟨.bin false .lss (.t 19) (.c (.int .i64 0)), (some 20), (some (18, false))⟩,
 mo (.pick (.t 18) (.c (.bool true)) (.t 20)) 21]
@[irreducible] def mg_6c : List MOp := [⟨.mv (.t 4), (some 23), (some (22, false))⟩,
 ⟨.bin false .gtr (.t 23) (.c (.int .i64 1099511627776)), (some 24), (some (22, false))⟩,
 mo (.pick (.t 22) (.c (.bool true)) (.t 24)) 25]
def mc_1t : MC :=
 (.seq (.reg [mo (.box (.t 0)) 5,
 mo (.box (.t 1)) 6,
 mo (.mv (.c (.bool false))) 10])
 (.seq (.seq (.regI [.op (mo (.ld (some 2) (.t 5)) 13),
 .op (mo (.ld (some 2) (.t 6)) 14),
 .op (mo (.mv (.t 2)) 15),
 .op (mo (.call (.f 28) [(.t 13),(.t 14),(.t 15)] [] []) 16),
 .op (mo (.bin false .neq (.t 16) (.c (.int .i64 0))) 17),
 .op (mo (.mv (.t 17)) 18),
 .grp mg_6b,
 .op (mo (.mv (.t 21)) 22),
 .grp mg_6c])
 (.cond (.t 25)
 (.seq (.reg [mo (.mv (.c (.bool false))) 10])
 .ret)
 .skip))
 (.seq (.note (.gc [2,3,4,5,6]) (.reg [mo (.ld (some 2) (.t 5)) 27,
 mo (.ld (some 2) (.t 6)) 28,
 mo (.mv (.t 2)) 29,
 mo (.mv (.t 3)) 30,
 mo (.mv (.t 4)) 31,
 mo (.call (.f 35) [(.t 27),(.t 28),(.t 29),(.t 30),(.t 31)] [] []) 32,
 mo (.mv (.t 32)) 26,
 mo (.ext 0 (.t 26)) 33,
 mo (.ext 1 (.t 26)) 34,
 mo (.mv (.t 33)) 11,
 mo (.mv (.t 34)) 12]))
 (.seq (.reg [mo (.mv (.t 12)) 35,
 mo (.mv (.t 35)) 10])
 .ret))))
theorem Wq_1t (d_ : GDirectory) (a_ : GEstate) (content_ : Int) (p_ : Int) (t_ : Int) {Q : Bool → Prop} {Q' : V → Heap → Prop} (h : Ok (F_1t d_ a_ content_ p_ t_) Q) (hQ : ∀ z, Q z → Q' (.bool z) []) : ACall Tryz.prog 17 [GDirectory.v d_, GEstate.v a_, .int .i64 content_, .int .i64 p_, .int .i64 t_] [] Q' := by
 refine acallM mc_1t [] [] [.t 10] Tryz.func17 fun M => ?_
 unfold F_1t at h
 unfold mc_1t
 replace h := tY h
 refine tB ?_
 repeat' (first
 | (exact tZ)
 | ((first | refine oblg h ?_ | refine roomG h ?_ | refine fork h ?_ ?_ | refine forkS h ?_ ?_) <;> clear h <;> intro hc h)
 | (obtain ⟨y, hy, h⟩ := h; (first | with_reducible first | have hw := W_e hy | have hw := W_g hy); replace hw := tY hw; (first | refine M.sC hw ?_ | refine M.sD hw ?_); clear hw hy; refine tB ?_)
 | (refine M.gv1 (ms := mg_6c) 25 [23,24] h ?_ ?_ <;> first
 | (clear h; intro K hK1; unfold mg_6c; refine tB ?_)
 | (clear h; intro b h; replace h := tY h; refine tB ?_))
 | (refine M.gv1 (ms := mg_6b) 21 [19,20] h ?_ ?_ <;> first
 | (clear h; intro K hK2; unfold mg_6b; refine tB ?_)
 | (clear h; intro b h; replace h := tY h; refine tB ?_))
 | ((first | refine hK1 _ ?_ | refine hK2 _ ?_); exact tU; done)
 | (refine bfork (fun hc => ?_) (fun hc => ?_))
 | (refine tE ?_; (first | rw [M.lok_compU] | rw [M.lokD_compU]); refine tB ?_)
 | (refine tA ?_))
def W_1t {d_ a_ content_ p_ t_ y} (hy : (F_1t d_ a_ content_ p_ t_) = some y) := acW (Wq_1t d_ a_ content_ p_ t_) hy
noncomputable def F_35 (y6 : GDirectory × GTape) (j9 : Int) (y13 : Int × GTape) (x1959 : GEstate) (a1961 : Int) (k2382 : Int) (a2383 : Int) (x2381 : Unit) : Option (Fl Unit Bool) :=
 (F_19 y6.1 x1959 k2382 y13.1 j9).bind fun y2447 => jn (α := Bool) (bif y2447 then (F_1t y6.1 x1959 a1961 k2382 j9).bind fun y2449 => some (!y2449) else some false) fun j2450 => bif j2450 then some (.ex false) else (F_x y6.1 x1959 a1961 k2382).bind fun y2452 => (F_19 y6.1 x1959 k2382 y13.1 j9).bind fun y2455 => grp ((y2455 && ((!y2452.2) || decide (j9 < y2452.1)))) fun b2456 => bif b2456 then some (.ex false) else some (.nx ())
noncomputable def F_36 (y6 : GDirectory × GTape) (j9 : Int) (y13 : Int × GTape) (k1960 : Int) (a1961 : Int) (x1959 : GEstate) : Option (Fl GEstate Bool) :=
 (forL (F_35 y6 j9 y13 x1959 a1961) y6.1.Kinds 0 ()).bind fun o => o.elim (fun x2457 => some (.nx x1959)) (fun r2458 => some (.ex r2458))
noncomputable def F_22 (l_ : List Int) : Option Bool :=
 bif decide (400 < (l_.length : Int)) then F_q.bind fun y4 => some y4 else (F_1n (GTape.mk l_ 0)).bind fun y6 => (F_1o y6.2 y6.1).bind fun y8 => jn (α := Int) (bif decide (0 < (y8.1.Events.length : Int)) then chk (in64 ((y8.1.Events.length : Int) - 1)) (chk (inb ((y8.1.Events.length : Int) - 1) y8.1.Events.length) (some ((y8.1.Events.getD (((y8.1.Events.length : Int) - 1)).toNat default).Time))) else some 0) fun j9 => (F_0 y8.2 y8.1.Places).bind fun y12 => (F_0 y12.2 y8.1.Places).bind fun y13 => bif decide (y12.1 = y13.1) then F_q.bind fun y17 => some y17 else chk (room y8.1.Events.length 56) (chk (room (y8.1.Events.length + [(GAccess.mk j9 7 y13.1 0 0 0 y12.1)].length) 56) ((F_1q y8.1 y12.1 j9).bind fun y1107 => (forL (F_36 y6 j9 y13) y1107 0 (GEstate.mk y8.1.Places (y8.1.Events ++ [(GAccess.mk j9 7 y13.1 0 0 0 y12.1)]))).bind fun o => o.elim (fun x2459 => F_q.bind fun y2462 => some y2462) (fun r2460 => some r2460)))
@[irreducible] def mg_6d : List MOp := [⟨.ld (some 2) (.t 4), (some 85), (some (84, true))⟩,
 ⟨.ld (some 2) (.t 9), (some 86), (some (84, true))⟩,
 ⟨.mv (.t 11), (some 87), (some (84, true))⟩,
 ⟨.mv (.t 12), (some 88), (some (84, true))⟩,
 ⟨.mv (.t 6), (some 89), (some (84, true))⟩,
 ⟨.call (.f 17) [(.t 85),(.t 86),(.t 87),(.t 88),(.t 89)] [] [], (some 90), (some (84, true))⟩,
 ⟨.not (.t 90), (some 91), (some (84, true))⟩,
 mo (.pick (.t 84) (.t 91) (.c (.bool false))) 92]
@[irreducible] def mg_6e : List MOp := [⟨.mv (.t 14), (some 108), (some (107, true))⟩,
 ⟨.not (.t 108), (some 109), (some (107, true))⟩,
 ⟨.mv (.t 109), (some 110), (some (107, true))⟩,
 ⟨.mv (.t 13), (some 111), (some (110, false))⟩,
 ⟨.mv (.t 6), (some 112), (some (110, false))⟩,
 ⟨.bin false .gtr (.t 111) (.t 112), (some 113), (some (110, false))⟩,
 ⟨.pick (.t 110) (.c (.bool true)) (.t 113), (some 114), (some (107, true))⟩,
 mo (.pick (.t 107) (.t 114) (.c (.bool false))) 115]
@[irreducible] def mc_35 : MC :=
 (.seq (.reg [mo (.bin false .lss (.t 75) (.t 74)) 76])
 (.seq (.cond (.t 76)
 .skip
 (.exit 2))
 (.seq (.block 3
 (.seq (.reg [mo (.mv (.t 75)) 77,
 mo (.mv (.t 77)) 12])
 (.seq (.seq (.regI [.op (mo (.ld (some 2) (.t 4)) 78),
 .op (mo (.ld (some 2) (.t 9)) 79),
 .op (mo (.mv (.t 12)) 80),
 .op (mo (.mv (.t 8)) 81),
 .op (mo (.mv (.t 6)) 82),
 .nt (.fz 79),
 .op (mo (.call (.f 16) [(.t 78),(.t 79),(.t 80),(.t 81),(.t 82)] [] []) 83),
 .op (mo (.mv (.t 83)) 84),
 .grp mg_6d])
 (.cond (.t 92)
 (.seq (.reg [mo (.mv (.c (.bool false))) 2])
 .ret)
 .skip))
 (.seq (.reg [mo (.ld (some 2) (.t 4)) 94,
 mo (.ld (some 2) (.t 9)) 95,
 mo (.mv (.t 11)) 96,
 mo (.mv (.t 12)) 97,
 mo (.call (.f 12) [(.t 94),(.t 95),(.t 96),(.t 97)] [] []) 98,
 mo (.mv (.t 98)) 93,
 mo (.ext 0 (.t 93)) 99,
 mo (.ext 1 (.t 93)) 100,
 mo (.mv (.t 99)) 13,
 mo (.mv (.t 100)) 14])
 (.seq (.note (.gc [4,6,8,9,11,12,13,14,66,67,68,74,75,85,86,87,88,89,90,91,108,109,110,111,112,113,114]) (.regI [.op (mo (.ld (some 2) (.t 4)) 101),
 .op (mo (.ld (some 2) (.t 9)) 102),
 .op (mo (.mv (.t 12)) 103),
 .op (mo (.mv (.t 8)) 104),
 .op (mo (.mv (.t 6)) 105),
 .op (mo (.call (.f 16) [(.t 101),(.t 102),(.t 103),(.t 104),(.t 105)] [] []) 106),
 .op (mo (.mv (.t 106)) 107),
 .grp mg_6e]))
 (.cond (.t 115)
 (.seq (.reg [mo (.mv (.c (.bool false))) 2])
 .ret)
 .skip))))))
 (.reg [mo (.bin true .add (.t 75) (.c (.int .i64 1))) 116,
 mo (.mv (.t 116)) 75]))))
@[irreducible] def mc_36 : MC :=
 (.seq (.reg [mo (.bin false .lss (.t 68) (.t 67)) 69])
 (.seq (.cond (.t 69)
 .skip
 (.exit 0))
 (.seq (.block 1
 (.seq (.reg [mo (.iad 1 (.t 66) (.t 68)) 70,
 mo (.ld none (.t 70)) 71,
 mo (.mv (.t 71)) 11])
 (.seq (.reg [mo (.fad 0 (.t 4)) 72,
 mo (.ld none (.t 72)) 73,
 mo (.len false (.t 73)) 74,
 mo (.mv (.c (.int .i64 0))) 75])
 (.block 2
 (.loop mc_35)))))
 (.reg [mo (.bin true .add (.t 68) (.c (.int .i64 1))) 117,
 mo (.mv (.t 117)) 68]))))
@[irreducible] def mc_6f : MC :=
 (.seq (.regD [mo (.mv (.t 3)) 40,
 mo (.fad 0 (.t 5)) 41,
 mo (.ld none (.t 41)) 42,
 mo (.call (.f 11) [(.t 40),(.t 42)] [21] []) 43,
 mo (.mv (.t 3)) 44,
 mo (.fad 0 (.t 5)) 45,
 mo (.ld none (.t 45)) 46,
 mo (.call (.f 11) [(.t 44),(.t 46)] [21] []) 47,
 mo (.mv (.t 43)) 7,
 mo (.mv (.t 47)) 8]
 [[],[],[1],[0,2],[],[],[5],[4,6,3],[3,7,0,1,2,3],[7,8,0,1,2,3,4,5,6,7,8]]
 [[],[],[1],[0,1,2],[],[],[5],[0,1,2,3,4,5,6],[0,1,2,3,4,5,6,7],[0,1,2,3,4,5,6,7,8]])
 (.seq (.seq (.note (.gc [4,5,6,7,8,85,86,87,88,89,90,91,108,109,110,111,112,113,114]) (.reg [mo (.mv (.t 7)) 48,
 mo (.mv (.t 8)) 49,
 mo (.bin false .eql (.t 48) (.t 49)) 50]))
 (.cond (.t 50)
 (.seq (.reg [mo (.call (.f 8) [] [] []) 51,
 mo (.mv (.t 51)) 2])
 .ret)
 .skip))
 (.seq (.reg [mo (.ld (some 2) (.t 5)) 52,
 mo (.alloc [(.int .i64 0),(.sl [])]) 9,
 ⟨.st 2 (.t 9) (.t 52), none, none⟩])
 (.seq (.reg [mo (.fad 1 (.t 5)) 53,
 mo (.ld none (.t 53)) 54,
 mo (.app 7 56 (.c .nils) (.t 54)) 55,
 mo (.mv (.t 6)) 56,
 mo (.mv (.t 8)) 57,
 mo (.mv (.t 7)) 58,
 mo (.build [(.int .i64 0),(.int .i64 0),(.int .i64 0),(.int .i64 0),(.int .i64 0),(.int .i64 0),(.int .i64 0)] [(0,1,(.t 56)), (1,1,(.c (.int .i64 7))), (2,1,(.t 57)), (6,1,(.t 58))]) 59,
 mo (.bslice 7 [(.t 59)]) 60,
 mo (.app 7 56 (.t 55) (.t 60)) 61,
 mo (.fad 1 (.t 9)) 62,
 ⟨.st 1 (.t 62) (.t 61), none, none⟩])
 (.seq (.seq (.note (.gc [4,5,6,7,8,9,85,86,87,88,89,90,91,108,109,110,111,112,113,114]) (.reg [mo (.ld (some 2) (.t 5)) 63,
 mo (.mv (.t 7)) 64,
 mo (.mv (.t 6)) 65,
 mo (.call (.f 15) [(.t 63),(.t 64),(.t 65)] [] []) 66,
 mo (.len false (.t 66)) 67,
 mo (.mv (.c (.int .i64 0))) 68]))
 (.block 0
 (.loop mc_36)))
 (.seq (.reg [mo (.call (.f 8) [] [] []) 118,
 mo (.mv (.t 118)) 2])
 .ret))))))
def mc_22 : MC :=
 (.seq (.reg [mo (.mv (.c (.bool false))) 2])
 (.seq (.seq (.reg [mo (.mv (.t 0)) 15,
 mo (.len false (.t 15)) 16,
 mo (.bin false .gtr (.t 16) (.c (.int .i64 400))) 17])
 (.cond (.t 17)
 (.seq (.reg [mo (.call (.f 8) [] [] []) 18,
 mo (.mv (.t 18)) 2])
 .ret)
 .skip))
 (.seq (.reg [mo (.mv (.t 0)) 19,
 mo (.build [(.sl []),(.int .i64 0)] [(0,1,(.t 19))]) 20,
 mo (.box (.t 20)) 21,
 mo (.mv (.t 21)) 3])
 (.seq (.note (.gc [3,85,86,87,88,89,90,91,108,109,110,111,112,113,114]) (.reg [mo (.mv (.t 3)) 22,
 mo (.call (.f 9) [(.t 22)] [21] []) 23,
 mo (.alloc [(.sl []),(.sl [])]) 4,
 ⟨.st 2 (.t 4) (.t 23), none, none⟩]))
 (.seq (.reg [mo (.mv (.t 3)) 24,
 mo (.ld (some 2) (.t 4)) 25,
 mo (.call (.f 10) [(.t 24),(.t 25)] [21] []) 26,
 mo (.alloc [(.int .i64 0),(.sl [])]) 5,
 ⟨.st 2 (.t 5) (.t 26), none, none⟩])
 (.seq (.reg [mo (.mv (.c (.int .i64 0))) 6])
 (.cut (.seq (.reg [mo (.fad 1 (.t 5)) 27,
 mo (.ld none (.t 27)) 28,
 mo (.len false (.t 28)) 29,
 mo (.bin false .gtr (.t 29) (.c (.int .i64 0))) 30])
 (.cond (.t 30)
 (.note (.gc [3,4,5,85,86,87,88,89,90,91,108,109,110,111,112,113,114]) (.reg [mo (.fad 1 (.t 5)) 31,
 mo (.ld none (.t 31)) 32,
 mo (.fad 1 (.t 5)) 33,
 mo (.ld none (.t 33)) 34,
 mo (.len false (.t 34)) 35,
 mo (.bin true .sub (.t 35) (.c (.int .i64 1))) 36,
 mo (.iad 7 (.t 32) (.t 36)) 37,
 mo (.fad 0 (.t 37)) 38,
 mo (.ld none (.t 38)) 39,
 mo (.mv (.t 39)) 6]))
 .skip))
 mc_6f)))))))
theorem Wq_22 (l_ : List Int) {Q : Bool → Prop} {Q' : V → Heap → Prop} (h : Ok (F_22 l_) Q) (hQ : ∀ z, Q z → Q' (.bool z) []) : ACall Tryz.prog 5 [.sl (l_.map (V.int .i64))] [] Q' := by
 refine acallM mc_22 [] [] [.t 2] Tryz.func5 fun M => ?_
 unfold F_22 at h
 unfold mc_22
 replace h := tY h
 refine tB ?_
 repeat' (first
 | (exact tZ)
 | ((first | refine oblg h ?_ | refine roomG h ?_ | refine fork h ?_ ?_ | refine forkS h ?_ ?_) <;> clear h <;> intro hc h)
 | (obtain ⟨y, hy, h⟩ := h; (first | (with_reducible first | have hw := W_q hy | have hw := W_1q hy | have hw := W_19 hy | have hw := W_1t hy | have hw := W_x hy) | have hw := acall_swe 1000 21 (W_1n hy) | have hw := acall_swe 1000 21 (W_1o hy) | have hw := acall_swe 1000 21 (W_0 hy)); replace hw := tY hw; (first | refine M.sC hw ?_ | refine M.sD hw ?_); clear hw hy; refine tB ?_)
 | (refine M.gv1 (ms := mg_6e) 115 [108,109,110,111,112,113,114] h ?_ ?_ <;> first
 | (clear h; intro K hK1; unfold mg_6e; refine tB ?_)
 | (clear h; intro b h; replace h := tY h; refine tB ?_))
 | (refine M.gj1 (ms := mg_6d) [4,6,8,9,11,12,66,67,68,74,75] [9,4] (fun y => [(92, .bool y)]) (fun y => []) h ?_ ?_ <;> first
 | (clear h; intro Qn K hK2 h; unfold mg_6d; replace h := tY h; refine tB ?_)
  |(clear h; intro y h; replace h := tY h; refine tB ?_))
 | (refine M.for1 (b := mc_35) 75 [4,6,8,9,11,66,67,68,74] [9,4] (fun x => []) (fun x => []) [] h ?_ ?_ ?_ <;> first
 | (clear h; intro k a x Qn K hK3 hkN3 ha3 h hf; have hl := fact_int (factsE_find (n := 74) hf.1 rfl); clear hf; have hkd := kD hkN3; have hkB3 := kB hkN3; have hkI3 := kI (k := k) (by omega); unfold F_35 at h; unfold mc_35; replace h := tY h; refine tK ha3 hkd hkN3 hkB3 hkI3 ?_)
  |(clear h; intro x K h; replace h := And.left (And.intro h trivial); unfold mc_35; replace h := tY h; refine tB ?_)
  |(clear h; (try refine tB ?_); exact tU0; done))
 | (refine M.for1 (b := mc_36) 68 [4,6,8,9,66,67] [4] (fun x => []) (fun x => [.o 9 (.cells [.int .i64 x.Places, .sl (x.Events.map GAccess.v)])]) [.fzc 9] h ?_ ?_ ?_ <;> first
 | (clear h; intro k a x Qn K hK4 hkN4 ha4 h hf; have hl := fact_int (factsE_find (n := 67) hf.1 rfl); clear hf; have hkd := kD hkN4; have hkB4 := kB hkN4; have hkI4 := kI (k := k) (by omega); unfold F_36 at h; unfold mc_36; replace h := tY h; refine tK ha4 hkd hkN4 hkB4 hkI4 ?_)
  |(clear h; intro x K h; replace h := And.left (And.intro h trivial); unfold mc_36; replace h := tY h; refine tB ?_)
  |(clear h; (try refine tB ?_); exact tU0; done))
 | (refine M.jn1 (b := mc_6f) [3,4,5] [5,4,21] (fun y => [(6, .int .i64 y)]) (fun y => []) [] h ?_ ?_ <;> first
 | (clear h; intro Qn K hK5 h; replace h := tY h; refine tB ?_)
  |(clear h; intro y h; unfold mc_6f; replace h := tY h; refine tB ?_))
 | (first | simp only [ha3] | simp only [ha4])
 | (refine hK1 _ ?_; exact tU; done)
 | ((first | refine hK2 _ ?_ | refine hK3 _ ?_ | refine hK4 _ ?_ | refine hK5 _ ?_); (try refine tB ?_); refine ⟨_, h, ?_⟩; exact tU0; done)
 | (refine bfork (fun hc => ?_) (fun hc => ?_))
 | (refine tE ?_; (first | rw [M.lok_compU] | rw [M.lokD_compU]); refine tB ?_)
 | (refine tA ?_))
def W_22 {l_ y} (hy : (F_22 l_) = some y) := acW (Wq_22 l_) hy
end Go.Ab
