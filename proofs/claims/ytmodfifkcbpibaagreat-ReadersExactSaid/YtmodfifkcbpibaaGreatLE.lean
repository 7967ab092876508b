/- What the functions of this seat that lie on the laws' road compute (part LE), each for every input. By AI agents. -/
import Derived.Test.YtmodfifkcbpibaaGreatProg
import Derived.KernelRfl
import Derived.Test.YtmodfifkcbpibaaGreatAbFun
import Derived.Test.YtmodfifkcbpibaaGreatLD
set_option linter.all false
set_option linter.all false
set_option maxRecDepth 20000
set_option maxHeartbeats 2000000
namespace Go.Ab
open Go.Proofs
noncomputable def F_3a (y2 : List Int) (k37 : Int) (a38 : Int) (x36 : Unit) : Option (Fl Unit Bool) :=
 (F_d y2 a38).bind fun y46 => bif y46 then some (.ex true) else some (.nx ())
noncomputable def F_1y (d_ : GDirectory) (a_ : GEstate) (p_ : Int) (place_ : Int) (t_ : Int) : Option Bool :=
 (F_k d_ p_ t_).bind fun y2 => (F_z a_ place_ t_).bind fun y25 => (forL (F_3a y2) y25 0 ()).bind fun o => o.elim (fun x47 => some false) (fun r48 => some r48)
@[irreducible] def mc_3a : MC :=
 (.seq (.reg [mo (.bin false .lss (.t 23) (.t 22)) 24])
 (.seq (.cond (.t 24)
 .skip
 (.exit 0))
 (.seq (.block 1
 (.seq (.reg [mo (.iad 1 (.t 21) (.t 23)) 25,
 mo (.ld none (.t 25)) 26,
 mo (.mv (.t 26)) 13])
 (.seq (.reg [mo (.mv (.t 11)) 27,
 mo (.mv (.t 13)) 28,
 mo (.call (.f 52) [(.t 27),(.t 28)] [] []) 29])
 (.cond (.t 29)
 (.seq (.reg [mo (.mv (.c (.bool true))) 10])
 .ret)
 .skip))))
 (.reg [mo (.bin true .add (.t 23) (.c (.int .i64 1))) 30,
 mo (.mv (.t 30)) 23]))))
def mc_1y : MC :=
 (.seq (.reg [mo (.box (.t 0)) 5,
 mo (.box (.t 1)) 6,
 mo (.mv (.c (.bool false))) 10])
 (.seq (.reg [mo (.ld (some 2) (.t 5)) 14,
 mo (.mv (.t 2)) 15,
 mo (.mv (.t 4)) 16,
 mo (.call (.f 19) [(.t 14),(.t 15),(.t 16)] [] []) 17,
 mo (.mv (.t 17)) 11])
 (.seq (.seq (.note (.gc [3,4,6,11]) (.reg [mo (.ld (some 2) (.t 6)) 18,
 mo (.mv (.t 3)) 19,
 mo (.mv (.t 4)) 20,
 mo (.call (.f 53) [(.t 18),(.t 19),(.t 20)] [] []) 21,
 mo (.len false (.t 21)) 22,
 mo (.mv (.c (.int .i64 0))) 23]))
 (.block 0
 (.loop mc_3a)))
 (.seq (.reg [mo (.mv (.c (.bool false))) 10])
 .ret))))
theorem Wq_1y (d_ : GDirectory) (a_ : GEstate) (p_ : Int) (place_ : Int) (t_ : Int) {Q : Bool → Prop} {Q' : V → Heap → Prop} (h : Ok (F_1y d_ a_ p_ place_ t_) Q) (hQ : ∀ z, Q z → Q' (.bool z) []) : ACall Tryz.prog 29 [GDirectory.v d_, GEstate.v a_, .int .i64 p_, .int .i64 place_, .int .i64 t_] [] Q' := by
 refine acallM mc_1y [] [] [.t 10] Tryz.func29 fun M => ?_
 unfold F_1y at h
 unfold mc_1y
 replace h := tY h
 refine tB ?_
 repeat' (first
 | (exact tZ)
 | ((first | refine oblg h ?_ | refine roomG h ?_ | refine fork h ?_ ?_ | refine forkS h ?_ ?_) <;> clear h <;> intro hc h)
 | (obtain ⟨y, hy, h⟩ := h; (first | with_reducible first | have hw := W_k hy | have hw := W_z hy | have hw := W_d hy); replace hw := tY hw; (first | refine M.sC hw ?_ | refine M.sD hw ?_); clear hw hy; refine tB ?_)
 | (refine M.for1 (b := mc_3a) 23 [11,21,22] [] (fun x => []) (fun x => []) [] h ?_ ?_ ?_ <;> first
 | (clear h; intro k a x Qn K hK1 hkN1 ha1 h hf; have hl := fact_int (factsE_find (n := 22) hf.1 rfl); clear hf; have hkd := kD hkN1; have hkB1 := kB hkN1; have hkI1 := kI (k := k) (by omega); unfold F_3a at h; unfold mc_3a; replace h := tY h; refine tK ha1 hkd hkN1 hkB1 hkI1 ?_)
  |(clear h; intro x K h; replace h := And.left (And.intro h trivial); unfold mc_3a; replace h := tY h; refine tB ?_)
  |(clear h; (try refine tB ?_); exact tU0; done))
 | (simp only [ha1])
 | (refine hK1 _ ?_; (try refine tB ?_); refine ⟨_, h, ?_⟩; exact tU0; done)
 | (refine tE ?_; (first | rw [M.lok_compU] | rw [M.lokD_compU]); refine tB ?_)
 | (refine tA ?_))
def W_1y {d_ a_ p_ place_ t_ y} (hy : (F_1y d_ a_ p_ place_ t_) = some y) := acW (Wq_1y d_ a_ p_ place_ t_) hy
noncomputable def F_q (d_ : GDirectory) (a_ : GEstate) (p_ : Int) (place_ : Int) (t_ : Int) : Option Bool :=
 (F_2 d_).bind fun y10 => bif (!y10) then some false else (F_3 a_ place_).bind fun y11 => bif (!y11) then some false else (F_s d_ p_).bind fun y12 => bif (!y12) then some false else (F_t a_ place_ t_).bind fun y14 => jn (α := Bool) (bif y14.2 then some true else (F_1y d_ a_ p_ place_ t_).bind fun y18 => some y18) fun j19 => some j19
@[irreducible] def mg_64 : List MOp := [⟨.ld (some 2) (.t 5), (some 37), (some (36, false))⟩,
 ⟨.ld (some 2) (.t 6), (some 38), (some (36, false))⟩,
 ⟨.mv (.t 2), (some 39), (some (36, false))⟩,
 ⟨.mv (.t 3), (some 40), (some (36, false))⟩,
 ⟨.mv (.t 4), (some 41), (some (36, false))⟩,
 ⟨.call (.f 29) [(.t 37),(.t 38),(.t 39),(.t 40),(.t 41)] [] [], (some 42), (some (36, false))⟩,
 mo (.pick (.t 36) (.c (.bool true)) (.t 42)) 43]
def mc_q : MC :=
 (.seq (.reg [mo (.box (.t 0)) 5,
 mo (.box (.t 1)) 6,
 mo (.mv (.c (.bool false))) 10])
 (.seq (.seq (.reg [mo (.ld (some 2) (.t 5)) 13,
 mo (.call (.f 26) [(.t 13)] [] []) 14,
 mo (.not (.t 14)) 15,
 mo (.mv (.t 15)) 16,
 ⟨.ld (some 2) (.t 6), (some 17), (some (16, false))⟩,
 ⟨.mv (.t 3), (some 18), (some (16, false))⟩,
 ⟨.call (.f 27) [(.t 17),(.t 18)] [] [], (some 19), (some (16, false))⟩,
 ⟨.not (.t 19), (some 20), (some (16, false))⟩,
 mo (.pick (.t 16) (.c (.bool true)) (.t 20)) 21,
 mo (.mv (.t 21)) 22,
 ⟨.ld (some 2) (.t 5), (some 23), (some (22, false))⟩,
 ⟨.mv (.t 2), (some 24), (some (22, false))⟩,
 ⟨.call (.f 22) [(.t 23),(.t 24)] [] [], (some 25), (some (22, false))⟩,
 ⟨.not (.t 25), (some 26), (some (22, false))⟩,
 mo (.pick (.t 22) (.c (.bool true)) (.t 26)) 27])
 (.cond (.t 27)
 (.seq (.reg [mo (.mv (.c (.bool false))) 10])
 .ret)
 .skip))
 (.seq (.note (.gc [2,3,4,5,6,37,38,39,40,41,42]) (.reg [mo (.ld (some 2) (.t 6)) 29,
 mo (.mv (.t 3)) 30,
 mo (.mv (.t 4)) 31,
 mo (.call (.f 28) [(.t 29),(.t 30),(.t 31)] [] []) 32,
 mo (.mv (.t 32)) 28,
 mo (.ext 0 (.t 28)) 33,
 mo (.ext 1 (.t 28)) 34,
 mo (.mv (.t 33)) 11,
 mo (.mv (.t 34)) 12]))
 (.seq (.note (.gc [2,3,4,5,6,12,37,38,39,40,41,42]) (.regI [.op (mo (.mv (.t 12)) 35),
 .op (mo (.mv (.t 35)) 36),
 .grp mg_64,
 .op (mo (.mv (.t 43)) 10)]))
 .ret))))
theorem Wq_q (d_ : GDirectory) (a_ : GEstate) (p_ : Int) (place_ : Int) (t_ : Int) {Q : Bool → Prop} {Q' : V → Heap → Prop} (h : Ok (F_q d_ a_ p_ place_ t_) Q) (hQ : ∀ z, Q z → Q' (.bool z) []) : ACall Tryz.prog 10 [GDirectory.v d_, GEstate.v a_, .int .i64 p_, .int .i64 place_, .int .i64 t_] [] Q' := by
 refine acallM mc_q [] [] [.t 10] Tryz.func10 fun M => ?_
 unfold F_q at h
 unfold mc_q
 replace h := tY h
 refine tB ?_
 repeat' (first
 | (exact tZ)
 | ((first | refine oblg h ?_ | refine roomG h ?_ | refine fork h ?_ ?_ | refine forkS h ?_ ?_) <;> clear h <;> intro hc h)
 | (obtain ⟨y, hy, h⟩ := h; (first | with_reducible first | have hw := W_2 hy | have hw := W_3 hy | have hw := W_s hy | have hw := W_t hy | have hw := W_1y hy); replace hw := tY hw; (first | refine M.sC hw ?_ | refine M.sD hw ?_); clear hw hy; refine tB ?_)
 | (refine M.gj1 (ms := mg_64) [] [] (fun y => [(43, .bool y)]) (fun y => []) h ?_ ?_ <;> first
 | (clear h; intro Qn K hK1 h; unfold mg_64; replace h := tY h; refine tB ?_)
  |(clear h; intro y h; replace h := tY h; refine tB ?_))
 | (refine hK1 _ ?_; (try refine tB ?_); refine ⟨_, h, ?_⟩; exact tU0; done)
 | (refine tE ?_; (first | rw [M.lok_compU] | rw [M.lokD_compU]); refine tB ?_)
 | (refine tA ?_))
def W_q {d_ a_ p_ place_ t_ y} (hy : (F_q d_ a_ p_ place_ t_) = some y) := acW (Wq_q d_ a_ p_ place_ t_) hy
noncomputable def F_2u (d_ : GDirectory) (a_ : GEstate) (place_ : Int) (t_ : Int) (k58 : Int) (a59 : Int) (x57 : Bool × (List Int)) : Option (Bool × (List Int)) :=
 (F_q d_ a_ k58 place_ t_).bind fun y67 => bif y67 then chk (room (x57.2.length + [k58].length) 8) (some (x57.1, (x57.2 ++ [k58]))) else some (x57.1, x57.2)
noncomputable def F_u (d_ : GDirectory) (a_ : GEstate) (place_ : Int) (t_ : Int) : Option (GAudience × Int) :=
 (F_2 d_).bind fun y4 => bif (!y4) then some ((GAudience.mk false []),30) else (F_17 a_).bind fun y8 => bif (!y8) then some ((GAudience.mk false []),34) else (F_3 a_ place_).bind fun y12 => bif (!y12) then some ((GAudience.mk false []),6) else (F_t a_ place_ t_).bind fun y14 => (foldL (F_2u d_ a_ place_ t_) d_.Kinds 0 (y14.2,[])).bind fun x68 => some ((GAudience.mk x68.1 x68.2),0)
@[irreducible] def mc_2u : MC :=
 (.seq (.reg [mo (.bin false .lss (.t 36) (.t 35)) 37])
 (.seq (.cond (.t 37)
 .skip
 (.exit 0))
 (.seq (.block 1
 (.seq (.reg [mo (.mv (.t 36)) 38,
 mo (.mv (.t 38)) 11])
 (.seq (.reg [mo (.ld (some 2) (.t 4)) 39,
 mo (.ld (some 2) (.t 5)) 40,
 mo (.mv (.t 11)) 41,
 mo (.mv (.t 2)) 42,
 mo (.mv (.t 3)) 43,
 mo (.call (.f 10) [(.t 39),(.t 40),(.t 41),(.t 42),(.t 43)] [] []) 44])
 (.cond (.t 44)
 (.note (.gc [2,3,4,5,8,10,11,35,36]) (.reg [mo (.fad 1 (.t 10)) 45,
 mo (.ld none (.t 45)) 46,
 mo (.mv (.t 11)) 47,
 mo (.bslice 1 [(.t 47)]) 48,
 mo (.app 1 8 (.t 46) (.t 48)) 49,
 mo (.fad 1 (.t 10)) 50,
 ⟨.st 1 (.t 50) (.t 49), none, none⟩]))
 .skip))))
 (.reg [mo (.bin true .add (.t 36) (.c (.int .i64 1))) 51,
 mo (.mv (.t 51)) 36]))))
def mc_u : MC :=
 (.seq (.reg [mo (.box (.t 0)) 4,
 mo (.box (.t 1)) 5,
 mo (.alloc [(.bool false),(.sl [])]) 8,
 mo (.mv (.c (.int .i64 0))) 9])
 (.seq (.seq (.reg [mo (.ld (some 2) (.t 4)) 12,
 mo (.call (.f 26) [(.t 12)] [] []) 13,
 mo (.not (.t 13)) 14])
 (.cond (.t 14)
 (.seq (.note (.gc [8]) (.reg [mo (.build [(.bool false),(.sl [])] []) 15,
 ⟨.st 2 (.t 8) (.t 15), none, none⟩,
 mo (.mv (.c (.int .i64 30))) 9]))
 .ret)
 .skip))
 (.seq (.seq (.reg [mo (.ld (some 2) (.t 5)) 16,
 mo (.call (.f 33) [(.t 16)] [] []) 17,
 mo (.not (.t 17)) 18])
 (.cond (.t 18)
 (.seq (.note (.gc [8]) (.reg [mo (.build [(.bool false),(.sl [])] []) 19,
 ⟨.st 2 (.t 8) (.t 19), none, none⟩,
 mo (.mv (.c (.int .i64 34))) 9]))
 .ret)
 .skip))
 (.seq (.seq (.note (.gc [2,3,4,5,8]) (.reg [mo (.ld (some 2) (.t 5)) 20,
 mo (.mv (.t 2)) 21,
 mo (.call (.f 27) [(.t 20),(.t 21)] [] []) 22,
 mo (.not (.t 22)) 23]))
 (.cond (.t 23)
 (.seq (.note (.gc [8]) (.reg [mo (.build [(.bool false),(.sl [])] []) 24,
 ⟨.st 2 (.t 8) (.t 24), none, none⟩,
 mo (.mv (.c (.int .i64 6))) 9]))
 .ret)
 .skip))
 (.seq (.reg [mo (.alloc [(.bool false), .nils]) 10])
 (.seq (.reg [mo (.ld (some 2) (.t 5)) 26,
 mo (.mv (.t 2)) 27,
 mo (.mv (.t 3)) 28,
 mo (.call (.f 28) [(.t 26),(.t 27),(.t 28)] [] []) 29,
 mo (.mv (.t 29)) 25,
 mo (.ext 0 (.t 25)) 30,
 mo (.ext 1 (.t 25)) 31,
 mo (.fad 0 (.t 10)) 32,
 ⟨.st 1 (.t 32) (.t 31), none, none⟩])
 (.seq (.seq (.note (.gc [2,3,4,5,8,10]) (.reg [mo (.fad 0 (.t 4)) 33,
 mo (.ld none (.t 33)) 34,
 mo (.len false (.t 34)) 35,
 mo (.mv (.c (.int .i64 0))) 36]))
 (.block 0
 (.loop mc_2u)))
 (.seq (.reg [mo (.ld (some 2) (.t 10)) 52,
 ⟨.st 2 (.t 8) (.t 52), none, none⟩,
 mo (.mv (.c (.int .i64 0))) 9])
 .ret))))))))
theorem Wq_u (d_ : GDirectory) (a_ : GEstate) (place_ : Int) (t_ : Int) {Q : GAudience × Int → Prop} {Q' : V → Heap → Prop} (h : Ok (F_u d_ a_ place_ t_) Q) (hQ : ∀ z, Q z → Q' (.tup [GAudience.v z.1, .int .i64 z.2]) []) : ACall Tryz.prog 12 [GDirectory.v d_, GEstate.v a_, .int .i64 place_, .int .i64 t_] [] Q' := by
 refine acallM mc_u [.fzc 8] [] [.c 8 (some 2), .t 9] Tryz.func12 fun M => ?_
 unfold F_u at h
 unfold mc_u
 replace h := tY h
 refine tB ?_
 repeat' (first
 | (exact tZ)
 | ((first | refine oblg h ?_ | refine roomG h ?_ | refine fork h ?_ ?_ | refine forkS h ?_ ?_) <;> clear h <;> intro hc h)
 | (obtain ⟨y, hy, h⟩ := h; (first | with_reducible first | have hw := W_2 hy | have hw := W_17 hy | have hw := W_3 hy | have hw := W_t hy | have hw := W_q hy); replace hw := tY hw; (first | refine M.sC hw ?_ | refine M.sD hw ?_); clear hw hy; refine tB ?_)
 | (refine M.fold1 (b := mc_2u) 36 [2,3,4,5,8,10,35] [8,5,4] (fun x => []) (fun x => [.o 10 (.cells [.bool x.1, .osl 4161 1 0 x.2.length]), .o 4161 (.arr 1 (x.2.map (V.int .i64)))]) [.gc [2,3,4,5,8,10,35,36], .ownC 10 1 4161 1 none] h ?_ ?_ ?_ <;> first
 | (clear h; intro k a x Qn K hK1 hkN1 ha1 h hf; have hl := fact_int (factsE_find (n := 35) hf.1 rfl); clear hf; have hkd := kD hkN1; have hkB1 := kB hkN1; have hkI1 := kI (k := k) (by omega); unfold F_2u at h; unfold mc_2u; replace h := tY h; refine tK ha1 hkd hkN1 hkB1 hkI1 ?_)
  |(clear h; intro x K h; replace h := And.left (And.intro h trivial); unfold mc_2u; replace h := tY h; refine tB ?_)
  |(clear h; (try refine tB ?_); exact tU0; done))
 | (simp only [ha1])
 | (refine hK1 _ ?_; (try refine tB ?_); refine ⟨_, h, ?_⟩; exact tU0; done)
 | (refine tE ?_; (first | rw [M.lok_compU] | rw [M.lokD_compU]); refine tB ?_)
 | (refine tA ?_))
def W_u {d_ a_ place_ t_ y} (hy : (F_u d_ a_ place_ t_) = some y) := acW (Wq_u d_ a_ place_ t_) hy
def F_1z (a_ : GAudience) (b_ : GAudience) : Option Bool :=
 jn (α := Bool) (bif (a_.Public == b_.Public) then (F_y a_.Principals b_.Principals).bind fun y4 => some y4 else some false) fun j5 => some j5
@[irreducible] def mg_65 : List MOp := [⟨.fad 1 (.t 2), (some 11), (some (10, true))⟩,
 ⟨.ld none (.t 11), (some 12), (some (10, true))⟩,
 ⟨.fad 1 (.t 3), (some 13), (some (10, true))⟩,
 ⟨.ld none (.t 13), (some 14), (some (10, true))⟩,
 ⟨.call (.f 23) [(.t 12),(.t 14)] [] [], (some 15), (some (10, true))⟩,
 mo (.pick (.t 10) (.t 15) (.c (.bool false))) 16]
def mc_1z : MC :=
 (.seq (.reg [mo (.box (.t 0)) 2,
 mo (.box (.t 1)) 3,
 mo (.mv (.c (.bool false))) 4])
 (.seq (.regI [.op (mo (.fad 0 (.t 2)) 5),
 .op (mo (.ld none (.t 5)) 6),
 .op (mo (.fad 0 (.t 3)) 7),
 .op (mo (.ld none (.t 7)) 8),
 .op (mo (.beq false (.t 6) (.t 8)) 9),
 .op (mo (.mv (.t 9)) 10),
 .grp mg_65,
 .op (mo (.mv (.t 16)) 4)])
 .ret))
theorem Wq_1z (a_ : GAudience) (b_ : GAudience) {Q : Bool → Prop} {Q' : V → Heap → Prop} (h : Ok (F_1z a_ b_) Q) (hQ : ∀ z, Q z → Q' (.bool z) []) : ACall Tryz.prog 15 [GAudience.v a_, GAudience.v b_] [] Q' := by
 refine acallM mc_1z [] [] [.t 4] Tryz.func15 fun M => ?_
 unfold F_1z at h
 unfold mc_1z
 replace h := tY h
 refine tB ?_
 repeat' (first
 | (exact tZ)
 | ((first | refine oblg h ?_ | refine roomG h ?_ | refine fork h ?_ ?_ | refine forkS h ?_ ?_) <;> clear h <;> intro hc h)
 | (obtain ⟨y, hy, h⟩ := h; have hw := W_y hy; replace hw := tY hw; (first | refine M.sC hw ?_ | refine M.sD hw ?_); clear hw hy; refine tB ?_)
 | (refine M.gj1 (ms := mg_65) [4] [] (fun y => [(16, .bool y)]) (fun y => []) h ?_ ?_ <;> first
 | (clear h; intro Qn K hK1 h; unfold mg_65; replace h := tY h; refine tB ?_)
  |(clear h; intro y h; replace h := tY h; refine tB ?_))
 | (refine hK1 _ ?_; (try refine tB ?_); refine ⟨_, h, ?_⟩; exact tU0; done)
 | (refine tE ?_; (first | rw [M.lok_compU] | rw [M.lokD_compU]); refine tB ?_)
 | (refine tA ?_))
def W_1z {a_ b_ y} (hy : (F_1z a_ b_) = some y) := acW (Wq_1z a_ b_) hy
def F_3b (l_ : List Int) (n_ : Int) (k31 : Int) (a32 : Int) (x30 : Unit) : Option (Fl Unit Bool) :=
 chk (in64 (n_ - 1)) ((F_5 a32 0 (n_ - 1)).bind fun y40 => bif (!y40) then some (.ex false) else bif decide (0 < k31) then chk (in64 (k31 - 1)) (chk (inb (k31 - 1) l_.length) (bif decide (a32 ≤ (l_.getD ((k31 - 1)).toNat default)) then some (.ex false) else some (.nx ()))) else some (.nx ()))
def F_20 (l_ : List Int) (n_ : Int) : Option Bool :=
 (forL (F_3b l_ n_) l_ 0 ()).bind fun o => o.elim (fun x41 => some true) (fun r42 => some r42)
@[irreducible] def mc_3b : MC :=
 (.seq (.reg [mo (.bin false .lss (.t 9) (.t 8)) 10])
 (.seq (.cond (.t 10)
 .skip
 (.exit 0))
 (.seq (.block 1
 (.seq (.reg [mo (.mv (.t 9)) 11,
 mo (.iad 1 (.t 7) (.t 9)) 12,
 mo (.ld none (.t 12)) 13,
 mo (.mv (.t 11)) 5,
 mo (.mv (.t 13)) 6])
 (.seq (.reg [mo (.mv (.t 6)) 14,
 mo (.mv (.t 1)) 15,
 mo (.bin true .sub (.t 15) (.c (.int .i64 1))) 16,
 mo (.call (.f 54) [(.t 14),(.c (.int .i64 0)),(.t 16)] [] []) 17,
 mo (.not (.t 17)) 18,
 mo (.mv (.t 18)) 19,
 ⟨.mv (.t 5), (some 20), (some (19, false))⟩,
 ⟨.bin false .gtr (.t 20) (.c (.int .i64 0)), (some 21), (some (19, false))⟩,
 ⟨.mv (.t 21), (some 22), (some (19, false))⟩,
 ⟨.mv (.t 6), (some 23), (some (22, true))⟩,
 ⟨.mv (.t 0), (some 24), (some (22, true))⟩,
 ⟨.mv (.t 5), (some 25), (some (22, true))⟩,
 ⟨.bin true .sub (.t 25) (.c (.int .i64 1)), (some 26), (some (22, true))⟩,
 ⟨.iad 1 (.t 24) (.t 26), (some 27), (some (22, true))⟩,
 ⟨.ld none (.t 27), (some 28), (some (22, true))⟩,
 ⟨.bin false .leq (.t 23) (.t 28), (some 29), (some (22, true))⟩,
 ⟨.pick (.t 22) (.t 29) (.c (.bool false)), (some 30), (some (19, false))⟩,
 mo (.pick (.t 19) (.c (.bool true)) (.t 30)) 31])
 (.cond (.t 31)
 (.seq (.reg [mo (.mv (.c (.bool false))) 4])
 .ret)
 .skip))))
 (.reg [mo (.bin true .add (.t 9) (.c (.int .i64 1))) 32,
 mo (.mv (.t 32)) 9]))))
def mc_20 : MC :=
 (.seq (.reg [mo (.mv (.c (.bool false))) 4])
 (.seq (.seq (.reg [mo (.mv (.t 0)) 7,
 mo (.len false (.t 7)) 8,
 mo (.mv (.c (.int .i64 0))) 9])
 (.block 0
 (.loop mc_3b)))
 (.seq (.reg [mo (.mv (.c (.bool true))) 4])
 .ret)))
theorem Wq_20 (l_ : List Int) (n_ : Int) {Q : Bool → Prop} {Q' : V → Heap → Prop} (h : Ok (F_20 l_ n_) Q) (hQ : ∀ z, Q z → Q' (.bool z) []) : ACall Tryz.prog 81 [.sl (l_.map (V.int .i64)), .int .i64 n_] [] Q' := by
 refine acallM mc_20 [] [] [.t 4] Tryz.func81 fun M => ?_
 unfold F_20 at h
 unfold mc_20
 replace h := tY h
 refine tB ?_
 repeat' (first
 | (exact tZ)
 | ((first | refine oblg h ?_ | refine roomG h ?_ | refine fork h ?_ ?_ | refine forkS h ?_ ?_) <;> clear h <;> intro hc h)
 | (obtain ⟨y, hy, h⟩ := h; have hw := W_5 hy; replace hw := tY hw; (first | refine M.sC hw ?_ | refine M.sD hw ?_); clear hw hy; refine tB ?_)
 | (refine M.for1 (b := mc_3b) 9 [0,1,7,8] [] (fun x => []) (fun x => []) [] h ?_ ?_ ?_ <;> first
 | (clear h; intro k a x Qn K hK1 hkN1 ha1 h hf; have hl := fact_int (factsE_find (n := 8) hf.1 rfl); clear hf; have hkd := kD hkN1; have hkB1 := kB hkN1; have hkI1 := kI (k := k) (by omega); unfold F_3b at h; unfold mc_3b; replace h := tY h; refine tK ha1 hkd hkN1 hkB1 hkI1 ?_)
  |(clear h; intro x K h; replace h := And.left (And.intro h trivial); unfold mc_3b; replace h := tY h; refine tB ?_)
  |(clear h; (try refine tB ?_); exact tU0; done))
 | (simp only [ha1])
 | (refine hK1 _ ?_; (try refine tB ?_); refine ⟨_, h, ?_⟩; exact tU0; done)
 | (refine tE ?_; (first | rw [M.lok_compU] | rw [M.lokD_compU]); refine tB ?_)
 | (refine tA ?_))
def W_20 {l_ n_ y} (hy : (F_20 l_ n_) = some y) := acW (Wq_20 l_ n_) hy
def F_3c (d_ : GDirectory) (t_ : Int) (set_ : List Int) (a450 : Int) (k607 : Int) (a608 : Int) (x606 : Unit) : Option (Fl Unit Bool) :=
 (F_19 d_ a450 k607 t_).bind fun y630 => jn (α := Bool) (bif y630 then (F_d set_ k607).bind fun y632 => some (!y632) else some false) fun j633 => bif j633 then some (.ex false) else some (.nx ())
def F_3d (d_ : GDirectory) (t_ : Int) (set_ : List Int) (k449 : Int) (a450 : Int) (x448 : Unit) : Option (Fl Unit Bool) :=
 (forL (F_3c d_ t_ set_ a450) d_.Kinds 0 ()).bind fun o => o.elim (fun x634 => some (.nx ())) (fun r635 => some (.ex r635))
def F_21 (d_ : GDirectory) (t_ : Int) (set_ : List Int) : Option Bool :=
 (F_2 d_).bind fun y7 => bif (!y7) then some false else (F_20 set_ (d_.Kinds.length : Int)).bind fun y8 => bif (!y8) then some false else (forL (F_3d d_ t_ set_) set_ 0 ()).bind fun o => o.elim (fun x636 => some true) (fun r637 => some r637)
@[irreducible] def mg_66 : List MOp := [⟨.mv (.t 2), (some 39), (some (38, true))⟩,
 ⟨.mv (.t 9), (some 40), (some (38, true))⟩,
 ⟨.call (.f 52) [(.t 39),(.t 40)] [] [], (some 41), (some (38, true))⟩,
 ⟨.not (.t 41), (some 42), (some (38, true))⟩,
 mo (.pick (.t 38) (.t 42) (.c (.bool false))) 43]
@[irreducible] def mc_3c : MC :=
 (.seq (.reg [mo (.bin false .lss (.t 30) (.t 29)) 31])
 (.seq (.cond (.t 31)
 .skip
 (.exit 2))
 (.seq (.block 3
 (.seq (.reg [mo (.mv (.t 30)) 32,
 mo (.mv (.t 32)) 9])
 (.seq (.regI [.op (mo (.ld (some 2) (.t 3)) 33),
 .op (mo (.mv (.t 8)) 34),
 .op (mo (.mv (.t 9)) 35),
 .op (mo (.mv (.t 1)) 36),
 .op (mo (.call (.f 71) [(.t 33),(.t 34),(.t 35),(.t 36)] [] []) 37),
 .op (mo (.mv (.t 37)) 38),
 .grp mg_66])
 (.cond (.t 43)
 (.seq (.reg [mo (.mv (.c (.bool false))) 6])
 .ret)
 .skip))))
 (.reg [mo (.bin true .add (.t 30) (.c (.int .i64 1))) 44,
 mo (.mv (.t 44)) 30]))))
@[irreducible] def mc_3d : MC :=
 (.seq (.reg [mo (.bin false .lss (.t 23) (.t 22)) 24])
 (.seq (.cond (.t 24)
 .skip
 (.exit 0))
 (.seq (.block 1
 (.seq (.reg [mo (.iad 1 (.t 21) (.t 23)) 25,
 mo (.ld none (.t 25)) 26,
 mo (.mv (.t 26)) 8])
 (.seq (.reg [mo (.fad 0 (.t 3)) 27,
 mo (.ld none (.t 27)) 28,
 mo (.len false (.t 28)) 29,
 mo (.mv (.c (.int .i64 0))) 30])
 (.block 2
 (.loop mc_3c)))))
 (.reg [mo (.bin true .add (.t 23) (.c (.int .i64 1))) 45,
 mo (.mv (.t 45)) 23]))))
def mc_21 : MC :=
 (.seq (.reg [mo (.box (.t 0)) 3,
 mo (.mv (.c (.bool false))) 6])
 (.seq (.seq (.reg [mo (.ld (some 2) (.t 3)) 10,
 mo (.call (.f 26) [(.t 10)] [] []) 11,
 mo (.not (.t 11)) 12,
 mo (.mv (.t 12)) 13,
 ⟨.mv (.t 2), (some 14), (some (13, false))⟩,
 ⟨.fad 0 (.t 3), (some 15), (some (13, false))⟩,
 ⟨.ld none (.t 15), (some 16), (some (13, false))⟩,
 ⟨.len false (.t 16), (some 17), (some (13, false))⟩,
 ⟨.call (.f 81) [(.t 14),(.t 17)] [] [], (some 18), (some (13, false))⟩,
 ⟨.not (.t 18), (some 19), (some (13, false))⟩,
 mo (.pick (.t 13) (.c (.bool true)) (.t 19)) 20])
 (.cond (.t 20)
 (.seq (.reg [mo (.mv (.c (.bool false))) 6])
 .ret)
 .skip))
 (.seq (.seq (.note (.gc [1,2,3,39,40,41,42]) (.reg [mo (.mv (.t 2)) 21,
 mo (.len false (.t 21)) 22,
 mo (.mv (.c (.int .i64 0))) 23]))
 (.block 0
 (.loop mc_3d)))
 (.seq (.reg [mo (.mv (.c (.bool true))) 6])
 .ret))))
theorem Wq_21 (d_ : GDirectory) (t_ : Int) (set_ : List Int) {Q : Bool → Prop} {Q' : V → Heap → Prop} (h : Ok (F_21 d_ t_ set_) Q) (hQ : ∀ z, Q z → Q' (.bool z) []) : ACall Tryz.prog 51 [GDirectory.v d_, .int .i64 t_, .sl (set_.map (V.int .i64))] [] Q' := by
 refine acallM mc_21 [] [] [.t 6] Tryz.func51 fun M => ?_
 unfold F_21 at h
 unfold mc_21
 replace h := tY h
 refine tB ?_
 repeat' (first
 | (exact tZ)
 | ((first | refine oblg h ?_ | refine roomG h ?_ | refine fork h ?_ ?_ | refine forkS h ?_ ?_) <;> clear h <;> intro hc h)
 | (obtain ⟨y, hy, h⟩ := h; (first | with_reducible first | have hw := W_2 hy | have hw := W_20 hy | have hw := W_19 hy | have hw := W_d hy); replace hw := tY hw; (first | refine M.sC hw ?_ | refine M.sD hw ?_); clear hw hy; refine tB ?_)
 | (refine M.gj1 (ms := mg_66) [1,2,3,8,21,22,23,29,30] [3] (fun y => [(43, .bool y)]) (fun y => []) h ?_ ?_ <;> first
 | (clear h; intro Qn K hK1 h; unfold mg_66; replace h := tY h; refine tB ?_)
  |(clear h; intro y h; replace h := tY h; refine tB ?_))
 | (refine M.for1 (b := mc_3c) 30 [1,2,3,8,21,22,23,29] [3] (fun x => []) (fun x => []) [] h ?_ ?_ ?_ <;> first
 | (clear h; intro k a x Qn K hK2 hkN2 ha2 h hf; have hl := fact_int (factsE_find (n := 29) hf.1 rfl); clear hf; have hkd := kD hkN2; have hkB2 := kB hkN2; have hkI2 := kI (k := k) (by omega); unfold F_3c at h; unfold mc_3c; replace h := tY h; refine tK ha2 hkd hkN2 hkB2 hkI2 ?_)
  |(clear h; intro x K h; replace h := And.left (And.intro h trivial); unfold mc_3c; replace h := tY h; refine tB ?_)
  |(clear h; (try refine tB ?_); exact tU0; done))
 | (refine M.for1 (b := mc_3d) 23 [1,2,3,21,22] [3] (fun x => []) (fun x => []) [] h ?_ ?_ ?_ <;> first
 | (clear h; intro k a x Qn K hK3 hkN3 ha3 h hf; have hl := fact_int (factsE_find (n := 22) hf.1 rfl); clear hf; have hkd := kD hkN3; have hkB3 := kB hkN3; have hkI3 := kI (k := k) (by omega); unfold F_3d at h; unfold mc_3d; replace h := tY h; refine tK ha3 hkd hkN3 hkB3 hkI3 ?_)
  |(clear h; intro x K h; replace h := And.left (And.intro h trivial); unfold mc_3d; replace h := tY h; refine tB ?_)
  |(clear h; (try refine tB ?_); exact tU0; done))
 | (first | simp only [ha2] | simp only [ha3])
 | ((first | refine hK1 _ ?_ | refine hK2 _ ?_ | refine hK3 _ ?_); (try refine tB ?_); refine ⟨_, h, ?_⟩; exact tU0; done)
 | (refine tE ?_; (first | rw [M.lok_compU] | rw [M.lokD_compU]); refine tB ?_)
 | (refine tA ?_))
def W_21 {d_ t_ set_ y} (hy : (F_21 d_ t_ set_) = some y) := acW (Wq_21 d_ t_ set_) hy
noncomputable def F_3e (set_ : List Int) (k59 : Int) (a60 : Int) (x58 : Unit) : Option (Fl Unit Bool) :=
 (F_d set_ a60).bind fun y68 => bif y68 then some (.ex false) else some (.nx ())
noncomputable def F_12 (d_ : GDirectory) (a_ : GEstate) (p_ : Int) (place_ : Int) (t_ : Int) (set_ : List Int) : Option Bool :=
 (F_2 d_).bind fun y16 => bif (!y16) then some false else (F_3 a_ place_).bind fun y17 => bif (!y17) then some false else (F_s d_ p_).bind fun y18 => bif (!y18) then some false else (F_21 d_ t_ set_).bind fun y19 => bif (!y19) then some false else (F_d set_ p_).bind fun y20 => bif (!y20) then some false else (F_t a_ place_ t_).bind fun y24 => bif y24.2 then some false else (F_z a_ place_ t_).bind fun y47 => (forL (F_3e set_) y47 0 ()).bind fun o => o.elim (fun x69 => some true) (fun r70 => some r70)
@[irreducible] def mc_3e : MC :=
 (.seq (.reg [mo (.bin false .lss (.t 58) (.t 57)) 59])
 (.seq (.cond (.t 59)
 .skip
 (.exit 0))
 (.seq (.block 1
 (.seq (.reg [mo (.iad 1 (.t 56) (.t 58)) 60,
 mo (.ld none (.t 60)) 61,
 mo (.mv (.t 61)) 16])
 (.seq (.reg [mo (.mv (.t 5)) 62,
 mo (.mv (.t 16)) 63,
 mo (.call (.f 52) [(.t 62),(.t 63)] [] []) 64])
 (.cond (.t 64)
 (.seq (.reg [mo (.mv (.c (.bool false))) 12])
 .ret)
 .skip))))
 (.reg [mo (.bin true .add (.t 58) (.c (.int .i64 1))) 65,
 mo (.mv (.t 65)) 58]))))
def mc_12 : MC :=
 (.seq (.reg [mo (.box (.t 0)) 6,
 mo (.box (.t 1)) 7,
 mo (.mv (.c (.bool false))) 12])
 (.seq (.seq (.reg [mo (.ld (some 2) (.t 6)) 17,
 mo (.call (.f 26) [(.t 17)] [] []) 18,
 mo (.not (.t 18)) 19,
 mo (.mv (.t 19)) 20,
 ⟨.ld (some 2) (.t 7), (some 21), (some (20, false))⟩,
 ⟨.mv (.t 3), (some 22), (some (20, false))⟩,
 ⟨.call (.f 27) [(.t 21),(.t 22)] [] [], (some 23), (some (20, false))⟩,
 ⟨.not (.t 23), (some 24), (some (20, false))⟩,
 mo (.pick (.t 20) (.c (.bool true)) (.t 24)) 25,
 mo (.mv (.t 25)) 26,
 ⟨.ld (some 2) (.t 6), (some 27), (some (26, false))⟩,
 ⟨.mv (.t 2), (some 28), (some (26, false))⟩,
 ⟨.call (.f 22) [(.t 27),(.t 28)] [] [], (some 29), (some (26, false))⟩,
 ⟨.not (.t 29), (some 30), (some (26, false))⟩,
 mo (.pick (.t 26) (.c (.bool true)) (.t 30)) 31,
 mo (.mv (.t 31)) 32,
 ⟨.ld (some 2) (.t 6), (some 33), (some (32, false))⟩,
 ⟨.mv (.t 4), (some 34), (some (32, false))⟩,
 ⟨.mv (.t 5), (some 35), (some (32, false))⟩,
 ⟨.call (.f 51) [(.t 33),(.t 34),(.t 35)] [] [], (some 36), (some (32, false))⟩,
 ⟨.not (.t 36), (some 37), (some (32, false))⟩,
 mo (.pick (.t 32) (.c (.bool true)) (.t 37)) 38,
 mo (.mv (.t 38)) 39,
 ⟨.mv (.t 5), (some 40), (some (39, false))⟩,
 ⟨.mv (.t 2), (some 41), (some (39, false))⟩,
 ⟨.call (.f 52) [(.t 40),(.t 41)] [] [], (some 42), (some (39, false))⟩,
 ⟨.not (.t 42), (some 43), (some (39, false))⟩,
 mo (.pick (.t 39) (.c (.bool true)) (.t 43)) 44])
 (.cond (.t 44)
 (.seq (.reg [mo (.mv (.c (.bool false))) 12])
 .ret)
 .skip))
 (.seq (.seq (.note (.gc [3,4,5,7]) (.reg [mo (.ld (some 2) (.t 7)) 46,
 mo (.mv (.t 3)) 47,
 mo (.mv (.t 4)) 48,
 mo (.call (.f 28) [(.t 46),(.t 47),(.t 48)] [] []) 49,
 mo (.mv (.t 49)) 45,
 mo (.ext 0 (.t 45)) 50,
 mo (.ext 1 (.t 45)) 51,
 mo (.mv (.t 50)) 13,
 mo (.mv (.t 51)) 14]))
 (.seq (.reg [mo (.mv (.t 14)) 52])
 (.cond (.t 52)
 (.seq (.reg [mo (.mv (.c (.bool false))) 12])
 .ret)
 .skip)))
 (.seq (.seq (.note (.gc [3,4,5,7]) (.reg [mo (.ld (some 2) (.t 7)) 53,
 mo (.mv (.t 3)) 54,
 mo (.mv (.t 4)) 55,
 mo (.call (.f 53) [(.t 53),(.t 54),(.t 55)] [] []) 56,
 mo (.len false (.t 56)) 57,
 mo (.mv (.c (.int .i64 0))) 58]))
 (.block 0
 (.loop mc_3e)))
 (.seq (.reg [mo (.mv (.c (.bool true))) 12])
 .ret)))))
theorem Wq_12 (d_ : GDirectory) (a_ : GEstate) (p_ : Int) (place_ : Int) (t_ : Int) (set_ : List Int) {Q : Bool → Prop} {Q' : V → Heap → Prop} (h : Ok (F_12 d_ a_ p_ place_ t_ set_) Q) (hQ : ∀ z, Q z → Q' (.bool z) []) : ACall Tryz.prog 21 [GDirectory.v d_, GEstate.v a_, .int .i64 p_, .int .i64 place_, .int .i64 t_, .sl (set_.map (V.int .i64))] [] Q' := by
 refine acallM mc_12 [] [] [.t 12] Tryz.func21 fun M => ?_
 unfold F_12 at h
 unfold mc_12
 replace h := tY h
 refine tB ?_
 repeat' (first
 | (exact tZ)
 | ((first | refine oblg h ?_ | refine roomG h ?_ | refine fork h ?_ ?_ | refine forkS h ?_ ?_) <;> clear h <;> intro hc h)
 | (obtain ⟨y, hy, h⟩ := h; (first | with_reducible first | have hw := W_2 hy | have hw := W_3 hy | have hw := W_s hy | have hw := W_21 hy | have hw := W_d hy | have hw := W_t hy | have hw := W_z hy); replace hw := tY hw; (first | refine M.sC hw ?_ | refine M.sD hw ?_); clear hw hy; refine tB ?_)
 | (refine M.for1 (b := mc_3e) 58 [5,56,57] [] (fun x => []) (fun x => []) [] h ?_ ?_ ?_ <;> first
 | (clear h; intro k a x Qn K hK1 hkN1 ha1 h hf; have hl := fact_int (factsE_find (n := 57) hf.1 rfl); clear hf; have hkd := kD hkN1; have hkB1 := kB hkN1; have hkI1 := kI (k := k) (by omega); unfold F_3e at h; unfold mc_3e; replace h := tY h; refine tK ha1 hkd hkN1 hkB1 hkI1 ?_)
  |(clear h; intro x K h; replace h := And.left (And.intro h trivial); unfold mc_3e; replace h := tY h; refine tB ?_)
  |(clear h; (try refine tB ?_); exact tU0; done))
 | (simp only [ha1])
 | (refine hK1 _ ?_; (try refine tB ?_); refine ⟨_, h, ?_⟩; exact tU0; done)
 | (refine tE ?_; (first | rw [M.lok_compU] | rw [M.lokD_compU]); refine tB ?_)
 | (refine tA ?_))
def W_12 {d_ a_ p_ place_ t_ set_ y} (hy : (F_12 d_ a_ p_ place_ t_ set_) = some y) := acW (Wq_12 d_ a_ p_ place_ t_ set_) hy
noncomputable def F_3q (n_ : Int) (k_ : Int) (x22 : Int × (List Int) × GTape) : Option (Fl (Int × (List Int) × GTape) ((List Int) × GTape)) :=
 bif decide (x22.1 < n_) then jn (α := (List Int) × GTape) ((F_0 x22.2.2 k_).bind fun y30 => chk (in64 (k_ - 1)) (bif decide (y30.1 = (k_ - 1)) then chk (room (x22.2.1.length + [x22.1].length) 8) (some ((x22.2.1 ++ [x22.1]), y30.2)) else some (x22.2.1, y30.2))) fun j28 => chk (in64 (x22.1 + 1)) (some (.nx ((x22.1 + 1), j28.1, j28.2))) else some (.ex (x22.2.1, x22.2.2))
noncomputable def F_22 (t_ : GTape) (n_ : Int) (k_ : Int) : Option ((List Int) × GTape) :=
 (loop (F_3q n_ k_) (0,[], t_)).bind fun r31 => some (r31.1, r31.2)
@[irreducible] def mc_67 : MC :=
 (.reg [mo (.mv (.t 8)) 12,
 mo (.bin true .add (.t 12) (.c (.int .i64 1))) 13,
 mo (.mv (.t 13)) 8])
@[irreducible] def mc_3q : MC :=
 (.seq (.seq (.reg [mo (.mv (.t 8)) 9,
 mo (.mv (.t 1)) 10,
 mo (.bin false .lss (.t 9) (.t 10)) 11])
 (.cond (.t 11)
 .skip
 (.exit 0)))
 (.cut (.block 1
 (.seq (.reg [mo (.mv (.t 0)) 14,
 mo (.mv (.t 2)) 15,
 mo (.call (.f 8) [(.t 14),(.t 15)] [1000] []) 16,
 mo (.mv (.t 2)) 17,
 mo (.bin true .sub (.t 17) (.c (.int .i64 1))) 18,
 mo (.bin false .eql (.t 16) (.t 18)) 19])
 (.cond (.t 19)
 (.note (.gc [0,1,2,7,8]) (.reg [mo (.mv (.t 7)) 20,
 mo (.mv (.t 8)) 21,
 mo (.bslice 1 [(.t 21)]) 22,
 mo (.app 1 8 (.t 20) (.t 22)) 23,
 mo (.mv (.t 23)) 7]))
 .skip)))
 mc_67))
def mc_22 : MC :=
 (.seq (.reg [mo (.mv (.c (.sl []))) 6])
 (.seq (.reg [mo (.mv (.c .nils)) 7])
 (.seq (.seq (.reg [mo (.mv (.c (.int .i64 0))) 8])
 (.block 0
 (.loop mc_3q)))
 (.seq (.reg [mo (.mv (.t 7)) 24,
 mo (.mv (.t 24)) 6])
 .ret))))
theorem Wq_22 (t_ : GTape) (n_ : Int) (k_ : Int) {Q : (List Int) × GTape → Prop} {Q' : V → Heap → Prop} (h : Ok (F_22 t_ n_ k_) Q) (hQ : ∀ z, Q z → Q' (.sl (z.1.map (V.int .i64))) [(1000, .cells [.sl (z.2.L.map (V.int .i64)), .int .i64 z.2.at_])]) : ACall Tryz.prog 18 [.ptr 1000 0, .int .i64 n_, .int .i64 k_] [(1000, .cells [.sl (t_.L.map (V.int .i64)), .int .i64 t_.at_])] Q' := by
 refine acallM mc_22 [.fz 6] [1000] [.t 6] Tryz.func18 fun M => ?_
 unfold F_22 at h
 unfold mc_22
 replace h := tY h
 refine tB ?_
 repeat' (first
 | (exact tZ)
 | ((first | refine oblg h ?_ | refine roomG h ?_ | refine fork h ?_ ?_ | refine forkS h ?_ ?_) <;> clear h <;> intro hc h)
 | (obtain ⟨y, hy, h⟩ := h; have hw := W_0 hy; replace hw := tY hw; (first | refine M.sC hw ?_ | refine M.sD hw ?_); clear hw hy; refine tB ?_)
 | (refine M.jn1 (b := mc_67) [0,1,2,8] [] (fun y => [(7, .osl 2007 1 0 y.1.length)]) (fun y => [.o 2007 (.arr 1 (y.1.map (V.int .i64))), .o 1000 (.cells [.sl (y.2.L.map (V.int .i64)), .int .i64 y.2.at_])]) [.gc [0,1,2,7,8], .acc 7 2007 1] h ?_ ?_ <;> first
 | (clear h; intro Qn K hK1 h; replace h := tY h; refine tB ?_)
  |(clear h; intro y h; unfold mc_67; replace h := tY h; refine tB ?_))
 | (refine M.wh1 (b := mc_3q) [0,1,2] [] (fun x => [(7, .osl 2007 1 0 x.2.1.length), (8, .int .i64 x.1)]) (fun x => [.o 2007 (.arr 1 (x.2.1.map (V.int .i64))), .o 1000 (.cells [.sl (x.2.2.L.map (V.int .i64)), .int .i64 x.2.2.at_])]) [.gc [0,1,2,7,8], .acc 7 2007 1] h ?_ ?_ <;> first
 | (clear h; intro x Qn K hK2 h; unfold F_3q at h; unfold mc_3q; replace h := tY h; refine tB ?_)
  |(clear h; (try refine tB ?_); exact tU0; done))
 | ((first | refine hK1 _ ?_ | refine hK2 _ ?_); (try refine tB ?_); refine ⟨_, h, ?_⟩; exact tU0; done)
 | (refine tE ?_; (first | rw [M.lok_compU] | rw [M.lokD_compU]); refine tB ?_)
 | (refine tA ?_))
def W_22 {t_ n_ k_ y} (hy : (F_22 t_ n_ k_) = some y) := acW (Wq_22 t_ n_ k_) hy
end Go.Ab
