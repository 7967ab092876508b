/- What the functions of this seat that lie on the laws' road compute (part LB), each for every input. By AI agents. -/
import Derived.Test.YtmodfifkcbpibaaGreatProg
import Derived.KernelRfl
import Derived.Test.YtmodfifkcbpibaaGreatAbFun
import Derived.Test.YtmodfifkcbpibaaGreatLA
set_option linter.all false
set_option linter.all false
set_option maxRecDepth 20000
set_option maxHeartbeats 2000000
namespace Go.Ab
open Go.Proofs
structure GAudience where
 Public : Bool
 Principals : List Int
instance : Inhabited GAudience := ⟨⟨default, default⟩⟩
def GAudience.v (x : GAudience) : V := .agg [.bool x.Public, .sl (x.Principals.map (V.int .i64))]
structure GReading where
 Place : Int
 Time : Int
 Link : Int
 Grant : Int
 Chain : List Int
instance : Inhabited GReading := ⟨⟨default, default, default, default, default⟩⟩
def GReading.v (x : GReading) : V := .agg [.int .i64 x.Place, .int .i64 x.Time, .int .i64 x.Link, .int .i64 x.Grant, .sl (x.Chain.map (V.int .i64))]
theorem incl_0 {b : Int} {n : Nat} : (inc 0 b n = true) = (((0 : Nat) : Int) ≤ b ∧ b ≤ (n : Int)) := propext (by rw [inc_iff]; omega)
attribute [go_sem] incl_0
attribute [go_sem] GAudience.v GReading.v
noncomputable def F_2n (d_ : GDirectory) (a_ : GEstate) (place_ : Int) (t_ : Int) (k54 : Int) (a55 : Int) (x53 : Bool × (List Int)) : Option (Bool × (List Int)) :=
 (F_9 d_ a_ k54 place_ t_).bind fun y63 => bif y63 then chk (room (x53.2.length + [k54].length) 8) (some (x53.1, (x53.2 ++ [k54]))) else some (x53.1, x53.2)
noncomputable def F_n (d_ : GDirectory) (a_ : GEstate) (place_ : Int) (t_ : Int) : Option (GAudience × Int) :=
 (F_l d_ a_).bind fun y4 => bif (!decide (y4 = 0)) then some ((GAudience.mk false []), y4) else (F_c a_ place_).bind fun y8 => bif (!y8) then some ((GAudience.mk false []),6) else (F_7 a_ place_ t_).bind fun y10 => (foldL (F_2n d_ a_ place_ t_) d_.Kinds 0 (y10.2,[])).bind fun x64 => some ((GAudience.mk x64.1 x64.2),0)
@[irreducible] def mc_2n : MC :=
 (.seq (.reg [mo (.bin false .lss (.t 39) (.t 38)) 40])
 (.seq (.cond (.t 40)
 .skip
 (.exit 0))
 (.seq (.block 1
 (.seq (.reg [mo (.mv (.t 39)) 41,
 mo (.mv (.t 41)) 14])
 (.seq (.reg [mo (.ld (some 2) (.t 4)) 42,
 mo (.ld (some 2) (.t 5)) 43,
 mo (.mv (.t 14)) 44,
 mo (.mv (.t 2)) 45,
 mo (.mv (.t 3)) 46,
 mo (.call (.f 14) [(.t 42),(.t 43),(.t 44),(.t 45),(.t 46)] [] []) 47])
 (.cond (.t 47)
 (.note (.gc [2,3,4,5,8,13,14,38,39]) (.reg [mo (.fad 1 (.t 13)) 48,
 mo (.ld none (.t 48)) 49,
 mo (.mv (.t 14)) 50,
 mo (.bslice 1 [(.t 50)]) 51,
 mo (.app 1 8 (.t 49) (.t 51)) 52,
 mo (.fad 1 (.t 13)) 53,
 ⟨.st 1 (.t 53) (.t 52), none, none⟩]))
 .skip))))
 (.reg [mo (.bin true .add (.t 39) (.c (.int .i64 1))) 54,
 mo (.mv (.t 54)) 39]))))
def mc_n : MC :=
 (.seq (.reg [mo (.box (.t 0)) 4,
 mo (.box (.t 1)) 5,
 mo (.alloc [(.bool false),(.sl [])]) 8,
 mo (.mv (.c (.int .i64 0))) 9])
 (.seq (.seq (.reg [mo (.ld (some 2) (.t 4)) 15,
 mo (.ld (some 2) (.t 5)) 16,
 mo (.call (.f 30) [(.t 15),(.t 16)] [] []) 17,
 mo (.mv (.t 17)) 10])
 (.seq (.reg [mo (.mv (.t 10)) 18,
 mo (.bin false .neq (.t 18) (.c (.int .i64 0))) 19])
 (.cond (.t 19)
 (.seq (.note (.gc [8,10]) (.reg [mo (.build [(.bool false),(.sl [])] []) 20,
 mo (.mv (.t 10)) 21,
 ⟨.st 2 (.t 8) (.t 20), none, none⟩,
 mo (.mv (.t 21)) 9]))
 .ret)
 .skip)))
 (.seq (.seq (.note (.gc [2,3,4,5,8]) (.reg [mo (.ld (some 2) (.t 5)) 22,
 mo (.mv (.t 2)) 23,
 mo (.call (.f 31) [(.t 22),(.t 23)] [] []) 24,
 mo (.not (.t 24)) 25]))
 (.cond (.t 25)
 (.seq (.note (.gc [8]) (.reg [mo (.build [(.bool false),(.sl [])] []) 26,
 ⟨.st 2 (.t 8) (.t 26), none, none⟩,
 mo (.mv (.c (.int .i64 6))) 9]))
 .ret)
 .skip))
 (.seq (.reg [mo (.ld (some 2) (.t 5)) 28,
 mo (.mv (.t 2)) 29,
 mo (.mv (.t 3)) 30,
 mo (.call (.f 32) [(.t 28),(.t 29),(.t 30)] [] []) 31,
 mo (.mv (.t 31)) 27,
 mo (.ext 0 (.t 27)) 32,
 mo (.ext 1 (.t 27)) 33,
 mo (.mv (.t 32)) 11,
 mo (.mv (.t 33)) 12])
 (.seq (.note (.gc [2,3,4,5,8,12]) (.reg [mo (.mv (.t 12)) 34,
 mo (.build [(.bool false), .nils] [(0,1,(.t 34))]) 35,
 mo (.alloc [(.bool false),(.sl [])]) 13,
 ⟨.st 2 (.t 13) (.t 35), none, none⟩]))
 (.seq (.seq (.reg [mo (.fad 0 (.t 4)) 36,
 mo (.ld none (.t 36)) 37,
 mo (.len false (.t 37)) 38,
 mo (.mv (.c (.int .i64 0))) 39])
 (.block 0
 (.loop mc_2n)))
 (.seq (.reg [mo (.ld (some 2) (.t 13)) 55,
 ⟨.st 2 (.t 8) (.t 55), none, none⟩,
 mo (.mv (.c (.int .i64 0))) 9])
 .ret)))))))
theorem Wq_n (d_ : GDirectory) (a_ : GEstate) (place_ : Int) (t_ : Int) {Q : GAudience × Int → Prop} {Q' : V → Heap → Prop} (h : Ok (F_n d_ a_ place_ t_) Q) (hQ : ∀ z, Q z → Q' (.tup [GAudience.v z.1, .int .i64 z.2]) []) : ACall Tryz.prog 11 [GDirectory.v d_, GEstate.v a_, .int .i64 place_, .int .i64 t_] [] Q' := by
 refine acallM mc_n [.fzc 8] [] [.c 8 (some 2), .t 9] Tryz.func11 fun M => ?_
 unfold F_n at h
 unfold mc_n
 replace h := tY h
 refine tB ?_
 repeat' (first
 | (exact tZ)
 | ((first | refine oblg h ?_ | refine roomG h ?_ | refine fork h ?_ ?_ | refine forkS h ?_ ?_) <;> clear h <;> intro hc h)
 | (obtain ⟨y, hy, h⟩ := h; (first | with_reducible first | have hw := W_l hy | have hw := W_c hy | have hw := W_7 hy | have hw := W_9 hy); replace hw := tY hw; (first | refine M.sC hw ?_ | refine M.sD hw ?_); clear hw hy; refine tB ?_)
 | (refine M.fold1 (b := mc_2n) 39 [2,3,4,5,8,13,38] [8,5,4] (fun x => []) (fun x => [.o 13 (.cells [.bool x.1, .osl 4209 1 0 x.2.length]), .o 4209 (.arr 1 (x.2.map (V.int .i64)))]) [.gc [2,3,4,5,8,13,38,39], .ownC 13 1 4209 1 none] h ?_ ?_ ?_ <;> first
 | (clear h; intro k a x Qn K hK1 hkN1 ha1 h hf; have hl := fact_int (factsE_find (n := 38) hf.1 rfl); clear hf; have hkd := kD hkN1; have hkB1 := kB hkN1; have hkI1 := kI (k := k) (by omega); unfold F_2n at h; unfold mc_2n; replace h := tY h; refine tK ha1 hkd hkN1 hkB1 hkI1 ?_)
  |(clear h; intro x K h; replace h := And.left (And.intro h trivial); unfold mc_2n; replace h := tY h; refine tB ?_)
  |(clear h; (try refine tB ?_); exact tU0; done))
 | (simp only [ha1])
 | (refine hK1 _ ?_; (try refine tB ?_); refine ⟨_, h, ?_⟩; exact tU0; done)
 | (refine tE ?_; (first | rw [M.lok_compU] | rw [M.lokD_compU]); refine tB ?_)
 | (refine tA ?_))
def W_n {d_ a_ place_ t_ y} (hy : (F_n d_ a_ place_ t_) = some y) := acW (Wq_n d_ a_ place_ t_) hy
def F_o (a_ : GEstate) (place_ : Int) (principal_ : Int) (t_ : Int) : Option (Int × Bool) :=
 (F_1 a_ place_).bind fun y4 => bif (!y4) then some (0, false) else (F_14 a_ place_ t_).bind fun y6 => some (((aget principal_ y6).getD 0), (aget principal_ y6).isSome)
def mc_o : MC :=
 (.seq (.reg [mo (.box (.t 0)) 4,
 mo (.mv (.c (.int .i64 0))) 8,
 mo (.mv (.c (.bool false))) 9])
 (.seq (.seq (.reg [mo (.ld (some 2) (.t 4)) 12,
 mo (.mv (.t 1)) 13,
 mo (.call (.f 60) [(.t 12),(.t 13)] [] []) 14,
 mo (.not (.t 14)) 15])
 (.cond (.t 15)
 (.seq (.reg [mo (.mv (.c (.int .i64 0))) 8,
 mo (.mv (.c (.bool false))) 9])
 .ret)
 .skip))
 (.seq (.reg [mo (.ld (some 2) (.t 4)) 17,
 mo (.mv (.t 1)) 18,
 mo (.mv (.t 3)) 19,
 mo (.call (.f 64) [(.t 17),(.t 18),(.t 19)] [] []) 20,
 mo (.mv (.t 2)) 21,
 mo (.mp (.lku (.int .i64) true (.int .i64 0)) [(.t 20),(.t 21)]) 22,
 mo (.mv (.t 22)) 16,
 mo (.ext 0 (.t 16)) 23,
 mo (.ext 1 (.t 16)) 24,
 mo (.mv (.t 23)) 10,
 mo (.mv (.t 24)) 11])
 (.seq (.note (.gc [10,11]) (.reg [mo (.mv (.t 10)) 25,
 mo (.mv (.t 11)) 26,
 mo (.mv (.t 25)) 8,
 mo (.mv (.t 26)) 9]))
 .ret))))
theorem Wq_o (a_ : GEstate) (place_ : Int) (principal_ : Int) (t_ : Int) {Q : Int × Bool → Prop} {Q' : V → Heap → Prop} (h : Ok (F_o a_ place_ principal_ t_) Q) (hQ : ∀ z, Q z → Q' (.tup [.int .i64 z.1, .bool z.2]) []) : ACall Tryz.prog 35 [GEstate.v a_, .int .i64 place_, .int .i64 principal_, .int .i64 t_] [] Q' := by
 refine acallM mc_o [] [] [.t 8, .t 9] Tryz.func35 fun M => ?_
 unfold F_o at h
 unfold mc_o
 replace h := tY h
 refine tB ?_
 repeat' (first
 | (exact tZ)
 | ((first | refine oblg h ?_ | refine roomG h ?_ | refine fork h ?_ ?_ | refine forkS h ?_ ?_) <;> clear h <;> intro hc h)
 | (obtain ⟨y, hy, h⟩ := h; (first | with_reducible first | have hw := W_1 hy | have hw := W_14 hy); replace hw := tY hw; (first | refine M.sC hw ?_ | refine M.sD hw ?_); clear hw hy; refine tB ?_)
 | (refine tE ?_; (first | rw [M.lok_compU] | rw [M.lokD_compU]); refine tB ?_)
 | (refine tA ?_))
def W_o {a_ place_ principal_ t_ y} (hy : (F_o a_ place_ principal_ t_) = some y) := acW (Wq_o a_ place_ principal_ t_) hy
noncomputable def F_15 (d_ : GDirectory) (p_ : Int) (g_ : Int) (t_ : Int) : Option Bool :=
 (F_1k d_ p_ t_).bind fun y3 => (F_8 y3 g_).bind fun y4 => some y4
def mc_15 : MC :=
 (.seq (.reg [mo (.box (.t 0)) 4,
 mo (.mv (.c (.bool false))) 8])
 (.seq (.reg [mo (.ld (some 2) (.t 4)) 9,
 mo (.mv (.t 1)) 10,
 mo (.mv (.t 3)) 11,
 mo (.call (.f 88) [(.t 9),(.t 10),(.t 11)] [] []) 12,
 mo (.mv (.t 2)) 13,
 mo (.call (.f 47) [(.t 12),(.t 13)] [] []) 14,
 mo (.mv (.t 14)) 8])
 .ret))
theorem Wq_15 (d_ : GDirectory) (p_ : Int) (g_ : Int) (t_ : Int) {Q : Bool → Prop} {Q' : V → Heap → Prop} (h : Ok (F_15 d_ p_ g_ t_) Q) (hQ : ∀ z, Q z → Q' (.bool z) []) : ACall Tryz.prog 65 [GDirectory.v d_, .int .i64 p_, .int .i64 g_, .int .i64 t_] [] Q' := by
 refine acallM mc_15 [] [] [.t 8] Tryz.func65 fun M => ?_
 unfold F_15 at h
 unfold mc_15
 replace h := tY h
 refine tB ?_
 repeat' (first
 | (exact tZ)
 | ((first | refine oblg h ?_ | refine roomG h ?_ | refine fork h ?_ ?_ | refine forkS h ?_ ?_) <;> clear h <;> intro hc h)
 | (obtain ⟨y, hy, h⟩ := h; (first | with_reducible first | have hw := W_1k hy | have hw := W_8 hy); replace hw := tY hw; (first | refine M.sC hw ?_ | refine M.sD hw ?_); clear hw hy; refine tB ?_)
 | (refine tE ?_; (first | rw [M.lok_compU] | rw [M.lokD_compU]); refine tB ?_)
 | (refine tA ?_))
def W_15 {d_ p_ g_ t_ y} (hy : (F_15 d_ p_ g_ t_) = some y) := acW (Wq_15 d_ p_ g_ t_) hy
noncomputable def F_2o (k359 : Int) (a360 : Bool) (x358 : (List Int) × (List Int)) : Option ((List Int) × (List Int)) :=
 jn (α := Bool) (bif a360 then chk (inb k359 x358.2.length) (some (decide (x358.2.getD ((k359).toNat) default < 0))) else some false) fun j368 => bif j368 then chk (inb 0 x358.1.length) (chk (room (x358.1.length + [k359].length) 8) (chk (inb k359 x358.2.length) (some ((x358.1 ++ [k359]), x358.2.set ((k359).toNat) (x358.1.getD 0 default))))) else some (x358.1, x358.2)
noncomputable def F_25 (y6 : List (List Bool)) (x265 : (List Int) × (List Int)) : Option (Fl ((List Int) × (List Int)) (List Int)) :=
 bif decide (0 < (x265.1.length : Int)) then chk (inb 0 x265.1.length) (chk (inb (x265.1.getD 0 default) y6.length) ((foldL F_2o (y6.getD (x265.1.getD 0 default).toNat default) 0 (x265.1, x265.2)).bind fun x369 => chk (inc 1 (x369.1.length : Int) x369.1.length) (some (.nx ((x369.1.drop 1).take (x369.1.length - 1), x369.2))))) else some (.ex x265.2)
noncomputable def F_2d (p_ : Int) (r370 : List Int) (x382 : List Int) : Option (Fl (List Int) (List Int)) :=
 chk (inb 0 x382.length) (bif (!decide (x382.getD 0 default = p_)) then chk (inb 0 x382.length) (chk (inb (x382.getD 0 default) r370.length) ((insI x382 [r370.getD ((x382.getD 0 default).toNat) default]).bind fun y384 => some (.nx y384))) else some (.ex x382))
noncomputable def F_16 (d_ : GDirectory) (p_ : Int) (g_ : Int) (t_ : Int) : Option ((List Int) × Bool) :=
 (F_15 d_ p_ g_ t_).bind fun y4 => bif (!y4) then some ([], false) else (atF d_.Kinds.length (d_.Events.map fun e => (e.Time, e.Kind, e.Principal, e.Group)) t_).bind fun y6 => (repI [(-1)] (y6.length : Int)).bind fun y8 => chk (inb p_ y8.length) ((loop (F_25 y6) ([p_], y8.set ((p_).toNat) p_)).bind fun r370 => (loop (F_2d p_ r370) [g_]).bind fun r385 => some (r385, true))
@[irreducible] def mg_4l : List MOp := [⟨.mv (.t 11), (some 54), (some (53, true))⟩,
 ⟨.mv (.t 13), (some 55), (some (53, true))⟩,
 ⟨.iad 1 (.t 54) (.t 55), (some 56), (some (53, true))⟩,
 ⟨.ld none (.t 56), (some 57), (some (53, true))⟩,
 ⟨.bin false .lss (.t 57) (.c (.int .i64 0)), (some 58), (some (53, true))⟩,
 mo (.pick (.t 53) (.t 58) (.c (.bool false))) 59]
@[irreducible] def mc_2o : MC :=
 (.seq (.reg [mo (.bin false .lss (.t 47) (.t 46)) 48])
 (.seq (.cond (.t 48)
 .skip
 (.exit 2))
 (.seq (.block 3
 (.seq (.reg [mo (.mv (.t 47)) 49,
 mo (.iad 1 (.t 45) (.t 47)) 50,
 mo (.ld none (.t 50)) 51,
 mo (.mv (.t 49)) 13,
 mo (.mv (.t 51)) 14])
 (.seq (.regI [.op (mo (.mv (.t 14)) 52),
 .op (mo (.mv (.t 52)) 53),
 .grp mg_4l])
 (.cond (.t 59)
 (.regD [mo (.mv (.t 11)) 60,
 mo (.mv (.t 13)) 61,
 mo (.mv (.t 12)) 62,
 mo (.iad 1 (.t 62) (.c (.int .i64 0))) 63,
 mo (.ld none (.t 63)) 64,
 mo (.mv (.t 12)) 65,
 mo (.mv (.t 13)) 66,
 mo (.bslice 1 [(.t 66)]) 67,
 mo (.app 1 8 (.t 65) (.t 67)) 68,
 mo (.iad 1 (.t 60) (.t 61)) 69,
 ⟨.st 1 (.t 69) (.t 64), none, none⟩,
 mo (.mv (.t 68)) 12]
 [[],[],[],[2],[3],[],[],[6],[5,7],[0,1,0,1,2,3,4,8],[9,4,8,0,1,2,3,4,8],[8,10,0,1,2,3,4,5,6,7,8,9,10]]
 [[],[],[],[2],[2,3],[],[],[6],[5,6,7,1000004],[0,1,2,3,4,5,6,7,8],[0,1,2,3,4,5,6,7,8,9],[0,1,2,3,4,5,6,7,8,9,10]])
 .skip))))
 (.reg [mo (.bin true .add (.t 47) (.c (.int .i64 1))) 70,
 mo (.mv (.t 70)) 47]))))
@[irreducible] def mc_25 : MC :=
 (.seq (.seq (.reg [mo (.mv (.t 12)) 35,
 mo (.len false (.t 35)) 36,
 mo (.bin false .gtr (.t 36) (.c (.int .i64 0))) 37])
 (.cond (.t 37)
 .skip
 (.exit 0)))
 (.seq (.block 1
 (.seq (.reg [mo (.mv (.t 10)) 40,
 mo (.mv (.t 12)) 41,
 mo (.iad 1 (.t 41) (.c (.int .i64 0))) 42,
 mo (.ld none (.t 42)) 43,
 mo (.iad 1 (.t 40) (.t 43)) 44,
 mo (.ld none (.t 44)) 45,
 mo (.len false (.t 45)) 46,
 mo (.mv (.c (.int .i64 0))) 47])
 (.block 2
 (.loop mc_2o))))
 (.reg [mo (.mv (.t 12)) 38,
 mo (.slc 1 (.t 38) (some (.c (.int .i64 1))) none) 39,
 mo (.mv (.t 39)) 12])))
@[irreducible] def mc_2d : MC :=
 (.seq (.seq (.reg [mo (.mv (.t 15)) 73,
 mo (.iad 1 (.t 73) (.c (.int .i64 0))) 74,
 mo (.ld none (.t 74)) 75,
 mo (.mv (.t 1)) 76,
 mo (.bin false .neq (.t 75) (.t 76)) 77])
 (.cond (.t 77)
 .skip
 (.exit 4)))
 (.block 5
 (.reg [mo (.mv (.t 15)) 78,
 mo (.mv (.t 11)) 79,
 mo (.mv (.t 15)) 80,
 mo (.iad 1 (.t 80) (.c (.int .i64 0))) 81,
 mo (.ld none (.t 81)) 82,
 mo (.iad 1 (.t 79) (.t 82)) 83,
 mo (.ld none (.t 83)) 84,
 mo (.bslice 1 [(.t 84)] true) 85,
 mo (.call (.f 68) [(.t 78),(.c (.int .i64 0)),(.t 85)] [2015,85] [86]) 86,
 mo (.mv (.t 86)) 15])))
def mc_16 : MC :=
 (.seq (.reg [mo (.box (.t 0)) 4,
 mo (.mv (.c (.sl []))) 8,
 mo (.mv (.c (.bool false))) 9])
 (.seq (.seq (.reg [mo (.ld (some 2) (.t 4)) 16,
 mo (.mv (.t 1)) 17,
 mo (.mv (.t 2)) 18,
 mo (.mv (.t 3)) 19,
 mo (.call (.f 65) [(.t 16),(.t 17),(.t 18),(.t 19)] [] []) 20,
 mo (.not (.t 20)) 21])
 (.cond (.t 21)
 (.seq (.reg [mo (.mv (.c (.sl []))) 8,
 mo (.mv (.c (.bool false))) 9])
 .ret)
 .skip))
 (.seq (.note (.gc [1,2,3,4,54,55,56,57,58]) (.reg [mo (.ld (some 2) (.t 4)) 22,
 mo (.mv (.t 3)) 23,
 mo (.call (.f 66) [(.t 22),(.t 23)] [] []) 24,
 mo (.mv (.t 24)) 10]))
 (.seq (.reg [mo (.lsl 1 [(.c (.int .i64 (-1)))]) 25,
 mo (.mv (.t 10)) 26,
 mo (.len false (.t 26)) 27,
 mo (.call (.f 67) [(.t 25),(.t 27)] [] [28]) 28,
 mo (.mv (.t 28)) 11])
 (.seq (.note (.gc [1,2,10,11,54,55,56,57,58]) (.reg [mo (.mv (.t 11)) 29,
 mo (.mv (.t 1)) 30,
 mo (.mv (.t 1)) 31,
 mo (.iad 1 (.t 29) (.t 30)) 32,
 ⟨.st 1 (.t 32) (.t 31), none, none⟩]))
 (.seq (.seq (.reg [mo (.mv (.t 1)) 33,
 mo (.bslice 1 [(.t 33)]) 34,
 mo (.mv (.t 34)) 12])
 (.block 0
 (.loop mc_25)))
 (.seq (.reg [mo (.mv (.t 2)) 71,
 mo (.bslice 1 [(.t 71)]) 72,
 mo (.mv (.t 72)) 15])
 (.seq (.block 4
 (.loop mc_2d))
 (.seq (.reg [mo (.mv (.t 15)) 87,
 mo (.mv (.t 87)) 8,
 mo (.mv (.c (.bool true))) 9])
 .ret)))))))))
theorem Wq_16 (d_ : GDirectory) (p_ : Int) (g_ : Int) (t_ : Int) {Q : (List Int) × Bool → Prop} {Q' : V → Heap → Prop} (h : Ok (F_16 d_ p_ g_ t_) Q) (hQ : ∀ z, Q z → Q' (.tup [.sl (z.1.map (V.int .i64)), .bool z.2]) []) : ACall Tryz.prog 36 [GDirectory.v d_, .int .i64 p_, .int .i64 g_, .int .i64 t_] [] Q' := by
 refine acallM mc_16 [.fz 8] [] [.t 8, .t 9] Tryz.func36 fun M => ?_
 unfold F_16 at h
 unfold mc_16
 replace h := tY h
 refine tB ?_
 repeat' (first
 | (exact tZ)
 | ((first | refine oblg h ?_ | refine roomG h ?_ | refine fork h ?_ ?_ | refine forkS h ?_ ?_) <;> clear h <;> intro hc h)
 | (obtain ⟨y, hy, h⟩ := h; have hw := acall_swe 1900 86 (acall_swe 1001 85 (acall_swe 1000 72 (W_6i hy))); replace hw := tY hw; (first | refine M.sC hw ?_ | refine M.sD hw ?_); clear hw hy; refine tB ?_)
 | (obtain ⟨y, hy, h⟩ := h; have hw := acall_swe 1900 86 (acall_swe 1001 85 (acall_swe 1000 2015 (W_6i hy))); replace hw := tY hw; (first | refine M.sC hw ?_ | refine M.sD hw ?_); clear hw hy; refine tB ?_)
 | (obtain ⟨y, hy, h⟩ := h; (first | (with_reducible first | have hw := W_15 hy) | have hw := W_at (f := GMember.v) (e4 := fun e => (e.Time, e.Kind, e.Principal, e.Group)) (fun _ => rfl) hy | have hw := acall_swe 1900 28 (W_6k hy)); replace hw := tY hw; (first | refine M.sC hw ?_ | refine M.sD hw ?_); clear hw hy; refine tB ?_)
 | (refine M.gj1 (ms := mg_4l) [1,2,10,11,12,13,45,46,47] [2012,28] (fun y => [(59, .bool y)]) (fun y => []) h ?_ ?_ <;> first
 | (clear h; intro Qn K hK1 h; unfold mg_4l; replace h := tY h; refine tB ?_)
  |(clear h; intro y h; replace h := tY h; refine tB ?_))
 | (refine M.fold1 (b := mc_2o) 47 [1,2,10,45,46] [] (fun x => [(11, .osl 28 1 0 x.2.length), (12, .osl 2012 1 0 x.1.length)]) (fun x => [.o 2012 (.arr 1 (x.1.map (V.int .i64))), .o 28 (.arr 1 (x.2.map (V.int .i64)))]) [.gc [1,2,10,11,12,45,46,47], .acc 12 2012 1] h ?_ ?_ ?_ <;> first
 | (clear h; intro k a x Qn K hK2 hkN2 ha2 h hf; have hl := fact_int (factsE_find (n := 46) hf.1 rfl); clear hf; have hkd := kD hkN2; have hkB2 := kB hkN2; have hkI2 := kI (k := k) (by omega); unfold F_2o at h; unfold mc_2o; replace h := tY h; refine tK ha2 hkd hkN2 hkB2 hkI2 ?_)
  |(clear h; intro x K h; replace h := And.left (And.intro h trivial); unfold mc_2o; replace h := tY h; refine tB ?_)
  |(clear h; (try refine tB ?_); exact tU0; done))
 | (refine M.wh1 (b := mc_25) [1,2,10] [] (fun x => [(11, .osl 28 1 0 x.2.length), (12, .osl 2012 1 0 x.1.length)]) (fun x => [.o 2012 (.arr 1 (x.1.map (V.int .i64))), .o 28 (.arr 1 (x.2.map (V.int .i64)))]) [.gc [1,2,10,11,12], .trim 12, .acc 12 2012 1] h ?_ ?_ <;> first
 | (clear h; intro x Qn K hK3 h; unfold F_25 at h; unfold mc_25; replace h := tY h; refine tB ?_)
  |(clear h; (try refine tB ?_); exact tU0; done))
 | (refine M.wh1 (b := mc_2d) [1,11] [28] (fun x => [(15, .osl 2015 1 0 x.length)]) (fun x => [.o 2015 (.arr 1 (x.map (V.int .i64)))]) [.gc [1,11,15], .acc 15 2015 1] h ?_ ?_ <;> first
 | (clear h; intro x Qn K hK4 h; unfold F_2d at h; unfold mc_2d; replace h := tY h; refine tB ?_)
  |(clear h; (try refine tB ?_); exact tU0; done))
 | (simp only [ha2])
 | ((first | refine hK1 _ ?_ | refine hK2 _ ?_ | refine hK3 _ ?_ | refine hK4 _ ?_); (try refine tB ?_); refine ⟨_, h, ?_⟩; exact tU0; done)
 | (refine tE ?_; (first | rw [M.lok_compU] | rw [M.lokD_compU]); refine tB ?_)
 | (refine ⟨_, getE_mapset (by first | exact inb_toNat (by assumption) | exact inb_nat (by assumption)), ?_⟩; (first | rw [M.lok_compU] | rw [M.lokD_compU] | (simp only [V.cells]; first | rw [M.lok_comp] | rw [M.lokD_comp])); refine tB ?_)
 | (refine tA ?_))
def W_16 {d_ p_ g_ t_ y} (hy : (F_16 d_ p_ g_ t_) = some y) := acW (Wq_16 d_ p_ g_ t_) hy
noncomputable def F_i (d_ : GDirectory) (a_ : GEstate) (p_ : Int) (place_ : Int) (t_ : Int) : Option (GReading × Bool) :=
 (F_9 d_ a_ p_ place_ t_).bind fun y4 => bif (!y4) then some ((GReading.mk 0 0 0 0 []), false) else (F_7 a_ place_ t_).bind fun y8 => bif y8.2 then some ((GReading.mk place_ t_ y8.1 (-1) []), true) else (F_x d_ a_ p_ place_ t_).bind fun y10 => (F_o a_ place_ y10.1 t_).bind fun y12 => jn (α := GReading) (bif (!decide (y10.1 = p_)) then (F_16 d_ p_ y10.1 t_).bind fun y15 => some (GReading.mk place_ t_ (-1) y12.1 y15.1) else some (GReading.mk place_ t_ (-1) y12.1 [p_])) fun j14 => some (j14, true)
@[irreducible] def mc_4m : MC :=
 (.seq (.reg [mo (.ld (some 5) (.t 16)) 72,
 ⟨.st 5 (.t 10) (.t 72), none, none⟩,
 mo (.mv (.c (.bool true))) 11])
 .ret)
def mc_i : MC :=
 (.seq (.reg [mo (.box (.t 0)) 5,
 mo (.box (.t 1)) 6,
 mo (.alloc [(.int .i64 0),(.int .i64 0),(.int .i64 0),(.int .i64 0),(.sl [])]) 10,
 mo (.mv (.c (.bool false))) 11])
 (.seq (.seq (.reg [mo (.ld (some 2) (.t 5)) 17,
 mo (.ld (some 2) (.t 6)) 18,
 mo (.mv (.t 2)) 19,
 mo (.mv (.t 3)) 20,
 mo (.mv (.t 4)) 21,
 mo (.call (.f 14) [(.t 17),(.t 18),(.t 19),(.t 20),(.t 21)] [] []) 22,
 mo (.not (.t 22)) 23])
 (.cond (.t 23)
 (.seq (.note (.gc [10]) (.reg [mo (.build [(.int .i64 0),(.int .i64 0),(.int .i64 0),(.int .i64 0),(.sl [])] []) 24,
 ⟨.st 5 (.t 10) (.t 24), none, none⟩,
 mo (.mv (.c (.bool false))) 11]))
 .ret)
 .skip))
 (.seq (.seq (.note (.gc [2,3,4,5,6,10]) (.reg [mo (.ld (some 2) (.t 6)) 26,
 mo (.mv (.t 3)) 27,
 mo (.mv (.t 4)) 28,
 mo (.call (.f 32) [(.t 26),(.t 27),(.t 28)] [] []) 29,
 mo (.mv (.t 29)) 25,
 mo (.ext 0 (.t 25)) 30,
 mo (.ext 1 (.t 25)) 31,
 mo (.mv (.t 30)) 12,
 mo (.mv (.t 31)) 13]))
 (.seq (.reg [mo (.mv (.t 13)) 32])
 (.cond (.t 32)
 (.seq (.note (.gc [3,4,10,12]) (.reg [mo (.mv (.t 3)) 33,
 mo (.mv (.t 4)) 34,
 mo (.mv (.t 12)) 35,
 mo (.build [(.int .i64 0),(.int .i64 0),(.int .i64 0),(.int .i64 0),(.sl [])] [(0,1,(.t 33)), (1,1,(.t 34)), (2,1,(.t 35)), (3,1,(.c (.int .i64 (-1))))]) 36,
 ⟨.st 5 (.t 10) (.t 36), none, none⟩,
 mo (.mv (.c (.bool true))) 11]))
 .ret)
 .skip)))
 (.seq (.note (.gc [2,3,4,5,6,10]) (.reg [mo (.ld (some 2) (.t 5)) 38,
 mo (.ld (some 2) (.t 6)) 39,
 mo (.mv (.t 2)) 40,
 mo (.mv (.t 3)) 41,
 mo (.mv (.t 4)) 42,
 mo (.call (.f 34) [(.t 38),(.t 39),(.t 40),(.t 41),(.t 42)] [] []) 43,
 mo (.mv (.t 43)) 37,
 mo (.ext 0 (.t 37)) 44,
 mo (.ext 1 (.t 37)) 45,
 mo (.mv (.t 44)) 14,
 mo (.mv (.t 45)) 15]))
 (.seq (.note (.gc [2,3,4,5,6,10,14]) (.reg [mo (.mv (.t 3)) 46,
 mo (.mv (.t 4)) 47,
 mo (.mv (.t 2)) 48,
 mo (.bslice 1 [(.t 48)]) 49,
 mo (.build [(.int .i64 0),(.int .i64 0),(.int .i64 0),(.int .i64 0),(.sl [])] [(0,1,(.t 46)), (1,1,(.t 47)), (2,1,(.c (.int .i64 (-1)))), (4,1,(.t 49))]) 50,
 mo (.alloc [(.int .i64 0),(.int .i64 0),(.int .i64 0),(.int .i64 0),(.sl [])]) 16,
 ⟨.st 5 (.t 16) (.t 50), none, none⟩]))
 (.seq (.reg [mo (.ld (some 2) (.t 6)) 52,
 mo (.mv (.t 3)) 53,
 mo (.mv (.t 14)) 54,
 mo (.mv (.t 4)) 55,
 mo (.call (.f 35) [(.t 52),(.t 53),(.t 54),(.t 55)] [] []) 56,
 mo (.mv (.t 56)) 51,
 mo (.ext 0 (.t 51)) 57,
 mo (.ext 1 (.t 51)) 58,
 mo (.fad 3 (.t 16)) 59,
 ⟨.st 1 (.t 59) (.t 57), none, none⟩])
 (.cut (.seq (.note (.gc [2,4,5,10,14,16]) (.reg [mo (.mv (.t 14)) 60,
 mo (.mv (.t 2)) 61,
 mo (.bin false .neq (.t 60) (.t 61)) 62]))
 (.cond (.t 62)
 (.reg [mo (.ld (some 2) (.t 5)) 64,
 mo (.mv (.t 2)) 65,
 mo (.mv (.t 14)) 66,
 mo (.mv (.t 4)) 67,
 mo (.call (.f 36) [(.t 64),(.t 65),(.t 66),(.t 67)] [] []) 68,
 mo (.mv (.t 68)) 63,
 mo (.ext 0 (.t 63)) 69,
 mo (.ext 1 (.t 63)) 70,
 mo (.fad 4 (.t 16)) 71,
 ⟨.st 1 (.t 71) (.t 69), none, none⟩])
 .skip))
 mc_4m)))))))
theorem Wq_i (d_ : GDirectory) (a_ : GEstate) (p_ : Int) (place_ : Int) (t_ : Int) {Q : GReading × Bool → Prop} {Q' : V → Heap → Prop} (h : Ok (F_i d_ a_ p_ place_ t_) Q) (hQ : ∀ z, Q z → Q' (.tup [GReading.v z.1, .bool z.2]) []) : ACall Tryz.prog 13 [GDirectory.v d_, GEstate.v a_, .int .i64 p_, .int .i64 place_, .int .i64 t_] [] Q' := by
 refine acallM mc_i [.fzc 10] [] [.c 10 (some 5), .t 11] Tryz.func13 fun M => ?_
 unfold F_i at h
 unfold mc_i
 replace h := tY h
 refine tB ?_
 repeat' (first
 | (exact tZ)
 | ((first | refine oblg h ?_ | refine roomG h ?_ | refine fork h ?_ ?_ | refine forkS h ?_ ?_) <;> clear h <;> intro hc h)
 | (obtain ⟨y, hy, h⟩ := h; (first | with_reducible first | have hw := W_9 hy | have hw := W_7 hy | have hw := W_x hy | have hw := W_o hy | have hw := W_16 hy); replace hw := tY hw; (first | refine M.sC hw ?_ | refine M.sD hw ?_); clear hw hy; refine tB ?_)
 | (refine M.jn1 (b := mc_4m) [10,16] [10] (fun y => []) (fun y => [.o 16 (.cells [.int .i64 y.Place, .int .i64 y.Time, .int .i64 y.Link, .int .i64 y.Grant, .sl (y.Chain.map (V.int .i64))])]) [.fzc 16] h ?_ ?_ <;> first
 | (clear h; intro Qn K hK1 h; replace h := tY h; refine tB ?_)
  |(clear h; intro y h; unfold mc_4m; replace h := tY h; refine tB ?_))
 | (refine hK1 _ ?_; (try refine tB ?_); refine ⟨_, h, ?_⟩; exact tU0; done)
 | (refine tE ?_; (first | rw [M.lok_compU] | rw [M.lokD_compU]); refine tB ?_)
 | (refine tA ?_))
def W_i {d_ a_ p_ place_ t_ y} (hy : (F_i d_ a_ p_ place_ t_) = some y) := acW (Wq_i d_ a_ p_ place_ t_) hy
def F_2p (b_ : List Int) (k11 : Int) (a12 : Int) (x10 : Unit) : Option (Fl Unit Bool) :=
 chk (inb k11 b_.length) (bif (!decide (a12 = (b_.getD (k11).toNat default))) then some (.ex false) else some (.nx ()))
def F_y (a_ : List Int) (b_ : List Int) : Option Bool :=
 bif (!decide ((a_.length : Int) = (b_.length : Int))) then some false else (forL (F_2p b_) a_ 0 ()).bind fun o => o.elim (fun x13 => some true) (fun r14 => some r14)
@[irreducible] def mc_2p : MC :=
 (.seq (.reg [mo (.bin false .lss (.t 13) (.t 12)) 14])
 (.seq (.cond (.t 14)
 .skip
 (.exit 0))
 (.seq (.block 1
 (.seq (.reg [mo (.mv (.t 13)) 15,
 mo (.mv (.t 15)) 5])
 (.seq (.regD [mo (.mv (.t 0)) 16,
 mo (.mv (.t 5)) 17,
 mo (.iad 1 (.t 16) (.t 17)) 18,
 mo (.ld none (.t 18)) 19,
 mo (.mv (.t 1)) 20,
 mo (.mv (.t 5)) 21,
 mo (.iad 1 (.t 20) (.t 21)) 22,
 mo (.ld none (.t 22)) 23,
 mo (.bin false .neq (.t 19) (.t 23)) 24]
 [[],[],[0,1],[2],[],[],[4,5],[6],[3,7]]
 [[],[],[0,1],[0,1,2],[],[],[4,5],[4,5,6],[0,1,2,3,4,5,6,7]])
 (.cond (.t 24)
 (.seq (.reg [mo (.mv (.c (.bool false))) 4])
 .ret)
 .skip))))
 (.reg [mo (.bin true .add (.t 13) (.c (.int .i64 1))) 25,
 mo (.mv (.t 25)) 13]))))
def mc_y : MC :=
 (.seq (.reg [mo (.mv (.c (.bool false))) 4])
 (.seq (.seq (.reg [mo (.mv (.t 0)) 6,
 mo (.len false (.t 6)) 7,
 mo (.mv (.t 1)) 8,
 mo (.len false (.t 8)) 9,
 mo (.bin false .neq (.t 7) (.t 9)) 10])
 (.cond (.t 10)
 (.seq (.reg [mo (.mv (.c (.bool false))) 4])
 .ret)
 .skip))
 (.seq (.seq (.reg [mo (.mv (.t 0)) 11,
 mo (.len false (.t 11)) 12,
 mo (.mv (.c (.int .i64 0))) 13])
 (.block 0
 (.loop mc_2p)))
 (.seq (.reg [mo (.mv (.c (.bool true))) 4])
 .ret))))
theorem Wq_y (a_ : List Int) (b_ : List Int) {Q : Bool → Prop} {Q' : V → Heap → Prop} (h : Ok (F_y a_ b_) Q) (hQ : ∀ z, Q z → Q' (.bool z) []) : ACall Tryz.prog 23 [.sl (a_.map (V.int .i64)), .sl (b_.map (V.int .i64))] [] Q' := by
 refine acallM mc_y [] [] [.t 4] Tryz.func23 fun M => ?_
 unfold F_y at h
 unfold mc_y
 replace h := tY h
 refine tB ?_
 repeat' (first
 | (exact tZ)
 | ((first | refine oblg h ?_ | refine roomG h ?_ | refine fork h ?_ ?_ | refine forkS h ?_ ?_) <;> clear h <;> intro hc h)
 | (refine M.for1 (b := mc_2p) 13 [0,1,12] [] (fun x => []) (fun x => []) [] h ?_ ?_ ?_ <;> first
 | (clear h; intro k a x Qn K hK1 hkN1 ha1 h hf; have hl := fact_int (factsE_find (n := 12) hf.1 rfl); clear hf; have hkd := kD hkN1; have hkB1 := kB hkN1; have hkI1 := kI (k := k) (by omega); unfold F_2p at h; unfold mc_2p; replace h := tY h; refine tK ha1 hkd hkN1 hkB1 hkI1 ?_)
  |(clear h; intro x K h; replace h := And.left (And.intro h trivial); unfold mc_2p; replace h := tY h; refine tB ?_)
  |(clear h; (try refine tB ?_); exact tU0; done))
 | (simp only [ha1])
 | (refine hK1 _ ?_; (try refine tB ?_); refine ⟨_, h, ?_⟩; exact tU0; done)
 | (refine tE ?_; (first | rw [M.lok_compU] | rw [M.lokD_compU]); refine tB ?_)
 | (refine tA ?_))
def W_y {a_ b_ y} (hy : (F_y a_ b_) = some y) := acW (Wq_y a_ b_) hy
def F_5 (x_ : Int) (low_ : Int) (high_ : Int) : Option Bool :=
 grp ((decide (low_ ≤ x_) && decide (x_ ≤ high_))) fun b2 => some b2
@[irreducible] def mg_4n : List MOp := [⟨.mv (.t 0), (some 11), (some (10, true))⟩,
 ⟨.mv (.t 2), (some 12), (some (10, true))⟩,
 ⟨.bin false .leq (.t 11) (.t 12), (some 13), (some (10, true))⟩,
 mo (.pick (.t 10) (.t 13) (.c (.bool false))) 14]
def mc_5 : MC :=
 (.seq (.reg [mo (.mv (.c (.bool false))) 6])
 (.seq (.regI [.op (mo (.mv (.t 0)) 7),
 .op (mo (.mv (.t 1)) 8),
 .op (mo (.bin false .geq (.t 7) (.t 8)) 9),
 .op (mo (.mv (.t 9)) 10),
 .grp mg_4n,
 .op (mo (.mv (.t 14)) 6)])
 .ret))
theorem Wq_5 (x_ : Int) (low_ : Int) (high_ : Int) {Q : Bool → Prop} {Q' : V → Heap → Prop} (h : Ok (F_5 x_ low_ high_) Q) (hQ : ∀ z, Q z → Q' (.bool z) []) : ACall Tryz.prog 54 [.int .i64 x_, .int .i64 low_, .int .i64 high_] [] Q' := by
 refine acallM mc_5 [] [] [.t 6] Tryz.func54 fun M => ?_
 unfold F_5 at h
 unfold mc_5
 replace h := tY h
 refine tB ?_
 repeat' (first
 | (exact tZ)
 | ((first | refine oblg h ?_ | refine roomG h ?_ | refine fork h ?_ ?_ | refine forkS h ?_ ?_) <;> clear h <;> intro hc h)
 | (refine M.gv1 (ms := mg_4n) 14 [11,12,13] h ?_ ?_ <;> first
 | (clear h; intro K hK1; unfold mg_4n; refine tB ?_)
 | (clear h; intro b h; replace h := tY h; refine tB ?_))
 | (refine hK1 _ ?_; exact tU; done)
 | (refine bfork (fun hc => ?_) (fun hc => ?_))
 | (refine tE ?_; (first | rw [M.lok_compU] | rw [M.lokD_compU]); refine tB ?_)
 | (refine tA ?_))
def W_5 {x_ low_ high_ y} (hy : (F_5 x_ low_ high_) = some y) := acW (Wq_5 x_ low_ high_) hy
def F_4 (d_ : GDirectory) (p_ : Int) : Option Bool :=
 chk (in64 ((d_.Kinds.length : Int) - 1)) ((F_5 p_ 0 ((d_.Kinds.length : Int) - 1)).bind fun y2 => some y2)
def mc_4 : MC :=
 (.seq (.reg [mo (.box (.t 0)) 2,
 mo (.mv (.c (.bool false))) 4])
 (.seq (.reg [mo (.mv (.t 1)) 5,
 mo (.fad 0 (.t 2)) 6,
 mo (.ld none (.t 6)) 7,
 mo (.len false (.t 7)) 8,
 mo (.bin true .sub (.t 8) (.c (.int .i64 1))) 9,
 mo (.call (.f 54) [(.t 5),(.c (.int .i64 0)),(.t 9)] [] []) 10,
 mo (.mv (.t 10)) 4])
 .ret))
theorem Wq_4 (d_ : GDirectory) (p_ : Int) {Q : Bool → Prop} {Q' : V → Heap → Prop} (h : Ok (F_4 d_ p_) Q) (hQ : ∀ z, Q z → Q' (.bool z) []) : ACall Tryz.prog 44 [GDirectory.v d_, .int .i64 p_] [] Q' := by
 refine acallM mc_4 [] [] [.t 4] Tryz.func44 fun M => ?_
 unfold F_4 at h
 unfold mc_4
 replace h := tY h
 refine tB ?_
 repeat' (first
 | (exact tZ)
 | ((first | refine oblg h ?_ | refine roomG h ?_ | refine fork h ?_ ?_ | refine forkS h ?_ ?_) <;> clear h <;> intro hc h)
 | (obtain ⟨y, hy, h⟩ := h; have hw := W_5 hy; replace hw := tY hw; (first | refine M.sC hw ?_ | refine M.sD hw ?_); clear hw hy; refine tB ?_)
 | (refine tE ?_; (first | rw [M.lok_compU] | rw [M.lokD_compU]); refine tB ?_)
 | (refine tA ?_))
def W_4 {d_ p_ y} (hy : (F_4 d_ p_) = some y) := acW (Wq_4 d_ p_) hy
def F_p (d_ : GDirectory) (p_ : Int) : Option Bool :=
 (F_4 d_ p_).bind fun y3 => jn (α := Bool) (bif y3 then chk (inb p_ d_.Kinds.length) (some (decide ((d_.Kinds.getD (p_).toNat default) = 2))) else some false) fun j4 => some j4
@[irreducible] def mg_4o : List MOp := [⟨.fad 0 (.t 2), (some 9), (some (8, true))⟩,
 ⟨.ld none (.t 9), (some 10), (some (8, true))⟩,
 ⟨.mv (.t 1), (some 11), (some (8, true))⟩,
 ⟨.iad 1 (.t 10) (.t 11), (some 12), (some (8, true))⟩,
 ⟨.ld none (.t 12), (some 13), (some (8, true))⟩,
 ⟨.bin false .eql (.t 13) (.c (.int .i64 2)), (some 14), (some (8, true))⟩,
 mo (.pick (.t 8) (.t 14) (.c (.bool false))) 15]
def mc_p : MC :=
 (.seq (.reg [mo (.box (.t 0)) 2,
 mo (.mv (.c (.bool false))) 4])
 (.seq (.regI [.op (mo (.ld (some 2) (.t 2)) 5),
 .op (mo (.mv (.t 1)) 6),
 .op (mo (.call (.f 44) [(.t 5),(.t 6)] [] []) 7),
 .op (mo (.mv (.t 7)) 8),
 .grp mg_4o,
 .op (mo (.mv (.t 15)) 4)])
 .ret))
theorem Wq_p (d_ : GDirectory) (p_ : Int) {Q : Bool → Prop} {Q' : V → Heap → Prop} (h : Ok (F_p d_ p_) Q) (hQ : ∀ z, Q z → Q' (.bool z) []) : ACall Tryz.prog 55 [GDirectory.v d_, .int .i64 p_] [] Q' := by
 refine acallM mc_p [] [] [.t 4] Tryz.func55 fun M => ?_
 unfold F_p at h
 unfold mc_p
 replace h := tY h
 refine tB ?_
 repeat' (first
 | (exact tZ)
 | ((first | refine oblg h ?_ | refine roomG h ?_ | refine fork h ?_ ?_ | refine forkS h ?_ ?_) <;> clear h <;> intro hc h)
 | (obtain ⟨y, hy, h⟩ := h; have hw := W_4 hy; replace hw := tY hw; (first | refine M.sC hw ?_ | refine M.sD hw ?_); clear hw hy; refine tB ?_)
 | (refine M.gj1 (ms := mg_4o) [4] [] (fun y => [(15, .bool y)]) (fun y => []) h ?_ ?_ <;> first
 | (clear h; intro Qn K hK1 h; unfold mg_4o; replace h := tY h; refine tB ?_)
  |(clear h; intro y h; replace h := tY h; refine tB ?_))
 | (refine hK1 _ ?_; (try refine tB ?_); refine ⟨_, h, ?_⟩; exact tU0; done)
 | (refine tE ?_; (first | rw [M.lok_compU] | rw [M.lokD_compU]); refine tB ?_)
 | (refine tA ?_))
def W_p {d_ p_ y} (hy : (F_p d_ p_) = some y) := acW (Wq_p d_ p_) hy
def F_2q (k35 : Int) (a36 : Int) (x34 : Unit) : Option (Fl Unit Bool) :=
 (F_5 a36 1 3).bind fun y44 => bif (!y44) then some (.ex false) else some (.nx ())
def F_2r (d_ : GDirectory) (k177 : Int) (a178 : GMember) (x176 : Unit) : Option (Fl Unit Bool) :=
 (F_5 a178.Kind 1 2).bind fun y221 => bif (!y221) then some (.ex false) else (F_5 a178.Time 0 1099511627776).bind fun y222 => bif (!y222) then some (.ex false) else bif decide (0 < k177) then chk (in64 (k177 - 1)) (chk (inb (k177 - 1) d_.Events.length) (bif decide (a178.Time < (d_.Events.getD ((k177 - 1)).toNat default).Time) then some (.ex false) else (F_4 d_ a178.Principal).bind fun y223 => bif (!y223) then some (.ex false) else (F_p d_ a178.Group).bind fun y224 => bif (!y224) then some (.ex false) else bif decide (a178.Principal = a178.Group) then some (.ex false) else some (.nx ()))) else (F_4 d_ a178.Principal).bind fun y225 => bif (!y225) then some (.ex false) else (F_p d_ a178.Group).bind fun y226 => bif (!y226) then some (.ex false) else bif decide (a178.Principal = a178.Group) then some (.ex false) else some (.nx ())
def F_2 (d_ : GDirectory) : Option Bool :=
 grp ((decide (24 < (d_.Kinds.length : Int)) || decide (120 < (d_.Events.length : Int)))) fun b4 => bif b4 then some false else (forL F_2q d_.Kinds 0 ()).bind fun o => o.elim (fun x45 => (forL (F_2r d_) d_.Events 0 ()).bind fun o => o.elim (fun x227 => some true) (fun r228 => some r228)) (fun r46 => some r46)
@[irreducible] def mg_4p : List MOp := [⟨.fad 1 (.t 1), (some 12), (some (11, false))⟩,
 ⟨.ld none (.t 12), (some 13), (some (11, false))⟩,
 ⟨.len false (.t 13), (some 14), (some (11, false))⟩,
 ⟨.bin false .gtr (.t 14) (.c (.int .i64 120)), (some 15), (some (11, false))⟩,
 mo (.pick (.t 11) (.c (.bool true)) (.t 15)) 16]
@[irreducible] def mc_2q : MC :=
 (.seq (.reg [mo (.bin false .lss (.t 20) (.t 19)) 21])
 (.seq (.cond (.t 21)
 .skip
 (.exit 0))
 (.seq (.block 1
 (.seq (.reg [mo (.iad 1 (.t 18) (.t 20)) 22,
 mo (.ld none (.t 22)) 23,
 mo (.mv (.t 23)) 4])
 (.seq (.reg [mo (.mv (.t 4)) 24,
 mo (.call (.f 54) [(.t 24),(.c (.int .i64 1)),(.c (.int .i64 3))] [] []) 25,
 mo (.not (.t 25)) 26])
 (.cond (.t 26)
 (.seq (.reg [mo (.mv (.c (.bool false))) 2])
 .ret)
 .skip))))
 (.reg [mo (.bin true .add (.t 20) (.c (.int .i64 1))) 27,
 mo (.mv (.t 27)) 20]))))
@[irreducible] def mc_2r : MC :=
 (.seq (.reg [mo (.bin false .lss (.t 31) (.t 30)) 32])
 (.seq (.cond (.t 32)
 .skip
 (.exit 2))
 (.seq (.block 3
 (.seq (.reg [mo (.mv (.t 31)) 33,
 mo (.iad 4 (.t 29) (.t 31)) 34,
 mo (.ld (some 4) (.t 34)) 35,
 mo (.alloc [(.int .i64 0),(.int .i64 0),(.int .i64 0),(.int .i64 0)]) 6,
 mo (.mv (.t 33)) 5,
 ⟨.st 4 (.t 6) (.t 35), none, none⟩])
 (.seq (.regD [mo (.fad 1 (.t 6)) 36,
 mo (.ld none (.t 36)) 37,
 mo (.call (.f 54) [(.t 37),(.c (.int .i64 1)),(.c (.int .i64 2))] [] []) 38,
 mo (.not (.t 38)) 39,
 mo (.mv (.t 39)) 40,
 ⟨.fad 0 (.t 6), (some 41), (some (40, false))⟩,
 ⟨.ld none (.t 41), (some 42), (some (40, false))⟩,
 ⟨.call (.f 54) [(.t 42),(.c (.int .i64 0)),(.c (.int .i64 1099511627776))] [] [], (some 43), (some (40, false))⟩,
 ⟨.not (.t 43), (some 44), (some (40, false))⟩,
 mo (.pick (.t 40) (.c (.bool true)) (.t 44)) 45,
 mo (.mv (.t 45)) 46,
 ⟨.mv (.t 5), (some 47), (some (46, false))⟩,
 ⟨.bin false .gtr (.t 47) (.c (.int .i64 0)), (some 48), (some (46, false))⟩,
 ⟨.mv (.t 48), (some 49), (some (46, false))⟩,
 ⟨.fad 0 (.t 6), (some 50), (some (49, true))⟩,
 ⟨.ld none (.t 50), (some 51), (some (49, true))⟩,
 ⟨.fad 1 (.t 1), (some 52), (some (49, true))⟩,
 ⟨.ld none (.t 52), (some 53), (some (49, true))⟩,
 ⟨.mv (.t 5), (some 54), (some (49, true))⟩,
 ⟨.bin true .sub (.t 54) (.c (.int .i64 1)), (some 55), (some (49, true))⟩,
 ⟨.iad 4 (.t 53) (.t 55), (some 56), (some (49, true))⟩,
 ⟨.fad 0 (.t 56), (some 57), (some (49, true))⟩,
 ⟨.ld none (.t 57), (some 58), (some (49, true))⟩,
 ⟨.bin false .lss (.t 51) (.t 58), (some 59), (some (49, true))⟩,
 ⟨.pick (.t 49) (.t 59) (.c (.bool false)), (some 60), (some (46, false))⟩,
 mo (.pick (.t 46) (.c (.bool true)) (.t 60)) 61,
 mo (.mv (.t 61)) 62,
 ⟨.ld (some 2) (.t 1), (some 63), (some (62, false))⟩,
 ⟨.fad 2 (.t 6), (some 64), (some (62, false))⟩,
 ⟨.ld none (.t 64), (some 65), (some (62, false))⟩,
 ⟨.call (.f 44) [(.t 63),(.t 65)] [] [], (some 66), (some (62, false))⟩,
 ⟨.not (.t 66), (some 67), (some (62, false))⟩,
 mo (.pick (.t 62) (.c (.bool true)) (.t 67)) 68,
 mo (.mv (.t 68)) 69,
 ⟨.ld (some 2) (.t 1), (some 70), (some (69, false))⟩,
 ⟨.fad 3 (.t 6), (some 71), (some (69, false))⟩,
 ⟨.ld none (.t 71), (some 72), (some (69, false))⟩,
 ⟨.call (.f 55) [(.t 70),(.t 72)] [] [], (some 73), (some (69, false))⟩,
 ⟨.not (.t 73), (some 74), (some (69, false))⟩,
 mo (.pick (.t 69) (.c (.bool true)) (.t 74)) 75,
 mo (.mv (.t 75)) 76,
 ⟨.fad 2 (.t 6), (some 77), (some (76, false))⟩,
 ⟨.ld none (.t 77), (some 78), (some (76, false))⟩,
 ⟨.fad 3 (.t 6), (some 79), (some (76, false))⟩,
 ⟨.ld none (.t 79), (some 80), (some (76, false))⟩,
 ⟨.bin false .eql (.t 78) (.t 80), (some 81), (some (76, false))⟩,
 mo (.pick (.t 76) (.c (.bool true)) (.t 81)) 82]
 [[],[0],[1],[2],[3,2],[4],[5,4],[6,4,4],[7,4],[4,8],[9,7],[10],[11,10],[12,10,10],[13],[14,13],[13],[16,13],[13],[18,13],[17,19,13],[20,13],[21,13],[15,22,13],[13,23,10],[10,24],[25,13],[26],[26],[28,26],[27,29,26,26],[30,26],[26,31],[32,30],[33],[33],[35,33],[34,36,33,33],[37,33],[33,38],[39,37],[40],[41,40],[40],[43,40],[42,44,40],[40,45]]
 [[],[0],[0,1],[0,1,2],[0,1,2,3],[0,1,2,3,4],[0,1,2,3,4,5],[0,1,2,3,4,5,6],[0,1,2,3,4,5,6,7],[0,1,2,3,4,5,6,7,8],[0,1,2,3,4,5,6,7,8,9],[0,1,2,3,4,5,6,7,8,9,10],[0,1,2,3,4,5,6,7,8,9,10,11],[0,1,2,3,4,5,6,7,8,9,10,11,12],[0,1,2,3,4,5,6,7,8,9,10,11,12,13],[0,1,2,3,4,5,6,7,8,9,10,11,12,13,14],[0,1,2,3,4,5,6,7,8,9,10,11,12,13],[0,1,2,3,4,5,6,7,8,9,10,11,12,13,16],[0,1,2,3,4,5,6,7,8,9,10,11,12,13],[0,1,2,3,4,5,6,7,8,9,10,11,12,13,18],[0,1,2,3,4,5,6,7,8,9,10,11,12,13,16,17,18,19],[0,1,2,3,4,5,6,7,8,9,10,11,12,13,16,17,18,19,20],[0,1,2,3,4,5,6,7,8,9,10,11,12,13,16,17,18,19,20,21],[0,1,2,3,4,5,6,7,8,9,10,11,12,13,14,15,16,17,18,19,20,21,22],[0,1,2,3,4,5,6,7,8,9,10,11,12,13,14,15,16,17,18,19,20,21,22,23],[0,1,2,3,4,5,6,7,8,9,10,11,12,13,14,15,16,17,18,19,20,21,22,23,24],[0,1,2,3,4,5,6,7,8,9,10,11,12,13,14,15,16,17,18,19,20,21,22,23,24,25],[0,1,2,3,4,5,6,7,8,9,10,11,12,13,14,15,16,17,18,19,20,21,22,23,24,25,26],[0,1,2,3,4,5,6,7,8,9,10,11,12,13,14,15,16,17,18,19,20,21,22,23,24,25,26],[0,1,2,3,4,5,6,7,8,9,10,11,12,13,14,15,16,17,18,19,20,21,22,23,24,25,26,28],[0,1,2,3,4,5,6,7,8,9,10,11,12,13,14,15,16,17,18,19,20,21,22,23,24,25,26,27,28,29],[0,1,2,3,4,5,6,7,8,9,10,11,12,13,14,15,16,17,18,19,20,21,22,23,24,25,26,27,28,29,30],[0,1,2,3,4,5,6,7,8,9,10,11,12,13,14,15,16,17,18,19,20,21,22,23,24,25,26,27,28,29,30,31],[0,1,2,3,4,5,6,7,8,9,10,11,12,13,14,15,16,17,18,19,20,21,22,23,24,25,26,27,28,29,30,31,32],[0,1,2,3,4,5,6,7,8,9,10,11,12,13,14,15,16,17,18,19,20,21,22,23,24,25,26,27,28,29,30,31,32,33],[0,1,2,3,4,5,6,7,8,9,10,11,12,13,14,15,16,17,18,19,20,21,22,23,24,25,26,27,28,29,30,31,32,33],[0,1,2,3,4,5,6,7,8,9,10,11,12,13,14,15,16,17,18,19,20,21,22,23,24,25,26,27,28,29,30,31,32,33,35],[0,1,2,3,4,5,6,7,8,9,10,11,12,13,14,15,16,17,18,19,20,21,22,23,24,25,26,27,28,29,30,31,32,33,34,35,36],[0,1,2,3,4,5,6,7,8,9,10,11,12,13,14,15,16,17,18,19,20,21,22,23,24,25,26,27,28,29,30,31,32,33,34,35,36,37],[0,1,2,3,4,5,6,7,8,9,10,11,12,13,14,15,16,17,18,19,20,21,22,23,24,25,26,27,28,29,30,31,32,33,34,35,36,37,38],[0,1,2,3,4,5,6,7,8,9,10,11,12,13,14,15,16,17,18,19,20,21,22,23,24,25,26,27,28,29,30,31,32,33,34,35,36,37,38,39],[0,1,2,3,4,5,6,7,8,9,10,11,12,13,14,15,16,17,18,19,20,21,22,23,24,25,26,27,28,29,30,31,32,33,34,35,36,37,38,39,40],[0,1,2,3,4,5,6,7,8,9,10,11,12,13,14,15,16,17,18,19,20,21,22,23,24,25,26,27,28,29,30,31,32,33,34,35,36,37,38,39,40,41],[0,1,2,3,4,5,6,7,8,9,10,11,12,13,14,15,16,17,18,19,20,21,22,23,24,25,26,27,28,29,30,31,32,33,34,35,36,37,38,39,40],[0,1,2,3,4,5,6,7,8,9,10,11,12,13,14,15,16,17,18,19,20,21,22,23,24,25,26,27,28,29,30,31,32,33,34,35,36,37,38,39,40,43],[0,1,2,3,4,5,6,7,8,9,10,11,12,13,14,15,16,17,18,19,20,21,22,23,24,25,26,27,28,29,30,31,32,33,34,35,36,37,38,39,40,41,42,43,44],[0,1,2,3,4,5,6,7,8,9,10,11,12,13,14,15,16,17,18,19,20,21,22,23,24,25,26,27,28,29,30,31,32,33,34,35,36,37,38,39,40,41,42,43,44,45]])
 (.cond (.t 82)
 (.seq (.reg [mo (.mv (.c (.bool false))) 2])
 .ret)
 .skip))))
 (.reg [mo (.bin true .add (.t 31) (.c (.int .i64 1))) 83,
 mo (.mv (.t 83)) 31]))))
def mc_2 : MC :=
 (.seq (.reg [mo (.box (.t 0)) 1,
 mo (.mv (.c (.bool false))) 2])
 (.seq (.seq (.regI [.op (mo (.fad 0 (.t 1)) 7),
 .op (mo (.ld none (.t 7)) 8),
 .op (mo (.len false (.t 8)) 9),
 .op (mo (.bin false .gtr (.t 9) (.c (.int .i64 24))) 10),
 .op (mo (.mv (.t 10)) 11),
 .grp mg_4p])
 (.cond (.t 16)
 (.seq (.reg [mo (.mv (.c (.bool false))) 2])
 .ret)
 .skip))
 (.seq (.seq (.note (.gc [1,41,42,43,44,47,48,49,50,51,52,53,54,55,56,57,58,59,60,63,64,65,66,67,70,71,72,73,74,77,78,79,80,81]) (.reg [mo (.fad 0 (.t 1)) 17,
 mo (.ld none (.t 17)) 18,
 mo (.len false (.t 18)) 19,
 mo (.mv (.c (.int .i64 0))) 20]))
 (.block 0
 (.loop mc_2q)))
 (.seq (.seq (.reg [mo (.fad 1 (.t 1)) 28,
 mo (.ld none (.t 28)) 29,
 mo (.len false (.t 29)) 30,
 mo (.mv (.c (.int .i64 0))) 31])
 (.block 2
 (.loop mc_2r)))
 (.seq (.reg [mo (.mv (.c (.bool true))) 2])
 .ret)))))
theorem Wq_2 (d_ : GDirectory) {Q : Bool → Prop} {Q' : V → Heap → Prop} (h : Ok (F_2 d_) Q) (hQ : ∀ z, Q z → Q' (.bool z) []) : ACall Tryz.prog 26 [GDirectory.v d_] [] Q' := by
 refine acallM mc_2 [] [] [.t 2] Tryz.func26 fun M => ?_
 unfold F_2 at h
 unfold mc_2
 replace h := tY h
 refine tB ?_
 repeat' (first
 | (exact tZ)
 | ((first | refine oblg h ?_ | refine roomG h ?_ | refine fork h ?_ ?_ | refine forkS h ?_ ?_) <;> clear h <;> intro hc h)
 | (obtain ⟨y, hy, h⟩ := h; (first | with_reducible first | have hw := W_5 hy | have hw := W_4 hy | have hw := W_p hy); replace hw := tY hw; (first | refine M.sC hw ?_ | refine M.sD hw ?_); clear hw hy; refine tB ?_)
 | (refine M.for1 (b := mc_2q) 20 [1,18,19] [1] (fun x => []) (fun x => []) [] h ?_ ?_ ?_ <;> first
 | (clear h; intro k a x Qn K hK1 hkN1 ha1 h hf; have hl := fact_int (factsE_find (n := 19) hf.1 rfl); clear hf; have hkd := kD hkN1; have hkB1 := kB hkN1; have hkI1 := kI (k := k) (by omega); unfold F_2q at h; unfold mc_2q; replace h := tY h; refine tK ha1 hkd hkN1 hkB1 hkI1 ?_)
  |(clear h; intro x K h; replace h := And.left (And.intro h trivial); unfold mc_2q; replace h := tY h; refine tB ?_)
  |(clear h; (try refine tB ?_); exact tU0; done))
 | (refine M.for1 (b := mc_2r) 31 [1,29,30] [1] (fun x => []) (fun x => []) [] h ?_ ?_ ?_ <;> first
 | (clear h; intro k a x Qn K hK2 hkN2 ha2 h hf; have hl := fact_int (factsE_find (n := 30) hf.1 rfl); clear hf; have hkd := kD hkN2; have hkB2 := kB hkN2; have hkI2 := kI (k := k) (by omega); unfold F_2r at h; unfold mc_2r; replace h := tY h; refine tK ha2 hkd hkN2 hkB2 hkI2 ?_)
  |(clear h; intro x K h; replace h := And.left (And.intro h trivial); unfold mc_2r; replace h := tY h; refine tB ?_)
  |(clear h; (try refine tB ?_); exact tU0; done))
 | (refine M.gv1 (ms := mg_4p) 16 [12,13,14,15] h ?_ ?_ <;> first
 | (clear h; intro K hK3; unfold mg_4p; refine tB ?_)
 | (clear h; intro b h; replace h := tY h; refine tB ?_))
 | (first | simp only [ha1] | simp only [ha2])
 | ((first | refine hK1 _ ?_ | refine hK2 _ ?_); (try refine tB ?_); refine ⟨_, h, ?_⟩; exact tU0; done)
 | (refine hK3 _ ?_; exact tU; done)
 | (refine bfork (fun hc => ?_) (fun hc => ?_))
 | (refine tE ?_; (first | rw [M.lok_compU] | rw [M.lokD_compU]); refine tB ?_)
 | (refine tA ?_))
def W_2 {d_ y} (hy : (F_2 d_) = some y) := acW (Wq_2 d_) hy
def F_6 (x_ : Int) (low_ : Int) (high_ : Int) : Option Bool :=
 grp ((decide (low_ ≤ x_) && decide (x_ ≤ high_))) fun b2 => some b2
@[irreducible] def mg_4q : List MOp := [⟨.mv (.t 0), (some 11), (some (10, true))⟩,
 ⟨.mv (.t 2), (some 12), (some (10, true))⟩,
 ⟨.bin false .leq (.t 11) (.t 12), (some 13), (some (10, true))⟩,
 mo (.pick (.t 10) (.t 13) (.c (.bool false))) 14]
def mc_6 : MC :=
 (.seq (.reg [mo (.mv (.c (.bool false))) 6])
 (.seq (.regI [.op (mo (.mv (.t 0)) 7),
 .op (mo (.mv (.t 1)) 8),
 .op (mo (.bin false .geq (.t 7) (.t 8)) 9),
 .op (mo (.mv (.t 9)) 10),
 .grp mg_4q,
 .op (mo (.mv (.t 14)) 6)])
 .ret))
theorem Wq_6 (x_ : Int) (low_ : Int) (high_ : Int) {Q : Bool → Prop} {Q' : V → Heap → Prop} (h : Ok (F_6 x_ low_ high_) Q) (hQ : ∀ z, Q z → Q' (.bool z) []) : ACall Tryz.prog 56 [.int .i64 x_, .int .i64 low_, .int .i64 high_] [] Q' := by
 refine acallM mc_6 [] [] [.t 6] Tryz.func56 fun M => ?_
 unfold F_6 at h
 unfold mc_6
 replace h := tY h
 refine tB ?_
 repeat' (first
 | (exact tZ)
 | ((first | refine oblg h ?_ | refine roomG h ?_ | refine fork h ?_ ?_ | refine forkS h ?_ ?_) <;> clear h <;> intro hc h)
 | (refine M.gv1 (ms := mg_4q) 14 [11,12,13] h ?_ ?_ <;> first
 | (clear h; intro K hK1; unfold mg_4q; refine tB ?_)
 | (clear h; intro b h; replace h := tY h; refine tB ?_))
 | (refine hK1 _ ?_; exact tU; done)
 | (refine bfork (fun hc => ?_) (fun hc => ?_))
 | (refine tE ?_; (first | rw [M.lok_compU] | rw [M.lokD_compU]); refine tB ?_)
 | (refine tA ?_))
def W_6 {x_ low_ high_ y} (hy : (F_6 x_ low_ high_) = some y) := acW (Wq_6 x_ low_ high_) hy
def F_1l (a_ : GEstate) (x_ : GAccess) : Option Bool :=
 (F_6 x_.Time 0 1099511627776).bind fun y7 => bif (!y7) then some false else chk (in64 (a_.Places - 1)) ((F_6 x_.Place 0 (a_.Places - 1)).bind fun y8 => bif (!y8) then some false else jn (α := Bool) (bif decide (x_.Kind = 1) then some true else some (decide (x_.Kind = 2))) fun j29 => bif j29 then jn (α := Bool) (bif (decide (x_.Time = x_.Time) && (decide (x_.Kind = x_.Kind) && (decide (x_.Place = x_.Place) && (decide (x_.Principal = x_.Principal) && (decide (x_.Until = 0) && (decide (x_.Content = 0) && decide (x_.From = 0))))))) then (F_6 x_.Principal 0 23).bind fun y33 => some y33 else some false) fun j34 => some j34 else bif decide (x_.Kind = 3) then grp (((decide (x_.Time = x_.Time) && (decide (x_.Kind = x_.Kind) && (decide (x_.Place = x_.Place) && (decide (x_.Principal = 0) && (decide (x_.Until = x_.Until) && (decide (x_.Content = 0) && decide (x_.From = 0))))))) && decide (x_.Time < x_.Until))) fun b37 => grp ((b37 && decide (x_.Until ≤ 1099511627776))) fun b38 => some b38 else bif decide (x_.Kind = 4) then some (decide (x_.Time = x_.Time) && (decide (x_.Kind = x_.Kind) && (decide (x_.Place = x_.Place) && (decide (x_.Principal = 0) && (decide (x_.Until = 0) && (decide (x_.Content = 0) && decide (x_.From = 0))))))) else jn (α := Bool) (bif decide (x_.Kind = 5) then some true else some (decide (x_.Kind = 6))) fun j39 => bif j39 then jn (α := Bool) (bif (decide (x_.Time = x_.Time) && (decide (x_.Kind = x_.Kind) && (decide (x_.Place = x_.Place) && (decide (x_.Principal = 0) && (decide (x_.Until = 0) && (decide (x_.Content = x_.Content) && decide (x_.From = 0))))))) then (F_6 x_.Content 0 63).bind fun y43 => some y43 else some false) fun j44 => some j44 else bif decide (x_.Kind = 7) then jn (α := Bool) (bif (decide (x_.Time = x_.Time) && (decide (x_.Kind = x_.Kind) && (decide (x_.Place = x_.Place) && (decide (x_.Principal = 0) && (decide (x_.Until = 0) && (decide (x_.Content = 0) && decide (x_.From = x_.From))))))) then chk (in64 (a_.Places - 1)) ((F_6 x_.From 0 (a_.Places - 1)).bind fun y49 => some y49) else some false) fun j50 => grp ((j50 && (!decide (x_.From = x_.Place)))) fun b51 => some b51 else some false)
@[irreducible] def mg_4r : List MOp := [⟨.fad 3 (.t 3), (some 38), (some (37, true))⟩,
 ⟨.ld none (.t 38), (some 39), (some (37, true))⟩,
 ⟨.call (.f 56) [(.t 39),(.c (.int .i64 0)),(.c (.int .i64 23))] [] [], (some 40), (some (37, true))⟩,
 mo (.pick (.t 37) (.t 40) (.c (.bool false))) 41]
@[irreducible] def mg_4s : List MOp := [⟨.fad 4 (.t 3), (some 51), (some (50, true))⟩,
 ⟨.ld none (.t 51), (some 52), (some (50, true))⟩,
 ⟨.fad 0 (.t 3), (some 53), (some (50, true))⟩,
 ⟨.ld none (.t 53), (some 54), (some (50, true))⟩,
 ⟨.bin false .gtr (.t 52) (.t 54), (some 55), (some (50, true))⟩,
 mo (.pick (.t 50) (.t 55) (.c (.bool false))) 56]
@[irreducible] def mg_4t : List MOp := [⟨.fad 4 (.t 3), (some 58), (some (57, true))⟩,
 ⟨.ld none (.t 58), (some 59), (some (57, true))⟩,
 ⟨.bin false .leq (.t 59) (.c (.int .i64 1099511627776)), (some 60), (some (57, true))⟩,
 mo (.pick (.t 57) (.t 60) (.c (.bool false))) 61]
@[irreducible] def mg_4u : List MOp := [⟨.fad 5 (.t 3), (some 77), (some (76, true))⟩,
 ⟨.ld none (.t 77), (some 78), (some (76, true))⟩,
 ⟨.call (.f 56) [(.t 78),(.c (.int .i64 0)),(.c (.int .i64 63))] [] [], (some 79), (some (76, true))⟩,
 mo (.pick (.t 76) (.t 79) (.c (.bool false))) 80]
@[irreducible] def mg_4v : List MOp := [⟨.fad 6 (.t 3), (some 90), (some (89, true))⟩,
 ⟨.ld none (.t 90), (some 91), (some (89, true))⟩,
 ⟨.fad 0 (.t 2), (some 92), (some (89, true))⟩,
 ⟨.ld none (.t 92), (some 93), (some (89, true))⟩,
 ⟨.bin true .sub (.t 93) (.c (.int .i64 1)), (some 94), (some (89, true))⟩,
 ⟨.call (.f 56) [(.t 91),(.c (.int .i64 0)),(.t 94)] [] [], (some 95), (some (89, true))⟩,
 mo (.pick (.t 89) (.t 95) (.c (.bool false))) 96]
@[irreducible] def mg_4w : List MOp := [⟨.fad 6 (.t 3), (some 98), (some (97, true))⟩,
 ⟨.ld none (.t 98), (some 99), (some (97, true))⟩,
 ⟨.fad 2 (.t 3), (some 100), (some (97, true))⟩,
 ⟨.ld none (.t 100), (some 101), (some (97, true))⟩,
 ⟨.bin false .neq (.t 99) (.t 101), (some 102), (some (97, true))⟩,
 mo (.pick (.t 97) (.t 102) (.c (.bool false))) 103]
@[irreducible] def mc_4x : MC :=
 (.cond (.t 67)
 (.seq (.reg [mo (.fad 5 (.t 3)) 70,
 mo (.ld none (.t 70)) 71,
 mo (.fad 5 (.t 5)) 72,
 ⟨.st 1 (.t 72) (.t 71), none, none⟩])
 (.seq (.regI [.op (mo (.ld (some 7) (.t 3)) 73),
 .op (mo (.ld (some 7) (.t 5)) 74),
 .op (mo (.eqs false [0,0,0,0,0,0,0] (.t 73) (.t 74)) 75),
 .op (mo (.mv (.t 75)) 76),
 .grp mg_4u,
 .op (mo (.mv (.t 80)) 4)])
 .ret))
 (.seq (.reg [mo (.bin false .eql (.t 27) (.c (.int .i64 7))) 82,
 mo (.mv (.t 82)) 81])
 (.cond (.t 81)
 (.seq (.reg [mo (.fad 6 (.t 3)) 83,
 mo (.ld none (.t 83)) 84,
 mo (.fad 6 (.t 5)) 85,
 ⟨.st 1 (.t 85) (.t 84), none, none⟩])
 (.seq (.regI [.op (mo (.ld (some 7) (.t 3)) 86),
 .op (mo (.ld (some 7) (.t 5)) 87),
 .op (mo (.eqs false [0,0,0,0,0,0,0] (.t 86) (.t 87)) 88),
 .op (mo (.mv (.t 88)) 89),
 .grp mg_4v,
 .op (mo (.mv (.t 96)) 97),
 .grp mg_4w,
 .op (mo (.mv (.t 103)) 4)])
 .ret))
 .skip)))
@[irreducible] def mc_4y : MC :=
 (.cond (.t 28)
 (.seq (.reg [mo (.fad 3 (.t 3)) 31,
 mo (.ld none (.t 31)) 32,
 mo (.fad 3 (.t 5)) 33,
 ⟨.st 1 (.t 33) (.t 32), none, none⟩])
 (.seq (.regI [.op (mo (.ld (some 7) (.t 3)) 34),
 .op (mo (.ld (some 7) (.t 5)) 35),
 .op (mo (.eqs false [0,0,0,0,0,0,0] (.t 34) (.t 35)) 36),
 .op (mo (.mv (.t 36)) 37),
 .grp mg_4r,
 .op (mo (.mv (.t 41)) 4)])
 .ret))
 (.seq (.reg [mo (.bin false .eql (.t 27) (.c (.int .i64 3))) 43,
 mo (.mv (.t 43)) 42])
 (.cond (.t 42)
 (.seq (.reg [mo (.fad 4 (.t 3)) 44,
 mo (.ld none (.t 44)) 45,
 mo (.fad 4 (.t 5)) 46,
 ⟨.st 1 (.t 46) (.t 45), none, none⟩])
 (.seq (.note (.gc [3,5,51,52,53,54,55,58,59,60]) (.regI [.op (mo (.ld (some 7) (.t 3)) 47),
 .op (mo (.ld (some 7) (.t 5)) 48),
 .op (mo (.eqs false [0,0,0,0,0,0,0] (.t 47) (.t 48)) 49),
 .op (mo (.mv (.t 49)) 50),
 .grp mg_4s,
 .op (mo (.mv (.t 56)) 57),
 .grp mg_4t,
 .op (mo (.mv (.t 61)) 4)]))
 .ret))
 (.seq (.reg [mo (.bin false .eql (.t 27) (.c (.int .i64 4))) 63,
 mo (.mv (.t 63)) 62])
 (.cond (.t 62)
 (.seq (.reg [mo (.ld (some 7) (.t 3)) 64,
 mo (.ld (some 7) (.t 5)) 65,
 mo (.eqs false [0,0,0,0,0,0,0] (.t 64) (.t 65)) 66,
 mo (.mv (.t 66)) 4])
 .ret)
 (.cut (.seq (.reg [mo (.bin false .eql (.t 27) (.c (.int .i64 5))) 68,
 mo (.mv (.t 68)) 67])
 (.cond (.t 67)
 .skip
 (.reg [mo (.bin false .eql (.t 27) (.c (.int .i64 6))) 69,
 mo (.mv (.t 69)) 67])))
 mc_4x))))))
def mc_1l : MC :=
 (.seq (.reg [mo (.box (.t 0)) 2,
 mo (.box (.t 1)) 3,
 mo (.mv (.c (.bool false))) 4])
 (.seq (.seq (.reg [mo (.fad 0 (.t 3)) 6,
 mo (.ld none (.t 6)) 7,
 mo (.call (.f 56) [(.t 7),(.c (.int .i64 0)),(.c (.int .i64 1099511627776))] [] []) 8,
 mo (.not (.t 8)) 9,
 mo (.mv (.t 9)) 10,
 ⟨.fad 2 (.t 3), (some 11), (some (10, false))⟩,
 ⟨.ld none (.t 11), (some 12), (some (10, false))⟩,
 ⟨.fad 0 (.t 2), (some 13), (some (10, false))⟩,
 ⟨.ld none (.t 13), (some 14), (some (10, false))⟩,
 ⟨.bin true .sub (.t 14) (.c (.int .i64 1)), (some 15), (some (10, false))⟩,
 ⟨.call (.f 56) [(.t 12),(.c (.int .i64 0)),(.t 15)] [] [], (some 16), (some (10, false))⟩,
 ⟨.not (.t 16), (some 17), (some (10, false))⟩,
 mo (.pick (.t 10) (.c (.bool true)) (.t 17)) 18])
 (.cond (.t 18)
 (.seq (.reg [mo (.mv (.c (.bool false))) 4])
 .ret)
 .skip))
 (.seq (.note (.gc [2,3,38,39,40,51,52,53,54,55,58,59,60,77,78,79,90,91,92,93,94,95,98,99,100,101,102]) (.reg [mo (.fad 0 (.t 3)) 19,
 mo (.ld none (.t 19)) 20,
 mo (.fad 1 (.t 3)) 21,
 mo (.ld none (.t 21)) 22,
 mo (.fad 2 (.t 3)) 23,
 mo (.ld none (.t 23)) 24,
 mo (.build [(.int .i64 0),(.int .i64 0),(.int .i64 0),(.int .i64 0),(.int .i64 0),(.int .i64 0),(.int .i64 0)] [(0,1,(.t 20)), (1,1,(.t 22)), (2,1,(.t 24))]) 25,
 mo (.alloc [(.int .i64 0),(.int .i64 0),(.int .i64 0),(.int .i64 0),(.int .i64 0),(.int .i64 0),(.int .i64 0)]) 5,
 ⟨.st 7 (.t 5) (.t 25), none, none⟩]))
 (.seq (.seq (.reg [mo (.fad 1 (.t 3)) 26,
 mo (.ld none (.t 26)) 27])
 (.block 0
 (.cut (.seq (.reg [mo (.bin false .eql (.t 27) (.c (.int .i64 1))) 29,
 mo (.mv (.t 29)) 28])
 (.cond (.t 28)
 .skip
 (.reg [mo (.bin false .eql (.t 27) (.c (.int .i64 2))) 30,
 mo (.mv (.t 30)) 28])))
 mc_4y)))
 (.seq (.reg [mo (.mv (.c (.bool false))) 4])
 .ret)))))
theorem Wq_1l (a_ : GEstate) (x_ : GAccess) {Q : Bool → Prop} {Q' : V → Heap → Prop} (h : Ok (F_1l a_ x_) Q) (hQ : ∀ z, Q z → Q' (.bool z) []) : ACall Tryz.prog 62 [GEstate.v a_, GAccess.v x_] [] Q' := by
 refine acallM mc_1l [] [] [.t 4] Tryz.func62 fun M => ?_
 unfold F_1l at h
 unfold mc_1l
 replace h := tY h
 refine tB ?_
 repeat' (first
 | (exact tZ)
 | ((first | refine oblg h ?_ | refine roomG h ?_ | refine fork h ?_ ?_ | refine forkS h ?_ ?_) <;> clear h <;> intro hc h)
 | (obtain ⟨y, hy, h⟩ := h; have hw := W_6 hy; replace hw := tY hw; (first | refine M.sC hw ?_ | refine M.sD hw ?_); clear hw hy; refine tB ?_)
 | (refine M.gj1 (ms := mg_4r) [] [] (fun y => [(41, .bool y)]) (fun y => []) h ?_ ?_ <;> first
 | (clear h; intro Qn K hK1 h; unfold mg_4r; replace h := tY h; refine tB ?_)
  |(clear h; intro y h; replace h := tY h; refine tB ?_))
 | (refine M.gv1 (ms := mg_4t) 61 [58,59,60] h ?_ ?_ <;> first
 | (clear h; intro K hK2; unfold mg_4t; refine tB ?_)
 | (clear h; intro b h; replace h := tY h; refine tB ?_))
 | (refine M.gv1 (ms := mg_4s) 56 [51,52,53,54,55] h ?_ ?_ <;> first
 | (clear h; intro K hK3; unfold mg_4s; refine tB ?_)
 | (clear h; intro b h; replace h := tY h; refine tB ?_))
 | (refine M.gj1 (ms := mg_4u) [] [] (fun y => [(80, .bool y)]) (fun y => []) h ?_ ?_ <;> first
 | (clear h; intro Qn K hK4 h; unfold mg_4u; replace h := tY h; refine tB ?_)
  |(clear h; intro y h; replace h := tY h; refine tB ?_))
 | (refine M.gv1 (ms := mg_4w) 103 [98,99,100,101,102] h ?_ ?_ <;> first
 | (clear h; intro K hK5; unfold mg_4w; refine tB ?_)
 | (clear h; intro b h; replace h := tY h; refine tB ?_))
 | (refine M.gj1 (ms := mg_4v) [3] [3] (fun y => [(96, .bool y)]) (fun y => []) h ?_ ?_ <;> first
 | (clear h; intro Qn K hK6 h; unfold mg_4v; replace h := tY h; refine tB ?_)
  |(clear h; intro y h; replace h := tY h; refine tB ?_))
 | (refine M.jn1 (b := mc_4x) [2,3,5,27] [5,3,2] (fun y => [(67, .bool y)]) (fun y => []) [] h ?_ ?_ <;> first
 | (clear h; intro Qn K hK7 h; replace h := tY h; refine tB ?_)
  |(clear h; intro y h; unfold mc_4x; replace h := tY h; refine tB ?_))
 | (refine M.jn1 (b := mc_4y) [2,3,5,27] [5,3,2] (fun y => [(28, .bool y)]) (fun y => []) [] h ?_ ?_ <;> first
 | (clear h; intro Qn K hK8 h; replace h := tY h; refine tB ?_)
  |(clear h; intro y h; unfold mc_4y; replace h := tY h; refine tB ?_))
 | ((first | refine hK1 _ ?_ | refine hK4 _ ?_ | refine hK6 _ ?_ | refine hK7 _ ?_ | refine hK8 _ ?_); (try refine tB ?_); refine ⟨_, h, ?_⟩; exact tU0; done)
 | ((first | refine hK2 _ ?_ | refine hK3 _ ?_ | refine hK5 _ ?_); exact tU; done)
 | (refine bfork (fun hc => ?_) (fun hc => ?_))
 | (refine tE ?_; (first | rw [M.lok_compU] | rw [M.lokD_compU]); refine tB ?_)
 | (refine tA ?_))
def W_1l {a_ x_ y} (hy : (F_1l a_ x_) = some y) := acW (Wq_1l a_ x_) hy
def F_2s (a_ : GEstate) (k39 : Int) (a40 : GAccess) (x38 : Unit) : Option (Fl Unit Bool) :=
 (F_1l a_ a40).bind fun y48 => bif (!y48) then some (.ex false) else bif decide (0 < k39) then chk (in64 (k39 - 1)) (chk (inb (k39 - 1) a_.Events.length) (bif decide (a40.Time < (a_.Events.getD ((k39 - 1)).toNat default).Time) then some (.ex false) else some (.nx ()))) else some (.nx ())
def F_17 (a_ : GEstate) : Option Bool :=
 (F_6 a_.Places 1 16).bind fun y7 => grp (((!y7) || decide (120 < (a_.Events.length : Int)))) fun b8 => bif b8 then some false else (forL (F_2s a_) a_.Events 0 ()).bind fun o => o.elim (fun x49 => some true) (fun r50 => some r50)
@[irreducible] def mg_4z : List MOp := [⟨.fad 1 (.t 1), (some 10), (some (9, false))⟩,
 ⟨.ld none (.t 10), (some 11), (some (9, false))⟩,
 ⟨.len false (.t 11), (some 12), (some (9, false))⟩,
 ⟨.bin false .gtr (.t 12) (.c (.int .i64 120)), (some 13), (some (9, false))⟩,
 mo (.pick (.t 9) (.c (.bool true)) (.t 13)) 14]
@[irreducible] def mc_2s : MC :=
 (.seq (.reg [mo (.bin false .lss (.t 18) (.t 17)) 19])
 (.seq (.cond (.t 19)
 .skip
 (.exit 0))
 (.seq (.block 1
 (.seq (.reg [mo (.mv (.t 18)) 20,
 mo (.iad 7 (.t 16) (.t 18)) 21,
 mo (.ld (some 7) (.t 21)) 22,
 mo (.alloc [(.int .i64 0),(.int .i64 0),(.int .i64 0),(.int .i64 0),(.int .i64 0),(.int .i64 0),(.int .i64 0)]) 4,
 mo (.mv (.t 20)) 3,
 ⟨.st 7 (.t 4) (.t 22), none, none⟩])
 (.seq (.regD [mo (.ld (some 2) (.t 1)) 23,
 mo (.ld (some 7) (.t 4)) 24,
 mo (.call (.f 62) [(.t 23),(.t 24)] [] []) 25,
 mo (.not (.t 25)) 26,
 mo (.mv (.t 26)) 27,
 ⟨.mv (.t 3), (some 28), (some (27, false))⟩,
 ⟨.bin false .gtr (.t 28) (.c (.int .i64 0)), (some 29), (some (27, false))⟩,
 ⟨.mv (.t 29), (some 30), (some (27, false))⟩,
 ⟨.fad 0 (.t 4), (some 31), (some (30, true))⟩,
 ⟨.ld none (.t 31), (some 32), (some (30, true))⟩,
 ⟨.fad 1 (.t 1), (some 33), (some (30, true))⟩,
 ⟨.ld none (.t 33), (some 34), (some (30, true))⟩,
 ⟨.mv (.t 3), (some 35), (some (30, true))⟩,
 ⟨.bin true .sub (.t 35) (.c (.int .i64 1)), (some 36), (some (30, true))⟩,
 ⟨.iad 7 (.t 34) (.t 36), (some 37), (some (30, true))⟩,
 ⟨.fad 0 (.t 37), (some 38), (some (30, true))⟩,
 ⟨.ld none (.t 38), (some 39), (some (30, true))⟩,
 ⟨.bin false .lss (.t 32) (.t 39), (some 40), (some (30, true))⟩,
 ⟨.pick (.t 30) (.t 40) (.c (.bool false)), (some 41), (some (27, false))⟩,
 mo (.pick (.t 27) (.c (.bool true)) (.t 41)) 42]
 [[],[],[0,1],[2],[3,2],[4],[5,4],[6,4,4],[7],[8,7],[7],[10,7],[7],[12,7],[11,13,7],[14,7],[15,7],[9,16,7],[7,17,4],[4,18]]
 [[],[],[0,1],[0,1,2],[0,1,2,3],[0,1,2,3,4],[0,1,2,3,4,5],[0,1,2,3,4,5,6],[0,1,2,3,4,5,6,7],[0,1,2,3,4,5,6,7,8],[0,1,2,3,4,5,6,7],[0,1,2,3,4,5,6,7,10],[0,1,2,3,4,5,6,7],[0,1,2,3,4,5,6,7,12],[0,1,2,3,4,5,6,7,10,11,12,13],[0,1,2,3,4,5,6,7,10,11,12,13,14],[0,1,2,3,4,5,6,7,10,11,12,13,14,15],[0,1,2,3,4,5,6,7,8,9,10,11,12,13,14,15,16],[0,1,2,3,4,5,6,7,8,9,10,11,12,13,14,15,16,17],[0,1,2,3,4,5,6,7,8,9,10,11,12,13,14,15,16,17,18]])
 (.cond (.t 42)
 (.seq (.reg [mo (.mv (.c (.bool false))) 2])
 .ret)
 .skip))))
 (.reg [mo (.bin true .add (.t 18) (.c (.int .i64 1))) 43,
 mo (.mv (.t 43)) 18]))))
def mc_17 : MC :=
 (.seq (.reg [mo (.box (.t 0)) 1,
 mo (.mv (.c (.bool false))) 2])
 (.seq (.seq (.regI [.op (mo (.fad 0 (.t 1)) 5),
 .op (mo (.ld none (.t 5)) 6),
 .op (mo (.call (.f 56) [(.t 6),(.c (.int .i64 1)),(.c (.int .i64 16))] [] []) 7),
 .op (mo (.not (.t 7)) 8),
 .op (mo (.mv (.t 8)) 9),
 .grp mg_4z])
 (.cond (.t 14)
 (.seq (.reg [mo (.mv (.c (.bool false))) 2])
 .ret)
 .skip))
 (.seq (.seq (.note (.gc [1,28,29,30,31,32,33,34,35,36,37,38,39,40,41]) (.reg [mo (.fad 1 (.t 1)) 15,
 mo (.ld none (.t 15)) 16,
 mo (.len false (.t 16)) 17,
 mo (.mv (.c (.int .i64 0))) 18]))
 (.block 0
 (.loop mc_2s)))
 (.seq (.reg [mo (.mv (.c (.bool true))) 2])
 .ret))))
theorem Wq_17 (a_ : GEstate) {Q : Bool → Prop} {Q' : V → Heap → Prop} (h : Ok (F_17 a_) Q) (hQ : ∀ z, Q z → Q' (.bool z) []) : ACall Tryz.prog 33 [GEstate.v a_] [] Q' := by
 refine acallM mc_17 [] [] [.t 2] Tryz.func33 fun M => ?_
 unfold F_17 at h
 unfold mc_17
 replace h := tY h
 refine tB ?_
 repeat' (first
 | (exact tZ)
 | ((first | refine oblg h ?_ | refine roomG h ?_ | refine fork h ?_ ?_ | refine forkS h ?_ ?_) <;> clear h <;> intro hc h)
 | (obtain ⟨y, hy, h⟩ := h; (first | with_reducible first | have hw := W_6 hy | have hw := W_1l hy); replace hw := tY hw; (first | refine M.sC hw ?_ | refine M.sD hw ?_); clear hw hy; refine tB ?_)
 | (refine M.for1 (b := mc_2s) 18 [1,16,17] [1] (fun x => []) (fun x => []) [] h ?_ ?_ ?_ <;> first
 | (clear h; intro k a x Qn K hK1 hkN1 ha1 h hf; have hl := fact_int (factsE_find (n := 17) hf.1 rfl); clear hf; have hkd := kD hkN1; have hkB1 := kB hkN1; have hkI1 := kI (k := k) (by omega); unfold F_2s at h; unfold mc_2s; replace h := tY h; refine tK ha1 hkd hkN1 hkB1 hkI1 ?_)
  |(clear h; intro x K h; replace h := And.left (And.intro h trivial); unfold mc_2s; replace h := tY h; refine tB ?_)
  |(clear h; (try refine tB ?_); exact tU0; done))
 | (refine M.gv1 (ms := mg_4z) 14 [10,11,12,13] h ?_ ?_ <;> first
 | (clear h; intro K hK2; unfold mg_4z; refine tB ?_)
 | (clear h; intro b h; replace h := tY h; refine tB ?_))
 | (simp only [ha1])
 | (refine hK1 _ ?_; (try refine tB ?_); refine ⟨_, h, ?_⟩; exact tU0; done)
 | (refine hK2 _ ?_; exact tU; done)
 | (refine bfork (fun hc => ?_) (fun hc => ?_))
 | (refine tE ?_; (first | rw [M.lok_compU] | rw [M.lokD_compU]); refine tB ?_)
 | (refine tA ?_))
def W_17 {a_ y} (hy : (F_17 a_) = some y) := acW (Wq_17 a_) hy
def F_3 (a_ : GEstate) (place_ : Int) : Option Bool :=
 (F_17 a_).bind fun y4 => jn (α := Bool) (bif y4 then chk (in64 (a_.Places - 1)) ((F_6 place_ 0 (a_.Places - 1)).bind fun y6 => some y6) else some false) fun j7 => some j7
@[irreducible] def mg_50 : List MOp := [⟨.mv (.t 1), (some 8), (some (7, true))⟩,
 ⟨.fad 0 (.t 2), (some 9), (some (7, true))⟩,
 ⟨.ld none (.t 9), (some 10), (some (7, true))⟩,
 ⟨.bin true .sub (.t 10) (.c (.int .i64 1)), (some 11), (some (7, true))⟩,
 ⟨.call (.f 56) [(.t 8),(.c (.int .i64 0)),(.t 11)] [] [], (some 12), (some (7, true))⟩,
 mo (.pick (.t 7) (.t 12) (.c (.bool false))) 13]
def mc_3 : MC :=
 (.seq (.reg [mo (.box (.t 0)) 2,
 mo (.mv (.c (.bool false))) 4])
 (.seq (.regI [.op (mo (.ld (some 2) (.t 2)) 5),
 .op (mo (.call (.f 33) [(.t 5)] [] []) 6),
 .op (mo (.mv (.t 6)) 7),
 .grp mg_50,
 .op (mo (.mv (.t 13)) 4)])
 .ret))
theorem Wq_3 (a_ : GEstate) (place_ : Int) {Q : Bool → Prop} {Q' : V → Heap → Prop} (h : Ok (F_3 a_ place_) Q) (hQ : ∀ z, Q z → Q' (.bool z) []) : ACall Tryz.prog 27 [GEstate.v a_, .int .i64 place_] [] Q' := by
 refine acallM mc_3 [] [] [.t 4] Tryz.func27 fun M => ?_
 unfold F_3 at h
 unfold mc_3
 replace h := tY h
 refine tB ?_
 repeat' (first
 | (exact tZ)
 | ((first | refine oblg h ?_ | refine roomG h ?_ | refine fork h ?_ ?_ | refine forkS h ?_ ?_) <;> clear h <;> intro hc h)
 | (obtain ⟨y, hy, h⟩ := h; (first | with_reducible first | have hw := W_17 hy | have hw := W_6 hy); replace hw := tY hw; (first | refine M.sC hw ?_ | refine M.sD hw ?_); clear hw hy; refine tB ?_)
 | (refine M.gj1 (ms := mg_50) [4] [] (fun y => [(13, .bool y)]) (fun y => []) h ?_ ?_ <;> first
 | (clear h; intro Qn K hK1 h; unfold mg_50; replace h := tY h; refine tB ?_)
  |(clear h; intro y h; replace h := tY h; refine tB ?_))
 | (refine hK1 _ ?_; (try refine tB ?_); refine ⟨_, h, ?_⟩; exact tU0; done)
 | (refine tE ?_; (first | rw [M.lok_compU] | rw [M.lokD_compU]); refine tB ?_)
 | (refine tA ?_))
def W_3 {a_ place_ y} (hy : (F_3 a_ place_) = some y) := acW (Wq_3 a_ place_) hy
def F_s (d_ : GDirectory) (p_ : Int) : Option Bool :=
 (F_4 d_ p_).bind fun y3 => jn (α := Bool) (bif y3 then chk (inb p_ d_.Kinds.length) (some (!decide ((d_.Kinds.getD (p_).toNat default) = 2))) else some false) fun j4 => some j4
@[irreducible] def mg_51 : List MOp := [⟨.fad 0 (.t 2), (some 9), (some (8, true))⟩,
 ⟨.ld none (.t 9), (some 10), (some (8, true))⟩,
 ⟨.mv (.t 1), (some 11), (some (8, true))⟩,
 ⟨.iad 1 (.t 10) (.t 11), (some 12), (some (8, true))⟩,
 ⟨.ld none (.t 12), (some 13), (some (8, true))⟩,
 ⟨.bin false .neq (.t 13) (.c (.int .i64 2)), (some 14), (some (8, true))⟩,
 mo (.pick (.t 8) (.t 14) (.c (.bool false))) 15]
def mc_s : MC :=
 (.seq (.reg [mo (.box (.t 0)) 2,
 mo (.mv (.c (.bool false))) 4])
 (.seq (.regI [.op (mo (.ld (some 2) (.t 2)) 5),
 .op (mo (.mv (.t 1)) 6),
 .op (mo (.call (.f 44) [(.t 5),(.t 6)] [] []) 7),
 .op (mo (.mv (.t 7)) 8),
 .grp mg_51,
 .op (mo (.mv (.t 15)) 4)])
 .ret))
theorem Wq_s (d_ : GDirectory) (p_ : Int) {Q : Bool → Prop} {Q' : V → Heap → Prop} (h : Ok (F_s d_ p_) Q) (hQ : ∀ z, Q z → Q' (.bool z) []) : ACall Tryz.prog 22 [GDirectory.v d_, .int .i64 p_] [] Q' := by
 refine acallM mc_s [] [] [.t 4] Tryz.func22 fun M => ?_
 unfold F_s at h
 unfold mc_s
 replace h := tY h
 refine tB ?_
 repeat' (first
 | (exact tZ)
 | ((first | refine oblg h ?_ | refine roomG h ?_ | refine fork h ?_ ?_ | refine forkS h ?_ ?_) <;> clear h <;> intro hc h)
 | (obtain ⟨y, hy, h⟩ := h; have hw := W_4 hy; replace hw := tY hw; (first | refine M.sC hw ?_ | refine M.sD hw ?_); clear hw hy; refine tB ?_)
 | (refine M.gj1 (ms := mg_51) [4] [] (fun y => [(15, .bool y)]) (fun y => []) h ?_ ?_ <;> first
 | (clear h; intro Qn K hK1 h; unfold mg_51; replace h := tY h; refine tB ?_)
  |(clear h; intro y h; replace h := tY h; refine tB ?_))
 | (refine hK1 _ ?_; (try refine tB ?_); refine ⟨_, h, ?_⟩; exact tU0; done)
 | (refine tE ?_; (first | rw [M.lok_compU] | rw [M.lokD_compU]); refine tB ?_)
 | (refine tA ?_))
def W_s {d_ p_ y} (hy : (F_s d_ p_) = some y) := acW (Wq_s d_ p_) hy
def F_2x (place_ : Int) (t_ : Int) (k71 : Int) (a72 : GAccess) (x70 : Unit) : Option (Fl Unit Bool) :=
 grp ((decide (a72.Kind = 4) && decide (a72.Place = place_))) fun b87 => grp ((b87 && decide (a72.Time ≤ t_))) fun b88 => bif b88 then some (.ex false) else some (.nx ())
def F_j (a_ : GEstate) (place_ : Int) (link_ : Int) (t_ : Int) : Option Bool :=
 (F_3 a_ place_).bind fun y7 => bif (!y7) then some false else chk (in64 ((a_.Events.length : Int) - 1)) ((F_6 link_ 0 ((a_.Events.length : Int) - 1)).bind fun y8 => bif (!y8) then some false else chk (inb link_ a_.Events.length) (grp (((!decide ((a_.Events.getD (link_).toNat default).Kind = 3)) || (!decide ((a_.Events.getD (link_).toNat default).Place = place_)))) fun b18 => grp ((b18 || decide (t_ < (a_.Events.getD (link_).toNat default).Time))) fun b19 => grp ((b19 || decide ((a_.Events.getD (link_).toNat default).Until ≤ t_))) fun b20 => bif b20 then some false else chk (in64 (link_ + 1)) (chk (inc (link_ + 1) (a_.Events.length : Int) a_.Events.length) ((forL (F_2x place_ t_) (a_.Events.drop (((link_ + 1)).toNat)) 0 ()).bind fun o => o.elim (fun x89 => some true) (fun r90 => some r90)))))
@[irreducible] def mg_52 : List MOp := [⟨.fad 2 (.t 9), (some 34), (some (33, false))⟩,
 ⟨.ld none (.t 34), (some 35), (some (33, false))⟩,
 ⟨.mv (.t 1), (some 36), (some (33, false))⟩,
 ⟨.bin false .neq (.t 35) (.t 36), (some 37), (some (33, false))⟩,
 mo (.pick (.t 33) (.c (.bool true)) (.t 37)) 38]
@[irreducible] def mg_53 : List MOp := [⟨.fad 0 (.t 9), (some 40), (some (39, false))⟩,
 ⟨.ld none (.t 40), (some 41), (some (39, false))⟩,
 ⟨.mv (.t 3), (some 42), (some (39, false))⟩,
 ⟨.bin false .gtr (.t 41) (.t 42), (some 43), (some (39, false))⟩,
 mo (.pick (.t 39) (.c (.bool true)) (.t 43)) 44]
@[irreducible] def mg_54 : List MOp := [⟨.fad 4 (.t 9), (some 46), (some (45, false))⟩,
 ⟨.ld none (.t 46), (some 47), (some (45, false))⟩,
 ⟨.mv (.t 3), (some 48), (some (45, false))⟩,
 ⟨.bin false .leq (.t 47) (.t 48), (some 49), (some (45, false))⟩,
 mo (.pick (.t 45) (.c (.bool true)) (.t 49)) 50]
@[irreducible] def mg_55 : List MOp := [⟨.fad 2 (.t 11), (some 65), (some (64, true))⟩,
 ⟨.ld none (.t 65), (some 66), (some (64, true))⟩,
 ⟨.mv (.t 1), (some 67), (some (64, true))⟩,
 ⟨.bin false .eql (.t 66) (.t 67), (some 68), (some (64, true))⟩,
 mo (.pick (.t 64) (.t 68) (.c (.bool false))) 69]
@[irreducible] def mg_56 : List MOp := [⟨.fad 0 (.t 11), (some 71), (some (70, true))⟩,
 ⟨.ld none (.t 71), (some 72), (some (70, true))⟩,
 ⟨.mv (.t 3), (some 73), (some (70, true))⟩,
 ⟨.bin false .leq (.t 72) (.t 73), (some 74), (some (70, true))⟩,
 mo (.pick (.t 70) (.t 74) (.c (.bool false))) 75]
@[irreducible] def mc_2x : MC :=
 (.seq (.reg [mo (.bin false .lss (.t 57) (.t 56)) 58])
 (.seq (.cond (.t 58)
 .skip
 (.exit 0))
 (.seq (.block 1
 (.seq (.reg [mo (.iad 7 (.t 55) (.t 57)) 59,
 mo (.ld (some 7) (.t 59)) 60,
 mo (.alloc [(.int .i64 0),(.int .i64 0),(.int .i64 0),(.int .i64 0),(.int .i64 0),(.int .i64 0),(.int .i64 0)]) 11,
 ⟨.st 7 (.t 11) (.t 60), none, none⟩])
 (.seq (.regI [.op (mo (.fad 1 (.t 11)) 61),
 .op (mo (.ld none (.t 61)) 62),
 .op (mo (.bin false .eql (.t 62) (.c (.int .i64 4))) 63),
 .op (mo (.mv (.t 63)) 64),
 .grp mg_55,
 .op (mo (.mv (.t 69)) 70),
 .grp mg_56])
 (.cond (.t 75)
 (.seq (.reg [mo (.mv (.c (.bool false))) 8])
 .ret)
 .skip))))
 (.reg [mo (.bin true .add (.t 57) (.c (.int .i64 1))) 76,
 mo (.mv (.t 76)) 57]))))
def mc_j : MC :=
 (.seq (.reg [mo (.box (.t 0)) 4,
 mo (.mv (.c (.bool false))) 8])
 (.seq (.seq (.reg [mo (.ld (some 2) (.t 4)) 12,
 mo (.mv (.t 1)) 13,
 mo (.call (.f 27) [(.t 12),(.t 13)] [] []) 14,
 mo (.not (.t 14)) 15,
 mo (.mv (.t 15)) 16,
 ⟨.mv (.t 2), (some 17), (some (16, false))⟩,
 ⟨.fad 1 (.t 4), (some 18), (some (16, false))⟩,
 ⟨.ld none (.t 18), (some 19), (some (16, false))⟩,
 ⟨.len false (.t 19), (some 20), (some (16, false))⟩,
 ⟨.bin true .sub (.t 20) (.c (.int .i64 1)), (some 21), (some (16, false))⟩,
 ⟨.call (.f 56) [(.t 17),(.c (.int .i64 0)),(.t 21)] [] [], (some 22), (some (16, false))⟩,
 ⟨.not (.t 22), (some 23), (some (16, false))⟩,
 mo (.pick (.t 16) (.c (.bool true)) (.t 23)) 24])
 (.cond (.t 24)
 (.seq (.reg [mo (.mv (.c (.bool false))) 8])
 .ret)
 .skip))
 (.seq (.note (.gc [1,2,3,4,34,35,36,37,40,41,42,43,46,47,48,49,65,66,67,68,71,72,73,74]) (.reg [mo (.fad 1 (.t 4)) 25,
 mo (.ld none (.t 25)) 26,
 mo (.mv (.t 2)) 27,
 mo (.iad 7 (.t 26) (.t 27)) 28,
 mo (.ld (some 7) (.t 28)) 29,
 mo (.alloc [(.int .i64 0),(.int .i64 0),(.int .i64 0),(.int .i64 0),(.int .i64 0),(.int .i64 0),(.int .i64 0)]) 9,
 ⟨.st 7 (.t 9) (.t 29), none, none⟩]))
 (.seq (.seq (.regI [.op (mo (.fad 1 (.t 9)) 30),
 .op (mo (.ld none (.t 30)) 31),
 .op (mo (.bin false .neq (.t 31) (.c (.int .i64 3))) 32),
 .op (mo (.mv (.t 32)) 33),
 .grp mg_52,
 .op (mo (.mv (.t 38)) 39),
 .grp mg_53,
 .op (mo (.mv (.t 44)) 45),
 .grp mg_54])
 (.cond (.t 50)
 (.seq (.reg [mo (.mv (.c (.bool false))) 8])
 .ret)
 .skip))
 (.seq (.seq (.note (.gc [1,2,3,4,65,66,67,68,71,72,73,74]) (.reg [mo (.fad 1 (.t 4)) 51,
 mo (.ld none (.t 51)) 52,
 mo (.mv (.t 2)) 53,
 mo (.bin true .add (.t 53) (.c (.int .i64 1))) 54,
 mo (.slc 7 (.t 52) (some (.t 54)) none) 55,
 mo (.len false (.t 55)) 56,
 mo (.mv (.c (.int .i64 0))) 57]))
 (.block 0
 (.loop mc_2x)))
 (.seq (.reg [mo (.mv (.c (.bool true))) 8])
 .ret))))))
theorem Wq_j (a_ : GEstate) (place_ : Int) (link_ : Int) (t_ : Int) {Q : Bool → Prop} {Q' : V → Heap → Prop} (h : Ok (F_j a_ place_ link_ t_) Q) (hQ : ∀ z, Q z → Q' (.bool z) []) : ACall Tryz.prog 38 [GEstate.v a_, .int .i64 place_, .int .i64 link_, .int .i64 t_] [] Q' := by
 refine acallM mc_j [] [] [.t 8] Tryz.func38 fun M => ?_
 unfold F_j at h
 unfold mc_j
 replace h := tY h
 refine tB ?_
 repeat' (first
 | (exact tZ)
 | ((first | refine oblg h ?_ | refine roomG h ?_ | refine fork h ?_ ?_ | refine forkS h ?_ ?_) <;> clear h <;> intro hc h)
 | (obtain ⟨y, hy, h⟩ := h; (first | with_reducible first | have hw := W_3 hy | have hw := W_6 hy); replace hw := tY hw; (first | refine M.sC hw ?_ | refine M.sD hw ?_); clear hw hy; refine tB ?_)
 | (refine M.gv1 (ms := mg_56) 75 [71,72,73,74] h ?_ ?_ <;> first
 | (clear h; intro K hK1; unfold mg_56; refine tB ?_)
 | (clear h; intro b h; replace h := tY h; refine tB ?_))
 | (refine M.gv1 (ms := mg_55) 69 [65,66,67,68] h ?_ ?_ <;> first
 | (clear h; intro K hK2; unfold mg_55; refine tB ?_)
 | (clear h; intro b h; replace h := tY h; refine tB ?_))
 | (refine M.for1 (b := mc_2x) 57 [1,3,55,56] [] (fun x => []) (fun x => []) [] h ?_ ?_ ?_ <;> first
 | (clear h; intro k a x Qn K hK3 hkN3 ha3 h hf; have hl := fact_int (factsE_find (n := 56) hf.1 rfl); clear hf; have hkd := kD hkN3; have hkB3 := kB hkN3; have hkI3 := kI (k := k) (by omega); unfold F_2x at h; unfold mc_2x; replace h := tY h; refine tK ha3 hkd hkN3 hkB3 hkI3 ?_)
  |(clear h; intro x K h; replace h := And.left (And.intro h trivial); unfold mc_2x; replace h := tY h; refine tB ?_)
  |(clear h; (try refine tB ?_); exact tU0; done))
 | (refine M.gv1 (ms := mg_54) 50 [46,47,48,49] h ?_ ?_ <;> first
 | (clear h; intro K hK4; unfold mg_54; refine tB ?_)
 | (clear h; intro b h; replace h := tY h; refine tB ?_))
 | (refine M.gv1 (ms := mg_53) 44 [40,41,42,43] h ?_ ?_ <;> first
 | (clear h; intro K hK5; unfold mg_53; refine tB ?_)
 | (clear h; intro b h; replace h := tY h; refine tB ?_))
 | (refine M.gv1 (ms := mg_52) 38 [34,35,36,37] h ?_ ?_ <;> first
 | (clear h; intro K hK6; unfold mg_52; refine tB ?_)
 | (clear h; intro b h; replace h := tY h; refine tB ?_))
 | (simp only [ha3])
 | ((first | refine hK1 _ ?_ | refine hK2 _ ?_ | refine hK4 _ ?_ | refine hK5 _ ?_ | refine hK6 _ ?_); exact tU; done)
 | (refine hK3 _ ?_; (try refine tB ?_); refine ⟨_, h, ?_⟩; exact tU0; done)
 | (refine bfork (fun hc => ?_) (fun hc => ?_))
 | (refine tE ?_; (first | rw [M.lok_compU] | rw [M.lokD_compU]); refine tB ?_)
 | (refine tA ?_))
def W_j {a_ place_ link_ t_ y} (hy : (F_j a_ place_ link_ t_) = some y) := acW (Wq_j a_ place_ link_ t_) hy
def F_2t (place_ : Int) (principal_ : Int) (t_ : Int) (k128 : Int) (a129 : GAccess) (x127 : Int) : Option Int :=
 grp ((decide (t_ < a129.Time) || (!decide (a129.Place = place_)))) fun b160 => grp ((b160 || (!decide (a129.Principal = principal_)))) fun b161 => bif b161 then some x127 else bif decide (a129.Kind = 1) then some k128 else bif decide (a129.Kind = 2) then some (-1) else some x127
def F_18 (a_ : GEstate) (place_ : Int) (principal_ : Int) (t_ : Int) : Option Int :=
 (foldL (F_2t place_ principal_ t_) a_.Events 0 (-1)).bind fun x162 => some x162
@[irreducible] def mg_57 : List MOp := [⟨.fad 2 (.t 11), (some 25), (some (24, false))⟩,
 ⟨.ld none (.t 25), (some 26), (some (24, false))⟩,
 ⟨.mv (.t 1), (some 27), (some (24, false))⟩,
 ⟨.bin false .neq (.t 26) (.t 27), (some 28), (some (24, false))⟩,
 mo (.pick (.t 24) (.c (.bool true)) (.t 28)) 29]
@[irreducible] def mg_58 : List MOp := [⟨.fad 3 (.t 11), (some 31), (some (30, false))⟩,
 ⟨.ld none (.t 31), (some 32), (some (30, false))⟩,
 ⟨.mv (.t 2), (some 33), (some (30, false))⟩,
 ⟨.bin false .neq (.t 32) (.t 33), (some 34), (some (30, false))⟩,
 mo (.pick (.t 30) (.c (.bool true)) (.t 34)) 35]
@[irreducible] def mc_2t : MC :=
 (.seq (.reg [mo (.bin false .lss (.t 15) (.t 14)) 16])
 (.seq (.cond (.t 16)
 .skip
 (.exit 0))
 (.seq (.block 1
 (.seq (.reg [mo (.mv (.t 15)) 17,
 mo (.iad 7 (.t 13) (.t 15)) 18,
 mo (.ld (some 7) (.t 18)) 19,
 mo (.alloc [(.int .i64 0),(.int .i64 0),(.int .i64 0),(.int .i64 0),(.int .i64 0),(.int .i64 0),(.int .i64 0)]) 11,
 mo (.mv (.t 17)) 10,
 ⟨.st 7 (.t 11) (.t 19), none, none⟩])
 (.seq (.seq (.regI [.op (mo (.fad 0 (.t 11)) 20),
 .op (mo (.ld none (.t 20)) 21),
 .op (mo (.mv (.t 3)) 22),
 .op (mo (.bin false .gtr (.t 21) (.t 22)) 23),
 .op (mo (.mv (.t 23)) 24),
 .grp mg_57,
 .op (mo (.mv (.t 29)) 30),
 .grp mg_58])
 (.cond (.t 35)
 (.exit 1)
 .skip))
 (.seq (.reg [mo (.fad 1 (.t 11)) 36,
 mo (.ld none (.t 36)) 37])
 (.block 2
 (.seq (.reg [mo (.bin false .eql (.t 37) (.c (.int .i64 1))) 39,
 mo (.mv (.t 39)) 38])
 (.cond (.t 38)
 (.reg [mo (.mv (.t 10)) 40,
 mo (.mv (.t 40)) 9])
 (.seq (.reg [mo (.bin false .eql (.t 37) (.c (.int .i64 2))) 42,
 mo (.mv (.t 42)) 41])
 (.cond (.t 41)
 (.reg [mo (.mv (.c (.int .i64 (-1)))) 9])
 .skip)))))))))
 (.reg [mo (.bin true .add (.t 15) (.c (.int .i64 1))) 43,
 mo (.mv (.t 43)) 15]))))
def mc_18 : MC :=
 (.seq (.reg [mo (.box (.t 0)) 4,
 mo (.mv (.c (.int .i64 0))) 8])
 (.seq (.reg [mo (.mv (.c (.int .i64 (-1)))) 9])
 (.seq (.seq (.reg [mo (.fad 1 (.t 4)) 12,
 mo (.ld none (.t 12)) 13,
 mo (.len false (.t 13)) 14,
 mo (.mv (.c (.int .i64 0))) 15])
 (.block 0
 (.loop mc_2t)))
 (.seq (.reg [mo (.mv (.t 9)) 44,
 mo (.mv (.t 44)) 8])
 .ret))))
theorem Wq_18 (a_ : GEstate) (place_ : Int) (principal_ : Int) (t_ : Int) {Q : Int → Prop} {Q' : V → Heap → Prop} (h : Ok (F_18 a_ place_ principal_ t_) Q) (hQ : ∀ z, Q z → Q' (.int .i64 z) []) : ACall Tryz.prog 70 [GEstate.v a_, .int .i64 place_, .int .i64 principal_, .int .i64 t_] [] Q' := by
 refine acallM mc_18 [] [] [.t 8] Tryz.func70 fun M => ?_
 unfold F_18 at h
 unfold mc_18
 replace h := tY h
 refine tB ?_
 repeat' (first
 | (exact tZ)
 | ((first | refine oblg h ?_ | refine roomG h ?_ | refine fork h ?_ ?_ | refine forkS h ?_ ?_) <;> clear h <;> intro hc h)
 | (refine M.gv1 (ms := mg_58) 35 [31,32,33,34] h ?_ ?_ <;> first
 | (clear h; intro K hK1; unfold mg_58; refine tB ?_)
 | (clear h; intro b h; replace h := tY h; refine tB ?_))
 | (refine M.gv1 (ms := mg_57) 29 [25,26,27,28] h ?_ ?_ <;> first
 | (clear h; intro K hK2; unfold mg_57; refine tB ?_)
 | (clear h; intro b h; replace h := tY h; refine tB ?_))
 | (refine M.fold1 (b := mc_2t) 15 [1,2,3,13,14] [] (fun x => [(9, .int .i64 x)]) (fun x => []) [] h ?_ ?_ ?_ <;> first
 | (clear h; intro k a x Qn K hK3 hkN3 ha3 h hf; have hl := fact_int (factsE_find (n := 14) hf.1 rfl); clear hf; have hkd := kD hkN3; have hkB3 := kB hkN3; have hkI3 := kI (k := k) (by omega); unfold F_2t at h; unfold mc_2t; replace h := tY h; refine tK ha3 hkd hkN3 hkB3 hkI3 ?_)
  |(clear h; intro x K h; replace h := And.left (And.intro h trivial); unfold mc_2t; replace h := tY h; refine tB ?_)
  |(clear h; (try refine tB ?_); exact tU0; done))
 | (simp only [ha3])
 | ((first | refine hK1 _ ?_ | refine hK2 _ ?_); exact tU; done)
 | (refine hK3 _ ?_; (try refine tB ?_); refine ⟨_, h, ?_⟩; exact tU0; done)
 | (refine bfork (fun hc => ?_) (fun hc => ?_))
 | (refine tE ?_; (first | rw [M.lok_compU] | rw [M.lokD_compU]); refine tB ?_)
 | (refine tA ?_))
def W_18 {a_ place_ principal_ t_ y} (hy : (F_18 a_ place_ principal_ t_) = some y) := acW (Wq_18 a_ place_ principal_ t_) hy
def F_1m (a_ : GEstate) (place_ : Int) (principal_ : Int) (t_ : Int) : Option (Int × Bool) :=
 (F_3 a_ place_).bind fun y4 => bif (!y4) then some (0, false) else (F_18 a_ place_ principal_ t_).bind fun y8 => bif decide (0 ≤ y8) then some (y8, true) else some (0, false)
def mc_1m : MC :=
 (.seq (.reg [mo (.box (.t 0)) 4,
 mo (.mv (.c (.int .i64 0))) 8,
 mo (.mv (.c (.bool false))) 9])
 (.seq (.seq (.reg [mo (.ld (some 2) (.t 4)) 11,
 mo (.mv (.t 1)) 12,
 mo (.call (.f 27) [(.t 11),(.t 12)] [] []) 13,
 mo (.not (.t 13)) 14])
 (.cond (.t 14)
 (.seq (.reg [mo (.mv (.c (.int .i64 0))) 8,
 mo (.mv (.c (.bool false))) 9])
 .ret)
 .skip))
 (.seq (.seq (.reg [mo (.ld (some 2) (.t 4)) 15,
 mo (.mv (.t 1)) 16,
 mo (.mv (.t 2)) 17,
 mo (.mv (.t 3)) 18,
 mo (.call (.f 70) [(.t 15),(.t 16),(.t 17),(.t 18)] [] []) 19,
 mo (.mv (.t 19)) 10])
 (.seq (.reg [mo (.mv (.t 10)) 20,
 mo (.bin false .geq (.t 20) (.c (.int .i64 0))) 21])
 (.cond (.t 21)
 (.seq (.note (.gc [10]) (.reg [mo (.mv (.t 10)) 22,
 mo (.mv (.t 22)) 8,
 mo (.mv (.c (.bool true))) 9]))
 .ret)
 .skip)))
 (.seq (.reg [mo (.mv (.c (.int .i64 0))) 8,
 mo (.mv (.c (.bool false))) 9])
 .ret))))
theorem Wq_1m (a_ : GEstate) (place_ : Int) (principal_ : Int) (t_ : Int) {Q : Int × Bool → Prop} {Q' : V → Heap → Prop} (h : Ok (F_1m a_ place_ principal_ t_) Q) (hQ : ∀ z, Q z → Q' (.tup [.int .i64 z.1, .bool z.2]) []) : ACall Tryz.prog 39 [GEstate.v a_, .int .i64 place_, .int .i64 principal_, .int .i64 t_] [] Q' := by
 refine acallM mc_1m [] [] [.t 8, .t 9] Tryz.func39 fun M => ?_
 unfold F_1m at h
 unfold mc_1m
 replace h := tY h
 refine tB ?_
 repeat' (first
 | (exact tZ)
 | ((first | refine oblg h ?_ | refine roomG h ?_ | refine fork h ?_ ?_ | refine forkS h ?_ ?_) <;> clear h <;> intro hc h)
 | (obtain ⟨y, hy, h⟩ := h; (first | with_reducible first | have hw := W_3 hy | have hw := W_18 hy); replace hw := tY hw; (first | refine M.sC hw ?_ | refine M.sD hw ?_); clear hw hy; refine tB ?_)
 | (refine tE ?_; (first | rw [M.lok_compU] | rw [M.lokD_compU]); refine tB ?_)
 | (refine tA ?_))
def W_1m {a_ place_ principal_ t_ y} (hy : (F_1m a_ place_ principal_ t_) = some y) := acW (Wq_1m a_ place_ principal_ t_) hy
def F_2y (x_ : Int) (k11 : Int) (a12 : Int) (x10 : Unit) : Option (Fl Unit Bool) :=
 bif decide (a12 = x_) then some (.ex true) else some (.nx ())
def F_d (l_ : List Int) (x_ : Int) : Option Bool :=
 (forL (F_2y x_) l_ 0 ()).bind fun o => o.elim (fun x13 => some false) (fun r14 => some r14)
@[irreducible] def mc_2y : MC :=
 (.seq (.reg [mo (.bin false .lss (.t 9) (.t 8)) 10])
 (.seq (.cond (.t 10)
 .skip
 (.exit 0))
 (.seq (.block 1
 (.seq (.reg [mo (.iad 1 (.t 7) (.t 9)) 11,
 mo (.ld none (.t 11)) 12,
 mo (.mv (.t 12)) 6])
 (.seq (.reg [mo (.mv (.t 6)) 13,
 mo (.mv (.t 1)) 14,
 mo (.bin false .eql (.t 13) (.t 14)) 15])
 (.cond (.t 15)
 (.seq (.reg [mo (.mv (.c (.bool true))) 4])
 .ret)
 .skip))))
 (.reg [mo (.bin true .add (.t 9) (.c (.int .i64 1))) 16,
 mo (.mv (.t 16)) 9]))))
def mc_d : MC :=
 (.seq (.reg [mo (.mv (.c (.bool false))) 4])
 (.seq (.seq (.reg [mo (.mv (.t 0)) 7,
 mo (.len false (.t 7)) 8,
 mo (.mv (.c (.int .i64 0))) 9])
 (.block 0
 (.loop mc_2y)))
 (.seq (.reg [mo (.mv (.c (.bool false))) 4])
 .ret)))
theorem Wq_d (l_ : List Int) (x_ : Int) {Q : Bool → Prop} {Q' : V → Heap → Prop} (h : Ok (F_d l_ x_) Q) (hQ : ∀ z, Q z → Q' (.bool z) []) : ACall Tryz.prog 52 [.sl (l_.map (V.int .i64)), .int .i64 x_] [] Q' := by
 refine acallM mc_d [] [] [.t 4] Tryz.func52 fun M => ?_
 unfold F_d at h
 unfold mc_d
 replace h := tY h
 refine tB ?_
 repeat' (first
 | (exact tZ)
 | ((first | refine oblg h ?_ | refine roomG h ?_ | refine fork h ?_ ?_ | refine forkS h ?_ ?_) <;> clear h <;> intro hc h)
 | (refine M.for1 (b := mc_2y) 9 [1,7,8] [] (fun x => []) (fun x => []) [] h ?_ ?_ ?_ <;> first
 | (clear h; intro k a x Qn K hK1 hkN1 ha1 h hf; have hl := fact_int (factsE_find (n := 8) hf.1 rfl); clear hf; have hkd := kD hkN1; have hkB1 := kB hkN1; have hkI1 := kI (k := k) (by omega); unfold F_2y at h; unfold mc_2y; replace h := tY h; refine tK ha1 hkd hkN1 hkB1 hkI1 ?_)
  |(clear h; intro x K h; replace h := And.left (And.intro h trivial); unfold mc_2y; replace h := tY h; refine tB ?_)
  |(clear h; (try refine tB ?_); exact tU0; done))
 | (simp only [ha1])
 | (refine hK1 _ ?_; (try refine tB ?_); refine ⟨_, h, ?_⟩; exact tU0; done)
 | (refine tE ?_; (first | rw [M.lok_compU] | rw [M.lokD_compU]); refine tB ?_)
 | (refine tA ?_))
def W_d {l_ x_ y} (hy : (F_d l_ x_) = some y) := acW (Wq_d l_ x_) hy
def F_2f (p_ : Int) (group_ : Int) (t_ : Int) (k72 : Int) (a73 : GMember) (x71 : Bool) : Option Bool :=
 grp ((decide (a73.Time ≤ t_) && decide (a73.Principal = p_))) fun b88 => grp ((b88 && decide (a73.Group = group_))) fun b89 => bif b89 then some (decide (a73.Kind = 1)) else some x71
def F_19 (d_ : GDirectory) (p_ : Int) (group_ : Int) (t_ : Int) : Option Bool :=
 (foldL (F_2f p_ group_ t_) d_.Events 0 false).bind fun x90 => some x90
@[irreducible] def mg_59 : List MOp := [⟨.fad 2 (.t 11), (some 24), (some (23, true))⟩,
 ⟨.ld none (.t 24), (some 25), (some (23, true))⟩,
 ⟨.mv (.t 1), (some 26), (some (23, true))⟩,
 ⟨.bin false .eql (.t 25) (.t 26), (some 27), (some (23, true))⟩,
 mo (.pick (.t 23) (.t 27) (.c (.bool false))) 28]
@[irreducible] def mg_5a : List MOp := [⟨.fad 3 (.t 11), (some 30), (some (29, true))⟩,
 ⟨.ld none (.t 30), (some 31), (some (29, true))⟩,
 ⟨.mv (.t 2), (some 32), (some (29, true))⟩,
 ⟨.bin false .eql (.t 31) (.t 32), (some 33), (some (29, true))⟩,
 mo (.pick (.t 29) (.t 33) (.c (.bool false))) 34]
@[irreducible] def mc_2f : MC :=
 (.seq (.reg [mo (.bin false .lss (.t 15) (.t 14)) 16])
 (.seq (.cond (.t 16)
 .skip
 (.exit 0))
 (.seq (.block 1
 (.seq (.reg [mo (.iad 4 (.t 13) (.t 15)) 17,
 mo (.ld (some 4) (.t 17)) 18,
 mo (.alloc [(.int .i64 0),(.int .i64 0),(.int .i64 0),(.int .i64 0)]) 11,
 ⟨.st 4 (.t 11) (.t 18), none, none⟩])
 (.seq (.regI [.op (mo (.fad 0 (.t 11)) 19),
 .op (mo (.ld none (.t 19)) 20),
 .op (mo (.mv (.t 3)) 21),
 .op (mo (.bin false .leq (.t 20) (.t 21)) 22),
 .op (mo (.mv (.t 22)) 23),
 .grp mg_59,
 .op (mo (.mv (.t 28)) 29),
 .grp mg_5a])
 (.cond (.t 34)
 (.note (.gc [1,2,3,11,13,14,15,24,25,26,27,30,31,32,33]) (.reg [mo (.fad 1 (.t 11)) 35,
 mo (.ld none (.t 35)) 36,
 mo (.bin false .eql (.t 36) (.c (.int .i64 1))) 37,
 mo (.mv (.t 37)) 9]))
 .skip))))
 (.reg [mo (.bin true .add (.t 15) (.c (.int .i64 1))) 38,
 mo (.mv (.t 38)) 15]))))
def mc_19 : MC :=
 (.seq (.reg [mo (.box (.t 0)) 4,
 mo (.mv (.c (.bool false))) 8])
 (.seq (.reg [mo (.mv (.c (.bool false))) 9])
 (.seq (.seq (.reg [mo (.fad 1 (.t 4)) 12,
 mo (.ld none (.t 12)) 13,
 mo (.len false (.t 13)) 14,
 mo (.mv (.c (.int .i64 0))) 15])
 (.block 0
 (.loop mc_2f)))
 (.seq (.reg [mo (.mv (.t 9)) 39,
 mo (.mv (.t 39)) 8])
 .ret))))
theorem Wq_19 (d_ : GDirectory) (p_ : Int) (group_ : Int) (t_ : Int) {Q : Bool → Prop} {Q' : V → Heap → Prop} (h : Ok (F_19 d_ p_ group_ t_) Q) (hQ : ∀ z, Q z → Q' (.bool z) []) : ACall Tryz.prog 71 [GDirectory.v d_, .int .i64 p_, .int .i64 group_, .int .i64 t_] [] Q' := by
 refine acallM mc_19 [] [] [.t 8] Tryz.func71 fun M => ?_
 unfold F_19 at h
 unfold mc_19
 replace h := tY h
 refine tB ?_
 repeat' (first
 | (exact tZ)
 | ((first | refine oblg h ?_ | refine roomG h ?_ | refine fork h ?_ ?_ | refine forkS h ?_ ?_) <;> clear h <;> intro hc h)
 | (refine M.gv1 (ms := mg_5a) 34 [30,31,32,33] h ?_ ?_ <;> first
 | (clear h; intro K hK1; unfold mg_5a; refine tB ?_)
 | (clear h; intro b h; replace h := tY h; refine tB ?_))
 | (refine M.gv1 (ms := mg_59) 28 [24,25,26,27] h ?_ ?_ <;> first
 | (clear h; intro K hK2; unfold mg_59; refine tB ?_)
 | (clear h; intro b h; replace h := tY h; refine tB ?_))
 | (refine M.fold1 (b := mc_2f) 15 [1,2,3,13,14] [] (fun x => [(9, .bool x)]) (fun x => []) [] h ?_ ?_ ?_ <;> first
 | (clear h; intro k a x Qn K hK3 hkN3 ha3 h hf; have hl := fact_int (factsE_find (n := 14) hf.1 rfl); clear hf; have hkd := kD hkN3; have hkB3 := kB hkN3; have hkI3 := kI (k := k) (by omega); unfold F_2f at h; unfold mc_2f; replace h := tY h; refine tK ha3 hkd hkN3 hkB3 hkI3 ?_)
  |(clear h; intro x K h; replace h := And.left (And.intro h trivial); unfold mc_2f; replace h := tY h; refine tB ?_)
  |(clear h; (try refine tB ?_); exact tU0; done))
 | (simp only [ha3])
 | ((first | refine hK1 _ ?_ | refine hK2 _ ?_); exact tU; done)
 | (refine hK3 _ ?_; (try refine tB ?_); refine ⟨_, h, ?_⟩; exact tU0; done)
 | (refine bfork (fun hc => ?_) (fun hc => ?_))
 | (refine tE ?_; (first | rw [M.lok_compU] | rw [M.lokD_compU]); refine tB ?_)
 | (refine tA ?_))
def W_19 {d_ p_ group_ t_ y} (hy : (F_19 d_ p_ group_ t_) = some y) := acW (Wq_19 d_ p_ group_ t_) hy
def F_2z (d_ : GDirectory) (t_ : Int) (chain_ : List Int) (k83 : Int) (a84 : Int) (x82 : Unit) : Option (Fl Unit Bool) :=
 (F_4 d_ a84).bind fun y106 => bif (!y106) then some (.ex false) else chk (inc 0 k83 chain_.length) ((F_d (chain_.take ((k83).toNat)) a84).bind fun y107 => bif y107 then some (.ex false) else bif decide (0 < k83) then chk (in64 (k83 - 1)) (chk (inb (k83 - 1) chain_.length) ((F_19 d_ (chain_.getD ((k83 - 1)).toNat default) a84 t_).bind fun y108 => bif (!y108) then some (.ex false) else some (.nx ()))) else some (.nx ()))
def F_1n (d_ : GDirectory) (t_ : Int) (chain_ : List Int) : Option Bool :=
 (F_2 d_).bind fun y10 => grp (((!y10) || decide ((chain_.length : Int) < 2))) fun b11 => grp ((b11 || decide ((d_.Kinds.length : Int) < (chain_.length : Int)))) fun b12 => bif b12 then some false else (forL (F_2z d_ t_ chain_) chain_ 0 ()).bind fun o => o.elim (fun x109 => some true) (fun r110 => some r110)
@[irreducible] def mg_5b : List MOp := [⟨.mv (.t 2), (some 13), (some (12, false))⟩,
 ⟨.len false (.t 13), (some 14), (some (12, false))⟩,
 ⟨.bin false .lss (.t 14) (.c (.int .i64 2)), (some 15), (some (12, false))⟩,
 mo (.pick (.t 12) (.c (.bool true)) (.t 15)) 16]
@[irreducible] def mg_5c : List MOp := [⟨.mv (.t 2), (some 18), (some (17, false))⟩,
 ⟨.len false (.t 18), (some 19), (some (17, false))⟩,
 ⟨.fad 0 (.t 3), (some 20), (some (17, false))⟩,
 ⟨.ld none (.t 20), (some 21), (some (17, false))⟩,
 ⟨.len false (.t 21), (some 22), (some (17, false))⟩,
 ⟨.bin false .gtr (.t 19) (.t 22), (some 23), (some (17, false))⟩,
 mo (.pick (.t 17) (.c (.bool true)) (.t 23)) 24]
@[irreducible] def mc_2z : MC :=
 (.seq (.reg [mo (.bin false .lss (.t 27) (.t 26)) 28])
 (.seq (.cond (.t 28)
 .skip
 (.exit 0))
 (.seq (.block 1
 (.seq (.reg [mo (.mv (.t 27)) 29,
 mo (.iad 1 (.t 25) (.t 27)) 30,
 mo (.ld none (.t 30)) 31,
 mo (.mv (.t 29)) 7,
 mo (.mv (.t 31)) 8])
 (.seq (.regD [mo (.ld (some 2) (.t 3)) 32,
 mo (.mv (.t 8)) 33,
 mo (.call (.f 44) [(.t 32),(.t 33)] [] []) 34,
 mo (.not (.t 34)) 35,
 mo (.mv (.t 35)) 36,
 ⟨.mv (.t 2), (some 37), (some (36, false))⟩,
 ⟨.mv (.t 7), (some 38), (some (36, false))⟩,
 ⟨.slc 1 (.t 37) none (some (.t 38)), (some 39), (some (36, false))⟩,
 ⟨.mv (.t 8), (some 40), (some (36, false))⟩,
 ⟨.call (.f 52) [(.t 39),(.t 40)] [] [], (some 41), (some (36, false))⟩,
 mo (.pick (.t 36) (.c (.bool true)) (.t 41)) 42,
 mo (.mv (.t 42)) 43,
 ⟨.mv (.t 7), (some 44), (some (43, false))⟩,
 ⟨.bin false .gtr (.t 44) (.c (.int .i64 0)), (some 45), (some (43, false))⟩,
 ⟨.mv (.t 45), (some 46), (some (43, false))⟩,
 ⟨.ld (some 2) (.t 3), (some 47), (some (46, true))⟩,
 ⟨.mv (.t 2), (some 48), (some (46, true))⟩,
 ⟨.mv (.t 7), (some 49), (some (46, true))⟩,
 ⟨.bin true .sub (.t 49) (.c (.int .i64 1)), (some 50), (some (46, true))⟩,
 ⟨.iad 1 (.t 48) (.t 50), (some 51), (some (46, true))⟩,
 ⟨.ld none (.t 51), (some 52), (some (46, true))⟩,
 ⟨.mv (.t 8), (some 53), (some (46, true))⟩,
 ⟨.mv (.t 1), (some 54), (some (46, true))⟩,
 ⟨.call (.f 71) [(.t 47),(.t 52),(.t 53),(.t 54)] [] [], (some 55), (some (46, true))⟩,
 ⟨.not (.t 55), (some 56), (some (46, true))⟩,
 ⟨.pick (.t 46) (.t 56) (.c (.bool false)), (some 57), (some (43, false))⟩,
 mo (.pick (.t 43) (.c (.bool true)) (.t 57)) 58]
 [[],[],[0,1],[2],[3,2],[4],[4],[5,6,4],[4],[7,8,4,4],[4,9],[10,9],[11],[12,11],[13,11,11],[14],[14],[14],[17,14],[16,18,14],[19,14],[14],[14],[15,20,21,22,14,14],[23,14],[14,24,11],[11,25]]
 [[],[],[0,1],[0,1,2],[0,1,2,3],[0,1,2,3,4],[0,1,2,3,4],[0,1,2,3,4,5,6],[0,1,2,3,4],[0,1,2,3,4,5,6,7,8],[0,1,2,3,4,5,6,7,8,9],[0,1,2,3,4,5,6,7,8,9,10],[0,1,2,3,4,5,6,7,8,9,10,11],[0,1,2,3,4,5,6,7,8,9,10,11,12],[0,1,2,3,4,5,6,7,8,9,10,11,12,13],[0,1,2,3,4,5,6,7,8,9,10,11,12,13,14],[0,1,2,3,4,5,6,7,8,9,10,11,12,13,14],[0,1,2,3,4,5,6,7,8,9,10,11,12,13,14],[0,1,2,3,4,5,6,7,8,9,10,11,12,13,14,17],[0,1,2,3,4,5,6,7,8,9,10,11,12,13,14,16,17,18],[0,1,2,3,4,5,6,7,8,9,10,11,12,13,14,16,17,18,19],[0,1,2,3,4,5,6,7,8,9,10,11,12,13,14],[0,1,2,3,4,5,6,7,8,9,10,11,12,13,14],[0,1,2,3,4,5,6,7,8,9,10,11,12,13,14,15,16,17,18,19,20,21,22],[0,1,2,3,4,5,6,7,8,9,10,11,12,13,14,15,16,17,18,19,20,21,22,23],[0,1,2,3,4,5,6,7,8,9,10,11,12,13,14,15,16,17,18,19,20,21,22,23,24],[0,1,2,3,4,5,6,7,8,9,10,11,12,13,14,15,16,17,18,19,20,21,22,23,24,25]])
 (.cond (.t 58)
 (.seq (.reg [mo (.mv (.c (.bool false))) 6])
 .ret)
 .skip))))
 (.reg [mo (.bin true .add (.t 27) (.c (.int .i64 1))) 59,
 mo (.mv (.t 59)) 27]))))
def mc_1n : MC :=
 (.seq (.reg [mo (.box (.t 0)) 3,
 mo (.mv (.c (.bool false))) 6])
 (.seq (.seq (.regI [.op (mo (.ld (some 2) (.t 3)) 9),
 .op (mo (.call (.f 26) [(.t 9)] [] []) 10),
 .op (mo (.not (.t 10)) 11),
 .op (mo (.mv (.t 11)) 12),
 .grp mg_5b,
 .op (mo (.mv (.t 16)) 17),
 .grp mg_5c])
 (.cond (.t 24)
 (.seq (.reg [mo (.mv (.c (.bool false))) 6])
 .ret)
 .skip))
 (.seq (.seq (.note (.gc [1,2,3,37,38,39,40,41,44,45,46,47,48,49,50,51,52,53,54,55,56,57]) (.reg [mo (.mv (.t 2)) 25,
 mo (.len false (.t 25)) 26,
 mo (.mv (.c (.int .i64 0))) 27]))
 (.block 0
 (.loop mc_2z)))
 (.seq (.reg [mo (.mv (.c (.bool true))) 6])
 .ret))))
theorem Wq_1n (d_ : GDirectory) (t_ : Int) (chain_ : List Int) {Q : Bool → Prop} {Q' : V → Heap → Prop} (h : Ok (F_1n d_ t_ chain_) Q) (hQ : ∀ z, Q z → Q' (.bool z) []) : ACall Tryz.prog 40 [GDirectory.v d_, .int .i64 t_, .sl (chain_.map (V.int .i64))] [] Q' := by
 refine acallM mc_1n [] [] [.t 6] Tryz.func40 fun M => ?_
 unfold F_1n at h
 unfold mc_1n
 replace h := tY h
 refine tB ?_
 repeat' (first
 | (exact tZ)
 | ((first | refine oblg h ?_ | refine roomG h ?_ | refine fork h ?_ ?_ | refine forkS h ?_ ?_) <;> clear h <;> intro hc h)
 | (obtain ⟨y, hy, h⟩ := h; (first | with_reducible first | have hw := W_2 hy | have hw := W_4 hy | have hw := W_d hy | have hw := W_19 hy); replace hw := tY hw; (first | refine M.sC hw ?_ | refine M.sD hw ?_); clear hw hy; refine tB ?_)
 | (refine M.for1 (b := mc_2z) 27 [1,2,3,25,26] [3] (fun x => []) (fun x => []) [] h ?_ ?_ ?_ <;> first
 | (clear h; intro k a x Qn K hK1 hkN1 ha1 h hf; have hl := fact_int (factsE_find (n := 26) hf.1 rfl); clear hf; have hkd := kD hkN1; have hkB1 := kB hkN1; have hkI1 := kI (k := k) (by omega); unfold F_2z at h; unfold mc_2z; replace h := tY h; refine tK ha1 hkd hkN1 hkB1 hkI1 ?_)
  |(clear h; intro x K h; replace h := And.left (And.intro h trivial); unfold mc_2z; replace h := tY h; refine tB ?_)
  |(clear h; (try refine tB ?_); exact tU0; done))
 | (refine M.gv1 (ms := mg_5c) 24 [18,19,20,21,22,23] h ?_ ?_ <;> first
 | (clear h; intro K hK2; unfold mg_5c; refine tB ?_)
 | (clear h; intro b h; replace h := tY h; refine tB ?_))
 | (refine M.gv1 (ms := mg_5b) 16 [13,14,15] h ?_ ?_ <;> first
 | (clear h; intro K hK3; unfold mg_5b; refine tB ?_)
 | (clear h; intro b h; replace h := tY h; refine tB ?_))
 | (simp only [ha1])
 | (refine hK1 _ ?_; (try refine tB ?_); refine ⟨_, h, ?_⟩; exact tU0; done)
 | ((first | refine hK2 _ ?_ | refine hK3 _ ?_); exact tU; done)
 | (refine bfork (fun hc => ?_) (fun hc => ?_))
 | (refine tE ?_; (first | rw [M.lok_compU] | rw [M.lokD_compU]); refine tB ?_)
 | (refine tA ?_))
def W_1n {d_ t_ chain_ y} (hy : (F_1n d_ t_ chain_) = some y) := acW (Wq_1n d_ t_ chain_) hy
def F_b (d_ : GDirectory) (a_ : GEstate) (p_ : Int) (r_ : GReading) : Option Bool :=
 (F_2 d_).bind fun y10 => bif (!y10) then some false else (F_3 a_ r_.Place).bind fun y11 => bif (!y11) then some false else (F_s d_ p_).bind fun y12 => bif (!y12) then some false else bif (!decide (r_.Link = (-1))) then grp ((decide (r_.Grant = (-1)) && decide ((r_.Chain.length : Int) = 0))) fun b22 => jn (α := Bool) (bif b22 then (F_j a_ r_.Place r_.Link r_.Time).bind fun y24 => some y24 else some false) fun j25 => some j25 else grp ((decide (r_.Grant < 0) || decide ((a_.Events.length : Int) ≤ r_.Grant))) fun b32 => grp ((b32 || decide ((r_.Chain.length : Int) = 0))) fun b33 => bif b33 then some false else chk (inb 0 r_.Chain.length) (bif (!decide ((r_.Chain.getD 0 default) = p_)) then some false else chk (inb r_.Grant a_.Events.length) (bif (!decide ((a_.Events.getD (r_.Grant).toNat default).Kind = 1)) then some false else bif (!decide ((a_.Events.getD (r_.Grant).toNat default).Place = r_.Place)) then some false else bif decide (r_.Time < (a_.Events.getD (r_.Grant).toNat default).Time) then some false else chk (in64 ((r_.Chain.length : Int) - 1)) (chk (inb ((r_.Chain.length : Int) - 1) r_.Chain.length) (bif (!decide ((r_.Chain.getD (((r_.Chain.length : Int) - 1)).toNat default) = (a_.Events.getD (r_.Grant).toNat default).Principal)) then some false else (F_1m a_ r_.Place ((a_.Events.getD (r_.Grant).toNat default).Principal) r_.Time).bind fun y37 => bif (!y37.2) then some false else jn (α := Bool) (bif decide ((r_.Chain.length : Int) = 1) then some true else (F_1n d_ r_.Time r_.Chain).bind fun y41 => some y41) fun j42 => some j42))))
@[irreducible] def mg_5d : List MOp := [⟨.fad 4 (.t 7), (some 35), (some (34, true))⟩,
 ⟨.ld none (.t 35), (some 36), (some (34, true))⟩,
 ⟨.len false (.t 36), (some 37), (some (34, true))⟩,
 ⟨.bin false .eql (.t 37) (.c (.int .i64 0)), (some 38), (some (34, true))⟩,
 mo (.pick (.t 34) (.t 38) (.c (.bool false))) 39]
@[irreducible] def mg_5e : List MOp := [⟨.ld (some 2) (.t 5), (some 41), (some (40, true))⟩,
 ⟨.fad 0 (.t 7), (some 42), (some (40, true))⟩,
 ⟨.ld none (.t 42), (some 43), (some (40, true))⟩,
 ⟨.fad 2 (.t 7), (some 44), (some (40, true))⟩,
 ⟨.ld none (.t 44), (some 45), (some (40, true))⟩,
 ⟨.fad 1 (.t 7), (some 46), (some (40, true))⟩,
 ⟨.ld none (.t 46), (some 47), (some (40, true))⟩,
 ⟨.call (.f 38) [(.t 41),(.t 43),(.t 45),(.t 47)] [] [], (some 48), (some (40, true))⟩,
 mo (.pick (.t 40) (.t 48) (.c (.bool false))) 49]
@[irreducible] def mg_5f : List MOp := [⟨.fad 3 (.t 7), (some 54), (some (53, false))⟩,
 ⟨.ld none (.t 54), (some 55), (some (53, false))⟩,
 ⟨.fad 1 (.t 5), (some 56), (some (53, false))⟩,
 ⟨.ld none (.t 56), (some 57), (some (53, false))⟩,
 ⟨.len false (.t 57), (some 58), (some (53, false))⟩,
 ⟨.bin false .geq (.t 55) (.t 58), (some 59), (some (53, false))⟩,
 mo (.pick (.t 53) (.c (.bool true)) (.t 59)) 60]
@[irreducible] def mg_5g : List MOp := [⟨.fad 4 (.t 7), (some 62), (some (61, false))⟩,
 ⟨.ld none (.t 62), (some 63), (some (61, false))⟩,
 ⟨.len false (.t 63), (some 64), (some (61, false))⟩,
 ⟨.bin false .eql (.t 64) (.c (.int .i64 0)), (some 65), (some (61, false))⟩,
 mo (.pick (.t 61) (.c (.bool true)) (.t 65)) 66]
@[irreducible] def mg_5h : List MOp := [⟨.ld (some 2) (.t 4), (some 129), (some (128, false))⟩,
 ⟨.fad 1 (.t 7), (some 130), (some (128, false))⟩,
 ⟨.ld none (.t 130), (some 131), (some (128, false))⟩,
 ⟨.fad 4 (.t 7), (some 132), (some (128, false))⟩,
 ⟨.ld none (.t 132), (some 133), (some (128, false))⟩,
 ⟨.call (.f 40) [(.t 129),(.t 131),(.t 133)] [] [], (some 134), (some (128, false))⟩,
 mo (.pick (.t 128) (.c (.bool true)) (.t 134)) 135]
def mc_b : MC :=
 (.seq (.reg [mo (.box (.t 0)) 4,
 mo (.box (.t 1)) 5,
 mo (.box (.t 3)) 7,
 mo (.mv (.c (.bool false))) 8])
 (.seq (.seq (.reg [mo (.ld (some 2) (.t 4)) 12,
 mo (.call (.f 26) [(.t 12)] [] []) 13,
 mo (.not (.t 13)) 14,
 mo (.mv (.t 14)) 15,
 ⟨.ld (some 2) (.t 5), (some 16), (some (15, false))⟩,
 ⟨.fad 0 (.t 7), (some 17), (some (15, false))⟩,
 ⟨.ld none (.t 17), (some 18), (some (15, false))⟩,
 ⟨.call (.f 27) [(.t 16),(.t 18)] [] [], (some 19), (some (15, false))⟩,
 ⟨.not (.t 19), (some 20), (some (15, false))⟩,
 mo (.pick (.t 15) (.c (.bool true)) (.t 20)) 21,
 mo (.mv (.t 21)) 22,
 ⟨.ld (some 2) (.t 4), (some 23), (some (22, false))⟩,
 ⟨.mv (.t 2), (some 24), (some (22, false))⟩,
 ⟨.call (.f 22) [(.t 23),(.t 24)] [] [], (some 25), (some (22, false))⟩,
 ⟨.not (.t 25), (some 26), (some (22, false))⟩,
 mo (.pick (.t 22) (.c (.bool true)) (.t 26)) 27])
 (.cond (.t 27)
 (.seq (.reg [mo (.mv (.c (.bool false))) 8])
 .ret)
 .skip))
 (.seq (.seq (.note (.gc [2,4,5,7,35,36,37,38,41,42,43,44,45,46,47,48,54,55,56,57,58,59,62,63,64,65,68,69,70,71,72,73,85,86,87,88,89,92,93,94,95,96,99,100,101,102,103,104,105,106,107,108,109,129,130,131,132,133,134]) (.reg [mo (.fad 2 (.t 7)) 28,
 mo (.ld none (.t 28)) 29,
 mo (.bin false .neq (.t 29) (.c (.int .i64 (-1)))) 30]))
 (.cond (.t 30)
 (.seq (.regI [.op (mo (.fad 3 (.t 7)) 31),
 .op (mo (.ld none (.t 31)) 32),
 .op (mo (.bin false .eql (.t 32) (.c (.int .i64 (-1)))) 33),
 .op (mo (.mv (.t 33)) 34),
 .grp mg_5d,
 .op (mo (.mv (.t 39)) 40),
 .grp mg_5e,
 .op (mo (.mv (.t 49)) 8)])
 .ret)
 .skip))
 (.seq (.seq (.regI [.op (mo (.fad 3 (.t 7)) 50),
 .op (mo (.ld none (.t 50)) 51),
 .op (mo (.bin false .lss (.t 51) (.c (.int .i64 0))) 52),
 .op (mo (.mv (.t 52)) 53),
 .grp mg_5f,
 .op (mo (.mv (.t 60)) 61),
 .grp mg_5g,
 .op (mo (.mv (.t 66)) 67),
 .op ⟨.fad 4 (.t 7), (some 68), (some (67, false))⟩,
 .op ⟨.ld none (.t 68), (some 69), (some (67, false))⟩,
 .op ⟨.iad 1 (.t 69) (.c (.int .i64 0)), (some 70), (some (67, false))⟩,
 .op ⟨.ld none (.t 70), (some 71), (some (67, false))⟩,
 .op ⟨.mv (.t 2), (some 72), (some (67, false))⟩,
 .op ⟨.bin false .neq (.t 71) (.t 72), (some 73), (some (67, false))⟩,
 .op (mo (.pick (.t 67) (.c (.bool true)) (.t 73)) 74)])
 (.cond (.t 74)
 (.seq (.reg [mo (.mv (.c (.bool false))) 8])
 .ret)
 .skip))
 (.seq (.note (.gc [4,5,7,85,86,87,88,89,92,93,94,95,96,99,100,101,102,103,104,105,106,107,108,109,129,130,131,132,133,134]) (.reg [mo (.fad 1 (.t 5)) 75,
 mo (.ld none (.t 75)) 76,
 mo (.fad 3 (.t 7)) 77,
 mo (.ld none (.t 77)) 78,
 mo (.iad 7 (.t 76) (.t 78)) 79,
 mo (.ld (some 7) (.t 79)) 80,
 mo (.alloc [(.int .i64 0),(.int .i64 0),(.int .i64 0),(.int .i64 0),(.int .i64 0),(.int .i64 0),(.int .i64 0)]) 9,
 ⟨.st 7 (.t 9) (.t 80), none, none⟩]))
 (.seq (.seq (.regD [mo (.fad 1 (.t 9)) 81,
 mo (.ld none (.t 81)) 82,
 mo (.bin false .neq (.t 82) (.c (.int .i64 1))) 83,
 mo (.mv (.t 83)) 84,
 ⟨.fad 2 (.t 9), (some 85), (some (84, false))⟩,
 ⟨.ld none (.t 85), (some 86), (some (84, false))⟩,
 ⟨.fad 0 (.t 7), (some 87), (some (84, false))⟩,
 ⟨.ld none (.t 87), (some 88), (some (84, false))⟩,
 ⟨.bin false .neq (.t 86) (.t 88), (some 89), (some (84, false))⟩,
 mo (.pick (.t 84) (.c (.bool true)) (.t 89)) 90,
 mo (.mv (.t 90)) 91,
 ⟨.fad 0 (.t 9), (some 92), (some (91, false))⟩,
 ⟨.ld none (.t 92), (some 93), (some (91, false))⟩,
 ⟨.fad 1 (.t 7), (some 94), (some (91, false))⟩,
 ⟨.ld none (.t 94), (some 95), (some (91, false))⟩,
 ⟨.bin false .gtr (.t 93) (.t 95), (some 96), (some (91, false))⟩,
 mo (.pick (.t 91) (.c (.bool true)) (.t 96)) 97,
 mo (.mv (.t 97)) 98,
 ⟨.fad 4 (.t 7), (some 99), (some (98, false))⟩,
 ⟨.ld none (.t 99), (some 100), (some (98, false))⟩,
 ⟨.fad 4 (.t 7), (some 101), (some (98, false))⟩,
 ⟨.ld none (.t 101), (some 102), (some (98, false))⟩,
 ⟨.len false (.t 102), (some 103), (some (98, false))⟩,
 ⟨.bin true .sub (.t 103) (.c (.int .i64 1)), (some 104), (some (98, false))⟩,
 ⟨.iad 1 (.t 100) (.t 104), (some 105), (some (98, false))⟩,
 ⟨.ld none (.t 105), (some 106), (some (98, false))⟩,
 ⟨.fad 3 (.t 9), (some 107), (some (98, false))⟩,
 ⟨.ld none (.t 107), (some 108), (some (98, false))⟩,
 ⟨.bin false .neq (.t 106) (.t 108), (some 109), (some (98, false))⟩,
 mo (.pick (.t 98) (.c (.bool true)) (.t 109)) 110]
 [[],[0],[1],[2],[3],[4,3],[3],[6,3],[5,7,3],[3,8],[9,3],[10],[11,10],[10],[13,10],[12,14,10],[10,15],[16,10],[17],[18,17],[17],[20,17],[21,17],[22,17],[19,23,17],[24,17],[17],[26,17],[25,27,17],[17,28]]
 [[],[0],[0,1],[0,1,2],[0,1,2,3],[0,1,2,3,4],[0,1,2,3],[0,1,2,3,6],[0,1,2,3,4,5,6,7],[0,1,2,3,4,5,6,7,8],[0,1,2,3,4,5,6,7,8,9],[0,1,2,3,4,5,6,7,8,9,10],[0,1,2,3,4,5,6,7,8,9,10,11],[0,1,2,3,4,5,6,7,8,9,10],[0,1,2,3,4,5,6,7,8,9,10,13],[0,1,2,3,4,5,6,7,8,9,10,11,12,13,14],[0,1,2,3,4,5,6,7,8,9,10,11,12,13,14,15],[0,1,2,3,4,5,6,7,8,9,10,11,12,13,14,15,16],[0,1,2,3,4,5,6,7,8,9,10,11,12,13,14,15,16,17],[0,1,2,3,4,5,6,7,8,9,10,11,12,13,14,15,16,17,18],[0,1,2,3,4,5,6,7,8,9,10,11,12,13,14,15,16,17],[0,1,2,3,4,5,6,7,8,9,10,11,12,13,14,15,16,17,20],[0,1,2,3,4,5,6,7,8,9,10,11,12,13,14,15,16,17,20,21],[0,1,2,3,4,5,6,7,8,9,10,11,12,13,14,15,16,17,20,21,22],[0,1,2,3,4,5,6,7,8,9,10,11,12,13,14,15,16,17,18,19,20,21,22,23],[0,1,2,3,4,5,6,7,8,9,10,11,12,13,14,15,16,17,18,19,20,21,22,23,24],[0,1,2,3,4,5,6,7,8,9,10,11,12,13,14,15,16,17],[0,1,2,3,4,5,6,7,8,9,10,11,12,13,14,15,16,17,26],[0,1,2,3,4,5,6,7,8,9,10,11,12,13,14,15,16,17,18,19,20,21,22,23,24,25,26,27],[0,1,2,3,4,5,6,7,8,9,10,11,12,13,14,15,16,17,18,19,20,21,22,23,24,25,26,27,28]])
 (.cond (.t 110)
 (.seq (.reg [mo (.mv (.c (.bool false))) 8])
 .ret)
 .skip))
 (.seq (.seq (.note (.gc [4,5,7,9,129,130,131,132,133,134]) (.reg [mo (.ld (some 2) (.t 5)) 112,
 mo (.fad 0 (.t 7)) 113,
 mo (.ld none (.t 113)) 114,
 mo (.fad 3 (.t 9)) 115,
 mo (.ld none (.t 115)) 116,
 mo (.fad 1 (.t 7)) 117,
 mo (.ld none (.t 117)) 118,
 mo (.call (.f 39) [(.t 112),(.t 114),(.t 116),(.t 118)] [] []) 119,
 mo (.mv (.t 119)) 111,
 mo (.ext 0 (.t 111)) 120,
 mo (.ext 1 (.t 111)) 121,
 mo (.mv (.t 120)) 10,
 mo (.mv (.t 121)) 11]))
 (.seq (.reg [mo (.mv (.t 11)) 122,
 mo (.not (.t 122)) 123])
 (.cond (.t 123)
 (.seq (.reg [mo (.mv (.c (.bool false))) 8])
 .ret)
 .skip)))
 (.seq (.note (.gc [4,7,129,130,131,132,133,134]) (.regI [.op (mo (.fad 4 (.t 7)) 124),
 .op (mo (.ld none (.t 124)) 125),
 .op (mo (.len false (.t 125)) 126),
 .op (mo (.bin false .eql (.t 126) (.c (.int .i64 1))) 127),
 .op (mo (.mv (.t 127)) 128),
 .grp mg_5h,
 .op (mo (.mv (.t 135)) 8)]))
 .ret))))))))
theorem Wq_b (d_ : GDirectory) (a_ : GEstate) (p_ : Int) (r_ : GReading) {Q : Bool → Prop} {Q' : V → Heap → Prop} (h : Ok (F_b d_ a_ p_ r_) Q) (hQ : ∀ z, Q z → Q' (.bool z) []) : ACall Tryz.prog 16 [GDirectory.v d_, GEstate.v a_, .int .i64 p_, GReading.v r_] [] Q' := by
 refine acallM mc_b [] [] [.t 8] Tryz.func16 fun M => ?_
 unfold F_b at h
 unfold mc_b
 replace h := tY h
 refine tB ?_
 repeat' (first
 | (exact tZ)
 | ((first | refine oblg h ?_ | refine roomG h ?_ | refine fork h ?_ ?_ | refine forkS h ?_ ?_) <;> clear h <;> intro hc h)
 | (obtain ⟨y, hy, h⟩ := h; (first | with_reducible first | have hw := W_2 hy | have hw := W_3 hy | have hw := W_s hy | have hw := W_j hy | have hw := W_1m hy | have hw := W_1n hy); replace hw := tY hw; (first | refine M.sC hw ?_ | refine M.sD hw ?_); clear hw hy; refine tB ?_)
 | (refine M.gj1 (ms := mg_5e) [] [] (fun y => [(49, .bool y)]) (fun y => []) h ?_ ?_ <;> first
 | (clear h; intro Qn K hK1 h; unfold mg_5e; replace h := tY h; refine tB ?_)
  |(clear h; intro y h; replace h := tY h; refine tB ?_))
 | (refine M.gv1 (ms := mg_5d) 39 [35,36,37,38] h ?_ ?_ <;> first
 | (clear h; intro K hK2; unfold mg_5d; refine tB ?_)
 | (clear h; intro b h; replace h := tY h; refine tB ?_))
 | (refine M.gj1 (ms := mg_5h) [] [] (fun y => [(135, .bool y)]) (fun y => []) h ?_ ?_ <;> first
 | (clear h; intro Qn K hK3 h; unfold mg_5h; replace h := tY h; refine tB ?_)
  |(clear h; intro y h; replace h := tY h; refine tB ?_))
 | (refine M.gv1 (ms := mg_5g) 66 [62,63,64,65] h ?_ ?_ <;> first
 | (clear h; intro K hK4; unfold mg_5g; refine tB ?_)
 | (clear h; intro b h; replace h := tY h; refine tB ?_))
 | (refine M.gv1 (ms := mg_5f) 60 [54,55,56,57,58,59] h ?_ ?_ <;> first
 | (clear h; intro K hK5; unfold mg_5f; refine tB ?_)
 | (clear h; intro b h; replace h := tY h; refine tB ?_))
 | ((first | refine hK1 _ ?_ | refine hK3 _ ?_); (try refine tB ?_); refine ⟨_, h, ?_⟩; exact tU0; done)
 | ((first | refine hK2 _ ?_ | refine hK4 _ ?_ | refine hK5 _ ?_); exact tU; done)
 | (refine bfork (fun hc => ?_) (fun hc => ?_))
 | (refine tE ?_; (first | rw [M.lok_compU] | rw [M.lokD_compU]); refine tB ?_)
 | (refine tA ?_))
def W_b {d_ a_ p_ r_ y} (hy : (F_b d_ a_ p_ r_) = some y) := acW (Wq_b d_ a_ p_ r_) hy
noncomputable def F_1a : Option Bool :=
 (F_n (GDirectory.mk [1,2] [(GMember.mk 0 1 0 1)]) (GEstate.mk 1 [(GAccess.mk 0 1 0 1 0 0 0)]) 0 0).bind fun y2 => (F_i (GDirectory.mk [1,2] [(GMember.mk 0 1 0 1)]) (GEstate.mk 1 [(GAccess.mk 0 1 0 1 0 0 0)]) 0 0 0).bind fun y4 => grp ((decide (y2.2 = 0) && (!y2.1.Public))) fun b13 => jn (α := Bool) (bif b13 then (F_y y2.1.Principals [0]).bind fun y15 => some y15 else some false) fun j16 => grp ((j16 && y4.2)) fun b17 => jn (α := Bool) (bif b17 then (F_b (GDirectory.mk [1,2] [(GMember.mk 0 1 0 1)]) (GEstate.mk 1 [(GAccess.mk 0 1 0 1 0 0 0)]) 0 y4.1).bind fun y19 => some y19 else some false) fun j20 => jn (α := Bool) (bif j20 then (F_9 (GDirectory.mk [1,2] [(GMember.mk 0 1 0 1)]) (GEstate.mk 1 [(GAccess.mk 0 1 0 1 0 0 0)]) 1 0 0).bind fun y22 => some (!y22) else some false) fun j23 => some j23
@[irreducible] def mg_5i : List MOp := [⟨.fad 0 (.t 3), (some 29), (some (28, true))⟩,
 ⟨.ld none (.t 29), (some 30), (some (28, true))⟩,
 ⟨.not (.t 30), (some 31), (some (28, true))⟩,
 mo (.pick (.t 28) (.t 31) (.c (.bool false))) 32]
@[irreducible] def mg_5j : List MOp := [⟨.fad 1 (.t 3), (some 34), (some (33, true))⟩,
 ⟨.ld none (.t 34), (some 35), (some (33, true))⟩,
 ⟨.lsl 1 [(.c (.int .i64 0))], (some 36), (some (33, true))⟩,
 ⟨.call (.f 23) [(.t 35),(.t 36)] [] [], (some 37), (some (33, true))⟩,
 mo (.pick (.t 33) (.t 37) (.c (.bool false))) 38]
@[irreducible] def mg_5k : List MOp := [⟨.mv (.t 6), (some 40), (some (39, true))⟩,
 mo (.pick (.t 39) (.t 40) (.c (.bool false))) 41]
@[irreducible] def mg_5l : List MOp := [⟨.ld (some 2) (.t 1), (some 43), (some (42, true))⟩,
 ⟨.ld (some 2) (.t 2), (some 44), (some (42, true))⟩,
 ⟨.ld (some 5) (.t 5), (some 45), (some (42, true))⟩,
 ⟨.call (.f 16) [(.t 43),(.t 44),(.c (.int .i64 0)),(.t 45)] [] [], (some 46), (some (42, true))⟩,
 mo (.pick (.t 42) (.t 46) (.c (.bool false))) 47]
@[irreducible] def mg_5m : List MOp := [⟨.ld (some 2) (.t 1), (some 49), (some (48, true))⟩,
 ⟨.ld (some 2) (.t 2), (some 50), (some (48, true))⟩,
 ⟨.call (.f 14) [(.t 49),(.t 50),(.c (.int .i64 1)),(.c (.int .i64 0)),(.c (.int .i64 0))] [] [], (some 51), (some (48, true))⟩,
 ⟨.not (.t 51), (some 52), (some (48, true))⟩,
 mo (.pick (.t 48) (.t 52) (.c (.bool false))) 53]
def mc_1a : MC :=
 (.seq (.reg [mo (.mv (.c (.bool false))) 0])
 (.seq (.reg [mo (.bslice 1 [(.c (.int .i64 1)),(.c (.int .i64 2))]) 7,
 mo (.build [(.int .i64 0),(.int .i64 0),(.int .i64 0),(.int .i64 0)] [(1,1,(.c (.int .i64 1))), (2,1,(.c (.int .i64 0))), (3,1,(.c (.int .i64 1)))]) 8,
 mo (.bslice 4 [(.t 8)]) 9,
 mo (.build [(.sl []),(.sl [])] [(0,1,(.t 7)), (1,1,(.t 9))]) 10,
 mo (.alloc [(.sl []),(.sl [])]) 1,
 ⟨.st 2 (.t 1) (.t 10), none, none⟩])
 (.seq (.reg [mo (.build [(.int .i64 0),(.int .i64 0),(.int .i64 0),(.int .i64 0),(.int .i64 0),(.int .i64 0),(.int .i64 0)] [(1,1,(.c (.int .i64 1))), (3,1,(.c (.int .i64 1)))]) 11,
 mo (.bslice 7 [(.t 11)]) 12,
 mo (.build [(.int .i64 0),(.sl [])] [(0,1,(.c (.int .i64 1))), (1,1,(.t 12))]) 13,
 mo (.alloc [(.int .i64 0),(.sl [])]) 2,
 ⟨.st 2 (.t 2) (.t 13), none, none⟩])
 (.seq (.note (.gc [1,2,29,30,31,34,35,36,37,40,43,44,45,46,49,50,51,52]) (.regI [.op (mo (.ld (some 2) (.t 1)) 15),
 .op (mo (.ld (some 2) (.t 2)) 16),
 .nt (.fz 15),
 .nt (.fz 16),
 .op (mo (.call (.f 11) [(.t 15),(.t 16),(.c (.int .i64 0)),(.c (.int .i64 0))] [] []) 17),
 .op (mo (.mv (.t 17)) 14),
 .op (mo (.ext 0 (.t 14)) 18),
 .op (mo (.ext 1 (.t 14)) 19),
 .op (mo (.alloc [(.bool false),(.sl [])]) 3),
 .op ⟨.st 2 (.t 3) (.t 18), none, none⟩,
 .op (mo (.mv (.t 19)) 4)]))
 (.seq (.reg [mo (.ld (some 2) (.t 1)) 21,
 mo (.ld (some 2) (.t 2)) 22,
 mo (.call (.f 13) [(.t 21),(.t 22),(.c (.int .i64 0)),(.c (.int .i64 0)),(.c (.int .i64 0))] [] []) 23,
 mo (.mv (.t 23)) 20,
 mo (.ext 0 (.t 20)) 24,
 mo (.ext 1 (.t 20)) 25,
 mo (.alloc [(.int .i64 0),(.int .i64 0),(.int .i64 0),(.int .i64 0),(.sl [])]) 5,
 ⟨.st 5 (.t 5) (.t 24), none, none⟩,
 mo (.mv (.t 25)) 6])
 (.seq (.note (.gc [1,2,3,4,5,6,29,30,31,34,35,36,37,40,43,44,45,46,49,50,51,52]) (.regI [.op (mo (.mv (.t 4)) 26),
 .op (mo (.bin false .eql (.t 26) (.c (.int .i64 0))) 27),
 .op (mo (.mv (.t 27)) 28),
 .grp mg_5i,
 .op (mo (.mv (.t 32)) 33),
 .grp mg_5j,
 .op (mo (.mv (.t 38)) 39),
 .grp mg_5k,
 .op (mo (.mv (.t 41)) 42),
 .grp mg_5l,
 .op (mo (.mv (.t 47)) 48),
 .grp mg_5m,
 .op (mo (.mv (.t 53)) 0)]))
 .ret))))))
theorem Wq_1a {Q : Bool → Prop} {Q' : V → Heap → Prop} (h : Ok F_1a Q) (hQ : ∀ z, Q z → Q' (.bool z) []) : ACall Tryz.prog 5 [] [] Q' := by
 refine acallM mc_1a [] [] [.t 0] Tryz.func5 fun M => ?_
 unfold F_1a at h
 unfold mc_1a
 replace h := tY h
 refine tB ?_
 repeat' (first
 | (exact tZ)
 | ((first | refine oblg h ?_ | refine roomG h ?_ | refine fork h ?_ ?_ | refine forkS h ?_ ?_) <;> clear h <;> intro hc h)
 | (obtain ⟨y, hy, h⟩ := h; (first | with_reducible first | have hw := W_n hy | have hw := W_i hy | have hw := W_y hy | have hw := W_b hy | have hw := W_9 hy); replace hw := tY hw; (first | refine M.sC hw ?_ | refine M.sD hw ?_); clear hw hy; refine tB ?_)
 | (refine M.gj1 (ms := mg_5m) [] [] (fun y => [(53, .bool y)]) (fun y => []) h ?_ ?_ <;> first
 | (clear h; intro Qn K hK1 h; unfold mg_5m; replace h := tY h; refine tB ?_)
  |(clear h; intro y h; replace h := tY h; refine tB ?_))
 | (refine M.gj1 (ms := mg_5l) [1,2] [2,1] (fun y => [(47, .bool y)]) (fun y => []) h ?_ ?_ <;> first
 | (clear h; intro Qn K hK2 h; unfold mg_5l; replace h := tY h; refine tB ?_)
  |(clear h; intro y h; replace h := tY h; refine tB ?_))
 | (refine M.gv1 (ms := mg_5k) 41 [40] h ?_ ?_ <;> first
 | (clear h; intro K hK3; unfold mg_5k; refine tB ?_)
 | (clear h; intro b h; replace h := tY h; refine tB ?_))
 | (refine M.gj1 (ms := mg_5j) [1,2,5,6] [5,2,1] (fun y => [(38, .bool y)]) (fun y => []) h ?_ ?_ <;> first
 | (clear h; intro Qn K hK4 h; unfold mg_5j; replace h := tY h; refine tB ?_)
  |(clear h; intro y h; replace h := tY h; refine tB ?_))
 | (refine M.gv1 (ms := mg_5i) 32 [29,30,31] h ?_ ?_ <;> first
 | (clear h; intro K hK5; unfold mg_5i; refine tB ?_)
 | (clear h; intro b h; replace h := tY h; refine tB ?_))
 | ((first | refine hK1 _ ?_ | refine hK2 _ ?_ | refine hK4 _ ?_); (try refine tB ?_); refine ⟨_, h, ?_⟩; exact tU0; done)
 | ((first | refine hK3 _ ?_ | refine hK5 _ ?_); exact tU; done)
 | (refine bfork (fun hc => ?_) (fun hc => ?_))
 | (refine tE ?_; (first | rw [M.lok_compU] | rw [M.lokD_compU]); refine tB ?_)
 | (refine tA ?_))
def W_1a {y} (hy : F_1a = some y) := acW (Wq_1a) hy
end Go.Ab
