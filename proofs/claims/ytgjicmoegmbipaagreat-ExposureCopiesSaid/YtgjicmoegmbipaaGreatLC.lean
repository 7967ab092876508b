/- What the functions of this seat that lie on the laws' road compute (part LC), each for every input. By AI agents. -/
import Derived.Test.YtgjicmoegmbipaaGreatProg
import Derived.KernelRfl
import Derived.Test.YtgjicmoegmbipaaGreatAbFun
import Derived.Test.YtgjicmoegmbipaaGreatLB
set_option linter.all false
set_option linter.all false
set_option maxRecDepth 20000
set_option maxHeartbeats 2000000
namespace Go.Ab
open Go.Proofs
structure GTape where
 L : List Int
 at_ : Int
instance : Inhabited GTape := ⟨⟨default, default⟩⟩
def GTape.v (x : GTape) : V := .agg [.sl (x.L.map (V.int .i64)), .int .i64 x.at_]
theorem incl_0 {b : Int} {n : Nat} : (inc 0 b n = true) = (((0 : Nat) : Int) ≤ b ∧ b ≤ (n : Int)) := propext (by rw [inc_iff]; omega)
attribute [go_sem] incl_0
attribute [go_sem] GTape.v
def F_3c (b_ : List GExposure) (k11 : Int) (a12 : GExposure) (x10 : Unit) : Option (Fl Unit Bool) :=
 chk (inb k11 b_.length) (bif (!(decide (a12.Principal = (b_.getD (k11).toNat default).Principal) && decide (a12.Time = (b_.getD (k11).toNat default).Time))) then some (.ex false) else some (.nx ()))
def F_1y (a_ : List GExposure) (b_ : List GExposure) : Option Bool :=
 bif (!decide ((a_.length : Int) = (b_.length : Int))) then some false else (forL (F_3c b_) a_ 0 ()).bind fun o => o.elim (fun x13 => some true) (fun r14 => some r14)
@[irreducible] def mc_3c : MC :=
 (.seq (.reg [mo (.bin false .lss (.t 13) (.t 12)) 14])
 (.seq (.cond (.t 14)
 .skip
 (.exit 0))
 (.seq (.block 1
 (.seq (.reg [mo (.mv (.t 13)) 15,
 mo (.mv (.t 15)) 5])
 (.seq (.regD [mo (.mv (.t 0)) 16,
 mo (.mv (.t 5)) 17,
 mo (.iad 2 (.t 16) (.t 17)) 18,
 mo (.ld (some 2) (.t 18)) 19,
 mo (.mv (.t 1)) 20,
 mo (.mv (.t 5)) 21,
 mo (.iad 2 (.t 20) (.t 21)) 22,
 mo (.ld (some 2) (.t 22)) 23,
 mo (.eqs true [0,0] (.t 19) (.t 23)) 24]
 [[],[],[0,1],[2],[],[],[4,5],[6],[3,7]]
 [[],[],[0,1],[0,1,2],[],[],[4,5],[4,5,6],[0,1,2,3,4,5,6,7]])
 (.cond (.t 24)
 (.seq (.reg [mo (.mv (.c (.bool false))) 4])
 .ret)
 .skip))))
 (.reg [mo (.bin true .add (.t 13) (.c (.int .i64 1))) 25,
 mo (.mv (.t 25)) 13]))))
def mc_1y : MC :=
 (.seq (.reg [mo (.mv (.c (.bool false))) 4])
 (.seq (.seq (.reg [mo (.mv (.t 0)) 6,
 mo (.len false (.t 6)) 7,
 mo (.mv (.t 1)) 8,
 mo (.len false (.t 8)) 9,
 mo (.bin false .neq (.t 7) (.t 9)) 10])
 (.cond (.t 10)
 (.seq (.reg [mo (.mv (.c (.bool false))) 4])
 .ret)
 .skip))
 (.seq (.seq (.reg [mo (.mv (.t 0)) 11,
 mo (.len false (.t 11)) 12,
 mo (.mv (.c (.int .i64 0))) 13])
 (.block 0
 (.loop mc_3c)))
 (.seq (.reg [mo (.mv (.c (.bool true))) 4])
 .ret))))
theorem Wq_1y (a_ : List GExposure) (b_ : List GExposure) {Q : Bool → Prop} {Q' : V → Heap → Prop} (h : Ok (F_1y a_ b_) Q) (hQ : ∀ z, Q z → Q' (.bool z) []) : ACall Tryz.prog 14 [.sl (a_.map GExposure.v), .sl (b_.map GExposure.v)] [] Q' := by
 refine acallM mc_1y [] [] [.t 4] Tryz.func14 fun M => ?_
 unfold F_1y at h
 unfold mc_1y
 replace h := tY h
 refine tB ?_
 repeat' (first
 | (exact tZ)
 | ((first | refine oblg h ?_ | refine roomG h ?_ | refine fork h ?_ ?_ | refine forkS h ?_ ?_) <;> clear h <;> intro hc h)
 | (refine M.for1 (b := mc_3c) 13 [0,1,12] [] (fun x => []) (fun x => []) [] h ?_ ?_ ?_ <;> first
 | (clear h; intro k a x Qn K hK1 hkN1 ha1 h hf; have hl := fact_int (factsE_find (n := 12) hf.1 rfl); clear hf; have hkd := kD hkN1; have hkB1 := kB hkN1; have hkI1 := kI (k := k) (by omega); unfold F_3c at h; unfold mc_3c; replace h := tY h; refine tK ha1 hkd hkN1 hkB1 hkI1 ?_)
  |(clear h; intro x K h; replace h := And.left (And.intro h trivial); unfold mc_3c; replace h := tY h; refine tB ?_)
  |(clear h; (try refine tB ?_); exact tU0; done))
 | (simp only [ha1])
 | (refine hK1 _ ?_; (try refine tB ?_); refine ⟨_, h, ?_⟩; exact tU0; done)
 | (refine tE ?_; (first | rw [M.lok_compU] | rw [M.lokD_compU]); refine tB ?_)
 | (refine tA ?_))
def W_1y {a_ b_ y} (hy : (F_1y a_ b_) = some y) := acW (Wq_1y a_ b_) hy
def F_b (x_ : Int) (low_ : Int) (high_ : Int) : Option Bool :=
 grp ((decide (low_ ≤ x_) && decide (x_ ≤ high_))) fun b2 => some b2
@[irreducible] def mg_4o : List MOp := [⟨.mv (.t 0), (some 11), (some (10, true))⟩,
 ⟨.mv (.t 2), (some 12), (some (10, true))⟩,
 ⟨.bin false .leq (.t 11) (.t 12), (some 13), (some (10, true))⟩,
 mo (.pick (.t 10) (.t 13) (.c (.bool false))) 14]
def mc_b : MC :=
 (.seq (.reg [mo (.mv (.c (.bool false))) 6])
 (.seq (.regI [.op (mo (.mv (.t 0)) 7),
 .op (mo (.mv (.t 1)) 8),
 .op (mo (.bin false .geq (.t 7) (.t 8)) 9),
 .op (mo (.mv (.t 9)) 10),
 .grp mg_4o,
 .op (mo (.mv (.t 14)) 6)])
 .ret))
theorem Wq_b (x_ : Int) (low_ : Int) (high_ : Int) {Q : Bool → Prop} {Q' : V → Heap → Prop} (h : Ok (F_b x_ low_ high_) Q) (hQ : ∀ z, Q z → Q' (.bool z) []) : ACall Tryz.prog 55 [.int .i64 x_, .int .i64 low_, .int .i64 high_] [] Q' := by
 refine acallM mc_b [] [] [.t 6] Tryz.func55 fun M => ?_
 unfold F_b at h
 unfold mc_b
 replace h := tY h
 refine tB ?_
 repeat' (first
 | (exact tZ)
 | ((first | refine oblg h ?_ | refine roomG h ?_ | refine fork h ?_ ?_ | refine forkS h ?_ ?_) <;> clear h <;> intro hc h)
 | (refine M.gv1 (ms := mg_4o) 14 [11,12,13] h ?_ ?_ <;> first
 | (clear h; intro K hK1; unfold mg_4o; refine tB ?_)
 | (clear h; intro b h; replace h := tY h; refine tB ?_))
 | (refine hK1 _ ?_; exact tU; done)
 | (refine bfork (fun hc => ?_) (fun hc => ?_))
 | (refine tE ?_; (first | rw [M.lok_compU] | rw [M.lokD_compU]); refine tB ?_)
 | (refine tA ?_))
def W_b {x_ low_ high_ y} (hy : (F_b x_ low_ high_) = some y) := acW (Wq_b x_ low_ high_) hy
def F_3 (d_ : GDirectory) (p_ : Int) : Option Bool :=
 chk (in64 ((d_.Kinds.length : Int) - 1)) ((F_b p_ 0 ((d_.Kinds.length : Int) - 1)).bind fun y2 => some y2)
def mc_3 : MC :=
 (.seq (.reg [mo (.box (.t 0)) 2,
 mo (.mv (.c (.bool false))) 4])
 (.seq (.reg [mo (.mv (.t 1)) 5,
 mo (.fad 0 (.t 2)) 6,
 mo (.ld none (.t 6)) 7,
 mo (.len false (.t 7)) 8,
 mo (.bin true .sub (.t 8) (.c (.int .i64 1))) 9,
 mo (.call (.f 55) [(.t 5),(.c (.int .i64 0)),(.t 9)] [] []) 10,
 mo (.mv (.t 10)) 4])
 .ret))
theorem Wq_3 (d_ : GDirectory) (p_ : Int) {Q : Bool → Prop} {Q' : V → Heap → Prop} (h : Ok (F_3 d_ p_) Q) (hQ : ∀ z, Q z → Q' (.bool z) []) : ACall Tryz.prog 38 [GDirectory.v d_, .int .i64 p_] [] Q' := by
 refine acallM mc_3 [] [] [.t 4] Tryz.func38 fun M => ?_
 unfold F_3 at h
 unfold mc_3
 replace h := tY h
 refine tB ?_
 repeat' (first
 | (exact tZ)
 | ((first | refine oblg h ?_ | refine roomG h ?_ | refine fork h ?_ ?_ | refine forkS h ?_ ?_) <;> clear h <;> intro hc h)
 | (obtain ⟨y, hy, h⟩ := h; have hw := W_b hy; replace hw := tY hw; (first | refine M.sC hw ?_ | refine M.sD hw ?_); clear hw hy; refine tB ?_)
 | (refine tE ?_; (first | rw [M.lok_compU] | rw [M.lokD_compU]); refine tB ?_)
 | (refine tA ?_))
def W_3 {d_ p_ y} (hy : (F_3 d_ p_) = some y) := acW (Wq_3 d_ p_) hy
def F_y (d_ : GDirectory) (p_ : Int) : Option Bool :=
 (F_3 d_ p_).bind fun y3 => jn (α := Bool) (bif y3 then chk (inb p_ d_.Kinds.length) (some (decide ((d_.Kinds.getD (p_).toNat default) = 2))) else some false) fun j4 => some j4
@[irreducible] def mg_4p : List MOp := [⟨.fad 0 (.t 2), (some 9), (some (8, true))⟩,
 ⟨.ld none (.t 9), (some 10), (some (8, true))⟩,
 ⟨.mv (.t 1), (some 11), (some (8, true))⟩,
 ⟨.iad 1 (.t 10) (.t 11), (some 12), (some (8, true))⟩,
 ⟨.ld none (.t 12), (some 13), (some (8, true))⟩,
 ⟨.bin false .eql (.t 13) (.c (.int .i64 2)), (some 14), (some (8, true))⟩,
 mo (.pick (.t 8) (.t 14) (.c (.bool false))) 15]
def mc_y : MC :=
 (.seq (.reg [mo (.box (.t 0)) 2,
 mo (.mv (.c (.bool false))) 4])
 (.seq (.regI [.op (mo (.ld (some 2) (.t 2)) 5),
 .op (mo (.mv (.t 1)) 6),
 .op (mo (.call (.f 38) [(.t 5),(.t 6)] [] []) 7),
 .op (mo (.mv (.t 7)) 8),
 .grp mg_4p,
 .op (mo (.mv (.t 15)) 4)])
 .ret))
theorem Wq_y (d_ : GDirectory) (p_ : Int) {Q : Bool → Prop} {Q' : V → Heap → Prop} (h : Ok (F_y d_ p_) Q) (hQ : ∀ z, Q z → Q' (.bool z) []) : ACall Tryz.prog 56 [GDirectory.v d_, .int .i64 p_] [] Q' := by
 refine acallM mc_y [] [] [.t 4] Tryz.func56 fun M => ?_
 unfold F_y at h
 unfold mc_y
 replace h := tY h
 refine tB ?_
 repeat' (first
 | (exact tZ)
 | ((first | refine oblg h ?_ | refine roomG h ?_ | refine fork h ?_ ?_ | refine forkS h ?_ ?_) <;> clear h <;> intro hc h)
 | (obtain ⟨y, hy, h⟩ := h; have hw := W_3 hy; replace hw := tY hw; (first | refine M.sC hw ?_ | refine M.sD hw ?_); clear hw hy; refine tB ?_)
 | (refine M.gj1 (ms := mg_4p) [4] [] (fun y => [(15, .bool y)]) (fun y => []) h ?_ ?_ <;> first
 | (clear h; intro Qn K hK1 h; unfold mg_4p; replace h := tY h; refine tB ?_)
  |(clear h; intro y h; replace h := tY h; refine tB ?_))
 | (refine hK1 _ ?_; (try refine tB ?_); refine ⟨_, h, ?_⟩; exact tU0; done)
 | (refine tE ?_; (first | rw [M.lok_compU] | rw [M.lokD_compU]); refine tB ?_)
 | (refine tA ?_))
def W_y {d_ p_ y} (hy : (F_y d_ p_) = some y) := acW (Wq_y d_ p_) hy
def F_2w (k35 : Int) (a36 : Int) (x34 : Unit) : Option (Fl Unit Bool) :=
 (F_b a36 1 3).bind fun y44 => bif (!y44) then some (.ex false) else some (.nx ())
def F_2x (d_ : GDirectory) (k177 : Int) (a178 : GMember) (x176 : Unit) : Option (Fl Unit Bool) :=
 (F_b a178.Kind 1 2).bind fun y221 => bif (!y221) then some (.ex false) else (F_b a178.Time 0 1099511627776).bind fun y222 => bif (!y222) then some (.ex false) else bif decide (0 < k177) then chk (in64 (k177 - 1)) (chk (inb (k177 - 1) d_.Events.length) (bif decide (a178.Time < (d_.Events.getD ((k177 - 1)).toNat default).Time) then some (.ex false) else (F_3 d_ a178.Principal).bind fun y223 => bif (!y223) then some (.ex false) else (F_y d_ a178.Group).bind fun y224 => bif (!y224) then some (.ex false) else bif decide (a178.Principal = a178.Group) then some (.ex false) else some (.nx ()))) else (F_3 d_ a178.Principal).bind fun y225 => bif (!y225) then some (.ex false) else (F_y d_ a178.Group).bind fun y226 => bif (!y226) then some (.ex false) else bif decide (a178.Principal = a178.Group) then some (.ex false) else some (.nx ())
def F_8 (d_ : GDirectory) : Option Bool :=
 grp ((decide (24 < (d_.Kinds.length : Int)) || decide (120 < (d_.Events.length : Int)))) fun b4 => bif b4 then some false else (forL F_2w d_.Kinds 0 ()).bind fun o => o.elim (fun x45 => (forL (F_2x d_) d_.Events 0 ()).bind fun o => o.elim (fun x227 => some true) (fun r228 => some r228)) (fun r46 => some r46)
@[irreducible] def mg_4q : List MOp := [⟨.fad 1 (.t 1), (some 12), (some (11, false))⟩,
 ⟨.ld none (.t 12), (some 13), (some (11, false))⟩,
 ⟨.len false (.t 13), (some 14), (some (11, false))⟩,
 ⟨.bin false .gtr (.t 14) (.c (.int .i64 120)), (some 15), (some (11, false))⟩,
 mo (.pick (.t 11) (.c (.bool true)) (.t 15)) 16]
@[irreducible] def mc_2w : MC :=
 (.seq (.reg [mo (.bin false .lss (.t 20) (.t 19)) 21])
 (.seq (.cond (.t 21)
 .skip
 (.exit 0))
 (.seq (.block 1
 (.seq (.reg [mo (.iad 1 (.t 18) (.t 20)) 22,
 mo (.ld none (.t 22)) 23,
 mo (.mv (.t 23)) 4])
 (.seq (.reg [mo (.mv (.t 4)) 24,
 mo (.call (.f 55) [(.t 24),(.c (.int .i64 1)),(.c (.int .i64 3))] [] []) 25,
 mo (.not (.t 25)) 26])
 (.cond (.t 26)
 (.seq (.reg [mo (.mv (.c (.bool false))) 2])
 .ret)
 .skip))))
 (.reg [mo (.bin true .add (.t 20) (.c (.int .i64 1))) 27,
 mo (.mv (.t 27)) 20]))))
@[irreducible] def mc_2x : MC :=
 (.seq (.reg [mo (.bin false .lss (.t 31) (.t 30)) 32])
 (.seq (.cond (.t 32)
 .skip
 (.exit 2))
 (.seq (.block 3
 (.seq (.reg [mo (.mv (.t 31)) 33,
 mo (.iad 4 (.t 29) (.t 31)) 34,
 mo (.ld (some 4) (.t 34)) 35,
 mo (.alloc [(.int .i64 0),(.int .i64 0),(.int .i64 0),(.int .i64 0)]) 6,
 mo (.mv (.t 33)) 5,
 ⟨.st 4 (.t 6) (.t 35), none, none⟩])
 (.seq (.regD [mo (.fad 1 (.t 6)) 36,
 mo (.ld none (.t 36)) 37,
 mo (.call (.f 55) [(.t 37),(.c (.int .i64 1)),(.c (.int .i64 2))] [] []) 38,
 mo (.not (.t 38)) 39,
 mo (.mv (.t 39)) 40,
 ⟨.fad 0 (.t 6), (some 41), (some (40, false))⟩,
 ⟨.ld none (.t 41), (some 42), (some (40, false))⟩,
 ⟨.call (.f 55) [(.t 42),(.c (.int .i64 0)),(.c (.int .i64 1099511627776))] [] [], (some 43), (some (40, false))⟩,
 ⟨.not (.t 43), (some 44), (some (40, false))⟩,
 mo (.pick (.t 40) (.c (.bool true)) (.t 44)) 45,
 mo (.mv (.t 45)) 46,
 ⟨.mv (.t 5), (some 47), (some (46, false))⟩,
 ⟨.bin false .gtr (.t 47) (.c (.int .i64 0)), (some 48), (some (46, false))⟩,
 ⟨.mv (.t 48), (some 49), (some (46, false))⟩,
 ⟨.fad 0 (.t 6), (some 50), (some (49, true))⟩,
 ⟨.ld none (.t 50), (some 51), (some (49, true))⟩,
 ⟨.fad 1 (.t 1), (some 52), (some (49, true))⟩,
 ⟨.ld none (.t 52), (some 53), (some (49, true))⟩,
 ⟨.mv (.t 5), (some 54), (some (49, true))⟩,
 ⟨.bin true .sub (.t 54) (.c (.int .i64 1)), (some 55), (some (49, true))⟩,
 ⟨.iad 4 (.t 53) (.t 55), (some 56), (some (49, true))⟩,
 ⟨.fad 0 (.t 56), (some 57), (some (49, true))⟩,
 ⟨.ld none (.t 57), (some 58), (some (49, true))⟩,
 ⟨.bin false .lss (.t 51) (.t 58), (some 59), (some (49, true))⟩,
 ⟨.pick (.t 49) (.t 59) (.c (.bool false)), (some 60), (some (46, false))⟩,
 mo (.pick (.t 46) (.c (.bool true)) (.t 60)) 61,
 mo (.mv (.t 61)) 62,
 ⟨.ld (some 2) (.t 1), (some 63), (some (62, false))⟩,
 ⟨.fad 2 (.t 6), (some 64), (some (62, false))⟩,
 ⟨.ld none (.t 64), (some 65), (some (62, false))⟩,
 ⟨.call (.f 38) [(.t 63),(.t 65)] [] [], (some 66), (some (62, false))⟩,
 ⟨.not (.t 66), (some 67), (some (62, false))⟩,
 mo (.pick (.t 62) (.c (.bool true)) (.t 67)) 68,
 mo (.mv (.t 68)) 69,
 ⟨.ld (some 2) (.t 1), (some 70), (some (69, false))⟩,
 ⟨.fad 3 (.t 6), (some 71), (some (69, false))⟩,
 ⟨.ld none (.t 71), (some 72), (some (69, false))⟩,
 ⟨.call (.f 56) [(.t 70),(.t 72)] [] [], (some 73), (some (69, false))⟩,
 ⟨.not (.t 73), (some 74), (some (69, false))⟩,
 mo (.pick (.t 69) (.c (.bool true)) (.t 74)) 75,
 mo (.mv (.t 75)) 76,
 ⟨.fad 2 (.t 6), (some 77), (some (76, false))⟩,
 ⟨.ld none (.t 77), (some 78), (some (76, false))⟩,
 ⟨.fad 3 (.t 6), (some 79), (some (76, false))⟩,
 ⟨.ld none (.t 79), (some 80), (some (76, false))⟩,
 ⟨.bin false .eql (.t 78) (.t 80), (some 81), (some (76, false))⟩,
 mo (.pick (.t 76) (.c (.bool true)) (.t 81)) 82]
 [[],[0],[1],[2],[3,2],[4],[5,4],[6,4,4],[7,4],[4,8],[9,7],[10],[11,10],[12,10,10],[13],[14,13],[13],[16,13],[13],[18,13],[17,19,13],[20,13],[21,13],[15,22,13],[13,23,10],[10,24],[25,13],[26],[26],[28,26],[27,29,26,26],[30,26],[26,31],[32,30],[33],[33],[35,33],[34,36,33,33],[37,33],[33,38],[39,37],[40],[41,40],[40],[43,40],[42,44,40],[40,45]]
 [[],[0],[0,1],[0,1,2],[0,1,2,3],[0,1,2,3,4],[0,1,2,3,4,5],[0,1,2,3,4,5,6],[0,1,2,3,4,5,6,7],[0,1,2,3,4,5,6,7,8],[0,1,2,3,4,5,6,7,8,9],[0,1,2,3,4,5,6,7,8,9,10],[0,1,2,3,4,5,6,7,8,9,10,11],[0,1,2,3,4,5,6,7,8,9,10,11,12],[0,1,2,3,4,5,6,7,8,9,10,11,12,13],[0,1,2,3,4,5,6,7,8,9,10,11,12,13,14],[0,1,2,3,4,5,6,7,8,9,10,11,12,13],[0,1,2,3,4,5,6,7,8,9,10,11,12,13,16],[0,1,2,3,4,5,6,7,8,9,10,11,12,13],[0,1,2,3,4,5,6,7,8,9,10,11,12,13,18],[0,1,2,3,4,5,6,7,8,9,10,11,12,13,16,17,18,19],[0,1,2,3,4,5,6,7,8,9,10,11,12,13,16,17,18,19,20],[0,1,2,3,4,5,6,7,8,9,10,11,12,13,16,17,18,19,20,21],[0,1,2,3,4,5,6,7,8,9,10,11,12,13,14,15,16,17,18,19,20,21,22],[0,1,2,3,4,5,6,7,8,9,10,11,12,13,14,15,16,17,18,19,20,21,22,23],[0,1,2,3,4,5,6,7,8,9,10,11,12,13,14,15,16,17,18,19,20,21,22,23,24],[0,1,2,3,4,5,6,7,8,9,10,11,12,13,14,15,16,17,18,19,20,21,22,23,24,25],[0,1,2,3,4,5,6,7,8,9,10,11,12,13,14,15,16,17,18,19,20,21,22,23,24,25,26],[0,1,2,3,4,5,6,7,8,9,10,11,12,13,14,15,16,17,18,19,20,21,22,23,24,25,26],[0,1,2,3,4,5,6,7,8,9,10,11,12,13,14,15,16,17,18,19,20,21,22,23,24,25,26,28],[0,1,2,3,4,5,6,7,8,9,10,11,12,13,14,15,16,17,18,19,20,21,22,23,24,25,26,27,28,29],[0,1,2,3,4,5,6,7,8,9,10,11,12,13,14,15,16,17,18,19,20,21,22,23,24,25,26,27,28,29,30],[0,1,2,3,4,5,6,7,8,9,10,11,12,13,14,15,16,17,18,19,20,21,22,23,24,25,26,27,28,29,30,31],[0,1,2,3,4,5,6,7,8,9,10,11,12,13,14,15,16,17,18,19,20,21,22,23,24,25,26,27,28,29,30,31,32],[0,1,2,3,4,5,6,7,8,9,10,11,12,13,14,15,16,17,18,19,20,21,22,23,24,25,26,27,28,29,30,31,32,33],[0,1,2,3,4,5,6,7,8,9,10,11,12,13,14,15,16,17,18,19,20,21,22,23,24,25,26,27,28,29,30,31,32,33],[0,1,2,3,4,5,6,7,8,9,10,11,12,13,14,15,16,17,18,19,20,21,22,23,24,25,26,27,28,29,30,31,32,33,35],[0,1,2,3,4,5,6,7,8,9,10,11,12,13,14,15,16,17,18,19,20,21,22,23,24,25,26,27,28,29,30,31,32,33,34,35,36],[0,1,2,3,4,5,6,7,8,9,10,11,12,13,14,15,16,17,18,19,20,21,22,23,24,25,26,27,28,29,30,31,32,33,34,35,36,37],[0,1,2,3,4,5,6,7,8,9,10,11,12,13,14,15,16,17,18,19,20,21,22,23,24,25,26,27,28,29,30,31,32,33,34,35,36,37,38],[0,1,2,3,4,5,6,7,8,9,10,11,12,13,14,15,16,17,18,19,20,21,22,23,24,25,26,27,28,29,30,31,32,33,34,35,36,37,38,39],[0,1,2,3,4,5,6,7,8,9,10,11,12,13,14,15,16,17,18,19,20,21,22,23,24,25,26,27,28,29,30,31,32,33,34,35,36,37,38,39,40],[0,1,2,3,4,5,6,7,8,9,10,11,12,13,14,15,16,17,18,19,20,21,22,23,24,25,26,27,28,29,30,31,32,33,34,35,36,37,38,39,40,41],[0,1,2,3,4,5,6,7,8,9,10,11,12,13,14,15,16,17,18,19,20,21,22,23,24,25,26,27,28,29,30,31,32,33,34,35,36,37,38,39,40],[0,1,2,3,4,5,6,7,8,9,10,11,12,13,14,15,16,17,18,19,20,21,22,23,24,25,26,27,28,29,30,31,32,33,34,35,36,37,38,39,40,43],[0,1,2,3,4,5,6,7,8,9,10,11,12,13,14,15,16,17,18,19,20,21,22,23,24,25,26,27,28,29,30,31,32,33,34,35,36,37,38,39,40,41,42,43,44],[0,1,2,3,4,5,6,7,8,9,10,11,12,13,14,15,16,17,18,19,20,21,22,23,24,25,26,27,28,29,30,31,32,33,34,35,36,37,38,39,40,41,42,43,44,45]])
 (.cond (.t 82)
 (.seq (.reg [mo (.mv (.c (.bool false))) 2])
 .ret)
 .skip))))
 (.reg [mo (.bin true .add (.t 31) (.c (.int .i64 1))) 83,
 mo (.mv (.t 83)) 31]))))
def mc_8 : MC :=
 (.seq (.reg [mo (.box (.t 0)) 1,
 mo (.mv (.c (.bool false))) 2])
 (.seq (.seq (.regI [.op (mo (.fad 0 (.t 1)) 7),
 .op (mo (.ld none (.t 7)) 8),
 .op (mo (.len false (.t 8)) 9),
 .op (mo (.bin false .gtr (.t 9) (.c (.int .i64 24))) 10),
 .op (mo (.mv (.t 10)) 11),
 .grp mg_4q])
 (.cond (.t 16)
 (.seq (.reg [mo (.mv (.c (.bool false))) 2])
 .ret)
 .skip))
 (.seq (.seq (.note (.gc [1,41,42,43,44,47,48,49,50,51,52,53,54,55,56,57,58,59,60,63,64,65,66,67,70,71,72,73,74,77,78,79,80,81]) (.reg [mo (.fad 0 (.t 1)) 17,
 mo (.ld none (.t 17)) 18,
 mo (.len false (.t 18)) 19,
 mo (.mv (.c (.int .i64 0))) 20]))
 (.block 0
 (.loop mc_2w)))
 (.seq (.seq (.reg [mo (.fad 1 (.t 1)) 28,
 mo (.ld none (.t 28)) 29,
 mo (.len false (.t 29)) 30,
 mo (.mv (.c (.int .i64 0))) 31])
 (.block 2
 (.loop mc_2x)))
 (.seq (.reg [mo (.mv (.c (.bool true))) 2])
 .ret)))))
theorem Wq_8 (d_ : GDirectory) {Q : Bool → Prop} {Q' : V → Heap → Prop} (h : Ok (F_8 d_) Q) (hQ : ∀ z, Q z → Q' (.bool z) []) : ACall Tryz.prog 33 [GDirectory.v d_] [] Q' := by
 refine acallM mc_8 [] [] [.t 2] Tryz.func33 fun M => ?_
 unfold F_8 at h
 unfold mc_8
 replace h := tY h
 refine tB ?_
 repeat' (first
 | (exact tZ)
 | ((first | refine oblg h ?_ | refine roomG h ?_ | refine fork h ?_ ?_ | refine forkS h ?_ ?_) <;> clear h <;> intro hc h)
 | (obtain ⟨y, hy, h⟩ := h; (first | with_reducible first | have hw := W_b hy | have hw := W_3 hy | have hw := W_y hy); replace hw := tY hw; (first | refine M.sC hw ?_ | refine M.sD hw ?_); clear hw hy; refine tB ?_)
 | (refine M.for1 (b := mc_2w) 20 [1,18,19] [1] (fun x => []) (fun x => []) [] h ?_ ?_ ?_ <;> first
 | (clear h; intro k a x Qn K hK1 hkN1 ha1 h hf; have hl := fact_int (factsE_find (n := 19) hf.1 rfl); clear hf; have hkd := kD hkN1; have hkB1 := kB hkN1; have hkI1 := kI (k := k) (by omega); unfold F_2w at h; unfold mc_2w; replace h := tY h; refine tK ha1 hkd hkN1 hkB1 hkI1 ?_)
  |(clear h; intro x K h; replace h := And.left (And.intro h trivial); unfold mc_2w; replace h := tY h; refine tB ?_)
  |(clear h; (try refine tB ?_); exact tU0; done))
 | (refine M.for1 (b := mc_2x) 31 [1,29,30] [1] (fun x => []) (fun x => []) [] h ?_ ?_ ?_ <;> first
 | (clear h; intro k a x Qn K hK2 hkN2 ha2 h hf; have hl := fact_int (factsE_find (n := 30) hf.1 rfl); clear hf; have hkd := kD hkN2; have hkB2 := kB hkN2; have hkI2 := kI (k := k) (by omega); unfold F_2x at h; unfold mc_2x; replace h := tY h; refine tK ha2 hkd hkN2 hkB2 hkI2 ?_)
  |(clear h; intro x K h; replace h := And.left (And.intro h trivial); unfold mc_2x; replace h := tY h; refine tB ?_)
  |(clear h; (try refine tB ?_); exact tU0; done))
 | (refine M.gv1 (ms := mg_4q) 16 [12,13,14,15] h ?_ ?_ <;> first
 | (clear h; intro K hK3; unfold mg_4q; refine tB ?_)
 | (clear h; intro b h; replace h := tY h; refine tB ?_))
 | (first | simp only [ha1] | simp only [ha2])
 | ((first | refine hK1 _ ?_ | refine hK2 _ ?_); (try refine tB ?_); refine ⟨_, h, ?_⟩; exact tU0; done)
 | (refine hK3 _ ?_; exact tU; done)
 | (refine bfork (fun hc => ?_) (fun hc => ?_))
 | (refine tE ?_; (first | rw [M.lok_compU] | rw [M.lokD_compU]); refine tB ?_)
 | (refine tA ?_))
def W_8 {d_ y} (hy : (F_8 d_) = some y) := acW (Wq_8 d_) hy
def F_5 (x_ : Int) (low_ : Int) (high_ : Int) : Option Bool :=
 grp ((decide (low_ ≤ x_) && decide (x_ ≤ high_))) fun b2 => some b2
@[irreducible] def mg_4r : List MOp := [⟨.mv (.t 0), (some 11), (some (10, true))⟩,
 ⟨.mv (.t 2), (some 12), (some (10, true))⟩,
 ⟨.bin false .leq (.t 11) (.t 12), (some 13), (some (10, true))⟩,
 mo (.pick (.t 10) (.t 13) (.c (.bool false))) 14]
def mc_5 : MC :=
 (.seq (.reg [mo (.mv (.c (.bool false))) 6])
 (.seq (.regI [.op (mo (.mv (.t 0)) 7),
 .op (mo (.mv (.t 1)) 8),
 .op (mo (.bin false .geq (.t 7) (.t 8)) 9),
 .op (mo (.mv (.t 9)) 10),
 .grp mg_4r,
 .op (mo (.mv (.t 14)) 6)])
 .ret))
theorem Wq_5 (x_ : Int) (low_ : Int) (high_ : Int) {Q : Bool → Prop} {Q' : V → Heap → Prop} (h : Ok (F_5 x_ low_ high_) Q) (hQ : ∀ z, Q z → Q' (.bool z) []) : ACall Tryz.prog 54 [.int .i64 x_, .int .i64 low_, .int .i64 high_] [] Q' := by
 refine acallM mc_5 [] [] [.t 6] Tryz.func54 fun M => ?_
 unfold F_5 at h
 unfold mc_5
 replace h := tY h
 refine tB ?_
 repeat' (first
 | (exact tZ)
 | ((first | refine oblg h ?_ | refine roomG h ?_ | refine fork h ?_ ?_ | refine forkS h ?_ ?_) <;> clear h <;> intro hc h)
 | (refine M.gv1 (ms := mg_4r) 14 [11,12,13] h ?_ ?_ <;> first
 | (clear h; intro K hK1; unfold mg_4r; refine tB ?_)
 | (clear h; intro b h; replace h := tY h; refine tB ?_))
 | (refine hK1 _ ?_; exact tU; done)
 | (refine bfork (fun hc => ?_) (fun hc => ?_))
 | (refine tE ?_; (first | rw [M.lok_compU] | rw [M.lokD_compU]); refine tB ?_)
 | (refine tA ?_))
def W_5 {x_ low_ high_ y} (hy : (F_5 x_ low_ high_) = some y) := acW (Wq_5 x_ low_ high_) hy
def F_1l (a_ : GEstate) (x_ : GAccess) : Option Bool :=
 (F_5 x_.Time 0 1099511627776).bind fun y7 => bif (!y7) then some false else chk (in64 (a_.Places - 1)) ((F_5 x_.Place 0 (a_.Places - 1)).bind fun y8 => bif (!y8) then some false else jn (α := Bool) (bif decide (x_.Kind = 1) then some true else some (decide (x_.Kind = 2))) fun j29 => bif j29 then jn (α := Bool) (bif (decide (x_.Time = x_.Time) && (decide (x_.Kind = x_.Kind) && (decide (x_.Place = x_.Place) && (decide (x_.Principal = x_.Principal) && (decide (x_.Until = 0) && (decide (x_.Content = 0) && decide (x_.From = 0))))))) then (F_5 x_.Principal 0 23).bind fun y33 => some y33 else some false) fun j34 => some j34 else bif decide (x_.Kind = 3) then grp (((decide (x_.Time = x_.Time) && (decide (x_.Kind = x_.Kind) && (decide (x_.Place = x_.Place) && (decide (x_.Principal = 0) && (decide (x_.Until = x_.Until) && (decide (x_.Content = 0) && decide (x_.From = 0))))))) && decide (x_.Time < x_.Until))) fun b37 => grp ((b37 && decide (x_.Until ≤ 1099511627776))) fun b38 => some b38 else bif decide (x_.Kind = 4) then some (decide (x_.Time = x_.Time) && (decide (x_.Kind = x_.Kind) && (decide (x_.Place = x_.Place) && (decide (x_.Principal = 0) && (decide (x_.Until = 0) && (decide (x_.Content = 0) && decide (x_.From = 0))))))) else jn (α := Bool) (bif decide (x_.Kind = 5) then some true else some (decide (x_.Kind = 6))) fun j39 => bif j39 then jn (α := Bool) (bif (decide (x_.Time = x_.Time) && (decide (x_.Kind = x_.Kind) && (decide (x_.Place = x_.Place) && (decide (x_.Principal = 0) && (decide (x_.Until = 0) && (decide (x_.Content = x_.Content) && decide (x_.From = 0))))))) then (F_5 x_.Content 0 63).bind fun y43 => some y43 else some false) fun j44 => some j44 else bif decide (x_.Kind = 7) then jn (α := Bool) (bif (decide (x_.Time = x_.Time) && (decide (x_.Kind = x_.Kind) && (decide (x_.Place = x_.Place) && (decide (x_.Principal = 0) && (decide (x_.Until = 0) && (decide (x_.Content = 0) && decide (x_.From = x_.From))))))) then chk (in64 (a_.Places - 1)) ((F_5 x_.From 0 (a_.Places - 1)).bind fun y49 => some y49) else some false) fun j50 => grp ((j50 && (!decide (x_.From = x_.Place)))) fun b51 => some b51 else some false)
@[irreducible] def mg_4s : List MOp := [⟨.fad 3 (.t 3), (some 38), (some (37, true))⟩,
 ⟨.ld none (.t 38), (some 39), (some (37, true))⟩,
 ⟨.call (.f 54) [(.t 39),(.c (.int .i64 0)),(.c (.int .i64 23))] [] [], (some 40), (some (37, true))⟩,
 mo (.pick (.t 37) (.t 40) (.c (.bool false))) 41]
@[irreducible] def mg_4t : List MOp := [⟨.fad 4 (.t 3), (some 51), (some (50, true))⟩,
 ⟨.ld none (.t 51), (some 52), (some (50, true))⟩,
 ⟨.fad 0 (.t 3), (some 53), (some (50, true))⟩,
 ⟨.ld none (.t 53), (some 54), (some (50, true))⟩,
 ⟨.bin false .gtr (.t 52) (.t 54), (some 55), (some (50, true))⟩,
 mo (.pick (.t 50) (.t 55) (.c (.bool false))) 56]
@[irreducible] def mg_4u : List MOp := [⟨.fad 4 (.t 3), (some 58), (some (57, true))⟩,
 ⟨.ld none (.t 58), (some 59), (some (57, true))⟩,
 ⟨.bin false .leq (.t 59) (.c (.int .i64 1099511627776)), (some 60), (some (57, true))⟩,
 mo (.pick (.t 57) (.t 60) (.c (.bool false))) 61]
@[irreducible] def mg_4v : List MOp := [⟨.fad 5 (.t 3), (some 77), (some (76, true))⟩,
 ⟨.ld none (.t 77), (some 78), (some (76, true))⟩,
 ⟨.call (.f 54) [(.t 78),(.c (.int .i64 0)),(.c (.int .i64 63))] [] [], (some 79), (some (76, true))⟩,
 mo (.pick (.t 76) (.t 79) (.c (.bool false))) 80]
@[irreducible] def mg_4w : List MOp := [⟨.fad 6 (.t 3), (some 90), (some (89, true))⟩,
 ⟨.ld none (.t 90), (some 91), (some (89, true))⟩,
 ⟨.fad 0 (.t 2), (some 92), (some (89, true))⟩,
 ⟨.ld none (.t 92), (some 93), (some (89, true))⟩,
 ⟨.bin true .sub (.t 93) (.c (.int .i64 1)), (some 94), (some (89, true))⟩,
 ⟨.call (.f 54) [(.t 91),(.c (.int .i64 0)),(.t 94)] [] [], (some 95), (some (89, true))⟩,
 mo (.pick (.t 89) (.t 95) (.c (.bool false))) 96]
@[irreducible] def mg_4x : List MOp := [⟨.fad 6 (.t 3), (some 98), (some (97, true))⟩,
 ⟨.ld none (.t 98), (some 99), (some (97, true))⟩,
 ⟨.fad 2 (.t 3), (some 100), (some (97, true))⟩,
 ⟨.ld none (.t 100), (some 101), (some (97, true))⟩,
 ⟨.bin false .neq (.t 99) (.t 101), (some 102), (some (97, true))⟩,
 mo (.pick (.t 97) (.t 102) (.c (.bool false))) 103]
@[irreducible] def mc_4y : MC :=
 (.cond (.t 67)
 (.seq (.reg [mo (.fad 5 (.t 3)) 70,
 mo (.ld none (.t 70)) 71,
 mo (.fad 5 (.t 5)) 72,
 ⟨.st 1 (.t 72) (.t 71), none, none⟩])
 (.seq (.regI [.op (mo (.ld (some 7) (.t 3)) 73),
 .op (mo (.ld (some 7) (.t 5)) 74),
 .op (mo (.eqs false [0,0,0,0,0,0,0] (.t 73) (.t 74)) 75),
 .op (mo (.mv (.t 75)) 76),
 .grp mg_4v,
 .op (mo (.mv (.t 80)) 4)])
 .ret))
 (.seq (.reg [mo (.bin false .eql (.t 27) (.c (.int .i64 7))) 82,
 mo (.mv (.t 82)) 81])
 (.cond (.t 81)
 (.seq (.reg [mo (.fad 6 (.t 3)) 83,
 mo (.ld none (.t 83)) 84,
 mo (.fad 6 (.t 5)) 85,
 ⟨.st 1 (.t 85) (.t 84), none, none⟩])
 (.seq (.regI [.op (mo (.ld (some 7) (.t 3)) 86),
 .op (mo (.ld (some 7) (.t 5)) 87),
 .op (mo (.eqs false [0,0,0,0,0,0,0] (.t 86) (.t 87)) 88),
 .op (mo (.mv (.t 88)) 89),
 .grp mg_4w,
 .op (mo (.mv (.t 96)) 97),
 .grp mg_4x,
 .op (mo (.mv (.t 103)) 4)])
 .ret))
 .skip)))
@[irreducible] def mc_4z : MC :=
 (.cond (.t 28)
 (.seq (.reg [mo (.fad 3 (.t 3)) 31,
 mo (.ld none (.t 31)) 32,
 mo (.fad 3 (.t 5)) 33,
 ⟨.st 1 (.t 33) (.t 32), none, none⟩])
 (.seq (.regI [.op (mo (.ld (some 7) (.t 3)) 34),
 .op (mo (.ld (some 7) (.t 5)) 35),
 .op (mo (.eqs false [0,0,0,0,0,0,0] (.t 34) (.t 35)) 36),
 .op (mo (.mv (.t 36)) 37),
 .grp mg_4s,
 .op (mo (.mv (.t 41)) 4)])
 .ret))
 (.seq (.reg [mo (.bin false .eql (.t 27) (.c (.int .i64 3))) 43,
 mo (.mv (.t 43)) 42])
 (.cond (.t 42)
 (.seq (.reg [mo (.fad 4 (.t 3)) 44,
 mo (.ld none (.t 44)) 45,
 mo (.fad 4 (.t 5)) 46,
 ⟨.st 1 (.t 46) (.t 45), none, none⟩])
 (.seq (.note (.gc [3,5,51,52,53,54,55,58,59,60]) (.regI [.op (mo (.ld (some 7) (.t 3)) 47),
 .op (mo (.ld (some 7) (.t 5)) 48),
 .op (mo (.eqs false [0,0,0,0,0,0,0] (.t 47) (.t 48)) 49),
 .op (mo (.mv (.t 49)) 50),
 .grp mg_4t,
 .op (mo (.mv (.t 56)) 57),
 .grp mg_4u,
 .op (mo (.mv (.t 61)) 4)]))
 .ret))
 (.seq (.reg [mo (.bin false .eql (.t 27) (.c (.int .i64 4))) 63,
 mo (.mv (.t 63)) 62])
 (.cond (.t 62)
 (.seq (.reg [mo (.ld (some 7) (.t 3)) 64,
 mo (.ld (some 7) (.t 5)) 65,
 mo (.eqs false [0,0,0,0,0,0,0] (.t 64) (.t 65)) 66,
 mo (.mv (.t 66)) 4])
 .ret)
 (.cut (.seq (.reg [mo (.bin false .eql (.t 27) (.c (.int .i64 5))) 68,
 mo (.mv (.t 68)) 67])
 (.cond (.t 67)
 .skip
 (.reg [mo (.bin false .eql (.t 27) (.c (.int .i64 6))) 69,
 mo (.mv (.t 69)) 67])))
 mc_4y))))))
def mc_1l : MC :=
 (.seq (.reg [mo (.box (.t 0)) 2,
 mo (.box (.t 1)) 3,
 mo (.mv (.c (.bool false))) 4])
 (.seq (.seq (.reg [mo (.fad 0 (.t 3)) 6,
 mo (.ld none (.t 6)) 7,
 mo (.call (.f 54) [(.t 7),(.c (.int .i64 0)),(.c (.int .i64 1099511627776))] [] []) 8,
 mo (.not (.t 8)) 9,
 mo (.mv (.t 9)) 10,
 ⟨.fad 2 (.t 3), (some 11), (some (10, false))⟩,
 ⟨.ld none (.t 11), (some 12), (some (10, false))⟩,
 ⟨.fad 0 (.t 2), (some 13), (some (10, false))⟩,
 ⟨.ld none (.t 13), (some 14), (some (10, false))⟩,
 ⟨.bin true .sub (.t 14) (.c (.int .i64 1)), (some 15), (some (10, false))⟩,
 ⟨.call (.f 54) [(.t 12),(.c (.int .i64 0)),(.t 15)] [] [], (some 16), (some (10, false))⟩,
 ⟨.not (.t 16), (some 17), (some (10, false))⟩,
 mo (.pick (.t 10) (.c (.bool true)) (.t 17)) 18])
 (.cond (.t 18)
 (.seq (.reg [mo (.mv (.c (.bool false))) 4])
 .ret)
 .skip))
 (.seq (.note (.gc [2,3,38,39,40,51,52,53,54,55,58,59,60,77,78,79,90,91,92,93,94,95,98,99,100,101,102]) (.reg [mo (.fad 0 (.t 3)) 19,
 mo (.ld none (.t 19)) 20,
 mo (.fad 1 (.t 3)) 21,
 mo (.ld none (.t 21)) 22,
 mo (.fad 2 (.t 3)) 23,
 mo (.ld none (.t 23)) 24,
 mo (.build [(.int .i64 0),(.int .i64 0),(.int .i64 0),(.int .i64 0),(.int .i64 0),(.int .i64 0),(.int .i64 0)] [(0,1,(.t 20)), (1,1,(.t 22)), (2,1,(.t 24))]) 25,
 mo (.alloc [(.int .i64 0),(.int .i64 0),(.int .i64 0),(.int .i64 0),(.int .i64 0),(.int .i64 0),(.int .i64 0)]) 5,
 ⟨.st 7 (.t 5) (.t 25), none, none⟩]))
 (.seq (.seq (.reg [mo (.fad 1 (.t 3)) 26,
 mo (.ld none (.t 26)) 27])
 (.block 0
 (.cut (.seq (.reg [mo (.bin false .eql (.t 27) (.c (.int .i64 1))) 29,
 mo (.mv (.t 29)) 28])
 (.cond (.t 28)
 .skip
 (.reg [mo (.bin false .eql (.t 27) (.c (.int .i64 2))) 30,
 mo (.mv (.t 30)) 28])))
 mc_4z)))
 (.seq (.reg [mo (.mv (.c (.bool false))) 4])
 .ret)))))
theorem Wq_1l (a_ : GEstate) (x_ : GAccess) {Q : Bool → Prop} {Q' : V → Heap → Prop} (h : Ok (F_1l a_ x_) Q) (hQ : ∀ z, Q z → Q' (.bool z) []) : ACall Tryz.prog 84 [GEstate.v a_, GAccess.v x_] [] Q' := by
 refine acallM mc_1l [] [] [.t 4] Tryz.func84 fun M => ?_
 unfold F_1l at h
 unfold mc_1l
 replace h := tY h
 refine tB ?_
 repeat' (first
 | (exact tZ)
 | ((first | refine oblg h ?_ | refine roomG h ?_ | refine fork h ?_ ?_ | refine forkS h ?_ ?_) <;> clear h <;> intro hc h)
 | (obtain ⟨y, hy, h⟩ := h; have hw := W_5 hy; replace hw := tY hw; (first | refine M.sC hw ?_ | refine M.sD hw ?_); clear hw hy; refine tB ?_)
 | (refine M.gj1 (ms := mg_4s) [] [] (fun y => [(41, .bool y)]) (fun y => []) h ?_ ?_ <;> first
 | (clear h; intro Qn K hK1 h; unfold mg_4s; replace h := tY h; refine tB ?_)
  |(clear h; intro y h; replace h := tY h; refine tB ?_))
 | (refine M.gv1 (ms := mg_4u) 61 [58,59,60] h ?_ ?_ <;> first
 | (clear h; intro K hK2; unfold mg_4u; refine tB ?_)
 | (clear h; intro b h; replace h := tY h; refine tB ?_))
 | (refine M.gv1 (ms := mg_4t) 56 [51,52,53,54,55] h ?_ ?_ <;> first
 | (clear h; intro K hK3; unfold mg_4t; refine tB ?_)
 | (clear h; intro b h; replace h := tY h; refine tB ?_))
 | (refine M.gj1 (ms := mg_4v) [] [] (fun y => [(80, .bool y)]) (fun y => []) h ?_ ?_ <;> first
 | (clear h; intro Qn K hK4 h; unfold mg_4v; replace h := tY h; refine tB ?_)
  |(clear h; intro y h; replace h := tY h; refine tB ?_))
 | (refine M.gv1 (ms := mg_4x) 103 [98,99,100,101,102] h ?_ ?_ <;> first
 | (clear h; intro K hK5; unfold mg_4x; refine tB ?_)
 | (clear h; intro b h; replace h := tY h; refine tB ?_))
 | (refine M.gj1 (ms := mg_4w) [3] [3] (fun y => [(96, .bool y)]) (fun y => []) h ?_ ?_ <;> first
 | (clear h; intro Qn K hK6 h; unfold mg_4w; replace h := tY h; refine tB ?_)
  |(clear h; intro y h; replace h := tY h; refine tB ?_))
 | (refine M.jn1 (b := mc_4y) [2,3,5,27] [5,3,2] (fun y => [(67, .bool y)]) (fun y => []) [] h ?_ ?_ <;> first
 | (clear h; intro Qn K hK7 h; replace h := tY h; refine tB ?_)
  |(clear h; intro y h; unfold mc_4y; replace h := tY h; refine tB ?_))
 | (refine M.jn1 (b := mc_4z) [2,3,5,27] [5,3,2] (fun y => [(28, .bool y)]) (fun y => []) [] h ?_ ?_ <;> first
 | (clear h; intro Qn K hK8 h; replace h := tY h; refine tB ?_)
  |(clear h; intro y h; unfold mc_4z; replace h := tY h; refine tB ?_))
 | ((first | refine hK1 _ ?_ | refine hK4 _ ?_ | refine hK6 _ ?_ | refine hK7 _ ?_ | refine hK8 _ ?_); (try refine tB ?_); refine ⟨_, h, ?_⟩; exact tU0; done)
 | ((first | refine hK2 _ ?_ | refine hK3 _ ?_ | refine hK5 _ ?_); exact tU; done)
 | (refine bfork (fun hc => ?_) (fun hc => ?_))
 | (refine tE ?_; (first | rw [M.lok_compU] | rw [M.lokD_compU]); refine tB ?_)
 | (refine tA ?_))
def W_1l {a_ x_ y} (hy : (F_1l a_ x_) = some y) := acW (Wq_1l a_ x_) hy
def F_2p (a_ : GEstate) (k39 : Int) (a40 : GAccess) (x38 : Unit) : Option (Fl Unit Bool) :=
 (F_1l a_ a40).bind fun y48 => bif (!y48) then some (.ex false) else bif decide (0 < k39) then chk (in64 (k39 - 1)) (chk (inb (k39 - 1) a_.Events.length) (bif decide (a40.Time < (a_.Events.getD ((k39 - 1)).toNat default).Time) then some (.ex false) else some (.nx ()))) else some (.nx ())
def F_h (a_ : GEstate) : Option Bool :=
 (F_5 a_.Places 1 16).bind fun y7 => grp (((!y7) || decide (120 < (a_.Events.length : Int)))) fun b8 => bif b8 then some false else (forL (F_2p a_) a_.Events 0 ()).bind fun o => o.elim (fun x49 => some true) (fun r50 => some r50)
@[irreducible] def mg_50 : List MOp := [⟨.fad 1 (.t 1), (some 10), (some (9, false))⟩,
 ⟨.ld none (.t 10), (some 11), (some (9, false))⟩,
 ⟨.len false (.t 11), (some 12), (some (9, false))⟩,
 ⟨.bin false .gtr (.t 12) (.c (.int .i64 120)), (some 13), (some (9, false))⟩,
 mo (.pick (.t 9) (.c (.bool true)) (.t 13)) 14]
@[irreducible] def mc_2p : MC :=
 (.seq (.reg [mo (.bin false .lss (.t 18) (.t 17)) 19])
 (.seq (.cond (.t 19)
 .skip
 (.exit 0))
 (.seq (.block 1
 (.seq (.reg [mo (.mv (.t 18)) 20,
 mo (.iad 7 (.t 16) (.t 18)) 21,
 mo (.ld (some 7) (.t 21)) 22,
 mo (.alloc [(.int .i64 0),(.int .i64 0),(.int .i64 0),(.int .i64 0),(.int .i64 0),(.int .i64 0),(.int .i64 0)]) 4,
 mo (.mv (.t 20)) 3,
 ⟨.st 7 (.t 4) (.t 22), none, none⟩])
 (.seq (.regD [mo (.ld (some 2) (.t 1)) 23,
 mo (.ld (some 7) (.t 4)) 24,
 mo (.call (.f 84) [(.t 23),(.t 24)] [] []) 25,
 mo (.not (.t 25)) 26,
 mo (.mv (.t 26)) 27,
 ⟨.mv (.t 3), (some 28), (some (27, false))⟩,
 ⟨.bin false .gtr (.t 28) (.c (.int .i64 0)), (some 29), (some (27, false))⟩,
 ⟨.mv (.t 29), (some 30), (some (27, false))⟩,
 ⟨.fad 0 (.t 4), (some 31), (some (30, true))⟩,
 ⟨.ld none (.t 31), (some 32), (some (30, true))⟩,
 ⟨.fad 1 (.t 1), (some 33), (some (30, true))⟩,
 ⟨.ld none (.t 33), (some 34), (some (30, true))⟩,
 ⟨.mv (.t 3), (some 35), (some (30, true))⟩,
 ⟨.bin true .sub (.t 35) (.c (.int .i64 1)), (some 36), (some (30, true))⟩,
 ⟨.iad 7 (.t 34) (.t 36), (some 37), (some (30, true))⟩,
 ⟨.fad 0 (.t 37), (some 38), (some (30, true))⟩,
 ⟨.ld none (.t 38), (some 39), (some (30, true))⟩,
 ⟨.bin false .lss (.t 32) (.t 39), (some 40), (some (30, true))⟩,
 ⟨.pick (.t 30) (.t 40) (.c (.bool false)), (some 41), (some (27, false))⟩,
 mo (.pick (.t 27) (.c (.bool true)) (.t 41)) 42]
 [[],[],[0,1],[2],[3,2],[4],[5,4],[6,4,4],[7],[8,7],[7],[10,7],[7],[12,7],[11,13,7],[14,7],[15,7],[9,16,7],[7,17,4],[4,18]]
 [[],[],[0,1],[0,1,2],[0,1,2,3],[0,1,2,3,4],[0,1,2,3,4,5],[0,1,2,3,4,5,6],[0,1,2,3,4,5,6,7],[0,1,2,3,4,5,6,7,8],[0,1,2,3,4,5,6,7],[0,1,2,3,4,5,6,7,10],[0,1,2,3,4,5,6,7],[0,1,2,3,4,5,6,7,12],[0,1,2,3,4,5,6,7,10,11,12,13],[0,1,2,3,4,5,6,7,10,11,12,13,14],[0,1,2,3,4,5,6,7,10,11,12,13,14,15],[0,1,2,3,4,5,6,7,8,9,10,11,12,13,14,15,16],[0,1,2,3,4,5,6,7,8,9,10,11,12,13,14,15,16,17],[0,1,2,3,4,5,6,7,8,9,10,11,12,13,14,15,16,17,18]])
 (.cond (.t 42)
 (.seq (.reg [mo (.mv (.c (.bool false))) 2])
 .ret)
 .skip))))
 (.reg [mo (.bin true .add (.t 18) (.c (.int .i64 1))) 43,
 mo (.mv (.t 43)) 18]))))
def mc_h : MC :=
 (.seq (.reg [mo (.box (.t 0)) 1,
 mo (.mv (.c (.bool false))) 2])
 (.seq (.seq (.regI [.op (mo (.fad 0 (.t 1)) 5),
 .op (mo (.ld none (.t 5)) 6),
 .op (mo (.call (.f 54) [(.t 6),(.c (.int .i64 1)),(.c (.int .i64 16))] [] []) 7),
 .op (mo (.not (.t 7)) 8),
 .op (mo (.mv (.t 8)) 9),
 .grp mg_50])
 (.cond (.t 14)
 (.seq (.reg [mo (.mv (.c (.bool false))) 2])
 .ret)
 .skip))
 (.seq (.seq (.note (.gc [1,28,29,30,31,32,33,34,35,36,37,38,39,40,41]) (.reg [mo (.fad 1 (.t 1)) 15,
 mo (.ld none (.t 15)) 16,
 mo (.len false (.t 16)) 17,
 mo (.mv (.c (.int .i64 0))) 18]))
 (.block 0
 (.loop mc_2p)))
 (.seq (.reg [mo (.mv (.c (.bool true))) 2])
 .ret))))
theorem Wq_h (a_ : GEstate) {Q : Bool → Prop} {Q' : V → Heap → Prop} (h : Ok (F_h a_) Q) (hQ : ∀ z, Q z → Q' (.bool z) []) : ACall Tryz.prog 53 [GEstate.v a_] [] Q' := by
 refine acallM mc_h [] [] [.t 2] Tryz.func53 fun M => ?_
 unfold F_h at h
 unfold mc_h
 replace h := tY h
 refine tB ?_
 repeat' (first
 | (exact tZ)
 | ((first | refine oblg h ?_ | refine roomG h ?_ | refine fork h ?_ ?_ | refine forkS h ?_ ?_) <;> clear h <;> intro hc h)
 | (obtain ⟨y, hy, h⟩ := h; (first | with_reducible first | have hw := W_5 hy | have hw := W_1l hy); replace hw := tY hw; (first | refine M.sC hw ?_ | refine M.sD hw ?_); clear hw hy; refine tB ?_)
 | (refine M.for1 (b := mc_2p) 18 [1,16,17] [1] (fun x => []) (fun x => []) [] h ?_ ?_ ?_ <;> first
 | (clear h; intro k a x Qn K hK1 hkN1 ha1 h hf; have hl := fact_int (factsE_find (n := 17) hf.1 rfl); clear hf; have hkd := kD hkN1; have hkB1 := kB hkN1; have hkI1 := kI (k := k) (by omega); unfold F_2p at h; unfold mc_2p; replace h := tY h; refine tK ha1 hkd hkN1 hkB1 hkI1 ?_)
  |(clear h; intro x K h; replace h := And.left (And.intro h trivial); unfold mc_2p; replace h := tY h; refine tB ?_)
  |(clear h; (try refine tB ?_); exact tU0; done))
 | (refine M.gv1 (ms := mg_50) 14 [10,11,12,13] h ?_ ?_ <;> first
 | (clear h; intro K hK2; unfold mg_50; refine tB ?_)
 | (clear h; intro b h; replace h := tY h; refine tB ?_))
 | (simp only [ha1])
 | (refine hK1 _ ?_; (try refine tB ?_); refine ⟨_, h, ?_⟩; exact tU0; done)
 | (refine hK2 _ ?_; exact tU; done)
 | (refine bfork (fun hc => ?_) (fun hc => ?_))
 | (refine tE ?_; (first | rw [M.lok_compU] | rw [M.lokD_compU]); refine tB ?_)
 | (refine tA ?_))
def W_h {a_ y} (hy : (F_h a_) = some y) := acW (Wq_h a_) hy
def F_i (d_ : GDirectory) (p_ : Int) : Option Bool :=
 (F_3 d_ p_).bind fun y3 => jn (α := Bool) (bif y3 then chk (inb p_ d_.Kinds.length) (some (!decide ((d_.Kinds.getD (p_).toNat default) = 2))) else some false) fun j4 => some j4
@[irreducible] def mg_51 : List MOp := [⟨.fad 0 (.t 2), (some 9), (some (8, true))⟩,
 ⟨.ld none (.t 9), (some 10), (some (8, true))⟩,
 ⟨.mv (.t 1), (some 11), (some (8, true))⟩,
 ⟨.iad 1 (.t 10) (.t 11), (some 12), (some (8, true))⟩,
 ⟨.ld none (.t 12), (some 13), (some (8, true))⟩,
 ⟨.bin false .neq (.t 13) (.c (.int .i64 2)), (some 14), (some (8, true))⟩,
 mo (.pick (.t 8) (.t 14) (.c (.bool false))) 15]
def mc_i : MC :=
 (.seq (.reg [mo (.box (.t 0)) 2,
 mo (.mv (.c (.bool false))) 4])
 (.seq (.regI [.op (mo (.ld (some 2) (.t 2)) 5),
 .op (mo (.mv (.t 1)) 6),
 .op (mo (.call (.f 38) [(.t 5),(.t 6)] [] []) 7),
 .op (mo (.mv (.t 7)) 8),
 .grp mg_51,
 .op (mo (.mv (.t 15)) 4)])
 .ret))
theorem Wq_i (d_ : GDirectory) (p_ : Int) {Q : Bool → Prop} {Q' : V → Heap → Prop} (h : Ok (F_i d_ p_) Q) (hQ : ∀ z, Q z → Q' (.bool z) []) : ACall Tryz.prog 19 [GDirectory.v d_, .int .i64 p_] [] Q' := by
 refine acallM mc_i [] [] [.t 4] Tryz.func19 fun M => ?_
 unfold F_i at h
 unfold mc_i
 replace h := tY h
 refine tB ?_
 repeat' (first
 | (exact tZ)
 | ((first | refine oblg h ?_ | refine roomG h ?_ | refine fork h ?_ ?_ | refine forkS h ?_ ?_) <;> clear h <;> intro hc h)
 | (obtain ⟨y, hy, h⟩ := h; have hw := W_3 hy; replace hw := tY hw; (first | refine M.sC hw ?_ | refine M.sD hw ?_); clear hw hy; refine tB ?_)
 | (refine M.gj1 (ms := mg_51) [4] [] (fun y => [(15, .bool y)]) (fun y => []) h ?_ ?_ <;> first
 | (clear h; intro Qn K hK1 h; unfold mg_51; replace h := tY h; refine tB ?_)
  |(clear h; intro y h; replace h := tY h; refine tB ?_))
 | (refine hK1 _ ?_; (try refine tB ?_); refine ⟨_, h, ?_⟩; exact tU0; done)
 | (refine tE ?_; (first | rw [M.lok_compU] | rw [M.lokD_compU]); refine tB ?_)
 | (refine tA ?_))
def W_i {d_ p_ y} (hy : (F_i d_ p_) = some y) := acW (Wq_i d_ p_) hy
def F_1z (d_ : GDirectory) (a_ : GEstate) (content_ : Int) (p_ : Int) : Option Bool :=
 (F_8 d_).bind fun y8 => jn (α := Bool) (bif y8 then (F_h a_).bind fun y10 => some y10 else some false) fun j11 => grp ((j11 && decide (0 ≤ content_))) fun b12 => grp ((b12 && decide (content_ ≤ 63))) fun b13 => jn (α := Bool) (bif b13 then bif decide (p_ = (-1)) then some true else (F_i d_ p_).bind fun y15 => some y15 else some false) fun j16 => some j16
@[irreducible] def mg_52 : List MOp := [⟨.ld (some 2) (.t 5), (some 12), (some (11, true))⟩,
 ⟨.call (.f 53) [(.t 12)] [] [], (some 13), (some (11, true))⟩,
 mo (.pick (.t 11) (.t 13) (.c (.bool false))) 14]
@[irreducible] def mg_53 : List MOp := [⟨.mv (.t 2), (some 16), (some (15, true))⟩,
 ⟨.bin false .geq (.t 16) (.c (.int .i64 0)), (some 17), (some (15, true))⟩,
 mo (.pick (.t 15) (.t 17) (.c (.bool false))) 18]
@[irreducible] def mg_54 : List MOp := [⟨.mv (.t 2), (some 20), (some (19, true))⟩,
 ⟨.bin false .leq (.t 20) (.c (.int .i64 63)), (some 21), (some (19, true))⟩,
 mo (.pick (.t 19) (.t 21) (.c (.bool false))) 22]
@[irreducible] def mg_55 : List MOp := [⟨.mv (.t 3), (some 24), (some (23, true))⟩,
 ⟨.bin false .eql (.t 24) (.c (.int .i64 (-1))), (some 25), (some (23, true))⟩,
 ⟨.mv (.t 25), (some 26), (some (23, true))⟩,
 ⟨.ld (some 2) (.t 4), (some 27), (some (26, false))⟩,
 ⟨.mv (.t 3), (some 28), (some (26, false))⟩,
 ⟨.call (.f 19) [(.t 27),(.t 28)] [] [], (some 29), (some (26, false))⟩,
 ⟨.pick (.t 26) (.c (.bool true)) (.t 29), (some 30), (some (23, true))⟩,
 mo (.pick (.t 23) (.t 30) (.c (.bool false))) 31]
def mc_1z : MC :=
 (.seq (.reg [mo (.box (.t 0)) 4,
 mo (.box (.t 1)) 5,
 mo (.mv (.c (.bool false))) 8])
 (.seq (.regI [.op (mo (.ld (some 2) (.t 4)) 9),
 .op (mo (.call (.f 33) [(.t 9)] [] []) 10),
 .op (mo (.mv (.t 10)) 11),
 .grp mg_52,
 .op (mo (.mv (.t 14)) 15),
 .grp mg_53,
 .op (mo (.mv (.t 18)) 19),
 .grp mg_54,
 .op (mo (.mv (.t 22)) 23),
 .grp mg_55,
 .op (mo (.mv (.t 31)) 8)])
 .ret))
theorem Wq_1z (d_ : GDirectory) (a_ : GEstate) (content_ : Int) (p_ : Int) {Q : Bool → Prop} {Q' : V → Heap → Prop} (h : Ok (F_1z d_ a_ content_ p_) Q) (hQ : ∀ z, Q z → Q' (.bool z) []) : ACall Tryz.prog 47 [GDirectory.v d_, GEstate.v a_, .int .i64 content_, .int .i64 p_] [] Q' := by
 refine acallM mc_1z [] [] [.t 8] Tryz.func47 fun M => ?_
 unfold F_1z at h
 unfold mc_1z
 replace h := tY h
 refine tB ?_
 repeat' (first
 | (exact tZ)
 | ((first | refine oblg h ?_ | refine roomG h ?_ | refine fork h ?_ ?_ | refine forkS h ?_ ?_) <;> clear h <;> intro hc h)
 | (obtain ⟨y, hy, h⟩ := h; (first | with_reducible first | have hw := W_8 hy | have hw := W_h hy | have hw := W_i hy); replace hw := tY hw; (first | refine M.sC hw ?_ | refine M.sD hw ?_); clear hw hy; refine tB ?_)
 | (refine M.gj1 (ms := mg_55) [8] [] (fun y => [(31, .bool y)]) (fun y => []) h ?_ ?_ <;> first
 | (clear h; intro Qn K hK1 h; unfold mg_55; replace h := tY h; refine tB ?_)
  |(clear h; intro y h; replace h := tY h; refine tB ?_))
 | (refine M.gv1 (ms := mg_54) 22 [20,21] h ?_ ?_ <;> first
 | (clear h; intro K hK2; unfold mg_54; refine tB ?_)
 | (clear h; intro b h; replace h := tY h; refine tB ?_))
 | (refine M.gv1 (ms := mg_53) 18 [16,17] h ?_ ?_ <;> first
 | (clear h; intro K hK3; unfold mg_53; refine tB ?_)
 | (clear h; intro b h; replace h := tY h; refine tB ?_))
 | (refine M.gj1 (ms := mg_52) [2,3,4,8] [4] (fun y => [(14, .bool y)]) (fun y => []) h ?_ ?_ <;> first
 | (clear h; intro Qn K hK4 h; unfold mg_52; replace h := tY h; refine tB ?_)
  |(clear h; intro y h; replace h := tY h; refine tB ?_))
 | ((first | refine hK1 _ ?_ | refine hK4 _ ?_); (try refine tB ?_); refine ⟨_, h, ?_⟩; exact tU0; done)
 | ((first | refine hK2 _ ?_ | refine hK3 _ ?_); exact tU; done)
 | (refine bfork (fun hc => ?_) (fun hc => ?_))
 | (refine tE ?_; (first | rw [M.lok_compU] | rw [M.lokD_compU]); refine tB ?_)
 | (refine tA ?_))
def W_1z {d_ a_ content_ p_ y} (hy : (F_1z d_ a_ content_ p_) = some y) := acW (Wq_1z d_ a_ content_ p_) hy
def F_20 (a_ : GEstate) (content_ : Int) : Option Bool :=
 (F_h a_).bind fun y4 => grp ((y4 && decide (0 ≤ content_))) fun b5 => grp ((b5 && decide (content_ ≤ 63))) fun b6 => some b6
@[irreducible] def mg_56 : List MOp := [⟨.mv (.t 1), (some 8), (some (7, true))⟩,
 ⟨.bin false .geq (.t 8) (.c (.int .i64 0)), (some 9), (some (7, true))⟩,
 mo (.pick (.t 7) (.t 9) (.c (.bool false))) 10]
@[irreducible] def mg_57 : List MOp := [⟨.mv (.t 1), (some 12), (some (11, true))⟩,
 ⟨.bin false .leq (.t 12) (.c (.int .i64 63)), (some 13), (some (11, true))⟩,
 mo (.pick (.t 11) (.t 13) (.c (.bool false))) 14]
def mc_20 : MC :=
 (.seq (.reg [mo (.box (.t 0)) 2,
 mo (.mv (.c (.bool false))) 4])
 (.seq (.regI [.op (mo (.ld (some 2) (.t 2)) 5),
 .op (mo (.call (.f 53) [(.t 5)] [] []) 6),
 .op (mo (.mv (.t 6)) 7),
 .grp mg_56,
 .op (mo (.mv (.t 10)) 11),
 .grp mg_57,
 .op (mo (.mv (.t 14)) 4)])
 .ret))
theorem Wq_20 (a_ : GEstate) (content_ : Int) {Q : Bool → Prop} {Q' : V → Heap → Prop} (h : Ok (F_20 a_ content_) Q) (hQ : ∀ z, Q z → Q' (.bool z) []) : ACall Tryz.prog 39 [GEstate.v a_, .int .i64 content_] [] Q' := by
 refine acallM mc_20 [] [] [.t 4] Tryz.func39 fun M => ?_
 unfold F_20 at h
 unfold mc_20
 replace h := tY h
 refine tB ?_
 repeat' (first
 | (exact tZ)
 | ((first | refine oblg h ?_ | refine roomG h ?_ | refine fork h ?_ ?_ | refine forkS h ?_ ?_) <;> clear h <;> intro hc h)
 | (obtain ⟨y, hy, h⟩ := h; have hw := W_h hy; replace hw := tY hw; (first | refine M.sC hw ?_ | refine M.sD hw ?_); clear hw hy; refine tB ?_)
 | (refine M.gv1 (ms := mg_57) 14 [12,13] h ?_ ?_ <;> first
 | (clear h; intro K hK1; unfold mg_57; refine tB ?_)
 | (clear h; intro b h; replace h := tY h; refine tB ?_))
 | (refine M.gv1 (ms := mg_56) 10 [8,9] h ?_ ?_ <;> first
 | (clear h; intro K hK2; unfold mg_56; refine tB ?_)
 | (clear h; intro b h; replace h := tY h; refine tB ?_))
 | ((first | refine hK1 _ ?_ | refine hK2 _ ?_); exact tU; done)
 | (refine bfork (fun hc => ?_) (fun hc => ?_))
 | (refine tE ?_; (first | rw [M.lok_compU] | rw [M.lokD_compU]); refine tB ?_)
 | (refine tA ?_))
def W_20 {a_ content_ y} (hy : (F_20 a_ content_) = some y) := acW (Wq_20 a_ content_) hy
def F_2 (a_ : GEstate) (place_ : Int) : Option Bool :=
 (F_h a_).bind fun y4 => jn (α := Bool) (bif y4 then chk (in64 (a_.Places - 1)) ((F_5 place_ 0 (a_.Places - 1)).bind fun y6 => some y6) else some false) fun j7 => some j7
@[irreducible] def mg_58 : List MOp := [⟨.mv (.t 1), (some 8), (some (7, true))⟩,
 ⟨.fad 0 (.t 2), (some 9), (some (7, true))⟩,
 ⟨.ld none (.t 9), (some 10), (some (7, true))⟩,
 ⟨.bin true .sub (.t 10) (.c (.int .i64 1)), (some 11), (some (7, true))⟩,
 ⟨.call (.f 54) [(.t 8),(.c (.int .i64 0)),(.t 11)] [] [], (some 12), (some (7, true))⟩,
 mo (.pick (.t 7) (.t 12) (.c (.bool false))) 13]
def mc_2 : MC :=
 (.seq (.reg [mo (.box (.t 0)) 2,
 mo (.mv (.c (.bool false))) 4])
 (.seq (.regI [.op (mo (.ld (some 2) (.t 2)) 5),
 .op (mo (.call (.f 53) [(.t 5)] [] []) 6),
 .op (mo (.mv (.t 6)) 7),
 .grp mg_58,
 .op (mo (.mv (.t 13)) 4)])
 .ret))
theorem Wq_2 (a_ : GEstate) (place_ : Int) {Q : Bool → Prop} {Q' : V → Heap → Prop} (h : Ok (F_2 a_ place_) Q) (hQ : ∀ z, Q z → Q' (.bool z) []) : ACall Tryz.prog 30 [GEstate.v a_, .int .i64 place_] [] Q' := by
 refine acallM mc_2 [] [] [.t 4] Tryz.func30 fun M => ?_
 unfold F_2 at h
 unfold mc_2
 replace h := tY h
 refine tB ?_
 repeat' (first
 | (exact tZ)
 | ((first | refine oblg h ?_ | refine roomG h ?_ | refine fork h ?_ ?_ | refine forkS h ?_ ?_) <;> clear h <;> intro hc h)
 | (obtain ⟨y, hy, h⟩ := h; (first | with_reducible first | have hw := W_h hy | have hw := W_5 hy); replace hw := tY hw; (first | refine M.sC hw ?_ | refine M.sD hw ?_); clear hw hy; refine tB ?_)
 | (refine M.gj1 (ms := mg_58) [4] [] (fun y => [(13, .bool y)]) (fun y => []) h ?_ ?_ <;> first
 | (clear h; intro Qn K hK1 h; unfold mg_58; replace h := tY h; refine tB ?_)
  |(clear h; intro y h; replace h := tY h; refine tB ?_))
 | (refine hK1 _ ?_; (try refine tB ?_); refine ⟨_, h, ?_⟩; exact tU0; done)
 | (refine tE ?_; (first | rw [M.lok_compU] | rw [M.lokD_compU]); refine tB ?_)
 | (refine tA ?_))
def W_2 {a_ place_ y} (hy : (F_2 a_ place_) = some y) := acW (Wq_2 a_ place_) hy
noncomputable def F_2d (a_ : GEstate) (t_ : Int) (x7 : Int) : Option (Fl Int Int) :=
 bif decide (x7 < (a_.Events.length : Int)) then chk (inb x7 a_.Events.length) (bif decide ((a_.Events.getD (x7).toNat default).Time ≤ t_) then chk (in64 (x7 + 1)) (some (.nx (x7 + 1))) else some (.ex x7)) else some (.ex x7)
noncomputable def F_j (a_ : GEstate) (t_ : Int) : Option Int :=
 (loop (F_2d a_ t_) 0).bind fun r8 => some r8
@[irreducible] def mc_2d : MC :=
 (.seq (.seq (.reg [mo (.mv (.t 5)) 6,
 mo (.fad 1 (.t 2)) 7,
 mo (.ld none (.t 7)) 8,
 mo (.len false (.t 8)) 9,
 mo (.bin false .lss (.t 6) (.t 9)) 10,
 mo (.mv (.t 10)) 11,
 ⟨.fad 1 (.t 2), (some 12), (some (11, true))⟩,
 ⟨.ld none (.t 12), (some 13), (some (11, true))⟩,
 ⟨.mv (.t 5), (some 14), (some (11, true))⟩,
 ⟨.iad 7 (.t 13) (.t 14), (some 15), (some (11, true))⟩,
 ⟨.fad 0 (.t 15), (some 16), (some (11, true))⟩,
 ⟨.ld none (.t 16), (some 17), (some (11, true))⟩,
 ⟨.mv (.t 1), (some 18), (some (11, true))⟩,
 ⟨.bin false .leq (.t 17) (.t 18), (some 19), (some (11, true))⟩,
 mo (.pick (.t 11) (.t 19) (.c (.bool false))) 20])
 (.cond (.t 20)
 .skip
 (.exit 0)))
 (.block 1
 (.reg [mo (.mv (.t 5)) 21,
 mo (.bin true .add (.t 21) (.c (.int .i64 1))) 22,
 mo (.mv (.t 22)) 5])))
def mc_j : MC :=
 (.seq (.reg [mo (.box (.t 0)) 2,
 mo (.mv (.c (.int .i64 0))) 4])
 (.seq (.reg [mo (.mv (.c (.int .i64 0))) 5])
 (.seq (.block 0
 (.loop mc_2d))
 (.seq (.reg [mo (.mv (.t 5)) 23,
 mo (.mv (.t 23)) 4])
 .ret))))
theorem Wq_j (a_ : GEstate) (t_ : Int) {Q : Int → Prop} {Q' : V → Heap → Prop} (h : Ok (F_j a_ t_) Q) (hQ : ∀ z, Q z → Q' (.int .i64 z) []) : ACall Tryz.prog 32 [GEstate.v a_, .int .i64 t_] [] Q' := by
 refine acallM mc_j [] [] [.t 4] Tryz.func32 fun M => ?_
 unfold F_j at h
 unfold mc_j
 replace h := tY h
 refine tB ?_
 repeat' (first
 | (exact tZ)
 | ((first | refine oblg h ?_ | refine roomG h ?_ | refine fork h ?_ ?_ | refine forkS h ?_ ?_) <;> clear h <;> intro hc h)
 | (refine M.wh1 (b := mc_2d) [1,2] [2] (fun x => [(5, .int .i64 x)]) (fun x => []) [] h ?_ ?_ <;> first
 | (clear h; intro x Qn K hK1 h; unfold F_2d at h; unfold mc_2d; replace h := tY h; refine tB ?_)
  |(clear h; (try refine tB ?_); exact tU0; done))
 | (refine hK1 _ ?_; (try refine tB ?_); refine ⟨_, h, ?_⟩; exact tU0; done)
 | (refine tE ?_; (first | rw [M.lok_compU] | rw [M.lokD_compU]); refine tB ?_)
 | (refine tA ?_))
def W_j {a_ t_ y} (hy : (F_j a_ t_) = some y) := acW (Wq_j a_ t_) hy
noncomputable def F_3d (a_ : GEstate) (content_ : Int) (a429 : Int) (k578 : Int) (a579 : GAccess) (x577 : Unit) : Option (Fl Unit Bool) :=
 grp ((decide (a579.Kind = 6) && decide (a579.Content = content_))) fun b594 => grp ((b594 && decide (a579.Place = (a_.Events.getD (a429).toNat default).Place))) fun b595 => bif b595 then some (.ex false) else some (.nx ())
noncomputable def F_2e (a_ : GEstate) (content_ : Int) (t_ : Int) (way_ : List Int) (k428 : Int) (a429 : Int) (x427 : Unit) : Option (Fl Unit Bool) :=
 jn (α := Fl (Int × Bool × Bool × Bool × (List GAccess) × Int × Int × Int × Bool) Bool) (grp ((decide (a429 < 0) || decide ((a_.Events.length : Int) ≤ a429))) fun b554 => bif b554 then some (.ex false) else bif decide (0 < k428) then chk (in64 (k428 - 1)) (chk (inb (k428 - 1) way_.length) (bif decide (a429 ≤ (way_.getD ((k428 - 1)).toNat default)) then some (.ex false) else chk (inb a429 a_.Events.length) (bif decide (t_ < (a_.Events.getD (a429).toNat default).Time) then some (.ex false) else some (.nx (k428, decide (0 < k428), true, decide (a429 ≤ (way_.getD ((k428 - 1)).toNat default)), a_.Events, a429, (a_.Events.getD (a429).toNat default).Time, t_, decide (t_ < (a_.Events.getD (a429).toNat default).Time)))))) else chk (inb a429 a_.Events.length) (bif decide (t_ < (a_.Events.getD (a429).toNat default).Time) then some (.ex false) else some (.nx (k428, decide (0 < k428), false, false, a_.Events, a429, (a_.Events.getD (a429).toNat default).Time, t_, decide (t_ < (a_.Events.getD (a429).toNat default).Time))))) fun o => o.elim (fun j552 => chk (inb a429 a_.Events.length) (jn (α := Fl (Int × Bool × Bool × Bool) Bool) (bif decide (k428 = 0) then bif (!decide ((a_.Events.getD (a429).toNat default).Kind = 5)) then some (.ex false) else bif (!decide ((a_.Events.getD (a429).toNat default).Content = content_)) then some (.ex false) else bif decide (0 < k428) then bif (!decide ((a_.Events.getD (a429).toNat default).Kind = 7)) then some (.ex false) else chk (in64 (k428 - 1)) (chk (inb (k428 - 1) way_.length) (chk (inb (way_.getD ((k428 - 1)).toNat default) a_.Events.length) (bif (!decide ((a_.Events.getD (a429).toNat default).From = (a_.Events.getD ((way_.getD ((k428 - 1)).toNat default)).toNat default).Place)) then some (.ex false) else some (.nx (k428, decide (0 < k428), true, (!decide ((a_.Events.getD (a429).toNat default).From = (a_.Events.getD ((way_.getD ((k428 - 1)).toNat default)).toNat default).Place))))))) else some (.nx (k428, decide (0 < k428), false, false)) else bif decide (0 < k428) then bif (!decide ((a_.Events.getD (a429).toNat default).Kind = 7)) then some (.ex false) else chk (in64 (k428 - 1)) (chk (inb (k428 - 1) way_.length) (chk (inb (way_.getD ((k428 - 1)).toNat default) a_.Events.length) (bif (!decide ((a_.Events.getD (a429).toNat default).From = (a_.Events.getD ((way_.getD ((k428 - 1)).toNat default)).toNat default).Place)) then some (.ex false) else some (.nx (k428, decide (0 < k428), true, (!decide ((a_.Events.getD (a429).toNat default).From = (a_.Events.getD ((way_.getD ((k428 - 1)).toNat default)).toNat default).Place))))))) else some (.nx (k428, decide (0 < k428), false, false))) fun o => o.elim (fun j555 => (F_j a_ t_).bind fun y557 => jn (α := Int) (bif decide ((k428 + 1) < (way_.length : Int)) then chk (inb (k428 + 1) way_.length) (chk (in64 (a429 + 1)) (some (min y557 (max (way_.getD ((k428 + 1)).toNat default) (a429 + 1))))) else some y557) fun j558 => chk (in64 (a429 + 1)) (chk (in64 (a429 + 1)) (chk (inc (a429 + 1) (max j558 (a429 + 1)) a_.Events.length) ((forL (F_3d a_ content_ a429) ((a_.Events.take (((max j558 (a429 + 1))).toNat)).drop (((a429 + 1)).toNat)) 0 ()).bind fun o => o.elim (fun x596 => some (.nx ())) (fun r597 => some (.ex r597)))))) (fun r598 => some (.ex r598)))) (fun r599 => some (.ex r599))
noncomputable def F_16 (a_ : GEstate) (content_ : Int) (place_ : Int) (t_ : Int) (way_ : List Int) : Option Bool :=
 jn (α := Fl Unit Bool) ((F_20 a_ content_).bind fun y14 => bif (!y14) then grp (true) fun b15 => bif b15 then some (.ex false) else some (.nx ()) else (F_2 a_ place_).bind fun y16 => grp (((!y16) || decide ((way_.length : Int) = 0))) fun b17 => bif b17 then some (.ex false) else some (.nx ())) fun o => o.elim (fun j9 => (forL (F_2e a_ content_ t_ way_) way_ 0 ()).bind fun o => o.elim (fun x600 => chk (in64 ((way_.length : Int) - 1)) (chk (inb ((way_.length : Int) - 1) way_.length) (chk (inb (way_.getD (((way_.length : Int) - 1)).toNat default) a_.Events.length) (some (decide ((a_.Events.getD ((way_.getD (((way_.length : Int) - 1)).toNat default)).toNat default).Place = place_)))))) (fun r601 => some r601)) (fun r602 => some r602)
@[irreducible] def mg_3m : List MOp := [⟨.mv (.t 4), (some 28), (some (27, false))⟩,
 ⟨.len false (.t 28), (some 29), (some (27, false))⟩,
 ⟨.bin false .eql (.t 29) (.c (.int .i64 0)), (some 30), (some (27, false))⟩,
 mo (.pick (.t 27) (.c (.bool true)) (.t 30)) 31]
@[irreducible] def mg_59 : List MOp := [⟨.mv (.t 12), (some 42), (some (41, false))⟩,
 ⟨.fad 1 (.t 5), (some 43), (some (41, false))⟩,
 ⟨.ld none (.t 43), (some 44), (some (41, false))⟩,
 ⟨.len false (.t 44), (some 45), (some (41, false))⟩,
 ⟨.bin false .geq (.t 42) (.t 45), (some 46), (some (41, false))⟩,
 mo (.pick (.t 41) (.c (.bool true)) (.t 46)) 47]
@[irreducible] def mg_5a : List MOp := [⟨.fad 5 (.t 16), (some 149), (some (148, true))⟩,
 ⟨.ld none (.t 149), (some 150), (some (148, true))⟩,
 ⟨.mv (.t 1), (some 151), (some (148, true))⟩,
 ⟨.bin false .eql (.t 150) (.t 151), (some 152), (some (148, true))⟩,
 mo (.pick (.t 148) (.t 152) (.c (.bool false))) 153]
@[irreducible] def mg_5b : List MOp := [⟨.fad 2 (.t 16), (some 155), (some (154, true))⟩,
 ⟨.ld none (.t 155), (some 156), (some (154, true))⟩,
 ⟨.fad 2 (.t 13), (some 157), (some (154, true))⟩,
 ⟨.ld none (.t 157), (some 158), (some (154, true))⟩,
 ⟨.bin false .eql (.t 156) (.t 158), (some 159), (some (154, true))⟩,
 mo (.pick (.t 154) (.t 159) (.c (.bool false))) 160]
@[irreducible] def mc_3d : MC :=
 (.seq (.reg [mo (.bin false .lss (.t 141) (.t 140)) 142])
 (.seq (.cond (.t 142)
 .skip
 (.exit 2))
 (.seq (.block 3
 (.seq (.reg [mo (.iad 7 (.t 139) (.t 141)) 143,
 mo (.ld (some 7) (.t 143)) 144,
 mo (.alloc [(.int .i64 0),(.int .i64 0),(.int .i64 0),(.int .i64 0),(.int .i64 0),(.int .i64 0),(.int .i64 0)]) 16,
 ⟨.st 7 (.t 16) (.t 144), none, none⟩])
 (.seq (.regI [.op (mo (.fad 1 (.t 16)) 145),
 .op (mo (.ld none (.t 145)) 146),
 .op (mo (.bin false .eql (.t 146) (.c (.int .i64 6))) 147),
 .op (mo (.mv (.t 147)) 148),
 .grp mg_5a,
 .op (mo (.mv (.t 153)) 154),
 .grp mg_5b])
 (.cond (.t 160)
 (.seq (.reg [mo (.mv (.c (.bool false))) 10])
 .ret)
 .skip))))
 (.reg [mo (.bin true .add (.t 141) (.c (.int .i64 1))) 161,
 mo (.mv (.t 161)) 141]))))
@[irreducible] def mc_5c : MC :=
 (.seq (.reg [mo (.fad 1 (.t 5)) 131,
 mo (.ld none (.t 131)) 132,
 mo (.mv (.t 12)) 133,
 mo (.bin true .add (.t 133) (.c (.int .i64 1))) 134,
 mo (.mv (.t 14)) 135,
 mo (.mv (.t 12)) 136,
 mo (.bin true .add (.t 136) (.c (.int .i64 1))) 137,
 mo (.mm true (.t 135) (.t 137)) 138,
 mo (.slc 7 (.t 132) (some (.t 134)) (some (.t 138))) 139,
 mo (.len false (.t 139)) 140,
 mo (.mv (.c (.int .i64 0))) 141])
 (.block 2
 (.loop mc_3d)))
@[irreducible] def mc_5d : MC :=
 (.seq (.reg [mo (.ld (some 2) (.t 5)) 113,
 mo (.mv (.t 3)) 114,
 mo (.call (.f 32) [(.t 113),(.t 114)] [] []) 115,
 mo (.mv (.t 115)) 14])
 (.cut (.seq (.reg [mo (.mv (.t 11)) 116,
 mo (.bin true .add (.t 116) (.c (.int .i64 1))) 117,
 mo (.mv (.t 4)) 118,
 mo (.len false (.t 118)) 119,
 mo (.bin false .lss (.t 117) (.t 119)) 120])
 (.cond (.t 120)
 (.note (.gc [1,2,3,4,5,11,12,13,14,32,33,34,42,43,44,45,46,49,50,51,52,53,54,55,56,57,58,59,62,63,64,65,66,67,68,69,79,80,81,82,83,84,85,86,87,90,91,92,93,94,95,96,97,98,99,100,101,102,103,104,105,106,107,108,109,110,111,149,150,151,152,155,156,157,158,159]) (.reg [mo (.mv (.t 14)) 121,
 mo (.mv (.t 4)) 122,
 mo (.mv (.t 11)) 123,
 mo (.bin true .add (.t 123) (.c (.int .i64 1))) 124,
 mo (.iad 1 (.t 122) (.t 124)) 125,
 mo (.ld none (.t 125)) 126,
 mo (.mv (.t 12)) 127,
 mo (.bin true .add (.t 127) (.c (.int .i64 1))) 128,
 mo (.mm true (.t 126) (.t 128)) 129,
 mo (.mm false (.t 121) (.t 129)) 130,
 mo (.mv (.t 130)) 14]))
 .skip))
 mc_5c))
@[irreducible] def mc_5e : MC :=
 (.seq (.reg [mo (.fad 1 (.t 5)) 71,
 mo (.ld none (.t 71)) 72,
 mo (.mv (.t 12)) 73,
 mo (.iad 7 (.t 72) (.t 73)) 74,
 mo (.ld (some 7) (.t 74)) 75,
 mo (.alloc [(.int .i64 0),(.int .i64 0),(.int .i64 0),(.int .i64 0),(.int .i64 0),(.int .i64 0),(.int .i64 0)]) 13,
 ⟨.st 7 (.t 13) (.t 75), none, none⟩])
 (.cut (.seq (.regD [mo (.mv (.t 11)) 76,
 mo (.bin false .eql (.t 76) (.c (.int .i64 0))) 77,
 mo (.mv (.t 77)) 78,
 ⟨.fad 1 (.t 13), (some 79), (some (78, true))⟩,
 ⟨.ld none (.t 79), (some 80), (some (78, true))⟩,
 ⟨.bin false .neq (.t 80) (.c (.int .i64 5)), (some 81), (some (78, true))⟩,
 ⟨.mv (.t 81), (some 82), (some (78, true))⟩,
 ⟨.fad 5 (.t 13), (some 83), (some (82, false))⟩,
 ⟨.ld none (.t 83), (some 84), (some (82, false))⟩,
 ⟨.mv (.t 1), (some 85), (some (82, false))⟩,
 ⟨.bin false .neq (.t 84) (.t 85), (some 86), (some (82, false))⟩,
 ⟨.pick (.t 82) (.c (.bool true)) (.t 86), (some 87), (some (78, true))⟩,
 mo (.pick (.t 78) (.t 87) (.c (.bool false))) 88,
 mo (.mv (.t 88)) 89,
 ⟨.mv (.t 11), (some 90), (some (89, false))⟩,
 ⟨.bin false .gtr (.t 90) (.c (.int .i64 0)), (some 91), (some (89, false))⟩,
 ⟨.mv (.t 91), (some 92), (some (89, false))⟩,
 ⟨.fad 1 (.t 13), (some 93), (some (92, true))⟩,
 ⟨.ld none (.t 93), (some 94), (some (92, true))⟩,
 ⟨.bin false .neq (.t 94) (.c (.int .i64 7)), (some 95), (some (92, true))⟩,
 ⟨.mv (.t 95), (some 96), (some (92, true))⟩,
 ⟨.fad 6 (.t 13), (some 97), (some (96, false))⟩,
 ⟨.ld none (.t 97), (some 98), (some (96, false))⟩,
 ⟨.fad 1 (.t 5), (some 99), (some (96, false))⟩,
 ⟨.ld none (.t 99), (some 100), (some (96, false))⟩,
 ⟨.mv (.t 4), (some 101), (some (96, false))⟩,
 ⟨.mv (.t 11), (some 102), (some (96, false))⟩,
 ⟨.bin true .sub (.t 102) (.c (.int .i64 1)), (some 103), (some (96, false))⟩,
 ⟨.iad 1 (.t 101) (.t 103), (some 104), (some (96, false))⟩,
 ⟨.ld none (.t 104), (some 105), (some (96, false))⟩,
 ⟨.iad 7 (.t 100) (.t 105), (some 106), (some (96, false))⟩,
 ⟨.fad 2 (.t 106), (some 107), (some (96, false))⟩,
 ⟨.ld none (.t 107), (some 108), (some (96, false))⟩,
 ⟨.bin false .neq (.t 98) (.t 108), (some 109), (some (96, false))⟩,
 ⟨.pick (.t 96) (.c (.bool true)) (.t 109), (some 110), (some (92, true))⟩,
 ⟨.pick (.t 92) (.t 110) (.c (.bool false)), (some 111), (some (89, false))⟩,
 mo (.pick (.t 89) (.c (.bool true)) (.t 111)) 112]
 [[],[0],[1],[2],[3,2],[4,2],[5,2,2],[6],[7,6],[6],[8,9,6],[6,10,2],[2,11],[12,6],[13],[14,13],[15,13,13],[16],[17,16],[18,16],[19,16,16],[20],[21,20],[20],[23,20],[20],[20],[26,20],[25,27,20],[28,20],[24,29,20],[30,20],[31,20],[22,32,20],[20,33,16],[16,34,13],[13,35]]
 [[],[0],[0,1],[0,1,2],[0,1,2,3],[0,1,2,3,4],[0,1,2,3,4,5],[0,1,2,3,4,5,6],[0,1,2,3,4,5,6,7],[0,1,2,3,4,5,6],[0,1,2,3,4,5,6,7,8,9],[0,1,2,3,4,5,6,7,8,9,10],[0,1,2,3,4,5,6,7,8,9,10,11],[0,1,2,3,4,5,6,7,8,9,10,11,12],[0,1,2,3,4,5,6,7,8,9,10,11,12,13],[0,1,2,3,4,5,6,7,8,9,10,11,12,13,14],[0,1,2,3,4,5,6,7,8,9,10,11,12,13,14,15],[0,1,2,3,4,5,6,7,8,9,10,11,12,13,14,15,16],[0,1,2,3,4,5,6,7,8,9,10,11,12,13,14,15,16,17],[0,1,2,3,4,5,6,7,8,9,10,11,12,13,14,15,16,17,18],[0,1,2,3,4,5,6,7,8,9,10,11,12,13,14,15,16,17,18,19],[0,1,2,3,4,5,6,7,8,9,10,11,12,13,14,15,16,17,18,19,20],[0,1,2,3,4,5,6,7,8,9,10,11,12,13,14,15,16,17,18,19,20,21],[0,1,2,3,4,5,6,7,8,9,10,11,12,13,14,15,16,17,18,19,20],[0,1,2,3,4,5,6,7,8,9,10,11,12,13,14,15,16,17,18,19,20,23],[0,1,2,3,4,5,6,7,8,9,10,11,12,13,14,15,16,17,18,19,20],[0,1,2,3,4,5,6,7,8,9,10,11,12,13,14,15,16,17,18,19,20],[0,1,2,3,4,5,6,7,8,9,10,11,12,13,14,15,16,17,18,19,20,26],[0,1,2,3,4,5,6,7,8,9,10,11,12,13,14,15,16,17,18,19,20,25,26,27],[0,1,2,3,4,5,6,7,8,9,10,11,12,13,14,15,16,17,18,19,20,25,26,27,28],[0,1,2,3,4,5,6,7,8,9,10,11,12,13,14,15,16,17,18,19,20,23,24,25,26,27,28,29],[0,1,2,3,4,5,6,7,8,9,10,11,12,13,14,15,16,17,18,19,20,23,24,25,26,27,28,29,30],[0,1,2,3,4,5,6,7,8,9,10,11,12,13,14,15,16,17,18,19,20,23,24,25,26,27,28,29,30,31],[0,1,2,3,4,5,6,7,8,9,10,11,12,13,14,15,16,17,18,19,20,21,22,23,24,25,26,27,28,29,30,31,32],[0,1,2,3,4,5,6,7,8,9,10,11,12,13,14,15,16,17,18,19,20,21,22,23,24,25,26,27,28,29,30,31,32,33],[0,1,2,3,4,5,6,7,8,9,10,11,12,13,14,15,16,17,18,19,20,21,22,23,24,25,26,27,28,29,30,31,32,33,34],[0,1,2,3,4,5,6,7,8,9,10,11,12,13,14,15,16,17,18,19,20,21,22,23,24,25,26,27,28,29,30,31,32,33,34,35]])
 (.cond (.t 112)
 (.seq (.reg [mo (.mv (.c (.bool false))) 10])
 .ret)
 .skip))
 mc_5d))
@[irreducible] def mc_2e : MC :=
 (.seq (.reg [mo (.bin false .lss (.t 34) (.t 33)) 35])
 (.seq (.cond (.t 35)
 .skip
 (.exit 0))
 (.seq (.block 1
 (.seq (.reg [mo (.mv (.t 34)) 36,
 mo (.iad 1 (.t 32) (.t 34)) 37,
 mo (.ld none (.t 37)) 38,
 mo (.mv (.t 36)) 11,
 mo (.mv (.t 38)) 12])
 (.cut (.seq (.regI [.op (mo (.mv (.t 12)) 39),
 .op (mo (.bin false .lss (.t 39) (.c (.int .i64 0))) 40),
 .op (mo (.mv (.t 40)) 41),
 .grp mg_59,
 .op (mo (.mv (.t 47)) 48),
 .op ⟨.mv (.t 11), (some 49), (some (48, false))⟩,
 .op ⟨.bin false .gtr (.t 49) (.c (.int .i64 0)), (some 50), (some (48, false))⟩,
 .op ⟨.mv (.t 50), (some 51), (some (48, false))⟩,
 .op ⟨.mv (.t 12), (some 52), (some (51, true))⟩,
 .op ⟨.mv (.t 4), (some 53), (some (51, true))⟩,
 .op ⟨.mv (.t 11), (some 54), (some (51, true))⟩,
 .op ⟨.bin true .sub (.t 54) (.c (.int .i64 1)), (some 55), (some (51, true))⟩,
 .op ⟨.iad 1 (.t 53) (.t 55), (some 56), (some (51, true))⟩,
 .op ⟨.ld none (.t 56), (some 57), (some (51, true))⟩,
 .op ⟨.bin false .leq (.t 52) (.t 57), (some 58), (some (51, true))⟩,
 .op ⟨.pick (.t 51) (.t 58) (.c (.bool false)), (some 59), (some (48, false))⟩,
 .op (mo (.pick (.t 48) (.c (.bool true)) (.t 59)) 60),
 .op (mo (.mv (.t 60)) 61),
 .op ⟨.fad 1 (.t 5), (some 62), (some (61, false))⟩,
 .op ⟨.ld none (.t 62), (some 63), (some (61, false))⟩,
 .op ⟨.mv (.t 12), (some 64), (some (61, false))⟩,
 .op ⟨.iad 7 (.t 63) (.t 64), (some 65), (some (61, false))⟩,
 .op ⟨.fad 0 (.t 65), (some 66), (some (61, false))⟩,
 .op ⟨.ld none (.t 66), (some 67), (some (61, false))⟩,
 .op ⟨.mv (.t 3), (some 68), (some (61, false))⟩,
 .op ⟨.bin false .gtr (.t 67) (.t 68), (some 69), (some (61, false))⟩,
 .op (mo (.pick (.t 61) (.c (.bool true)) (.t 69)) 70)])
 (.cond (.t 70)
 (.seq (.reg [mo (.mv (.c (.bool false))) 10])
 .ret)
 .skip))
 mc_5e)))
 (.reg [mo (.bin true .add (.t 34) (.c (.int .i64 1))) 162,
 mo (.mv (.t 162)) 34]))))
@[irreducible] def mc_5f : MC :=
 (.seq (.seq (.reg [mo (.mv (.t 4)) 32,
 mo (.len false (.t 32)) 33,
 mo (.mv (.c (.int .i64 0))) 34])
 (.block 0
 (.loop mc_2e)))
 (.seq (.regD [mo (.fad 1 (.t 5)) 163,
 mo (.ld none (.t 163)) 164,
 mo (.mv (.t 4)) 165,
 mo (.mv (.t 4)) 166,
 mo (.len false (.t 166)) 167,
 mo (.bin true .sub (.t 167) (.c (.int .i64 1))) 168,
 mo (.iad 1 (.t 165) (.t 168)) 169,
 mo (.ld none (.t 169)) 170,
 mo (.iad 7 (.t 164) (.t 170)) 171,
 mo (.fad 2 (.t 171)) 172,
 mo (.ld none (.t 172)) 173,
 mo (.mv (.t 2)) 174,
 mo (.bin false .eql (.t 173) (.t 174)) 175,
 mo (.mv (.t 175)) 10]
 [[],[0],[],[],[3],[4],[2,5],[6],[1,7],[8],[9],[],[10,11],[12,0,1,2,3,4,5,6,7,8,9,10,11,12]]
 [[],[0],[],[],[3],[3,4],[2,3,4,5],[2,3,4,5,6],[0,1,2,3,4,5,6,7],[0,1,2,3,4,5,6,7,8],[0,1,2,3,4,5,6,7,8,9],[],[0,1,2,3,4,5,6,7,8,9,10,11],[0,1,2,3,4,5,6,7,8,9,10,11,12]])
 .ret))
def mc_16 : MC :=
 (.seq (.reg [mo (.box (.t 0)) 5,
 mo (.mv (.c (.bool false))) 10])
 (.cut (.seq (.regI [.op (mo (.ld (some 2) (.t 5)) 17),
 .op (mo (.mv (.t 1)) 18),
 .op (mo (.call (.f 39) [(.t 17),(.t 18)] [] []) 19),
 .op (mo (.not (.t 19)) 20),
 .op (mo (.mv (.t 20)) 21),
 .op ⟨.ld (some 2) (.t 5), (some 22), (some (21, false))⟩,
 .op ⟨.mv (.t 2), (some 23), (some (21, false))⟩,
 .op ⟨.call (.f 30) [(.t 22),(.t 23)] [] [], (some 24), (some (21, false))⟩,
 .op ⟨.not (.t 24), (some 25), (some (21, false))⟩,
 .op (mo (.pick (.t 21) (.c (.bool true)) (.t 25)) 26),
 .op (mo (.mv (.t 26)) 27),
 .grp mg_3m])
 (.cond (.t 31)
 (.seq (.reg [mo (.mv (.c (.bool false))) 10])
 .ret)
 .skip))
 mc_5f))
theorem Wq_16 (a_ : GEstate) (content_ : Int) (place_ : Int) (t_ : Int) (way_ : List Int) {Q : Bool → Prop} {Q' : V → Heap → Prop} (h : Ok (F_16 a_ content_ place_ t_ way_) Q) (hQ : ∀ z, Q z → Q' (.bool z) []) : ACall Tryz.prog 48 [GEstate.v a_, .int .i64 content_, .int .i64 place_, .int .i64 t_, .sl (way_.map (V.int .i64))] [] Q' := by
 refine acallM mc_16 [] [] [.t 10] Tryz.func48 fun M => ?_
 unfold F_16 at h
 unfold mc_16
 replace h := tY h
 refine tB ?_
 repeat' (first
 | (exact tZ)
 | ((first | refine oblg h ?_ | refine roomG h ?_ | refine fork h ?_ ?_ | refine forkS h ?_ ?_) <;> clear h <;> intro hc h)
 | (obtain ⟨y, hy, h⟩ := h; (first | with_reducible first | have hw := W_20 hy | have hw := W_2 hy | have hw := W_j hy); replace hw := tY hw; (first | refine M.sC hw ?_ | refine M.sD hw ?_); clear hw hy; refine tB ?_)
 | (refine M.gv1 (ms := mg_3m) 31 [28,29,30] h ?_ ?_ <;> first
 | (clear h; intro K hK1; unfold mg_3m; refine tB ?_)
 | (clear h; intro b h; replace h := tY h; refine tB ?_))
 | (refine M.gv1 (ms := mg_3m) 31 [28,29,30] h ?_ ?_ <;> first
 | (clear h; intro K hK2; unfold mg_3m; refine tB ?_)
 | (clear h; intro b h; replace h := tY h; refine tB ?_))
 | (refine M.gv1 (ms := mg_59) 47 [42,43,44,45,46] h ?_ ?_ <;> first
 | (clear h; intro K hK3; unfold mg_59; refine tB ?_)
 | (clear h; intro b h; replace h := tY h; refine tB ?_))
 | (refine M.gv1 (ms := mg_5b) 160 [155,156,157,158,159] h ?_ ?_ <;> first
 | (clear h; intro K hK4; unfold mg_5b; refine tB ?_)
 | (clear h; intro b h; replace h := tY h; refine tB ?_))
 | (refine M.gv1 (ms := mg_5a) 153 [149,150,151,152] h ?_ ?_ <;> first
 | (clear h; intro K hK5; unfold mg_5a; refine tB ?_)
 | (clear h; intro b h; replace h := tY h; refine tB ?_))
 | (refine M.for1 (b := mc_3d) 141 [1,2,3,4,5,13,32,33,34,49,50,51,59,62,63,64,67,68,69,90,91,92,111,139,140] [5,13] (fun x => []) (fun x => []) [] h ?_ ?_ ?_ <;> first
 | (clear h; intro k a x Qn K hK6 hkN6 ha6 h hf; have hl := fact_int (factsE_find (n := 140) hf.1 rfl); clear hf; have hkd := kD hkN6; have hkB6 := kB hkN6; have hkI6 := kI (k := k) (by omega); unfold F_3d at h; unfold mc_3d; replace h := tY h; refine tK ha6 hkd hkN6 hkB6 hkI6 ?_)
  |(clear h; intro x K h; replace h := And.left (And.intro h trivial); unfold mc_3d; replace h := tY h; refine tB ?_)
  |(clear h; (try refine tB ?_); exact tU0; done))
 | (refine M.jn1 (b := mc_5c) [1,2,3,4,5,12,13,32,33,34,49,50,51,59,62,63,64,67,68,69,90,91,92,111] [5,13] (fun y => [(14, .int .i64 y)]) (fun y => []) [] h ?_ ?_ <;> first
 | (clear h; intro Qn K hK7 h; replace h := tY h; refine tB ?_)
  |(clear h; intro y h; unfold mc_5c; replace h := tY h; refine tB ?_))
 | (refine M.jnE (b := mc_5d) [1,2,3,4,5,11,12,13,32,33,34,49,50,51,59,62,63,64,67,68,69] [5,13] (fun y => [(90, .int .i64 y.1), (91, .bool y.2.1), (92, .bool y.2.2.1), (111, .bool y.2.2.2)]) (fun y => []) [] h ?_ ?_ <;> first
 | (clear h; intro Qn K hK8 h; replace h := tY h; refine tB ?_)
  |(clear h; intro y h; unfold mc_5d; replace h := tY h; refine tB ?_))
 | (refine M.jnE (b := mc_5e) [1,2,3,4,5,11,12,32,33,34] [5] (fun y => [(49, .int .i64 y.1), (50, .bool y.2.1), (51, .bool y.2.2.1), (59, .bool y.2.2.2.1), (62, .ptr 5 1), (63, .sl (y.2.2.2.2.1.map GAccess.v)), (64, .int .i64 y.2.2.2.2.2.1), (67, .int .i64 y.2.2.2.2.2.2.1), (68, .int .i64 y.2.2.2.2.2.2.2.1), (69, .bool y.2.2.2.2.2.2.2.2)]) (fun y => []) [] h ?_ ?_ <;> first
 | (clear h; intro Qn K hK9 h; replace h := tY h; refine tB ?_)
  |(clear h; intro y h; unfold mc_5e; replace h := tY h; refine tB ?_))
 | (refine M.for1 (b := mc_2e) 34 [1,2,3,4,5,32,33] [5] (fun x => []) (fun x => []) [] h ?_ ?_ ?_ <;> first
 | (clear h; intro k a x Qn K hK10 hkN10 ha10 h hf; have hl := fact_int (factsE_find (n := 33) hf.1 rfl); clear hf; have hkd := kD hkN10; have hkB10 := kB hkN10; have hkI10 := kI (k := k) (by omega); unfold F_2e at h; unfold mc_2e; replace h := tY h; refine tK ha10 hkd hkN10 hkB10 hkI10 ?_)
  |(clear h; intro x K h; replace h := And.left (And.intro h trivial); unfold mc_2e; replace h := tY h; refine tB ?_)
  |(clear h; (try refine tB ?_); exact tU0; done))
 | (refine M.jnE (b := mc_5f) [1,2,3,4,5] [5] (fun y => []) (fun y => []) [] h ?_ ?_ <;> first
 | (clear h; intro Qn K hK11 h; replace h := tY h; refine tB ?_)
  |(clear h; intro y h; unfold mc_5f; replace h := tY h; refine tB ?_))
 | (first | simp only [ha6] | simp only [ha10])
 | ((first | refine hK1 _ ?_ | refine hK2 _ ?_ | refine hK3 _ ?_ | refine hK4 _ ?_ | refine hK5 _ ?_); exact tU; done)
 | ((first | refine hK6 _ ?_ | refine hK7 _ ?_ | refine hK8 _ ?_ | refine hK9 _ ?_ | refine hK10 _ ?_ | refine hK11 _ ?_); (try refine tB ?_); refine ⟨_, h, ?_⟩; exact tU0; done)
 | (refine bfork (fun hc => ?_) (fun hc => ?_))
 | (refine tE ?_; (first | rw [M.lok_compU] | rw [M.lokD_compU]); refine tB ?_)
 | (refine tA ?_))
def W_16 {a_ content_ place_ t_ way_ y} (hy : (F_16 a_ content_ place_ t_ way_) = some y) := acW (Wq_16 a_ content_ place_ t_ way_) hy
def F_2y (place_ : Int) (t_ : Int) (k71 : Int) (a72 : GAccess) (x70 : Unit) : Option (Fl Unit Bool) :=
 grp ((decide (a72.Kind = 4) && decide (a72.Place = place_))) fun b87 => grp ((b87 && decide (a72.Time ≤ t_))) fun b88 => bif b88 then some (.ex false) else some (.nx ())
def F_c (a_ : GEstate) (place_ : Int) (link_ : Int) (t_ : Int) : Option Bool :=
 (F_2 a_ place_).bind fun y7 => bif (!y7) then some false else chk (in64 ((a_.Events.length : Int) - 1)) ((F_5 link_ 0 ((a_.Events.length : Int) - 1)).bind fun y8 => bif (!y8) then some false else chk (inb link_ a_.Events.length) (grp (((!decide ((a_.Events.getD (link_).toNat default).Kind = 3)) || (!decide ((a_.Events.getD (link_).toNat default).Place = place_)))) fun b18 => grp ((b18 || decide (t_ < (a_.Events.getD (link_).toNat default).Time))) fun b19 => grp ((b19 || decide ((a_.Events.getD (link_).toNat default).Until ≤ t_))) fun b20 => bif b20 then some false else chk (in64 (link_ + 1)) (chk (inc (link_ + 1) (a_.Events.length : Int) a_.Events.length) ((forL (F_2y place_ t_) (a_.Events.drop (((link_ + 1)).toNat)) 0 ()).bind fun o => o.elim (fun x89 => some true) (fun r90 => some r90)))))
@[irreducible] def mg_5g : List MOp := [⟨.fad 2 (.t 9), (some 34), (some (33, false))⟩,
 ⟨.ld none (.t 34), (some 35), (some (33, false))⟩,
 ⟨.mv (.t 1), (some 36), (some (33, false))⟩,
 ⟨.bin false .neq (.t 35) (.t 36), (some 37), (some (33, false))⟩,
 mo (.pick (.t 33) (.c (.bool true)) (.t 37)) 38]
@[irreducible] def mg_5h : List MOp := [⟨.fad 0 (.t 9), (some 40), (some (39, false))⟩,
 ⟨.ld none (.t 40), (some 41), (some (39, false))⟩,
 ⟨.mv (.t 3), (some 42), (some (39, false))⟩,
 ⟨.bin false .gtr (.t 41) (.t 42), (some 43), (some (39, false))⟩,
 mo (.pick (.t 39) (.c (.bool true)) (.t 43)) 44]
@[irreducible] def mg_5i : List MOp := [⟨.fad 4 (.t 9), (some 46), (some (45, false))⟩,
 ⟨.ld none (.t 46), (some 47), (some (45, false))⟩,
 ⟨.mv (.t 3), (some 48), (some (45, false))⟩,
 ⟨.bin false .leq (.t 47) (.t 48), (some 49), (some (45, false))⟩,
 mo (.pick (.t 45) (.c (.bool true)) (.t 49)) 50]
@[irreducible] def mg_5j : List MOp := [⟨.fad 2 (.t 11), (some 65), (some (64, true))⟩,
 ⟨.ld none (.t 65), (some 66), (some (64, true))⟩,
 ⟨.mv (.t 1), (some 67), (some (64, true))⟩,
 ⟨.bin false .eql (.t 66) (.t 67), (some 68), (some (64, true))⟩,
 mo (.pick (.t 64) (.t 68) (.c (.bool false))) 69]
@[irreducible] def mg_5k : List MOp := [⟨.fad 0 (.t 11), (some 71), (some (70, true))⟩,
 ⟨.ld none (.t 71), (some 72), (some (70, true))⟩,
 ⟨.mv (.t 3), (some 73), (some (70, true))⟩,
 ⟨.bin false .leq (.t 72) (.t 73), (some 74), (some (70, true))⟩,
 mo (.pick (.t 70) (.t 74) (.c (.bool false))) 75]
@[irreducible] def mc_2y : MC :=
 (.seq (.reg [mo (.bin false .lss (.t 57) (.t 56)) 58])
 (.seq (.cond (.t 58)
 .skip
 (.exit 0))
 (.seq (.block 1
 (.seq (.reg [mo (.iad 7 (.t 55) (.t 57)) 59,
 mo (.ld (some 7) (.t 59)) 60,
 mo (.alloc [(.int .i64 0),(.int .i64 0),(.int .i64 0),(.int .i64 0),(.int .i64 0),(.int .i64 0),(.int .i64 0)]) 11,
 ⟨.st 7 (.t 11) (.t 60), none, none⟩])
 (.seq (.regI [.op (mo (.fad 1 (.t 11)) 61),
 .op (mo (.ld none (.t 61)) 62),
 .op (mo (.bin false .eql (.t 62) (.c (.int .i64 4))) 63),
 .op (mo (.mv (.t 63)) 64),
 .grp mg_5j,
 .op (mo (.mv (.t 69)) 70),
 .grp mg_5k])
 (.cond (.t 75)
 (.seq (.reg [mo (.mv (.c (.bool false))) 8])
 .ret)
 .skip))))
 (.reg [mo (.bin true .add (.t 57) (.c (.int .i64 1))) 76,
 mo (.mv (.t 76)) 57]))))
def mc_c : MC :=
 (.seq (.reg [mo (.box (.t 0)) 4,
 mo (.mv (.c (.bool false))) 8])
 (.seq (.seq (.reg [mo (.ld (some 2) (.t 4)) 12,
 mo (.mv (.t 1)) 13,
 mo (.call (.f 30) [(.t 12),(.t 13)] [] []) 14,
 mo (.not (.t 14)) 15,
 mo (.mv (.t 15)) 16,
 ⟨.mv (.t 2), (some 17), (some (16, false))⟩,
 ⟨.fad 1 (.t 4), (some 18), (some (16, false))⟩,
 ⟨.ld none (.t 18), (some 19), (some (16, false))⟩,
 ⟨.len false (.t 19), (some 20), (some (16, false))⟩,
 ⟨.bin true .sub (.t 20) (.c (.int .i64 1)), (some 21), (some (16, false))⟩,
 ⟨.call (.f 54) [(.t 17),(.c (.int .i64 0)),(.t 21)] [] [], (some 22), (some (16, false))⟩,
 ⟨.not (.t 22), (some 23), (some (16, false))⟩,
 mo (.pick (.t 16) (.c (.bool true)) (.t 23)) 24])
 (.cond (.t 24)
 (.seq (.reg [mo (.mv (.c (.bool false))) 8])
 .ret)
 .skip))
 (.seq (.note (.gc [1,2,3,4,34,35,36,37,40,41,42,43,46,47,48,49,65,66,67,68,71,72,73,74]) (.reg [mo (.fad 1 (.t 4)) 25,
 mo (.ld none (.t 25)) 26,
 mo (.mv (.t 2)) 27,
 mo (.iad 7 (.t 26) (.t 27)) 28,
 mo (.ld (some 7) (.t 28)) 29,
 mo (.alloc [(.int .i64 0),(.int .i64 0),(.int .i64 0),(.int .i64 0),(.int .i64 0),(.int .i64 0),(.int .i64 0)]) 9,
 ⟨.st 7 (.t 9) (.t 29), none, none⟩]))
 (.seq (.seq (.regI [.op (mo (.fad 1 (.t 9)) 30),
 .op (mo (.ld none (.t 30)) 31),
 .op (mo (.bin false .neq (.t 31) (.c (.int .i64 3))) 32),
 .op (mo (.mv (.t 32)) 33),
 .grp mg_5g,
 .op (mo (.mv (.t 38)) 39),
 .grp mg_5h,
 .op (mo (.mv (.t 44)) 45),
 .grp mg_5i])
 (.cond (.t 50)
 (.seq (.reg [mo (.mv (.c (.bool false))) 8])
 .ret)
 .skip))
 (.seq (.seq (.note (.gc [1,2,3,4,65,66,67,68,71,72,73,74]) (.reg [mo (.fad 1 (.t 4)) 51,
 mo (.ld none (.t 51)) 52,
 mo (.mv (.t 2)) 53,
 mo (.bin true .add (.t 53) (.c (.int .i64 1))) 54,
 mo (.slc 7 (.t 52) (some (.t 54)) none) 55,
 mo (.len false (.t 55)) 56,
 mo (.mv (.c (.int .i64 0))) 57]))
 (.block 0
 (.loop mc_2y)))
 (.seq (.reg [mo (.mv (.c (.bool true))) 8])
 .ret))))))
theorem Wq_c (a_ : GEstate) (place_ : Int) (link_ : Int) (t_ : Int) {Q : Bool → Prop} {Q' : V → Heap → Prop} (h : Ok (F_c a_ place_ link_ t_) Q) (hQ : ∀ z, Q z → Q' (.bool z) []) : ACall Tryz.prog 40 [GEstate.v a_, .int .i64 place_, .int .i64 link_, .int .i64 t_] [] Q' := by
 refine acallM mc_c [] [] [.t 8] Tryz.func40 fun M => ?_
 unfold F_c at h
 unfold mc_c
 replace h := tY h
 refine tB ?_
 repeat' (first
 | (exact tZ)
 | ((first | refine oblg h ?_ | refine roomG h ?_ | refine fork h ?_ ?_ | refine forkS h ?_ ?_) <;> clear h <;> intro hc h)
 | (obtain ⟨y, hy, h⟩ := h; (first | with_reducible first | have hw := W_2 hy | have hw := W_5 hy); replace hw := tY hw; (first | refine M.sC hw ?_ | refine M.sD hw ?_); clear hw hy; refine tB ?_)
 | (refine M.gv1 (ms := mg_5k) 75 [71,72,73,74] h ?_ ?_ <;> first
 | (clear h; intro K hK1; unfold mg_5k; refine tB ?_)
 | (clear h; intro b h; replace h := tY h; refine tB ?_))
 | (refine M.gv1 (ms := mg_5j) 69 [65,66,67,68] h ?_ ?_ <;> first
 | (clear h; intro K hK2; unfold mg_5j; refine tB ?_)
 | (clear h; intro b h; replace h := tY h; refine tB ?_))
 | (refine M.for1 (b := mc_2y) 57 [1,3,55,56] [] (fun x => []) (fun x => []) [] h ?_ ?_ ?_ <;> first
 | (clear h; intro k a x Qn K hK3 hkN3 ha3 h hf; have hl := fact_int (factsE_find (n := 56) hf.1 rfl); clear hf; have hkd := kD hkN3; have hkB3 := kB hkN3; have hkI3 := kI (k := k) (by omega); unfold F_2y at h; unfold mc_2y; replace h := tY h; refine tK ha3 hkd hkN3 hkB3 hkI3 ?_)
  |(clear h; intro x K h; replace h := And.left (And.intro h trivial); unfold mc_2y; replace h := tY h; refine tB ?_)
  |(clear h; (try refine tB ?_); exact tU0; done))
 | (refine M.gv1 (ms := mg_5i) 50 [46,47,48,49] h ?_ ?_ <;> first
 | (clear h; intro K hK4; unfold mg_5i; refine tB ?_)
 | (clear h; intro b h; replace h := tY h; refine tB ?_))
 | (refine M.gv1 (ms := mg_5h) 44 [40,41,42,43] h ?_ ?_ <;> first
 | (clear h; intro K hK5; unfold mg_5h; refine tB ?_)
 | (clear h; intro b h; replace h := tY h; refine tB ?_))
 | (refine M.gv1 (ms := mg_5g) 38 [34,35,36,37] h ?_ ?_ <;> first
 | (clear h; intro K hK6; unfold mg_5g; refine tB ?_)
 | (clear h; intro b h; replace h := tY h; refine tB ?_))
 | (simp only [ha3])
 | ((first | refine hK1 _ ?_ | refine hK2 _ ?_ | refine hK4 _ ?_ | refine hK5 _ ?_ | refine hK6 _ ?_); exact tU; done)
 | (refine hK3 _ ?_; (try refine tB ?_); refine ⟨_, h, ?_⟩; exact tU0; done)
 | (refine bfork (fun hc => ?_) (fun hc => ?_))
 | (refine tE ?_; (first | rw [M.lok_compU] | rw [M.lokD_compU]); refine tB ?_)
 | (refine tA ?_))
def W_c {a_ place_ link_ t_ y} (hy : (F_c a_ place_ link_ t_) = some y) := acW (Wq_c a_ place_ link_ t_) hy
def F_2q (place_ : Int) (principal_ : Int) (t_ : Int) (k128 : Int) (a129 : GAccess) (x127 : Int) : Option Int :=
 grp ((decide (t_ < a129.Time) || (!decide (a129.Place = place_)))) fun b160 => grp ((b160 || (!decide (a129.Principal = principal_)))) fun b161 => bif b161 then some x127 else bif decide (a129.Kind = 1) then some k128 else bif decide (a129.Kind = 2) then some (-1) else some x127
def F_z (a_ : GEstate) (place_ : Int) (principal_ : Int) (t_ : Int) : Option Int :=
 (foldL (F_2q place_ principal_ t_) a_.Events 0 (-1)).bind fun x162 => some x162
@[irreducible] def mg_5l : List MOp := [⟨.fad 2 (.t 11), (some 25), (some (24, false))⟩,
 ⟨.ld none (.t 25), (some 26), (some (24, false))⟩,
 ⟨.mv (.t 1), (some 27), (some (24, false))⟩,
 ⟨.bin false .neq (.t 26) (.t 27), (some 28), (some (24, false))⟩,
 mo (.pick (.t 24) (.c (.bool true)) (.t 28)) 29]
@[irreducible] def mg_5m : List MOp := [⟨.fad 3 (.t 11), (some 31), (some (30, false))⟩,
 ⟨.ld none (.t 31), (some 32), (some (30, false))⟩,
 ⟨.mv (.t 2), (some 33), (some (30, false))⟩,
 ⟨.bin false .neq (.t 32) (.t 33), (some 34), (some (30, false))⟩,
 mo (.pick (.t 30) (.c (.bool true)) (.t 34)) 35]
@[irreducible] def mc_2q : MC :=
 (.seq (.reg [mo (.bin false .lss (.t 15) (.t 14)) 16])
 (.seq (.cond (.t 16)
 .skip
 (.exit 0))
 (.seq (.block 1
 (.seq (.reg [mo (.mv (.t 15)) 17,
 mo (.iad 7 (.t 13) (.t 15)) 18,
 mo (.ld (some 7) (.t 18)) 19,
 mo (.alloc [(.int .i64 0),(.int .i64 0),(.int .i64 0),(.int .i64 0),(.int .i64 0),(.int .i64 0),(.int .i64 0)]) 11,
 mo (.mv (.t 17)) 10,
 ⟨.st 7 (.t 11) (.t 19), none, none⟩])
 (.seq (.seq (.regI [.op (mo (.fad 0 (.t 11)) 20),
 .op (mo (.ld none (.t 20)) 21),
 .op (mo (.mv (.t 3)) 22),
 .op (mo (.bin false .gtr (.t 21) (.t 22)) 23),
 .op (mo (.mv (.t 23)) 24),
 .grp mg_5l,
 .op (mo (.mv (.t 29)) 30),
 .grp mg_5m])
 (.cond (.t 35)
 (.exit 1)
 .skip))
 (.seq (.reg [mo (.fad 1 (.t 11)) 36,
 mo (.ld none (.t 36)) 37])
 (.block 2
 (.seq (.reg [mo (.bin false .eql (.t 37) (.c (.int .i64 1))) 39,
 mo (.mv (.t 39)) 38])
 (.cond (.t 38)
 (.reg [mo (.mv (.t 10)) 40,
 mo (.mv (.t 40)) 9])
 (.seq (.reg [mo (.bin false .eql (.t 37) (.c (.int .i64 2))) 42,
 mo (.mv (.t 42)) 41])
 (.cond (.t 41)
 (.reg [mo (.mv (.c (.int .i64 (-1)))) 9])
 .skip)))))))))
 (.reg [mo (.bin true .add (.t 15) (.c (.int .i64 1))) 43,
 mo (.mv (.t 43)) 15]))))
def mc_z : MC :=
 (.seq (.reg [mo (.box (.t 0)) 4,
 mo (.mv (.c (.int .i64 0))) 8])
 (.seq (.reg [mo (.mv (.c (.int .i64 (-1)))) 9])
 (.seq (.seq (.reg [mo (.fad 1 (.t 4)) 12,
 mo (.ld none (.t 12)) 13,
 mo (.len false (.t 13)) 14,
 mo (.mv (.c (.int .i64 0))) 15])
 (.block 0
 (.loop mc_2q)))
 (.seq (.reg [mo (.mv (.t 9)) 44,
 mo (.mv (.t 44)) 8])
 .ret))))
theorem Wq_z (a_ : GEstate) (place_ : Int) (principal_ : Int) (t_ : Int) {Q : Int → Prop} {Q' : V → Heap → Prop} (h : Ok (F_z a_ place_ principal_ t_) Q) (hQ : ∀ z, Q z → Q' (.int .i64 z) []) : ACall Tryz.prog 86 [GEstate.v a_, .int .i64 place_, .int .i64 principal_, .int .i64 t_] [] Q' := by
 refine acallM mc_z [] [] [.t 8] Tryz.func86 fun M => ?_
 unfold F_z at h
 unfold mc_z
 replace h := tY h
 refine tB ?_
 repeat' (first
 | (exact tZ)
 | ((first | refine oblg h ?_ | refine roomG h ?_ | refine fork h ?_ ?_ | refine forkS h ?_ ?_) <;> clear h <;> intro hc h)
 | (refine M.gv1 (ms := mg_5m) 35 [31,32,33,34] h ?_ ?_ <;> first
 | (clear h; intro K hK1; unfold mg_5m; refine tB ?_)
 | (clear h; intro b h; replace h := tY h; refine tB ?_))
 | (refine M.gv1 (ms := mg_5l) 29 [25,26,27,28] h ?_ ?_ <;> first
 | (clear h; intro K hK2; unfold mg_5l; refine tB ?_)
 | (clear h; intro b h; replace h := tY h; refine tB ?_))
 | (refine M.fold1 (b := mc_2q) 15 [1,2,3,13,14] [] (fun x => [(9, .int .i64 x)]) (fun x => []) [] h ?_ ?_ ?_ <;> first
 | (clear h; intro k a x Qn K hK3 hkN3 ha3 h hf; have hl := fact_int (factsE_find (n := 14) hf.1 rfl); clear hf; have hkd := kD hkN3; have hkB3 := kB hkN3; have hkI3 := kI (k := k) (by omega); unfold F_2q at h; unfold mc_2q; replace h := tY h; refine tK ha3 hkd hkN3 hkB3 hkI3 ?_)
  |(clear h; intro x K h; replace h := And.left (And.intro h trivial); unfold mc_2q; replace h := tY h; refine tB ?_)
  |(clear h; (try refine tB ?_); exact tU0; done))
 | (simp only [ha3])
 | ((first | refine hK1 _ ?_ | refine hK2 _ ?_); exact tU; done)
 | (refine hK3 _ ?_; (try refine tB ?_); refine ⟨_, h, ?_⟩; exact tU0; done)
 | (refine bfork (fun hc => ?_) (fun hc => ?_))
 | (refine tE ?_; (first | rw [M.lok_compU] | rw [M.lokD_compU]); refine tB ?_)
 | (refine tA ?_))
def W_z {a_ place_ principal_ t_ y} (hy : (F_z a_ place_ principal_ t_) = some y) := acW (Wq_z a_ place_ principal_ t_) hy
def F_29 (a_ : GEstate) (place_ : Int) (principal_ : Int) (t_ : Int) : Option (Int × Bool) :=
 (F_2 a_ place_).bind fun y4 => bif (!y4) then some (0, false) else (F_z a_ place_ principal_ t_).bind fun y8 => bif decide (0 ≤ y8) then some (y8, true) else some (0, false)
def mc_29 : MC :=
 (.seq (.reg [mo (.box (.t 0)) 4,
 mo (.mv (.c (.int .i64 0))) 8,
 mo (.mv (.c (.bool false))) 9])
 (.seq (.seq (.reg [mo (.ld (some 2) (.t 4)) 11,
 mo (.mv (.t 1)) 12,
 mo (.call (.f 30) [(.t 11),(.t 12)] [] []) 13,
 mo (.not (.t 13)) 14])
 (.cond (.t 14)
 (.seq (.reg [mo (.mv (.c (.int .i64 0))) 8,
 mo (.mv (.c (.bool false))) 9])
 .ret)
 .skip))
 (.seq (.seq (.reg [mo (.ld (some 2) (.t 4)) 15,
 mo (.mv (.t 1)) 16,
 mo (.mv (.t 2)) 17,
 mo (.mv (.t 3)) 18,
 mo (.call (.f 86) [(.t 15),(.t 16),(.t 17),(.t 18)] [] []) 19,
 mo (.mv (.t 19)) 10])
 (.seq (.reg [mo (.mv (.t 10)) 20,
 mo (.bin false .geq (.t 20) (.c (.int .i64 0))) 21])
 (.cond (.t 21)
 (.seq (.note (.gc [10]) (.reg [mo (.mv (.t 10)) 22,
 mo (.mv (.t 22)) 8,
 mo (.mv (.c (.bool true))) 9]))
 .ret)
 .skip)))
 (.seq (.reg [mo (.mv (.c (.int .i64 0))) 8,
 mo (.mv (.c (.bool false))) 9])
 .ret))))
theorem Wq_29 (a_ : GEstate) (place_ : Int) (principal_ : Int) (t_ : Int) {Q : Int × Bool → Prop} {Q' : V → Heap → Prop} (h : Ok (F_29 a_ place_ principal_ t_) Q) (hQ : ∀ z, Q z → Q' (.tup [.int .i64 z.1, .bool z.2]) []) : ACall Tryz.prog 77 [GEstate.v a_, .int .i64 place_, .int .i64 principal_, .int .i64 t_] [] Q' := by
 refine acallM mc_29 [] [] [.t 8, .t 9] Tryz.func77 fun M => ?_
 unfold F_29 at h
 unfold mc_29
 replace h := tY h
 refine tB ?_
 repeat' (first
 | (exact tZ)
 | ((first | refine oblg h ?_ | refine roomG h ?_ | refine fork h ?_ ?_ | refine forkS h ?_ ?_) <;> clear h <;> intro hc h)
 | (obtain ⟨y, hy, h⟩ := h; (first | with_reducible first | have hw := W_2 hy | have hw := W_z hy); replace hw := tY hw; (first | refine M.sC hw ?_ | refine M.sD hw ?_); clear hw hy; refine tB ?_)
 | (refine tE ?_; (first | rw [M.lok_compU] | rw [M.lokD_compU]); refine tB ?_)
 | (refine tA ?_))
def W_29 {a_ place_ principal_ t_ y} (hy : (F_29 a_ place_ principal_ t_) = some y) := acW (Wq_29 a_ place_ principal_ t_) hy
def F_2z (x_ : Int) (k11 : Int) (a12 : Int) (x10 : Unit) : Option (Fl Unit Bool) :=
 bif decide (a12 = x_) then some (.ex true) else some (.nx ())
def F_10 (l_ : List Int) (x_ : Int) : Option Bool :=
 (forL (F_2z x_) l_ 0 ()).bind fun o => o.elim (fun x13 => some false) (fun r14 => some r14)
@[irreducible] def mc_2z : MC :=
 (.seq (.reg [mo (.bin false .lss (.t 9) (.t 8)) 10])
 (.seq (.cond (.t 10)
 .skip
 (.exit 0))
 (.seq (.block 1
 (.seq (.reg [mo (.iad 1 (.t 7) (.t 9)) 11,
 mo (.ld none (.t 11)) 12,
 mo (.mv (.t 12)) 6])
 (.seq (.reg [mo (.mv (.t 6)) 13,
 mo (.mv (.t 1)) 14,
 mo (.bin false .eql (.t 13) (.t 14)) 15])
 (.cond (.t 15)
 (.seq (.reg [mo (.mv (.c (.bool true))) 4])
 .ret)
 .skip))))
 (.reg [mo (.bin true .add (.t 9) (.c (.int .i64 1))) 16,
 mo (.mv (.t 16)) 9]))))
def mc_10 : MC :=
 (.seq (.reg [mo (.mv (.c (.bool false))) 4])
 (.seq (.seq (.reg [mo (.mv (.t 0)) 7,
 mo (.len false (.t 7)) 8,
 mo (.mv (.c (.int .i64 0))) 9])
 (.block 0
 (.loop mc_2z)))
 (.seq (.reg [mo (.mv (.c (.bool false))) 4])
 .ret)))
theorem Wq_10 (l_ : List Int) (x_ : Int) {Q : Bool → Prop} {Q' : V → Heap → Prop} (h : Ok (F_10 l_ x_) Q) (hQ : ∀ z, Q z → Q' (.bool z) []) : ACall Tryz.prog 59 [.sl (l_.map (V.int .i64)), .int .i64 x_] [] Q' := by
 refine acallM mc_10 [] [] [.t 4] Tryz.func59 fun M => ?_
 unfold F_10 at h
 unfold mc_10
 replace h := tY h
 refine tB ?_
 repeat' (first
 | (exact tZ)
 | ((first | refine oblg h ?_ | refine roomG h ?_ | refine fork h ?_ ?_ | refine forkS h ?_ ?_) <;> clear h <;> intro hc h)
 | (refine M.for1 (b := mc_2z) 9 [1,7,8] [] (fun x => []) (fun x => []) [] h ?_ ?_ ?_ <;> first
 | (clear h; intro k a x Qn K hK1 hkN1 ha1 h hf; have hl := fact_int (factsE_find (n := 8) hf.1 rfl); clear hf; have hkd := kD hkN1; have hkB1 := kB hkN1; have hkI1 := kI (k := k) (by omega); unfold F_2z at h; unfold mc_2z; replace h := tY h; refine tK ha1 hkd hkN1 hkB1 hkI1 ?_)
  |(clear h; intro x K h; replace h := And.left (And.intro h trivial); unfold mc_2z; replace h := tY h; refine tB ?_)
  |(clear h; (try refine tB ?_); exact tU0; done))
 | (simp only [ha1])
 | (refine hK1 _ ?_; (try refine tB ?_); refine ⟨_, h, ?_⟩; exact tU0; done)
 | (refine tE ?_; (first | rw [M.lok_compU] | rw [M.lokD_compU]); refine tB ?_)
 | (refine tA ?_))
def W_10 {l_ x_ y} (hy : (F_10 l_ x_) = some y) := acW (Wq_10 l_ x_) hy
def F_3e (p_ : Int) (group_ : Int) (t_ : Int) (k72 : Int) (a73 : GMember) (x71 : Bool) : Option Bool :=
 grp ((decide (a73.Time ≤ t_) && decide (a73.Principal = p_))) fun b88 => grp ((b88 && decide (a73.Group = group_))) fun b89 => bif b89 then some (decide (a73.Kind = 1)) else some x71
def F_2a (d_ : GDirectory) (p_ : Int) (group_ : Int) (t_ : Int) : Option Bool :=
 (foldL (F_3e p_ group_ t_) d_.Events 0 false).bind fun x90 => some x90
@[irreducible] def mg_5n : List MOp := [⟨.fad 2 (.t 11), (some 24), (some (23, true))⟩,
 ⟨.ld none (.t 24), (some 25), (some (23, true))⟩,
 ⟨.mv (.t 1), (some 26), (some (23, true))⟩,
 ⟨.bin false .eql (.t 25) (.t 26), (some 27), (some (23, true))⟩,
 mo (.pick (.t 23) (.t 27) (.c (.bool false))) 28]
@[irreducible] def mg_5o : List MOp := [⟨.fad 3 (.t 11), (some 30), (some (29, true))⟩,
 ⟨.ld none (.t 30), (some 31), (some (29, true))⟩,
 ⟨.mv (.t 2), (some 32), (some (29, true))⟩,
 ⟨.bin false .eql (.t 31) (.t 32), (some 33), (some (29, true))⟩,
 mo (.pick (.t 29) (.t 33) (.c (.bool false))) 34]
@[irreducible] def mc_3e : MC :=
 (.seq (.reg [mo (.bin false .lss (.t 15) (.t 14)) 16])
 (.seq (.cond (.t 16)
 .skip
 (.exit 0))
 (.seq (.block 1
 (.seq (.reg [mo (.iad 4 (.t 13) (.t 15)) 17,
 mo (.ld (some 4) (.t 17)) 18,
 mo (.alloc [(.int .i64 0),(.int .i64 0),(.int .i64 0),(.int .i64 0)]) 11,
 ⟨.st 4 (.t 11) (.t 18), none, none⟩])
 (.seq (.regI [.op (mo (.fad 0 (.t 11)) 19),
 .op (mo (.ld none (.t 19)) 20),
 .op (mo (.mv (.t 3)) 21),
 .op (mo (.bin false .leq (.t 20) (.t 21)) 22),
 .op (mo (.mv (.t 22)) 23),
 .grp mg_5n,
 .op (mo (.mv (.t 28)) 29),
 .grp mg_5o])
 (.cond (.t 34)
 (.note (.gc [1,2,3,11,13,14,15,24,25,26,27,30,31,32,33]) (.reg [mo (.fad 1 (.t 11)) 35,
 mo (.ld none (.t 35)) 36,
 mo (.bin false .eql (.t 36) (.c (.int .i64 1))) 37,
 mo (.mv (.t 37)) 9]))
 .skip))))
 (.reg [mo (.bin true .add (.t 15) (.c (.int .i64 1))) 38,
 mo (.mv (.t 38)) 15]))))
def mc_2a : MC :=
 (.seq (.reg [mo (.box (.t 0)) 4,
 mo (.mv (.c (.bool false))) 8])
 (.seq (.reg [mo (.mv (.c (.bool false))) 9])
 (.seq (.seq (.reg [mo (.fad 1 (.t 4)) 12,
 mo (.ld none (.t 12)) 13,
 mo (.len false (.t 13)) 14,
 mo (.mv (.c (.int .i64 0))) 15])
 (.block 0
 (.loop mc_3e)))
 (.seq (.reg [mo (.mv (.t 9)) 39,
 mo (.mv (.t 39)) 8])
 .ret))))
theorem Wq_2a (d_ : GDirectory) (p_ : Int) (group_ : Int) (t_ : Int) {Q : Bool → Prop} {Q' : V → Heap → Prop} (h : Ok (F_2a d_ p_ group_ t_) Q) (hQ : ∀ z, Q z → Q' (.bool z) []) : ACall Tryz.prog 103 [GDirectory.v d_, .int .i64 p_, .int .i64 group_, .int .i64 t_] [] Q' := by
 refine acallM mc_2a [] [] [.t 8] Tryz.func103 fun M => ?_
 unfold F_2a at h
 unfold mc_2a
 replace h := tY h
 refine tB ?_
 repeat' (first
 | (exact tZ)
 | ((first | refine oblg h ?_ | refine roomG h ?_ | refine fork h ?_ ?_ | refine forkS h ?_ ?_) <;> clear h <;> intro hc h)
 | (refine M.gv1 (ms := mg_5o) 34 [30,31,32,33] h ?_ ?_ <;> first
 | (clear h; intro K hK1; unfold mg_5o; refine tB ?_)
 | (clear h; intro b h; replace h := tY h; refine tB ?_))
 | (refine M.gv1 (ms := mg_5n) 28 [24,25,26,27] h ?_ ?_ <;> first
 | (clear h; intro K hK2; unfold mg_5n; refine tB ?_)
 | (clear h; intro b h; replace h := tY h; refine tB ?_))
 | (refine M.fold1 (b := mc_3e) 15 [1,2,3,13,14] [] (fun x => [(9, .bool x)]) (fun x => []) [] h ?_ ?_ ?_ <;> first
 | (clear h; intro k a x Qn K hK3 hkN3 ha3 h hf; have hl := fact_int (factsE_find (n := 14) hf.1 rfl); clear hf; have hkd := kD hkN3; have hkB3 := kB hkN3; have hkI3 := kI (k := k) (by omega); unfold F_3e at h; unfold mc_3e; replace h := tY h; refine tK ha3 hkd hkN3 hkB3 hkI3 ?_)
  |(clear h; intro x K h; replace h := And.left (And.intro h trivial); unfold mc_3e; replace h := tY h; refine tB ?_)
  |(clear h; (try refine tB ?_); exact tU0; done))
 | (simp only [ha3])
 | ((first | refine hK1 _ ?_ | refine hK2 _ ?_); exact tU; done)
 | (refine hK3 _ ?_; (try refine tB ?_); refine ⟨_, h, ?_⟩; exact tU0; done)
 | (refine bfork (fun hc => ?_) (fun hc => ?_))
 | (refine tE ?_; (first | rw [M.lok_compU] | rw [M.lokD_compU]); refine tB ?_)
 | (refine tA ?_))
def W_2a {d_ p_ group_ t_ y} (hy : (F_2a d_ p_ group_ t_) = some y) := acW (Wq_2a d_ p_ group_ t_) hy
def F_3f (d_ : GDirectory) (t_ : Int) (chain_ : List Int) (k83 : Int) (a84 : Int) (x82 : Unit) : Option (Fl Unit Bool) :=
 (F_3 d_ a84).bind fun y106 => bif (!y106) then some (.ex false) else chk (inc 0 k83 chain_.length) ((F_10 (chain_.take ((k83).toNat)) a84).bind fun y107 => bif y107 then some (.ex false) else bif decide (0 < k83) then chk (in64 (k83 - 1)) (chk (inb (k83 - 1) chain_.length) ((F_2a d_ (chain_.getD ((k83 - 1)).toNat default) a84 t_).bind fun y108 => bif (!y108) then some (.ex false) else some (.nx ()))) else some (.nx ()))
def F_2b (d_ : GDirectory) (t_ : Int) (chain_ : List Int) : Option Bool :=
 (F_8 d_).bind fun y10 => grp (((!y10) || decide ((chain_.length : Int) < 2))) fun b11 => grp ((b11 || decide ((d_.Kinds.length : Int) < (chain_.length : Int)))) fun b12 => bif b12 then some false else (forL (F_3f d_ t_ chain_) chain_ 0 ()).bind fun o => o.elim (fun x109 => some true) (fun r110 => some r110)
@[irreducible] def mg_5p : List MOp := [⟨.mv (.t 2), (some 13), (some (12, false))⟩,
 ⟨.len false (.t 13), (some 14), (some (12, false))⟩,
 ⟨.bin false .lss (.t 14) (.c (.int .i64 2)), (some 15), (some (12, false))⟩,
 mo (.pick (.t 12) (.c (.bool true)) (.t 15)) 16]
@[irreducible] def mg_5q : List MOp := [⟨.mv (.t 2), (some 18), (some (17, false))⟩,
 ⟨.len false (.t 18), (some 19), (some (17, false))⟩,
 ⟨.fad 0 (.t 3), (some 20), (some (17, false))⟩,
 ⟨.ld none (.t 20), (some 21), (some (17, false))⟩,
 ⟨.len false (.t 21), (some 22), (some (17, false))⟩,
 ⟨.bin false .gtr (.t 19) (.t 22), (some 23), (some (17, false))⟩,
 mo (.pick (.t 17) (.c (.bool true)) (.t 23)) 24]
@[irreducible] def mc_3f : MC :=
 (.seq (.reg [mo (.bin false .lss (.t 27) (.t 26)) 28])
 (.seq (.cond (.t 28)
 .skip
 (.exit 0))
 (.seq (.block 1
 (.seq (.reg [mo (.mv (.t 27)) 29,
 mo (.iad 1 (.t 25) (.t 27)) 30,
 mo (.ld none (.t 30)) 31,
 mo (.mv (.t 29)) 7,
 mo (.mv (.t 31)) 8])
 (.seq (.regD [mo (.ld (some 2) (.t 3)) 32,
 mo (.mv (.t 8)) 33,
 mo (.call (.f 38) [(.t 32),(.t 33)] [] []) 34,
 mo (.not (.t 34)) 35,
 mo (.mv (.t 35)) 36,
 ⟨.mv (.t 2), (some 37), (some (36, false))⟩,
 ⟨.mv (.t 7), (some 38), (some (36, false))⟩,
 ⟨.slc 1 (.t 37) none (some (.t 38)), (some 39), (some (36, false))⟩,
 ⟨.mv (.t 8), (some 40), (some (36, false))⟩,
 ⟨.call (.f 59) [(.t 39),(.t 40)] [] [], (some 41), (some (36, false))⟩,
 mo (.pick (.t 36) (.c (.bool true)) (.t 41)) 42,
 mo (.mv (.t 42)) 43,
 ⟨.mv (.t 7), (some 44), (some (43, false))⟩,
 ⟨.bin false .gtr (.t 44) (.c (.int .i64 0)), (some 45), (some (43, false))⟩,
 ⟨.mv (.t 45), (some 46), (some (43, false))⟩,
 ⟨.ld (some 2) (.t 3), (some 47), (some (46, true))⟩,
 ⟨.mv (.t 2), (some 48), (some (46, true))⟩,
 ⟨.mv (.t 7), (some 49), (some (46, true))⟩,
 ⟨.bin true .sub (.t 49) (.c (.int .i64 1)), (some 50), (some (46, true))⟩,
 ⟨.iad 1 (.t 48) (.t 50), (some 51), (some (46, true))⟩,
 ⟨.ld none (.t 51), (some 52), (some (46, true))⟩,
 ⟨.mv (.t 8), (some 53), (some (46, true))⟩,
 ⟨.mv (.t 1), (some 54), (some (46, true))⟩,
 ⟨.call (.f 103) [(.t 47),(.t 52),(.t 53),(.t 54)] [] [], (some 55), (some (46, true))⟩,
 ⟨.not (.t 55), (some 56), (some (46, true))⟩,
 ⟨.pick (.t 46) (.t 56) (.c (.bool false)), (some 57), (some (43, false))⟩,
 mo (.pick (.t 43) (.c (.bool true)) (.t 57)) 58]
 [[],[],[0,1],[2],[3,2],[4],[4],[5,6,4],[4],[7,8,4,4],[4,9],[10,9],[11],[12,11],[13,11,11],[14],[14],[14],[17,14],[16,18,14],[19,14],[14],[14],[15,20,21,22,14,14],[23,14],[14,24,11],[11,25]]
 [[],[],[0,1],[0,1,2],[0,1,2,3],[0,1,2,3,4],[0,1,2,3,4],[0,1,2,3,4,5,6],[0,1,2,3,4],[0,1,2,3,4,5,6,7,8],[0,1,2,3,4,5,6,7,8,9],[0,1,2,3,4,5,6,7,8,9,10],[0,1,2,3,4,5,6,7,8,9,10,11],[0,1,2,3,4,5,6,7,8,9,10,11,12],[0,1,2,3,4,5,6,7,8,9,10,11,12,13],[0,1,2,3,4,5,6,7,8,9,10,11,12,13,14],[0,1,2,3,4,5,6,7,8,9,10,11,12,13,14],[0,1,2,3,4,5,6,7,8,9,10,11,12,13,14],[0,1,2,3,4,5,6,7,8,9,10,11,12,13,14,17],[0,1,2,3,4,5,6,7,8,9,10,11,12,13,14,16,17,18],[0,1,2,3,4,5,6,7,8,9,10,11,12,13,14,16,17,18,19],[0,1,2,3,4,5,6,7,8,9,10,11,12,13,14],[0,1,2,3,4,5,6,7,8,9,10,11,12,13,14],[0,1,2,3,4,5,6,7,8,9,10,11,12,13,14,15,16,17,18,19,20,21,22],[0,1,2,3,4,5,6,7,8,9,10,11,12,13,14,15,16,17,18,19,20,21,22,23],[0,1,2,3,4,5,6,7,8,9,10,11,12,13,14,15,16,17,18,19,20,21,22,23,24],[0,1,2,3,4,5,6,7,8,9,10,11,12,13,14,15,16,17,18,19,20,21,22,23,24,25]])
 (.cond (.t 58)
 (.seq (.reg [mo (.mv (.c (.bool false))) 6])
 .ret)
 .skip))))
 (.reg [mo (.bin true .add (.t 27) (.c (.int .i64 1))) 59,
 mo (.mv (.t 59)) 27]))))
def mc_2b : MC :=
 (.seq (.reg [mo (.box (.t 0)) 3,
 mo (.mv (.c (.bool false))) 6])
 (.seq (.seq (.regI [.op (mo (.ld (some 2) (.t 3)) 9),
 .op (mo (.call (.f 33) [(.t 9)] [] []) 10),
 .op (mo (.not (.t 10)) 11),
 .op (mo (.mv (.t 11)) 12),
 .grp mg_5p,
 .op (mo (.mv (.t 16)) 17),
 .grp mg_5q])
 (.cond (.t 24)
 (.seq (.reg [mo (.mv (.c (.bool false))) 6])
 .ret)
 .skip))
 (.seq (.seq (.note (.gc [1,2,3,37,38,39,40,41,44,45,46,47,48,49,50,51,52,53,54,55,56,57]) (.reg [mo (.mv (.t 2)) 25,
 mo (.len false (.t 25)) 26,
 mo (.mv (.c (.int .i64 0))) 27]))
 (.block 0
 (.loop mc_3f)))
 (.seq (.reg [mo (.mv (.c (.bool true))) 6])
 .ret))))
theorem Wq_2b (d_ : GDirectory) (t_ : Int) (chain_ : List Int) {Q : Bool → Prop} {Q' : V → Heap → Prop} (h : Ok (F_2b d_ t_ chain_) Q) (hQ : ∀ z, Q z → Q' (.bool z) []) : ACall Tryz.prog 78 [GDirectory.v d_, .int .i64 t_, .sl (chain_.map (V.int .i64))] [] Q' := by
 refine acallM mc_2b [] [] [.t 6] Tryz.func78 fun M => ?_
 unfold F_2b at h
 unfold mc_2b
 replace h := tY h
 refine tB ?_
 repeat' (first
 | (exact tZ)
 | ((first | refine oblg h ?_ | refine roomG h ?_ | refine fork h ?_ ?_ | refine forkS h ?_ ?_) <;> clear h <;> intro hc h)
 | (obtain ⟨y, hy, h⟩ := h; (first | with_reducible first | have hw := W_8 hy | have hw := W_3 hy | have hw := W_10 hy | have hw := W_2a hy); replace hw := tY hw; (first | refine M.sC hw ?_ | refine M.sD hw ?_); clear hw hy; refine tB ?_)
 | (refine M.for1 (b := mc_3f) 27 [1,2,3,25,26] [3] (fun x => []) (fun x => []) [] h ?_ ?_ ?_ <;> first
 | (clear h; intro k a x Qn K hK1 hkN1 ha1 h hf; have hl := fact_int (factsE_find (n := 26) hf.1 rfl); clear hf; have hkd := kD hkN1; have hkB1 := kB hkN1; have hkI1 := kI (k := k) (by omega); unfold F_3f at h; unfold mc_3f; replace h := tY h; refine tK ha1 hkd hkN1 hkB1 hkI1 ?_)
  |(clear h; intro x K h; replace h := And.left (And.intro h trivial); unfold mc_3f; replace h := tY h; refine tB ?_)
  |(clear h; (try refine tB ?_); exact tU0; done))
 | (refine M.gv1 (ms := mg_5q) 24 [18,19,20,21,22,23] h ?_ ?_ <;> first
 | (clear h; intro K hK2; unfold mg_5q; refine tB ?_)
 | (clear h; intro b h; replace h := tY h; refine tB ?_))
 | (refine M.gv1 (ms := mg_5p) 16 [13,14,15] h ?_ ?_ <;> first
 | (clear h; intro K hK3; unfold mg_5p; refine tB ?_)
 | (clear h; intro b h; replace h := tY h; refine tB ?_))
 | (simp only [ha1])
 | (refine hK1 _ ?_; (try refine tB ?_); refine ⟨_, h, ?_⟩; exact tU0; done)
 | ((first | refine hK2 _ ?_ | refine hK3 _ ?_); exact tU; done)
 | (refine bfork (fun hc => ?_) (fun hc => ?_))
 | (refine tE ?_; (first | rw [M.lok_compU] | rw [M.lokD_compU]); refine tB ?_)
 | (refine tA ?_))
def W_2b {d_ t_ chain_ y} (hy : (F_2b d_ t_ chain_) = some y) := acW (Wq_2b d_ t_ chain_) hy
def F_21 (d_ : GDirectory) (a_ : GEstate) (p_ : Int) (r_ : GReading) : Option Bool :=
 (F_8 d_).bind fun y10 => bif (!y10) then some false else (F_2 a_ r_.Place).bind fun y11 => bif (!y11) then some false else (F_i d_ p_).bind fun y12 => bif (!y12) then some false else bif (!decide (r_.Link = (-1))) then grp ((decide (r_.Grant = (-1)) && decide ((r_.Chain.length : Int) = 0))) fun b22 => jn (α := Bool) (bif b22 then (F_c a_ r_.Place r_.Link r_.Time).bind fun y24 => some y24 else some false) fun j25 => some j25 else grp ((decide (r_.Grant < 0) || decide ((a_.Events.length : Int) ≤ r_.Grant))) fun b32 => grp ((b32 || decide ((r_.Chain.length : Int) = 0))) fun b33 => bif b33 then some false else chk (inb 0 r_.Chain.length) (bif (!decide ((r_.Chain.getD 0 default) = p_)) then some false else chk (inb r_.Grant a_.Events.length) (bif (!decide ((a_.Events.getD (r_.Grant).toNat default).Kind = 1)) then some false else bif (!decide ((a_.Events.getD (r_.Grant).toNat default).Place = r_.Place)) then some false else bif decide (r_.Time < (a_.Events.getD (r_.Grant).toNat default).Time) then some false else chk (in64 ((r_.Chain.length : Int) - 1)) (chk (inb ((r_.Chain.length : Int) - 1) r_.Chain.length) (bif (!decide ((r_.Chain.getD (((r_.Chain.length : Int) - 1)).toNat default) = (a_.Events.getD (r_.Grant).toNat default).Principal)) then some false else (F_29 a_ r_.Place ((a_.Events.getD (r_.Grant).toNat default).Principal) r_.Time).bind fun y37 => bif (!y37.2) then some false else jn (α := Bool) (bif decide ((r_.Chain.length : Int) = 1) then some true else (F_2b d_ r_.Time r_.Chain).bind fun y41 => some y41) fun j42 => some j42))))
@[irreducible] def mg_5r : List MOp := [⟨.fad 4 (.t 7), (some 35), (some (34, true))⟩,
 ⟨.ld none (.t 35), (some 36), (some (34, true))⟩,
 ⟨.len false (.t 36), (some 37), (some (34, true))⟩,
 ⟨.bin false .eql (.t 37) (.c (.int .i64 0)), (some 38), (some (34, true))⟩,
 mo (.pick (.t 34) (.t 38) (.c (.bool false))) 39]
@[irreducible] def mg_5s : List MOp := [⟨.ld (some 2) (.t 5), (some 41), (some (40, true))⟩,
 ⟨.fad 0 (.t 7), (some 42), (some (40, true))⟩,
 ⟨.ld none (.t 42), (some 43), (some (40, true))⟩,
 ⟨.fad 2 (.t 7), (some 44), (some (40, true))⟩,
 ⟨.ld none (.t 44), (some 45), (some (40, true))⟩,
 ⟨.fad 1 (.t 7), (some 46), (some (40, true))⟩,
 ⟨.ld none (.t 46), (some 47), (some (40, true))⟩,
 ⟨.call (.f 40) [(.t 41),(.t 43),(.t 45),(.t 47)] [] [], (some 48), (some (40, true))⟩,
 mo (.pick (.t 40) (.t 48) (.c (.bool false))) 49]
@[irreducible] def mg_5t : List MOp := [⟨.fad 3 (.t 7), (some 54), (some (53, false))⟩,
 ⟨.ld none (.t 54), (some 55), (some (53, false))⟩,
 ⟨.fad 1 (.t 5), (some 56), (some (53, false))⟩,
 ⟨.ld none (.t 56), (some 57), (some (53, false))⟩,
 ⟨.len false (.t 57), (some 58), (some (53, false))⟩,
 ⟨.bin false .geq (.t 55) (.t 58), (some 59), (some (53, false))⟩,
 mo (.pick (.t 53) (.c (.bool true)) (.t 59)) 60]
@[irreducible] def mg_5u : List MOp := [⟨.fad 4 (.t 7), (some 62), (some (61, false))⟩,
 ⟨.ld none (.t 62), (some 63), (some (61, false))⟩,
 ⟨.len false (.t 63), (some 64), (some (61, false))⟩,
 ⟨.bin false .eql (.t 64) (.c (.int .i64 0)), (some 65), (some (61, false))⟩,
 mo (.pick (.t 61) (.c (.bool true)) (.t 65)) 66]
@[irreducible] def mg_5v : List MOp := [⟨.ld (some 2) (.t 4), (some 129), (some (128, false))⟩,
 ⟨.fad 1 (.t 7), (some 130), (some (128, false))⟩,
 ⟨.ld none (.t 130), (some 131), (some (128, false))⟩,
 ⟨.fad 4 (.t 7), (some 132), (some (128, false))⟩,
 ⟨.ld none (.t 132), (some 133), (some (128, false))⟩,
 ⟨.call (.f 78) [(.t 129),(.t 131),(.t 133)] [] [], (some 134), (some (128, false))⟩,
 mo (.pick (.t 128) (.c (.bool true)) (.t 134)) 135]
def mc_21 : MC :=
 (.seq (.reg [mo (.box (.t 0)) 4,
 mo (.box (.t 1)) 5,
 mo (.box (.t 3)) 7,
 mo (.mv (.c (.bool false))) 8])
 (.seq (.seq (.reg [mo (.ld (some 2) (.t 4)) 12,
 mo (.call (.f 33) [(.t 12)] [] []) 13,
 mo (.not (.t 13)) 14,
 mo (.mv (.t 14)) 15,
 ⟨.ld (some 2) (.t 5), (some 16), (some (15, false))⟩,
 ⟨.fad 0 (.t 7), (some 17), (some (15, false))⟩,
 ⟨.ld none (.t 17), (some 18), (some (15, false))⟩,
 ⟨.call (.f 30) [(.t 16),(.t 18)] [] [], (some 19), (some (15, false))⟩,
 ⟨.not (.t 19), (some 20), (some (15, false))⟩,
 mo (.pick (.t 15) (.c (.bool true)) (.t 20)) 21,
 mo (.mv (.t 21)) 22,
 ⟨.ld (some 2) (.t 4), (some 23), (some (22, false))⟩,
 ⟨.mv (.t 2), (some 24), (some (22, false))⟩,
 ⟨.call (.f 19) [(.t 23),(.t 24)] [] [], (some 25), (some (22, false))⟩,
 ⟨.not (.t 25), (some 26), (some (22, false))⟩,
 mo (.pick (.t 22) (.c (.bool true)) (.t 26)) 27])
 (.cond (.t 27)
 (.seq (.reg [mo (.mv (.c (.bool false))) 8])
 .ret)
 .skip))
 (.seq (.seq (.note (.gc [2,4,5,7,35,36,37,38,41,42,43,44,45,46,47,48,54,55,56,57,58,59,62,63,64,65,68,69,70,71,72,73,85,86,87,88,89,92,93,94,95,96,99,100,101,102,103,104,105,106,107,108,109,129,130,131,132,133,134]) (.reg [mo (.fad 2 (.t 7)) 28,
 mo (.ld none (.t 28)) 29,
 mo (.bin false .neq (.t 29) (.c (.int .i64 (-1)))) 30]))
 (.cond (.t 30)
 (.seq (.regI [.op (mo (.fad 3 (.t 7)) 31),
 .op (mo (.ld none (.t 31)) 32),
 .op (mo (.bin false .eql (.t 32) (.c (.int .i64 (-1)))) 33),
 .op (mo (.mv (.t 33)) 34),
 .grp mg_5r,
 .op (mo (.mv (.t 39)) 40),
 .grp mg_5s,
 .op (mo (.mv (.t 49)) 8)])
 .ret)
 .skip))
 (.seq (.seq (.regI [.op (mo (.fad 3 (.t 7)) 50),
 .op (mo (.ld none (.t 50)) 51),
 .op (mo (.bin false .lss (.t 51) (.c (.int .i64 0))) 52),
 .op (mo (.mv (.t 52)) 53),
 .grp mg_5t,
 .op (mo (.mv (.t 60)) 61),
 .grp mg_5u,
 .op (mo (.mv (.t 66)) 67),
 .op ⟨.fad 4 (.t 7), (some 68), (some (67, false))⟩,
 .op ⟨.ld none (.t 68), (some 69), (some (67, false))⟩,
 .op ⟨.iad 1 (.t 69) (.c (.int .i64 0)), (some 70), (some (67, false))⟩,
 .op ⟨.ld none (.t 70), (some 71), (some (67, false))⟩,
 .op ⟨.mv (.t 2), (some 72), (some (67, false))⟩,
 .op ⟨.bin false .neq (.t 71) (.t 72), (some 73), (some (67, false))⟩,
 .op (mo (.pick (.t 67) (.c (.bool true)) (.t 73)) 74)])
 (.cond (.t 74)
 (.seq (.reg [mo (.mv (.c (.bool false))) 8])
 .ret)
 .skip))
 (.seq (.note (.gc [4,5,7,85,86,87,88,89,92,93,94,95,96,99,100,101,102,103,104,105,106,107,108,109,129,130,131,132,133,134]) (.reg [mo (.fad 1 (.t 5)) 75,
 mo (.ld none (.t 75)) 76,
 mo (.fad 3 (.t 7)) 77,
 mo (.ld none (.t 77)) 78,
 mo (.iad 7 (.t 76) (.t 78)) 79,
 mo (.ld (some 7) (.t 79)) 80,
 mo (.alloc [(.int .i64 0),(.int .i64 0),(.int .i64 0),(.int .i64 0),(.int .i64 0),(.int .i64 0),(.int .i64 0)]) 9,
 ⟨.st 7 (.t 9) (.t 80), none, none⟩]))
 (.seq (.seq (.regD [mo (.fad 1 (.t 9)) 81,
 mo (.ld none (.t 81)) 82,
 mo (.bin false .neq (.t 82) (.c (.int .i64 1))) 83,
 mo (.mv (.t 83)) 84,
 ⟨.fad 2 (.t 9), (some 85), (some (84, false))⟩,
 ⟨.ld none (.t 85), (some 86), (some (84, false))⟩,
 ⟨.fad 0 (.t 7), (some 87), (some (84, false))⟩,
 ⟨.ld none (.t 87), (some 88), (some (84, false))⟩,
 ⟨.bin false .neq (.t 86) (.t 88), (some 89), (some (84, false))⟩,
 mo (.pick (.t 84) (.c (.bool true)) (.t 89)) 90,
 mo (.mv (.t 90)) 91,
 ⟨.fad 0 (.t 9), (some 92), (some (91, false))⟩,
 ⟨.ld none (.t 92), (some 93), (some (91, false))⟩,
 ⟨.fad 1 (.t 7), (some 94), (some (91, false))⟩,
 ⟨.ld none (.t 94), (some 95), (some (91, false))⟩,
 ⟨.bin false .gtr (.t 93) (.t 95), (some 96), (some (91, false))⟩,
 mo (.pick (.t 91) (.c (.bool true)) (.t 96)) 97,
 mo (.mv (.t 97)) 98,
 ⟨.fad 4 (.t 7), (some 99), (some (98, false))⟩,
 ⟨.ld none (.t 99), (some 100), (some (98, false))⟩,
 ⟨.fad 4 (.t 7), (some 101), (some (98, false))⟩,
 ⟨.ld none (.t 101), (some 102), (some (98, false))⟩,
 ⟨.len false (.t 102), (some 103), (some (98, false))⟩,
 ⟨.bin true .sub (.t 103) (.c (.int .i64 1)), (some 104), (some (98, false))⟩,
 ⟨.iad 1 (.t 100) (.t 104), (some 105), (some (98, false))⟩,
 ⟨.ld none (.t 105), (some 106), (some (98, false))⟩,
 ⟨.fad 3 (.t 9), (some 107), (some (98, false))⟩,
 ⟨.ld none (.t 107), (some 108), (some (98, false))⟩,
 ⟨.bin false .neq (.t 106) (.t 108), (some 109), (some (98, false))⟩,
 mo (.pick (.t 98) (.c (.bool true)) (.t 109)) 110]
 [[],[0],[1],[2],[3],[4,3],[3],[6,3],[5,7,3],[3,8],[9,3],[10],[11,10],[10],[13,10],[12,14,10],[10,15],[16,10],[17],[18,17],[17],[20,17],[21,17],[22,17],[19,23,17],[24,17],[17],[26,17],[25,27,17],[17,28]]
 [[],[0],[0,1],[0,1,2],[0,1,2,3],[0,1,2,3,4],[0,1,2,3],[0,1,2,3,6],[0,1,2,3,4,5,6,7],[0,1,2,3,4,5,6,7,8],[0,1,2,3,4,5,6,7,8,9],[0,1,2,3,4,5,6,7,8,9,10],[0,1,2,3,4,5,6,7,8,9,10,11],[0,1,2,3,4,5,6,7,8,9,10],[0,1,2,3,4,5,6,7,8,9,10,13],[0,1,2,3,4,5,6,7,8,9,10,11,12,13,14],[0,1,2,3,4,5,6,7,8,9,10,11,12,13,14,15],[0,1,2,3,4,5,6,7,8,9,10,11,12,13,14,15,16],[0,1,2,3,4,5,6,7,8,9,10,11,12,13,14,15,16,17],[0,1,2,3,4,5,6,7,8,9,10,11,12,13,14,15,16,17,18],[0,1,2,3,4,5,6,7,8,9,10,11,12,13,14,15,16,17],[0,1,2,3,4,5,6,7,8,9,10,11,12,13,14,15,16,17,20],[0,1,2,3,4,5,6,7,8,9,10,11,12,13,14,15,16,17,20,21],[0,1,2,3,4,5,6,7,8,9,10,11,12,13,14,15,16,17,20,21,22],[0,1,2,3,4,5,6,7,8,9,10,11,12,13,14,15,16,17,18,19,20,21,22,23],[0,1,2,3,4,5,6,7,8,9,10,11,12,13,14,15,16,17,18,19,20,21,22,23,24],[0,1,2,3,4,5,6,7,8,9,10,11,12,13,14,15,16,17],[0,1,2,3,4,5,6,7,8,9,10,11,12,13,14,15,16,17,26],[0,1,2,3,4,5,6,7,8,9,10,11,12,13,14,15,16,17,18,19,20,21,22,23,24,25,26,27],[0,1,2,3,4,5,6,7,8,9,10,11,12,13,14,15,16,17,18,19,20,21,22,23,24,25,26,27,28]])
 (.cond (.t 110)
 (.seq (.reg [mo (.mv (.c (.bool false))) 8])
 .ret)
 .skip))
 (.seq (.seq (.note (.gc [4,5,7,9,129,130,131,132,133,134]) (.reg [mo (.ld (some 2) (.t 5)) 112,
 mo (.fad 0 (.t 7)) 113,
 mo (.ld none (.t 113)) 114,
 mo (.fad 3 (.t 9)) 115,
 mo (.ld none (.t 115)) 116,
 mo (.fad 1 (.t 7)) 117,
 mo (.ld none (.t 117)) 118,
 mo (.call (.f 77) [(.t 112),(.t 114),(.t 116),(.t 118)] [] []) 119,
 mo (.mv (.t 119)) 111,
 mo (.ext 0 (.t 111)) 120,
 mo (.ext 1 (.t 111)) 121,
 mo (.mv (.t 120)) 10,
 mo (.mv (.t 121)) 11]))
 (.seq (.reg [mo (.mv (.t 11)) 122,
 mo (.not (.t 122)) 123])
 (.cond (.t 123)
 (.seq (.reg [mo (.mv (.c (.bool false))) 8])
 .ret)
 .skip)))
 (.seq (.note (.gc [4,7,129,130,131,132,133,134]) (.regI [.op (mo (.fad 4 (.t 7)) 124),
 .op (mo (.ld none (.t 124)) 125),
 .op (mo (.len false (.t 125)) 126),
 .op (mo (.bin false .eql (.t 126) (.c (.int .i64 1))) 127),
 .op (mo (.mv (.t 127)) 128),
 .grp mg_5v,
 .op (mo (.mv (.t 135)) 8)]))
 .ret))))))))
theorem Wq_21 (d_ : GDirectory) (a_ : GEstate) (p_ : Int) (r_ : GReading) {Q : Bool → Prop} {Q' : V → Heap → Prop} (h : Ok (F_21 d_ a_ p_ r_) Q) (hQ : ∀ z, Q z → Q' (.bool z) []) : ACall Tryz.prog 49 [GDirectory.v d_, GEstate.v a_, .int .i64 p_, GReading.v r_] [] Q' := by
 refine acallM mc_21 [] [] [.t 8] Tryz.func49 fun M => ?_
 unfold F_21 at h
 unfold mc_21
 replace h := tY h
 refine tB ?_
 repeat' (first
 | (exact tZ)
 | ((first | refine oblg h ?_ | refine roomG h ?_ | refine fork h ?_ ?_ | refine forkS h ?_ ?_) <;> clear h <;> intro hc h)
 | (obtain ⟨y, hy, h⟩ := h; (first | with_reducible first | have hw := W_8 hy | have hw := W_2 hy | have hw := W_i hy | have hw := W_c hy | have hw := W_29 hy | have hw := W_2b hy); replace hw := tY hw; (first | refine M.sC hw ?_ | refine M.sD hw ?_); clear hw hy; refine tB ?_)
 | (refine M.gj1 (ms := mg_5s) [] [] (fun y => [(49, .bool y)]) (fun y => []) h ?_ ?_ <;> first
 | (clear h; intro Qn K hK1 h; unfold mg_5s; replace h := tY h; refine tB ?_)
  |(clear h; intro y h; replace h := tY h; refine tB ?_))
 | (refine M.gv1 (ms := mg_5r) 39 [35,36,37,38] h ?_ ?_ <;> first
 | (clear h; intro K hK2; unfold mg_5r; refine tB ?_)
 | (clear h; intro b h; replace h := tY h; refine tB ?_))
 | (refine M.gj1 (ms := mg_5v) [] [] (fun y => [(135, .bool y)]) (fun y => []) h ?_ ?_ <;> first
 | (clear h; intro Qn K hK3 h; unfold mg_5v; replace h := tY h; refine tB ?_)
  |(clear h; intro y h; replace h := tY h; refine tB ?_))
 | (refine M.gv1 (ms := mg_5u) 66 [62,63,64,65] h ?_ ?_ <;> first
 | (clear h; intro K hK4; unfold mg_5u; refine tB ?_)
 | (clear h; intro b h; replace h := tY h; refine tB ?_))
 | (refine M.gv1 (ms := mg_5t) 60 [54,55,56,57,58,59] h ?_ ?_ <;> first
 | (clear h; intro K hK5; unfold mg_5t; refine tB ?_)
 | (clear h; intro b h; replace h := tY h; refine tB ?_))
 | ((first | refine hK1 _ ?_ | refine hK3 _ ?_); (try refine tB ?_); refine ⟨_, h, ?_⟩; exact tU0; done)
 | ((first | refine hK2 _ ?_ | refine hK4 _ ?_ | refine hK5 _ ?_); exact tU; done)
 | (refine bfork (fun hc => ?_) (fun hc => ?_))
 | (refine tE ?_; (first | rw [M.lok_compU] | rw [M.lokD_compU]); refine tB ?_)
 | (refine tA ?_))
def W_21 {d_ a_ p_ r_ y} (hy : (F_21 d_ a_ p_ r_) = some y) := acW (Wq_21 d_ a_ p_ r_) hy
noncomputable def F_1m (d_ : GDirectory) (a_ : GEstate) (content_ : Int) (x_ : GExposure) (l_ : GLeak) : Option Bool :=
 (F_1z d_ a_ content_ x_.Principal).bind fun y16 => grp (((!y16) || decide (x_.Time < 0))) fun b17 => grp ((b17 || decide (1099511627776 < x_.Time))) fun b18 => grp ((b18 || (!decide (l_.Reading.Time = x_.Time)))) fun b19 => bif b19 then some false else (F_16 a_ content_ l_.Reading.Place l_.Reading.Time l_.Way).bind fun y20 => bif (!y20) then some false else bif decide (x_.Principal = (-1)) then grp ((decide (l_.Reading.Grant = (-1)) && decide ((l_.Reading.Chain.length : Int) = 0))) fun b30 => jn (α := Bool) (bif b30 then (F_c a_ l_.Reading.Place l_.Reading.Link l_.Reading.Time).bind fun y32 => some y32 else some false) fun j33 => some j33 else (F_21 d_ a_ x_.Principal l_.Reading).bind fun y35 => some y35
@[irreducible] def mg_5w : List MOp := [⟨.fad 1 (.t 8), (some 22), (some (21, false))⟩,
 ⟨.ld none (.t 22), (some 23), (some (21, false))⟩,
 ⟨.bin false .lss (.t 23) (.c (.int .i64 0)), (some 24), (some (21, false))⟩,
 mo (.pick (.t 21) (.c (.bool true)) (.t 24)) 25]
@[irreducible] def mg_5x : List MOp := [⟨.fad 1 (.t 8), (some 27), (some (26, false))⟩,
 ⟨.ld none (.t 27), (some 28), (some (26, false))⟩,
 ⟨.bin false .gtr (.t 28) (.c (.int .i64 1099511627776)), (some 29), (some (26, false))⟩,
 mo (.pick (.t 26) (.c (.bool true)) (.t 29)) 30]
@[irreducible] def mg_5y : List MOp := [⟨.fad 1 (.t 11), (some 32), (some (31, false))⟩,
 ⟨.ld none (.t 32), (some 33), (some (31, false))⟩,
 ⟨.fad 1 (.t 8), (some 34), (some (31, false))⟩,
 ⟨.ld none (.t 34), (some 35), (some (31, false))⟩,
 ⟨.bin false .neq (.t 33) (.t 35), (some 36), (some (31, false))⟩,
 mo (.pick (.t 31) (.c (.bool true)) (.t 36)) 37]
@[irreducible] def mg_5z : List MOp := [⟨.fad 4 (.t 11), (some 57), (some (56, true))⟩,
 ⟨.ld none (.t 57), (some 58), (some (56, true))⟩,
 ⟨.len false (.t 58), (some 59), (some (56, true))⟩,
 ⟨.bin false .eql (.t 59) (.c (.int .i64 0)), (some 60), (some (56, true))⟩,
 mo (.pick (.t 56) (.t 60) (.c (.bool false))) 61]
@[irreducible] def mg_60 : List MOp := [⟨.ld (some 2) (.t 6), (some 63), (some (62, true))⟩,
 ⟨.fad 0 (.t 11), (some 64), (some (62, true))⟩,
 ⟨.ld none (.t 64), (some 65), (some (62, true))⟩,
 ⟨.fad 2 (.t 11), (some 66), (some (62, true))⟩,
 ⟨.ld none (.t 66), (some 67), (some (62, true))⟩,
 ⟨.fad 1 (.t 11), (some 68), (some (62, true))⟩,
 ⟨.ld none (.t 68), (some 69), (some (62, true))⟩,
 ⟨.call (.f 40) [(.t 63),(.t 65),(.t 67),(.t 69)] [] [], (some 70), (some (62, true))⟩,
 mo (.pick (.t 62) (.t 70) (.c (.bool false))) 71]
def mc_1m : MC :=
 (.seq (.reg [mo (.box (.t 0)) 5,
 mo (.box (.t 1)) 6,
 mo (.box (.t 3)) 8,
 mo (.box (.t 4)) 9,
 mo (.mv (.c (.bool false))) 10])
 (.seq (.reg [mo (.fad 1 (.t 9)) 12,
 mo (.ld (some 5) (.t 12)) 13,
 mo (.alloc [(.int .i64 0),(.int .i64 0),(.int .i64 0),(.int .i64 0),(.sl [])]) 11,
 ⟨.st 5 (.t 11) (.t 13), none, none⟩])
 (.seq (.seq (.regI [.op (mo (.ld (some 2) (.t 5)) 14),
 .op (mo (.ld (some 2) (.t 6)) 15),
 .op (mo (.mv (.t 2)) 16),
 .op (mo (.fad 0 (.t 8)) 17),
 .op (mo (.ld none (.t 17)) 18),
 .op (mo (.call (.f 47) [(.t 14),(.t 15),(.t 16),(.t 18)] [] []) 19),
 .op (mo (.not (.t 19)) 20),
 .op (mo (.mv (.t 20)) 21),
 .grp mg_5w,
 .op (mo (.mv (.t 25)) 26),
 .grp mg_5x,
 .op (mo (.mv (.t 30)) 31),
 .grp mg_5y,
 .op (mo (.mv (.t 37)) 38),
 .op ⟨.ld (some 2) (.t 6), (some 39), (some (38, false))⟩,
 .op ⟨.mv (.t 2), (some 40), (some (38, false))⟩,
 .op ⟨.fad 0 (.t 11), (some 41), (some (38, false))⟩,
 .op ⟨.ld none (.t 41), (some 42), (some (38, false))⟩,
 .op ⟨.fad 1 (.t 11), (some 43), (some (38, false))⟩,
 .op ⟨.ld none (.t 43), (some 44), (some (38, false))⟩,
 .op ⟨.fad 0 (.t 9), (some 45), (some (38, false))⟩,
 .op ⟨.ld none (.t 45), (some 46), (some (38, false))⟩,
 .op ⟨.call (.f 48) [(.t 39),(.t 40),(.t 42),(.t 44),(.t 46)] [] [], (some 47), (some (38, false))⟩,
 .op ⟨.not (.t 47), (some 48), (some (38, false))⟩,
 .op (mo (.pick (.t 38) (.c (.bool true)) (.t 48)) 49)])
 (.cond (.t 49)
 (.seq (.reg [mo (.mv (.c (.bool false))) 10])
 .ret)
 .skip))
 (.seq (.seq (.note (.gc [5,6,8,11,57,58,59,60,63,64,65,66,67,68,69,70]) (.reg [mo (.fad 0 (.t 8)) 50,
 mo (.ld none (.t 50)) 51,
 mo (.bin false .eql (.t 51) (.c (.int .i64 (-1)))) 52]))
 (.cond (.t 52)
 (.seq (.regI [.op (mo (.fad 3 (.t 11)) 53),
 .op (mo (.ld none (.t 53)) 54),
 .op (mo (.bin false .eql (.t 54) (.c (.int .i64 (-1)))) 55),
 .op (mo (.mv (.t 55)) 56),
 .grp mg_5z,
 .op (mo (.mv (.t 61)) 62),
 .grp mg_60,
 .op (mo (.mv (.t 71)) 10)])
 .ret)
 .skip))
 (.seq (.reg [mo (.ld (some 2) (.t 5)) 72,
 mo (.ld (some 2) (.t 6)) 73,
 mo (.fad 0 (.t 8)) 74,
 mo (.ld none (.t 74)) 75,
 mo (.ld (some 5) (.t 11)) 76,
 mo (.call (.f 49) [(.t 72),(.t 73),(.t 75),(.t 76)] [] []) 77,
 mo (.mv (.t 77)) 10])
 .ret)))))
theorem Wq_1m (d_ : GDirectory) (a_ : GEstate) (content_ : Int) (x_ : GExposure) (l_ : GLeak) {Q : Bool → Prop} {Q' : V → Heap → Prop} (h : Ok (F_1m d_ a_ content_ x_ l_) Q) (hQ : ∀ z, Q z → Q' (.bool z) []) : ACall Tryz.prog 24 [GDirectory.v d_, GEstate.v a_, .int .i64 content_, GExposure.v x_, GLeak.v l_] [] Q' := by
 refine acallM mc_1m [] [] [.t 10] Tryz.func24 fun M => ?_
 unfold F_1m at h
 unfold mc_1m
 replace h := tY h
 refine tB ?_
 repeat' (first
 | (exact tZ)
 | ((first | refine oblg h ?_ | refine roomG h ?_ | refine fork h ?_ ?_ | refine forkS h ?_ ?_) <;> clear h <;> intro hc h)
 | (obtain ⟨y, hy, h⟩ := h; (first | with_reducible first | have hw := W_1z hy | have hw := W_16 hy | have hw := W_c hy | have hw := W_21 hy); replace hw := tY hw; (first | refine M.sC hw ?_ | refine M.sD hw ?_); clear hw hy; refine tB ?_)
 | (refine M.gj1 (ms := mg_60) [] [] (fun y => [(71, .bool y)]) (fun y => []) h ?_ ?_ <;> first
 | (clear h; intro Qn K hK1 h; unfold mg_60; replace h := tY h; refine tB ?_)
  |(clear h; intro y h; replace h := tY h; refine tB ?_))
 | (refine M.gv1 (ms := mg_5z) 61 [57,58,59,60] h ?_ ?_ <;> first
 | (clear h; intro K hK2; unfold mg_5z; refine tB ?_)
 | (clear h; intro b h; replace h := tY h; refine tB ?_))
 | (refine M.gv1 (ms := mg_5y) 37 [32,33,34,35,36] h ?_ ?_ <;> first
 | (clear h; intro K hK3; unfold mg_5y; refine tB ?_)
 | (clear h; intro b h; replace h := tY h; refine tB ?_))
 | (refine M.gv1 (ms := mg_5x) 30 [27,28,29] h ?_ ?_ <;> first
 | (clear h; intro K hK4; unfold mg_5x; refine tB ?_)
 | (clear h; intro b h; replace h := tY h; refine tB ?_))
 | (refine M.gv1 (ms := mg_5w) 25 [22,23,24] h ?_ ?_ <;> first
 | (clear h; intro K hK5; unfold mg_5w; refine tB ?_)
 | (clear h; intro b h; replace h := tY h; refine tB ?_))
 | (refine hK1 _ ?_; (try refine tB ?_); refine ⟨_, h, ?_⟩; exact tU0; done)
 | ((first | refine hK2 _ ?_ | refine hK3 _ ?_ | refine hK4 _ ?_ | refine hK5 _ ?_); exact tU; done)
 | (refine bfork (fun hc => ?_) (fun hc => ?_))
 | (refine tE ?_; (first | rw [M.lok_compU] | rw [M.lokD_compU]); refine tB ?_)
 | (refine tA ?_))
def W_1m {d_ a_ content_ x_ l_ y} (hy : (F_1m d_ a_ content_ x_ l_) = some y) := acW (Wq_1m d_ a_ content_ x_ l_) hy
noncomputable def F_q : Option Bool :=
 (F_1i (GDirectory.mk [1] []) (GEstate.mk 1 [(GAccess.mk 3 5 0 0 0 2 0), (GAccess.mk 7 1 0 0 0 0 0)]) 2).bind fun y2 => (F_1k (GDirectory.mk [1] []) (GEstate.mk 1 [(GAccess.mk 3 5 0 0 0 2 0), (GAccess.mk 7 1 0 0 0 0 0)]) 2 0).bind fun y4 => jn (α := Bool) (bif decide (y2.2 = 0) then (F_1y y2.1 [(GExposure.mk 0 7)]).bind fun y11 => some y11 else some false) fun j12 => grp ((j12 && y4.2)) fun b13 => jn (α := Bool) (bif b13 then (F_1m (GDirectory.mk [1] []) (GEstate.mk 1 [(GAccess.mk 3 5 0 0 0 2 0), (GAccess.mk 7 1 0 0 0 0 0)]) 2 (GExposure.mk 0 7) y4.1).bind fun y15 => some y15 else some false) fun j16 => some j16
@[irreducible] def mg_61 : List MOp := [⟨.mv (.t 3), (some 28), (some (27, true))⟩,
 ⟨.build [(.int .i64 0),(.int .i64 0)] [(0,1,(.c (.int .i64 0))), (1,1,(.c (.int .i64 7)))], (some 29), (some (27, true))⟩,
 ⟨.lsl 2 [(.t 29)], (some 30), (some (27, true))⟩,
 ⟨.call (.f 14) [(.t 28),(.t 30)] [] [], (some 31), (some (27, true))⟩,
 mo (.pick (.t 27) (.t 31) (.c (.bool false))) 32]
@[irreducible] def mg_62 : List MOp := [⟨.mv (.t 6), (some 34), (some (33, true))⟩,
 mo (.pick (.t 33) (.t 34) (.c (.bool false))) 35]
@[irreducible] def mg_63 : List MOp := [⟨.ld (some 2) (.t 1), (some 37), (some (36, true))⟩,
 ⟨.ld (some 2) (.t 2), (some 38), (some (36, true))⟩,
 ⟨.build [(.int .i64 0),(.int .i64 0)] [(1,1,(.c (.int .i64 7)))], (some 39), (some (36, true))⟩,
 ⟨.ld (some 6) (.t 5), (some 40), (some (36, true))⟩,
 ⟨.call (.f 24) [(.t 37),(.t 38),(.c (.int .i64 2)),(.t 39),(.t 40)] [] [], (some 41), (some (36, true))⟩,
 mo (.pick (.t 36) (.t 41) (.c (.bool false))) 42]
def mc_q : MC :=
 (.seq (.reg [mo (.mv (.c (.bool false))) 0])
 (.seq (.reg [mo (.bslice 1 [(.c (.int .i64 1))]) 7,
 mo (.build [(.sl []),(.sl [])] [(0,1,(.t 7))]) 8,
 mo (.alloc [(.sl []),(.sl [])]) 1,
 ⟨.st 2 (.t 1) (.t 8), none, none⟩])
 (.seq (.reg [mo (.build [(.int .i64 0),(.int .i64 0),(.int .i64 0),(.int .i64 0),(.int .i64 0),(.int .i64 0),(.int .i64 0)] [(0,1,(.c (.int .i64 3))), (1,1,(.c (.int .i64 5))), (5,1,(.c (.int .i64 2)))]) 9,
 mo (.build [(.int .i64 0),(.int .i64 0),(.int .i64 0),(.int .i64 0),(.int .i64 0),(.int .i64 0),(.int .i64 0)] [(0,1,(.c (.int .i64 7))), (1,1,(.c (.int .i64 1)))]) 10,
 mo (.bslice 7 [(.t 9),(.t 10)]) 11,
 mo (.build [(.int .i64 0),(.sl [])] [(0,1,(.c (.int .i64 1))), (1,1,(.t 11))]) 12,
 mo (.alloc [(.int .i64 0),(.sl [])]) 2,
 ⟨.st 2 (.t 2) (.t 12), none, none⟩])
 (.seq (.regI [.op (mo (.ld (some 2) (.t 1)) 14),
 .op (mo (.ld (some 2) (.t 2)) 15),
 .nt (.fz 14),
 .nt (.fz 15),
 .op (mo (.call (.f 13) [(.t 14),(.t 15),(.c (.int .i64 2))] [] []) 16),
 .op (mo (.mv (.t 16)) 13),
 .op (mo (.ext 0 (.t 13)) 17),
 .op (mo (.ext 1 (.t 13)) 18),
 .op (mo (.mv (.t 17)) 3),
 .op (mo (.mv (.t 18)) 4)])
 (.seq (.note (.gc [1,2,3,4,28,29,30,31,34,37,38,39,40,41]) (.reg [mo (.ld (some 2) (.t 1)) 20,
 mo (.ld (some 2) (.t 2)) 21,
 mo (.call (.f 22) [(.t 20),(.t 21),(.c (.int .i64 2)),(.c (.int .i64 0))] [] []) 22,
 mo (.mv (.t 22)) 19,
 mo (.ext 0 (.t 19)) 23,
 mo (.ext 1 (.t 19)) 24,
 mo (.alloc [(.sl []),(.int .i64 0),(.int .i64 0),(.int .i64 0),(.int .i64 0),(.sl [])]) 5,
 ⟨.st 6 (.t 5) (.t 23), none, none⟩,
 mo (.mv (.t 24)) 6]))
 (.seq (.regI [.op (mo (.mv (.t 4)) 25),
 .op (mo (.bin false .eql (.t 25) (.c (.int .i64 0))) 26),
 .op (mo (.mv (.t 26)) 27),
 .grp mg_61,
 .op (mo (.mv (.t 32)) 33),
 .grp mg_62,
 .op (mo (.mv (.t 35)) 36),
 .grp mg_63,
 .op (mo (.mv (.t 42)) 0)])
 .ret))))))
theorem Wq_q {Q : Bool → Prop} {Q' : V → Heap → Prop} (h : Ok F_q Q) (hQ : ∀ z, Q z → Q' (.bool z) []) : ACall Tryz.prog 8 [] [] Q' := by
 refine acallM mc_q [] [] [.t 0] Tryz.func8 fun M => ?_
 unfold F_q at h
 unfold mc_q
 replace h := tY h
 refine tB ?_
 repeat' (first
 | (exact tZ)
 | ((first | refine oblg h ?_ | refine roomG h ?_ | refine fork h ?_ ?_ | refine forkS h ?_ ?_) <;> clear h <;> intro hc h)
 | (obtain ⟨y, hy, h⟩ := h; (first | with_reducible first | have hw := W_1i hy | have hw := W_1k hy | have hw := W_1y hy | have hw := W_1m hy); replace hw := tY hw; (first | refine M.sC hw ?_ | refine M.sD hw ?_); clear hw hy; refine tB ?_)
 | (refine M.gj1 (ms := mg_63) [] [] (fun y => [(42, .bool y)]) (fun y => []) h ?_ ?_ <;> first
 | (clear h; intro Qn K hK1 h; unfold mg_63; replace h := tY h; refine tB ?_)
  |(clear h; intro y h; replace h := tY h; refine tB ?_))
 | (refine M.gv1 (ms := mg_62) 35 [34] h ?_ ?_ <;> first
 | (clear h; intro K hK2; unfold mg_62; refine tB ?_)
 | (clear h; intro b h; replace h := tY h; refine tB ?_))
 | (refine M.gj1 (ms := mg_61) [1,2,5,6] [5,2,1] (fun y => [(32, .bool y)]) (fun y => []) h ?_ ?_ <;> first
 | (clear h; intro Qn K hK3 h; unfold mg_61; replace h := tY h; refine tB ?_)
  |(clear h; intro y h; replace h := tY h; refine tB ?_))
 | ((first | refine hK1 _ ?_ | refine hK3 _ ?_); (try refine tB ?_); refine ⟨_, h, ?_⟩; exact tU0; done)
 | (refine hK2 _ ?_; exact tU; done)
 | (refine bfork (fun hc => ?_) (fun hc => ?_))
 | (refine tE ?_; (first | rw [M.lok_compU] | rw [M.lokD_compU]); refine tB ?_)
 | (refine tA ?_))
def W_q {y} (hy : F_q = some y) := acW (Wq_q) hy
def F_0 (t_ : GTape) (n_ : Int) : Option (Int × GTape) :=
 bif decide ((t_.L.length : Int) ≤ t_.at_) then some (0, t_) else chk (inb t_.at_ t_.L.length) (chk (in64 (t_.at_ + 1)) (chk (divs ((t_.L.getD (t_.at_).toNat default) % 2 ^ 16) n_) (some ((((t_.L.getD (t_.at_).toNat default) % 2 ^ 16) % n_), (GTape.mk t_.L (t_.at_ + 1))))))
def mc_0 : MC :=
 (.seq (.reg [mo (.mv (.c (.int .i64 0))) 4])
 (.seq (.seq (.regD [mo (.mv (.t 0)) 6,
 mo (.nck (.t 6)) 7,
 mo (.fad 1 (.t 7)) 8,
 mo (.ld none (.t 8)) 9,
 mo (.mv (.t 0)) 10,
 mo (.nck (.t 10)) 11,
 mo (.fad 0 (.t 11)) 12,
 mo (.ld none (.t 12)) 13,
 mo (.len false (.t 13)) 14,
 mo (.bin false .geq (.t 9) (.t 14)) 15]
 [[],[0],[1],[2],[],[4],[5],[6],[7],[3,8]]
 [[],[0],[0,1],[0,1,2],[],[4],[4,5],[4,5,6],[4,5,6,7],[0,1,2,3,4,5,6,7,8]])
 (.cond (.t 15)
 (.seq (.reg [mo (.mv (.c (.int .i64 0))) 4])
 .ret)
 .skip))
 (.seq (.note (.gc [0,1]) (.regD [mo (.mv (.t 0)) 16,
 mo (.nck (.t 16)) 17,
 mo (.fad 0 (.t 17)) 18,
 mo (.ld none (.t 18)) 19,
 mo (.mv (.t 0)) 20,
 mo (.nck (.t 20)) 21,
 mo (.fad 1 (.t 21)) 22,
 mo (.ld none (.t 22)) 23,
 mo (.iad 1 (.t 19) (.t 23)) 24,
 mo (.ld none (.t 24)) 25,
 mo (.mask 16 (.t 25) .i64) 26,
 mo (.mv (.t 26)) 5]
 [[],[0],[1],[2],[],[4],[5],[6],[3,7],[8],[9],[10,0,1,2,3,4,5,6,7,8,9,10]]
 [[],[0],[0,1],[0,1,2],[],[4],[4,5],[4,5,6],[0,1,2,3,4,5,6,7],[0,1,2,3,4,5,6,7,8],[0,1,2,3,4,5,6,7,8,9],[0,1,2,3,4,5,6,7,8,9,10]]))
 (.seq (.note (.gc [0,1,5]) (.reg [mo (.mv (.t 0)) 27,
 mo (.nck (.t 27)) 28,
 mo (.fad 1 (.t 28)) 29,
 mo (.ld none (.t 29)) 30,
 mo (.bin true .add (.t 30) (.c (.int .i64 1))) 31,
 mo (.nck (.t 27)) 32,
 mo (.fad 1 (.t 32)) 33,
 ⟨.st 1 (.t 33) (.t 31), none, none⟩]))
 (.seq (.note (.gc [1,5]) (.reg [mo (.mv (.t 5)) 34,
 mo (.mv (.t 1)) 35,
 mo (.bin true .rem (.t 34) (.t 35)) 36,
 mo (.mv (.t 36)) 4]))
 .ret)))))
theorem Wq_0 (t_ : GTape) (n_ : Int) {Q : Int × GTape → Prop} {Q' : V → Heap → Prop} (h : Ok (F_0 t_ n_) Q) (hQ : ∀ z, Q z → Q' (.int .i64 z.1) [(1000, .cells [.sl (z.2.L.map (V.int .i64)), .int .i64 z.2.at_])]) : ACall Tryz.prog 11 [.ptr 1000 0, .int .i64 n_] [(1000, .cells [.sl (t_.L.map (V.int .i64)), .int .i64 t_.at_])] Q' := by
 refine acallM mc_0 [] [1000] [.t 4] Tryz.func11 fun M => ?_
 unfold F_0 at h
 unfold mc_0
 replace h := tY h
 refine tB ?_
 repeat' (first
 | (exact tZ)
 | ((first | refine oblg h ?_ | refine roomG h ?_ | refine fork h ?_ ?_ | refine forkS h ?_ ?_) <;> clear h <;> intro hc h)
 | (refine tE ?_; (first | rw [M.lok_compU] | rw [M.lokD_compU]); refine tB ?_)
 | (refine tA ?_))
def W_0 {t_ n_ y} (hy : (F_0 t_ n_) = some y) := acW (Wq_0 t_ n_) hy
def F_11 (t_ : GTape) (a_ : Int) (b_ : Int) : Option (Int × GTape) :=
 chk (in64 (b_ - a_)) (chk (in64 ((b_ - a_) + 1)) ((F_0 t_ ((b_ - a_) + 1)).bind fun y2 => chk (in64 (a_ + y2.1)) (some ((a_ + y2.1), y2.2))))
def mc_11 : MC :=
 (.seq (.reg [mo (.mv (.c (.int .i64 0))) 6])
 (.seq (.reg [mo (.mv (.t 1)) 7,
 mo (.mv (.t 0)) 8,
 mo (.mv (.t 2)) 9,
 mo (.mv (.t 1)) 10,
 mo (.bin true .sub (.t 9) (.t 10)) 11,
 mo (.bin true .add (.t 11) (.c (.int .i64 1))) 12,
 mo (.call (.f 11) [(.t 8),(.t 12)] [1000] []) 13,
 mo (.bin true .add (.t 7) (.t 13)) 14,
 mo (.mv (.t 14)) 6])
 .ret))
theorem Wq_11 (t_ : GTape) (a_ : Int) (b_ : Int) {Q : Int × GTape → Prop} {Q' : V → Heap → Prop} (h : Ok (F_11 t_ a_ b_) Q) (hQ : ∀ z, Q z → Q' (.int .i64 z.1) [(1000, .cells [.sl (z.2.L.map (V.int .i64)), .int .i64 z.2.at_])]) : ACall Tryz.prog 25 [.ptr 1000 0, .int .i64 a_, .int .i64 b_] [(1000, .cells [.sl (t_.L.map (V.int .i64)), .int .i64 t_.at_])] Q' := by
 refine acallM mc_11 [] [1000] [.t 6] Tryz.func25 fun M => ?_
 unfold F_11 at h
 unfold mc_11
 replace h := tY h
 refine tB ?_
 repeat' (first
 | (exact tZ)
 | ((first | refine oblg h ?_ | refine roomG h ?_ | refine fork h ?_ ?_ | refine forkS h ?_ ?_) <;> clear h <;> intro hc h)
 | (obtain ⟨y, hy, h⟩ := h; have hw := W_0 hy; replace hw := tY hw; (first | refine M.sC hw ?_ | refine M.sD hw ?_); clear hw hy; refine tB ?_)
 | (refine tE ?_; (first | rw [M.lok_compU] | rw [M.lokD_compU]); refine tB ?_)
 | (refine tA ?_))
def W_11 {t_ a_ b_ y} (hy : (F_11 t_ a_ b_) = some y) := acW (Wq_11 t_ a_ b_) hy
def F_12 (t_ : GTape) (l_ : List Int) : Option (Int × GTape) :=
 (F_0 t_ (l_.length : Int)).bind fun y2 => chk (inb y2.1 l_.length) (some ((l_.getD (y2.1).toNat default), y2.2))
def mc_12 : MC :=
 (.seq (.reg [mo (.mv (.c (.int .i64 0))) 4])
 (.seq (.reg [mo (.mv (.t 1)) 5,
 mo (.mv (.t 0)) 6,
 mo (.mv (.t 1)) 7,
 mo (.len false (.t 7)) 8,
 mo (.call (.f 11) [(.t 6),(.t 8)] [1000] []) 9,
 mo (.iad 1 (.t 5) (.t 9)) 10,
 mo (.ld none (.t 10)) 11,
 mo (.mv (.t 11)) 4])
 .ret))
theorem Wq_12 (t_ : GTape) (l_ : List Int) {Q : Int × GTape → Prop} {Q' : V → Heap → Prop} (h : Ok (F_12 t_ l_) Q) (hQ : ∀ z, Q z → Q' (.int .i64 z.1) [(1000, .cells [.sl (z.2.L.map (V.int .i64)), .int .i64 z.2.at_])]) : ACall Tryz.prog 26 [.ptr 1000 0, .sl (l_.map (V.int .i64))] [(1000, .cells [.sl (t_.L.map (V.int .i64)), .int .i64 t_.at_])] Q' := by
 refine acallM mc_12 [] [1000] [.t 4] Tryz.func26 fun M => ?_
 unfold F_12 at h
 unfold mc_12
 replace h := tY h
 refine tB ?_
 repeat' (first
 | (exact tZ)
 | ((first | refine oblg h ?_ | refine roomG h ?_ | refine fork h ?_ ?_ | refine forkS h ?_ ?_) <;> clear h <;> intro hc h)
 | (obtain ⟨y, hy, h⟩ := h; have hw := W_0 hy; replace hw := tY hw; (first | refine M.sC hw ?_ | refine M.sD hw ?_); clear hw hy; refine tB ?_)
 | (refine tE ?_; (first | rw [M.lok_compU] | rw [M.lokD_compU]); refine tB ?_)
 | (refine tA ?_))
def W_12 {t_ l_ y} (hy : (F_12 t_ l_) = some y) := acW (Wq_12 t_ l_) hy
noncomputable def F_3g (n_ : Int) (x29 : Int × Int × (List Int) × GTape) : Option (Fl (Int × Int × (List Int) × GTape) ((List Int) × GTape)) :=
 bif decide (x29.2.1 < n_) then (F_0 x29.2.2.2 3).bind fun y37 => chk (in64 (x29.1 + y37.1)) (chk (room (x29.2.2.1.length + [(x29.1 + y37.1)].length) 8) (chk (in64 (x29.2.1 + 1)) (some (.nx ((x29.1 + y37.1), (x29.2.1 + 1), (x29.2.2.1 ++ [(x29.1 + y37.1)]), y37.2))))) else some (.ex (x29.2.2.1, x29.2.2.2))
noncomputable def F_13 (t_ : GTape) (n_ : Int) : Option ((List Int) × GTape) :=
 (F_0 t_ 4).bind fun y2 => (loop (F_3g n_) (y2.1,0,[], y2.2)).bind fun r38 => some (r38.1, r38.2)
@[irreducible] def mc_3g : MC :=
 (.seq (.seq (.reg [mo (.mv (.t 7)) 10,
 mo (.mv (.t 1)) 11,
 mo (.bin false .lss (.t 10) (.t 11)) 12])
 (.cond (.t 12)
 .skip
 (.exit 0)))
 (.seq (.block 1
 (.seq (.reg [mo (.mv (.t 6)) 15,
 mo (.mv (.t 0)) 16,
 mo (.call (.f 11) [(.t 16),(.c (.int .i64 3))] [1000] []) 17,
 mo (.bin true .add (.t 15) (.t 17)) 18,
 mo (.mv (.t 18)) 6])
 (.reg [mo (.mv (.t 5)) 19,
 mo (.mv (.t 6)) 20,
 mo (.bslice 1 [(.t 20)]) 21,
 mo (.app 1 8 (.t 19) (.t 21)) 22,
 mo (.mv (.t 22)) 5])))
 (.note (.gc [0,1,5,6,7]) (.reg [mo (.mv (.t 7)) 13,
 mo (.bin true .add (.t 13) (.c (.int .i64 1))) 14,
 mo (.mv (.t 14)) 7]))))
def mc_13 : MC :=
 (.seq (.reg [mo (.mv (.c (.sl []))) 4])
 (.seq (.reg [mo (.mv (.c .nils)) 5])
 (.seq (.reg [mo (.mv (.t 0)) 8,
 mo (.call (.f 11) [(.t 8),(.c (.int .i64 4))] [1000] []) 9,
 mo (.mv (.t 9)) 6])
 (.seq (.seq (.reg [mo (.mv (.c (.int .i64 0))) 7])
 (.block 0
 (.loop mc_3g)))
 (.seq (.reg [mo (.mv (.t 5)) 23,
 mo (.mv (.t 23)) 4])
 .ret)))))
theorem Wq_13 (t_ : GTape) (n_ : Int) {Q : (List Int) × GTape → Prop} {Q' : V → Heap → Prop} (h : Ok (F_13 t_ n_) Q) (hQ : ∀ z, Q z → Q' (.sl (z.1.map (V.int .i64))) [(1000, .cells [.sl (z.2.L.map (V.int .i64)), .int .i64 z.2.at_])]) : ACall Tryz.prog 27 [.ptr 1000 0, .int .i64 n_] [(1000, .cells [.sl (t_.L.map (V.int .i64)), .int .i64 t_.at_])] Q' := by
 refine acallM mc_13 [.fz 4] [1000] [.t 4] Tryz.func27 fun M => ?_
 unfold F_13 at h
 unfold mc_13
 replace h := tY h
 refine tB ?_
 repeat' (first
 | (exact tZ)
 | ((first | refine oblg h ?_ | refine roomG h ?_ | refine fork h ?_ ?_ | refine forkS h ?_ ?_) <;> clear h <;> intro hc h)
 | (obtain ⟨y, hy, h⟩ := h; have hw := W_0 hy; replace hw := tY hw; (first | refine M.sC hw ?_ | refine M.sD hw ?_); clear hw hy; refine tB ?_)
 | (refine M.wh1 (b := mc_3g) [0,1] [] (fun x => [(5, .osl 2005 1 0 x.2.2.1.length), (6, .int .i64 x.1), (7, .int .i64 x.2.1)]) (fun x => [.o 2005 (.arr 1 (x.2.2.1.map (V.int .i64))), .o 1000 (.cells [.sl (x.2.2.2.L.map (V.int .i64)), .int .i64 x.2.2.2.at_])]) [.gc [0,1,5,6,7], .acc 5 2005 1] h ?_ ?_ <;> first
 | (clear h; intro x Qn K hK1 h; unfold F_3g at h; unfold mc_3g; replace h := tY h; refine tB ?_)
  |(clear h; (try refine tB ?_); exact tU0; done))
 | (refine hK1 _ ?_; (try refine tB ?_); refine ⟨_, h, ?_⟩; exact tU0; done)
 | (refine tE ?_; (first | rw [M.lok_compU] | rw [M.lokD_compU]); refine tB ?_)
 | (refine tA ?_))
def W_13 {t_ n_ y} (hy : (F_13 t_ n_) = some y) := acW (Wq_13 t_ n_) hy
noncomputable def F_3h (x21 : Int × (List Int) × GTape) : Option (Fl (Int × (List Int) × GTape) ((List Int) × GTape)) :=
 bif decide (0 < x21.1) then (F_12 x21.2.2 [2,2,1,3]).bind fun y25 => chk (room (x21.2.1.length + [y25.1].length) 8) (chk (in64 (x21.1 - 1)) (some (.nx ((x21.1 - 1), (x21.2.1 ++ [y25.1]), y25.2)))) else some (.ex (x21.2.1, x21.2.2))
noncomputable def F_30 (k42 : Int) (a43 : Int) (x41 : List Int) : Option (List Int) :=
 bif decide (a43 = 2) then chk (room (x41.length + [k42].length) 8) (some (x41 ++ [k42])) else some x41
noncomputable def F_31 (r26 : (List Int) × GTape) (x44 : List Int) (k166 : Int) (a167 : Int) (x165 : (List GMember) × GTape) : Option ((List GMember) × GTape) :=
 (F_0 x165.2 (r26.1.length : Int)).bind fun y191 => (F_0 y191.2 (x44.length : Int)).bind fun y192 => chk (inb y192.1 x44.length) (jn (α := GMember × GTape) ((F_0 y192.2 4).bind fun y197 => bif decide (y197.1 = 3) then some ((GMember.mk a167 2 y191.1 (x44.getD ((y192.1).toNat) default)), y197.2) else some ((GMember.mk a167 1 y191.1 (x44.getD ((y192.1).toNat) default)), y197.2)) fun j195 => bif (!decide (j195.1.Principal = j195.1.Group)) then chk (room (x165.1.length + [j195.1].length) 32) (some ((x165.1 ++ [j195.1]), j195.2)) else some (x165.1, j195.2))
noncomputable def F_1n (t_ : GTape) : Option (GDirectory × GTape) :=
 (F_11 t_ 2 6).bind fun y14 => (loop F_3h (y14.1,[1], y14.2)).bind fun r26 => (foldL F_30 r26.1 0 []).bind fun x44 => bif decide ((x44.length : Int) = 0) then some ((GDirectory.mk r26.1 []), r26.2) else (F_0 r26.2 12).bind fun y116 => (F_13 y116.2 y116.1).bind fun y117 => (foldL (F_31 r26 x44) y117.1 0 ([], y117.2)).bind fun x198 => some ((GDirectory.mk r26.1 x198.1), x198.2)
@[irreducible] def mc_3h : MC :=
 (.seq (.seq (.reg [mo (.mv (.t 4)) 15,
 mo (.bin false .gtr (.t 15) (.c (.int .i64 0))) 16])
 (.cond (.t 16)
 .skip
 (.exit 0)))
 (.seq (.block 1
 (.regD [mo (.fad 0 (.t 3)) 19,
 mo (.ld none (.t 19)) 20,
 mo (.mv (.t 0)) 21,
 mo (.lsl 1 [(.c (.int .i64 2)),(.c (.int .i64 2)),(.c (.int .i64 1)),(.c (.int .i64 3))]) 22,
 mo (.call (.f 26) [(.t 21),(.t 22)] [1000] []) 23,
 mo (.bslice 1 [(.t 23)]) 24,
 mo (.app 1 8 (.t 20) (.t 24)) 25,
 mo (.fad 0 (.t 3)) 26,
 ⟨.st 1 (.t 26) (.t 25), none, none⟩]
 [[],[0],[],[],[2,3],[4],[1,5,4],[0,1,2,3,4,5,6],[7,6,6,0,1,2,3,4,5,6]]
 [[],[0],[],[],[2,3],[2,3,4],[0,1,2,3,4,5],[0,1,2,3,4,5,6],[0,1,2,3,4,5,6,7]]))
 (.note (.gc [0,2,3,4]) (.reg [mo (.mv (.t 4)) 17,
 mo (.bin true .sub (.t 17) (.c (.int .i64 1))) 18,
 mo (.mv (.t 18)) 4]))))
@[irreducible] def mc_30 : MC :=
 (.seq (.reg [mo (.bin false .lss (.t 30) (.t 29)) 31])
 (.seq (.cond (.t 31)
 .skip
 (.exit 2))
 (.seq (.block 3
 (.seq (.reg [mo (.mv (.t 30)) 32,
 mo (.iad 1 (.t 28) (.t 30)) 33,
 mo (.ld none (.t 33)) 34,
 mo (.mv (.t 32)) 6,
 mo (.mv (.t 34)) 7])
 (.seq (.reg [mo (.mv (.t 7)) 35,
 mo (.bin false .eql (.t 35) (.c (.int .i64 2))) 36])
 (.cond (.t 36)
 (.reg [mo (.mv (.t 5)) 37,
 mo (.mv (.t 6)) 38,
 mo (.bslice 1 [(.t 38)]) 39,
 mo (.app 1 8 (.t 37) (.t 39)) 40,
 mo (.mv (.t 40)) 5])
 .skip))))
 (.reg [mo (.bin true .add (.t 30) (.c (.int .i64 1))) 41,
 mo (.mv (.t 41)) 30]))))
@[irreducible] def mc_64 : MC :=
 (.seq (.reg [mo (.fad 2 (.t 10)) 73,
 mo (.ld none (.t 73)) 74,
 mo (.fad 3 (.t 10)) 75,
 mo (.ld none (.t 75)) 76,
 mo (.bin false .neq (.t 74) (.t 76)) 77])
 (.cond (.t 77)
 (.reg [mo (.fad 1 (.t 3)) 78,
 mo (.ld none (.t 78)) 79,
 mo (.ld (some 4) (.t 10)) 80,
 mo (.bslice 4 [(.t 80)]) 81,
 mo (.app 4 32 (.t 79) (.t 81)) 82,
 mo (.fad 1 (.t 3)) 83,
 ⟨.st 1 (.t 83) (.t 82), none, none⟩])
 .skip))
@[irreducible] def mc_31 : MC :=
 (.seq (.reg [mo (.bin false .lss (.t 51) (.t 50)) 52])
 (.seq (.cond (.t 52)
 .skip
 (.exit 4))
 (.seq (.block 5
 (.seq (.reg [mo (.iad 1 (.t 49) (.t 51)) 53,
 mo (.ld none (.t 53)) 54,
 mo (.mv (.t 54)) 9])
 (.seq (.reg [mo (.mv (.t 9)) 55,
 mo (.mv (.t 0)) 56,
 mo (.fad 0 (.t 3)) 57,
 mo (.ld none (.t 57)) 58,
 mo (.len false (.t 58)) 59,
 mo (.call (.f 11) [(.t 56),(.t 59)] [1000] []) 60,
 mo (.mv (.t 5)) 61,
 mo (.mv (.t 0)) 62,
 mo (.mv (.t 5)) 63,
 mo (.len false (.t 63)) 64,
 mo (.call (.f 11) [(.t 62),(.t 64)] [1000] []) 65,
 mo (.iad 1 (.t 61) (.t 65)) 66,
 mo (.ld none (.t 66)) 67,
 mo (.build [(.int .i64 0),(.int .i64 0),(.int .i64 0),(.int .i64 0)] [(0,1,(.t 55)), (1,1,(.c (.int .i64 1))), (2,1,(.t 60)), (3,1,(.t 67))]) 68,
 mo (.alloc [(.int .i64 0),(.int .i64 0),(.int .i64 0),(.int .i64 0)]) 10,
 ⟨.st 4 (.t 10) (.t 68), none, none⟩])
 (.cut (.seq (.note (.gc [0,2,3,5,10,49,50,51]) (.reg [mo (.mv (.t 0)) 69,
 mo (.call (.f 11) [(.t 69),(.c (.int .i64 4))] [1000] []) 70,
 mo (.bin false .eql (.t 70) (.c (.int .i64 3))) 71]))
 (.cond (.t 71)
 (.reg [mo (.fad 1 (.t 10)) 72,
 ⟨.st 1 (.t 72) (.c (.int .i64 2)), none, none⟩])
 .skip))
 mc_64))))
 (.reg [mo (.bin true .add (.t 51) (.c (.int .i64 1))) 84,
 mo (.mv (.t 84)) 51]))))
def mc_1n : MC :=
 (.seq (.reg [mo (.alloc [(.sl []),(.sl [])]) 2])
 (.seq (.reg [mo (.bslice 1 [(.c (.int .i64 1))]) 11,
 mo (.build [.nils, .nils] [(0,1,(.t 11))]) 12,
 mo (.alloc [(.sl []),(.sl [])]) 3,
 ⟨.st 2 (.t 3) (.t 12), none, none⟩])
 (.seq (.seq (.reg [mo (.mv (.t 0)) 13,
 mo (.call (.f 25) [(.t 13),(.c (.int .i64 2)),(.c (.int .i64 6))] [1000] []) 14,
 mo (.mv (.t 14)) 4])
 (.block 0
 (.loop mc_3h)))
 (.seq (.reg [mo (.mv (.c .nils)) 5])
 (.seq (.seq (.reg [mo (.fad 0 (.t 3)) 27,
 mo (.ld none (.t 27)) 28,
 mo (.len false (.t 28)) 29,
 mo (.mv (.c (.int .i64 0))) 30])
 (.block 2
 (.loop mc_30)))
 (.seq (.seq (.reg [mo (.mv (.t 5)) 42,
 mo (.len false (.t 42)) 43,
 mo (.bin false .eql (.t 43) (.c (.int .i64 0))) 44])
 (.cond (.t 44)
 (.seq (.reg [mo (.ld (some 2) (.t 3)) 45,
 ⟨.st 2 (.t 2) (.t 45), none, none⟩])
 .ret)
 .skip))
 (.seq (.seq (.reg [mo (.mv (.t 0)) 46,
 mo (.mv (.t 0)) 47,
 mo (.call (.f 11) [(.t 47),(.c (.int .i64 12))] [1000] []) 48,
 mo (.call (.f 27) [(.t 46),(.t 48)] [1000] []) 49,
 mo (.len false (.t 49)) 50,
 mo (.mv (.c (.int .i64 0))) 51])
 (.block 4
 (.loop mc_31)))
 (.seq (.reg [mo (.ld (some 2) (.t 3)) 85,
 ⟨.st 2 (.t 2) (.t 85), none, none⟩])
 .ret))))))))
theorem Wq_1n (t_ : GTape) {Q : GDirectory × GTape → Prop} {Q' : V → Heap → Prop} (h : Ok (F_1n t_) Q) (hQ : ∀ z, Q z → Q' (GDirectory.v z.1) [(1000, .cells [.sl (z.2.L.map (V.int .i64)), .int .i64 z.2.at_])]) : ACall Tryz.prog 9 [.ptr 1000 0] [(1000, .cells [.sl (t_.L.map (V.int .i64)), .int .i64 t_.at_])] Q' := by
 refine acallM mc_1n [.fzc 2] [1000] [.c 2 (some 2)] Tryz.func9 fun M => ?_
 unfold F_1n at h
 unfold mc_1n
 replace h := tY h
 refine tB ?_
 repeat' (first
 | (exact tZ)
 | ((first | refine oblg h ?_ | refine roomG h ?_ | refine fork h ?_ ?_ | refine forkS h ?_ ?_) <;> clear h <;> intro hc h)
 | (obtain ⟨y, hy, h⟩ := h; (first | with_reducible first | have hw := W_11 hy | have hw := W_12 hy | have hw := W_0 hy | have hw := W_13 hy); replace hw := tY hw; (first | refine M.sC hw ?_ | refine M.sD hw ?_); clear hw hy; refine tB ?_)
 | (refine M.wh1 (b := mc_3h) [0,2,3] [3,2] (fun x => [(4, .int .i64 x.1)]) (fun x => [.p 3 0 [.osl 4048 1 0 x.2.1.length], .o 4048 (.arr 1 (x.2.1.map (V.int .i64))), .o 1000 (.cells [.sl (x.2.2.L.map (V.int .i64)), .int .i64 x.2.2.at_])]) [.gc [0,2,3,4], .ownC 3 0 4048 1 none] h ?_ ?_ <;> first
 | (clear h; intro x Qn K hK1 h; unfold F_3h at h; unfold mc_3h; replace h := tY h; refine tB ?_)
  |(clear h; (try refine tB ?_); exact tU0; done))
 | (refine M.fold1 (b := mc_30) 30 [0,2,3,28,29] [4048,3,2,1000] (fun x => [(5, .osl 2005 1 0 x.length)]) (fun x => [.o 2005 (.arr 1 (x.map (V.int .i64)))]) [.gc [0,2,3,5,28,29,30], .acc 5 2005 1] h ?_ ?_ ?_ <;> first
 | (clear h; intro k a x Qn K hK2 hkN2 ha2 h hf; have hl := fact_int (factsE_find (n := 29) hf.1 rfl); clear hf; have hkd := kD hkN2; have hkB2 := kB hkN2; have hkI2 := kI (k := k) (by omega); unfold F_30 at h; unfold mc_30; replace h := tY h; refine tK ha2 hkd hkN2 hkB2 hkI2 ?_)
  |(clear h; intro x K h; replace h := And.left (And.intro h trivial); unfold mc_30; replace h := tY h; refine tB ?_)
  |(clear h; (try refine tB ?_); exact tU0; done))
 | (refine M.jn1 (b := mc_64) [0,2,3,5,10,49,50,51] [2005,3,4048,4049,2] (fun y => []) (fun y => [.o 10 (.cells [.int .i64 y.1.Time, .int .i64 y.1.Kind, .int .i64 y.1.Principal, .int .i64 y.1.Group]), .o 1000 (.cells [.sl (y.2.L.map (V.int .i64)), .int .i64 y.2.at_])]) [] h ?_ ?_ <;> first
 | (clear h; intro Qn K hK3 h; replace h := tY h; refine tB ?_)
  |(clear h; intro y h; unfold mc_64; replace h := tY h; refine tB ?_))
 | (refine M.fold1 (b := mc_31) 51 [0,2,3,5,49,50] [2005,3,4048,2] (fun x => []) (fun x => [.p 3 1 [.osl 4049 4 0 x.1.length], .o 4049 (.arr 4 (x.1.map GMember.v)), .o 1000 (.cells [.sl (x.2.L.map (V.int .i64)), .int .i64 x.2.at_])]) [.gc [0,2,3,5,49,50,51], .ownC 3 1 4049 4 none] h ?_ ?_ ?_ <;> first
 | (clear h; intro k a x Qn K hK4 hkN4 ha4 h hf; have hl := fact_int (factsE_find (n := 50) hf.1 rfl); clear hf; have hkd := kD hkN4; have hkB4 := kB hkN4; have hkI4 := kI (k := k) (by omega); unfold F_31 at h; unfold mc_31; replace h := tY h; refine tK ha4 hkd hkN4 hkB4 hkI4 ?_)
  |(clear h; intro x K h; replace h := And.left (And.intro h trivial); unfold mc_31; replace h := tY h; refine tB ?_)
  |(clear h; (try refine tB ?_); exact tU0; done))
 | (first | simp only [ha2] | simp only [ha4])
 | ((first | refine hK1 _ ?_ | refine hK2 _ ?_ | refine hK3 _ ?_ | refine hK4 _ ?_); (try refine tB ?_); refine ⟨_, h, ?_⟩; exact tU0; done)
 | (refine tE ?_; (first | rw [M.lok_compU] | rw [M.lokD_compU]); refine tB ?_)
 | (refine tA ?_))
def W_1n {t_ y} (hy : (F_1n t_) = some y) := acW (Wq_1n t_) hy
noncomputable def F_32 (d_ : GDirectory) (k208 : Int) (a209 : Int) (x207 : Int × (List GAccess) × GTape) : Option (Int × (List GAccess) × GTape) :=
 (F_12 x207.2.2 [1,1,2,3,4,5,5,6,7,7]).bind fun y251 => (F_0 y251.2 x207.1).bind fun y252 => jn (α := Fl (GAccess × GTape) GTape) (jn (α := Bool) (bif decide (y251.1 = 1) then some true else some (decide (y251.1 = 2))) fun j261 => bif j261 then chk (in64 ((d_.Kinds.length : Int) + 1)) ((F_0 y252.2 ((d_.Kinds.length : Int) + 1)).bind fun y262 => some (.nx ((GAccess.mk a209 y251.1 y252.1 y262.1 0 0 0), y262.2))) else bif decide (y251.1 = 3) then chk (in64 (a209 + 1)) ((F_0 y252.2 5).bind fun y263 => chk (in64 ((a209 + 1) + y263.1)) (some (.nx ((GAccess.mk a209 y251.1 y252.1 0 ((a209 + 1) + y263.1) 0 0), y263.2)))) else jn (α := Bool) (bif decide (y251.1 = 5) then some true else some (decide (y251.1 = 6))) fun j264 => bif j264 then (F_0 y252.2 3).bind fun y265 => some (.nx ((GAccess.mk a209 y251.1 y252.1 0 0 y265.1 0), y265.2)) else bif decide (y251.1 = 7) then (F_0 y252.2 x207.1).bind fun y267 => bif decide (y267.1 = y252.1) then some (.ex y267.2) else some (.nx ((GAccess.mk a209 y251.1 y252.1 0 0 0 y267.1), y267.2)) else some (.nx ((GAccess.mk a209 y251.1 y252.1 0 0 0 0), y252.2))) fun o => o.elim (fun j260 => chk (room (x207.2.1.length + [j260.1].length) 56) (some (x207.1, (x207.2.1 ++ [j260.1]), j260.2))) (fun r268 => some (x207.1, x207.2.1, r268))
noncomputable def F_1o (t_ : GTape) (d_ : GDirectory) : Option (GEstate × GTape) :=
 (F_11 t_ 1 4).bind fun y2 => (F_0 y2.2 16).bind fun y122 => (F_13 y122.2 y122.1).bind fun y123 => (foldL (F_32 d_) y123.1 0 (y2.1,[], y123.2)).bind fun x269 => some ((GEstate.mk x269.1 x269.2.1), x269.2.2)
@[irreducible] def mc_65 : MC :=
 (.cond (.t 50)
 (.reg [mo (.mv (.t 0)) 53,
 mo (.call (.f 11) [(.t 53),(.c (.int .i64 3))] [1000] []) 54,
 mo (.fad 5 (.t 8)) 55,
 ⟨.st 1 (.t 55) (.t 54), none, none⟩])
 (.seq (.reg [mo (.bin false .eql (.t 31) (.c (.int .i64 7))) 57,
 mo (.mv (.t 57)) 56])
 (.cond (.t 56)
 (.seq (.reg [mo (.mv (.t 0)) 58,
 mo (.fad 0 (.t 5)) 59,
 mo (.ld none (.t 59)) 60,
 mo (.call (.f 11) [(.t 58),(.t 60)] [1000] []) 61,
 mo (.fad 6 (.t 8)) 62,
 ⟨.st 1 (.t 62) (.t 61), none, none⟩])
 (.seq (.note (.gc [0,3,4,5,8,15,16,17]) (.reg [mo (.fad 6 (.t 8)) 63,
 mo (.ld none (.t 63)) 64,
 mo (.fad 2 (.t 8)) 65,
 mo (.ld none (.t 65)) 66,
 mo (.bin false .eql (.t 64) (.t 66)) 67]))
 (.cond (.t 67)
 (.exit 1)
 .skip)))
 .skip)))
@[irreducible] def mc_66 : MC :=
 (.cond (.t 32)
 (.reg [mo (.mv (.t 0)) 35,
 mo (.fad 0 (.t 3)) 36,
 mo (.ld none (.t 36)) 37,
 mo (.len false (.t 37)) 38,
 mo (.bin true .add (.t 38) (.c (.int .i64 1))) 39,
 mo (.call (.f 11) [(.t 35),(.t 39)] [1000] []) 40,
 mo (.fad 3 (.t 8)) 41,
 ⟨.st 1 (.t 41) (.t 40), none, none⟩])
 (.seq (.reg [mo (.bin false .eql (.t 31) (.c (.int .i64 3))) 43,
 mo (.mv (.t 43)) 42])
 (.cond (.t 42)
 (.reg [mo (.mv (.t 7)) 44,
 mo (.bin true .add (.t 44) (.c (.int .i64 1))) 45,
 mo (.mv (.t 0)) 46,
 mo (.call (.f 11) [(.t 46),(.c (.int .i64 5))] [1000] []) 47,
 mo (.bin true .add (.t 45) (.t 47)) 48,
 mo (.fad 4 (.t 8)) 49,
 ⟨.st 1 (.t 49) (.t 48), none, none⟩])
 (.cut (.seq (.reg [mo (.bin false .eql (.t 31) (.c (.int .i64 5))) 51,
 mo (.mv (.t 51)) 50])
 (.cond (.t 50)
 .skip
 (.reg [mo (.bin false .eql (.t 31) (.c (.int .i64 6))) 52,
 mo (.mv (.t 52)) 50])))
 mc_65))))
@[irreducible] def mc_67 : MC :=
 (.reg [mo (.fad 1 (.t 5)) 68,
 mo (.ld none (.t 68)) 69,
 mo (.ld (some 7) (.t 8)) 70,
 mo (.bslice 7 [(.t 70)]) 71,
 mo (.app 7 56 (.t 69) (.t 71)) 72,
 mo (.fad 1 (.t 5)) 73,
 ⟨.st 1 (.t 73) (.t 72), none, none⟩])
@[irreducible] def mc_32 : MC :=
 (.seq (.reg [mo (.bin false .lss (.t 17) (.t 16)) 18])
 (.seq (.cond (.t 18)
 .skip
 (.exit 0))
 (.seq (.block 1
 (.seq (.reg [mo (.iad 1 (.t 15) (.t 17)) 19,
 mo (.ld none (.t 19)) 20,
 mo (.mv (.t 20)) 7])
 (.seq (.regD [mo (.mv (.t 7)) 21,
 mo (.mv (.t 0)) 22,
 mo (.lsl 1 [(.c (.int .i64 1)),(.c (.int .i64 1)),(.c (.int .i64 2)),(.c (.int .i64 3)),(.c (.int .i64 4)),(.c (.int .i64 5)),(.c (.int .i64 5)),(.c (.int .i64 6)),(.c (.int .i64 7)),(.c (.int .i64 7))]) 23,
 mo (.call (.f 26) [(.t 22),(.t 23)] [1000] []) 24,
 mo (.mv (.t 0)) 25,
 mo (.fad 0 (.t 5)) 26,
 mo (.ld none (.t 26)) 27,
 mo (.call (.f 11) [(.t 25),(.t 27)] [1000] []) 28,
 mo (.build [(.int .i64 0),(.int .i64 0),(.int .i64 0),(.int .i64 0),(.int .i64 0),(.int .i64 0),(.int .i64 0)] [(0,1,(.t 21)), (1,1,(.t 24)), (2,1,(.t 28))]) 29,
 mo (.alloc [(.int .i64 0),(.int .i64 0),(.int .i64 0),(.int .i64 0),(.int .i64 0),(.int .i64 0),(.int .i64 0)]) 8,
 ⟨.st 7 (.t 8) (.t 29), none, none⟩]
 [[],[],[],[1,2],[],[],[5],[4,6,3],[0,3,7],[],[9,8,7,0,1,2,3,4,5,6,7,8,9]]
 [[],[],[],[1,2],[],[],[5],[1,2,3,4,5,6],[0,1,2,3,4,5,6,7],[],[0,1,2,3,4,5,6,7,8,9]])
 (.cut (.seq (.reg [mo (.fad 1 (.t 8)) 30,
 mo (.ld none (.t 30)) 31])
 (.block 2
 (.cut (.seq (.reg [mo (.bin false .eql (.t 31) (.c (.int .i64 1))) 33,
 mo (.mv (.t 33)) 32])
 (.cond (.t 32)
 .skip
 (.reg [mo (.bin false .eql (.t 31) (.c (.int .i64 2))) 34,
 mo (.mv (.t 34)) 32])))
 mc_66)))
 mc_67))))
 (.reg [mo (.bin true .add (.t 17) (.c (.int .i64 1))) 74,
 mo (.mv (.t 74)) 17]))))
def mc_1o : MC :=
 (.seq (.reg [mo (.box (.t 1)) 3,
 mo (.alloc [(.int .i64 0),(.sl [])]) 4])
 (.seq (.reg [mo (.mv (.t 0)) 9,
 mo (.call (.f 25) [(.t 9),(.c (.int .i64 1)),(.c (.int .i64 4))] [1000] []) 10,
 mo (.build [(.int .i64 0), .nils] [(0,1,(.t 10))]) 11,
 mo (.alloc [(.int .i64 0),(.sl [])]) 5,
 ⟨.st 2 (.t 5) (.t 11), none, none⟩])
 (.seq (.seq (.reg [mo (.mv (.t 0)) 12,
 mo (.mv (.t 0)) 13,
 mo (.call (.f 11) [(.t 13),(.c (.int .i64 16))] [1000] []) 14,
 mo (.call (.f 27) [(.t 12),(.t 14)] [1000] []) 15,
 mo (.len false (.t 15)) 16,
 mo (.mv (.c (.int .i64 0))) 17])
 (.block 0
 (.loop mc_32)))
 (.seq (.reg [mo (.ld (some 2) (.t 5)) 75,
 ⟨.st 2 (.t 4) (.t 75), none, none⟩])
 .ret))))
theorem Wq_1o (t_ : GTape) (d_ : GDirectory) {Q : GEstate × GTape → Prop} {Q' : V → Heap → Prop} (h : Ok (F_1o t_ d_) Q) (hQ : ∀ z, Q z → Q' (GEstate.v z.1) [(1000, .cells [.sl (z.2.L.map (V.int .i64)), .int .i64 z.2.at_])]) : ACall Tryz.prog 10 [.ptr 1000 0, GDirectory.v d_] [(1000, .cells [.sl (t_.L.map (V.int .i64)), .int .i64 t_.at_])] Q' := by
 refine acallM mc_1o [.fzc 4] [1000] [.c 4 (some 2)] Tryz.func10 fun M => ?_
 unfold F_1o at h
 unfold mc_1o
 replace h := tY h
 refine tB ?_
 repeat' (first
 | (exact tZ)
 | ((first | refine oblg h ?_ | refine roomG h ?_ | refine fork h ?_ ?_ | refine forkS h ?_ ?_) <;> clear h <;> intro hc h)
 | (obtain ⟨y, hy, h⟩ := h; (first | with_reducible first | have hw := W_11 hy | have hw := W_0 hy | have hw := W_13 hy | have hw := W_12 hy); replace hw := tY hw; (first | refine M.sC hw ?_ | refine M.sD hw ?_); clear hw hy; refine tB ?_)
 | (refine M.jn1 (b := mc_65) [0,3,4,5,8,15,16,17,31] [8,5,4081,4,3,1000] (fun y => [(50, .bool y)]) (fun y => []) [] h ?_ ?_ <;> first
 | (clear h; intro Qn K hK1 h; replace h := tY h; refine tB ?_)
  |(clear h; intro y h; unfold mc_65; replace h := tY h; refine tB ?_))
 | (refine M.jn1 (b := mc_66) [0,3,4,5,7,8,15,16,17,31] [8,5,4081,4,3,1000] (fun y => [(32, .bool y)]) (fun y => []) [] h ?_ ?_ <;> first
 | (clear h; intro Qn K hK2 h; replace h := tY h; refine tB ?_)
  |(clear h; intro y h; unfold mc_66; replace h := tY h; refine tB ?_))
 | (refine M.jnE (b := mc_67) [0,3,4,5,8,15,16,17] [5,4081,4,3] (fun y => []) (fun y => [.o 8 (.cells [.int .i64 y.1.Time, .int .i64 y.1.Kind, .int .i64 y.1.Place, .int .i64 y.1.Principal, .int .i64 y.1.Until, .int .i64 y.1.Content, .int .i64 y.1.From]), .o 1000 (.cells [.sl (y.2.L.map (V.int .i64)), .int .i64 y.2.at_])]) [] h ?_ ?_ <;> first
 | (clear h; intro Qn K hK3 h; replace h := tY h; refine tB ?_)
  |(clear h; intro y h; unfold mc_67; replace h := tY h; refine tB ?_))
 | (refine M.fold1 (b := mc_32) 17 [0,3,4,5,15,16] [4,3] (fun x => []) (fun x => [.o 5 (.cells [.int .i64 x.1, .osl 4081 7 0 x.2.1.length]), .o 4081 (.arr 7 (x.2.1.map GAccess.v)), .o 1000 (.cells [.sl (x.2.2.L.map (V.int .i64)), .int .i64 x.2.2.at_])]) [.gc [0,3,4,5,15,16,17], .ownC 5 1 4081 7 none] h ?_ ?_ ?_ <;> first
 | (clear h; intro k a x Qn K hK4 hkN4 ha4 h hf; have hl := fact_int (factsE_find (n := 16) hf.1 rfl); clear hf; have hkd := kD hkN4; have hkB4 := kB hkN4; have hkI4 := kI (k := k) (by omega); unfold F_32 at h; unfold mc_32; replace h := tY h; refine tK ha4 hkd hkN4 hkB4 hkI4 ?_)
  |(clear h; intro x K h; replace h := And.left (And.intro h trivial); unfold mc_32; replace h := tY h; refine tB ?_)
  |(clear h; (try refine tB ?_); exact tU0; done))
 | (simp only [ha4])
 | ((first | refine hK1 _ ?_ | refine hK2 _ ?_ | refine hK3 _ ?_ | refine hK4 _ ?_); (try refine tB ?_); refine ⟨_, h, ?_⟩; exact tU0; done)
 | (refine tE ?_; (first | rw [M.lok_compU] | rw [M.lokD_compU]); refine tB ?_)
 | (refine tA ?_))
def W_1o {t_ d_ y} (hy : (F_1o t_ d_) = some y) := acW (Wq_1o t_ d_) hy
end Go.Ab
