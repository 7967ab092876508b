/- What the functions of this seat that lie on the laws' road compute (part LD), each for every input. By AI agents. -/
import Derived.Test.YtmodfifkcbpibaaGreatProg
import Derived.KernelRfl
import Derived.Test.YtmodfifkcbpibaaGreatAbFun
import Derived.Test.YtmodfifkcbpibaaGreatLC
set_option linter.all false
set_option linter.all false
set_option maxRecDepth 20000
set_option maxHeartbeats 2000000
namespace Go.Ab
open Go.Proofs
theorem inbk_1 {n : Nat} : (inb 1 n = true) = (((1 : Nat) : Int) < (n : Int)) := propext (by rw [inb_iff]; omega)
attribute [go_sem] inbk_1
def F_10 (y_ : GAccess) (p_ : Int) (p__ : Int) : Option Bool :=
 grp ((decide (y_.Kind = 4) && decide (y_.Place = p_))) fun b3 => grp ((b3 && decide (y_.Time ≤ p__))) fun b4 => some b4
@[irreducible] def mg_5s : List MOp := [⟨.fad 2 (.t 3), (some 9), (some (8, true))⟩,
 ⟨.ld none (.t 9), (some 10), (some (8, true))⟩,
 ⟨.ld none (.t 1), (some 11), (some (8, true))⟩,
 ⟨.bin false .eql (.t 10) (.t 11), (some 12), (some (8, true))⟩,
 mo (.pick (.t 8) (.t 12) (.c (.bool false))) 13]
@[irreducible] def mg_5t : List MOp := [⟨.fad 0 (.t 3), (some 15), (some (14, true))⟩,
 ⟨.ld none (.t 15), (some 16), (some (14, true))⟩,
 ⟨.ld none (.t 2), (some 17), (some (14, true))⟩,
 ⟨.bin false .leq (.t 16) (.t 17), (some 18), (some (14, true))⟩,
 mo (.pick (.t 14) (.t 18) (.c (.bool false))) 19]
def mc_10 : MC :=
 (.seq (.reg [mo (.box (.t 0)) 3,
 mo (.mv (.c (.bool false))) 4])
 (.seq (.regI [.op (mo (.fad 1 (.t 3)) 5),
 .op (mo (.ld none (.t 5)) 6),
 .op (mo (.bin false .eql (.t 6) (.c (.int .i64 4))) 7),
 .op (mo (.mv (.t 7)) 8),
 .grp mg_5s,
 .op (mo (.mv (.t 13)) 14),
 .grp mg_5t,
 .op (mo (.mv (.t 19)) 4)])
 .ret))
theorem Wq_10 (y_ : GAccess) (p_ : Int) (p__ : Int) {Q : Bool → Prop} {Q' : V → Heap → Prop} (h : Ok (F_10 y_ p_ p__) Q) (hQ : ∀ z, Q z → Q' (.bool z) [(1000, .cells [.int .i64 p_]), (1001, .cells [.int .i64 p__])]) : ACall Tryz.prog 72 [GAccess.v y_, .ptr 1000 0, .ptr 1001 0] [(1000, .cells [.int .i64 p_]), (1001, .cells [.int .i64 p__])] Q' := by
 refine acallM mc_10 [] [1000,1001] [.t 4] Tryz.func72 fun M => ?_
 unfold F_10 at h
 unfold mc_10
 replace h := tY h
 refine tB ?_
 repeat' (first
 | (exact tZ)
 | ((first | refine oblg h ?_ | refine roomG h ?_ | refine fork h ?_ ?_ | refine forkS h ?_ ?_) <;> clear h <;> intro hc h)
 | (refine M.gv1 (ms := mg_5t) 19 [15,16,17,18] h ?_ ?_ <;> first
 | (clear h; intro K hK1; unfold mg_5t; refine tB ?_)
 | (clear h; intro b h; replace h := tY h; refine tB ?_))
 | (refine M.gv1 (ms := mg_5s) 13 [9,10,11,12] h ?_ ?_ <;> first
 | (clear h; intro K hK2; unfold mg_5s; refine tB ?_)
 | (clear h; intro b h; replace h := tY h; refine tB ?_))
 | ((first | refine hK1 _ ?_ | refine hK2 _ ?_); exact tU; done)
 | (refine bfork (fun hc => ?_) (fun hc => ?_))
 | (refine tE ?_; (first | rw [M.lok_compU] | rw [M.lokD_compU]); refine tB ?_)
 | (refine tA ?_))
def W_10 {y_ p_ p__ y} (hy : (F_10 y_ p_ p__) = some y) := acW (Wq_10 y_ p_ p__) hy
def F_34 (fc0_ : Int) (fc1_ : Int) (k31 : Int) (a32 : GAccess) (x30 : Unit) : Option (Fl Unit Int) :=
 (F_10 a32 fc0_ fc1_).bind fun y40 => bif y40 then some (.ex k31) else some (.nx ())
def F_26 (s_ : List GAccess) (fc0_ : Int) (fc1_ : Int) : Option Int :=
 (forL (F_34 fc0_ fc1_) s_ 0 ()).bind fun o => o.elim (fun x41 => some (-1)) (fun r42 => some r42)
@[irreducible] def mc_34 : MC :=
 (.seq (.reg [mo (.bin false .lss (.t 8) (.t 7)) 9])
 (.seq (.cond (.t 9)
 .skip
 (.exit 0))
 (.seq (.block 1
 (.seq (.reg [mo (.mv (.t 8)) 10,
 mo (.mv (.t 10)) 5])
 (.seq (.reg [mo (.mv (.t 1)) 11,
 mo (.mv (.t 0)) 12,
 mo (.mv (.t 5)) 13,
 mo (.iad 7 (.t 12) (.t 13)) 14,
 mo (.ld (some 7) (.t 14)) 15,
 mo (.call (.t 11) [(.t 15)] [1000,1001] []) 16])
 (.cond (.t 16)
 (.seq (.reg [mo (.mv (.t 5)) 17,
 mo (.mv (.t 17)) 4])
 .ret)
 .skip))))
 (.reg [mo (.bin true .add (.t 8) (.c (.int .i64 1))) 18,
 mo (.mv (.t 18)) 8]))))
def mc_26 : MC :=
 (.seq (.reg [mo (.mv (.c (.int .i64 0))) 4])
 (.seq (.seq (.reg [mo (.mv (.t 0)) 6,
 mo (.len false (.t 6)) 7,
 mo (.mv (.c (.int .i64 0))) 8])
 (.block 0
 (.loop mc_34)))
 (.seq (.reg [mo (.mv (.c (.int .i64 (-1)))) 4])
 .ret)))
theorem Wq_26 (s_ : List GAccess) (fc0_ : Int) (fc1_ : Int) {Q : Int → Prop} {Q' : V → Heap → Prop} (h : Ok (F_26 s_ fc0_ fc1_) Q) (hQ : ∀ z, Q z → Q' (.int .i64 z) [(1000, .cells [.int .i64 fc0_]), (1001, .cells [.int .i64 fc1_])]) : ACall Tryz.prog 92 [.sl (s_.map GAccess.v), .fn (.func 72) [.ptr 1000 0, .ptr 1001 0]] [(1000, .cells [.int .i64 fc0_]), (1001, .cells [.int .i64 fc1_])] Q' := by
 refine acallM mc_26 [] [1000,1001] [.t 4] Tryz.func92 fun M => ?_
 unfold F_26 at h
 unfold mc_26
 replace h := tY h
 refine tB ?_
 repeat' (first
 | (exact tZ)
 | ((first | refine oblg h ?_ | refine roomG h ?_ | refine fork h ?_ ?_ | refine forkS h ?_ ?_) <;> clear h <;> intro hc h)
 | (obtain ⟨y, hy, h⟩ := h; have hw := W_10 hy; replace hw := tY hw; (first | refine M.sC hw ?_ | refine M.sD hw ?_); clear hw hy; refine tB ?_)
 | (refine M.for1 (b := mc_34) 8 [0,1,7] [1001,1000] (fun x => []) (fun x => []) [] h ?_ ?_ ?_ <;> first
 | (clear h; intro k a x Qn K hK1 hkN1 ha1 h hf; have hl := fact_int (factsE_find (n := 7) hf.1 rfl); clear hf; have hkd := kD hkN1; have hkB1 := kB hkN1; have hkI1 := kI (k := k) (by omega); unfold F_34 at h; unfold mc_34; replace h := tY h; refine tK ha1 hkd hkN1 hkB1 hkI1 ?_)
  |(clear h; intro x K h; replace h := And.left (And.intro h trivial); unfold mc_34; replace h := tY h; refine tB ?_)
  |(clear h; (try refine tB ?_); exact tU0; done))
 | (simp only [ha1])
 | (refine hK1 _ ?_; (try refine tB ?_); refine ⟨_, h, ?_⟩; exact tU0; done)
 | (refine tE ?_; (first | rw [M.lok_compU] | rw [M.lokD_compU]); refine tB ?_)
 | (refine tA ?_))
def W_26 {s_ fc0_ fc1_ y} (hy : (F_26 s_ fc0_ fc1_) = some y) := acW (Wq_26 s_ fc0_ fc1_) hy
def F_1q (s_ : List GAccess) (fc0_ : Int) (fc1_ : Int) : Option Bool :=
 (F_26 s_ fc0_ fc1_).bind fun y2 => some (decide (0 ≤ y2))
def mc_1q : MC :=
 (.seq (.reg [mo (.mv (.c (.bool false))) 4])
 (.seq (.reg [mo (.mv (.t 0)) 5,
 mo (.mv (.t 1)) 6,
 mo (.call (.f 92) [(.t 5),(.t 6)] [1000,1001] []) 7,
 mo (.bin false .geq (.t 7) (.c (.int .i64 0))) 8,
 mo (.mv (.t 8)) 4])
 .ret))
theorem Wq_1q (s_ : List GAccess) (fc0_ : Int) (fc1_ : Int) {Q : Bool → Prop} {Q' : V → Heap → Prop} (h : Ok (F_1q s_ fc0_ fc1_) Q) (hQ : ∀ z, Q z → Q' (.bool z) [(1000, .cells [.int .i64 fc0_]), (1001, .cells [.int .i64 fc1_])]) : ACall Tryz.prog 73 [.sl (s_.map GAccess.v), .fn (.func 72) [.ptr 1000 0, .ptr 1001 0]] [(1000, .cells [.int .i64 fc0_]), (1001, .cells [.int .i64 fc1_])] Q' := by
 refine acallM mc_1q [] [1000,1001] [.t 4] Tryz.func73 fun M => ?_
 unfold F_1q at h
 unfold mc_1q
 replace h := tY h
 refine tB ?_
 repeat' (first
 | (exact tZ)
 | ((first | refine oblg h ?_ | refine roomG h ?_ | refine fork h ?_ ?_ | refine forkS h ?_ ?_) <;> clear h <;> intro hc h)
 | (obtain ⟨y, hy, h⟩ := h; have hw := W_26 hy; replace hw := tY hw; (first | refine M.sC hw ?_ | refine M.sD hw ?_); clear hw hy; refine tB ?_)
 | (refine tE ?_; (first | rw [M.lok_compU] | rw [M.lokD_compU]); refine tB ?_)
 | (refine tA ?_))
def W_1q {s_ fc0_ fc1_ y} (hy : (F_1q s_ fc0_ fc1_) = some y) := acW (Wq_1q s_ fc0_ fc1_) hy
def F_1r (a_ : GEstate) (place_ : Int) (t_ : Int) (link_ : Int) : Option Bool :=
 grp ((decide (link_ < 0) || decide ((a_.Events.length : Int) ≤ link_))) fun b4 => bif b4 then some false else chk (inb link_ a_.Events.length) (grp ((decide ((a_.Events.getD (link_).toNat default).Kind = 3) && decide ((a_.Events.getD (link_).toNat default).Place = place_))) fun b10 => grp ((b10 && decide ((a_.Events.getD (link_).toNat default).Time ≤ t_))) fun b11 => grp ((b11 && decide (t_ < (a_.Events.getD (link_).toNat default).Until))) fun b12 => jn (α := Bool) (bif b12 then chk (in64 (link_ + 1)) (chk (inc (link_ + 1) (a_.Events.length : Int) a_.Events.length) ((F_1q (a_.Events.drop (((link_ + 1)).toNat)) place_ t_).bind fun y14 => some (!y14))) else some false) fun j15 => some j15)
@[irreducible] def mg_10 : List MOp := [⟨.mv (.t 3), (some 14), (some (13, false))⟩,
 ⟨.fad 1 (.t 4), (some 15), (some (13, false))⟩,
 ⟨.ld none (.t 15), (some 16), (some (13, false))⟩,
 ⟨.len false (.t 16), (some 17), (some (13, false))⟩,
 ⟨.bin false .geq (.t 14) (.t 17), (some 18), (some (13, false))⟩,
 mo (.pick (.t 13) (.c (.bool true)) (.t 18)) 19]
@[irreducible] def mg_5u : List MOp := [⟨.fad 2 (.t 9), (some 30), (some (29, true))⟩,
 ⟨.ld none (.t 30), (some 31), (some (29, true))⟩,
 ⟨.ld none (.t 5), (some 32), (some (29, true))⟩,
 ⟨.bin false .eql (.t 31) (.t 32), (some 33), (some (29, true))⟩,
 mo (.pick (.t 29) (.t 33) (.c (.bool false))) 34]
@[irreducible] def mg_5v : List MOp := [⟨.fad 0 (.t 9), (some 36), (some (35, true))⟩,
 ⟨.ld none (.t 36), (some 37), (some (35, true))⟩,
 ⟨.ld none (.t 6), (some 38), (some (35, true))⟩,
 ⟨.bin false .leq (.t 37) (.t 38), (some 39), (some (35, true))⟩,
 mo (.pick (.t 35) (.t 39) (.c (.bool false))) 40]
@[irreducible] def mg_5w : List MOp := [⟨.fad 4 (.t 9), (some 42), (some (41, true))⟩,
 ⟨.ld none (.t 42), (some 43), (some (41, true))⟩,
 ⟨.ld none (.t 6), (some 44), (some (41, true))⟩,
 ⟨.bin false .gtr (.t 43) (.t 44), (some 45), (some (41, true))⟩,
 mo (.pick (.t 41) (.t 45) (.c (.bool false))) 46]
@[irreducible] def mg_5x : List MOp := [⟨.fad 1 (.t 4), (some 48), (some (47, true))⟩,
 ⟨.ld none (.t 48), (some 49), (some (47, true))⟩,
 ⟨.mv (.t 3), (some 50), (some (47, true))⟩,
 ⟨.bin true .add (.t 50) (.c (.int .i64 1)), (some 51), (some (47, true))⟩,
 ⟨.slc 7 (.t 49) (some (.t 51)) none, (some 52), (some (47, true))⟩,
 ⟨.mv (.t 10), (some 53), (some (47, true))⟩,
 ⟨.call (.f 73) [(.t 52),(.t 53)] [5,6] [], (some 54), (some (47, true))⟩,
 ⟨.not (.t 54), (some 55), (some (47, true))⟩,
 mo (.pick (.t 47) (.t 55) (.c (.bool false))) 56]
def mc_1r : MC :=
 (.seq (.reg [mo (.box (.t 0)) 4,
 mo (.box (.t 1)) 5,
 mo (.box (.t 2)) 6,
 mo (.mv (.c (.bool false))) 8])
 (.seq (.seq (.regI [.op (mo (.mv (.t 3)) 11),
 .op (mo (.bin false .lss (.t 11) (.c (.int .i64 0))) 12),
 .op (mo (.mv (.t 12)) 13),
 .grp mg_10])
 (.cond (.t 19)
 (.seq (.reg [mo (.mv (.c (.bool false))) 8])
 .ret)
 .skip))
 (.seq (.note (.gc [3,4,5,6,30,31,32,33,36,37,38,39,42,43,44,45,48,49,50,51,52,53,54,55]) (.reg [mo (.fad 1 (.t 4)) 20,
 mo (.ld none (.t 20)) 21,
 mo (.mv (.t 3)) 22,
 mo (.iad 7 (.t 21) (.t 22)) 23,
 mo (.ld (some 7) (.t 23)) 24,
 mo (.alloc [(.int .i64 0),(.int .i64 0),(.int .i64 0),(.int .i64 0),(.int .i64 0),(.int .i64 0),(.int .i64 0)]) 9,
 ⟨.st 7 (.t 9) (.t 24), none, none⟩]))
 (.seq (.reg [mo (.mkfn 72 [(.t 5),(.t 6)]) 25,
 mo (.mv (.t 25)) 10])
 (.seq (.regI [.op (mo (.fad 1 (.t 9)) 26),
 .op (mo (.ld none (.t 26)) 27),
 .op (mo (.bin false .eql (.t 27) (.c (.int .i64 3))) 28),
 .op (mo (.mv (.t 28)) 29),
 .grp mg_5u,
 .op (mo (.mv (.t 34)) 35),
 .grp mg_5v,
 .op (mo (.mv (.t 40)) 41),
 .grp mg_5w,
 .op (mo (.mv (.t 46)) 47),
 .grp mg_5x,
 .op (mo (.mv (.t 56)) 8)])
 .ret)))))
theorem Wq_1r (a_ : GEstate) (place_ : Int) (t_ : Int) (link_ : Int) {Q : Bool → Prop} {Q' : V → Heap → Prop} (h : Ok (F_1r a_ place_ t_ link_) Q) (hQ : ∀ z, Q z → Q' (.bool z) []) : ACall Tryz.prog 41 [GEstate.v a_, .int .i64 place_, .int .i64 t_, .int .i64 link_] [] Q' := by
 refine acallM mc_1r [] [] [.t 8] Tryz.func41 fun M => ?_
 unfold F_1r at h
 unfold mc_1r
 replace h := tY h
 refine tB ?_
 repeat' (first
 | (exact tZ)
 | ((first | refine oblg h ?_ | refine roomG h ?_ | refine fork h ?_ ?_ | refine forkS h ?_ ?_) <;> clear h <;> intro hc h)
 | (obtain ⟨y, hy, h⟩ := h; have hw := acall_swe 1001 6 (acall_swe 1000 5 (W_1q hy)); replace hw := tY hw; (first | refine M.sC hw ?_ | refine M.sD hw ?_); clear hw hy; refine tB ?_)
 | (refine M.gj1 (ms := mg_5x) [] [] (fun y => [(56, .bool y)]) (fun y => []) h ?_ ?_ <;> first
 | (clear h; intro Qn K hK1 h; unfold mg_5x; replace h := tY h; refine tB ?_)
  |(clear h; intro y h; replace h := tY h; refine tB ?_))
 | (refine M.gv1 (ms := mg_5w) 46 [42,43,44,45] h ?_ ?_ <;> first
 | (clear h; intro K hK2; unfold mg_5w; refine tB ?_)
 | (clear h; intro b h; replace h := tY h; refine tB ?_))
 | (refine M.gv1 (ms := mg_5v) 40 [36,37,38,39] h ?_ ?_ <;> first
 | (clear h; intro K hK3; unfold mg_5v; refine tB ?_)
 | (clear h; intro b h; replace h := tY h; refine tB ?_))
 | (refine M.gv1 (ms := mg_5u) 34 [30,31,32,33] h ?_ ?_ <;> first
 | (clear h; intro K hK4; unfold mg_5u; refine tB ?_)
 | (clear h; intro b h; replace h := tY h; refine tB ?_))
 | (refine M.gv1 (ms := mg_10) 19 [14,15,16,17,18] h ?_ ?_ <;> first
 | (clear h; intro K hK5; unfold mg_10; refine tB ?_)
 | (clear h; intro b h; replace h := tY h; refine tB ?_))
 | (refine hK1 _ ?_; (try refine tB ?_); refine ⟨_, h, ?_⟩; exact tU0; done)
 | ((first | refine hK2 _ ?_ | refine hK3 _ ?_ | refine hK4 _ ?_ | refine hK5 _ ?_); exact tU; done)
 | (refine bfork (fun hc => ?_) (fun hc => ?_))
 | (refine tE ?_; (first | rw [M.lok_compU] | rw [M.lokD_compU]); refine tB ?_)
 | (refine tA ?_))
def W_1r {a_ place_ t_ link_ y} (hy : (F_1r a_ place_ t_ link_) = some y) := acW (Wq_1r a_ place_ t_ link_) hy
def F_1s (a_ : GEstate) (place_ : Int) (t_ : Int) (number_ : Int) : Option (Int × Bool) :=
 grp ((decide (number_ < 0) || decide ((a_.Events.length : Int) ≤ number_))) fun b4 => bif b4 then some (0, false) else chk (inb number_ a_.Events.length) ((F_o a_ place_ ((a_.Events.getD (number_).toNat default).Principal) t_).bind fun y6 => bif y6.2 then bif decide ((a_.Events.getD (number_).toNat default).Kind = 1) then bif decide ((a_.Events.getD (number_).toNat default).Place = place_) then some ((a_.Events.getD (number_).toNat default).Principal, decide ((a_.Events.getD (number_).toNat default).Time ≤ t_)) else some ((a_.Events.getD (number_).toNat default).Principal, false) else some ((a_.Events.getD (number_).toNat default).Principal, false) else some ((a_.Events.getD (number_).toNat default).Principal, false))
@[irreducible] def mg_5y : List MOp := [⟨.mv (.t 3), (some 16), (some (15, false))⟩,
 ⟨.fad 1 (.t 4), (some 17), (some (15, false))⟩,
 ⟨.ld none (.t 17), (some 18), (some (15, false))⟩,
 ⟨.len false (.t 18), (some 19), (some (15, false))⟩,
 ⟨.bin false .geq (.t 16) (.t 19), (some 20), (some (15, false))⟩,
 mo (.pick (.t 15) (.c (.bool true)) (.t 20)) 21]
def mc_1s : MC :=
 (.seq (.reg [mo (.box (.t 0)) 4,
 mo (.mv (.c (.int .i64 0))) 8,
 mo (.mv (.c (.bool false))) 9])
 (.seq (.seq (.regI [.op (mo (.mv (.t 3)) 13),
 .op (mo (.bin false .lss (.t 13) (.c (.int .i64 0))) 14),
 .op (mo (.mv (.t 14)) 15),
 .grp mg_5y])
 (.cond (.t 21)
 (.seq (.reg [mo (.mv (.c (.int .i64 0))) 8,
 mo (.mv (.c (.bool false))) 9])
 .ret)
 .skip))
 (.seq (.reg [mo (.fad 1 (.t 4)) 22,
 mo (.ld none (.t 22)) 23,
 mo (.mv (.t 3)) 24,
 mo (.iad 7 (.t 23) (.t 24)) 25,
 mo (.ld (some 7) (.t 25)) 26,
 mo (.alloc [(.int .i64 0),(.int .i64 0),(.int .i64 0),(.int .i64 0),(.int .i64 0),(.int .i64 0),(.int .i64 0)]) 10,
 ⟨.st 7 (.t 10) (.t 26), none, none⟩])
 (.seq (.note (.gc [1,2,4,10,40,41,42,45,46,47,48,51,52,53,54]) (.reg [mo (.ld (some 2) (.t 4)) 28,
 mo (.mv (.t 1)) 29,
 mo (.fad 3 (.t 10)) 30,
 mo (.ld none (.t 30)) 31,
 mo (.mv (.t 2)) 32,
 mo (.call (.f 35) [(.t 28),(.t 29),(.t 31),(.t 32)] [] []) 33,
 mo (.mv (.t 33)) 27,
 mo (.ext 0 (.t 27)) 34,
 mo (.ext 1 (.t 27)) 35,
 mo (.mv (.t 34)) 11,
 mo (.mv (.t 35)) 12]))
 (.seq (.note (.gc [1,2,10,12,40,41,42,45,46,47,48,51,52,53,54]) (.regD [mo (.fad 3 (.t 10)) 36,
 mo (.ld none (.t 36)) 37,
 mo (.mv (.t 12)) 38,
 mo (.mv (.t 38)) 39,
 ⟨.fad 1 (.t 10), (some 40), (some (39, true))⟩,
 ⟨.ld none (.t 40), (some 41), (some (39, true))⟩,
 ⟨.bin false .eql (.t 41) (.c (.int .i64 1)), (some 42), (some (39, true))⟩,
 mo (.pick (.t 39) (.t 42) (.c (.bool false))) 43,
 mo (.mv (.t 43)) 44,
 ⟨.fad 2 (.t 10), (some 45), (some (44, true))⟩,
 ⟨.ld none (.t 45), (some 46), (some (44, true))⟩,
 ⟨.mv (.t 1), (some 47), (some (44, true))⟩,
 ⟨.bin false .eql (.t 46) (.t 47), (some 48), (some (44, true))⟩,
 mo (.pick (.t 44) (.t 48) (.c (.bool false))) 49,
 mo (.mv (.t 49)) 50,
 ⟨.fad 0 (.t 10), (some 51), (some (50, true))⟩,
 ⟨.ld none (.t 51), (some 52), (some (50, true))⟩,
 ⟨.mv (.t 2), (some 53), (some (50, true))⟩,
 ⟨.bin false .leq (.t 52) (.t 53), (some 54), (some (50, true))⟩,
 mo (.pick (.t 50) (.t 54) (.c (.bool false))) 55,
 mo (.mv (.t 37)) 8,
 mo (.mv (.t 55)) 9]
 [[],[0],[],[2],[3],[4,3],[5,3],[3,6],[7,3],[8],[9,8],[8],[10,11,8],[8,12],[13,8],[14],[15,14],[14],[16,17,14],[14,18],[1,14,0,1],[19,20,0,1,2,3,4,5,6,7,8,9,10,11,12,13,14,15,16,17,18,19,20]]
 [[],[0],[],[2],[2,3],[2,3,4],[2,3,4,5],[2,3,4,5,6],[2,3,4,5,6,7],[2,3,4,5,6,7,8],[2,3,4,5,6,7,8,9],[2,3,4,5,6,7,8],[2,3,4,5,6,7,8,9,10,11],[2,3,4,5,6,7,8,9,10,11,12],[2,3,4,5,6,7,8,9,10,11,12,13],[2,3,4,5,6,7,8,9,10,11,12,13,14],[2,3,4,5,6,7,8,9,10,11,12,13,14,15],[2,3,4,5,6,7,8,9,10,11,12,13,14],[2,3,4,5,6,7,8,9,10,11,12,13,14,15,16,17],[2,3,4,5,6,7,8,9,10,11,12,13,14,15,16,17,18],[0,1,2,3,4,5,6,7,8,9,10,11,12,13,14],[0,1,2,3,4,5,6,7,8,9,10,11,12,13,14,15,16,17,18,19,20]]))
 .ret)))))
theorem Wq_1s (a_ : GEstate) (place_ : Int) (t_ : Int) (number_ : Int) {Q : Int × Bool → Prop} {Q' : V → Heap → Prop} (h : Ok (F_1s a_ place_ t_ number_) Q) (hQ : ∀ z, Q z → Q' (.tup [.int .i64 z.1, .bool z.2]) []) : ACall Tryz.prog 42 [GEstate.v a_, .int .i64 place_, .int .i64 t_, .int .i64 number_] [] Q' := by
 refine acallM mc_1s [] [] [.t 8, .t 9] Tryz.func42 fun M => ?_
 unfold F_1s at h
 unfold mc_1s
 replace h := tY h
 refine tB ?_
 repeat' (first
 | (exact tZ)
 | ((first | refine oblg h ?_ | refine roomG h ?_ | refine fork h ?_ ?_ | refine forkS h ?_ ?_) <;> clear h <;> intro hc h)
 | (obtain ⟨y, hy, h⟩ := h; have hw := W_o hy; replace hw := tY hw; (first | refine M.sC hw ?_ | refine M.sD hw ?_); clear hw hy; refine tB ?_)
 | (refine M.gv1 (ms := mg_5y) 21 [16,17,18,19,20] h ?_ ?_ <;> first
 | (clear h; intro K hK1; unfold mg_5y; refine tB ?_)
 | (clear h; intro b h; replace h := tY h; refine tB ?_))
 | (refine hK1 _ ?_; exact tU; done)
 | (refine bfork (fun hc => ?_) (fun hc => ?_))
 | (refine tE ?_; (first | rw [M.lok_compU] | rw [M.lokD_compU]); refine tB ?_)
 | (refine tA ?_))
def W_1s {a_ place_ t_ number_ y} (hy : (F_1s a_ place_ t_ number_) = some y) := acW (Wq_1s a_ place_ t_ number_) hy
def F_35 (d_ : GDirectory) (chain_ : List Int) (y10 : List (List Bool)) (k61 : Int) (a62 : Int) (x60 : Unit) : Option (Fl Unit Bool) :=
 (F_a d_ a62).bind fun y77 => bif (!y77) then some (.ex false) else chk (inc 0 k61 chain_.length) ((F_8 (chain_.take ((k61).toNat)) a62).bind fun y78 => bif y78 then some (.ex false) else bif decide (0 < k61) then chk (in64 (k61 - 1)) (chk (inb (k61 - 1) chain_.length) (chk (inb (chain_.getD ((k61 - 1)).toNat default) y10.length) (chk (inb a62 (y10.getD ((chain_.getD ((k61 - 1)).toNat default)).toNat default).length) (bif (!((y10.getD ((chain_.getD ((k61 - 1)).toNat default)).toNat default).getD (a62).toNat default)) then some (.ex false) else some (.nx ()))))) else some (.nx ()))
def F_1t (d_ : GDirectory) (t_ : Int) (chain_ : List Int) : Option Bool :=
 (F_f d_).bind fun y7 => grp (((!decide (y7 = 0)) || decide ((chain_.length : Int) < 2))) fun b8 => bif b8 then some false else (atF d_.Kinds.length (d_.Events.map fun e => (e.Time, e.Kind, e.Principal, e.Group)) t_).bind fun y10 => (forL (F_35 d_ chain_ y10) chain_ 0 ()).bind fun o => o.elim (fun x79 => some true) (fun r80 => some r80)
@[irreducible] def mg_5z : List MOp := [⟨.mv (.t 2), (some 14), (some (13, false))⟩,
 ⟨.len false (.t 14), (some 15), (some (13, false))⟩,
 ⟨.bin false .lss (.t 15) (.c (.int .i64 2)), (some 16), (some (13, false))⟩,
 mo (.pick (.t 13) (.c (.bool true)) (.t 16)) 17]
@[irreducible] def mc_35 : MC :=
 (.seq (.reg [mo (.bin false .lss (.t 23) (.t 22)) 24])
 (.seq (.cond (.t 24)
 .skip
 (.exit 0))
 (.seq (.block 1
 (.seq (.reg [mo (.mv (.t 23)) 25,
 mo (.iad 1 (.t 21) (.t 23)) 26,
 mo (.ld none (.t 26)) 27,
 mo (.mv (.t 25)) 8,
 mo (.mv (.t 27)) 9])
 (.seq (.reg [mo (.ld (some 2) (.t 3)) 28,
 mo (.mv (.t 9)) 29,
 mo (.call (.f 74) [(.t 28),(.t 29)] [] []) 30,
 mo (.not (.t 30)) 31,
 mo (.mv (.t 31)) 32,
 ⟨.mv (.t 2), (some 33), (some (32, false))⟩,
 ⟨.mv (.t 8), (some 34), (some (32, false))⟩,
 ⟨.slc 1 (.t 33) none (some (.t 34)), (some 35), (some (32, false))⟩,
 ⟨.mv (.t 9), (some 36), (some (32, false))⟩,
 ⟨.call (.f 47) [(.t 35),(.t 36)] [] [], (some 37), (some (32, false))⟩,
 mo (.pick (.t 32) (.c (.bool true)) (.t 37)) 38,
 mo (.mv (.t 38)) 39,
 ⟨.mv (.t 8), (some 40), (some (39, false))⟩,
 ⟨.bin false .gtr (.t 40) (.c (.int .i64 0)), (some 41), (some (39, false))⟩,
 ⟨.mv (.t 41), (some 42), (some (39, false))⟩,
 ⟨.mv (.t 7), (some 43), (some (42, true))⟩,
 ⟨.mv (.t 2), (some 44), (some (42, true))⟩,
 ⟨.mv (.t 8), (some 45), (some (42, true))⟩,
 ⟨.bin true .sub (.t 45) (.c (.int .i64 1)), (some 46), (some (42, true))⟩,
 ⟨.iad 1 (.t 44) (.t 46), (some 47), (some (42, true))⟩,
 ⟨.ld none (.t 47), (some 48), (some (42, true))⟩,
 ⟨.iad 1 (.t 43) (.t 48), (some 49), (some (42, true))⟩,
 ⟨.ld none (.t 49), (some 50), (some (42, true))⟩,
 ⟨.mv (.t 9), (some 51), (some (42, true))⟩,
 ⟨.iad 1 (.t 50) (.t 51), (some 52), (some (42, true))⟩,
 ⟨.ld none (.t 52), (some 53), (some (42, true))⟩,
 ⟨.not (.t 53), (some 54), (some (42, true))⟩,
 ⟨.pick (.t 42) (.t 54) (.c (.bool false)), (some 55), (some (39, false))⟩,
 mo (.pick (.t 39) (.c (.bool true)) (.t 55)) 56])
 (.cond (.t 56)
 (.seq (.reg [mo (.mv (.c (.bool false))) 6])
 .ret)
 .skip))))
 (.reg [mo (.bin true .add (.t 23) (.c (.int .i64 1))) 57,
 mo (.mv (.t 57)) 23]))))
def mc_1t : MC :=
 (.seq (.reg [mo (.box (.t 0)) 3,
 mo (.mv (.c (.bool false))) 6])
 (.seq (.seq (.regI [.op (mo (.ld (some 2) (.t 3)) 10),
 .op (mo (.call (.f 57) [(.t 10)] [] []) 11),
 .op (mo (.bin false .neq (.t 11) (.c (.int .i64 0))) 12),
 .op (mo (.mv (.t 12)) 13),
 .grp mg_5z])
 (.cond (.t 17)
 (.seq (.reg [mo (.mv (.c (.bool false))) 6])
 .ret)
 .skip))
 (.seq (.reg [mo (.ld (some 2) (.t 3)) 18,
 mo (.mv (.t 1)) 19,
 mo (.call (.f 66) [(.t 18),(.t 19)] [] []) 20,
 mo (.mv (.t 20)) 7])
 (.seq (.seq (.note (.gc [2,3,7,33,34,35,36,37,40,41,42,43,44,45,46,47,48,49,50,51,52,53,54,55]) (.reg [mo (.mv (.t 2)) 21,
 mo (.len false (.t 21)) 22,
 mo (.mv (.c (.int .i64 0))) 23]))
 (.block 0
 (.loop mc_35)))
 (.seq (.reg [mo (.mv (.c (.bool true))) 6])
 .ret)))))
theorem Wq_1t (d_ : GDirectory) (t_ : Int) (chain_ : List Int) {Q : Bool → Prop} {Q' : V → Heap → Prop} (h : Ok (F_1t d_ t_ chain_) Q) (hQ : ∀ z, Q z → Q' (.bool z) []) : ACall Tryz.prog 43 [GDirectory.v d_, .int .i64 t_, .sl (chain_.map (V.int .i64))] [] Q' := by
 refine acallM mc_1t [] [] [.t 6] Tryz.func43 fun M => ?_
 unfold F_1t at h
 unfold mc_1t
 replace h := tY h
 refine tB ?_
 repeat' (first
 | (exact tZ)
 | ((first | refine oblg h ?_ | refine roomG h ?_ | refine fork h ?_ ?_ | refine forkS h ?_ ?_) <;> clear h <;> intro hc h)
 | (obtain ⟨y, hy, h⟩ := h; (first | (with_reducible first | have hw := W_f hy | have hw := W_a hy | have hw := W_8 hy) | have hw := W_at (f := GMember.v) (e4 := fun e => (e.Time, e.Kind, e.Principal, e.Group)) (fun _ => rfl) hy); replace hw := tY hw; (first | refine M.sC hw ?_ | refine M.sD hw ?_); clear hw hy; refine tB ?_)
 | (refine M.for1 (b := mc_35) 23 [2,3,7,21,22] [3] (fun x => []) (fun x => []) [] h ?_ ?_ ?_ <;> first
 | (clear h; intro k a x Qn K hK1 hkN1 ha1 h hf; have hl := fact_int (factsE_find (n := 22) hf.1 rfl); clear hf; have hkd := kD hkN1; have hkB1 := kB hkN1; have hkI1 := kI (k := k) (by omega); unfold F_35 at h; unfold mc_35; replace h := tY h; refine tK ha1 hkd hkN1 hkB1 hkI1 ?_)
  |(clear h; intro x K h; replace h := And.left (And.intro h trivial); unfold mc_35; replace h := tY h; refine tB ?_)
  |(clear h; (try refine tB ?_); exact tU0; done))
 | (refine M.gv1 (ms := mg_5z) 17 [14,15,16] h ?_ ?_ <;> first
 | (clear h; intro K hK2; unfold mg_5z; refine tB ?_)
 | (clear h; intro b h; replace h := tY h; refine tB ?_))
 | (simp only [ha1])
 | (refine hK1 _ ?_; (try refine tB ?_); refine ⟨_, h, ?_⟩; exact tU0; done)
 | (refine hK2 _ ?_; exact tU; done)
 | (refine bfork (fun hc => ?_) (fun hc => ?_))
 | (refine tE ?_; (first | rw [M.lok_compU] | rw [M.lokD_compU]); refine tB ?_)
 | (refine tA ?_))
def W_1t {d_ t_ chain_ y} (hy : (F_1t d_ t_ chain_) = some y) := acW (Wq_1t d_ t_ chain_) hy
def F_1d (d_ : GDirectory) (a_ : GEstate) (p_ : Int) (r_ : GReading) : Option Bool :=
 (F_h d_ a_ p_ r_.Place).bind fun y4 => bif (!y4) then some false else bif (!decide (r_.Link = (-1))) then grp ((decide (r_.Grant = (-1)) && decide ((r_.Chain.length : Int) = 0))) fun b14 => jn (α := Bool) (bif b14 then (F_1r a_ r_.Place r_.Time r_.Link).bind fun y16 => some y16 else some false) fun j17 => some j17 else (F_1s a_ r_.Place r_.Time r_.Grant).bind fun y19 => grp (((!y19.2) || decide ((r_.Chain.length : Int) = 0))) fun b23 => bif b23 then some false else chk (inb 0 r_.Chain.length) (bif (!decide ((r_.Chain.getD 0 default) = p_)) then some false else chk (in64 ((r_.Chain.length : Int) - 1)) (chk (inb ((r_.Chain.length : Int) - 1) r_.Chain.length) (bif (!decide ((r_.Chain.getD (((r_.Chain.length : Int) - 1)).toNat default) = y19.1)) then some false else jn (α := Bool) (bif decide ((r_.Chain.length : Int) = 1) then some true else (F_1t d_ r_.Time r_.Chain).bind fun y27 => some y27) fun j28 => some j28)))
@[irreducible] def mg_60 : List MOp := [⟨.fad 4 (.t 7), (some 25), (some (24, true))⟩,
 ⟨.ld none (.t 25), (some 26), (some (24, true))⟩,
 ⟨.len false (.t 26), (some 27), (some (24, true))⟩,
 ⟨.bin false .eql (.t 27) (.c (.int .i64 0)), (some 28), (some (24, true))⟩,
 mo (.pick (.t 24) (.t 28) (.c (.bool false))) 29]
@[irreducible] def mg_61 : List MOp := [⟨.ld (some 2) (.t 5), (some 31), (some (30, true))⟩,
 ⟨.fad 0 (.t 7), (some 32), (some (30, true))⟩,
 ⟨.ld none (.t 32), (some 33), (some (30, true))⟩,
 ⟨.fad 1 (.t 7), (some 34), (some (30, true))⟩,
 ⟨.ld none (.t 34), (some 35), (some (30, true))⟩,
 ⟨.fad 2 (.t 7), (some 36), (some (30, true))⟩,
 ⟨.ld none (.t 36), (some 37), (some (30, true))⟩,
 ⟨.call (.f 41) [(.t 31),(.t 33),(.t 35),(.t 37)] [] [], (some 38), (some (30, true))⟩,
 mo (.pick (.t 30) (.t 38) (.c (.bool false))) 39]
@[irreducible] def mg_62 : List MOp := [⟨.fad 4 (.t 7), (some 54), (some (53, false))⟩,
 ⟨.ld none (.t 54), (some 55), (some (53, false))⟩,
 ⟨.len false (.t 55), (some 56), (some (53, false))⟩,
 ⟨.bin false .eql (.t 56) (.c (.int .i64 0)), (some 57), (some (53, false))⟩,
 mo (.pick (.t 53) (.c (.bool true)) (.t 57)) 58]
@[irreducible] def mg_63 : List MOp := [⟨.ld (some 2) (.t 4), (some 84), (some (83, false))⟩,
 ⟨.fad 1 (.t 7), (some 85), (some (83, false))⟩,
 ⟨.ld none (.t 85), (some 86), (some (83, false))⟩,
 ⟨.fad 4 (.t 7), (some 87), (some (83, false))⟩,
 ⟨.ld none (.t 87), (some 88), (some (83, false))⟩,
 ⟨.call (.f 43) [(.t 84),(.t 86),(.t 88)] [] [], (some 89), (some (83, false))⟩,
 mo (.pick (.t 83) (.c (.bool true)) (.t 89)) 90]
def mc_1d : MC :=
 (.seq (.reg [mo (.box (.t 0)) 4,
 mo (.box (.t 1)) 5,
 mo (.box (.t 3)) 7,
 mo (.mv (.c (.bool false))) 8])
 (.seq (.seq (.reg [mo (.ld (some 2) (.t 4)) 11,
 mo (.ld (some 2) (.t 5)) 12,
 mo (.mv (.t 2)) 13,
 mo (.fad 0 (.t 7)) 14,
 mo (.ld none (.t 14)) 15,
 mo (.call (.f 37) [(.t 11),(.t 12),(.t 13),(.t 15)] [] []) 16,
 mo (.not (.t 16)) 17])
 (.cond (.t 17)
 (.seq (.reg [mo (.mv (.c (.bool false))) 8])
 .ret)
 .skip))
 (.seq (.seq (.note (.gc [2,4,5,7,25,26,27,28,31,32,33,34,35,36,37,38,54,55,56,57,60,61,62,63,64,65,68,69,70,71,72,73,74,75,76,77,84,85,86,87,88,89]) (.reg [mo (.fad 2 (.t 7)) 18,
 mo (.ld none (.t 18)) 19,
 mo (.bin false .neq (.t 19) (.c (.int .i64 (-1)))) 20]))
 (.cond (.t 20)
 (.seq (.regI [.op (mo (.fad 3 (.t 7)) 21),
 .op (mo (.ld none (.t 21)) 22),
 .op (mo (.bin false .eql (.t 22) (.c (.int .i64 (-1)))) 23),
 .op (mo (.mv (.t 23)) 24),
 .grp mg_60,
 .op (mo (.mv (.t 29)) 30),
 .grp mg_61,
 .op (mo (.mv (.t 39)) 8)])
 .ret)
 .skip))
 (.seq (.reg [mo (.ld (some 2) (.t 5)) 41,
 mo (.fad 0 (.t 7)) 42,
 mo (.ld none (.t 42)) 43,
 mo (.fad 1 (.t 7)) 44,
 mo (.ld none (.t 44)) 45,
 mo (.fad 3 (.t 7)) 46,
 mo (.ld none (.t 46)) 47,
 mo (.call (.f 42) [(.t 41),(.t 43),(.t 45),(.t 47)] [] []) 48,
 mo (.mv (.t 48)) 40,
 mo (.ext 0 (.t 40)) 49,
 mo (.ext 1 (.t 40)) 50,
 mo (.mv (.t 49)) 9,
 mo (.mv (.t 50)) 10])
 (.seq (.seq (.note (.gc [2,4,7,9,10,54,55,56,57,60,61,62,63,64,65,68,69,70,71,72,73,74,75,76,77,84,85,86,87,88,89]) (.regI [.op (mo (.mv (.t 10)) 51),
 .op (mo (.not (.t 51)) 52),
 .op (mo (.mv (.t 52)) 53),
 .grp mg_62,
 .op (mo (.mv (.t 58)) 59),
 .op ⟨.fad 4 (.t 7), (some 60), (some (59, false))⟩,
 .op ⟨.ld none (.t 60), (some 61), (some (59, false))⟩,
 .op ⟨.iad 1 (.t 61) (.c (.int .i64 0)), (some 62), (some (59, false))⟩,
 .op ⟨.ld none (.t 62), (some 63), (some (59, false))⟩,
 .op ⟨.mv (.t 2), (some 64), (some (59, false))⟩,
 .op ⟨.bin false .neq (.t 63) (.t 64), (some 65), (some (59, false))⟩,
 .op (mo (.pick (.t 59) (.c (.bool true)) (.t 65)) 66),
 .op (mo (.mv (.t 66)) 67),
 .op ⟨.fad 4 (.t 7), (some 68), (some (67, false))⟩,
 .op ⟨.ld none (.t 68), (some 69), (some (67, false))⟩,
 .op ⟨.fad 4 (.t 7), (some 70), (some (67, false))⟩,
 .op ⟨.ld none (.t 70), (some 71), (some (67, false))⟩,
 .op ⟨.len false (.t 71), (some 72), (some (67, false))⟩,
 .op ⟨.bin true .sub (.t 72) (.c (.int .i64 1)), (some 73), (some (67, false))⟩,
 .op ⟨.iad 1 (.t 69) (.t 73), (some 74), (some (67, false))⟩,
 .op ⟨.ld none (.t 74), (some 75), (some (67, false))⟩,
 .op ⟨.mv (.t 9), (some 76), (some (67, false))⟩,
 .op ⟨.bin false .neq (.t 75) (.t 76), (some 77), (some (67, false))⟩,
 .op (mo (.pick (.t 67) (.c (.bool true)) (.t 77)) 78)]))
 (.cond (.t 78)
 (.seq (.reg [mo (.mv (.c (.bool false))) 8])
 .ret)
 .skip))
 (.seq (.note (.gc [4,7,84,85,86,87,88,89]) (.regI [.op (mo (.fad 4 (.t 7)) 79),
 .op (mo (.ld none (.t 79)) 80),
 .op (mo (.len false (.t 80)) 81),
 .op (mo (.bin false .eql (.t 81) (.c (.int .i64 1))) 82),
 .op (mo (.mv (.t 82)) 83),
 .grp mg_63,
 .op (mo (.mv (.t 90)) 8)]))
 .ret))))))
theorem Wq_1d (d_ : GDirectory) (a_ : GEstate) (p_ : Int) (r_ : GReading) {Q : Bool → Prop} {Q' : V → Heap → Prop} (h : Ok (F_1d d_ a_ p_ r_) Q) (hQ : ∀ z, Q z → Q' (.bool z) []) : ACall Tryz.prog 17 [GDirectory.v d_, GEstate.v a_, .int .i64 p_, GReading.v r_] [] Q' := by
 refine acallM mc_1d [] [] [.t 8] Tryz.func17 fun M => ?_
 unfold F_1d at h
 unfold mc_1d
 replace h := tY h
 refine tB ?_
 repeat' (first
 | (exact tZ)
 | ((first | refine oblg h ?_ | refine roomG h ?_ | refine fork h ?_ ?_ | refine forkS h ?_ ?_) <;> clear h <;> intro hc h)
 | (obtain ⟨y, hy, h⟩ := h; (first | with_reducible first | have hw := W_h hy | have hw := W_1r hy | have hw := W_1s hy | have hw := W_1t hy); replace hw := tY hw; (first | refine M.sC hw ?_ | refine M.sD hw ?_); clear hw hy; refine tB ?_)
 | (refine M.gj1 (ms := mg_61) [] [] (fun y => [(39, .bool y)]) (fun y => []) h ?_ ?_ <;> first
 | (clear h; intro Qn K hK1 h; unfold mg_61; replace h := tY h; refine tB ?_)
  |(clear h; intro y h; replace h := tY h; refine tB ?_))
 | (refine M.gv1 (ms := mg_60) 29 [25,26,27,28] h ?_ ?_ <;> first
 | (clear h; intro K hK2; unfold mg_60; refine tB ?_)
 | (clear h; intro b h; replace h := tY h; refine tB ?_))
 | (refine M.gj1 (ms := mg_63) [] [] (fun y => [(90, .bool y)]) (fun y => []) h ?_ ?_ <;> first
 | (clear h; intro Qn K hK3 h; unfold mg_63; replace h := tY h; refine tB ?_)
  |(clear h; intro y h; replace h := tY h; refine tB ?_))
 | (refine M.gv1 (ms := mg_62) 58 [54,55,56,57] h ?_ ?_ <;> first
 | (clear h; intro K hK4; unfold mg_62; refine tB ?_)
 | (clear h; intro b h; replace h := tY h; refine tB ?_))
 | ((first | refine hK1 _ ?_ | refine hK3 _ ?_); (try refine tB ?_); refine ⟨_, h, ?_⟩; exact tU0; done)
 | ((first | refine hK2 _ ?_ | refine hK4 _ ?_); exact tU; done)
 | (refine bfork (fun hc => ?_) (fun hc => ?_))
 | (refine tE ?_; (first | rw [M.lok_compU] | rw [M.lokD_compU]); refine tB ?_)
 | (refine tA ?_))
def W_1d {d_ a_ p_ r_ y} (hy : (F_1d d_ a_ p_ r_) = some y) := acW (Wq_1d d_ a_ p_ r_) hy
noncomputable def F_3p (l_ : List Int) (x9 : Int) : Option (Fl Int (Sum Unit Bool)) :=
 bif decide (x9 < (l_.length : Int)) then chk (in64 (x9 - 1)) (chk (inb (x9 - 1) l_.length) (chk (inb x9 l_.length) (bif decide ((l_.getD (x9).toNat default) ≤ (l_.getD ((x9 - 1)).toNat default)) then some (.ex (.inr false)) else chk (in64 (x9 + 1)) (some (.nx (x9 + 1)))))) else some (.ex (.inl ()))
noncomputable def F_1u (l_ : List Int) : Option Bool :=
 (loop (F_3p l_) 1).bind fun r10 => Sum.elim (fun u11 => some true) (fun u12 => some u12) r10
@[irreducible] def mc_3p : MC :=
 (.seq (.seq (.reg [mo (.mv (.t 3)) 4,
 mo (.mv (.t 0)) 5,
 mo (.len false (.t 5)) 6,
 mo (.bin false .lss (.t 4) (.t 6)) 7])
 (.cond (.t 7)
 .skip
 (.exit 0)))
 (.seq (.block 1
 (.seq (.regD [mo (.mv (.t 0)) 10,
 mo (.mv (.t 3)) 11,
 mo (.bin true .sub (.t 11) (.c (.int .i64 1))) 12,
 mo (.iad 1 (.t 10) (.t 12)) 13,
 mo (.ld none (.t 13)) 14,
 mo (.mv (.t 0)) 15,
 mo (.mv (.t 3)) 16,
 mo (.iad 1 (.t 15) (.t 16)) 17,
 mo (.ld none (.t 17)) 18,
 mo (.bin false .geq (.t 14) (.t 18)) 19]
 [[],[],[1],[0,2],[3],[],[],[5,6],[7],[4,8]]
 [[],[],[1],[0,1,2],[0,1,2,3],[],[],[5,6],[5,6,7],[0,1,2,3,4,5,6,7,8]])
 (.cond (.t 19)
 (.seq (.reg [mo (.mv (.c (.bool false))) 2])
 .ret)
 .skip)))
 (.note (.gc [0,3]) (.reg [mo (.mv (.t 3)) 8,
 mo (.bin true .add (.t 8) (.c (.int .i64 1))) 9,
 mo (.mv (.t 9)) 3]))))
def mc_1u : MC :=
 (.seq (.reg [mo (.mv (.c (.bool false))) 2])
 (.seq (.seq (.reg [mo (.mv (.c (.int .i64 1))) 3])
 (.block 0
 (.loop mc_3p)))
 (.seq (.reg [mo (.mv (.c (.bool true))) 2])
 .ret)))
theorem Wq_1u (l_ : List Int) {Q : Bool → Prop} {Q' : V → Heap → Prop} (h : Ok (F_1u l_) Q) (hQ : ∀ z, Q z → Q' (.bool z) []) : ACall Tryz.prog 75 [.sl (l_.map (V.int .i64))] [] Q' := by
 refine acallM mc_1u [] [] [.t 2] Tryz.func75 fun M => ?_
 unfold F_1u at h
 unfold mc_1u
 replace h := tY h
 refine tB ?_
 repeat' (first
 | (exact tZ)
 | ((first | refine oblg h ?_ | refine roomG h ?_ | refine fork h ?_ ?_ | refine forkS h ?_ ?_) <;> clear h <;> intro hc h)
 | (refine M.wh1 (b := mc_3p) [0] [] (fun x => [(3, .int .i64 x)]) (fun x => []) [] h ?_ ?_ <;> first
 | (clear h; intro x Qn K hK1 h; unfold F_3p at h; unfold mc_3p; replace h := tY h; refine tB ?_)
  |(clear h; (try refine tB ?_); exact tU0; done))
 | (refine hK1 _ ?_; (try refine tB ?_); refine ⟨_, h, ?_⟩; exact tU0; done)
 | (refine tE ?_; (first | rw [M.lok_compU] | rw [M.lokD_compU]); refine tB ?_)
 | (refine tA ?_))
def W_1u {l_ y} (hy : (F_1u l_) = some y) := acW (Wq_1u l_) hy
def F_27 (p_ : Int) (p__ : GDirectory) : Option Bool :=
 (F_a p__ p_).bind fun y2 => some (!y2)
def mc_27 : MC :=
 (.seq (.reg [mo (.mv (.c (.bool false))) 3])
 (.seq (.reg [mo (.ld (some 2) (.t 1)) 4,
 mo (.mv (.t 0)) 5,
 mo (.call (.f 74) [(.t 4),(.t 5)] [] []) 6,
 mo (.not (.t 6)) 7,
 mo (.mv (.t 7)) 3])
 .ret))
theorem Wq_27 (p_ : Int) (p__ : GDirectory) {Q : Bool → Prop} {Q' : V → Heap → Prop} (h : Ok (F_27 p_ p__) Q) (hQ : ∀ z, Q z → Q' (.bool z) [(1000, .cells [.sl (p__.Kinds.map (V.int .i64)), .sl (p__.Events.map GMember.v)])]) : ACall Tryz.prog 76 [.int .i64 p_, .ptr 1000 0] [(1000, .cells [.sl (p__.Kinds.map (V.int .i64)), .sl (p__.Events.map GMember.v)])] Q' := by
 refine acallM mc_27 [] [1000] [.t 3] Tryz.func76 fun M => ?_
 unfold F_27 at h
 unfold mc_27
 replace h := tY h
 refine tB ?_
 repeat' (first
 | (exact tZ)
 | ((first | refine oblg h ?_ | refine roomG h ?_ | refine fork h ?_ ?_ | refine forkS h ?_ ?_) <;> clear h <;> intro hc h)
 | (obtain ⟨y, hy, h⟩ := h; have hw := W_a hy; replace hw := tY hw; (first | refine M.sC hw ?_ | refine M.sD hw ?_); clear hw hy; refine tB ?_)
 | (refine tE ?_; (first | rw [M.lok_compU] | rw [M.lokD_compU]); refine tB ?_)
 | (refine tA ?_))
def W_27 {p_ p__ y} (hy : (F_27 p_ p__) = some y) := acW (Wq_27 p_ p__) hy
def F_36 (fc0_ : GDirectory) (k31 : Int) (a32 : Int) (x30 : Unit) : Option (Fl Unit Int) :=
 (F_27 a32 fc0_).bind fun y40 => bif y40 then some (.ex k31) else some (.nx ())
def F_28 (s_ : List Int) (fc0_ : GDirectory) : Option Int :=
 (forL (F_36 fc0_) s_ 0 ()).bind fun o => o.elim (fun x41 => some (-1)) (fun r42 => some r42)
@[irreducible] def mc_36 : MC :=
 (.seq (.reg [mo (.bin false .lss (.t 8) (.t 7)) 9])
 (.seq (.cond (.t 9)
 .skip
 (.exit 0))
 (.seq (.block 1
 (.seq (.reg [mo (.mv (.t 8)) 10,
 mo (.mv (.t 10)) 5])
 (.seq (.reg [mo (.mv (.t 1)) 11,
 mo (.mv (.t 0)) 12,
 mo (.mv (.t 5)) 13,
 mo (.iad 1 (.t 12) (.t 13)) 14,
 mo (.ld none (.t 14)) 15,
 mo (.call (.t 11) [(.t 15)] [1000] []) 16])
 (.cond (.t 16)
 (.seq (.reg [mo (.mv (.t 5)) 17,
 mo (.mv (.t 17)) 4])
 .ret)
 .skip))))
 (.reg [mo (.bin true .add (.t 8) (.c (.int .i64 1))) 18,
 mo (.mv (.t 18)) 8]))))
def mc_28 : MC :=
 (.seq (.reg [mo (.mv (.c (.int .i64 0))) 4])
 (.seq (.seq (.reg [mo (.mv (.t 0)) 6,
 mo (.len false (.t 6)) 7,
 mo (.mv (.c (.int .i64 0))) 8])
 (.block 0
 (.loop mc_36)))
 (.seq (.reg [mo (.mv (.c (.int .i64 (-1)))) 4])
 .ret)))
theorem Wq_28 (s_ : List Int) (fc0_ : GDirectory) {Q : Int → Prop} {Q' : V → Heap → Prop} (h : Ok (F_28 s_ fc0_) Q) (hQ : ∀ z, Q z → Q' (.int .i64 z) [(1000, .cells [.sl (fc0_.Kinds.map (V.int .i64)), .sl (fc0_.Events.map GMember.v)])]) : ACall Tryz.prog 79 [.sl (s_.map (V.int .i64)), .fn (.func 76) [.ptr 1000 0]] [(1000, .cells [.sl (fc0_.Kinds.map (V.int .i64)), .sl (fc0_.Events.map GMember.v)])] Q' := by
 refine acallM mc_28 [] [1000] [.t 4] Tryz.func79 fun M => ?_
 unfold F_28 at h
 unfold mc_28
 replace h := tY h
 refine tB ?_
 repeat' (first
 | (exact tZ)
 | ((first | refine oblg h ?_ | refine roomG h ?_ | refine fork h ?_ ?_ | refine forkS h ?_ ?_) <;> clear h <;> intro hc h)
 | (obtain ⟨y, hy, h⟩ := h; have hw := W_27 hy; replace hw := tY hw; (first | refine M.sC hw ?_ | refine M.sD hw ?_); clear hw hy; refine tB ?_)
 | (refine M.for1 (b := mc_36) 8 [0,1,7] [1000] (fun x => []) (fun x => []) [] h ?_ ?_ ?_ <;> first
 | (clear h; intro k a x Qn K hK1 hkN1 ha1 h hf; have hl := fact_int (factsE_find (n := 7) hf.1 rfl); clear hf; have hkd := kD hkN1; have hkB1 := kB hkN1; have hkI1 := kI (k := k) (by omega); unfold F_36 at h; unfold mc_36; replace h := tY h; refine tK ha1 hkd hkN1 hkB1 hkI1 ?_)
  |(clear h; intro x K h; replace h := And.left (And.intro h trivial); unfold mc_36; replace h := tY h; refine tB ?_)
  |(clear h; (try refine tB ?_); exact tU0; done))
 | (simp only [ha1])
 | (refine hK1 _ ?_; (try refine tB ?_); refine ⟨_, h, ?_⟩; exact tU0; done)
 | (refine tE ?_; (first | rw [M.lok_compU] | rw [M.lokD_compU]); refine tB ?_)
 | (refine tA ?_))
def W_28 {s_ fc0_ y} (hy : (F_28 s_ fc0_) = some y) := acW (Wq_28 s_ fc0_) hy
def F_1v (s_ : List Int) (fc0_ : GDirectory) : Option Bool :=
 (F_28 s_ fc0_).bind fun y2 => some (decide (0 ≤ y2))
def mc_1v : MC :=
 (.seq (.reg [mo (.mv (.c (.bool false))) 4])
 (.seq (.reg [mo (.mv (.t 0)) 5,
 mo (.mv (.t 1)) 6,
 mo (.call (.f 79) [(.t 5),(.t 6)] [1000] []) 7,
 mo (.bin false .geq (.t 7) (.c (.int .i64 0))) 8,
 mo (.mv (.t 8)) 4])
 .ret))
theorem Wq_1v (s_ : List Int) (fc0_ : GDirectory) {Q : Bool → Prop} {Q' : V → Heap → Prop} (h : Ok (F_1v s_ fc0_) Q) (hQ : ∀ z, Q z → Q' (.bool z) [(1000, .cells [.sl (fc0_.Kinds.map (V.int .i64)), .sl (fc0_.Events.map GMember.v)])]) : ACall Tryz.prog 48 [.sl (s_.map (V.int .i64)), .fn (.func 76) [.ptr 1000 0]] [(1000, .cells [.sl (fc0_.Kinds.map (V.int .i64)), .sl (fc0_.Events.map GMember.v)])] Q' := by
 refine acallM mc_1v [] [1000] [.t 4] Tryz.func48 fun M => ?_
 unfold F_1v at h
 unfold mc_1v
 replace h := tY h
 refine tB ?_
 repeat' (first
 | (exact tZ)
 | ((first | refine oblg h ?_ | refine roomG h ?_ | refine fork h ?_ ?_ | refine forkS h ?_ ?_) <;> clear h <;> intro hc h)
 | (obtain ⟨y, hy, h⟩ := h; have hw := W_28 hy; replace hw := tY hw; (first | refine M.sC hw ?_ | refine M.sD hw ?_); clear hw hy; refine tB ?_)
 | (refine tE ?_; (first | rw [M.lok_compU] | rw [M.lokD_compU]); refine tB ?_)
 | (refine tA ?_))
def W_1v {s_ fc0_ y} (hy : (F_1v s_ fc0_) = some y) := acW (Wq_1v s_ fc0_) hy
noncomputable def F_37 (set_ : List Int) (k313 : Int) (a314 : Int) (x312 : Unit) : Option (Fl Unit Bool) :=
 (F_8 set_ a314).bind fun y322 => bif (!y322) then some (.ex false) else some (.nx ())
noncomputable def F_38 (set_ : List Int) (y14 : List (List Bool)) (k235 : Int) (a236 : Int) (x234 : Unit) : Option (Fl Unit Bool) :=
 chk (inb a236 y14.length) ((F_w (y14.getD (a236).toNat default)).bind fun y301 => (forL (F_37 set_) y301 0 ()).bind fun o => o.elim (fun x323 => some (.nx ())) (fun r324 => some (.ex r324)))
noncomputable def F_1w (d_ : GDirectory) (t_ : Int) (set_ : List Int) : Option Bool :=
 (F_f d_).bind fun y10 => bif (!decide (y10 = 0)) then some false else (F_1u set_).bind fun y11 => bif (!y11) then some false else (F_1v set_ d_).bind fun y12 => bif y12 then some false else (atF d_.Kinds.length (d_.Events.map fun e => (e.Time, e.Kind, e.Principal, e.Group)) t_).bind fun y14 => (forL (F_38 set_ y14) set_ 0 ()).bind fun o => o.elim (fun x325 => some true) (fun r326 => some r326)
@[irreducible] def mc_37 : MC :=
 (.seq (.reg [mo (.bin false .lss (.t 40) (.t 39)) 41])
 (.seq (.cond (.t 41)
 .skip
 (.exit 2))
 (.seq (.block 3
 (.seq (.reg [mo (.iad 1 (.t 38) (.t 40)) 42,
 mo (.ld none (.t 42)) 43,
 mo (.mv (.t 43)) 11])
 (.seq (.reg [mo (.mv (.t 2)) 44,
 mo (.mv (.t 11)) 45,
 mo (.call (.f 47) [(.t 44),(.t 45)] [] []) 46,
 mo (.not (.t 46)) 47])
 (.cond (.t 47)
 (.seq (.reg [mo (.mv (.c (.bool false))) 6])
 .ret)
 .skip))))
 (.reg [mo (.bin true .add (.t 40) (.c (.int .i64 1))) 48,
 mo (.mv (.t 48)) 40]))))
@[irreducible] def mc_38 : MC :=
 (.seq (.reg [mo (.bin false .lss (.t 30) (.t 29)) 31])
 (.seq (.cond (.t 31)
 .skip
 (.exit 0))
 (.seq (.block 1
 (.seq (.reg [mo (.iad 1 (.t 28) (.t 30)) 32,
 mo (.ld none (.t 32)) 33,
 mo (.mv (.t 33)) 9])
 (.seq (.reg [mo (.mv (.t 7)) 34,
 mo (.mv (.t 9)) 35,
 mo (.iad 1 (.t 34) (.t 35)) 36,
 mo (.ld none (.t 36)) 37,
 mo (.call (.f 77) [(.t 37)] [] [38]) 38,
 mo (.len false (.t 38)) 39,
 mo (.mv (.c (.int .i64 0))) 40])
 (.block 2
 (.loop mc_37)))))
 (.reg [mo (.bin true .add (.t 30) (.c (.int .i64 1))) 49,
 mo (.mv (.t 49)) 30]))))
def mc_1w : MC :=
 (.seq (.reg [mo (.box (.t 0)) 3,
 mo (.mv (.c (.bool false))) 6])
 (.seq (.seq (.reg [mo (.ld (some 2) (.t 3)) 12,
 mo (.call (.f 57) [(.t 12)] [] []) 13,
 mo (.bin false .neq (.t 13) (.c (.int .i64 0))) 14,
 mo (.mv (.t 14)) 15,
 ⟨.mv (.t 2), (some 16), (some (15, false))⟩,
 ⟨.call (.f 75) [(.t 16)] [] [], (some 17), (some (15, false))⟩,
 ⟨.not (.t 17), (some 18), (some (15, false))⟩,
 mo (.pick (.t 15) (.c (.bool true)) (.t 18)) 19,
 mo (.mv (.t 19)) 20,
 ⟨.mv (.t 2), (some 21), (some (20, false))⟩,
 ⟨.mkfn 76 [(.t 3)], (some 22), (some (20, false))⟩,
 ⟨.call (.f 48) [(.t 21),(.t 22)] [3] [], (some 23), (some (20, false))⟩,
 mo (.pick (.t 20) (.c (.bool true)) (.t 23)) 24])
 (.cond (.t 24)
 (.seq (.reg [mo (.mv (.c (.bool false))) 6])
 .ret)
 .skip))
 (.seq (.note (.gc [1,2,3]) (.reg [mo (.ld (some 2) (.t 3)) 25,
 mo (.mv (.t 1)) 26,
 mo (.call (.f 66) [(.t 25),(.t 26)] [] []) 27,
 mo (.mv (.t 27)) 7]))
 (.seq (.seq (.reg [mo (.mv (.t 2)) 28,
 mo (.len false (.t 28)) 29,
 mo (.mv (.c (.int .i64 0))) 30])
 (.block 0
 (.loop mc_38)))
 (.seq (.reg [mo (.mv (.c (.bool true))) 6])
 .ret)))))
theorem Wq_1w (d_ : GDirectory) (t_ : Int) (set_ : List Int) {Q : Bool → Prop} {Q' : V → Heap → Prop} (h : Ok (F_1w d_ t_ set_) Q) (hQ : ∀ z, Q z → Q' (.bool z) []) : ACall Tryz.prog 46 [GDirectory.v d_, .int .i64 t_, .sl (set_.map (V.int .i64))] [] Q' := by
 refine acallM mc_1w [] [] [.t 6] Tryz.func46 fun M => ?_
 unfold F_1w at h
 unfold mc_1w
 replace h := tY h
 refine tB ?_
 repeat' (first
 | (exact tZ)
 | ((first | refine oblg h ?_ | refine roomG h ?_ | refine fork h ?_ ?_ | refine forkS h ?_ ?_) <;> clear h <;> intro hc h)
 | (obtain ⟨y, hy, h⟩ := h; (first | (with_reducible first | have hw := W_f hy | have hw := W_1u hy | have hw := W_8 hy) | have hw := acall_swe 1000 3 (W_1v hy) | have hw := W_at (f := GMember.v) (e4 := fun e => (e.Time, e.Kind, e.Principal, e.Group)) (fun _ => rfl) hy | have hw := acall_swe 1900 38 (W_w hy)); replace hw := tY hw; (first | refine M.sC hw ?_ | refine M.sD hw ?_); clear hw hy; refine tB ?_)
 | (refine M.for1 (b := mc_37) 40 [2,7,28,29,30,38,39] [38] (fun x => []) (fun x => []) [] h ?_ ?_ ?_ <;> first
 | (clear h; intro k a x Qn K hK1 hkN1 ha1 h hf; have hl := fact_int (factsE_find (n := 39) hf.1 rfl); clear hf; have hkd := kD hkN1; have hkB1 := kB hkN1; have hkI1 := kI (k := k) (by omega); unfold F_37 at h; unfold mc_37; replace h := tY h; refine tK ha1 hkd hkN1 hkB1 hkI1 ?_)
  |(clear h; intro x K h; replace h := And.left (And.intro h trivial); unfold mc_37; replace h := tY h; refine tB ?_)
  |(clear h; (try refine tB ?_); exact tU0; done))
 | (refine M.for1 (b := mc_38) 30 [2,7,28,29] [] (fun x => []) (fun x => []) [] h ?_ ?_ ?_ <;> first
 | (clear h; intro k a x Qn K hK2 hkN2 ha2 h hf; have hl := fact_int (factsE_find (n := 29) hf.1 rfl); clear hf; have hkd := kD hkN2; have hkB2 := kB hkN2; have hkI2 := kI (k := k) (by omega); unfold F_38 at h; unfold mc_38; replace h := tY h; refine tK ha2 hkd hkN2 hkB2 hkI2 ?_)
  |(clear h; intro x K h; replace h := And.left (And.intro h trivial); unfold mc_38; replace h := tY h; refine tB ?_)
  |(clear h; (try refine tB ?_); exact tU0; done))
 | (first | simp only [ha1] | simp only [ha2])
 | ((first | refine hK1 _ ?_ | refine hK2 _ ?_); (try refine tB ?_); refine ⟨_, h, ?_⟩; exact tU0; done)
 | (refine tE ?_; (first | rw [M.lok_compU] | rw [M.lokD_compU]); refine tB ?_)
 | (refine tA ?_))
def W_1w {d_ t_ set_ y} (hy : (F_1w d_ t_ set_) = some y) := acW (Wq_1w d_ t_ set_) hy
def F_11 (q_ : Int) (p_ : List Int) : Option Bool :=
 (F_8 p_ q_).bind fun y2 => some y2
def mc_11 : MC :=
 (.seq (.reg [mo (.mv (.c (.bool false))) 3])
 (.seq (.reg [mo (.ld none (.t 1)) 4,
 mo (.mv (.t 0)) 5,
 mo (.call (.f 47) [(.t 4),(.t 5)] [] []) 6,
 mo (.mv (.t 6)) 3])
 .ret))
theorem Wq_11 (q_ : Int) (p_ : List Int) {Q : Bool → Prop} {Q' : V → Heap → Prop} (h : Ok (F_11 q_ p_) Q) (hQ : ∀ z, Q z → Q' (.bool z) [(1000, .cells [.sl (p_.map (V.int .i64))])]) : ACall Tryz.prog 50 [.int .i64 q_, .ptr 1000 0] [(1000, .cells [.sl (p_.map (V.int .i64))])] Q' := by
 refine acallM mc_11 [] [1000] [.t 3] Tryz.func50 fun M => ?_
 unfold F_11 at h
 unfold mc_11
 replace h := tY h
 refine tB ?_
 repeat' (first
 | (exact tZ)
 | ((first | refine oblg h ?_ | refine roomG h ?_ | refine fork h ?_ ?_ | refine forkS h ?_ ?_) <;> clear h <;> intro hc h)
 | (obtain ⟨y, hy, h⟩ := h; have hw := W_8 hy; replace hw := tY hw; (first | refine M.sC hw ?_ | refine M.sD hw ?_); clear hw hy; refine tB ?_)
 | (refine tE ?_; (first | rw [M.lok_compU] | rw [M.lokD_compU]); refine tB ?_)
 | (refine tA ?_))
def W_11 {q_ p_ y} (hy : (F_11 q_ p_) = some y) := acW (Wq_11 q_ p_) hy
def F_39 (fc0_ : List Int) (k31 : Int) (a32 : Int) (x30 : Unit) : Option (Fl Unit Int) :=
 (F_11 a32 fc0_).bind fun y40 => bif y40 then some (.ex k31) else some (.nx ())
def F_29 (s_ : List Int) (fc0_ : List Int) : Option Int :=
 (forL (F_39 fc0_) s_ 0 ()).bind fun o => o.elim (fun x41 => some (-1)) (fun r42 => some r42)
@[irreducible] def mc_39 : MC :=
 (.seq (.reg [mo (.bin false .lss (.t 8) (.t 7)) 9])
 (.seq (.cond (.t 9)
 .skip
 (.exit 0))
 (.seq (.block 1
 (.seq (.reg [mo (.mv (.t 8)) 10,
 mo (.mv (.t 10)) 5])
 (.seq (.reg [mo (.mv (.t 1)) 11,
 mo (.mv (.t 0)) 12,
 mo (.mv (.t 5)) 13,
 mo (.iad 1 (.t 12) (.t 13)) 14,
 mo (.ld none (.t 14)) 15,
 mo (.call (.t 11) [(.t 15)] [1000] []) 16])
 (.cond (.t 16)
 (.seq (.reg [mo (.mv (.t 5)) 17,
 mo (.mv (.t 17)) 4])
 .ret)
 .skip))))
 (.reg [mo (.bin true .add (.t 8) (.c (.int .i64 1))) 18,
 mo (.mv (.t 18)) 8]))))
def mc_29 : MC :=
 (.seq (.reg [mo (.mv (.c (.int .i64 0))) 4])
 (.seq (.seq (.reg [mo (.mv (.t 0)) 6,
 mo (.len false (.t 6)) 7,
 mo (.mv (.c (.int .i64 0))) 8])
 (.block 0
 (.loop mc_39)))
 (.seq (.reg [mo (.mv (.c (.int .i64 (-1)))) 4])
 .ret)))
theorem Wq_29 (s_ : List Int) (fc0_ : List Int) {Q : Int → Prop} {Q' : V → Heap → Prop} (h : Ok (F_29 s_ fc0_) Q) (hQ : ∀ z, Q z → Q' (.int .i64 z) [(1000, .cells [.sl (fc0_.map (V.int .i64))])]) : ACall Tryz.prog 79 [.sl (s_.map (V.int .i64)), .fn (.func 50) [.ptr 1000 0]] [(1000, .cells [.sl (fc0_.map (V.int .i64))])] Q' := by
 refine acallM mc_29 [] [1000] [.t 4] Tryz.func79 fun M => ?_
 unfold F_29 at h
 unfold mc_29
 replace h := tY h
 refine tB ?_
 repeat' (first
 | (exact tZ)
 | ((first | refine oblg h ?_ | refine roomG h ?_ | refine fork h ?_ ?_ | refine forkS h ?_ ?_) <;> clear h <;> intro hc h)
 | (obtain ⟨y, hy, h⟩ := h; have hw := W_11 hy; replace hw := tY hw; (first | refine M.sC hw ?_ | refine M.sD hw ?_); clear hw hy; refine tB ?_)
 | (refine M.for1 (b := mc_39) 8 [0,1,7] [1000] (fun x => []) (fun x => []) [] h ?_ ?_ ?_ <;> first
 | (clear h; intro k a x Qn K hK1 hkN1 ha1 h hf; have hl := fact_int (factsE_find (n := 7) hf.1 rfl); clear hf; have hkd := kD hkN1; have hkB1 := kB hkN1; have hkI1 := kI (k := k) (by omega); unfold F_39 at h; unfold mc_39; replace h := tY h; refine tK ha1 hkd hkN1 hkB1 hkI1 ?_)
  |(clear h; intro x K h; replace h := And.left (And.intro h trivial); unfold mc_39; replace h := tY h; refine tB ?_)
  |(clear h; (try refine tB ?_); exact tU0; done))
 | (simp only [ha1])
 | (refine hK1 _ ?_; (try refine tB ?_); refine ⟨_, h, ?_⟩; exact tU0; done)
 | (refine tE ?_; (first | rw [M.lok_compU] | rw [M.lokD_compU]); refine tB ?_)
 | (refine tA ?_))
def W_29 {s_ fc0_ y} (hy : (F_29 s_ fc0_) = some y) := acW (Wq_29 s_ fc0_) hy
def F_1x (s_ : List Int) (fc0_ : List Int) : Option Bool :=
 (F_29 s_ fc0_).bind fun y2 => some (decide (0 ≤ y2))
def mc_1x : MC :=
 (.seq (.reg [mo (.mv (.c (.bool false))) 4])
 (.seq (.reg [mo (.mv (.t 0)) 5,
 mo (.mv (.t 1)) 6,
 mo (.call (.f 79) [(.t 5),(.t 6)] [1000] []) 7,
 mo (.bin false .geq (.t 7) (.c (.int .i64 0))) 8,
 mo (.mv (.t 8)) 4])
 .ret))
theorem Wq_1x (s_ : List Int) (fc0_ : List Int) {Q : Bool → Prop} {Q' : V → Heap → Prop} (h : Ok (F_1x s_ fc0_) Q) (hQ : ∀ z, Q z → Q' (.bool z) [(1000, .cells [.sl (fc0_.map (V.int .i64))])]) : ACall Tryz.prog 48 [.sl (s_.map (V.int .i64)), .fn (.func 50) [.ptr 1000 0]] [(1000, .cells [.sl (fc0_.map (V.int .i64))])] Q' := by
 refine acallM mc_1x [] [1000] [.t 4] Tryz.func48 fun M => ?_
 unfold F_1x at h
 unfold mc_1x
 replace h := tY h
 refine tB ?_
 repeat' (first
 | (exact tZ)
 | ((first | refine oblg h ?_ | refine roomG h ?_ | refine fork h ?_ ?_ | refine forkS h ?_ ?_) <;> clear h <;> intro hc h)
 | (obtain ⟨y, hy, h⟩ := h; have hw := W_29 hy; replace hw := tY hw; (first | refine M.sC hw ?_ | refine M.sD hw ?_); clear hw hy; refine tB ?_)
 | (refine tE ?_; (first | rw [M.lok_compU] | rw [M.lokD_compU]); refine tB ?_)
 | (refine tA ?_))
def W_1x {s_ fc0_ y} (hy : (F_1x s_ fc0_) = some y) := acW (Wq_1x s_ fc0_) hy
noncomputable def F_1e (d_ : GDirectory) (a_ : GEstate) (p_ : Int) (place_ : Int) (t_ : Int) (set_ : List Int) : Option Bool :=
 (F_h d_ a_ p_ place_).bind fun y10 => bif (!y10) then some false else (F_1w d_ t_ set_).bind fun y11 => bif (!y11) then some false else (F_8 set_ p_).bind fun y12 => bif (!y12) then some false else (F_7 a_ place_ t_).bind fun y14 => jn (α := Bool) (bif (!y14.2) then (F_m a_ place_ t_).bind fun y20 => (F_1x y20 set_).bind fun y21 => some (!y21) else some false) fun j22 => some j22
@[irreducible] def mg_11 : List MOp := [⟨.ld (some 2) (.t 7), (some 44), (some (43, true))⟩,
 ⟨.mv (.t 3), (some 45), (some (43, true))⟩,
 ⟨.mv (.t 4), (some 46), (some (43, true))⟩,
 ⟨.call (.f 49) [(.t 44),(.t 45),(.t 46)] [] [], (some 47), (some (43, true))⟩,
 ⟨.mkfn 50 [(.t 11)], (some 48), (some (43, true))⟩,
 ⟨.call (.f 48) [(.t 47),(.t 48)] [11] [], (some 49), (some (43, true))⟩,
 ⟨.not (.t 49), (some 50), (some (43, true))⟩,
 mo (.pick (.t 43) (.t 50) (.c (.bool false))) 51]
def mc_1e : MC :=
 (.seq (.reg [mo (.box (.t 0)) 6,
 mo (.box (.t 1)) 7,
 mo (.box (.t 5)) 11,
 mo (.mv (.c (.bool false))) 12])
 (.seq (.seq (.reg [mo (.ld (some 2) (.t 6)) 15,
 mo (.ld (some 2) (.t 7)) 16,
 mo (.mv (.t 2)) 17,
 mo (.mv (.t 3)) 18,
 mo (.call (.f 37) [(.t 15),(.t 16),(.t 17),(.t 18)] [] []) 19,
 mo (.not (.t 19)) 20,
 mo (.mv (.t 20)) 21,
 ⟨.ld (some 2) (.t 6), (some 22), (some (21, false))⟩,
 ⟨.mv (.t 4), (some 23), (some (21, false))⟩,
 ⟨.ld none (.t 11), (some 24), (some (21, false))⟩,
 ⟨.call (.f 46) [(.t 22),(.t 23),(.t 24)] [] [], (some 25), (some (21, false))⟩,
 ⟨.not (.t 25), (some 26), (some (21, false))⟩,
 mo (.pick (.t 21) (.c (.bool true)) (.t 26)) 27,
 mo (.mv (.t 27)) 28,
 ⟨.ld none (.t 11), (some 29), (some (28, false))⟩,
 ⟨.mv (.t 2), (some 30), (some (28, false))⟩,
 ⟨.call (.f 47) [(.t 29),(.t 30)] [] [], (some 31), (some (28, false))⟩,
 ⟨.not (.t 31), (some 32), (some (28, false))⟩,
 mo (.pick (.t 28) (.c (.bool true)) (.t 32)) 33])
 (.cond (.t 33)
 (.seq (.reg [mo (.mv (.c (.bool false))) 12])
 .ret)
 .skip))
 (.seq (.note (.gc [3,4,7,11,44,45,46,47,48,49,50]) (.reg [mo (.ld (some 2) (.t 7)) 35,
 mo (.mv (.t 3)) 36,
 mo (.mv (.t 4)) 37,
 mo (.call (.f 32) [(.t 35),(.t 36),(.t 37)] [] []) 38,
 mo (.mv (.t 38)) 34,
 mo (.ext 0 (.t 34)) 39,
 mo (.ext 1 (.t 34)) 40,
 mo (.mv (.t 39)) 13,
 mo (.mv (.t 40)) 14]))
 (.seq (.note (.gc [3,4,7,11,14,44,45,46,47,48,49,50]) (.regI [.op (mo (.mv (.t 14)) 41),
 .op (mo (.not (.t 41)) 42),
 .op (mo (.mv (.t 42)) 43),
 .grp mg_11,
 .op (mo (.mv (.t 51)) 12)]))
 .ret))))
theorem Wq_1e (d_ : GDirectory) (a_ : GEstate) (p_ : Int) (place_ : Int) (t_ : Int) (set_ : List Int) {Q : Bool → Prop} {Q' : V → Heap → Prop} (h : Ok (F_1e d_ a_ p_ place_ t_ set_) Q) (hQ : ∀ z, Q z → Q' (.bool z) []) : ACall Tryz.prog 20 [GDirectory.v d_, GEstate.v a_, .int .i64 p_, .int .i64 place_, .int .i64 t_, .sl (set_.map (V.int .i64))] [] Q' := by
 refine acallM mc_1e [] [] [.t 12] Tryz.func20 fun M => ?_
 unfold F_1e at h
 unfold mc_1e
 replace h := tY h
 refine tB ?_
 repeat' (first
 | (exact tZ)
 | ((first | refine oblg h ?_ | refine roomG h ?_ | refine fork h ?_ ?_ | refine forkS h ?_ ?_) <;> clear h <;> intro hc h)
 | (obtain ⟨y, hy, h⟩ := h; (first | (with_reducible first | have hw := W_h hy | have hw := W_1w hy | have hw := W_8 hy | have hw := W_7 hy | have hw := W_m hy) | have hw := acall_swe 1000 11 (W_1x hy)); replace hw := tY hw; (first | refine M.sC hw ?_ | refine M.sD hw ?_); clear hw hy; refine tB ?_)
 | (refine M.gj1 (ms := mg_11) [] [] (fun y => [(51, .bool y)]) (fun y => []) h ?_ ?_ <;> first
 | (clear h; intro Qn K hK1 h; unfold mg_11; replace h := tY h; refine tB ?_)
  |(clear h; intro y h; replace h := tY h; refine tB ?_))
 | (refine hK1 _ ?_; (try refine tB ?_); refine ⟨_, h, ?_⟩; exact tU0; done)
 | (refine tE ?_; (first | rw [M.lok_compU] | rw [M.lokD_compU]); refine tB ?_)
 | (refine tA ?_))
def W_1e {d_ a_ p_ place_ t_ set_ y} (hy : (F_1e d_ a_ p_ place_ t_ set_) = some y) := acW (Wq_1e d_ a_ p_ place_ t_ set_) hy
end Go.Ab
